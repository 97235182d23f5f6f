/- The code that the statement reaches as plain programs, and what they compute. -/
import Derived.Test.YtdfbifjpedjljaaGreatAbC
import Derived.Test.YtdfbifjpedjljaaGreatPuA
set_option linter.unusedVariables false
set_option linter.unusedSimpArgs false
section
namespace Go.Ab
set_option maxRecDepth 100000
noncomputable section
structure Crop where
 n_:ByteArray
 f_:Int
 m_:Int
 deriving DecidableEq
instance:Emb Crop:=⟨fun x=>[.str x.n_,.int .i64 x.f_,.int .i64 x.m_],3,⟨ByteArray.empty,0,0⟩,fun _=>rfl⟩
instance:Emb Rect:=⟨fun x=>[.int .i64 x.L_,.int .i64 x.w_,.int .i64 x.R_,.int .i64 x.H_],4,⟨0,0,0,0⟩,fun _=>rfl⟩
structure Re_ where
 t_:(List Rect)
 deriving DecidableEq
instance:Emb Re_:=⟨fun x=>[DL x.t_],1,⟨[]⟩,fun _=>rfl⟩
structure Rg_ where
 y_:Int
 c_:Int
 g_:Re_
 deriving DecidableEq
instance:Emb Rg_:=⟨fun x=>[.int .i64 x.y_,.int .i64 x.c_,DL x.g_.t_],3,⟨0,0,⟨[]⟩⟩,fun _=>rfl⟩
structure A2_ where
 e0_:Int
 e1_:Int
 deriving DecidableEq
instance:Emb A2_:=⟨fun x=>[.int .i64 x.e0_,.int .i64 x.e1_],2,⟨0,0⟩,fun _=>rfl⟩
structure Line where
 p_:Int
 g_:Re_
 c_:Int
 s_:Int
 deriving DecidableEq
instance:Emb Line:=⟨fun x=>[.int .i64 x.p_,DL x.g_.t_,.int .i64 x.c_,.int .i64 x.s_],4,⟨0,⟨[]⟩,0,0⟩,fun _=>rfl⟩
structure Tape where
 l_:(List Int)
 at_:Int
 deriving DecidableEq
instance:Emb Tape:=⟨fun x=>[DL x.l_,.int .i64 x.at_],2,⟨[],0⟩,fun _=>rfl⟩
instance:Emb Span:=⟨fun x=>[.int .i64 x.L_,.int .i64 x.R_],2,⟨0,0⟩,fun _=>rfl⟩
structure Band where
 w_:Int
 H_:Int
 spans_:(List Span)
 deriving DecidableEq
instance:Emb Band:=⟨fun x=>[.int .i64 x.w_,.int .i64 x.H_,DL x.spans_],3,⟨0,0,[]⟩,fun _=>rfl⟩
def Q6T (q:Rect→Option Bool):List AVal→AVal→Prop:=fun args r=>∃ x0 y,q x0=some y∧args=[gE x0]∧r=vb y
def Z0Z (q:Span→Span→Option Int):List AVal→AVal→Prop:=fun args r=>∃ x0 x1 y,q x0 x1=some y∧args=[gE x0,gE x1]∧r=vi y
def Q5F (q:Int→Option (List Span)):List AVal→AVal→Prop:=fun args r=>∃ x0 y,q x0=some y∧args=[vi x0]∧r=AL y
def Q4s (q:Rg_→Option Bool):List AVal→AVal→Prop:=fun args r=>∃ x0 y,q x0=some y∧args=[gE x0]∧r=vb y
def Q6S (q:Span→Option Bool):List AVal→AVal→Prop:=fun args r=>∃ x0 y,q x0=some y∧args=[gE x0]∧r=vb y
def V7 (q:Bool→Bool→Option Bool):List AVal→AVal→Prop:=fun args r=>∃ x0 x1 y,q x0 x1=some y∧args=[vb x0,vb x1]∧r=vb y
def Q7W (q:Int→Option Bool):List AVal→AVal→Prop:=fun args r=>∃ x0 y,q x0=some y∧args=[vi x0]∧r=vb y
def Q5c (F:Nat):Option (Int):=
 some (-1:Int)
def V2 (F:Nat) (x1:(List Rect)) (x2:Rect→Option Bool) (b:(Int)→Option (Int)) (a:Int):Option (Int):=
 br (decide (a<((List.length x1:Nat):Int))) (gd (0≤a∧a<((List.length x1:Nat):Int)) <|
 (x2 (gl x1 a.toNat)).bind fun c=>
 br c (some a) (gd (I64 (a+1)) <|
 b (a+1))) (Q5c F)
def Q1u (F:Nat) (x1:(List Rect)) (x2:Rect→Option Bool):Option (Int):=
 Z4 (fun again (z:Int)=>V2 F x1 x2 again z) F (0:Int)
def V9 (F:Nat) (a:(List Rect)) (b:Rect→Option Bool):Option (Bool):=
 (Q1u F a b).bind fun c=>
 some (decide ((0:Int)≤c))
def V5 (F:Nat) (a:Bool):Option (Bool):=
 some a
def Q5d (F:Nat) (a:Rect):Option (Bool):=
 br (decide ((0:Int)≤a.L_)) (br (decide (a.L_<a.R_)) (br (decide (a.R_≤16384)) (br (decide ((0:Int)≤a.w_)) (br (decide (a.w_<a.H_)) (V5 F (decide (a.H_≤16384))) (V5 F false)) (V5 F false)) (V5 F false)) (V5 F false)) (V5 F false)
def Q6g (F:Nat) (a:Rect):Option (Bool):=
 (Q5d F a).bind fun b=>
 some (!b)
def Q1w (F:Nat) (a:Int) (b:(Int×Int×(List Int))→Option ((List Int))) (c:Int) (d:(List Int)):Option ((List Int)):=
 gd (I64 (a+1)) <|
 b (c,(a+1),d)
def Q3u (F:Nat) (a:Int) (b:(List Int)):Option ((List Int)):=
 gd (0≤a∧a≤(((List.length b):Nat):Int)∧((0:Nat):Int)+(((List.length b):Nat):Int)≤((List.length b:Nat):Int)) <|
 gd (0≤a∧a≤((List.length (clr b (0+(a).toNat) ((List.length b)-(a).toNat)):Nat):Int)) <|
 some ((clr b (0+(a).toNat) ((List.length b)-(a).toNat)).take (a).toNat)
def Q6Y (F:Nat) (e:(List Int)) (c:Int) (i:(Int×Int×(List Int))→Option ((List Int))) (d:Int) (a:Int) (b:(List Int)):Option ((List Int)):=
 br (decide (a<((((List.length e)-(c).toNat):Nat):Int))) (gd (0≤a∧a<((((List.length e)-(c).toNat):Nat):Int)) <|
 gd (((0+(c).toNat)+(a).toNat)<List.length b) <|
 gd (I64 (a-1)) <|
 gd (0≤(a-1)∧(a-1)<((((List.length e)-(c).toNat):Nat):Int)) <|
 gd (((0+(c).toNat)+((a-1)).toNat)<List.length b) <|
 br ((gl b ((0+(c).toNat)+(a).toNat)) != (gl b ((0+(c).toNat)+((a-1)).toNat))) (gd (0≤a∧a<((((List.length e)-(c).toNat):Nat):Int)) <|
 gd (((0+(c).toNat)+(a).toNat)<List.length b) <|
 gd (0≤d∧d<((List.length b:Nat):Int)) <|
 gd (I64 (d+1)) <|
 Q1w F a i (d+1) (List.set b d.toNat (gl b ((0+(c).toNat)+(a).toNat)))) (Q1w F a i d b)) (Q3u F d b)
def Q3t (F:Nat) (a:Int) (b:(Int)→Option ((List Int))):Option ((List Int)):=
 gd (I64 (a+1)) <|
 b (a+1)
def Q3s (F:Nat) (a:(List Int)):Option ((List Int)):=
 some a
def Q6Z (F:Nat) (b:(List Int)) (c:(Int)→Option ((List Int))) (a:Int):Option ((List Int)):=
 br (decide (a<((List.length b:Nat):Int))) (gd (0≤a∧a<((List.length b:Nat):Int)) <|
 gd (I64 (a-1)) <|
 gd (0≤(a-1)∧(a-1)<((List.length b:Nat):Int)) <|
 br ((gl b a.toNat)==(gl b (a-1).toNat)) (gd (0≤a∧a≤(((List.length b):Nat):Int)∧((0:Nat):Int)+(((List.length b):Nat):Int)≤((List.length b:Nat):Int)) <|
 Z4 (fun again (z:Int×Int×(List Int))=>Q6Y F b a again z.1 z.2.1 z.2.2) F (a,(1:Int),b)) (Q3t F a c)) (Q3s F b)
def Q0p (F:Nat) (a:(List Int)):Option ((List Int)):=
 br (decide (((List.length a:Nat):Int)<(2:Int))) (some a) (Z4 (fun again (z:Int)=>Q6Z F a again z) F (1:Int))
def Q8O (F:Nat) (a:Int) (b:(Int×(List Int))→Option ((List Int))) (c:(List Int)):Option ((List Int)):=
 gd (I64 (a+1)) <|
 b ((a+1),c)
def Q8P (F:Nat) (c:(List (List Rect))) (b:Int) (e:(Int×(List Int))→Option ((List Int))) (i:(Int×(List Int))→Option ((List Int))) (a:Int) (d:(List Int)):Option ((List Int)):=
 br (decide (a<((List.length (gl c b.toNat):Nat):Int))) (gd (0≤a∧a<((List.length (gl c b.toNat):Nat):Int)) <|
 gd ((List.length d)+(List.length ([(gl (gl c b.toNat) a.toNat).w_,(gl (gl c b.toNat) a.toNat).H_]:List Int))≤LIM) <|
 gd (I64 (a+1)) <|
 i ((a+1),(d++([(gl (gl c b.toNat) a.toNat).w_,(gl (gl c b.toNat) a.toNat).H_]:List Int)))) (Q8O F b e d)
def Q8N (F:Nat) (a:(List Int)):Option ((List Int)):=
 (Z3r a).bind fun b=>
 (Q0p F b).bind fun c=>
 some c
def Q8Q (F:Nat) (b:(List (List Rect))) (d:(Int×(List Int))→Option ((List Int))) (a:Int) (c:(List Int)):Option ((List Int)):=
 br (decide (a<((List.length b:Nat):Int))) (gd (0≤a∧a<((List.length b:Nat):Int)) <|
 Z4 (fun again (z:Int×(List Int))=>Q8P F b a d again z.1 z.2) F ((0:Int),c)) (Q8N F c)
def Q5P (F:Nat) (a:(List (List Rect))):Option ((List Int)):=
 Z4 (fun again (z:Int×(List Int))=>Q8Q F a again z.1 z.2) F ((0:Int),([]:List Int))
def Q5t (F:Nat) (a:Int):Option (Bool):=
 some (a != a)
def Q0O (F:Nat) (a:Int) (b:Int):Option (Int):=
 (Q5t F a).bind fun d=>
 (Q5t F b).bind fun c=>
 br d (br c (some (0:Int)) (some (-1:Int))) (br c (some (1:Int)) (br (decide (a<b)) (some (-1:Int)) (br (decide (b<a)) (some (1:Int)) (some (0:Int)))))
def Q6h (F:Nat) (a:Span) (b:Span):Option (Int):=
 (Q0O F a.L_ b.L_).bind fun c=>
 some c
def Q5f (F:Nat) (a:Int) (b:(Int×(List Span))→Option ((List Span))) (c:(List Span)):Option ((List Span)):=
 gd (I64 (a+1)) <|
 b ((a+1),c)
def Q5g (F:Nat) (b:(List Rect)) (a:Int) (c:(List Span)) (d:(Int×(List Span))→Option ((List Span))) (e:Bool):Option ((List Span)):=
 br e (gd ((List.length c)+(List.length ([(⟨(gl b a.toNat).L_,(gl b a.toNat).R_⟩:Span)]:List Span))≤LIM) <|
 Q5f F a d (c++([(⟨(gl b a.toNat).L_,(gl b a.toNat).R_⟩:Span)]:List Span))) (Q5f F a d c)
def Q5e (F:Nat) (a:Int) (b:(Int×(List Span))→Option ((List Span))) (c:(List Span)):Option ((List Span)):=
 gd (I64 (a+1)) <|
 b ((a+1),c)
def Q3k (F:Nat) (c:(List Span)) (b:Int) (a:(List Span)) (d:(Int×(List Span))→Option ((List Span))) (e:Bool):Option ((List Span)):=
 br e (gd (I64 (((List.length a:Nat):Int)-(1:Int))) <|
 gd (I64 (((List.length a:Nat):Int)-(1:Int))) <|
 gd (0≤(((List.length a:Nat):Int)-(1:Int))∧(((List.length a:Nat):Int)-(1:Int))<((List.length a:Nat):Int)) <|
 gd (0≤(((List.length a:Nat):Int)-(1:Int))∧(((List.length a:Nat):Int)-(1:Int))<((List.length a:Nat):Int)) <|
 Q5e F b d (List.set a (((List.length a:Nat):Int)-(1:Int)).toNat (⟨(gl a (((List.length a:Nat):Int)-(1:Int)).toNat).L_,(Q8n ((gl a (((List.length a:Nat):Int)-(1:Int)).toNat).R_) ((gl c b.toNat).R_))⟩:Span))) (gd ((List.length a)+(List.length ([(gl c b.toNat)]:List Span))≤LIM) <|
 Q5e F b d (a++([(gl c b.toNat)]:List Span)))
def Q9P (F:Nat) (a:(List Span)):Option ((List Span)):=
 some a
def Q9Q (F:Nat) (c:(List Span)) (d:(Int×(List Span))→Option ((List Span))) (b:Int) (a:(List Span)):Option ((List Span)):=
 br (decide (b<((List.length c:Nat):Int))) (gd (0≤b∧b<((List.length c:Nat):Int)) <|
 br (decide ((0:Int)<((List.length a:Nat):Int))) (gd (I64 (((List.length a:Nat):Int)-(1:Int))) <|
 gd (0≤(((List.length a:Nat):Int)-(1:Int))∧(((List.length a:Nat):Int)-(1:Int))<((List.length a:Nat):Int)) <|
 Q3k F c b a d (decide (((gl c b.toNat).L_)≤((gl a (((List.length a:Nat):Int)-(1:Int)).toNat).R_)))) (Q3k F c b a d false)) (Q9P F a)
def Q7A (F:Nat) (a:(List Span)):Option ((List Span)):=
 (Z5H a (fun y0 y1=>Q6h F y0 y1)).bind fun b=>
 Z4 (fun again (z:Int×(List Span))=>Q9Q F b again z.1 z.2) F ((0:Int),([]:List Span))
def Q9R (F:Nat) (b:(List Rect)) (e:Int) (d:(Int×(List Span))→Option ((List Span))) (a:Int) (c:(List Span)):Option ((List Span)):=
 br (decide (a<((List.length b:Nat):Int))) (gd (0≤a∧a<((List.length b:Nat):Int)) <|
 br (decide (((gl b a.toNat).w_)≤e)) (Q5g F b a c d (decide (e<((gl b a.toNat).H_)))) (Q5g F b a c d false)) (Q7A F c)
def Q5H (F:Nat) (a:(List Rect)) (b:Int):Option ((List Span)):=
 Z4 (fun again (z:Int×(List Span))=>Q9R F a b again z.1 z.2) F ((0:Int),([]:List Span))
def Q2P (F:Nat) (a:Int) (b:(List Rect)):Option ((List Span)):=
 (Q5H F b a).bind fun c=>
 some c
def Q7J (F:Nat):Option (Bool):=
 some true
def Q7K (F:Nat) (b:(List Span)) (c:(List Span)) (d:(Int)→Option (Bool)) (a:Int):Option (Bool):=
 br (decide (a<((List.length b:Nat):Int))) (gd (0≤a∧a<((List.length b:Nat):Int)) <|
 gd (0≤a∧a<((List.length c:Nat):Int)) <|
 br (!((((gl b a.toNat).L_)==((gl c a.toNat).L_))&&((((gl b a.toNat).R_)==((gl c a.toNat).R_))&&true))) (some false) (gd (I64 (a+1)) <|
 d (a+1))) (Q7J F)
def Q1B (F:Nat) (a:(List Span)) (b:(List Span)):Option (Bool):=
 br (((List.length a:Nat):Int) != ((List.length b:Nat):Int)) (some false) (Z4 (fun again (z:Int)=>Q7K F a b again z) F (0:Int))
def Q8b (F:Nat) (a:Int) (b:(Int×(List Rect))→Option ((List Rect))) (c:(List Rect)):Option ((List Rect)):=
 gd (I64 (a+1)) <|
 b ((a+1),c)
def Q8c (F:Nat) (b:(List Band)) (a:Int) (e:(Int×(List Rect))→Option ((List Rect))) (i:(Int×(List Rect))→Option ((List Rect))) (c:Int) (d:(List Rect)):Option ((List Rect)):=
 br (decide (c<((List.length ((gl b a.toNat).spans_):Nat):Int))) (gd (0≤c∧c<((List.length ((gl b a.toNat).spans_):Nat):Int)) <|
 gd ((List.length d)+(List.length ([(⟨(gl ((gl b a.toNat).spans_) c.toNat).L_,(gl b a.toNat).w_,(gl ((gl b a.toNat).spans_) c.toNat).R_,(gl b a.toNat).H_⟩:Rect)]:List Rect))≤LIM) <|
 gd (I64 (c+1)) <|
 i ((c+1),(d++([(⟨(gl ((gl b a.toNat).spans_) c.toNat).L_,(gl b a.toNat).w_,(gl ((gl b a.toNat).spans_) c.toNat).R_,(gl b a.toNat).H_⟩:Rect)]:List Rect)))) (Q8b F a e d)
def Q8a (F:Nat) (a:(List Rect)):Option ((List Rect)):=
 some a
def Q8d (F:Nat) (b:(List Band)) (d:(Int×(List Rect))→Option ((List Rect))) (a:Int) (c:(List Rect)):Option ((List Rect)):=
 br (decide (a<((List.length b:Nat):Int))) (gd (0≤a∧a<((List.length b:Nat):Int)) <|
 Z4 (fun again (z:Int×(List Rect))=>Q8c F b a d again z.1 z.2) F ((0:Int),c)) (Q8a F c)
def Q6e (F:Nat) (a:(List Band)):Option ((List Rect)):=
 Z4 (fun again (z:Int×(List Rect))=>Q8d F a again z.1 z.2) F ((0:Int),([]:List Rect))
def Q3a (F:Nat) (a:Int) (b:(Int×(List Band))→Option ((List Rect))) (c:(List Band)):Option ((List Rect)):=
 gd (I64 (a+1)) <|
 b ((a+1),c)
def Q0M (F:Nat) (c:(List Int)) (b:Int) (a:(List Band)) (e:(List Span)) (d:(Int×(List Band))→Option ((List Rect))) (i:Bool):Option ((List Rect)):=
 br i (gd (I64 (((List.length a:Nat):Int)-(1:Int))) <|
 gd (0≤(((List.length a:Nat):Int)-(1:Int))∧(((List.length a:Nat):Int)-(1:Int))<((List.length a:Nat):Int)) <|
 Q3a F b d (List.set a (((List.length a:Nat):Int)-(1:Int)).toNat (⟨(gl a (((List.length a:Nat):Int)-(1:Int)).toNat).w_,(gl c b.toNat),(gl a (((List.length a:Nat):Int)-(1:Int)).toNat).spans_⟩:Band))) (gd ((List.length a)+(List.length ([(⟨(gl c (b-1).toNat),(gl c b.toNat),e⟩:Band)]:List Band))≤LIM) <|
 Q3a F b d (a++([(⟨(gl c (b-1).toNat),(gl c b.toNat),e⟩:Band)]:List Band)))
def Q5A (F:Nat) (a:(List Band)):Option ((List Rect)):=
 (Q6e F a).bind fun b=>
 some b
def Z1s (F:Nat) (c:(List Int)) (i:Int→Option (List Span)) (e:(Int×(List Band))→Option ((List Rect))) (b:Int) (a:(List Band)):Option ((List Rect)):=
 br (decide (b<((List.length c:Nat):Int))) (gd (I64 (b-1)) <|
 gd (0≤(b-1)∧(b-1)<((List.length c:Nat):Int)) <|
 gd (0≤b∧b<((List.length c:Nat):Int)) <|
 gd (I64 (b-1)) <|
 gd (0≤(b-1)∧(b-1)<((List.length c:Nat):Int)) <|
 (i (gl c (b-1).toNat)).bind fun d=>
 br (decide ((0:Int)<((List.length a:Nat):Int))) (gd (I64 (((List.length a:Nat):Int)-(1:Int))) <|
 gd (0≤(((List.length a:Nat):Int)-(1:Int))∧(((List.length a:Nat):Int)-(1:Int))<((List.length a:Nat):Int)) <|
 br (((gl a (((List.length a:Nat):Int)-(1:Int)).toNat).H_)==(gl c (b-1).toNat)) (gd (I64 (((List.length a:Nat):Int)-(1:Int))) <|
 gd (0≤(((List.length a:Nat):Int)-(1:Int))∧(((List.length a:Nat):Int)-(1:Int))<((List.length a:Nat):Int)) <|
 (Q1B F ((gl a (((List.length a:Nat):Int)-(1:Int)).toNat).spans_) d).bind fun j=>
 Q0M F c b a d e j) (Q0M F c b a d e false)) (Q0M F c b a d e false)) (Q5A F a)
def Q4w (F:Nat) (a:(List Int)) (b:Int→Option (List Span)):Option ((List Rect)):=
 Z4 (fun again (z:Int×(List Band))=>Z1s F a b again z.1 z.2) F ((1:Int),([]:List Band))
def Q1g (F:Nat) (a:(List Rect)):Option ((List Rect)):=
 (Q5P F ([a]:List (List Rect))).bind fun b=>
 (Q4w F b (fun y0=>Q2P F y0 a)).bind fun c=>
 some c
def Q7L (F:Nat):Option (Bool):=
 some true
def Q7M (F:Nat) (b:(List Rect)) (c:(List Rect)) (d:(Int)→Option (Bool)) (a:Int):Option (Bool):=
 br (decide (a<((List.length b:Nat):Int))) (gd (0≤a∧a<((List.length b:Nat):Int)) <|
 gd (0≤a∧a<((List.length c:Nat):Int)) <|
 br (!((((gl b a.toNat).L_)==((gl c a.toNat).L_))&&((((gl b a.toNat).w_)==((gl c a.toNat).w_))&&((((gl b a.toNat).R_)==((gl c a.toNat).R_))&&((((gl b a.toNat).H_)==((gl c a.toNat).H_))&&true))))) (some false) (gd (I64 (a+1)) <|
 d (a+1))) (Q7L F)
def Q1C (F:Nat) (a:(List Rect)) (b:(List Rect)):Option (Bool):=
 br (((List.length a:Nat):Int) != ((List.length b:Nat):Int)) (some false) (Z4 (fun again (z:Int)=>Q7M F a b again z) F (0:Int))
def Q5x (F:Nat) (a:Re_) (b:Bool):Option (Bool):=
 br b (some false) ((Q1g F a.t_).bind fun c=>
 (Q1C F c a.t_).bind fun d=>
 some d)
def Q0Y (F:Nat) (a:Re_):Option (Bool):=
 br (decide ((120:Int)<((List.length a.t_:Nat):Int))) (Q5x F a true) ((V9 F a.t_ (fun y0=>Q6g F y0)).bind fun b=>
 Q5x F a b)
def Q3F (F:Nat) (a:Bool):Option (Int):=
 br a (some (7:Int)) (some (0:Int))
def Q1Q (F:Nat) (a:Rg_) (b:Bool):Option (Int):=
 br b (some (13:Int)) (br (((List.length a.g_.t_:Nat):Int)==(0:Int)) (Q3F F true) ((Q0Y F a.g_).bind fun c=>
 Q3F F (!c)))
def Q1R (F:Nat) (a:Rg_) (b:Bool):Option (Int):=
 br b (some (18:Int)) (br (decide (a.c_<0)) (Q1Q F a true) (Q1Q F a (decide ((40:Int)≤a.c_))))
def Q4o (F:Nat) (a:Rg_):Option (Int):=
 br (decide (a.y_<0)) (Q1R F a true) (Q1R F a (decide ((100:Int)<a.y_)))
def Z3F (F:Nat):Option (Int):=
 some (0:Int)
def Q2b (F:Nat) (b:(List Int)) (c:(Int)→Option (Int)) (a:Int):Option (Int):=
 br (decide (a<((List.length b:Nat):Int))) (gd (0≤a∧a<((List.length b:Nat):Int)) <|
 br ((gl b a.toNat) != (0:Int)) (some (gl b a.toNat)) (gd (I64 (a+1)) <|
 c (a+1))) (Z3F F)
def Q9s (F:Nat) (a:(List Int)):Option (Int):=
 Z4 (fun again (z:Int)=>Q2b F a again z) F (0:Int)
def Q3d (F:Nat) (a:Rg_) (b:Rg_):Option (Int):=
 (Q0O F a.y_ b.y_).bind fun c=>
 (Q0O F a.c_ b.c_).bind fun d=>
 (Q9s F ([c,d]:List Int)).bind fun e=>
 some e
def Z0N (F:Nat) (a:(List (Int×(List Rg_)))):Option ((List (Int×(List Rg_)))):=
 some a
def Q1k (F:Nat) (b:(List Rg_)) (d:(Int×(List (Int×(List Rg_))))→Option ((List (Int×(List Rg_))))) (a:Int) (c:(List (Int×(List Rg_)))):Option ((List (Int×(List Rg_)))):=
 br (decide (a<((List.length b:Nat):Int))) (gd (0≤a∧a<((List.length b:Nat):Int)) <|
 gd ((gRow ((gl b a.toNat).y_) c).length+List.length ([(gl b a.toNat)]:List Rg_)≤LIM) <|
 gd (I64 (a+1)) <|
 d ((a+1),(gApp ((gl b a.toNat).y_) ([(gl b a.toNat)]:List Rg_) c))) (Z0N F c)
def Q7F (F:Nat) (a:(List Rg_)):Option ((List (Int×(List Rg_)))):=
 Z4 (fun again (z:Int×(List (Int×(List Rg_))))=>Q1k F a again z.1 z.2) F ((0:Int),([]:List (Int×(List Rg_))))
def q8 (F:Nat) (a:Bool):Option (Bool):=
 some a
def Q3P (F:Nat) (a:Rect) (b:Rect):Option (Bool):=
 br (decide (a.L_<b.R_)) (br (decide (b.L_<a.R_)) (br (decide (a.w_<b.H_)) (q8 F (decide (b.w_<a.H_))) (q8 F false)) (q8 F false)) (q8 F false)
def Q4u (F:Nat) (a:Rect) (b:Rect):Option (Bool):=
 (Q3P F b a).bind fun c=>
 some c
def Q6i (F:Nat) (a:Rect) (b:Re_):Option (Bool):=
 (V9 F b.t_ (fun y0=>Q4u F y0 a)).bind fun c=>
 some c
def Q5y (F:Nat) (a:Bool):Option (Bool):=
 some a
def Q4v (F:Nat) (a:Re_) (b:Re_):Option (Bool):=
 (Q0Y F a).bind fun c=>
 br c ((Q0Y F b).bind fun d=>
 br d ((V9 F a.t_ (fun y0=>Q6i F y0 b)).bind fun e=>
 Q5y F e) (Q5y F false)) (Q5y F false)
def Q5D (F:Nat) (a:Rg_) (b:Rg_):Option (Bool):=
 (Q4v F a.g_ b.g_).bind fun c=>
 some c
def Q3K (F:Nat):Option (Int):=
 some (-1:Int)
def Q3L (F:Nat) (b:(List Rg_)) (d:Rg_→Option Bool) (c:(Int)→Option (Int)) (a:Int):Option (Int):=
 br (decide (a<((List.length b:Nat):Int))) (gd (0≤a∧a<((List.length b:Nat):Int)) <|
 (d (gl b a.toNat)).bind fun e=>
 br e (some a) (gd (I64 (a+1)) <|
 c (a+1))) (Q3K F)
def y6 (F:Nat) (a:(List Rg_)) (b:Rg_→Option Bool):Option (Int):=
 Z4 (fun again (z:Int)=>Q3L F a b again z) F (0:Int)
def U5 (F:Nat) (a:(List Rg_)) (b:Rg_→Option Bool):Option (Bool):=
 (y6 F a b).bind fun c=>
 some (decide ((0:Int)≤c))
def Q2E (F:Nat) (a:Int) (b:(Int)→Option (Int)) (c:Bool):Option (Int):=
 br c (some (3:Int)) (gd (I64 (a+1)) <|
 b (a+1))
def Z0P (F:Nat):Option (Int):=
 some (0:Int)
def Q7w (F:Nat) (b:(Int×(List Rg_))) (e:(List (Int×(List Rg_)))) (c:((List (Int×(List Rg_))))→Option (Int)) (d:(Int)→Option (Int)) (a:Int):Option (Int):=
 br (decide (a<((List.length b.2:Nat):Int))) (gd (0≤a∧a<((List.length b.2:Nat):Int)) <|
 gd (0≤a∧a≤((List.length b.2:Nat):Int)) <|
 (U5 F (b.2.take a.toNat) (fun y0=>Q5D F y0 (gl b.2 a.toNat))).bind fun i=>
 br i (some (11:Int)) (gd (I64 (a+1)) <|
 d (a+1))) (c e)
def Q4L (F:Nat) (a:((List (Int×(List Rg_))))→Option (Int)) (b:(List (Int×(List Rg_)))):Option (Int):=
 nextM b (Z0P F) (fun c d=>
 Z4 (fun again (z:Int)=>Q7w F c d a again z) F (0:Int))
def Q4K (F:Nat) (a:(List Rg_)):Option (Int):=
 (Q7F F a).bind fun b=>
 Z4 (fun again (z:(List (Int×(List Rg_))))=>Q4L F again z) F b
def Z0Q (F:Nat) (b:(List Rg_)) (c:(Int)→Option (Int)) (a:Int):Option (Int):=
 br (decide (a<((List.length b:Nat):Int))) (gd (0≤a∧a<((List.length b:Nat):Int)) <|
 (Q4o F (gl b a.toNat)).bind fun d=>
 br (d != (0:Int)) (some d) (br (decide ((0:Int)<a)) (gd (I64 (a-1)) <|
 gd (0≤(a-1)∧(a-1)<((List.length b:Nat):Int)) <|
 (Q3d F (gl b (a-1).toNat) (gl b a.toNat)).bind fun e=>
 Q2E F a c (decide ((0:Int)≤e))) (Q2E F a c false))) (Q4K F b)
def Q5r (F:Nat) (a:(List Rg_)):Option (Int):=
 br (decide ((200:Int)<((List.length a:Nat):Int))) (some (1:Int)) (Z4 (fun again (z:Int)=>Z0Q F a again z) F (0:Int))
def Q3r (F:Nat) (a:(List Span)):Option ((List Span)):=
 some a
def J6 (F:Nat) (b:(List (List Span))) (d:(Int×(List Span))→Option ((List Span))) (a:Int) (c:(List Span)):Option ((List Span)):=
 br (decide (a<((List.length b:Nat):Int))) (gd (0≤a∧a<((List.length b:Nat):Int)) <|
 gd ((List.length c)+(List.length (gl b a.toNat))≤LIM) <|
 gd (I64 (a+1)) <|
 d ((a+1),(c++(gl b a.toNat)))) (Q3r F c)
def Q1v (F:Nat) (b:(List (List Span))) (a:Int):Option ((List Span)):=
 (Z9F a).bind fun c=>
 Z4 (fun again (z:Int×(List Span))=>J6 F b again z.1 z.2) F ((0:Int),c)
def J7 (F:Nat) (b:(List (List Span))) (d:(Int×Int)→Option ((List Span))) (c:Int) (a:Int):Option ((List Span)):=
 br (decide (a<((List.length b:Nat):Int))) (gd (0≤a∧a<((List.length b:Nat):Int)) <|
 gd (I64 (c+((List.length (gl b a.toNat):Nat):Int))) <|
 br (decide ((c+((List.length (gl b a.toNat):Nat):Int))<0)) (none) (gd (I64 (a+1)) <|
 d ((c+((List.length (gl b a.toNat):Nat):Int)),(a+1)))) (Q1v F b c)
def Q2K (F:Nat) (a:(List (List Span))):Option ((List Span)):=
 Z4 (fun again (z:Int×Int)=>J7 F a again z.1 z.2) F ((0:Int),(0:Int))
def Q2O (F:Nat) (a:Bool):Option (Bool):=
 some a
def z7 (F:Nat) (a:Span) (b:Int):Option (Bool):=
 br (decide (a.L_≤b)) (Q2O F (decide (b<a.R_))) (Q2O F false)
def Q5b (F:Nat):Option (Int):=
 some (-1:Int)
def V8 (F:Nat) (b:(List Span)) (d:Span→Option Bool) (c:(Int)→Option (Int)) (a:Int):Option (Int):=
 br (decide (a<((List.length b:Nat):Int))) (gd (0≤a∧a<((List.length b:Nat):Int)) <|
 (d (gl b a.toNat)).bind fun e=>
 br e (some a) (gd (I64 (a+1)) <|
 c (a+1))) (Q5b F)
def Q1t (F:Nat) (a:(List Span)) (b:Span→Option Bool):Option (Int):=
 Z4 (fun again (z:Int)=>V8 F a b again z) F (0:Int)
def Q0y (F:Nat) (a:(List Span)) (b:Span→Option Bool):Option (Bool):=
 (Q1t F a b).bind fun c=>
 some (decide ((0:Int)≤c))
def Q3j (F:Nat) (a:(List Span)) (b:Int):Option (Bool):=
 (Q0y F a (fun y0=>z7 F y0 b)).bind fun c=>
 some c
def Q1y (F:Nat) (a:Int) (b:(Int×(List Span))→Option ((List Span))) (c:(List Span)):Option ((List Span)):=
 gd (I64 (a+1)) <|
 b ((a+1),c)
def Q2Y (F:Nat) (c:(List Int)) (a:Int) (b:(List Span)) (d:(Int×(List Span))→Option ((List Span))) (e:Bool):Option ((List Span)):=
 br e (gd (I64 (((List.length b:Nat):Int)-(1:Int))) <|
 gd (0≤a∧a<((List.length c:Nat):Int)) <|
 gd (0≤(((List.length b:Nat):Int)-(1:Int))∧(((List.length b:Nat):Int)-(1:Int))<((List.length b:Nat):Int)) <|
 Q1y F a d (List.set b (((List.length b:Nat):Int)-(1:Int)).toNat (⟨(gl b (((List.length b:Nat):Int)-(1:Int)).toNat).L_,(gl c a.toNat)⟩:Span))) (gd (0≤a∧a<((List.length c:Nat):Int)) <|
 gd ((List.length b)+(List.length ([(⟨(gl c (a-1).toNat),(gl c a.toNat)⟩:Span)]:List Span))≤LIM) <|
 Q1y F a d (b++([(⟨(gl c (a-1).toNat),(gl c a.toNat)⟩:Span)]:List Span)))
def Q5v (F:Nat) (a:(List Span)):Option ((List Span)):=
 some a
def Q2Z (F:Nat) (e:(List Span)) (i:(List Span)) (j:Bool→Bool→Option Bool) (c:(List Int)) (d:(Int×(List Span))→Option ((List Span))) (b:Int) (a:(List Span)):Option ((List Span)):=
 br (decide (b<((List.length c:Nat):Int))) (gd (I64 (b-1)) <|
 gd (0≤(b-1)∧(b-1)<((List.length c:Nat):Int)) <|
 (Q3j F e (gl c (b-1).toNat)).bind fun k=>
 (Q3j F i (gl c (b-1).toNat)).bind fun l=>
 (j k l).bind fun m=>
 br (!m) (Q1y F b d a) (br (decide ((0:Int)<((List.length a:Nat):Int))) (gd (I64 (((List.length a:Nat):Int)-(1:Int))) <|
 gd (0≤(((List.length a:Nat):Int)-(1:Int))∧(((List.length a:Nat):Int)-(1:Int))<((List.length a:Nat):Int)) <|
 Q2Y F c b a d (((gl a (((List.length a:Nat):Int)-(1:Int)).toNat).R_)==(gl c (b-1).toNat))) (Q2Y F c b a d false))) (Q5v F a)
def Q8e (F:Nat) (b:(List Span)) (c:(List Span)) (d:Bool→Bool→Option Bool) (a:(List Int)):Option ((List Span)):=
 (Z3r a).bind fun e=>
 (Q0p F e).bind fun i=>
 Z4 (fun again (z:Int×(List Span))=>Q2Z F b c d i again z.1 z.2) F ((1:Int),([]:List Span))
def Q5w (F:Nat) (e:(List Span)) (i:(List Span)) (j:Bool→Bool→Option Bool) (b:(List Span)) (d:(Int×(List Int))→Option ((List Span))) (a:Int) (c:(List Int)):Option ((List Span)):=
 br (decide (a<((List.length b:Nat):Int))) (gd (0≤a∧a<((List.length b:Nat):Int)) <|
 gd ((List.length c)+(List.length ([(gl b a.toNat).L_,(gl b a.toNat).R_]:List Int))≤LIM) <|
 gd (I64 (a+1)) <|
 d ((a+1),(c++([(gl b a.toNat).L_,(gl b a.toNat).R_]:List Int)))) (Q8e F e i j c)
def Q6f (F:Nat) (a:(List Span)) (b:(List Span)) (c:Bool→Bool→Option Bool):Option ((List Span)):=
 (Q2K F ([a,b]:List (List Span))).bind fun d=>
 Z4 (fun again (z:Int×(List Int))=>Q5w F a b c d again z.1 z.2) F ((0:Int),([]:List Int))
def Q5z (F:Nat) (a:Int) (b:(List Rect)) (c:(List Rect)) (d:Bool→Bool→Option Bool):Option ((List Span)):=
 (Q5H F b a).bind fun e=>
 (Q5H F c a).bind fun i=>
 (Q6f F e i d).bind fun j=>
 some j
def Q3l (F:Nat) (a:(List Rect)) (b:(List Rect)) (c:Bool→Bool→Option Bool):Option ((List Rect)):=
 (Q5P F ([a,b]:List (List Rect))).bind fun d=>
 (Q4w F d (fun y0=>Q5z F y0 a b c)).bind fun e=>
 some e
def Z2z (F:Nat) (a:(List Int)):Option (Tape):=
 gd (0≤(Z3m ((List.length a:Nat):Int) (400:Int))∧(Z3m ((List.length a:Nat):Int) (400:Int))≤((List.length a:Nat):Int)) <|
 some (⟨(a.take (Z3m ((List.length a:Nat):Int) (400:Int)).toNat),0⟩:Tape)
def Z2A (F:Nat) (a:Int):Option (Int):=
 some a
def Q3c (F:Nat) (b:Int) (a:Int):Option (Int):=
 br (decide (a<1)) (some (0:Int)) (gd (a≠0) <|
 br (decide ((b.tmod a)<0)) (gd (I64 ((b.tmod a)+a)) <|
 Z2A F ((b.tmod a)+a)) (Z2A F (b.tmod a)))
def Y4 (F:Nat) (a:Tape) (b:Int):Option (Tape×Int):=
 br (decide (((List.length a.l_:Nat):Int)≤a.at_)) (some (a,(0:Int))) (gd (I64 (a.at_+1)) <|
 gd (I64 ((a.at_+1)-1)) <|
 gd (0≤((a.at_+1)-1)∧((a.at_+1)-1)<((List.length a.l_:Nat):Int)) <|
 (Q3c F (gl a.l_ ((a.at_+1)-1).toNat) b).bind fun c=>
 some ((⟨a.l_,(a.at_+1)⟩:Tape),c))
def J1 (F:Nat) (d:Tape) (a:Int) (b:Int):Option (Tape×Int):=
 gd (I64 (b-a)) <|
 gd (I64 ((b-a)+1)) <|
 (Y4 F d ((b-a)+1)).bind fun c=>
 gd (I64 (a+c.2)) <|
 some (c.1,(a+c.2))
def Q0F (F:Nat) (i:Tape) (c:Int):Option (Tape×Rect):=
 (Y4 F i c).bind fun a=>
 (Y4 F a.1 c).bind fun b=>
 gd (I64 (a.2+(1:Int))) <|
 gd (I64 (c-a.2)) <|
 (Y4 F b.1 (c-a.2)).bind fun d=>
 gd (I64 ((a.2+(1:Int))+d.2)) <|
 gd (I64 (b.2+(1:Int))) <|
 gd (I64 (c-b.2)) <|
 (Y4 F d.1 (c-b.2)).bind fun e=>
 gd (I64 ((b.2+(1:Int))+e.2)) <|
 some (e.1,(⟨a.2,b.2,((a.2+(1:Int))+d.2),((b.2+(1:Int))+e.2)⟩:Rect))
def U4 (F:Nat) (a:Bool):Option (Bool):=
 some a
def Q2R (F:Nat) (a:Rect):Option (Bool):=
 br (decide ((0:Int)≤a.L_)) (br (decide (a.L_<a.R_)) (br (decide (a.R_≤16384)) (br (decide ((0:Int)≤a.w_)) (br (decide (a.w_<a.H_)) (U4 F (decide (a.H_≤16384))) (U4 F false)) (U4 F false)) (U4 F false)) (U4 F false)) (U4 F false)
def Q6A (F:Nat) (b:(List Int)) (c:Int) (a:Int) (d:Bool):Option ((List Int)):=
 br d (some b) (gd (0≤a∧a≤((List.length b:Nat):Int)) <|
 gd ((0)+(List.length (b.take a.toNat))≤LIM) <|
 gd (((0)+(List.length (b.take a.toNat)))+(List.length ([c]:List Int))≤LIM) <|
 gd (0≤a∧a≤((List.length b:Nat):Int)) <|
 gd ((((0)+(List.length (b.take a.toNat)))+(List.length ([c]:List Int)))+(List.length (b.drop a.toNat))≤LIM) <|
 some (((([]:List Int)++(b.take a.toNat))++([c]:List Int))++(b.drop a.toNat)))
def Q8A (F:Nat) (b:(List Int)) (c:Int) (a:Int):Option ((List Int)):=
 br (decide (a<((List.length b:Nat):Int))) (gd (0≤a∧a<((List.length b:Nat):Int)) <|
 Q6A F b c a ((gl b a.toNat)==c)) (Q6A F b c a false)
def Q6B (F:Nat) (d:(List Int)) (e:Int) (a:Int) (b:(Int)→Option ((List Int))) (c:Bool):Option ((List Int)):=
 br c (gd (I64 (a+1)) <|
 b (a+1)) (Q8A F d e a)
def Z4y (F:Nat) (b:(List Int)) (c:Int) (d:(Int)→Option ((List Int))) (a:Int):Option ((List Int)):=
 br (decide (a<((List.length b:Nat):Int))) (gd (0≤a∧a<((List.length b:Nat):Int)) <|
 Q6B F b c a d (decide ((gl b a.toNat)<c))) (Q6B F b c a d false)
def Q1j (F:Nat) (a:(List Int)) (b:Int):Option ((List Int)):=
 Z4 (fun again (z:Int)=>Z4y F a b again z) F (0:Int)
def z8 (F:Nat) (a:Int) (b:(Int)→Option (Bool)) (c:Bool):Option (Bool):=
 br c (some true) (gd (I64 (a+1)) <|
 b (a+1))
def Z1x (F:Nat):Option (Bool):=
 some false
def Q8k (F:Nat) (b:(List Rect)) (d:Int) (e:Int) (c:(Int)→Option (Bool)) (a:Int):Option (Bool):=
 br (decide (a<((List.length b:Nat):Int))) (gd (0≤a∧a<((List.length b:Nat):Int)) <|
 br (decide (((gl b a.toNat).L_)≤d)) (br (decide (d<((gl b a.toNat).R_))) (br (decide (((gl b a.toNat).w_)≤e)) (z8 F a c (decide (e<((gl b a.toNat).H_)))) (z8 F a c false)) (z8 F a c false)) (z8 F a c false)) (Z1x F)
def Q1K (F:Nat) (a:(List Rect)) (b:Int) (c:Int):Option (Bool):=
 Z4 (fun again (z:Int)=>Q8k F a b c again z) F (0:Int)
def Q9W (F:Nat) (a:Bool):Option (Bool):=
 some a
def Q9V (F:Nat) (a:Bool):Option (Bool):=
 some a
def Q9U (F:Nat) (a:Bool):Option (Bool):=
 some a
def Q7m (F:Nat) (a:Bool) (b:Bool) (c:Int):Option (Bool):=
 br (c==1) (br a (Q9W F true) (Q9W F b)) (br (c==2) (br a (Q9V F b) (Q9V F false)) (br a (Q9U F (!b)) (Q9U F false)))
def Q5m (F:Nat) (a:Int) (b:(Int)→Option (Bool)) (c:Bool):Option (Bool):=
 br c (some false) (gd (I64 (a+1)) <|
 b (a+1))
def Z3t (F:Nat):Option (Bool):=
 some true
def Z3u (F:Nat) (b:(List Rect)) (c:(List Rect)) (d:(Int)→Option (Bool)) (a:Int):Option (Bool):=
 br (decide (a<((List.length b:Nat):Int))) (gd (0≤a∧a<((List.length b:Nat):Int)) <|
 gd (0≤a∧a<((List.length c:Nat):Int)) <|
 br (((gl b a.toNat).L_) != ((gl c a.toNat).L_)) (Q5m F a d true) (gd (0≤a∧a<((List.length b:Nat):Int)) <|
 gd (0≤a∧a<((List.length c:Nat):Int)) <|
 Q5m F a d (((gl b a.toNat).R_) != ((gl c a.toNat).R_)))) (Z3t F)
def Q7l (F:Nat) (a:(List Rect)) (b:(List Rect)):Option (Bool):=
 br (((List.length a:Nat):Int) != ((List.length b:Nat):Int)) (some false) (Z4 (fun again (z:Int)=>Z3u F a b again z) F (0:Int))
def Q9g (F:Nat) (a:Int) (b:((List Int)×(List Int)×Int)→Option ((List Rect))) (c:(List Int)) (d:(List Int)):Option ((List Rect)):=
 gd (I64 (a+1)) <|
 b (c,d,(a+1))
def Z3V (F:Nat) (c:(List Rect)) (d:(List Rect)) (b:Int) (j:((List Int)×(List Int)×Int)→Option ((List Rect))) (k:((List Int)×(List Int)×Int)→Option ((List Rect))) (e:(List Int)) (i:(List Int)) (a:Int):Option ((List Rect)):=
 br (decide (a<((List.length (gl ([c,d]:List (List Rect)) b.toNat):Nat):Int))) (gd (0≤a∧a<((List.length (gl ([c,d]:List (List Rect)) b.toNat):Nat):Int)) <|
 (Q1j F e ((gl (gl ([c,d]:List (List Rect)) b.toNat) a.toNat).L_)).bind fun l=>
 (Q1j F l ((gl (gl ([c,d]:List (List Rect)) b.toNat) a.toNat).R_)).bind fun m=>
 (Q1j F i ((gl (gl ([c,d]:List (List Rect)) b.toNat) a.toNat).w_)).bind fun n=>
 (Q1j F n ((gl (gl ([c,d]:List (List Rect)) b.toNat) a.toNat).H_)).bind fun o=>
 gd (I64 (a+1)) <|
 k (m,o,(a+1))) (Q9g F b j e i)
def Q2T (F:Nat) (a:Int) (b:(Int×(List Rect))→Option ((List Rect))) (c:(List Rect)):Option ((List Rect)):=
 gd (I64 (a+1)) <|
 b ((a+1),c)
def Q5I (F:Nat) (d:(List Int)) (e:(List Int)) (c:Int) (a:Int) (b:(List Rect)) (i:(Int×(List Rect))→Option ((List Rect))) (j:Bool):Option ((List Rect)):=
 br j (gd (I64 (((List.length b:Nat):Int)-(1:Int))) <|
 gd (I64 (a+1)) <|
 gd (0≤(a+1)∧(a+1)<((List.length d:Nat):Int)) <|
 gd (0≤(((List.length b:Nat):Int)-(1:Int))∧(((List.length b:Nat):Int)-(1:Int))<((List.length b:Nat):Int)) <|
 Q2T F a i (List.set b (((List.length b:Nat):Int)-(1:Int)).toNat (⟨(gl b (((List.length b:Nat):Int)-(1:Int)).toNat).L_,(gl b (((List.length b:Nat):Int)-(1:Int)).toNat).w_,(gl d (a+1).toNat),(gl b (((List.length b:Nat):Int)-(1:Int)).toNat).H_⟩:Rect))) (gd (0≤a∧a<((List.length d:Nat):Int)) <|
 gd (0≤c∧c<((List.length e:Nat):Int)) <|
 gd (I64 (a+1)) <|
 gd (0≤(a+1)∧(a+1)<((List.length d:Nat):Int)) <|
 gd (I64 (c+1)) <|
 gd (0≤(c+1)∧(c+1)<((List.length e:Nat):Int)) <|
 gd ((List.length b)+(List.length ([(⟨(gl d a.toNat),(gl e c.toNat),(gl d (a+1).toNat),(gl e (c+1).toNat)⟩:Rect)]:List Rect))≤LIM) <|
 Q2T F a i (b++([(⟨(gl d a.toNat),(gl e c.toNat),(gl d (a+1).toNat),(gl e (c+1).toNat)⟩:Rect)]:List Rect)))
def Q4S (F:Nat) (a:Int) (b:(Int×(List Rect)×(List Rect))→Option ((List Rect))) (c:(List Rect)) (d:(List Rect)):Option ((List Rect)):=
 gd (I64 (a+1)) <|
 b ((a+1),c,d)
def Q8w (F:Nat) (b:Int) (c:(List Rect)) (a:(Int×(List Rect)×(List Rect))→Option ((List Rect))) (d:(List Rect)):Option ((List Rect)):=
 Q4S F b a c d
def Z3d (F:Nat) (d:(List Int)) (c:Int) (j:(List Rect)) (k:(List Rect)) (i:(Int×(List Rect)×(List Rect))→Option ((List Rect))) (e:(Int×(List Rect))→Option ((List Rect))) (a:Int) (b:(List Rect)):Option ((List Rect)):=
 br (decide (a<((List.length k:Nat):Int))) (gd (I64 (c+1)) <|
 gd (0≤(c+1)∧(c+1)<((List.length d:Nat):Int)) <|
 gd (0≤a∧a<((List.length b:Nat):Int)) <|
 gd (I64 (a+1)) <|
 e ((a+1),(List.set b a.toNat (⟨(gl b a.toNat).L_,(gl b a.toNat).w_,(gl b a.toNat).R_,(gl d (c+1).toNat)⟩:Rect)))) (Q8w F c j i b)
def Q8v (F:Nat) (d:Int) (a:(List Rect)) (b:(List Rect)) (e:(List Rect)) (c:(Int×(List Rect)×(List Rect))→Option ((List Rect))):Option ((List Rect)):=
 gd ((List.length a)+(List.length b)≤LIM) <|
 Q4S F d c (a++b) e
def Q2S (F:Nat) (e:(List Int)) (c:Int) (d:(List Rect)) (a:(List Rect)) (i:(List Rect)) (b:(Int×(List Rect)×(List Rect))→Option ((List Rect))) (j:Bool):Option ((List Rect)):=
 br j (Z4 (fun again (z:Int×(List Rect))=>Z3d F e c d a b again z.1 z.2) F ((0:Int),a)) (Q8v F c d a i b)
def Q9e (F:Nat) (c:(List Int)) (b:Int) (i:(List Rect)) (a:(List Rect)) (e:(Int×(List Rect)×(List Rect))→Option ((List Rect))) (d:(List Rect)):Option ((List Rect)):=
 br (decide ((0:Int)<((List.length a:Nat):Int))) ((Q7l F a d).bind fun j=>
 br j (gd (0≤(0:Int)∧(0:Int)<((List.length a:Nat):Int)) <|
 gd (0≤b∧b<((List.length c:Nat):Int)) <|
 Q2S F c b i a d e (((gl a (0:Int).toNat).H_)==(gl c b.toNat))) (Q2S F c b i a d e false)) (Q2S F c b i a d e false)
def Z3T (F:Nat) (m:(List Rect)) (n:(List Rect)) (o:Int) (c:(List Int)) (e:(List Int)) (d:Int) (k:(List Rect)) (l:(List Rect)) (j:(Int×(List Rect)×(List Rect))→Option ((List Rect))) (i:(Int×(List Rect))→Option ((List Rect))) (a:Int) (b:(List Rect)):Option ((List Rect)):=
 gd (I64 (a+1)) <|
 br (decide ((a+1)<((List.length c:Nat):Int))) (gd (0≤a∧a<((List.length c:Nat):Int)) <|
 gd (0≤d∧d<((List.length e:Nat):Int)) <|
 (Q1K F m (gl c a.toNat) (gl e d.toNat)).bind fun p=>
 gd (0≤a∧a<((List.length c:Nat):Int)) <|
 gd (0≤d∧d<((List.length e:Nat):Int)) <|
 (Q1K F n (gl c a.toNat) (gl e d.toNat)).bind fun q=>
 (Q7m F p q o).bind fun s=>
 br (!s) (Q2T F a i b) (br (decide ((0:Int)<((List.length b:Nat):Int))) (gd (I64 (((List.length b:Nat):Int)-(1:Int))) <|
 gd (0≤(((List.length b:Nat):Int)-(1:Int))∧(((List.length b:Nat):Int)-(1:Int))<((List.length b:Nat):Int)) <|
 gd (0≤a∧a<((List.length c:Nat):Int)) <|
 Q5I F c e d a b i (((gl b (((List.length b:Nat):Int)-(1:Int)).toNat).R_)==(gl c a.toNat))) (Q5I F c e d a b i false))) (Q9e F e d k l j b)
def Q8u (F:Nat) (a:(List Rect)) (b:(List Rect)):Option ((List Rect)):=
 gd ((List.length a)+(List.length b)≤LIM) <|
 some (a++b)
def Z3U (F:Nat) (j:(List Rect)) (k:(List Rect)) (l:Int) (i:(List Int)) (b:(List Int)) (e:(Int×(List Rect)×(List Rect))→Option ((List Rect))) (a:Int) (c:(List Rect)) (d:(List Rect)):Option ((List Rect)):=
 gd (I64 (a+1)) <|
 br (decide ((a+1)<((List.length b:Nat):Int))) (Z4 (fun again (z:Int×(List Rect))=>Z3T F j k l i b a c d e again z.1 z.2) F ((0:Int),([]:List Rect))) (Q8u F c d)
def Q9f (F:Nat) (c:(List Rect)) (d:(List Rect)) (e:Int) (a:(List Int)) (b:(List Int)):Option ((List Rect)):=
 Z4 (fun again (z:Int×(List Rect)×(List Rect))=>Z3U F c d e a b again z.1 z.2.1 z.2.2) F ((0:Int),([]:List Rect),([]:List Rect))
def Z3W (F:Nat) (b:(List Rect)) (c:(List Rect)) (j:Int) (i:((List Int)×(List Int)×Int)→Option ((List Rect))) (d:(List Int)) (e:(List Int)) (a:Int):Option ((List Rect)):=
 br (decide (a<((List.length ([b,c]:List (List Rect)):Nat):Int))) (gd (0≤a∧a<((List.length ([b,c]:List (List Rect)):Nat):Int)) <|
 Z4 (fun again (z:(List Int)×(List Int)×Int)=>Z3V F b c a i again z.1 z.2.1 z.2.2) F (d,e,(0:Int))) (Q9f F b c j d e)
def Q8l (F:Nat) (a:(List Rect)) (b:(List Rect)) (c:Int):Option ((List Rect)):=
 Z4 (fun again (z:(List Int)×(List Int)×Int)=>Z3W F a b c again z.1 z.2.1 z.2.2) F (([]:List Int),([]:List Int),(0:Int))
def Z0B (F:Nat) (a:Int) (b:((List Int)×(List Int)×Int)→Option ((List Rect))) (c:(List Int)) (d:(List Int)):Option ((List Rect)):=
 gd (I64 (a+1)) <|
 b (c,d,(a+1))
def Q7q (F:Nat) (c:(List Rect)) (d:(List Rect)) (b:Int) (j:((List Int)×(List Int)×Int)→Option ((List Rect))) (k:((List Int)×(List Int)×Int)→Option ((List Rect))) (e:(List Int)) (i:(List Int)) (a:Int):Option ((List Rect)):=
 br (decide (a<((List.length (gl ([c,d]:List (List Rect)) b.toNat):Nat):Int))) (gd (0≤a∧a<((List.length (gl ([c,d]:List (List Rect)) b.toNat):Nat):Int)) <|
 (Q1j F e ((gl (gl ([c,d]:List (List Rect)) b.toNat) a.toNat).L_)).bind fun l=>
 (Q1j F l ((gl (gl ([c,d]:List (List Rect)) b.toNat) a.toNat).R_)).bind fun m=>
 (Q1j F i ((gl (gl ([c,d]:List (List Rect)) b.toNat) a.toNat).w_)).bind fun n=>
 (Q1j F n ((gl (gl ([c,d]:List (List Rect)) b.toNat) a.toNat).H_)).bind fun o=>
 gd (I64 (a+1)) <|
 k (m,o,(a+1))) (Z0B F b j e i)
def Q4I (F:Nat) (a:Int) (b:(Int×(List Rect))→Option ((List Rect))) (c:(List Rect)):Option ((List Rect)):=
 gd (I64 (a+1)) <|
 b ((a+1),c)
def Q0t (F:Nat) (d:(List Int)) (e:(List Int)) (c:Int) (a:Int) (b:(List Rect)) (i:(Int×(List Rect))→Option ((List Rect))) (j:Bool):Option ((List Rect)):=
 br j (gd (I64 (((List.length b:Nat):Int)-(1:Int))) <|
 gd (I64 (a+1)) <|
 gd (0≤(a+1)∧(a+1)<((List.length d:Nat):Int)) <|
 gd (0≤(((List.length b:Nat):Int)-(1:Int))∧(((List.length b:Nat):Int)-(1:Int))<((List.length b:Nat):Int)) <|
 Q4I F a i (List.set b (((List.length b:Nat):Int)-(1:Int)).toNat (⟨(gl b (((List.length b:Nat):Int)-(1:Int)).toNat).L_,(gl b (((List.length b:Nat):Int)-(1:Int)).toNat).w_,(gl d (a+1).toNat),(gl b (((List.length b:Nat):Int)-(1:Int)).toNat).H_⟩:Rect))) (gd (0≤a∧a<((List.length d:Nat):Int)) <|
 gd (0≤c∧c<((List.length e:Nat):Int)) <|
 gd (I64 (a+1)) <|
 gd (0≤(a+1)∧(a+1)<((List.length d:Nat):Int)) <|
 gd (I64 (c+1)) <|
 gd (0≤(c+1)∧(c+1)<((List.length e:Nat):Int)) <|
 gd ((List.length b)+(List.length ([(⟨(gl d a.toNat),(gl e c.toNat),(gl d (a+1).toNat),(gl e (c+1).toNat)⟩:Rect)]:List Rect))≤LIM) <|
 Q4I F a i (b++([(⟨(gl d a.toNat),(gl e c.toNat),(gl d (a+1).toNat),(gl e (c+1).toNat)⟩:Rect)]:List Rect)))
def Q3D (F:Nat) (a:Int) (b:(Int×(List Rect)×(List Rect))→Option ((List Rect))) (c:(List Rect)) (d:(List Rect)):Option ((List Rect)):=
 gd (I64 (a+1)) <|
 b ((a+1),c,d)
def Q9G (F:Nat) (b:Int) (c:(List Rect)) (a:(Int×(List Rect)×(List Rect))→Option ((List Rect))) (d:(List Rect)):Option ((List Rect)):=
 Q3D F b a c d
def Q6y (F:Nat) (d:(List Int)) (c:Int) (j:(List Rect)) (k:(List Rect)) (i:(Int×(List Rect)×(List Rect))→Option ((List Rect))) (e:(Int×(List Rect))→Option ((List Rect))) (a:Int) (b:(List Rect)):Option ((List Rect)):=
 br (decide (a<((List.length k:Nat):Int))) (gd (I64 (c+1)) <|
 gd (0≤(c+1)∧(c+1)<((List.length d:Nat):Int)) <|
 gd (0≤a∧a<((List.length b:Nat):Int)) <|
 gd (I64 (a+1)) <|
 e ((a+1),(List.set b a.toNat (⟨(gl b a.toNat).L_,(gl b a.toNat).w_,(gl b a.toNat).R_,(gl d (c+1).toNat)⟩:Rect)))) (Q9G F c j i b)
def Q6x (F:Nat) (d:Int) (a:(List Rect)) (b:(List Rect)) (e:(List Rect)) (c:(Int×(List Rect)×(List Rect))→Option ((List Rect))):Option ((List Rect)):=
 gd ((List.length a)+(List.length b)≤LIM) <|
 Q3D F d c (a++b) e
def Q1i (F:Nat) (e:(List Int)) (c:Int) (d:(List Rect)) (a:(List Rect)) (i:(List Rect)) (b:(Int×(List Rect)×(List Rect))→Option ((List Rect))) (j:Bool):Option ((List Rect)):=
 br j (Z4 (fun again (z:Int×(List Rect))=>Q6y F e c d a b again z.1 z.2) F ((0:Int),a)) (Q6x F c d a i b)
def Q4H (F:Nat) (c:(List Int)) (b:Int) (i:(List Rect)) (a:(List Rect)) (e:(Int×(List Rect)×(List Rect))→Option ((List Rect))) (d:(List Rect)):Option ((List Rect)):=
 br (decide ((0:Int)<((List.length a:Nat):Int))) ((Q7l F a d).bind fun j=>
 br j (gd (0≤(0:Int)∧(0:Int)<((List.length a:Nat):Int)) <|
 gd (0≤b∧b<((List.length c:Nat):Int)) <|
 Q1i F c b i a d e (((gl a (0:Int).toNat).H_)==(gl c b.toNat))) (Q1i F c b i a d e false)) (Q1i F c b i a d e false)
def Q7p (F:Nat) (m:(List Rect)) (n:(List Rect)) (o:Int) (c:(List Int)) (e:(List Int)) (d:Int) (k:(List Rect)) (l:(List Rect)) (j:(Int×(List Rect)×(List Rect))→Option ((List Rect))) (i:(Int×(List Rect))→Option ((List Rect))) (a:Int) (b:(List Rect)):Option ((List Rect)):=
 gd (I64 (a+1)) <|
 br (decide ((a+1)<((List.length c:Nat):Int))) (gd (0≤a∧a<((List.length c:Nat):Int)) <|
 gd (0≤d∧d<((List.length e:Nat):Int)) <|
 (Q1K F m (gl c a.toNat) (gl e d.toNat)).bind fun p=>
 gd (0≤a∧a<((List.length c:Nat):Int)) <|
 gd (0≤d∧d<((List.length e:Nat):Int)) <|
 (Q1K F n (gl c a.toNat) (gl e d.toNat)).bind fun q=>
 (Q7m F p q o).bind fun s=>
 br (!s) (Q4I F a i b) (br (decide ((0:Int)<((List.length b:Nat):Int))) (gd (I64 (((List.length b:Nat):Int)-(1:Int))) <|
 gd (0≤(((List.length b:Nat):Int)-(1:Int))∧(((List.length b:Nat):Int)-(1:Int))<((List.length b:Nat):Int)) <|
 gd (0≤a∧a<((List.length c:Nat):Int)) <|
 Q0t F c e d a b i (((gl b (((List.length b:Nat):Int)-(1:Int)).toNat).R_)==(gl c a.toNat))) (Q0t F c e d a b i false))) (Q4H F e d k l j b)
def Q6w (F:Nat) (a:(List Rect)) (b:(List Rect)):Option ((List Rect)):=
 gd ((List.length a)+(List.length b)≤LIM) <|
 some (a++b)
def Z0C (F:Nat) (j:(List Rect)) (k:(List Rect)) (l:Int) (i:(List Int)) (b:(List Int)) (e:(Int×(List Rect)×(List Rect))→Option ((List Rect))) (a:Int) (c:(List Rect)) (d:(List Rect)):Option ((List Rect)):=
 gd (I64 (a+1)) <|
 br (decide ((a+1)<((List.length b:Nat):Int))) (Z4 (fun again (z:Int×(List Rect))=>Q7p F j k l i b a c d e again z.1 z.2) F ((0:Int),([]:List Rect))) (Q6w F c d)
def Q7o (F:Nat) (c:(List Rect)) (d:(List Rect)) (e:Int) (a:(List Int)) (b:(List Int)):Option ((List Rect)):=
 Z4 (fun again (z:Int×(List Rect)×(List Rect))=>Z0C F c d e a b again z.1 z.2.1 z.2.2) F ((0:Int),([]:List Rect),([]:List Rect))
def Q2w (F:Nat) (b:(List Rect)) (c:(List Rect)) (j:Int) (i:((List Int)×(List Int)×Int)→Option ((List Rect))) (d:(List Int)) (e:(List Int)) (a:Int):Option ((List Rect)):=
 br (decide (a<((List.length ([b,c]:List (List Rect)):Nat):Int))) (gd (0≤a∧a<((List.length ([b,c]:List (List Rect)):Nat):Int)) <|
 Z4 (fun again (z:(List Int)×(List Int)×Int)=>Q7q F b c a i again z.1 z.2.1 z.2.2) F (d,e,(0:Int))) (Q7o F b c j d e)
def W8 (F:Nat) (a:(List Rect)) (b:(List Rect)) (c:Int):Option ((List Rect)):=
 Z4 (fun again (z:(List Int)×(List Int)×Int)=>Q2w F a b c again z.1 z.2.1 z.2.2) F (([]:List Int),([]:List Int),(0:Int))
def Q5T (F:Nat) (a:(List Rect)):Option (Re_×Int):=
 br (decide ((120:Int)<((List.length a:Nat):Int))) (some ((⟨[]⟩:Re_),(1:Int))) (some ((⟨a⟩:Re_),(0:Int)))
def Z2s (F:Nat) (b:(List Rect)):Option (Re_×Int):=
 (W8 F b ([]) (1:Int)).bind fun c=>
 (Q5T F c).bind fun a=>
 some (a.1,a.2)
def Z5N (F:Nat) (b:(List Rect)) (c:(Int)→Option (Re_×Int)) (a:Int):Option (Re_×Int):=
 br (decide (a<((List.length b:Nat):Int))) (gd (0≤a∧a<((List.length b:Nat):Int)) <|
 (Q2R F (gl b a.toNat)).bind fun d=>
 br (!d) (some ((⟨[]⟩:Re_),(2:Int))) (gd (I64 (a+1)) <|
 c (a+1))) (Z2s F b)
def Z2t (F:Nat) (a:(List Rect)):Option (Re_×Int):=
 br (decide ((120:Int)<((List.length a:Nat):Int))) (some ((⟨[]⟩:Re_),(1:Int))) (Z4 (fun again (z:Int)=>Z5N F a again z) F (0:Int))
def Q4U (F:Nat) (a:(List Rect)) (b:(List Int)) (c:Int):Option (Tape×Re_):=
 (Z2t F a).bind fun d=>
 some ((⟨b,c⟩:Tape),d.1)
def Q0i (F:Nat) (j:Int) (i:(Int×(List Int)×Int×(List Rect))→Option (Tape×Re_)) (b:Int) (d:(List Int)) (e:Int) (c:(List Rect)):Option (Tape×Re_):=
 br (decide ((0:Int)<b)) ((Q0F F (⟨d,e⟩:Tape) j).bind fun a=>
 gd ((List.length c)+(List.length ([a.2]:List Rect))≤LIM) <|
 gd (I64 (b-1)) <|
 i ((b-1),a.1.l_,a.1.at_,(c++([a.2]:List Rect)))) (Q4U F c d e)
def Q0u (F:Nat) (c:Tape) (d:Int) (b:Int):Option (Tape×Re_):=
 gd (I64 (b+1)) <|
 (Y4 F c (b+1)).bind fun a=>
 Z4 (fun again (z:Int×(List Int)×Int×(List Rect))=>Q0i F d again z.1 z.2.1 z.2.2.1 z.2.2.2) F (a.2,a.1.l_,a.1.at_,([]:List Rect))
def Z2q (F:Nat):Option (Bool):=
 some true
def Z2r (F:Nat) (b:(List Rect)) (c:(List Rect)) (d:(Int)→Option (Bool)) (a:Int):Option (Bool):=
 br (decide (a<((List.length b:Nat):Int))) (gd (0≤a∧a<((List.length b:Nat):Int)) <|
 gd (0≤a∧a<((List.length c:Nat):Int)) <|
 br (!((((gl b a.toNat).L_)==((gl c a.toNat).L_))&&((((gl b a.toNat).w_)==((gl c a.toNat).w_))&&((((gl b a.toNat).R_)==((gl c a.toNat).R_))&&((((gl b a.toNat).H_)==((gl c a.toNat).H_))&&true))))) (some false) (gd (I64 (a+1)) <|
 d (a+1))) (Z2q F)
def Q5R (F:Nat) (a:(List Rect)) (b:(List Rect)):Option (Bool):=
 br (((List.length a:Nat):Int) != ((List.length b:Nat):Int)) (some false) (Z4 (fun again (z:Int)=>Z2r F a b again z) F (0:Int))
def Q9b (F:Nat) (a:Re_):Option (Bool):=
 (W8 F a.t_ ([]) (1:Int)).bind fun b=>
 (Q5R F b a.t_).bind fun c=>
 some c
def Z2o (F:Nat) (b:Re_) (c:(Int)→Option (Bool)) (a:Int):Option (Bool):=
 br (decide (a<((List.length b.t_:Nat):Int))) (gd (0≤a∧a<((List.length b.t_:Nat):Int)) <|
 (Q2R F (gl b.t_ a.toNat)).bind fun d=>
 br (!d) (some false) (gd (I64 (a+1)) <|
 c (a+1))) (Q9b F b)
def Q0E (F:Nat) (a:Re_):Option (Bool):=
 br (decide ((120:Int)<((List.length a.t_:Nat):Int))) (some false) (Z4 (fun again (z:Int)=>Z2o F a again z) F (0:Int))
def Q4e (F:Nat) (a:Bool):Option (Bool):=
 some a
def Q5S (F:Nat) (a:Re_) (b:Re_):Option (Bool):=
 (Q0E F a).bind fun c=>
 br c ((Q0E F b).bind fun d=>
 br d ((W8 F a.t_ b.t_ (2:Int)).bind fun e=>
 Q4e F (decide ((0:Int)<((List.length e:Nat):Int)))) (Q4e F false)) (Q4e F false)
def Q1o (F:Nat) (a:Int) (b:(Int)→Option (Int)) (c:Bool):Option (Int):=
 br c (some (3:Int)) (gd (I64 (a+1)) <|
 b (a+1))
def Q3V (F:Nat) (b:(List Rg_)) (a:Int) (c:(Int)→Option (Int)) (d:Bool):Option (Int):=
 br d (some (7:Int)) (br (decide ((0:Int)<a)) (gd (I64 (a-1)) <|
 gd (0≤(a-1)∧(a-1)<((List.length b:Nat):Int)) <|
 br (decide (((gl b a.toNat).y_)<((gl b (a-1).toNat).y_))) (Q1o F a c true) (gd (I64 (a-1)) <|
 gd (0≤(a-1)∧(a-1)<((List.length b:Nat):Int)) <|
 br (((gl b a.toNat).y_)==((gl b (a-1).toNat).y_)) (gd (I64 (a-1)) <|
 gd (0≤(a-1)∧(a-1)<((List.length b:Nat):Int)) <|
 Q1o F a c (decide (((gl b a.toNat).c_)≤((gl b (a-1).toNat).c_)))) (Q1o F a c false))) (Q1o F a c false))
def Q3W (F:Nat) (b:(List Rg_)) (a:Int) (c:(Int)→Option (Int)) (d:Bool):Option (Int):=
 br d (some (13:Int)) ((Q0E F ((gl b a.toNat).g_)).bind fun e=>
 br (!e) (Q3V F b a c true) (Q3V F b a c (((List.length ((gl b a.toNat).g_.t_):Nat):Int)==(0:Int))))
def Q3X (F:Nat) (b:(List Rg_)) (a:Int) (c:(Int)→Option (Int)) (d:Bool):Option (Int):=
 br d (some (18:Int)) (br (decide (((gl b a.toNat).c_)<0)) (Q3W F b a c true) (Q3W F b a c (decide ((40:Int)≤((gl b a.toNat).c_)))))
def Q3T (F:Nat) (a:Int) (b:(Int)→Option (Int)) (c:Bool):Option (Int):=
 br c (some (11:Int)) (gd (I64 (a+1)) <|
 b (a+1))
def Q8Y (F:Nat) (a:Int) (b:(Int)→Option (Int)):Option (Int):=
 gd (I64 (a+1)) <|
 b (a+1)
def Z2k (F:Nat) (c:(List Rg_)) (a:Int) (e:(Int)→Option (Int)) (d:(Int)→Option (Int)) (b:Int):Option (Int):=
 br (decide (b<((List.length (c.take a.toNat):Nat):Int))) (gd (0≤b∧b<((List.length (c.take a.toNat):Nat):Int)) <|
 br (((gl (c.take a.toNat) b.toNat).y_)==((gl c a.toNat).y_)) ((Q5S F ((gl (c.take a.toNat) b.toNat).g_) ((gl c a.toNat).g_)).bind fun i=>
 Q3T F b d i) (Q3T F b d false)) (Q8Y F a e)
def Z1t (F:Nat):Option (Int):=
 some (0:Int)
def Z2l (F:Nat) (b:(List Rg_)) (c:(Int)→Option (Int)) (a:Int):Option (Int):=
 br (decide (a<((List.length b:Nat):Int))) (gd (0≤a∧a<((List.length b:Nat):Int)) <|
 gd (0≤a∧a≤((List.length b:Nat):Int)) <|
 Z4 (fun again (z:Int)=>Z2k F b a c again z) F (0:Int)) (Z1t F)
def Q3U (F:Nat) (a:(List Rg_)):Option (Int):=
 Z4 (fun again (z:Int)=>Z2l F a again z) F (0:Int)
def Z2m (F:Nat) (b:(List Rg_)) (c:(Int)→Option (Int)) (a:Int):Option (Int):=
 br (decide (a<((List.length b:Nat):Int))) (gd (0≤a∧a<((List.length b:Nat):Int)) <|
 br (decide (((gl b a.toNat).y_)<0)) (Q3X F b a c true) (Q3X F b a c (decide ((100:Int)<((gl b a.toNat).y_))))) (Q3U F b)
def Q3Y (F:Nat) (a:(List Rg_)):Option (Int):=
 br (decide ((200:Int)<((List.length a:Nat):Int))) (some (1:Int)) (Z4 (fun again (z:Int)=>Z2m F a again z) F (0:Int))
def Q2Q (F:Nat) (a:Int) (b:((List Rect)×Int×(List Rg_))→Option ((List Rg_)×Int)) (c:(List Rect)) (d:(List Rg_)):Option ((List Rg_)×Int):=
 gd (I64 (a+1)) <|
 b (c,(a+1),d)
def Q4B (F:Nat) (b:(List Rg_)) (i:(List Rect)) (a:Int) (c:(List Rg_)) (e:((List Rect)×Int×(List Rg_))→Option ((List Rg_)×Int)) (d:(List Rect)):Option ((List Rg_)×Int):=
 br (decide ((0:Int)<((List.length d:Nat):Int))) (gd ((List.length c)+(List.length ([(⟨(gl b a.toNat).y_,(gl b a.toNat).c_,(⟨d⟩:Re_)⟩:Rg_)]:List Rg_))≤LIM) <|
 Q2Q F a e i (c++([(⟨(gl b a.toNat).y_,(gl b a.toNat).c_,(⟨d⟩:Re_)⟩:Rg_)]:List Rg_))) (Q2Q F a e i c)
def Q4C (F:Nat) (b:(List Rg_)) (j:Int) (k:Re_) (d:(List Rect)) (a:Int) (e:(List Rg_)) (c:((List Rect)×Int×(List Rg_))→Option ((List Rg_)×Int)) (i:Bool):Option ((List Rg_)×Int):=
 br i ((W8 F d ((gl b a.toNat).g_.t_) (1:Int)).bind fun l=>
 Q2Q F a c l e) (br (((gl b a.toNat).y_)==j) ((W8 F ((gl b a.toNat).g_.t_) k.t_ (3:Int)).bind fun m=>
 Q4B F b d a e c m) (Q4B F b d a e c ((gl b a.toNat).g_.t_)))
def Z3s (F:Nat) (a:(List Rg_)):Option ((List Rg_)×Int):=
 some (a,(0:Int))
def Q7B (F:Nat) (b:(List Rg_)) (c:(Int)→Option ((List Rg_)×Int)) (a:Int):Option ((List Rg_)×Int):=
 br (decide (a<((List.length b:Nat):Int))) (gd (0≤a∧a<((List.length b:Nat):Int)) <|
 br (decide ((120:Int)<((List.length ((gl b a.toNat).g_.t_):Nat):Int))) (some ([],(1:Int))) (gd (I64 (a+1)) <|
 c (a+1))) (Z3s F b)
def Q3o (F:Nat) (a:(List Rg_)):Option ((List Rg_)×Int):=
 br (decide ((200:Int)<((List.length a:Nat):Int))) (some ([],(1:Int))) (Z4 (fun again (z:Int)=>Q7B F a again z) F (0:Int))
def Q6q (F:Nat) (d:Int) (e:Int) (c:(List Rect)) (b:(List Rg_)) (a:Int):Option ((List Rg_)×Int):=
 gd (0≤(0:Int)∧(0:Int)≤a∧((0:Nat):Int)+a≤((List.length b:Nat):Int)) <|
 gd (0+((a).toNat)≤List.length b) <|
 gd ((0)+(((a).toNat))≤LIM) <|
 gd (((0)+(((a).toNat)))+(List.length ([(⟨d,e,(⟨c⟩:Re_)⟩:Rg_)]:List Rg_))≤LIM) <|
 gd (0≤a∧a≤(((List.length b):Nat):Int)∧((0:Nat):Int)+(((List.length b):Nat):Int)≤((List.length b:Nat):Int)) <|
 gd ((0+(a).toNat)+((List.length b)-(a).toNat)≤List.length b) <|
 gd ((((0)+(((a).toNat)))+(List.length ([(⟨d,e,(⟨c⟩:Re_)⟩:Rg_)]:List Rg_)))+(((List.length b)-(a).toNat))≤LIM) <|
 Q3o F (((([]:List Rg_)++((b.drop 0).take ((a).toNat)))++([(⟨d,e,(⟨c⟩:Re_)⟩:Rg_)]:List Rg_))++((b.drop (0+(a).toNat)).take ((List.length b)-(a).toNat)))
def Q1J (F:Nat) (i:Int) (j:Int) (c:(List Rect)) (d:(List Rg_)) (a:Int) (b:(Int)→Option ((List Rg_)×Int)) (e:Bool):Option ((List Rg_)×Int):=
 br e (gd (I64 (a+1)) <|
 b (a+1)) (Q6q F i j c d a)
def Q8z (F:Nat) (c:Int) (d:Int) (i:(List Rect)) (b:(List Rg_)) (e:(Int)→Option ((List Rg_)×Int)) (a:Int):Option ((List Rg_)×Int):=
 br (decide (a<((List.length b:Nat):Int))) (gd (0≤a∧a<((List.length b:Nat):Int)) <|
 br (decide (((gl b a.toNat).y_)<c)) (Q1J F c d i b a e true) (gd (0≤a∧a<((List.length b:Nat):Int)) <|
 br (((gl b a.toNat).y_)==c) (gd (0≤a∧a<((List.length b:Nat):Int)) <|
 Q1J F c d i b a e (decide (((gl b a.toNat).c_)<d))) (Q1J F c d i b a e false))) (Q1J F c d i b a e false)
def Q4A (F:Nat) (c:Int) (d:Int) (a:(List Rect)) (b:(List Rg_)):Option ((List Rg_)×Int):=
 br (decide ((0:Int)<((List.length a:Nat):Int))) (Z4 (fun again (z:Int)=>Q8z F c d a b again z) F (0:Int)) (Q3o F b)
def Q6r (F:Nat) (b:(List Rg_)) (c:Int) (j:Int) (k:Re_) (i:((List Rect)×Int×(List Rg_))→Option ((List Rg_)×Int)) (d:(List Rect)) (a:Int) (e:(List Rg_)):Option ((List Rg_)×Int):=
 br (decide (a<((List.length b:Nat):Int))) (gd (0≤a∧a<((List.length b:Nat):Int)) <|
 br (((gl b a.toNat).y_)==c) (Q4C F b c k d a e i (((gl b a.toNat).c_)==j)) (Q4C F b c k d a e i false)) (Q4A F c j d e)
def Q4D (F:Nat) (c:(List Rg_)) (d:Int) (e:Int) (a:Re_) (b:Bool):Option ((List Rg_)×Int):=
 br b (some ([],(13:Int))) ((Q0E F a).bind fun i=>
 br (!i) (some ([],(7:Int))) (Z4 (fun again (z:(List Rect)×Int×(List Rg_))=>Q6r F c d e a again z.1 z.2.1 z.2.2) F (a.t_,(0:Int),([]:List Rg_))))
def Q4E (F:Nat) (b:(List Rg_)) (c:Int) (a:Int) (d:Re_) (e:Bool):Option ((List Rg_)×Int):=
 br e (some ([],(18:Int))) (br (decide (a<0)) (Q4D F b c a d true) (Q4D F b c a d (decide ((40:Int)≤a))))
def Z2N (F:Nat) (b:(List Rg_)) (a:Int) (c:Int) (d:Re_):Option ((List Rg_)×Int):=
 (Q3Y F b).bind fun e=>
 br (e != (0:Int)) (some ([],e)) (br (decide (a<0)) (Q4E F b a c d true) (Q4E F b a c d (decide ((100:Int)<a))))
def Q5q (F:Nat) (c:Tape) (a:Int):Option (Tape×Bool):=
 (Y4 F c a).bind fun b=>
 gd (I64 (a-1)) <|
 some (b.1,(b.2==(a-1)))
def Q0j (F:Nat) (a:(List Rect)) (b:(List Int)) (c:Int):Option (Tape×Re_):=
 some ((⟨b,c⟩:Tape),(⟨a⟩:Re_))
def Q0U (F:Nat) (b:Tape×Re_) (i:Bool) (d:(List Int)) (e:Int):Option (Tape×Re_):=
 br i (some ((⟨d,e⟩:Tape),b.2)) (gd ((0)+(List.length b.2.t_)≤LIM) <|
 (Y4 F (⟨d,e⟩:Tape) ((List.length (([]:List Rect)++b.2.t_):Nat):Int)).bind fun a=>
 (Y4 F a.1 (5:Int)).bind fun c=>
 br (c.2==(0:Int)) (gd (0≤a.2∧a.2<((List.length (([]:List Rect)++b.2.t_):Nat):Int)) <|
 gd (I64 (((gl (([]:List Rect)++b.2.t_) a.2.toNat).R_)+1)) <|
 gd (0≤a.2∧a.2<((List.length (([]:List Rect)++b.2.t_):Nat):Int)) <|
 Q0j F (List.set (([]:List Rect)++b.2.t_) a.2.toNat (⟨(gl (([]:List Rect)++b.2.t_) a.2.toNat).L_,(gl (([]:List Rect)++b.2.t_) a.2.toNat).w_,(((gl (([]:List Rect)++b.2.t_) a.2.toNat).R_)+1),(gl (([]:List Rect)++b.2.t_) a.2.toNat).H_⟩:Rect)) c.1.l_ c.1.at_) (br (c.2==(1:Int)) (gd (0≤a.2∧a.2<((List.length (([]:List Rect)++b.2.t_):Nat):Int)) <|
 Q0j F (List.set (([]:List Rect)++b.2.t_) a.2.toNat (⟨(-1:Int),(gl (([]:List Rect)++b.2.t_) a.2.toNat).w_,(gl (([]:List Rect)++b.2.t_) a.2.toNat).R_,(gl (([]:List Rect)++b.2.t_) a.2.toNat).H_⟩:Rect)) c.1.l_ c.1.at_) (br (c.2==(2:Int)) (gd (0≤a.2∧a.2<((List.length (([]:List Rect)++b.2.t_):Nat):Int)) <|
 gd ((List.length (([]:List Rect)++b.2.t_))+(List.length ([(gl (([]:List Rect)++b.2.t_) a.2.toNat)]:List Rect))≤LIM) <|
 Q0j F ((([]:List Rect)++b.2.t_)++([(gl (([]:List Rect)++b.2.t_) a.2.toNat)]:List Rect)) c.1.l_ c.1.at_) (br (c.2==(3:Int)) (gd (0≤a.2∧a.2<((List.length (([]:List Rect)++b.2.t_):Nat):Int)) <|
 gd (0≤(0:Int)∧(0:Int)<((List.length (([]:List Rect)++b.2.t_):Nat):Int)) <|
 gd (0≤(0:Int)∧(0:Int)<((List.length (([]:List Rect)++b.2.t_):Nat):Int)) <|
 gd (0≤a.2∧a.2<((List.length (List.set (([]:List Rect)++b.2.t_) (0:Int).toNat (gl (([]:List Rect)++b.2.t_) a.2.toNat)):Nat):Int)) <|
 Q0j F (List.set (List.set (([]:List Rect)++b.2.t_) (0:Int).toNat (gl (([]:List Rect)++b.2.t_) a.2.toNat)) a.2.toNat (gl (([]:List Rect)++b.2.t_) (0:Int).toNat)) c.1.l_ c.1.at_) (gd (0≤a.2∧a.2<((List.length (([]:List Rect)++b.2.t_):Nat):Int)) <|
 gd (0≤a.2∧a.2<((List.length (([]:List Rect)++b.2.t_):Nat):Int)) <|
 Q0j F (List.set (([]:List Rect)++b.2.t_) a.2.toNat (⟨(gl (([]:List Rect)++b.2.t_) a.2.toNat).L_,(gl (([]:List Rect)++b.2.t_) a.2.toNat).w_,(gl (([]:List Rect)++b.2.t_) a.2.toNat).R_,(gl (([]:List Rect)++b.2.t_) a.2.toNat).w_⟩:Rect)) c.1.l_ c.1.at_)))))
def Q2A (F:Nat) (c:Tape) (d:Int) (e:Int):Option (Tape×Re_):=
 (Q0u F c d e).bind fun a=>
 br (((List.length a.2.t_:Nat):Int)==(0:Int)) (Q0U F a true a.1.l_ a.1.at_) ((Q5q F a.1 (6:Int)).bind fun b=>
 Q0U F a (!b.2) b.1.l_ b.1.at_)
def Q9c (F:Nat) (a:Re_) (b:Re_):Option (Bool):=
 (Q5R F a.t_ b.t_).bind fun c=>
 some c
def Q2B (F:Nat) (a:Int) (b:(Int×(List Rect))→Option ((List Rect))) (c:(List Rect)):Option ((List Rect)):=
 gd (I64 (a+1)) <|
 b ((a+1),c)
def Q2C (F:Nat) (d:(List Rg_)) (a:Int) (b:(List Rect)) (c:(Int×(List Rect))→Option ((List Rect))) (e:Bool):Option ((List Rect)):=
 br e (gd ((List.length b)+(List.length ((gl d a.toNat).g_.t_))≤LIM) <|
 Q2B F a c (b++((gl d a.toNat).g_.t_))) (Q2B F a c b)
def Q7u (F:Nat) (a:(List Rect)):Option ((List Rect)):=
 some a
def Z0O (F:Nat) (b:(List Rg_)) (e:Int) (i:Int→Option Bool) (d:(Int×(List Rect))→Option ((List Rect))) (a:Int) (c:(List Rect)):Option ((List Rect)):=
 br (decide (a<((List.length b:Nat):Int))) (gd (0≤a∧a<((List.length b:Nat):Int)) <|
 br (((gl b a.toNat).y_)==e) ((i ((gl b a.toNat).c_)).bind fun j=>
 Q2C F b a c d j) (Q2C F b a c d false)) (Q7u F c)
def Q1Z (F:Nat) (a:(List Rg_)) (b:Int) (c:Int→Option Bool):Option ((List Rect)):=
 Z4 (fun again (z:Int×(List Rect))=>Z0O F a b c again z.1 z.2) F ((0:Int),([]:List Rect))
def Q3Q (F:Nat) (a:(List Rect)):Option (Re_×Int):=
 br (decide ((120:Int)<((List.length a:Nat):Int))) (some ((⟨[]⟩:Re_),(1:Int))) (some ((⟨a⟩:Re_),(0:Int)))
def Q5h (F:Nat) (b:(List Rect)):Option (Re_×Int):=
 (Q1g F b).bind fun c=>
 (Q3Q F c).bind fun a=>
 some (a.1,a.2)
def Q2u (F:Nat) (a:Int) (b:((List Rect)×Int)→Option ((List Rect))) (c:(List Rect)):Option ((List Rect)):=
 gd (I64 (a+1)) <|
 b (c,(a+1))
def G5 (F:Nat) (e:(List Rg_)) (c:(List Rect)) (a:Int) (b:((List Rect)×Int)→Option ((List Rect))) (d:Bool):Option ((List Rect)):=
 br d ((W8 F c ((gl e a.toNat).g_.t_) (1:Int)).bind fun i=>
 Q2u F a b i) (Q2u F a b c)
def Q7k (F:Nat) (a:(List Rect)):Option ((List Rect)):=
 some a
def Z0u (F:Nat) (b:(List Rg_)) (e:(List Crop)) (k:Int) (j:Int) (i:Int) (d:((List Rect)×Int)→Option ((List Rect))) (c:(List Rect)) (a:Int):Option ((List Rect)):=
 br (decide (a<((List.length b:Nat):Int))) (gd (0≤a∧a<((List.length b:Nat):Int)) <|
 br (((gl b a.toNat).y_)==k) (br (decide (j<0)) (br (i==0) (G5 F b c a d true) (gd (0≤((gl b a.toNat).c_)∧((gl b a.toNat).c_)<((List.length e:Nat):Int)) <|
 G5 F b c a d ((Q6O .i64 ((gl e ((gl b a.toNat).c_).toNat).m_) i)==i))) (gd (0≤((gl b a.toNat).c_)∧((gl b a.toNat).c_)<((List.length e:Nat):Int)) <|
 br (((gl e ((gl b a.toNat).c_).toNat).f_)==j) (br (i==0) (G5 F b c a d true) (gd (0≤((gl b a.toNat).c_)∧((gl b a.toNat).c_)<((List.length e:Nat):Int)) <|
 G5 F b c a d ((Q6O .i64 ((gl e ((gl b a.toNat).c_).toNat).m_) i)==i))) (G5 F b c a d false))) (G5 F b c a d false)) (Q7k F c)
def Q3n (F:Nat) (a:(List Rg_)) (b:(List Crop)) (c:Int) (d:Int) (e:Int):Option ((List Rect)):=
 Z4 (fun again (z:(List Rect)×Int)=>Z0u F a b c d e again z.1 z.2) F (([]:List Rect),(0:Int))
def Q3f (F:Nat) (a:Int) (b:(Int)→Option (Bool)) (c:Bool):Option (Bool):=
 br c (some false) (gd (I64 (a+1)) <|
 b (a+1))
def Q4Z (F:Nat) (a:Int) (c:Bool) (b:(Int)→Option (Bool)) (d:Bool):Option (Bool):=
 br (!c) (br (a==0) (Q3f F a b true) (Q3f F a b (!d))) (Q3f F a b false)
def Q5a (F:Nat) (b:ByteArray) (a:Int) (c:(Int)→Option (Bool)) (d:Bool):Option (Bool):=
 gd (0≤a∧a<((b.size:Nat):Int)) <|
 br (decide ((48:Int)≤(sAt b a))) (gd (0≤a∧a<((b.size:Nat):Int)) <|
 Q4Z F a d c (decide ((sAt b a)≤57))) (Q4Z F a d c false)
def Q4Y (F:Nat) (a:Bool):Option (Bool):=
 some a
def Q9L (F:Nat) (a:ByteArray):Option (Bool):=
 br (decide ((1:Int)≤((a.size:Nat):Int))) (Q4Y F (decide (((a.size:Nat):Int)≤(12:Int)))) (Q4Y F false)
def Z3p (F:Nat) (b:ByteArray) (c:(Int)→Option (Bool)) (a:Int):Option (Bool):=
 br (decide (a<((b.size:Nat):Int))) (gd (0≤a∧a<((b.size:Nat):Int)) <|
 br (decide ((97:Int)≤(sAt b a))) (gd (0≤a∧a<((b.size:Nat):Int)) <|
 Q5a F b a c (decide ((sAt b a)≤122))) (Q5a F b a c false)) (Q9L F b)
def Q8D (F:Nat) (a:ByteArray):Option (Bool):=
 Z4 (fun again (z:Int)=>Z3p F a again z) F (0:Int)
def Q5s (F:Nat) (a:Int) (b:(Int)→Option (Int)) (c:Bool):Option (Int):=
 br c (some (6:Int)) (gd (I64 (a+1)) <|
 b (a+1))
def Q3p (F:Nat) (b:(List Crop)) (a:Int) (c:(Int)→Option (Int)) (d:Bool):Option (Int):=
 br d (some (14:Int)) (br (decide ((0:Int)<a)) (gd (I64 (a-1)) <|
 gd (0≤(a-1)∧(a-1)<((List.length b:Nat):Int)) <|
 Q5s F a c (sLt ((gl b a.toNat).n_) ((gl b (a-1).toNat).n_)||sEq ((gl b a.toNat).n_) ((gl b (a-1).toNat).n_))) (Q5s F a c false))
def Q3q (F:Nat) (b:(List Crop)) (a:Int) (c:(Int)→Option (Int)) (d:Bool):Option (Int):=
 br d (some (2:Int)) (br (decide (((gl b a.toNat).m_)<0)) (Q3p F b a c true) (Q3p F b a c (decide ((31:Int)<((gl b a.toNat).m_)))))
def Z3D (F:Nat):Option (Int):=
 some (0:Int)
def Q7G (F:Nat) (b:(List Crop)) (c:(Int)→Option (Int)) (a:Int):Option (Int):=
 br (decide (a<((List.length b:Nat):Int))) (gd (0≤a∧a<((List.length b:Nat):Int)) <|
 (Q8D F ((gl b a.toNat).n_)).bind fun d=>
 br (!d) (some (5:Int)) (br (decide (((gl b a.toNat).f_)<0)) (Q3q F b a c true) (Q3q F b a c (decide ((40:Int)<((gl b a.toNat).f_)))))) (Z3D F)
def y5 (F:Nat) (a:(List Crop)):Option (Int):=
 br (decide ((40:Int)<((List.length a:Nat):Int))) (some (1:Int)) (Z4 (fun again (z:Int)=>Q7G F a again z) F (0:Int))
def Q7v (F:Nat) (a:Rg_) (b:(List Crop)):Option (Bool):=
 some (decide (((List.length b:Nat):Int)≤a.c_))
def Q4p (F:Nat) (a:(List Rg_)) (b:(List Crop)):Option (Int):=
 (Q5r F a).bind fun c=>
 br (c != (0:Int)) (some c) ((y5 F b).bind fun d=>
 br (d != (0:Int)) (some d) ((U5 F a (fun y0=>Q7v F y0 b)).bind fun e=>
 br e (some (13:Int)) (some (0:Int))))
def G3 (F:Nat) (a:Int) (b:(Int)→Option (Bool)) (c:Bool):Option (Bool):=
 br c (some false) (gd (I64 (a+1)) <|
 b (a+1))
def Z3A (F:Nat):Option (Bool):=
 some true
def Q7C (F:Nat) (b:ByteArray) (c:(Int)→Option (Bool)) (a:Int):Option (Bool):=
 br (decide (a<((b.size:Nat):Int))) (gd (0≤a∧a<((b.size:Nat):Int)) <|
 br (decide ((sAt b a)<97)) (gd (0≤a∧a<((b.size:Nat):Int)) <|
 br (decide ((sAt b a)<48)) (G3 F a c true) (gd (0≤a∧a<((b.size:Nat):Int)) <|
 G3 F a c (decide ((57:Int)<(sAt b a))))) (gd (0≤a∧a<((b.size:Nat):Int)) <|
 br (decide ((122:Int)<(sAt b a))) (gd (0≤a∧a<((b.size:Nat):Int)) <|
 br (decide ((sAt b a)<48)) (G3 F a c true) (gd (0≤a∧a<((b.size:Nat):Int)) <|
 G3 F a c (decide ((57:Int)<(sAt b a))))) (G3 F a c false))) (Z3A F)
def Q1b (F:Nat) (b:ByteArray) (a:Bool):Option (Bool):=
 br a (some false) (Z4 (fun again (z:Int)=>Q7C F b again z) F (0:Int))
def Q9h (F:Nat) (a:ByteArray):Option (Bool):=
 br (decide (((a.size:Nat):Int)<(1:Int))) (Q1b F a true) (br (decide ((12:Int)<((a.size:Nat):Int))) (Q1b F a true) (gd (0≤(0:Int)∧(0:Int)<((a.size:Nat):Int)) <|
 br (decide ((sAt a (0:Int))<97)) (Q1b F a true) (gd (0≤(0:Int)∧(0:Int)<((a.size:Nat):Int)) <|
 Q1b F a (decide ((122:Int)<(sAt a (0:Int)))))))
def Q4F (F:Nat) (a:Bool):Option (Int):=
 br a (some (14:Int)) (some (0:Int))
def Q4G (F:Nat) (a:Crop) (b:Bool):Option (Int):=
 br b (some (2:Int)) (br (decide (a.m_<0)) (Q4F F true) (Q4F F (decide ((31:Int)<a.m_))))
def Z0x (F:Nat) (a:Crop):Option (Int):=
 (Q9h F a.n_).bind fun b=>
 br (!b) (some (5:Int)) (br (decide (a.f_<0)) (Q4G F a true) (Q4G F a (decide ((40:Int)<a.f_))))
def Q4d (F:Nat) (a:Int) (b:(Int)→Option (Int)) (c:Bool):Option (Int):=
 br c (some (6:Int)) (gd (I64 (a+1)) <|
 b (a+1))
def Z2n (F:Nat):Option (Int):=
 some (0:Int)
def Q6u (F:Nat) (b:(List Crop)) (c:(Int)→Option (Int)) (a:Int):Option (Int):=
 br (decide (a<((List.length b:Nat):Int))) (gd (0≤a∧a<((List.length b:Nat):Int)) <|
 (Z0x F (gl b a.toNat)).bind fun d=>
 br (d != (0:Int)) (some d) (br (decide ((0:Int)<a)) (gd (I64 (a-1)) <|
 gd (0≤(a-1)∧(a-1)<((List.length b:Nat):Int)) <|
 Q4d F a c (sLt ((gl b a.toNat).n_) ((gl b (a-1).toNat).n_)||sEq ((gl b a.toNat).n_) ((gl b (a-1).toNat).n_))) (Q4d F a c false))) (Z2n F)
def Q0D (F:Nat) (a:(List Crop)):Option (Int):=
 br (decide ((40:Int)<((List.length a:Nat):Int))) (some (1:Int)) (Z4 (fun again (z:Int)=>Q6u F a again z) F (0:Int))
def Q2D (F:Nat) (a:Int) (b:(List Crop)) (c:Int):Option (Bool):=
 gd (0≤a∧a<((List.length b:Nat):Int)) <|
 some (((gl b a.toNat).f_)==c)
def Q6F (F:Nat) (a:Bool):Option (Bool):=
 some a
def Q6G (F:Nat) (a:Bool) (b:Bool):Option (Bool):=
 br a (Q6F F b) (Q6F F false)
def Z1C (F:Nat) (a:(List Rect)):Option ((List Rect)):=
 some a
def Q1A (F:Nat) (d:(List Rg_)) (e:(List Crop)) (i:Int) (j:Int) (c:((List Rect)×Int)→Option ((List Rect))) (b:(List Rect)) (a:Int):Option ((List Rect)):=
 br (decide (a≤i)) ((Q1Z F d a (fun y0=>Q2D F y0 e j)).bind fun k=>
 (Q3l F b k (fun y0 y1=>Q6G F y0 y1)).bind fun l=>
 gd (I64 (a+1)) <|
 c (l,(a+1))) (Z1C F b)
def Q6H (F:Nat) (b:(List Rg_)) (c:(List Crop)) (a:Int) (e:Int) (d:Int):Option ((List Rect)):=
 (Q1Z F b a (fun y0=>Q2D F y0 c d)).bind fun i=>
 gd (I64 (a+1)) <|
 Z4 (fun again (z:(List Rect)×Int)=>Q1A F b c e d again z.1 z.2) F (i,(a+1))
def Q7T (F:Nat) (a:(List Crop)) (b:(List Int)) (c:Int):Option (Tape×(List Crop)):=
 some ((⟨b,c⟩:Tape),a)
def y9 (F:Nat) (c:Tape×Int) (k:(Int×(List Int)×Int×(List Crop))→Option (Tape×(List Crop))) (a:Int) (i:(List Int)) (j:Int) (d:(List Crop)):Option (Tape×(List Crop)):=
 br (decide (a<((List.length (([(ByteArray.mk #[98,97,114,108,101,121]),(ByteArray.mk #[99,108,111,118,101,114]),(ByteArray.mk #[103,114,97,115,115]),(ByteArray.mk #[109,97,105,122,101]),(ByteArray.mk #[111,97,116,115]),(ByteArray.mk #[114,121,101]),(ByteArray.mk #[118,101,116,99,104]),(ByteArray.mk #[119,104,101,97,116])]:List ByteArray).take c.2.toNat):Nat):Int))) (gd (0≤a∧a<((List.length (([(ByteArray.mk #[98,97,114,108,101,121]),(ByteArray.mk #[99,108,111,118,101,114]),(ByteArray.mk #[103,114,97,115,115]),(ByteArray.mk #[109,97,105,122,101]),(ByteArray.mk #[111,97,116,115]),(ByteArray.mk #[114,121,101]),(ByteArray.mk #[118,101,116,99,104]),(ByteArray.mk #[119,104,101,97,116])]:List ByteArray).take c.2.toNat):Nat):Int)) <|
 (Y4 F (⟨i,j⟩:Tape) (3:Int)).bind fun e=>
 (Y4 F e.1 (8:Int)).bind fun b=>
 gd (0≤b.2∧b.2<((List.length ([(0:Int),(0:Int),(0:Int),(2:Int),(20:Int),(8:Int),(1:Int),(31:Int)]:List Int):Nat):Int)) <|
 gd ((List.length d)+(List.length ([(⟨(gl (([(ByteArray.mk #[98,97,114,108,101,121]),(ByteArray.mk #[99,108,111,118,101,114]),(ByteArray.mk #[103,114,97,115,115]),(ByteArray.mk #[109,97,105,122,101]),(ByteArray.mk #[111,97,116,115]),(ByteArray.mk #[114,121,101]),(ByteArray.mk #[118,101,116,99,104]),(ByteArray.mk #[119,104,101,97,116])]:List ByteArray).take c.2.toNat) a.toNat),e.2,(gl ([(0:Int),(0:Int),(0:Int),(2:Int),(20:Int),(8:Int),(1:Int),(31:Int)]:List Int) b.2.toNat)⟩:Crop)]:List Crop))≤LIM) <|
 gd (I64 (a+1)) <|
 k ((a+1),b.1.l_,b.1.at_,(d++([(⟨(gl (([(ByteArray.mk #[98,97,114,108,101,121]),(ByteArray.mk #[99,108,111,118,101,114]),(ByteArray.mk #[103,114,97,115,115]),(ByteArray.mk #[109,97,105,122,101]),(ByteArray.mk #[111,97,116,115]),(ByteArray.mk #[114,121,101]),(ByteArray.mk #[118,101,116,99,104]),(ByteArray.mk #[119,104,101,97,116])]:List ByteArray).take c.2.toNat) a.toNat),e.2,(gl ([(0:Int),(0:Int),(0:Int),(2:Int),(20:Int),(8:Int),(1:Int),(31:Int)]:List Int) b.2.toNat)⟩:Crop)]:List Crop)))) (Q7T F d i j)
def Q1P (F:Nat) (b:Tape):Option (Tape×(List Crop)):=
 (J1 F b (3:Int) (8:Int)).bind fun a=>
 gd (0≤a.2∧a.2≤((List.length ([(ByteArray.mk #[98,97,114,108,101,121]),(ByteArray.mk #[99,108,111,118,101,114]),(ByteArray.mk #[103,114,97,115,115]),(ByteArray.mk #[109,97,105,122,101]),(ByteArray.mk #[111,97,116,115]),(ByteArray.mk #[114,121,101]),(ByteArray.mk #[118,101,116,99,104]),(ByteArray.mk #[119,104,101,97,116])]:List ByteArray):Nat):Int)) <|
 Z4 (fun again (z:Int×(List Int)×Int×(List Crop))=>y9 F a again z.1 z.2.1 z.2.2.1 z.2.2.2) F ((0:Int),a.1.l_,a.1.at_,([]:List Crop))
def Q9K (F:Nat) (a:(List Rect)) (b:(List Int)) (c:Int):Option (Tape×Re_):=
 some ((⟨b,c⟩:Tape),(⟨a⟩:Re_))
def Q9m (F:Nat) (d:Tape) (c:Int) (e:Int):Option (Tape×Re_):=
 (Q0u F d c e).bind fun a=>
 br (((List.length a.2.t_:Nat):Int)==(0:Int)) ((Q0F F a.1 c).bind fun b=>
 Q9K F ([b.2]:List Rect) b.1.l_ b.1.at_) (Q9K F a.2.t_ a.1.l_ a.1.at_)
def Z2c (F:Nat) (a:Int):Option (Int):=
 some a
def Z2d (F:Nat) (b:(List Rect)) (d:(Int×Int)→Option (Int)) (c:Int) (a:Int):Option (Int):=
 br (decide (a<((List.length b:Nat):Int))) (gd (0≤a∧a<((List.length b:Nat):Int)) <|
 gd (I64 (((gl b a.toNat).R_)-((gl b a.toNat).L_))) <|
 gd (I64 (((gl b a.toNat).H_)-((gl b a.toNat).w_))) <|
 gd (I64 ((((gl b a.toNat).R_)-((gl b a.toNat).L_))*(((gl b a.toNat).H_)-((gl b a.toNat).w_)))) <|
 gd (I64 (c+((((gl b a.toNat).R_)-((gl b a.toNat).L_))*(((gl b a.toNat).H_)-((gl b a.toNat).w_))))) <|
 gd (I64 (a+1)) <|
 d ((c+((((gl b a.toNat).R_)-((gl b a.toNat).L_))*(((gl b a.toNat).H_)-((gl b a.toNat).w_)))),(a+1))) (Z2c F c)
def Q5O (F:Nat) (a:(List Rect)):Option (Int):=
 Z4 (fun again (z:Int×Int)=>Z2d F a again z.1 z.2) F ((0:Int),(0:Int))
def Z3w (F:Nat) (a:Int):Option (Int):=
 some a
def Z3x (F:Nat) (b:(List Rect)) (d:(Int×Int)→Option (Int)) (c:Int) (a:Int):Option (Int):=
 br (decide (a<((List.length b:Nat):Int))) (gd (0≤a∧a<((List.length b:Nat):Int)) <|
 gd (I64 (((gl b a.toNat).R_)-((gl b a.toNat).L_))) <|
 gd (I64 (((gl b a.toNat).H_)-((gl b a.toNat).w_))) <|
 gd (I64 ((((gl b a.toNat).R_)-((gl b a.toNat).L_))*(((gl b a.toNat).H_)-((gl b a.toNat).w_)))) <|
 gd (I64 (c+((((gl b a.toNat).R_)-((gl b a.toNat).L_))*(((gl b a.toNat).H_)-((gl b a.toNat).w_))))) <|
 gd (I64 (a+1)) <|
 d ((c+((((gl b a.toNat).R_)-((gl b a.toNat).L_))*(((gl b a.toNat).H_)-((gl b a.toNat).w_)))),(a+1))) (Z3w F c)
def Q7n (F:Nat) (a:(List Rect)):Option (Int):=
 Z4 (fun again (z:Int×Int)=>Z3x F a again z.1 z.2) F ((0:Int),(0:Int))
def Q7r (F:Nat) (a:Re_):Option (Int):=
 (Q0E F a).bind fun b=>
 br (!b) (some (0:Int)) ((Q7n F a.t_).bind fun c=>
 some c)
def Q9X (F:Nat) (a:(List Rect)):Option (Re_×Int):=
 br (decide ((120:Int)<((List.length a:Nat):Int))) (some ((⟨([]:List Rect)⟩:Re_),(1:Int))) (some ((⟨a⟩:Re_),(0:Int)))
def Z3y (F:Nat) (b:(List Rect)):Option (Re_×Int):=
 (Q8l F b ([]) (1:Int)).bind fun c=>
 (Q9X F c).bind fun a=>
 some ((⟨a.1.t_⟩:Re_),a.2)
def Z7N (F:Nat) (b:(List Rect)) (c:(Int)→Option (Re_×Int)) (a:Int):Option (Re_×Int):=
 br (decide (a<((List.length b:Nat):Int))) (gd (0≤a∧a<((List.length b:Nat):Int)) <|
 (Q2R F (gl b a.toNat)).bind fun d=>
 br (!d) (some ((⟨([]:List Rect)⟩:Re_),(2:Int))) (gd (I64 (a+1)) <|
 c (a+1))) (Z3y F b)
def Z3S (F:Nat) (a:(List Rect)):Option (Re_×Int):=
 br (decide ((120:Int)<((List.length a:Nat):Int))) (some ((⟨([]:List Rect)⟩:Re_),(1:Int))) (Z4 (fun again (z:Int)=>Z7N F a again z) F (0:Int))
def Q7d (F:Nat) (a:(List Rect)) (b:(List Int)) (c:Int):Option (Tape×Re_):=
 (Z3S F a).bind fun d=>
 some ((⟨b,c⟩:Tape),(⟨d.1.t_⟩:Re_))
def Z1K (F:Nat) (j:Int) (i:(Int×(List Int)×Int×(List Rect))→Option (Tape×Re_)) (b:Int) (d:(List Int)) (e:Int) (c:(List Rect)):Option (Tape×Re_):=
 br (decide ((0:Int)<b)) ((Q0F F (⟨d,e⟩:Tape) j).bind fun a=>
 gd ((List.length c)+(List.length ([a.2]:List Rect))≤LIM) <|
 gd (I64 (b-1)) <|
 i ((b-1),a.1.l_,a.1.at_,(c++([a.2]:List Rect)))) (Q7d F c d e)
def Q5J (F:Nat) (c:Tape) (d:Int) (b:Int):Option (Tape×Re_):=
 gd (I64 (b+1)) <|
 (Y4 F c (b+1)).bind fun a=>
 Z4 (fun again (z:Int×(List Int)×Int×(List Rect))=>Z1K F d again z.1 z.2.1 z.2.2.1 z.2.2.2) F (a.2,a.1.l_,a.1.at_,([]:List Rect))
def Q4W (F:Nat) (a:(List Int)) (b:Int) (c:(List Rect)):Option (Tape×Re_):=
 some ((⟨a,b⟩:Tape),(⟨c⟩:Re_))
def Q2z (F:Nat) (d:Tape) (c:Int) (e:Int):Option (Tape×Re_):=
 (Q5J F d c e).bind fun a=>
 br (((List.length a.2.t_:Nat):Int)==(0:Int)) ((Q0F F a.1 c).bind fun b=>
 Q4W F b.1.l_ b.1.at_ ([b.2]:List Rect)) (Q4W F a.1.l_ a.1.at_ a.2.t_)
def Q0v (F:Nat) (a:Int) (b:(Int×(List Int)×Int×(List Line))→Option (Tape×(List Line)×(List Int)×(List Re_))) (c:(List Int)) (d:Int) (e:(List Line)):Option (Tape×(List Line)×(List Int)×(List Re_)):=
 gd (I64 (a-1)) <|
 b ((a-1),c,d,e)
def Q0w (F:Nat) (l:(List Crop)) (k:Int) (b:(List Line)) (d:Tape×Int) (e:Tape×Re_) (j:(Int×(List Int)×Int×(List Line))→Option (Tape×(List Line)×(List Int)×(List Re_))) (c:(List Rect)):Option (Tape×(List Line)×(List Int)×(List Re_)):=
 br (decide ((0:Int)<((List.length c:Nat):Int))) (gd (I64 (d.2+(1:Int))) <|
 (Y4 F e.1 ((List.length l:Nat):Int)).bind fun i=>
 (Y4 F i.1 (15:Int)).bind fun a=>
 gd (I64 ((1:Int)+a.2)) <|
 gd ((List.length b)+(List.length ([(⟨(d.2+(1:Int)),(⟨c⟩:Re_),i.2,((1:Int)+a.2)⟩:Line)]:List Line))≤LIM) <|
 Q0v F k j a.1.l_ a.1.at_ (b++([(⟨(d.2+(1:Int)),(⟨c⟩:Re_),i.2,((1:Int)+a.2)⟩:Line)]:List Line))) (Q0v F k j e.1.l_ e.1.at_ b)
def Q2W (F:Nat) (j:(List Crop)) (i:Int) (b:(List Line)) (k:Tape×Int) (l:Tape×Re_) (d:(Int×(List Int)×Int×(List Line))→Option (Tape×(List Line)×(List Int)×(List Re_))) (e:((List Rect)×Int)→Option (Tape×(List Line)×(List Int)×(List Re_))) (c:(List Rect)) (a:Int):Option (Tape×(List Line)×(List Int)×(List Re_)):=
 br (decide (a<((List.length b:Nat):Int))) (gd (0≤a∧a<((List.length b:Nat):Int)) <|
 (W8 F c ((gl b a.toNat).g_.t_) (3:Int)).bind fun m=>
 gd (I64 (a+1)) <|
 e (m,(a+1))) (Q0w F j i b k l d c)
def Q1r (F:Nat) (j:(List Crop)) (b:(List Re_)) (d:Int) (e:(List Line)) (a:Tape×Int) (k:Tape×Re_) (c:(Int×(List Int)×Int×(List Line))→Option (Tape×(List Line)×(List Int)×(List Re_))) (i:(List Rect)):Option (Tape×(List Line)×(List Int)×(List Re_)):=
 gd (0≤a.2∧a.2<((List.length b:Nat):Int)) <|
 (W8 F i ((gl b a.2.toNat).t_) (2:Int)).bind fun l=>
 Z4 (fun again (z:(List Rect)×Int)=>Q2W F j d e a k c again z.1 z.2) F (l,(0:Int))
def Q2X (F:Nat) (m:(List Crop)) (j:(List Re_)) (k:Int) (l:(List Line)) (c:Tape×Int) (d:Tape×Re_) (e:(Int×(List Int)×Int×(List Line))→Option (Tape×(List Line)×(List Int)×(List Re_))) (i:(Int×(List Rect))→Option (Tape×(List Line)×(List Int)×(List Re_))) (a:Int) (b:(List Rect)):Option (Tape×(List Line)×(List Int)×(List Re_)):=
 br (decide (a<((List.length d.2.t_:Nat):Int))) (gd (0≤a∧a<((List.length b:Nat):Int)) <|
 gd (I64 ((10:Int)*c.2)) <|
 gd (I64 (((gl b a.toNat).L_)+((10:Int)*c.2))) <|
 gd (0≤a∧a<((List.length b:Nat):Int)) <|
 gd (I64 ((10:Int)*c.2)) <|
 gd (I64 (((gl b a.toNat).R_)+((10:Int)*c.2))) <|
 gd (0≤a∧a<((List.length b:Nat):Int)) <|
 gd (0≤a∧a<((List.length (List.set b a.toNat (⟨(((gl b a.toNat).L_)+((10:Int)*c.2)),(gl b a.toNat).w_,(gl b a.toNat).R_,(gl b a.toNat).H_⟩:Rect)):Nat):Int)) <|
 gd (I64 (a+1)) <|
 i ((a+1),(List.set (List.set b a.toNat (⟨(((gl b a.toNat).L_)+((10:Int)*c.2)),(gl b a.toNat).w_,(gl b a.toNat).R_,(gl b a.toNat).H_⟩:Rect)) a.toNat (⟨(gl (List.set b a.toNat (⟨(((gl b a.toNat).L_)+((10:Int)*c.2)),(gl b a.toNat).w_,(gl b a.toNat).R_,(gl b a.toNat).H_⟩:Rect)) a.toNat).L_,(gl (List.set b a.toNat (⟨(((gl b a.toNat).L_)+((10:Int)*c.2)),(gl b a.toNat).w_,(gl b a.toNat).R_,(gl b a.toNat).H_⟩:Rect)) a.toNat).w_,(((gl b a.toNat).R_)+((10:Int)*c.2)),(gl (List.set b a.toNat (⟨(((gl b a.toNat).L_)+((10:Int)*c.2)),(gl b a.toNat).w_,(gl b a.toNat).R_,(gl b a.toNat).H_⟩:Rect)) a.toNat).H_⟩:Rect)))) (Q1r F m j k l c d e b)
def Q9l (F:Nat) (a:(List Int)) (b:(List Re_)) (c:(List Line)) (d:(List Int)) (e:Int):Option (Tape×(List Line)×(List Int)×(List Re_)):=
 some ((⟨d,e⟩:Tape),c,a,b)
def K7 (F:Nat) (m:(List Crop)) (a:(List Int)) (b:(List Re_)) (l:(Int×(List Int)×Int×(List Line))→Option (Tape×(List Line)×(List Int)×(List Re_))) (c:Int) (d:(List Int)) (e:Int) (i:(List Line)):Option (Tape×(List Line)×(List Int)×(List Re_)):=
 br (decide ((0:Int)<c)) ((Y4 F (⟨d,e⟩:Tape) ((List.length a:Nat):Int)).bind fun j=>
 (Q2z F j.1 (9:Int) (2:Int)).bind fun k=>
 Z4 (fun again (z:Int×(List Rect))=>Q2X F m b c i j k l again z.1 z.2) F ((0:Int),k.2.t_)) (Q9l F a b i d e)
def Q1s (F:Nat) (j:(List Crop)) (b:Int) (c:(List Int)) (d:Int) (e:(List Int)) (i:(List Re_)):Option (Tape×(List Line)×(List Int)×(List Re_)):=
 gd (I64 (b+1)) <|
 (Y4 F (⟨c,d⟩:Tape) (b+1)).bind fun a=>
 Z4 (fun again (z:Int×(List Int)×Int×(List Line))=>K7 F j e i again z.1 z.2.1 z.2.2.1 z.2.2.2) F (a.2,a.1.l_,a.1.at_,([]:List Line))
def K8 (F:Nat) (l:(List Crop)) (m:Int) (k:(Int×(List Int)×Int×(List Int)×(List Re_))→Option (Tape×(List Line)×(List Int)×(List Re_))) (d:Int) (i:(List Int)) (j:Int) (a:(List Int)) (e:(List Re_)):Option (Tape×(List Line)×(List Int)×(List Re_)):=
 br (decide ((0:Int)<d)) (gd (I64 (((List.length a:Nat):Int)+(1:Int))) <|
 gd ((List.length a)+(List.length ([(((List.length a:Nat):Int)+(1:Int))]:List Int))≤LIM) <|
 gd (I64 ((10:Int)*((List.length a:Nat):Int))) <|
 gd (I64 ((10:Int)*((List.length a:Nat):Int))) <|
 (J1 F (⟨i,j⟩:Tape) (2:Int) (9:Int)).bind fun b=>
 gd (I64 (((10:Int)*((List.length a:Nat):Int))+b.2)) <|
 (J1 F b.1 (2:Int) (9:Int)).bind fun c=>
 gd ((List.length e)+(List.length ([(⟨([(⟨((10:Int)*((List.length a:Nat):Int)),0,(((10:Int)*((List.length a:Nat):Int))+b.2),c.2⟩:Rect)]:List Rect)⟩:Re_)]:List Re_))≤LIM) <|
 gd (I64 (d-1)) <|
 k ((d-1),c.1.l_,c.1.at_,(a++([(((List.length a:Nat):Int)+(1:Int))]:List Int)),(e++([(⟨([(⟨((10:Int)*((List.length a:Nat):Int)),0,(((10:Int)*((List.length a:Nat):Int))+b.2),c.2⟩:Rect)]:List Rect)⟩:Re_)]:List Re_)))) (Q1s F l m i j a e)
def Q5B (F:Nat) (b:Tape) (c:(List Crop)) (d:Int):Option (Tape×(List Line)×(List Int)×(List Re_)):=
 (J1 F b (1:Int) (3:Int)).bind fun a=>
 Z4 (fun again (z:Int×(List Int)×Int×(List Int)×(List Re_))=>K8 F c d again z.1 z.2.1 z.2.2.1 z.2.2.2.1 z.2.2.2.2) F (a.2,a.1.l_,a.1.at_,([]:List Int),([]:List Re_))
def Q0J (F:Nat) (a:Int) (b:(Int)→Option (Int)) (c:Bool):Option (Int):=
 br c (some (13:Int)) (gd (I64 (a+1)) <|
 b (a+1))
def Q6b (F:Nat) (a:Int) (b:(Int)→Option (Int)):Option (Int):=
 gd (I64 (a+1)) <|
 b (a+1)
def Q3y (F:Nat) (c:(List Line)) (b:Int) (d:(Int)→Option (Int)) (e:(Int)→Option (Int)) (a:Int):Option (Int):=
 br (decide (a<((List.length (c.take b.toNat):Nat):Int))) (gd (0≤a∧a<((List.length (c.take b.toNat):Nat):Int)) <|
 (Q4v F ((gl c b.toNat).g_) ((gl (c.take b.toNat) a.toNat).g_)).bind fun i=>
 br i (some (11:Int)) (gd (I64 (a+1)) <|
 e (a+1))) (Q6b F b d)
def Q9x (F:Nat):Option (Int):=
 some (0:Int)
def Q3z (F:Nat) (b:(List Line)) (c:(Int)→Option (Int)) (a:Int):Option (Int):=
 br (decide (a<((List.length b:Nat):Int))) (gd (0≤a∧a<((List.length b:Nat):Int)) <|
 gd (0≤a∧a≤((List.length b:Nat):Int)) <|
 Z4 (fun again (z:Int)=>Q3y F b a c again z) F (0:Int)) (Q9x F)
def Q6c (F:Nat) (a:(List Line)):Option (Int):=
 Z4 (fun again (z:Int)=>Q3z F a again z) F (0:Int)
def Q3A (F:Nat) (b:(List Line)) (c:(Int)→Option (Int)) (a:Int):Option (Int):=
 br (decide (a<((List.length b:Nat):Int))) (gd (0≤a∧a<((List.length b:Nat):Int)) <|
 (Q0Y F ((gl b a.toNat).g_)).bind fun d=>
 br (!d) (some (7:Int)) (gd (I64 (a+1)) <|
 c (a+1))) (Q6c F b)
def Q6d (F:Nat) (a:(List Line)):Option (Int):=
 Z4 (fun again (z:Int)=>Q3A F a again z) F (0:Int)
def Q3B (F:Nat) (b:(List Line)) (d:(List Crop)) (c:(Int)→Option (Int)) (a:Int):Option (Int):=
 br (decide (a<((List.length b:Nat):Int))) (gd (0≤a∧a<((List.length b:Nat):Int)) <|
 br (decide (((gl b a.toNat).c_)<0)) (Q0J F a c true) (Q0J F a c (decide (((List.length d:Nat):Int)≤((gl b a.toNat).c_))))) (Q6d F b)
def Q1l (F:Nat) (a:(List Line)) (b:(List Crop)):Option (Int):=
 br (decide ((20:Int)<((List.length a:Nat):Int))) (some (1:Int)) ((y5 F b).bind fun c=>
 br (c != (0:Int)) (some c) (Z4 (fun again (z:Int)=>Q3B F a b again z) F (0:Int)))
def Q1m (F:Nat) (a:Int) (b:(Int×(List Line))→Option ((List Line))) (c:(List Line)):Option ((List Line)):=
 gd (I64 (a+1)) <|
 b ((a+1),c)
def Q8J (F:Nat) (a:(List Line)):Option ((List Line)):=
 some a
def Q8K (F:Nat) (b:(List Line)) (e:(List Crop)) (d:(Int×(List Line))→Option ((List Line))) (a:Int) (c:(List Line)):Option ((List Line)):=
 br (decide (a<((List.length b:Nat):Int))) (gd (0≤a∧a<((List.length b:Nat):Int)) <|
 gd (0≤((gl b a.toNat).c_)∧((gl b a.toNat).c_)<((List.length e:Nat):Int)) <|
 br ((Q6O .i64 ((gl e ((gl b a.toNat).c_).toNat).m_) (3:Int))==0) (gd ((List.length c)+(List.length ([(gl b a.toNat)]:List Line))≤LIM) <|
 Q1m F a d (c++([(gl b a.toNat)]:List Line))) (Q1m F a d c)) (Q8J F c)
def Q0k (F:Nat) (a:(List Line)) (b:(List Crop)):Option ((List Line)):=
 Z4 (fun again (z:Int×(List Line))=>Q8K F a b again z.1 z.2) F ((0:Int),([]:List Line))
def Q3R (F:Nat) (a:Re_):Option (Int):=
 (Q0Y F a).bind fun b=>
 br (!b) (some (0:Int)) ((Q5O F a.t_).bind fun c=>
 some c)
def Q3N (F:Nat) (a:(List A2_)):Option ((List A2_)×Int):=
 (Z9m A2_.e0_ a).bind fun b=>
 some (b,(0:Int))
def y8 (F:Nat) (c:((List (Int×Int))×(List A2_))→Option ((List A2_)×Int)) (d:(List (Int×Int))) (b:(List A2_)):Option ((List A2_)×Int):=
 nextM d (Q3N F b) (fun a e=>
 gd ((List.length b)+(List.length ([(⟨a.1,a.2⟩:A2_)]:List A2_))≤LIM) <|
 c (e,(b++([(⟨a.1,a.2⟩:A2_)]:List A2_))))
def Q3O (F:Nat) (a:(List (Int×Int))):Option ((List A2_)×Int):=
 Z4 (fun again (z:(List (Int×Int))×(List A2_))=>y8 F again z.1 z.2) F (a,([]:List A2_))
def Q7P (F:Nat) (d:(List Crop)) (b:(List Line)) (i:(Int×(List (Int×Int)))→Option ((List A2_)×Int)) (a:Int) (c:(List (Int×Int))):Option ((List A2_)×Int):=
 br (decide (a<((List.length b:Nat):Int))) (gd (0≤a∧a<((List.length b:Nat):Int)) <|
 gd (0≤((gl b a.toNat).c_)∧((gl b a.toNat).c_)<((List.length d:Nat):Int)) <|
 (Q3R F ((gl b a.toNat).g_)).bind fun e=>
 gd (I64 ((Q9u ((gl d ((gl b a.toNat).c_).toNat).f_) c)+e)) <|
 gd (I64 (a+1)) <|
 i ((a+1),(Z1O ((gl d ((gl b a.toNat).c_).toNat).f_) ((Q9u ((gl d ((gl b a.toNat).c_).toNat).f_) c)+e) c))) (Q3O F c)
def K2 (F:Nat) (b:(List Line)) (a:(List Crop)):Option ((List A2_)×Int):=
 (Q1l F b a).bind fun c=>
 br (c != (0:Int)) (some ([],c)) ((Q0k F b a).bind fun d=>
 Z4 (fun again (z:Int×(List (Int×Int)))=>Q7P F a d again z.1 z.2) F ((0:Int),([]:List (Int×Int))))
def Q0Q (F:Nat) (i:(List A2_)×Int) (c:Int) (a:Int) (b:(Int×Int×Int×Int)→Option (Bool×Int)) (d:Int) (e:Int):Option (Bool×Int):=
 gd (I64 (a+1)) <|
 b ((c+((gl i.1 a.toNat).e1_)),d,e,(a+1))
def Q0P (F:Nat) (a:Bool):Option (Bool×Int):=
 some (a,(0:Int))
def G7 (F:Nat) (a:Bool):Option (Bool×Int):=
 some (a,(0:Int))
def Q4Q (F:Nat) (e:Int) (i:Int) (d:(List A2_)×Int) (a:Int) (b:Int) (c:Int):Option (Bool×Int):=
 br (decide (a≤e)) (some (true,(0:Int))) (br (decide (a≤i)) (br (decide ((2:Int)≤((List.length d.1:Nat):Int))) (gd (I64 ((4:Int)*b)) <|
 gd (I64 ((3:Int)*a)) <|
 Q0P F (decide (((4:Int)*b)≤((3:Int)*a)))) (Q0P F false)) (br (decide ((3:Int)≤((List.length d.1:Nat):Int))) (gd (I64 ((4:Int)*b)) <|
 gd (I64 ((3:Int)*a)) <|
 br (decide (((4:Int)*b)≤((3:Int)*a))) (gd (I64 (b+c)) <|
 gd (I64 ((20:Int)*(b+c))) <|
 gd (I64 ((19:Int)*a)) <|
 G7 F (decide (((20:Int)*(b+c))≤((19:Int)*a)))) (G7 F false)) (G7 F false)))
def Q8q (F:Nat) (j:Int) (k:Int) (b:(List A2_)×Int) (e:(Int×Int×Int×Int)→Option (Bool×Int)) (c:Int) (d:Int) (i:Int) (a:Int):Option (Bool×Int):=
 br (decide (a<((List.length b.1:Nat):Int))) (gd (0≤a∧a<((List.length b.1:Nat):Int)) <|
 gd (I64 (c+((gl b.1 a.toNat).e1_))) <|
 br (decide (d<((gl b.1 a.toNat).e1_))) (Q0Q F b c a e ((gl b.1 a.toNat).e1_) d) (Q0Q F b c a e d (Q8n i ((gl b.1 a.toNat).e1_)))) (Q4Q F j k b c d i)
def G8 (F:Nat) (b:Int) (c:Int) (d:(List A2_)×Int) (a:Bool):Option (Bool×Int):=
 br a (some (false,(2:Int))) (Z4 (fun again (z:Int×Int×Int×Int)=>Q8q F b c d again z.1 z.2.1 z.2.2.1 z.2.2.2) F ((0:Int),(0:Int),(0:Int),(0:Int)))
def J2 (F:Nat) (d:(List Line)) (e:(List Crop)) (a:Int) (b:Int):Option (Bool×Int):=
 (K2 F d e).bind fun c=>
 br (c.2 != (0:Int)) (some (false,c.2)) (br (decide (a<0)) (G8 F a b c true) (br (decide (b<a)) (G8 F a b c true) (G8 F a b c (decide ((268435456:Int)<b)))))
def Z2i (F:Nat):Option (Bool):=
 some true
def Q8X (F:Nat) (b:(List A2_)) (c:(List A2_)) (d:(Int)→Option (Bool)) (a:Int):Option (Bool):=
 br (decide (a<((List.length b:Nat):Int))) (gd (0≤a∧a<((List.length b:Nat):Int)) <|
 gd (0≤a∧a<((List.length c:Nat):Int)) <|
 br (!((((gl b a.toNat).e0_)==((gl c a.toNat).e0_))&&(((gl b a.toNat).e1_)==((gl c a.toNat).e1_)))) (some false) (gd (I64 (a+1)) <|
 d (a+1))) (Z2i F)
def Q2I (F:Nat) (a:(List A2_)) (b:(List A2_)):Option (Bool):=
 br (((List.length a:Nat):Int) != ((List.length b:Nat):Int)) (some false) (Z4 (fun again (z:Int)=>Q8X F a b again z) F (0:Int))
def Z0J:List Line:=[⟨0,⟨[⟨0,0,80,1⟩]⟩,1,0⟩,⟨0,⟨[⟨80,0,100,1⟩]⟩,0,0⟩]
def Q7S:List Line:=[⟨0,⟨[⟨0,0,75,1⟩]⟩,1,0⟩,⟨0,⟨[⟨75,0,100,1⟩]⟩,0,0⟩]
def Q0n:List Crop:=[⟨(ByteArray.mk #[114,121,101]),1,0⟩,⟨(ByteArray.mk #[119,104,101,97,116]),2,0⟩]
def Q7R (F:Nat):Option (Bool):=
 (J2 F Z0J Q0n 10 200).bind fun z1=>
 (J2 F Q7S Q0n 10 200).bind fun z2=>
 (K2 F Q7S Q0n).bind fun z3=>
 gd (z1=(false,0)) <| gd (z2=(true,0)) <| gd (z3.2=0) <|
 (Q2I F z3.1 [⟨1,25⟩,⟨2,75⟩]).bind fun z4=>gd (z4=true) (some true)
def Q0d (F:Nat) (a:Bool):Option (Int):=
 br a (some (2:Int)) (some (0:Int))
def Q1D (F:Nat) (a:Int) (b:Int) (c:Bool):Option (Int):=
 br c (some (18:Int)) (br (decide (a<2)) (Q0d F true) (br (decide ((10:Int)<a)) (Q0d F true) (br (decide (b<0)) (Q0d F true) (Q0d F (decide ((1000000:Int)<b))))))
def Q2g (F:Nat) (j:(List Line)) (a:(List Crop)) (k:(List Rg_)) (b:Int) (c:Int) (d:Int):Option (Int):=
 (Q1l F j a).bind fun e=>
 br (e != (0:Int)) (some e) ((Q4p F k a).bind fun i=>
 br (i != (0:Int)) (some i) (br (decide (b<0)) (Q1D F c d true) (Q1D F c d (decide ((100:Int)<b)))))
def Q2L (F:Nat) (a:Bool):Option (Bool):=
 some a
def Q2d (F:Nat) (a:Bool) (b:Bool):Option (Bool):=
 br a (Q2L F b) (Q2L F false)
def Q7O (F:Nat) (a:(List Rect)):Option ((List Rect)):=
 some a
def y7 (F:Nat) (e:(List Crop)) (l:(List Rg_)) (c:Int) (i:Int) (b:(List Line)) (k:(Int×(List Rect))→Option ((List Rect))) (a:Int) (d:(List Rect)):Option ((List Rect)):=
 br (decide (a<((List.length b:Nat):Int))) (gd (0≤a∧a<((List.length b:Nat):Int)) <|
 gd (I64 (c-i)) <|
 gd (I64 ((c-i)+1)) <|
 gd (I64 (c-1)) <|
 gd (0≤((gl b a.toNat).c_)∧((gl b a.toNat).c_)<((List.length e:Nat):Int)) <|
 (Q6H F l e ((c-i)+1) (c-1) ((gl e ((gl b a.toNat).c_).toNat).f_)).bind fun m=>
 (Q3l F ((gl b a.toNat).g_.t_) m (fun y0 y1=>Q2d F y0 y1)).bind fun j=>
 gd ((List.length d)+(List.length j)≤LIM) <|
 gd (I64 (a+1)) <|
 k ((a+1),(d++j))) (Q7O F d)
def Q0e (F:Nat) (d:(List Line)) (b:(List Crop)) (e:(List Rg_)) (c:Int) (a:Int):Option ((List Rect)):=
 gd (I64 (a-1)) <|
 br (decide (c<(a-1))) (some ([]:List Rect)) ((Q0k F d b).bind fun i=>
 Z4 (fun again (z:Int×(List Rect))=>y7 F b e c a i again z.1 z.2) F ((0:Int),([]:List Rect)))
def Q2i (F:Nat) (a:(List Line)) (b:(List Crop)) (c:(List Rg_)) (d:Int) (e:Int):Option (Re_×Int):=
 (Q2g F a b c d e (0:Int)).bind fun i=>
 br (i != (0:Int)) (some ((⟨[]⟩:Re_),i)) ((Q0e F a b c d e).bind fun k=>
 (Q5h F k).bind fun j=>
 some (j.1,j.2))
def Q2o (F:Nat) (a:Int) (b:(Int)→Option (Int)) (c:Bool):Option (Int):=
 br c (some (13:Int)) (gd (I64 (a+1)) <|
 b (a+1))
def Q8U (F:Nat) (a:Int) (b:(Int)→Option (Int)):Option (Int):=
 gd (I64 (a+1)) <|
 b (a+1)
def Q6m (F:Nat) (c:(List Line)) (b:Int) (d:(Int)→Option (Int)) (e:(Int)→Option (Int)) (a:Int):Option (Int):=
 br (decide (a<((List.length (c.take b.toNat):Nat):Int))) (gd (0≤b∧b<((List.length c:Nat):Int)) <|
 gd (0≤a∧a<((List.length c:Nat):Int)) <|
 (Q5S F ((gl c b.toNat).g_) ((gl c a.toNat).g_)).bind fun i=>
 br i (some (11:Int)) (gd (I64 (a+1)) <|
 e (a+1))) (Q8U F b d)
def Z2g (F:Nat):Option (Int):=
 some (0:Int)
def Q6n (F:Nat) (b:(List Line)) (c:(Int)→Option (Int)) (a:Int):Option (Int):=
 br (decide (a<((List.length b:Nat):Int))) (gd (0≤a∧a≤((List.length b:Nat):Int)) <|
 Z4 (fun again (z:Int)=>Q6m F b a c again z) F (0:Int)) (Z2g F)
def Q8V (F:Nat) (a:(List Line)):Option (Int):=
 Z4 (fun again (z:Int)=>Q6n F a again z) F (0:Int)
def Q6o (F:Nat) (b:(List Line)) (c:(Int)→Option (Int)) (a:Int):Option (Int):=
 br (decide (a<((List.length b:Nat):Int))) (gd (0≤a∧a<((List.length b:Nat):Int)) <|
 (Q0E F ((gl b a.toNat).g_)).bind fun d=>
 br (!d) (some (7:Int)) (gd (I64 (a+1)) <|
 c (a+1))) (Q8V F b)
def Q8W (F:Nat) (a:(List Line)):Option (Int):=
 Z4 (fun again (z:Int)=>Q6o F a again z) F (0:Int)
def Q6p (F:Nat) (b:(List Line)) (d:(List Crop)) (c:(Int)→Option (Int)) (a:Int):Option (Int):=
 br (decide (a<((List.length b:Nat):Int))) (gd (0≤a∧a<((List.length b:Nat):Int)) <|
 br (decide (((gl b a.toNat).c_)<0)) (Q2o F a c true) (Q2o F a c (decide (((List.length d:Nat):Int)≤((gl b a.toNat).c_))))) (Q8W F b)
def Q1I (F:Nat) (a:(List Line)) (b:(List Crop)):Option (Int):=
 br (decide ((20:Int)<((List.length a:Nat):Int))) (some (1:Int)) ((Q0D F b).bind fun c=>
 br (c != (0:Int)) (some c) (Z4 (fun again (z:Int)=>Q6p F a b again z) F (0:Int)))
def Q0z (F:Nat) (a:Line) (b:(List Crop)):Option (Bool):=
 gd (0≤a.c_∧a.c_<((List.length b:Nat):Int)) <|
 some ((Q6O .i64 ((gl b a.c_.toNat).m_) (3:Int))==0)
def Q1H (F:Nat) (a:Int) (b:((List Int)×Int)→Option ((List A2_)×Int)) (c:(List Int)):Option ((List A2_)×Int):=
 gd (I64 (a+1)) <|
 b (c,(a+1))
def Q1F (F:Nat) (a:Int) (b:(Int×Int)→Option ((List A2_)×Int)) (c:Int):Option ((List A2_)×Int):=
 gd (I64 (a+1)) <|
 b (c,(a+1))
def Q1G (F:Nat) (i:(List Line)) (a:Int) (b:Int) (c:(Int×Int)→Option ((List A2_)×Int)) (e:Bool):Option ((List A2_)×Int):=
 br e ((Q7r F ((gl i b.toNat).g_)).bind fun d=>
 gd (I64 (a+d)) <|
 Q1F F b c (a+d)) (Q1F F b c a)
def Q6j (F:Nat) (a:Int) (b:(Int×Int×(List A2_))→Option ((List A2_)×Int)) (c:Int) (d:(List A2_)):Option ((List A2_)×Int):=
 gd (I64 (a+1)) <|
 b (c,(a+1),d)
def Q6k (F:Nat) (c:(List Int)) (d:Int) (b:Int) (e:(List A2_)) (i:(Int×Int×(List A2_))→Option ((List A2_)×Int)) (a:Int):Option ((List A2_)×Int):=
 gd ((List.length e)+(List.length ([(⟨(gl c b.toNat),a⟩:A2_)]:List A2_))≤LIM) <|
 gd (I64 (d+a)) <|
 Q6j F b i (d+a) (e++([(⟨(gl c b.toNat),a⟩:A2_)]:List A2_))
def Q9B (F:Nat) (b:(List Line)) (d:(List Crop)) (i:(List Int)) (l:Int) (j:Int) (m:(List A2_)) (k:(Int×Int×(List A2_))→Option ((List A2_)×Int)) (e:(Int×Int)→Option ((List A2_)×Int)) (c:Int) (a:Int):Option ((List A2_)×Int):=
 br (decide (a<((List.length b:Nat):Int))) (gd (0≤a∧a<((List.length b:Nat):Int)) <|
 (Q0z F (gl b a.toNat) d).bind fun n=>
 br n (gd (0≤((gl b a.toNat).c_)∧((gl b a.toNat).c_)<((List.length d:Nat):Int)) <|
 Q1G F b c a e (((gl d ((gl b a.toNat).c_).toNat).f_)==(gl i j.toNat))) (Q1G F b c a e false)) (Q6k F i l j m k c)
def Q9A (F:Nat) (a:Int) (b:(List A2_)):Option ((List A2_)×Int):=
 some (b,a)
def Q9C (F:Nat) (i:(List Line)) (j:(List Crop)) (b:(List Int)) (e:(Int×Int×(List A2_))→Option ((List A2_)×Int)) (c:Int) (a:Int) (d:(List A2_)):Option ((List A2_)×Int):=
 br (decide (a<((List.length b:Nat):Int))) (gd (0≤a∧a<((List.length b:Nat):Int)) <|
 Z4 (fun again (z:Int×Int)=>Q9B F i j b c a d e again z.1 z.2) F ((0:Int),(0:Int))) (Q9A F c d)
def Q6l (F:Nat) (b:(List Line)) (c:(List Crop)) (a:(List Int)):Option ((List A2_)×Int):=
 Z4 (fun again (z:Int×Int×(List A2_))=>Q9C F b c a again z.1 z.2.1 z.2.2) F ((0:Int),(0:Int),([]:List A2_))
def Q9D (F:Nat) (b:(List Line)) (c:(List Crop)) (e:((List Int)×Int)→Option ((List A2_)×Int)) (d:(List Int)) (a:Int):Option ((List A2_)×Int):=
 br (decide (a<((List.length b:Nat):Int))) (gd (0≤a∧a<((List.length b:Nat):Int)) <|
 (Q0z F (gl b a.toNat) c).bind fun i=>
 br i (gd (0≤((gl b a.toNat).c_)∧((gl b a.toNat).c_)<((List.length c:Nat):Int)) <|
 (Q1j F d ((gl c ((gl b a.toNat).c_).toNat).f_)).bind fun j=>
 Q1H F a e j) (Q1H F a e d)) (Q6l F b c d)
def Q0C (F:Nat) (a:(List Line)) (b:(List Crop)):Option ((List A2_)×Int):=
 Z4 (fun again (z:(List Int)×Int)=>Q9D F a b again z.1 z.2) F (([]:List Int),(0:Int))
def Q3S (F:Nat) (a:(List Line)) (b:(List Crop)):Option ((List A2_)×Int):=
 (Q1I F a b).bind fun c=>
 br (c != (0:Int)) (some ([],c)) ((Q0C F a b).bind fun d=>
 some (d.1,(0:Int)))
def Q2q (F:Nat) (a:Int) (b:(Int×Int×Int)→Option (Bool×Int)) (c:Int) (d:Int):Option (Bool×Int):=
 gd (I64 (a+1)) <|
 b (c,d,(a+1))
def Q2p (F:Nat) (a:Bool):Option (Bool×Int):=
 some (a,(0:Int))
def Q0s (F:Nat) (a:Bool):Option (Bool×Int):=
 some (a,(0:Int))
def Q7i (F:Nat) (d:Int) (e:Int) (a:(List A2_)×Int) (b:Int) (c:Int):Option (Bool×Int):=
 br (decide (a.2≤d)) (some (true,(0:Int))) (br (decide (a.2≤e)) (br (decide ((2:Int)≤((List.length a.1:Nat):Int))) (gd (I64 ((4:Int)*b)) <|
 gd (I64 ((3:Int)*a.2)) <|
 Q2p F (decide (((4:Int)*b)≤((3:Int)*a.2)))) (Q2p F false)) (br (decide ((3:Int)≤((List.length a.1:Nat):Int))) (gd (I64 ((4:Int)*b)) <|
 gd (I64 ((3:Int)*a.2)) <|
 br (decide (((4:Int)*b)≤((3:Int)*a.2))) (gd (I64 (b+c)) <|
 gd (I64 ((20:Int)*(b+c))) <|
 gd (I64 ((19:Int)*a.2)) <|
 Q0s F (decide (((20:Int)*(b+c))≤((19:Int)*a.2)))) (Q0s F false)) (Q0s F false)))
def Z0s (F:Nat) (i:Int) (j:Int) (b:(List A2_)×Int) (d:(Int×Int×Int)→Option (Bool×Int)) (c:Int) (e:Int) (a:Int):Option (Bool×Int):=
 br (decide (a<((List.length b.1:Nat):Int))) (gd (0≤a∧a<((List.length b.1:Nat):Int)) <|
 br (decide (c<((gl b.1 a.toNat).e1_))) (Q2q F a d ((gl b.1 a.toNat).e1_) c) (Q2q F a d c (Q8n e ((gl b.1 a.toNat).e1_)))) (Q7i F i j b c e)
def Q1h (F:Nat) (b:(List Line)) (c:(List Crop)) (d:Int) (e:Int) (a:Bool):Option (Bool×Int):=
 br a (some (false,(2:Int))) ((Q0C F b c).bind fun i=>
 Z4 (fun again (z:Int×Int×Int)=>Z0s F d e i again z.1 z.2.1 z.2.2) F ((0:Int),(0:Int),(0:Int)))
def Q5k (F:Nat) (c:(List Line)) (d:(List Crop)) (a:Int) (b:Int):Option (Bool×Int):=
 (Q1I F c d).bind fun e=>
 br (e != (0:Int)) (some (false,e)) (br (decide (a<0)) (Q1h F c d a b true) (br (decide (b<a)) (Q1h F c d a b true) (Q1h F c d a b (decide ((268435456:Int)<b)))))
def Z0k (F:Nat) (a:Int):Option (Int):=
 some a
def Z0l (F:Nat) (c:(List Line)) (e:(Int×Int)→Option (Int)) (b:Int) (a:Int):Option (Int):=
 br (decide (a<((List.length c:Nat):Int))) (gd (0≤a∧a<((List.length c:Nat):Int)) <|
 (Q3R F ((gl c a.toNat).g_)).bind fun d=>
 gd (I64 (b+d)) <|
 gd (I64 (a+1)) <|
 e ((b+d),(a+1))) (Z0k F b)
def Q3i (F:Nat) (a:(List Line)):Option (Int):=
 Z4 (fun again (z:Int×Int)=>Z0l F a again z.1 z.2) F ((0:Int),(0:Int))
def Q0R (F:Nat) (a:Int) (b:(Int×Int)→Option (Bool×Int)) (c:Int):Option (Bool×Int):=
 gd (I64 (a+1)) <|
 b (c,(a+1))
def Q4R (F:Nat) (b:Int) (d:(List Line)) (a:Int):Option (Bool×Int):=
 gd (I64 (a*1000000)) <|
 (Q3i F d).bind fun c=>
 gd (I64 (b*c)) <|
 some ((decide ((b*c)≤(a*1000000))),(0:Int))
def Q8r (F:Nat) (e:(List Crop)) (j:Int) (b:(List Line)) (d:(Int×Int)→Option (Bool×Int)) (c:Int) (a:Int):Option (Bool×Int):=
 br (decide (a<((List.length b:Nat):Int))) (gd (0≤a∧a<((List.length b:Nat):Int)) <|
 gd (0≤((gl b a.toNat).c_)∧((gl b a.toNat).c_)<((List.length e:Nat):Int)) <|
 br ((Q6O .i64 ((gl e ((gl b a.toNat).c_).toNat).m_) (28:Int)) != (0:Int)) ((Q3R F ((gl b a.toNat).g_)).bind fun i=>
 gd (I64 (c+i)) <|
 Q0R F a d (c+i)) (Q0R F a d c)) (Q4R F j b c)
def Q0S (F:Nat) (c:(List Line)) (a:(List Crop)) (d:Int) (b:Bool):Option (Bool×Int):=
 br b (some (false,(2:Int))) ((Q0k F c a).bind fun e=>
 Z4 (fun again (z:Int×Int)=>Q8r F a d e again z.1 z.2) F ((0:Int),(0:Int)))
def Q2j (F:Nat) (b:(List Line)) (c:(List Crop)) (a:Int):Option (Bool×Int):=
 (Q1l F b c).bind fun d=>
 br (d != (0:Int)) (some (false,d)) (br (decide (a<0)) (Q0S F b c a true) (Q0S F b c a (decide ((1000000:Int)<a))))
def Q2r (F:Nat) (a:Int) (b:(Int×Int)→Option (Bool×Int)) (c:Int):Option (Bool×Int):=
 gd (I64 (a+1)) <|
 b (c,(a+1))
def Q2s (F:Nat) (i:(List Line)) (a:Int) (b:Int) (c:(Int×Int)→Option (Bool×Int)) (e:Bool):Option (Bool×Int):=
 br e ((Q7r F ((gl i b.toNat).g_)).bind fun d=>
 gd (I64 (a+d)) <|
 Q2r F b c (a+d)) (Q2r F b c a)
def Q7j (F:Nat) (b:Int) (c:(List A2_)×Int) (a:Int):Option (Bool×Int):=
 gd (I64 (a*1000000)) <|
 gd (I64 (c.2*b)) <|
 some ((decide ((c.2*b)≤(a*1000000))),(0:Int))
def Z0t (F:Nat) (b:(List Line)) (d:(List Crop)) (i:Int) (j:(List A2_)×Int) (e:(Int×Int)→Option (Bool×Int)) (c:Int) (a:Int):Option (Bool×Int):=
 br (decide (a<((List.length b:Nat):Int))) (gd (0≤a∧a<((List.length b:Nat):Int)) <|
 (Q0z F (gl b a.toNat) d).bind fun k=>
 br k (gd (0≤((gl b a.toNat).c_)∧((gl b a.toNat).c_)<((List.length d:Nat):Int)) <|
 Q2s F b c a e ((Q6O .i64 ((gl d ((gl b a.toNat).c_).toNat).m_) (28:Int)) != (0:Int))) (Q2s F b c a e false)) (Q7j F i j c)
def Q2t (F:Nat) (a:(List Line)) (b:(List Crop)) (d:Int) (c:Bool):Option (Bool×Int):=
 br c (some (false,(2:Int))) ((Q0C F a b).bind fun e=>
 Z4 (fun again (z:Int×Int)=>Z0t F a b d e again z.1 z.2) F ((0:Int),(0:Int)))
def Q5l (F:Nat) (b:(List Line)) (c:(List Crop)) (a:Int):Option (Bool×Int):=
 (Q1I F b c).bind fun d=>
 br (d != (0:Int)) (some (false,d)) (br (decide (a<0)) (Q2t F b c a true) (Q2t F b c a (decide ((1000000:Int)<a))))
def Q2h (F:Nat) (a:(List Line)) (b:(List Crop)) (d:(List Rg_)) (e:Int) (i:Int) (c:Int):Option (Bool×Int):=
 (Q2g F a b d e i c).bind fun j=>
 br (j != (0:Int)) (some (false,j)) ((Q0e F a b d e i).bind fun m=>
 (Q5O F m).bind fun k=>
 gd (I64 (k*1000000)) <|
 (Q0k F a b).bind fun n=>
 (Q3i F n).bind fun l=>
 gd (I64 (c*l)) <|
 some ((decide ((k*1000000)≤(c*l))),(0:Int)))
def Q4x (F:Nat) (a:Bool):Option (Int):=
 br a (some (2:Int)) (some (0:Int))
def Q2m (F:Nat) (a:Int) (b:Bool):Option (Int):=
 br b (some (18:Int)) (br (decide (a<2)) (Q4x F true) (Q4x F (decide ((10:Int)<a))))
def Q7g (F:Nat) (a:Int) (b:Int):Option (Int):=
 br (decide (a<0)) (Q2m F b true) (Q2m F b (decide ((100:Int)<a)))
def Q4y (F:Nat) (d:(List Crop)) (b:(List Rg_)) (e:Int) (i:Int) (c:(Int)→Option (Int)) (a:Int):Option (Int):=
 br (decide (a<((List.length b:Nat):Int))) (gd (0≤a∧a<((List.length b:Nat):Int)) <|
 br (decide (((List.length d:Nat):Int)≤((gl b a.toNat).c_))) (some (13:Int)) (gd (I64 (a+1)) <|
 c (a+1))) (Q7g F e i)
def Q3m (F:Nat) (c:(List Crop)) (a:(List Rg_)) (d:Int) (e:Int):Option (Int):=
 (Q3Y F a).bind fun b=>
 br (b != (0:Int)) (some b) (Z4 (fun again (z:Int)=>Q4y F c a d e again z) F (0:Int))
def Q2k (F:Nat) (a:Int) (b:((List Rect)×Int)→Option ((List Rect))) (c:(List Rect)):Option ((List Rect)):=
 gd (I64 (a+1)) <|
 b (c,(a+1))
def Q2l (F:Nat) (b:(List Rect)) (c:Int) (a:((List Rect)×Int)→Option ((List Rect))) (d:(List Rect)):Option ((List Rect)):=
 (W8 F b d (1:Int)).bind fun e=>
 Q2k F c a e
def Q0q (F:Nat) (c:(List Line)) (d:(List Crop)) (l:(List Rg_)) (m:Int) (k:(List Rect)) (a:Int) (i:((List Rect)×Int)→Option ((List Rect))) (j:((List Rect)×Int)→Option ((List Rect))) (e:(List Rect)) (b:Int):Option ((List Rect)):=
 br (decide (b<m)) (gd (0≤((gl c a.toNat).c_)∧((gl c a.toNat).c_)<((List.length d:Nat):Int)) <|
 (Q3n F l d b ((gl d ((gl c a.toNat).c_).toNat).f_) (0:Int)).bind fun n=>
 (W8 F e n (2:Int)).bind fun o=>
 gd (I64 (b+1)) <|
 j (o,(b+1))) (Q2l F k a i e)
def Z0r (F:Nat) (a:(List Rect)):Option ((List Rect)):=
 some a
def G4 (F:Nat) (b:(List Line)) (j:(List Crop)) (k:(List Rg_)) (c:Int) (e:Int) (i:((List Rect)×Int)→Option ((List Rect))) (d:(List Rect)) (a:Int):Option ((List Rect)):=
 br (decide (a<((List.length b:Nat):Int))) (gd (0≤a∧a<((List.length b:Nat):Int)) <|
 (Q0z F (gl b a.toNat) j).bind fun l=>
 br (!l) (Q2k F a i d) (gd (I64 (c-e)) <|
 gd (I64 ((c-e)+1)) <|
 Z4 (fun again (z:(List Rect)×Int)=>Q0q F b j k c d a i again z.1 z.2) F ((gl b a.toNat).g_.t_,((c-e)+1)))) (Z0r F d)
def Q1W (F:Nat) (a:(List Line)) (b:(List Crop)) (c:(List Rg_)) (d:Int) (e:Int):Option ((List Rect)):=
 Z4 (fun again (z:(List Rect)×Int)=>G4 F a b c d e again z.1 z.2) F (([]:List Rect),(0:Int))
def Q4z (F:Nat) (a:(List Line)) (b:(List Crop)) (j:(List Rg_)) (k:Int) (l:Int) (c:Int) (i:Bool):Option (Bool×Int):=
 br i (some (false,(2:Int))) ((Q0C F a b).bind fun d=>
 (Q1W F a b j k l).bind fun m=>
 (Q7n F m).bind fun e=>
 gd (I64 (e*1000000)) <|
 gd (I64 (d.2*c)) <|
 some ((decide ((e*1000000)≤(d.2*c))),(0:Int)))
def Q5i (F:Nat) (c:(List Line)) (a:(List Crop)) (d:(List Rg_)) (e:Int) (i:Int) (b:Int):Option (Bool×Int):=
 (Q1I F c a).bind fun j=>
 br (j != (0:Int)) (some (false,j)) ((Q3m F a d e i).bind fun k=>
 br (k != (0:Int)) (some (false,k)) (br (decide (b<0)) (Q4z F c a d e i b true) (Q4z F c a d e i b (decide ((1000000:Int)<b)))))
def Q5j (F:Nat) (b:(List Line)) (a:(List Crop)) (c:(List Rg_)) (d:Int) (e:Int):Option (Re_×Int):=
 (Q1I F b a).bind fun i=>
 br (i != (0:Int)) (some ((⟨[]⟩:Re_),i)) ((Q3m F a c d e).bind fun j=>
 br (j != (0:Int)) (some ((⟨[]⟩:Re_),j)) ((Q1W F b a c d e).bind fun l=>
 (Q5T F l).bind fun k=>
 some (k.1,k.2)))
def Q0G (F:Nat) (a:Int) (b:(Int×(List Int)×Int×(List Line))→Option (Tape×(List Crop)×(List Line)×(List Int)×(List Re_))) (c:(List Int)) (d:Int) (e:(List Line)):Option (Tape×(List Crop)×(List Line)×(List Int)×(List Re_)):=
 gd (I64 (a-1)) <|
 b ((a-1),c,d,e)
def Q1M (F:Nat) (l:(List Crop)) (k:Int) (b:(List Line)) (d:Tape×Int) (e:Tape×Re_) (j:(Int×(List Int)×Int×(List Line))→Option (Tape×(List Crop)×(List Line)×(List Int)×(List Re_))) (c:(List Rect)):Option (Tape×(List Crop)×(List Line)×(List Int)×(List Re_)):=
 br (decide ((0:Int)<((List.length c:Nat):Int))) (gd (I64 (d.2+(1:Int))) <|
 (Y4 F e.1 ((List.length l:Nat):Int)).bind fun i=>
 (Y4 F i.1 (15:Int)).bind fun a=>
 gd (I64 ((1:Int)+a.2)) <|
 gd ((List.length b)+(List.length ([(⟨(d.2+(1:Int)),(⟨c⟩:Re_),i.2,((1:Int)+a.2)⟩:Line)]:List Line))≤LIM) <|
 Q0G F k j a.1.l_ a.1.at_ (b++([(⟨(d.2+(1:Int)),(⟨c⟩:Re_),i.2,((1:Int)+a.2)⟩:Line)]:List Line))) (Q0G F k j e.1.l_ e.1.at_ b)
def Q4j (F:Nat) (j:(List Crop)) (i:Int) (b:(List Line)) (k:Tape×Int) (l:Tape×Re_) (d:(Int×(List Int)×Int×(List Line))→Option (Tape×(List Crop)×(List Line)×(List Int)×(List Re_))) (e:((List Rect)×Int)→Option (Tape×(List Crop)×(List Line)×(List Int)×(List Re_))) (c:(List Rect)) (a:Int):Option (Tape×(List Crop)×(List Line)×(List Int)×(List Re_)):=
 br (decide (a<((List.length b:Nat):Int))) (gd (0≤a∧a<((List.length b:Nat):Int)) <|
 (W8 F c ((gl b a.toNat).g_.t_) (3:Int)).bind fun m=>
 gd (I64 (a+1)) <|
 e (m,(a+1))) (Q1M F j i b k l d c)
def Q1N (F:Nat) (j:(List Crop)) (b:(List Re_)) (d:Int) (e:(List Line)) (a:Tape×Int) (k:Tape×Re_) (c:(Int×(List Int)×Int×(List Line))→Option (Tape×(List Crop)×(List Line)×(List Int)×(List Re_))) (i:(List Rect)):Option (Tape×(List Crop)×(List Line)×(List Int)×(List Re_)):=
 gd (0≤a.2∧a.2<((List.length b:Nat):Int)) <|
 (W8 F i ((gl b a.2.toNat).t_) (2:Int)).bind fun l=>
 Z4 (fun again (z:(List Rect)×Int)=>Q4j F j d e a k c again z.1 z.2) F (l,(0:Int))
def Q4k (F:Nat) (m:(List Crop)) (j:(List Re_)) (k:Int) (l:(List Line)) (c:Tape×Int) (d:Tape×Re_) (e:(Int×(List Int)×Int×(List Line))→Option (Tape×(List Crop)×(List Line)×(List Int)×(List Re_))) (i:(Int×(List Rect))→Option (Tape×(List Crop)×(List Line)×(List Int)×(List Re_))) (a:Int) (b:(List Rect)):Option (Tape×(List Crop)×(List Line)×(List Int)×(List Re_)):=
 br (decide (a<((List.length d.2.t_:Nat):Int))) (gd (0≤a∧a<((List.length b:Nat):Int)) <|
 gd (I64 ((10:Int)*c.2)) <|
 gd (I64 (((gl b a.toNat).L_)+((10:Int)*c.2))) <|
 gd (0≤a∧a<((List.length b:Nat):Int)) <|
 gd (I64 ((10:Int)*c.2)) <|
 gd (I64 (((gl b a.toNat).R_)+((10:Int)*c.2))) <|
 gd (0≤a∧a<((List.length b:Nat):Int)) <|
 gd (0≤a∧a<((List.length (List.set b a.toNat (⟨(((gl b a.toNat).L_)+((10:Int)*c.2)),(gl b a.toNat).w_,(gl b a.toNat).R_,(gl b a.toNat).H_⟩:Rect)):Nat):Int)) <|
 gd (I64 (a+1)) <|
 i ((a+1),(List.set (List.set b a.toNat (⟨(((gl b a.toNat).L_)+((10:Int)*c.2)),(gl b a.toNat).w_,(gl b a.toNat).R_,(gl b a.toNat).H_⟩:Rect)) a.toNat (⟨(gl (List.set b a.toNat (⟨(((gl b a.toNat).L_)+((10:Int)*c.2)),(gl b a.toNat).w_,(gl b a.toNat).R_,(gl b a.toNat).H_⟩:Rect)) a.toNat).L_,(gl (List.set b a.toNat (⟨(((gl b a.toNat).L_)+((10:Int)*c.2)),(gl b a.toNat).w_,(gl b a.toNat).R_,(gl b a.toNat).H_⟩:Rect)) a.toNat).w_,(((gl b a.toNat).R_)+((10:Int)*c.2)),(gl (List.set b a.toNat (⟨(((gl b a.toNat).L_)+((10:Int)*c.2)),(gl b a.toNat).w_,(gl b a.toNat).R_,(gl b a.toNat).H_⟩:Rect)) a.toNat).H_⟩:Rect)))) (Q1N F m j k l c d e b)
def Q4i (F:Nat) (i:(List Crop)) (a:(List Int)) (b:(List Re_)) (c:(List Line)) (d:(List Int)) (e:Int):Option (Tape×(List Crop)×(List Line)×(List Int)×(List Re_)):=
 some ((⟨d,e⟩:Tape),i,c,a,b)
def Q4l (F:Nat) (j:(List Crop)) (a:(List Int)) (b:(List Re_)) (m:(Int×(List Int)×Int×(List Line))→Option (Tape×(List Crop)×(List Line)×(List Int)×(List Re_))) (c:Int) (d:(List Int)) (e:Int) (i:(List Line)):Option (Tape×(List Crop)×(List Line)×(List Int)×(List Re_)):=
 br (decide ((0:Int)<c)) ((Y4 F (⟨d,e⟩:Tape) ((List.length a:Nat):Int)).bind fun k=>
 (Q2z F k.1 (9:Int) (2:Int)).bind fun l=>
 Z4 (fun again (z:Int×(List Rect))=>Q4k F j b c i k l m again z.1 z.2) F ((0:Int),l.2.t_)) (Q4i F j a b i d e)
def Q1O (F:Nat) (j:(List Crop)) (b:Int) (c:(List Int)) (d:Int) (e:(List Int)) (i:(List Re_)):Option (Tape×(List Crop)×(List Line)×(List Int)×(List Re_)):=
 gd (I64 (b+1)) <|
 (Y4 F (⟨c,d⟩:Tape) (b+1)).bind fun a=>
 Z4 (fun again (z:Int×(List Int)×Int×(List Line))=>Q4l F j e i again z.1 z.2.1 z.2.2.1 z.2.2.2) F (a.2,a.1.l_,a.1.at_,([]:List Line))
def Q4m (F:Nat) (l:(List Crop)) (m:Int) (k:(Int×(List Int)×Int×(List Int)×(List Re_))→Option (Tape×(List Crop)×(List Line)×(List Int)×(List Re_))) (d:Int) (i:(List Int)) (j:Int) (a:(List Int)) (e:(List Re_)):Option (Tape×(List Crop)×(List Line)×(List Int)×(List Re_)):=
 br (decide ((0:Int)<d)) (gd (I64 (((List.length a:Nat):Int)+(1:Int))) <|
 gd ((List.length a)+(List.length ([(((List.length a:Nat):Int)+(1:Int))]:List Int))≤LIM) <|
 gd (I64 ((10:Int)*((List.length a:Nat):Int))) <|
 gd (I64 ((10:Int)*((List.length a:Nat):Int))) <|
 (J1 F (⟨i,j⟩:Tape) (2:Int) (9:Int)).bind fun b=>
 gd (I64 (((10:Int)*((List.length a:Nat):Int))+b.2)) <|
 (J1 F b.1 (2:Int) (9:Int)).bind fun c=>
 gd ((List.length e)+(List.length ([(⟨([(⟨((10:Int)*((List.length a:Nat):Int)),0,(((10:Int)*((List.length a:Nat):Int))+b.2),c.2⟩:Rect)]:List Rect)⟩:Re_)]:List Re_))≤LIM) <|
 gd (I64 (d-1)) <|
 k ((d-1),c.1.l_,c.1.at_,(a++([(((List.length a:Nat):Int)+(1:Int))]:List Int)),(e++([(⟨([(⟨((10:Int)*((List.length a:Nat):Int)),0,(((10:Int)*((List.length a:Nat):Int))+b.2),c.2⟩:Rect)]:List Rect)⟩:Re_)]:List Re_)))) (Q1O F l m i j a e)
def Q0L (F:Nat) (b:Tape) (c:(List Crop)) (d:Int):Option (Tape×(List Crop)×(List Line)×(List Int)×(List Re_)):=
 (J1 F b (1:Int) (3:Int)).bind fun a=>
 Z4 (fun again (z:Int×(List Int)×Int×(List Int)×(List Re_))=>Q4m F c d again z.1 z.2.1 z.2.2.1 z.2.2.2.1 z.2.2.2.2) F (a.2,a.1.l_,a.1.at_,([]:List Int),([]:List Re_))
def Q2v (F:Nat) (a:Int) (b:((List Rect)×Int×(List Rg_))→Option ((List Rg_)×(List Rg_)×Int)) (c:(List Rect)) (d:(List Rg_)):Option ((List Rg_)×(List Rg_)×Int):=
 gd (I64 (a+1)) <|
 b (c,(a+1),d)
def Q3Z (F:Nat) (b:(List Rg_)) (i:(List Rect)) (a:Int) (c:(List Rg_)) (e:((List Rect)×Int×(List Rg_))→Option ((List Rg_)×(List Rg_)×Int)) (d:(List Rect)):Option ((List Rg_)×(List Rg_)×Int):=
 br (decide ((0:Int)<((List.length d:Nat):Int))) (gd ((List.length c)+(List.length ([(⟨(gl b a.toNat).y_,(gl b a.toNat).c_,(⟨d⟩:Re_)⟩:Rg_)]:List Rg_))≤LIM) <|
 Q2v F a e i (c++([(⟨(gl b a.toNat).y_,(gl b a.toNat).c_,(⟨d⟩:Re_)⟩:Rg_)]:List Rg_))) (Q2v F a e i c)
def Q4a (F:Nat) (b:(List Rg_)) (j:Int) (k:Re_) (d:(List Rect)) (a:Int) (e:(List Rg_)) (c:((List Rect)×Int×(List Rg_))→Option ((List Rg_)×(List Rg_)×Int)) (i:Bool):Option ((List Rg_)×(List Rg_)×Int):=
 br i ((W8 F d ((gl b a.toNat).g_.t_) (1:Int)).bind fun l=>
 Q2v F a c l e) (br (((gl b a.toNat).y_)==j) ((W8 F ((gl b a.toNat).g_.t_) k.t_ (3:Int)).bind fun m=>
 Q3Z F b d a e c m) (Q3Z F b d a e c ((gl b a.toNat).g_.t_)))
def Q8i (F:Nat) (b:(List Rg_)) (a:(List Rg_)):Option ((List Rg_)×(List Rg_)×Int):=
 some (b,a,(0:Int))
def Q8j (F:Nat) (c:(List Rg_)) (b:(List Rg_)) (d:(Int)→Option ((List Rg_)×(List Rg_)×Int)) (a:Int):Option ((List Rg_)×(List Rg_)×Int):=
 br (decide (a<((List.length b:Nat):Int))) (gd (0≤a∧a<((List.length b:Nat):Int)) <|
 br (decide ((120:Int)<((List.length ((gl b a.toNat).g_.t_):Nat):Int))) (some (c,([]:List Rg_),(1:Int))) (gd (I64 (a+1)) <|
 d (a+1))) (Q8i F c b)
def Q3b (F:Nat) (b:(List Rg_)) (a:(List Rg_)):Option ((List Rg_)×(List Rg_)×Int):=
 br (decide ((200:Int)<((List.length a:Nat):Int))) (some (b,([]:List Rg_),(1:Int))) (Z4 (fun again (z:Int)=>Q8j F b a again z) F (0:Int))
def Q6s (F:Nat) (i:(List Rg_)) (d:Int) (e:Int) (c:(List Rect)) (b:(List Rg_)) (a:Int):Option ((List Rg_)×(List Rg_)×Int):=
 gd (0≤(0:Int)∧(0:Int)≤a∧((0:Nat):Int)+a≤((List.length b:Nat):Int)) <|
 gd (0+((a).toNat)≤List.length b) <|
 gd ((0)+(((a).toNat))≤LIM) <|
 gd (((0)+(((a).toNat)))+(List.length ([(⟨d,e,(⟨c⟩:Re_)⟩:Rg_)]:List Rg_))≤LIM) <|
 gd (0≤a∧a≤(((List.length b):Nat):Int)∧((0:Nat):Int)+(((List.length b):Nat):Int)≤((List.length b:Nat):Int)) <|
 gd ((0+(a).toNat)+((List.length b)-(a).toNat)≤List.length b) <|
 gd ((((0)+(((a).toNat)))+(List.length ([(⟨d,e,(⟨c⟩:Re_)⟩:Rg_)]:List Rg_)))+(((List.length b)-(a).toNat))≤LIM) <|
 Q3b F i (((([]:List Rg_)++((b.drop 0).take ((a).toNat)))++([(⟨d,e,(⟨c⟩:Re_)⟩:Rg_)]:List Rg_))++((b.drop (0+(a).toNat)).take ((List.length b)-(a).toNat)))
def Q1p (F:Nat) (i:(List Rg_)) (j:Int) (k:Int) (c:(List Rect)) (d:(List Rg_)) (a:Int) (b:(Int)→Option ((List Rg_)×(List Rg_)×Int)) (e:Bool):Option ((List Rg_)×(List Rg_)×Int):=
 br e (gd (I64 (a+1)) <|
 b (a+1)) (Q6s F i j k c d a)
def Q8Z (F:Nat) (j:(List Rg_)) (c:Int) (d:Int) (i:(List Rect)) (b:(List Rg_)) (e:(Int)→Option ((List Rg_)×(List Rg_)×Int)) (a:Int):Option ((List Rg_)×(List Rg_)×Int):=
 br (decide (a<((List.length b:Nat):Int))) (gd (0≤a∧a<((List.length b:Nat):Int)) <|
 br (decide (((gl b a.toNat).y_)<c)) (Q1p F j c d i b a e true) (gd (0≤a∧a<((List.length b:Nat):Int)) <|
 br (((gl b a.toNat).y_)==c) (gd (0≤a∧a<((List.length b:Nat):Int)) <|
 Q1p F j c d i b a e (decide (((gl b a.toNat).c_)<d))) (Q1p F j c d i b a e false))) (Q1p F j c d i b a e false)
def Q6t (F:Nat) (c:(List Rg_)) (d:Int) (e:Int) (a:(List Rect)) (b:(List Rg_)):Option ((List Rg_)×(List Rg_)×Int):=
 br (decide ((0:Int)<((List.length a:Nat):Int))) (Z4 (fun again (z:Int)=>Q8Z F c d e a b again z) F (0:Int)) (Q3b F c b)
def Q9a (F:Nat) (b:(List Rg_)) (c:Int) (j:Int) (k:Re_) (i:((List Rect)×Int×(List Rg_))→Option ((List Rg_)×(List Rg_)×Int)) (d:(List Rect)) (a:Int) (e:(List Rg_)):Option ((List Rg_)×(List Rg_)×Int):=
 br (decide (a<((List.length b:Nat):Int))) (gd (0≤a∧a<((List.length b:Nat):Int)) <|
 br (((gl b a.toNat).y_)==c) (Q4a F b c k d a e i (((gl b a.toNat).c_)==j)) (Q4a F b c k d a e i false)) (Q6t F b c j d e)
def Q4b (F:Nat) (a:(List Rg_)) (d:Int) (e:Int) (b:Re_) (c:Bool):Option ((List Rg_)×(List Rg_)×Int):=
 br c (some (a,([]:List Rg_),(13:Int))) ((Q0E F b).bind fun i=>
 br (!i) (some (a,([]:List Rg_),(7:Int))) (Z4 (fun again (z:(List Rect)×Int×(List Rg_))=>Q9a F a d e b again z.1 z.2.1 z.2.2) F (b.t_,(0:Int),([]:List Rg_))))
def Q4c (F:Nat) (b:(List Rg_)) (c:Int) (a:Int) (d:Re_) (e:Bool):Option ((List Rg_)×(List Rg_)×Int):=
 br e (some (b,([]:List Rg_),(18:Int))) (br (decide (a<0)) (Q4b F b c a d true) (Q4b F b c a d (decide ((40:Int)≤a))))
def Q5Q (F:Nat) (a:(List Rg_)) (b:Int) (c:Int) (d:Re_):Option ((List Rg_)×(List Rg_)×Int):=
 (Q3Y F a).bind fun e=>
 br (e != (0:Int)) (some (a,([]:List Rg_),e)) (br (decide (b<0)) (Q4c F a b c d true) (Q4c F a b c d (decide ((100:Int)<b))))
def Q6E (F:Nat) (d:(List Crop)) (a:(List Rg_)) (b:(List Int)) (c:Int):Option (Tape×(List Crop)×(List Rg_)):=
 some ((⟨b,c⟩:Tape),d,a)
def Q0Z (F:Nat) (i:(List Crop)) (j:Int) (m:(Int×(List Int)×Int×(List Rg_))→Option (Tape×(List Crop)×(List Rg_))) (a:Int) (c:(List Int)) (d:Int) (e:(List Rg_)):Option (Tape×(List Crop)×(List Rg_)):=
 br (decide ((0:Int)<a)) (gd (I64 (j+1)) <|
 (Y4 F (⟨c,d⟩:Tape) (j+1)).bind fun k=>
 (Y4 F k.1 ((List.length i:Nat):Int)).bind fun l=>
 (Q0u F l.1 (9:Int) (2:Int)).bind fun b=>
 (Q5Q F e k.2 l.2 b.2).bind fun n=>
 gd (I64 (a-1)) <|
 m ((a-1),b.1.l_,b.1.at_,n.2.1)) (Q6E F i e c d)
def Q0T (F:Nat) (c:Tape) (d:(List Crop)) (e:Int) (b:Int):Option (Tape×(List Crop)×(List Rg_)):=
 gd (I64 (b+1)) <|
 (Y4 F c (b+1)).bind fun a=>
 Z4 (fun again (z:Int×(List Int)×Int×(List Rg_))=>Q0Z F d e again z.1 z.2.1 z.2.2.1 z.2.2.2) F (a.2,a.1.l_,a.1.at_,([]:List Rg_))
def J4 (F:Nat) (a:Int) (b:(Int)→Option (Bool)) (c:Bool):Option (Bool):=
 br c (some false) (gd (I64 (a+1)) <|
 b (a+1))
def Q1Y (F:Nat) (c:(List Rg_)) (a:Int) (b:((List Rg_)×Int)→Option (Bool)):Option (Bool):=
 gd (I64 (a+1)) <|
 b (c,(a+1))
def Q5n (F:Nat) (n:Int) (o:Int) (b:Int) (c:Int) (k:(List Crop)) (l:(List Line)) (p:Int) (q:Int) (s:Int) (t:Int) (i:(List Rg_)) (m:Int) (d:Int) (e:Int) (B:((List Rg_)×Int)→Option (Bool)) (j:(Int)→Option (Bool)) (a:Int):Option (Bool):=
 br (decide (a<((List.length ([(⟨b,c⟩:A2_),(⟨d,e⟩:A2_)]:List A2_):Nat):Int))) (gd (0≤a∧a<((List.length ([(⟨b,c⟩:A2_),(⟨d,e⟩:A2_)]:List A2_):Nat):Int)) <|
 (Q2h F l k i ((gl ([(⟨b,c⟩:A2_),(⟨d,e⟩:A2_)]:List A2_) a.toNat).e0_) ((gl ([(⟨b,c⟩:A2_),(⟨d,e⟩:A2_)]:List A2_) a.toNat).e1_) ((gl ([(⟨n,o⟩:A2_),(⟨p,(q+s)⟩:A2_),(⟨(t-1),(5:Int)⟩:A2_)]:List A2_) m.toNat).e0_)).bind fun u=>
 (Q5i F l k i ((gl ([(⟨b,c⟩:A2_),(⟨d,e⟩:A2_)]:List A2_) a.toNat).e0_) ((gl ([(⟨b,c⟩:A2_),(⟨d,e⟩:A2_)]:List A2_) a.toNat).e1_) ((gl ([(⟨n,o⟩:A2_),(⟨p,(q+s)⟩:A2_),(⟨(t-1),(5:Int)⟩:A2_)]:List A2_) m.toNat).e0_)).bind fun w=>
 (Q2i F l k i ((gl ([(⟨b,c⟩:A2_),(⟨d,e⟩:A2_)]:List A2_) a.toNat).e0_) ((gl ([(⟨b,c⟩:A2_),(⟨d,e⟩:A2_)]:List A2_) a.toNat).e1_)).bind fun y=>
 (Q5j F l k i ((gl ([(⟨b,c⟩:A2_),(⟨d,e⟩:A2_)]:List A2_) a.toNat).e0_) ((gl ([(⟨b,c⟩:A2_),(⟨d,e⟩:A2_)]:List A2_) a.toNat).e1_)).bind fun A=>
 br (!(u.1==w.1)) (J4 F a j true) (br (u.2 != w.2) (J4 F a j true) ((Q9c F y.1 A.1).bind fun D=>
 br (!D) (J4 F a j true) (J4 F a j (y.2 != A.2))))) (Q1Y F i m B)
def J5 (F:Nat) (l:Int) (m:Int) (a:Int) (b:Int) (d:(List Crop)) (e:(List Line)) (n:Int) (o:Int) (p:Int) (q:Int) (i:(List Rg_)) (j:Int) (c:((List Rg_)×Int)→Option (Bool)) (k:Bool):Option (Bool):=
 br k (some false) ((Q3c F a (6:Int)).bind fun s=>
 (Q3c F b (6:Int)).bind fun t=>
 Z4 (fun again (z:Int)=>Q5n F l m a b d e n o p q i j s t c again z) F (0:Int))
def Q1X (F:Nat):Option (Bool):=
 (Q7R F).bind fun a=>
 some a
def Q5o (F:Nat) (b:Int) (c:Int) (o:Int) (p:Int) (k:(List Crop)) (l:(List Line)) (d:Int) (e:Int) (i:Int) (j:Int) (m:((List Rg_)×Int)→Option (Bool)) (n:(List Rg_)) (a:Int):Option (Bool):=
 br (decide (a<((List.length ([(⟨b,c⟩:A2_),(⟨d,(e+i)⟩:A2_),(⟨(j-1),(5:Int)⟩:A2_)]:List A2_):Nat):Int))) (gd (0≤a∧a<((List.length ([(⟨b,c⟩:A2_),(⟨d,(e+i)⟩:A2_),(⟨(j-1),(5:Int)⟩:A2_)]:List A2_):Nat):Int)) <|
 (J2 F l k ((gl ([(⟨b,c⟩:A2_),(⟨d,(e+i)⟩:A2_),(⟨(j-1),(5:Int)⟩:A2_)]:List A2_) a.toNat).e0_) ((gl ([(⟨b,c⟩:A2_),(⟨d,(e+i)⟩:A2_),(⟨(j-1),(5:Int)⟩:A2_)]:List A2_) a.toNat).e1_)).bind fun q=>
 (Q5k F l k ((gl ([(⟨b,c⟩:A2_),(⟨d,(e+i)⟩:A2_),(⟨(j-1),(5:Int)⟩:A2_)]:List A2_) a.toNat).e0_) ((gl ([(⟨b,c⟩:A2_),(⟨d,(e+i)⟩:A2_),(⟨(j-1),(5:Int)⟩:A2_)]:List A2_) a.toNat).e1_)).bind fun s=>
 (Q2j F l k ((gl ([(⟨b,c⟩:A2_),(⟨d,(e+i)⟩:A2_),(⟨(j-1),(5:Int)⟩:A2_)]:List A2_) a.toNat).e0_)).bind fun t=>
 (Q5l F l k ((gl ([(⟨b,c⟩:A2_),(⟨d,(e+i)⟩:A2_),(⟨(j-1),(5:Int)⟩:A2_)]:List A2_) a.toNat).e0_)).bind fun u=>
 br (!(q.1==s.1)) (J5 F b c o p k l d e i j n a m true) (br (q.2 != s.2) (J5 F b c o p k l d e i j n a m true) (br (!(t.1==u.1)) (J5 F b c o p k l d e i j n a m true) (J5 F b c o p k l d e i j n a m (t.2 != u.2))))) (Q1X F)
def Q0A (F:Nat) (a:Int) (b:Int) (m:Int) (n:Int) (i:(List Crop)) (j:(List Line)) (k:(List Rg_)) (l:Bool):Option (Bool):=
 br l (some false) ((Q3c F a (60:Int)).bind fun o=>
 (Q3c F a (60:Int)).bind fun c=>
 (Q3c F b (60:Int)).bind fun d=>
 gd (I64 (c+d)) <|
 (Q3c F a (1000002:Int)).bind fun e=>
 gd (I64 (e-1)) <|
 Z4 (fun again (z:(List Rg_)×Int)=>Q5o F a b m n i j o c d e again z.1 z.2) F (k,(0:Int)))
def Y9 (F:Nat) (d:Int) (e:Int) (i:Int) (j:Int) (a:(List Crop)) (b:(List Line)) (c:(List Rg_)):Option (Bool):=
 (K2 F b a).bind fun k=>
 (Q3S F b a).bind fun l=>
 (Q2I F k.1 l.1).bind fun m=>
 br (!m) (Q0A F d e i j a b c true) (Q0A F d e i j a b c (k.2 != l.2))
def U3 (F:Nat) (e:Int) (i:Int) (j:Int) (k:Int) (b:Tape×(List Crop)×(List Rg_)) (a:(List Line)) (c:((List Line))→Option (Bool)) (d:Bool):Option (Bool):=
 br d (gd (0≤(0:Int)∧(0:Int)<((List.length a:Nat):Int)) <|
 gd ((List.length a)+(List.length ([(gl a (0:Int).toNat)]:List Line))≤LIM) <|
 c (a++([(gl a (0:Int).toNat)]:List Line))) (Y9 F e i j k b.2.1 a b.2.2)
def Q5p (F:Nat) (c:Int) (d:Int) (e:Int) (i:Int) (k:Int) (j:Tape×(List Crop)×(List Rg_)) (b:((List Line))→Option (Bool)) (a:(List Line)):Option (Bool):=
 br (decide (((List.length a:Nat):Int)<(22:Int))) (br (decide ((0:Int)<((List.length a:Nat):Int))) (gd ((2:Int)≠0) <|
 U3 F c d e i j a b ((k.tmod (2:Int))==0)) (U3 F c d e i j a b false)) (U3 F c d e i j a b false)
def Q0m (F:Nat) (c:Int) (d:Int) (e:Int) (i:Int) (k:Int) (n:(List Int)):Option (Bool):=
 (Z2z F n).bind fun o=>
 (Q1P F o).bind fun l=>
 (Q0L F l.1 l.2 (4:Int)).bind fun b=>
 (Q0T F b.1 b.2.1 (4:Int) (5:Int)).bind fun a=>
 (Y4 F a.1 (10:Int)).bind fun j=>
 br (j.2==(0:Int)) (br (decide ((0:Int)<((List.length b.2.2.1:Nat):Int))) (gd (0≤(0:Int)∧(0:Int)<((List.length b.2.2.1:Nat):Int)) <|
 Y9 F c d e i a.2.1 (List.set b.2.2.1 (0:Int).toNat (⟨(gl b.2.2.1 (0:Int).toNat).p_,(gl b.2.2.1 (0:Int).toNat).g_,k,(gl b.2.2.1 (0:Int).toNat).s_⟩:Line)) a.2.2) (Y9 F c d e i a.2.1 b.2.2.1 a.2.2)) (br (j.2==(1:Int)) (br (decide ((0:Int)<((List.length b.2.2.1:Nat):Int))) ((Q2A F j.1 (9:Int) (2:Int)).bind fun p=>
 gd (0≤(0:Int)∧(0:Int)<((List.length b.2.2.1:Nat):Int)) <|
 Y9 F c d e i a.2.1 (List.set b.2.2.1 (0:Int).toNat (⟨(gl b.2.2.1 (0:Int).toNat).p_,p.2,(gl b.2.2.1 (0:Int).toNat).c_,(gl b.2.2.1 (0:Int).toNat).s_⟩:Line)) a.2.2) (Y9 F c d e i a.2.1 b.2.2.1 a.2.2)) (br (j.2==(2:Int)) (gd ((List.length b.2.2.1)+(List.length b.2.2.1)≤LIM) <|
 Y9 F c d e i a.2.1 (b.2.2.1++b.2.2.1) a.2.2) (br (j.2==(3:Int)) (gd (0≤(0:Int)∧(0:Int)<((List.length a.2.1:Nat):Int)) <|
 Y9 F c d e i (List.set a.2.1 (0:Int).toNat (⟨(ByteArray.mk #[]),(gl a.2.1 (0:Int).toNat).f_,(gl a.2.1 (0:Int).toNat).m_⟩:Crop)) b.2.2.1 a.2.2) (br (j.2==(4:Int)) (br (decide ((0:Int)<((List.length a.2.2:Nat):Int))) ((Q3c F k (50:Int)).bind fun m=>
 gd (I64 (m-3)) <|
 gd (0≤(0:Int)∧(0:Int)<((List.length a.2.2:Nat):Int)) <|
 Y9 F c d e i a.2.1 b.2.2.1 (List.set a.2.2 (0:Int).toNat (⟨(gl a.2.2 (0:Int).toNat).y_,(m-3),(gl a.2.2 (0:Int).toNat).g_⟩:Rg_))) (Y9 F c d e i a.2.1 b.2.2.1 a.2.2)) (br (j.2==(5:Int)) (Z4 (fun again (z:(List Line))=>Q5p F c d e i k a again z) F b.2.2.1) (Y9 F c d e i a.2.1 b.2.2.1 a.2.2))))))
end
end Go.Ab
end
section
end
section
end
section
end
section
end
section
end
section
namespace Go.Ab
def BIG:Nat:=1099511627776
theorem Q7 {R:Type} {p:Prop} [Decidable p] {x:Option R} {y:Option R} (h:p) (k:x=y):gd p x=y:=by unfold gd;rw [if_pos h];exact k
theorem Q6 {α R:Type} {x:Option α} {f:α→Option R} {a:α} {y:Option R} (h:x=some a) (k:f a=y):x.bind f=y:=by rw [h];exact k
theorem Q8 {R:Type} {b:Bool} {x y z:Option R} (ht:b=true→x=z) (hf:b=false→y=z):br b x y=z:=by cases b;exact hf rfl;exact ht rfl
theorem Y8 {R:Type} {b:Bool} {x y z:Option R} (h:b=true) (k:x=z):br b x y=z:=by subst h;exact k
theorem Z8 {R:Type} {b:Bool} {x y z:Option R} (h:b=false) (k:y=z):br b x y=z:=by subst h;exact k
theorem Y3U {R:Type} (b:Bool) (x y:Option R):br b x y=if b=true then x else y:=by cases b <;> rfl
theorem W2 {σ R:Type} {body:(σ→Option R)→σ→Option R} {y:Option R} (I:σ→Prop) (μ:σ→Nat)
  (round:∀ again z,I z→(∀ z',I z' → μ z' < μ z→again z'=y)→body again z=y):∀ {n:Nat} {z:σ},I z→μ z<n→Z4 body n z=y:=by
 intro n
 induction n with
 | zero=>intro z _ h;omega
 | succ n ih=>
  intro z hz hμ;exact round (Z4 body n) z hz fun z' hz' hlt=>ih hz' (by omega)
section
variable {α:Type} [Emb α]
theorem Q3G {l:List α} {i:Nat} (h:i<l.length):gl l i=l[i]:=by simp [gl,List.getD_eq_getElem?_getD,h]
theorem U7 {l:List α} {i:Nat} (h:i<l.length):gl l i ∈ l:=by rw [Q3G h];exact List.getElem_mem h
theorem Q2f {l:List α} {i:Nat} (h:i<l.length):l.drop i=gl l i::l.drop (i+1):=by rw [Q3G h];exact List.drop_eq_getElem_cons h
theorem J9 {l:List α} {i:Nat} (h:i<l.length):l.take (i+1)=l.take i++[gl l i]:=by rw [Q3G h];exact List.take_succ_eq_append_getElem h
end
theorem Z5 {n:Int} (h1 : -4611686018427387904≤n) (h2:n≤4611686018427387904):I64 n:=⟨by omega,by omega⟩
theorem Y3b {α R:Type} [Emb α] {l:List α} {body:(Int→Option R)→Int→Option R} (y:List α→Option R)
  (step:∀ again (i:Nat),i<l.length→again ((i:Int)+1)=y (l.drop (i+1))→body again (i:Int)=y (gl l i::l.drop (i+1)))
  (stop:∀ again,body again (l.length:Int)=y []) {F:Nat} (hF:l.length<F):Z4 body F 0=y l:=by
 have key:∀ (n:Nat) (i:Nat),i≤l.length→l.length-i<n→Z4 body n (i:Int)=y (l.drop i):=by
  intro n
  induction n with
  | zero=>intro i _ h;omega
  | succ n ih=>
   intro i hi hn;show body (Z4 body n) (i:Int)=_
   by_cases h:i<l.length
   ·rw [Q2f h]
    refine step _ i h ?_;have:=ih (i+1) h (by omega)
    rw [← this];congr 1
   ·have:i=l.length:=by omega
    subst this;rw [List.drop_length];exact stop _
 have:=key F 0 (Nat.zero_le _) (by omega)
 rw [List.drop_zero] at this;exact this
theorem Z0E {α σ R:Type} [Emb α] {l:List α} {body:(Int×σ→Option R)→Int×σ→Option R} (I:List α→σ→Prop) (y:List α→σ→Option R)
  (step:∀ again (i:Nat) (s:σ),i<l.length→I (gl l i::l.drop (i+1)) s→(∀ s',I (l.drop (i+1)) s' → again ((i:Int)+1,s')=y (l.drop (i+1)) s')→body again ((i:Int),s)=y (gl l i::l.drop (i+1)) s)
  (stop:∀ again (s:σ),I [] s→body again ((l.length:Int),s)=y [] s) {F:Nat} (hF:l.length<F) {s0:σ} (h0:I l s0):Z4 body F (0,s0)=y l s0:=by
 have key:∀ (n:Nat) (i:Nat) (s:σ),i≤l.length→l.length-i<n→I (l.drop i) s→Z4 body n ((i:Int),s)=y (l.drop i) s:=by
  intro n
  induction n with
  | zero=>intro i _ _ h;omega
  | succ n ih=>
   intro i s hi hn hI;show body (Z4 body n) ((i:Int),s)=_
   by_cases h:i<l.length
   ·rw [Q2f h] at hI ⊢
    refine step _ i s h hI fun s' hs'=>?_
    have:=ih (i+1) s' h (by omega) hs'
    rw [← this];congr 1
   ·have:i=l.length:=by omega
    subst this;rw [List.drop_length] at hI ⊢;exact stop _ s hI
 have:=key F 0 s0 (Nat.zero_le _) (by omega) (by rwa [List.drop_zero])
 rw [List.drop_zero] at this;exact this
theorem Q3w {R:Type} (K:Bool→Option R) (b x:Bool):br b (K x) (K false)=K (b&&x):=by cases b <;> rfl
theorem Z6U {R:Type} (K:Bool→Option R) (b x:Bool):br b (K true) (K x)=K (b||x):=by cases b <;> rfl
theorem Y0d {α:Type} [Emb α] {l:List α} {i:Nat} (h:i<l.length) (p:α→Bool):(l.drop i).any p=(p (gl l i)||(l.drop (i+1)).any p):=by rw [Q2f h];rfl
theorem Q9i {a b:Nat} (h:a<b):decide ((a:Int)<((b:Nat):Int))=true:=by simpa using h
theorem Q2U (a:Nat):decide ((a:Int)<((a:Nat):Int))=false:=by simp
theorem Z9 {R:Type} {p:Prop} [Decidable p] {x:Option R} {y:Option R} (h:p:=by first|omega|exact Z5 (by omega) (by omega) | (simp only [LIM,BIG,List.length_append,List.length_cons,List.length_nil,List.length_map,List.length_take,List.length_drop,List.length_set] at *;omega)) (k:x=y):gd p x=y:=Q7 h k
end Go.Ab
end
section
namespace Go.Ab
def Asc (l:List Int):Prop:=l.Pairwise (· < ·)
theorem Asc.at_lt {l:List Int} (h:Asc l) {i j:Nat} (hij:i<j) (hj:j<l.length):gl l i<gl l j:=by
 rw [Q3G (by omega),Q3G hj];exact List.pairwise_iff_getElem.1 h i j (by omega) hj hij
theorem Y0J {l:List Int} {v:Int} (h:v ∈ l):∃ j,j<l.length∧gl l j=v:=by
 obtain ⟨j,hj,e⟩:=List.getElem_of_mem h;exact ⟨j,hj,by rw [Q3G hj];exact e⟩
theorem Asc.gap {c:List Int} (h:Asc c) {i:Nat} (hi:i+1<c.length) {t v:Int} (h1:gl c i≤t) (h2:t<gl c (i+1)) (hv:v ∈ c):(v≤t↔v≤gl c i):=by
 obtain ⟨j,hj,rfl⟩:=Y0J hv;rcases Nat.lt_or_ge i j with hij|hij
 ·rcases Nat.lt_or_ge (i+1) j with h3|h3
  ·have:=h.at_lt h3 hj
   have:=h.at_lt (show i<i+1 by omega) hi
   omega
  ·have:j=i+1:=by omega
   subst this;have:=h.at_lt (show i<i+1 by omega) hi
   omega
 ·rcases Nat.lt_or_ge j i with h3|h3
  ·have:=h.at_lt h3 (by omega)
   omega
  ·have:j=i:=by omega
   subst this;omega
def Y0f (c:List Int) (l:List Rect):Prop:=∀ r ∈ l,r.L_ ∈ c∧r.R_ ∈ c
def Z9c (c:List Int) (l:List Rect):Prop:=∀ r ∈ l,r.w_ ∈ c∧r.H_ ∈ c
theorem Z8q {l:List Rect} {x y x' y' : Int} (h:∀ r ∈ l,r.has x y=r.has x' y'):inR l x y=inR l x' y':=by
 induction l with
 | nil=>rfl
 | cons r l ih=>
  simp only [inR,List.any_cons] at ih ⊢;rw [h r (by simp),ih fun q hq=>h q (by simp [hq])]
theorem Z2Q {l:List Rect} {x y:Int} (h:∀ r ∈ l,r.has x y=false):inR l x y=false:=by
 induction l with
 | nil=>rfl
 | cons r l ih=>
  simp only [inR,List.any_cons] at ih ⊢;rw [h r (by simp),ih fun q hq=>h q (by simp [hq])];rfl
theorem Q1a (r:Rect) (x y:Int):r.has x y=true↔r.L_≤x∧x<r.R_∧r.w_≤y∧y<r.H_:=by simp [Rect.has,and_assoc]
theorem Y3z {r:Rect} {x y x' y' : Int} (h:(r.L_≤x∧x<r.R_∧r.w_≤y∧y<r.H_)↔(r.L_≤x' ∧ x' < r.R_∧r.w_≤y' ∧ y' < r.H_)):r.has x y=r.has x' y':=by
 rw [Bool.eq_iff_iff,Q1a,Q1a];exact h
theorem Z7d {r:Rect} {x y:Int} (h:¬ (r.L_≤x∧x<r.R_∧r.w_≤y∧y<r.H_)):r.has x y=false:=by
 rw [← Bool.not_eq_true,Q1a];exact h
theorem Y0f.gap {c:List Int} {l:List Rect} (hc:Asc c) (h:Y0f c l) {i:Nat} (hi:i+1<c.length) {t:Int} (h1:gl c i≤t) (h2:t<gl c (i+1)) (y:Int):inR l t y=inR l (gl c i) y:=
 Z8q fun r hr=>Y3z (by
  have a:=hc.gap hi h1 h2 (h r hr).1;have b:=hc.gap hi h1 h2 (h r hr).2
  omega)
theorem Z9c.gap {c:List Int} {l:List Rect} (hc:Asc c) (h:Z9c c l) {i:Nat} (hi:i+1<c.length) {t:Int} (h1:gl c i≤t) (h2:t<gl c (i+1)) (x:Int):inR l x t=inR l x (gl c i):=
 Z8q fun r hr=>Y3z (by
  have a:=hc.gap hi h1 h2 (h r hr).1;have b:=hc.gap hi h1 h2 (h r hr).2
  omega)
theorem Y0f.before {c:List Int} {l:List Rect} (h:Y0f c l) {t:Int} (ht:∀ v ∈ c,t<v) (y:Int):inR l t y=false:=
 Z2Q fun r hr=>Z7d (by have:=ht _ (h r hr).1;omega)
theorem Y0f.after {c:List Int} {l:List Rect} (h:Y0f c l) {t:Int} (ht:∀ v ∈ c,v≤t) (y:Int):inR l t y=false:=
 Z2Q fun r hr=>Z7d (by have:=ht _ (h r hr).2;omega)
theorem Z9c.before {c:List Int} {l:List Rect} (h:Z9c c l) {t:Int} (ht:∀ v ∈ c,t<v) (x:Int):inR l x t=false:=
 Z2Q fun r hr=>Z7d (by have:=ht _ (h r hr).1;omega)
theorem Z9c.after {c:List Int} {l:List Rect} (h:Z9c c l) {t:Int} (ht:∀ v ∈ c,v≤t) (x:Int):inR l x t=false:=
 Z2Q fun r hr=>Z7d (by have:=ht _ (h r hr).2;omega)
theorem Asc.first {c:List Int} (h:Asc c) {t:Int} (ht:t<gl c 0):∀ v ∈ c,t<v:=by
 intro v hv;obtain ⟨j,hj,rfl⟩:=Y0J hv
 rcases Nat.eq_zero_or_pos j with rfl|hp
 ·exact ht
 ·have:=h.at_lt hp hj;omega
theorem Asc.last {c:List Int} (h:Asc c) {t:Int} {i:Nat} (hi:i+1=c.length) (ht:gl c i≤t):∀ v ∈ c,v≤t:=by
 intro v hv;obtain ⟨j,hj,rfl⟩:=Y0J hv
 rcases Nat.lt_or_ge j i with h1|h1
 ·have:=h.at_lt h1 (by omega);omega
 ·have:j=i:=by omega
  subst this;exact ht
structure Step {α:Type} (d:α) (c:List Int) (f:Int→α):Prop where
 asc:Asc c
 gap:∀ i,i+1<c.length→∀ t,gl c i≤t→t<gl c (i+1)→f t=f (gl c i)
 before:∀ t,(∀ v ∈ c,t<v)→f t=d
 after:∀ t,(∀ v ∈ c,v≤t)→f t=d
theorem Step.start {α:Type} {d:α} {c:List Int} {f:Int→α} (h:Step d c f) (_:0<c.length):Bst d f [] (gl c 0):=.start fun t ht=>h.before t (h.asc.first ht)
theorem Step.empty {α:Type} {d:α} {c:List Int} {f:Int→α} (h:Step d c f) (hc:c.length=0) (t:Int):f t=d:=h.before t fun v hv=>by
 rw [List.eq_nil_of_length_eq_zero hc] at hv;cases hv
theorem Step.done {α:Type} {d:α} {c:List Int} {f:Int→α} (h:Step d c f) {i:Nat} (hi:i+1=c.length) {acc:List (Rn α)} (hb:Bst d f acc (gl c i)) (t:Int):atR d acc t=f t:=by
 rcases Int.lt_or_le t (gl c i) with h1|h1
 ·exact hb.val t h1
 ·rw [hb.out t h1,h.after t (h.asc.last hi h1)]
open Classical in
noncomputable def spn (f:Int→Bool):List Span:=if h:∃ l,SpOk l∧∀ x,inS l x=f x then h.choose else []
theorem Z3K {f:Int→Bool} {l:List Span} (hl:SpOk l) (h:∀ x,inS l x=f x):spn f=l:=by
 have he:∃ l,SpOk l∧∀ x,inS l x=f x:=⟨l,hl,h⟩;unfold spn
 rw [dif_pos he];exact he.choose_spec.1.unique hl fun x=>(he.choose_spec.2 x).trans (h x).symm
theorem SpOk.nil:SpOk []:=⟨fun s hs=>(List.not_mem_nil hs).elim,List.Pairwise.nil⟩
theorem Z5c {f:Int→Bool} (h:∀ x,f x=false):spn f=[]:=Z3K .nil fun x=>(h x).symm
def Z7D (S:Int→Int→Bool):Prop:=∀ y,∃ l,SpOk l∧∀ x,inS l x=S x y
theorem Z7D.sp {S:Int→Int→Bool} (h:Z7D S) (y:Int):SpOk (spn fun x=>S x y)∧∀ x,inS (spn fun x=>S x y) x=S x y:=by
 obtain ⟨l,h1,h2⟩:=h y;rw [Z3K h1 h2];exact ⟨h1,h2⟩
theorem Step.cn {S:Int→Int→Bool} (hr:Z7D S) {c:List Int} (h:Step [] c fun y=>spn fun x=>S x y) {acc:List (Rn (List Span))} (hacc:Runs acc) (hval:∀ t,atR [] acc t=spn fun x=>S x t) (hne:∀ b ∈ acc,b.v≠[]):cn S=flat acc∧Fin S:=by
 have hv:∀ b ∈ acc,b.v=spn fun x=>S x b.lo:=by
  intro b hb;have hat:∀ (l:List (Rn (List Span))),Runs l→b ∈ l→atR [] l b.lo=b.v:=by
   intro l
   induction l with
   | nil=>intro _ hb;cases hb
   | cons a l ih=>
    intro hl hb;rcases List.mem_cons.1 hb with rfl|hb
    ·have:=hl.pos b (by simp)
     rw [atR,if_pos ⟨by omega,this⟩]
    ·have h1:=(hl.head b hb).1
     rw [atR,if_neg (by omega)];exact ih hl.tail hb
  rw [← hval,hat acc hacc hb]
 have hB:Bands acc:=⟨hacc,fun b hb=>by rw [hv b hb];exact (hr.sp _).1,hne⟩;have hS:∀ x y,inS (atR [] acc y) x=S x y:=fun x y=>by rw [hval];exact (hr.sp y).2 x
 exact ⟨Z9V hB hS,acc,hB,hS⟩
structure Grid (xs ys:List Int) (S:Int→Int→Bool):Prop where
 x:∀ y,Step false xs fun x=>S x y
 y:∀ x,Step false ys fun y=>S x y
theorem Step.spansL {xs:List Int} {f:Int→Bool} (h:Step false xs f):∃ l,SpOk l∧(∀ x,inS l x=f x)∧l.length≤xs.length:=by
 by_cases h0:xs.length=0
 ·exact ⟨[],.nil,fun x=>(h.empty h0 x).symm,by simp⟩
 ·have key:∀ i,i+1≤xs.length→∃ l:List Span,Bst false f (l.map Span.rn) (gl xs i)∧l.length≤i:=by
   intro i
   induction i with
   | zero=>intro hi;exact ⟨[],h.start (by omega),by simp⟩
   | succ i ih=>
    intro hi;obtain ⟨l,hl,hll⟩:=ih (by omega)
    have hlt:=h.asc.at_lt (show i<i+1 by omega) (by omega)
    cases hf:f (gl xs i) with
    | false=>exact ⟨l,hl.skip (by omega) fun t h1 h2=>(h.gap i (by omega) t h1 h2).trans hf,by omega⟩
    | true=>
     rcases List.eq_nil_or_concat l with rfl|⟨l',s,hls⟩
     ·refine ⟨[⟨gl xs i,gl xs (i+1)⟩],?_,by simp⟩
      have:=hl.add hlt (h.gap i (by omega)) (fun a ha=>by simp at ha)
      rw [hf] at this;exact this
     ·rw [List.concat_eq_append] at hls
      subst hls
      by_cases hs:s.R_=gl xs i
      ·refine ⟨l' ++ [⟨s.L_,gl xs (i+1)⟩],?_,by simp at hll ⊢;omega⟩
       rw [List.map_append] at hl;have:=hl.grow (a:=s.rn) hs hlt fun t h1 h2=>(h.gap i (by omega) t h1 h2).trans hf
       rw [List.map_append];exact this
      ·refine ⟨(l' ++ [s])++[⟨gl xs i,gl xs (i+1)⟩],?_,by simp at hll ⊢;omega⟩
       have:=hl.add hlt (h.gap i (by omega)) (fun a ha he=>by
        rw [List.map_append] at ha;simp at ha
        subst ha;exact absurd he hs)
       rw [hf] at this;rw [List.map_append];exact this
  obtain ⟨l,hl,hll⟩:=key (xs.length-1) (by omega);refine ⟨l,.of_runs hl.runs,fun x=>?_,by omega⟩
  rw [Z2P];exact h.done (by omega) hl x
theorem Step.spans {xs:List Int} {f:Int→Bool} (h:Step false xs f):∃ l,SpOk l∧∀ x,inS l x=f x:=by
 obtain ⟨l,h1,h2,_⟩:=h.spansL;exact ⟨l,h1,h2⟩
theorem Step.spn_len {xs:List Int} {f:Int→Bool} (h:Step false xs f):(spn f).length≤xs.length:=by
 obtain ⟨l,h1,h2,h3⟩:=h.spansL;rw [Z3K h1 h2];exact h3
theorem Grid.rows {xs ys:List Int} {S:Int→Int→Bool} (h:Grid xs ys S):Z7D S:=fun y=>(h.x y).spans
theorem Grid.step {xs ys:List Int} {S:Int→Int→Bool} (h:Grid xs ys S):Step [] ys fun y=>spn fun x=>S x y:=by
 refine ⟨(h.y 0).asc,fun i hi t h1 h2=>?_,fun t ht=>?_,fun t ht=>?_⟩
 ·congr 1;funext x;exact (h.y x).gap i hi t h1 h2
 ·exact Z5c fun x=>(h.y x).before t ht
 ·exact Z5c fun x=>(h.y x).after t ht
theorem Grid.of {xs ys:List Int} {a b:List Rect} (hx:Asc xs) (hy:Asc ys) (ax:Y0f xs a) (bx:Y0f xs b) (ay:Z9c ys a) (by' : Z9c ys b) {k:Bool→Bool→Bool} (hk:k false false=false) :
  Grid xs ys fun x y=>k (inR a x y) (inR b x y):=by
 refine ⟨fun y=>⟨hx,fun i hi t h1 h2=>?_,fun t ht=>?_,fun t ht=>?_⟩,fun x=>⟨hy,fun i hi t h1 h2=>?_,fun t ht=>?_,fun t ht=>?_⟩⟩
 ·simp only [ax.gap hx hi h1 h2,bx.gap hx hi h1 h2]
 ·simp only [ax.before ht,bx.before ht,hk]
 ·simp only [ax.after ht,bx.after ht,hk]
 ·simp only [ay.gap hy hi h1 h2,by'.gap hy hi h1 h2]
 ·simp only [ay.before ht,by'.before ht,hk]
 ·simp only [ay.after ht,by'.after ht,hk]
end Go.Ab
end
