/- The code that the statement reaches as plain programs, and what they compute: no condition on the program. -/
import Derived.Test.YtdghfppocejhjaaGreatAbC
import Derived.Test.YtdghfppocejhjaaGreatPuA
set_option linter.unusedVariables false
set_option linter.unusedSimpArgs false
section
namespace Go.Ab
set_option linter.unusedVariables false
set_option maxRecDepth 100000
noncomputable section
instance:Emb Rect:=⟨fun x=>[.int .i64 x.left_,.int .i64 x.low_,.int .i64 x.right_,.int .i64 x.high_],4,⟨0,0,0,0⟩,fun _=>rfl⟩
structure Region where
 rects_:(List Rect)
 deriving DecidableEq
instance:Emb Region:=⟨fun x=>[DL (α:=Rect) x.rects_],1,⟨[]⟩,fun _=>rfl⟩
structure Feature where
 number_:Int
 kind_:Int
 from_:Int
 until_:Int
 region_:Region
 deriving DecidableEq
instance:Emb Feature:=⟨fun x=>[.int .i64 x.number_,.int .i64 x.kind_,.int .i64 x.from_,.int .i64 x.until_,DL (α:=Rect) x.region_.rects_],5,⟨0,0,0,0,⟨[]⟩⟩,fun _=>rfl⟩
structure Tape where
 l_:(List Int)
 at_:Int
 deriving DecidableEq
instance:Emb Tape:=⟨fun x=>[DL (α:=Int) x.l_,.int .i64 x.at_],2,⟨[],0⟩,fun _=>rfl⟩
instance:Emb Span:=⟨fun x=>[.int .i64 x.left_,.int .i64 x.right_],2,⟨0,0⟩,fun _=>rfl⟩
structure Band where
 low_:Int
 high_:Int
 spans_:(List Span)
 deriving DecidableEq
instance:Emb Band:=⟨fun x=>[.int .i64 x.low_,.int .i64 x.high_,DL (α:=Span) x.spans_],3,⟨0,0,[]⟩,fun _=>rfl⟩
def FR_Rect_Bool (q:Rect→Option Bool):List AVal→AVal→Prop:=fun args r=>∃ x0 y,q x0=some y∧args=[gE x0]∧r=vb y
def FR_Span_Span_Int (q:Span→Span→Option Int):List AVal→AVal→Prop:=fun args r=>∃ x0 x1 y,q x0 x1=some y∧args=[gE x0,gE x1]∧r=vi y
def FR_Int_ListSpan (q:Int→Option (List Span)):List AVal→AVal→Prop:=fun args r=>∃ x0 y,q x0=some y∧args=[vi x0]∧r=AL (α:=Span) y
def FR_Feature_Bool (q:Feature→Option Bool):List AVal→AVal→Prop:=fun args r=>∃ x0 y,q x0=some y∧args=[gE x0]∧r=vb y
def FR_Feature_Feature_Int (q:Feature→Feature→Option Int):List AVal→AVal→Prop:=fun args r=>∃ x0 x1 y,q x0 x1=some y∧args=[gE x0,gE x1]∧r=vi y
def FR_Int_Bool (q:Int→Option Bool):List AVal→AVal→Prop:=fun args r=>∃ x0 y,q x0=some y∧args=[vi x0]∧r=vb y
def slices_IndexFunc_Rect_k1 (F:Nat):Option (Int):=
 some (-1:Int)
def slices_IndexFunc_Rect_b0 (F:Nat) (x1:(List Rect)) (x2:Rect→Option Bool) (b:(Int)→Option (Int)) (a:Int):Option (Int):=
 br (decide (a<((List.length x1:Nat):Int))) (gd (0≤a∧a<((List.length x1:Nat):Int)) <|
 (x2 (gl x1 a.toNat)).bind fun c=>
 br c (some a) (gd (I64 (a+(1:Int))) <|
 b (a+(1:Int)))) (slices_IndexFunc_Rect_k1 F)
def slices_IndexFunc_Rect (F:Nat) (x1:(List Rect)) (x2:Rect→Option Bool):Option (Int):=
 loopN (fun again (z:Int)=>slices_IndexFunc_Rect_b0 F x1 x2 again z) F (0:Int)
def slices_ContainsFunc_Rect (F:Nat) (a:(List Rect)) (b:Rect→Option Bool):Option (Bool):=
 (slices_IndexFunc_Rect F a b).bind fun c=>
 some (decide ((0:Int)≤c))
def region_proper_k0 (F:Nat) (a:Bool):Option (Bool):=
 some a
def region_proper (F:Nat) (a:Rect):Option (Bool):=
 br (decide ((0:Int)≤a.left_)) (br (decide (a.left_<a.right_)) (br (decide (a.right_≤(16384:Int))) (br (decide ((0:Int)≤a.low_)) (br (decide (a.low_<a.high_)) (region_proper_k0 F (decide (a.high_≤(16384:Int)))) (region_proper_k0 F false)) (region_proper_k0 F false)) (region_proper_k0 F false)) (region_proper_k0 F false)) (region_proper_k0 F false)
def region_Valid_1 (F:Nat) (a:Rect):Option (Bool):=
 (region_proper F a).bind fun b=>
 some (!b)
def slices_Compact_int_k2 (F:Nat) (a:Int) (b:(Int×Int×(List Int))→Option ((List Int))) (c:Int) (d:(List Int)):Option ((List Int)):=
 gd (I64 (a+(1:Int))) <|
 b (c,(a+(1:Int)),d)
def slices_Compact_int_k3 (F:Nat) (a:Int) (b:(List Int)):Option ((List Int)):=
 gd (0≤a∧a≤(((List.length (α:=Int) b):Nat):Int)∧((0:Nat):Int)+(((List.length (α:=Int) b):Nat):Int)≤((List.length (α:=Int) b:Nat):Int)) <|
 gd (0≤a∧a≤((List.length (clr b (0+(a).toNat) ((List.length (α:=Int) b)-(a).toNat)):Nat):Int)) <|
 some ((clr b (0+(a).toNat) ((List.length (α:=Int) b)-(a).toNat)).take (a).toNat)
def slices_Compact_int_b1 (F:Nat) (e:(List Int)) (c:Int) (i:(Int×Int×(List Int))→Option ((List Int))) (d:Int) (a:Int) (b:(List Int)):Option ((List Int)):=
 br (decide (a<((((List.length (α:=Int) e)-(c).toNat):Nat):Int))) (gd (0≤a∧a<((((List.length (α:=Int) e)-(c).toNat):Nat):Int)) <|
 gd (((0+(c).toNat)+(a).toNat)<List.length b) <|
 gd (I64 (a-(1:Int))) <|
 gd (0≤(a-(1:Int))∧(a-(1:Int))<((((List.length (α:=Int) e)-(c).toNat):Nat):Int)) <|
 gd (((0+(c).toNat)+((a-(1:Int))).toNat)<List.length b) <|
 br ((gl b ((0+(c).toNat)+(a).toNat)) != (gl b ((0+(c).toNat)+((a-(1:Int))).toNat))) (gd (0≤a∧a<((((List.length (α:=Int) e)-(c).toNat):Nat):Int)) <|
 gd (((0+(c).toNat)+(a).toNat)<List.length b) <|
 gd (0≤d∧d<((List.length b:Nat):Int)) <|
 gd (I64 (d+(1:Int))) <|
 slices_Compact_int_k2 F a i (d+(1:Int)) (List.set b d.toNat (gl b ((0+(c).toNat)+(a).toNat)))) (slices_Compact_int_k2 F a i d b)) (slices_Compact_int_k3 F d b)
def slices_Compact_int_k4 (F:Nat) (a:Int) (b:(Int)→Option ((List Int))):Option ((List Int)):=
 gd (I64 (a+(1:Int))) <|
 b (a+(1:Int))
def slices_Compact_int_k5 (F:Nat) (a:(List Int)):Option ((List Int)):=
 some a
def slices_Compact_int_b0 (F:Nat) (b:(List Int)) (c:(Int)→Option ((List Int))) (a:Int):Option ((List Int)):=
 br (decide (a<((List.length b:Nat):Int))) (gd (0≤a∧a<((List.length b:Nat):Int)) <|
 gd (I64 (a-(1:Int))) <|
 gd (0≤(a-(1:Int))∧(a-(1:Int))<((List.length b:Nat):Int)) <|
 br ((gl b a.toNat)==(gl b (a-(1:Int)).toNat)) (gd (0≤a∧a≤(((List.length (α:=Int) b):Nat):Int)∧((0:Nat):Int)+(((List.length (α:=Int) b):Nat):Int)≤((List.length (α:=Int) b:Nat):Int)) <|
 loopN (fun again (z:Int×Int×(List Int))=>slices_Compact_int_b1 F b a again z.1 z.2.1 z.2.2) F (a,(1:Int),b)) (slices_Compact_int_k4 F a c)) (slices_Compact_int_k5 F b)
def slices_Compact_int (F:Nat) (a:(List Int)):Option ((List Int)):=
 br (decide (((List.length a:Nat):Int)<(2:Int))) (some a) (loopN (fun again (z:Int)=>slices_Compact_int_b0 F a again z) F (1:Int))
def region_Cuts_k2 (F:Nat) (a:Int) (b:(Int×(List Int))→Option ((List Int))) (c:(List Int)):Option ((List Int)):=
 gd (I64 (a+(1:Int))) <|
 b ((a+(1:Int)),c)
def region_Cuts_b1 (F:Nat) (c:(List (List Rect))) (b:Int) (e:(Int×(List Int))→Option ((List Int))) (i:(Int×(List Int))→Option ((List Int))) (a:Int) (d:(List Int)):Option ((List Int)):=
 br (decide (a<((List.length (gl c b.toNat):Nat):Int))) (gd (0≤a∧a<((List.length (gl c b.toNat):Nat):Int)) <|
 gd ((List.length (α:=Int) d)+(List.length (α:=Int) ([(gl (gl c b.toNat) a.toNat).low_,(gl (gl c b.toNat) a.toNat).high_]:List Int))≤LIM) <|
 gd (I64 (a+(1:Int))) <|
 i ((a+(1:Int)),(d++([(gl (gl c b.toNat) a.toNat).low_,(gl (gl c b.toNat) a.toNat).high_]:List Int)))) (region_Cuts_k2 F b e d)
def region_Cuts_k3 (F:Nat) (a:(List Int)):Option ((List Int)):=
 (sortI a).bind fun b=>
 (slices_Compact_int F b).bind fun c=>
 some c
def region_Cuts_b0 (F:Nat) (b:(List (List Rect))) (d:(Int×(List Int))→Option ((List Int))) (a:Int) (c:(List Int)):Option ((List Int)):=
 br (decide (a<((List.length b:Nat):Int))) (gd (0≤a∧a<((List.length b:Nat):Int)) <|
 loopN (fun again (z:Int×(List Int))=>region_Cuts_b1 F b a d again z.1 z.2) F ((0:Int),c)) (region_Cuts_k3 F c)
def region_Cuts (F:Nat) (a:(List (List Rect))):Option ((List Int)):=
 loopN (fun again (z:Int×(List Int))=>region_Cuts_b0 F a again z.1 z.2) F ((0:Int),([]:List Int))
def cmp_isNaN_int (F:Nat) (a:Int):Option (Bool):=
 some (a != a)
def cmp_Compare_int (F:Nat) (a:Int) (b:Int):Option (Int):=
 (cmp_isNaN_int F a).bind fun d=>
 (cmp_isNaN_int F b).bind fun c=>
 br d (br c (some (0:Int)) (some (-1:Int))) (br c (some (1:Int)) (br (decide (a<b)) (some (-1:Int)) (br (decide (b<a)) (some (1:Int)) (some (0:Int)))))
def region_Row_1 (F:Nat) (a:Span) (b:Span):Option (Int):=
 (cmp_Compare_int F a.left_ b.left_).bind fun c=>
 some c
def region_Row_k2 (F:Nat) (a:Int) (b:(Int×(List Span))→Option ((List Span))) (c:(List Span)):Option ((List Span)):=
 gd (I64 (a+(1:Int))) <|
 b ((a+(1:Int)),c)
def region_Row_k1 (F:Nat) (b:(List Rect)) (a:Int) (c:(List Span)) (d:(Int×(List Span))→Option ((List Span))) (e:Bool):Option ((List Span)):=
 br e (gd ((List.length (α:=Span) c)+(List.length (α:=Span) ([(⟨(gl b a.toNat).left_,(gl b a.toNat).right_⟩ : Span)]:List Span))≤LIM) <|
 region_Row_k2 F a d (c++([(⟨(gl b a.toNat).left_,(gl b a.toNat).right_⟩ : Span)]:List Span))) (region_Row_k2 F a d c)
def region_Row_k6 (F:Nat) (a:Int) (b:(Int×(List Span))→Option ((List Span))) (c:(List Span)):Option ((List Span)):=
 gd (I64 (a+(1:Int))) <|
 b ((a+(1:Int)),c)
def region_Row_k5 (F:Nat) (c:(List Span)) (b:Int) (a:(List Span)) (d:(Int×(List Span))→Option ((List Span))) (e:Bool):Option ((List Span)):=
 br e (gd (I64 (((List.length a:Nat):Int)-(1:Int))) <|
 gd (I64 (((List.length a:Nat):Int)-(1:Int))) <|
 gd (0≤(((List.length a:Nat):Int)-(1:Int))∧(((List.length a:Nat):Int)-(1:Int))<((List.length a:Nat):Int)) <|
 gd (0≤(((List.length a:Nat):Int)-(1:Int))∧(((List.length a:Nat):Int)-(1:Int))<((List.length a:Nat):Int)) <|
 region_Row_k6 F b d (List.set a (((List.length a:Nat):Int)-(1:Int)).toNat (⟨(gl a (((List.length a:Nat):Int)-(1:Int)).toNat).left_,(gmax ((gl a (((List.length a:Nat):Int)-(1:Int)).toNat).right_) ((gl c b.toNat).right_))⟩ : Span))) (gd ((List.length (α:=Span) a)+(List.length (α:=Span) ([(gl c b.toNat)]:List Span))≤LIM) <|
 region_Row_k6 F b d (a++([(gl c b.toNat)]:List Span)))
def region_Row_k7 (F:Nat) (a:(List Span)):Option ((List Span)):=
 some a
def region_Row_b4 (F:Nat) (c:(List Span)) (d:(Int×(List Span))→Option ((List Span))) (b:Int) (a:(List Span)):Option ((List Span)):=
 br (decide (b<((List.length c:Nat):Int))) (gd (0≤b∧b<((List.length c:Nat):Int)) <|
 br (decide ((0:Int)<((List.length a:Nat):Int))) (gd (I64 (((List.length a:Nat):Int)-(1:Int))) <|
 gd (0≤(((List.length a:Nat):Int)-(1:Int))∧(((List.length a:Nat):Int)-(1:Int))<((List.length a:Nat):Int)) <|
 region_Row_k5 F c b a d (decide (((gl c b.toNat).left_)≤((gl a (((List.length a:Nat):Int)-(1:Int)).toNat).right_)))) (region_Row_k5 F c b a d false)) (region_Row_k7 F a)
def region_Row_k3 (F:Nat) (a:(List Span)):Option ((List Span)):=
 (sortF a (fun y0 y1=>region_Row_1 F y0 y1)).bind fun b=>
 loopN (fun again (z:Int×(List Span))=>region_Row_b4 F b again z.1 z.2) F ((0:Int),([]:List Span))
def region_Row_b0 (F:Nat) (b:(List Rect)) (e:Int) (d:(Int×(List Span))→Option ((List Span))) (a:Int) (c:(List Span)):Option ((List Span)):=
 br (decide (a<((List.length b:Nat):Int))) (gd (0≤a∧a<((List.length b:Nat):Int)) <|
 br (decide (((gl b a.toNat).low_)≤e)) (region_Row_k1 F b a c d (decide (e<((gl b a.toNat).high_)))) (region_Row_k1 F b a c d false)) (region_Row_k3 F c)
def region_Row (F:Nat) (a:(List Rect)) (b:Int):Option ((List Span)):=
 loopN (fun again (z:Int×(List Span))=>region_Row_b0 F a b again z.1 z.2) F ((0:Int),([]:List Span))
def region_canonical_1 (F:Nat) (a:Int) (b:(List Rect)):Option ((List Span)):=
 (region_Row F b a).bind fun c=>
 some c
def slices_Equal_Span_k1 (F:Nat):Option (Bool):=
 some true
def slices_Equal_Span_b0 (F:Nat) (b:(List Span)) (c:(List Span)) (d:(Int)→Option (Bool)) (a:Int):Option (Bool):=
 br (decide (a<((List.length b:Nat):Int))) (gd (0≤a∧a<((List.length b:Nat):Int)) <|
 gd (0≤a∧a<((List.length c:Nat):Int)) <|
 br (!((((gl b a.toNat).left_)==((gl c a.toNat).left_))&&((((gl b a.toNat).right_)==((gl c a.toNat).right_))&&true))) (some false) (gd (I64 (a+(1:Int))) <|
 d (a+(1:Int)))) (slices_Equal_Span_k1 F)
def slices_Equal_Span (F:Nat) (a:(List Span)) (b:(List Span)):Option (Bool):=
 br (((List.length a:Nat):Int) != ((List.length b:Nat):Int)) (some false) (loopN (fun again (z:Int)=>slices_Equal_Span_b0 F a b again z) F (0:Int))
def region_rects_k2 (F:Nat) (a:Int) (b:(Int×(List Rect))→Option ((List Rect))) (c:(List Rect)):Option ((List Rect)):=
 gd (I64 (a+(1:Int))) <|
 b ((a+(1:Int)),c)
def region_rects_b1 (F:Nat) (b:(List Band)) (a:Int) (e:(Int×(List Rect))→Option ((List Rect))) (i:(Int×(List Rect))→Option ((List Rect))) (c:Int) (d:(List Rect)):Option ((List Rect)):=
 br (decide (c<((List.length ((gl b a.toNat).spans_):Nat):Int))) (gd (0≤c∧c<((List.length ((gl b a.toNat).spans_):Nat):Int)) <|
 gd ((List.length (α:=Rect) d)+(List.length (α:=Rect) ([(⟨(gl ((gl b a.toNat).spans_) c.toNat).left_,(gl b a.toNat).low_,(gl ((gl b a.toNat).spans_) c.toNat).right_,(gl b a.toNat).high_⟩ : Rect)]:List Rect))≤LIM) <|
 gd (I64 (c+(1:Int))) <|
 i ((c+(1:Int)),(d++([(⟨(gl ((gl b a.toNat).spans_) c.toNat).left_,(gl b a.toNat).low_,(gl ((gl b a.toNat).spans_) c.toNat).right_,(gl b a.toNat).high_⟩ : Rect)]:List Rect)))) (region_rects_k2 F a e d)
def region_rects_k3 (F:Nat) (a:(List Rect)):Option ((List Rect)):=
 some a
def region_rects_b0 (F:Nat) (b:(List Band)) (d:(Int×(List Rect))→Option ((List Rect))) (a:Int) (c:(List Rect)):Option ((List Rect)):=
 br (decide (a<((List.length b:Nat):Int))) (gd (0≤a∧a<((List.length b:Nat):Int)) <|
 loopN (fun again (z:Int×(List Rect))=>region_rects_b1 F b a d again z.1 z.2) F ((0:Int),c)) (region_rects_k3 F c)
def region_rects (F:Nat) (a:(List Band)):Option ((List Rect)):=
 loopN (fun again (z:Int×(List Rect))=>region_rects_b0 F a again z.1 z.2) F ((0:Int),([]:List Rect))
def region_Build_k2 (F:Nat) (a:Int) (b:(Int×(List Band))→Option ((List Rect))) (c:(List Band)):Option ((List Rect)):=
 gd (I64 (a+(1:Int))) <|
 b ((a+(1:Int)),c)
def region_Build_k1 (F:Nat) (c:(List Int)) (b:Int) (a:(List Band)) (e:(List Span)) (d:(Int×(List Band))→Option ((List Rect))) (i:Bool):Option ((List Rect)):=
 br i (gd (I64 (((List.length a:Nat):Int)-(1:Int))) <|
 gd (0≤(((List.length a:Nat):Int)-(1:Int))∧(((List.length a:Nat):Int)-(1:Int))<((List.length a:Nat):Int)) <|
 region_Build_k2 F b d (List.set a (((List.length a:Nat):Int)-(1:Int)).toNat (⟨(gl a (((List.length a:Nat):Int)-(1:Int)).toNat).low_,(gl c b.toNat),(gl a (((List.length a:Nat):Int)-(1:Int)).toNat).spans_⟩ : Band))) (gd ((List.length (α:=Band) a)+(List.length (α:=Band) ([(⟨(gl c (b-(1:Int)).toNat),(gl c b.toNat),e⟩ : Band)]:List Band))≤LIM) <|
 region_Build_k2 F b d (a++([(⟨(gl c (b-(1:Int)).toNat),(gl c b.toNat),e⟩ : Band)]:List Band)))
def region_Build_k3 (F:Nat) (a:(List Band)):Option ((List Rect)):=
 (region_rects F a).bind fun b=>
 some b
def region_Build_b0 (F:Nat) (c:(List Int)) (i:Int→Option (List Span)) (e:(Int×(List Band))→Option ((List Rect))) (b:Int) (a:(List Band)):Option ((List Rect)):=
 br (decide (b<((List.length c:Nat):Int))) (gd (I64 (b-(1:Int))) <|
 gd (0≤(b-(1:Int))∧(b-(1:Int))<((List.length c:Nat):Int)) <|
 gd (0≤b∧b<((List.length c:Nat):Int)) <|
 gd (I64 (b-(1:Int))) <|
 gd (0≤(b-(1:Int))∧(b-(1:Int))<((List.length c:Nat):Int)) <|
 (i (gl c (b-(1:Int)).toNat)).bind fun d=>
 br (decide ((0:Int)<((List.length a:Nat):Int))) (gd (I64 (((List.length a:Nat):Int)-(1:Int))) <|
 gd (0≤(((List.length a:Nat):Int)-(1:Int))∧(((List.length a:Nat):Int)-(1:Int))<((List.length a:Nat):Int)) <|
 br (((gl a (((List.length a:Nat):Int)-(1:Int)).toNat).high_)==(gl c (b-(1:Int)).toNat)) (gd (I64 (((List.length a:Nat):Int)-(1:Int))) <|
 gd (0≤(((List.length a:Nat):Int)-(1:Int))∧(((List.length a:Nat):Int)-(1:Int))<((List.length a:Nat):Int)) <|
 (slices_Equal_Span F ((gl a (((List.length a:Nat):Int)-(1:Int)).toNat).spans_) d).bind fun j=>
 region_Build_k1 F c b a d e j) (region_Build_k1 F c b a d e false)) (region_Build_k1 F c b a d e false)) (region_Build_k3 F a)
def region_Build (F:Nat) (a:(List Int)) (b:Int→Option (List Span)):Option ((List Rect)):=
 loopN (fun again (z:Int×(List Band))=>region_Build_b0 F a b again z.1 z.2) F ((1:Int),([]:List Band))
def region_canonical (F:Nat) (a:(List Rect)):Option ((List Rect)):=
 (region_Cuts F ([a]:List (List Rect))).bind fun b=>
 (region_Build F b (fun y0=>region_canonical_1 F y0 a)).bind fun c=>
 some c
def slices_Equal_Rect_k1 (F:Nat):Option (Bool):=
 some true
def slices_Equal_Rect_b0 (F:Nat) (b:(List Rect)) (c:(List Rect)) (d:(Int)→Option (Bool)) (a:Int):Option (Bool):=
 br (decide (a<((List.length b:Nat):Int))) (gd (0≤a∧a<((List.length b:Nat):Int)) <|
 gd (0≤a∧a<((List.length c:Nat):Int)) <|
 br (!((((gl b a.toNat).left_)==((gl c a.toNat).left_))&&((((gl b a.toNat).low_)==((gl c a.toNat).low_))&&((((gl b a.toNat).right_)==((gl c a.toNat).right_))&&((((gl b a.toNat).high_)==((gl c a.toNat).high_))&&true))))) (some false) (gd (I64 (a+(1:Int))) <|
 d (a+(1:Int)))) (slices_Equal_Rect_k1 F)
def slices_Equal_Rect (F:Nat) (a:(List Rect)) (b:(List Rect)):Option (Bool):=
 br (((List.length a:Nat):Int) != ((List.length b:Nat):Int)) (some false) (loopN (fun again (z:Int)=>slices_Equal_Rect_b0 F a b again z) F (0:Int))
def region_Valid_k0 (F:Nat) (a:Region) (b:Bool):Option (Bool):=
 br b (some false) ((region_canonical F a.rects_).bind fun c=>
 (slices_Equal_Rect F c a.rects_).bind fun d=>
 some d)
def region_Valid (F:Nat) (a:Region):Option (Bool):=
 br (decide ((120:Int)<((List.length a.rects_:Nat):Int))) (region_Valid_k0 F a true) ((slices_ContainsFunc_Rect F a.rects_ (fun y0=>region_Valid_1 F y0)).bind fun b=>
 region_Valid_k0 F a b)
def feature_single_k3 (F:Nat) (a:Bool):Option (Int):=
 br a (some (7:Int)) (some (0:Int))
def feature_single_k2 (F:Nat) (a:Feature) (b:Bool):Option (Int):=
 br b (some (9:Int)) (br (((List.length a.region_.rects_:Nat):Int)==(0:Int)) (feature_single_k3 F true) ((region_Valid F a.region_).bind fun c=>
 feature_single_k3 F (!c)))
def feature_single_k1 (F:Nat) (a:Feature) (b:Bool):Option (Int):=
 br b (some (14:Int)) (br (decide (a.from_<(0:Int))) (feature_single_k2 F a true) (br (decide (a.until_≤a.from_)) (feature_single_k2 F a true) (feature_single_k2 F a (decide ((36865:Int)<a.until_)))))
def feature_single_k0 (F:Nat) (a:Feature) (b:Bool):Option (Int):=
 br b (some (2:Int)) (br (decide (a.kind_<(0:Int))) (feature_single_k1 F a true) (feature_single_k1 F a (decide ((15:Int)<a.kind_))))
def feature_single (F:Nat) (a:Feature):Option (Int):=
 br (decide (a.number_<(1:Int))) (feature_single_k0 F a true) (feature_single_k0 F a (decide ((1073741824:Int)<a.number_)))
def feature_Check_k1 (F:Nat) (a:Int) (b:(Int)→Option (Int)) (c:Bool):Option (Int):=
 br c (some (3:Int)) (gd (I64 (a+(1:Int))) <|
 b (a+(1:Int)))
def feature_Check_k2 (F:Nat):Option (Int):=
 some (0:Int)
def feature_Check_b0 (F:Nat) (b:(List Feature)) (c:(Int)→Option (Int)) (a:Int):Option (Int):=
 br (decide (a<((List.length b:Nat):Int))) (gd (0≤a∧a<((List.length b:Nat):Int)) <|
 (feature_single F (gl b a.toNat)).bind fun d=>
 br (d != (0:Int)) (some d) (br (decide ((0:Int)<a)) (gd (I64 (a-(1:Int))) <|
 gd (0≤(a-(1:Int))∧(a-(1:Int))<((List.length b:Nat):Int)) <|
 feature_Check_k1 F a c (decide (((gl b a.toNat).number_)≤((gl b (a-(1:Int)).toNat).number_)))) (feature_Check_k1 F a c false))) (feature_Check_k2 F)
def feature_Check (F:Nat) (a:(List Feature)):Option (Int):=
 br (decide ((60:Int)<((List.length a:Nat):Int))) (some (1:Int)) (loopN (fun again (z:Int)=>feature_Check_b0 F a again z) F (0:Int))
def feature_right_k0 (F:Nat) (a:Bool):Option (Int):=
 br a (some (9:Int)) (some (0:Int))
def feature_right (F:Nat) (c:(List Feature)) (a:Int):Option (Int):=
 (feature_Check F c).bind fun b=>
 br (b != (0:Int)) (some b) (br (decide (a<(0:Int))) (feature_right_k0 F true) (feature_right_k0 F (decide ((36864:Int)<a))))
def slices_Clone_Rect (F:Nat) (a:(List Rect)):Option ((List Rect)):=
 brN (List.length a) (some ([])) (gd ((0)+(List.length (α:=Rect) a)≤LIM) <|
 some (([]:List Rect)++a))
def feature_copied (F:Nat) (a:Feature):Option (Feature):=
 (slices_Clone_Rect F a.region_.rects_).bind fun b=>
 some (⟨a.number_,a.kind_,a.from_,a.until_,(⟨b⟩ : Region)⟩ : Feature)
def feature_all_k1 (F:Nat) (a:(List Feature)):Option ((List Feature)):=
 some a
def feature_all_b0 (F:Nat) (c:(List Feature)) (e:(Int×(List Feature))→Option ((List Feature))) (a:Int) (b:(List Feature)):Option ((List Feature)):=
 br (decide (a<((List.length c:Nat):Int))) (gd (0≤a∧a<((List.length c:Nat):Int)) <|
 (feature_copied F (gl c a.toNat)).bind fun d=>
 gd ((List.length (α:=Feature) b)+(List.length (α:=Feature) ([d]:List Feature))≤LIM) <|
 gd (I64 (a+(1:Int))) <|
 e ((a+(1:Int)),(b++([d]:List Feature)))) (feature_all_k1 F b)
def feature_all (F:Nat) (a:(List Feature)):Option ((List Feature)):=
 loopN (fun again (z:Int×(List Feature))=>feature_all_b0 F a again z.1 z.2) F ((0:Int),([]:List Feature))
def feature_there_k0 (F:Nat) (a:Bool):Option (Bool):=
 some a
def feature_there (F:Nat) (a:Feature) (b:Int):Option (Bool):=
 br (decide (a.from_≤b)) (feature_there_k0 F (decide (b<a.until_))) (feature_there_k0 F false)
def feature_On_1 (F:Nat) (a:Feature) (b:Int):Option (Bool):=
 (feature_there F a b).bind fun c=>
 some (!c)
def slices_IndexFunc_Feature_k1 (F:Nat):Option (Int):=
 some (-1:Int)
def slices_IndexFunc_Feature_b0 (F:Nat) (b:(List Feature)) (d:Feature→Option Bool) (c:(Int)→Option (Int)) (a:Int):Option (Int):=
 br (decide (a<((List.length b:Nat):Int))) (gd (0≤a∧a<((List.length b:Nat):Int)) <|
 (d (gl b a.toNat)).bind fun e=>
 br e (some a) (gd (I64 (a+(1:Int))) <|
 c (a+(1:Int)))) (slices_IndexFunc_Feature_k1 F)
def slices_IndexFunc_Feature (F:Nat) (a:(List Feature)) (b:Feature→Option Bool):Option (Int):=
 loopN (fun again (z:Int)=>slices_IndexFunc_Feature_b0 F a b again z) F (0:Int)
def slices_DeleteFunc_Feature_k1 (F:Nat) (a:Int) (b:(Int×Int×(List Feature))→Option ((List Feature))) (c:Int) (d:(List Feature)):Option ((List Feature)):=
 gd (I64 (a+(1:Int))) <|
 b (c,(a+(1:Int)),d)
def slices_DeleteFunc_Feature_k2 (F:Nat) (a:Int) (b:(List Feature)):Option ((List Feature)):=
 gd (0≤a∧a≤(((List.length (α:=Feature) b):Nat):Int)∧((0:Nat):Int)+(((List.length (α:=Feature) b):Nat):Int)≤((List.length (α:=Feature) b:Nat):Int)) <|
 gd (0≤a∧a≤((List.length (clr b (0+(a).toNat) ((List.length (α:=Feature) b)-(a).toNat)):Nat):Int)) <|
 some ((clr b (0+(a).toNat) ((List.length (α:=Feature) b)-(a).toNat)).take (a).toNat)
def slices_DeleteFunc_Feature_b0 (F:Nat) (e:Feature→Option Bool) (d:(Int×Int×(List Feature))→Option ((List Feature))) (b:Int) (c:Int) (a:(List Feature)):Option ((List Feature)):=
 br (decide (c<((List.length a:Nat):Int))) (gd (0≤c∧c<((List.length a:Nat):Int)) <|
 (e (gl a c.toNat)).bind fun i=>
 br (!i) (gd (0≤b∧b<((List.length a:Nat):Int)) <|
 gd (I64 (b+(1:Int))) <|
 slices_DeleteFunc_Feature_k1 F c d (b+(1:Int)) (List.set a b.toNat (gl a c.toNat))) (slices_DeleteFunc_Feature_k1 F c d b a)) (slices_DeleteFunc_Feature_k2 F b a)
def slices_DeleteFunc_Feature (F:Nat) (b:(List Feature)) (c:Feature→Option Bool):Option ((List Feature)):=
 (slices_IndexFunc_Feature F b c).bind fun a=>
 br (a==(-1:Int)) (some b) (gd (I64 (a+(1:Int))) <|
 loopN (fun again (z:Int×Int×(List Feature))=>slices_DeleteFunc_Feature_b0 F c again z.1 z.2.1 z.2.2) F (a,(a+(1:Int)),b))
def feature_On (F:Nat) (a:(List Feature)) (b:Int):Option ((List Feature)×Int):=
 (feature_right F a b).bind fun c=>
 br (c != (0:Int)) (some ([],c)) ((feature_all F a).bind fun d=>
 (slices_DeleteFunc_Feature F d (fun y0=>feature_On_1 F y0 b)).bind fun e=>
 some (e,(0:Int)))
def slices_BinarySearchFunc_Feature_k2 (F:Nat) (a:Int) (b:Bool):Option (Int×Bool):=
 some (a,b)
def slices_BinarySearchFunc_Feature_k1 (F:Nat) (b:(List Feature)) (c:Feature) (d:Feature→Feature→Option Int) (a:Int):Option (Int×Bool):=
 br (decide (a<((List.length b:Nat):Int))) (gd (0≤a∧a<((List.length b:Nat):Int)) <|
 (d (gl b a.toNat) c).bind fun e=>
 slices_BinarySearchFunc_Feature_k2 F a (e==(0:Int))) (slices_BinarySearchFunc_Feature_k2 F a false)
def slices_BinarySearchFunc_Feature_b0 (F:Nat) (c:(List Feature)) (e:Feature) (i:Feature→Feature→Option Int) (d:(Int×Int)→Option (Int×Bool)) (a:Int) (b:Int):Option (Int×Bool):=
 br (decide (a<b)) (gd (I64 (a+b)) <|
 gd (0≤(1:Int)) <|
 gd (I64 ((IntKind.wrap .u64 (a+b)).fdiv (2 ^ (min ((1:Int)).toNat (IntKind.bits .u64))))) <|
 gd (0≤((IntKind.wrap .u64 (a+b)).fdiv (2 ^ (min ((1:Int)).toNat (IntKind.bits .u64))))∧((IntKind.wrap .u64 (a+b)).fdiv (2 ^ (min ((1:Int)).toNat (IntKind.bits .u64))))<((List.length c:Nat):Int)) <|
 (i (gl c ((IntKind.wrap .u64 (a+b)).fdiv (2 ^ (min ((1:Int)).toNat (IntKind.bits .u64)))).toNat) e).bind fun j=>
 br (decide (j<(0:Int))) (gd (I64 (((IntKind.wrap .u64 (a+b)).fdiv (2 ^ (min ((1:Int)).toNat (IntKind.bits .u64))))+(1:Int))) <|
 d ((((IntKind.wrap .u64 (a+b)).fdiv (2 ^ (min ((1:Int)).toNat (IntKind.bits .u64))))+(1:Int)),b)) (d (a,((IntKind.wrap .u64 (a+b)).fdiv (2 ^ (min ((1:Int)).toNat (IntKind.bits .u64))))))) (slices_BinarySearchFunc_Feature_k1 F c e i a)
def slices_BinarySearchFunc_Feature (F:Nat) (a:(List Feature)) (b:Feature) (c:Feature→Feature→Option Int):Option (Int×Bool):=
 loopN (fun again (z:Int×Int)=>slices_BinarySearchFunc_Feature_b0 F a b c again z.1 z.2) F ((0:Int),((List.length a:Nat):Int))
def feature_compare (F:Nat) (a:Feature) (b:Feature):Option (Int):=
 (cmp_Compare_int F a.number_ b.number_).bind fun c=>
 some c
def slices_Delete_Feature (F:Nat) (a:(List Feature)) (c:Int) (b:Int):Option ((List Feature)):=
 gd (0≤c∧c≤b∧b≤((List.length a:Nat):Int)∧((List.length a:Nat):Int)≤(((List.length (α:=Feature) a):Nat):Int)) <|
 br (c==b) (some a) (gd (0≤(0:Int)∧(0:Int)≤c∧((0:Nat):Int)+c≤((List.length (α:=Feature) a:Nat):Int)) <|
 gd (0≤b∧b≤(((List.length (α:=Feature) a):Nat):Int)∧((0:Nat):Int)+(((List.length (α:=Feature) a):Nat):Int)≤((List.length (α:=Feature) a:Nat):Int)) <|
 gd (0+((c).toNat)+((List.length (α:=Feature) a)-(b).toNat)≤List.length (α:=Feature) a∧(0+(b).toNat)+((List.length (α:=Feature) a)-(b).toNat)≤List.length (α:=Feature) a) <|
 gd (0≤(((((c).toNat)+((List.length (α:=Feature) a)-(b).toNat)):Nat):Int)∧(((((c).toNat)+((List.length (α:=Feature) a)-(b).toNat)):Nat):Int)≤((List.length a:Nat):Int)∧((0:Nat):Int)+((List.length a:Nat):Int)≤((List.length (α:=Feature) (mvl a (0+((c).toNat)) (0+(b).toNat) ((List.length (α:=Feature) a)-(b).toNat)):Nat):Int)) <|
 gd ((((c).toNat)+((List.length (α:=Feature) a)-(b).toNat))≤List.length (α:=Feature) (clr (mvl a (0+((c).toNat)) (0+(b).toNat) ((List.length (α:=Feature) a)-(b).toNat)) (0+((((((c).toNat)+((List.length (α:=Feature) a)-(b).toNat)):Nat):Int)).toNat) ((((List.length a:Nat):Int)).toNat-((((((c).toNat)+((List.length (α:=Feature) a)-(b).toNat)):Nat):Int)).toNat))) <|
 some ((clr (mvl a (0+((c).toNat)) (0+(b).toNat) ((List.length (α:=Feature) a)-(b).toNat)) (0+((((((c).toNat)+((List.length (α:=Feature) a)-(b).toNat)):Nat):Int)).toNat) ((((List.length a:Nat):Int)).toNat-((((((c).toNat)+((List.length (α:=Feature) a)-(b).toNat)):Nat):Int)).toNat)).take (((c).toNat)+((List.length (α:=Feature) a)-(b).toNat))))
def feature_End (F:Nat) (c:(List Feature)) (i:Int) (d:Int):Option ((List Feature)×Int):=
 (feature_Check F c).bind fun e=>
 br (e != (0:Int)) (some ([],e)) ((slices_BinarySearchFunc_Feature F c (⟨i,0,0,0,(⟨[]⟩ : Region)⟩ : Feature) (fun y0 y1=>feature_compare F y0 y1)).bind fun a=>
 br (!a.2) (some ([],(10:Int))) (gd (0≤a.1∧a.1<((List.length c:Nat):Int)) <|
 (feature_there F (gl c a.1.toNat) d).bind fun j=>
 br (!j) (some ([],(9:Int))) ((feature_all F c).bind fun b=>
 gd (0≤a.1∧a.1<((List.length b:Nat):Int)) <|
 br (((gl b a.1.toNat).from_)==d) (gd (I64 (a.1+(1:Int))) <|
 (slices_Delete_Feature F b a.1 (a.1+(1:Int))).bind fun k=>
 some (k,(0:Int))) (gd (0≤a.1∧a.1<((List.length b:Nat):Int)) <|
 some ((List.set b a.1.toNat (⟨(gl b a.1.toNat).number_,(gl b a.1.toNat).kind_,(gl b a.1.toNat).from_,d,(gl b a.1.toNat).region_⟩ : Feature)),(0:Int))))))
def law09_awake_k0 (F:Nat) (a:Bool):Option (Bool):=
 some a
def law09_awake (F:Nat):Option (Bool):=
 (feature_On F ([(⟨(1:Int),0,(5:Int),(10:Int),(⟨([(⟨0,0,(1:Int),(1:Int)⟩ : Rect)]:List Rect)⟩ : Region)⟩ : Feature)]:List Feature) (9:Int)).bind fun b=>
 (feature_On F ([(⟨(1:Int),0,(5:Int),(10:Int),(⟨([(⟨0,0,(1:Int),(1:Int)⟩ : Rect)]:List Rect)⟩ : Region)⟩ : Feature)]:List Feature) (10:Int)).bind fun c=>
 (feature_End F ([(⟨(1:Int),0,(5:Int),(10:Int),(⟨([(⟨0,0,(1:Int),(1:Int)⟩ : Rect)]:List Rect)⟩ : Region)⟩ : Feature)]:List Feature) (1:Int) (7:Int)).bind fun a=>
 (feature_On F a.1 (7:Int)).bind fun d=>
 br (b.2==(0:Int)) (br (((List.length b.1:Nat):Int)==(1:Int)) (br (c.2==(0:Int)) (br (((List.length c.1:Nat):Int)==(0:Int)) (br (a.2==(0:Int)) (br (d.2==(0:Int)) (br (((List.length d.1:Nat):Int)==(0:Int)) (br (((List.length a.1:Nat):Int)==(1:Int)) (gd (0≤(0:Int)∧(0:Int)<((List.length a.1:Nat):Int)) <|
 law09_awake_k0 F (((gl a.1 (0:Int).toNat).until_)==(7:Int))) (law09_awake_k0 F false)) (law09_awake_k0 F false)) (law09_awake_k0 F false)) (law09_awake_k0 F false)) (law09_awake_k0 F false)) (law09_awake_k0 F false)) (law09_awake_k0 F false)) (law09_awake_k0 F false)
def keep_New (F:Nat) (a:(List Int)):Option (Tape):=
 gd (0≤(gmin ((List.length a:Nat):Int) (400:Int))∧(gmin ((List.length a:Nat):Int) (400:Int))≤((List.length a:Nat):Int)) <|
 some (⟨(a.take (gmin ((List.length a:Nat):Int) (400:Int)).toNat),0⟩ : Tape)
def keep_Mod_k0 (F:Nat) (a:Int):Option (Int):=
 some a
def keep_Mod (F:Nat) (b:Int) (a:Int):Option (Int):=
 br (decide (a<(1:Int))) (some (0:Int)) (gd (a≠0) <|
 br (decide ((b.tmod a)<(0:Int))) (gd (I64 ((b.tmod a)+a)) <|
 keep_Mod_k0 F ((b.tmod a)+a)) (keep_Mod_k0 F (b.tmod a)))
def keep_Tape_Next (F:Nat) (a:Tape) (b:Int):Option (Tape×Int):=
 br (decide (((List.length a.l_:Nat):Int)≤a.at_)) (some (a,(0:Int))) (gd (I64 (a.at_+(1:Int))) <|
 gd (I64 ((a.at_+(1:Int))-(1:Int))) <|
 gd (0≤((a.at_+(1:Int))-(1:Int))∧((a.at_+(1:Int))-(1:Int))<((List.length a.l_:Nat):Int)) <|
 (keep_Mod F (gl a.l_ ((a.at_+(1:Int))-(1:Int)).toNat) b).bind fun c=>
 some ((⟨a.l_,(a.at_+(1:Int))⟩ : Tape),c))
def keep_Tape_Range (F:Nat) (d:Tape) (a:Int) (b:Int):Option (Tape×Int):=
 gd (I64 (b-a)) <|
 gd (I64 ((b-a)+(1:Int))) <|
 (keep_Tape_Next F d ((b-a)+(1:Int))).bind fun c=>
 gd (I64 (a+c.2)) <|
 some (c.1,(a+c.2))
def keep_Tape_Rect (F:Nat) (i:Tape) (c:Int):Option (Tape×Rect):=
 (keep_Tape_Next F i c).bind fun a=>
 (keep_Tape_Next F a.1 c).bind fun b=>
 gd (I64 (a.2+(1:Int))) <|
 gd (I64 (c-a.2)) <|
 (keep_Tape_Next F b.1 (c-a.2)).bind fun d=>
 gd (I64 ((a.2+(1:Int))+d.2)) <|
 gd (I64 (b.2+(1:Int))) <|
 gd (I64 (c-b.2)) <|
 (keep_Tape_Next F d.1 (c-b.2)).bind fun e=>
 gd (I64 ((b.2+(1:Int))+e.2)) <|
 some (e.1,(⟨a.2,b.2,((a.2+(1:Int))+d.2),((b.2+(1:Int))+e.2)⟩ : Rect))
def ref04_proper_k0 (F:Nat) (a:Bool):Option (Bool):=
 some a
def ref04_proper (F:Nat) (a:Rect):Option (Bool):=
 br (decide ((0:Int)≤a.left_)) (br (decide (a.left_<a.right_)) (br (decide (a.right_≤(16384:Int))) (br (decide ((0:Int)≤a.low_)) (br (decide (a.low_<a.high_)) (ref04_proper_k0 F (decide (a.high_≤(16384:Int)))) (ref04_proper_k0 F false)) (ref04_proper_k0 F false)) (ref04_proper_k0 F false)) (ref04_proper_k0 F false)) (ref04_proper_k0 F false)
def ref01_Put_k3 (F:Nat) (b:(List Int)) (c:Int) (a:Int) (d:Bool):Option ((List Int)):=
 br d (some b) (gd (0≤a∧a≤((List.length b:Nat):Int)) <|
 gd ((0)+(List.length (α:=Int) (b.take a.toNat))≤LIM) <|
 gd (((0)+(List.length (α:=Int) (b.take a.toNat)))+(List.length (α:=Int) ([c]:List Int))≤LIM) <|
 gd (0≤a∧a≤((List.length b:Nat):Int)) <|
 gd ((((0)+(List.length (α:=Int) (b.take a.toNat)))+(List.length (α:=Int) ([c]:List Int)))+(List.length (α:=Int) (b.drop a.toNat))≤LIM) <|
 some (((([]:List Int)++(b.take a.toNat))++([c]:List Int))++(b.drop a.toNat)))
def ref01_Put_k2 (F:Nat) (b:(List Int)) (c:Int) (a:Int):Option ((List Int)):=
 br (decide (a<((List.length b:Nat):Int))) (gd (0≤a∧a<((List.length b:Nat):Int)) <|
 ref01_Put_k3 F b c a ((gl b a.toNat)==c)) (ref01_Put_k3 F b c a false)
def ref01_Put_k1 (F:Nat) (d:(List Int)) (e:Int) (a:Int) (b:(Int)→Option ((List Int))) (c:Bool):Option ((List Int)):=
 br c (gd (I64 (a+(1:Int))) <|
 b (a+(1:Int))) (ref01_Put_k2 F d e a)
def ref01_Put_b0 (F:Nat) (b:(List Int)) (c:Int) (d:(Int)→Option ((List Int))) (a:Int):Option ((List Int)):=
 br (decide (a<((List.length b:Nat):Int))) (gd (0≤a∧a<((List.length b:Nat):Int)) <|
 ref01_Put_k1 F b c a d (decide ((gl b a.toNat)<c))) (ref01_Put_k1 F b c a d false)
def ref01_Put (F:Nat) (a:(List Int)) (b:Int):Option ((List Int)):=
 loopN (fun again (z:Int)=>ref01_Put_b0 F a b again z) F (0:Int)
def ref04_inside_k1 (F:Nat) (a:Int) (b:(Int)→Option (Bool)) (c:Bool):Option (Bool):=
 br c (some true) (gd (I64 (a+(1:Int))) <|
 b (a+(1:Int)))
def ref04_inside_k2 (F:Nat):Option (Bool):=
 some false
def ref04_inside_b0 (F:Nat) (b:(List Rect)) (d:Int) (e:Int) (c:(Int)→Option (Bool)) (a:Int):Option (Bool):=
 br (decide (a<((List.length b:Nat):Int))) (gd (0≤a∧a<((List.length b:Nat):Int)) <|
 br (decide (((gl b a.toNat).left_)≤d)) (br (decide (d<((gl b a.toNat).right_))) (br (decide (((gl b a.toNat).low_)≤e)) (ref04_inside_k1 F a c (decide (e<((gl b a.toNat).high_)))) (ref04_inside_k1 F a c false)) (ref04_inside_k1 F a c false)) (ref04_inside_k1 F a c false)) (ref04_inside_k2 F)
def ref04_inside (F:Nat) (a:(List Rect)) (b:Int) (c:Int):Option (Bool):=
 loopN (fun again (z:Int)=>ref04_inside_b0 F a b c again z) F (0:Int)
def ref04_keep_k0 (F:Nat) (a:Bool):Option (Bool):=
 some a
def ref04_keep_k1 (F:Nat) (a:Bool):Option (Bool):=
 some a
def ref04_keep_k2 (F:Nat) (a:Bool):Option (Bool):=
 some a
def ref04_keep (F:Nat) (a:Bool) (b:Bool) (c:Int):Option (Bool):=
 br (c==(1:Int)) (br a (ref04_keep_k0 F true) (ref04_keep_k0 F b)) (br (c==(2:Int)) (br a (ref04_keep_k1 F b) (ref04_keep_k1 F false)) (br a (ref04_keep_k2 F (!b)) (ref04_keep_k2 F false)))
def ref04_same_k1 (F:Nat) (a:Int) (b:(Int)→Option (Bool)) (c:Bool):Option (Bool):=
 br c (some false) (gd (I64 (a+(1:Int))) <|
 b (a+(1:Int)))
def ref04_same_k2 (F:Nat):Option (Bool):=
 some true
def ref04_same_b0 (F:Nat) (b:(List Rect)) (c:(List Rect)) (d:(Int)→Option (Bool)) (a:Int):Option (Bool):=
 br (decide (a<((List.length b:Nat):Int))) (gd (0≤a∧a<((List.length b:Nat):Int)) <|
 gd (0≤a∧a<((List.length c:Nat):Int)) <|
 br (((gl b a.toNat).left_) != ((gl c a.toNat).left_)) (ref04_same_k1 F a d true) (gd (0≤a∧a<((List.length b:Nat):Int)) <|
 gd (0≤a∧a<((List.length c:Nat):Int)) <|
 ref04_same_k1 F a d (((gl b a.toNat).right_) != ((gl c a.toNat).right_)))) (ref04_same_k2 F)
def ref04_same (F:Nat) (a:(List Rect)) (b:(List Rect)):Option (Bool):=
 br (((List.length a:Nat):Int) != ((List.length b:Nat):Int)) (some false) (loopN (fun again (z:Int)=>ref04_same_b0 F a b again z) F (0:Int))
def ref04_Combine_k2 (F:Nat) (a:Int) (b:((List Int)×(List Int)×Int)→Option ((List Rect))) (c:(List Int)) (d:(List Int)):Option ((List Rect)):=
 gd (I64 (a+(1:Int))) <|
 b (c,d,(a+(1:Int)))
def ref04_Combine_b1 (F:Nat) (c:(List Rect)) (d:(List Rect)) (b:Int) (j:((List Int)×(List Int)×Int)→Option ((List Rect))) (k:((List Int)×(List Int)×Int)→Option ((List Rect))) (e:(List Int)) (i:(List Int)) (a:Int):Option ((List Rect)):=
 br (decide (a<((List.length (gl ([c,d]:List (List Rect)) b.toNat):Nat):Int))) (gd (0≤a∧a<((List.length (gl ([c,d]:List (List Rect)) b.toNat):Nat):Int)) <|
 (ref01_Put F e ((gl (gl ([c,d]:List (List Rect)) b.toNat) a.toNat).left_)).bind fun l=>
 (ref01_Put F l ((gl (gl ([c,d]:List (List Rect)) b.toNat) a.toNat).right_)).bind fun m=>
 (ref01_Put F i ((gl (gl ([c,d]:List (List Rect)) b.toNat) a.toNat).low_)).bind fun n=>
 (ref01_Put F n ((gl (gl ([c,d]:List (List Rect)) b.toNat) a.toNat).high_)).bind fun o=>
 gd (I64 (a+(1:Int))) <|
 k (m,o,(a+(1:Int)))) (ref04_Combine_k2 F b j e i)
def ref04_Combine_k7 (F:Nat) (a:Int) (b:(Int×(List Rect))→Option ((List Rect))) (c:(List Rect)):Option ((List Rect)):=
 gd (I64 (a+(1:Int))) <|
 b ((a+(1:Int)),c)
def ref04_Combine_k6 (F:Nat) (d:(List Int)) (e:(List Int)) (c:Int) (a:Int) (b:(List Rect)) (i:(Int×(List Rect))→Option ((List Rect))) (j:Bool):Option ((List Rect)):=
 br j (gd (I64 (((List.length b:Nat):Int)-(1:Int))) <|
 gd (I64 (a+(1:Int))) <|
 gd (0≤(a+(1:Int))∧(a+(1:Int))<((List.length d:Nat):Int)) <|
 gd (0≤(((List.length b:Nat):Int)-(1:Int))∧(((List.length b:Nat):Int)-(1:Int))<((List.length b:Nat):Int)) <|
 ref04_Combine_k7 F a i (List.set b (((List.length b:Nat):Int)-(1:Int)).toNat (⟨(gl b (((List.length b:Nat):Int)-(1:Int)).toNat).left_,(gl b (((List.length b:Nat):Int)-(1:Int)).toNat).low_,(gl d (a+(1:Int)).toNat),(gl b (((List.length b:Nat):Int)-(1:Int)).toNat).high_⟩ : Rect))) (gd (0≤a∧a<((List.length d:Nat):Int)) <|
 gd (0≤c∧c<((List.length e:Nat):Int)) <|
 gd (I64 (a+(1:Int))) <|
 gd (0≤(a+(1:Int))∧(a+(1:Int))<((List.length d:Nat):Int)) <|
 gd (I64 (c+(1:Int))) <|
 gd (0≤(c+(1:Int))∧(c+(1:Int))<((List.length e:Nat):Int)) <|
 gd ((List.length (α:=Rect) b)+(List.length (α:=Rect) ([(⟨(gl d a.toNat),(gl e c.toNat),(gl d (a+(1:Int)).toNat),(gl e (c+(1:Int)).toNat)⟩ : Rect)]:List Rect))≤LIM) <|
 ref04_Combine_k7 F a i (b++([(⟨(gl d a.toNat),(gl e c.toNat),(gl d (a+(1:Int)).toNat),(gl e (c+(1:Int)).toNat)⟩ : Rect)]:List Rect)))
def ref04_Combine_k13 (F:Nat) (a:Int) (b:(Int×(List Rect)×(List Rect))→Option ((List Rect))) (c:(List Rect)) (d:(List Rect)):Option ((List Rect)):=
 gd (I64 (a+(1:Int))) <|
 b ((a+(1:Int)),c,d)
def ref04_Combine_k11 (F:Nat) (b:Int) (c:(List Rect)) (a:(Int×(List Rect)×(List Rect))→Option ((List Rect))) (d:(List Rect)):Option ((List Rect)):=
 ref04_Combine_k13 F b a c d
def ref04_Combine_b10 (F:Nat) (d:(List Int)) (c:Int) (j:(List Rect)) (k:(List Rect)) (i:(Int×(List Rect)×(List Rect))→Option ((List Rect))) (e:(Int×(List Rect))→Option ((List Rect))) (a:Int) (b:(List Rect)):Option ((List Rect)):=
 br (decide (a<((List.length k:Nat):Int))) (gd (I64 (c+(1:Int))) <|
 gd (0≤(c+(1:Int))∧(c+(1:Int))<((List.length d:Nat):Int)) <|
 gd (0≤a∧a<((List.length b:Nat):Int)) <|
 gd (I64 (a+(1:Int))) <|
 e ((a+(1:Int)),(List.set b a.toNat (⟨(gl b a.toNat).left_,(gl b a.toNat).low_,(gl b a.toNat).right_,(gl d (c+(1:Int)).toNat)⟩ : Rect)))) (ref04_Combine_k11 F c j i b)
def ref04_Combine_k12 (F:Nat) (d:Int) (a:(List Rect)) (b:(List Rect)) (e:(List Rect)) (c:(Int×(List Rect)×(List Rect))→Option ((List Rect))):Option ((List Rect)):=
 gd ((List.length (α:=Rect) a)+(List.length (α:=Rect) b)≤LIM) <|
 ref04_Combine_k13 F d c (a++b) e
def ref04_Combine_k9 (F:Nat) (e:(List Int)) (c:Int) (d:(List Rect)) (a:(List Rect)) (i:(List Rect)) (b:(Int×(List Rect)×(List Rect))→Option ((List Rect))) (j:Bool):Option ((List Rect)):=
 br j (loopN (fun again (z:Int×(List Rect))=>ref04_Combine_b10 F e c d a b again z.1 z.2) F ((0:Int),a)) (ref04_Combine_k12 F c d a i b)
def ref04_Combine_k8 (F:Nat) (c:(List Int)) (b:Int) (i:(List Rect)) (a:(List Rect)) (e:(Int×(List Rect)×(List Rect))→Option ((List Rect))) (d:(List Rect)):Option ((List Rect)):=
 br (decide ((0:Int)<((List.length a:Nat):Int))) ((ref04_same F a d).bind fun j=>
 br j (gd (0≤(0:Int)∧(0:Int)<((List.length a:Nat):Int)) <|
 gd (0≤b∧b<((List.length c:Nat):Int)) <|
 ref04_Combine_k9 F c b i a d e (((gl a (0:Int).toNat).high_)==(gl c b.toNat))) (ref04_Combine_k9 F c b i a d e false)) (ref04_Combine_k9 F c b i a d e false)
def ref04_Combine_b5 (F:Nat) (m:(List Rect)) (n:(List Rect)) (o:Int) (c:(List Int)) (e:(List Int)) (d:Int) (k:(List Rect)) (l:(List Rect)) (j:(Int×(List Rect)×(List Rect))→Option ((List Rect))) (i:(Int×(List Rect))→Option ((List Rect))) (a:Int) (b:(List Rect)):Option ((List Rect)):=
 gd (I64 (a+(1:Int))) <|
 br (decide ((a+(1:Int))<((List.length c:Nat):Int))) (gd (0≤a∧a<((List.length c:Nat):Int)) <|
 gd (0≤d∧d<((List.length e:Nat):Int)) <|
 (ref04_inside F m (gl c a.toNat) (gl e d.toNat)).bind fun p=>
 gd (0≤a∧a<((List.length c:Nat):Int)) <|
 gd (0≤d∧d<((List.length e:Nat):Int)) <|
 (ref04_inside F n (gl c a.toNat) (gl e d.toNat)).bind fun q=>
 (ref04_keep F p q o).bind fun s=>
 br (!s) (ref04_Combine_k7 F a i b) (br (decide ((0:Int)<((List.length b:Nat):Int))) (gd (I64 (((List.length b:Nat):Int)-(1:Int))) <|
 gd (0≤(((List.length b:Nat):Int)-(1:Int))∧(((List.length b:Nat):Int)-(1:Int))<((List.length b:Nat):Int)) <|
 gd (0≤a∧a<((List.length c:Nat):Int)) <|
 ref04_Combine_k6 F c e d a b i (((gl b (((List.length b:Nat):Int)-(1:Int)).toNat).right_)==(gl c a.toNat))) (ref04_Combine_k6 F c e d a b i false))) (ref04_Combine_k8 F e d k l j b)
def ref04_Combine_k14 (F:Nat) (a:(List Rect)) (b:(List Rect)):Option ((List Rect)):=
 gd ((List.length (α:=Rect) a)+(List.length (α:=Rect) b)≤LIM) <|
 some (a++b)
def ref04_Combine_b4 (F:Nat) (j:(List Rect)) (k:(List Rect)) (l:Int) (i:(List Int)) (b:(List Int)) (e:(Int×(List Rect)×(List Rect))→Option ((List Rect))) (a:Int) (c:(List Rect)) (d:(List Rect)):Option ((List Rect)):=
 gd (I64 (a+(1:Int))) <|
 br (decide ((a+(1:Int))<((List.length b:Nat):Int))) (loopN (fun again (z:Int×(List Rect))=>ref04_Combine_b5 F j k l i b a c d e again z.1 z.2) F ((0:Int),([]:List Rect))) (ref04_Combine_k14 F c d)
def ref04_Combine_k3 (F:Nat) (c:(List Rect)) (d:(List Rect)) (e:Int) (a:(List Int)) (b:(List Int)):Option ((List Rect)):=
 loopN (fun again (z:Int×(List Rect)×(List Rect))=>ref04_Combine_b4 F c d e a b again z.1 z.2.1 z.2.2) F ((0:Int),([]:List Rect),([]:List Rect))
def ref04_Combine_b0 (F:Nat) (b:(List Rect)) (c:(List Rect)) (j:Int) (i:((List Int)×(List Int)×Int)→Option ((List Rect))) (d:(List Int)) (e:(List Int)) (a:Int):Option ((List Rect)):=
 br (decide (a<((List.length ([b,c]:List (List Rect)):Nat):Int))) (gd (0≤a∧a<((List.length ([b,c]:List (List Rect)):Nat):Int)) <|
 loopN (fun again (z:(List Int)×(List Int)×Int)=>ref04_Combine_b1 F b c a i again z.1 z.2.1 z.2.2) F (d,e,(0:Int))) (ref04_Combine_k3 F b c j d e)
def ref04_Combine (F:Nat) (a:(List Rect)) (b:(List Rect)) (c:Int):Option ((List Rect)):=
 loopN (fun again (z:(List Int)×(List Int)×Int)=>ref04_Combine_b0 F a b c again z.1 z.2.1 z.2.2) F (([]:List Int),([]:List Int),(0:Int))
def ref04_Bound (F:Nat) (a:(List Rect)):Option (Region×Int):=
 br (decide ((120:Int)<((List.length a:Nat):Int))) (some ((⟨[]⟩ : Region),(1:Int))) (some ((⟨a⟩ : Region),(0:Int)))
def ref04_Of_k1 (F:Nat) (b:(List Rect)):Option (Region×Int):=
 (ref04_Combine F b ([]) (1:Int)).bind fun c=>
 (ref04_Bound F c).bind fun a=>
 some (a.1,a.2)
def ref04_Of_b0 (F:Nat) (b:(List Rect)) (c:(Int)→Option (Region×Int)) (a:Int):Option (Region×Int):=
 br (decide (a<((List.length b:Nat):Int))) (gd (0≤a∧a<((List.length b:Nat):Int)) <|
 (ref04_proper F (gl b a.toNat)).bind fun d=>
 br (!d) (some ((⟨[]⟩ : Region),(2:Int))) (gd (I64 (a+(1:Int))) <|
 c (a+(1:Int)))) (ref04_Of_k1 F b)
def ref04_Of (F:Nat) (a:(List Rect)):Option (Region×Int):=
 br (decide ((120:Int)<((List.length a:Nat):Int))) (some ((⟨[]⟩ : Region),(1:Int))) (loopN (fun again (z:Int)=>ref04_Of_b0 F a again z) F (0:Int))
def keep_Tape_Region_k1 (F:Nat) (a:(List Rect)) (b:(List Int)) (c:Int):Option (Tape×Region):=
 (ref04_Of F a).bind fun d=>
 some ((⟨b,c⟩ : Tape),d.1)
def keep_Tape_Region_b0 (F:Nat) (j:Int) (i:(Int×(List Int)×Int×(List Rect))→Option (Tape×Region)) (b:Int) (d:(List Int)) (e:Int) (c:(List Rect)):Option (Tape×Region):=
 br (decide ((0:Int)<b)) ((keep_Tape_Rect F (⟨d,e⟩ : Tape) j).bind fun a=>
 gd ((List.length (α:=Rect) c)+(List.length (α:=Rect) ([a.2]:List Rect))≤LIM) <|
 gd (I64 (b-(1:Int))) <|
 i ((b-(1:Int)),a.1.l_,a.1.at_,(c++([a.2]:List Rect)))) (keep_Tape_Region_k1 F c d e)
def keep_Tape_Region (F:Nat) (c:Tape) (d:Int) (b:Int):Option (Tape×Region):=
 gd (I64 (b+(1:Int))) <|
 (keep_Tape_Next F c (b+(1:Int))).bind fun a=>
 loopN (fun again (z:Int×(List Int)×Int×(List Rect))=>keep_Tape_Region_b0 F d again z.1 z.2.1 z.2.2.1 z.2.2.2) F (a.2,a.1.l_,a.1.at_,([]:List Rect))
def keep_Tape_Land_k0 (F:Nat) (a:(List Rect)) (b:(List Int)) (c:Int):Option (Tape×Region):=
 some ((⟨b,c⟩ : Tape),(⟨a⟩ : Region))
def keep_Tape_Land (F:Nat) (d:Tape) (c:Int) (e:Int):Option (Tape×Region):=
 (keep_Tape_Region F d c e).bind fun a=>
 br (((List.length a.2.rects_:Nat):Int)==(0:Int)) ((keep_Tape_Rect F a.1 c).bind fun b=>
 keep_Tape_Land_k0 F ([b.2]:List Rect) b.1.l_ b.1.at_) (keep_Tape_Land_k0 F a.2.rects_ a.1.l_ a.1.at_)
def keep_Tape_Feature (F:Nat) (e:Tape) (i:Int):Option (Tape×Feature):=
 (keep_Tape_Next F e (20:Int)).bind fun a=>
 (keep_Tape_Next F a.1 (16:Int)).bind fun c=>
 (keep_Tape_Range F c.1 (1:Int) (30:Int)).bind fun b=>
 gd (I64 (a.2+b.2)) <|
 (keep_Tape_Land F b.1 (9:Int) (2:Int)).bind fun d=>
 some (d.1,(⟨i,c.2,a.2,(a.2+b.2),d.2⟩ : Feature))
def ref04_Rects_k1 (F:Nat):Option (Bool):=
 some true
def ref04_Rects_b0 (F:Nat) (b:(List Rect)) (c:(List Rect)) (d:(Int)→Option (Bool)) (a:Int):Option (Bool):=
 br (decide (a<((List.length b:Nat):Int))) (gd (0≤a∧a<((List.length b:Nat):Int)) <|
 gd (0≤a∧a<((List.length c:Nat):Int)) <|
 br (!((((gl b a.toNat).left_)==((gl c a.toNat).left_))&&((((gl b a.toNat).low_)==((gl c a.toNat).low_))&&((((gl b a.toNat).right_)==((gl c a.toNat).right_))&&((((gl b a.toNat).high_)==((gl c a.toNat).high_))&&true))))) (some false) (gd (I64 (a+(1:Int))) <|
 d (a+(1:Int)))) (ref04_Rects_k1 F)
def ref04_Rects (F:Nat) (a:(List Rect)) (b:(List Rect)):Option (Bool):=
 br (((List.length a:Nat):Int) != ((List.length b:Nat):Int)) (some false) (loopN (fun again (z:Int)=>ref04_Rects_b0 F a b again z) F (0:Int))
def ref04_Valid_k1 (F:Nat) (a:Region):Option (Bool):=
 (ref04_Combine F a.rects_ ([]) (1:Int)).bind fun b=>
 (ref04_Rects F b a.rects_).bind fun c=>
 some c
def ref04_Valid_b0 (F:Nat) (b:Region) (c:(Int)→Option (Bool)) (a:Int):Option (Bool):=
 br (decide (a<((List.length b.rects_:Nat):Int))) (gd (0≤a∧a<((List.length b.rects_:Nat):Int)) <|
 (ref04_proper F (gl b.rects_ a.toNat)).bind fun d=>
 br (!d) (some false) (gd (I64 (a+(1:Int))) <|
 c (a+(1:Int)))) (ref04_Valid_k1 F b)
def ref04_Valid (F:Nat) (a:Region):Option (Bool):=
 br (decide ((120:Int)<((List.length a.rects_:Nat):Int))) (some false) (loopN (fun again (z:Int)=>ref04_Valid_b0 F a again z) F (0:Int))
def ref09_one_k3 (F:Nat) (a:Bool):Option (Int):=
 br a (some (7:Int)) (some (0:Int))
def ref09_one_k2 (F:Nat) (a:Feature) (b:Bool):Option (Int):=
 br b (some (9:Int)) ((ref04_Valid F a.region_).bind fun c=>
 br (!c) (ref09_one_k3 F true) (ref09_one_k3 F (((List.length a.region_.rects_:Nat):Int)==(0:Int))))
def ref09_one_k1 (F:Nat) (a:Feature) (b:Bool):Option (Int):=
 br b (some (14:Int)) (br (decide (a.from_<(0:Int))) (ref09_one_k2 F a true) (br (decide (a.until_≤a.from_)) (ref09_one_k2 F a true) (ref09_one_k2 F a (decide ((36865:Int)<a.until_)))))
def ref09_one_k0 (F:Nat) (a:Feature) (b:Bool):Option (Int):=
 br b (some (2:Int)) (br (decide (a.kind_<(0:Int))) (ref09_one_k1 F a true) (ref09_one_k1 F a (decide ((15:Int)<a.kind_))))
def ref09_one (F:Nat) (a:Feature):Option (Int):=
 br (decide (a.number_<(1:Int))) (ref09_one_k0 F a true) (ref09_one_k0 F a (decide ((1073741824:Int)<a.number_)))
def ref09_Check_k1 (F:Nat) (a:Int) (b:(Int)→Option (Int)) (c:Bool):Option (Int):=
 br c (some (3:Int)) (gd (I64 (a+(1:Int))) <|
 b (a+(1:Int)))
def ref09_Check_k2 (F:Nat):Option (Int):=
 some (0:Int)
def ref09_Check_b0 (F:Nat) (b:(List Feature)) (c:(Int)→Option (Int)) (a:Int):Option (Int):=
 br (decide (a<((List.length b:Nat):Int))) (gd (0≤a∧a<((List.length b:Nat):Int)) <|
 (ref09_one F (gl b a.toNat)).bind fun d=>
 br (d != (0:Int)) (some d) (br (decide ((0:Int)<a)) (gd (I64 (a-(1:Int))) <|
 gd (0≤(a-(1:Int))∧(a-(1:Int))<((List.length b:Nat):Int)) <|
 ref09_Check_k1 F a c (decide (((gl b a.toNat).number_)≤((gl b (a-(1:Int)).toNat).number_)))) (ref09_Check_k1 F a c false))) (ref09_Check_k2 F)
def ref09_Check (F:Nat) (a:(List Feature)):Option (Int):=
 br (decide ((60:Int)<((List.length a:Nat):Int))) (some (1:Int)) (loopN (fun again (z:Int)=>ref09_Check_b0 F a again z) F (0:Int))
def ref09_Add_k3 (F:Nat) (b:(List Feature)) (c:Feature) (a:Int) (d:Bool):Option ((List Feature)×Int):=
 br d (some ([],(6:Int))) (br (((List.length b:Nat):Int)==(60:Int)) (some ([],(1:Int))) (gd (0≤a∧a≤((List.length b:Nat):Int)) <|
 gd ((0)+(List.length (α:=Feature) (b.take a.toNat))≤LIM) <|
 gd (((0)+(List.length (α:=Feature) (b.take a.toNat)))+(List.length (α:=Feature) ([c]:List Feature))≤LIM) <|
 gd (0≤a∧a≤((List.length b:Nat):Int)) <|
 gd ((((0)+(List.length (α:=Feature) (b.take a.toNat)))+(List.length (α:=Feature) ([c]:List Feature)))+(List.length (α:=Feature) (b.drop a.toNat))≤LIM) <|
 some ((((([]:List Feature)++(b.take a.toNat))++([c]:List Feature))++(b.drop a.toNat)),(0:Int))))
def ref09_Add_k2 (F:Nat) (b:(List Feature)) (c:Feature) (a:Int):Option ((List Feature)×Int):=
 br (decide (a<((List.length b:Nat):Int))) (gd (0≤a∧a<((List.length b:Nat):Int)) <|
 ref09_Add_k3 F b c a (((gl b a.toNat).number_)==c.number_)) (ref09_Add_k3 F b c a false)
def ref09_Add_k1 (F:Nat) (d:(List Feature)) (e:Feature) (a:Int) (b:(Int)→Option ((List Feature)×Int)) (c:Bool):Option ((List Feature)×Int):=
 br c (gd (I64 (a+(1:Int))) <|
 b (a+(1:Int))) (ref09_Add_k2 F d e a)
def ref09_Add_b0 (F:Nat) (b:(List Feature)) (c:Feature) (d:(Int)→Option ((List Feature)×Int)) (a:Int):Option ((List Feature)×Int):=
 br (decide (a<((List.length b:Nat):Int))) (gd (0≤a∧a<((List.length b:Nat):Int)) <|
 ref09_Add_k1 F b c a d (decide (((gl b a.toNat).number_)<c.number_))) (ref09_Add_k1 F b c a d false)
def ref09_Add (F:Nat) (a:(List Feature)) (b:Feature):Option ((List Feature)×Int):=
 (ref09_Check F a).bind fun c=>
 br (c != (0:Int)) (some ([],c)) ((ref09_one F b).bind fun d=>
 br (d != (0:Int)) (some ([],d)) (loopN (fun again (z:Int)=>ref09_Add_b0 F a b again z) F (0:Int)))
def keep_Tape_Layer_k1 (F:Nat) (a:Int) (b:((List Feature)×Int×(List Int)×Int)→Option (Tape×(List Feature))) (c:(List Feature)) (d:(List Int)) (e:Int):Option (Tape×(List Feature)):=
 gd (I64 (a-(1:Int))) <|
 b (c,(a-(1:Int)),d,e)
def keep_Tape_Layer_k2 (F:Nat) (a:(List Feature)) (b:(List Int)) (c:Int):Option (Tape×(List Feature)):=
 some ((⟨b,c⟩ : Tape),a)
def keep_Tape_Layer_b0 (F:Nat) (d:((List Feature)×Int×(List Int)×Int)→Option (Tape×(List Feature))) (b:(List Feature)) (c:Int) (e:(List Int)) (i:Int):Option (Tape×(List Feature)):=
 br (decide ((0:Int)<c)) ((keep_Tape_Range F (⟨e,i⟩ : Tape) (1:Int) (12:Int)).bind fun j=>
 (keep_Tape_Feature F j.1 j.2).bind fun a=>
 (ref09_Add F b a.2).bind fun k=>
 br (k.2==(0:Int)) (keep_Tape_Layer_k1 F c d k.1 a.1.l_ a.1.at_) (keep_Tape_Layer_k1 F c d b a.1.l_ a.1.at_)) (keep_Tape_Layer_k2 F b e i)
def keep_Tape_Layer (F:Nat) (c:Tape) (b:Int):Option (Tape×(List Feature)):=
 gd (I64 (b+(1:Int))) <|
 (keep_Tape_Next F c (b+(1:Int))).bind fun a=>
 loopN (fun again (z:(List Feature)×Int×(List Int)×Int)=>keep_Tape_Layer_b0 F again z.1 z.2.1 z.2.2.1 z.2.2.2) F (([]:List Feature),a.2,a.1.l_,a.1.at_)
def keep_Tape_One (F:Nat) (c:Tape) (a:Int):Option (Tape×Bool):=
 (keep_Tape_Next F c a).bind fun b=>
 gd (I64 (a-(1:Int))) <|
 some (b.1,(b.2==(a-(1:Int))))
def keep_Tape_Broken_k1 (F:Nat) (a:(List Rect)) (b:(List Int)) (c:Int):Option (Tape×Region):=
 some ((⟨b,c⟩ : Tape),(⟨a⟩ : Region))
def keep_Tape_Broken_k0 (F:Nat) (b:Tape×Region) (i:Bool) (d:(List Int)) (e:Int):Option (Tape×Region):=
 br i (some ((⟨d,e⟩ : Tape),b.2)) (gd ((0)+(List.length (α:=Rect) b.2.rects_)≤LIM) <|
 (keep_Tape_Next F (⟨d,e⟩ : Tape) ((List.length (([]:List Rect)++b.2.rects_):Nat):Int)).bind fun a=>
 (keep_Tape_Next F a.1 (5:Int)).bind fun c=>
 br (c.2==(0:Int)) (gd (0≤a.2∧a.2<((List.length (([]:List Rect)++b.2.rects_):Nat):Int)) <|
 gd (I64 (((gl (([]:List Rect)++b.2.rects_) a.2.toNat).right_)+(1:Int))) <|
 gd (0≤a.2∧a.2<((List.length (([]:List Rect)++b.2.rects_):Nat):Int)) <|
 keep_Tape_Broken_k1 F (List.set (([]:List Rect)++b.2.rects_) a.2.toNat (⟨(gl (([]:List Rect)++b.2.rects_) a.2.toNat).left_,(gl (([]:List Rect)++b.2.rects_) a.2.toNat).low_,(((gl (([]:List Rect)++b.2.rects_) a.2.toNat).right_)+(1:Int)),(gl (([]:List Rect)++b.2.rects_) a.2.toNat).high_⟩ : Rect)) c.1.l_ c.1.at_) (br (c.2==(1:Int)) (gd (0≤a.2∧a.2<((List.length (([]:List Rect)++b.2.rects_):Nat):Int)) <|
 keep_Tape_Broken_k1 F (List.set (([]:List Rect)++b.2.rects_) a.2.toNat (⟨(-1:Int),(gl (([]:List Rect)++b.2.rects_) a.2.toNat).low_,(gl (([]:List Rect)++b.2.rects_) a.2.toNat).right_,(gl (([]:List Rect)++b.2.rects_) a.2.toNat).high_⟩ : Rect)) c.1.l_ c.1.at_) (br (c.2==(2:Int)) (gd (0≤a.2∧a.2<((List.length (([]:List Rect)++b.2.rects_):Nat):Int)) <|
 gd ((List.length (α:=Rect) (([]:List Rect)++b.2.rects_))+(List.length (α:=Rect) ([(gl (([]:List Rect)++b.2.rects_) a.2.toNat)]:List Rect))≤LIM) <|
 keep_Tape_Broken_k1 F ((([]:List Rect)++b.2.rects_)++([(gl (([]:List Rect)++b.2.rects_) a.2.toNat)]:List Rect)) c.1.l_ c.1.at_) (br (c.2==(3:Int)) (gd (0≤a.2∧a.2<((List.length (([]:List Rect)++b.2.rects_):Nat):Int)) <|
 gd (0≤(0:Int)∧(0:Int)<((List.length (([]:List Rect)++b.2.rects_):Nat):Int)) <|
 gd (0≤(0:Int)∧(0:Int)<((List.length (([]:List Rect)++b.2.rects_):Nat):Int)) <|
 gd (0≤a.2∧a.2<((List.length (List.set (([]:List Rect)++b.2.rects_) (0:Int).toNat (gl (([]:List Rect)++b.2.rects_) a.2.toNat)):Nat):Int)) <|
 keep_Tape_Broken_k1 F (List.set (List.set (([]:List Rect)++b.2.rects_) (0:Int).toNat (gl (([]:List Rect)++b.2.rects_) a.2.toNat)) a.2.toNat (gl (([]:List Rect)++b.2.rects_) (0:Int).toNat)) c.1.l_ c.1.at_) (gd (0≤a.2∧a.2<((List.length (([]:List Rect)++b.2.rects_):Nat):Int)) <|
 gd (0≤a.2∧a.2<((List.length (([]:List Rect)++b.2.rects_):Nat):Int)) <|
 keep_Tape_Broken_k1 F (List.set (([]:List Rect)++b.2.rects_) a.2.toNat (⟨(gl (([]:List Rect)++b.2.rects_) a.2.toNat).left_,(gl (([]:List Rect)++b.2.rects_) a.2.toNat).low_,(gl (([]:List Rect)++b.2.rects_) a.2.toNat).right_,(gl (([]:List Rect)++b.2.rects_) a.2.toNat).low_⟩ : Rect)) c.1.l_ c.1.at_)))))
def keep_Tape_Broken (F:Nat) (c:Tape) (d:Int) (e:Int):Option (Tape×Region):=
 (keep_Tape_Region F c d e).bind fun a=>
 br (((List.length a.2.rects_:Nat):Int)==(0:Int)) (keep_Tape_Broken_k0 F a true a.1.l_ a.1.at_) ((keep_Tape_One F a.1 (6:Int)).bind fun b=>
 keep_Tape_Broken_k0 F a (!b.2) b.1.l_ b.1.at_)
def law09_spoilt_k0 (F:Nat) (a:(List Feature)) (b:(List Int)) (c:Int):Option (Tape×(List Feature)):=
 some ((⟨b,c⟩ : Tape),a)
def law09_spoilt (F:Nat) (j:Tape) (d:Int):Option (Tape×(List Feature)):=
 (keep_Tape_Layer F j (4:Int)).bind fun a=>
 gd ((0)+(List.length (α:=Feature) a.2)≤LIM) <|
 br (((List.length (([]:List Feature)++a.2):Nat):Int)==(0:Int)) (some (a.1,(([]:List Feature)++a.2))) ((keep_Tape_Next F a.1 ((List.length (([]:List Feature)++a.2):Nat):Int)).bind fun b=>
 (keep_Tape_Next F b.1 (10:Int)).bind fun c=>
 br (c.2==(0:Int)) (gd (0≤b.2∧b.2<((List.length (([]:List Feature)++a.2):Nat):Int)) <|
 law09_spoilt_k0 F (List.set (([]:List Feature)++a.2) b.2.toNat (⟨d,(gl (([]:List Feature)++a.2) b.2.toNat).kind_,(gl (([]:List Feature)++a.2) b.2.toNat).from_,(gl (([]:List Feature)++a.2) b.2.toNat).until_,(gl (([]:List Feature)++a.2) b.2.toNat).region_⟩ : Feature)) c.1.l_ c.1.at_) (br (c.2==(1:Int)) ((keep_Mod F d (20:Int)).bind fun i=>
 gd (I64 (i-(2:Int))) <|
 gd (0≤b.2∧b.2<((List.length (([]:List Feature)++a.2):Nat):Int)) <|
 law09_spoilt_k0 F (List.set (([]:List Feature)++a.2) b.2.toNat (⟨(gl (([]:List Feature)++a.2) b.2.toNat).number_,(i-(2:Int)),(gl (([]:List Feature)++a.2) b.2.toNat).from_,(gl (([]:List Feature)++a.2) b.2.toNat).until_,(gl (([]:List Feature)++a.2) b.2.toNat).region_⟩ : Feature)) c.1.l_ c.1.at_) (br (c.2==(2:Int)) (gd (0≤b.2∧b.2<((List.length (([]:List Feature)++a.2):Nat):Int)) <|
 law09_spoilt_k0 F (List.set (([]:List Feature)++a.2) b.2.toNat (⟨(gl (([]:List Feature)++a.2) b.2.toNat).number_,(gl (([]:List Feature)++a.2) b.2.toNat).kind_,d,(gl (([]:List Feature)++a.2) b.2.toNat).until_,(gl (([]:List Feature)++a.2) b.2.toNat).region_⟩ : Feature)) c.1.l_ c.1.at_) (br (c.2==(3:Int)) (gd (0≤b.2∧b.2<((List.length (([]:List Feature)++a.2):Nat):Int)) <|
 law09_spoilt_k0 F (List.set (([]:List Feature)++a.2) b.2.toNat (⟨(gl (([]:List Feature)++a.2) b.2.toNat).number_,(gl (([]:List Feature)++a.2) b.2.toNat).kind_,(gl (([]:List Feature)++a.2) b.2.toNat).from_,d,(gl (([]:List Feature)++a.2) b.2.toNat).region_⟩ : Feature)) c.1.l_ c.1.at_) (br (c.2==(4:Int)) ((keep_Tape_Broken F c.1 (9:Int) (2:Int)).bind fun e=>
 gd (0≤b.2∧b.2<((List.length (([]:List Feature)++a.2):Nat):Int)) <|
 law09_spoilt_k0 F (List.set (([]:List Feature)++a.2) b.2.toNat (⟨(gl (([]:List Feature)++a.2) b.2.toNat).number_,(gl (([]:List Feature)++a.2) b.2.toNat).kind_,(gl (([]:List Feature)++a.2) b.2.toNat).from_,(gl (([]:List Feature)++a.2) b.2.toNat).until_,e.2⟩ : Feature)) e.1.l_ e.1.at_) (br (c.2==(5:Int)) (gd (0≤b.2∧b.2<((List.length (([]:List Feature)++a.2):Nat):Int)) <|
 gd ((List.length (α:=Feature) (([]:List Feature)++a.2))+(List.length (α:=Feature) ([(gl (([]:List Feature)++a.2) b.2.toNat)]:List Feature))≤LIM) <|
 law09_spoilt_k0 F ((([]:List Feature)++a.2)++([(gl (([]:List Feature)++a.2) b.2.toNat)]:List Feature)) c.1.l_ c.1.at_) (law09_spoilt_k0 F (([]:List Feature)++a.2) c.1.l_ c.1.at_)))))))
def ref09_there_k0 (F:Nat) (a:Bool):Option (Bool):=
 some a
def ref09_there (F:Nat) (a:Feature) (b:Int):Option (Bool):=
 br (decide (a.from_≤b)) (ref09_there_k0 F (decide (b<a.until_))) (ref09_there_k0 F false)
def ref09_On_k2 (F:Nat) (a:Int) (b:(Int×(List Feature))→Option ((List Feature)×Int)) (c:(List Feature)):Option ((List Feature)×Int):=
 gd (I64 (a+(1:Int))) <|
 b ((a+(1:Int)),c)
def ref09_On_k3 (F:Nat) (a:(List Feature)):Option ((List Feature)×Int):=
 some (a,(0:Int))
def ref09_On_b1 (F:Nat) (b:(List Feature)) (e:Int) (d:(Int×(List Feature))→Option ((List Feature)×Int)) (a:Int) (c:(List Feature)):Option ((List Feature)×Int):=
 br (decide (a<((List.length b:Nat):Int))) (gd (0≤a∧a<((List.length b:Nat):Int)) <|
 (ref09_there F (gl b a.toNat) e).bind fun i=>
 br i (gd ((List.length (α:=Feature) c)+(List.length (α:=Feature) ([(gl b a.toNat)]:List Feature))≤LIM) <|
 ref09_On_k2 F a d (c++([(gl b a.toNat)]:List Feature))) (ref09_On_k2 F a d c)) (ref09_On_k3 F c)
def ref09_On_k0 (F:Nat) (b:(List Feature)) (c:Int) (a:Bool):Option ((List Feature)×Int):=
 br a (some ([],(9:Int))) (loopN (fun again (z:Int×(List Feature))=>ref09_On_b1 F b c again z.1 z.2) F ((0:Int),([]:List Feature)))
def ref09_On (F:Nat) (b:(List Feature)) (a:Int):Option ((List Feature)×Int):=
 (ref09_Check F b).bind fun c=>
 br (c != (0:Int)) (some ([],c)) (br (decide (a<(0:Int))) (ref09_On_k0 F b a true) (ref09_On_k0 F b a (decide ((36864:Int)<a))))
def ref04_Same (F:Nat) (a:Region) (b:Region):Option (Bool):=
 (ref04_Rects F a.rects_ b.rects_).bind fun c=>
 some c
def ref09_Same_k1 (F:Nat) (a:Int) (b:(Int)→Option (Bool)) (c:Bool):Option (Bool):=
 br c (some false) (gd (I64 (a+(1:Int))) <|
 b (a+(1:Int)))
def ref09_Same_k2 (F:Nat):Option (Bool):=
 some true
def ref09_Same_b0 (F:Nat) (b:(List Feature)) (c:(List Feature)) (d:(Int)→Option (Bool)) (a:Int):Option (Bool):=
 br (decide (a<((List.length b:Nat):Int))) (gd (0≤a∧a<((List.length b:Nat):Int)) <|
 gd (0≤a∧a<((List.length c:Nat):Int)) <|
 br (((gl b a.toNat).number_) != ((gl c a.toNat).number_)) (ref09_Same_k1 F a d true) (gd (0≤a∧a<((List.length b:Nat):Int)) <|
 gd (0≤a∧a<((List.length c:Nat):Int)) <|
 br (((gl b a.toNat).kind_) != ((gl c a.toNat).kind_)) (ref09_Same_k1 F a d true) (gd (0≤a∧a<((List.length b:Nat):Int)) <|
 gd (0≤a∧a<((List.length c:Nat):Int)) <|
 br (((gl b a.toNat).from_) != ((gl c a.toNat).from_)) (ref09_Same_k1 F a d true) (gd (0≤a∧a<((List.length b:Nat):Int)) <|
 gd (0≤a∧a<((List.length c:Nat):Int)) <|
 br (((gl b a.toNat).until_) != ((gl c a.toNat).until_)) (ref09_Same_k1 F a d true) (gd (0≤a∧a<((List.length b:Nat):Int)) <|
 gd (0≤a∧a<((List.length c:Nat):Int)) <|
 (ref04_Same F ((gl b a.toNat).region_) ((gl c a.toNat).region_)).bind fun e=>
 ref09_Same_k1 F a d (!e)))))) (ref09_Same_k2 F)
def ref09_Same (F:Nat) (a:(List Feature)) (b:(List Feature)):Option (Bool):=
 br (((List.length a:Nat):Int) != ((List.length b:Nat):Int)) (some false) (loopN (fun again (z:Int)=>ref09_Same_b0 F a b again z) F (0:Int))
def feature_Kind_1 (F:Nat) (a:Int) (b:Int):Option (Bool):=
 some (a==b)
def feature_Rects_k2 (F:Nat) (a:Int) (b:(Int×(List Rect))→Option ((List Rect))) (c:(List Rect)):Option ((List Rect)):=
 gd (I64 (a+(1:Int))) <|
 b ((a+(1:Int)),c)
def feature_Rects_k1 (F:Nat) (d:(List Feature)) (a:Int) (b:(List Rect)) (c:(Int×(List Rect))→Option ((List Rect))) (e:Bool):Option ((List Rect)):=
 br e (gd ((List.length (α:=Rect) b)+(List.length (α:=Rect) ((gl d a.toNat).region_.rects_))≤LIM) <|
 feature_Rects_k2 F a c (b++((gl d a.toNat).region_.rects_))) (feature_Rects_k2 F a c b)
def feature_Rects_k3 (F:Nat) (a:(List Rect)):Option ((List Rect)):=
 some a
def feature_Rects_b0 (F:Nat) (b:(List Feature)) (e:Int) (i:Int→Option Bool) (d:(Int×(List Rect))→Option ((List Rect))) (a:Int) (c:(List Rect)):Option ((List Rect)):=
 br (decide (a<((List.length b:Nat):Int))) (gd (0≤a∧a<((List.length b:Nat):Int)) <|
 (feature_there F (gl b a.toNat) e).bind fun j=>
 br j ((i ((gl b a.toNat).kind_)).bind fun k=>
 feature_Rects_k1 F b a c d k) (feature_Rects_k1 F b a c d false)) (feature_Rects_k3 F c)
def feature_Rects (F:Nat) (a:(List Feature)) (b:Int) (c:Int→Option Bool):Option ((List Rect)):=
 loopN (fun again (z:Int×(List Rect))=>feature_Rects_b0 F a b c again z.1 z.2) F ((0:Int),([]:List Rect))
def region_Limited (F:Nat) (a:(List Rect)):Option (Region×Int):=
 br (decide ((120:Int)<((List.length a:Nat):Int))) (some ((⟨[]⟩ : Region),(1:Int))) (some ((⟨a⟩ : Region),(0:Int)))
def region_Joined (F:Nat) (b:(List Rect)):Option (Region×Int):=
 (region_canonical F b).bind fun c=>
 (region_Limited F c).bind fun a=>
 some (a.1,a.2)
def feature_Kind_k0 (F:Nat) (c:(List Feature)) (d:Int) (e:Int) (b:Bool):Option (Region×Int):=
 br b (some ((⟨[]⟩ : Region),(14:Int))) ((feature_Rects F c e (fun y0=>feature_Kind_1 F y0 d)).bind fun i=>
 (region_Joined F i).bind fun a=>
 some (a.1,a.2))
def feature_Kind (F:Nat) (b:(List Feature)) (a:Int) (c:Int):Option (Region×Int):=
 (feature_right F b c).bind fun d=>
 br (d != (0:Int)) (some ((⟨[]⟩ : Region),d)) (br (decide (a<(0:Int))) (feature_Kind_k0 F b a c true) (feature_Kind_k0 F b a c (decide ((15:Int)<a))))
def ref09_Squares_k2 (F:Nat) (a:Int) (b:((List Rect)×Int)→Option ((List Rect))) (c:(List Rect)):Option ((List Rect)):=
 gd (I64 (a+(1:Int))) <|
 b (c,(a+(1:Int)))
def ref09_Squares_k1 (F:Nat) (e:(List Feature)) (c:(List Rect)) (a:Int) (b:((List Rect)×Int)→Option ((List Rect))) (d:Bool):Option ((List Rect)):=
 br d ((ref04_Combine F c ((gl e a.toNat).region_.rects_) (1:Int)).bind fun i=>
 ref09_Squares_k2 F a b i) (ref09_Squares_k2 F a b c)
def ref09_Squares_k3 (F:Nat) (a:(List Rect)):Option ((List Rect)):=
 some a
def ref09_Squares_b0 (F:Nat) (b:(List Feature)) (e:Int) (i:Int) (j:Int) (d:((List Rect)×Int)→Option ((List Rect))) (c:(List Rect)) (a:Int):Option ((List Rect)):=
 br (decide (a<((List.length b:Nat):Int))) (gd (0≤a∧a<((List.length b:Nat):Int)) <|
 (ref09_there F (gl b a.toNat) j).bind fun k=>
 br k (br (decide (e≤((gl b a.toNat).kind_))) (ref09_Squares_k1 F b c a d (decide (((gl b a.toNat).kind_)≤i))) (ref09_Squares_k1 F b c a d false)) (ref09_Squares_k1 F b c a d false)) (ref09_Squares_k3 F c)
def ref09_Squares (F:Nat) (a:(List Feature)) (b:Int) (c:Int) (d:Int):Option ((List Rect)):=
 loopN (fun again (z:(List Rect)×Int)=>ref09_Squares_b0 F a b c d again z.1 z.2) F (([]:List Rect),(0:Int))
def ref09_Kind_k1 (F:Nat) (d:(List Feature)) (a:Int) (e:Int) (c:Bool):Option (Region×Int):=
 br c (some ((⟨[]⟩ : Region),(14:Int))) ((ref09_Squares F d a a e).bind fun i=>
 (ref04_Bound F i).bind fun b=>
 some (b.1,b.2))
def ref09_Kind_k0 (F:Nat) (b:(List Feature)) (a:Int) (c:Int) (d:Bool):Option (Region×Int):=
 br d (some ((⟨[]⟩ : Region),(9:Int))) (br (decide (a<(0:Int))) (ref09_Kind_k1 F b a c true) (ref09_Kind_k1 F b a c (decide ((15:Int)<a))))
def ref09_Kind (F:Nat) (b:(List Feature)) (c:Int) (a:Int):Option (Region×Int):=
 (ref09_Check F b).bind fun d=>
 br (d != (0:Int)) (some ((⟨[]⟩ : Region),d)) (br (decide (a<(0:Int))) (ref09_Kind_k0 F b c a true) (ref09_Kind_k0 F b c a (decide ((36864:Int)<a))))
def ref09_End_k1 (F:Nat) (a:Int) (b:(Bool×Int×(List Feature))→Option ((List Feature)×Int)) (c:Bool) (d:(List Feature)):Option ((List Feature)×Int):=
 gd (I64 (a+(1:Int))) <|
 b (c,(a+(1:Int)),d)
def ref09_End_k2 (F:Nat) (a:Bool) (b:(List Feature)):Option ((List Feature)×Int):=
 br (!a) (some ([],(10:Int))) (some (b,(0:Int)))
def ref09_End_b0 (F:Nat) (b:(List Feature)) (j:Int) (d:Int) (e:(Bool×Int×(List Feature))→Option ((List Feature)×Int)) (i:Bool) (a:Int) (c:(List Feature)):Option ((List Feature)×Int):=
 br (decide (a<((List.length b:Nat):Int))) (gd (0≤a∧a<((List.length b:Nat):Int)) <|
 br (((gl b a.toNat).number_) != j) (gd ((List.length (α:=Feature) c)+(List.length (α:=Feature) ([(gl b a.toNat)]:List Feature))≤LIM) <|
 ref09_End_k1 F a e i (c++([(gl b a.toNat)]:List Feature))) ((ref09_there F (gl b a.toNat) d).bind fun k=>
 br (!k) (some ([],(9:Int))) (br (decide (((gl b a.toNat).from_)<d)) (gd ((List.length (α:=Feature) c)+(List.length (α:=Feature) ([(⟨(gl b a.toNat).number_,(gl b a.toNat).kind_,(gl b a.toNat).from_,d,(gl b a.toNat).region_⟩ : Feature)]:List Feature))≤LIM) <|
 ref09_End_k1 F a e true (c++([(⟨(gl b a.toNat).number_,(gl b a.toNat).kind_,(gl b a.toNat).from_,d,(gl b a.toNat).region_⟩ : Feature)]:List Feature))) (ref09_End_k1 F a e true c)))) (ref09_End_k2 F i c)
def ref09_End (F:Nat) (a:(List Feature)) (c:Int) (d:Int):Option ((List Feature)×Int):=
 (ref09_Check F a).bind fun b=>
 br (b != (0:Int)) (some ([],b)) (loopN (fun again (z:Bool×Int×(List Feature))=>ref09_End_b0 F a c d again z.1 z.2.1 z.2.2) F (false,(0:Int),([]:List Feature)))
def feature_Add (F:Nat) (a:(List Feature)) (b:Feature):Option ((List Feature)×Int):=
 (feature_Check F a).bind fun c=>
 br (c != (0:Int)) (some ([],c)) ((feature_single F b).bind fun d=>
 br (d != (0:Int)) (some ([],d)) ((slices_BinarySearchFunc_Feature F a b (fun y0 y1=>feature_compare F y0 y1)).bind fun e=>
 br e.2 (some ([],(6:Int))) (br (((List.length a:Nat):Int)==(60:Int)) (some ([],(1:Int))) ((feature_all F a).bind fun i=>
 (feature_copied F b).bind fun j=>
 (insP F i e.1 ([j]:List Feature)).bind fun k=>
 some (k,(0:Int))))))
def region_overlap_k0 (F:Nat) (a:Bool):Option (Bool):=
 some a
def region_overlap (F:Nat) (a:Rect) (b:Rect):Option (Bool):=
 br (decide (a.left_<b.right_)) (br (decide (b.left_<a.right_)) (br (decide (a.low_<b.high_)) (region_overlap_k0 F (decide (b.low_<a.high_))) (region_overlap_k0 F false)) (region_overlap_k0 F false)) (region_overlap_k0 F false)
def region_Meets_1_1 (F:Nat) (a:Rect) (b:Rect):Option (Bool):=
 (region_overlap F b a).bind fun c=>
 some c
def region_Meets_1 (F:Nat) (a:Rect) (b:Region):Option (Bool):=
 (slices_ContainsFunc_Rect F b.rects_ (fun y0=>region_Meets_1_1 F y0 a)).bind fun c=>
 some c
def region_Meets_k0 (F:Nat) (a:Bool):Option (Bool):=
 some a
def region_Meets (F:Nat) (a:Region) (b:Region):Option (Bool):=
 (region_Valid F a).bind fun c=>
 br c ((region_Valid F b).bind fun d=>
 br d ((slices_ContainsFunc_Rect F a.rects_ (fun y0=>region_Meets_1 F y0 b)).bind fun e=>
 region_Meets_k0 F e) (region_Meets_k0 F false)) (region_Meets_k0 F false)
def feature_Apart_k2 (F:Nat) (c:(List Feature)) (b:Int) (a:Int) (d:(Int)→Option (Int×Int×Bool×Int)) (e:Bool):Option (Int×Int×Bool×Int):=
 br e (some ((gl c b.toNat).number_,(gl (c.drop (b+(1:Int)).toNat) a.toNat).number_,true,(0:Int))) (gd (I64 (a+(1:Int))) <|
 d (a+(1:Int)))
def feature_Apart_k3 (F:Nat) (a:Int) (b:(Int)→Option (Int×Int×Bool×Int)):Option (Int×Int×Bool×Int):=
 gd (I64 (a+(1:Int))) <|
 b (a+(1:Int))
def feature_Apart_b1 (F:Nat) (b:(List Feature)) (a:Int) (e:(Int)→Option (Int×Int×Bool×Int)) (d:(Int)→Option (Int×Int×Bool×Int)) (c:Int):Option (Int×Int×Bool×Int):=
 br (decide (c<((List.length (b.drop (a+(1:Int)).toNat):Nat):Int))) (gd (0≤c∧c<((List.length (b.drop (a+(1:Int)).toNat):Nat):Int)) <|
 br (decide (((gl b a.toNat).from_)<((gl (b.drop (a+(1:Int)).toNat) c.toNat).until_))) (br (decide (((gl (b.drop (a+(1:Int)).toNat) c.toNat).from_)<((gl b a.toNat).until_))) ((region_Meets F ((gl b a.toNat).region_) ((gl (b.drop (a+(1:Int)).toNat) c.toNat).region_)).bind fun i=>
 feature_Apart_k2 F b a c d i) (feature_Apart_k2 F b a c d false)) (feature_Apart_k2 F b a c d false)) (feature_Apart_k3 F a e)
def feature_Apart_k4 (F:Nat):Option (Int×Int×Bool×Int):=
 some ((0:Int),(0:Int),false,(0:Int))
def feature_Apart_b0 (F:Nat) (b:(List Feature)) (c:(Int)→Option (Int×Int×Bool×Int)) (a:Int):Option (Int×Int×Bool×Int):=
 br (decide (a<((List.length b:Nat):Int))) (gd (0≤a∧a<((List.length b:Nat):Int)) <|
 gd (I64 (a+(1:Int))) <|
 gd (0≤(a+(1:Int))∧(a+(1:Int))≤((List.length b:Nat):Int)) <|
 loopN (fun again (z:Int)=>feature_Apart_b1 F b a c again z) F (0:Int)) (feature_Apart_k4 F)
def feature_Apart (F:Nat) (a:(List Feature)):Option (Int×Int×Bool×Int):=
 (feature_Check F a).bind fun b=>
 br (b != (0:Int)) (some ((0:Int),(0:Int),false,b)) (loopN (fun again (z:Int)=>feature_Apart_b0 F a again z) F (0:Int))
def ref04_Meets_k0 (F:Nat) (a:Bool):Option (Bool):=
 some a
def ref04_Meets (F:Nat) (a:Region) (b:Region):Option (Bool):=
 (ref04_Valid F a).bind fun c=>
 br c ((ref04_Valid F b).bind fun d=>
 br d ((ref04_Combine F a.rects_ b.rects_ (2:Int)).bind fun e=>
 ref04_Meets_k0 F (decide ((0:Int)<((List.length e:Nat):Int)))) (ref04_Meets_k0 F false)) (ref04_Meets_k0 F false)
def ref09_Apart_k2 (F:Nat) (c:(List Feature)) (b:Int) (a:Int) (d:(Int)→Option (Int×Int×Bool×Int)) (e:Bool):Option (Int×Int×Bool×Int):=
 br e (some ((gl c b.toNat).number_,(gl (c.drop (b+(1:Int)).toNat) a.toNat).number_,true,(0:Int))) (gd (I64 (a+(1:Int))) <|
 d (a+(1:Int)))
def ref09_Apart_k3 (F:Nat) (a:Int) (b:(Int)→Option (Int×Int×Bool×Int)):Option (Int×Int×Bool×Int):=
 gd (I64 (a+(1:Int))) <|
 b (a+(1:Int))
def ref09_Apart_b1 (F:Nat) (b:(List Feature)) (a:Int) (e:(Int)→Option (Int×Int×Bool×Int)) (d:(Int)→Option (Int×Int×Bool×Int)) (c:Int):Option (Int×Int×Bool×Int):=
 br (decide (c<((List.length (b.drop (a+(1:Int)).toNat):Nat):Int))) (gd (0≤c∧c<((List.length (b.drop (a+(1:Int)).toNat):Nat):Int)) <|
 br (decide (((gl b a.toNat).from_)<((gl (b.drop (a+(1:Int)).toNat) c.toNat).until_))) (br (decide (((gl (b.drop (a+(1:Int)).toNat) c.toNat).from_)<((gl b a.toNat).until_))) ((ref04_Meets F ((gl b a.toNat).region_) ((gl (b.drop (a+(1:Int)).toNat) c.toNat).region_)).bind fun i=>
 ref09_Apart_k2 F b a c d i) (ref09_Apart_k2 F b a c d false)) (ref09_Apart_k2 F b a c d false)) (ref09_Apart_k3 F a e)
def ref09_Apart_k4 (F:Nat):Option (Int×Int×Bool×Int):=
 some ((0:Int),(0:Int),false,(0:Int))
def ref09_Apart_b0 (F:Nat) (b:(List Feature)) (c:(Int)→Option (Int×Int×Bool×Int)) (a:Int):Option (Int×Int×Bool×Int):=
 br (decide (a<((List.length b:Nat):Int))) (gd (0≤a∧a<((List.length b:Nat):Int)) <|
 gd (I64 (a+(1:Int))) <|
 gd (0≤(a+(1:Int))∧(a+(1:Int))≤((List.length b:Nat):Int)) <|
 loopN (fun again (z:Int)=>ref09_Apart_b1 F b a c again z) F (0:Int)) (ref09_Apart_k4 F)
def ref09_Apart (F:Nat) (a:(List Feature)):Option (Int×Int×Bool×Int):=
 (ref09_Check F a).bind fun b=>
 br (b != (0:Int)) (some ((0:Int),(0:Int),false,b)) (loopN (fun again (z:Int)=>ref09_Apart_b0 F a again z) F (0:Int))
def feature_Changes_k1 (F:Nat) (a:Int) (b:(Int×(List Int))→Option ((List Int)×Int)) (c:(List Int)):Option ((List Int)×Int):=
 gd (I64 (a+(1:Int))) <|
 b ((a+(1:Int)),c)
def feature_Changes_k2 (F:Nat) (a:(List Int)):Option ((List Int)×Int):=
 (keysM a).bind fun b=>
 some (b,(0:Int))
def feature_Changes_b0 (F:Nat) (b:(List Feature)) (d:(Int×(List Int))→Option ((List Int)×Int)) (a:Int) (c:(List Int)):Option ((List Int)×Int):=
 br (decide (a<((List.length b:Nat):Int))) (gd (0≤a∧a<((List.length b:Nat):Int)) <|
 gd (List.length (α:=Int) c≤LIM∧I64 ((gl b a.toNat).from_)) <|
 br (decide (((gl b a.toNat).until_)≤(36864:Int))) (gd (List.length (α:=Int) (c++[((gl b a.toNat).from_)])≤LIM∧I64 ((gl b a.toNat).until_)) <|
 feature_Changes_k1 F a d ((c++[((gl b a.toNat).from_)])++[((gl b a.toNat).until_)])) (feature_Changes_k1 F a d (c++[((gl b a.toNat).from_)]))) (feature_Changes_k2 F c)
def feature_Changes (F:Nat) (a:(List Feature)):Option ((List Int)×Int):=
 (feature_Check F a).bind fun b=>
 br (b != (0:Int)) (some ([],b)) (loopN (fun again (z:Int×(List Int))=>feature_Changes_b0 F a again z.1 z.2) F ((0:Int),([]:List Int)))
def ref09_Changes_k1 (F:Nat) (a:Int) (b:((List Int)×Int)→Option ((List Int)×Int)) (c:(List Int)):Option ((List Int)×Int):=
 gd (I64 (a+(1:Int))) <|
 b (c,(a+(1:Int)))
def ref09_Changes_k2 (F:Nat) (a:(List Int)):Option ((List Int)×Int):=
 some (a,(0:Int))
def ref09_Changes_b0 (F:Nat) (b:(List Feature)) (c:((List Int)×Int)→Option ((List Int)×Int)) (d:(List Int)) (a:Int):Option ((List Int)×Int):=
 br (decide (a<((List.length b:Nat):Int))) (gd (0≤a∧a<((List.length b:Nat):Int)) <|
 (ref01_Put F d ((gl b a.toNat).from_)).bind fun e=>
 br (decide (((gl b a.toNat).until_)≤(36864:Int))) ((ref01_Put F e ((gl b a.toNat).until_)).bind fun i=>
 ref09_Changes_k1 F a c i) (ref09_Changes_k1 F a c e)) (ref09_Changes_k2 F d)
def ref09_Changes (F:Nat) (a:(List Feature)):Option ((List Int)×Int):=
 (ref09_Check F a).bind fun b=>
 br (b != (0:Int)) (some ([],b)) (loopN (fun again (z:(List Int)×Int)=>ref09_Changes_b0 F a again z.1 z.2) F (([]:List Int),(0:Int)))
def ref01_Ints_k1 (F:Nat):Option (Bool):=
 some true
def ref01_Ints_b0 (F:Nat) (b:(List Int)) (c:(List Int)) (d:(Int)→Option (Bool)) (a:Int):Option (Bool):=
 br (decide (a<((List.length b:Nat):Int))) (gd (0≤a∧a<((List.length b:Nat):Int)) <|
 gd (0≤a∧a<((List.length c:Nat):Int)) <|
 br ((gl b a.toNat) != (gl c a.toNat)) (some false) (gd (I64 (a+(1:Int))) <|
 d (a+(1:Int)))) (ref01_Ints_k1 F)
def ref01_Ints (F:Nat) (a:(List Int)) (b:(List Int)):Option (Bool):=
 br (((List.length a:Nat):Int) != ((List.length b:Nat):Int)) (some false) (loopN (fun again (z:Int)=>ref01_Ints_b0 F a b again z) F (0:Int))
def law09_FeatureAnswers_k7 (F:Nat) (a:Int) (b:(Int)→Option (Bool)) (c:Bool):Option (Bool):=
 br c (some false) (gd (I64 (a+(1:Int))) <|
 b (a+(1:Int)))
def law09_FeatureAnswers_k8 (F:Nat) (a:Int) (b:(Int)→Option (Bool)):Option (Bool):=
 gd (I64 (a+(1:Int))) <|
 b (a+(1:Int))
def law09_FeatureAnswers_b6 (F:Nat) (j:(List Feature)) (k:Int) (b:Int) (l:Tape×(List Feature)) (i:Int) (m:Int) (d:Int) (c:Int) (s:(Int)→Option (Bool)) (e:(Int)→Option (Bool)) (a:Int):Option (Bool):=
 br (decide (a<((List.length ([b,(c-(1:Int))]:List Int):Nat):Int))) (gd (0≤a∧a<((List.length ([b,(c-(1:Int))]:List Int):Nat):Int)) <|
 (feature_Kind F (gl ([j,l.2]:List (List Feature)) i.toNat) (gl ([b,(c-(1:Int))]:List Int) a.toNat) (gl ([k,m]:List Int) d.toNat)).bind fun n=>
 (ref09_Kind F (gl ([j,l.2]:List (List Feature)) i.toNat) (gl ([b,(c-(1:Int))]:List Int) a.toNat) (gl ([k,m]:List Int) d.toNat)).bind fun o=>
 (feature_End F (gl ([j,l.2]:List (List Feature)) i.toNat) (gl ([b,(c-(1:Int))]:List Int) a.toNat) (gl ([k,m]:List Int) d.toNat)).bind fun p=>
 (ref09_End F (gl ([j,l.2]:List (List Feature)) i.toNat) (gl ([b,(c-(1:Int))]:List Int) a.toNat) (gl ([k,m]:List Int) d.toNat)).bind fun q=>
 (ref04_Same F n.1 o.1).bind fun t=>
 br (!t) (law09_FeatureAnswers_k7 F a e true) (br (n.2 != o.2) (law09_FeatureAnswers_k7 F a e true) ((ref09_Same F p.1 q.1).bind fun u=>
 br (!u) (law09_FeatureAnswers_k7 F a e true) (law09_FeatureAnswers_k7 F a e (p.2 != q.2))))) (law09_FeatureAnswers_k8 F d s)
def law09_FeatureAnswers_k5 (F:Nat) (j:(List Feature)) (k:Int) (a:Int) (l:Tape×(List Feature)) (d:Int) (m:Int) (e:Int) (c:(Int)→Option (Bool)) (i:Bool):Option (Bool):=
 br i (some false) ((keep_Mod F a (18:Int)).bind fun b=>
 gd (I64 (b-(1:Int))) <|
 loopN (fun again (z:Int)=>law09_FeatureAnswers_b6 F j k a l d m e b c again z) F (0:Int))
def law09_FeatureAnswers_k11 (F:Nat) (a:Int) (b:(Int)→Option (Bool)) (c:Bool):Option (Bool):=
 br c (some false) (gd (I64 (a+(1:Int))) <|
 b (a+(1:Int)))
def law09_FeatureAnswers_k14 (F:Nat) (a:Int) (b:(Int)→Option (Bool)):Option (Bool):=
 gd (I64 (a+(1:Int))) <|
 b (a+(1:Int))
def law09_FeatureAnswers_k13 (F:Nat) (b:Int) (a:(Int)→Option (Bool)) (c:Bool):Option (Bool):=
 br c (some false) (law09_FeatureAnswers_k14 F b a)
def law09_FeatureAnswers_k12 (F:Nat) (c:(List Feature)) (d:Tape×(List Feature)) (a:Int) (b:(Int)→Option (Bool)):Option (Bool):=
 (feature_Apart F (gl ([c,d.2]:List (List Feature)) a.toNat)).bind fun e=>
 (ref09_Apart F (gl ([c,d.2]:List (List Feature)) a.toNat)).bind fun i=>
 (feature_Changes F (gl ([c,d.2]:List (List Feature)) a.toNat)).bind fun j=>
 (ref09_Changes F (gl ([c,d.2]:List (List Feature)) a.toNat)).bind fun k=>
 br (e.1 != i.1) (law09_FeatureAnswers_k13 F a b true) (br (e.2.1 != i.2.1) (law09_FeatureAnswers_k13 F a b true) (br (!(e.2.2.1==i.2.2.1)) (law09_FeatureAnswers_k13 F a b true) (br (e.2.2.2 != i.2.2.2) (law09_FeatureAnswers_k13 F a b true) ((ref01_Ints F j.1 k.1).bind fun l=>
 br (!l) (law09_FeatureAnswers_k13 F a b true) (law09_FeatureAnswers_k13 F a b (j.2 != k.2))))))
def law09_FeatureAnswers_b10 (F:Nat) (e:(List Feature)) (b:Feature) (i:Tape×(List Feature)) (c:Tape×Feature) (d:Int) (m:(Int)→Option (Bool)) (j:(Int)→Option (Bool)) (a:Int):Option (Bool):=
 br (decide (a<((List.length ([b,c.2]:List Feature):Nat):Int))) (gd (0≤a∧a<((List.length ([b,c.2]:List Feature):Nat):Int)) <|
 (feature_Add F (gl ([e,i.2]:List (List Feature)) d.toNat) (gl ([b,c.2]:List Feature) a.toNat)).bind fun k=>
 (ref09_Add F (gl ([e,i.2]:List (List Feature)) d.toNat) (gl ([b,c.2]:List Feature) a.toNat)).bind fun l=>
 (ref09_Same F k.1 l.1).bind fun n=>
 br (!n) (law09_FeatureAnswers_k11 F a j true) (law09_FeatureAnswers_k11 F a j (k.2 != l.2))) (law09_FeatureAnswers_k12 F e i d m)
def law09_FeatureAnswers_k9 (F:Nat) (c:(List Feature)) (d:Feature) (e:Tape×(List Feature)) (i:Tape×Feature) (b:Int) (a:(Int)→Option (Bool)):Option (Bool):=
 loopN (fun again (z:Int)=>law09_FeatureAnswers_b10 F c d e i b a again z) F (0:Int)
def law09_FeatureAnswers_b4 (F:Nat) (e:(List Feature)) (o:Feature) (b:Int) (k:Int) (i:Tape×(List Feature)) (p:Tape×Feature) (d:Int) (c:Int) (n:(Int)→Option (Bool)) (j:(Int)→Option (Bool)) (a:Int):Option (Bool):=
 br (decide (a<((List.length ([b,c]:List Int):Nat):Int))) (gd (0≤a∧a<((List.length ([b,c]:List Int):Nat):Int)) <|
 (feature_On F (gl ([e,i.2]:List (List Feature)) d.toNat) (gl ([b,c]:List Int) a.toNat)).bind fun l=>
 (ref09_On F (gl ([e,i.2]:List (List Feature)) d.toNat) (gl ([b,c]:List Int) a.toNat)).bind fun m=>
 (ref09_Same F l.1 m.1).bind fun q=>
 br (!q) (law09_FeatureAnswers_k5 F e b k i d c a j true) (law09_FeatureAnswers_k5 F e b k i d c a j (l.2 != m.2))) (law09_FeatureAnswers_k9 F e o i p d n)
def law09_FeatureAnswers_k15 (F:Nat):Option (Bool):=
 (law09_awake F).bind fun a=>
 some a
def law09_FeatureAnswers_b3 (F:Nat) (b:(List Feature)) (i:Feature) (d:Int) (j:Int) (c:Tape×(List Feature)) (k:Tape×Feature) (e:(Int)→Option (Bool)) (a:Int):Option (Bool):=
 br (decide (a<((List.length ([b,c.2]:List (List Feature)):Nat):Int))) (gd (0≤a∧a<((List.length ([b,c.2]:List (List Feature)):Nat):Int)) <|
 (feature_Check F (gl ([b,c.2]:List (List Feature)) a.toNat)).bind fun l=>
 (ref09_Check F (gl ([b,c.2]:List (List Feature)) a.toNat)).bind fun m=>
 br (l != m) (some false) ((keep_Mod F d (60:Int)).bind fun n=>
 loopN (fun again (z:Int)=>law09_FeatureAnswers_b4 F b i d j c k a n e again z) F (0:Int))) (law09_FeatureAnswers_k15 F)
def law09_FeatureAnswers_k2 (F:Nat) (d:(List Feature)) (e:Feature) (a:Int) (i:Int) (j:(List Int)):Option (Bool):=
 (keep_New F j).bind fun k=>
 (law09_spoilt F k a).bind fun b=>
 (keep_Tape_Range F b.1 (1:Int) (12:Int)).bind fun c=>
 (keep_Tape_Feature F c.1 c.2).bind fun l=>
 loopN (fun again (z:Int)=>law09_FeatureAnswers_b3 F d e a i b l again z) F (0:Int)
def law09_FeatureAnswers_b1 (F:Nat) (b:(List Feature)) (d:Feature) (e:Int) (i:Int) (j:(List Int)) (c:(Int)→Option (Bool)) (a:Int):Option (Bool):=
 br (decide (a<((List.length b:Nat):Int))) (gd (0≤a∧a<((List.length b:Nat):Int)) <|
 br (decide ((5:Int)<((List.length ((gl b a.toNat).region_.rects_):Nat):Int))) ((law09_awake F).bind fun k=>
 some k) (gd (I64 (a+(1:Int))) <|
 c (a+(1:Int)))) (law09_FeatureAnswers_k2 F b d e i j)
def law09_FeatureAnswers_k0 (F:Nat) (b:(List Feature)) (c:Feature) (d:Int) (e:Int) (i:(List Int)) (a:Bool):Option (Bool):=
 br a ((law09_awake F).bind fun j=>
 some j) (loopN (fun again (z:Int)=>law09_FeatureAnswers_b1 F b c d e i again z) F (0:Int))
def law09_FeatureAnswers (F:Nat) (a:(List Feature)) (b:Feature) (c:Int) (d:Int) (e:(List Int)):Option (Bool):=
 br (decide ((10:Int)<((List.length a:Nat):Int))) (law09_FeatureAnswers_k0 F a b c d e true) (law09_FeatureAnswers_k0 F a b c d e (decide ((6:Int)<((List.length b.region_.rects_:Nat):Int))))
end
end Go.Ab
end

section

end

section

end

section

end

section

end

section

end

section
namespace Go.Ab
def BIG:Nat:=1099511627776
theorem gd_ok {R:Type} {p:Prop} [Decidable p] {x:Option R} {y:Option R} (h:p) (k:x=y):gd p x=y:=by unfold gd; rw [if_pos h]; exact k
theorem bd_ok {α R:Type} {x:Option α} {f:α→Option R} {a:α} {y:Option R} (h:x=some a) (k:f a=y):x.bind f=y:=by rw [h]; exact k
theorem br_ok {R:Type} {b:Bool} {x y z:Option R} (ht:b=true→x=z) (hf:b=false→y=z):br b x y=z:=by cases b; exact hf rfl; exact ht rfl
theorem br_tt {R:Type} {b:Bool} {x y z:Option R} (h:b=true) (k:x=z):br b x y=z:=by subst h; exact k
theorem br_ff {R:Type} {b:Bool} {x y z:Option R} (h:b=false) (k:y=z):br b x y=z:=by subst h; exact k
theorem br_ite {R:Type} (b:Bool) (x y:Option R):br b x y=if b=true then x else y:=by cases b <;> rfl
theorem loopN_ok {σ R:Type} {body:(σ→Option R)→σ→Option R} {y:Option R} (I:σ→Prop) (μ:σ→Nat)
  (round : ∀ again z,I z→(∀ z',I z' → μ z' < μ z→again z' = y)→body again z=y) : ∀ {n:Nat} {z:σ},I z→μ z<n→loopN body n z=y:=by
 intro n
 induction n with
 | zero=>intro z _ h; omega
 | succ n ih=>
  intro z hz hμ
  exact round (loopN body n) z hz fun z' hz' hlt=>ih hz' (by omega)
section
variable {α:Type} [Emb α]
theorem gl_lt {l:List α} {i:Nat} (h:i<l.length):gl l i=l[i]:=by simp [gl,List.getD_eq_getElem?_getD,h]
theorem gl_mem {l:List α} {i:Nat} (h:i<l.length):gl l i ∈ l:=by rw [gl_lt h]; exact List.getElem_mem h
theorem drop_gl {l:List α} {i:Nat} (h:i<l.length):l.drop i=gl l i::l.drop (i+1):=by rw [gl_lt h]; exact List.drop_eq_getElem_cons h
theorem take_gl {l:List α} {i:Nat} (h:i<l.length):l.take (i+1)=l.take i++[gl l i]:=by rw [gl_lt h]; exact List.take_succ_eq_append_getElem h
end
theorem i64_of {n:Int} (h1 : -4611686018427387904≤n) (h2:n≤4611686018427387904):I64 n:=⟨by omega,by omega⟩
theorem range_ok {α R:Type} [Emb α] {l:List α} {body:(Int→Option R)→Int→Option R} (y:List α→Option R)
  (step : ∀ again (i:Nat),i<l.length→again ((i:Int)+1)=y (l.drop (i+1))→body again (i:Int)=y (gl l i::l.drop (i+1)))
  (stop : ∀ again,body again (l.length:Int)=y []) {F:Nat} (hF:l.length<F):loopN body F 0=y l:=by
 have key : ∀ (n:Nat) (i:Nat),i≤l.length→l.length-i<n→loopN body n (i:Int)=y (l.drop i):=by
  intro n
  induction n with
  | zero=>intro i _ h; omega
  | succ n ih=>
   intro i hi hn
   show body (loopN body n) (i:Int)=_
   by_cases h:i<l.length
   ·rw [drop_gl h]
    refine step _ i h ?_
    have:=ih (i+1) h (by omega)
    rw [← this]; congr 1
   ·have:i=l.length:=by omega
    subst this
    rw [List.drop_length]; exact stop _
 have:=key F 0 (Nat.zero_le _) (by omega)
 rw [List.drop_zero] at this
 exact this
theorem range_st {α σ R:Type} [Emb α] {l:List α} {body:(Int×σ→Option R)→Int×σ→Option R} (I:List α→σ→Prop) (y:List α→σ→Option R)
  (step : ∀ again (i:Nat) (s:σ),i<l.length→I (gl l i::l.drop (i+1)) s→(∀ s',I (l.drop (i+1)) s' → again ((i:Int)+1,s')=y (l.drop (i+1)) s')→body again ((i:Int),s)=y (gl l i::l.drop (i+1)) s)
  (stop : ∀ again (s:σ),I [] s→body again ((l.length:Int),s)=y [] s) {F:Nat} (hF:l.length<F) {s0:σ} (h0:I l s0):loopN body F (0,s0)=y l s0:=by
 have key : ∀ (n:Nat) (i:Nat) (s:σ),i≤l.length→l.length-i<n→I (l.drop i) s→loopN body n ((i:Int),s)=y (l.drop i) s:=by
  intro n
  induction n with
  | zero=>intro i _ _ h; omega
  | succ n ih=>
   intro i s hi hn hI
   show body (loopN body n) ((i:Int),s)=_
   by_cases h:i<l.length
   ·rw [drop_gl h] at hI ⊢
    refine step _ i s h hI fun s' hs' => ?_
    have:=ih (i+1) s' h (by omega) hs'
    rw [← this]; congr 1
   ·have:i=l.length:=by omega
    subst this
    rw [List.drop_length] at hI ⊢; exact stop _ s hI
 have:=key F 0 s0 (Nat.zero_le _) (by omega) (by rwa [List.drop_zero])
 rw [List.drop_zero] at this
 exact this
theorem and_br {R:Type} (K:Bool→Option R) (b x:Bool):br b (K x) (K false)=K (b&&x):=by cases b <;> rfl
theorem or_br {R:Type} (K:Bool→Option R) (b x:Bool):br b (K true) (K x)=K (b||x):=by cases b <;> rfl
theorem any_drop {α:Type} [Emb α] {l:List α} {i:Nat} (h:i<l.length) (p:α→Bool):(l.drop i).any p=(p (gl l i)||(l.drop (i+1)).any p):=by rw [drop_gl h]; rfl
theorem lt_dec {a b:Nat} (h:a<b):decide ((a:Int)<((b:Nat):Int))=true:=by simpa using h
theorem not_lt_dec (a:Nat):decide ((a:Int)<((a:Nat):Int))=false:=by simp
theorem gd_G {R:Type} {p:Prop} [Decidable p] {x:Option R} {y:Option R} (h:p:=by first | omega | exact i64_of (by omega) (by omega) | (simp only [LIM,BIG,List.length_append,List.length_cons,List.length_nil,List.length_map,List.length_take,List.length_drop,List.length_set] at *; omega)) (k:x=y):gd p x=y:=gd_ok h k
end Go.Ab
end

section
namespace Go.Ab
def Asc (l:List Int):Prop:=l.Pairwise (· < ·)
theorem Asc.at_lt {l:List Int} (h:Asc l) {i j:Nat} (hij:i<j) (hj:j<l.length):gl l i<gl l j:=by
 rw [gl_lt (by omega),gl_lt hj]
 exact List.pairwise_iff_getElem.1 h i j (by omega) hj hij
theorem mem_gl {l:List Int} {v:Int} (h:v ∈ l) : ∃ j,j<l.length∧gl l j=v:=by
 obtain ⟨j,hj,e⟩:=List.getElem_of_mem h
 exact ⟨j,hj,by rw [gl_lt hj]; exact e⟩
theorem Asc.gap {c:List Int} (h:Asc c) {i:Nat} (hi:i+1<c.length) {t v:Int} (h1:gl c i≤t) (h2:t<gl c (i+1)) (hv:v ∈ c):(v≤t↔v≤gl c i):=by
 obtain ⟨j,hj,rfl⟩:=mem_gl hv
 rcases Nat.lt_or_ge i j with hij | hij
 ·rcases Nat.lt_or_ge (i+1) j with h3 | h3
  ·have:=h.at_lt h3 hj
   have:=h.at_lt (show i<i+1 by omega) hi
   omega
  ·have:j=i+1:=by omega
   subst this
   have:=h.at_lt (show i<i+1 by omega) hi
   omega
 ·rcases Nat.lt_or_ge j i with h3 | h3
  ·have:=h.at_lt h3 (by omega)
   omega
  ·have:j=i:=by omega
   subst this; omega
def CovX (c:List Int) (l:List Rect):Prop:=∀ r ∈ l,r.left_ ∈ c∧r.right_ ∈ c
def CovY (c:List Int) (l:List Rect):Prop:=∀ r ∈ l,r.low_ ∈ c∧r.high_ ∈ c
theorem inR_congr {l:List Rect} {x y x' y' : Int} (h : ∀ r ∈ l,r.has x y=r.has x' y'):inR l x y=inR l x' y' := by
 induction l with
 | nil=>rfl
 | cons r l ih=>
  simp only [inR,List.any_cons] at ih ⊢
  rw [h r (by simp),ih fun q hq=>h q (by simp [hq])]
theorem inR_false {l:List Rect} {x y:Int} (h : ∀ r ∈ l,r.has x y=false):inR l x y=false:=by
 induction l with
 | nil=>rfl
 | cons r l ih=>
  simp only [inR,List.any_cons] at ih ⊢
  rw [h r (by simp),ih fun q hq=>h q (by simp [hq])]; rfl
theorem has_iff (r:Rect) (x y:Int):r.has x y=true↔r.left_≤x∧x<r.right_∧r.low_≤y∧y<r.high_:=by simp [Rect.has,and_assoc]
theorem has_eq {r:Rect} {x y x' y' : Int} (h:(r.left_≤x∧x<r.right_∧r.low_≤y∧y<r.high_)↔(r.left_≤x' ∧ x' < r.right_∧r.low_≤y' ∧ y' < r.high_)):r.has x y=r.has x' y' := by
 rw [Bool.eq_iff_iff,has_iff,has_iff]; exact h
theorem has_ff {r:Rect} {x y:Int} (h : ¬ (r.left_≤x∧x<r.right_∧r.low_≤y∧y<r.high_)):r.has x y=false:=by
 rw [← Bool.not_eq_true,has_iff]; exact h
theorem CovX.gap {c:List Int} {l:List Rect} (hc:Asc c) (h:CovX c l) {i:Nat} (hi:i+1<c.length) {t:Int} (h1:gl c i≤t) (h2:t<gl c (i+1)) (y:Int):inR l t y=inR l (gl c i) y:=
 inR_congr fun r hr=>has_eq (by
  have a:=hc.gap hi h1 h2 (h r hr).1
  have b:=hc.gap hi h1 h2 (h r hr).2
  omega)
theorem CovY.gap {c:List Int} {l:List Rect} (hc:Asc c) (h:CovY c l) {i:Nat} (hi:i+1<c.length) {t:Int} (h1:gl c i≤t) (h2:t<gl c (i+1)) (x:Int):inR l x t=inR l x (gl c i):=
 inR_congr fun r hr=>has_eq (by
  have a:=hc.gap hi h1 h2 (h r hr).1
  have b:=hc.gap hi h1 h2 (h r hr).2
  omega)
theorem CovX.before {c:List Int} {l:List Rect} (h:CovX c l) {t:Int} (ht : ∀ v ∈ c,t<v) (y:Int):inR l t y=false:=
 inR_false fun r hr=>has_ff (by have:=ht _ (h r hr).1; omega)
theorem CovX.after {c:List Int} {l:List Rect} (h:CovX c l) {t:Int} (ht : ∀ v ∈ c,v≤t) (y:Int):inR l t y=false:=
 inR_false fun r hr=>has_ff (by have:=ht _ (h r hr).2; omega)
theorem CovY.before {c:List Int} {l:List Rect} (h:CovY c l) {t:Int} (ht : ∀ v ∈ c,t<v) (x:Int):inR l x t=false:=
 inR_false fun r hr=>has_ff (by have:=ht _ (h r hr).1; omega)
theorem CovY.after {c:List Int} {l:List Rect} (h:CovY c l) {t:Int} (ht : ∀ v ∈ c,v≤t) (x:Int):inR l x t=false:=
 inR_false fun r hr=>has_ff (by have:=ht _ (h r hr).2; omega)
theorem Asc.first {c:List Int} (h:Asc c) {t:Int} (ht:t<gl c 0) : ∀ v ∈ c,t<v:=by
 intro v hv
 obtain ⟨j,hj,rfl⟩:=mem_gl hv
 rcases Nat.eq_zero_or_pos j with rfl | hp
 ·exact ht
 ·have:=h.at_lt hp hj; omega
theorem Asc.last {c:List Int} (h:Asc c) {t:Int} {i:Nat} (hi:i+1=c.length) (ht:gl c i≤t) : ∀ v ∈ c,v≤t:=by
 intro v hv
 obtain ⟨j,hj,rfl⟩:=mem_gl hv
 rcases Nat.lt_or_ge j i with h1 | h1
 ·have:=h.at_lt h1 (by omega); omega
 ·have:j=i:=by omega
  subst this; exact ht
structure Step {α:Type} (d:α) (c:List Int) (f:Int→α):Prop where
 asc:Asc c
 gap : ∀ i,i+1<c.length→∀ t,gl c i≤t→t<gl c (i+1)→f t=f (gl c i)
 before : ∀ t,(∀ v ∈ c,t<v)→f t=d
 after : ∀ t,(∀ v ∈ c,v≤t)→f t=d
theorem Step.start {α:Type} {d:α} {c:List Int} {f:Int→α} (h:Step d c f) (_:0<c.length):Bst d f [] (gl c 0):=.start fun t ht=>h.before t (h.asc.first ht)
theorem Step.empty {α:Type} {d:α} {c:List Int} {f:Int→α} (h:Step d c f) (hc:c.length=0) (t:Int):f t=d:=h.before t fun v hv=>by
 rw [List.eq_nil_of_length_eq_zero hc] at hv; cases hv
theorem Step.done {α:Type} {d:α} {c:List Int} {f:Int→α} (h:Step d c f) {i:Nat} (hi:i+1=c.length) {acc:List (Rn α)} (hb:Bst d f acc (gl c i)) (t:Int):atR d acc t=f t:=by
 rcases Int.lt_or_le t (gl c i) with h1 | h1
 ·exact hb.val t h1
 ·rw [hb.out t h1,h.after t (h.asc.last hi h1)]
open Classical in
noncomputable def spn (f:Int→Bool):List Span:=if h : ∃ l,SpOk l∧∀ x,inS l x=f x then h.choose else []
theorem spn_eq {f:Int→Bool} {l:List Span} (hl:SpOk l) (h : ∀ x,inS l x=f x):spn f=l:=by
 have he : ∃ l,SpOk l∧∀ x,inS l x=f x:=⟨l,hl,h⟩
 unfold spn
 rw [dif_pos he]
 exact he.choose_spec.1.unique hl fun x=>(he.choose_spec.2 x).trans (h x).symm
theorem SpOk.nil:SpOk []:=⟨fun s hs=>(List.not_mem_nil hs).elim,List.Pairwise.nil⟩
theorem spn_false {f:Int→Bool} (h : ∀ x,f x=false):spn f=[]:=spn_eq .nil fun x=>(h x).symm
def RowsOk (S:Int→Int→Bool):Prop:=∀ y,∃ l,SpOk l∧∀ x,inS l x=S x y
theorem RowsOk.sp {S:Int→Int→Bool} (h:RowsOk S) (y:Int):SpOk (spn fun x=>S x y)∧∀ x,inS (spn fun x=>S x y) x=S x y:=by
 obtain ⟨l,h1,h2⟩:=h y
 rw [spn_eq h1 h2]; exact ⟨h1,h2⟩
theorem Step.cn {S:Int→Int→Bool} (hr:RowsOk S) {c:List Int} (h:Step [] c fun y=>spn fun x=>S x y) {acc:List (Rn (List Span))} (hacc:Runs acc) (hval : ∀ t,atR [] acc t=spn fun x=>S x t) (hne : ∀ b ∈ acc,b.v≠[]):cn S=flat acc∧Fin S:=by
 have hv : ∀ b ∈ acc,b.v=spn fun x=>S x b.lo:=by
  intro b hb
  have hat : ∀ (l:List (Rn (List Span))),Runs l→b ∈ l→atR [] l b.lo=b.v:=by
   intro l
   induction l with
   | nil=>intro _ hb; cases hb
   | cons a l ih=>
    intro hl hb
    rcases List.mem_cons.1 hb with rfl | hb
    ·have:=hl.pos b (by simp)
     rw [atR,if_pos ⟨by omega,this⟩]
    ·have h1:=(hl.head b hb).1
     rw [atR,if_neg (by omega)]; exact ih hl.tail hb
  rw [← hval,hat acc hacc hb]
 have hB:Bands acc:=⟨hacc,fun b hb=>by rw [hv b hb]; exact (hr.sp _).1,hne⟩
 have hS : ∀ x y,inS (atR [] acc y) x=S x y:=fun x y=>by rw [hval]; exact (hr.sp y).2 x
 exact ⟨cn_eq hB hS,acc,hB,hS⟩
structure Grid (xs ys:List Int) (S:Int→Int→Bool):Prop where
 x : ∀ y,Step false xs fun x=>S x y
 y : ∀ x,Step false ys fun y=>S x y
theorem Step.spansL {xs:List Int} {f:Int→Bool} (h:Step false xs f) : ∃ l,SpOk l∧(∀ x,inS l x=f x)∧l.length≤xs.length:=by
 by_cases h0:xs.length=0
 ·exact ⟨[],.nil,fun x=>(h.empty h0 x).symm,by simp⟩
 ·have key : ∀ i,i+1≤xs.length→∃ l:List Span,Bst false f (l.map Span.rn) (gl xs i)∧l.length≤i:=by
   intro i
   induction i with
   | zero=>intro hi; exact ⟨[],h.start (by omega),by simp⟩
   | succ i ih=>
    intro hi
    obtain ⟨l,hl,hll⟩:=ih (by omega)
    have hlt:=h.asc.at_lt (show i<i+1 by omega) (by omega)
    cases hf:f (gl xs i) with
    | false=>exact ⟨l,hl.skip (by omega) fun t h1 h2=>(h.gap i (by omega) t h1 h2).trans hf,by omega⟩
    | true=>
     rcases List.eq_nil_or_concat l with rfl | ⟨l',s,hls⟩
     ·refine ⟨[⟨gl xs i,gl xs (i+1)⟩], ?_,by simp⟩
      have:=hl.add hlt (h.gap i (by omega)) (fun a ha=>by simp at ha)
      rw [hf] at this; exact this
     ·rw [List.concat_eq_append] at hls
      subst hls
      by_cases hs:s.right_=gl xs i
      ·refine ⟨l' ++ [⟨s.left_,gl xs (i+1)⟩], ?_,by simp at hll ⊢; omega⟩
       rw [List.map_append] at hl
       have:=hl.grow (a:=s.rn) hs hlt fun t h1 h2=>(h.gap i (by omega) t h1 h2).trans hf
       rw [List.map_append]; exact this
      ·refine ⟨(l' ++ [s])++[⟨gl xs i,gl xs (i+1)⟩], ?_,by simp at hll ⊢; omega⟩
       have:=hl.add hlt (h.gap i (by omega)) (fun a ha he=>by
        rw [List.map_append] at ha
        simp at ha
        subst ha
        exact absurd he hs)
       rw [hf] at this
       rw [List.map_append]; exact this
  obtain ⟨l,hl,hll⟩:=key (xs.length-1) (by omega)
  refine ⟨l,.of_runs hl.runs,fun x=>?_,by omega⟩
  rw [inS_atR]; exact h.done (by omega) hl x
theorem Step.spans {xs:List Int} {f:Int→Bool} (h:Step false xs f) : ∃ l,SpOk l∧∀ x,inS l x=f x:=by
 obtain ⟨l,h1,h2,_⟩:=h.spansL; exact ⟨l,h1,h2⟩
theorem Step.spn_len {xs:List Int} {f:Int→Bool} (h:Step false xs f):(spn f).length≤xs.length:=by
 obtain ⟨l,h1,h2,h3⟩:=h.spansL; rw [spn_eq h1 h2]; exact h3
theorem Grid.rows {xs ys:List Int} {S:Int→Int→Bool} (h:Grid xs ys S):RowsOk S:=fun y=>(h.x y).spans
theorem Grid.step {xs ys:List Int} {S:Int→Int→Bool} (h:Grid xs ys S):Step [] ys fun y=>spn fun x=>S x y:=by
 refine ⟨(h.y 0).asc,fun i hi t h1 h2=>?_,fun t ht=>?_,fun t ht=>?_⟩
 ·congr 1; funext x; exact (h.y x).gap i hi t h1 h2
 ·exact spn_false fun x=>(h.y x).before t ht
 ·exact spn_false fun x=>(h.y x).after t ht
theorem Grid.of {xs ys:List Int} {a b:List Rect} (hx:Asc xs) (hy:Asc ys) (ax:CovX xs a) (bx:CovX xs b) (ay:CovY ys a) (by' : CovY ys b) {k:Bool→Bool→Bool} (hk:k false false=false) :
  Grid xs ys fun x y=>k (inR a x y) (inR b x y):=by
 refine ⟨fun y=>⟨hx,fun i hi t h1 h2=>?_,fun t ht=>?_,fun t ht=>?_⟩,fun x=>⟨hy,fun i hi t h1 h2=>?_,fun t ht=>?_,fun t ht=>?_⟩⟩
 ·simp only [ax.gap hx hi h1 h2,bx.gap hx hi h1 h2]
 ·simp only [ax.before ht,bx.before ht,hk]
 ·simp only [ax.after ht,bx.after ht,hk]
 ·simp only [ay.gap hy hi h1 h2,by'.gap hy hi h1 h2]
 ·simp only [ay.before ht,by'.before ht,hk]
 ·simp only [ay.after ht,by'.after ht,hk]
end Go.Ab
end
