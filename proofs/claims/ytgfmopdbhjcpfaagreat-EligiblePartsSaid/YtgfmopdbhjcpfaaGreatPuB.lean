/- The code that the statement reaches as plain programs, and what they compute. -/
import Derived.Test.YtgfmopdbhjcpfaaGreatAbC
import Derived.Test.YtgfmopdbhjcpfaaGreatPuA
set_option linter.unusedVariables false
set_option linter.unusedSimpArgs false
section
namespace Go.Ab
set_option maxRecDepth 100000
noncomputable section
structure Term where
 op_:Int
 num_:Int
 more_:Int
 kids_:(List Term)
def Term.d0 (x:Term):DVal:=if x.op_=(2 ^ 64) then .any else .int .i64 x.op_
def Term.d1 (x:Term):DVal:=if x.op_=(2 ^ 64) then .any else .int .i64 x.num_
def Term.d2 (x:Term):DVal:=if x.op_=(2 ^ 64) then .any else .int .i64 x.more_
def Term.d3:Term->DVal
 | ⟨a0,a1,a2,a3⟩=>if a0=(2 ^ 64) then .any else .lst a3.length (fun i=>if h:i<a3.length then [Term.d0 a3[i],Term.d1 a3[i],Term.d2 a3[i],Term.d3 a3[i]] else [.any,.any,.any,.any])
decreasing_by
 have:=List.sizeOf_lt_of_mem (List.getElem_mem h)
 simp only [Term.mk.sizeOf_spec];omega
instance:Emb Term:=⟨fun x=>[x.d0,x.d1,x.d2,x.d3],4,⟨(2 ^ 64),0,0,[]⟩,fun _=>rfl⟩
theorem Term.cells_eq {x:Term} (h:I64 x.op_):Emb.cells x=[.int .i64 x.op_,.int .i64 x.num_,.int .i64 x.more_,DL x.kids_]:=by
 obtain ⟨a0,a1,a2,a3⟩:=x;show [Term.d0 _,Term.d1 _,Term.d2 _,Term.d3 _]=_
 have h:I64 a0:=h;have hm:¬ a0=(2 ^ 64):=fun e=>by subst e;revert h;decide
 have hl:∀ l:List Term,(.lst l.length (fun i=>if h:i<l.length then [Term.d0 l[i],Term.d1 l[i],Term.d2 l[i],Term.d3 l[i]] else [.any,.any,.any,.any]):DVal)=DL l:=by
  intro l;unfold DL
  congr 1
  funext i
  unfold LF
  by_cases hi:i<l.length
  ·rw [dif_pos hi,List.getD_eq_getElem?_getD,List.getElem?_eq_getElem hi];rfl
  ·rw [dif_neg hi,List.getD_eq_getElem?_getD,List.getElem?_eq_none (by omega)];show _=[Term.d0 ⟨(2 ^ 64),0,0,[]⟩,Term.d1 ⟨(2 ^ 64),0,0,[]⟩,Term.d2 ⟨(2 ^ 64),0,0,[]⟩,Term.d3 ⟨(2 ^ 64),0,0,[]⟩];unfold Term.d3;rfl
 have hk:Term.d3 ⟨a0,a1,a2,a3⟩=DL a3:=by
  unfold Term.d3;rw [if_neg hm,hl]
 rw [hk];simp only [Term.d0,Term.d1,Term.d2,if_neg hm]
theorem Term.elm {l:List Term} {i:Nat} (h:I64 (gl l i).op_):AVal.v (.c (.elm (LF l i)))=.v (.c (.elm [.int .i64 (gl l i).op_,.int .i64 (gl l i).num_,.int .i64 (gl l i).more_,DL (gl l i).kids_])):=by
 have:=Term.cells_eq h
 unfold LF;unfold gl at this ⊢
 rw [this]
structure Bracket where
 up_:Int
 rate_:Int
 deriving DecidableEq
instance:Emb Bracket:=⟨fun x=>[.int .i64 x.up_,.int .i64 x.rate_],2,⟨0,0⟩,fun _=>rfl⟩
structure Scheme where
 N_:Int
 n_:ByteArray
 cond_:Term
 brackets_:(List Bracket)
 least_:Int
 excludes_:Int
 needs_:Bool
instance:Emb Scheme:=⟨fun x=>[.int .i64 x.N_,.str x.n_,.int .i64 x.cond_.op_,.int .i64 x.cond_.num_,.int .i64 x.cond_.more_,DL x.cond_.kids_,DL x.brackets_,.int .i64 x.least_,.int .i64 x.excludes_,.bool x.needs_],10,⟨0,ByteArray.empty,(Emb.d:Term),[],0,0,false⟩,fun _=>rfl⟩
instance:Emb Rect:=⟨fun x=>[.int .i64 x.L_,.int .i64 x.w_,.int .i64 x.R_,.int .i64 x.H_],4,⟨0,0,0,0⟩,fun _=>rfl⟩
structure Re_ where
 t_:(List Rect)
 deriving DecidableEq
instance:Emb Re_:=⟨fun x=>[DL x.t_],1,⟨[]⟩,fun _=>rfl⟩
structure Crop where
 n_:ByteArray
 f_:Int
 m_:Int
 deriving DecidableEq
instance:Emb Crop:=⟨fun x=>[.str x.n_,.int .i64 x.f_,.int .i64 x.m_],3,⟨ByteArray.empty,0,0⟩,fun _=>rfl⟩
structure Line where
 p_:Int
 g_:Re_
 c_:Int
 s_:Int
 deriving DecidableEq
instance:Emb Line:=⟨fun x=>[.int .i64 x.p_,DL x.g_.t_,.int .i64 x.c_,.int .i64 x.s_],4,⟨0,⟨[]⟩,0,0⟩,fun _=>rfl⟩
structure Rg_ where
 y_:Int
 c_:Int
 g_:Re_
 deriving DecidableEq
instance:Emb Rg_:=⟨fun x=>[.int .i64 x.y_,.int .i64 x.c_,DL x.g_.t_],3,⟨0,0,⟨[]⟩⟩,fun _=>rfl⟩
structure A2_ where
 N_:Int
 k_:Int
 F_:Int
 u_:Int
 g_:Re_
 deriving DecidableEq
instance:Emb A2_:=⟨fun x=>[.int .i64 x.N_,.int .i64 x.k_,.int .i64 x.F_,.int .i64 x.u_,DL x.g_.t_],5,⟨0,0,0,0,⟨[]⟩⟩,fun _=>rfl⟩
structure World where
 y_:Int
 crops_:(List Crop)
 history_:(List Rg_)
 zones_:(List A2_)
 day_:Int
 most_:Int
 deriving DecidableEq
instance:Emb World:=⟨fun x=>[.int .i64 x.y_,DL x.crops_,DL x.history_,DL x.zones_,.int .i64 x.day_,.int .i64 x.most_],6,⟨0,[],[],[],0,0⟩,fun _=>rfl⟩
structure Truth where
 true_:Re_
 false_:Re_
 unknown_:Re_
 deriving DecidableEq
instance:Emb Truth:=⟨fun x=>[DL x.true_.t_,DL x.false_.t_,DL x.unknown_.t_],3,⟨⟨[]⟩,⟨[]⟩,⟨[]⟩⟩,fun _=>rfl⟩
structure Tape where
 l_:(List Int)
 at_:Int
 deriving DecidableEq
instance:Emb Tape:=⟨fun x=>[DL x.l_,.int .i64 x.at_],2,⟨[],0⟩,fun _=>rfl⟩
structure Arr3ListRect where
 e0_:(List Rect)
 e1_:(List Rect)
 e2_:(List Rect)
 deriving DecidableEq
instance:Emb Arr3ListRect:=⟨fun x=>[DL x.e0_,DL x.e1_,DL x.e2_],3,⟨[],[],[]⟩,fun _=>rfl⟩
structure TermWorld where
 y_:Int
 crops_:(List Crop)
 history_:(List Rg_)
 zones_:(List A2_)
 day_:Int
 deriving DecidableEq
instance:Emb TermWorld:=⟨fun x=>[.int .i64 x.y_,DL x.crops_,DL x.history_,DL x.zones_,.int .i64 x.day_],5,⟨0,[],[],[],0⟩,fun _=>rfl⟩
structure TermPlace where
 world_:TermWorld
 line_:Line
 t_:(List Rect)
 deriving DecidableEq
instance:Emb TermPlace:=⟨fun x=>[.int .i64 x.world_.y_,DL x.world_.crops_,DL x.world_.history_,DL x.world_.zones_,.int .i64 x.world_.day_,.int .i64 x.line_.p_,DL x.line_.g_.t_,.int .i64 x.line_.c_,.int .i64 x.line_.s_,DL x.t_],10,⟨⟨0,[],[],[],0⟩,⟨0,⟨[]⟩,0,0⟩,[]⟩,fun _=>rfl⟩
structure Squares where
 yes_:(List Rect)
 no_:(List Rect)
 open_:(List Rect)
 deriving DecidableEq
instance:Emb Squares:=⟨fun x=>[DL x.yes_,DL x.no_,DL x.open_],3,⟨[],[],[]⟩,fun _=>rfl⟩
instance:Emb Span:=⟨fun x=>[.int .i64 x.L_,.int .i64 x.R_],2,⟨0,0⟩,fun _=>rfl⟩
structure Band where
 w_:Int
 H_:Int
 spans_:(List Span)
 deriving DecidableEq
instance:Emb Band:=⟨fun x=>[.int .i64 x.w_,.int .i64 x.H_,DL x.spans_],3,⟨0,0,[]⟩,fun _=>rfl⟩
def Q8w (q:Rect->Option Bool):List AVal->AVal->Prop:=fun args r=>∃ x0 y,q x0=some y/\args=[gE x0]/\r=vb y
def Z3f (q:Span->Span->Option Int):List AVal->AVal->Prop:=fun args r=>∃ x0 x1 y,q x0 x1=some y/\args=[gE x0,gE x1]/\r=vi y
def Q6M (q:Int->Option (List Span)):List AVal->AVal->Prop:=fun args r=>∃ x0 y,q x0=some y/\args=[vi x0]/\r=AL y
def Q8u (q:Term->Option Bool):List AVal->AVal->Prop:=fun args r=>∃ x0 y,q x0=some y/\args=[.v (.g [ci x0.op_,ci x0.num_,ci x0.more_,.d (DL x0.kids_)])]/\r=vb y
def Q5z (q:Rg_->Option Bool):List AVal->AVal->Prop:=fun args r=>∃ x0 y,q x0=some y/\args=[gE x0]/\r=vb y
def Q0O (q:A2_->Option Bool):List AVal->AVal->Prop:=fun args r=>∃ x0 y,q x0=some y/\args=[gE x0]/\r=vb y
def Q2P (q:Int->Option Bool):List AVal->AVal->Prop:=fun args r=>∃ x0 y,q x0=some y/\args=[vi x0]/\r=vb y
def Q8v (q:Span->Option Bool):List AVal->AVal->Prop:=fun args r=>∃ x0 y,q x0=some y/\args=[gE x0]/\r=vb y
def U8 (q:Bool->Bool->Option Bool):List AVal->AVal->Prop:=fun args r=>∃ x0 x1 y,q x0 x1=some y/\args=[vb x0,vb x1]/\r=vb y
def Z2P (F:Nat) (x1:List Int):Option Tape:=
 gd (0<=(Q5S (x1.length:Int) (400:Int))/\(Q5S (x1.length:Int) (400:Int))<=(x1.length:Int)) <|
 some (⟨(x1.take (Q5S (x1.length:Int) (400:Int)).toNat),0⟩:Tape)
def Z5r (F:Nat) (v9:Int):Option Int:=
 some v9
def Q9P (F:Nat) (x3:Int) (x4:Int):Option Int:=
 br (decide (x4<(1:Int))) (some (0:Int)) (gd (x4≠0) <|
 br (decide ((x3.tmod x4)<0)) (gd (I64 ((x3.tmod x4)+x4)) <|
 Z5r F ((x3.tmod x4)+x4)) (Z5r F (x3.tmod x4)))
def Z9 (F:Nat) (a:Tape) (b:Int):Option (Tape×Int):=
 br (decide ((a.l_.length:Int)<=a.at_)) (some (a,(0:Int))) (gd (I64 (a.at_+1)) <|
 gd (I64 ((a.at_+1)-1)) <|
 gd (0<=((a.at_+1)-1)/\((a.at_+1)-1)<(a.l_.length:Int)) <|
 (Q9P F (gl a.l_ ((a.at_+1)-1).toNat) b).bind fun c=>
 some ((⟨a.l_,(a.at_+1)⟩:Tape),c))
def W7 (F:Nat) (d:Tape) (a:Int) (b:Int):Option (Tape×Int):=
 gd (I64 (b-a)) <|
 gd (I64 ((b-a)+1)) <|
 (Z9 F d ((b-a)+1)).bind fun c=>
 gd (I64 (a+c.2)) <|
 some (c.1,(a+c.2))
def Z1w (F:Nat) (a:List Crop) (b:List Int) (c:Int):Option (Tape×(List Crop)):=
 some ((⟨b,c⟩:Tape),a)
def Q1a (F:Nat) (c:Tape×Int) (k:(Int×(List Int)×Int×(List Crop))->Option (Tape×(List Crop))) (a:Int) (i:List Int) (j:Int) (d:List Crop):Option (Tape×(List Crop)):=
 br (decide (a<((List.length (([(ByteArray.mk #[98,97,114,108,101,121]),(ByteArray.mk #[99,108,111,118,101,114]),(ByteArray.mk #[103,114,97,115,115]),(ByteArray.mk #[109,97,105,122,101]),(ByteArray.mk #[111,97,116,115]),(ByteArray.mk #[114,121,101]),(ByteArray.mk #[118,101,116,99,104]),(ByteArray.mk #[119,104,101,97,116])]:List ByteArray).take c.2.toNat):Nat):Int))) (gd (0<=a/\a<((List.length (([(ByteArray.mk #[98,97,114,108,101,121]),(ByteArray.mk #[99,108,111,118,101,114]),(ByteArray.mk #[103,114,97,115,115]),(ByteArray.mk #[109,97,105,122,101]),(ByteArray.mk #[111,97,116,115]),(ByteArray.mk #[114,121,101]),(ByteArray.mk #[118,101,116,99,104]),(ByteArray.mk #[119,104,101,97,116])]:List ByteArray).take c.2.toNat):Nat):Int)) <|
 (Z9 F (⟨i,j⟩:Tape) (3:Int)).bind fun e=>
 (Z9 F e.1 (8:Int)).bind fun b=>
 gd (0<=b.2/\b.2<((List.length ([(0:Int),(0:Int),(0:Int),(2:Int),(20:Int),(8:Int),(1:Int),(31:Int)]:List Int):Nat):Int)) <|
 gd ((List.length d)+(List.length ([(⟨(gl (([(ByteArray.mk #[98,97,114,108,101,121]),(ByteArray.mk #[99,108,111,118,101,114]),(ByteArray.mk #[103,114,97,115,115]),(ByteArray.mk #[109,97,105,122,101]),(ByteArray.mk #[111,97,116,115]),(ByteArray.mk #[114,121,101]),(ByteArray.mk #[118,101,116,99,104]),(ByteArray.mk #[119,104,101,97,116])]:List ByteArray).take c.2.toNat) a.toNat),e.2,(gl ([(0:Int),(0:Int),(0:Int),(2:Int),(20:Int),(8:Int),(1:Int),(31:Int)]:List Int) b.2.toNat)⟩:Crop)]:List Crop))<=LIM) <|
 gd (I64 (a+1)) <|
 k ((a+1),b.1.l_,b.1.at_,(d++([(⟨(gl (([(ByteArray.mk #[98,97,114,108,101,121]),(ByteArray.mk #[99,108,111,118,101,114]),(ByteArray.mk #[103,114,97,115,115]),(ByteArray.mk #[109,97,105,122,101]),(ByteArray.mk #[111,97,116,115]),(ByteArray.mk #[114,121,101]),(ByteArray.mk #[118,101,116,99,104]),(ByteArray.mk #[119,104,101,97,116])]:List ByteArray).take c.2.toNat) a.toNat),e.2,(gl ([(0:Int),(0:Int),(0:Int),(2:Int),(20:Int),(8:Int),(1:Int),(31:Int)]:List Int) b.2.toNat)⟩:Crop)]:List Crop)))) (Z1w F d i j)
def Q2u (F:Nat) (b:Tape):Option (Tape×(List Crop)):=
 (W7 F b (3:Int) (8:Int)).bind fun a=>
 gd (0<=a.2/\a.2<=((List.length ([(ByteArray.mk #[98,97,114,108,101,121]),(ByteArray.mk #[99,108,111,118,101,114]),(ByteArray.mk #[103,114,97,115,115]),(ByteArray.mk #[109,97,105,122,101]),(ByteArray.mk #[111,97,116,115]),(ByteArray.mk #[114,121,101]),(ByteArray.mk #[118,101,116,99,104]),(ByteArray.mk #[119,104,101,97,116])]:List ByteArray):Nat):Int)) <|
 Z6 (fun again (z:Int×(List Int)×Int×(List Crop))=>Q1a F a again z.1 z.2.1 z.2.2.1 z.2.2.2) F ((0:Int),a.1.l_,a.1.at_,([]:List Crop))
def Q1k (F:Nat) (i:Tape) (c:Int):Option (Tape×Rect):=
 (Z9 F i c).bind fun a=>
 (Z9 F a.1 c).bind fun b=>
 gd (I64 (a.2+(1:Int))) <|
 gd (I64 (c-a.2)) <|
 (Z9 F b.1 (c-a.2)).bind fun d=>
 gd (I64 ((a.2+(1:Int))+d.2)) <|
 gd (I64 (b.2+(1:Int))) <|
 gd (I64 (c-b.2)) <|
 (Z9 F d.1 (c-b.2)).bind fun e=>
 gd (I64 ((b.2+(1:Int))+e.2)) <|
 some (e.1,(⟨a.2,b.2,((a.2+(1:Int))+d.2),((b.2+(1:Int))+e.2)⟩:Rect))
def J1 (F:Nat) (a:Bool):Option Bool:=
 some a
def Q3O (F:Nat) (a:Rect):Option Bool:=
 br (decide ((0:Int)<=a.L_)) (br (decide (a.L_<a.R_)) (br (decide (a.R_<=16384)) (br (decide ((0:Int)<=a.w_)) (br (decide (a.w_<a.H_)) (J1 F (decide (a.H_<=16384))) (J1 F false)) (J1 F false)) (J1 F false)) (J1 F false)) (J1 F false)
def Q8i (F:Nat) (b:List Int) (c:Int) (a:Int) (d:Bool):Option ((List Int)):=
 br d (some b) (gd (0<=a/\a<=(b.length:Int)) <|
 gd ((0)+(List.length (b.take a.toNat))<=LIM) <|
 gd (((0)+(List.length (b.take a.toNat)))+(List.length ([c]:List Int))<=LIM) <|
 gd (0<=a/\a<=(b.length:Int)) <|
 gd ((((0)+(List.length (b.take a.toNat)))+(List.length ([c]:List Int)))+(List.length (b.drop a.toNat))<=LIM) <|
 some (((([]:List Int)++(b.take a.toNat))++([c]:List Int))++(b.drop a.toNat)))
def Z0O (F:Nat) (b:List Int) (c:Int) (a:Int):Option ((List Int)):=
 br (decide (a<(b.length:Int))) (gd (0<=a/\a<(b.length:Int)) <|
 Q8i F b c a ((gl b a.toNat)==c)) (Q8i F b c a false)
def Q8j (F:Nat) (d:List Int) (e:Int) (a:Int) (b:(Int)->Option ((List Int))) (c:Bool):Option ((List Int)):=
 br c (gd (I64 (a+1)) <|
 b (a+1)) (Z0O F d e a)
def Z7W (F:Nat) (b:List Int) (c:Int) (d:(Int)->Option ((List Int))) (a:Int):Option ((List Int)):=
 br (decide (a<(b.length:Int))) (gd (0<=a/\a<(b.length:Int)) <|
 Q8j F b c a d (decide ((gl b a.toNat)<c))) (Q8j F b c a d false)
def Q7m (F:Nat) (a:List Int) (b:Int):Option ((List Int)):=
 Z6 (fun again (z:Int)=>Z7W F a b again z) F (0:Int)
def Q0p (F:Nat) (a:Int) (b:(Int)->Option Bool) (c:Bool):Option Bool:=
 br c (some true) (gd (I64 (a+1)) <|
 b (a+1))
def Z4a (F:Nat):Option Bool:=
 some false
def Z0n (F:Nat) (b:List Rect) (d:Int) (e:Int) (c:(Int)->Option Bool) (a:Int):Option Bool:=
 br (decide (a<(b.length:Int))) (gd (0<=a/\a<(b.length:Int)) <|
 br (decide (((gl b a.toNat).L_)<=d)) (br (decide (d<((gl b a.toNat).R_))) (br (decide (((gl b a.toNat).w_)<=e)) (Q0p F a c (decide (e<((gl b a.toNat).H_)))) (Q0p F a c false)) (Q0p F a c false)) (Q0p F a c false)) (Z4a F)
def Q5F (F:Nat) (a:List Rect) (b:Int) (c:Int):Option Bool:=
 Z6 (fun again (z:Int)=>Z0n F a b c again z) F (0:Int)
def Z2e (F:Nat) (a:Bool):Option Bool:=
 some a
def Z2d (F:Nat) (a:Bool):Option Bool:=
 some a
def Z2c (F:Nat) (a:Bool):Option Bool:=
 some a
def Z1l (F:Nat) (a:Bool) (b:Bool) (c:Int):Option Bool:=
 br (c==1) (br a (Z2e F true) (Z2e F b)) (br (c==2) (br a (Z2d F b) (Z2d F false)) (br a (Z2c F (!b)) (Z2c F false)))
def Q6s (F:Nat) (a:Int) (b:(Int)->Option Bool) (c:Bool):Option Bool:=
 br c (some false) (gd (I64 (a+1)) <|
 b (a+1))
def Z6A (F:Nat):Option Bool:=
 some true
def Z6B (F:Nat) (b:List Rect) (c:List Rect) (d:(Int)->Option Bool) (a:Int):Option Bool:=
 br (decide (a<(b.length:Int))) (gd (0<=a/\a<(b.length:Int)) <|
 gd (0<=a/\a<(c.length:Int)) <|
 br (((gl b a.toNat).L_) != ((gl c a.toNat).L_)) (Q6s F a d true) (gd (0<=a/\a<(b.length:Int)) <|
 gd (0<=a/\a<(c.length:Int)) <|
 Q6s F a d (((gl b a.toNat).R_) != ((gl c a.toNat).R_)))) (Z6A F)
def Z1k (F:Nat) (a:List Rect) (b:List Rect):Option Bool:=
 br ((a.length:Int) != (b.length:Int)) (some false) (Z6 (fun again (z:Int)=>Z6B F a b again z) F (0:Int))
def Q8R (F:Nat) (a:Int) (b:((List Int)×(List Int)×Int)->Option ((List Rect))) (c:List Int) (d:List Int):Option ((List Rect)):=
 gd (I64 (a+1)) <|
 b (c,d,(a+1))
def Q8T (F:Nat) (c:List Rect) (d:List Rect) (b:Int) (j:((List Int)×(List Int)×Int)->Option ((List Rect))) (k:((List Int)×(List Int)×Int)->Option ((List Rect))) (e:List Int) (i:List Int) (a:Int):Option ((List Rect)):=
 br (decide (a<((List.length (gl ([c,d]:List (List Rect)) b.toNat):Nat):Int))) (gd (0<=a/\a<((List.length (gl ([c,d]:List (List Rect)) b.toNat):Nat):Int)) <|
 (Q7m F e ((gl (gl ([c,d]:List (List Rect)) b.toNat) a.toNat).L_)).bind fun l=>
 (Q7m F l ((gl (gl ([c,d]:List (List Rect)) b.toNat) a.toNat).R_)).bind fun m=>
 (Q7m F i ((gl (gl ([c,d]:List (List Rect)) b.toNat) a.toNat).w_)).bind fun n=>
 (Q7m F n ((gl (gl ([c,d]:List (List Rect)) b.toNat) a.toNat).H_)).bind fun o=>
 gd (I64 (a+1)) <|
 k (m,o,(a+1))) (Q8R F b j e i)
def Q3k (F:Nat) (a:Int) (b:(Int×(List Rect))->Option ((List Rect))) (c:List Rect):Option ((List Rect)):=
 gd (I64 (a+1)) <|
 b ((a+1),c)
def Q0v (F:Nat) (d:List Int) (e:List Int) (c:Int) (a:Int) (b:List Rect) (i:(Int×(List Rect))->Option ((List Rect))) (j:Bool):Option ((List Rect)):=
 br j (gd (I64 ((b.length:Int)-(1:Int))) <|
 gd (I64 (a+1)) <|
 gd (0<=(a+1)/\(a+1)<(d.length:Int)) <|
 gd (0<=((b.length:Int)-(1:Int))/\((b.length:Int)-(1:Int))<(b.length:Int)) <|
 Q3k F a i (List.set b ((b.length:Int)-(1:Int)).toNat (⟨(gl b ((b.length:Int)-(1:Int)).toNat).L_,(gl b ((b.length:Int)-(1:Int)).toNat).w_,(gl d (a+1).toNat),(gl b ((b.length:Int)-(1:Int)).toNat).H_⟩:Rect))) (gd (0<=a/\a<(d.length:Int)) <|
 gd (0<=c/\c<(e.length:Int)) <|
 gd (I64 (a+1)) <|
 gd (0<=(a+1)/\(a+1)<(d.length:Int)) <|
 gd (I64 (c+1)) <|
 gd (0<=(c+1)/\(c+1)<(e.length:Int)) <|
 gd ((List.length b)+(List.length ([(⟨(gl d a.toNat),(gl e c.toNat),(gl d (a+1).toNat),(gl e (c+1).toNat)⟩:Rect)]:List Rect))<=LIM) <|
 Q3k F a i (b++([(⟨(gl d a.toNat),(gl e c.toNat),(gl d (a+1).toNat),(gl e (c+1).toNat)⟩:Rect)]:List Rect)))
def Q2G (F:Nat) (a:Int) (b:(Int×(List Rect)×(List Rect))->Option ((List Rect))) (c:List Rect) (d:List Rect):Option ((List Rect)):=
 gd (I64 (a+1)) <|
 b ((a+1),c,d)
def Q8f (F:Nat) (b:Int) (c:List Rect) (a:(Int×(List Rect)×(List Rect))->Option ((List Rect))) (d:List Rect):Option ((List Rect)):=
 Q2G F b a c d
def Q8g (F:Nat) (d:List Int) (c:Int) (j:List Rect) (k:List Rect) (i:(Int×(List Rect)×(List Rect))->Option ((List Rect))) (e:(Int×(List Rect))->Option ((List Rect))) (a:Int) (b:List Rect):Option ((List Rect)):=
 br (decide (a<(k.length:Int))) (gd (I64 (c+1)) <|
 gd (0<=(c+1)/\(c+1)<(d.length:Int)) <|
 gd (0<=a/\a<(b.length:Int)) <|
 gd (I64 (a+1)) <|
 e ((a+1),(List.set b a.toNat (⟨(gl b a.toNat).L_,(gl b a.toNat).w_,(gl b a.toNat).R_,(gl d (c+1).toNat)⟩:Rect)))) (Q8f F c j i b)
def Q4Q (F:Nat) (d:Int) (a:List Rect) (b:List Rect) (e:List Rect) (c:(Int×(List Rect)×(List Rect))->Option ((List Rect))):Option ((List Rect)):=
 gd ((List.length a)+(List.length b)<=LIM) <|
 Q2G F d c (a++b) e
def Q0V (F:Nat) (e:List Int) (c:Int) (d:List Rect) (a:List Rect) (i:List Rect) (b:(Int×(List Rect)×(List Rect))->Option ((List Rect))) (j:Bool):Option ((List Rect)):=
 br j (Z6 (fun again (z:Int×(List Rect))=>Q8g F e c d a b again z.1 z.2) F ((0:Int),a)) (Q4Q F c d a i b)
def Q3j (F:Nat) (c:List Int) (b:Int) (i:List Rect) (a:List Rect) (e:(Int×(List Rect)×(List Rect))->Option ((List Rect))) (d:List Rect):Option ((List Rect)):=
 br (decide ((0:Int)<(a.length:Int))) ((Z1k F a d).bind fun j=>
 br j (gd (0<=(0:Int)/\(0:Int)<(a.length:Int)) <|
 gd (0<=b/\b<(c.length:Int)) <|
 Q0V F c b i a d e (((gl a (0:Int).toNat).H_)==(gl c b.toNat))) (Q0V F c b i a d e false)) (Q0V F c b i a d e false)
def Q8S (F:Nat) (m:List Rect) (n:List Rect) (o:Int) (c:List Int) (e:List Int) (d:Int) (k:List Rect) (l:List Rect) (j:(Int×(List Rect)×(List Rect))->Option ((List Rect))) (i:(Int×(List Rect))->Option ((List Rect))) (a:Int) (b:List Rect):Option ((List Rect)):=
 gd (I64 (a+1)) <|
 br (decide ((a+1)<(c.length:Int))) (gd (0<=a/\a<(c.length:Int)) <|
 gd (0<=d/\d<(e.length:Int)) <|
 (Q5F F m (gl c a.toNat) (gl e d.toNat)).bind fun p=>
 gd (0<=a/\a<(c.length:Int)) <|
 gd (0<=d/\d<(e.length:Int)) <|
 (Q5F F n (gl c a.toNat) (gl e d.toNat)).bind fun q=>
 (Z1l F p q o).bind fun s=>
 br (!s) (Q3k F a i b) (br (decide ((0:Int)<(b.length:Int))) (gd (I64 ((b.length:Int)-(1:Int))) <|
 gd (0<=((b.length:Int)-(1:Int))/\((b.length:Int)-(1:Int))<(b.length:Int)) <|
 gd (0<=a/\a<(c.length:Int)) <|
 Q0v F c e d a b i (((gl b ((b.length:Int)-(1:Int)).toNat).R_)==(gl c a.toNat))) (Q0v F c e d a b i false))) (Q3j F e d k l j b)
def Q4P (F:Nat) (a:List Rect) (b:List Rect):Option ((List Rect)):=
 gd ((List.length a)+(List.length b)<=LIM) <|
 some (a++b)
def Z2K (F:Nat) (j:List Rect) (k:List Rect) (l:Int) (i:List Int) (b:List Int) (e:(Int×(List Rect)×(List Rect))->Option ((List Rect))) (a:Int) (c:List Rect) (d:List Rect):Option ((List Rect)):=
 gd (I64 (a+1)) <|
 br (decide ((a+1)<(b.length:Int))) (Z6 (fun again (z:Int×(List Rect))=>Q8S F j k l i b a c d e again z.1 z.2) F ((0:Int),([]:List Rect))) (Q4P F c d)
def Q5H (F:Nat) (c:List Rect) (d:List Rect) (e:Int) (a:List Int) (b:List Int):Option ((List Rect)):=
 Z6 (fun again (z:Int×(List Rect)×(List Rect))=>Z2K F c d e a b again z.1 z.2.1 z.2.2) F ((0:Int),([]:List Rect),([]:List Rect))
def Q3l (F:Nat) (b:List Rect) (c:List Rect) (j:Int) (i:((List Int)×(List Int)×Int)->Option ((List Rect))) (d:List Int) (e:List Int) (a:Int):Option ((List Rect)):=
 br (decide (a<((List.length ([b,c]:List (List Rect)):Nat):Int))) (gd (0<=a/\a<((List.length ([b,c]:List (List Rect)):Nat):Int)) <|
 Z6 (fun again (z:(List Int)×(List Int)×Int)=>Q8T F b c a i again z.1 z.2.1 z.2.2) F (d,e,(0:Int))) (Q5H F b c j d e)
def U3 (F:Nat) (a:List Rect) (b:List Rect) (c:Int):Option ((List Rect)):=
 Z6 (fun again (z:(List Int)×(List Int)×Int)=>Q3l F a b c again z.1 z.2.1 z.2.2) F (([]:List Int),([]:List Int),(0:Int))
def Q7l (F:Nat) (a:List Rect):Option (Re_×Int):=
 br (decide ((120:Int)<(a.length:Int))) (some ((⟨[]⟩:Re_),(1:Int))) (some ((⟨a⟩:Re_),(0:Int)))
def Z5d (F:Nat) (b:List Rect):Option (Re_×Int):=
 (U3 F b ([]) (1:Int)).bind fun c=>
 (Q7l F c).bind fun a=>
 some (a.1,a.2)
def Z9B (F:Nat) (b:List Rect) (c:(Int)->Option (Re_×Int)) (a:Int):Option (Re_×Int):=
 br (decide (a<(b.length:Int))) (gd (0<=a/\a<(b.length:Int)) <|
 (Q3O F (gl b a.toNat)).bind fun d=>
 br (!d) (some ((⟨[]⟩:Re_),(2:Int))) (gd (I64 (a+1)) <|
 c (a+1))) (Z5d F b)
def Z5e (F:Nat) (a:List Rect):Option (Re_×Int):=
 br (decide ((120:Int)<(a.length:Int))) (some ((⟨[]⟩:Re_),(1:Int))) (Z6 (fun again (z:Int)=>Z9B F a again z) F (0:Int))
def Q6b (F:Nat) (a:List Rect) (b:List Int) (c:Int):Option (Tape×Re_):=
 (Z5e F a).bind fun d=>
 some ((⟨b,c⟩:Tape),d.1)
def Q0M (F:Nat) (j:Int) (i:(Int×(List Int)×Int×(List Rect))->Option (Tape×Re_)) (b:Int) (d:List Int) (e:Int) (c:List Rect):Option (Tape×Re_):=
 br (decide ((0:Int)<b)) ((Q1k F (⟨d,e⟩:Tape) j).bind fun a=>
 gd ((List.length c)+(List.length ([a.2]:List Rect))<=LIM) <|
 gd (I64 (b-1)) <|
 i ((b-1),a.1.l_,a.1.at_,(c++([a.2]:List Rect)))) (Q6b F c d e)
def Q0W (F:Nat) (c:Tape) (d:Int) (b:Int):Option (Tape×Re_):=
 gd (I64 (b+1)) <|
 (Z9 F c (b+1)).bind fun a=>
 Z6 (fun again (z:Int×(List Int)×Int×(List Rect))=>Q0M F d again z.1 z.2.1 z.2.2.1 z.2.2.2) F (a.2,a.1.l_,a.1.at_,([]:List Rect))
def Q8n (F:Nat) (a:List Rect) (b:List Int) (c:Int):Option (Tape×Re_):=
 some ((⟨b,c⟩:Tape),(⟨a⟩:Re_))
def Q1l (F:Nat) (d:Tape) (c:Int) (e:Int):Option (Tape×Re_):=
 (Q0W F d c e).bind fun a=>
 br ((a.2.t_.length:Int)==(0:Int)) ((Q1k F a.1 c).bind fun b=>
 Q8n F ([b.2]:List Rect) b.1.l_ b.1.at_) (Q8n F a.2.t_ a.1.l_ a.1.at_)
def Z2f (F:Nat) (a:List Rect):Option (Re_×Int):=
 br (decide ((120:Int)<(a.length:Int))) (some ((⟨([]:List Rect)⟩:Re_),(1:Int))) (some ((⟨a⟩:Re_),(0:Int)))
def Z6E (F:Nat) (b:List Rect):Option (Re_×Int):=
 (U3 F b ([]) (1:Int)).bind fun c=>
 (Z2f F c).bind fun a=>
 some ((⟨a.1.t_⟩:Re_),a.2)
def Y2a (F:Nat) (b:List Rect) (c:(Int)->Option (Re_×Int)) (a:Int):Option (Re_×Int):=
 br (decide (a<(b.length:Int))) (gd (0<=a/\a<(b.length:Int)) <|
 (Q3O F (gl b a.toNat)).bind fun d=>
 br (!d) (some ((⟨([]:List Rect)⟩:Re_),(2:Int))) (gd (I64 (a+1)) <|
 c (a+1))) (Z6E F b)
def Z7a (F:Nat) (a:List Rect):Option (Re_×Int):=
 br (decide ((120:Int)<(a.length:Int))) (some ((⟨([]:List Rect)⟩:Re_),(1:Int))) (Z6 (fun again (z:Int)=>Y2a F a again z) F (0:Int))
def Q8F (F:Nat) (a:List Rect) (b:List Int) (c:Int):Option (Tape×Re_):=
 (Z7a F a).bind fun d=>
 some ((⟨b,c⟩:Tape),(⟨d.1.t_⟩:Re_))
def Z4l (F:Nat) (j:Int) (i:(Int×(List Int)×Int×(List Rect))->Option (Tape×Re_)) (b:Int) (d:List Int) (e:Int) (c:List Rect):Option (Tape×Re_):=
 br (decide ((0:Int)<b)) ((Q1k F (⟨d,e⟩:Tape) j).bind fun a=>
 gd ((List.length c)+(List.length ([a.2]:List Rect))<=LIM) <|
 gd (I64 (b-1)) <|
 i ((b-1),a.1.l_,a.1.at_,(c++([a.2]:List Rect)))) (Q8F F c d e)
def Q6W (F:Nat) (c:Tape) (d:Int) (b:Int):Option (Tape×Re_):=
 gd (I64 (b+1)) <|
 (Z9 F c (b+1)).bind fun a=>
 Z6 (fun again (z:Int×(List Int)×Int×(List Rect))=>Z4l F d again z.1 z.2.1 z.2.2.1 z.2.2.2) F (a.2,a.1.l_,a.1.at_,([]:List Rect))
def Q6c (F:Nat) (a:List Int) (b:Int) (c:List Rect):Option (Tape×Re_):=
 some ((⟨a,b⟩:Tape),(⟨c⟩:Re_))
def Q5M (F:Nat) (d:Tape) (c:Int) (e:Int):Option (Tape×Re_):=
 (Q6W F d c e).bind fun a=>
 br ((a.2.t_.length:Int)==(0:Int)) ((Q1k F a.1 c).bind fun b=>
 Q6c F b.1.l_ b.1.at_ ([b.2]:List Rect)) (Q6c F a.1.l_ a.1.at_ a.2.t_)
def Q2c (F:Nat) (a:Int) (b:(Int×(List Int)×Int×(List Line))->Option (Tape×(List Line)×(List Int)×(List Re_))) (c:List Int) (d:Int) (e:List Line):Option (Tape×(List Line)×(List Int)×(List Re_)):=
 gd (I64 (a-1)) <|
 b ((a-1),c,d,e)
def Q2d (F:Nat) (l:List Crop) (k:Int) (b:List Line) (d:Tape×Int) (e:Tape×Re_) (j:(Int×(List Int)×Int×(List Line))->Option (Tape×(List Line)×(List Int)×(List Re_))) (c:List Rect):Option (Tape×(List Line)×(List Int)×(List Re_)):=
 br (decide ((0:Int)<(c.length:Int))) (gd (I64 (d.2+(1:Int))) <|
 (Z9 F e.1 (l.length:Int)).bind fun i=>
 (Z9 F i.1 (15:Int)).bind fun a=>
 gd (I64 ((1:Int)+a.2)) <|
 gd ((List.length b)+(List.length ([(⟨(d.2+(1:Int)),(⟨c⟩:Re_),i.2,((1:Int)+a.2)⟩:Line)]:List Line))<=LIM) <|
 Q2c F k j a.1.l_ a.1.at_ (b++([(⟨(d.2+(1:Int)),(⟨c⟩:Re_),i.2,((1:Int)+a.2)⟩:Line)]:List Line))) (Q2c F k j e.1.l_ e.1.at_ b)
def Z1t (F:Nat) (j:List Crop) (i:Int) (b:List Line) (k:Tape×Int) (l:Tape×Re_) (d:(Int×(List Int)×Int×(List Line))->Option (Tape×(List Line)×(List Int)×(List Re_))) (e:((List Rect)×Int)->Option (Tape×(List Line)×(List Int)×(List Re_))) (c:List Rect) (a:Int):Option (Tape×(List Line)×(List Int)×(List Re_)):=
 br (decide (a<(b.length:Int))) (gd (0<=a/\a<(b.length:Int)) <|
 (U3 F c ((gl b a.toNat).g_.t_) (3:Int)).bind fun m=>
 gd (I64 (a+1)) <|
 e (m,(a+1))) (Q2d F j i b k l d c)
def Q3S (F:Nat) (j:List Crop) (b:List Re_) (d:Int) (e:List Line) (a:Tape×Int) (k:Tape×Re_) (c:(Int×(List Int)×Int×(List Line))->Option (Tape×(List Line)×(List Int)×(List Re_))) (i:List Rect):Option (Tape×(List Line)×(List Int)×(List Re_)):=
 gd (0<=a.2/\a.2<(b.length:Int)) <|
 (U3 F i ((gl b a.2.toNat).t_) (2:Int)).bind fun l=>
 Z6 (fun again (z:(List Rect)×Int)=>Z1t F j d e a k c again z.1 z.2) F (l,(0:Int))
def Z1u (F:Nat) (m:List Crop) (j:List Re_) (k:Int) (l:List Line) (c:Tape×Int) (d:Tape×Re_) (e:(Int×(List Int)×Int×(List Line))->Option (Tape×(List Line)×(List Int)×(List Re_))) (i:(Int×(List Rect))->Option (Tape×(List Line)×(List Int)×(List Re_))) (a:Int) (b:List Rect):Option (Tape×(List Line)×(List Int)×(List Re_)):=
 br (decide (a<(d.2.t_.length:Int))) (gd (0<=a/\a<(b.length:Int)) <|
 gd (I64 ((10:Int)*c.2)) <|
 gd (I64 (((gl b a.toNat).L_)+((10:Int)*c.2))) <|
 gd (0<=a/\a<(b.length:Int)) <|
 gd (I64 ((10:Int)*c.2)) <|
 gd (I64 (((gl b a.toNat).R_)+((10:Int)*c.2))) <|
 gd (0<=a/\a<(b.length:Int)) <|
 gd (0<=a/\a<((List.length (List.set b a.toNat (⟨(((gl b a.toNat).L_)+((10:Int)*c.2)),(gl b a.toNat).w_,(gl b a.toNat).R_,(gl b a.toNat).H_⟩:Rect)):Nat):Int)) <|
 gd (I64 (a+1)) <|
 i ((a+1),(List.set (List.set b a.toNat (⟨(((gl b a.toNat).L_)+((10:Int)*c.2)),(gl b a.toNat).w_,(gl b a.toNat).R_,(gl b a.toNat).H_⟩:Rect)) a.toNat (⟨(gl (List.set b a.toNat (⟨(((gl b a.toNat).L_)+((10:Int)*c.2)),(gl b a.toNat).w_,(gl b a.toNat).R_,(gl b a.toNat).H_⟩:Rect)) a.toNat).L_,(gl (List.set b a.toNat (⟨(((gl b a.toNat).L_)+((10:Int)*c.2)),(gl b a.toNat).w_,(gl b a.toNat).R_,(gl b a.toNat).H_⟩:Rect)) a.toNat).w_,(((gl b a.toNat).R_)+((10:Int)*c.2)),(gl (List.set b a.toNat (⟨(((gl b a.toNat).L_)+((10:Int)*c.2)),(gl b a.toNat).w_,(gl b a.toNat).R_,(gl b a.toNat).H_⟩:Rect)) a.toNat).H_⟩:Rect)))) (Q3S F m j k l c d e b)
def Z1s (F:Nat) (a:List Int) (b:List Re_) (c:List Line) (d:List Int) (e:Int):Option (Tape×(List Line)×(List Int)×(List Re_)):=
 some ((⟨d,e⟩:Tape),c,a,b)
def Q0X (F:Nat) (m:List Crop) (a:List Int) (b:List Re_) (l:(Int×(List Int)×Int×(List Line))->Option (Tape×(List Line)×(List Int)×(List Re_))) (c:Int) (d:List Int) (e:Int) (i:List Line):Option (Tape×(List Line)×(List Int)×(List Re_)):=
 br (decide ((0:Int)<c)) ((Z9 F (⟨d,e⟩:Tape) (a.length:Int)).bind fun j=>
 (Q5M F j.1 (9:Int) (2:Int)).bind fun k=>
 Z6 (fun again (z:Int×(List Rect))=>Z1u F m b c i j k l again z.1 z.2) F ((0:Int),k.2.t_)) (Z1s F a b i d e)
def Q3T (F:Nat) (j:List Crop) (b:Int) (c:List Int) (d:Int) (e:List Int) (i:List Re_):Option (Tape×(List Line)×(List Int)×(List Re_)):=
 gd (I64 (b+1)) <|
 (Z9 F (⟨c,d⟩:Tape) (b+1)).bind fun a=>
 Z6 (fun again (z:Int×(List Int)×Int×(List Line))=>Q0X F j e i again z.1 z.2.1 z.2.2.1 z.2.2.2) F (a.2,a.1.l_,a.1.at_,([]:List Line))
def Q0Y (F:Nat) (l:List Crop) (m:Int) (k:(Int×(List Int)×Int×(List Int)×(List Re_))->Option (Tape×(List Line)×(List Int)×(List Re_))) (d:Int) (i:List Int) (j:Int) (a:List Int) (e:List Re_):Option (Tape×(List Line)×(List Int)×(List Re_)):=
 br (decide ((0:Int)<d)) (gd (I64 ((a.length:Int)+(1:Int))) <|
 gd ((List.length a)+(List.length ([((a.length:Int)+(1:Int))]:List Int))<=LIM) <|
 gd (I64 ((10:Int)*(a.length:Int))) <|
 gd (I64 ((10:Int)*(a.length:Int))) <|
 (W7 F (⟨i,j⟩:Tape) (2:Int) (9:Int)).bind fun b=>
 gd (I64 (((10:Int)*(a.length:Int))+b.2)) <|
 (W7 F b.1 (2:Int) (9:Int)).bind fun c=>
 gd ((List.length e)+(List.length ([(⟨([(⟨((10:Int)*(a.length:Int)),0,(((10:Int)*(a.length:Int))+b.2),c.2⟩:Rect)]:List Rect)⟩:Re_)]:List Re_))<=LIM) <|
 gd (I64 (d-1)) <|
 k ((d-1),c.1.l_,c.1.at_,(a++([((a.length:Int)+(1:Int))]:List Int)),(e++([(⟨([(⟨((10:Int)*(a.length:Int)),0,(((10:Int)*(a.length:Int))+b.2),c.2⟩:Rect)]:List Rect)⟩:Re_)]:List Re_)))) (Q3T F l m i j a e)
def Q2t (F:Nat) (b:Tape) (c:List Crop) (d:Int):Option (Tape×(List Line)×(List Int)×(List Re_)):=
 (W7 F b (1:Int) (3:Int)).bind fun a=>
 Z6 (fun again (z:Int×(List Int)×Int×(List Int)×(List Re_))=>Q0Y F c d again z.1 z.2.1 z.2.2.1 z.2.2.2.1 z.2.2.2.2) F (a.2,a.1.l_,a.1.at_,([]:List Int),([]:List Re_))
def Z0s (F:Nat) (a:List Re_):Option ((List Re_)):=
 some a
def Q6J (F:Nat) (b:List Line) (c:List Re_) (i:(Int×(List Re_))->Option ((List Re_))) (a:Int) (e:List Re_):Option ((List Re_)):=
 br (decide (a<(b.length:Int))) (gd (0<=a/\a<(b.length:Int)) <|
 gd (I64 (((gl b a.toNat).p_)-1)) <|
 (Q9P F (((gl b a.toNat).p_)-1) (c.length:Int)).bind fun d=>
 gd (0<=d/\d<(c.length:Int)) <|
 gd ((List.length e)+(List.length ([(gl c d.toNat)]:List Re_))<=LIM) <|
 gd (I64 (a+1)) <|
 i ((a+1),(e++([(gl c d.toNat)]:List Re_)))) (Z0s F e)
def Q5N (F:Nat) (a:List Line) (b:List Re_):Option ((List Re_)):=
 Z6 (fun again (z:Int×(List Re_))=>Q6J F a b again z.1 z.2) F ((0:Int),([]:List Re_))
def Q4h (F:Nat) (rc:Int->Option ByteArray) (a:Int):Option ByteArray:=
 br (decide (a<0)) (gd ((10:Int)≠0) <|
 gd (I64 (0-(a.tmod (10:Int)))) <|
 br (decide ((-10:Int)<a)) (gd (I64 ((48:Int)+(0-(a.tmod (10:Int))))) <|
 gd (ByteArray.size (ByteArray.mk #[45])+ByteArray.size (bOf (IntKind.wrap .u8 ((48:Int)+(0-(a.tmod (10:Int))))))<=LIM) <|
 some ((ByteArray.mk #[45])++(bOf (IntKind.wrap .u8 ((48:Int)+(0-(a.tmod (10:Int)))))))) (gd (I64 (a.tdiv (10:Int))/\(10:Int)≠0) <|
 (rc (a.tdiv (10:Int))).bind fun b=>
 gd (I64 ((48:Int)+(0-(a.tmod (10:Int))))) <|
 gd (ByteArray.size b+ByteArray.size (bOf (IntKind.wrap .u8 ((48:Int)+(0-(a.tmod (10:Int))))))<=LIM) <|
 some (b++(bOf (IntKind.wrap .u8 ((48:Int)+(0-(a.tmod (10:Int))))))))) (br (decide (a<10)) (gd (I64 ((48:Int)+a)) <|
 some (bOf (IntKind.wrap .u8 ((48:Int)+a)))) (gd (I64 (a.tdiv (10:Int))/\(10:Int)≠0) <|
 (rc (a.tdiv (10:Int))).bind fun c=>
 gd ((10:Int)≠0) <|
 gd (I64 ((48:Int)+(a.tmod (10:Int)))) <|
 gd (ByteArray.size c+ByteArray.size (bOf (IntKind.wrap .u8 ((48:Int)+(a.tmod (10:Int)))))<=LIM) <|
 some (c++(bOf (IntKind.wrap .u8 ((48:Int)+(a.tmod (10:Int))))))))
def Q4x:Nat->Int->Option ByteArray
 | 0=>fun _=>none
 | F+1=>Q4h F (Q4x F)
def Q1N (F:Nat) (c:Tape) (a:Int):Option (Tape×Bool):=
 (Z9 F c a).bind fun b=>
 gd (I64 (a-1)) <|
 some (b.1,(b.2==(a-1)))
def J3 (F:Nat) (rc:Tape->Int->Option (Tape×Term)) (e:Tape×Int) (a:Int) (b:Int) (c:List Int) (d:Int):Option (Tape×Term):=
 some ((⟨c,d⟩:Tape),(⟨e.2,a,b,[]⟩:Term))
def Q0G (F:Nat) (rc:Tape->Int->Option (Tape×Term)) (a:Tape×Int) (l:Bool):Option (Tape×Term):=
 br l ((Z9 F a.1 (4:Int)).bind fun d=>
 J3 F rc a d.2 0 d.1.l_ d.1.at_) (br (a.2==(4:Int)) ((Z9 F a.1 (5:Int)).bind fun b=>
 gd (I64 ((1:Int)*2 ^ (min (b.2).toNat (IntKind.bits .i64)))/\0<=b.2) <|
 J3 F rc a ((1:Int)*2 ^ (min (b.2).toNat (IntKind.bits .i64))) 0 b.1.l_ b.1.at_) (br (a.2==(5:Int)) ((Z9 F a.1 (16:Int)).bind fun e=>
 J3 F rc a e.2 0 e.1.l_ e.1.at_) (br (a.2==(6:Int)) ((W7 F a.1 (2:Int) (3:Int)).bind fun i=>
 J3 F rc a i.2 0 i.1.l_ i.1.at_) (br (a.2==(7:Int)) ((W7 F a.1 (1:Int) (2:Int)).bind fun k=>
 (Z9 F k.1 (5:Int)).bind fun c=>
 gd (I64 ((1:Int)*2 ^ (min (c.2).toNat (IntKind.bits .i64)))/\0<=c.2) <|
 J3 F rc a k.2 ((1:Int)*2 ^ (min (c.2).toNat (IntKind.bits .i64))) c.1.l_ c.1.at_) (br (a.2==(8:Int)) ((W7 F a.1 (1:Int) (3:Int)).bind fun j=>
 J3 F rc a j.2 0 j.1.l_ j.1.at_) (J3 F rc a 0 0 a.1.l_ a.1.at_))))))
def Q0H (F:Nat) (rc:Tape->Int->Option (Tape×Term)) (a:Int) (n:Bool) (l:List Int) (m:Int):Option (Tape×Term):=
 br n ((Z9 F (⟨l,m⟩:Tape) (3:Int)).bind fun b=>
 br (b.2==(0:Int)) (gd (I64 (a-1)) <|
 (rc b.1 (a-1)).bind fun d=>
 gd (I64 d.2.op_) <|
 some (d.1,(⟨(11:Int),0,0,([d.2]:List Term)⟩:Term))) (br (b.2==(1:Int)) (gd (I64 (a-1)) <|
 (rc b.1 (a-1)).bind fun e=>
 gd (I64 (a-1)) <|
 (rc e.1 (a-1)).bind fun i=>
 gd (I64 e.2.op_) <|
 gd (I64 i.2.op_) <|
 some (i.1,(⟨(9:Int),0,0,([e.2,i.2]:List Term)⟩:Term))) (gd (I64 (a-1)) <|
 (rc b.1 (a-1)).bind fun j=>
 gd (I64 (a-1)) <|
 (rc j.1 (a-1)).bind fun k=>
 gd (I64 j.2.op_) <|
 gd (I64 k.2.op_) <|
 some (k.1,(⟨(10:Int),0,0,([j.2,k.2]:List Term)⟩:Term))))) ((W7 F (⟨l,m⟩:Tape) (1:Int) (8:Int)).bind fun c=>
 br (c.2==(2:Int)) (Q0G F rc c (c.2==(2:Int))) (Q0G F rc c (c.2==(3:Int))))
def Q3o (F:Nat) (rc:Tape->Int->Option (Tape×Term)) (a:Tape) (b:Int):Option (Tape×Term):=
 br (decide ((0:Int)<b)) ((Q1N F a (2:Int)).bind fun c=>
 Q0H F rc b c.2 c.1.l_ c.1.at_) (Q0H F rc b false a.l_ a.at_)
def K2:Nat->Tape->Int->Option (Tape×Term)
 | 0=>fun _ _=>none
 | F+1=>Q3o F (K2 F)
def z6 (F:Nat) (a:Int) (b:(Int)->Option Bool) (c:Bool):Option Bool:=
 br c (some false) (gd (I64 (a+1)) <|
 b (a+1))
def Z6G (F:Nat):Option Bool:=
 some true
def Q9p (F:Nat) (b:ByteArray) (c:(Int)->Option Bool) (a:Int):Option Bool:=
 br (decide (a<((b.size:Nat):Int))) (gd (0<=a/\a<((b.size:Nat):Int)) <|
 br (decide ((sAt b a)<97)) (gd (0<=a/\a<((b.size:Nat):Int)) <|
 br (decide ((sAt b a)<48)) (z6 F a c true) (gd (0<=a/\a<((b.size:Nat):Int)) <|
 z6 F a c (decide ((57:Int)<(sAt b a))))) (gd (0<=a/\a<((b.size:Nat):Int)) <|
 br (decide ((122:Int)<(sAt b a))) (gd (0<=a/\a<((b.size:Nat):Int)) <|
 br (decide ((sAt b a)<48)) (z6 F a c true) (gd (0<=a/\a<((b.size:Nat):Int)) <|
 z6 F a c (decide ((57:Int)<(sAt b a))))) (z6 F a c false))) (Z6G F)
def Q1L (F:Nat) (b:ByteArray) (a:Bool):Option Bool:=
 br a (some false) (Z6 (fun again (z:Int)=>Q9p F b again z) F (0:Int))
def Z1o (F:Nat) (a:ByteArray):Option Bool:=
 br (decide (((a.size:Nat):Int)<(1:Int))) (Q1L F a true) (br (decide ((12:Int)<((a.size:Nat):Int))) (Q1L F a true) (gd (0<=(0:Int)/\(0:Int)<((a.size:Nat):Int)) <|
 br (decide ((sAt a (0:Int))<97)) (Q1L F a true) (gd (0<=(0:Int)/\(0:Int)<((a.size:Nat):Int)) <|
 Q1L F a (decide ((122:Int)<(sAt a (0:Int)))))))
def Q5i (F:Nat) (rc:Term->Option Int) (a:Int) (b:(Int×Int)->Option Int) (c:Int):Option Int:=
 gd (I64 (a+1)) <|
 b (c,(a+1))
def Z4R (F:Nat) (rc:Term->Option Int) (a:Int):Option Int:=
 some a
def Q7V (F:Nat) (rc:Term->Option Int) (c:Term) (d:(Int×Int)->Option Int) (b:Int) (a:Int):Option Int:=
 br (decide (a<(c.kids_.length:Int))) (gd (0<=a/\a<(c.kids_.length:Int)) <|
 gd (I64 (gl c.kids_ a.toNat).op_) <|
 br (decide (b<=40)) ((rc (gl c.kids_ a.toNat)).bind fun e=>
 gd (I64 (b+e)) <|
 Q5i F rc a d (b+e)) (Q5i F rc a d b)) (Z4R F rc b)
def Q6q (F:Nat) (rc:Term->Option Int) (a:Term):Option Int:=
 Z6 (fun again (z:Int×Int)=>Q7V F rc a again z.1 z.2) F ((1:Int),(0:Int))
def Q3B:Nat->Term->Option Int
 | 0=>fun _=>none
 | F+1=>Q6q F (Q3B F)
def Z1i (F:Nat) (rc:Term->Option Int) (a:Int):Option Int:=
 gd (I64 (a+1)) <|
 some (a+1)
def Q7U (F:Nat) (rc:Term->Option Int) (b:Term) (d:(Int×Int)->Option Int) (c:Int) (a:Int):Option Int:=
 br (decide (a<(b.kids_.length:Int))) (gd (0<=a/\a<(b.kids_.length:Int)) <|
 gd (I64 (gl b.kids_ a.toNat).op_) <|
 (rc (gl b.kids_ a.toNat)).bind fun e=>
 gd (I64 (a+1)) <|
 d ((Q0A c e),(a+1))) (Z1i F rc c)
def Q6p (F:Nat) (rc:Term->Option Int) (a:Term):Option Int:=
 Z6 (fun again (z:Int×Int)=>Q7U F rc a again z.1 z.2) F ((0:Int),(0:Int))
def Q3A:Nat->Term->Option Int
 | 0=>fun _=>none
 | F+1=>Q6p F (Q3A F)
def Q1x (F:Nat) (a:Bool):Option Bool:=
 some a
def Q3M (F:Nat) (a:Int):Option Bool:=
 br (a==1) (Q1x F true) (br (a==2) (Q1x F true) (br (a==4) (Q1x F true) (br (a==8) (Q1x F true) (Q1x F (a==16)))))
def Z6x (F:Nat) (rc:Term->Option Bool):Option Bool:=
 some true
def Q4v (F:Nat) (rc:Term->Option Bool) (b:Term) (c:(Int)->Option Bool) (a:Int):Option Bool:=
 br (decide (a<(b.kids_.length:Int))) (gd (0<=a/\a<(b.kids_.length:Int)) <|
 gd (I64 (gl b.kids_ a.toNat).op_) <|
 (rc (gl b.kids_ a.toNat)).bind fun d=>
 br (!d) (some false) (gd (I64 (a+1)) <|
 c (a+1))) (Z6x F rc)
def Q4t (F:Nat) (rc:Term->Option Bool) (b:Term) (a:Bool):Option Bool:=
 br a (some false) (Z6 (fun again (z:Int)=>Q4v F rc b again z) F (0:Int))
def Y8 (F:Nat) (rc:Term->Option Bool) (a:Term) (b:Int) (c:Bool) (d:Bool):Option Bool:=
 br (!d) (Q4t F rc a true) (br (!c) (Q4t F rc a true) (Q4t F rc a ((a.kids_.length:Int) != b)))
def Q4u (F:Nat) (rc:Term->Option Bool) (a:Term) (b:Bool):Option Bool:=
 br b (br (a.num_==0) (Y8 F rc a (a.kids_.length:Int) (a.more_==0) (decide ((0:Int)<(a.kids_.length:Int)))) (Y8 F rc a (a.kids_.length:Int) (a.more_==0) false)) (br (a.op_==11) (Y8 F rc a (1:Int) (a.more_==0) (a.num_==0)) (Y8 F rc a (0:Int) (a.more_==0) false))
def Q7T (F:Nat) (rc:Term->Option Bool) (a:Term):Option Bool:=
 br (a.op_==1) (Y8 F rc a (0:Int) (a.more_==0) (a.num_==0)) (br (a.op_==2) (br (decide ((0:Int)<=a.num_)) (Y8 F rc a (0:Int) (a.more_==0) (decide (a.num_<40))) (Y8 F rc a (0:Int) (a.more_==0) false)) (br (a.op_==3) (br (decide ((0:Int)<=a.num_)) (Y8 F rc a (0:Int) (a.more_==0) (decide (a.num_<=40))) (Y8 F rc a (0:Int) (a.more_==0) false)) (br (a.op_==4) ((Q3M F a.num_).bind fun b=>
 Y8 F rc a (0:Int) (a.more_==0) b) (br (a.op_==5) (br (decide ((0:Int)<=a.num_)) (Y8 F rc a (0:Int) (a.more_==0) (decide (a.num_<=15))) (Y8 F rc a (0:Int) (a.more_==0) false)) (br (a.op_==6) (br (decide ((2:Int)<=a.num_)) (Y8 F rc a (0:Int) (a.more_==0) (decide (a.num_<=10))) (Y8 F rc a (0:Int) (a.more_==0) false)) (br (a.op_==7) (br (decide ((1:Int)<=a.num_)) ((Q3M F a.more_).bind fun c=>
 Y8 F rc a (0:Int) c (decide (a.num_<=10))) ((Q3M F a.more_).bind fun d=>
 Y8 F rc a (0:Int) d false)) (br (a.op_==8) (br (decide ((1:Int)<=a.num_)) (Y8 F rc a (0:Int) (a.more_==0) (decide (a.num_<=10))) (Y8 F rc a (0:Int) (a.more_==0) false)) (br (a.op_==9) (Q4u F rc a (a.op_==9)) (Q4u F rc a (a.op_==10))))))))))
def Q0b:Nat->Term->Option Bool
 | 0=>fun _=>none
 | F+1=>Q7T F (Q0b F)
def Q7W (F:Nat) (a:Bool):Option Int:=
 br a (some (16:Int)) (some (0:Int))
def Q9F (F:Nat) (a:Term):Option Int:=
 (Q3B F a).bind fun b=>
 br (decide ((40:Int)<b)) (some (1:Int)) ((Q3A F a).bind fun c=>
 br (decide ((8:Int)<c)) (Q7W F true) ((Q0b F a).bind fun d=>
 Q7W F (!d)))
def Q0d (F:Nat) (d:List Bracket) (a:Int) (b:(Int×Int)->Option Bool) (c:Bool):Option Bool:=
 br c (some false) (gd (I64 (a+1)) <|
 b ((gl d a.toNat).up_,(a+1)))
def Z1L (F:Nat):Option Bool:=
 some true
def Q1r (F:Nat) (b:List Bracket) (c:(Int×Int)->Option Bool) (d:Int) (a:Int):Option Bool:=
 br (decide (a<(b.length:Int))) (gd (0<=a/\a<(b.length:Int)) <|
 br (decide (((gl b a.toNat).up_)<=d)) (Q0d F b a c true) (br (decide ((268435456:Int)<((gl b a.toNat).up_))) (Q0d F b a c true) (br (decide (((gl b a.toNat).rate_)<0)) (Q0d F b a c true) (Q0d F b a c (decide ((1048576:Int)<((gl b a.toNat).rate_))))))) (Z1L F)
def Q2D (F:Nat) (b:List Bracket) (a:Bool):Option Bool:=
 br a (some false) (Z6 (fun again (z:Int×Int)=>Q1r F b again z.1 z.2) F ((0:Int),(0:Int)))
def Q5h (F:Nat) (a:List Bracket):Option Bool:=
 br (decide ((a.length:Int)<(1:Int))) (Q2D F a true) (Q2D F a (decide ((6:Int)<(a.length:Int))))
def Q3K (F:Nat) (a:Bool):Option Int:=
 br a (some (3:Int)) (some (0:Int))
def Q3L (F:Nat) (a:Scheme) (c:Bool):Option Int:=
 br c (some (2:Int)) ((Z1o F a.n_).bind fun d=>
 br (!d) (some (5:Int)) ((Q9F F a.cond_).bind fun b=>
 br (b != (0:Int)) (some b) ((Q5h F a.brackets_).bind fun e=>
 br (!e) (Q3K F true) (br (decide (a.excludes_<0)) (Q3K F true) (br (decide ((65536:Int)<=a.excludes_)) (Q3K F true) (gd (0<=a.N_) <|
 Q3K F ((Q5W .i64 (a.excludes_.fdiv (2 ^ (min (a.N_).toNat (IntKind.bits .i64)))) (1:Int))==1)))))))
def Z2C (F:Nat) (a:Scheme):Option Int:=
 br (decide (a.N_<0)) (Q3L F a true) (br (decide ((15:Int)<a.N_)) (Q3L F a true) (br (decide (a.least_<0)) (Q3L F a true) (Q3L F a (decide ((268435456:Int)<a.least_)))))
def Z6v (F:Nat):Option Int:=
 some (-1:Int)
def Q2T (F:Nat) (b:List Scheme) (d:Int) (c:(Int)->Option Int) (a:Int):Option Int:=
 br (decide (a<(b.length:Int))) (gd (0<=a/\a<(b.length:Int)) <|
 br (((gl b a.toNat).N_)==d) (some a) (gd (I64 (a+1)) <|
 c (a+1))) (Z6v F)
def Z1f (F:Nat) (a:List Scheme) (b:Int):Option Int:=
 Z6 (fun again (z:Int)=>Q2T F a b again z) F (0:Int)
def Q3i (F:Nat) (c:Int) (a:Int) (b:(Int)->Option (Int×Int)) (d:Bool):Option (Int×Int):=
 br d (some (c,(6:Int))) (gd (I64 (a+1)) <|
 b (a+1))
def Z4P (F:Nat) (a:Int) (b:(Int)->Option (Int×Int)):Option (Int×Int):=
 gd (I64 (a+1)) <|
 b (a+1)
def Q1i (F:Nat) (c:List Scheme) (a:Int) (e:(Int)->Option (Int×Int)) (d:(Int)->Option (Int×Int)) (b:Int):Option (Int×Int):=
 br (decide (b<((List.length (c.take a.toNat):Nat):Int))) (gd (0<=b/\b<((List.length (c.take a.toNat):Nat):Int)) <|
 br (sEq ((gl (c.take a.toNat) b.toNat).n_) ((gl c a.toNat).n_)) (Q3i F a b d true) (gd (I64 (a-1)) <|
 br (b==(a-1)) (Q3i F a b d (decide (((gl c a.toNat).N_)<=((gl (c.take a.toNat) b.toNat).N_)))) (Q3i F a b d false))) (Z4P F a e)
def Q7Q (F:Nat) (a:Int) (b:(Int)->Option (Int×Int)):Option (Int×Int):=
 gd (I64 (a+1)) <|
 b (a+1)
def Q7R (F:Nat) (b:Int) (c:Int) (a:(Int)->Option (Int×Int)) (d:Bool):Option (Int×Int):=
 br d (some (b,(17:Int))) (Q7Q F c a)
def Z4O (F:Nat) (a:Int) (b:(Int)->Option (Int×Int)):Option (Int×Int):=
 gd (I64 (a+1)) <|
 b (a+1)
def Q1h (F:Nat) (c:List Scheme) (b:Int) (i:(Int)->Option (Int×Int)) (e:(Int)->Option (Int×Int)) (a:Int):Option (Int×Int):=
 br (decide (a<=15)) (gd (0<=a) <|
 br ((Q5W .i64 (((gl c b.toNat).excludes_).fdiv (2 ^ (min (a).toNat (IntKind.bits .i64)))) (1:Int))==0) (Q7Q F a e) ((Z1f F c a).bind fun d=>
 br (decide (d<0)) (Q7R F b a e true) (gd (0<=d/\d<(c.length:Int)) <|
 gd (0<=((gl c b.toNat).N_)) <|
 Q7R F b a e ((Q5W .i64 (((gl c d.toNat).excludes_).fdiv (2 ^ (min (((gl c b.toNat).N_)).toNat (IntKind.bits .i64)))) (1:Int))==0)))) (Z4O F b i)
def Z3U (F:Nat):Option (Int×Int):=
 some ((-1:Int),(0:Int))
def Q1Z (F:Nat) (b:List Scheme) (c:(Int)->Option (Int×Int)) (a:Int):Option (Int×Int):=
 br (decide (a<(b.length:Int))) (gd (0<=a/\a<(b.length:Int)) <|
 Z6 (fun again (z:Int)=>Q1h F b a c again z) F (0:Int)) (Z3U F)
def Z1g (F:Nat) (a:List Scheme):Option (Int×Int):=
 Z6 (fun again (z:Int)=>Q1Z F a again z) F (0:Int)
def Q2a (F:Nat) (b:List Scheme) (d:(Int)->Option (Int×Int)) (a:Int):Option (Int×Int):=
 br (decide (a<(b.length:Int))) (gd (0<=a/\a<(b.length:Int)) <|
 (Z2C F (gl b a.toNat)).bind fun c=>
 br (c != (0:Int)) (some (a,c)) (gd (0<=a/\a<=(b.length:Int)) <|
 Z6 (fun again (z:Int)=>Q1i F b a d again z) F (0:Int))) (Z1g F b)
def Q9E (F:Nat) (a:List Scheme):Option (Int×Int):=
 br (decide ((16:Int)<(a.length:Int))) (some ((0:Int),(1:Int))) (Z6 (fun again (z:Int)=>Q2a F a again z) F (0:Int))
def Q9a (F:Nat) (a:Int) (b:(Int×Int×(List Int)×Int×(List Scheme))->Option (Tape×(List Scheme))) (c:Int) (d:List Int) (e:Int) (i:List Scheme):Option (Tape×(List Scheme)):=
 gd (I64 (a-1)) <|
 b (c,(a-1),d,e,i)
def Q9b (F:Nat) (a:Int) (m:Int) (c:List Scheme) (e:ByteArray) (i:Tape×Term) (j:Tape×Int) (k:Tape×Bool) (l:(Int×Int×(List Int)×Int×(List Scheme))->Option (Tape×(List Scheme))) (n:List Int) (o:Int) (d:List Bracket):Option (Tape×(List Scheme)):=
 gd ((List.length c)+(List.length ([(⟨a,((ByteArray.mk #[115])++e),i.2,d,j.2,0,k.2⟩:Scheme)]:List Scheme))<=LIM) <|
 (W7 F (⟨n,o⟩:Tape) (1:Int) (2:Int)).bind fun b=>
 gd (I64 (a+b.2)) <|
 Q9a F m l (a+b.2) b.1.l_ b.1.at_ (c++([(⟨a,((ByteArray.mk #[115])++e),i.2,d,j.2,0,k.2⟩:Scheme)]:List Scheme))
def Q9e (F:Nat) (m:Int) (n:Int) (o:List Scheme) (p:ByteArray) (q:Tape×Term) (s:Tape×Int) (t:Tape×Bool) (k:(Int×Int×(List Int)×Int×(List Scheme))->Option (Tape×(List Scheme))) (l:(Int×Int×(List Int)×Int×(List Bracket))->Option (Tape×(List Scheme))) (b:Int) (d:Int) (i:List Int) (j:Int) (e:List Bracket):Option (Tape×(List Scheme)):=
 br (decide ((0:Int)<d)) ((W7 F (⟨i,j⟩:Tape) (1:Int) (40:Int)).bind fun a=>
 gd (I64 (b+a.2)) <|
 (Z9 F a.1 (3000:Int)).bind fun c=>
 gd ((List.length e)+(List.length ([(⟨(b+a.2),c.2⟩:Bracket)]:List Bracket))<=LIM) <|
 gd (I64 (d-1)) <|
 l ((b+a.2),(d-1),c.1.l_,c.1.at_,(e++([(⟨(b+a.2),c.2⟩:Bracket)]:List Bracket)))) (Q9b F m n o p q s t k i j e)
def Q3p (F:Nat) (a:Int) (b:(Int×(List Int)×Int×(List Scheme))->Option (Tape×(List Scheme))) (c:List Int) (d:Int) (e:List Scheme):Option (Tape×(List Scheme)):=
 gd (I64 (a+1)) <|
 b ((a+1),c,d,e)
def Q8Z (F:Nat) (a:Int) (b:(Int×(List Int)×Int×(List Scheme))->Option (Tape×(List Scheme))) (c:List Int) (d:Int) (e:List Scheme):Option (Tape×(List Scheme)):=
 gd (I64 (a+1)) <|
 b ((a+1),c,d,e)
def Q9c (F:Nat) (b:Int) (k:(Int×(List Int)×Int×(List Scheme))->Option (Tape×(List Scheme))) (e:(Int×(List Int)×Int×(List Scheme))->Option (Tape×(List Scheme))) (c:Int) (i:List Int) (j:Int) (a:List Scheme):Option (Tape×(List Scheme)):=
 br (decide (c<((((b).toNat):Nat):Int))) ((Q1N F (⟨i,j⟩:Tape) (3:Int)).bind fun d=>
 br d.2 (gd (0<=b/\b<(a.length:Int)) <|
 gd (0<=c/\c<(a.length:Int)) <|
 gd (I64 ((1:Int)*2 ^ (min (((gl a c.toNat).N_)).toNat (IntKind.bits .i64)))/\0<=((gl a c.toNat).N_)) <|
 gd (0<=b/\b<(a.length:Int)) <|
 gd (0<=c/\c<((List.length (List.set a b.toNat (⟨(gl a b.toNat).N_,(gl a b.toNat).n_,(gl a b.toNat).cond_,(gl a b.toNat).brackets_,(gl a b.toNat).least_,(bor .i64 ((gl a b.toNat).excludes_) ((1:Int)*2 ^ (min (((gl a c.toNat).N_)).toNat (IntKind.bits .i64)))),(gl a b.toNat).needs_⟩:Scheme)):Nat):Int)) <|
 gd (0<=b/\b<((List.length (List.set a b.toNat (⟨(gl a b.toNat).N_,(gl a b.toNat).n_,(gl a b.toNat).cond_,(gl a b.toNat).brackets_,(gl a b.toNat).least_,(bor .i64 ((gl a b.toNat).excludes_) ((1:Int)*2 ^ (min (((gl a c.toNat).N_)).toNat (IntKind.bits .i64)))),(gl a b.toNat).needs_⟩:Scheme)):Nat):Int)) <|
 gd (I64 ((1:Int)*2 ^ (min (((gl (List.set a b.toNat (⟨(gl a b.toNat).N_,(gl a b.toNat).n_,(gl a b.toNat).cond_,(gl a b.toNat).brackets_,(gl a b.toNat).least_,(bor .i64 ((gl a b.toNat).excludes_) ((1:Int)*2 ^ (min (((gl a c.toNat).N_)).toNat (IntKind.bits .i64)))),(gl a b.toNat).needs_⟩:Scheme)) b.toNat).N_)).toNat (IntKind.bits .i64)))/\0<=((gl (List.set a b.toNat (⟨(gl a b.toNat).N_,(gl a b.toNat).n_,(gl a b.toNat).cond_,(gl a b.toNat).brackets_,(gl a b.toNat).least_,(bor .i64 ((gl a b.toNat).excludes_) ((1:Int)*2 ^ (min (((gl a c.toNat).N_)).toNat (IntKind.bits .i64)))),(gl a b.toNat).needs_⟩:Scheme)) b.toNat).N_)) <|
 gd (0<=c/\c<((List.length (List.set a b.toNat (⟨(gl a b.toNat).N_,(gl a b.toNat).n_,(gl a b.toNat).cond_,(gl a b.toNat).brackets_,(gl a b.toNat).least_,(bor .i64 ((gl a b.toNat).excludes_) ((1:Int)*2 ^ (min (((gl a c.toNat).N_)).toNat (IntKind.bits .i64)))),(gl a b.toNat).needs_⟩:Scheme)):Nat):Int)) <|
 Q3p F c e d.1.l_ d.1.at_ (List.set (List.set a b.toNat (⟨(gl a b.toNat).N_,(gl a b.toNat).n_,(gl a b.toNat).cond_,(gl a b.toNat).brackets_,(gl a b.toNat).least_,(bor .i64 ((gl a b.toNat).excludes_) ((1:Int)*2 ^ (min (((gl a c.toNat).N_)).toNat (IntKind.bits .i64)))),(gl a b.toNat).needs_⟩:Scheme)) c.toNat (⟨(gl (List.set a b.toNat (⟨(gl a b.toNat).N_,(gl a b.toNat).n_,(gl a b.toNat).cond_,(gl a b.toNat).brackets_,(gl a b.toNat).least_,(bor .i64 ((gl a b.toNat).excludes_) ((1:Int)*2 ^ (min (((gl a c.toNat).N_)).toNat (IntKind.bits .i64)))),(gl a b.toNat).needs_⟩:Scheme)) c.toNat).N_,(gl (List.set a b.toNat (⟨(gl a b.toNat).N_,(gl a b.toNat).n_,(gl a b.toNat).cond_,(gl a b.toNat).brackets_,(gl a b.toNat).least_,(bor .i64 ((gl a b.toNat).excludes_) ((1:Int)*2 ^ (min (((gl a c.toNat).N_)).toNat (IntKind.bits .i64)))),(gl a b.toNat).needs_⟩:Scheme)) c.toNat).n_,(gl (List.set a b.toNat (⟨(gl a b.toNat).N_,(gl a b.toNat).n_,(gl a b.toNat).cond_,(gl a b.toNat).brackets_,(gl a b.toNat).least_,(bor .i64 ((gl a b.toNat).excludes_) ((1:Int)*2 ^ (min (((gl a c.toNat).N_)).toNat (IntKind.bits .i64)))),(gl a b.toNat).needs_⟩:Scheme)) c.toNat).cond_,(gl (List.set a b.toNat (⟨(gl a b.toNat).N_,(gl a b.toNat).n_,(gl a b.toNat).cond_,(gl a b.toNat).brackets_,(gl a b.toNat).least_,(bor .i64 ((gl a b.toNat).excludes_) ((1:Int)*2 ^ (min (((gl a c.toNat).N_)).toNat (IntKind.bits .i64)))),(gl a b.toNat).needs_⟩:Scheme)) c.toNat).brackets_,(gl (List.set a b.toNat (⟨(gl a b.toNat).N_,(gl a b.toNat).n_,(gl a b.toNat).cond_,(gl a b.toNat).brackets_,(gl a b.toNat).least_,(bor .i64 ((gl a b.toNat).excludes_) ((1:Int)*2 ^ (min (((gl a c.toNat).N_)).toNat (IntKind.bits .i64)))),(gl a b.toNat).needs_⟩:Scheme)) c.toNat).least_,(bor .i64 ((gl (List.set a b.toNat (⟨(gl a b.toNat).N_,(gl a b.toNat).n_,(gl a b.toNat).cond_,(gl a b.toNat).brackets_,(gl a b.toNat).least_,(bor .i64 ((gl a b.toNat).excludes_) ((1:Int)*2 ^ (min (((gl a c.toNat).N_)).toNat (IntKind.bits .i64)))),(gl a b.toNat).needs_⟩:Scheme)) c.toNat).excludes_) ((1:Int)*2 ^ (min (((gl (List.set a b.toNat (⟨(gl a b.toNat).N_,(gl a b.toNat).n_,(gl a b.toNat).cond_,(gl a b.toNat).brackets_,(gl a b.toNat).least_,(bor .i64 ((gl a b.toNat).excludes_) ((1:Int)*2 ^ (min (((gl a c.toNat).N_)).toNat (IntKind.bits .i64)))),(gl a b.toNat).needs_⟩:Scheme)) b.toNat).N_)).toNat (IntKind.bits .i64)))),(gl (List.set a b.toNat (⟨(gl a b.toNat).N_,(gl a b.toNat).n_,(gl a b.toNat).cond_,(gl a b.toNat).brackets_,(gl a b.toNat).least_,(bor .i64 ((gl a b.toNat).excludes_) ((1:Int)*2 ^ (min (((gl a c.toNat).N_)).toNat (IntKind.bits .i64)))),(gl a b.toNat).needs_⟩:Scheme)) c.toNat).needs_⟩:Scheme))) (Q3p F c e d.1.l_ d.1.at_ a)) (Q8Z F b k i j a)
def Q4U (F:Nat) (a:List Scheme) (b:List Int) (c:Int):Option (Tape×(List Scheme)):=
 (Q9E F a).bind fun d=>
 br (d.2 != (0:Int)) (some ((⟨b,c⟩:Tape),([]:List Scheme))) (some ((⟨b,c⟩:Tape),a))
def Q9d (F:Nat) (i:List Scheme) (e:(Int×(List Int)×Int×(List Scheme))->Option (Tape×(List Scheme))) (a:Int) (c:List Int) (d:Int) (b:List Scheme):Option (Tape×(List Scheme)):=
 br (decide (a<(i.length:Int))) (gd (0<=(0:Int)/\(0:Int)<=a/\((0:Nat):Int)+a<=(b.length:Int)) <|
 Z6 (fun again (z:Int×(List Int)×Int×(List Scheme))=>Q9c F a e again z.1 z.2.1 z.2.2.1 z.2.2.2) F ((0:Int),c,d,b)) (Q4U F b c d)
def Q5K (F:Nat) (b:List Int) (c:Int) (a:List Scheme):Option (Tape×(List Scheme)):=
 Z6 (fun again (z:Int×(List Int)×Int×(List Scheme))=>Q9d F a again z.1 z.2.1 z.2.2.1 z.2.2.2) F ((0:Int),b,c,a)
def Q1R (F:Nat) (b:Int) (n:Int) (c:List Int) (d:Int) (e:List Scheme) (m:(Int×Int×(List Int)×Int×(List Scheme))->Option (Tape×(List Scheme))) (o:Bool):Option (Tape×(List Scheme)):=
 br o ((Q4x F b).bind fun i=>
 gd (ByteArray.size (ByteArray.mk #[115])+ByteArray.size i<=LIM) <|
 (K2 F (⟨c,d⟩:Tape) (2:Int)).bind fun j=>
 (Z9 F j.1 (4:Int)).bind fun k=>
 (Q1N F k.1 (2:Int)).bind fun l=>
 (W7 F l.1 (1:Int) (3:Int)).bind fun a=>
 Z6 (fun again (z:Int×Int×(List Int)×Int×(List Bracket))=>Q9e F b n e i j k l m again z.1 z.2.1 z.2.2.1 z.2.2.2.1 z.2.2.2.2) F ((0:Int),a.2,a.1.l_,a.1.at_,([]:List Bracket))) (Q5K F c d e)
def Q5L (F:Nat) (c:(Int×Int×(List Int)×Int×(List Scheme))->Option (Tape×(List Scheme))) (a:Int) (b:Int) (d:List Int) (e:Int) (i:List Scheme):Option (Tape×(List Scheme)):=
 br (decide ((0:Int)<b)) (Q1R F a b d e i c (decide (a<=3))) (Q1R F a b d e i c false)
def Q4z (F:Nat) (d:Tape) (b:Int):Option (Tape×(List Scheme)):=
 (Z9 F d (2:Int)).bind fun c=>
 gd (I64 (b+1)) <|
 (Z9 F c.1 (b+1)).bind fun a=>
 Z6 (fun again (z:Int×Int×(List Int)×Int×(List Scheme))=>Q5L F again z.1 z.2.1 z.2.2.1 z.2.2.2.1 z.2.2.2.2) F (c.2,a.2,a.1.l_,a.1.at_,([]:List Scheme))
def Z5b (F:Nat):Option Bool:=
 some true
def Z5c (F:Nat) (b:List Rect) (c:List Rect) (d:(Int)->Option Bool) (a:Int):Option Bool:=
 br (decide (a<(b.length:Int))) (gd (0<=a/\a<(b.length:Int)) <|
 gd (0<=a/\a<(c.length:Int)) <|
 br (!((((gl b a.toNat).L_)==((gl c a.toNat).L_))&&((((gl b a.toNat).w_)==((gl c a.toNat).w_))&&((((gl b a.toNat).R_)==((gl c a.toNat).R_))&&((((gl b a.toNat).H_)==((gl c a.toNat).H_))&&true))))) (some false) (gd (I64 (a+1)) <|
 d (a+1))) (Z5b F)
def Q7k (F:Nat) (a:List Rect) (b:List Rect):Option Bool:=
 br ((a.length:Int) != (b.length:Int)) (some false) (Z6 (fun again (z:Int)=>Z5c F a b again z) F (0:Int))
def Z1m (F:Nat) (a:Re_):Option Bool:=
 (U3 F a.t_ ([]) (1:Int)).bind fun b=>
 (Q7k F b a.t_).bind fun c=>
 some c
def Z4Y (F:Nat) (b:Re_) (c:(Int)->Option Bool) (a:Int):Option Bool:=
 br (decide (a<(b.t_.length:Int))) (gd (0<=a/\a<(b.t_.length:Int)) <|
 (Q3O F (gl b.t_ a.toNat)).bind fun d=>
 br (!d) (some false) (gd (I64 (a+1)) <|
 c (a+1))) (Z1m F b)
def Q0N (F:Nat) (a:Re_):Option Bool:=
 br (decide ((120:Int)<(a.t_.length:Int))) (some false) (Z6 (fun again (z:Int)=>Z4Y F a again z) F (0:Int))
def Q5p (F:Nat) (a:Bool):Option Bool:=
 some a
def Q9I (F:Nat) (a:Re_) (b:Re_):Option Bool:=
 (Q0N F a).bind fun c=>
 br c ((Q0N F b).bind fun d=>
 br d ((U3 F a.t_ b.t_ (2:Int)).bind fun e=>
 Q5p F (decide ((0:Int)<(e.length:Int)))) (Q5p F false)) (Q5p F false)
def Q2b (F:Nat) (a:Int) (b:(Int)->Option Int) (c:Bool):Option Int:=
 br c (some (3:Int)) (gd (I64 (a+1)) <|
 b (a+1))
def Q5l (F:Nat) (b:List Rg_) (a:Int) (c:(Int)->Option Int) (d:Bool):Option Int:=
 br d (some (7:Int)) (br (decide ((0:Int)<a)) (gd (I64 (a-1)) <|
 gd (0<=(a-1)/\(a-1)<(b.length:Int)) <|
 br (decide (((gl b a.toNat).y_)<((gl b (a-1).toNat).y_))) (Q2b F a c true) (gd (I64 (a-1)) <|
 gd (0<=(a-1)/\(a-1)<(b.length:Int)) <|
 br (((gl b a.toNat).y_)==((gl b (a-1).toNat).y_)) (gd (I64 (a-1)) <|
 gd (0<=(a-1)/\(a-1)<(b.length:Int)) <|
 Q2b F a c (decide (((gl b a.toNat).c_)<=((gl b (a-1).toNat).c_)))) (Q2b F a c false))) (Q2b F a c false))
def Q5m (F:Nat) (b:List Rg_) (a:Int) (c:(Int)->Option Int) (d:Bool):Option Int:=
 br d (some (13:Int)) ((Q0N F ((gl b a.toNat).g_)).bind fun e=>
 br (!e) (Q5l F b a c true) (Q5l F b a c (((List.length ((gl b a.toNat).g_.t_):Nat):Int)==(0:Int))))
def Q5n (F:Nat) (b:List Rg_) (a:Int) (c:(Int)->Option Int) (d:Bool):Option Int:=
 br d (some (18:Int)) (br (decide (((gl b a.toNat).c_)<0)) (Q5m F b a c true) (Q5m F b a c (decide ((40:Int)<=((gl b a.toNat).c_)))))
def Q5j (F:Nat) (a:Int) (b:(Int)->Option Int) (c:Bool):Option Int:=
 br c (some (11:Int)) (gd (I64 (a+1)) <|
 b (a+1))
def Z1j (F:Nat) (a:Int) (b:(Int)->Option Int):Option Int:=
 gd (I64 (a+1)) <|
 b (a+1)
def Z4S (F:Nat) (c:List Rg_) (a:Int) (e:(Int)->Option Int) (d:(Int)->Option Int) (b:Int):Option Int:=
 br (decide (b<((List.length (c.take a.toNat):Nat):Int))) (gd (0<=b/\b<((List.length (c.take a.toNat):Nat):Int)) <|
 br (((gl (c.take a.toNat) b.toNat).y_)==((gl c a.toNat).y_)) ((Q9I F ((gl (c.take a.toNat) b.toNat).g_) ((gl c a.toNat).g_)).bind fun i=>
 Q5j F b d i) (Q5j F b d false)) (Z1j F a e)
def Z3W (F:Nat):Option Int:=
 some (0:Int)
def Z4T (F:Nat) (b:List Rg_) (c:(Int)->Option Int) (a:Int):Option Int:=
 br (decide (a<(b.length:Int))) (gd (0<=a/\a<(b.length:Int)) <|
 gd (0<=a/\a<=(b.length:Int)) <|
 Z6 (fun again (z:Int)=>Z4S F b a c again z) F (0:Int)) (Z3W F)
def Q5k (F:Nat) (a:List Rg_):Option Int:=
 Z6 (fun again (z:Int)=>Z4T F a again z) F (0:Int)
def Z4U (F:Nat) (b:List Rg_) (c:(Int)->Option Int) (a:Int):Option Int:=
 br (decide (a<(b.length:Int))) (gd (0<=a/\a<(b.length:Int)) <|
 br (decide (((gl b a.toNat).y_)<0)) (Q5n F b a c true) (Q5n F b a c (decide ((100:Int)<((gl b a.toNat).y_))))) (Q5k F b)
def Q9G (F:Nat) (a:List Rg_):Option Int:=
 br (decide ((200:Int)<(a.length:Int))) (some (1:Int)) (Z6 (fun again (z:Int)=>Z4U F a again z) F (0:Int))
def Q5D (F:Nat) (a:Int) (b:((List Rect)×Int×(List Rg_))->Option ((List Rg_)×Int)) (c:List Rect) (d:List Rg_):Option ((List Rg_)×Int):=
 gd (I64 (a+1)) <|
 b (c,(a+1),d)
def Q7Y (F:Nat) (b:List Rg_) (i:List Rect) (a:Int) (c:List Rg_) (e:((List Rect)×Int×(List Rg_))->Option ((List Rg_)×Int)) (d:List Rect):Option ((List Rg_)×Int):=
 br (decide ((0:Int)<(d.length:Int))) (gd ((List.length c)+(List.length ([(⟨(gl b a.toNat).y_,(gl b a.toNat).c_,(⟨d⟩:Re_)⟩:Rg_)]:List Rg_))<=LIM) <|
 Q5D F a e i (c++([(⟨(gl b a.toNat).y_,(gl b a.toNat).c_,(⟨d⟩:Re_)⟩:Rg_)]:List Rg_))) (Q5D F a e i c)
def Q7Z (F:Nat) (b:List Rg_) (j:Int) (k:Re_) (d:List Rect) (a:Int) (e:List Rg_) (c:((List Rect)×Int×(List Rg_))->Option ((List Rg_)×Int)) (i:Bool):Option ((List Rg_)×Int):=
 br i ((U3 F d ((gl b a.toNat).g_.t_) (1:Int)).bind fun l=>
 Q5D F a c l e) (br (((gl b a.toNat).y_)==j) ((U3 F ((gl b a.toNat).g_.t_) k.t_ (3:Int)).bind fun m=>
 Q7Y F b d a e c m) (Q7Y F b d a e c ((gl b a.toNat).g_.t_)))
def Z6y (F:Nat) (a:List Rg_):Option ((List Rg_)×Int):=
 some (a,(0:Int))
def Z6z (F:Nat) (b:List Rg_) (c:(Int)->Option ((List Rg_)×Int)) (a:Int):Option ((List Rg_)×Int):=
 br (decide (a<(b.length:Int))) (gd (0<=a/\a<(b.length:Int)) <|
 br (decide ((120:Int)<((List.length ((gl b a.toNat).g_.t_):Nat):Int))) (some ([],(1:Int))) (gd (I64 (a+1)) <|
 c (a+1))) (Z6y F b)
def Q6r (F:Nat) (a:List Rg_):Option ((List Rg_)×Int):=
 br (decide ((200:Int)<(a.length:Int))) (some ([],(1:Int))) (Z6 (fun again (z:Int)=>Z6z F a again z) F (0:Int))
def Z0K (F:Nat) (d:Int) (e:Int) (c:List Rect) (b:List Rg_) (a:Int):Option ((List Rg_)×Int):=
 gd (0<=(0:Int)/\(0:Int)<=a/\((0:Nat):Int)+a<=(b.length:Int)) <|
 gd (0+((a).toNat)<=List.length b) <|
 gd ((0)+(((a).toNat))<=LIM) <|
 gd (((0)+(((a).toNat)))+(List.length ([(⟨d,e,(⟨c⟩:Re_)⟩:Rg_)]:List Rg_))<=LIM) <|
 gd (0<=a/\a<=(((List.length b):Nat):Int)/\((0:Nat):Int)+(((List.length b):Nat):Int)<=(b.length:Int)) <|
 gd ((0+(a).toNat)+((List.length b)-(a).toNat)<=List.length b) <|
 gd ((((0)+(((a).toNat)))+(List.length ([(⟨d,e,(⟨c⟩:Re_)⟩:Rg_)]:List Rg_)))+(((List.length b)-(a).toNat))<=LIM) <|
 Q6r F (((([]:List Rg_)++((b.drop 0).take ((a).toNat)))++([(⟨d,e,(⟨c⟩:Re_)⟩:Rg_)]:List Rg_))++((b.drop (0+(a).toNat)).take ((List.length b)-(a).toNat)))
def Q3N (F:Nat) (i:Int) (j:Int) (c:List Rect) (d:List Rg_) (a:Int) (b:(Int)->Option ((List Rg_)×Int)) (e:Bool):Option ((List Rg_)×Int):=
 br e (gd (I64 (a+1)) <|
 b (a+1)) (Z0K F i j c d a)
def Z7S (F:Nat) (c:Int) (d:Int) (i:List Rect) (b:List Rg_) (e:(Int)->Option ((List Rg_)×Int)) (a:Int):Option ((List Rg_)×Int):=
 br (decide (a<(b.length:Int))) (gd (0<=a/\a<(b.length:Int)) <|
 br (decide (((gl b a.toNat).y_)<c)) (Q3N F c d i b a e true) (gd (0<=a/\a<(b.length:Int)) <|
 br (((gl b a.toNat).y_)==c) (gd (0<=a/\a<(b.length:Int)) <|
 Q3N F c d i b a e (decide (((gl b a.toNat).c_)<d))) (Q3N F c d i b a e false))) (Q3N F c d i b a e false)
def Q7X (F:Nat) (c:Int) (d:Int) (a:List Rect) (b:List Rg_):Option ((List Rg_)×Int):=
 br (decide ((0:Int)<(a.length:Int))) (Z6 (fun again (z:Int)=>Z7S F c d a b again z) F (0:Int)) (Q6r F b)
def Z3u (F:Nat) (b:List Rg_) (c:Int) (j:Int) (k:Re_) (i:((List Rect)×Int×(List Rg_))->Option ((List Rg_)×Int)) (d:List Rect) (a:Int) (e:List Rg_):Option ((List Rg_)×Int):=
 br (decide (a<(b.length:Int))) (gd (0<=a/\a<(b.length:Int)) <|
 br (((gl b a.toNat).y_)==c) (Q7Z F b c k d a e i (((gl b a.toNat).c_)==j)) (Q7Z F b c k d a e i false)) (Q7X F c j d e)
def Q8a (F:Nat) (c:List Rg_) (d:Int) (e:Int) (a:Re_) (b:Bool):Option ((List Rg_)×Int):=
 br b (some ([],(13:Int))) ((Q0N F a).bind fun i=>
 br (!i) (some ([],(7:Int))) (Z6 (fun again (z:(List Rect)×Int×(List Rg_))=>Z3u F c d e a again z.1 z.2.1 z.2.2) F (a.t_,(0:Int),([]:List Rg_))))
def Q8b (F:Nat) (b:List Rg_) (c:Int) (a:Int) (d:Re_) (e:Bool):Option ((List Rg_)×Int):=
 br e (some ([],(18:Int))) (br (decide (a<0)) (Q8a F b c a d true) (Q8a F b c a d (decide ((40:Int)<=a))))
def Z2F (F:Nat) (b:List Rg_) (a:Int) (c:Int) (d:Re_):Option ((List Rg_)×Int):=
 (Q9G F b).bind fun e=>
 br (e != (0:Int)) (some ([],e)) (br (decide (a<0)) (Q8b F b a c d true) (Q8b F b a c d (decide ((100:Int)<a))))
def Q9O (F:Nat) (a:List Rg_) (b:List Int) (c:Int):Option (Tape×(List Rg_)):=
 some ((⟨b,c⟩:Tape),a)
def Q2I (F:Nat) (m:List Crop) (i:Int) (l:((List Rg_)×Int×(List Int)×Int)->Option (Tape×(List Rg_))) (c:List Rg_) (a:Int) (d:List Int) (e:Int):Option (Tape×(List Rg_)):=
 br (decide ((0:Int)<a)) (gd (I64 (i+1)) <|
 (Z9 F (⟨d,e⟩:Tape) (i+1)).bind fun j=>
 (Z9 F j.1 (m.length:Int)).bind fun k=>
 (Q0W F k.1 (9:Int) (2:Int)).bind fun b=>
 (Z2F F c j.2 k.2 b.2).bind fun n=>
 gd (I64 (a-1)) <|
 l (n.1,(a-1),b.1.l_,b.1.at_)) (Q9O F c d e)
def Q2J (F:Nat) (c:Tape) (d:List Crop) (e:Int) (b:Int):Option (Tape×(List Rg_)):=
 gd (I64 (b+1)) <|
 (Z9 F c (b+1)).bind fun a=>
 Z6 (fun again (z:(List Rg_)×Int×(List Int)×Int)=>Q2I F d e again z.1 z.2.1 z.2.2.1 z.2.2.2) F (([]:List Rg_),a.2,a.1.l_,a.1.at_)
def Q2K (F:Nat) (e:Tape) (i:Int):Option (Tape×A2_):=
 (Z9 F e (20:Int)).bind fun a=>
 (Z9 F a.1 (16:Int)).bind fun c=>
 (W7 F c.1 (1:Int) (30:Int)).bind fun b=>
 gd (I64 (a.2+b.2)) <|
 (Q1l F b.1 (9:Int) (2:Int)).bind fun d=>
 some (d.1,(⟨i,c.2,a.2,(a.2+b.2),d.2⟩:A2_))
def Q5E (F:Nat) (a:Bool):Option Int:=
 br a (some (7:Int)) (some (0:Int))
def Q2E (F:Nat) (a:A2_) (b:Bool):Option Int:=
 br b (some (9:Int)) ((Q0N F a.g_).bind fun c=>
 br (!c) (Q5E F true) (Q5E F ((a.g_.t_.length:Int)==(0:Int))))
def Q2F (F:Nat) (a:A2_) (b:Bool):Option Int:=
 br b (some (14:Int)) (br (decide (a.F_<0)) (Q2E F a true) (br (decide (a.u_<=a.F_)) (Q2E F a true) (Q2E F a (decide ((36865:Int)<a.u_)))))
def Z0L (F:Nat) (a:A2_) (b:Bool):Option Int:=
 br b (some (2:Int)) (br (decide (a.k_<0)) (Q2F F a true) (Q2F F a (decide ((15:Int)<a.k_))))
def Z0R (F:Nat) (a:A2_):Option Int:=
 br (decide (a.N_<1)) (Z0L F a true) (Z0L F a (decide ((1073741824:Int)<a.N_)))
def Q5o (F:Nat) (a:Int) (b:(Int)->Option Int) (c:Bool):Option Int:=
 br c (some (3:Int)) (gd (I64 (a+1)) <|
 b (a+1))
def Z4W (F:Nat):Option Int:=
 some (0:Int)
def Z4X (F:Nat) (b:List A2_) (c:(Int)->Option Int) (a:Int):Option Int:=
 br (decide (a<(b.length:Int))) (gd (0<=a/\a<(b.length:Int)) <|
 (Z0R F (gl b a.toNat)).bind fun d=>
 br (d != (0:Int)) (some d) (br (decide ((0:Int)<a)) (gd (I64 (a-1)) <|
 gd (0<=(a-1)/\(a-1)<(b.length:Int)) <|
 Q5o F a c (decide (((gl b a.toNat).N_)<=((gl b (a-1).toNat).N_)))) (Q5o F a c false))) (Z4W F)
def Q9H (F:Nat) (a:List A2_):Option Int:=
 br (decide ((60:Int)<(a.length:Int))) (some (1:Int)) (Z6 (fun again (z:Int)=>Z4X F a again z) F (0:Int))
def Q8c (F:Nat) (b:List A2_) (c:A2_) (a:Int) (d:Bool):Option ((List A2_)×Int):=
 br d (some ([],(6:Int))) (br ((b.length:Int)==(60:Int)) (some ([],(1:Int))) (gd (0<=a/\a<=(b.length:Int)) <|
 gd ((0)+(List.length (b.take a.toNat))<=LIM) <|
 gd (((0)+(List.length (b.take a.toNat)))+(List.length ([c]:List A2_))<=LIM) <|
 gd (0<=a/\a<=(b.length:Int)) <|
 gd ((((0)+(List.length (b.take a.toNat)))+(List.length ([c]:List A2_)))+(List.length (b.drop a.toNat))<=LIM) <|
 some ((((([]:List A2_)++(b.take a.toNat))++([c]:List A2_))++(b.drop a.toNat)),(0:Int))))
def Z0M (F:Nat) (b:List A2_) (c:A2_) (a:Int):Option ((List A2_)×Int):=
 br (decide (a<(b.length:Int))) (gd (0<=a/\a<(b.length:Int)) <|
 Q8c F b c a (((gl b a.toNat).N_)==c.N_)) (Q8c F b c a false)
def Q8d (F:Nat) (d:List A2_) (e:A2_) (a:Int) (b:(Int)->Option ((List A2_)×Int)) (c:Bool):Option ((List A2_)×Int):=
 br c (gd (I64 (a+1)) <|
 b (a+1)) (Z0M F d e a)
def Z7V (F:Nat) (b:List A2_) (c:A2_) (d:(Int)->Option ((List A2_)×Int)) (a:Int):Option ((List A2_)×Int):=
 br (decide (a<(b.length:Int))) (gd (0<=a/\a<(b.length:Int)) <|
 Q8d F b c a d (decide (((gl b a.toNat).N_)<c.N_))) (Q8d F b c a d false)
def Z2G (F:Nat) (a:List A2_) (b:A2_):Option ((List A2_)×Int):=
 (Q9H F a).bind fun c=>
 br (c != (0:Int)) (some ([],c)) ((Z0R F b).bind fun d=>
 br (d != (0:Int)) (some ([],d)) (Z6 (fun again (z:Int)=>Z7V F a b again z) F (0:Int)))
def Q2e (F:Nat) (a:Int) (b:((List A2_)×Int×(List Int)×Int)->Option (Tape×(List A2_))) (c:List A2_) (d:List Int) (e:Int):Option (Tape×(List A2_)):=
 gd (I64 (a-1)) <|
 b (c,(a-1),d,e)
def Z1v (F:Nat) (a:List A2_) (b:List Int) (c:Int):Option (Tape×(List A2_)):=
 some ((⟨b,c⟩:Tape),a)
def Q0Z (F:Nat) (d:((List A2_)×Int×(List Int)×Int)->Option (Tape×(List A2_))) (b:List A2_) (c:Int) (e:List Int) (i:Int):Option (Tape×(List A2_)):=
 br (decide ((0:Int)<c)) ((W7 F (⟨e,i⟩:Tape) (1:Int) (12:Int)).bind fun j=>
 (Q2K F j.1 j.2).bind fun a=>
 (Z2G F b a.2).bind fun k=>
 br (k.2==(0:Int)) (Q2e F c d k.1 a.1.l_ a.1.at_) (Q2e F c d b a.1.l_ a.1.at_)) (Z1v F b e i)
def Q4j (F:Nat) (c:Tape) (b:Int):Option (Tape×(List A2_)):=
 gd (I64 (b+1)) <|
 (Z9 F c (b+1)).bind fun a=>
 Z6 (fun again (z:(List A2_)×Int×(List Int)×Int)=>Q0Z F again z.1 z.2.1 z.2.2.1 z.2.2.2) F (([]:List A2_),a.2,a.1.l_,a.1.at_)
def Q2s (F:Nat) (j:Tape) (a:List Crop):Option (Tape×World):=
 (Z9 F j (5:Int)).bind fun b=>
 (Q2J F b.1 a (4:Int) (5:Int)).bind fun c=>
 (Q4j F c.1 (3:Int)).bind fun d=>
 (Z9 F d.1 (25:Int)).bind fun e=>
 (Z9 F e.1 (5:Int)).bind fun i=>
 some (i.1,(⟨b.2,a,c.2,d.2,e.2,i.2⟩:World))
def Z6C (F:Nat) (a:Int):Option Int:=
 some a
def Z6D (F:Nat) (b:List Rect) (d:(Int×Int)->Option Int) (c:Int) (a:Int):Option Int:=
 br (decide (a<(b.length:Int))) (gd (0<=a/\a<(b.length:Int)) <|
 gd (I64 (((gl b a.toNat).R_)-((gl b a.toNat).L_))) <|
 gd (I64 (((gl b a.toNat).H_)-((gl b a.toNat).w_))) <|
 gd (I64 ((((gl b a.toNat).R_)-((gl b a.toNat).L_))*(((gl b a.toNat).H_)-((gl b a.toNat).w_)))) <|
 gd (I64 (c+((((gl b a.toNat).R_)-((gl b a.toNat).L_))*(((gl b a.toNat).H_)-((gl b a.toNat).w_))))) <|
 gd (I64 (a+1)) <|
 d ((c+((((gl b a.toNat).R_)-((gl b a.toNat).L_))*(((gl b a.toNat).H_)-((gl b a.toNat).w_)))),(a+1))) (Z6C F c)
def Z1n (F:Nat) (a:List Rect):Option Int:=
 Z6 (fun again (z:Int×Int)=>Z6D F a again z.1 z.2) F ((0:Int),(0:Int))
def Q8V (F:Nat) (a:Re_):Option Int:=
 (Q0N F a).bind fun b=>
 br (!b) (some (0:Int)) ((Z1n F a.t_).bind fun c=>
 some c)
def Q6j (F:Nat):Option Int:=
 some (-1:Int)
def U2 (F:Nat) (b:List Rect) (d:Rect->Option Bool) (c:(Int)->Option Int) (a:Int):Option Int:=
 br (decide (a<(b.length:Int))) (gd (0<=a/\a<(b.length:Int)) <|
 (d (gl b a.toNat)).bind fun e=>
 br e (some a) (gd (I64 (a+1)) <|
 c (a+1))) (Q6j F)
def Q2k (F:Nat) (a:List Rect) (b:Rect->Option Bool):Option Int:=
 Z6 (fun again (z:Int)=>U2 F a b again z) F (0:Int)
def J0 (F:Nat) (a:List Rect) (b:Rect->Option Bool):Option Bool:=
 (Q2k F a b).bind fun c=>
 some (decide ((0:Int)<=c))
def U7 (F:Nat) (a:Bool):Option Bool:=
 some a
def Q6k (F:Nat) (a:Rect):Option Bool:=
 br (decide ((0:Int)<=a.L_)) (br (decide (a.L_<a.R_)) (br (decide (a.R_<=16384)) (br (decide ((0:Int)<=a.w_)) (br (decide (a.w_<a.H_)) (U7 F (decide (a.H_<=16384))) (U7 F false)) (U7 F false)) (U7 F false)) (U7 F false)) (U7 F false)
def Q7M (F:Nat) (a:Rect):Option Bool:=
 (Q6k F a).bind fun b=>
 some (!b)
def Q2n (F:Nat) (a:Int) (b:(Int×Int×(List Int))->Option ((List Int))) (c:Int) (d:List Int):Option ((List Int)):=
 gd (I64 (a+1)) <|
 b (c,(a+1),d)
def Q4J (F:Nat) (a:Int) (b:List Int):Option ((List Int)):=
 gd (0<=a/\a<=(((List.length b):Nat):Int)/\((0:Nat):Int)+(((List.length b):Nat):Int)<=(b.length:Int)) <|
 gd (0<=a/\a<=((List.length (clr b (0+(a).toNat) ((List.length b)-(a).toNat)):Nat):Int)) <|
 some ((clr b (0+(a).toNat) ((List.length b)-(a).toNat)).take (a).toNat)
def Q8B (F:Nat) (e:List Int) (b:Int) (i:(Int×Int×(List Int))->Option ((List Int))) (d:Int) (a:Int) (c:List Int):Option ((List Int)):=
 br (decide (a<((((List.length e)-(b).toNat):Nat):Int))) (gd (0<=a/\a<((((List.length e)-(b).toNat):Nat):Int)) <|
 gd (((0+(b).toNat)+(a).toNat)<List.length c) <|
 gd (I64 (a-1)) <|
 gd (0<=(a-1)/\(a-1)<((((List.length e)-(b).toNat):Nat):Int)) <|
 gd (((0+(b).toNat)+((a-1)).toNat)<List.length c) <|
 br ((gl c ((0+(b).toNat)+(a).toNat)) != (gl c ((0+(b).toNat)+((a-1)).toNat))) (gd (0<=a/\a<((((List.length e)-(b).toNat):Nat):Int)) <|
 gd (((0+(b).toNat)+(a).toNat)<List.length c) <|
 gd (0<=d/\d<(c.length:Int)) <|
 gd (I64 (d+1)) <|
 Q2n F a i (d+1) (List.set c d.toNat (gl c ((0+(b).toNat)+(a).toNat)))) (Q2n F a i d c)) (Q4J F d c)
def Q4I (F:Nat) (a:Int) (b:(Int)->Option ((List Int))):Option ((List Int)):=
 gd (I64 (a+1)) <|
 b (a+1)
def Q4H (F:Nat) (a:List Int):Option ((List Int)):=
 some a
def Q8C (F:Nat) (b:List Int) (c:(Int)->Option ((List Int))) (a:Int):Option ((List Int)):=
 br (decide (a<(b.length:Int))) (gd (0<=a/\a<(b.length:Int)) <|
 gd (I64 (a-1)) <|
 gd (0<=(a-1)/\(a-1)<(b.length:Int)) <|
 br ((gl b a.toNat)==(gl b (a-1).toNat)) (gd (0<=a/\a<=(((List.length b):Nat):Int)/\((0:Nat):Int)+(((List.length b):Nat):Int)<=(b.length:Int)) <|
 Z6 (fun again (z:Int×Int×(List Int))=>Q8B F b a again z.1 z.2.1 z.2.2) F (a,(1:Int),b)) (Q4I F a c)) (Q4H F b)
def Q0U (F:Nat) (a:List Int):Option ((List Int)):=
 br (decide ((a.length:Int)<(2:Int))) (some a) (Z6 (fun again (z:Int)=>Q8C F a again z) F (1:Int))
def Z1c (F:Nat) (a:Int) (b:(Int×(List Int))->Option ((List Int))) (c:List Int):Option ((List Int)):=
 gd (I64 (a+1)) <|
 b ((a+1),c)
def Z1d (F:Nat) (c:(List (List Rect))) (b:Int) (e:(Int×(List Int))->Option ((List Int))) (i:(Int×(List Int))->Option ((List Int))) (a:Int) (d:List Int):Option ((List Int)):=
 br (decide (a<((List.length (gl c b.toNat):Nat):Int))) (gd (0<=a/\a<((List.length (gl c b.toNat):Nat):Int)) <|
 gd ((List.length d)+(List.length ([(gl (gl c b.toNat) a.toNat).w_,(gl (gl c b.toNat) a.toNat).H_]:List Int))<=LIM) <|
 gd (I64 (a+1)) <|
 i ((a+1),(d++([(gl (gl c b.toNat) a.toNat).w_,(gl (gl c b.toNat) a.toNat).H_]:List Int)))) (Z1c F b e d)
def Z1b (F:Nat) (a:List Int):Option ((List Int)):=
 (Z6s a).bind fun b=>
 (Q0U F b).bind fun c=>
 some c
def Z1e (F:Nat) (b:(List (List Rect))) (d:(Int×(List Int))->Option ((List Int))) (a:Int) (c:List Int):Option ((List Int)):=
 br (decide (a<(b.length:Int))) (gd (0<=a/\a<(b.length:Int)) <|
 Z6 (fun again (z:Int×(List Int))=>Z1d F b a d again z.1 z.2) F ((0:Int),c)) (Z1b F c)
def Q7j (F:Nat) (a:(List (List Rect))):Option ((List Int)):=
 Z6 (fun again (z:Int×(List Int))=>Z1e F a again z.1 z.2) F ((0:Int),([]:List Int))
def Q6z (F:Nat) (a:Int):Option Bool:=
 some (a != a)
def Q1y (F:Nat) (a:Int) (b:Int):Option Int:=
 (Q6z F a).bind fun d=>
 (Q6z F b).bind fun c=>
 br d (br c (some (0:Int)) (some (-1:Int))) (br c (some (1:Int)) (br (decide (a<b)) (some (-1:Int)) (br (decide (b<a)) (some (1:Int)) (some (0:Int)))))
def Q7N (F:Nat) (a:Span) (b:Span):Option Int:=
 (Q1y F a.L_ b.L_).bind fun c=>
 some c
def Q6n (F:Nat) (a:Int) (b:(Int×(List Span))->Option ((List Span))) (c:List Span):Option ((List Span)):=
 gd (I64 (a+1)) <|
 b ((a+1),c)
def Q6o (F:Nat) (b:List Rect) (a:Int) (c:List Span) (d:(Int×(List Span))->Option ((List Span))) (e:Bool):Option ((List Span)):=
 br e (gd ((List.length c)+(List.length ([(⟨(gl b a.toNat).L_,(gl b a.toNat).R_⟩:Span)]:List Span))<=LIM) <|
 Q6n F a d (c++([(⟨(gl b a.toNat).L_,(gl b a.toNat).R_⟩:Span)]:List Span))) (Q6n F a d c)
def Q6m (F:Nat) (a:Int) (b:(Int×(List Span))->Option ((List Span))) (c:List Span):Option ((List Span)):=
 gd (I64 (a+1)) <|
 b ((a+1),c)
def Q4r (F:Nat) (c:List Span) (b:Int) (a:List Span) (d:(Int×(List Span))->Option ((List Span))) (e:Bool):Option ((List Span)):=
 br e (gd (I64 ((a.length:Int)-(1:Int))) <|
 gd (I64 ((a.length:Int)-(1:Int))) <|
 gd (0<=((a.length:Int)-(1:Int))/\((a.length:Int)-(1:Int))<(a.length:Int)) <|
 gd (0<=((a.length:Int)-(1:Int))/\((a.length:Int)-(1:Int))<(a.length:Int)) <|
 Q6m F b d (List.set a ((a.length:Int)-(1:Int)).toNat (⟨(gl a ((a.length:Int)-(1:Int)).toNat).L_,(Q0A ((gl a ((a.length:Int)-(1:Int)).toNat).R_) ((gl c b.toNat).R_))⟩:Span))) (gd ((List.length a)+(List.length ([(gl c b.toNat)]:List Span))<=LIM) <|
 Q6m F b d (a++([(gl c b.toNat)]:List Span)))
def Z1Z (F:Nat) (a:List Span):Option ((List Span)):=
 some a
def Z2a (F:Nat) (c:List Span) (d:(Int×(List Span))->Option ((List Span))) (b:Int) (a:List Span):Option ((List Span)):=
 br (decide (b<(c.length:Int))) (gd (0<=b/\b<(c.length:Int)) <|
 br (decide ((0:Int)<(a.length:Int))) (gd (I64 ((a.length:Int)-(1:Int))) <|
 gd (0<=((a.length:Int)-(1:Int))/\((a.length:Int)-(1:Int))<(a.length:Int)) <|
 Q4r F c b a d (decide (((gl c b.toNat).L_)<=((gl a ((a.length:Int)-(1:Int)).toNat).R_)))) (Q4r F c b a d false)) (Z1Z F a)
def Q9o (F:Nat) (a:List Span):Option ((List Span)):=
 (Z9x a (fun y0 y1=>Q7N F y0 y1)).bind fun b=>
 Z6 (fun again (z:Int×(List Span))=>Z2a F b again z.1 z.2) F ((0:Int),([]:List Span))
def Z2b (F:Nat) (b:List Rect) (e:Int) (d:(Int×(List Span))->Option ((List Span))) (a:Int) (c:List Span):Option ((List Span)):=
 br (decide (a<(b.length:Int))) (gd (0<=a/\a<(b.length:Int)) <|
 br (decide (((gl b a.toNat).w_)<=e)) (Q6o F b a c d (decide (e<((gl b a.toNat).H_)))) (Q6o F b a c d false)) (Q9o F c)
def Q6T (F:Nat) (a:List Rect) (b:Int):Option ((List Span)):=
 Z6 (fun again (z:Int×(List Span))=>Z2b F a b again z.1 z.2) F ((0:Int),([]:List Span))
def Q3I (F:Nat) (a:Int) (b:List Rect):Option ((List Span)):=
 (Q6T F b a).bind fun c=>
 some c
def Q9u (F:Nat):Option Bool:=
 some true
def Q9v (F:Nat) (b:List Span) (c:List Span) (d:(Int)->Option Bool) (a:Int):Option Bool:=
 br (decide (a<(b.length:Int))) (gd (0<=a/\a<(b.length:Int)) <|
 gd (0<=a/\a<(c.length:Int)) <|
 br (!((((gl b a.toNat).L_)==((gl c a.toNat).L_))&&((((gl b a.toNat).R_)==((gl c a.toNat).R_))&&true))) (some false) (gd (I64 (a+1)) <|
 d (a+1))) (Q9u F)
def Q2A (F:Nat) (a:List Span) (b:List Span):Option Bool:=
 br ((a.length:Int) != (b.length:Int)) (some false) (Z6 (fun again (z:Int)=>Q9v F a b again z) F (0:Int))
def Z0h (F:Nat) (a:Int) (b:(Int×(List Rect))->Option ((List Rect))) (c:List Rect):Option ((List Rect)):=
 gd (I64 (a+1)) <|
 b ((a+1),c)
def Z0i (F:Nat) (b:List Band) (a:Int) (e:(Int×(List Rect))->Option ((List Rect))) (i:(Int×(List Rect))->Option ((List Rect))) (c:Int) (d:List Rect):Option ((List Rect)):=
 br (decide (c<((List.length ((gl b a.toNat).spans_):Nat):Int))) (gd (0<=c/\c<((List.length ((gl b a.toNat).spans_):Nat):Int)) <|
 gd ((List.length d)+(List.length ([(⟨(gl ((gl b a.toNat).spans_) c.toNat).L_,(gl b a.toNat).w_,(gl ((gl b a.toNat).spans_) c.toNat).R_,(gl b a.toNat).H_⟩:Rect)]:List Rect))<=LIM) <|
 gd (I64 (c+1)) <|
 i ((c+1),(d++([(⟨(gl ((gl b a.toNat).spans_) c.toNat).L_,(gl b a.toNat).w_,(gl ((gl b a.toNat).spans_) c.toNat).R_,(gl b a.toNat).H_⟩:Rect)]:List Rect)))) (Z0h F a e d)
def Z0g (F:Nat) (a:List Rect):Option ((List Rect)):=
 some a
def Z0j (F:Nat) (b:List Band) (d:(Int×(List Rect))->Option ((List Rect))) (a:Int) (c:List Rect):Option ((List Rect)):=
 br (decide (a<(b.length:Int))) (gd (0<=a/\a<(b.length:Int)) <|
 Z6 (fun again (z:Int×(List Rect))=>Z0i F b a d again z.1 z.2) F ((0:Int),c)) (Z0g F c)
def Q7K (F:Nat) (a:List Band):Option ((List Rect)):=
 Z6 (fun again (z:Int×(List Rect))=>Z0j F a again z.1 z.2) F ((0:Int),([]:List Rect))
def Q4g (F:Nat) (a:Int) (b:(Int×(List Band))->Option ((List Rect))) (c:List Band):Option ((List Rect)):=
 gd (I64 (a+1)) <|
 b ((a+1),c)
def Q1w (F:Nat) (c:List Int) (b:Int) (a:List Band) (e:List Span) (d:(Int×(List Band))->Option ((List Rect))) (i:Bool):Option ((List Rect)):=
 br i (gd (I64 ((a.length:Int)-(1:Int))) <|
 gd (0<=((a.length:Int)-(1:Int))/\((a.length:Int)-(1:Int))<(a.length:Int)) <|
 Q4g F b d (List.set a ((a.length:Int)-(1:Int)).toNat (⟨(gl a ((a.length:Int)-(1:Int)).toNat).w_,(gl c b.toNat),(gl a ((a.length:Int)-(1:Int)).toNat).spans_⟩:Band))) (gd ((List.length a)+(List.length ([(⟨(gl c (b-1).toNat),(gl c b.toNat),e⟩:Band)]:List Band))<=LIM) <|
 Q4g F b d (a++([(⟨(gl c (b-1).toNat),(gl c b.toNat),e⟩:Band)]:List Band)))
def Q6H (F:Nat) (a:List Band):Option ((List Rect)):=
 (Q7K F a).bind fun b=>
 some b
def Z3T (F:Nat) (c:List Int) (i:Int->Option (List Span)) (e:(Int×(List Band))->Option ((List Rect))) (b:Int) (a:List Band):Option ((List Rect)):=
 br (decide (b<(c.length:Int))) (gd (I64 (b-1)) <|
 gd (0<=(b-1)/\(b-1)<(c.length:Int)) <|
 gd (0<=b/\b<(c.length:Int)) <|
 gd (I64 (b-1)) <|
 gd (0<=(b-1)/\(b-1)<(c.length:Int)) <|
 (i (gl c (b-1).toNat)).bind fun d=>
 br (decide ((0:Int)<(a.length:Int))) (gd (I64 ((a.length:Int)-(1:Int))) <|
 gd (0<=((a.length:Int)-(1:Int))/\((a.length:Int)-(1:Int))<(a.length:Int)) <|
 br (((gl a ((a.length:Int)-(1:Int)).toNat).H_)==(gl c (b-1).toNat)) (gd (I64 ((a.length:Int)-(1:Int))) <|
 gd (0<=((a.length:Int)-(1:Int))/\((a.length:Int)-(1:Int))<(a.length:Int)) <|
 (Q2A F ((gl a ((a.length:Int)-(1:Int)).toNat).spans_) d).bind fun j=>
 Q1w F c b a d e j) (Q1w F c b a d e false)) (Q1w F c b a d e false)) (Q6H F a)
def Q5C (F:Nat) (a:List Int) (b:Int->Option (List Span)):Option ((List Rect)):=
 Z6 (fun again (z:Int×(List Band))=>Z3T F a b again z.1 z.2) F ((1:Int),([]:List Band))
def Q1Q (F:Nat) (a:List Rect):Option ((List Rect)):=
 (Q7j F ([a]:List (List Rect))).bind fun b=>
 (Q5C F b (fun y0=>Q3I F y0 a)).bind fun c=>
 some c
def Q9w (F:Nat):Option Bool:=
 some true
def Q9x (F:Nat) (b:List Rect) (c:List Rect) (d:(Int)->Option Bool) (a:Int):Option Bool:=
 br (decide (a<(b.length:Int))) (gd (0<=a/\a<(b.length:Int)) <|
 gd (0<=a/\a<(c.length:Int)) <|
 br (!((((gl b a.toNat).L_)==((gl c a.toNat).L_))&&((((gl b a.toNat).w_)==((gl c a.toNat).w_))&&((((gl b a.toNat).R_)==((gl c a.toNat).R_))&&((((gl b a.toNat).H_)==((gl c a.toNat).H_))&&true))))) (some false) (gd (I64 (a+1)) <|
 d (a+1))) (Q9w F)
def Q2B (F:Nat) (a:List Rect) (b:List Rect):Option Bool:=
 br ((a.length:Int) != (b.length:Int)) (some false) (Z6 (fun again (z:Int)=>Q9x F a b again z) F (0:Int))
def Q6E (F:Nat) (a:Re_) (b:Bool):Option Bool:=
 br b (some false) ((Q1Q F a.t_).bind fun c=>
 (Q2B F c a.t_).bind fun d=>
 some d)
def y4 (F:Nat) (a:Re_):Option Bool:=
 br (decide ((120:Int)<(a.t_.length:Int))) (Q6E F a true) ((J0 F a.t_ (fun y0=>Q7M F y0)).bind fun b=>
 Q6E F a b)
def Z1U (F:Nat) (rc:Term->Int->Option Int) (a:Int):Option Int:=
 some a
def Q9m (F:Nat) (rc:Term->Int->Option Int) (c:Term) (d:Int) (i:(Int×Int)->Option Int) (a:Int) (b:Int):Option Int:=
 br (decide (b<(c.kids_.length:Int))) (gd (0<=b/\b<(c.kids_.length:Int)) <|
 gd (I64 (gl c.kids_ b.toNat).op_) <|
 br (decide (d<a)) (Z1U F rc a) (gd (I64 (d-a)) <|
 (rc (gl c.kids_ b.toNat) (d-a)).bind fun e=>
 gd (I64 (a+e)) <|
 gd (I64 (b+1)) <|
 i ((a+e),(b+1)))) (Z1U F rc a)
def Q7C (F:Nat) (rc:Term->Int->Option Int) (a:Term) (b:Int):Option Int:=
 Z6 (fun again (z:Int×Int)=>Q9m F rc a b again z.1 z.2) F ((1:Int),(0:Int))
def Q4Z:Nat->Term->Int->Option Int
 | 0=>fun _ _=>none
 | F+1=>Q7C F (Q4Z F)
def Q7A (F:Nat) (a:Bool):Option (Int×Int×Bool):=
 br a (some ((1:Int),(10:Int),true)) (some ((0:Int),(0:Int),false))
def Q9s (F:Nat) (a:Int):Option (Int×Int×Bool):=
 br (a==2) (some ((0:Int),(39:Int),true)) (br (a==3) (some ((0:Int),(40:Int),true)) (br (a==4) (some ((1:Int),(16:Int),true)) (br (a==5) (some ((0:Int),(15:Int),true)) (br (a==6) (some ((2:Int),(10:Int),true)) (br (a==7) (Q7A F (a==7)) (Q7A F (a==8)))))))
def Z0D (F:Nat) (b:Int) (a:Bool):Option (Int×Int):=
 br a (some ((1:Int),(40:Int))) (br (b==11) (some ((1:Int),(1:Int))) (some ((0:Int),(0:Int))))
def Z2t (F:Nat) (a:Int):Option (Int×Int):=
 br (a==9) (Z0D F a (a==9)) (Z0D F a (a==10))
def Q4K (F:Nat) (a:Int):Option Int:=
 gd (0<=(1:Int)) <|
 (some (Q5W .u64 (a.fdiv (2 ^ (min ((1:Int)).toNat (IntKind.bits .u64)))) (6148914691236517205:Int))).bind fun k=>
 (some (IntKind.wrap .u64 (k+(Q5W .u64 a (6148914691236517205:Int))))).bind fun b=>
 gd (0<=(2:Int)) <|
 (some (Q5W .u64 (b.fdiv (2 ^ (min ((2:Int)).toNat (IntKind.bits .u64)))) (3689348814741910323:Int))).bind fun l=>
 (some (IntKind.wrap .u64 (l+(Q5W .u64 b (3689348814741910323:Int))))).bind fun c=>
 gd (0<=(4:Int)) <|
 (some (IntKind.wrap .u64 ((c.fdiv (2 ^ (min ((4:Int)).toNat (IntKind.bits .u64))))+c))).bind fun d=>
 gd (0<=(8:Int)) <|
 (some ((Q5W .u64 d (1085102592571150095:Int)).fdiv (2 ^ (min ((8:Int)).toNat (IntKind.bits .u64))))).bind fun m=>
 (some (IntKind.wrap .u64 ((Q5W .u64 d (1085102592571150095:Int))+m))).bind fun e=>
 gd (0<=(16:Int)) <|
 (some (IntKind.wrap .u64 (e+(e.fdiv (2 ^ (min ((16:Int)).toNat (IntKind.bits .u64))))))).bind fun i=>
 gd (0<=(32:Int)) <|
 (some (IntKind.wrap .u64 (i+(i.fdiv (2 ^ (min ((32:Int)).toNat (IntKind.bits .u64))))))).bind fun j=>
 gd (I64 j) <|
 some (Q5W .i64 j (127:Int))
def Q6a (F:Nat) (a:Int):Option Int:=
 (Q4K F a).bind fun b=>
 some b
def Q7w (F:Nat) (a:Bool):Option Bool:=
 some a
def Q2w (F:Nat) (a:Int):Option Bool:=
 br (decide ((1:Int)<=a)) (br (decide (a<=16)) ((Q6a F (IntKind.wrap .u64 a)).bind fun b=>
 Q7w F (b==1)) (Q7w F false)) (Q7w F false)
def Q6h (F:Nat):Option Int:=
 some (-1:Int)
def Q1d (F:Nat) (b:List Term) (d:Term->Option Bool) (c:(Int)->Option Int) (a:Int):Option Int:=
 br (decide (a<(b.length:Int))) (gd (0<=a/\a<(b.length:Int)) <|
 gd (I64 (gl b a.toNat).op_) <|
 (d (gl b a.toNat)).bind fun e=>
 br e (some a) (gd (I64 (a+1)) <|
 c (a+1))) (Q6h F)
def Q0Q (F:Nat) (a:List Term) (b:Term->Option Bool):Option Int:=
 Z6 (fun again (z:Int)=>Q1d F a b again z) F (0:Int)
def Q0k (F:Nat) (a:List Term) (b:Term->Option Bool):Option Bool:=
 (Q0Q F a b).bind fun c=>
 some (decide ((0:Int)<=c))
def Z0C (F:Nat) (rc:Term->Int->Option Bool) (b:Term) (a:Int):Option Bool:=
 gd (I64 (a-1)) <|
 (rc b (a-1)).bind fun c=>
 some (!c)
def Q4o (F:Nat) (rc:Term->Int->Option Bool) (b:Term) (c:Int) (a:Bool):Option Bool:=
 br a (some false) ((Q0k F b.kids_ (fun y0=>Z0C F rc y0 c)).bind fun d=>
 some (!d))
def W3 (F:Nat) (rc:Term->Int->Option Bool) (a:Term) (b:Int) (c:Int×Int) (d:Bool):Option Bool:=
 br d (some false) (br (decide ((a.kids_.length:Int)<c.1)) (Q4o F rc a b true) (Q4o F rc a b (decide (c.2<(a.kids_.length:Int)))))
def Q0B (F:Nat) (rc:Term->Int->Option Bool) (a:Term) (b:Int) (c:Int×Int) (d:Bool):Option Bool:=
 br d (some false) (br (a.op_==4) ((Q2w F a.num_).bind fun e=>
 br (!e) (W3 F rc a b c true) (br (a.op_==7) ((Q2w F a.more_).bind fun i=>
 br (!i) (W3 F rc a b c true) (br (a.op_ != (7:Int)) (W3 F rc a b c (a.more_ != (0:Int))) (W3 F rc a b c false))) (br (a.op_ != (7:Int)) (W3 F rc a b c (a.more_ != (0:Int))) (W3 F rc a b c false)))) (br (a.op_==7) ((Q2w F a.more_).bind fun j=>
 br (!j) (W3 F rc a b c true) (br (a.op_ != (7:Int)) (W3 F rc a b c (a.more_ != (0:Int))) (W3 F rc a b c false))) (br (a.op_ != (7:Int)) (W3 F rc a b c (a.more_ != (0:Int))) (W3 F rc a b c false))))
def Q1K (F:Nat) (rc:Term->Int->Option Bool) (a:Term) (b:Int) (d:Int×Int×Bool) (c:Int×Int) (e:Bool):Option Bool:=
 br e (some false) (br d.2.2 (br (decide (a.num_<d.1)) (Q0B F rc a b c true) (br (decide (d.2.1<a.num_)) (Q0B F rc a b c true) (br (!d.2.2) (Q0B F rc a b c (a.num_ != (0:Int))) (Q0B F rc a b c false)))) (br (!d.2.2) (Q0B F rc a b c (a.num_ != (0:Int))) (Q0B F rc a b c false)))
def Q7x (F:Nat) (rc:Term->Int->Option Bool) (a:Term) (b:Int):Option Bool:=
 (Q9s F a.op_).bind fun c=>
 (Z2t F a.op_).bind fun d=>
 br (decide (a.op_<1)) (Q1K F rc a b c d true) (br (decide ((11:Int)<a.op_)) (Q1K F rc a b c d true) (Q1K F rc a b c d (b==0)))
def V9:Nat->Term->Int->Option Bool
 | 0=>fun _ _=>none
 | F+1=>Q7x F (V9 F)
def Q8K (F:Nat) (a:Term):Option Int:=
 (Q4Z F a (40:Int)).bind fun b=>
 br (decide ((40:Int)<b)) (some (1:Int)) ((V9 F a (8:Int)).bind fun c=>
 br (!c) (some (16:Int)) (some (0:Int)))
def Q4n (F:Nat) (a:Int) (b:(Int)->Option Bool) (c:Bool):Option Bool:=
 br c (some false) (gd (I64 (a+1)) <|
 b (a+1))
def Q6e (F:Nat) (a:Int) (c:Bool) (b:(Int)->Option Bool) (d:Bool):Option Bool:=
 br (!c) (br (a==0) (Q4n F a b true) (Q4n F a b (!d))) (Q4n F a b false)
def Q6f (F:Nat) (b:ByteArray) (a:Int) (c:(Int)->Option Bool) (d:Bool):Option Bool:=
 gd (0<=a/\a<((b.size:Nat):Int)) <|
 br (decide ((48:Int)<=(sAt b a))) (gd (0<=a/\a<((b.size:Nat):Int)) <|
 Q6e F a d c (decide ((sAt b a)<=57))) (Q6e F a d c false)
def Q6d (F:Nat) (a:Bool):Option Bool:=
 some a
def Z1T (F:Nat) (a:ByteArray):Option Bool:=
 br (decide ((1:Int)<=((a.size:Nat):Int))) (Q6d F (decide (((a.size:Nat):Int)<=(12:Int)))) (Q6d F false)
def Z6n (F:Nat) (b:ByteArray) (c:(Int)->Option Bool) (a:Int):Option Bool:=
 br (decide (a<((b.size:Nat):Int))) (gd (0<=a/\a<((b.size:Nat):Int)) <|
 br (decide ((97:Int)<=(sAt b a))) (gd (0<=a/\a<((b.size:Nat):Int)) <|
 Q6f F b a c (decide ((sAt b a)<=122))) (Q6f F b a c false)) (Z1T F b)
def Q8G (F:Nat) (a:ByteArray):Option Bool:=
 Z6 (fun again (z:Int)=>Z6n F a again z) F (0:Int)
def Q2W (F:Nat) (a:Int) (b:(Int)->Option Int) (c:Bool):Option Int:=
 br c (some (6:Int)) (gd (I64 (a+1)) <|
 b (a+1))
def Q2X (F:Nat) (b:List Crop) (a:Int) (c:(Int)->Option Int) (d:Bool):Option Int:=
 br d (some (14:Int)) (br (decide ((0:Int)<a)) (gd (I64 (a-1)) <|
 gd (0<=(a-1)/\(a-1)<(b.length:Int)) <|
 Q2W F a c (sLt ((gl b a.toNat).n_) ((gl b (a-1).toNat).n_)||sEq ((gl b a.toNat).n_) ((gl b (a-1).toNat).n_))) (Q2W F a c false))
def Q2Y (F:Nat) (b:List Crop) (a:Int) (c:(Int)->Option Int) (d:Bool):Option Int:=
 br d (some (2:Int)) (br (decide (((gl b a.toNat).m_)<0)) (Q2X F b a c true) (Q2X F b a c (decide ((31:Int)<((gl b a.toNat).m_)))))
def Z6N (F:Nat):Option Int:=
 some (0:Int)
def Q4D (F:Nat) (b:List Crop) (c:(Int)->Option Int) (a:Int):Option Int:=
 br (decide (a<(b.length:Int))) (gd (0<=a/\a<(b.length:Int)) <|
 (Q8G F ((gl b a.toNat).n_)).bind fun d=>
 br (!d) (some (5:Int)) (br (decide (((gl b a.toNat).f_)<0)) (Q2Y F b a c true) (Q2Y F b a c (decide ((40:Int)<((gl b a.toNat).f_)))))) (Z6N F)
def Q6Z (F:Nat) (a:List Crop):Option Int:=
 br (decide ((40:Int)<(a.length:Int))) (some (1:Int)) (Z6 (fun again (z:Int)=>Q4D F a again z) F (0:Int))
def Q5e (F:Nat):Option Int:=
 some (-1:Int)
def Q5f (F:Nat) (b:List Rg_) (d:Rg_->Option Bool) (c:(Int)->Option Int) (a:Int):Option Int:=
 br (decide (a<(b.length:Int))) (gd (0<=a/\a<(b.length:Int)) <|
 (d (gl b a.toNat)).bind fun e=>
 br e (some a) (gd (I64 (a+1)) <|
 c (a+1))) (Q5e F)
def Q0u (F:Nat) (a:List Rg_) (b:Rg_->Option Bool):Option Int:=
 Z6 (fun again (z:Int)=>Q5f F a b again z) F (0:Int)
def G6 (F:Nat) (a:List Rg_) (b:Rg_->Option Bool):Option Bool:=
 (Q0u F a b).bind fun c=>
 some (decide ((0:Int)<=c))
def Q4W (F:Nat) (a:Bool):Option Int:=
 br a (some (7:Int)) (some (0:Int))
def Q2L (F:Nat) (a:Rg_) (b:Bool):Option Int:=
 br b (some (13:Int)) (br ((a.g_.t_.length:Int)==(0:Int)) (Q4W F true) ((y4 F a.g_).bind fun c=>
 Q4W F (!c)))
def Q2M (F:Nat) (a:Rg_) (b:Bool):Option Int:=
 br b (some (18:Int)) (br (decide (a.c_<0)) (Q2L F a true) (Q2L F a (decide ((40:Int)<=a.c_))))
def Q5s (F:Nat) (a:Rg_):Option Int:=
 br (decide (a.y_<0)) (Q2M F a true) (Q2M F a (decide ((100:Int)<a.y_)))
def Z6P (F:Nat):Option Int:=
 some (0:Int)
def Q2Z (F:Nat) (b:List Int) (c:(Int)->Option Int) (a:Int):Option Int:=
 br (decide (a<(b.length:Int))) (gd (0<=a/\a<(b.length:Int)) <|
 br ((gl b a.toNat) != (0:Int)) (some (gl b a.toNat)) (gd (I64 (a+1)) <|
 c (a+1))) (Z6P F)
def Z1D (F:Nat) (a:List Int):Option Int:=
 Z6 (fun again (z:Int)=>Q2Z F a again z) F (0:Int)
def Q4k (F:Nat) (a:Rg_) (b:Rg_):Option Int:=
 (Q1y F a.y_ b.y_).bind fun c=>
 (Q1y F a.c_ b.c_).bind fun d=>
 (Z1D F ([c,d]:List Int)).bind fun e=>
 some e
def Z2Q (F:Nat) (a:(List (Int×(List Rg_)))):Option ((List (Int×(List Rg_)))):=
 some a
def Q1S (F:Nat) (b:List Rg_) (d:(Int×(List (Int×(List Rg_))))->Option ((List (Int×(List Rg_))))) (a:Int) (c:(List (Int×(List Rg_)))):Option ((List (Int×(List Rg_)))):=
 br (decide (a<(b.length:Int))) (gd (0<=a/\a<(b.length:Int)) <|
 gd ((gRow ((gl b a.toNat).y_) c).length+List.length ([(gl b a.toNat)]:List Rg_)<=LIM) <|
 gd (I64 (a+1)) <|
 d ((a+1),(gApp ((gl b a.toNat).y_) ([(gl b a.toNat)]:List Rg_) c))) (Z2Q F c)
def Q9q (F:Nat) (a:List Rg_):Option ((List (Int×(List Rg_)))):=
 Z6 (fun again (z:Int×(List (Int×(List Rg_))))=>Q1S F a again z.1 z.2) F ((0:Int),([]:List (Int×(List Rg_))))
def Q0c (F:Nat) (a:Bool):Option Bool:=
 some a
def Q5g (F:Nat) (a:Rect) (b:Rect):Option Bool:=
 br (decide (a.L_<b.R_)) (br (decide (b.L_<a.R_)) (br (decide (a.w_<b.H_)) (Q0c F (decide (b.w_<a.H_))) (Q0c F false)) (Q0c F false)) (Q0c F false)
def Q5B (F:Nat) (a:Rect) (b:Rect):Option Bool:=
 (Q5g F b a).bind fun c=>
 some c
def Q7O (F:Nat) (a:Rect) (b:Re_):Option Bool:=
 (J0 F b.t_ (fun y0=>Q5B F y0 a)).bind fun c=>
 some c
def Q6F (F:Nat) (a:Bool):Option Bool:=
 some a
def Q7P (F:Nat) (a:Re_) (b:Re_):Option Bool:=
 (y4 F a).bind fun c=>
 br c ((y4 F b).bind fun d=>
 br d ((J0 F a.t_ (fun y0=>Q7O F y0 b)).bind fun e=>
 Q6F F e) (Q6F F false)) (Q6F F false)
def Q6K (F:Nat) (a:Rg_) (b:Rg_):Option Bool:=
 (Q7P F a.g_ b.g_).bind fun c=>
 some c
def Q3s (F:Nat) (a:Int) (b:(Int)->Option Int) (c:Bool):Option Int:=
 br c (some (3:Int)) (gd (I64 (a+1)) <|
 b (a+1))
def Z2S (F:Nat):Option Int:=
 some (0:Int)
def Q9g (F:Nat) (b:(Int×(List Rg_))) (e:(List (Int×(List Rg_)))) (c:((List (Int×(List Rg_))))->Option Int) (d:(Int)->Option Int) (a:Int):Option Int:=
 br (decide (a<(b.2.length:Int))) (gd (0<=a/\a<(b.2.length:Int)) <|
 gd (0<=a/\a<=(b.2.length:Int)) <|
 (G6 F (b.2.take a.toNat) (fun y0=>Q6K F y0 (gl b.2 a.toNat))).bind fun i=>
 br i (some (11:Int)) (gd (I64 (a+1)) <|
 d (a+1))) (c e)
def Q5R (F:Nat) (a:((List (Int×(List Rg_))))->Option Int) (b:(List (Int×(List Rg_)))):Option Int:=
 nextM b (Z2S F) (fun c d=>
 Z6 (fun again (z:Int)=>Q9g F c d a again z) F (0:Int))
def Q5Q (F:Nat) (a:List Rg_):Option Int:=
 (Q9q F a).bind fun b=>
 Z6 (fun again (z:(List (Int×(List Rg_))))=>Q5R F again z) F b
def Z2T (F:Nat) (b:List Rg_) (c:(Int)->Option Int) (a:Int):Option Int:=
 br (decide (a<(b.length:Int))) (gd (0<=a/\a<(b.length:Int)) <|
 (Q5s F (gl b a.toNat)).bind fun d=>
 br (d != (0:Int)) (some d) (br (decide ((0:Int)<a)) (gd (I64 (a-1)) <|
 gd (0<=(a-1)/\(a-1)<(b.length:Int)) <|
 (Q4k F (gl b (a-1).toNat) (gl b a.toNat)).bind fun e=>
 Q3s F a c (decide ((0:Int)<=e))) (Q3s F a c false))) (Q5Q F b)
def Q6v (F:Nat) (a:List Rg_):Option Int:=
 br (decide ((200:Int)<(a.length:Int))) (some (1:Int)) (Z6 (fun again (z:Int)=>Z2T F a again z) F (0:Int))
def Q2N (F:Nat) (a:Bool):Option Int:=
 br a (some (7:Int)) (some (0:Int))
def Q0e (F:Nat) (a:A2_) (b:Bool):Option Int:=
 br b (some (9:Int)) (br ((a.g_.t_.length:Int)==(0:Int)) (Q2N F true) ((y4 F a.g_).bind fun c=>
 Q2N F (!c)))
def Q0f (F:Nat) (a:A2_) (b:Bool):Option Int:=
 br b (some (14:Int)) (br (decide (a.F_<0)) (Q0e F a true) (br (decide (a.u_<=a.F_)) (Q0e F a true) (Q0e F a (decide ((36865:Int)<a.u_)))))
def Q4X (F:Nat) (a:A2_) (b:Bool):Option Int:=
 br b (some (2:Int)) (br (decide (a.k_<0)) (Q0f F a true) (Q0f F a (decide ((15:Int)<a.k_))))
def Q5u (F:Nat) (a:A2_):Option Int:=
 br (decide (a.N_<1)) (Q4X F a true) (Q4X F a (decide ((1073741824:Int)<a.N_)))
def Q3w (F:Nat) (a:Int) (b:(Int)->Option Int) (c:Bool):Option Int:=
 br c (some (3:Int)) (gd (I64 (a+1)) <|
 b (a+1))
def Z2W (F:Nat):Option Int:=
 some (0:Int)
def Z2X (F:Nat) (b:List A2_) (c:(Int)->Option Int) (a:Int):Option Int:=
 br (decide (a<(b.length:Int))) (gd (0<=a/\a<(b.length:Int)) <|
 (Q5u F (gl b a.toNat)).bind fun d=>
 br (d != (0:Int)) (some d) (br (decide ((0:Int)<a)) (gd (I64 (a-1)) <|
 gd (0<=(a-1)/\(a-1)<(b.length:Int)) <|
 Q3w F a c (decide (((gl b a.toNat).N_)<=((gl b (a-1).toNat).N_)))) (Q3w F a c false))) (Z2W F)
def Q6y (F:Nat) (a:List A2_):Option Int:=
 br (decide ((60:Int)<(a.length:Int))) (some (1:Int)) (Z6 (fun again (z:Int)=>Z2X F a again z) F (0:Int))
def Q3t (F:Nat) (a:Bool):Option Int:=
 br a (some (9:Int)) (some (0:Int))
def Q6x (F:Nat) (c:List A2_) (a:Int):Option Int:=
 (Q6y F c).bind fun b=>
 br (b != (0:Int)) (some b) (br (decide (a<0)) (Q3t F true) (Q3t F (decide ((36864:Int)<a))))
def Q1q (F:Nat) (a:List Rect):Option ((List Rect)):=
 brN (List.length a) (some ([])) (gd ((0)+(List.length a)<=LIM) <|
 some (([]:List Rect)++a))
def Q5v (F:Nat) (a:A2_):Option A2_:=
 (Q1q F a.g_.t_).bind fun b=>
 some (⟨a.N_,a.k_,a.F_,a.u_,(⟨b⟩:Re_)⟩:A2_)
def Z1y (F:Nat) (a:List A2_):Option ((List A2_)):=
 some a
def Z5w (F:Nat) (c:List A2_) (e:(Int×(List A2_))->Option ((List A2_))) (a:Int) (b:List A2_):Option ((List A2_)):=
 br (decide (a<(c.length:Int))) (gd (0<=a/\a<(c.length:Int)) <|
 (Q5v F (gl c a.toNat)).bind fun d=>
 gd ((List.length b)+(List.length ([d]:List A2_))<=LIM) <|
 gd (I64 (a+1)) <|
 e ((a+1),(b++([d]:List A2_)))) (Z1y F b)
def Q9R (F:Nat) (a:List A2_):Option ((List A2_)):=
 Z6 (fun again (z:Int×(List A2_))=>Z5w F a again z.1 z.2) F ((0:Int),([]:List A2_))
def Q5T (F:Nat) (a:Bool):Option Bool:=
 some a
def Q4A (F:Nat) (a:A2_) (b:Int):Option Bool:=
 br (decide (a.F_<=b)) (Q5T F (decide (b<a.u_))) (Q5T F false)
def Z0Q (F:Nat) (a:A2_) (b:Int):Option Bool:=
 (Q4A F a b).bind fun c=>
 some (!c)
def Q4L (F:Nat):Option Int:=
 some (-1:Int)
def Q4M (F:Nat) (b:List A2_) (d:A2_->Option Bool) (c:(Int)->Option Int) (a:Int):Option Int:=
 br (decide (a<(b.length:Int))) (gd (0<=a/\a<(b.length:Int)) <|
 (d (gl b a.toNat)).bind fun e=>
 br e (some a) (gd (I64 (a+1)) <|
 c (a+1))) (Q4L F)
def Q0i (F:Nat) (a:List A2_) (b:A2_->Option Bool):Option Int:=
 Z6 (fun again (z:Int)=>Q4M F a b again z) F (0:Int)
def J8 (F:Nat) (a:Int) (b:(Int×Int×(List A2_))->Option ((List A2_))) (c:Int) (d:List A2_):Option ((List A2_)):=
 gd (I64 (a+1)) <|
 b (c,(a+1),d)
def Q1t (F:Nat) (a:Int) (b:List A2_):Option ((List A2_)):=
 gd (0<=a/\a<=(((List.length b):Nat):Int)/\((0:Nat):Int)+(((List.length b):Nat):Int)<=(b.length:Int)) <|
 gd (0<=a/\a<=((List.length (clr b (0+(a).toNat) ((List.length b)-(a).toNat)):Nat):Int)) <|
 some ((clr b (0+(a).toNat) ((List.length b)-(a).toNat)).take (a).toNat)
def Q3Z (F:Nat) (e:A2_->Option Bool) (d:(Int×Int×(List A2_))->Option ((List A2_))) (b:Int) (c:Int) (a:List A2_):Option ((List A2_)):=
 br (decide (c<(a.length:Int))) (gd (0<=c/\c<(a.length:Int)) <|
 (e (gl a c.toNat)).bind fun i=>
 br (!i) (gd (0<=b/\b<(a.length:Int)) <|
 gd (I64 (b+1)) <|
 J8 F c d (b+1) (List.set a b.toNat (gl a c.toNat))) (J8 F c d b a)) (Q1t F b a)
def y9 (F:Nat) (b:List A2_) (c:A2_->Option Bool):Option ((List A2_)):=
 (Q0i F b c).bind fun a=>
 br (a==(-1:Int)) (some b) (gd (I64 (a+1)) <|
 Z6 (fun again (z:Int×Int×(List A2_))=>Q3Z F c again z.1 z.2.1 z.2.2) F (a,(a+1),b))
def Q9i (F:Nat) (a:List A2_) (b:Int):Option ((List A2_)×Int):=
 (Q6x F a b).bind fun c=>
 br (c != (0:Int)) (some ([],c)) ((Q9R F a).bind fun d=>
 (y9 F d (fun y0=>Z0Q F y0 b)).bind fun e=>
 some (e,(0:Int)))
def Q2i (F:Nat) (a:Bool):Option Bool:=
 some a
def Q0T (F:Nat) (a:Int) (b:TermPlace):Option Bool:=
 br (decide (a<0)) (Q2i F true) (Q2i F (decide ((b.world_.crops_.length:Int)<=a)))
def Q1f (F:Nat) (a:Rg_) (b:TermPlace):Option Bool:=
 (Q0T F a.c_ b).bind fun c=>
 some c
def Q3Y (F:Nat):Option Int:=
 some (-1:Int)
def V8 (F:Nat) (b:List Rg_) (d:TermPlace) (c:(Int)->Option Int) (a:Int):Option Int:=
 br (decide (a<(b.length:Int))) (gd (0<=a/\a<(b.length:Int)) <|
 (Q1f F (gl b a.toNat) d).bind fun e=>
 br e (some a) (gd (I64 (a+1)) <|
 c (a+1))) (Q3Y F)
def y8 (F:Nat) (a:List Rg_) (b:TermPlace):Option Int:=
 Z6 (fun again (z:Int)=>V8 F a b again z) F (0:Int)
def J9 (F:Nat) (a:List Rg_) (b:TermPlace):Option Bool:=
 (y8 F a b).bind fun c=>
 some (decide ((0:Int)<=c))
def Q1A (F:Nat) (a:TermPlace) (c:Bool):Option Int:=
 br c (some (18:Int)) ((Q9i F a.world_.zones_ a.world_.day_).bind fun b=>
 br (b.2 != (0:Int)) (some b.2) ((y4 F a.line_.g_).bind fun d=>
 br (!d) (some (7:Int)) (some (0:Int))))
def Q1B (F:Nat) (a:TermPlace) (c:Bool):Option Int:=
 br c (some (13:Int)) ((Q6v F a.world_.history_).bind fun b=>
 br (b != (0:Int)) (some b) (br (decide (a.world_.y_<0)) (Q1A F a true) (Q1A F a (decide ((100:Int)<a.world_.y_)))))
def Q3f (F:Nat) (a:TermPlace) (d:Term):Option Int:=
 (Q8K F d).bind fun b=>
 br (b != (0:Int)) (some b) ((Q6Z F a.world_.crops_).bind fun c=>
 br (c != (0:Int)) (some c) ((Q0T F a.line_.c_ a).bind fun e=>
 br e (Q1B F a true) ((J9 F a.world_.history_ a).bind fun i=>
 Q1B F a i)))
def Q7d (F:Nat) (a:Squares):Option Squares:=
 some (⟨a.no_,a.yes_,a.open_⟩:Squares)
def Q4F (F:Nat) (a:List Span):Option ((List Span)):=
 some a
def K3 (F:Nat) (b:(List (List Span))) (d:(Int×(List Span))->Option ((List Span))) (a:Int) (c:List Span):Option ((List Span)):=
 br (decide (a<(b.length:Int))) (gd (0<=a/\a<(b.length:Int)) <|
 gd ((List.length c)+(List.length (gl b a.toNat))<=LIM) <|
 gd (I64 (a+1)) <|
 d ((a+1),(c++(gl b a.toNat)))) (Q4F F c)
def Q2l (F:Nat) (b:(List (List Span))) (a:Int):Option ((List Span)):=
 (Z9G a).bind fun c=>
 Z6 (fun again (z:Int×(List Span))=>K3 F b again z.1 z.2) F ((0:Int),c)
def K4 (F:Nat) (b:(List (List Span))) (d:(Int×Int)->Option ((List Span))) (c:Int) (a:Int):Option ((List Span)):=
 br (decide (a<(b.length:Int))) (gd (0<=a/\a<(b.length:Int)) <|
 gd (I64 (c+((List.length (gl b a.toNat):Nat):Int))) <|
 br (decide ((c+((List.length (gl b a.toNat):Nat):Int))<0)) (none) (gd (I64 (a+1)) <|
 d ((c+((List.length (gl b a.toNat):Nat):Int)),(a+1)))) (Q2l F b c)
def Q3F (F:Nat) (a:(List (List Span))):Option ((List Span)):=
 Z6 (fun again (z:Int×Int)=>K4 F a again z.1 z.2) F ((0:Int),(0:Int))
def Q3H (F:Nat) (a:Bool):Option Bool:=
 some a
def Q0n (F:Nat) (a:Span) (b:Int):Option Bool:=
 br (decide (a.L_<=b)) (Q3H F (decide (b<a.R_))) (Q3H F false)
def Q6i (F:Nat):Option Int:=
 some (-1:Int)
def U9 (F:Nat) (b:List Span) (d:Span->Option Bool) (c:(Int)->Option Int) (a:Int):Option Int:=
 br (decide (a<(b.length:Int))) (gd (0<=a/\a<(b.length:Int)) <|
 (d (gl b a.toNat)).bind fun e=>
 br e (some a) (gd (I64 (a+1)) <|
 c (a+1))) (Q6i F)
def Q2j (F:Nat) (a:List Span) (b:Span->Option Bool):Option Int:=
 Z6 (fun again (z:Int)=>U9 F a b again z) F (0:Int)
def Q1e (F:Nat) (a:List Span) (b:Span->Option Bool):Option Bool:=
 (Q2j F a b).bind fun c=>
 some (decide ((0:Int)<=c))
def Q4q (F:Nat) (a:List Span) (b:Int):Option Bool:=
 (Q1e F a (fun y0=>Q0n F y0 b)).bind fun c=>
 some c
def Q2r (F:Nat) (a:Int) (b:(Int×(List Span))->Option ((List Span))) (c:List Span):Option ((List Span)):=
 gd (I64 (a+1)) <|
 b ((a+1),c)
def Q4d (F:Nat) (c:List Int) (a:Int) (b:List Span) (d:(Int×(List Span))->Option ((List Span))) (e:Bool):Option ((List Span)):=
 br e (gd (I64 ((b.length:Int)-(1:Int))) <|
 gd (0<=a/\a<(c.length:Int)) <|
 gd (0<=((b.length:Int)-(1:Int))/\((b.length:Int)-(1:Int))<(b.length:Int)) <|
 Q2r F a d (List.set b ((b.length:Int)-(1:Int)).toNat (⟨(gl b ((b.length:Int)-(1:Int)).toNat).L_,(gl c a.toNat)⟩:Span))) (gd (0<=a/\a<(c.length:Int)) <|
 gd ((List.length b)+(List.length ([(⟨(gl c (a-1).toNat),(gl c a.toNat)⟩:Span)]:List Span))<=LIM) <|
 Q2r F a d (b++([(⟨(gl c (a-1).toNat),(gl c a.toNat)⟩:Span)]:List Span)))
def Q6C (F:Nat) (a:List Span):Option ((List Span)):=
 some a
def Q4e (F:Nat) (e:List Span) (i:List Span) (j:Bool->Bool->Option Bool) (c:List Int) (d:(Int×(List Span))->Option ((List Span))) (b:Int) (a:List Span):Option ((List Span)):=
 br (decide (b<(c.length:Int))) (gd (I64 (b-1)) <|
 gd (0<=(b-1)/\(b-1)<(c.length:Int)) <|
 (Q4q F e (gl c (b-1).toNat)).bind fun k=>
 (Q4q F i (gl c (b-1).toNat)).bind fun l=>
 (j k l).bind fun m=>
 br (!m) (Q2r F b d a) (br (decide ((0:Int)<(a.length:Int))) (gd (I64 ((a.length:Int)-(1:Int))) <|
 gd (0<=((a.length:Int)-(1:Int))/\((a.length:Int)-(1:Int))<(a.length:Int)) <|
 Q4d F c b a d (((gl a ((a.length:Int)-(1:Int)).toNat).R_)==(gl c (b-1).toNat))) (Q4d F c b a d false))) (Q6C F a)
def Z0k (F:Nat) (b:List Span) (c:List Span) (d:Bool->Bool->Option Bool) (a:List Int):Option ((List Span)):=
 (Z6s a).bind fun e=>
 (Q0U F e).bind fun i=>
 Z6 (fun again (z:Int×(List Span))=>Q4e F b c d i again z.1 z.2) F ((1:Int),([]:List Span))
def Q6D (F:Nat) (e:List Span) (i:List Span) (j:Bool->Bool->Option Bool) (b:List Span) (d:(Int×(List Int))->Option ((List Span))) (a:Int) (c:List Int):Option ((List Span)):=
 br (decide (a<(b.length:Int))) (gd (0<=a/\a<(b.length:Int)) <|
 gd ((List.length c)+(List.length ([(gl b a.toNat).L_,(gl b a.toNat).R_]:List Int))<=LIM) <|
 gd (I64 (a+1)) <|
 d ((a+1),(c++([(gl b a.toNat).L_,(gl b a.toNat).R_]:List Int)))) (Z0k F e i j c)
def Q7L (F:Nat) (a:List Span) (b:List Span) (c:Bool->Bool->Option Bool):Option ((List Span)):=
 (Q3F F ([a,b]:List (List Span))).bind fun d=>
 Z6 (fun again (z:Int×(List Int))=>Q6D F a b c d again z.1 z.2) F ((0:Int),([]:List Int))
def Q6G (F:Nat) (a:Int) (b:List Rect) (c:List Rect) (d:Bool->Bool->Option Bool):Option ((List Span)):=
 (Q6T F b a).bind fun e=>
 (Q6T F c a).bind fun i=>
 (Q7L F e i d).bind fun j=>
 some j
def V2 (F:Nat) (a:List Rect) (b:List Rect) (c:Bool->Bool->Option Bool):Option ((List Rect)):=
 (Q7j F ([a,b]:List (List Rect))).bind fun d=>
 (Q5C F d (fun y0=>Q6G F y0 a b c)).bind fun e=>
 some e
def Z0F (F:Nat) (a:Bool):Option Bool:=
 some a
def Q7g (F:Nat) (a:Bool) (b:Bool):Option Bool:=
 br a (Z0F F b) (Z0F F false)
def Q7B (F:Nat) (a:Bool):Option Bool:=
 some a
def Q7f (F:Nat) (a:Bool) (b:Bool):Option Bool:=
 br a (Q7B F true) (Q7B F b)
def Q6B (F:Nat) (a:Bool):Option Bool:=
 some a
def Q3E (F:Nat) (a:Bool) (b:Bool):Option Bool:=
 br a (Q6B F (!b)) (Q6B F false)
def Q1s (F:Nat) (c:TermPlace) (a:List Rect) (b:List Rect):Option Squares:=
 (V2 F c.t_ a (fun y0 y1=>Q3E F y0 y1)).bind fun d=>
 (V2 F d b (fun y0 y1=>Q3E F y0 y1)).bind fun e=>
 some (⟨a,b,e⟩:Squares)
def Q7z (F:Nat) (c:TermPlace) (a:List Rect) (b:List Rect):Option Squares:=
 (Q1s F c a b).bind fun d=>
 some d
def Q1p (F:Nat) (i:TermPlace) (b:List Squares) (e:((List Rect)×(List Rect)×Int)->Option Squares) (c:List Rect) (d:List Rect) (a:Int):Option Squares:=
 br (decide (a<(b.length:Int))) (gd (0<=a/\a<(b.length:Int)) <|
 (V2 F c ((gl b a.toNat).yes_) (fun y0 y1=>Q7g F y0 y1)).bind fun j=>
 (V2 F d ((gl b a.toNat).no_) (fun y0 y1=>Q7f F y0 y1)).bind fun k=>
 gd (I64 (a+1)) <|
 e (j,k,(a+1))) (Q7z F i c d)
def Q1U (F:Nat) (a:TermPlace) (b:List Squares):Option Squares:=
 Z6 (fun again (z:(List Rect)×(List Rect)×Int)=>Q1p F a b again z.1 z.2.1 z.2.2) F (a.t_,([]:List Rect),(0:Int))
def Q0s (F:Nat) (a:TermPlace) (b:Bool):Option Squares:=
 br b (some (⟨a.t_,[],[]⟩:Squares)) (some (⟨[],a.t_,[]⟩:Squares))
def Q9S (F:Nat) (a:Bool):Option Bool:=
 some a
def Z1B (F:Nat) (b:List Crop) (a:Int) (c:Int):Option Bool:=
 br (decide ((0:Int)<=a)) (br (decide (a<(b.length:Int))) (br (c != (0:Int)) (gd (0<=a/\a<(b.length:Int)) <|
 Q9S F ((Q5W .i64 ((gl b a.toNat).m_) c)==c)) (Q9S F false)) (Q9S F false)) (Q9S F false)
def Q7y (F:Nat) (a:Int) (b:Term):Option Bool:=
 some (a==b.num_)
def Q3u (F:Nat) (a:Int) (b:(Int×(List Rect))->Option ((List Rect))) (c:List Rect):Option ((List Rect)):=
 gd (I64 (a+1)) <|
 b ((a+1),c)
def Q3v (F:Nat) (d:List A2_) (a:Int) (b:List Rect) (c:(Int×(List Rect))->Option ((List Rect))) (e:Bool):Option ((List Rect)):=
 br e (gd ((List.length b)+(List.length ((gl d a.toNat).g_.t_))<=LIM) <|
 Q3u F a c (b++((gl d a.toNat).g_.t_))) (Q3u F a c b)
def Q9h (F:Nat) (a:List Rect):Option ((List Rect)):=
 some a
def Q5U (F:Nat) (b:List A2_) (e:Int) (i:Int->Option Bool) (d:(Int×(List Rect))->Option ((List Rect))) (a:Int) (c:List Rect):Option ((List Rect)):=
 br (decide (a<(b.length:Int))) (gd (0<=a/\a<(b.length:Int)) <|
 (Q4A F (gl b a.toNat) e).bind fun j=>
 br j ((i ((gl b a.toNat).k_)).bind fun k=>
 Q3v F b a c d k) (Q3v F b a c d false)) (Q9h F c)
def Q4B (F:Nat) (a:List A2_) (b:Int) (c:Int->Option Bool):Option ((List Rect)):=
 Z6 (fun again (z:Int×(List Rect))=>Q5U F a b c again z.1 z.2) F ((0:Int),([]:List Rect))
def Q0S (F:Nat) (b:TermPlace) (a:List Rect):Option Squares:=
 (V2 F b.t_ a (fun y0 y1=>Q3E F y0 y1)).bind fun c=>
 some (⟨a,c,[]⟩:Squares)
def Q2y (F:Nat) (a:Int) (b:TermPlace) (c:Int):Option Bool:=
 gd (0<=a/\a<(b.world_.crops_.length:Int)) <|
 some (((gl b.world_.crops_ a.toNat).f_)==c)
def Q3q (F:Nat) (a:Int) (b:(Int×(List Rect))->Option ((List Rect))) (c:List Rect):Option ((List Rect)):=
 gd (I64 (a+1)) <|
 b ((a+1),c)
def Q3r (F:Nat) (d:List Rg_) (a:Int) (b:List Rect) (c:(Int×(List Rect))->Option ((List Rect))) (e:Bool):Option ((List Rect)):=
 br e (gd ((List.length b)+(List.length ((gl d a.toNat).g_.t_))<=LIM) <|
 Q3q F a c (b++((gl d a.toNat).g_.t_))) (Q3q F a c b)
def Q9f (F:Nat) (a:List Rect):Option ((List Rect)):=
 some a
def Z2R (F:Nat) (b:List Rg_) (e:Int) (i:Int->Option Bool) (d:(Int×(List Rect))->Option ((List Rect))) (a:Int) (c:List Rect):Option ((List Rect)):=
 br (decide (a<(b.length:Int))) (gd (0<=a/\a<(b.length:Int)) <|
 br (((gl b a.toNat).y_)==e) ((i ((gl b a.toNat).c_)).bind fun j=>
 Q3r F b a c d j) (Q3r F b a c d false)) (Q9f F c)
def Q6u (F:Nat) (a:List Rg_) (b:Int) (c:Int->Option Bool):Option ((List Rect)):=
 Z6 (fun again (z:Int×(List Rect))=>Z2R F a b c again z.1 z.2) F ((0:Int),([]:List Rect))
def z8 (F:Nat) (a:TermPlace) (b:Int) (c:Int->Option Bool):Option ((List Rect)):=
 gd (I64 (a.world_.y_-b)) <|
 (Q6u F a.world_.history_ (a.world_.y_-b) c).bind fun d=>
 (V2 F a.t_ d (fun y0 y1=>Q7g F y0 y1)).bind fun e=>
 some e
def Q2x (F:Nat) (a:Int) (b:TermPlace) (c:Int):Option Bool:=
 gd (0<=a/\a<(b.world_.crops_.length:Int)) <|
 some (((gl b.world_.crops_ a.toNat).f_) != c)
def Q6P (F:Nat) (c:TermPlace) (a:List Rect) (b:List Rect):Option Squares:=
 (Q1s F c a b).bind fun d=>
 some d
def Q0R (F:Nat) (a:TermPlace) (i:Int) (e:((List Rect)×(List Rect)×Int)->Option Squares) (c:List Rect) (d:List Rect) (b:Int):Option Squares:=
 br (decide (b<i)) ((z8 F a b (fun y0=>Q2y F y0 a ((gl a.world_.crops_ a.line_.c_.toNat).f_))).bind fun j=>
 (z8 F a b (fun y0=>Q2x F y0 a ((gl a.world_.crops_ a.line_.c_.toNat).f_))).bind fun k=>
 (V2 F c j (fun y0 y1=>Q7g F y0 y1)).bind fun l=>
 (V2 F d k (fun y0 y1=>Q7f F y0 y1)).bind fun m=>
 gd (I64 (b+1)) <|
 e (l,m,(b+1))) (Q6P F a c d)
def Q3W (F:Nat) (a:TermPlace) (b:Int):Option Squares:=
 gd (0<=a.line_.c_/\a.line_.c_<(a.world_.crops_.length:Int)) <|
 Z6 (fun again (z:(List Rect)×(List Rect)×Int)=>Q0R F a b again z.1 z.2.1 z.2.2) F (a.t_,([]:List Rect),(1:Int))
def Q1o (F:Nat) (a:Int) (b:TermPlace) (c:Term):Option Bool:=
 (Z1B F b.world_.crops_ a c.more_).bind fun d=>
 some d
def Q1n (F:Nat) (a:Int) (b:TermPlace) (c:Term):Option Bool:=
 (Z1B F b.world_.crops_ a c.more_).bind fun d=>
 some (!d)
def Q9Q (F:Nat) (a:Int):Option Bool:=
 some true
def Q3X (F:Nat) (a:TermPlace) (b:Term):Option Squares:=
 br (b.op_==2) ((Q0s F a (a.line_.c_==b.num_)).bind fun c=>
 some c) (br (b.op_==3) (gd (0<=a.line_.c_/\a.line_.c_<(a.world_.crops_.length:Int)) <|
 (Q0s F a (((gl a.world_.crops_ a.line_.c_.toNat).f_)==b.num_)).bind fun d=>
 some d) (br (b.op_==4) ((Z1B F a.world_.crops_ a.line_.c_ b.num_).bind fun e=>
 (Q0s F a e).bind fun i=>
 some i) (br (b.op_==5) ((Q4B F a.world_.zones_ a.world_.day_ (fun y0=>Q7y F y0 b)).bind fun j=>
 (V2 F a.t_ j (fun y0 y1=>Q7g F y0 y1)).bind fun k=>
 (Q0S F a k).bind fun l=>
 some l) (br (b.op_==6) ((Q3W F a b.num_).bind fun m=>
 some m) (br (b.op_==7) ((z8 F a b.num_ (fun y0=>Q1o F y0 a b)).bind fun n=>
 (z8 F a b.num_ (fun y0=>Q1n F y0 a b)).bind fun o=>
 (Q1s F a n o).bind fun p=>
 some p) (br (b.op_==8) ((z8 F a b.num_ (fun y0=>Q9Q F y0)).bind fun q=>
 (Q0S F a q).bind fun s=>
 some s) ((Q0s F a true).bind fun t=>
 some t)))))))
def Q1T (F:Nat) (rc:TermPlace->Term->Option Squares) (a:Int) (b:List Squares) (i:(Int×(List Squares))->Option Squares) (c:List Rect) (d:List Rect) (e:List Rect):Option Squares:=
 gd ((List.length b)+(List.length ([(⟨c,d,e⟩:Squares)]:List Squares))<=LIM) <|
 gd (I64 (a+1)) <|
 i ((a+1),(b++([(⟨c,d,e⟩:Squares)]:List Squares)))
def Q6Q (F:Nat) (rc:TermPlace->Term->Option Squares) (c:TermPlace) (b:Term) (a:List Squares):Option Squares:=
 br (b.op_==9) ((Q1U F c a).bind fun d=>
 some d) (br (b.op_==10) ((Q1U F c a).bind fun e=>
 (Q7d F e).bind fun i=>
 some i) (br (b.op_==11) (gd (0<=(0:Int)/\(0:Int)<(a.length:Int)) <|
 some (gl a (0:Int).toNat)) ((Q3X F c b).bind fun j=>
 some j)))
def Q0q (F:Nat) (rc:TermPlace->Term->Option Squares) (j:TermPlace) (b:Term) (i:(Int×(List Squares))->Option Squares) (a:Int) (d:List Squares):Option Squares:=
 br (decide (a<(b.kids_.length:Int))) (gd (0<=a/\a<(b.kids_.length:Int)) <|
 gd (I64 (gl b.kids_ a.toNat).op_) <|
 (rc j (gl b.kids_ a.toNat)).bind fun c=>
 br (b.op_ != (9:Int)) ((Q7d F c).bind fun e=>
 Q1T F rc a d i e.yes_ e.no_ e.open_) (Q1T F rc a d i c.yes_ c.no_ c.open_)) (Q6Q F rc j b d)
def Q2z (F:Nat) (rc:TermPlace->Term->Option Squares) (a:TermPlace) (b:Term):Option Squares:=
 Z6 (fun again (z:Int×(List Squares))=>Q0q F rc a b again z.1 z.2) F ((0:Int),([]:List Squares))
def J7:Nat->TermPlace->Term->Option Squares
 | 0=>fun _ _=>none
 | F+1=>Q2z F (J7 F)
def Q5a (F:Nat) (a:List Rect):Option Re_:=
 (Q1q F a).bind fun b=>
 some (⟨b⟩:Re_)
def Z2v (F:Nat) (c:Term) (b:Line) (d:Int) (e:List Crop) (i:List Rg_) (j:List A2_) (k:Int):Option (Truth×Int):=
 (Q3f F (⟨(⟨d,e,i,j,k⟩:TermWorld),b,b.g_.t_⟩:TermPlace) c).bind fun l=>
 br (l != (0:Int)) (some ((⟨(⟨[]⟩:Re_),(⟨[]⟩:Re_),(⟨[]⟩:Re_)⟩:Truth),l)) ((J7 F (⟨(⟨d,e,i,j,k⟩:TermWorld),b,b.g_.t_⟩:TermPlace) c).bind fun a=>
 br (decide ((120:Int)<(Q0A (Q0A (a.yes_.length:Int) (a.no_.length:Int)) (a.open_.length:Int)))) (some ((⟨(⟨[]⟩:Re_),(⟨[]⟩:Re_),(⟨[]⟩:Re_)⟩:Truth),(1:Int))) ((Q5a F a.yes_).bind fun m=>
 (Q5a F a.no_).bind fun n=>
 (Q5a F a.open_).bind fun o=>
 some ((⟨m,n,o⟩:Truth),(0:Int))))
def J6 (F:Nat) (a:Int) (b:(Int)->Option Bool) (c:Bool):Option Bool:=
 br c (some false) (gd (I64 (a+1)) <|
 b (a+1))
def Q3G (F:Nat) (a:Bool):Option Bool:=
 some a
def Q6S (F:Nat) (a:List Bracket):Option Bool:=
 br (decide ((1:Int)<=(a.length:Int))) (Q3G F (decide ((a.length:Int)<=(6:Int)))) (Q3G F false)
def Q0r (F:Nat) (b:List Bracket) (c:(Int)->Option Bool) (a:Int):Option Bool:=
 br (decide (a<(b.length:Int))) (gd (0<=a/\a<(b.length:Int)) <|
 br (decide (((gl b a.toNat).up_)<1)) (J6 F a c true) (br (decide ((268435456:Int)<((gl b a.toNat).up_))) (J6 F a c true) (br (decide (((gl b a.toNat).rate_)<0)) (J6 F a c true) (br (decide ((1048576:Int)<((gl b a.toNat).rate_))) (J6 F a c true) (br (decide ((0:Int)<a)) (gd (I64 (a-1)) <|
 gd (0<=(a-1)/\(a-1)<(b.length:Int)) <|
 J6 F a c (decide (((gl b a.toNat).up_)<=((gl b (a-1).toNat).up_)))) (J6 F a c false)))))) (Q6S F b)
def Q4c (F:Nat) (a:List Bracket):Option Bool:=
 Z6 (fun again (z:Int)=>Q0r F a again z) F (0:Int)
def Q1u (F:Nat) (a:Bool):Option Int:=
 br a (some (3:Int)) (some (0:Int))
def Q1v (F:Nat) (a:Scheme) (c:Bool):Option Int:=
 br c (some (2:Int)) ((Q8G F a.n_).bind fun d=>
 br (!d) (some (5:Int)) ((Q8K F a.cond_).bind fun b=>
 br (b != (0:Int)) (some b) ((Q4c F a.brackets_).bind fun e=>
 br (!e) (Q1u F true) (br (decide (a.excludes_<0)) (Q1u F true) (br (decide ((65536:Int)<=a.excludes_)) (Q1u F true) (gd (0<=a.N_) <|
 Q1u F ((Q5W .i64 (a.excludes_.fdiv (2 ^ (min (a.N_).toNat (IntKind.bits .i64)))) (1:Int))==1)))))))
def Q7J (F:Nat) (a:Scheme):Option Int:=
 br (decide (a.N_<0)) (Q1v F a true) (br (decide ((15:Int)<a.N_)) (Q1v F a true) (br (decide (a.least_<0)) (Q1v F a true) (Q1v F a (decide ((268435456:Int)<a.least_)))))
def Z1R (F:Nat) (a:Bool):Option Int:=
 br a (some (2:Int)) (some (0:Int))
def Q6N (F:Nat) (c:List A2_) (d:Int) (a:Int) (e:Re_):Option Int:=
 (Q9i F c d).bind fun b=>
 br (b.2 != (0:Int)) (some b.2) ((y4 F e).bind fun i=>
 br (!i) (some (7:Int)) (br (decide (a<0)) (Z1R F true) (Z1R F (decide ((268435456:Int)<a)))))
def Q2v (F:Nat) (a:Bool):Option Int:=
 br a (some (1:Int)) (some (2:Int))
def Q0m (F:Nat) (a:Int) (b:Bool):Option Int:=
 br b (some (0:Int)) (br (a==8) (Q2v F (a==8)) (br (a==9) (Q2v F (a==9)) (br (a==10) (Q2v F (a==10)) (Q2v F (a==11)))))
def Z2o (F:Nat) (a:Int):Option Int:=
 br (a==0) (Q0m F a (a==0)) (br (a==1) (Q0m F a (a==1)) (br (a==2) (Q0m F a (a==2)) (br (a==3) (Q0m F a (a==3)) (br (a==4) (Q0m F a (a==4)) (br (a==5) (Q0m F a (a==5)) (br (a==6) (Q0m F a (a==6)) (Q0m F a (a==7))))))))
def Z2p (F:Nat) (a:Int) (b:Int):Option Bool:=
 (Z2o F a).bind fun c=>
 some (c==b)
def Q1X (F:Nat) (a:List Rect):Option (Re_×Int):=
 br (decide ((120:Int)<(a.length:Int))) (some ((⟨[]⟩:Re_),(1:Int))) (some ((⟨a⟩:Re_),(0:Int)))
def Q0C (F:Nat) (b:List Rect):Option (Re_×Int):=
 (Q1Q F b).bind fun c=>
 (Q1X F c).bind fun a=>
 some (a.1,a.2)
def Z5E (F:Nat) (b:List A2_) (c:Int) (d:Int):Option (Re_×Int):=
 (Q4B F b c (fun y0=>Z2p F y0 d)).bind fun e=>
 (Q0C F e).bind fun a=>
 some (a.1,a.2)
def Z2r (F:Nat) (a:List A2_) (b:Int):Option (Re_×Int):=
 (Q6N F a b (0:Int) (⟨[]⟩:Re_)).bind fun c=>
 br (c != (0:Int)) (some ((⟨[]⟩:Re_),c)) ((Z5E F a b (0:Int)).bind fun d=>
 some (d.1,d.2))
def Z0U (F:Nat) (a:Bool):Option Bool:=
 some a
def Z4q (F:Nat) (a:Bool) (b:Bool):Option Bool:=
 br a (Z0U F b) (Z0U F false)
def Z0c (F:Nat) (a:Int):Option Int:=
 some a
def Q4a (F:Nat) (a:Rect) (b:Rect) (c:Int) (d:Bool):Option Int:=
 br d (gd (I64 ((Q5S a.R_ b.R_)-(Q0A a.L_ b.L_))) <|
 gd (I64 (c+(Q0A (0:Int) ((Q5S a.R_ b.R_)-(Q0A a.L_ b.L_))))) <|
 Z0c F (c+(Q0A (0:Int) ((Q5S a.R_ b.R_)-(Q0A a.L_ b.L_))))) (Z0c F c)
def Q2q (F:Nat) (a:Rect) (b:Rect) (c:Int):Option Int:=
 br (a.H_==b.w_) (Q4a F a b c true) (Q4a F a b c (b.H_==a.w_))
def Q4b (F:Nat) (a:Rect) (b:Rect) (c:Bool):Option Int:=
 br c (gd (I64 ((Q5S a.H_ b.H_)-(Q0A a.w_ b.w_))) <|
 gd (I64 ((0:Int)+(Q0A (0:Int) ((Q5S a.H_ b.H_)-(Q0A a.w_ b.w_))))) <|
 Q2q F a b ((0:Int)+(Q0A (0:Int) ((Q5S a.H_ b.H_)-(Q0A a.w_ b.w_))))) (Q2q F a b (0:Int))
def Q7G (F:Nat) (a:Rect) (b:Rect):Option Int:=
 br (a.R_==b.L_) (Q4b F a b true) (Q4b F a b (b.R_==a.L_))
def Q7H (F:Nat) (a:Bool) (b:List Rect):Option ((List Rect)×Bool):=
 some (b,a)
def Q4O (F:Nat) (c:Rect) (b:List Rect) (a:Bool):Option ((List Rect)×Bool):=
 br a (gd ((List.length b)+(List.length ([c]:List Rect))<=LIM) <|
 Q7H F a (b++([c]:List Rect))) (Q7H F a b)
def Q3g (F:Nat) (c:Rect) (a:List Rect) (b:Int):Option ((List Rect)×Bool):=
 gd (0<=b/\b<(a.length:Int)) <|
 (Q7G F (gl a b.toNat) c).bind fun d=>
 Q4O F c a (decide ((0:Int)<d))
def Q1C (F:Nat) (a:List Rect):Option ((List Rect)):=
 brN (List.length a) (some ([]:List Rect)) (gd ((0)+(List.length a)<=LIM) <|
 some (([]:List Rect)++a))
def Q5c (F:Nat) (b:List Rect) (a:List Rect):Option ((List Rect)×(List Rect)×Int):=
 some (b,a,(-1:Int))
def Q5d (F:Nat) (b:List Rect) (i:Int) (e:(Int×(List Rect))->Option ((List Rect)×(List Rect)×Int)) (a:Int) (d:List Rect):Option ((List Rect)×(List Rect)×Int):=
 br (decide (a<(b.length:Int))) (gd (0<=a/\a<(b.length:Int)) <|
 (Q3g F (gl b a.toNat) d i).bind fun c=>
 br c.2 (some (b,c.1,a)) (gd (I64 (a+1)) <|
 e ((a+1),c.1))) (Q5c F b d)
def Q0t (F:Nat) (a:List Rect) (b:List Rect) (c:Int):Option ((List Rect)×(List Rect)×Int):=
 Z6 (fun again (z:Int×(List Rect))=>Q5d F a c again z.1 z.2) F ((0:Int),b)
def G2 (F:Nat) (a:Int) (b:(Int×Int×(List Rect)×(List Rect))->Option ((List Rect)×(List Rect))) (c:Int) (d:List Rect) (e:List Rect):Option ((List Rect)×(List Rect)):=
 gd (I64 (a+1)) <|
 b (c,(a+1),d,e)
def Q1G (F:Nat) (a:Int) (b:List Rect) (c:List Rect):Option ((List Rect)×(List Rect)):=
 gd (0<=a/\a<=(((List.length b):Nat):Int)/\((0:Nat):Int)+(((List.length b):Nat):Int)<=(b.length:Int)) <|
 gd (0<=a/\a<=((List.length (clr b (0+(a).toNat) ((List.length b)-(a).toNat)):Nat):Int)) <|
 some (c,((clr b (0+(a).toNat) ((List.length b)-(a).toNat)).take (a).toNat))
def Q4N (F:Nat) (j:Int) (e:(Int×Int×(List Rect)×(List Rect))->Option ((List Rect)×(List Rect))) (b:Int) (c:Int) (a:List Rect) (i:List Rect):Option ((List Rect)×(List Rect)):=
 br (decide (c<(a.length:Int))) (gd (0<=c/\c<(a.length:Int)) <|
 (Q3g F (gl a c.toNat) i j).bind fun d=>
 br (!d.2) (gd (0<=b/\b<(a.length:Int)) <|
 gd (I64 (b+1)) <|
 G2 F c e (b+1) (List.set a b.toNat (gl a c.toNat)) d.1) (G2 F c e b a d.1)) (Q1G F b a i)
def Q0j (F:Nat) (c:List Rect) (d:List Rect) (b:Int):Option ((List Rect)×(List Rect)):=
 (Q0t F c d b).bind fun a=>
 br (a.2.2==(-1:Int)) (some (a.2.1,a.1)) (gd (I64 (a.2.2+(1:Int))) <|
 Z6 (fun again (z:Int×Int×(List Rect)×(List Rect))=>Q4N F b again z.1 z.2.1 z.2.2.1 z.2.2.2) F (a.2.2,(a.2.2+(1:Int)),a.1,a.2.1))
def Z0d (F:Nat) (a:List Rect) (b:List Rect):Option ((List Rect)×(List Rect)):=
 some (b,a)
def Z0e (F:Nat) (c:List Rect) (a:Int) (b:List Rect) (e:((List Rect)×Int×(List Rect))->Option ((List Rect)×(List Rect))):Option ((List Rect)×(List Rect)):=
 br (decide (a<(b.length:Int))) ((Q0j F c b a).bind fun d=>
 gd (I64 (a+1)) <|
 e (d.2,(a+1),d.1)) (Z0d F c b)
def Z3Q (F:Nat) (a:((List Rect)×Int×(List Rect))->Option ((List Rect)×(List Rect))) (b:List Rect) (c:Int) (d:List Rect):Option ((List Rect)×(List Rect)):=
 Z0e F b c d a
def Q7I (F:Nat) (a:List Rect):Option ((List Rect)×(List Rect)):=
 gd ((1:Int)<=(a.length:Int)) <|
 gd (0<=(1:Int)/\(1:Int)<=(a.length:Int)) <|
 (Q1C F (a.drop (1:Int).toNat)).bind fun b=>
 Z6 (fun again (z:(List Rect)×Int×(List Rect))=>Z3Q F again z.1 z.2.1 z.2.2) F (b,(0:Int),(a.take ((1:Int)).toNat))
def Z4K (F:Nat) (a:Int):Option Int:=
 some a
def Z4L (F:Nat) (b:List Rect) (d:(Int×Int)->Option Int) (c:Int) (a:Int):Option Int:=
 br (decide (a<(b.length:Int))) (gd (0<=a/\a<(b.length:Int)) <|
 gd (I64 (((gl b a.toNat).R_)-((gl b a.toNat).L_))) <|
 gd (I64 (((gl b a.toNat).H_)-((gl b a.toNat).w_))) <|
 gd (I64 ((((gl b a.toNat).R_)-((gl b a.toNat).L_))*(((gl b a.toNat).H_)-((gl b a.toNat).w_)))) <|
 gd (I64 (c+((((gl b a.toNat).R_)-((gl b a.toNat).L_))*(((gl b a.toNat).H_)-((gl b a.toNat).w_))))) <|
 gd (I64 (a+1)) <|
 d ((c+((((gl b a.toNat).R_)-((gl b a.toNat).L_))*(((gl b a.toNat).H_)-((gl b a.toNat).w_)))),(a+1))) (Z4K F c)
def Q9D (F:Nat) (a:List Rect):Option Int:=
 Z6 (fun again (z:Int×Int)=>Z4L F a again z.1 z.2) F ((0:Int),(0:Int))
def Z3g (F:Nat) (b:List Rect):Option (Re_×Int):=
 (Q0C F b).bind fun a=>
 some (a.1,a.2)
def Z7y (F:Nat) (e:Int) (c:((List Rect)×(List Rect))->Option (Re_×Int)) (d:List Rect) (b:List Rect):Option (Re_×Int):=
 br (decide ((0:Int)<(d.length:Int))) ((Q7I F d).bind fun a=>
 (Q9D F a.1).bind fun i=>
 br (decide (e<i)) (gd ((List.length b)+(List.length a.1)<=LIM) <|
 c (a.2,(b++a.1))) (c (a.2,b))) (Z3g F b)
def Z2q (F:Nat) (b:List A2_) (c:Int) (d:Int) (e:Re_):Option (Re_×Int):=
 (Q6N F b c d e).bind fun i=>
 br (i != (0:Int)) (some ((⟨[]⟩:Re_),i)) ((Z5E F b c (1:Int)).bind fun a=>
 br (a.2 != (0:Int)) (some ((⟨[]⟩:Re_),a.2)) ((V2 F a.1.t_ e.t_ (fun y0 y1=>Z4q F y0 y1)).bind fun j=>
 br (decide ((120:Int)<(j.length:Int))) (some ((⟨[]⟩:Re_),(1:Int))) (Z6 (fun again (z:(List Rect)×(List Rect))=>Z7y F d again z.1 z.2) F (j,([]:List Rect)))))
def Q4G (F:Nat) (a:List Rect):Option ((List Rect)):=
 some a
def K5 (F:Nat) (b:(List (List Rect))) (d:(Int×(List Rect))->Option ((List Rect))) (a:Int) (c:List Rect):Option ((List Rect)):=
 br (decide (a<(b.length:Int))) (gd (0<=a/\a<(b.length:Int)) <|
 gd ((List.length c)+(List.length (gl b a.toNat))<=LIM) <|
 gd (I64 (a+1)) <|
 d ((a+1),(c++(gl b a.toNat)))) (Q4G F c)
def Q2m (F:Nat) (b:(List (List Rect))) (a:Int):Option ((List Rect)):=
 (Z9G a).bind fun c=>
 Z6 (fun again (z:Int×(List Rect))=>K5 F b again z.1 z.2) F ((0:Int),c)
def K6 (F:Nat) (b:(List (List Rect))) (d:(Int×Int)->Option ((List Rect))) (c:Int) (a:Int):Option ((List Rect)):=
 br (decide (a<(b.length:Int))) (gd (0<=a/\a<(b.length:Int)) <|
 gd (I64 (c+((List.length (gl b a.toNat):Nat):Int))) <|
 br (decide ((c+((List.length (gl b a.toNat):Nat):Int))<0)) (none) (gd (I64 (a+1)) <|
 d ((c+((List.length (gl b a.toNat):Nat):Int)),(a+1)))) (Q2m F b c)
def Q1V (F:Nat) (a:(List (List Rect))):Option ((List Rect)):=
 Z6 (fun again (z:Int×Int)=>K6 F a again z.1 z.2) F ((0:Int),(0:Int))
def Q6O (F:Nat) (a:Bool):Option Bool:=
 some a
def Q9X (F:Nat) (a:Bool) (b:Bool):Option Bool:=
 br a (Q6O F (!b)) (Q6O F false)
def Q4m (F:Nat) (a:Re_) (b:List A2_) (c:Int) (i:Int):Option (Re_×Int):=
 (Q6N F b c i a).bind fun j=>
 br (j != (0:Int)) (some ((⟨[]⟩:Re_),j)) ((Z2r F b c).bind fun d=>
 br (d.2 != (0:Int)) (some ((⟨[]⟩:Re_),d.2)) ((Z2q F b c i a).bind fun e=>
 br (e.2 != (0:Int)) (some ((⟨[]⟩:Re_),e.2)) ((Q1V F ([d.1.t_,e.1.t_]:List (List Rect))).bind fun l=>
 (V2 F a.t_ l (fun y0 y1=>Q9X F y0 y1)).bind fun m=>
 (Q1X F m).bind fun k=>
 some (k.1,k.2))))
def Q3J (F:Nat) (a:Bool):Option Bool:=
 some a
def Q4f (F:Nat) (a:Bool) (b:Bool):Option Bool:=
 br a (Q3J F (!b)) (Q3J F false)
def Q3h (F:Nat) (a:Bool):Option Bool:=
 some a
def Q6l (F:Nat) (a:Re_) (b:Re_):Option Bool:=
 (y4 F a).bind fun c=>
 br c ((y4 F b).bind fun d=>
 br d ((V2 F a.t_ b.t_ (fun y0 y1=>Q4f F y0 y1)).bind fun e=>
 Q3h F ((e.length:Int)==(0:Int))) (Q3h F false)) (Q3h F false)
def Q7p (F:Nat) (a:List Rect) (b:List Rect) (c:List Rect):Option (Truth×Int):=
 some ((⟨(⟨a⟩:Re_),(⟨b⟩:Re_),(⟨c⟩:Re_)⟩:Truth),(0:Int))
def Q0x (F:Nat) (a:Arr3ListRect):Option (Truth×Int):=
 (Q0C F a.e0_).bind fun b=>
 br (b.2 != (0:Int)) (some ((⟨(⟨[]⟩:Re_),(⟨[]⟩:Re_),(⟨[]⟩:Re_)⟩:Truth),b.2)) (gd (I64 ((0:Int)+(1:Int))) <|
 (Q0C F a.e1_).bind fun c=>
 br (c.2 != (0:Int)) (some ((⟨(⟨[]⟩:Re_),(⟨[]⟩:Re_),(⟨[]⟩:Re_)⟩:Truth),c.2)) (gd (I64 ((1:Int)+(1:Int))) <|
 (Q0C F a.e2_).bind fun d=>
 br (d.2 != (0:Int)) (some ((⟨(⟨[]⟩:Re_),(⟨[]⟩:Re_),(⟨[]⟩:Re_)⟩:Truth),d.2)) (gd (I64 ((2:Int)+(1:Int))) <|
 Q7p F b.1.t_ c.1.t_ d.1.t_)))
def Q5V (F:Nat) (a:Bool):Option Bool:=
 some a
def Q4C (F:Nat) (a:Bool) (b:Bool):Option Bool:=
 br a (Q5V F b) (Q5V F false)
def Q3e (F:Nat) (a:Bool):Option Bool:=
 some a
def Q3x (F:Nat) (a:Bool) (b:Bool):Option Bool:=
 br a (Q3e F (!b)) (Q3e F false)
def Q0l (F:Nat) (b:Line) (i:Re_) (c:Scheme) (a:World):Option (Truth×Int):=
 (y4 F i).bind fun n=>
 br (!n) (some ((⟨(⟨[]⟩:Re_),(⟨[]⟩:Re_),(⟨[]⟩:Re_)⟩:Truth),(7:Int))) ((Z2v F c.cond_ b a.y_ a.crops_ a.history_ a.zones_ a.day_).bind fun d=>
 br (d.2 != (0:Int)) (some ((⟨(⟨[]⟩:Re_),(⟨[]⟩:Re_),(⟨[]⟩:Re_)⟩:Truth),d.2)) ((Q7J F c).bind fun o=>
 br (o != (0:Int)) (some ((⟨(⟨[]⟩:Re_),(⟨[]⟩:Re_),(⟨[]⟩:Re_)⟩:Truth),(17:Int))) ((Q4m F i a.zones_ a.day_ a.most_).bind fun e=>
 br (e.2 != (0:Int)) (some ((⟨(⟨[]⟩:Re_),(⟨[]⟩:Re_),(⟨[]⟩:Re_)⟩:Truth),e.2)) ((Q6l F b.g_ i).bind fun p=>
 br (!p) (some ((⟨(⟨[]⟩:Re_),(⟨[]⟩:Re_),(⟨[]⟩:Re_)⟩:Truth),(12:Int))) (gd (0<=c.N_) <|
 br ((Q5W .i64 (b.s_.fdiv (2 ^ (min (c.N_).toNat (IntKind.bits .i64)))) (1:Int))==0) ((Q0x F (⟨[],b.g_.t_,[]⟩:Arr3ListRect)).bind fun j=>
 some (j.1,j.2)) ((V2 F d.1.true_.t_ e.1.t_ (fun y0 y1=>Q4C F y0 y1)).bind fun k=>
 (V2 F d.1.unknown_.t_ e.1.t_ (fun y0 y1=>Q4C F y0 y1)).bind fun l=>
 (Q1V F ([k,l]:List (List Rect))).bind fun q=>
 (V2 F b.g_.t_ q (fun y0 y1=>Q3x F y0 y1)).bind fun s=>
 (Q0x F (⟨k,s,l⟩:Arr3ListRect)).bind fun m=>
 some (m.1,m.2)))))))
def Q8l (F:Nat) (a:Bool):Option Bool:=
 some a
def Q9M (F:Nat):Option Bool:=
 (Q0l F (⟨(1:Int),(⟨([(⟨0,0,(10:Int),(1:Int)⟩:Rect)]:List Rect)⟩:Re_),0,(1:Int)⟩:Line) (⟨([(⟨0,0,(10:Int),(1:Int)⟩:Rect)]:List Rect)⟩:Re_) (⟨0,(ByteArray.mk #[115]),(⟨(1:Int),0,0,[]⟩:Term),([(⟨(10:Int),(1:Int)⟩:Bracket)]:List Bracket),0,0,false⟩:Scheme) (⟨0,([(⟨(ByteArray.mk #[114,121,101]),0,0⟩:Crop)]:List Crop),[],([(⟨(1:Int),0,0,(9:Int),(⟨([(⟨(3:Int),0,(5:Int),(1:Int)⟩:Rect)]:List Rect)⟩:Re_)⟩:A2_)]:List A2_),0,0⟩:World)).bind fun a=>
 br (a.2==(0:Int)) ((Q8V F a.1.true_).bind fun b=>
 br (b==8) ((Q8V F a.1.false_).bind fun c=>
 Q8l F (c==2)) (Q8l F false)) (Q8l F false)
def Q6V (F:Nat) (a:Re_) (b:Re_):Option Bool:=
 (Q7k F a.t_ b.t_).bind fun c=>
 some c
def Q5G (F:Nat) (c:Re_) (d:Re_) (e:Int) (b:Bool):Option (Re_×Int):=
 br b (some ((⟨[]⟩:Re_),(7:Int))) ((U3 F c.t_ d.t_ e).bind fun i=>
 (Q7l F i).bind fun a=>
 some (a.1,a.2))
def Q2U (F:Nat) (a:Re_) (b:Re_) (c:Int):Option (Re_×Int):=
 (Q0N F a).bind fun d=>
 br (!d) (Q5G F a b c true) ((Q0N F b).bind fun e=>
 Q5G F a b c (!e))
def Q8U (F:Nat) (b:Re_) (c:Re_):Option (Re_×Int):=
 (Q2U F b c (2:Int)).bind fun a=>
 some (a.1,a.2)
def Q4w (F:Nat) (b:Re_) (c:Re_):Option (Re_×Int):=
 (Q2U F b c (3:Int)).bind fun a=>
 some (a.1,a.2)
def Q3C (F:Nat) (b:Re_) (c:Re_):Option (Re_×Int):=
 (Q2U F b c (1:Int)).bind fun a=>
 some (a.1,a.2)
def V5 (F:Nat) (a:Int) (b:(Int)->Option Bool) (c:Bool):Option Bool:=
 br c (some false) (gd (I64 (a+1)) <|
 b (a+1))
def Q3R (F:Nat) (a:Int) (b:(Int)->Option Bool):Option Bool:=
 gd (I64 (a+1)) <|
 b (a+1)
def Q0E (F:Nat) (d:Tape×(List Line)×(List Int)×(List Re_)) (e:List Re_) (i:Tape×(List Scheme)) (j:Tape×World) (a:Int) (q:Re_×Int) (s:Re_×Int) (p:(Int)->Option Bool) (c:(Int)->Option Bool) (b:Int):Option Bool:=
 br (decide (b<(i.2.length:Int))) (gd (0<=b/\b<(i.2.length:Int)) <|
 gd (0<=a/\a<(e.length:Int)) <|
 (Q0l F (gl d.2.1 a.toNat) (gl e a.toNat) (gl i.2 b.toNat) j.2).bind fun k=>
 gd (0<=a/\a<(e.length:Int)) <|
 (Q0l F (⟨(gl d.2.1 a.toNat).p_,q.1,(gl d.2.1 a.toNat).c_,(gl d.2.1 a.toNat).s_⟩:Line) (gl e a.toNat) (gl i.2 b.toNat) j.2).bind fun l=>
 gd (0<=a/\a<(e.length:Int)) <|
 (Q0l F (⟨(gl d.2.1 a.toNat).p_,s.1,(gl d.2.1 a.toNat).c_,(gl d.2.1 a.toNat).s_⟩:Line) (gl e a.toNat) (gl i.2 b.toNat) j.2).bind fun m=>
 (Q3C F l.1.true_ m.1.true_).bind fun n=>
 (Q3C F l.1.unknown_ m.1.unknown_).bind fun o=>
 br (k.2 != (0:Int)) (V5 F b c true) (br (l.2 != (0:Int)) (V5 F b c true) (br (m.2 != (0:Int)) (V5 F b c true) (br (n.2 != (0:Int)) (V5 F b c true) (br (o.2 != (0:Int)) (V5 F b c true) ((Q6V F n.1 k.1.true_).bind fun t=>
 br (!t) (V5 F b c true) ((Q6V F o.1 k.1.unknown_).bind fun u=>
 V5 F b c (!u)))))))) (Q3R F a p)
def Q3Q (F:Nat):Option Bool:=
 (Q9M F).bind fun a=>
 some a
def Q0F (F:Nat) (c:Int) (b:Tape×(List Line)×(List Int)×(List Re_)) (e:List Re_) (i:Tape×(List Scheme)) (j:Tape×World) (d:(Int)->Option Bool) (a:Int):Option Bool:=
 br (decide (a<(b.2.1.length:Int))) (gd (0<=a/\a<(b.2.1.length:Int)) <|
 (Q8U F ((gl b.2.1 a.toNat).g_) (⟨([(⟨0,0,((1:Int)+(c.tmod (28:Int))),(20:Int)⟩:Rect)]:List Rect)⟩:Re_)).bind fun k=>
 (Q4w F ((gl b.2.1 a.toNat).g_) (⟨([(⟨0,0,((1:Int)+(c.tmod (28:Int))),(20:Int)⟩:Rect)]:List Rect)⟩:Re_)).bind fun l=>
 Z6 (fun again (z:Int)=>Q0E F b e i j a k l d again z) F (0:Int)) (Q3Q F)
def Q1D (F:Nat) (e:List Int) (b:Int):Option Bool:=
 (Z2P F e).bind fun i=>
 (Q2u F i).bind fun c=>
 (Q2t F c.1 c.2 (2:Int)).bind fun a=>
 (Q5N F a.2.1 a.2.2.2).bind fun j=>
 (Q4z F a.1 (2:Int)).bind fun d=>
 (Q2s F d.1 c.2).bind fun k=>
 gd (I64 b) <|
 gd ((28:Int)≠0) <|
 gd (I64 ((1:Int)+(b.tmod (28:Int)))) <|
 Z6 (fun again (z:Int)=>Q0F F b a j d k again z) F (0:Int)
end
end Go.Ab
end
section
end
section
end
section
end
section
end
section
end
section
namespace Go.Ab
def BIG:Nat:=1099511627776
theorem Z3 {R:Type} {p:Prop} [Decidable p] {x:Option R} {y:Option R} (h:p) (k:x=y):gd p x=y:=by unfold gd;rw [if_pos h];exact k
theorem Q4 {α R:Type} {x:Option α} {f:α->Option R} {a:α} {y:Option R} (h:x=some a) (k:f a=y):x.bind f=y:=by rw [h];exact k
theorem Q8 {R:Type} {b:Bool} {x y z:Option R} (ht:b=true->x=z) (hf:b=false->y=z):br b x y=z:=by cases b;exact hf rfl;exact ht rfl
theorem Z8 {R:Type} {b:Bool} {x y z:Option R} (h:b=true) (k:x=z):br b x y=z:=by subst h;exact k
theorem Q9 {R:Type} {b:Bool} {x y z:Option R} (h:b=false) (k:y=z):br b x y=z:=by subst h;exact k
theorem Y8W {R:Type} (b:Bool) (x y:Option R):br b x y=if b=true then x else y:=by cases b <;> rfl
theorem Y7 {σ R:Type} {body:(σ->Option R)->σ->Option R} {y:Option R} (I:σ->Prop) (μ:σ->Nat)
  (round:∀ again z,I z->(∀ z',I z' -> μ z' < μ z->again z'=y)->body again z=y):∀ {n:Nat} {z:σ},I z->μ z<n->Z6 body n z=y:=by
 intro n
 induction n with
 | zero=>intro z _ h;omega
 | succ n ih=>
  intro z hz hμ;exact round (Z6 body n) z hz fun z' hz' hlt=>ih hz' (by omega)
section
variable {α:Type} [Emb α]
theorem z7 {l:List α} {i:Nat} (h:i<l.length):gl l i=l[i]:=by simp [gl,List.getD_eq_getElem?_getD,h]
theorem V6 {l:List α} {i:Nat} (h:i<l.length):gl l i ∈ l:=by rw [z7 h];exact List.getElem_mem h
theorem Q1I {l:List α} {i:Nat} (h:i<l.length):l.drop i=gl l i::l.drop (i+1):=by rw [z7 h];exact List.drop_eq_getElem_cons h
theorem y3 {l:List α} {i:Nat} (h:i<l.length):l.take (i+1)=l.take i++[gl l i]:=by rw [z7 h];exact List.take_succ_eq_append_getElem h
end
theorem Y3 {n:Int} (h1 : -4611686018427387904<=n) (h2:n<=4611686018427387904):I64 n:=⟨by omega,by omega⟩
theorem Y3Y {α R:Type} [Emb α] {l:List α} {body:(Int->Option R)->Int->Option R} (y:List α->Option R)
  (step:∀ again (i:Nat),i<l.length->again ((i:Int)+1)=y (l.drop (i+1))->body again (i:Int)=y (gl l i::l.drop (i+1)))
  (stop:∀ again,body again (l.length:Int)=y []) {F:Nat} (hF:l.length<F):Z6 body F 0=y l:=by
 have key:∀ (n:Nat) (i:Nat),i<=l.length->l.length-i<n->Z6 body n (i:Int)=y (l.drop i):=by
  intro n
  induction n with
  | zero=>intro i _ h;omega
  | succ n ih=>
   intro i hi hn;show body (Z6 body n) (i:Int)=_
   by_cases h:i<l.length
   ·rw [Q1I h]
    refine step _ i h ?_;have:=ih (i+1) h (by omega)
    rw [<-this];congr 1
   ·have:i=l.length:=by omega
    subst this;rw [List.drop_length];exact stop _
 have:=key F 0 (Nat.zero_le _) (by omega)
 rw [List.drop_zero] at this;exact this
theorem Z1q {α σ R:Type} [Emb α] {l:List α} {body:(Int×σ->Option R)->Int×σ->Option R} (I:List α->σ->Prop) (y:List α->σ->Option R)
  (step:∀ again (i:Nat) (s:σ),i<l.length->I (gl l i::l.drop (i+1)) s->(∀ s',I (l.drop (i+1)) s' -> again ((i:Int)+1,s')=y (l.drop (i+1)) s')->body again ((i:Int),s)=y (gl l i::l.drop (i+1)) s)
  (stop:∀ again (s:σ),I [] s->body again ((l.length:Int),s)=y [] s) {F:Nat} (hF:l.length<F) {s0:σ} (h0:I l s0):Z6 body F (0,s0)=y l s0:=by
 have key:∀ (n:Nat) (i:Nat) (s:σ),i<=l.length->l.length-i<n->I (l.drop i) s->Z6 body n ((i:Int),s)=y (l.drop i) s:=by
  intro n
  induction n with
  | zero=>intro i _ _ h;omega
  | succ n ih=>
   intro i s hi hn hI;show body (Z6 body n) ((i:Int),s)=_
   by_cases h:i<l.length
   ·rw [Q1I h] at hI ⊢
    refine step _ i s h hI fun s' hs'=>?_
    have:=ih (i+1) s' h (by omega) hs'
    rw [<-this];congr 1
   ·have:i=l.length:=by omega
    subst this;rw [List.drop_length] at hI ⊢;exact stop _ s hI
 have:=key F 0 s0 (Nat.zero_le _) (by omega) (by rwa [List.drop_zero])
 rw [List.drop_zero] at this;exact this
theorem Q3V {R:Type} (K:Bool->Option R) (b x:Bool):br b (K x) (K false)=K (b&&x):=by cases b <;> rfl
theorem Q7n {R:Type} (K:Bool->Option R) (b x:Bool):br b (K true) (K x)=K (b||x):=by cases b <;> rfl
theorem Y1K {α:Type} [Emb α] {l:List α} {i:Nat} (h:i<l.length) (p:α->Bool):(l.drop i).any p=(p (gl l i)||(l.drop (i+1)).any p):=by rw [Q1I h];rfl
theorem Z0q {a b:Nat} (h:a<b):decide ((a:Int)<((b:Nat):Int))=true:=by simpa using h
theorem Q2V (a:Nat):decide ((a:Int)<((a:Nat):Int))=false:=by simp
theorem Z5 {R:Type} {p:Prop} [Decidable p] {x:Option R} {y:Option R} (h:p:=by first|omega|exact Y3 (by omega) (by omega) | (simp only [LIM,BIG,List.length_append,List.length_cons,List.length_nil,List.length_map,List.length_take,List.length_drop,List.length_set] at *;omega)) (k:x=y):gd p x=y:=Z3 h k
end Go.Ab
end
section
namespace Go.Ab
def Asc (l:List Int):Prop:=l.Pairwise (· < ·)
theorem Asc.at_lt {l:List Int} (h:Asc l) {i j:Nat} (hij:i<j) (hj:j<l.length):gl l i<gl l j:=by
 rw [z7 (by omega),z7 hj];exact List.pairwise_iff_getElem.1 h i j (by omega) hj hij
theorem Y5r {l:List Int} {v:Int} (h:v ∈ l):∃ j,j<l.length/\gl l j=v:=by
 obtain ⟨j,hj,e⟩:=List.getElem_of_mem h;exact ⟨j,hj,by rw [z7 hj];exact e⟩
theorem Asc.gap {c:List Int} (h:Asc c) {i:Nat} (hi:i+1<c.length) {t v:Int} (h1:gl c i<=t) (h2:t<gl c (i+1)) (hv:v ∈ c):(v<=t↔v<=gl c i):=by
 obtain ⟨j,hj,rfl⟩:=Y5r hv;rcases Nat.lt_or_ge i j with hij|hij
 ·rcases Nat.lt_or_ge (i+1) j with h3|h3
  ·have:=h.at_lt h3 hj
   have:=h.at_lt (show i<i+1 by omega) hi
   omega
  ·have:j=i+1:=by omega
   subst this;have:=h.at_lt (show i<i+1 by omega) hi
   omega
 ·rcases Nat.lt_or_ge j i with h3|h3
  ·have:=h.at_lt h3 (by omega)
   omega
  ·have:j=i:=by omega
   subst this;omega
def Y4K (c:List Int) (l:List Rect):Prop:=∀ r ∈ l,r.L_ ∈ c/\r.R_ ∈ c
def Y3C (c:List Int) (l:List Rect):Prop:=∀ r ∈ l,r.w_ ∈ c/\r.H_ ∈ c
theorem Y2H {l:List Rect} {x y x' y' : Int} (h:∀ r ∈ l,r.has x y=r.has x' y'):inR l x y=inR l x' y':=by
 induction l with
 | nil=>rfl
 | cons r l ih=>
  simp only [inR,List.any_cons] at ih ⊢;rw [h r (by simp),ih fun q hq=>h q (by simp [hq])]
theorem Z5N {l:List Rect} {x y:Int} (h:∀ r ∈ l,r.has x y=false):inR l x y=false:=by
 induction l with
 | nil=>rfl
 | cons r l ih=>
  simp only [inR,List.any_cons] at ih ⊢;rw [h r (by simp),ih fun q hq=>h q (by simp [hq])];rfl
theorem y5 (r:Rect) (x y:Int):r.has x y=true↔r.L_<=x/\x<r.R_/\r.w_<=y/\y<r.H_:=by simp [Rect.has,and_assoc]
theorem Y8x {r:Rect} {x y x' y' : Int} (h:(r.L_<=x/\x<r.R_/\r.w_<=y/\y<r.H_)↔(r.L_<=x' /\ x' < r.R_/\r.w_<=y' /\ y' < r.H_)):r.has x y=r.has x' y':=by
 rw [Bool.eq_iff_iff,y5,y5];exact h
theorem Y1p {r:Rect} {x y:Int} (h:¬ (r.L_<=x/\x<r.R_/\r.w_<=y/\y<r.H_)):r.has x y=false:=by
 rw [<-Bool.not_eq_true,y5];exact h
theorem Y4K.gap {c:List Int} {l:List Rect} (hc:Asc c) (h:Y4K c l) {i:Nat} (hi:i+1<c.length) {t:Int} (h1:gl c i<=t) (h2:t<gl c (i+1)) (y:Int):inR l t y=inR l (gl c i) y:=
 Y2H fun r hr=>Y8x (by
  have a:=hc.gap hi h1 h2 (h r hr).1;have b:=hc.gap hi h1 h2 (h r hr).2
  omega)
theorem Y3C.gap {c:List Int} {l:List Rect} (hc:Asc c) (h:Y3C c l) {i:Nat} (hi:i+1<c.length) {t:Int} (h1:gl c i<=t) (h2:t<gl c (i+1)) (x:Int):inR l x t=inR l x (gl c i):=
 Y2H fun r hr=>Y8x (by
  have a:=hc.gap hi h1 h2 (h r hr).1;have b:=hc.gap hi h1 h2 (h r hr).2
  omega)
theorem Y4K.before {c:List Int} {l:List Rect} (h:Y4K c l) {t:Int} (ht:∀ v ∈ c,t<v) (y:Int):inR l t y=false:=
 Z5N fun r hr=>Y1p (by have:=ht _ (h r hr).1;omega)
theorem Y4K.after {c:List Int} {l:List Rect} (h:Y4K c l) {t:Int} (ht:∀ v ∈ c,v<=t) (y:Int):inR l t y=false:=
 Z5N fun r hr=>Y1p (by have:=ht _ (h r hr).2;omega)
theorem Y3C.before {c:List Int} {l:List Rect} (h:Y3C c l) {t:Int} (ht:∀ v ∈ c,t<v) (x:Int):inR l x t=false:=
 Z5N fun r hr=>Y1p (by have:=ht _ (h r hr).1;omega)
theorem Y3C.after {c:List Int} {l:List Rect} (h:Y3C c l) {t:Int} (ht:∀ v ∈ c,v<=t) (x:Int):inR l x t=false:=
 Z5N fun r hr=>Y1p (by have:=ht _ (h r hr).2;omega)
theorem Asc.first {c:List Int} (h:Asc c) {t:Int} (ht:t<gl c 0):∀ v ∈ c,t<v:=by
 intro v hv;obtain ⟨j,hj,rfl⟩:=Y5r hv
 rcases Nat.eq_zero_or_pos j with rfl|hp
 ·exact ht
 ·have:=h.at_lt hp hj;omega
theorem Asc.last {c:List Int} (h:Asc c) {t:Int} {i:Nat} (hi:i+1=c.length) (ht:gl c i<=t):∀ v ∈ c,v<=t:=by
 intro v hv;obtain ⟨j,hj,rfl⟩:=Y5r hv
 rcases Nat.lt_or_ge j i with h1|h1
 ·have:=h.at_lt h1 (by omega);omega
 ·have:j=i:=by omega
  subst this;exact ht
structure Step {α:Type} (d:α) (c:List Int) (f:Int->α):Prop where
 asc:Asc c
 gap:∀ i,i+1<c.length->∀ t,gl c i<=t->t<gl c (i+1)->f t=f (gl c i)
 before:∀ t,(∀ v ∈ c,t<v)->f t=d
 after:∀ t,(∀ v ∈ c,v<=t)->f t=d
theorem Step.start {α:Type} {d:α} {c:List Int} {f:Int->α} (h:Step d c f) (_:0<c.length):Bst d f [] (gl c 0):=.start fun t ht=>h.before t (h.asc.first ht)
theorem Step.empty {α:Type} {d:α} {c:List Int} {f:Int->α} (h:Step d c f) (hc:c.length=0) (t:Int):f t=d:=h.before t fun v hv=>by
 rw [List.eq_nil_of_length_eq_zero hc] at hv;cases hv
theorem Step.done {α:Type} {d:α} {c:List Int} {f:Int->α} (h:Step d c f) {i:Nat} (hi:i+1=c.length) {acc:List (Rn α)} (hb:Bst d f acc (gl c i)) (t:Int):atR d acc t=f t:=by
 rcases Int.lt_or_le t (gl c i) with h1|h1
 ·exact hb.val t h1
 ·rw [hb.out t h1,h.after t (h.asc.last hi h1)]
open Classical in
noncomputable def spn (f:Int->Bool):List Span:=if h:∃ l,SpOk l/\∀ x,inS l x=f x then h.choose else []
theorem Z8H {f:Int->Bool} {l:List Span} (hl:SpOk l) (h:∀ x,inS l x=f x):spn f=l:=by
 have he:∃ l,SpOk l/\∀ x,inS l x=f x:=⟨l,hl,h⟩;unfold spn
 rw [dif_pos he];exact he.choose_spec.1.unique hl fun x=>(he.choose_spec.2 x).trans (h x).symm
theorem SpOk.nil:SpOk []:=⟨fun s hs=>(List.not_mem_nil hs).elim,List.Pairwise.nil⟩
theorem Z8G {f:Int->Bool} (h:∀ x,f x=false):spn f=[]:=Z8H .nil fun x=>(h x).symm
def Y1O (S:Int->Int->Bool):Prop:=∀ y,∃ l,SpOk l/\∀ x,inS l x=S x y
theorem Y1O.sp {S:Int->Int->Bool} (h:Y1O S) (y:Int):SpOk (spn fun x=>S x y)/\∀ x,inS (spn fun x=>S x y) x=S x y:=by
 obtain ⟨l,h1,h2⟩:=h y;rw [Z8H h1 h2];exact ⟨h1,h2⟩
theorem Step.cn {S:Int->Int->Bool} (hr:Y1O S) {c:List Int} (h:Step [] c fun y=>spn fun x=>S x y) {acc:List (Rn (List Span))} (hacc:Runs acc) (hval:∀ t,atR [] acc t=spn fun x=>S x t) (hne:∀ b ∈ acc,b.v≠[]):cn S=flat acc/\Fin S:=by
 have hv:∀ b ∈ acc,b.v=spn fun x=>S x b.lo:=by
  intro b hb;have hat:∀ (l:List (Rn (List Span))),Runs l->b ∈ l->atR [] l b.lo=b.v:=by
   intro l
   induction l with
   | nil=>intro _ hb;cases hb
   | cons a l ih=>
    intro hl hb;rcases List.mem_cons.1 hb with rfl|hb
    ·have:=hl.pos b (by simp)
     rw [atR,if_pos ⟨by omega,this⟩]
    ·have h1:=(hl.head b hb).1
     rw [atR,if_neg (by omega)];exact ih hl.tail hb
  rw [<-hval,hat acc hacc hb]
 have hB:Bands acc:=⟨hacc,fun b hb=>by rw [hv b hb];exact (hr.sp _).1,hne⟩;have hS:∀ x y,inS (atR [] acc y) x=S x y:=fun x y=>by rw [hval];exact (hr.sp y).2 x
 exact ⟨Y4A hB hS,acc,hB,hS⟩
structure Grid (xs ys:List Int) (S:Int->Int->Bool):Prop where
 x:∀ y,Step false xs fun x=>S x y
 y:∀ x,Step false ys fun y=>S x y
theorem Step.spansL {xs:List Int} {f:Int->Bool} (h:Step false xs f):∃ l,SpOk l/\(∀ x,inS l x=f x)/\l.length<=xs.length:=by
 by_cases h0:xs.length=0
 ·exact ⟨[],.nil,fun x=>(h.empty h0 x).symm,by simp⟩
 ·have key:∀ i,i+1<=xs.length->∃ l:List Span,Bst false f (l.map Span.rn) (gl xs i)/\l.length<=i:=by
   intro i
   induction i with
   | zero=>intro hi;exact ⟨[],h.start (by omega),by simp⟩
   | succ i ih=>
    intro hi;obtain ⟨l,hl,hll⟩:=ih (by omega)
    have hlt:=h.asc.at_lt (show i<i+1 by omega) (by omega)
    cases hf:f (gl xs i) with
    | false=>exact ⟨l,hl.skip (by omega) fun t h1 h2=>(h.gap i (by omega) t h1 h2).trans hf,by omega⟩
    | true=>
     rcases List.eq_nil_or_concat l with rfl|⟨l',s,hls⟩
     ·refine ⟨[⟨gl xs i,gl xs (i+1)⟩],?_,by simp⟩
      have:=hl.add hlt (h.gap i (by omega)) (fun a ha=>by simp at ha)
      rw [hf] at this;exact this
     ·rw [List.concat_eq_append] at hls
      subst hls
      by_cases hs:s.R_=gl xs i
      ·refine ⟨l' ++ [⟨s.L_,gl xs (i+1)⟩],?_,by simp at hll ⊢;omega⟩
       rw [List.map_append] at hl;have:=hl.grow (a:=s.rn) hs hlt fun t h1 h2=>(h.gap i (by omega) t h1 h2).trans hf
       rw [List.map_append];exact this
      ·refine ⟨(l' ++ [s])++[⟨gl xs i,gl xs (i+1)⟩],?_,by simp at hll ⊢;omega⟩
       have:=hl.add hlt (h.gap i (by omega)) (fun a ha he=>by
        rw [List.map_append] at ha;simp at ha
        subst ha;exact absurd he hs)
       rw [hf] at this;rw [List.map_append];exact this
  obtain ⟨l,hl,hll⟩:=key (xs.length-1) (by omega);refine ⟨l,.of_runs hl.runs,fun x=>?_,by omega⟩
  rw [Z8g];exact h.done (by omega) hl x
theorem Step.spans {xs:List Int} {f:Int->Bool} (h:Step false xs f):∃ l,SpOk l/\∀ x,inS l x=f x:=by
 obtain ⟨l,h1,h2,_⟩:=h.spansL;exact ⟨l,h1,h2⟩
theorem Step.spn_len {xs:List Int} {f:Int->Bool} (h:Step false xs f):(spn f).length<=xs.length:=by
 obtain ⟨l,h1,h2,h3⟩:=h.spansL;rw [Z8H h1 h2];exact h3
theorem Grid.rows {xs ys:List Int} {S:Int->Int->Bool} (h:Grid xs ys S):Y1O S:=fun y=>(h.x y).spans
theorem Grid.step {xs ys:List Int} {S:Int->Int->Bool} (h:Grid xs ys S):Step [] ys fun y=>spn fun x=>S x y:=by
 refine ⟨(h.y 0).asc,fun i hi t h1 h2=>?_,fun t ht=>?_,fun t ht=>?_⟩
 ·congr 1;funext x;exact (h.y x).gap i hi t h1 h2
 ·exact Z8G fun x=>(h.y x).before t ht
 ·exact Z8G fun x=>(h.y x).after t ht
theorem Grid.of {xs ys:List Int} {a b:List Rect} (hx:Asc xs) (hy:Asc ys) (ax:Y4K xs a) (bx:Y4K xs b) (ay:Y3C ys a) (by' : Y3C ys b) {k:Bool->Bool->Bool} (hk:k false false=false) :
  Grid xs ys fun x y=>k (inR a x y) (inR b x y):=by
 refine ⟨fun y=>⟨hx,fun i hi t h1 h2=>?_,fun t ht=>?_,fun t ht=>?_⟩,fun x=>⟨hy,fun i hi t h1 h2=>?_,fun t ht=>?_,fun t ht=>?_⟩⟩
 ·simp only [ax.gap hx hi h1 h2,bx.gap hx hi h1 h2]
 ·simp only [ax.before ht,bx.before ht,hk]
 ·simp only [ax.after ht,bx.after ht,hk]
 ·simp only [ay.gap hy hi h1 h2,by'.gap hy hi h1 h2]
 ·simp only [ay.before ht,by'.before ht,hk]
 ·simp only [ay.after ht,by'.after ht,hk]
end Go.Ab
end
