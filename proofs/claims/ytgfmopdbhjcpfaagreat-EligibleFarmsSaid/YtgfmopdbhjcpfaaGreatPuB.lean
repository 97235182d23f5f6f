/- The code that the statement reaches as plain programs, and what they compute. -/
import Derived.Test.YtgfmopdbhjcpfaaGreatAbC
import Derived.Test.YtgfmopdbhjcpfaaGreatPuA
set_option linter.unusedVariables false
set_option linter.unusedSimpArgs false
section
namespace Go.Ab
set_option maxRecDepth 100000
noncomputable section
structure Term where
 op_:Int
 num_:Int
 more_:Int
 kids_:(List Term)
def Term.d0 (x:Term):DVal:=if x.op_=(2 ^ 64) then .any else .int .i64 x.op_
def Term.d1 (x:Term):DVal:=if x.op_=(2 ^ 64) then .any else .int .i64 x.num_
def Term.d2 (x:Term):DVal:=if x.op_=(2 ^ 64) then .any else .int .i64 x.more_
def Term.d3:Term->DVal
 | ⟨a0,a1,a2,a3⟩=>if a0=(2 ^ 64) then .any else .lst a3.length (fun i=>if h:i<a3.length then [Term.d0 a3[i],Term.d1 a3[i],Term.d2 a3[i],Term.d3 a3[i]] else [.any,.any,.any,.any])
decreasing_by
 have:=List.sizeOf_lt_of_mem (List.getElem_mem h)
 simp only [Term.mk.sizeOf_spec];omega
instance:Emb Term:=⟨fun x=>[x.d0,x.d1,x.d2,x.d3],4,⟨(2 ^ 64),0,0,[]⟩,fun _=>rfl⟩
theorem Term.cells_eq {x:Term} (h:I64 x.op_):Emb.cells x=[.int .i64 x.op_,.int .i64 x.num_,.int .i64 x.more_,DL x.kids_]:=by
 obtain ⟨a0,a1,a2,a3⟩:=x;show [Term.d0 _,Term.d1 _,Term.d2 _,Term.d3 _]=_
 have h:I64 a0:=h;have hm:¬ a0=(2 ^ 64):=fun e=>by subst e;revert h;decide
 have hl:∀ l:List Term,(.lst l.length (fun i=>if h:i<l.length then [Term.d0 l[i],Term.d1 l[i],Term.d2 l[i],Term.d3 l[i]] else [.any,.any,.any,.any]):DVal)=DL l:=by
  intro l;unfold DL
  congr 1
  funext i
  unfold LF
  by_cases hi:i<l.length
  ·rw [dif_pos hi,List.getD_eq_getElem?_getD,List.getElem?_eq_getElem hi];rfl
  ·rw [dif_neg hi,List.getD_eq_getElem?_getD,List.getElem?_eq_none (by omega)];show _=[Term.d0 ⟨(2 ^ 64),0,0,[]⟩,Term.d1 ⟨(2 ^ 64),0,0,[]⟩,Term.d2 ⟨(2 ^ 64),0,0,[]⟩,Term.d3 ⟨(2 ^ 64),0,0,[]⟩];unfold Term.d3;rfl
 have hk:Term.d3 ⟨a0,a1,a2,a3⟩=DL a3:=by
  unfold Term.d3;rw [if_neg hm,hl]
 rw [hk];simp only [Term.d0,Term.d1,Term.d2,if_neg hm]
theorem Term.elm {l:List Term} {i:Nat} (h:I64 (gl l i).op_):AVal.v (.c (.elm (LF l i)))=.v (.c (.elm [.int .i64 (gl l i).op_,.int .i64 (gl l i).num_,.int .i64 (gl l i).more_,DL (gl l i).kids_])):=by
 have:=Term.cells_eq h
 unfold LF;unfold gl at this ⊢
 rw [this]
structure Bracket where
 up_:Int
 rate_:Int
 deriving DecidableEq
instance:Emb Bracket:=⟨fun x=>[.int .i64 x.up_,.int .i64 x.rate_],2,⟨0,0⟩,fun _=>rfl⟩
structure Scheme where
 N_:Int
 n_:ByteArray
 cond_:Term
 brackets_:(List Bracket)
 least_:Int
 excludes_:Int
 needs_:Bool
instance:Emb Scheme:=⟨fun x=>[.int .i64 x.N_,.str x.n_,.int .i64 x.cond_.op_,.int .i64 x.cond_.num_,.int .i64 x.cond_.more_,DL x.cond_.kids_,DL x.brackets_,.int .i64 x.least_,.int .i64 x.excludes_,.bool x.needs_],10,⟨0,ByteArray.empty,(Emb.d:Term),[],0,0,false⟩,fun _=>rfl⟩
instance:Emb Rect:=⟨fun x=>[.int .i64 x.L_,.int .i64 x.w_,.int .i64 x.R_,.int .i64 x.H_],4,⟨0,0,0,0⟩,fun _=>rfl⟩
structure Re_ where
 t_:(List Rect)
 deriving DecidableEq
instance:Emb Re_:=⟨fun x=>[DL x.t_],1,⟨[]⟩,fun _=>rfl⟩
structure Crop where
 n_:ByteArray
 f_:Int
 m_:Int
 deriving DecidableEq
instance:Emb Crop:=⟨fun x=>[.str x.n_,.int .i64 x.f_,.int .i64 x.m_],3,⟨ByteArray.empty,0,0⟩,fun _=>rfl⟩
structure Line where
 p_:Int
 g_:Re_
 c_:Int
 s_:Int
 deriving DecidableEq
instance:Emb Line:=⟨fun x=>[.int .i64 x.p_,DL x.g_.t_,.int .i64 x.c_,.int .i64 x.s_],4,⟨0,⟨[]⟩,0,0⟩,fun _=>rfl⟩
structure Rg_ where
 y_:Int
 c_:Int
 g_:Re_
 deriving DecidableEq
instance:Emb Rg_:=⟨fun x=>[.int .i64 x.y_,.int .i64 x.c_,DL x.g_.t_],3,⟨0,0,⟨[]⟩⟩,fun _=>rfl⟩
structure A2_ where
 N_:Int
 k_:Int
 F_:Int
 u_:Int
 g_:Re_
 deriving DecidableEq
instance:Emb A2_:=⟨fun x=>[.int .i64 x.N_,.int .i64 x.k_,.int .i64 x.F_,.int .i64 x.u_,DL x.g_.t_],5,⟨0,0,0,0,⟨[]⟩⟩,fun _=>rfl⟩
structure World where
 y_:Int
 crops_:(List Crop)
 history_:(List Rg_)
 zones_:(List A2_)
 day_:Int
 most_:Int
 deriving DecidableEq
instance:Emb World:=⟨fun x=>[.int .i64 x.y_,DL x.crops_,DL x.history_,DL x.zones_,.int .i64 x.day_,.int .i64 x.most_],6,⟨0,[],[],[],0,0⟩,fun _=>rfl⟩
structure Truth where
 true_:Re_
 false_:Re_
 unknown_:Re_
 deriving DecidableEq
instance:Emb Truth:=⟨fun x=>[DL x.true_.t_,DL x.false_.t_,DL x.unknown_.t_],3,⟨⟨[]⟩,⟨[]⟩,⟨[]⟩⟩,fun _=>rfl⟩
structure Tape where
 l_:(List Int)
 at_:Int
 deriving DecidableEq
instance:Emb Tape:=⟨fun x=>[DL x.l_,.int .i64 x.at_],2,⟨[],0⟩,fun _=>rfl⟩
structure Arr3ListRect where
 e0_:(List Rect)
 e1_:(List Rect)
 e2_:(List Rect)
 deriving DecidableEq
instance:Emb Arr3ListRect:=⟨fun x=>[DL x.e0_,DL x.e1_,DL x.e2_],3,⟨[],[],[]⟩,fun _=>rfl⟩
structure TermWorld where
 y_:Int
 crops_:(List Crop)
 history_:(List Rg_)
 zones_:(List A2_)
 day_:Int
 deriving DecidableEq
instance:Emb TermWorld:=⟨fun x=>[.int .i64 x.y_,DL x.crops_,DL x.history_,DL x.zones_,.int .i64 x.day_],5,⟨0,[],[],[],0⟩,fun _=>rfl⟩
structure TermPlace where
 world_:TermWorld
 line_:Line
 t_:(List Rect)
 deriving DecidableEq
instance:Emb TermPlace:=⟨fun x=>[.int .i64 x.world_.y_,DL x.world_.crops_,DL x.world_.history_,DL x.world_.zones_,.int .i64 x.world_.day_,.int .i64 x.line_.p_,DL x.line_.g_.t_,.int .i64 x.line_.c_,.int .i64 x.line_.s_,DL x.t_],10,⟨⟨0,[],[],[],0⟩,⟨0,⟨[]⟩,0,0⟩,[]⟩,fun _=>rfl⟩
structure Squares where
 yes_:(List Rect)
 no_:(List Rect)
 open_:(List Rect)
 deriving DecidableEq
instance:Emb Squares:=⟨fun x=>[DL x.yes_,DL x.no_,DL x.open_],3,⟨[],[],[]⟩,fun _=>rfl⟩
instance:Emb Span:=⟨fun x=>[.int .i64 x.L_,.int .i64 x.R_],2,⟨0,0⟩,fun _=>rfl⟩
structure Band where
 w_:Int
 H_:Int
 spans_:(List Span)
 deriving DecidableEq
instance:Emb Band:=⟨fun x=>[.int .i64 x.w_,.int .i64 x.H_,DL x.spans_],3,⟨0,0,[]⟩,fun _=>rfl⟩
def Z1s (q:Rect->Option Bool):List AVal->AVal->Prop:=fun args r=>∃ x0 y,q x0=some y/\args=[gE x0]/\r=vb y
def Z3Z (q:Span->Span->Option Int):List AVal->AVal->Prop:=fun args r=>∃ x0 x1 y,q x0 x1=some y/\args=[gE x0,gE x1]/\r=vi y
def Z0F (q:Int->Option (List Span)):List AVal->AVal->Prop:=fun args r=>∃ x0 y,q x0=some y/\args=[vi x0]/\r=AL y
def Z1q (q:Term->Option Bool):List AVal->AVal->Prop:=fun args r=>∃ x0 y,q x0=some y/\args=[.v (.g [ci x0.op_,ci x0.num_,ci x0.more_,.d (DL x0.kids_)])]/\r=vb y
def Q8x (q:Rg_->Option Bool):List AVal->AVal->Prop:=fun args r=>∃ x0 y,q x0=some y/\args=[gE x0]/\r=vb y
def Q2u (q:A2_->Option Bool):List AVal->AVal->Prop:=fun args r=>∃ x0 y,q x0=some y/\args=[gE x0]/\r=vb y
def Q5A (q:Int->Option Bool):List AVal->AVal->Prop:=fun args r=>∃ x0 y,q x0=some y/\args=[vi x0]/\r=vb y
def Z1r (q:Span->Option Bool):List AVal->AVal->Prop:=fun args r=>∃ x0 y,q x0=some y/\args=[gE x0]/\r=vb y
def G9 (q:Bool->Bool->Option Bool):List AVal->AVal->Prop:=fun args r=>∃ x0 x1 y,q x0 x1=some y/\args=[vb x0,vb x1]/\r=vb y
def Q8w (q:Scheme->Option Bool):List AVal->AVal->Prop:=fun args r=>∃ x0 y,q x0=some y/\args=[gE x0]/\r=vb y
def Z1t (q:Line->Option Bool):List AVal->AVal->Prop:=fun args r=>∃ x0 y,q x0=some y/\args=[gE x0]/\r=vb y
def Z6u (F:Nat) (x1:List Int):Option Tape:=
 gd (0<=(Q5U (x1.length:Int) (400:Int))/\(Q5U (x1.length:Int) (400:Int))<=(x1.length:Int))<|some (⟨(x1.take (Q5U (x1.length:Int) (400:Int)).toNat),0⟩:Tape)
def Z6v (F:Nat) (v9:Int):Option Int:=
 some v9
def Z2e (F:Nat) (x3 x4:Int):Option Int:=
 br (decide (x4<(1:Int))) (some (0:Int)) (gd (x4≠0)<|br (decide ((x3.tmod x4)<0)) (gd (I64 ((x3.tmod x4)+x4))<|Z6v F ((x3.tmod x4)+x4)) (Z6v F (x3.tmod x4)))
def Z9 (F:Nat) (a:Tape) (b:Int):Option (Tape×Int):=
 br (decide ((a.l_.length:Int)<=a.at_)) (some (a,(0:Int))) (gd (I64 (a.at_+1))<|gd (I64 ((a.at_+1)-1))<|gd (0<=((a.at_+1)-1)/\((a.at_+1)-1)<(a.l_.length:Int))<|(Z2e F (gl a.l_ ((a.at_+1)-1).toNat) b).bind fun c=>some ((⟨a.l_,(a.at_+1)⟩:Tape),c))
def V6 (F:Nat) (d:Tape) (a b:Int):Option (Tape×Int):=
 gd (I64 (b-a))<|gd (I64 ((b-a)+1))<|(Z9 F d ((b-a)+1)).bind fun c=>gd (I64 (a+c.2))<|some (c.1,(a+c.2))
def Z2d (F:Nat) (a:List Crop) (b:List Int) (c:Int):Option (Tape×(List Crop)):=
 some ((⟨b,c⟩:Tape),a)
def Q0Y (F:Nat) (c:Tape×Int) (k:(Int×(List Int)×Int×(List Crop))->Option (Tape×(List Crop))) (a:Int) (i:List Int) (j:Int) (d:List Crop):Option (Tape×(List Crop)):=
 br (decide (a<((List.length (([(ByteArray.mk #[98,97,114,108,101,121]),(ByteArray.mk #[99,108,111,118,101,114]),(ByteArray.mk #[103,114,97,115,115]),(ByteArray.mk #[109,97,105,122,101]),(ByteArray.mk #[111,97,116,115]),(ByteArray.mk #[114,121,101]),(ByteArray.mk #[118,101,116,99,104]),(ByteArray.mk #[119,104,101,97,116])]:List ByteArray).take c.2.toNat):Nat):Int))) (gd (0<=a/\a<((List.length (([(ByteArray.mk #[98,97,114,108,101,121]),(ByteArray.mk #[99,108,111,118,101,114]),(ByteArray.mk #[103,114,97,115,115]),(ByteArray.mk #[109,97,105,122,101]),(ByteArray.mk #[111,97,116,115]),(ByteArray.mk #[114,121,101]),(ByteArray.mk #[118,101,116,99,104]),(ByteArray.mk #[119,104,101,97,116])]:List ByteArray).take c.2.toNat):Nat):Int))<|(Z9 F (⟨i,j⟩:Tape) (3:Int)).bind fun e=>(Z9 F e.1 (8:Int)).bind fun b=>gd (0<=b.2/\b.2<((List.length ([(0:Int),(0:Int),(0:Int),(2:Int),(20:Int),(8:Int),(1:Int),(31:Int)]:List Int):Nat):Int))<|gd ((List.length d)+(List.length ([(⟨(gl (([(ByteArray.mk #[98,97,114,108,101,121]),(ByteArray.mk #[99,108,111,118,101,114]),(ByteArray.mk #[103,114,97,115,115]),(ByteArray.mk #[109,97,105,122,101]),(ByteArray.mk #[111,97,116,115]),(ByteArray.mk #[114,121,101]),(ByteArray.mk #[118,101,116,99,104]),(ByteArray.mk #[119,104,101,97,116])]:List ByteArray).take c.2.toNat) a.toNat),e.2,(gl ([(0:Int),(0:Int),(0:Int),(2:Int),(20:Int),(8:Int),(1:Int),(31:Int)]:List Int) b.2.toNat)⟩:Crop)]:List Crop))<=LIM)<|gd (I64 (a+1))<|k ((a+1),b.1.l_,b.1.at_,(d++([(⟨(gl (([(ByteArray.mk #[98,97,114,108,101,121]),(ByteArray.mk #[99,108,111,118,101,114]),(ByteArray.mk #[103,114,97,115,115]),(ByteArray.mk #[109,97,105,122,101]),(ByteArray.mk #[111,97,116,115]),(ByteArray.mk #[114,121,101]),(ByteArray.mk #[118,101,116,99,104]),(ByteArray.mk #[119,104,101,97,116])]:List ByteArray).take c.2.toNat) a.toNat),e.2,(gl ([(0:Int),(0:Int),(0:Int),(2:Int),(20:Int),(8:Int),(1:Int),(31:Int)]:List Int) b.2.toNat)⟩:Crop)]:List Crop)))) (Z2d F d i j)
def Q4h (F:Nat) (b:Tape):Option (Tape×(List Crop)):=
 (V6 F b (3:Int) (8:Int)).bind fun a=>gd (0<=a.2/\a.2<=((List.length ([(ByteArray.mk #[98,97,114,108,101,121]),(ByteArray.mk #[99,108,111,118,101,114]),(ByteArray.mk #[103,114,97,115,115]),(ByteArray.mk #[109,97,105,122,101]),(ByteArray.mk #[111,97,116,115]),(ByteArray.mk #[114,121,101]),(ByteArray.mk #[118,101,116,99,104]),(ByteArray.mk #[119,104,101,97,116])]:List ByteArray):Nat):Int))<|Z3 (fun g (z:Int×(List Int)×Int×(List Crop))=>Q0Y F a g z.1 z.2.1 z.2.2.1 z.2.2.2) F ((0:Int),a.1.l_,a.1.at_,([]:List Crop))
def Q1X (F:Nat) (i:Tape) (c:Int):Option (Tape×Rect):=
 (Z9 F i c).bind fun a=>(Z9 F a.1 c).bind fun b=>gd (I64 (a.2+(1:Int)))<|gd (I64 (c-a.2))<|(Z9 F b.1 (c-a.2)).bind fun d=>gd (I64 ((a.2+(1:Int))+d.2))<|gd (I64 (b.2+(1:Int)))<|gd (I64 (c-b.2))<|(Z9 F d.1 (c-b.2)).bind fun e=>gd (I64 ((b.2+(1:Int))+e.2))<|some (e.1,(⟨a.2,b.2,((a.2+(1:Int))+d.2),((b.2+(1:Int))+e.2)⟩:Rect))
def J3 (F:Nat) (a:Bool):Option Bool:=
 some a
def Q5K (F:Nat) (a:Rect):Option Bool:=
 br (decide ((0:Int)<=a.L_)) (br (decide (a.L_<a.R_)) (br (decide (a.R_<=16384)) (br (decide ((0:Int)<=a.w_)) (br (decide (a.w_<a.H_)) (J3 F (decide (a.H_<=16384))) (J3 F false)) (J3 F false)) (J3 F false)) (J3 F false)) (J3 F false)
def Q8c (F:Nat) (b:List Int) (c a:Int) (d:Bool):Option (List Int):=
 br d (some b) (gd (0<=a/\a<=(b.length:Int))<|gd ((0)+(List.length (b.take a.toNat))<=LIM)<|gd (((0)+(List.length (b.take a.toNat)))+(List.length ([c]:List Int))<=LIM)<|gd (0<=a/\a<=(b.length:Int))<|gd ((((0)+(List.length (b.take a.toNat)))+(List.length ([c]:List Int)))+(List.length (b.drop a.toNat))<=LIM)<|some (((([]:List Int)++(b.take a.toNat))++([c]:List Int))++(b.drop a.toNat)))
def Z1o (F:Nat) (b:List Int) (c a:Int):Option (List Int):=
 br (decide (a<(b.length:Int))) (gd (0<=a/\a<(b.length:Int))<|Q8c F b c a ((gl b a.toNat)==c)) (Q8c F b c a false)
def Q8d (F:Nat) (d:List Int) (e a:Int) (b:(Int)->Option (List Int)) (c:Bool):Option (List Int):=
 br c (gd (I64 (a+1))<|b (a+1)) (Z1o F d e a)
def Z9o (F:Nat) (b:List Int) (c:Int) (d:(Int)->Option (List Int)) (a:Int):Option (List Int):=
 br (decide (a<(b.length:Int))) (gd (0<=a/\a<(b.length:Int))<|Q8d F b c a d (decide ((gl b a.toNat)<c))) (Q8d F b c a d false)
def Q8W (F:Nat) (a:List Int) (b:Int):Option (List Int):=
 Z3 (fun g (z:Int)=>Z9o F a b g z) F (0:Int)
def Q0m (F:Nat) (a:Int) (b:(Int)->Option Bool) (c:Bool):Option Bool:=
 br c (some true) (gd (I64 (a+1))<|b (a+1))
def Z5g (F:Nat):Option Bool:=
 some false
def Z0A (F:Nat) (b:List Rect) (d e:Int) (c:(Int)->Option Bool) (a:Int):Option Bool:=
 br (decide (a<(b.length:Int))) (gd (0<=a/\a<(b.length:Int))<|br (decide (((gl b a.toNat).L_)<=d)) (br (decide (d<((gl b a.toNat).R_))) (br (decide (((gl b a.toNat).w_)<=e)) (Q0m F a c (decide (e<((gl b a.toNat).H_)))) (Q0m F a c false)) (Q0m F a c false)) (Q0m F a c false)) (Z5g F)
def Q7Y (F:Nat) (a:List Rect) (b c:Int):Option Bool:=
 Z3 (fun g (z:Int)=>Z0A F a b c g z) F (0:Int)
def Z3f (F:Nat) (a:Bool):Option Bool:=
 some a
def Z3e (F:Nat) (a:Bool):Option Bool:=
 some a
def Z3d (F:Nat) (a:Bool):Option Bool:=
 some a
def Z4t (F:Nat) (a b:Bool) (c:Int):Option Bool:=
 br (c==1) (br a (Z3f F true) (Z3f F b)) (br (c==2) (br a (Z3e F b) (Z3e F false)) (br a (Z3d F (!b)) (Z3d F false)))
def Q6u (F:Nat) (a:Int) (b:(Int)->Option Bool) (c:Bool):Option Bool:=
 br c (some false) (gd (I64 (a+1))<|b (a+1))
def Z7O (F:Nat):Option Bool:=
 some true
def Z7P (F:Nat) (b c:List Rect) (d:(Int)->Option Bool) (a:Int):Option Bool:=
 br (decide (a<(b.length:Int))) (gd (0<=a/\a<(b.length:Int))<|gd (0<=a/\a<(c.length:Int))<|br (((gl b a.toNat).L_) != ((gl c a.toNat).L_)) (Q6u F a d true) (gd (0<=a/\a<(b.length:Int))<|gd (0<=a/\a<(c.length:Int))<|Q6u F a d (((gl b a.toNat).R_) != ((gl c a.toNat).R_)))) (Z7O F)
def Z4s (F:Nat) (a b:List Rect):Option Bool:=
 br ((a.length:Int) != (b.length:Int)) (some false) (Z3 (fun g (z:Int)=>Z7P F a b g z) F (0:Int))
def Q8T (F:Nat) (a:Int) (b:((List Int)×(List Int)×Int)->Option (List Rect)) (c d:List Int):Option (List Rect):=
 gd (I64 (a+1))<|b (c,d,(a+1))
def Q8V (F:Nat) (c d:List Rect) (b:Int) (j k:((List Int)×(List Int)×Int)->Option (List Rect)) (e i:List Int) (a:Int):Option (List Rect):=
 br (decide (a<((List.length (gl ([c,d]:List (List Rect)) b.toNat):Nat):Int))) (gd (0<=a/\a<((List.length (gl ([c,d]:List (List Rect)) b.toNat):Nat):Int))<|(Q8W F e ((gl (gl ([c,d]:List (List Rect)) b.toNat) a.toNat).L_)).bind fun l=>(Q8W F l ((gl (gl ([c,d]:List (List Rect)) b.toNat) a.toNat).R_)).bind fun m=>(Q8W F i ((gl (gl ([c,d]:List (List Rect)) b.toNat) a.toNat).w_)).bind fun n=>(Q8W F n ((gl (gl ([c,d]:List (List Rect)) b.toNat) a.toNat).H_)).bind fun o=>gd (I64 (a+1))<|k (m,o,(a+1))) (Q8T F b j e i)
def Q3n (F:Nat) (a:Int) (b:(Int×(List Rect))->Option (List Rect)) (c:List Rect):Option (List Rect):=
 gd (I64 (a+1))<|b ((a+1),c)
def Q0t (F:Nat) (d e:List Int) (c a:Int) (b:List Rect) (i:(Int×(List Rect))->Option (List Rect)) (j:Bool):Option (List Rect):=
 br j (gd (I64 ((b.length:Int)-(1:Int)))<|gd (I64 (a+1))<|gd (0<=(a+1)/\(a+1)<(d.length:Int))<|gd (0<=((b.length:Int)-(1:Int))/\((b.length:Int)-(1:Int))<(b.length:Int))<|Q3n F a i (List.set b ((b.length:Int)-(1:Int)).toNat (⟨(gl b ((b.length:Int)-(1:Int)).toNat).L_,(gl b ((b.length:Int)-(1:Int)).toNat).w_,(gl d (a+1).toNat),(gl b ((b.length:Int)-(1:Int)).toNat).H_⟩:Rect))) (gd (0<=a/\a<(d.length:Int))<|gd (0<=c/\c<(e.length:Int))<|gd (I64 (a+1))<|gd (0<=(a+1)/\(a+1)<(d.length:Int))<|gd (I64 (c+1))<|gd (0<=(c+1)/\(c+1)<(e.length:Int))<|gd ((List.length b)+(List.length ([(⟨(gl d a.toNat),(gl e c.toNat),(gl d (a+1).toNat),(gl e (c+1).toNat)⟩:Rect)]:List Rect))<=LIM)<|Q3n F a i (b++([(⟨(gl d a.toNat),(gl e c.toNat),(gl d (a+1).toNat),(gl e (c+1).toNat)⟩:Rect)]:List Rect)))
def Q2E (F:Nat) (a:Int) (b:(Int×(List Rect)×(List Rect))->Option (List Rect)) (c d:List Rect):Option (List Rect):=
 gd (I64 (a+1))<|b ((a+1),c,d)
def Q7Z (F:Nat) (b:Int) (c:List Rect) (a:(Int×(List Rect)×(List Rect))->Option (List Rect)) (d:List Rect):Option (List Rect):=
 Q2E F b a c d
def Q8a (F:Nat) (d:List Int) (c:Int) (j k:List Rect) (i:(Int×(List Rect)×(List Rect))->Option (List Rect)) (e:(Int×(List Rect))->Option (List Rect)) (a:Int) (b:List Rect):Option (List Rect):=
 br (decide (a<(k.length:Int))) (gd (I64 (c+1))<|gd (0<=(c+1)/\(c+1)<(d.length:Int))<|gd (0<=a/\a<(b.length:Int))<|gd (I64 (a+1))<|e ((a+1),(List.set b a.toNat (⟨(gl b a.toNat).L_,(gl b a.toNat).w_,(gl b a.toNat).R_,(gl d (c+1).toNat)⟩:Rect)))) (Q7Z F c j i b)
def Q4N (F:Nat) (d:Int) (a b e:List Rect) (c:(Int×(List Rect)×(List Rect))->Option (List Rect)):Option (List Rect):=
 gd ((List.length a)+(List.length b)<=LIM)<|Q2E F d c (a++b) e
def Q0U (F:Nat) (e:List Int) (c:Int) (d a i:List Rect) (b:(Int×(List Rect)×(List Rect))->Option (List Rect)) (j:Bool):Option (List Rect):=
 br j (Z3 (fun g (z:Int×(List Rect))=>Q8a F e c d a b g z.1 z.2) F ((0:Int),a)) (Q4N F c d a i b)
def Q3m (F:Nat) (c:List Int) (b:Int) (i a:List Rect) (e:(Int×(List Rect)×(List Rect))->Option (List Rect)) (d:List Rect):Option (List Rect):=
 br (decide ((0:Int)<(a.length:Int))) ((Z4s F a d).bind fun j=>br j (gd (0<=(0:Int)/\(0:Int)<(a.length:Int))<|gd (0<=b/\b<(c.length:Int))<|Q0U F c b i a d e (((gl a (0:Int).toNat).H_)==(gl c b.toNat))) (Q0U F c b i a d e false)) (Q0U F c b i a d e false)
def Q8U (F:Nat) (m n:List Rect) (o:Int) (c e:List Int) (d:Int) (k l:List Rect) (j:(Int×(List Rect)×(List Rect))->Option (List Rect)) (i:(Int×(List Rect))->Option (List Rect)) (a:Int) (b:List Rect):Option (List Rect):=
 gd (I64 (a+1))<|br (decide ((a+1)<(c.length:Int))) (gd (0<=a/\a<(c.length:Int))<|gd (0<=d/\d<(e.length:Int))<|(Q7Y F m (gl c a.toNat) (gl e d.toNat)).bind fun p=>gd (0<=a/\a<(c.length:Int))<|gd (0<=d/\d<(e.length:Int))<|(Q7Y F n (gl c a.toNat) (gl e d.toNat)).bind fun q=>(Z4t F p q o).bind fun s=>br (!s) (Q3n F a i b) (br (decide ((0:Int)<(b.length:Int))) (gd (I64 ((b.length:Int)-(1:Int)))<|gd (0<=((b.length:Int)-(1:Int))/\((b.length:Int)-(1:Int))<(b.length:Int))<|gd (0<=a/\a<(c.length:Int))<|Q0t F c e d a b i (((gl b ((b.length:Int)-(1:Int)).toNat).R_)==(gl c a.toNat))) (Q0t F c e d a b i false))) (Q3m F e d k l j b)
def Q4M (F:Nat) (a b:List Rect):Option (List Rect):=
 gd ((List.length a)+(List.length b)<=LIM)<|some (a++b)
def Z3F (F:Nat) (j k:List Rect) (l:Int) (i b:List Int) (e:(Int×(List Rect)×(List Rect))->Option (List Rect)) (a:Int) (c d:List Rect):Option (List Rect):=
 gd (I64 (a+1))<|br (decide ((a+1)<(b.length:Int))) (Z3 (fun g (z:Int×(List Rect))=>Q8U F j k l i b a c d e g z.1 z.2) F ((0:Int),([]:List Rect))) (Q4M F c d)
def Q5L (F:Nat) (c d:List Rect) (e:Int) (a b:List Int):Option (List Rect):=
 Z3 (fun g (z:Int×(List Rect)×(List Rect))=>Z3F F c d e a b g z.1 z.2.1 z.2.2) F ((0:Int),([]:List Rect),([]:List Rect))
def Q3o (F:Nat) (b c:List Rect) (j:Int) (i:((List Int)×(List Int)×Int)->Option (List Rect)) (d e:List Int) (a:Int):Option (List Rect):=
 br (decide (a<((List.length ([b,c]:List (List Rect)):Nat):Int))) (gd (0<=a/\a<((List.length ([b,c]:List (List Rect)):Nat):Int))<|Z3 (fun g (z:(List Int)×(List Int)×Int)=>Q8V F b c a i g z.1 z.2.1 z.2.2) F (d,e,(0:Int))) (Q5L F b c j d e)
def U7 (F:Nat) (a b:List Rect) (c:Int):Option (List Rect):=
 Z3 (fun g (z:(List Int)×(List Int)×Int)=>Q3o F a b c g z.1 z.2.1 z.2.2) F (([]:List Int),([]:List Int),(0:Int))
def Z2J (F:Nat) (a:List Rect):Option (Re_×Int):=
 br (decide ((120:Int)<(a.length:Int))) (some ((⟨[]⟩:Re_),(1:Int))) (some ((⟨a⟩:Re_),(0:Int)))
def Z6i (F:Nat) (b:List Rect):Option (Re_×Int):=
 (U7 F b ([]) (1:Int)).bind fun c=>(Z2J F c).bind fun a=>some (a.1,a.2)
def Y0Y (F:Nat) (b:List Rect) (c:(Int)->Option (Re_×Int)) (a:Int):Option (Re_×Int):=
 br (decide (a<(b.length:Int))) (gd (0<=a/\a<(b.length:Int))<|(Q5K F (gl b a.toNat)).bind fun d=>br (!d) (some ((⟨[]⟩:Re_),(2:Int))) (gd (I64 (a+1))<|c (a+1))) (Z6i F b)
def Z9n (F:Nat) (a:List Rect):Option (Re_×Int):=
 br (decide ((120:Int)<(a.length:Int))) (some ((⟨[]⟩:Re_),(1:Int))) (Z3 (fun g (z:Int)=>Y0Y F a g z) F (0:Int))
def Q6c (F:Nat) (a:List Rect) (b:List Int) (c:Int):Option (Tape×Re_):=
 (Z9n F a).bind fun d=>some ((⟨b,c⟩:Tape),d.1)
def Q0J (F:Nat) (j:Int) (i:(Int×(List Int)×Int×(List Rect))->Option (Tape×Re_)) (b:Int) (d:List Int) (e:Int) (c:List Rect):Option (Tape×Re_):=
 br (decide ((0:Int)<b)) ((Q1X F (⟨d,e⟩:Tape) j).bind fun a=>gd ((List.length c)+(List.length ([a.2]:List Rect))<=LIM)<|gd (I64 (b-1))<|i ((b-1),a.1.l_,a.1.at_,(c++([a.2]:List Rect)))) (Q6c F c d e)
def Q1L (F:Nat) (c:Tape) (d b:Int):Option (Tape×Re_):=
 gd (I64 (b+1))<|(Z9 F c (b+1)).bind fun a=>Z3 (fun g (z:Int×(List Int)×Int×(List Rect))=>Q0J F d g z.1 z.2.1 z.2.2.1 z.2.2.2) F (a.2,a.1.l_,a.1.at_,([]:List Rect))
def Q8i (F:Nat) (a:List Rect) (b:List Int) (c:Int):Option (Tape×Re_):=
 some ((⟨b,c⟩:Tape),(⟨a⟩:Re_))
def Q2b (F:Nat) (d:Tape) (c e:Int):Option (Tape×Re_):=
 (Q1L F d c e).bind fun a=>br ((a.2.t_.length:Int)==(0:Int)) ((Q1X F a.1 c).bind fun b=>Q8i F ([b.2]:List Rect) b.1.l_ b.1.at_) (Q8i F a.2.t_ a.1.l_ a.1.at_)
def Z7T (F:Nat) (a:List Rect):Option (Re_×Int):=
 br (decide ((120:Int)<(a.length:Int))) (some ((⟨([]:List Rect)⟩:Re_),(1:Int))) (some ((⟨a⟩:Re_),(0:Int)))
def Z7S (F:Nat) (b:List Rect):Option (Re_×Int):=
 (U7 F b ([]) (1:Int)).bind fun c=>(Z7T F c).bind fun a=>some ((⟨a.1.t_⟩:Re_),a.2)
def Y3D (F:Nat) (b:List Rect) (c:(Int)->Option (Re_×Int)) (a:Int):Option (Re_×Int):=
 br (decide (a<(b.length:Int))) (gd (0<=a/\a<(b.length:Int))<|(Q5K F (gl b a.toNat)).bind fun d=>br (!d) (some ((⟨([]:List Rect)⟩:Re_),(2:Int))) (gd (I64 (a+1))<|c (a+1))) (Z7S F b)
def Y2z (F:Nat) (a:List Rect):Option (Re_×Int):=
 br (decide ((120:Int)<(a.length:Int))) (some ((⟨([]:List Rect)⟩:Re_),(1:Int))) (Z3 (fun g (z:Int)=>Y3D F a g z) F (0:Int))
def Q8H (F:Nat) (a:List Rect) (b:List Int) (c:Int):Option (Tape×Re_):=
 (Y2z F a).bind fun d=>some ((⟨b,c⟩:Tape),(⟨d.1.t_⟩:Re_))
def Z5r (F:Nat) (j:Int) (i:(Int×(List Int)×Int×(List Rect))->Option (Tape×Re_)) (b:Int) (d:List Int) (e:Int) (c:List Rect):Option (Tape×Re_):=
 br (decide ((0:Int)<b)) ((Q1X F (⟨d,e⟩:Tape) j).bind fun a=>gd ((List.length c)+(List.length ([a.2]:List Rect))<=LIM)<|gd (I64 (b-1))<|i ((b-1),a.1.l_,a.1.at_,(c++([a.2]:List Rect)))) (Q8H F c d e)
def Z1Y (F:Nat) (c:Tape) (d b:Int):Option (Tape×Re_):=
 gd (I64 (b+1))<|(Z9 F c (b+1)).bind fun a=>Z3 (fun g (z:Int×(List Int)×Int×(List Rect))=>Z5r F d g z.1 z.2.1 z.2.2.1 z.2.2.2) F (a.2,a.1.l_,a.1.at_,([]:List Rect))
def Q6d (F:Nat) (a:List Int) (b:Int) (c:List Rect):Option (Tape×Re_):=
 some ((⟨a,b⟩:Tape),(⟨c⟩:Re_))
def Q9g (F:Nat) (d:Tape) (c e:Int):Option (Tape×Re_):=
 (Z1Y F d c e).bind fun a=>br ((a.2.t_.length:Int)==(0:Int)) ((Q1X F a.1 c).bind fun b=>Q6d F b.1.l_ b.1.at_ ([b.2]:List Rect)) (Q6d F a.1.l_ a.1.at_ a.2.t_)
def Q1Y (F:Nat) (a:Int) (b:(Int×(List Int)×Int×(List Line))->Option (Tape×(List Line)×(List Int)×(List Re_))) (c:List Int) (d:Int) (e:List Line):Option (Tape×(List Line)×(List Int)×(List Re_)):=
 gd (I64 (a-1))<|b ((a-1),c,d,e)
def Q1Z (F:Nat) (l:List Crop) (k:Int) (b:List Line) (d:Tape×Int) (e:Tape×Re_) (j:(Int×(List Int)×Int×(List Line))->Option (Tape×(List Line)×(List Int)×(List Re_))) (c:List Rect):Option (Tape×(List Line)×(List Int)×(List Re_)):=
 br (decide ((0:Int)<(c.length:Int))) (gd (I64 (d.2+(1:Int)))<|(Z9 F e.1 (l.length:Int)).bind fun i=>(Z9 F i.1 (15:Int)).bind fun a=>gd (I64 ((1:Int)+a.2))<|gd ((List.length b)+(List.length ([(⟨(d.2+(1:Int)),(⟨c⟩:Re_),i.2,((1:Int)+a.2)⟩:Line)]:List Line))<=LIM)<|Q1Y F k j a.1.l_ a.1.at_ (b++([(⟨(d.2+(1:Int)),(⟨c⟩:Re_),i.2,((1:Int)+a.2)⟩:Line)]:List Line))) (Q1Y F k j e.1.l_ e.1.at_ b)
def Z2a (F:Nat) (j:List Crop) (i:Int) (b:List Line) (k:Tape×Int) (l:Tape×Re_) (d:(Int×(List Int)×Int×(List Line))->Option (Tape×(List Line)×(List Int)×(List Re_))) (e:((List Rect)×Int)->Option (Tape×(List Line)×(List Int)×(List Re_))) (c:List Rect) (a:Int):Option (Tape×(List Line)×(List Int)×(List Re_)):=
 br (decide (a<(b.length:Int))) (gd (0<=a/\a<(b.length:Int))<|(U7 F c ((gl b a.toNat).g_.t_) (3:Int)).bind fun m=>gd (I64 (a+1))<|e (m,(a+1))) (Q1Z F j i b k l d c)
def Q3U (F:Nat) (j:List Crop) (b:List Re_) (d:Int) (e:List Line) (a:Tape×Int) (k:Tape×Re_) (c:(Int×(List Int)×Int×(List Line))->Option (Tape×(List Line)×(List Int)×(List Re_))) (i:List Rect):Option (Tape×(List Line)×(List Int)×(List Re_)):=
 gd (0<=a.2/\a.2<(b.length:Int))<|(U7 F i ((gl b a.2.toNat).t_) (2:Int)).bind fun l=>Z3 (fun g (z:(List Rect)×Int)=>Z2a F j d e a k c g z.1 z.2) F (l,(0:Int))
def Z2b (F:Nat) (m:List Crop) (j:List Re_) (k:Int) (l:List Line) (c:Tape×Int) (d:Tape×Re_) (e:(Int×(List Int)×Int×(List Line))->Option (Tape×(List Line)×(List Int)×(List Re_))) (i:(Int×(List Rect))->Option (Tape×(List Line)×(List Int)×(List Re_))) (a:Int) (b:List Rect):Option (Tape×(List Line)×(List Int)×(List Re_)):=
 br (decide (a<(d.2.t_.length:Int))) (gd (0<=a/\a<(b.length:Int))<|gd (I64 ((10:Int)*c.2))<|gd (I64 (((gl b a.toNat).L_)+((10:Int)*c.2)))<|gd (0<=a/\a<(b.length:Int))<|gd (I64 ((10:Int)*c.2))<|gd (I64 (((gl b a.toNat).R_)+((10:Int)*c.2)))<|gd (0<=a/\a<(b.length:Int))<|gd (0<=a/\a<((List.length (List.set b a.toNat (⟨(((gl b a.toNat).L_)+((10:Int)*c.2)),(gl b a.toNat).w_,(gl b a.toNat).R_,(gl b a.toNat).H_⟩:Rect)):Nat):Int))<|gd (I64 (a+1))<|i ((a+1),(List.set (List.set b a.toNat (⟨(((gl b a.toNat).L_)+((10:Int)*c.2)),(gl b a.toNat).w_,(gl b a.toNat).R_,(gl b a.toNat).H_⟩:Rect)) a.toNat (⟨(gl (List.set b a.toNat (⟨(((gl b a.toNat).L_)+((10:Int)*c.2)),(gl b a.toNat).w_,(gl b a.toNat).R_,(gl b a.toNat).H_⟩:Rect)) a.toNat).L_,(gl (List.set b a.toNat (⟨(((gl b a.toNat).L_)+((10:Int)*c.2)),(gl b a.toNat).w_,(gl b a.toNat).R_,(gl b a.toNat).H_⟩:Rect)) a.toNat).w_,(((gl b a.toNat).R_)+((10:Int)*c.2)),(gl (List.set b a.toNat (⟨(((gl b a.toNat).L_)+((10:Int)*c.2)),(gl b a.toNat).w_,(gl b a.toNat).R_,(gl b a.toNat).H_⟩:Rect)) a.toNat).H_⟩:Rect)))) (Q3U F m j k l c d e b)
def Z1Z (F:Nat) (a:List Int) (b:List Re_) (c:List Line) (d:List Int) (e:Int):Option (Tape×(List Line)×(List Int)×(List Re_)):=
 some ((⟨d,e⟩:Tape),c,a,b)
def Q0V (F:Nat) (m:List Crop) (a:List Int) (b:List Re_) (l:(Int×(List Int)×Int×(List Line))->Option (Tape×(List Line)×(List Int)×(List Re_))) (c:Int) (d:List Int) (e:Int) (i:List Line):Option (Tape×(List Line)×(List Int)×(List Re_)):=
 br (decide ((0:Int)<c)) ((Z9 F (⟨d,e⟩:Tape) (a.length:Int)).bind fun j=>(Q9g F j.1 (9:Int) (2:Int)).bind fun k=>Z3 (fun g (z:Int×(List Rect))=>Z2b F m b c i j k l g z.1 z.2) F ((0:Int),k.2.t_)) (Z1Z F a b i d e)
def Q3V (F:Nat) (j:List Crop) (b:Int) (c:List Int) (d:Int) (e:List Int) (i:List Re_):Option (Tape×(List Line)×(List Int)×(List Re_)):=
 gd (I64 (b+1))<|(Z9 F (⟨c,d⟩:Tape) (b+1)).bind fun a=>Z3 (fun g (z:Int×(List Int)×Int×(List Line))=>Q0V F j e i g z.1 z.2.1 z.2.2.1 z.2.2.2) F (a.2,a.1.l_,a.1.at_,([]:List Line))
def Q0W (F:Nat) (l:List Crop) (m:Int) (k:(Int×(List Int)×Int×(List Int)×(List Re_))->Option (Tape×(List Line)×(List Int)×(List Re_))) (d:Int) (i:List Int) (j:Int) (a:List Int) (e:List Re_):Option (Tape×(List Line)×(List Int)×(List Re_)):=
 br (decide ((0:Int)<d)) (gd (I64 ((a.length:Int)+(1:Int)))<|gd ((List.length a)+(List.length ([((a.length:Int)+(1:Int))]:List Int))<=LIM)<|gd (I64 ((10:Int)*(a.length:Int)))<|gd (I64 ((10:Int)*(a.length:Int)))<|(V6 F (⟨i,j⟩:Tape) (2:Int) (9:Int)).bind fun b=>gd (I64 (((10:Int)*(a.length:Int))+b.2))<|(V6 F b.1 (2:Int) (9:Int)).bind fun c=>gd ((List.length e)+(List.length ([(⟨([(⟨((10:Int)*(a.length:Int)),0,(((10:Int)*(a.length:Int))+b.2),c.2⟩:Rect)]:List Rect)⟩:Re_)]:List Re_))<=LIM)<|gd (I64 (d-1))<|k ((d-1),c.1.l_,c.1.at_,(a++([((a.length:Int)+(1:Int))]:List Int)),(e++([(⟨([(⟨((10:Int)*(a.length:Int)),0,(((10:Int)*(a.length:Int))+b.2),c.2⟩:Rect)]:List Rect)⟩:Re_)]:List Re_)))) (Q3V F l m i j a e)
def Q4g (F:Nat) (b:Tape) (c:List Crop) (d:Int):Option (Tape×(List Line)×(List Int)×(List Re_)):=
 (V6 F b (1:Int) (3:Int)).bind fun a=>Z3 (fun g (z:Int×(List Int)×Int×(List Int)×(List Re_))=>Q0W F c d g z.1 z.2.1 z.2.2.1 z.2.2.2.1 z.2.2.2.2) F (a.2,a.1.l_,a.1.at_,([]:List Int),([]:List Re_))
def Z0C (F:Nat) (a:List Re_):Option (List Re_):=
 some a
def Q6T (F:Nat) (b:List Line) (c:List Re_) (i:(Int×(List Re_))->Option (List Re_)) (a:Int) (e:List Re_):Option (List Re_):=
 br (decide (a<(b.length:Int))) (gd (0<=a/\a<(b.length:Int))<|gd (I64 (((gl b a.toNat).p_)-1))<|(Z2e F (((gl b a.toNat).p_)-1) (c.length:Int)).bind fun d=>gd (0<=d/\d<(c.length:Int))<|gd ((List.length e)+(List.length ([(gl c d.toNat)]:List Re_))<=LIM)<|gd (I64 (a+1))<|i ((a+1),(e++([(gl c d.toNat)]:List Re_)))) (Z0C F e)
def Q8j (F:Nat) (a:List Line) (b:List Re_):Option (List Re_):=
 Z3 (fun g (z:Int×(List Re_))=>Q6T F a b g z.1 z.2) F ((0:Int),([]:List Re_))
def Q6Q (F:Nat) (rc:Int->Option ByteArray) (a:Int):Option ByteArray:=
 br (decide (a<0)) (gd ((10:Int)≠0)<|gd (I64 (0-(a.tmod (10:Int))))<|br (decide ((-10:Int)<a)) (gd (I64 ((48:Int)+(0-(a.tmod (10:Int)))))<|gd (ByteArray.size (ByteArray.mk #[45])+ByteArray.size (bOf (IntKind.wrap .u8 ((48:Int)+(0-(a.tmod (10:Int))))))<=LIM)<|some ((ByteArray.mk #[45])++(bOf (IntKind.wrap .u8 ((48:Int)+(0-(a.tmod (10:Int)))))))) (gd (I64 (a.tdiv (10:Int))/\(10:Int)≠0)<|(rc (a.tdiv (10:Int))).bind fun b=>gd (I64 ((48:Int)+(0-(a.tmod (10:Int)))))<|gd (ByteArray.size b+ByteArray.size (bOf (IntKind.wrap .u8 ((48:Int)+(0-(a.tmod (10:Int))))))<=LIM)<|some (b++(bOf (IntKind.wrap .u8 ((48:Int)+(0-(a.tmod (10:Int))))))))) (br (decide (a<10)) (gd (I64 ((48:Int)+a))<|some (bOf (IntKind.wrap .u8 ((48:Int)+a)))) (gd (I64 (a.tdiv (10:Int))/\(10:Int)≠0)<|(rc (a.tdiv (10:Int))).bind fun c=>gd ((10:Int)≠0)<|gd (I64 ((48:Int)+(a.tmod (10:Int))))<|gd (ByteArray.size c+ByteArray.size (bOf (IntKind.wrap .u8 ((48:Int)+(a.tmod (10:Int)))))<=LIM)<|some (c++(bOf (IntKind.wrap .u8 ((48:Int)+(a.tmod (10:Int))))))))
def Q4s:Nat->Int->Option ByteArray
 | 0=>fun _=>none
 | F+1=>Q6Q F (Q4s F)
def Q2T (F:Nat) (c:Tape) (a:Int):Option (Tape×Bool):=
 (Z9 F c a).bind fun b=>gd (I64 (a-1))<|some (b.1,(b.2==(a-1)))
def J6 (F:Nat) (rc:Tape->Int->Option (Tape×Term)) (e:Tape×Int) (a b:Int) (c:List Int) (d:Int):Option (Tape×Term):=
 some ((⟨c,d⟩:Tape),(⟨e.2,a,b,[]⟩:Term))
def Q0D (F:Nat) (rc:Tape->Int->Option (Tape×Term)) (a:Tape×Int) (l:Bool):Option (Tape×Term):=
 br l ((Z9 F a.1 (4:Int)).bind fun d=>J6 F rc a d.2 0 d.1.l_ d.1.at_) (br (a.2==(4:Int)) ((Z9 F a.1 (5:Int)).bind fun b=>gd (I64 ((1:Int)*2 ^ (min (b.2).toNat (IntKind.bits .i64)))/\0<=b.2)<|J6 F rc a ((1:Int)*2 ^ (min (b.2).toNat (IntKind.bits .i64))) 0 b.1.l_ b.1.at_) (br (a.2==(5:Int)) ((Z9 F a.1 (16:Int)).bind fun e=>J6 F rc a e.2 0 e.1.l_ e.1.at_) (br (a.2==(6:Int)) ((V6 F a.1 (2:Int) (3:Int)).bind fun i=>J6 F rc a i.2 0 i.1.l_ i.1.at_) (br (a.2==(7:Int)) ((V6 F a.1 (1:Int) (2:Int)).bind fun k=>(Z9 F k.1 (5:Int)).bind fun c=>gd (I64 ((1:Int)*2 ^ (min (c.2).toNat (IntKind.bits .i64)))/\0<=c.2)<|J6 F rc a k.2 ((1:Int)*2 ^ (min (c.2).toNat (IntKind.bits .i64))) c.1.l_ c.1.at_) (br (a.2==(8:Int)) ((V6 F a.1 (1:Int) (3:Int)).bind fun j=>J6 F rc a j.2 0 j.1.l_ j.1.at_) (J6 F rc a 0 0 a.1.l_ a.1.at_))))))
def Q0E (F:Nat) (rc:Tape->Int->Option (Tape×Term)) (a:Int) (n:Bool) (l:List Int) (m:Int):Option (Tape×Term):=
 br n ((Z9 F (⟨l,m⟩:Tape) (3:Int)).bind fun b=>br (b.2==(0:Int)) (gd (I64 (a-1))<|(rc b.1 (a-1)).bind fun d=>gd (I64 d.2.op_)<|some (d.1,(⟨(11:Int),0,0,([d.2]:List Term)⟩:Term))) (br (b.2==(1:Int)) (gd (I64 (a-1))<|(rc b.1 (a-1)).bind fun e=>gd (I64 (a-1))<|(rc e.1 (a-1)).bind fun i=>gd (I64 e.2.op_)<|gd (I64 i.2.op_)<|some (i.1,(⟨(9:Int),0,0,([e.2,i.2]:List Term)⟩:Term))) (gd (I64 (a-1))<|(rc b.1 (a-1)).bind fun j=>gd (I64 (a-1))<|(rc j.1 (a-1)).bind fun k=>gd (I64 j.2.op_)<|gd (I64 k.2.op_)<|some (k.1,(⟨(10:Int),0,0,([j.2,k.2]:List Term)⟩:Term))))) ((V6 F (⟨l,m⟩:Tape) (1:Int) (8:Int)).bind fun c=>br (c.2==(2:Int)) (Q0D F rc c (c.2==(2:Int))) (Q0D F rc c (c.2==(3:Int))))
def Q5O (F:Nat) (rc:Tape->Int->Option (Tape×Term)) (a:Tape) (b:Int):Option (Tape×Term):=
 br (decide ((0:Int)<b)) ((Q2T F a (2:Int)).bind fun c=>Q0E F rc b c.2 c.1.l_ c.1.at_) (Q0E F rc b false a.l_ a.at_)
def K5:Nat->Tape->Int->Option (Tape×Term)
 | 0=>fun _ _=>none
 | F+1=>Q5O F (K5 F)
def y6 (F:Nat) (a:Int) (b:(Int)->Option Bool) (c:Bool):Option Bool:=
 br c (some false) (gd (I64 (a+1))<|b (a+1))
def Z7U (F:Nat):Option Bool:=
 some true
def Q9z (F:Nat) (b:ByteArray) (c:(Int)->Option Bool) (a:Int):Option Bool:=
 br (decide (a<((b.size:Nat):Int))) (gd (0<=a/\a<((b.size:Nat):Int))<|br (decide ((sAt b a)<97)) (gd (0<=a/\a<((b.size:Nat):Int))<|br (decide ((sAt b a)<48)) (y6 F a c true) (gd (0<=a/\a<((b.size:Nat):Int))<|y6 F a c (decide ((57:Int)<(sAt b a))))) (gd (0<=a/\a<((b.size:Nat):Int))<|br (decide ((122:Int)<(sAt b a))) (gd (0<=a/\a<((b.size:Nat):Int))<|br (decide ((sAt b a)<48)) (y6 F a c true) (gd (0<=a/\a<((b.size:Nat):Int))<|y6 F a c (decide ((57:Int)<(sAt b a))))) (y6 F a c false))) (Z7U F)
def Q1H (F:Nat) (b:ByteArray) (a:Bool):Option Bool:=
 br a (some false) (Z3 (fun g (z:Int)=>Q9z F b g z) F (0:Int))
def Z4v (F:Nat) (a:ByteArray):Option Bool:=
 br (decide (((a.size:Nat):Int)<(1:Int))) (Q1H F a true) (br (decide ((12:Int)<((a.size:Nat):Int))) (Q1H F a true) (gd (0<=(0:Int)/\(0:Int)<((a.size:Nat):Int))<|br (decide ((sAt a (0:Int))<97)) (Q1H F a true) (gd (0<=(0:Int)/\(0:Int)<((a.size:Nat):Int))<|Q1H F a (decide ((122:Int)<(sAt a (0:Int)))))))
def Q5k (F:Nat) (rc:Term->Option Int) (a:Int) (b:(Int×Int)->Option Int) (c:Int):Option Int:=
 gd (I64 (a+1))<|b (c,(a+1))
def Z5Y (F:Nat) (rc:Term->Option Int) (a:Int):Option Int:=
 some a
def Q7O (F:Nat) (rc:Term->Option Int) (c:Term) (d:(Int×Int)->Option Int) (b a:Int):Option Int:=
 br (decide (a<(c.kids_.length:Int))) (gd (0<=a/\a<(c.kids_.length:Int))<|gd (I64 (gl c.kids_ a.toNat).op_)<|br (decide (b<=40)) ((rc (gl c.kids_ a.toNat)).bind fun e=>gd (I64 (b+e))<|Q5k F rc a d (b+e)) (Q5k F rc a d b)) (Z5Y F rc b)
def Q9x (F:Nat) (rc:Term->Option Int) (a:Term):Option Int:=
 Z3 (fun g (z:Int×Int)=>Q7O F rc a g z.1 z.2) F ((1:Int),(0:Int))
def Q3F:Nat->Term->Option Int
 | 0=>fun _=>none
 | F+1=>Q9x F (Q3F F)
def Z1S (F:Nat) (rc:Term->Option Int) (a:Int):Option Int:=
 gd (I64 (a+1))<|some (a+1)
def Q7N (F:Nat) (rc:Term->Option Int) (b:Term) (d:(Int×Int)->Option Int) (c a:Int):Option Int:=
 br (decide (a<(b.kids_.length:Int))) (gd (0<=a/\a<(b.kids_.length:Int))<|gd (I64 (gl b.kids_ a.toNat).op_)<|(rc (gl b.kids_ a.toNat)).bind fun e=>gd (I64 (a+1))<|d ((Q0x c e),(a+1))) (Z1S F rc c)
def Q9w (F:Nat) (rc:Term->Option Int) (a:Term):Option Int:=
 Z3 (fun g (z:Int×Int)=>Q7N F rc a g z.1 z.2) F ((0:Int),(0:Int))
def Q3E:Nat->Term->Option Int
 | 0=>fun _=>none
 | F+1=>Q9w F (Q3E F)
def Q1v (F:Nat) (a:Bool):Option Bool:=
 some a
def Q5H (F:Nat) (a:Int):Option Bool:=
 br (a==1) (Q1v F true) (br (a==2) (Q1v F true) (br (a==4) (Q1v F true) (br (a==8) (Q1v F true) (Q1v F (a==16)))))
def Z7L (F:Nat) (rc:Term->Option Bool):Option Bool:=
 some true
def Q4r (F:Nat) (rc:Term->Option Bool) (b:Term) (c:(Int)->Option Bool) (a:Int):Option Bool:=
 br (decide (a<(b.kids_.length:Int))) (gd (0<=a/\a<(b.kids_.length:Int))<|gd (I64 (gl b.kids_ a.toNat).op_)<|(rc (gl b.kids_ a.toNat)).bind fun d=>br (!d) (some false) (gd (I64 (a+1))<|c (a+1))) (Z7L F rc)
def Q4p (F:Nat) (rc:Term->Option Bool) (b:Term) (a:Bool):Option Bool:=
 br a (some false) (Z3 (fun g (z:Int)=>Q4r F rc b g z) F (0:Int))
def W3 (F:Nat) (rc:Term->Option Bool) (a:Term) (b:Int) (c d:Bool):Option Bool:=
 br (!d) (Q4p F rc a true) (br (!c) (Q4p F rc a true) (Q4p F rc a ((a.kids_.length:Int) != b)))
def Q4q (F:Nat) (rc:Term->Option Bool) (a:Term) (b:Bool):Option Bool:=
 br b (br (a.num_==0) (W3 F rc a (a.kids_.length:Int) (a.more_==0) (decide ((0:Int)<(a.kids_.length:Int)))) (W3 F rc a (a.kids_.length:Int) (a.more_==0) false)) (br (a.op_==11) (W3 F rc a (1:Int) (a.more_==0) (a.num_==0)) (W3 F rc a (0:Int) (a.more_==0) false))
def Z1i (F:Nat) (rc:Term->Option Bool) (a:Term):Option Bool:=
 br (a.op_==1) (W3 F rc a (0:Int) (a.more_==0) (a.num_==0)) (br (a.op_==2) (br (decide ((0:Int)<=a.num_)) (W3 F rc a (0:Int) (a.more_==0) (decide (a.num_<40))) (W3 F rc a (0:Int) (a.more_==0) false)) (br (a.op_==3) (br (decide ((0:Int)<=a.num_)) (W3 F rc a (0:Int) (a.more_==0) (decide (a.num_<=40))) (W3 F rc a (0:Int) (a.more_==0) false)) (br (a.op_==4) ((Q5H F a.num_).bind fun b=>W3 F rc a (0:Int) (a.more_==0) b) (br (a.op_==5) (br (decide ((0:Int)<=a.num_)) (W3 F rc a (0:Int) (a.more_==0) (decide (a.num_<=15))) (W3 F rc a (0:Int) (a.more_==0) false)) (br (a.op_==6) (br (decide ((2:Int)<=a.num_)) (W3 F rc a (0:Int) (a.more_==0) (decide (a.num_<=10))) (W3 F rc a (0:Int) (a.more_==0) false)) (br (a.op_==7) (br (decide ((1:Int)<=a.num_)) ((Q5H F a.more_).bind fun c=>W3 F rc a (0:Int) c (decide (a.num_<=10))) ((Q5H F a.more_).bind fun d=>W3 F rc a (0:Int) d false)) (br (a.op_==8) (br (decide ((1:Int)<=a.num_)) (W3 F rc a (0:Int) (a.more_==0) (decide (a.num_<=10))) (W3 F rc a (0:Int) (a.more_==0) false)) (br (a.op_==9) (Q4q F rc a (a.op_==9)) (Q4q F rc a (a.op_==10))))))))))
def Q0a:Nat->Term->Option Bool
 | 0=>fun _=>none
 | F+1=>Z1i F (Q0a F)
def Q7P (F:Nat) (a:Bool):Option Int:=
 br a (some (16:Int)) (some (0:Int))
def Z2C (F:Nat) (a:Term):Option Int:=
 (Q3F F a).bind fun b=>br (decide ((40:Int)<b)) (some (1:Int)) ((Q3E F a).bind fun c=>br (decide ((8:Int)<c)) (Q7P F true) ((Q0a F a).bind fun d=>Q7P F (!d)))
def Q0c (F:Nat) (d:List Bracket) (a:Int) (b:(Int×Int)->Option Bool) (c:Bool):Option Bool:=
 br c (some false) (gd (I64 (a+1))<|b ((gl d a.toNat).up_,(a+1)))
def Z2A (F:Nat):Option Bool:=
 some true
def Q1o (F:Nat) (b:List Bracket) (c:(Int×Int)->Option Bool) (d a:Int):Option Bool:=
 br (decide (a<(b.length:Int))) (gd (0<=a/\a<(b.length:Int))<|br (decide (((gl b a.toNat).up_)<=d)) (Q0c F b a c true) (br (decide ((268435456:Int)<((gl b a.toNat).up_))) (Q0c F b a c true) (br (decide (((gl b a.toNat).rate_)<0)) (Q0c F b a c true) (Q0c F b a c (decide ((1048576:Int)<((gl b a.toNat).rate_))))))) (Z2A F)
def Q2B (F:Nat) (b:List Bracket) (a:Bool):Option Bool:=
 br a (some false) (Z3 (fun g (z:Int×Int)=>Q1o F b g z.1 z.2) F ((0:Int),(0:Int)))
def Q7J (F:Nat) (a:List Bracket):Option Bool:=
 br (decide ((a.length:Int)<(1:Int))) (Q2B F a true) (Q2B F a (decide ((6:Int)<(a.length:Int))))
def Q3M (F:Nat) (a:Bool):Option Int:=
 br a (some (3:Int)) (some (0:Int))
def Q3N (F:Nat) (a:Scheme) (c:Bool):Option Int:=
 br c (some (2:Int)) ((Z4v F a.n_).bind fun d=>br (!d) (some (5:Int)) ((Z2C F a.cond_).bind fun b=>br (b != (0:Int)) (some b) ((Q7J F a.brackets_).bind fun e=>br (!e) (Q3M F true) (br (decide (a.excludes_<0)) (Q3M F true) (br (decide ((65536:Int)<=a.excludes_)) (Q3M F true) (gd (0<=a.N_)<|Q3M F ((Q3A .i64 (a.excludes_.fdiv (2 ^ (min (a.N_).toNat (IntKind.bits .i64)))) (1:Int))==1)))))))
def Z6T (F:Nat) (a:Scheme):Option Int:=
 br (decide (a.N_<0)) (Q3N F a true) (br (decide ((15:Int)<a.N_)) (Q3N F a true) (br (decide (a.least_<0)) (Q3N F a true) (Q3N F a (decide ((268435456:Int)<a.least_)))))
def Z7J (F:Nat):Option Int:=
 some (-1:Int)
def Q2Q (F:Nat) (b:List Scheme) (d:Int) (c:(Int)->Option Int) (a:Int):Option Int:=
 br (decide (a<(b.length:Int))) (gd (0<=a/\a<(b.length:Int))<|br (((gl b a.toNat).N_)==d) (some a) (gd (I64 (a+1))<|c (a+1))) (Z7J F)
def Z4q (F:Nat) (a:List Scheme) (b:Int):Option Int:=
 Z3 (fun g (z:Int)=>Q2Q F a b g z) F (0:Int)
def Q3l (F:Nat) (c a:Int) (b:(Int)->Option (Int×Int)) (d:Bool):Option (Int×Int):=
 br d (some (c,(6:Int))) (gd (I64 (a+1))<|b (a+1))
def Z5W (F:Nat) (a:Int) (b:(Int)->Option (Int×Int)):Option (Int×Int):=
 gd (I64 (a+1))<|b (a+1)
def Q1h (F:Nat) (c:List Scheme) (a:Int) (e d:(Int)->Option (Int×Int)) (b:Int):Option (Int×Int):=
 br (decide (b<((List.length (c.take a.toNat):Nat):Int))) (gd (0<=b/\b<((List.length (c.take a.toNat):Nat):Int))<|br (sEq ((gl (c.take a.toNat) b.toNat).n_) ((gl c a.toNat).n_)) (Q3l F a b d true) (gd (I64 (a-1))<|br (b==(a-1)) (Q3l F a b d (decide (((gl c a.toNat).N_)<=((gl (c.take a.toNat) b.toNat).N_)))) (Q3l F a b d false))) (Z5W F a e)
def Q7K (F:Nat) (a:Int) (b:(Int)->Option (Int×Int)):Option (Int×Int):=
 gd (I64 (a+1))<|b (a+1)
def Q7L (F:Nat) (b c:Int) (a:(Int)->Option (Int×Int)) (d:Bool):Option (Int×Int):=
 br d (some (b,(17:Int))) (Q7K F c a)
def Z5V (F:Nat) (a:Int) (b:(Int)->Option (Int×Int)):Option (Int×Int):=
 gd (I64 (a+1))<|b (a+1)
def Q1g (F:Nat) (c:List Scheme) (b:Int) (i e:(Int)->Option (Int×Int)) (a:Int):Option (Int×Int):=
 br (decide (a<=15)) (gd (0<=a)<|br ((Q3A .i64 (((gl c b.toNat).excludes_).fdiv (2 ^ (min (a).toNat (IntKind.bits .i64)))) (1:Int))==0) (Q7K F a e) ((Z4q F c a).bind fun d=>br (decide (d<0)) (Q7L F b a e true) (gd (0<=d/\d<(c.length:Int))<|gd (0<=((gl c b.toNat).N_))<|Q7L F b a e ((Q3A .i64 (((gl c d.toNat).excludes_).fdiv (2 ^ (min (((gl c b.toNat).N_)).toNat (IntKind.bits .i64)))) (1:Int))==0)))) (Z5V F b i)
def Z5a (F:Nat):Option (Int×Int):=
 some ((-1:Int),(0:Int))
def Q1U (F:Nat) (b:List Scheme) (c:(Int)->Option (Int×Int)) (a:Int):Option (Int×Int):=
 br (decide (a<(b.length:Int))) (gd (0<=a/\a<(b.length:Int))<|Z3 (fun g (z:Int)=>Q1g F b a c g z) F (0:Int)) (Z5a F)
def Z1Q (F:Nat) (a:List Scheme):Option (Int×Int):=
 Z3 (fun g (z:Int)=>Q1U F a g z) F (0:Int)
def Q1V (F:Nat) (b:List Scheme) (d:(Int)->Option (Int×Int)) (a:Int):Option (Int×Int):=
 br (decide (a<(b.length:Int))) (gd (0<=a/\a<(b.length:Int))<|(Z6T F (gl b a.toNat)).bind fun c=>br (c != (0:Int)) (some (a,c)) (gd (0<=a/\a<=(b.length:Int))<|Z3 (fun g (z:Int)=>Q1h F b a d g z) F (0:Int))) (Z1Q F b)
def Z2B (F:Nat) (a:List Scheme):Option (Int×Int):=
 br (decide ((16:Int)<(a.length:Int))) (some ((0:Int),(1:Int))) (Z3 (fun g (z:Int)=>Q1V F a g z) F (0:Int))
def Q9b (F:Nat) (a:Int) (b:(Int×Int×(List Int)×Int×(List Scheme))->Option (Tape×(List Scheme))) (c:Int) (d:List Int) (e:Int) (i:List Scheme):Option (Tape×(List Scheme)):=
 gd (I64 (a-1))<|b (c,(a-1),d,e,i)
def Q9c (F:Nat) (a m:Int) (c:List Scheme) (e:ByteArray) (i:Tape×Term) (j:Tape×Int) (k:Tape×Bool) (l:(Int×Int×(List Int)×Int×(List Scheme))->Option (Tape×(List Scheme))) (n:List Int) (o:Int) (d:List Bracket):Option (Tape×(List Scheme)):=
 gd ((List.length c)+(List.length ([(⟨a,((ByteArray.mk #[115])++e),i.2,d,j.2,0,k.2⟩:Scheme)]:List Scheme))<=LIM)<|(V6 F (⟨n,o⟩:Tape) (1:Int) (2:Int)).bind fun b=>gd (I64 (a+b.2))<|Q9b F m l (a+b.2) b.1.l_ b.1.at_ (c++([(⟨a,((ByteArray.mk #[115])++e),i.2,d,j.2,0,k.2⟩:Scheme)]:List Scheme))
def Q9f (F:Nat) (m n:Int) (o:List Scheme) (p:ByteArray) (q:Tape×Term) (s:Tape×Int) (t:Tape×Bool) (k:(Int×Int×(List Int)×Int×(List Scheme))->Option (Tape×(List Scheme))) (l:(Int×Int×(List Int)×Int×(List Bracket))->Option (Tape×(List Scheme))) (b d:Int) (i:List Int) (j:Int) (e:List Bracket):Option (Tape×(List Scheme)):=
 br (decide ((0:Int)<d)) ((V6 F (⟨i,j⟩:Tape) (1:Int) (40:Int)).bind fun a=>gd (I64 (b+a.2))<|(Z9 F a.1 (3000:Int)).bind fun c=>gd ((List.length e)+(List.length ([(⟨(b+a.2),c.2⟩:Bracket)]:List Bracket))<=LIM)<|gd (I64 (d-1))<|l ((b+a.2),(d-1),c.1.l_,c.1.at_,(e++([(⟨(b+a.2),c.2⟩:Bracket)]:List Bracket)))) (Q9c F m n o p q s t k i j e)
def Q3q (F:Nat) (a:Int) (b:(Int×(List Int)×Int×(List Scheme))->Option (Tape×(List Scheme))) (c:List Int) (d:Int) (e:List Scheme):Option (Tape×(List Scheme)):=
 gd (I64 (a+1))<|b ((a+1),c,d,e)
def Q9a (F:Nat) (a:Int) (b:(Int×(List Int)×Int×(List Scheme))->Option (Tape×(List Scheme))) (c:List Int) (d:Int) (e:List Scheme):Option (Tape×(List Scheme)):=
 gd (I64 (a+1))<|b ((a+1),c,d,e)
def Q9d (F:Nat) (b:Int) (k e:(Int×(List Int)×Int×(List Scheme))->Option (Tape×(List Scheme))) (c:Int) (i:List Int) (j:Int) (a:List Scheme):Option (Tape×(List Scheme)):=
 br (decide (c<((((b).toNat):Nat):Int))) ((Q2T F (⟨i,j⟩:Tape) (3:Int)).bind fun d=>br d.2 (gd (0<=b/\b<(a.length:Int))<|gd (0<=c/\c<(a.length:Int))<|gd (I64 ((1:Int)*2 ^ (min (((gl a c.toNat).N_)).toNat (IntKind.bits .i64)))/\0<=((gl a c.toNat).N_))<|gd (0<=b/\b<(a.length:Int))<|gd (0<=c/\c<((List.length (List.set a b.toNat (⟨(gl a b.toNat).N_,(gl a b.toNat).n_,(gl a b.toNat).cond_,(gl a b.toNat).brackets_,(gl a b.toNat).least_,(bor .i64 ((gl a b.toNat).excludes_) ((1:Int)*2 ^ (min (((gl a c.toNat).N_)).toNat (IntKind.bits .i64)))),(gl a b.toNat).needs_⟩:Scheme)):Nat):Int))<|gd (0<=b/\b<((List.length (List.set a b.toNat (⟨(gl a b.toNat).N_,(gl a b.toNat).n_,(gl a b.toNat).cond_,(gl a b.toNat).brackets_,(gl a b.toNat).least_,(bor .i64 ((gl a b.toNat).excludes_) ((1:Int)*2 ^ (min (((gl a c.toNat).N_)).toNat (IntKind.bits .i64)))),(gl a b.toNat).needs_⟩:Scheme)):Nat):Int))<|gd (I64 ((1:Int)*2 ^ (min (((gl (List.set a b.toNat (⟨(gl a b.toNat).N_,(gl a b.toNat).n_,(gl a b.toNat).cond_,(gl a b.toNat).brackets_,(gl a b.toNat).least_,(bor .i64 ((gl a b.toNat).excludes_) ((1:Int)*2 ^ (min (((gl a c.toNat).N_)).toNat (IntKind.bits .i64)))),(gl a b.toNat).needs_⟩:Scheme)) b.toNat).N_)).toNat (IntKind.bits .i64)))/\0<=((gl (List.set a b.toNat (⟨(gl a b.toNat).N_,(gl a b.toNat).n_,(gl a b.toNat).cond_,(gl a b.toNat).brackets_,(gl a b.toNat).least_,(bor .i64 ((gl a b.toNat).excludes_) ((1:Int)*2 ^ (min (((gl a c.toNat).N_)).toNat (IntKind.bits .i64)))),(gl a b.toNat).needs_⟩:Scheme)) b.toNat).N_))<|gd (0<=c/\c<((List.length (List.set a b.toNat (⟨(gl a b.toNat).N_,(gl a b.toNat).n_,(gl a b.toNat).cond_,(gl a b.toNat).brackets_,(gl a b.toNat).least_,(bor .i64 ((gl a b.toNat).excludes_) ((1:Int)*2 ^ (min (((gl a c.toNat).N_)).toNat (IntKind.bits .i64)))),(gl a b.toNat).needs_⟩:Scheme)):Nat):Int))<|Q3q F c e d.1.l_ d.1.at_ (List.set (List.set a b.toNat (⟨(gl a b.toNat).N_,(gl a b.toNat).n_,(gl a b.toNat).cond_,(gl a b.toNat).brackets_,(gl a b.toNat).least_,(bor .i64 ((gl a b.toNat).excludes_) ((1:Int)*2 ^ (min (((gl a c.toNat).N_)).toNat (IntKind.bits .i64)))),(gl a b.toNat).needs_⟩:Scheme)) c.toNat (⟨(gl (List.set a b.toNat (⟨(gl a b.toNat).N_,(gl a b.toNat).n_,(gl a b.toNat).cond_,(gl a b.toNat).brackets_,(gl a b.toNat).least_,(bor .i64 ((gl a b.toNat).excludes_) ((1:Int)*2 ^ (min (((gl a c.toNat).N_)).toNat (IntKind.bits .i64)))),(gl a b.toNat).needs_⟩:Scheme)) c.toNat).N_,(gl (List.set a b.toNat (⟨(gl a b.toNat).N_,(gl a b.toNat).n_,(gl a b.toNat).cond_,(gl a b.toNat).brackets_,(gl a b.toNat).least_,(bor .i64 ((gl a b.toNat).excludes_) ((1:Int)*2 ^ (min (((gl a c.toNat).N_)).toNat (IntKind.bits .i64)))),(gl a b.toNat).needs_⟩:Scheme)) c.toNat).n_,(gl (List.set a b.toNat (⟨(gl a b.toNat).N_,(gl a b.toNat).n_,(gl a b.toNat).cond_,(gl a b.toNat).brackets_,(gl a b.toNat).least_,(bor .i64 ((gl a b.toNat).excludes_) ((1:Int)*2 ^ (min (((gl a c.toNat).N_)).toNat (IntKind.bits .i64)))),(gl a b.toNat).needs_⟩:Scheme)) c.toNat).cond_,(gl (List.set a b.toNat (⟨(gl a b.toNat).N_,(gl a b.toNat).n_,(gl a b.toNat).cond_,(gl a b.toNat).brackets_,(gl a b.toNat).least_,(bor .i64 ((gl a b.toNat).excludes_) ((1:Int)*2 ^ (min (((gl a c.toNat).N_)).toNat (IntKind.bits .i64)))),(gl a b.toNat).needs_⟩:Scheme)) c.toNat).brackets_,(gl (List.set a b.toNat (⟨(gl a b.toNat).N_,(gl a b.toNat).n_,(gl a b.toNat).cond_,(gl a b.toNat).brackets_,(gl a b.toNat).least_,(bor .i64 ((gl a b.toNat).excludes_) ((1:Int)*2 ^ (min (((gl a c.toNat).N_)).toNat (IntKind.bits .i64)))),(gl a b.toNat).needs_⟩:Scheme)) c.toNat).least_,(bor .i64 ((gl (List.set a b.toNat (⟨(gl a b.toNat).N_,(gl a b.toNat).n_,(gl a b.toNat).cond_,(gl a b.toNat).brackets_,(gl a b.toNat).least_,(bor .i64 ((gl a b.toNat).excludes_) ((1:Int)*2 ^ (min (((gl a c.toNat).N_)).toNat (IntKind.bits .i64)))),(gl a b.toNat).needs_⟩:Scheme)) c.toNat).excludes_) ((1:Int)*2 ^ (min (((gl (List.set a b.toNat (⟨(gl a b.toNat).N_,(gl a b.toNat).n_,(gl a b.toNat).cond_,(gl a b.toNat).brackets_,(gl a b.toNat).least_,(bor .i64 ((gl a b.toNat).excludes_) ((1:Int)*2 ^ (min (((gl a c.toNat).N_)).toNat (IntKind.bits .i64)))),(gl a b.toNat).needs_⟩:Scheme)) b.toNat).N_)).toNat (IntKind.bits .i64)))),(gl (List.set a b.toNat (⟨(gl a b.toNat).N_,(gl a b.toNat).n_,(gl a b.toNat).cond_,(gl a b.toNat).brackets_,(gl a b.toNat).least_,(bor .i64 ((gl a b.toNat).excludes_) ((1:Int)*2 ^ (min (((gl a c.toNat).N_)).toNat (IntKind.bits .i64)))),(gl a b.toNat).needs_⟩:Scheme)) c.toNat).needs_⟩:Scheme))) (Q3q F c e d.1.l_ d.1.at_ a)) (Q9a F b k i j a)
def Q4R (F:Nat) (a:List Scheme) (b:List Int) (c:Int):Option (Tape×(List Scheme)):=
 (Z2B F a).bind fun d=>br (d.2 != (0:Int)) (some ((⟨b,c⟩:Tape),([]:List Scheme))) (some ((⟨b,c⟩:Tape),a))
def Q9e (F:Nat) (i:List Scheme) (e:(Int×(List Int)×Int×(List Scheme))->Option (Tape×(List Scheme))) (a:Int) (c:List Int) (d:Int) (b:List Scheme):Option (Tape×(List Scheme)):=
 br (decide (a<(i.length:Int))) (gd (0<=(0:Int)/\(0:Int)<=a/\((0:Nat):Int)+a<=(b.length:Int))<|Z3 (fun g (z:Int×(List Int)×Int×(List Scheme))=>Q9d F a e g z.1 z.2.1 z.2.2.1 z.2.2.2) F ((0:Int),c,d,b)) (Q4R F b c d)
def Q5P (F:Nat) (b:List Int) (c:Int) (a:List Scheme):Option (Tape×(List Scheme)):=
 Z3 (fun g (z:Int×(List Int)×Int×(List Scheme))=>Q9e F a g z.1 z.2.1 z.2.2.1 z.2.2.2) F ((0:Int),b,c,a)
def Q1M (F:Nat) (b n:Int) (c:List Int) (d:Int) (e:List Scheme) (m:(Int×Int×(List Int)×Int×(List Scheme))->Option (Tape×(List Scheme))) (o:Bool):Option (Tape×(List Scheme)):=
 br o ((Q4s F b).bind fun i=>gd (ByteArray.size (ByteArray.mk #[115])+ByteArray.size i<=LIM)<|(K5 F (⟨c,d⟩:Tape) (2:Int)).bind fun j=>(Z9 F j.1 (4:Int)).bind fun k=>(Q2T F k.1 (2:Int)).bind fun l=>(V6 F l.1 (1:Int) (3:Int)).bind fun a=>Z3 (fun g (z:Int×Int×(List Int)×Int×(List Bracket))=>Q9f F b n e i j k l m g z.1 z.2.1 z.2.2.1 z.2.2.2.1 z.2.2.2.2) F ((0:Int),a.2,a.1.l_,a.1.at_,([]:List Bracket))) (Q5P F c d e)
def Q5Q (F:Nat) (c:(Int×Int×(List Int)×Int×(List Scheme))->Option (Tape×(List Scheme))) (a b:Int) (d:List Int) (e:Int) (i:List Scheme):Option (Tape×(List Scheme)):=
 br (decide ((0:Int)<b)) (Q1M F a b d e i c (decide (a<=3))) (Q1M F a b d e i c false)
def Q6w (F:Nat) (d:Tape) (b:Int):Option (Tape×(List Scheme)):=
 (Z9 F d (2:Int)).bind fun c=>gd (I64 (b+1))<|(Z9 F c.1 (b+1)).bind fun a=>Z3 (fun g (z:Int×Int×(List Int)×Int×(List Scheme))=>Q5Q F g z.1 z.2.1 z.2.2.1 z.2.2.2.1 z.2.2.2.2) F (c.2,a.2,a.1.l_,a.1.at_,([]:List Scheme))
def Z6g (F:Nat):Option Bool:=
 some true
def Z6h (F:Nat) (b c:List Rect) (d:(Int)->Option Bool) (a:Int):Option Bool:=
 br (decide (a<(b.length:Int))) (gd (0<=a/\a<(b.length:Int))<|gd (0<=a/\a<(c.length:Int))<|br (!((((gl b a.toNat).L_)==((gl c a.toNat).L_))&&((((gl b a.toNat).w_)==((gl c a.toNat).w_))&&((((gl b a.toNat).R_)==((gl c a.toNat).R_))&&((((gl b a.toNat).H_)==((gl c a.toNat).H_))&&true))))) (some false) (gd (I64 (a+1))<|d (a+1))) (Z6g F)
def Z2G (F:Nat) (a b:List Rect):Option Bool:=
 br ((a.length:Int) != (b.length:Int)) (some false) (Z3 (fun g (z:Int)=>Z6h F a b g z) F (0:Int))
def Z1U (F:Nat) (a:Re_):Option Bool:=
 (U7 F a.t_ ([]) (1:Int)).bind fun b=>(Z2G F b a.t_).bind fun c=>some c
def Z6f (F:Nat) (b:Re_) (c:(Int)->Option Bool) (a:Int):Option Bool:=
 br (decide (a<(b.t_.length:Int))) (gd (0<=a/\a<(b.t_.length:Int))<|(Q5K F (gl b.t_ a.toNat)).bind fun d=>br (!d) (some false) (gd (I64 (a+1))<|c (a+1))) (Z1U F b)
def Q1j (F:Nat) (a:Re_):Option Bool:=
 br (decide ((120:Int)<(a.t_.length:Int))) (some false) (Z3 (fun g (z:Int)=>Z6f F a g z) F (0:Int))
def Q5r (F:Nat) (a:Bool):Option Bool:=
 some a
def Z2H (F:Nat) (a b:Re_):Option Bool:=
 (Q1j F a).bind fun c=>br c ((Q1j F b).bind fun d=>br d ((U7 F a.t_ b.t_ (2:Int)).bind fun e=>Q5r F (decide ((0:Int)<(e.length:Int)))) (Q5r F false)) (Q5r F false)
def Q1W (F:Nat) (a:Int) (b:(Int)->Option Int) (c:Bool):Option Int:=
 br c (some (3:Int)) (gd (I64 (a+1))<|b (a+1))
def Q5n (F:Nat) (b:List Rg_) (a:Int) (c:(Int)->Option Int) (d:Bool):Option Int:=
 br d (some (7:Int)) (br (decide ((0:Int)<a)) (gd (I64 (a-1))<|gd (0<=(a-1)/\(a-1)<(b.length:Int))<|br (decide (((gl b a.toNat).y_)<((gl b (a-1).toNat).y_))) (Q1W F a c true) (gd (I64 (a-1))<|gd (0<=(a-1)/\(a-1)<(b.length:Int))<|br (((gl b a.toNat).y_)==((gl b (a-1).toNat).y_)) (gd (I64 (a-1))<|gd (0<=(a-1)/\(a-1)<(b.length:Int))<|Q1W F a c (decide (((gl b a.toNat).c_)<=((gl b (a-1).toNat).c_)))) (Q1W F a c false))) (Q1W F a c false))
def Q5o (F:Nat) (b:List Rg_) (a:Int) (c:(Int)->Option Int) (d:Bool):Option Int:=
 br d (some (13:Int)) ((Q1j F ((gl b a.toNat).g_)).bind fun e=>br (!e) (Q5n F b a c true) (Q5n F b a c (((List.length ((gl b a.toNat).g_.t_):Nat):Int)==(0:Int))))
def Q5p (F:Nat) (b:List Rg_) (a:Int) (c:(Int)->Option Int) (d:Bool):Option Int:=
 br d (some (18:Int)) (br (decide (((gl b a.toNat).c_)<0)) (Q5o F b a c true) (Q5o F b a c (decide ((40:Int)<=((gl b a.toNat).c_)))))
def Q5l (F:Nat) (a:Int) (b:(Int)->Option Int) (c:Bool):Option Int:=
 br c (some (11:Int)) (gd (I64 (a+1))<|b (a+1))
def Z1T (F:Nat) (a:Int) (b:(Int)->Option Int):Option Int:=
 gd (I64 (a+1))<|b (a+1)
def Z5Z (F:Nat) (c:List Rg_) (a:Int) (e d:(Int)->Option Int) (b:Int):Option Int:=
 br (decide (b<((List.length (c.take a.toNat):Nat):Int))) (gd (0<=b/\b<((List.length (c.take a.toNat):Nat):Int))<|br (((gl (c.take a.toNat) b.toNat).y_)==((gl c a.toNat).y_)) ((Z2H F ((gl (c.take a.toNat) b.toNat).g_) ((gl c a.toNat).g_)).bind fun i=>Q5l F b d i) (Q5l F b d false)) (Z1T F a e)
def Z5c (F:Nat):Option Int:=
 some (0:Int)
def Z6a (F:Nat) (b:List Rg_) (c:(Int)->Option Int) (a:Int):Option Int:=
 br (decide (a<(b.length:Int))) (gd (0<=a/\a<(b.length:Int))<|gd (0<=a/\a<=(b.length:Int))<|Z3 (fun g (z:Int)=>Z5Z F b a c g z) F (0:Int)) (Z5c F)
def Q5m (F:Nat) (a:List Rg_):Option Int:=
 Z3 (fun g (z:Int)=>Z6a F a g z) F (0:Int)
def Z6b (F:Nat) (b:List Rg_) (c:(Int)->Option Int) (a:Int):Option Int:=
 br (decide (a<(b.length:Int))) (gd (0<=a/\a<(b.length:Int))<|br (decide (((gl b a.toNat).y_)<0)) (Q5p F b a c true) (Q5p F b a c (decide ((100:Int)<((gl b a.toNat).y_))))) (Q5m F b)
def Z2D (F:Nat) (a:List Rg_):Option Int:=
 br (decide ((200:Int)<(a.length:Int))) (some (1:Int)) (Z3 (fun g (z:Int)=>Z6b F a g z) F (0:Int))
def Q5I (F:Nat) (a:Int) (b:((List Rect)×Int×(List Rg_))->Option ((List Rg_)×Int)) (c:List Rect) (d:List Rg_):Option ((List Rg_)×Int):=
 gd (I64 (a+1))<|b (c,(a+1),d)
def Q7R (F:Nat) (b:List Rg_) (i:List Rect) (a:Int) (c:List Rg_) (e:((List Rect)×Int×(List Rg_))->Option ((List Rg_)×Int)) (d:List Rect):Option ((List Rg_)×Int):=
 br (decide ((0:Int)<(d.length:Int))) (gd ((List.length c)+(List.length ([(⟨(gl b a.toNat).y_,(gl b a.toNat).c_,(⟨d⟩:Re_)⟩:Rg_)]:List Rg_))<=LIM)<|Q5I F a e i (c++([(⟨(gl b a.toNat).y_,(gl b a.toNat).c_,(⟨d⟩:Re_)⟩:Rg_)]:List Rg_))) (Q5I F a e i c)
def Q7S (F:Nat) (b:List Rg_) (j:Int) (k:Re_) (d:List Rect) (a:Int) (e:List Rg_) (c:((List Rect)×Int×(List Rg_))->Option ((List Rg_)×Int)) (i:Bool):Option ((List Rg_)×Int):=
 br i ((U7 F d ((gl b a.toNat).g_.t_) (1:Int)).bind fun l=>Q5I F a c l e) (br (((gl b a.toNat).y_)==j) ((U7 F ((gl b a.toNat).g_.t_) k.t_ (3:Int)).bind fun m=>Q7R F b d a e c m) (Q7R F b d a e c ((gl b a.toNat).g_.t_)))
def Z7M (F:Nat) (a:List Rg_):Option ((List Rg_)×Int):=
 some (a,(0:Int))
def Z7N (F:Nat) (b:List Rg_) (c:(Int)->Option ((List Rg_)×Int)) (a:Int):Option ((List Rg_)×Int):=
 br (decide (a<(b.length:Int))) (gd (0<=a/\a<(b.length:Int))<|br (decide ((120:Int)<((List.length ((gl b a.toNat).g_.t_):Nat):Int))) (some ([],(1:Int))) (gd (I64 (a+1))<|c (a+1))) (Z7M F b)
def Q6t (F:Nat) (a:List Rg_):Option ((List Rg_)×Int):=
 br (decide ((200:Int)<(a.length:Int))) (some ([],(1:Int))) (Z3 (fun g (z:Int)=>Z7N F a g z) F (0:Int))
def Z1j (F:Nat) (d e:Int) (c:List Rect) (b:List Rg_) (a:Int):Option ((List Rg_)×Int):=
 gd (0<=(0:Int)/\(0:Int)<=a/\((0:Nat):Int)+a<=(b.length:Int))<|gd (0+((a).toNat)<=List.length b)<|gd ((0)+(((a).toNat))<=LIM)<|gd (((0)+(((a).toNat)))+(List.length ([(⟨d,e,(⟨c⟩:Re_)⟩:Rg_)]:List Rg_))<=LIM)<|gd (0<=a/\a<=(((List.length b):Nat):Int)/\((0:Nat):Int)+(((List.length b):Nat):Int)<=(b.length:Int))<|gd ((0+(a).toNat)+((List.length b)-(a).toNat)<=List.length b)<|gd ((((0)+(((a).toNat)))+(List.length ([(⟨d,e,(⟨c⟩:Re_)⟩:Rg_)]:List Rg_)))+(((List.length b)-(a).toNat))<=LIM)<|Q6t F (((([]:List Rg_)++((b.drop 0).take ((a).toNat)))++([(⟨d,e,(⟨c⟩:Re_)⟩:Rg_)]:List Rg_))++((b.drop (0+(a).toNat)).take ((List.length b)-(a).toNat)))
def Q3O (F:Nat) (i j:Int) (c:List Rect) (d:List Rg_) (a:Int) (b:(Int)->Option ((List Rg_)×Int)) (e:Bool):Option ((List Rg_)×Int):=
 br e (gd (I64 (a+1))<|b (a+1)) (Z1j F i j c d a)
def Z9i (F:Nat) (c d:Int) (i:List Rect) (b:List Rg_) (e:(Int)->Option ((List Rg_)×Int)) (a:Int):Option ((List Rg_)×Int):=
 br (decide (a<(b.length:Int))) (gd (0<=a/\a<(b.length:Int))<|br (decide (((gl b a.toNat).y_)<c)) (Q3O F c d i b a e true) (gd (0<=a/\a<(b.length:Int))<|br (((gl b a.toNat).y_)==c) (gd (0<=a/\a<(b.length:Int))<|Q3O F c d i b a e (decide (((gl b a.toNat).c_)<d))) (Q3O F c d i b a e false))) (Q3O F c d i b a e false)
def Q7Q (F:Nat) (c d:Int) (a:List Rect) (b:List Rg_):Option ((List Rg_)×Int):=
 br (decide ((0:Int)<(a.length:Int))) (Z3 (fun g (z:Int)=>Z9i F c d a b g z) F (0:Int)) (Q6t F b)
def Z4r (F:Nat) (b:List Rg_) (c j:Int) (k:Re_) (i:((List Rect)×Int×(List Rg_))->Option ((List Rg_)×Int)) (d:List Rect) (a:Int) (e:List Rg_):Option ((List Rg_)×Int):=
 br (decide (a<(b.length:Int))) (gd (0<=a/\a<(b.length:Int))<|br (((gl b a.toNat).y_)==c) (Q7S F b c k d a e i (((gl b a.toNat).c_)==j)) (Q7S F b c k d a e i false)) (Q7Q F c j d e)
def Q7T (F:Nat) (c:List Rg_) (d e:Int) (a:Re_) (b:Bool):Option ((List Rg_)×Int):=
 br b (some ([],(13:Int))) ((Q1j F a).bind fun i=>br (!i) (some ([],(7:Int))) (Z3 (fun g (z:(List Rect)×Int×(List Rg_))=>Z4r F c d e a g z.1 z.2.1 z.2.2) F (a.t_,(0:Int),([]:List Rg_))))
def Q7U (F:Nat) (b:List Rg_) (c a:Int) (d:Re_) (e:Bool):Option ((List Rg_)×Int):=
 br e (some ([],(18:Int))) (br (decide (a<0)) (Q7T F b c a d true) (Q7T F b c a d (decide ((40:Int)<=a))))
def Z6U (F:Nat) (b:List Rg_) (a c:Int) (d:Re_):Option ((List Rg_)×Int):=
 (Z2D F b).bind fun e=>br (e != (0:Int)) (some ([],e)) (br (decide (a<0)) (Q7U F b a c d true) (Q7U F b a c d (decide ((100:Int)<a))))
def Z0c (F:Nat) (a:List Rg_) (b:List Int) (c:Int):Option (Tape×(List Rg_)):=
 some ((⟨b,c⟩:Tape),a)
def Q2H (F:Nat) (m:List Crop) (i:Int) (l:((List Rg_)×Int×(List Int)×Int)->Option (Tape×(List Rg_))) (c:List Rg_) (a:Int) (d:List Int) (e:Int):Option (Tape×(List Rg_)):=
 br (decide ((0:Int)<a)) (gd (I64 (i+1))<|(Z9 F (⟨d,e⟩:Tape) (i+1)).bind fun j=>(Z9 F j.1 (m.length:Int)).bind fun k=>(Q1L F k.1 (9:Int) (2:Int)).bind fun b=>(Z6U F c j.2 k.2 b.2).bind fun n=>gd (I64 (a-1))<|l (n.1,(a-1),b.1.l_,b.1.at_)) (Z0c F c d e)
def Q4S (F:Nat) (c:Tape) (d:List Crop) (e b:Int):Option (Tape×(List Rg_)):=
 gd (I64 (b+1))<|(Z9 F c (b+1)).bind fun a=>Z3 (fun g (z:(List Rg_)×Int×(List Int)×Int)=>Q2H F d e g z.1 z.2.1 z.2.2.1 z.2.2.2) F (([]:List Rg_),a.2,a.1.l_,a.1.at_)
def Q4T (F:Nat) (e:Tape) (i:Int):Option (Tape×A2_):=
 (Z9 F e (20:Int)).bind fun a=>(Z9 F a.1 (16:Int)).bind fun c=>(V6 F c.1 (1:Int) (30:Int)).bind fun b=>gd (I64 (a.2+b.2))<|(Q2b F b.1 (9:Int) (2:Int)).bind fun d=>some (d.1,(⟨i,c.2,a.2,(a.2+b.2),d.2⟩:A2_))
def Q5J (F:Nat) (a:Bool):Option Int:=
 br a (some (7:Int)) (some (0:Int))
def Q2C (F:Nat) (a:A2_) (b:Bool):Option Int:=
 br b (some (9:Int)) ((Q1j F a.g_).bind fun c=>br (!c) (Q5J F true) (Q5J F ((a.g_.t_.length:Int)==(0:Int))))
def Q2D (F:Nat) (a:A2_) (b:Bool):Option Int:=
 br b (some (14:Int)) (br (decide (a.F_<0)) (Q2C F a true) (br (decide (a.u_<=a.F_)) (Q2C F a true) (Q2C F a (decide ((36865:Int)<a.u_)))))
def Z1k (F:Nat) (a:A2_) (b:Bool):Option Int:=
 br b (some (2:Int)) (br (decide (a.k_<0)) (Q2D F a true) (Q2D F a (decide ((15:Int)<a.k_))))
def Z3D (F:Nat) (a:A2_):Option Int:=
 br (decide (a.N_<1)) (Z1k F a true) (Z1k F a (decide ((1073741824:Int)<a.N_)))
def Q5q (F:Nat) (a:Int) (b:(Int)->Option Int) (c:Bool):Option Int:=
 br c (some (3:Int)) (gd (I64 (a+1))<|b (a+1))
def Z6d (F:Nat):Option Int:=
 some (0:Int)
def Z6e (F:Nat) (b:List A2_) (c:(Int)->Option Int) (a:Int):Option Int:=
 br (decide (a<(b.length:Int))) (gd (0<=a/\a<(b.length:Int))<|(Z3D F (gl b a.toNat)).bind fun d=>br (d != (0:Int)) (some d) (br (decide ((0:Int)<a)) (gd (I64 (a-1))<|gd (0<=(a-1)/\(a-1)<(b.length:Int))<|Q5q F a c (decide (((gl b a.toNat).N_)<=((gl b (a-1).toNat).N_)))) (Q5q F a c false))) (Z6d F)
def Z2E (F:Nat) (a:List A2_):Option Int:=
 br (decide ((60:Int)<(a.length:Int))) (some (1:Int)) (Z3 (fun g (z:Int)=>Z6e F a g z) F (0:Int))
def Q7V (F:Nat) (b:List A2_) (c:A2_) (a:Int) (d:Bool):Option ((List A2_)×Int):=
 br d (some ([],(6:Int))) (br ((b.length:Int)==(60:Int)) (some ([],(1:Int))) (gd (0<=a/\a<=(b.length:Int))<|gd ((0)+(List.length (b.take a.toNat))<=LIM)<|gd (((0)+(List.length (b.take a.toNat)))+(List.length ([c]:List A2_))<=LIM)<|gd (0<=a/\a<=(b.length:Int))<|gd ((((0)+(List.length (b.take a.toNat)))+(List.length ([c]:List A2_)))+(List.length (b.drop a.toNat))<=LIM)<|some ((((([]:List A2_)++(b.take a.toNat))++([c]:List A2_))++(b.drop a.toNat)),(0:Int))))
def Z1l (F:Nat) (b:List A2_) (c:A2_) (a:Int):Option ((List A2_)×Int):=
 br (decide (a<(b.length:Int))) (gd (0<=a/\a<(b.length:Int))<|Q7V F b c a (((gl b a.toNat).N_)==c.N_)) (Q7V F b c a false)
def Q7W (F:Nat) (d:List A2_) (e:A2_) (a:Int) (b:(Int)->Option ((List A2_)×Int)) (c:Bool):Option ((List A2_)×Int):=
 br c (gd (I64 (a+1))<|b (a+1)) (Z1l F d e a)
def Z9l (F:Nat) (b:List A2_) (c:A2_) (d:(Int)->Option ((List A2_)×Int)) (a:Int):Option ((List A2_)×Int):=
 br (decide (a<(b.length:Int))) (gd (0<=a/\a<(b.length:Int))<|Q7W F b c a d (decide (((gl b a.toNat).N_)<c.N_))) (Q7W F b c a d false)
def Z6V (F:Nat) (a:List A2_) (b:A2_):Option ((List A2_)×Int):=
 (Z2E F a).bind fun c=>br (c != (0:Int)) (some ([],c)) ((Z3D F b).bind fun d=>br (d != (0:Int)) (some ([],d)) (Z3 (fun g (z:Int)=>Z9l F a b g z) F (0:Int)))
def Q2a (F:Nat) (a:Int) (b:((List A2_)×Int×(List Int)×Int)->Option (Tape×(List A2_))) (c:List A2_) (d:List Int) (e:Int):Option (Tape×(List A2_)):=
 gd (I64 (a-1))<|b (c,(a-1),d,e)
def Z2c (F:Nat) (a:List A2_) (b:List Int) (c:Int):Option (Tape×(List A2_)):=
 some ((⟨b,c⟩:Tape),a)
def Q0X (F:Nat) (d:((List A2_)×Int×(List Int)×Int)->Option (Tape×(List A2_))) (b:List A2_) (c:Int) (e:List Int) (i:Int):Option (Tape×(List A2_)):=
 br (decide ((0:Int)<c)) ((V6 F (⟨e,i⟩:Tape) (1:Int) (12:Int)).bind fun j=>(Q4T F j.1 j.2).bind fun a=>(Z6V F b a.2).bind fun k=>br (k.2==(0:Int)) (Q2a F c d k.1 a.1.l_ a.1.at_) (Q2a F c d b a.1.l_ a.1.at_)) (Z2c F b e i)
def Q6S (F:Nat) (c:Tape) (b:Int):Option (Tape×(List A2_)):=
 gd (I64 (b+1))<|(Z9 F c (b+1)).bind fun a=>Z3 (fun g (z:(List A2_)×Int×(List Int)×Int)=>Q0X F g z.1 z.2.1 z.2.2.1 z.2.2.2) F (([]:List A2_),a.2,a.1.l_,a.1.at_)
def Q4f (F:Nat) (j:Tape) (a:List Crop):Option (Tape×World):=
 (Z9 F j (5:Int)).bind fun b=>(Q4S F b.1 a (4:Int) (5:Int)).bind fun c=>(Q6S F c.1 (3:Int)).bind fun d=>(Z9 F d.1 (25:Int)).bind fun e=>(Z9 F e.1 (5:Int)).bind fun i=>some (i.1,(⟨b.2,a,c.2,d.2,e.2,i.2⟩:World))
def Z7Q (F:Nat) (a:Int):Option Int:=
 some a
def Z7R (F:Nat) (b:List Rect) (d:(Int×Int)->Option Int) (c a:Int):Option Int:=
 br (decide (a<(b.length:Int))) (gd (0<=a/\a<(b.length:Int))<|gd (I64 (((gl b a.toNat).R_)-((gl b a.toNat).L_)))<|gd (I64 (((gl b a.toNat).H_)-((gl b a.toNat).w_)))<|gd (I64 ((((gl b a.toNat).R_)-((gl b a.toNat).L_))*(((gl b a.toNat).H_)-((gl b a.toNat).w_))))<|gd (I64 (c+((((gl b a.toNat).R_)-((gl b a.toNat).L_))*(((gl b a.toNat).H_)-((gl b a.toNat).w_)))))<|gd (I64 (a+1))<|d ((c+((((gl b a.toNat).R_)-((gl b a.toNat).L_))*(((gl b a.toNat).H_)-((gl b a.toNat).w_)))),(a+1))) (Z7Q F c)
def Z4u (F:Nat) (a:List Rect):Option Int:=
 Z3 (fun g (z:Int×Int)=>Z7R F a g z.1 z.2) F ((0:Int),(0:Int))
def Q7d (F:Nat) (a:Re_):Option Int:=
 (Q1j F a).bind fun b=>br (!b) (some (0:Int)) ((Z4u F a.t_).bind fun c=>some c)
def Q6m (F:Nat):Option Int:=
 some (-1:Int)
def U4 (F:Nat) (b:List Rect) (d:Rect->Option Bool) (c:(Int)->Option Int) (a:Int):Option Int:=
 br (decide (a<(b.length:Int))) (gd (0<=a/\a<(b.length:Int))<|(d (gl b a.toNat)).bind fun e=>br e (some a) (gd (I64 (a+1))<|c (a+1))) (Q6m F)
def Q4x (F:Nat) (a:List Rect) (b:Rect->Option Bool):Option Int:=
 Z3 (fun g (z:Int)=>U4 F a b g z) F (0:Int)
def K6 (F:Nat) (a:List Rect) (b:Rect->Option Bool):Option Bool:=
 (Q4x F a b).bind fun c=>some (decide ((0:Int)<=c))
def J0 (F:Nat) (a:Bool):Option Bool:=
 some a
def Q9t (F:Nat) (a:Rect):Option Bool:=
 br (decide ((0:Int)<=a.L_)) (br (decide (a.L_<a.R_)) (br (decide (a.R_<=16384)) (br (decide ((0:Int)<=a.w_)) (br (decide (a.w_<a.H_)) (J0 F (decide (a.H_<=16384))) (J0 F false)) (J0 F false)) (J0 F false)) (J0 F false)) (J0 F false)
def Z1K (F:Nat) (a:Rect):Option Bool:=
 (Q9t F a).bind fun b=>some (!b)
def Q2j (F:Nat) (a:Int) (b:(Int×Int×(List Int))->Option (List Int)) (c:Int) (d:List Int):Option (List Int):=
 gd (I64 (a+1))<|b (c,(a+1),d)
def Q4C (F:Nat) (a:Int) (b:List Int):Option (List Int):=
 gd (0<=a/\a<=(((List.length b):Nat):Int)/\((0:Nat):Int)+(((List.length b):Nat):Int)<=(b.length:Int))<|gd (0<=a/\a<=((List.length (clr b (0+(a).toNat) ((List.length b)-(a).toNat)):Nat):Int))<|some ((clr b (0+(a).toNat) ((List.length b)-(a).toNat)).take (a).toNat)
def Q8C (F:Nat) (e:List Int) (b:Int) (i:(Int×Int×(List Int))->Option (List Int)) (d a:Int) (c:List Int):Option (List Int):=
 br (decide (a<((((List.length e)-(b).toNat):Nat):Int))) (gd (0<=a/\a<((((List.length e)-(b).toNat):Nat):Int))<|gd (((0+(b).toNat)+(a).toNat)<List.length c)<|gd (I64 (a-1))<|gd (0<=(a-1)/\(a-1)<((((List.length e)-(b).toNat):Nat):Int))<|gd (((0+(b).toNat)+((a-1)).toNat)<List.length c)<|br ((gl c ((0+(b).toNat)+(a).toNat)) != (gl c ((0+(b).toNat)+((a-1)).toNat))) (gd (0<=a/\a<((((List.length e)-(b).toNat):Nat):Int))<|gd (((0+(b).toNat)+(a).toNat)<List.length c)<|gd (0<=d/\d<(c.length:Int))<|gd (I64 (d+1))<|Q2j F a i (d+1) (List.set c d.toNat (gl c ((0+(b).toNat)+(a).toNat)))) (Q2j F a i d c)) (Q4C F d c)
def Q4B (F:Nat) (a:Int) (b:(Int)->Option (List Int)):Option (List Int):=
 gd (I64 (a+1))<|b (a+1)
def Q4A (F:Nat) (a:List Int):Option (List Int):=
 some a
def Q8D (F:Nat) (b:List Int) (c:(Int)->Option (List Int)) (a:Int):Option (List Int):=
 br (decide (a<(b.length:Int))) (gd (0<=a/\a<(b.length:Int))<|gd (I64 (a-1))<|gd (0<=(a-1)/\(a-1)<(b.length:Int))<|br ((gl b a.toNat)==(gl b (a-1).toNat)) (gd (0<=a/\a<=(((List.length b):Nat):Int)/\((0:Nat):Int)+(((List.length b):Nat):Int)<=(b.length:Int))<|Z3 (fun g (z:Int×Int×(List Int))=>Q8C F b a g z.1 z.2.1 z.2.2) F (a,(1:Int),b)) (Q4B F a c)) (Q4A F b)
def Q1R (F:Nat) (a:List Int):Option (List Int):=
 br (decide ((a.length:Int)<(2:Int))) (some a) (Z3 (fun g (z:Int)=>Q8D F a g z) F (1:Int))
def Z1N (F:Nat) (a:Int) (b:(Int×(List Int))->Option (List Int)) (c:List Int):Option (List Int):=
 gd (I64 (a+1))<|b ((a+1),c)
def Z1O (F:Nat) (c:(List (List Rect))) (b:Int) (e i:(Int×(List Int))->Option (List Int)) (a:Int) (d:List Int):Option (List Int):=
 br (decide (a<((List.length (gl c b.toNat):Nat):Int))) (gd (0<=a/\a<((List.length (gl c b.toNat):Nat):Int))<|gd ((List.length d)+(List.length ([(gl (gl c b.toNat) a.toNat).w_,(gl (gl c b.toNat) a.toNat).H_]:List Int))<=LIM)<|gd (I64 (a+1))<|i ((a+1),(d++([(gl (gl c b.toNat) a.toNat).w_,(gl (gl c b.toNat) a.toNat).H_]:List Int)))) (Z1N F b e d)
def Z1M (F:Nat) (a:List Int):Option (List Int):=
 (Z7G a).bind fun b=>(Q1R F b).bind fun c=>some c
def Z1P (F:Nat) (b:(List (List Rect))) (d:(Int×(List Int))->Option (List Int)) (a:Int) (c:List Int):Option (List Int):=
 br (decide (a<(b.length:Int))) (gd (0<=a/\a<(b.length:Int))<|Z3 (fun g (z:Int×(List Int))=>Z1O F b a d g z.1 z.2) F ((0:Int),c)) (Z1M F c)
def Q9X (F:Nat) (a:(List (List Rect))):Option (List Int):=
 Z3 (fun g (z:Int×(List Int))=>Z1P F a g z.1 z.2) F ((0:Int),([]:List Int))
def Q9F (F:Nat) (a:Int):Option Bool:=
 some (a != a)
def Q2t (F:Nat) (a b:Int):Option Int:=
 (Q9F F a).bind fun d=>(Q9F F b).bind fun c=>br d (br c (some (0:Int)) (some (-1:Int))) (br c (some (1:Int)) (br (decide (a<b)) (some (-1:Int)) (br (decide (b<a)) (some (1:Int)) (some (0:Int)))))
def Z1h (F:Nat) (a b:Span):Option Int:=
 (Q2t F a.L_ b.L_).bind fun c=>some c
def Q6r (F:Nat) (a:Int) (b:(Int×(List Span))->Option (List Span)) (c:List Span):Option (List Span):=
 gd (I64 (a+1))<|b ((a+1),c)
def Q6s (F:Nat) (b:List Rect) (a:Int) (c:List Span) (d:(Int×(List Span))->Option (List Span)) (e:Bool):Option (List Span):=
 br e (gd ((List.length c)+(List.length ([(⟨(gl b a.toNat).L_,(gl b a.toNat).R_⟩:Span)]:List Span))<=LIM)<|Q6r F a d (c++([(⟨(gl b a.toNat).L_,(gl b a.toNat).R_⟩:Span)]:List Span))) (Q6r F a d c)
def Q6q (F:Nat) (a:Int) (b:(Int×(List Span))->Option (List Span)) (c:List Span):Option (List Span):=
 gd (I64 (a+1))<|b ((a+1),c)
def Q4n (F:Nat) (c:List Span) (b:Int) (a:List Span) (d:(Int×(List Span))->Option (List Span)) (e:Bool):Option (List Span):=
 br e (gd (I64 ((a.length:Int)-(1:Int)))<|gd (I64 ((a.length:Int)-(1:Int)))<|gd (0<=((a.length:Int)-(1:Int))/\((a.length:Int)-(1:Int))<(a.length:Int))<|gd (0<=((a.length:Int)-(1:Int))/\((a.length:Int)-(1:Int))<(a.length:Int))<|Q6q F b d (List.set a ((a.length:Int)-(1:Int)).toNat (⟨(gl a ((a.length:Int)-(1:Int)).toNat).L_,(Q0x ((gl a ((a.length:Int)-(1:Int)).toNat).R_) ((gl c b.toNat).R_))⟩:Span))) (gd ((List.length a)+(List.length ([(gl c b.toNat)]:List Span))<=LIM)<|Q6q F b d (a++([(gl c b.toNat)]:List Span)))
def Z3a (F:Nat) (a:List Span):Option (List Span):=
 some a
def Z3b (F:Nat) (c:List Span) (d:(Int×(List Span))->Option (List Span)) (b:Int) (a:List Span):Option (List Span):=
 br (decide (b<(c.length:Int))) (gd (0<=b/\b<(c.length:Int))<|br (decide ((0:Int)<(a.length:Int))) (gd (I64 ((a.length:Int)-(1:Int)))<|gd (0<=((a.length:Int)-(1:Int))/\((a.length:Int)-(1:Int))<(a.length:Int))<|Q4n F c b a d (decide (((gl c b.toNat).L_)<=((gl a ((a.length:Int)-(1:Int)).toNat).R_)))) (Q4n F c b a d false)) (Z3a F a)
def Q9v (F:Nat) (a:List Span):Option (List Span):=
 (Y0U a (fun y0 y1=>Z1h F y0 y1)).bind fun b=>Z3 (fun g (z:Int×(List Span))=>Z3b F b g z.1 z.2) F ((0:Int),([]:List Span))
def Z3c (F:Nat) (b:List Rect) (e:Int) (d:(Int×(List Span))->Option (List Span)) (a:Int) (c:List Span):Option (List Span):=
 br (decide (a<(b.length:Int))) (gd (0<=a/\a<(b.length:Int))<|br (decide (((gl b a.toNat).w_)<=e)) (Q6s F b a c d (decide (e<((gl b a.toNat).H_)))) (Q6s F b a c d false)) (Q9v F c)
def Q8P (F:Nat) (a:List Rect) (b:Int):Option (List Span):=
 Z3 (fun g (z:Int×(List Span))=>Z3c F a b g z.1 z.2) F ((0:Int),([]:List Span))
def Q7c (F:Nat) (a:Int) (b:List Rect):Option (List Span):=
 (Q8P F b a).bind fun c=>some c
def Q9L (F:Nat):Option Bool:=
 some true
def Q9M (F:Nat) (b c:List Span) (d:(Int)->Option Bool) (a:Int):Option Bool:=
 br (decide (a<(b.length:Int))) (gd (0<=a/\a<(b.length:Int))<|gd (0<=a/\a<(c.length:Int))<|br (!((((gl b a.toNat).L_)==((gl c a.toNat).L_))&&((((gl b a.toNat).R_)==((gl c a.toNat).R_))&&true))) (some false) (gd (I64 (a+1))<|d (a+1))) (Q9L F)
def Q4I (F:Nat) (a b:List Span):Option Bool:=
 br ((a.length:Int) != (b.length:Int)) (some false) (Z3 (fun g (z:Int)=>Q9M F a b g z) F (0:Int))
def Z0t (F:Nat) (a:Int) (b:(Int×(List Rect))->Option (List Rect)) (c:List Rect):Option (List Rect):=
 gd (I64 (a+1))<|b ((a+1),c)
def Z0u (F:Nat) (b:List Band) (a:Int) (e i:(Int×(List Rect))->Option (List Rect)) (c:Int) (d:List Rect):Option (List Rect):=
 br (decide (c<((List.length ((gl b a.toNat).spans_):Nat):Int))) (gd (0<=c/\c<((List.length ((gl b a.toNat).spans_):Nat):Int))<|gd ((List.length d)+(List.length ([(⟨(gl ((gl b a.toNat).spans_) c.toNat).L_,(gl b a.toNat).w_,(gl ((gl b a.toNat).spans_) c.toNat).R_,(gl b a.toNat).H_⟩:Rect)]:List Rect))<=LIM)<|gd (I64 (c+1))<|i ((c+1),(d++([(⟨(gl ((gl b a.toNat).spans_) c.toNat).L_,(gl b a.toNat).w_,(gl ((gl b a.toNat).spans_) c.toNat).R_,(gl b a.toNat).H_⟩:Rect)]:List Rect)))) (Z0t F a e d)
def Z0s (F:Nat) (a:List Rect):Option (List Rect):=
 some a
def Z0v (F:Nat) (b:List Band) (d:(Int×(List Rect))->Option (List Rect)) (a:Int) (c:List Rect):Option (List Rect):=
 br (decide (a<(b.length:Int))) (gd (0<=a/\a<(b.length:Int))<|Z3 (fun g (z:Int×(List Rect))=>Z0u F b a d g z.1 z.2) F ((0:Int),c)) (Z0s F c)
def Z1f (F:Nat) (a:List Band):Option (List Rect):=
 Z3 (fun g (z:Int×(List Rect))=>Z0v F a g z.1 z.2) F ((0:Int),([]:List Rect))
def Q4e (F:Nat) (a:Int) (b:(Int×(List Band))->Option (List Rect)) (c:List Band):Option (List Rect):=
 gd (I64 (a+1))<|b ((a+1),c)
def Q1u (F:Nat) (c:List Int) (b:Int) (a:List Band) (e:List Span) (d:(Int×(List Band))->Option (List Rect)) (i:Bool):Option (List Rect):=
 br i (gd (I64 ((a.length:Int)-(1:Int)))<|gd (0<=((a.length:Int)-(1:Int))/\((a.length:Int)-(1:Int))<(a.length:Int))<|Q4e F b d (List.set a ((a.length:Int)-(1:Int)).toNat (⟨(gl a ((a.length:Int)-(1:Int)).toNat).w_,(gl c b.toNat),(gl a ((a.length:Int)-(1:Int)).toNat).spans_⟩:Band))) (gd ((List.length a)+(List.length ([(⟨(gl c (b-1).toNat),(gl c b.toNat),e⟩:Band)]:List Band))<=LIM)<|Q4e F b d (a++([(⟨(gl c (b-1).toNat),(gl c b.toNat),e⟩:Band)]:List Band)))
def Q6O (F:Nat) (a:List Band):Option (List Rect):=
 (Z1f F a).bind fun b=>some b
def Z4Z (F:Nat) (c:List Int) (i:Int->Option (List Span)) (e:(Int×(List Band))->Option (List Rect)) (b:Int) (a:List Band):Option (List Rect):=
 br (decide (b<(c.length:Int))) (gd (I64 (b-1))<|gd (0<=(b-1)/\(b-1)<(c.length:Int))<|gd (0<=b/\b<(c.length:Int))<|gd (I64 (b-1))<|gd (0<=(b-1)/\(b-1)<(c.length:Int))<|(i (gl c (b-1).toNat)).bind fun d=>br (decide ((0:Int)<(a.length:Int))) (gd (I64 ((a.length:Int)-(1:Int)))<|gd (0<=((a.length:Int)-(1:Int))/\((a.length:Int)-(1:Int))<(a.length:Int))<|br (((gl a ((a.length:Int)-(1:Int)).toNat).H_)==(gl c (b-1).toNat)) (gd (I64 ((a.length:Int)-(1:Int)))<|gd (0<=((a.length:Int)-(1:Int))/\((a.length:Int)-(1:Int))<(a.length:Int))<|(Q4I F ((gl a ((a.length:Int)-(1:Int)).toNat).spans_) d).bind fun j=>Q1u F c b a d e j) (Q1u F c b a d e false)) (Q1u F c b a d e false)) (Q6O F a)
def Q7I (F:Nat) (a:List Int) (b:Int->Option (List Span)):Option (List Rect):=
 Z3 (fun g (z:Int×(List Band))=>Z4Z F a b g z.1 z.2) F ((1:Int),([]:List Band))
def Q3i (F:Nat) (a:List Rect):Option (List Rect):=
 (Q9X F ([a]:List (List Rect))).bind fun b=>(Q7I F b (fun y0=>Q7c F y0 a)).bind fun c=>some c
def Q9N (F:Nat):Option Bool:=
 some true
def Q9O (F:Nat) (b c:List Rect) (d:(Int)->Option Bool) (a:Int):Option Bool:=
 br (decide (a<(b.length:Int))) (gd (0<=a/\a<(b.length:Int))<|gd (0<=a/\a<(c.length:Int))<|br (!((((gl b a.toNat).L_)==((gl c a.toNat).L_))&&((((gl b a.toNat).w_)==((gl c a.toNat).w_))&&((((gl b a.toNat).R_)==((gl c a.toNat).R_))&&((((gl b a.toNat).H_)==((gl c a.toNat).H_))&&true))))) (some false) (gd (I64 (a+1))<|d (a+1))) (Q9N F)
def Q4J (F:Nat) (a b:List Rect):Option Bool:=
 br ((a.length:Int) != (b.length:Int)) (some false) (Z3 (fun g (z:Int)=>Q9O F a b g z) F (0:Int))
def Q6M (F:Nat) (a:Re_) (b:Bool):Option Bool:=
 br b (some false) ((Q3i F a.t_).bind fun c=>(Q4J F c a.t_).bind fun d=>some d)
def Q0l (F:Nat) (a:Re_):Option Bool:=
 br (decide ((120:Int)<(a.t_.length:Int))) (Q6M F a true) ((K6 F a.t_ (fun y0=>Z1K F y0)).bind fun b=>Q6M F a b)
def Z2U (F:Nat) (rc:Term->Int->Option Int) (a:Int):Option Int:=
 some a
def Q9q (F:Nat) (rc:Term->Int->Option Int) (c:Term) (d:Int) (i:(Int×Int)->Option Int) (a b:Int):Option Int:=
 br (decide (b<(c.kids_.length:Int))) (gd (0<=b/\b<(c.kids_.length:Int))<|gd (I64 (gl c.kids_ b.toNat).op_)<|br (decide (d<a)) (Z2U F rc a) (gd (I64 (d-a))<|(rc (gl c.kids_ b.toNat) (d-a)).bind fun e=>gd (I64 (a+e))<|gd (I64 (b+1))<|i ((a+e),(b+1)))) (Z2U F rc a)
def Z0U (F:Nat) (rc:Term->Int->Option Int) (a:Term) (b:Int):Option Int:=
 Z3 (fun g (z:Int×Int)=>Q9q F rc a b g z.1 z.2) F ((1:Int),(0:Int))
def Q4Z:Nat->Term->Int->Option Int
 | 0=>fun _ _=>none
 | F+1=>Z0U F (Q4Z F)
def Q7z (F:Nat) (a:Bool):Option (Int×Int×Bool):=
 br a (some ((1:Int),(10:Int),true)) (some ((0:Int),(0:Int),false))
def Z2r (F:Nat) (a:Int):Option (Int×Int×Bool):=
 br (a==2) (some ((0:Int),(39:Int),true)) (br (a==3) (some ((0:Int),(40:Int),true)) (br (a==4) (some ((1:Int),(16:Int),true)) (br (a==5) (some ((0:Int),(15:Int),true)) (br (a==6) (some ((2:Int),(10:Int),true)) (br (a==7) (Q7z F (a==7)) (Q7z F (a==8)))))))
def Z0T (F:Nat) (b:Int) (a:Bool):Option (Int×Int):=
 br a (some ((1:Int),(40:Int))) (br (b==11) (some ((1:Int),(1:Int))) (some ((0:Int),(0:Int))))
def Z6P (F:Nat) (a:Int):Option (Int×Int):=
 br (a==9) (Z0T F a (a==9)) (Z0T F a (a==10))
def Q8F (F:Nat) (a:Int):Option Int:=
 gd (0<=(1:Int))<|(some (Q3A .u64 (a.fdiv (2 ^ (min ((1:Int)).toNat (IntKind.bits .u64)))) (6148914691236517205:Int))).bind fun k=>(some (IntKind.wrap .u64 (k+(Q3A .u64 a (6148914691236517205:Int))))).bind fun b=>gd (0<=(2:Int))<|(some (Q3A .u64 (b.fdiv (2 ^ (min ((2:Int)).toNat (IntKind.bits .u64)))) (3689348814741910323:Int))).bind fun l=>(some (IntKind.wrap .u64 (l+(Q3A .u64 b (3689348814741910323:Int))))).bind fun c=>gd (0<=(4:Int))<|(some (IntKind.wrap .u64 ((c.fdiv (2 ^ (min ((4:Int)).toNat (IntKind.bits .u64))))+c))).bind fun d=>gd (0<=(8:Int))<|(some ((Q3A .u64 d (1085102592571150095:Int)).fdiv (2 ^ (min ((8:Int)).toNat (IntKind.bits .u64))))).bind fun m=>(some (IntKind.wrap .u64 ((Q3A .u64 d (1085102592571150095:Int))+m))).bind fun e=>gd (0<=(16:Int))<|(some (IntKind.wrap .u64 (e+(e.fdiv (2 ^ (min ((16:Int)).toNat (IntKind.bits .u64))))))).bind fun i=>gd (0<=(32:Int))<|(some (IntKind.wrap .u64 (i+(i.fdiv (2 ^ (min ((32:Int)).toNat (IntKind.bits .u64))))))).bind fun j=>gd (I64 j)<|some (Q3A .i64 j (127:Int))
def Z0N (F:Nat) (a:Int):Option Int:=
 (Q8F F a).bind fun b=>some b
def Q7x (F:Nat) (a:Bool):Option Bool:=
 some a
def Q3B (F:Nat) (a:Int):Option Bool:=
 br (decide ((1:Int)<=a)) (br (decide (a<=16)) ((Z0N F (IntKind.wrap .u64 a)).bind fun b=>Q7x F (b==1)) (Q7x F false)) (Q7x F false)
def Q6k (F:Nat):Option Int:=
 some (-1:Int)
def Q1a (F:Nat) (b:List Term) (d:Term->Option Bool) (c:(Int)->Option Int) (a:Int):Option Int:=
 br (decide (a<(b.length:Int))) (gd (0<=a/\a<(b.length:Int))<|gd (I64 (gl b a.toNat).op_)<|(d (gl b a.toNat)).bind fun e=>br e (some a) (gd (I64 (a+1))<|c (a+1))) (Q6k F)
def Q2f (F:Nat) (a:List Term) (b:Term->Option Bool):Option Int:=
 Z3 (fun g (z:Int)=>Q1a F a b g z) F (0:Int)
def Q1d (F:Nat) (a:List Term) (b:Term->Option Bool):Option Bool:=
 (Q2f F a b).bind fun c=>some (decide ((0:Int)<=c))
def Z4b (F:Nat) (rc:Term->Int->Option Bool) (b:Term) (a:Int):Option Bool:=
 gd (I64 (a-1))<|(rc b (a-1)).bind fun c=>some (!c)
def Q4l (F:Nat) (rc:Term->Int->Option Bool) (b:Term) (c:Int) (a:Bool):Option Bool:=
 br a (some false) ((Q1d F b.kids_ (fun y0=>Z4b F rc y0 c)).bind fun d=>some (!d))
def W6 (F:Nat) (rc:Term->Int->Option Bool) (a:Term) (b:Int) (c:Int×Int) (d:Bool):Option Bool:=
 br d (some false) (br (decide ((a.kids_.length:Int)<c.1)) (Q4l F rc a b true) (Q4l F rc a b (decide (c.2<(a.kids_.length:Int)))))
def Q0y (F:Nat) (rc:Term->Int->Option Bool) (a:Term) (b:Int) (c:Int×Int) (d:Bool):Option Bool:=
 br d (some false) (br (a.op_==4) ((Q3B F a.num_).bind fun e=>br (!e) (W6 F rc a b c true) (br (a.op_==7) ((Q3B F a.more_).bind fun i=>br (!i) (W6 F rc a b c true) (br (a.op_ != (7:Int)) (W6 F rc a b c (a.more_ != (0:Int))) (W6 F rc a b c false))) (br (a.op_ != (7:Int)) (W6 F rc a b c (a.more_ != (0:Int))) (W6 F rc a b c false)))) (br (a.op_==7) ((Q3B F a.more_).bind fun j=>br (!j) (W6 F rc a b c true) (br (a.op_ != (7:Int)) (W6 F rc a b c (a.more_ != (0:Int))) (W6 F rc a b c false))) (br (a.op_ != (7:Int)) (W6 F rc a b c (a.more_ != (0:Int))) (W6 F rc a b c false))))
def Q1G (F:Nat) (rc:Term->Int->Option Bool) (a:Term) (b:Int) (d:Int×Int×Bool) (c:Int×Int) (e:Bool):Option Bool:=
 br e (some false) (br d.2.2 (br (decide (a.num_<d.1)) (Q0y F rc a b c true) (br (decide (d.2.1<a.num_)) (Q0y F rc a b c true) (br (!d.2.2) (Q0y F rc a b c (a.num_ != (0:Int))) (Q0y F rc a b c false)))) (br (!d.2.2) (Q0y F rc a b c (a.num_ != (0:Int))) (Q0y F rc a b c false)))
def Z0S (F:Nat) (rc:Term->Int->Option Bool) (a:Term) (b:Int):Option Bool:=
 (Z2r F a.op_).bind fun c=>(Z6P F a.op_).bind fun d=>br (decide (a.op_<1)) (Q1G F rc a b c d true) (br (decide ((11:Int)<a.op_)) (Q1G F rc a b c d true) (Q1G F rc a b c d (b==0)))
def U3:Nat->Term->Int->Option Bool
 | 0=>fun _ _=>none
 | F+1=>Z0S F (U3 F)
def Z1A (F:Nat) (a:Term):Option Int:=
 (Q4Z F a (40:Int)).bind fun b=>br (decide ((40:Int)<b)) (some (1:Int)) ((U3 F a (8:Int)).bind fun c=>br (!c) (some (16:Int)) (some (0:Int)))
def Q4k (F:Nat) (a:Int) (b:(Int)->Option Bool) (c:Bool):Option Bool:=
 br c (some false) (gd (I64 (a+1))<|b (a+1))
def Q6h (F:Nat) (a:Int) (c:Bool) (b:(Int)->Option Bool) (d:Bool):Option Bool:=
 br (!c) (br (a==0) (Q4k F a b true) (Q4k F a b (!d))) (Q4k F a b false)
def Q6i (F:Nat) (b:ByteArray) (a:Int) (c:(Int)->Option Bool) (d:Bool):Option Bool:=
 gd (0<=a/\a<((b.size:Nat):Int))<|br (decide ((48:Int)<=(sAt b a))) (gd (0<=a/\a<((b.size:Nat):Int))<|Q6h F a d c (decide ((sAt b a)<=57))) (Q6h F a d c false)
def Q6g (F:Nat) (a:Bool):Option Bool:=
 some a
def Z2T (F:Nat) (a:ByteArray):Option Bool:=
 br (decide ((1:Int)<=((a.size:Nat):Int))) (Q6g F (decide (((a.size:Nat):Int)<=(12:Int)))) (Q6g F false)
def Z7A (F:Nat) (b:ByteArray) (c:(Int)->Option Bool) (a:Int):Option Bool:=
 br (decide (a<((b.size:Nat):Int))) (gd (0<=a/\a<((b.size:Nat):Int))<|br (decide ((97:Int)<=(sAt b a))) (gd (0<=a/\a<((b.size:Nat):Int))<|Q6i F b a c (decide ((sAt b a)<=122))) (Q6i F b a c false)) (Z2T F b)
def Z1z (F:Nat) (a:ByteArray):Option Bool:=
 Z3 (fun g (z:Int)=>Z7A F a g z) F (0:Int)
def Q2U (F:Nat) (a:Int) (b:(Int)->Option Int) (c:Bool):Option Int:=
 br c (some (6:Int)) (gd (I64 (a+1))<|b (a+1))
def Q2V (F:Nat) (b:List Crop) (a:Int) (c:(Int)->Option Int) (d:Bool):Option Int:=
 br d (some (14:Int)) (br (decide ((0:Int)<a)) (gd (I64 (a-1))<|gd (0<=(a-1)/\(a-1)<(b.length:Int))<|Q2U F a c (sLt ((gl b a.toNat).n_) ((gl b (a-1).toNat).n_)||sEq ((gl b a.toNat).n_) ((gl b (a-1).toNat).n_))) (Q2U F a c false))
def Q2W (F:Nat) (b:List Crop) (a:Int) (c:(Int)->Option Int) (d:Bool):Option Int:=
 br d (some (2:Int)) (br (decide (((gl b a.toNat).m_)<0)) (Q2V F b a c true) (Q2V F b a c (decide ((31:Int)<((gl b a.toNat).m_)))))
def Z8b (F:Nat):Option Int:=
 some (0:Int)
def Q4u (F:Nat) (b:List Crop) (c:(Int)->Option Int) (a:Int):Option Int:=
 br (decide (a<(b.length:Int))) (gd (0<=a/\a<(b.length:Int))<|(Z1z F ((gl b a.toNat).n_)).bind fun d=>br (!d) (some (5:Int)) (br (decide (((gl b a.toNat).f_)<0)) (Q2W F b a c true) (Q2W F b a c (decide ((40:Int)<((gl b a.toNat).f_)))))) (Z8b F)
def Q9m (F:Nat) (a:List Crop):Option Int:=
 br (decide ((40:Int)<(a.length:Int))) (some (1:Int)) (Z3 (fun g (z:Int)=>Q4u F a g z) F (0:Int))
def Q5g (F:Nat):Option Int:=
 some (-1:Int)
def Q5h (F:Nat) (b:List Rg_) (d:Rg_->Option Bool) (c:(Int)->Option Int) (a:Int):Option Int:=
 br (decide (a<(b.length:Int))) (gd (0<=a/\a<(b.length:Int))<|(d (gl b a.toNat)).bind fun e=>br e (some a) (gd (I64 (a+1))<|c (a+1))) (Q5g F)
def Q1n (F:Nat) (a:List Rg_) (b:Rg_->Option Bool):Option Int:=
 Z3 (fun g (z:Int)=>Q5h F a b g z) F (0:Int)
def Q0A (F:Nat) (a:List Rg_) (b:Rg_->Option Bool):Option Bool:=
 (Q1n F a b).bind fun c=>some (decide ((0:Int)<=c))
def Q4V (F:Nat) (a:Bool):Option Int:=
 br a (some (7:Int)) (some (0:Int))
def Q2J (F:Nat) (a:Rg_) (b:Bool):Option Int:=
 br b (some (13:Int)) (br ((a.g_.t_.length:Int)==(0:Int)) (Q4V F true) ((Q0l F a.g_).bind fun c=>Q4V F (!c)))
def Q2K (F:Nat) (a:Rg_) (b:Bool):Option Int:=
 br b (some (18:Int)) (br (decide (a.c_<0)) (Q2J F a true) (Q2J F a (decide ((40:Int)<=a.c_))))
def Q8k (F:Nat) (a:Rg_):Option Int:=
 br (decide (a.y_<0)) (Q2K F a true) (Q2K F a (decide ((100:Int)<a.y_)))
def Z8d (F:Nat):Option Int:=
 some (0:Int)
def Q2X (F:Nat) (b:List Int) (c:(Int)->Option Int) (a:Int):Option Int:=
 br (decide (a<(b.length:Int))) (gd (0<=a/\a<(b.length:Int))<|br ((gl b a.toNat) != (0:Int)) (some (gl b a.toNat)) (gd (I64 (a+1))<|c (a+1))) (Z8d F)
def Z4L (F:Nat) (a:List Int):Option Int:=
 Z3 (fun g (z:Int)=>Q2X F a g z) F (0:Int)
def Q6U (F:Nat) (a b:Rg_):Option Int:=
 (Q2t F a.y_ b.y_).bind fun c=>(Q2t F a.c_ b.c_).bind fun d=>(Z4L F ([c,d]:List Int)).bind fun e=>some e
def Z3J (F:Nat) (a:(List (Int×(List Rg_)))):Option ((List (Int×(List Rg_)))):=
 some a
def Q1N (F:Nat) (b:List Rg_) (d:(Int×(List (Int×(List Rg_))))->Option ((List (Int×(List Rg_))))) (a:Int) (c:(List (Int×(List Rg_)))):Option ((List (Int×(List Rg_)))):=
 br (decide (a<(b.length:Int))) (gd (0<=a/\a<(b.length:Int))<|gd ((gRow ((gl b a.toNat).y_) c).length+List.length ([(gl b a.toNat)]:List Rg_)<=LIM)<|gd (I64 (a+1))<|d ((a+1),(gApp ((gl b a.toNat).y_) ([(gl b a.toNat)]:List Rg_) c))) (Z3J F c)
def Z3l (F:Nat) (a:List Rg_):Option ((List (Int×(List Rg_)))):=
 Z3 (fun g (z:Int×(List (Int×(List Rg_))))=>Q1N F a g z.1 z.2) F ((0:Int),([]:List (Int×(List Rg_))))
def Q0b (F:Nat) (a:Bool):Option Bool:=
 some a
def Q7G (F:Nat) (a b:Rect):Option Bool:=
 br (decide (a.L_<b.R_)) (br (decide (b.L_<a.R_)) (br (decide (a.w_<b.H_)) (Q0b F (decide (b.w_<a.H_))) (Q0b F false)) (Q0b F false)) (Q0b F false)
def Q8Q (F:Nat) (a b:Rect):Option Bool:=
 (Q7G F b a).bind fun c=>some c
def Z1L (F:Nat) (a:Rect) (b:Re_):Option Bool:=
 (K6 F b.t_ (fun y0=>Q8Q F y0 a)).bind fun c=>some c
def Q6N (F:Nat) (a:Bool):Option Bool:=
 some a
def Q7H (F:Nat) (a b:Re_):Option Bool:=
 (Q0l F a).bind fun c=>br c ((Q0l F b).bind fun d=>br d ((K6 F a.t_ (fun y0=>Z1L F y0 b)).bind fun e=>Q6N F e) (Q6N F false)) (Q6N F false)
def Z0D (F:Nat) (a b:Rg_):Option Bool:=
 (Q7H F a.g_ b.g_).bind fun c=>some c
def Q3t (F:Nat) (a:Int) (b:(Int)->Option Int) (c:Bool):Option Int:=
 br c (some (3:Int)) (gd (I64 (a+1))<|b (a+1))
def Z3L (F:Nat):Option Int:=
 some (0:Int)
def Q9i (F:Nat) (b:(Int×(List Rg_))) (e:(List (Int×(List Rg_)))) (c:((List (Int×(List Rg_))))->Option Int) (d:(Int)->Option Int) (a:Int):Option Int:=
 br (decide (a<(b.2.length:Int))) (gd (0<=a/\a<(b.2.length:Int))<|gd (0<=a/\a<=(b.2.length:Int))<|(Q0A F (b.2.take a.toNat) (fun y0=>Z0D F y0 (gl b.2 a.toNat))).bind fun i=>br i (some (11:Int)) (gd (I64 (a+1))<|d (a+1))) (c e)
def Q5T (F:Nat) (a:((List (Int×(List Rg_))))->Option Int) (b:(List (Int×(List Rg_)))):Option Int:=
 nextM b (Z3L F) (fun c d=>
 Z3 (fun g (z:Int)=>Q9i F c d a g z) F (0:Int))
def Q5S (F:Nat) (a:List Rg_):Option Int:=
 (Z3l F a).bind fun b=>Z3 (fun g (z:(List (Int×(List Rg_))))=>Q5T F g z) F b
def Z3M (F:Nat) (b:List Rg_) (c:(Int)->Option Int) (a:Int):Option Int:=
 br (decide (a<(b.length:Int))) (gd (0<=a/\a<(b.length:Int))<|(Q8k F (gl b a.toNat)).bind fun d=>br (d != (0:Int)) (some d) (br (decide ((0:Int)<a)) (gd (I64 (a-1))<|gd (0<=(a-1)/\(a-1)<(b.length:Int))<|(Q6U F (gl b (a-1).toNat) (gl b a.toNat)).bind fun e=>Q3t F a c (decide ((0:Int)<=e))) (Q3t F a c false))) (Q5S F b)
def Q9B (F:Nat) (a:List Rg_):Option Int:=
 br (decide ((200:Int)<(a.length:Int))) (some (1:Int)) (Z3 (fun g (z:Int)=>Z3M F a g z) F (0:Int))
def Q2L (F:Nat) (a:Bool):Option Int:=
 br a (some (7:Int)) (some (0:Int))
def Q0d (F:Nat) (a:A2_) (b:Bool):Option Int:=
 br b (some (9:Int)) (br ((a.g_.t_.length:Int)==(0:Int)) (Q2L F true) ((Q0l F a.g_).bind fun c=>Q2L F (!c)))
def Q0e (F:Nat) (a:A2_) (b:Bool):Option Int:=
 br b (some (14:Int)) (br (decide (a.F_<0)) (Q0d F a true) (br (decide (a.u_<=a.F_)) (Q0d F a true) (Q0d F a (decide ((36865:Int)<a.u_)))))
def Q4W (F:Nat) (a:A2_) (b:Bool):Option Int:=
 br b (some (2:Int)) (br (decide (a.k_<0)) (Q0e F a true) (Q0e F a (decide ((15:Int)<a.k_))))
def Q8n (F:Nat) (a:A2_):Option Int:=
 br (decide (a.N_<1)) (Q4W F a true) (Q4W F a (decide ((1073741824:Int)<a.N_)))
def Q3x (F:Nat) (a:Int) (b:(Int)->Option Int) (c:Bool):Option Int:=
 br c (some (3:Int)) (gd (I64 (a+1))<|b (a+1))
def Z3P (F:Nat):Option Int:=
 some (0:Int)
def Z3Q (F:Nat) (b:List A2_) (c:(Int)->Option Int) (a:Int):Option Int:=
 br (decide (a<(b.length:Int))) (gd (0<=a/\a<(b.length:Int))<|(Q8n F (gl b a.toNat)).bind fun d=>br (d != (0:Int)) (some d) (br (decide ((0:Int)<a)) (gd (I64 (a-1))<|gd (0<=(a-1)/\(a-1)<(b.length:Int))<|Q3x F a c (decide (((gl b a.toNat).N_)<=((gl b (a-1).toNat).N_)))) (Q3x F a c false))) (Z3P F)
def Q9D (F:Nat) (a:List A2_):Option Int:=
 br (decide ((60:Int)<(a.length:Int))) (some (1:Int)) (Z3 (fun g (z:Int)=>Z3Q F a g z) F (0:Int))
def Q3u (F:Nat) (a:Bool):Option Int:=
 br a (some (9:Int)) (some (0:Int))
def Q9C (F:Nat) (c:List A2_) (a:Int):Option Int:=
 (Q9D F c).bind fun b=>br (b != (0:Int)) (some b) (br (decide (a<0)) (Q3u F true) (Q3u F (decide ((36864:Int)<a))))
def Q2z (F:Nat) (a:List Rect):Option (List Rect):=
 brN (List.length a) (some ([])) (gd ((0)+(List.length a)<=LIM)<|some (([]:List Rect)++a))
def Q8o (F:Nat) (a:A2_):Option A2_:=
 (Q2z F a.g_.t_).bind fun b=>some (⟨a.N_,a.k_,a.F_,a.u_,(⟨b⟩:Re_)⟩:A2_)
def Z2i (F:Nat) (a:List A2_):Option (List A2_):=
 some a
def Z6A (F:Nat) (c:List A2_) (e:(Int×(List A2_))->Option (List A2_)) (a:Int) (b:List A2_):Option (List A2_):=
 br (decide (a<(c.length:Int))) (gd (0<=a/\a<(c.length:Int))<|(Q8o F (gl c a.toNat)).bind fun d=>gd ((List.length b)+(List.length ([d]:List A2_))<=LIM)<|gd (I64 (a+1))<|e ((a+1),(b++([d]:List A2_)))) (Z2i F b)
def Z2N (F:Nat) (a:List A2_):Option (List A2_):=
 Z3 (fun g (z:Int×(List A2_))=>Z6A F a g z.1 z.2) F ((0:Int),([]:List A2_))
def Q5V (F:Nat) (a:Bool):Option Bool:=
 some a
def Q6A (F:Nat) (a:A2_) (b:Int):Option Bool:=
 br (decide (a.F_<=b)) (Q5V F (decide (b<a.u_))) (Q5V F false)
def Z4I (F:Nat) (a:A2_) (b:Int):Option Bool:=
 (Q6A F a b).bind fun c=>some (!c)
def Q4G (F:Nat):Option Int:=
 some (-1:Int)
def Q4H (F:Nat) (b:List A2_) (d:A2_->Option Bool) (c:(Int)->Option Int) (a:Int):Option Int:=
 br (decide (a<(b.length:Int))) (gd (0<=a/\a<(b.length:Int))<|(d (gl b a.toNat)).bind fun e=>br e (some a) (gd (I64 (a+1))<|c (a+1))) (Q4G F)
def Q1b (F:Nat) (a:List A2_) (b:A2_->Option Bool):Option Int:=
 Z3 (fun g (z:Int)=>Q4H F a b g z) F (0:Int)
def K4 (F:Nat) (a:Int) (b:(Int×Int×(List A2_))->Option (List A2_)) (c:Int) (d:List A2_):Option (List A2_):=
 gd (I64 (a+1))<|b (c,(a+1),d)
def Q1p (F:Nat) (a:Int) (b:List A2_):Option (List A2_):=
 gd (0<=a/\a<=(((List.length b):Nat):Int)/\((0:Nat):Int)+(((List.length b):Nat):Int)<=(b.length:Int))<|gd (0<=a/\a<=((List.length (clr b (0+(a).toNat) ((List.length b)-(a).toNat)):Nat):Int))<|some ((clr b (0+(a).toNat) ((List.length b)-(a).toNat)).take (a).toNat)
def Q3Z (F:Nat) (e:A2_->Option Bool) (d:(Int×Int×(List A2_))->Option (List A2_)) (b c:Int) (a:List A2_):Option (List A2_):=
 br (decide (c<(a.length:Int))) (gd (0<=c/\c<(a.length:Int))<|(e (gl a c.toNat)).bind fun i=>br (!i) (gd (0<=b/\b<(a.length:Int))<|gd (I64 (b+1))<|K4 F c d (b+1) (List.set a b.toNat (gl a c.toNat))) (K4 F c d b a)) (Q1p F b a)
def Q0O (F:Nat) (b:List A2_) (c:A2_->Option Bool):Option (List A2_):=
 (Q1b F b c).bind fun a=>br (a==(-1:Int)) (some b) (gd (I64 (a+1))<|Z3 (fun g (z:Int×Int×(List A2_))=>Q3Z F c g z.1 z.2.1 z.2.2) F (a,(a+1),b))
def Z2k (F:Nat) (a:List A2_) (b:Int):Option ((List A2_)×Int):=
 (Q9C F a b).bind fun c=>br (c != (0:Int)) (some ([],c)) ((Z2N F a).bind fun d=>(Q0O F d (fun y0=>Z4I F y0 b)).bind fun e=>some (e,(0:Int)))
def Q2e (F:Nat) (a:Bool):Option Bool:=
 some a
def Q1Q (F:Nat) (a:Int) (b:TermPlace):Option Bool:=
 br (decide (a<0)) (Q2e F true) (Q2e F (decide ((b.world_.crops_.length:Int)<=a)))
def Q2w (F:Nat) (a:Rg_) (b:TermPlace):Option Bool:=
 (Q1Q F a.c_ b).bind fun c=>some c
def Q3Y (F:Nat):Option Int:=
 some (-1:Int)
def U2 (F:Nat) (b:List Rg_) (d:TermPlace) (c:(Int)->Option Int) (a:Int):Option Int:=
 br (decide (a<(b.length:Int))) (gd (0<=a/\a<(b.length:Int))<|(Q2w F (gl b a.toNat) d).bind fun e=>br e (some a) (gd (I64 (a+1))<|c (a+1))) (Q3Y F)
def Q0N (F:Nat) (a:List Rg_) (b:TermPlace):Option Int:=
 Z3 (fun g (z:Int)=>U2 F a b g z) F (0:Int)
def Q0j (F:Nat) (a:List Rg_) (b:TermPlace):Option Bool:=
 (Q0N F a b).bind fun c=>some (decide ((0:Int)<=c))
def Q1y (F:Nat) (a:TermPlace) (c:Bool):Option Int:=
 br c (some (18:Int)) ((Z2k F a.world_.zones_ a.world_.day_).bind fun b=>br (b.2 != (0:Int)) (some b.2) ((Q0l F a.line_.g_).bind fun d=>br (!d) (some (7:Int)) (some (0:Int))))
def Q1z (F:Nat) (a:TermPlace) (c:Bool):Option Int:=
 br c (some (13:Int)) ((Q9B F a.world_.history_).bind fun b=>br (b != (0:Int)) (some b) (br (decide (a.world_.y_<0)) (Q1y F a true) (Q1y F a (decide ((100:Int)<a.world_.y_)))))
def Q5D (F:Nat) (a:TermPlace) (d:Term):Option Int:=
 (Z1A F d).bind fun b=>br (b != (0:Int)) (some b) ((Q9m F a.world_.crops_).bind fun c=>br (c != (0:Int)) (some c) ((Q1Q F a.line_.c_ a).bind fun e=>br e (Q1z F a true) ((Q0j F a.world_.history_ a).bind fun i=>Q1z F a i)))
def Q9H (F:Nat) (a:Squares):Option Squares:=
 some (⟨a.no_,a.yes_,a.open_⟩:Squares)
def Q4y (F:Nat) (a:List Span):Option (List Span):=
 some a
def K7 (F:Nat) (b:(List (List Span))) (d:(Int×(List Span))->Option (List Span)) (a:Int) (c:List Span):Option (List Span):=
 br (decide (a<(b.length:Int))) (gd (0<=a/\a<(b.length:Int))<|gd ((List.length c)+(List.length (gl b a.toNat))<=LIM)<|gd (I64 (a+1))<|d ((a+1),(c++(gl b a.toNat)))) (Q4y F c)
def Q2h (F:Nat) (b:(List (List Span))) (a:Int):Option (List Span):=
 (Y1d a).bind fun c=>Z3 (fun g (z:Int×(List Span))=>K7 F b g z.1 z.2) F ((0:Int),c)
def K8 (F:Nat) (b:(List (List Span))) (d:(Int×Int)->Option (List Span)) (c a:Int):Option (List Span):=
 br (decide (a<(b.length:Int))) (gd (0<=a/\a<(b.length:Int))<|gd (I64 (c+((List.length (gl b a.toNat):Nat):Int)))<|br (decide ((c+((List.length (gl b a.toNat):Nat):Int))<0)) (none) (gd (I64 (a+1))<|d ((c+((List.length (gl b a.toNat):Nat):Int)),(a+1)))) (Q2h F b c)
def Q7a (F:Nat) (a:(List (List Span))):Option (List Span):=
 Z3 (fun g (z:Int×Int)=>K8 F a g z.1 z.2) F ((0:Int),(0:Int))
def Q3K (F:Nat) (a:Bool):Option Bool:=
 some a
def Q0K (F:Nat) (a:Span) (b:Int):Option Bool:=
 br (decide (a.L_<=b)) (Q3K F (decide (b<a.R_))) (Q3K F false)
def Q6l (F:Nat):Option Int:=
 some (-1:Int)
def J1 (F:Nat) (b:List Span) (d:Span->Option Bool) (c:(Int)->Option Int) (a:Int):Option Int:=
 br (decide (a<(b.length:Int))) (gd (0<=a/\a<(b.length:Int))<|(d (gl b a.toNat)).bind fun e=>br e (some a) (gd (I64 (a+1))<|c (a+1))) (Q6l F)
def Q4w (F:Nat) (a:List Span) (b:Span->Option Bool):Option Int:=
 Z3 (fun g (z:Int)=>J1 F a b g z) F (0:Int)
def Q2P (F:Nat) (a:List Span) (b:Span->Option Bool):Option Bool:=
 (Q4w F a b).bind fun c=>some (decide ((0:Int)<=c))
def Q6p (F:Nat) (a:List Span) (b:Int):Option Bool:=
 (Q2P F a (fun y0=>Q0K F y0 b)).bind fun c=>some c
def Q2r (F:Nat) (a:Int) (b:(Int×(List Span))->Option (List Span)) (c:List Span):Option (List Span):=
 gd (I64 (a+1))<|b ((a+1),c)
def Q4c (F:Nat) (c:List Int) (a:Int) (b:List Span) (d:(Int×(List Span))->Option (List Span)) (e:Bool):Option (List Span):=
 br e (gd (I64 ((b.length:Int)-(1:Int)))<|gd (0<=a/\a<(c.length:Int))<|gd (0<=((b.length:Int)-(1:Int))/\((b.length:Int)-(1:Int))<(b.length:Int))<|Q2r F a d (List.set b ((b.length:Int)-(1:Int)).toNat (⟨(gl b ((b.length:Int)-(1:Int)).toNat).L_,(gl c a.toNat)⟩:Span))) (gd (0<=a/\a<(c.length:Int))<|gd ((List.length b)+(List.length ([(⟨(gl c (a-1).toNat),(gl c a.toNat)⟩:Span)]:List Span))<=LIM)<|Q2r F a d (b++([(⟨(gl c (a-1).toNat),(gl c a.toNat)⟩:Span)]:List Span)))
def Q6J (F:Nat) (a:List Span):Option (List Span):=
 some a
def Q4d (F:Nat) (e i:List Span) (j:Bool->Bool->Option Bool) (c:List Int) (d:(Int×(List Span))->Option (List Span)) (b:Int) (a:List Span):Option (List Span):=
 br (decide (b<(c.length:Int))) (gd (I64 (b-1))<|gd (0<=(b-1)/\(b-1)<(c.length:Int))<|(Q6p F e (gl c (b-1).toNat)).bind fun k=>(Q6p F i (gl c (b-1).toNat)).bind fun l=>(j k l).bind fun m=>br (!m) (Q2r F b d a) (br (decide ((0:Int)<(a.length:Int))) (gd (I64 ((a.length:Int)-(1:Int)))<|gd (0<=((a.length:Int)-(1:Int))/\((a.length:Int)-(1:Int))<(a.length:Int))<|Q4c F c b a d (((gl a ((a.length:Int)-(1:Int)).toNat).R_)==(gl c (b-1).toNat))) (Q4c F c b a d false))) (Q6J F a)
def Z0w (F:Nat) (b c:List Span) (d:Bool->Bool->Option Bool) (a:List Int):Option (List Span):=
 (Z7G a).bind fun e=>(Q1R F e).bind fun i=>Z3 (fun g (z:Int×(List Span))=>Q4d F b c d i g z.1 z.2) F ((1:Int),([]:List Span))
def Q6K (F:Nat) (e i:List Span) (j:Bool->Bool->Option Bool) (b:List Span) (d:(Int×(List Int))->Option (List Span)) (a:Int) (c:List Int):Option (List Span):=
 br (decide (a<(b.length:Int))) (gd (0<=a/\a<(b.length:Int))<|gd ((List.length c)+(List.length ([(gl b a.toNat).L_,(gl b a.toNat).R_]:List Int))<=LIM)<|gd (I64 (a+1))<|d ((a+1),(c++([(gl b a.toNat).L_,(gl b a.toNat).R_]:List Int)))) (Z0w F e i j c)
def Z1g (F:Nat) (a b:List Span) (c:Bool->Bool->Option Bool):Option (List Span):=
 (Q7a F ([a,b]:List (List Span))).bind fun d=>Z3 (fun g (z:Int×(List Int))=>Q6K F a b c d g z.1 z.2) F ((0:Int),([]:List Int))
def Z0y (F:Nat) (a:Int) (b c:List Rect) (d:Bool->Bool->Option Bool):Option (List Span):=
 (Q8P F b a).bind fun e=>(Q8P F c a).bind fun i=>(Z1g F e i d).bind fun j=>some j
def V9 (F:Nat) (a b:List Rect) (c:Bool->Bool->Option Bool):Option (List Rect):=
 (Q9X F ([a,b]:List (List Rect))).bind fun d=>(Q7I F d (fun y0=>Z0y F y0 a b c)).bind fun e=>some e
def Z0W (F:Nat) (a:Bool):Option Bool:=
 some a
def Q8L (F:Nat) (a b:Bool):Option Bool:=
 br a (Z0W F b) (Z0W F false)
def Q7A (F:Nat) (a:Bool):Option Bool:=
 some a
def Q9J (F:Nat) (a b:Bool):Option Bool:=
 br a (Q7A F true) (Q7A F b)
def Q6F (F:Nat) (a:Bool):Option Bool:=
 some a
def Q5C (F:Nat) (a b:Bool):Option Bool:=
 br a (Q6F F (!b)) (Q6F F false)
def Q2o (F:Nat) (c:TermPlace) (a b:List Rect):Option Squares:=
 (V9 F c.t_ a (fun y0 y1=>Q5C F y0 y1)).bind fun d=>(V9 F d b (fun y0 y1=>Q5C F y0 y1)).bind fun e=>some (⟨a,b,e⟩:Squares)
def Q7y (F:Nat) (c:TermPlace) (a b:List Rect):Option Squares:=
 (Q2o F c a b).bind fun d=>some d
def Q1l (F:Nat) (i:TermPlace) (b:List Squares) (e:((List Rect)×(List Rect)×Int)->Option Squares) (c d:List Rect) (a:Int):Option Squares:=
 br (decide (a<(b.length:Int))) (gd (0<=a/\a<(b.length:Int))<|(V9 F c ((gl b a.toNat).yes_) (fun y0 y1=>Q8L F y0 y1)).bind fun j=>(V9 F d ((gl b a.toNat).no_) (fun y0 y1=>Q9J F y0 y1)).bind fun k=>gd (I64 (a+1))<|e (j,k,(a+1))) (Q7y F i c d)
def Q3h (F:Nat) (a:TermPlace) (b:List Squares):Option Squares:=
 Z3 (fun g (z:(List Rect)×(List Rect)×Int)=>Q1l F a b g z.1 z.2.1 z.2.2) F (a.t_,([]:List Rect),(0:Int))
def Q0R (F:Nat) (a:TermPlace) (b:Bool):Option Squares:=
 br b (some (⟨a.t_,[],[]⟩:Squares)) (some (⟨[],a.t_,[]⟩:Squares))
def Z0d (F:Nat) (a:Bool):Option Bool:=
 some a
def Z3V (F:Nat) (b:List Crop) (a c:Int):Option Bool:=
 br (decide ((0:Int)<=a)) (br (decide (a<(b.length:Int))) (br (c != (0:Int)) (gd (0<=a/\a<(b.length:Int))<|Z0d F ((Q3A .i64 ((gl b a.toNat).m_) c)==c)) (Z0d F false)) (Z0d F false)) (Z0d F false)
def Z2q (F:Nat) (a:Int) (b:Term):Option Bool:=
 some (a==b.num_)
def Q3v (F:Nat) (a:Int) (b:(Int×(List Rect))->Option (List Rect)) (c:List Rect):Option (List Rect):=
 gd (I64 (a+1))<|b ((a+1),c)
def Q3w (F:Nat) (d:List A2_) (a:Int) (b:List Rect) (c:(Int×(List Rect))->Option (List Rect)) (e:Bool):Option (List Rect):=
 br e (gd ((List.length b)+(List.length ((gl d a.toNat).g_.t_))<=LIM)<|Q3v F a c (b++((gl d a.toNat).g_.t_))) (Q3v F a c b)
def Q9k (F:Nat) (a:List Rect):Option (List Rect):=
 some a
def Q5W (F:Nat) (b:List A2_) (e:Int) (i:Int->Option Bool) (d:(Int×(List Rect))->Option (List Rect)) (a:Int) (c:List Rect):Option (List Rect):=
 br (decide (a<(b.length:Int))) (gd (0<=a/\a<(b.length:Int))<|(Q6A F (gl b a.toNat) e).bind fun j=>br j ((i ((gl b a.toNat).k_)).bind fun k=>Q3w F b a c d k) (Q3w F b a c d false)) (Q9k F c)
def Q6B (F:Nat) (a:List A2_) (b:Int) (c:Int->Option Bool):Option (List Rect):=
 Z3 (fun g (z:Int×(List Rect))=>Q5W F a b c g z.1 z.2) F ((0:Int),([]:List Rect))
def Q1P (F:Nat) (b:TermPlace) (a:List Rect):Option Squares:=
 (V9 F b.t_ a (fun y0 y1=>Q5C F y0 y1)).bind fun c=>some (⟨a,c,[]⟩:Squares)
def Q4E (F:Nat) (a:Int) (b:TermPlace) (c:Int):Option Bool:=
 gd (0<=a/\a<(b.world_.crops_.length:Int))<|some (((gl b.world_.crops_ a.toNat).f_)==c)
def Q3r (F:Nat) (a:Int) (b:(Int×(List Rect))->Option (List Rect)) (c:List Rect):Option (List Rect):=
 gd (I64 (a+1))<|b ((a+1),c)
def Q3s (F:Nat) (d:List Rg_) (a:Int) (b:List Rect) (c:(Int×(List Rect))->Option (List Rect)) (e:Bool):Option (List Rect):=
 br e (gd ((List.length b)+(List.length ((gl d a.toNat).g_.t_))<=LIM)<|Q3r F a c (b++((gl d a.toNat).g_.t_))) (Q3r F a c b)
def Q9h (F:Nat) (a:List Rect):Option (List Rect):=
 some a
def Z3K (F:Nat) (b:List Rg_) (e:Int) (i:Int->Option Bool) (d:(Int×(List Rect))->Option (List Rect)) (a:Int) (c:List Rect):Option (List Rect):=
 br (decide (a<(b.length:Int))) (gd (0<=a/\a<(b.length:Int))<|br (((gl b a.toNat).y_)==e) ((i ((gl b a.toNat).c_)).bind fun j=>Q3s F b a c d j) (Q3s F b a c d false)) (Q9h F c)
def Q9A (F:Nat) (a:List Rg_) (b:Int) (c:Int->Option Bool):Option (List Rect):=
 Z3 (fun g (z:Int×(List Rect))=>Z3K F a b c g z.1 z.2) F ((0:Int),([]:List Rect))
def Q0r (F:Nat) (a:TermPlace) (b:Int) (c:Int->Option Bool):Option (List Rect):=
 gd (I64 (a.world_.y_-b))<|(Q9A F a.world_.history_ (a.world_.y_-b) c).bind fun d=>(V9 F a.t_ d (fun y0 y1=>Q8L F y0 y1)).bind fun e=>some e
def Q4D (F:Nat) (a:Int) (b:TermPlace) (c:Int):Option Bool:=
 gd (0<=a/\a<(b.world_.crops_.length:Int))<|some (((gl b.world_.crops_ a.toNat).f_) != c)
def Q6X (F:Nat) (c:TermPlace) (a b:List Rect):Option Squares:=
 (Q2o F c a b).bind fun d=>some d
def Q0S (F:Nat) (a:TermPlace) (i:Int) (e:((List Rect)×(List Rect)×Int)->Option Squares) (c d:List Rect) (b:Int):Option Squares:=
 br (decide (b<i)) ((Q0r F a b (fun y0=>Q4E F y0 a ((gl a.world_.crops_ a.line_.c_.toNat).f_))).bind fun j=>(Q0r F a b (fun y0=>Q4D F y0 a ((gl a.world_.crops_ a.line_.c_.toNat).f_))).bind fun k=>(V9 F c j (fun y0 y1=>Q8L F y0 y1)).bind fun l=>(V9 F d k (fun y0 y1=>Q9J F y0 y1)).bind fun m=>gd (I64 (b+1))<|e (l,m,(b+1))) (Q6X F a c d)
def Q6G (F:Nat) (a:TermPlace) (b:Int):Option Squares:=
 gd (0<=a.line_.c_/\a.line_.c_<(a.world_.crops_.length:Int))<|Z3 (fun g (z:(List Rect)×(List Rect)×Int)=>Q0S F a b g z.1 z.2.1 z.2.2) F (a.t_,([]:List Rect),(1:Int))
def Q2y (F:Nat) (a:Int) (b:TermPlace) (c:Term):Option Bool:=
 (Z3V F b.world_.crops_ a c.more_).bind fun d=>some d
def Q2x (F:Nat) (a:Int) (b:TermPlace) (c:Term):Option Bool:=
 (Z3V F b.world_.crops_ a c.more_).bind fun d=>some (!d)
def Z2M (F:Nat) (a:Int):Option Bool:=
 some true
def Q6H (F:Nat) (a:TermPlace) (b:Term):Option Squares:=
 br (b.op_==2) ((Q0R F a (a.line_.c_==b.num_)).bind fun c=>some c) (br (b.op_==3) (gd (0<=a.line_.c_/\a.line_.c_<(a.world_.crops_.length:Int))<|(Q0R F a (((gl a.world_.crops_ a.line_.c_.toNat).f_)==b.num_)).bind fun d=>some d) (br (b.op_==4) ((Z3V F a.world_.crops_ a.line_.c_ b.num_).bind fun e=>(Q0R F a e).bind fun i=>some i) (br (b.op_==5) ((Q6B F a.world_.zones_ a.world_.day_ (fun y0=>Z2q F y0 b)).bind fun j=>(V9 F a.t_ j (fun y0 y1=>Q8L F y0 y1)).bind fun k=>(Q1P F a k).bind fun l=>some l) (br (b.op_==6) ((Q6G F a b.num_).bind fun m=>some m) (br (b.op_==7) ((Q0r F a b.num_ (fun y0=>Q2y F y0 a b)).bind fun n=>(Q0r F a b.num_ (fun y0=>Q2x F y0 a b)).bind fun o=>(Q2o F a n o).bind fun p=>some p) (br (b.op_==8) ((Q0r F a b.num_ (fun y0=>Z2M F y0)).bind fun q=>(Q1P F a q).bind fun s=>some s) ((Q0R F a true).bind fun t=>some t)))))))
def Q1O (F:Nat) (rc:TermPlace->Term->Option Squares) (a:Int) (b:List Squares) (i:(Int×(List Squares))->Option Squares) (c d e:List Rect):Option Squares:=
 gd ((List.length b)+(List.length ([(⟨c,d,e⟩:Squares)]:List Squares))<=LIM)<|gd (I64 (a+1))<|i ((a+1),(b++([(⟨c,d,e⟩:Squares)]:List Squares)))
def Q6Y (F:Nat) (rc:TermPlace->Term->Option Squares) (c:TermPlace) (b:Term) (a:List Squares):Option Squares:=
 br (b.op_==9) ((Q3h F c a).bind fun d=>some d) (br (b.op_==10) ((Q3h F c a).bind fun e=>(Q9H F e).bind fun i=>some i) (br (b.op_==11) (gd (0<=(0:Int)/\(0:Int)<(a.length:Int))<|some (gl a (0:Int).toNat)) ((Q6H F c b).bind fun j=>some j)))
def Q0o (F:Nat) (rc:TermPlace->Term->Option Squares) (j:TermPlace) (b:Term) (i:(Int×(List Squares))->Option Squares) (a:Int) (d:List Squares):Option Squares:=
 br (decide (a<(b.kids_.length:Int))) (gd (0<=a/\a<(b.kids_.length:Int))<|gd (I64 (gl b.kids_ a.toNat).op_)<|(rc j (gl b.kids_ a.toNat)).bind fun c=>br (b.op_ != (9:Int)) ((Q9H F c).bind fun e=>Q1O F rc a d i e.yes_ e.no_ e.open_) (Q1O F rc a d i c.yes_ c.no_ c.open_)) (Q6Y F rc j b d)
def Q4F (F:Nat) (rc:TermPlace->Term->Option Squares) (a:TermPlace) (b:Term):Option Squares:=
 Z3 (fun g (z:Int×(List Squares))=>Q0o F rc a b g z.1 z.2) F ((0:Int),([]:List Squares))
def K3:Nat->TermPlace->Term->Option Squares
 | 0=>fun _ _=>none
 | F+1=>Q4F F (K3 F)
def Q7l (F:Nat) (a:List Rect):Option Re_:=
 (Q2z F a).bind fun b=>some (⟨b⟩:Re_)
def Z6Q (F:Nat) (c:Term) (b:Line) (d:Int) (e:List Crop) (i:List Rg_) (j:List A2_) (k:Int):Option (Truth×Int):=
 (Q5D F (⟨(⟨d,e,i,j,k⟩:TermWorld),b,b.g_.t_⟩:TermPlace) c).bind fun l=>br (l != (0:Int)) (some ((⟨(⟨[]⟩:Re_),(⟨[]⟩:Re_),(⟨[]⟩:Re_)⟩:Truth),l)) ((K3 F (⟨(⟨d,e,i,j,k⟩:TermWorld),b,b.g_.t_⟩:TermPlace) c).bind fun a=>br (decide ((120:Int)<(Q0x (Q0x (a.yes_.length:Int) (a.no_.length:Int)) (a.open_.length:Int)))) (some ((⟨(⟨[]⟩:Re_),(⟨[]⟩:Re_),(⟨[]⟩:Re_)⟩:Truth),(1:Int))) ((Q7l F a.yes_).bind fun m=>(Q7l F a.no_).bind fun n=>(Q7l F a.open_).bind fun o=>some ((⟨m,n,o⟩:Truth),(0:Int))))
def J9 (F:Nat) (a:Int) (b:(Int)->Option Bool) (c:Bool):Option Bool:=
 br c (some false) (gd (I64 (a+1))<|b (a+1))
def Q3J (F:Nat) (a:Bool):Option Bool:=
 some a
def Q7b (F:Nat) (a:List Bracket):Option Bool:=
 br (decide ((1:Int)<=(a.length:Int))) (Q3J F (decide ((a.length:Int)<=(6:Int)))) (Q3J F false)
def Q0p (F:Nat) (b:List Bracket) (c:(Int)->Option Bool) (a:Int):Option Bool:=
 br (decide (a<(b.length:Int))) (gd (0<=a/\a<(b.length:Int))<|br (decide (((gl b a.toNat).up_)<1)) (J9 F a c true) (br (decide ((268435456:Int)<((gl b a.toNat).up_))) (J9 F a c true) (br (decide (((gl b a.toNat).rate_)<0)) (J9 F a c true) (br (decide ((1048576:Int)<((gl b a.toNat).rate_))) (J9 F a c true) (br (decide ((0:Int)<a)) (gd (I64 (a-1))<|gd (0<=(a-1)/\(a-1)<(b.length:Int))<|J9 F a c (decide (((gl b a.toNat).up_)<=((gl b (a-1).toNat).up_)))) (J9 F a c false)))))) (Q7b F b)
def Q6I (F:Nat) (a:List Bracket):Option Bool:=
 Z3 (fun g (z:Int)=>Q0p F a g z) F (0:Int)
def Q1q (F:Nat) (a:Bool):Option Int:=
 br a (some (3:Int)) (some (0:Int))
def Q1r (F:Nat) (a:Scheme) (c:Bool):Option Int:=
 br c (some (2:Int)) ((Z1z F a.n_).bind fun d=>br (!d) (some (5:Int)) ((Z1A F a.cond_).bind fun b=>br (b != (0:Int)) (some b) ((Q6I F a.brackets_).bind fun e=>br (!e) (Q1q F true) (br (decide (a.excludes_<0)) (Q1q F true) (br (decide ((65536:Int)<=a.excludes_)) (Q1q F true) (gd (0<=a.N_)<|Q1q F ((Q3A .i64 (a.excludes_.fdiv (2 ^ (min (a.N_).toNat (IntKind.bits .i64)))) (1:Int))==1)))))))
def Q7F (F:Nat) (a:Scheme):Option Int:=
 br (decide (a.N_<0)) (Q1r F a true) (br (decide ((15:Int)<a.N_)) (Q1r F a true) (br (decide (a.least_<0)) (Q1r F a true) (Q1r F a (decide ((268435456:Int)<a.least_)))))
def Z2R (F:Nat) (a:Bool):Option Int:=
 br a (some (2:Int)) (some (0:Int))
def Q8I (F:Nat) (c:List A2_) (d a:Int) (e:Re_):Option Int:=
 (Z2k F c d).bind fun b=>br (b.2 != (0:Int)) (some b.2) ((Q0l F e).bind fun i=>br (!i) (some (7:Int)) (br (decide (a<0)) (Z2R F true) (Z2R F (decide ((268435456:Int)<a)))))
def Q2v (F:Nat) (a:Bool):Option Int:=
 br a (some (1:Int)) (some (2:Int))
def Q0i (F:Nat) (a:Int) (b:Bool):Option Int:=
 br b (some (0:Int)) (br (a==8) (Q2v F (a==8)) (br (a==9) (Q2v F (a==9)) (br (a==10) (Q2v F (a==10)) (Q2v F (a==11)))))
def Z6K (F:Nat) (a:Int):Option Int:=
 br (a==0) (Q0i F a (a==0)) (br (a==1) (Q0i F a (a==1)) (br (a==2) (Q0i F a (a==2)) (br (a==3) (Q0i F a (a==3)) (br (a==4) (Q0i F a (a==4)) (br (a==5) (Q0i F a (a==5)) (br (a==6) (Q0i F a (a==6)) (Q0i F a (a==7))))))))
def Z6L (F:Nat) (a b:Int):Option Bool:=
 (Z6K F a).bind fun c=>some (c==b)
def Q3k (F:Nat) (a:List Rect):Option (Re_×Int):=
 br (decide ((120:Int)<(a.length:Int))) (some ((⟨[]⟩:Re_),(1:Int))) (some ((⟨a⟩:Re_),(0:Int)))
def Q0z (F:Nat) (b:List Rect):Option (Re_×Int):=
 (Q3i F b).bind fun c=>(Q3k F c).bind fun a=>some (a.1,a.2)
def Z8O (F:Nat) (b:List A2_) (c d:Int):Option (Re_×Int):=
 (Q6B F b c (fun y0=>Z6L F y0 d)).bind fun e=>(Q0z F e).bind fun a=>some (a.1,a.2)
def Z6N (F:Nat) (a:List A2_) (b:Int):Option (Re_×Int):=
 (Q8I F a b (0:Int) (⟨[]⟩:Re_)).bind fun c=>br (c != (0:Int)) (some ((⟨[]⟩:Re_),c)) ((Z8O F a b (0:Int)).bind fun d=>some (d.1,d.2))
def Z1y (F:Nat) (a:Bool):Option Bool:=
 some a
def Y0T (F:Nat) (a b:Bool):Option Bool:=
 br a (Z1y F b) (Z1y F false)
def Z0m (F:Nat) (a:Int):Option Int:=
 some a
def Q4a (F:Nat) (a b:Rect) (c:Int) (d:Bool):Option Int:=
 br d (gd (I64 ((Q5U a.R_ b.R_)-(Q0x a.L_ b.L_)))<|gd (I64 (c+(Q0x (0:Int) ((Q5U a.R_ b.R_)-(Q0x a.L_ b.L_)))))<|Z0m F (c+(Q0x (0:Int) ((Q5U a.R_ b.R_)-(Q0x a.L_ b.L_))))) (Z0m F c)
def Q2p (F:Nat) (a b:Rect) (c:Int):Option Int:=
 br (a.H_==b.w_) (Q4a F a b c true) (Q4a F a b c (b.H_==a.w_))
def Q4b (F:Nat) (a b:Rect) (c:Bool):Option Int:=
 br c (gd (I64 ((Q5U a.H_ b.H_)-(Q0x a.w_ b.w_)))<|gd (I64 ((0:Int)+(Q0x (0:Int) ((Q5U a.H_ b.H_)-(Q0x a.w_ b.w_)))))<|Q2p F a b ((0:Int)+(Q0x (0:Int) ((Q5U a.H_ b.H_)-(Q0x a.w_ b.w_))))) (Q2p F a b (0:Int))
def Z1b (F:Nat) (a b:Rect):Option Int:=
 br (a.R_==b.L_) (Q4b F a b true) (Q4b F a b (b.R_==a.L_))
def Q7E (F:Nat) (a:Bool) (b:List Rect):Option ((List Rect)×Bool):=
 some (b,a)
def Q4L (F:Nat) (c:Rect) (b:List Rect) (a:Bool):Option ((List Rect)×Bool):=
 br a (gd ((List.length b)+(List.length ([c]:List Rect))<=LIM)<|Q7E F a (b++([c]:List Rect))) (Q7E F a b)
def Q5i (F:Nat) (c:Rect) (a:List Rect) (b:Int):Option ((List Rect)×Bool):=
 gd (0<=b/\b<(a.length:Int))<|(Z1b F (gl a b.toNat) c).bind fun d=>Q4L F c a (decide ((0:Int)<d))
def Q3b (F:Nat) (a:List Rect):Option (List Rect):=
 brN (List.length a) (some ([]:List Rect)) (gd ((0)+(List.length a)<=LIM)<|some (([]:List Rect)++a))
def Q5e (F:Nat) (b a:List Rect):Option ((List Rect)×(List Rect)×Int):=
 some (b,a,(-1:Int))
def Q5f (F:Nat) (b:List Rect) (i:Int) (e:(Int×(List Rect))->Option ((List Rect)×(List Rect)×Int)) (a:Int) (d:List Rect):Option ((List Rect)×(List Rect)×Int):=
 br (decide (a<(b.length:Int))) (gd (0<=a/\a<(b.length:Int))<|(Q5i F (gl b a.toNat) d i).bind fun c=>br c.2 (some (b,c.1,a)) (gd (I64 (a+1))<|e ((a+1),c.1))) (Q5e F b d)
def Q1m (F:Nat) (a b:List Rect) (c:Int):Option ((List Rect)×(List Rect)×Int):=
 Z3 (fun g (z:Int×(List Rect))=>Q5f F a c g z.1 z.2) F ((0:Int),b)
def G7 (F:Nat) (a:Int) (b:(Int×Int×(List Rect)×(List Rect))->Option ((List Rect)×(List Rect))) (c:Int) (d e:List Rect):Option ((List Rect)×(List Rect)):=
 gd (I64 (a+1))<|b (c,(a+1),d,e)
def Q1B (F:Nat) (a:Int) (b c:List Rect):Option ((List Rect)×(List Rect)):=
 gd (0<=a/\a<=(((List.length b):Nat):Int)/\((0:Nat):Int)+(((List.length b):Nat):Int)<=(b.length:Int))<|gd (0<=a/\a<=((List.length (clr b (0+(a).toNat) ((List.length b)-(a).toNat)):Nat):Int))<|some (c,((clr b (0+(a).toNat) ((List.length b)-(a).toNat)).take (a).toNat))
def Q4K (F:Nat) (j:Int) (e:(Int×Int×(List Rect)×(List Rect))->Option ((List Rect)×(List Rect))) (b c:Int) (a i:List Rect):Option ((List Rect)×(List Rect)):=
 br (decide (c<(a.length:Int))) (gd (0<=c/\c<(a.length:Int))<|(Q5i F (gl a c.toNat) i j).bind fun d=>br (!d.2) (gd (0<=b/\b<(a.length:Int))<|gd (I64 (b+1))<|G7 F c e (b+1) (List.set a b.toNat (gl a c.toNat)) d.1) (G7 F c e b a d.1)) (Q1B F b a i)
def Q1c (F:Nat) (c d:List Rect) (b:Int):Option ((List Rect)×(List Rect)):=
 (Q1m F c d b).bind fun a=>br (a.2.2==(-1:Int)) (some (a.2.1,a.1)) (gd (I64 (a.2.2+(1:Int)))<|Z3 (fun g (z:Int×Int×(List Rect)×(List Rect))=>Q4K F b g z.1 z.2.1 z.2.2.1 z.2.2.2) F (a.2.2,(a.2.2+(1:Int)),a.1,a.2.1))
def Z0n (F:Nat) (a b:List Rect):Option ((List Rect)×(List Rect)):=
 some (b,a)
def Z0o (F:Nat) (c:List Rect) (a:Int) (b:List Rect) (e:((List Rect)×Int×(List Rect))->Option ((List Rect)×(List Rect))):Option ((List Rect)×(List Rect)):=
 br (decide (a<(b.length:Int))) ((Q1c F c b a).bind fun d=>gd (I64 (a+1))<|e (d.2,(a+1),d.1)) (Z0n F c b)
def Z4U (F:Nat) (a:((List Rect)×Int×(List Rect))->Option ((List Rect)×(List Rect))) (b:List Rect) (c:Int) (d:List Rect):Option ((List Rect)×(List Rect)):=
 Z0o F b c d a
def Z1c (F:Nat) (a:List Rect):Option ((List Rect)×(List Rect)):=
 gd ((1:Int)<=(a.length:Int))<|gd (0<=(1:Int)/\(1:Int)<=(a.length:Int))<|(Q3b F (a.drop (1:Int).toNat)).bind fun b=>Z3 (fun g (z:(List Rect)×Int×(List Rect))=>Z4U F g z.1 z.2.1 z.2.2) F (b,(0:Int),(a.take ((1:Int)).toNat))
def Z5R (F:Nat) (a:Int):Option Int:=
 some a
def Z5S (F:Nat) (b:List Rect) (d:(Int×Int)->Option Int) (c a:Int):Option Int:=
 br (decide (a<(b.length:Int))) (gd (0<=a/\a<(b.length:Int))<|gd (I64 (((gl b a.toNat).R_)-((gl b a.toNat).L_)))<|gd (I64 (((gl b a.toNat).H_)-((gl b a.toNat).w_)))<|gd (I64 ((((gl b a.toNat).R_)-((gl b a.toNat).L_))*(((gl b a.toNat).H_)-((gl b a.toNat).w_))))<|gd (I64 (c+((((gl b a.toNat).R_)-((gl b a.toNat).L_))*(((gl b a.toNat).H_)-((gl b a.toNat).w_)))))<|gd (I64 (a+1))<|d ((c+((((gl b a.toNat).R_)-((gl b a.toNat).L_))*(((gl b a.toNat).H_)-((gl b a.toNat).w_)))),(a+1))) (Z5R F c)
def Q9W (F:Nat) (a:List Rect):Option Int:=
 Z3 (fun g (z:Int×Int)=>Z5S F a g z.1 z.2) F ((0:Int),(0:Int))
def Z4a (F:Nat) (b:List Rect):Option (Re_×Int):=
 (Q0z F b).bind fun a=>some (a.1,a.2)
def Z8P (F:Nat) (e:Int) (c:((List Rect)×(List Rect))->Option (Re_×Int)) (d b:List Rect):Option (Re_×Int):=
 br (decide ((0:Int)<(d.length:Int))) ((Z1c F d).bind fun a=>(Q9W F a.1).bind fun i=>br (decide (e<i)) (gd ((List.length b)+(List.length a.1)<=LIM)<|c (a.2,(b++a.1))) (c (a.2,b))) (Z4a F b)
def Z6M (F:Nat) (b:List A2_) (c d:Int) (e:Re_):Option (Re_×Int):=
 (Q8I F b c d e).bind fun i=>br (i != (0:Int)) (some ((⟨[]⟩:Re_),i)) ((Z8O F b c (1:Int)).bind fun a=>br (a.2 != (0:Int)) (some ((⟨[]⟩:Re_),a.2)) ((V9 F a.1.t_ e.t_ (fun y0 y1=>Y0T F y0 y1)).bind fun j=>br (decide ((120:Int)<(j.length:Int))) (some ((⟨[]⟩:Re_),(1:Int))) (Z3 (fun g (z:(List Rect)×(List Rect))=>Z8P F d g z.1 z.2) F (j,([]:List Rect)))))
def Q4z (F:Nat) (a:List Rect):Option (List Rect):=
 some a
def K9 (F:Nat) (b:(List (List Rect))) (d:(Int×(List Rect))->Option (List Rect)) (a:Int) (c:List Rect):Option (List Rect):=
 br (decide (a<(b.length:Int))) (gd (0<=a/\a<(b.length:Int))<|gd ((List.length c)+(List.length (gl b a.toNat))<=LIM)<|gd (I64 (a+1))<|d ((a+1),(c++(gl b a.toNat)))) (Q4z F c)
def Q2i (F:Nat) (b:(List (List Rect))) (a:Int):Option (List Rect):=
 (Y1d a).bind fun c=>Z3 (fun g (z:Int×(List Rect))=>K9 F b g z.1 z.2) F ((0:Int),c)
def G2 (F:Nat) (b:(List (List Rect))) (d:(Int×Int)->Option (List Rect)) (c a:Int):Option (List Rect):=
 br (decide (a<(b.length:Int))) (gd (0<=a/\a<(b.length:Int))<|gd (I64 (c+((List.length (gl b a.toNat):Nat):Int)))<|br (decide ((c+((List.length (gl b a.toNat):Nat):Int))<0)) (none) (gd (I64 (a+1))<|d ((c+((List.length (gl b a.toNat):Nat):Int)),(a+1)))) (Q2i F b c)
def Q3I (F:Nat) (a:(List (List Rect))):Option (List Rect):=
 Z3 (fun g (z:Int×Int)=>G2 F a g z.1 z.2) F ((0:Int),(0:Int))
def Q6W (F:Nat) (a:Bool):Option Bool:=
 some a
def Z4N (F:Nat) (a b:Bool):Option Bool:=
 br a (Q6W F (!b)) (Q6W F false)
def Q6f (F:Nat) (a:Re_) (b:List A2_) (c i:Int):Option (Re_×Int):=
 (Q8I F b c i a).bind fun j=>br (j != (0:Int)) (some ((⟨[]⟩:Re_),j)) ((Z6N F b c).bind fun d=>br (d.2 != (0:Int)) (some ((⟨[]⟩:Re_),d.2)) ((Z6M F b c i a).bind fun e=>br (e.2 != (0:Int)) (some ((⟨[]⟩:Re_),e.2)) ((Q3I F ([d.1.t_,e.1.t_]:List (List Rect))).bind fun l=>(V9 F a.t_ l (fun y0 y1=>Z4N F y0 y1)).bind fun m=>(Q3k F m).bind fun k=>some (k.1,k.2))))
def Q3L (F:Nat) (a:Bool):Option Bool:=
 some a
def Q6L (F:Nat) (a b:Bool):Option Bool:=
 br a (Q3L F (!b)) (Q3L F false)
def Q3j (F:Nat) (a:Bool):Option Bool:=
 some a
def Q9u (F:Nat) (a b:Re_):Option Bool:=
 (Q0l F a).bind fun c=>br c ((Q0l F b).bind fun d=>br d ((V9 F a.t_ b.t_ (fun y0 y1=>Q6L F y0 y1)).bind fun e=>Q3j F ((e.length:Int)==(0:Int))) (Q3j F false)) (Q3j F false)
def Q7q (F:Nat) (a b c:List Rect):Option (Truth×Int):=
 some ((⟨(⟨a⟩:Re_),(⟨b⟩:Re_),(⟨c⟩:Re_)⟩:Truth),(0:Int))
def z8 (F:Nat) (a:Arr3ListRect):Option (Truth×Int):=
 (Q0z F a.e0_).bind fun b=>br (b.2 != (0:Int)) (some ((⟨(⟨[]⟩:Re_),(⟨[]⟩:Re_),(⟨[]⟩:Re_)⟩:Truth),b.2)) (gd (I64 ((0:Int)+(1:Int)))<|(Q0z F a.e1_).bind fun c=>br (c.2 != (0:Int)) (some ((⟨(⟨[]⟩:Re_),(⟨[]⟩:Re_),(⟨[]⟩:Re_)⟩:Truth),c.2)) (gd (I64 ((1:Int)+(1:Int)))<|(Q0z F a.e2_).bind fun d=>br (d.2 != (0:Int)) (some ((⟨(⟨[]⟩:Re_),(⟨[]⟩:Re_),(⟨[]⟩:Re_)⟩:Truth),d.2)) (gd (I64 ((2:Int)+(1:Int)))<|Q7q F b.1.t_ c.1.t_ d.1.t_)))
def Q5Y (F:Nat) (a:Bool):Option Bool:=
 some a
def Q6D (F:Nat) (a b:Bool):Option Bool:=
 br a (Q5Y F b) (Q5Y F false)
def Q3f (F:Nat) (a:Bool):Option Bool:=
 some a
def Q5X (F:Nat) (a b:Bool):Option Bool:=
 br a (Q3f F (!b)) (Q3f F false)
def Q1e (F:Nat) (b:Line) (i:Re_) (c:Scheme) (a:World):Option (Truth×Int):=
 (Q0l F i).bind fun n=>br (!n) (some ((⟨(⟨[]⟩:Re_),(⟨[]⟩:Re_),(⟨[]⟩:Re_)⟩:Truth),(7:Int))) ((Z6Q F c.cond_ b a.y_ a.crops_ a.history_ a.zones_ a.day_).bind fun d=>br (d.2 != (0:Int)) (some ((⟨(⟨[]⟩:Re_),(⟨[]⟩:Re_),(⟨[]⟩:Re_)⟩:Truth),d.2)) ((Q7F F c).bind fun o=>br (o != (0:Int)) (some ((⟨(⟨[]⟩:Re_),(⟨[]⟩:Re_),(⟨[]⟩:Re_)⟩:Truth),(17:Int))) ((Q6f F i a.zones_ a.day_ a.most_).bind fun e=>br (e.2 != (0:Int)) (some ((⟨(⟨[]⟩:Re_),(⟨[]⟩:Re_),(⟨[]⟩:Re_)⟩:Truth),e.2)) ((Q9u F b.g_ i).bind fun p=>br (!p) (some ((⟨(⟨[]⟩:Re_),(⟨[]⟩:Re_),(⟨[]⟩:Re_)⟩:Truth),(12:Int))) (gd (0<=c.N_)<|br ((Q3A .i64 (b.s_.fdiv (2 ^ (min (c.N_).toNat (IntKind.bits .i64)))) (1:Int))==0) ((z8 F (⟨[],b.g_.t_,[]⟩:Arr3ListRect)).bind fun j=>some (j.1,j.2)) ((V9 F d.1.true_.t_ e.1.t_ (fun y0 y1=>Q6D F y0 y1)).bind fun k=>(V9 F d.1.unknown_.t_ e.1.t_ (fun y0 y1=>Q6D F y0 y1)).bind fun l=>(Q3I F ([k,l]:List (List Rect))).bind fun q=>(V9 F b.g_.t_ q (fun y0 y1=>Q5X F y0 y1)).bind fun s=>(z8 F (⟨k,s,l⟩:Arr3ListRect)).bind fun m=>some (m.1,m.2)))))))
def Q6P (F:Nat) (a:Bool):Option Bool:=
 some a
def Z1m (F:Nat) (a b:Re_):Option Bool:=
 (Q1j F a).bind fun c=>br c ((Q1j F b).bind fun d=>br d ((U7 F a.t_ b.t_ (3:Int)).bind fun e=>Q6P F ((e.length:Int)==(0:Int))) (Q6P F false)) (Q6P F false)
def Q8g (F:Nat) (a:Bool):Option Bool:=
 some a
def Z2K (F:Nat):Option Bool:=
 (Q1e F (⟨(1:Int),(⟨([(⟨0,0,(10:Int),(1:Int)⟩:Rect)]:List Rect)⟩:Re_),0,(1:Int)⟩:Line) (⟨([(⟨0,0,(10:Int),(1:Int)⟩:Rect)]:List Rect)⟩:Re_) (⟨0,(ByteArray.mk #[115]),(⟨(1:Int),0,0,[]⟩:Term),([(⟨(10:Int),(1:Int)⟩:Bracket)]:List Bracket),0,0,false⟩:Scheme) (⟨0,([(⟨(ByteArray.mk #[114,121,101]),0,0⟩:Crop)]:List Crop),[],([(⟨(1:Int),0,0,(9:Int),(⟨([(⟨(3:Int),0,(5:Int),(1:Int)⟩:Rect)]:List Rect)⟩:Re_)⟩:A2_)]:List A2_),0,0⟩:World)).bind fun a=>br (a.2==(0:Int)) ((Q7d F a.1.true_).bind fun b=>br (b==8) ((Q7d F a.1.false_).bind fun c=>Q8g F (c==2)) (Q8g F false)) (Q8g F false)
def Q5j (F:Nat) (a b:Scheme):Option Bool:=
 some (sEq a.n_ b.n_)
def Q5c (F:Nat):Option Int:=
 some (-1:Int)
def Q5d (F:Nat) (b:List Scheme) (d:Scheme->Option Bool) (c:(Int)->Option Int) (a:Int):Option Int:=
 br (decide (a<(b.length:Int))) (gd (0<=a/\a<(b.length:Int))<|(d (gl b a.toNat)).bind fun e=>br e (some a) (gd (I64 (a+1))<|c (a+1))) (Q5c F)
def Q0s (F:Nat) (a:List Scheme) (b:Scheme->Option Bool):Option Int:=
 Z3 (fun g (z:Int)=>Q5d F a b g z) F (0:Int)
def U5 (F:Nat) (a:List Scheme) (b:Scheme->Option Bool):Option Bool:=
 (Q0s F a b).bind fun c=>some (decide ((0:Int)<=c))
def Z7H (F:Nat) (a:Scheme) (b:Int):Option Bool:=
 some (a.N_==b)
def Q9V (F:Nat) (a:List Scheme) (b:Int):Option Int:=
 (Q0s F a (fun y0=>Z7H F y0 b)).bind fun c=>some c
def Q5E (F:Nat) (a:Int) (b:(Int)->Option Bool):Option Bool:=
 gd (I64 (a+1))<|b (a+1)
def Q5F (F:Nat) (b:Int) (a:(Int)->Option Bool) (c:Bool):Option Bool:=
 br c (some false) (Q5E F b a)
def Z3v (F:Nat):Option Bool:=
 some true
def Q0T (F:Nat) (d:List Scheme) (e:Scheme) (c:(Int)->Option Bool) (a:Int):Option Bool:=
 br (decide (a<16)) (gd (0<=a)<|br ((Q3A .i64 (e.excludes_.fdiv (2 ^ (min (a).toNat (IntKind.bits .i64)))) (1:Int))==0) (Q5E F a c) ((Q9V F d a).bind fun b=>br (decide (b<0)) (Q5F F a c true) (gd (0<=b/\b<(d.length:Int))<|gd (0<=e.N_)<|Q5F F a c ((Q3A .i64 (((gl d b.toNat).excludes_).fdiv (2 ^ (min (e.N_).toNat (IntKind.bits .i64)))) (1:Int))==0)))) (Z3v F)
def Q9r (F:Nat) (a:List Scheme) (b:Scheme):Option Bool:=
 Z3 (fun g (z:Int)=>Q0T F a b g z) F (0:Int)
def Q2q (F:Nat) (a:Int) (b:(Int)->Option (Int×Int)) (c:Bool):Option (Int×Int):=
 br c (some (a,(6:Int))) (gd (I64 (a+1))<|b (a+1))
def Z4V (F:Nat):Option (Int×Int):=
 some ((-1:Int),(0:Int))
def Q1s (F:Nat) (b:List Scheme) (c:(Int)->Option (Int×Int)) (a:Int):Option (Int×Int):=
 br (decide (a<(b.length:Int))) (gd (0<=a/\a<(b.length:Int))<|(Q9r F b (gl b a.toNat)).bind fun d=>br (!d) (some (a,(17:Int))) (gd (I64 (a+1))<|c (a+1))) (Z4V F)
def Z0r (F:Nat) (a:List Scheme):Option (Int×Int):=
 Z3 (fun g (z:Int)=>Q1s F a g z) F (0:Int)
def Q1t (F:Nat) (b:List Scheme) (c:(Int)->Option (Int×Int)) (a:Int):Option (Int×Int):=
 br (decide (a<(b.length:Int))) (gd (0<=a/\a<(b.length:Int))<|(Q7F F (gl b a.toNat)).bind fun d=>br (d != (0:Int)) (some (a,d)) (br (decide ((0:Int)<a)) (gd (I64 (a-1))<|gd (0<=(a-1)/\(a-1)<(b.length:Int))<|br (decide (((gl b a.toNat).N_)<=((gl b (a-1).toNat).N_))) (Q2q F a c true) (gd (0<=a/\a<=(b.length:Int))<|(U5 F (b.take a.toNat) (fun y0=>Q5j F y0 (gl b a.toNat))).bind fun e=>Q2q F a c e)) (gd (0<=a/\a<=(b.length:Int))<|(U5 F (b.take a.toNat) (fun y0=>Q5j F y0 (gl b a.toNat))).bind fun i=>Q2q F a c i))) (Z0r F b)
def Z1e (F:Nat) (a:List Scheme):Option (Int×Int):=
 br (decide ((16:Int)<(a.length:Int))) (some ((0:Int),(1:Int))) (Z3 (fun g (z:Int)=>Q1t F a g z) F (0:Int))
def Q5v (F:Nat) (a:List Line) (b:List Re_) (c:List Scheme):Option Int:=
 br ((a.length:Int) != (b.length:Int)) (some (3:Int)) (br (decide ((20:Int)<(a.length:Int))) (some (1:Int)) ((Z1e F c).bind fun d=>some d.2))
def Q3y (F:Nat) (a:Int) (b:(Int×(List Rect)×(List Rect)×(List Rect))->Option (Arr3ListRect×Int)) (c d e:List Rect):Option (Arr3ListRect×Int):=
 gd (I64 (a+1))<|b ((a+1),c,d,e)
def Z3R (F:Nat) (a b c:List Rect):Option (Arr3ListRect×Int):=
 some ((⟨a,b,c⟩:Arr3ListRect),(0:Int))
def Q9l (F:Nat) (i:List Line) (l:List Re_) (j:Scheme) (m:World) (k:(Int×(List Rect)×(List Rect)×(List Rect))->Option (Arr3ListRect×Int)) (a:Int) (c d e:List Rect):Option (Arr3ListRect×Int):=
 br (decide (a<(i.length:Int))) (gd (0<=a/\a<(i.length:Int))<|gd (0<=a/\a<(l.length:Int))<|(Q1e F (gl i a.toNat) (gl l a.toNat) j m).bind fun b=>br (b.2 != (0:Int)) (some ((⟨[],[],[]⟩:Arr3ListRect),b.2)) (gd (0<=j.N_)<|br ((Q3A .i64 (((gl i a.toNat).s_).fdiv (2 ^ (min (j.N_).toNat (IntKind.bits .i64)))) (1:Int))==0) (Q3y F a k c d e) (gd ((List.length c)+(List.length b.1.true_.t_)<=LIM)<|gd (I64 ((0:Int)+(1:Int)))<|gd ((List.length d)+(List.length b.1.false_.t_)<=LIM)<|gd (I64 ((1:Int)+(1:Int)))<|gd ((List.length e)+(List.length b.1.unknown_.t_)<=LIM)<|gd (I64 ((2:Int)+(1:Int)))<|Q3y F a k (c++b.1.true_.t_) (d++b.1.false_.t_) (e++b.1.unknown_.t_)))) (Z3R F c d e)
def Q6C (F:Nat) (a:List Line) (b:List Re_) (c:Scheme) (d:World):Option (Arr3ListRect×Int):=
 Z3 (fun g (z:Int×(List Rect)×(List Rect)×(List Rect))=>Q9l F a b c d g z.1 z.2.1 z.2.2.1 z.2.2.2) F ((0:Int),([]:List Rect),([]:List Rect),([]:List Rect))
def Q5Z (F:Nat) (a b:Line):Option Bool:=
 (Q7H F b.g_ a.g_).bind fun c=>some c
def Q6n (F:Nat):Option Int:=
 some (-1:Int)
def Q6o (F:Nat) (b:List Line) (d:Line->Option Bool) (c:(Int)->Option Int) (a:Int):Option Int:=
 br (decide (a<(b.length:Int))) (gd (0<=a/\a<(b.length:Int))<|(d (gl b a.toNat)).bind fun e=>br e (some a) (gd (I64 (a+1))<|c (a+1))) (Q6n F)
def Q2g (F:Nat) (a:List Line) (b:Line->Option Bool):Option Int:=
 Z3 (fun g (z:Int)=>Q6o F a b g z) F (0:Int)
def Q0h (F:Nat) (a:List Line) (b:Line->Option Bool):Option Bool:=
 (Q2g F a b).bind fun c=>some (decide ((0:Int)<=c))
def Z2O (F:Nat):Option Int:=
 some (0:Int)
def Q8p (F:Nat) (b:List Line) (c:(Int)->Option Int) (a:Int):Option Int:=
 br (decide (a<(b.length:Int))) (gd (0<=a/\a<(b.length:Int))<|gd (0<=a/\a<=(b.length:Int))<|(Q0h F (b.take a.toNat) (fun y0=>Q5Z F y0 (gl b a.toNat))).bind fun d=>br d (some (11:Int)) (gd (I64 (a+1))<|c (a+1))) (Z2O F)
def Q5w (F:Nat) (a:List Line):Option Int:=
 Z3 (fun g (z:Int)=>Q8p F a g z) F (0:Int)
def Q2M (F:Nat) (a:Int) (b:List Int) (d:(Int×(List Int))->Option ((List Int)×Int)) (c:Int):Option ((List Int)×Int):=
 gd ((List.length b)+(List.length ([c]:List Int))<=LIM)<|gd (I64 (a+1))<|d ((a+1),(b++([c]:List Int)))
def Q8q (F:Nat) (c:List Line) (b:List Int):Option ((List Int)×Int):=
 (Q5w F c).bind fun a=>br (a != (0:Int)) (some ([],a)) (some (b,(0:Int)))
def Q8r (F:Nat) (i:List Line) (k:List Re_) (b:List Scheme) (l:World) (e:(Int×(List Int))->Option ((List Int)×Int)) (a:Int) (c:List Int):Option ((List Int)×Int):=
 br (decide (a<(b.length:Int))) (gd (0<=a/\a<(b.length:Int))<|(Q6C F i k (gl b a.toNat) l).bind fun d=>br (d.2 != (0:Int)) (some ([],d.2)) ((Q9W F d.1.e0_).bind fun j=>br (decide (j<((gl b a.toNat).least_))) (Q2M F a c e (0:Int)) (Q2M F a c e j))) (Q8q F i c)
def Q8s (F:Nat) (a:List Line) (b:List Re_) (c:List Scheme) (e:World):Option ((List Int)×Int):=
 (Q5v F a b c).bind fun d=>br (d != (0:Int)) (some ([],d)) (Z3 (fun g (z:Int×(List Int))=>Q8r F a b c e g z.1 z.2) F ((0:Int),([]:List Int)))
def Q9E (F:Nat) (c:List Line) (e:List Re_) (a:List Scheme) (l:Int) (m:World):Option (Truth×Int):=
 (Q5v F c e a).bind fun i=>br (i != (0:Int)) (some ((⟨(⟨[]⟩:Re_),(⟨[]⟩:Re_),(⟨[]⟩:Re_)⟩:Truth),i)) ((Q9V F a l).bind fun b=>br (decide (b<0)) (some ((⟨(⟨[]⟩:Re_),(⟨[]⟩:Re_),(⟨[]⟩:Re_)⟩:Truth),(17:Int))) (gd (0<=b/\b<(a.length:Int))<|(Q6C F c e (gl a b.toNat) m).bind fun d=>br (d.2 != (0:Int)) (some ((⟨(⟨[]⟩:Re_),(⟨[]⟩:Re_),(⟨[]⟩:Re_)⟩:Truth),d.2)) ((Q5w F c).bind fun j=>br (j != (0:Int)) (some ((⟨(⟨[]⟩:Re_),(⟨[]⟩:Re_),(⟨[]⟩:Re_)⟩:Truth),j)) ((z8 F d.1).bind fun k=>some (k.1,k.2)))))
def Q1D (F:Nat) (a b:Int) (i:Truth×Int) (d:(Int×Int)->Option Bool) (e:Bool):Option Bool:=
 br e (some false) ((Q7d F i.1.true_).bind fun c=>gd (I64 (a+c))<|gd (I64 (b+1))<|d ((a+c),(b+1)))
def Q3R (F:Nat) (a:Int) (b:(Int)->Option Bool):Option Bool:=
 gd (I64 (a+1))<|b (a+1)
def y8 (F:Nat) (b:Int) (a:(Int)->Option Bool) (c:Bool):Option Bool:=
 br c (some false) (Q3R F b a)
def Q0B (F:Nat) (c:(List Int)×Int) (a:Int) (d:Truth×Int) (e:Int) (b:(Int)->Option Bool) (i:Int):Option Bool:=
 br (d.2 != (0:Int)) (y8 F a b true) ((Q7d F d.1.true_).bind fun j=>br (j != e) (y8 F a b true) (gd (0<=a/\a<(c.1.length:Int))<|y8 F a b ((gl c.1 a.toNat) != i)))
def Q3S (F:Nat) (i:Tape×(List Scheme)) (d:(List Int)×Int) (b:Int) (e:Truth×Int) (c:(Int)->Option Bool) (a:Int):Option Bool:=
 br (decide (a<((gl i.2 b.toNat).least_))) (Q0B F d b e a c (0:Int)) (Q0B F d b e a c a)
def Q3T (F:Nat) (d:Tape×(List Line)×(List Int)×(List Re_)) (j:List Re_) (k:Tape×(List Scheme)) (n:Tape×World) (o:(List Int)×Int) (i:Int) (l:Truth×Int) (m:(Int)->Option Bool) (e:(Int×Int)->Option Bool) (c a:Int):Option Bool:=
 br (decide (a<(d.2.1.length:Int))) (gd (0<=a/\a<(d.2.1.length:Int))<|gd (0<=a/\a<(j.length:Int))<|(Q1e F (gl d.2.1 a.toNat) (gl j a.toNat) (gl k.2 i.toNat) n.2).bind fun b=>br (b.2 != (0:Int)) (Q1D F c a b e true) ((Z1m F b.1.true_ l.1.true_).bind fun p=>Q1D F c a b e (!p))) (Q3S F k o i l m c)
def Q3Q (F:Nat):Option Bool:=
 (Z2K F).bind fun a=>some a
def Q0C (F:Nat) (c:Tape×(List Line)×(List Int)×(List Re_)) (d:List Re_) (b:Tape×(List Scheme)) (e:Tape×World) (j:(List Int)×Int) (i:(Int)->Option Bool) (a:Int):Option Bool:=
 br (decide (a<(b.2.length:Int))) (gd (0<=a/\a<(b.2.length:Int))<|(Q9E F c.2.1 d b.2 ((gl b.2 a.toNat).N_) e.2).bind fun k=>Z3 (fun g (z:Int×Int)=>Q3T F c d b e j a k i g z.1 z.2) F ((0:Int),(0:Int))) (Q3Q F)
def Q1E (F:Nat) (b:Tape×(List Line)×(List Int)×(List Re_)) (c:List Re_) (d:Tape×(List Scheme)) (e:Tape×World) (i:(List Int)×Int) (a:Bool):Option Bool:=
 br a (some false) (Z3 (fun g (z:Int)=>Q0C F b c d e i g z) F (0:Int))
def Q3d (F:Nat) (j:List Int):Option Bool:=
 (Z6u F j).bind fun k=>(Q4h F k).bind fun d=>(Q4g F d.1 d.2 (3:Int)).bind fun a=>(Q8j F a.2.1 a.2.2.2).bind fun e=>(Q6w F a.1 (2:Int)).bind fun b=>(Q4f F b.1 d.2).bind fun i=>(Q8s F a.2.1 e b.2 i.2).bind fun c=>br (c.2 != (0:Int)) (Q1E F a e b i c true) (Q1E F a e b i c ((c.1.length:Int) != (b.2.length:Int)))
end
end Go.Ab
end
section
end
section
end
section
end
section
end
section
end
section
namespace Go.Ab
def BIG:Nat:=1099511627776
theorem Q7 {R:Type} {p:Prop} [Decidable p] {x:Option R} {y:Option R} (h:p) (k:x=y):gd p x=y:=by unfold gd;rw [if_pos h];exact k
theorem Q3 {α R:Type} {x:Option α} {f:α->Option R} {a:α} {y:Option R} (h:x=some a) (k:f a=y):x.bind f=y:=by rw [h];exact k
theorem Q9 {R:Type} {b:Bool} {x y z:Option R} (ht:b=true->x=z) (hf:b=false->y=z):br b x y=z:=by cases b;exact hf rfl;exact ht rfl
theorem Z5 {R:Type} {b:Bool} {x y z:Option R} (h:b=true) (k:x=z):br b x y=z:=by subst h;exact k
theorem Q8 {R:Type} {b:Bool} {x y z:Option R} (h:b=false) (k:y=z):br b x y=z:=by subst h;exact k
theorem W0E {R:Type} (b:Bool) (x y:Option R):br b x y=if b=true then x else y:=by cases b <;> rfl
theorem Y7 {σ R:Type} {body:(σ->Option R)->σ->Option R} {y:Option R} (I:σ->Prop) (μ:σ->Nat)
  (round:∀ g z,I z->(∀ z',I z' -> μ z' < μ z->g z'=y)->body g z=y):∀ {n:Nat} {z:σ},I z->μ z<n->Z3 body n z=y:=by
 intro n
 induction n with
 | zero=>intro z _ h;omega
 | succ n ih=>
  intro z hz hμ;exact round (Z3 body n) z hz fun z' hz' hlt=>ih hz' (by omega)
section
variable {α:Type} [Emb α]
theorem y7 {l:List α} {i:Nat} (h:i<l.length):gl l i=l[i]:=by simp [gl,List.getD_eq_getElem?_getD,h]
theorem W9 {l:List α} {i:Nat} (h:i<l.length):gl l i ∈ l:=by rw [y7 h];exact List.getElem_mem h
theorem Q1F {l:List α} {i:Nat} (h:i<l.length):l.drop i=gl l i::l.drop (i+1):=by rw [y7 h];exact List.drop_eq_getElem_cons h
theorem J8 {l:List α} {i:Nat} (h:i<l.length):l.take (i+1)=l.take i++[gl l i]:=by rw [y7 h];exact List.take_succ_eq_append_getElem h
end
theorem Z7 {n:Int} (h1 : -4611686018427387904<=n) (h2:n<=4611686018427387904):I64 n:=⟨by omega,by omega⟩
theorem Y5I {α R:Type} [Emb α] {l:List α} {body:(Int->Option R)->Int->Option R} (y:List α->Option R)
  (step:∀ g (i:Nat),i<l.length->g ((i:Int)+1)=y (l.drop (i+1))->body g (i:Int)=y (gl l i::l.drop (i+1)))
  (stop:∀ g,body g (l.length:Int)=y []) {F:Nat} (hF:l.length<F):Z3 body F 0=y l:=by
 have key:∀ (n:Nat) (i:Nat),i<=l.length->l.length-i<n->Z3 body n (i:Int)=y (l.drop i):=by
  intro n
  induction n with
  | zero=>intro i _ h;omega
  | succ n ih=>
   intro i hi hn;show body (Z3 body n) (i:Int)=_
   by_cases h:i<l.length
   ·rw [Q1F h]
    refine step _ i h ?_;have:=ih (i+1) h (by omega)
    rw [<-this];congr 1
   ·have:i=l.length:=by omega
    subst this;rw [List.drop_length];exact stop _
 have:=key F 0 (Nat.zero_le _) (by omega)
 rw [List.drop_zero] at this;exact this
theorem Z1W {α σ R:Type} [Emb α] {l:List α} {body:(Int×σ->Option R)->Int×σ->Option R} (I:List α->σ->Prop) (y:List α->σ->Option R)
  (step:∀ g (i:Nat) (s:σ),i<l.length->I (gl l i::l.drop (i+1)) s->(∀ s',I (l.drop (i+1)) s' -> g ((i:Int)+1,s')=y (l.drop (i+1)) s')->body g ((i:Int),s)=y (gl l i::l.drop (i+1)) s)
  (stop:∀ g (s:σ),I [] s->body g ((l.length:Int),s)=y [] s) {F:Nat} (hF:l.length<F) {s0:σ} (h0:I l s0):Z3 body F (0,s0)=y l s0:=by
 have key:∀ (n:Nat) (i:Nat) (s:σ),i<=l.length->l.length-i<n->I (l.drop i) s->Z3 body n ((i:Int),s)=y (l.drop i) s:=by
  intro n
  induction n with
  | zero=>intro i _ _ h;omega
  | succ n ih=>
   intro i s hi hn hI;show body (Z3 body n) ((i:Int),s)=_
   by_cases h:i<l.length
   ·rw [Q1F h] at hI ⊢
    refine step _ i s h hI fun s' hs'=>?_
    have:=ih (i+1) s' h (by omega) hs'
    rw [<-this];congr 1
   ·have:i=l.length:=by omega
    subst this;rw [List.drop_length] at hI ⊢;exact stop _ s hI
 have:=key F 0 s0 (Nat.zero_le _) (by omega) (by rwa [List.drop_zero])
 rw [List.drop_zero] at this;exact this
theorem Q3W {R:Type} (K:Bool->Option R) (b x:Bool):br b (K x) (K false)=K (b&&x):=by cases b <;> rfl
theorem Q7o {R:Type} (K:Bool->Option R) (b x:Bool):br b (K true) (K x)=K (b||x):=by cases b <;> rfl
theorem Y3o {α:Type} [Emb α] {l:List α} {i:Nat} (h:i<l.length) (p:α->Bool):(l.drop i).any p=(p (gl l i)||(l.drop (i+1)).any p):=by rw [Q1F h];rfl
theorem Z0B {a b:Nat} (h:a<b):decide ((a:Int)<((b:Nat):Int))=true:=by simpa using h
theorem Q2R (a:Nat):decide ((a:Int)<((a:Nat):Int))=false:=by simp
theorem Z4 {R:Type} {p:Prop} [Decidable p] {x:Option R} {y:Option R} (h:p:=by first|omega|exact Z7 (by omega) (by omega) | (simp only [LIM,BIG,List.length_append,List.length_cons,List.length_nil,List.length_map,List.length_take,List.length_drop,List.length_set] at *;omega)) (k:x=y):gd p x=y:=Q7 h k
end Go.Ab
end
section
namespace Go.Ab
def Asc (l:List Int):Prop:=l.Pairwise (· < ·)
theorem Asc.at_lt {l:List Int} (h:Asc l) {i j:Nat} (hij:i<j) (hj:j<l.length):gl l i<gl l j:=by
 rw [y7 (by omega),y7 hj];exact List.pairwise_iff_getElem.1 h i j (by omega) hj hij
theorem Y7c {l:List Int} {v:Int} (h:v ∈ l):∃ j,j<l.length/\gl l j=v:=by
 obtain ⟨j,hj,e⟩:=List.getElem_of_mem h;exact ⟨j,hj,by rw [y7 hj];exact e⟩
theorem Asc.gap {c:List Int} (h:Asc c) {i:Nat} (hi:i+1<c.length) {t v:Int} (h1:gl c i<=t) (h2:t<gl c (i+1)) (hv:v ∈ c):(v<=t↔v<=gl c i):=by
 obtain ⟨j,hj,rfl⟩:=Y7c hv;rcases Nat.lt_or_ge i j with hij|hij
 ·rcases Nat.lt_or_ge (i+1) j with h3|h3
  ·have:=h.at_lt h3 hj
   have:=h.at_lt (show i<i+1 by omega) hi
   omega
  ·have:j=i+1:=by omega
   subst this;have:=h.at_lt (show i<i+1 by omega) hi
   omega
 ·rcases Nat.lt_or_ge j i with h3|h3
  ·have:=h.at_lt h3 (by omega)
   omega
  ·have:j=i:=by omega
   subst this;omega
def Y6x (c:List Int) (l:List Rect):Prop:=∀ r ∈ l,r.L_ ∈ c/\r.R_ ∈ c
def Y5k (c:List Int) (l:List Rect):Prop:=∀ r ∈ l,r.w_ ∈ c/\r.H_ ∈ c
theorem Y4f {l:List Rect} {x y x' y' : Int} (h:∀ r ∈ l,r.has x y=r.has x' y'):inR l x y=inR l x' y':=by
 induction l with
 | nil=>rfl
 | cons r l ih=>
  simp only [inR,List.any_cons] at ih ⊢;rw [h r (by simp),ih fun q hq=>h q (by simp [hq])]
theorem Z7a {l:List Rect} {x y:Int} (h:∀ r ∈ l,r.has x y=false):inR l x y=false:=by
 induction l with
 | nil=>rfl
 | cons r l ih=>
  simp only [inR,List.any_cons] at ih ⊢;rw [h r (by simp),ih fun q hq=>h q (by simp [hq])];rfl
theorem J2 (r:Rect) (x y:Int):r.has x y=true↔r.L_<=x/\x<r.R_/\r.w_<=y/\y<r.H_:=by simp [Rect.has,and_assoc]
theorem W0f {r:Rect} {x y x' y' : Int} (h:(r.L_<=x/\x<r.R_/\r.w_<=y/\y<r.H_)↔(r.L_<=x' /\ x' < r.R_/\r.w_<=y' /\ y' < r.H_)):r.has x y=r.has x' y':=by
 rw [Bool.eq_iff_iff,J2,J2];exact h
theorem Y2N {r:Rect} {x y:Int} (h:¬ (r.L_<=x/\x<r.R_/\r.w_<=y/\y<r.H_)):r.has x y=false:=by
 rw [<-Bool.not_eq_true,J2];exact h
theorem Y6x.gap {c:List Int} {l:List Rect} (hc:Asc c) (h:Y6x c l) {i:Nat} (hi:i+1<c.length) {t:Int} (h1:gl c i<=t) (h2:t<gl c (i+1)) (y:Int):inR l t y=inR l (gl c i) y:=
 Y4f fun r hr=>W0f (by
  have a:=hc.gap hi h1 h2 (h r hr).1;have b:=hc.gap hi h1 h2 (h r hr).2
  omega)
theorem Y5k.gap {c:List Int} {l:List Rect} (hc:Asc c) (h:Y5k c l) {i:Nat} (hi:i+1<c.length) {t:Int} (h1:gl c i<=t) (h2:t<gl c (i+1)) (x:Int):inR l x t=inR l x (gl c i):=
 Y4f fun r hr=>W0f (by
  have a:=hc.gap hi h1 h2 (h r hr).1;have b:=hc.gap hi h1 h2 (h r hr).2
  omega)
theorem Y6x.before {c:List Int} {l:List Rect} (h:Y6x c l) {t:Int} (ht:∀ v ∈ c,t<v) (y:Int):inR l t y=false:=
 Z7a fun r hr=>Y2N (by have:=ht _ (h r hr).1;omega)
theorem Y6x.after {c:List Int} {l:List Rect} (h:Y6x c l) {t:Int} (ht:∀ v ∈ c,v<=t) (y:Int):inR l t y=false:=
 Z7a fun r hr=>Y2N (by have:=ht _ (h r hr).2;omega)
theorem Y5k.before {c:List Int} {l:List Rect} (h:Y5k c l) {t:Int} (ht:∀ v ∈ c,t<v) (x:Int):inR l x t=false:=
 Z7a fun r hr=>Y2N (by have:=ht _ (h r hr).1;omega)
theorem Y5k.after {c:List Int} {l:List Rect} (h:Y5k c l) {t:Int} (ht:∀ v ∈ c,v<=t) (x:Int):inR l x t=false:=
 Z7a fun r hr=>Y2N (by have:=ht _ (h r hr).2;omega)
theorem Asc.first {c:List Int} (h:Asc c) {t:Int} (ht:t<gl c 0):∀ v ∈ c,t<v:=by
 intro v hv;obtain ⟨j,hj,rfl⟩:=Y7c hv
 rcases Nat.eq_zero_or_pos j with rfl|hp
 ·exact ht
 ·have:=h.at_lt hp hj;omega
theorem Asc.last {c:List Int} (h:Asc c) {t:Int} {i:Nat} (hi:i+1=c.length) (ht:gl c i<=t):∀ v ∈ c,v<=t:=by
 intro v hv;obtain ⟨j,hj,rfl⟩:=Y7c hv
 rcases Nat.lt_or_ge j i with h1|h1
 ·have:=h.at_lt h1 (by omega);omega
 ·have:j=i:=by omega
  subst this;exact ht
structure Step {α:Type} (d:α) (c:List Int) (f:Int->α):Prop where
 asc:Asc c
 gap:∀ i,i+1<c.length->∀ t,gl c i<=t->t<gl c (i+1)->f t=f (gl c i)
 before:∀ t,(∀ v ∈ c,t<v)->f t=d
 after:∀ t,(∀ v ∈ c,v<=t)->f t=d
theorem Step.start {α:Type} {d:α} {c:List Int} {f:Int->α} (h:Step d c f) (_:0<c.length):Bst d f [] (gl c 0):=.start fun t ht=>h.before t (h.asc.first ht)
theorem Step.empty {α:Type} {d:α} {c:List Int} {f:Int->α} (h:Step d c f) (hc:c.length=0) (t:Int):f t=d:=h.before t fun v hv=>by
 rw [List.eq_nil_of_length_eq_zero hc] at hv;cases hv
theorem Step.done {α:Type} {d:α} {c:List Int} {f:Int->α} (h:Step d c f) {i:Nat} (hi:i+1=c.length) {acc:List (Rn α)} (hb:Bst d f acc (gl c i)) (t:Int):atR d acc t=f t:=by
 rcases Int.lt_or_le t (gl c i) with h1|h1
 ·exact hb.val t h1
 ·rw [hb.out t h1,h.after t (h.asc.last hi h1)]
open Classical in
noncomputable def spn (f:Int->Bool):List Span:=if h:∃ l,SpOk l/\∀ x,inS l x=f x then h.choose else []
theorem Y0d {f:Int->Bool} {l:List Span} (hl:SpOk l) (h:∀ x,inS l x=f x):spn f=l:=by
 have he:∃ l,SpOk l/\∀ x,inS l x=f x:=⟨l,hl,h⟩;unfold spn
 rw [dif_pos he];exact he.choose_spec.1.unique hl fun x=>(he.choose_spec.2 x).trans (h x).symm
theorem SpOk.nil:SpOk []:=⟨fun s hs=>(List.not_mem_nil hs).elim,List.Pairwise.nil⟩
theorem Y0c {f:Int->Bool} (h:∀ x,f x=false):spn f=[]:=Y0d .nil fun x=>(h x).symm
def Y3s (S:Int->Int->Bool):Prop:=∀ y,∃ l,SpOk l/\∀ x,inS l x=S x y
theorem Y3s.sp {S:Int->Int->Bool} (h:Y3s S) (y:Int):SpOk (spn fun x=>S x y)/\∀ x,inS (spn fun x=>S x y) x=S x y:=by
 obtain ⟨l,h1,h2⟩:=h y;rw [Y0d h1 h2];exact ⟨h1,h2⟩
theorem Step.cn {S:Int->Int->Bool} (hr:Y3s S) {c:List Int} (h:Step [] c fun y=>spn fun x=>S x y) {acc:List (Rn (List Span))} (hacc:Runs acc) (hval:∀ t,atR [] acc t=spn fun x=>S x t) (hne:∀ b ∈ acc,b.v≠[]):cn S=flat acc/\Fin S:=by
 have hv:∀ b ∈ acc,b.v=spn fun x=>S x b.lo:=by
  intro b hb;have hat:∀ (l:List (Rn (List Span))),Runs l->b ∈ l->atR [] l b.lo=b.v:=by
   intro l
   induction l with
   | nil=>intro _ hb;cases hb
   | cons a l ih=>
    intro hl hb;rcases List.mem_cons.1 hb with rfl|hb
    ·have:=hl.pos b (by simp)
     rw [atR,if_pos ⟨by omega,this⟩]
    ·have h1:=(hl.head b hb).1
     rw [atR,if_neg (by omega)];exact ih hl.tail hb
  rw [<-hval,hat acc hacc hb]
 have hB:Bands acc:=⟨hacc,fun b hb=>by rw [hv b hb];exact (hr.sp _).1,hne⟩;have hS:∀ x y,inS (atR [] acc y) x=S x y:=fun x y=>by rw [hval];exact (hr.sp y).2 x
 exact ⟨Y6l hB hS,acc,hB,hS⟩
structure Grid (xs ys:List Int) (S:Int->Int->Bool):Prop where
 x:∀ y,Step false xs fun x=>S x y
 y:∀ x,Step false ys fun y=>S x y
theorem Step.spansL {xs:List Int} {f:Int->Bool} (h:Step false xs f):∃ l,SpOk l/\(∀ x,inS l x=f x)/\l.length<=xs.length:=by
 by_cases h0:xs.length=0
 ·exact ⟨[],.nil,fun x=>(h.empty h0 x).symm,by simp⟩
 ·have key:∀ i,i+1<=xs.length->∃ l:List Span,Bst false f (l.map Span.rn) (gl xs i)/\l.length<=i:=by
   intro i
   induction i with
   | zero=>intro hi;exact ⟨[],h.start (by omega),by simp⟩
   | succ i ih=>
    intro hi;obtain ⟨l,hl,hll⟩:=ih (by omega)
    have hlt:=h.asc.at_lt (show i<i+1 by omega) (by omega)
    cases hf:f (gl xs i) with
    | false=>exact ⟨l,hl.skip (by omega) fun t h1 h2=>(h.gap i (by omega) t h1 h2).trans hf,by omega⟩
    | true=>
     rcases List.eq_nil_or_concat l with rfl|⟨l',s,hls⟩
     ·refine ⟨[⟨gl xs i,gl xs (i+1)⟩],?_,by simp⟩
      have:=hl.add hlt (h.gap i (by omega)) (fun a ha=>by simp at ha)
      rw [hf] at this;exact this
     ·rw [List.concat_eq_append] at hls
      subst hls
      by_cases hs:s.R_=gl xs i
      ·refine ⟨l' ++ [⟨s.L_,gl xs (i+1)⟩],?_,by simp at hll ⊢;omega⟩
       rw [List.map_append] at hl;have:=hl.grow (a:=s.rn) hs hlt fun t h1 h2=>(h.gap i (by omega) t h1 h2).trans hf
       rw [List.map_append];exact this
      ·refine ⟨(l' ++ [s])++[⟨gl xs i,gl xs (i+1)⟩],?_,by simp at hll ⊢;omega⟩
       have:=hl.add hlt (h.gap i (by omega)) (fun a ha he=>by
        rw [List.map_append] at ha;simp at ha
        subst ha;exact absurd he hs)
       rw [hf] at this;rw [List.map_append];exact this
  obtain ⟨l,hl,hll⟩:=key (xs.length-1) (by omega);refine ⟨l,.of_runs hl.runs,fun x=>?_,by omega⟩
  rw [Z9y];exact h.done (by omega) hl x
theorem Step.spans {xs:List Int} {f:Int->Bool} (h:Step false xs f):∃ l,SpOk l/\∀ x,inS l x=f x:=by
 obtain ⟨l,h1,h2,_⟩:=h.spansL;exact ⟨l,h1,h2⟩
theorem Step.spn_len {xs:List Int} {f:Int->Bool} (h:Step false xs f):(spn f).length<=xs.length:=by
 obtain ⟨l,h1,h2,h3⟩:=h.spansL;rw [Y0d h1 h2];exact h3
theorem Grid.rows {xs ys:List Int} {S:Int->Int->Bool} (h:Grid xs ys S):Y3s S:=fun y=>(h.x y).spans
theorem Grid.step {xs ys:List Int} {S:Int->Int->Bool} (h:Grid xs ys S):Step [] ys fun y=>spn fun x=>S x y:=by
 refine ⟨(h.y 0).asc,fun i hi t h1 h2=>?_,fun t ht=>?_,fun t ht=>?_⟩
 ·congr 1;funext x;exact (h.y x).gap i hi t h1 h2
 ·exact Y0c fun x=>(h.y x).before t ht
 ·exact Y0c fun x=>(h.y x).after t ht
theorem Grid.of {xs ys:List Int} {a b:List Rect} (hx:Asc xs) (hy:Asc ys) (ax:Y6x xs a) (bx:Y6x xs b) (ay:Y5k ys a) (by' : Y5k ys b) {k:Bool->Bool->Bool} (hk:k false false=false) :
  Grid xs ys fun x y=>k (inR a x y) (inR b x y):=by
 refine ⟨fun y=>⟨hx,fun i hi t h1 h2=>?_,fun t ht=>?_,fun t ht=>?_⟩,fun x=>⟨hy,fun i hi t h1 h2=>?_,fun t ht=>?_,fun t ht=>?_⟩⟩
 ·simp only [ax.gap hx hi h1 h2,bx.gap hx hi h1 h2]
 ·simp only [ax.before ht,bx.before ht,hk]
 ·simp only [ax.after ht,bx.after ht,hk]
 ·simp only [ay.gap hy hi h1 h2,by'.gap hy hi h1 h2]
 ·simp only [ay.before ht,by'.before ht,hk]
 ·simp only [ay.after ht,by'.after ht,hk]
end Go.Ab
end
