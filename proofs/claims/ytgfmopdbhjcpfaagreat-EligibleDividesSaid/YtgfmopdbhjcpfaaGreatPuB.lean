/- The code that the statement reaches as plain programs, and what they compute. -/
import Derived.Test.YtgfmopdbhjcpfaaGreatAbC
import Derived.Test.YtgfmopdbhjcpfaaGreatPuA
set_option linter.unusedVariables false
set_option linter.unusedSimpArgs false
section
namespace Go.Ab
set_option maxRecDepth 100000
noncomputable section
structure Term where
 op_:Int
 num_:Int
 more_:Int
 kids_:(List Term)
def Term.d0(x:Term):DVal:=if x.op_=(2 ^ 64) then .any else .int .i64 x.op_
def Term.d1(x:Term):DVal:=if x.op_=(2 ^ 64) then .any else .int .i64 x.num_
def Term.d2(x:Term):DVal:=if x.op_=(2 ^ 64) then .any else .int .i64 x.more_
def Term.d3:Term->DVal
 | ⟨a0,a1,a2,a3⟩=>if a0=(2 ^ 64) then .any else .lst a3.length (fun i=>if h:i<a3.length then [Term.d0 a3[i],Term.d1 a3[i],Term.d2 a3[i],Term.d3 a3[i]] else [.any,.any,.any,.any])
decreasing_by
 have:=List.sizeOf_lt_of_mem (List.getElem_mem h)
 simp only [Term.mk.sizeOf_spec];omega
instance:Emb Term:=⟨fun x=>[x.d0,x.d1,x.d2,x.d3],4,⟨(2 ^ 64),0,0,[]⟩,fun _=>rfl⟩
theorem Term.cells_eq{x:Term}(h:I64 x.op_):Emb.cells x=[.int .i64 x.op_,.int .i64 x.num_,.int .i64 x.more_,DL x.kids_]:=by
 obtain ⟨a0,a1,a2,a3⟩:=x;show [Term.d0 _,Term.d1 _,Term.d2 _,Term.d3 _]=_
 have h:I64 a0:=h;have hm:¬ a0=(2 ^ 64):=fun e=>by subst e;revert h;decide
 have hl:∀ l:List Term,(.lst l.length (fun i=>if h:i<l.length then [Term.d0 l[i],Term.d1 l[i],Term.d2 l[i],Term.d3 l[i]] else [.any,.any,.any,.any]):DVal)=DL l:=by
  intro l;unfold DL
  congr 1
  funext i
  unfold LF
  by_cases hi:i<l.length
  .rw [dif_pos hi,List.getD_eq_getElem?_getD,List.getElem?_eq_getElem hi];rfl
  .rw [dif_neg hi,List.getD_eq_getElem?_getD,List.getElem?_eq_none (by omega)];show _=[Term.d0 ⟨(2 ^ 64),0,0,[]⟩,Term.d1 ⟨(2 ^ 64),0,0,[]⟩,Term.d2 ⟨(2 ^ 64),0,0,[]⟩,Term.d3 ⟨(2 ^ 64),0,0,[]⟩];unfold Term.d3;rfl
 have hk:Term.d3 ⟨a0,a1,a2,a3⟩=DL a3:=by
  unfold Term.d3;rw [if_neg hm,hl]
 rw [hk];simp only [Term.d0,Term.d1,Term.d2,if_neg hm]
theorem Term.elm{l:List Term}{i:Nat}(h:I64 (gl l i).op_):AVal.v (.c (.elm (LF l i)))=.v (.c (.elm [.int .i64 (gl l i).op_,.int .i64 (gl l i).num_,.int .i64 (gl l i).more_,DL (gl l i).kids_])):=by
 have:=Term.cells_eq h
 unfold LF;unfold gl at this ⊢
 rw [this]
structure Bracket where
 up_:Int
 rate_:Int
 deriving DecidableEq
instance:Emb Bracket:=⟨fun x=>[.int .i64 x.up_,.int .i64 x.rate_],2,⟨0,0⟩,fun _=>rfl⟩
structure Scheme where
 N_:Int
 n_:ByteArray
 cond_:Term
 brackets_:(List Bracket)
 least_:Int
 excludes_:Int
 needs_:Bool
instance:Emb Scheme:=⟨fun x=>[.int .i64 x.N_,.str x.n_,.int .i64 x.cond_.op_,.int .i64 x.cond_.num_,.int .i64 x.cond_.more_,DL x.cond_.kids_,DL x.brackets_,.int .i64 x.least_,.int .i64 x.excludes_,.bool x.needs_],10,⟨0,ByteArray.empty,(Emb.d:Term),[],0,0,false⟩,fun _=>rfl⟩
instance:Emb Rect:=⟨fun x=>[.int .i64 x.L_,.int .i64 x.w_,.int .i64 x.R_,.int .i64 x.H_],4,⟨0,0,0,0⟩,fun _=>rfl⟩
structure Re_ where
 t_:(List Rect)
 deriving DecidableEq
instance:Emb Re_:=⟨fun x=>[DL x.t_],1,⟨[]⟩,fun _=>rfl⟩
structure Crop where
 n_:ByteArray
 f_:Int
 m_:Int
 deriving DecidableEq
instance:Emb Crop:=⟨fun x=>[.str x.n_,.int .i64 x.f_,.int .i64 x.m_],3,⟨ByteArray.empty,0,0⟩,fun _=>rfl⟩
structure Line where
 p_:Int
 g_:Re_
 c_:Int
 s_:Int
 deriving DecidableEq
instance:Emb Line:=⟨fun x=>[.int .i64 x.p_,DL x.g_.t_,.int .i64 x.c_,.int .i64 x.s_],4,⟨0,⟨[]⟩,0,0⟩,fun _=>rfl⟩
structure Rg_ where
 y_:Int
 c_:Int
 g_:Re_
 deriving DecidableEq
instance:Emb Rg_:=⟨fun x=>[.int .i64 x.y_,.int .i64 x.c_,DL x.g_.t_],3,⟨0,0,⟨[]⟩⟩,fun _=>rfl⟩
structure A2_ where
 N_:Int
 k_:Int
 F_:Int
 u_:Int
 g_:Re_
 deriving DecidableEq
instance:Emb A2_:=⟨fun x=>[.int .i64 x.N_,.int .i64 x.k_,.int .i64 x.F_,.int .i64 x.u_,DL x.g_.t_],5,⟨0,0,0,0,⟨[]⟩⟩,fun _=>rfl⟩
structure World where
 y_:Int
 crops_:(List Crop)
 history_:(List Rg_)
 zones_:(List A2_)
 day_:Int
 most_:Int
 deriving DecidableEq
instance:Emb World:=⟨fun x=>[.int .i64 x.y_,DL x.crops_,DL x.history_,DL x.zones_,.int .i64 x.day_,.int .i64 x.most_],6,⟨0,[],[],[],0,0⟩,fun _=>rfl⟩
structure Truth where
 true_:Re_
 false_:Re_
 unknown_:Re_
 deriving DecidableEq
instance:Emb Truth:=⟨fun x=>[DL x.true_.t_,DL x.false_.t_,DL x.unknown_.t_],3,⟨⟨[]⟩,⟨[]⟩,⟨[]⟩⟩,fun _=>rfl⟩
structure Tape where
 l_:(List Int)
 at_:Int
 deriving DecidableEq
instance:Emb Tape:=⟨fun x=>[DL x.l_,.int .i64 x.at_],2,⟨[],0⟩,fun _=>rfl⟩
structure Arr3ListRect where
 e0_:(List Rect)
 e1_:(List Rect)
 e2_:(List Rect)
 deriving DecidableEq
instance:Emb Arr3ListRect:=⟨fun x=>[DL x.e0_,DL x.e1_,DL x.e2_],3,⟨[],[],[]⟩,fun _=>rfl⟩
structure TermWorld where
 y_:Int
 crops_:(List Crop)
 history_:(List Rg_)
 zones_:(List A2_)
 day_:Int
 deriving DecidableEq
instance:Emb TermWorld:=⟨fun x=>[.int .i64 x.y_,DL x.crops_,DL x.history_,DL x.zones_,.int .i64 x.day_],5,⟨0,[],[],[],0⟩,fun _=>rfl⟩
structure TermPlace where
 world_:TermWorld
 line_:Line
 t_:(List Rect)
 deriving DecidableEq
instance:Emb TermPlace:=⟨fun x=>[.int .i64 x.world_.y_,DL x.world_.crops_,DL x.world_.history_,DL x.world_.zones_,.int .i64 x.world_.day_,.int .i64 x.line_.p_,DL x.line_.g_.t_,.int .i64 x.line_.c_,.int .i64 x.line_.s_,DL x.t_],10,⟨⟨0,[],[],[],0⟩,⟨0,⟨[]⟩,0,0⟩,[]⟩,fun _=>rfl⟩
structure Squares where
 yes_:(List Rect)
 no_:(List Rect)
 open_:(List Rect)
 deriving DecidableEq
instance:Emb Squares:=⟨fun x=>[DL x.yes_,DL x.no_,DL x.open_],3,⟨[],[],[]⟩,fun _=>rfl⟩
instance:Emb Span:=⟨fun x=>[.int .i64 x.L_,.int .i64 x.R_],2,⟨0,0⟩,fun _=>rfl⟩
structure Band where
 w_:Int
 H_:Int
 spans_:(List Span)
 deriving DecidableEq
instance:Emb Band:=⟨fun x=>[.int .i64 x.w_,.int .i64 x.H_,DL x.spans_],3,⟨0,0,[]⟩,fun _=>rfl⟩
def Z1y(q:Rect->Option Bool):List AVal->AVal->Prop:=fun args r=>∃ x0 y,q x0=some y/\args=[gE x0]/\r=vb y
def Z4c(q:Span->Span->Option Int):List AVal->AVal->Prop:=fun args r=>∃ x0 x1 y,q x0 x1=some y/\args=[gE x0,gE x1]/\r=vi y
def Z0L(q:Int->Option (List Span)):List AVal->AVal->Prop:=fun args r=>∃ x0 y,q x0=some y/\args=[vi x0]/\r=AL y
def Z1w(q:Term->Option Bool):List AVal->AVal->Prop:=fun args r=>∃ x0 y,q x0=some y/\args=[.v (.g [ci x0.op_,ci x0.num_,ci x0.more_,.d (DL x0.kids_)])]/\r=vb y
def Q8y(q:Rg_->Option Bool):List AVal->AVal->Prop:=fun args r=>∃ x0 y,q x0=some y/\args=[gE x0]/\r=vb y
def Q2F(q:A2_->Option Bool):List AVal->AVal->Prop:=fun args r=>∃ x0 y,q x0=some y/\args=[gE x0]/\r=vb y
def Q5M(q:Int->Option Bool):List AVal->AVal->Prop:=fun args r=>∃ x0 y,q x0=some y/\args=[vi x0]/\r=vb y
def Z1x(q:Span->Option Bool):List AVal->AVal->Prop:=fun args r=>∃ x0 y,q x0=some y/\args=[gE x0]/\r=vb y
def Q0a(q:Bool->Bool->Option Bool):List AVal->AVal->Prop:=fun args r=>∃ x0 x1 y,q x0 x1=some y/\args=[vb x0,vb x1]/\r=vb y
def Z6y(F:Nat)(x1:List Int):Option Tape:=
 gd (0<=(Q2b (x1.length:Int) (400:Int))/\(Q2b (x1.length:Int) (400:Int))<=(x1.length:Int))<|some (⟨(x1.take (Q2b (x1.length:Int) (400:Int)).toNat),0⟩:Tape)
def Z6z(F:Nat)(v9:Int):Option Int:=
 some v9
def Z2s(F:Nat)(x3 x4:Int):Option Int:=
 br (decide (x4<(1:Int))) (some (0:Int)) (gd (x4≠0)<|br (decide ((x3.tmod x4)<0)) (gd (I64 ((x3.tmod x4)+x4))<|Z6z F ((x3.tmod x4)+x4)) (Z6z F (x3.tmod x4)))
def Z9(F:Nat)(a:Tape)(b:Int):Option (Tape×Int):=
 br (decide ((a.l_.length:Int)<=a.at_)) (some (a,(0:Int))) (gd (I64 (a.at_+1))<|gd (I64 ((a.at_+1)-1))<|gd (0<=((a.at_+1)-1)/\((a.at_+1)-1)<(a.l_.length:Int))<|(Z2s F (gl a.l_ ((a.at_+1)-1).toNat) b).bind fun c=>some ((⟨a.l_,(a.at_+1)⟩:Tape),c))
def U3(F:Nat)(d:Tape)(a b:Int):Option (Tape×Int):=
 gd (I64 (b-a))<|gd (I64 ((b-a)+1))<|(Z9 F d ((b-a)+1)).bind fun c=>gd (I64 (a+c.2))<|some (c.1,(a+c.2))
def Z2r(F:Nat)(a:List Crop)(b:List Int)(c:Int):Option (Tape×(List Crop)):=
 some ((⟨b,c⟩:Tape),a)
def Q1i(F:Nat)(c:Tape×Int)(k:(Int×(List Int)×Int×(List Crop))->Option (Tape×(List Crop)))(a:Int)(i:List Int)(j:Int)(d:List Crop):Option (Tape×(List Crop)):=
 br (decide (a<((List.length (([(ByteArray.mk #[98,97,114,108,101,121]),(ByteArray.mk #[99,108,111,118,101,114]),(ByteArray.mk #[103,114,97,115,115]),(ByteArray.mk #[109,97,105,122,101]),(ByteArray.mk #[111,97,116,115]),(ByteArray.mk #[114,121,101]),(ByteArray.mk #[118,101,116,99,104]),(ByteArray.mk #[119,104,101,97,116])]:List ByteArray).take c.2.toNat):Nat):Int))) (gd (0<=a/\a<((List.length (([(ByteArray.mk #[98,97,114,108,101,121]),(ByteArray.mk #[99,108,111,118,101,114]),(ByteArray.mk #[103,114,97,115,115]),(ByteArray.mk #[109,97,105,122,101]),(ByteArray.mk #[111,97,116,115]),(ByteArray.mk #[114,121,101]),(ByteArray.mk #[118,101,116,99,104]),(ByteArray.mk #[119,104,101,97,116])]:List ByteArray).take c.2.toNat):Nat):Int))<|(Z9 F (⟨i,j⟩:Tape) (3:Int)).bind fun e=>(Z9 F e.1 (8:Int)).bind fun b=>gd (0<=b.2/\b.2<((List.length ([(0:Int),(0:Int),(0:Int),(2:Int),(20:Int),(8:Int),(1:Int),(31:Int)]:List Int):Nat):Int))<|gd (d.length+(List.length ([(⟨(gl (([(ByteArray.mk #[98,97,114,108,101,121]),(ByteArray.mk #[99,108,111,118,101,114]),(ByteArray.mk #[103,114,97,115,115]),(ByteArray.mk #[109,97,105,122,101]),(ByteArray.mk #[111,97,116,115]),(ByteArray.mk #[114,121,101]),(ByteArray.mk #[118,101,116,99,104]),(ByteArray.mk #[119,104,101,97,116])]:List ByteArray).take c.2.toNat) a.toNat),e.2,(gl ([(0:Int),(0:Int),(0:Int),(2:Int),(20:Int),(8:Int),(1:Int),(31:Int)]:List Int) b.2.toNat)⟩:Crop)]:List Crop))<=LIM)<|gd (I64 (a+1))<|k ((a+1),b.1.l_,b.1.at_,(d++([(⟨(gl (([(ByteArray.mk #[98,97,114,108,101,121]),(ByteArray.mk #[99,108,111,118,101,114]),(ByteArray.mk #[103,114,97,115,115]),(ByteArray.mk #[109,97,105,122,101]),(ByteArray.mk #[111,97,116,115]),(ByteArray.mk #[114,121,101]),(ByteArray.mk #[118,101,116,99,104]),(ByteArray.mk #[119,104,101,97,116])]:List ByteArray).take c.2.toNat) a.toNat),e.2,(gl ([(0:Int),(0:Int),(0:Int),(2:Int),(20:Int),(8:Int),(1:Int),(31:Int)]:List Int) b.2.toNat)⟩:Crop)]:List Crop)))) (Z2r F d i j)
def Q4s(F:Nat)(b:Tape):Option (Tape×(List Crop)):=
 (U3 F b (3:Int) (8:Int)).bind fun a=>gd (0<=a.2/\a.2<=((List.length ([(ByteArray.mk #[98,97,114,108,101,121]),(ByteArray.mk #[99,108,111,118,101,114]),(ByteArray.mk #[103,114,97,115,115]),(ByteArray.mk #[109,97,105,122,101]),(ByteArray.mk #[111,97,116,115]),(ByteArray.mk #[114,121,101]),(ByteArray.mk #[118,101,116,99,104]),(ByteArray.mk #[119,104,101,97,116])]:List ByteArray):Nat):Int))<|Z2 (fun g (z:Int×(List Int)×Int×(List Crop))=>Q1i F a g z.1 z.2.1 z.2.2.1 z.2.2.2) F ((0:Int),a.1.l_,a.1.at_,([]:List Crop))
def Q2n(F:Nat)(i:Tape)(c:Int):Option (Tape×Rect):=
 (Z9 F i c).bind fun a=>(Z9 F a.1 c).bind fun b=>gd (I64 (a.2+(1:Int)))<|gd (I64 (c-a.2))<|(Z9 F b.1 (c-a.2)).bind fun d=>gd (I64 ((a.2+(1:Int))+d.2))<|gd (I64 (b.2+(1:Int)))<|gd (I64 (c-b.2))<|(Z9 F d.1 (c-b.2)).bind fun e=>gd (I64 ((b.2+(1:Int))+e.2))<|some (e.1,(⟨a.2,b.2,((a.2+(1:Int))+d.2),((b.2+(1:Int))+e.2)⟩:Rect))
def K2(F:Nat)(a:Bool):Option Bool:=
 some a
def Q5T(F:Nat)(a:Rect):Option Bool:=
 br (decide ((0:Int)<=a.L_)) (br (decide (a.L_<a.R_)) (br (decide (a.R_<=16384)) (br (decide ((0:Int)<=a.w_)) (br (decide (a.w_<a.H_)) (K2 F (decide (a.H_<=16384))) (K2 F false)) (K2 F false)) (K2 F false)) (K2 F false)) (K2 F false)
def Q8k(F:Nat)(b:List Int)(c a:Int)(d:Bool):Option (List Int):=
 br d (some b) (gd (0<=a/\a<=(b.length:Int))<|gd ((0)+(List.length (b.take a.toNat))<=LIM)<|gd (((0)+(List.length (b.take a.toNat)))+(List.length ([c]:List Int))<=LIM)<|gd (0<=a/\a<=(b.length:Int))<|gd ((((0)+(List.length (b.take a.toNat)))+(List.length ([c]:List Int)))+(List.length (b.drop a.toNat))<=LIM)<|some (((([]:List Int)++(b.take a.toNat))++([c]:List Int))++(b.drop a.toNat)))
def Z1s(F:Nat)(b:List Int)(c a:Int):Option (List Int):=
 br (decide (a<(b.length:Int))) (gd (0<=a/\a<(b.length:Int))<|Q8k F b c a ((gl b a.toNat)==c)) (Q8k F b c a false)
def Q8l(F:Nat)(d:List Int)(e a:Int)(b:(Int)->Option (List Int))(c:Bool):Option (List Int):=
 br c (gd (I64 (a+1))<|b (a+1)) (Z1s F d e a)
def Z9u(F:Nat)(b:List Int)(c:Int)(d:(Int)->Option (List Int))(a:Int):Option (List Int):=
 br (decide (a<(b.length:Int))) (gd (0<=a/\a<(b.length:Int))<|Q8l F b c a d (decide ((gl b a.toNat)<c))) (Q8l F b c a d false)
def Q9a(F:Nat)(a:List Int)(b:Int):Option (List Int):=
 Z2 (fun g (z:Int)=>Z9u F a b g z) F (0:Int)
def Q0A(F:Nat)(a:Int)(b:(Int)->Option Bool)(c:Bool):Option Bool:=
 br c (some true) (gd (I64 (a+1))<|b (a+1))
def Z5f(F:Nat):Option Bool:=
 some false
def Z0C(F:Nat)(b:List Rect)(d e:Int)(c:(Int)->Option Bool)(a:Int):Option Bool:=
 br (decide (a<(b.length:Int))) (gd (0<=a/\a<(b.length:Int))<|br (decide (((gl b a.toNat).L_)<=d)) (br (decide (d<((gl b a.toNat).R_))) (br (decide (((gl b a.toNat).w_)<=e)) (Q0A F a c (decide (e<((gl b a.toNat).H_)))) (Q0A F a c false)) (Q0A F a c false)) (Q0A F a c false)) (Z5f F)
def Q8e(F:Nat)(a:List Rect)(b c:Int):Option Bool:=
 Z2 (fun g (z:Int)=>Z0C F a b c g z) F (0:Int)
def Z3l(F:Nat)(a:Bool):Option Bool:=
 some a
def Z3k(F:Nat)(a:Bool):Option Bool:=
 some a
def Z3j(F:Nat)(a:Bool):Option Bool:=
 some a
def Z4v(F:Nat)(a b:Bool)(c:Int):Option Bool:=
 br (c==1) (br a (Z3l F true) (Z3l F b)) (br (c==2) (br a (Z3k F b) (Z3k F false)) (br a (Z3j F (!b)) (Z3j F false)))
def Q6A(F:Nat)(a:Int)(b:(Int)->Option Bool)(c:Bool):Option Bool:=
 br c (some false) (gd (I64 (a+1))<|b (a+1))
def Z7W(F:Nat):Option Bool:=
 some true
def Z7X(F:Nat)(b c:List Rect)(d:(Int)->Option Bool)(a:Int):Option Bool:=
 br (decide (a<(b.length:Int))) (gd (0<=a/\a<(b.length:Int))<|gd (0<=a/\a<(c.length:Int))<|br (((gl b a.toNat).L_) != ((gl c a.toNat).L_)) (Q6A F a d true) (gd (0<=a/\a<(b.length:Int))<|gd (0<=a/\a<(c.length:Int))<|Q6A F a d (((gl b a.toNat).R_) != ((gl c a.toNat).R_)))) (Z7W F)
def Z4u(F:Nat)(a b:List Rect):Option Bool:=
 br ((a.length:Int) != (b.length:Int)) (some false) (Z2 (fun g (z:Int)=>Z7X F a b g z) F (0:Int))
def Q8X(F:Nat)(a:Int)(b:((List Int)×(List Int)×Int)->Option (List Rect))(c d:List Int):Option (List Rect):=
 gd (I64 (a+1))<|b (c,d,(a+1))
def Q8Z(F:Nat)(c d:List Rect)(b:Int)(j k:((List Int)×(List Int)×Int)->Option (List Rect))(e i:List Int)(a:Int):Option (List Rect):=
 br (decide (a<((List.length (gl ([c,d]:List (List Rect)) b.toNat):Nat):Int))) (gd (0<=a/\a<((List.length (gl ([c,d]:List (List Rect)) b.toNat):Nat):Int))<|(Q9a F e ((gl (gl ([c,d]:List (List Rect)) b.toNat) a.toNat).L_)).bind fun l=>(Q9a F l ((gl (gl ([c,d]:List (List Rect)) b.toNat) a.toNat).R_)).bind fun m=>(Q9a F i ((gl (gl ([c,d]:List (List Rect)) b.toNat) a.toNat).w_)).bind fun n=>(Q9a F n ((gl (gl ([c,d]:List (List Rect)) b.toNat) a.toNat).H_)).bind fun o=>gd (I64 (a+1))<|k (m,o,(a+1))) (Q8X F b j e i)
def Q3D(F:Nat)(a:Int)(b:(Int×(List Rect))->Option (List Rect))(c:List Rect):Option (List Rect):=
 gd (I64 (a+1))<|b ((a+1),c)
def Q0H(F:Nat)(d e:List Int)(c a:Int)(b:List Rect)(i:(Int×(List Rect))->Option (List Rect))(j:Bool):Option (List Rect):=
 br j (gd (I64 ((b.length:Int)-1))<|gd (I64 (a+1))<|gd (0<=(a+1)/\(a+1)<(d.length:Int))<|gd (0<=((b.length:Int)-1)/\((b.length:Int)-1)<(b.length:Int))<|Q3D F a i (List.set b ((b.length:Int)-1).toNat (⟨(gl b ((b.length:Int)-1).toNat).L_,(gl b ((b.length:Int)-1).toNat).w_,(gl d (a+1).toNat),(gl b ((b.length:Int)-1).toNat).H_⟩:Rect))) (gd (0<=a/\a<(d.length:Int))<|gd (0<=c/\c<(e.length:Int))<|gd (I64 (a+1))<|gd (0<=(a+1)/\(a+1)<(d.length:Int))<|gd (I64 (c+1))<|gd (0<=(c+1)/\(c+1)<(e.length:Int))<|gd (b.length+(List.length ([(⟨(gl d a.toNat),(gl e c.toNat),(gl d (a+1).toNat),(gl e (c+1).toNat)⟩:Rect)]:List Rect))<=LIM)<|Q3D F a i (b++([(⟨(gl d a.toNat),(gl e c.toNat),(gl d (a+1).toNat),(gl e (c+1).toNat)⟩:Rect)]:List Rect)))
def Q2Q(F:Nat)(a:Int)(b:(Int×(List Rect)×(List Rect))->Option (List Rect))(c d:List Rect):Option (List Rect):=
 gd (I64 (a+1))<|b ((a+1),c,d)
def Q8g(F:Nat)(b:Int)(c:List Rect)(a:(Int×(List Rect)×(List Rect))->Option (List Rect))(d:List Rect):Option (List Rect):=
 Q2Q F b a c d
def Q8h(F:Nat)(d:List Int)(c:Int)(j k:List Rect)(i:(Int×(List Rect)×(List Rect))->Option (List Rect))(e:(Int×(List Rect))->Option (List Rect))(a:Int)(b:List Rect):Option (List Rect):=
 br (decide (a<(k.length:Int))) (gd (I64 (c+1))<|gd (0<=(c+1)/\(c+1)<(d.length:Int))<|gd (0<=a/\a<(b.length:Int))<|gd (I64 (a+1))<|e ((a+1),(List.set b a.toNat (⟨(gl b a.toNat).L_,(gl b a.toNat).w_,(gl b a.toNat).R_,(gl d (c+1).toNat)⟩:Rect)))) (Q8g F c j i b)
def Q4Y(F:Nat)(d:Int)(a b e:List Rect)(c:(Int×(List Rect)×(List Rect))->Option (List Rect)):Option (List Rect):=
 gd (a.length+b.length<=LIM)<|Q2Q F d c (a++b) e
def Q1e(F:Nat)(e:List Int)(c:Int)(d a i:List Rect)(b:(Int×(List Rect)×(List Rect))->Option (List Rect))(j:Bool):Option (List Rect):=
 br j (Z2 (fun g (z:Int×(List Rect))=>Q8h F e c d a b g z.1 z.2) F ((0:Int),a)) (Q4Y F c d a i b)
def Q3C(F:Nat)(c:List Int)(b:Int)(i a:List Rect)(e:(Int×(List Rect)×(List Rect))->Option (List Rect))(d:List Rect):Option (List Rect):=
 br (decide (0<(a.length:Int))) ((Z4u F a d).bind fun j=>br j (gd (0<=(0:Int)/\0<(a.length:Int))<|gd (0<=b/\b<(c.length:Int))<|Q1e F c b i a d e (((gl a (0:Int).toNat).H_)==(gl c b.toNat))) (Q1e F c b i a d e false)) (Q1e F c b i a d e false)
def Q8Y(F:Nat)(m n:List Rect)(o:Int)(c e:List Int)(d:Int)(k l:List Rect)(j:(Int×(List Rect)×(List Rect))->Option (List Rect))(i:(Int×(List Rect))->Option (List Rect))(a:Int)(b:List Rect):Option (List Rect):=
 gd (I64 (a+1))<|br (decide ((a+1)<(c.length:Int))) (gd (0<=a/\a<(c.length:Int))<|gd (0<=d/\d<(e.length:Int))<|(Q8e F m (gl c a.toNat) (gl e d.toNat)).bind fun p=>gd (0<=a/\a<(c.length:Int))<|gd (0<=d/\d<(e.length:Int))<|(Q8e F n (gl c a.toNat) (gl e d.toNat)).bind fun q=>(Z4v F p q o).bind fun s=>br (!s) (Q3D F a i b) (br (decide (0<(b.length:Int))) (gd (I64 ((b.length:Int)-1))<|gd (0<=((b.length:Int)-1)/\((b.length:Int)-1)<(b.length:Int))<|gd (0<=a/\a<(c.length:Int))<|Q0H F c e d a b i (((gl b ((b.length:Int)-1).toNat).R_)==(gl c a.toNat))) (Q0H F c e d a b i false))) (Q3C F e d k l j b)
def Q4X(F:Nat)(a b:List Rect):Option (List Rect):=
 gd (a.length+b.length<=LIM)<|some (a++b)
def Z3K(F:Nat)(j k:List Rect)(l:Int)(i b:List Int)(e:(Int×(List Rect)×(List Rect))->Option (List Rect))(a:Int)(c d:List Rect):Option (List Rect):=
 gd (I64 (a+1))<|br (decide ((a+1)<(b.length:Int))) (Z2 (fun g (z:Int×(List Rect))=>Q8Y F j k l i b a c d e g z.1 z.2) F ((0:Int),([]:List Rect))) (Q4X F c d)
def Q5V(F:Nat)(c d:List Rect)(e:Int)(a b:List Int):Option (List Rect):=
 Z2 (fun g (z:Int×(List Rect)×(List Rect))=>Z3K F c d e a b g z.1 z.2.1 z.2.2) F ((0:Int),([]:List Rect),([]:List Rect))
def Q3E(F:Nat)(b c:List Rect)(j:Int)(i:((List Int)×(List Int)×Int)->Option (List Rect))(d e:List Int)(a:Int):Option (List Rect):=
 br (decide (a<((List.length ([b,c]:List (List Rect)):Nat):Int))) (gd (0<=a/\a<((List.length ([b,c]:List (List Rect)):Nat):Int))<|Z2 (fun g (z:(List Int)×(List Int)×Int)=>Q8Z F b c a i g z.1 z.2.1 z.2.2) F (d,e,(0:Int))) (Q5V F b c j d e)
def V2(F:Nat)(a b:List Rect)(c:Int):Option (List Rect):=
 Z2 (fun g (z:(List Int)×(List Int)×Int)=>Q3E F a b c g z.1 z.2.1 z.2.2) F (([]:List Int),([]:List Int),(0:Int))
def Q3V(F:Nat)(a:List Rect):Option (Re_×Int):=
 br (decide (120<(a.length:Int))) (some ((⟨[]⟩:Re_),(1:Int))) (some ((⟨a⟩:Re_),(0:Int)))
def Z6n(F:Nat)(b:List Rect):Option (Re_×Int):=
 (V2 F b ([]) (1:Int)).bind fun c=>(Q3V F c).bind fun a=>some (a.1,a.2)
def Y1a(F:Nat)(b:List Rect)(c:(Int)->Option (Re_×Int))(a:Int):Option (Re_×Int):=
 br (decide (a<(b.length:Int))) (gd (0<=a/\a<(b.length:Int))<|(Q5T F (gl b a.toNat)).bind fun d=>br (!d) (some ((⟨[]⟩:Re_),(2:Int))) (gd (I64 (a+1))<|c (a+1))) (Z6n F b)
def Z9t(F:Nat)(a:List Rect):Option (Re_×Int):=
 br (decide (120<(a.length:Int))) (some ((⟨[]⟩:Re_),(1:Int))) (Z2 (fun g (z:Int)=>Y1a F a g z) F (0:Int))
def Q6k(F:Nat)(a:List Rect)(b:List Int)(c:Int):Option (Tape×Re_):=
 (Z9t F a).bind fun d=>some ((⟨b,c⟩:Tape),d.1)
def Q0W(F:Nat)(j:Int)(i:(Int×(List Int)×Int×(List Rect))->Option (Tape×Re_))(b:Int)(d:List Int)(e:Int)(c:List Rect):Option (Tape×Re_):=
 br (decide ((0:Int)<b)) ((Q2n F (⟨d,e⟩:Tape) j).bind fun a=>gd (c.length+(List.length ([a.2]:List Rect))<=LIM)<|gd (I64 (b-1))<|i ((b-1),a.1.l_,a.1.at_,(c++([a.2]:List Rect)))) (Q6k F c d e)
def Q1Y(F:Nat)(c:Tape)(d b:Int):Option (Tape×Re_):=
 gd (I64 (b+1))<|(Z9 F c (b+1)).bind fun a=>Z2 (fun g (z:Int×(List Int)×Int×(List Rect))=>Q0W F d g z.1 z.2.1 z.2.2.1 z.2.2.2) F (a.2,a.1.l_,a.1.at_,([]:List Rect))
def Q8p(F:Nat)(a:List Rect)(b:List Int)(c:Int):Option (Tape×Re_):=
 some ((⟨b,c⟩:Tape),(⟨a⟩:Re_))
def Q2r(F:Nat)(d:Tape)(c e:Int):Option (Tape×Re_):=
 (Q1Y F d c e).bind fun a=>br ((a.2.t_.length:Int)==0) ((Q2n F a.1 c).bind fun b=>Q8p F ([b.2]:List Rect) b.1.l_ b.1.at_) (Q8p F a.2.t_ a.1.l_ a.1.at_)
def Z8b(F:Nat)(a:List Rect):Option (Re_×Int):=
 br (decide (120<(a.length:Int))) (some ((⟨([]:List Rect)⟩:Re_),(1:Int))) (some ((⟨a⟩:Re_),(0:Int)))
def Z8a(F:Nat)(b:List Rect):Option (Re_×Int):=
 (V2 F b ([]) (1:Int)).bind fun c=>(Z8b F c).bind fun a=>some ((⟨a.1.t_⟩:Re_),a.2)
def Y3P(F:Nat)(b:List Rect)(c:(Int)->Option (Re_×Int))(a:Int):Option (Re_×Int):=
 br (decide (a<(b.length:Int))) (gd (0<=a/\a<(b.length:Int))<|(Q5T F (gl b a.toNat)).bind fun d=>br (!d) (some ((⟨([]:List Rect)⟩:Re_),(2:Int))) (gd (I64 (a+1))<|c (a+1))) (Z8a F b)
def Y2M(F:Nat)(a:List Rect):Option (Re_×Int):=
 br (decide (120<(a.length:Int))) (some ((⟨([]:List Rect)⟩:Re_),(1:Int))) (Z2 (fun g (z:Int)=>Y3P F a g z) F (0:Int))
def Q8J(F:Nat)(a:List Rect)(b:List Int)(c:Int):Option (Tape×Re_):=
 (Y2M F a).bind fun d=>some ((⟨b,c⟩:Tape),(⟨d.1.t_⟩:Re_))
def Z5p(F:Nat)(j:Int)(i:(Int×(List Int)×Int×(List Rect))->Option (Tape×Re_))(b:Int)(d:List Int)(e:Int)(c:List Rect):Option (Tape×Re_):=
 br (decide ((0:Int)<b)) ((Q2n F (⟨d,e⟩:Tape) j).bind fun a=>gd (c.length+(List.length ([a.2]:List Rect))<=LIM)<|gd (I64 (b-1))<|i ((b-1),a.1.l_,a.1.at_,(c++([a.2]:List Rect)))) (Q8J F c d e)
def Z2m(F:Nat)(c:Tape)(d b:Int):Option (Tape×Re_):=
 gd (I64 (b+1))<|(Z9 F c (b+1)).bind fun a=>Z2 (fun g (z:Int×(List Int)×Int×(List Rect))=>Z5p F d g z.1 z.2.1 z.2.2.1 z.2.2.2) F (a.2,a.1.l_,a.1.at_,([]:List Rect))
def Q6l(F:Nat)(a:List Int)(b:Int)(c:List Rect):Option (Tape×Re_):=
 some ((⟨a,b⟩:Tape),(⟨c⟩:Re_))
def Q9k(F:Nat)(d:Tape)(c e:Int):Option (Tape×Re_):=
 (Z2m F d c e).bind fun a=>br ((a.2.t_.length:Int)==0) ((Q2n F a.1 c).bind fun b=>Q6l F b.1.l_ b.1.at_ ([b.2]:List Rect)) (Q6l F a.1.l_ a.1.at_ a.2.t_)
def Q2o(F:Nat)(a:Int)(b:(Int×(List Int)×Int×(List Line))->Option (Tape×(List Line)×(List Int)×(List Re_)))(c:List Int)(d:Int)(e:List Line):Option (Tape×(List Line)×(List Int)×(List Re_)):=
 gd (I64 (a-1))<|b ((a-1),c,d,e)
def Q2p(F:Nat)(l:List Crop)(k:Int)(b:List Line)(d:Tape×Int)(e:Tape×Re_)(j:(Int×(List Int)×Int×(List Line))->Option (Tape×(List Line)×(List Int)×(List Re_)))(c:List Rect):Option (Tape×(List Line)×(List Int)×(List Re_)):=
 br (decide (0<(c.length:Int))) (gd (I64 (d.2+(1:Int)))<|(Z9 F e.1 (l.length:Int)).bind fun i=>(Z9 F i.1 (15:Int)).bind fun a=>gd (I64 ((1:Int)+a.2))<|gd (b.length+(List.length ([(⟨(d.2+(1:Int)),(⟨c⟩:Re_),i.2,((1:Int)+a.2)⟩:Line)]:List Line))<=LIM)<|Q2o F k j a.1.l_ a.1.at_ (b++([(⟨(d.2+(1:Int)),(⟨c⟩:Re_),i.2,((1:Int)+a.2)⟩:Line)]:List Line))) (Q2o F k j e.1.l_ e.1.at_ b)
def Z2o(F:Nat)(j:List Crop)(i:Int)(b:List Line)(k:Tape×Int)(l:Tape×Re_)(d:(Int×(List Int)×Int×(List Line))->Option (Tape×(List Line)×(List Int)×(List Re_)))(e:((List Rect)×Int)->Option (Tape×(List Line)×(List Int)×(List Re_)))(c:List Rect)(a:Int):Option (Tape×(List Line)×(List Int)×(List Re_)):=
 br (decide (a<(b.length:Int))) (gd (0<=a/\a<(b.length:Int))<|(V2 F c ((gl b a.toNat).g_.t_) (3:Int)).bind fun m=>gd (I64 (a+1))<|e (m,(a+1))) (Q2p F j i b k l d c)
def Q4e(F:Nat)(j:List Crop)(b:List Re_)(d:Int)(e:List Line)(a:Tape×Int)(k:Tape×Re_)(c:(Int×(List Int)×Int×(List Line))->Option (Tape×(List Line)×(List Int)×(List Re_)))(i:List Rect):Option (Tape×(List Line)×(List Int)×(List Re_)):=
 gd (0<=a.2/\a.2<(b.length:Int))<|(V2 F i ((gl b a.2.toNat).t_) (2:Int)).bind fun l=>Z2 (fun g (z:(List Rect)×Int)=>Z2o F j d e a k c g z.1 z.2) F (l,(0:Int))
def Z2p(F:Nat)(m:List Crop)(j:List Re_)(k:Int)(l:List Line)(c:Tape×Int)(d:Tape×Re_)(e:(Int×(List Int)×Int×(List Line))->Option (Tape×(List Line)×(List Int)×(List Re_)))(i:(Int×(List Rect))->Option (Tape×(List Line)×(List Int)×(List Re_)))(a:Int)(b:List Rect):Option (Tape×(List Line)×(List Int)×(List Re_)):=
 br (decide (a<(d.2.t_.length:Int))) (gd (0<=a/\a<(b.length:Int))<|gd (I64 ((10:Int)*c.2))<|gd (I64 (((gl b a.toNat).L_)+((10:Int)*c.2)))<|gd (0<=a/\a<(b.length:Int))<|gd (I64 ((10:Int)*c.2))<|gd (I64 (((gl b a.toNat).R_)+((10:Int)*c.2)))<|gd (0<=a/\a<(b.length:Int))<|gd (0<=a/\a<((List.length (List.set b a.toNat (⟨(((gl b a.toNat).L_)+((10:Int)*c.2)),(gl b a.toNat).w_,(gl b a.toNat).R_,(gl b a.toNat).H_⟩:Rect)):Nat):Int))<|gd (I64 (a+1))<|i ((a+1),(List.set (List.set b a.toNat (⟨(((gl b a.toNat).L_)+((10:Int)*c.2)),(gl b a.toNat).w_,(gl b a.toNat).R_,(gl b a.toNat).H_⟩:Rect)) a.toNat (⟨(gl (List.set b a.toNat (⟨(((gl b a.toNat).L_)+((10:Int)*c.2)),(gl b a.toNat).w_,(gl b a.toNat).R_,(gl b a.toNat).H_⟩:Rect)) a.toNat).L_,(gl (List.set b a.toNat (⟨(((gl b a.toNat).L_)+((10:Int)*c.2)),(gl b a.toNat).w_,(gl b a.toNat).R_,(gl b a.toNat).H_⟩:Rect)) a.toNat).w_,(((gl b a.toNat).R_)+((10:Int)*c.2)),(gl (List.set b a.toNat (⟨(((gl b a.toNat).L_)+((10:Int)*c.2)),(gl b a.toNat).w_,(gl b a.toNat).R_,(gl b a.toNat).H_⟩:Rect)) a.toNat).H_⟩:Rect)))) (Q4e F m j k l c d e b)
def Z2n(F:Nat)(a:List Int)(b:List Re_)(c:List Line)(d:List Int)(e:Int):Option (Tape×(List Line)×(List Int)×(List Re_)):=
 some ((⟨d,e⟩:Tape),c,a,b)
def Q1f(F:Nat)(m:List Crop)(a:List Int)(b:List Re_)(l:(Int×(List Int)×Int×(List Line))->Option (Tape×(List Line)×(List Int)×(List Re_)))(c:Int)(d:List Int)(e:Int)(i:List Line):Option (Tape×(List Line)×(List Int)×(List Re_)):=
 br (decide ((0:Int)<c)) ((Z9 F (⟨d,e⟩:Tape) (a.length:Int)).bind fun j=>(Q9k F j.1 (9:Int) (2:Int)).bind fun k=>Z2 (fun g (z:Int×(List Rect))=>Z2p F m b c i j k l g z.1 z.2) F ((0:Int),k.2.t_)) (Z2n F a b i d e)
def Q4f(F:Nat)(j:List Crop)(b:Int)(c:List Int)(d:Int)(e:List Int)(i:List Re_):Option (Tape×(List Line)×(List Int)×(List Re_)):=
 gd (I64 (b+1))<|(Z9 F (⟨c,d⟩:Tape) (b+1)).bind fun a=>Z2 (fun g (z:Int×(List Int)×Int×(List Line))=>Q1f F j e i g z.1 z.2.1 z.2.2.1 z.2.2.2) F (a.2,a.1.l_,a.1.at_,([]:List Line))
def Q1g(F:Nat)(l:List Crop)(m:Int)(k:(Int×(List Int)×Int×(List Int)×(List Re_))->Option (Tape×(List Line)×(List Int)×(List Re_)))(d:Int)(i:List Int)(j:Int)(a:List Int)(e:List Re_):Option (Tape×(List Line)×(List Int)×(List Re_)):=
 br (decide ((0:Int)<d)) (gd (I64 ((a.length:Int)+1))<|gd (a.length+(List.length ([((a.length:Int)+1)]:List Int))<=LIM)<|gd (I64 (10*(a.length:Int)))<|gd (I64 (10*(a.length:Int)))<|(U3 F (⟨i,j⟩:Tape) (2:Int) (9:Int)).bind fun b=>gd (I64 ((10*(a.length:Int))+b.2))<|(U3 F b.1 (2:Int) (9:Int)).bind fun c=>gd (e.length+(List.length ([(⟨([(⟨(10*(a.length:Int)),0,((10*(a.length:Int))+b.2),c.2⟩:Rect)]:List Rect)⟩:Re_)]:List Re_))<=LIM)<|gd (I64 (d-1))<|k ((d-1),c.1.l_,c.1.at_,(a++([((a.length:Int)+1)]:List Int)),(e++([(⟨([(⟨(10*(a.length:Int)),0,((10*(a.length:Int))+b.2),c.2⟩:Rect)]:List Rect)⟩:Re_)]:List Re_)))) (Q4f F l m i j a e)
def Q4r(F:Nat)(b:Tape)(c:List Crop)(d:Int):Option (Tape×(List Line)×(List Int)×(List Re_)):=
 (U3 F b (1:Int) (3:Int)).bind fun a=>Z2 (fun g (z:Int×(List Int)×Int×(List Int)×(List Re_))=>Q1g F c d g z.1 z.2.1 z.2.2.1 z.2.2.2.1 z.2.2.2.2) F (a.2,a.1.l_,a.1.at_,([]:List Int),([]:List Re_))
def Z0G(F:Nat)(a:List Re_):Option (List Re_):=
 some a
def Q6X(F:Nat)(b:List Line)(c:List Re_)(i:(Int×(List Re_))->Option (List Re_))(a:Int)(e:List Re_):Option (List Re_):=
 br (decide (a<(b.length:Int))) (gd (0<=a/\a<(b.length:Int))<|gd (I64 (((gl b a.toNat).p_)-1))<|(Z2s F (((gl b a.toNat).p_)-1) (c.length:Int)).bind fun d=>gd (0<=d/\d<(c.length:Int))<|gd (e.length+(List.length ([(gl c d.toNat)]:List Re_))<=LIM)<|gd (I64 (a+1))<|i ((a+1),(e++([(gl c d.toNat)]:List Re_)))) (Z0G F e)
def Q8q(F:Nat)(a:List Line)(b:List Re_):Option (List Re_):=
 Z2 (fun g (z:Int×(List Re_))=>Q6X F a b g z.1 z.2) F ((0:Int),([]:List Re_))
def Q6U(F:Nat)(rc:Int->Option ByteArray)(a:Int):Option ByteArray:=
 br (decide (a<0)) (gd ((10:Int)≠0)<|gd (I64 (0-(a.tmod (10:Int))))<|br (decide ((-10:Int)<a)) (gd (I64 ((48:Int)+(0-(a.tmod (10:Int)))))<|gd (ByteArray.size (ByteArray.mk #[45])+ByteArray.size (bOf (IntKind.wrap .u8 ((48:Int)+(0-(a.tmod (10:Int))))))<=LIM)<|some ((ByteArray.mk #[45])++(bOf (IntKind.wrap .u8 ((48:Int)+(0-(a.tmod (10:Int)))))))) (gd (I64 (a.tdiv (10:Int))/\(10:Int)≠0)<|(rc (a.tdiv (10:Int))).bind fun b=>gd (I64 ((48:Int)+(0-(a.tmod (10:Int)))))<|gd (ByteArray.size b+ByteArray.size (bOf (IntKind.wrap .u8 ((48:Int)+(0-(a.tmod (10:Int))))))<=LIM)<|some (b++(bOf (IntKind.wrap .u8 ((48:Int)+(0-(a.tmod (10:Int))))))))) (br (decide (a<10)) (gd (I64 ((48:Int)+a))<|some (bOf (IntKind.wrap .u8 ((48:Int)+a)))) (gd (I64 (a.tdiv (10:Int))/\(10:Int)≠0)<|(rc (a.tdiv (10:Int))).bind fun c=>gd ((10:Int)≠0)<|gd (I64 ((48:Int)+(a.tmod (10:Int))))<|gd (ByteArray.size c+ByteArray.size (bOf (IntKind.wrap .u8 ((48:Int)+(a.tmod (10:Int)))))<=LIM)<|some (c++(bOf (IntKind.wrap .u8 ((48:Int)+(a.tmod (10:Int))))))))
def Q4B:Nat->Int->Option ByteArray
 | 0=>fun _=>none
 | F+1=>Q6U F (Q4B F)
def Q3k(F:Nat)(c:Tape)(a:Int):Option (Tape×Bool):=
 (Z9 F c a).bind fun b=>gd (I64 (a-1))<|some (b.1,(b.2==(a-1)))
def K5(F:Nat)(rc:Tape->Int->Option (Tape×Term))(e:Tape×Int)(a b:Int)(c:List Int)(d:Int):Option (Tape×Term):=
 some ((⟨c,d⟩:Tape),(⟨e.2,a,b,[]⟩:Term))
def Q0P(F:Nat)(rc:Tape->Int->Option (Tape×Term))(a:Tape×Int)(l:Bool):Option (Tape×Term):=
 br l ((Z9 F a.1 (4:Int)).bind fun d=>K5 F rc a d.2 0 d.1.l_ d.1.at_) (br (a.2==(4:Int)) ((Z9 F a.1 (5:Int)).bind fun b=>gd (I64 ((1:Int)*2 ^ (min (b.2).toNat (IntKind.bits .i64)))/\0<=b.2)<|K5 F rc a ((1:Int)*2 ^ (min (b.2).toNat (IntKind.bits .i64))) 0 b.1.l_ b.1.at_) (br (a.2==(5:Int)) ((Z9 F a.1 (16:Int)).bind fun e=>K5 F rc a e.2 0 e.1.l_ e.1.at_) (br (a.2==(6:Int)) ((U3 F a.1 (2:Int) (3:Int)).bind fun i=>K5 F rc a i.2 0 i.1.l_ i.1.at_) (br (a.2==(7:Int)) ((U3 F a.1 (1:Int) (2:Int)).bind fun k=>(Z9 F k.1 (5:Int)).bind fun c=>gd (I64 ((1:Int)*2 ^ (min (c.2).toNat (IntKind.bits .i64)))/\0<=c.2)<|K5 F rc a k.2 ((1:Int)*2 ^ (min (c.2).toNat (IntKind.bits .i64))) c.1.l_ c.1.at_) (br (a.2==(8:Int)) ((U3 F a.1 (1:Int) (3:Int)).bind fun j=>K5 F rc a j.2 0 j.1.l_ j.1.at_) (K5 F rc a 0 0 a.1.l_ a.1.at_))))))
def Q0Q(F:Nat)(rc:Tape->Int->Option (Tape×Term))(a:Int)(n:Bool)(l:List Int)(m:Int):Option (Tape×Term):=
 br n ((Z9 F (⟨l,m⟩:Tape) (3:Int)).bind fun b=>br (b.2==(0:Int)) (gd (I64 (a-1))<|(rc b.1 (a-1)).bind fun d=>gd (I64 d.2.op_)<|some (d.1,(⟨(11:Int),0,0,([d.2]:List Term)⟩:Term))) (br (b.2==(1:Int)) (gd (I64 (a-1))<|(rc b.1 (a-1)).bind fun e=>gd (I64 (a-1))<|(rc e.1 (a-1)).bind fun i=>gd (I64 e.2.op_)<|gd (I64 i.2.op_)<|some (i.1,(⟨(9:Int),0,0,([e.2,i.2]:List Term)⟩:Term))) (gd (I64 (a-1))<|(rc b.1 (a-1)).bind fun j=>gd (I64 (a-1))<|(rc j.1 (a-1)).bind fun k=>gd (I64 j.2.op_)<|gd (I64 k.2.op_)<|some (k.1,(⟨(10:Int),0,0,([j.2,k.2]:List Term)⟩:Term))))) ((U3 F (⟨l,m⟩:Tape) (1:Int) (8:Int)).bind fun c=>br (c.2==(2:Int)) (Q0P F rc c (c.2==(2:Int))) (Q0P F rc c (c.2==(3:Int))))
def Q5Y(F:Nat)(rc:Tape->Int->Option (Tape×Term))(a:Tape)(b:Int):Option (Tape×Term):=
 br (decide ((0:Int)<b)) ((Q3k F a (2:Int)).bind fun c=>Q0Q F rc b c.2 c.1.l_ c.1.at_) (Q0Q F rc b false a.l_ a.at_)
def G5:Nat->Tape->Int->Option (Tape×Term)
 | 0=>fun _ _=>none
 | F+1=>Q5Y F (G5 F)
def Q0h(F:Nat)(a:Int)(b:(Int)->Option Bool)(c:Bool):Option Bool:=
 br c (some false) (gd (I64 (a+1))<|b (a+1))
def Z8c(F:Nat):Option Bool:=
 some true
def Q9D(F:Nat)(b:ByteArray)(c:(Int)->Option Bool)(a:Int):Option Bool:=
 br (decide (a<((b.size:Nat):Int))) (gd (0<=a/\a<((b.size:Nat):Int))<|br (decide ((sAt b a)<97)) (gd (0<=a/\a<((b.size:Nat):Int))<|br (decide ((sAt b a)<48)) (Q0h F a c true) (gd (0<=a/\a<((b.size:Nat):Int))<|Q0h F a c (decide ((57:Int)<(sAt b a))))) (gd (0<=a/\a<((b.size:Nat):Int))<|br (decide ((122:Int)<(sAt b a))) (gd (0<=a/\a<((b.size:Nat):Int))<|br (decide ((sAt b a)<48)) (Q0h F a c true) (gd (0<=a/\a<((b.size:Nat):Int))<|Q0h F a c (decide ((57:Int)<(sAt b a))))) (Q0h F a c false))) (Z8c F)
def Q1S(F:Nat)(b:ByteArray)(a:Bool):Option Bool:=
 br a (some false) (Z2 (fun g (z:Int)=>Q9D F b g z) F (0:Int))
def Z4x(F:Nat)(a:ByteArray):Option Bool:=
 br (decide (((a.size:Nat):Int)<(1:Int))) (Q1S F a true) (br (decide ((12:Int)<((a.size:Nat):Int))) (Q1S F a true) (gd (0<=(0:Int)/\(0:Int)<((a.size:Nat):Int))<|br (decide ((sAt a (0:Int))<97)) (Q1S F a true) (gd (0<=(0:Int)/\(0:Int)<((a.size:Nat):Int))<|Q1S F a (decide ((122:Int)<(sAt a (0:Int)))))))
def Q5q(F:Nat)(rc:Term->Option Int)(a:Int)(b:(Int×Int)->Option Int)(c:Int):Option Int:=
 gd (I64 (a+1))<|b (c,(a+1))
def Z5Y(F:Nat)(rc:Term->Option Int)(a:Int):Option Int:=
 some a
def Q7T(F:Nat)(rc:Term->Option Int)(c:Term)(d:(Int×Int)->Option Int)(b a:Int):Option Int:=
 br (decide (a<(c.kids_.length:Int))) (gd (0<=a/\a<(c.kids_.length:Int))<|gd (I64 (gl c.kids_ a.toNat).op_)<|br (decide (b<=40)) ((rc (gl c.kids_ a.toNat)).bind fun e=>gd (I64 (b+e))<|Q5q F rc a d (b+e)) (Q5q F rc a d b)) (Z5Y F rc b)
def Q9B(F:Nat)(rc:Term->Option Int)(a:Term):Option Int:=
 Z2 (fun g (z:Int×Int)=>Q7T F rc a g z.1 z.2) F ((1:Int),(0:Int))
def Q3U:Nat->Term->Option Int
 | 0=>fun _=>none
 | F+1=>Q9B F (Q3U F)
def Z1Y(F:Nat)(rc:Term->Option Int)(a:Int):Option Int:=
 gd (I64 (a+1))<|some (a+1)
def Q7S(F:Nat)(rc:Term->Option Int)(b:Term)(d:(Int×Int)->Option Int)(c a:Int):Option Int:=
 br (decide (a<(b.kids_.length:Int))) (gd (0<=a/\a<(b.kids_.length:Int))<|gd (I64 (gl b.kids_ a.toNat).op_)<|(rc (gl b.kids_ a.toNat)).bind fun e=>gd (I64 (a+1))<|d ((G2 c e),(a+1))) (Z1Y F rc c)
def Q9A(F:Nat)(rc:Term->Option Int)(a:Term):Option Int:=
 Z2 (fun g (z:Int×Int)=>Q7S F rc a g z.1 z.2) F ((0:Int),(0:Int))
def Q3T:Nat->Term->Option Int
 | 0=>fun _=>none
 | F+1=>Q9A F (Q3T F)
def Q1H(F:Nat)(a:Bool):Option Bool:=
 some a
def Q5Q(F:Nat)(a:Int):Option Bool:=
 br (a==1) (Q1H F true) (br (a==2) (Q1H F true) (br (a==4) (Q1H F true) (br (a==8) (Q1H F true) (Q1H F (a==16)))))
def Z7S(F:Nat)(rc:Term->Option Bool):Option Bool:=
 some true
def Q4A(F:Nat)(rc:Term->Option Bool)(b:Term)(c:(Int)->Option Bool)(a:Int):Option Bool:=
 br (decide (a<(b.kids_.length:Int))) (gd (0<=a/\a<(b.kids_.length:Int))<|gd (I64 (gl b.kids_ a.toNat).op_)<|(rc (gl b.kids_ a.toNat)).bind fun d=>br (!d) (some false) (gd (I64 (a+1))<|c (a+1))) (Z7S F rc)
def Q4y(F:Nat)(rc:Term->Option Bool)(b:Term)(a:Bool):Option Bool:=
 br a (some false) (Z2 (fun g (z:Int)=>Q4A F rc b g z) F (0:Int))
def W5(F:Nat)(rc:Term->Option Bool)(a:Term)(b:Int)(c d:Bool):Option Bool:=
 br (!d) (Q4y F rc a true) (br (!c) (Q4y F rc a true) (Q4y F rc a ((a.kids_.length:Int) != b)))
def Q4z(F:Nat)(rc:Term->Option Bool)(a:Term)(b:Bool):Option Bool:=
 br b (br (a.num_==0) (W5 F rc a (a.kids_.length:Int) (a.more_==0) (decide (0<(a.kids_.length:Int)))) (W5 F rc a (a.kids_.length:Int) (a.more_==0) false)) (br (a.op_==11) (W5 F rc a (1:Int) (a.more_==0) (a.num_==0)) (W5 F rc a (0:Int) (a.more_==0) false))
def Z1n(F:Nat)(rc:Term->Option Bool)(a:Term):Option Bool:=
 br (a.op_==1) (W5 F rc a (0:Int) (a.more_==0) (a.num_==0)) (br (a.op_==2) (br (decide ((0:Int)<=a.num_)) (W5 F rc a (0:Int) (a.more_==0) (decide (a.num_<40))) (W5 F rc a (0:Int) (a.more_==0) false)) (br (a.op_==3) (br (decide ((0:Int)<=a.num_)) (W5 F rc a (0:Int) (a.more_==0) (decide (a.num_<=40))) (W5 F rc a (0:Int) (a.more_==0) false)) (br (a.op_==4) ((Q5Q F a.num_).bind fun b=>W5 F rc a (0:Int) (a.more_==0) b) (br (a.op_==5) (br (decide ((0:Int)<=a.num_)) (W5 F rc a (0:Int) (a.more_==0) (decide (a.num_<=15))) (W5 F rc a (0:Int) (a.more_==0) false)) (br (a.op_==6) (br (decide ((2:Int)<=a.num_)) (W5 F rc a (0:Int) (a.more_==0) (decide (a.num_<=10))) (W5 F rc a (0:Int) (a.more_==0) false)) (br (a.op_==7) (br (decide ((1:Int)<=a.num_)) ((Q5Q F a.more_).bind fun c=>W5 F rc a (0:Int) c (decide (a.num_<=10))) ((Q5Q F a.more_).bind fun d=>W5 F rc a (0:Int) d false)) (br (a.op_==8) (br (decide ((1:Int)<=a.num_)) (W5 F rc a (0:Int) (a.more_==0) (decide (a.num_<=10))) (W5 F rc a (0:Int) (a.more_==0) false)) (br (a.op_==9) (Q4z F rc a (a.op_==9)) (Q4z F rc a (a.op_==10))))))))))
def Q0m:Nat->Term->Option Bool
 | 0=>fun _=>none
 | F+1=>Z1n F (Q0m F)
def Q7U(F:Nat)(a:Bool):Option Int:=
 br a (some (16:Int)) (some (0:Int))
def Z2L(F:Nat)(a:Term):Option Int:=
 (Q3U F a).bind fun b=>br (decide ((40:Int)<b)) (some (1:Int)) ((Q3T F a).bind fun c=>br (decide ((8:Int)<c)) (Q7U F true) ((Q0m F a).bind fun d=>Q7U F (!d)))
def Q0o(F:Nat)(d:List Bracket)(a:Int)(b:(Int×Int)->Option Bool)(c:Bool):Option Bool:=
 br c (some false) (gd (I64 (a+1))<|b ((gl d a.toNat).up_,(a+1)))
def Z2J(F:Nat):Option Bool:=
 some true
def Q1B(F:Nat)(b:List Bracket)(c:(Int×Int)->Option Bool)(d a:Int):Option Bool:=
 br (decide (a<(b.length:Int))) (gd (0<=a/\a<(b.length:Int))<|br (decide (((gl b a.toNat).up_)<=d)) (Q0o F b a c true) (br (decide ((268435456:Int)<((gl b a.toNat).up_))) (Q0o F b a c true) (br (decide (((gl b a.toNat).rate_)<0)) (Q0o F b a c true) (Q0o F b a c (decide ((1048576:Int)<((gl b a.toNat).rate_))))))) (Z2J F)
def Q2N(F:Nat)(b:List Bracket)(a:Bool):Option Bool:=
 br a (some false) (Z2 (fun g (z:Int×Int)=>Q1B F b g z.1 z.2) F ((0:Int),(0:Int)))
def Q7O(F:Nat)(a:List Bracket):Option Bool:=
 br (decide ((a.length:Int)<1)) (Q2N F a true) (Q2N F a (decide (6<(a.length:Int))))
def Q4b(F:Nat)(a:Bool):Option Int:=
 br a (some (3:Int)) (some (0:Int))
def Q4c(F:Nat)(a:Scheme)(c:Bool):Option Int:=
 br c (some (2:Int)) ((Z4x F a.n_).bind fun d=>br (!d) (some (5:Int)) ((Z2L F a.cond_).bind fun b=>br (b != (0:Int)) (some b) ((Q7O F a.brackets_).bind fun e=>br (!e) (Q4b F true) (br (decide (a.excludes_<0)) (Q4b F true) (br (decide ((65536:Int)<=a.excludes_)) (Q4b F true) (gd (0<=a.N_)<|Q4b F ((Q5K .i64 (a.excludes_.fdiv (2 ^ (min (a.N_).toNat (IntKind.bits .i64)))) (1:Int))==1)))))))
def Z6Z(F:Nat)(a:Scheme):Option Int:=
 br (decide (a.N_<0)) (Q4c F a true) (br (decide ((15:Int)<a.N_)) (Q4c F a true) (br (decide (a.least_<0)) (Q4c F a true) (Q4c F a (decide ((268435456:Int)<a.least_)))))
def Z7Q(F:Nat):Option Int:=
 some (-1:Int)
def Q3c(F:Nat)(b:List Scheme)(d:Int)(c:(Int)->Option Int)(a:Int):Option Int:=
 br (decide (a<(b.length:Int))) (gd (0<=a/\a<(b.length:Int))<|br (((gl b a.toNat).N_)==d) (some a) (gd (I64 (a+1))<|c (a+1))) (Z7Q F)
def Z4s(F:Nat)(a:List Scheme)(b:Int):Option Int:=
 Z2 (fun g (z:Int)=>Q3c F a b g z) F (0:Int)
def Q3z(F:Nat)(c a:Int)(b:(Int)->Option (Int×Int))(d:Bool):Option (Int×Int):=
 br d (some (c,(6:Int))) (gd (I64 (a+1))<|b (a+1))
def Z5W(F:Nat)(a:Int)(b:(Int)->Option (Int×Int)):Option (Int×Int):=
 gd (I64 (a+1))<|b (a+1)
def Q1t(F:Nat)(c:List Scheme)(a:Int)(e d:(Int)->Option (Int×Int))(b:Int):Option (Int×Int):=
 br (decide (b<((List.length (c.take a.toNat):Nat):Int))) (gd (0<=b/\b<((List.length (c.take a.toNat):Nat):Int))<|br (sEq ((gl (c.take a.toNat) b.toNat).n_) ((gl c a.toNat).n_)) (Q3z F a b d true) (gd (I64 (a-1))<|br (b==(a-1)) (Q3z F a b d (decide (((gl c a.toNat).N_)<=((gl (c.take a.toNat) b.toNat).N_)))) (Q3z F a b d false))) (Z5W F a e)
def Q7P(F:Nat)(a:Int)(b:(Int)->Option (Int×Int)):Option (Int×Int):=
 gd (I64 (a+1))<|b (a+1)
def Q7Q(F:Nat)(b c:Int)(a:(Int)->Option (Int×Int))(d:Bool):Option (Int×Int):=
 br d (some (b,(17:Int))) (Q7P F c a)
def Z5V(F:Nat)(a:Int)(b:(Int)->Option (Int×Int)):Option (Int×Int):=
 gd (I64 (a+1))<|b (a+1)
def Q1s(F:Nat)(c:List Scheme)(b:Int)(i e:(Int)->Option (Int×Int))(a:Int):Option (Int×Int):=
 br (decide (a<=15)) (gd (0<=a)<|br ((Q5K .i64 (((gl c b.toNat).excludes_).fdiv (2 ^ (min (a).toNat (IntKind.bits .i64)))) (1:Int))==0) (Q7P F a e) ((Z4s F c a).bind fun d=>br (decide (d<0)) (Q7Q F b a e true) (gd (0<=d/\d<(c.length:Int))<|gd (0<=((gl c b.toNat).N_))<|Q7Q F b a e ((Q5K .i64 (((gl c d.toNat).excludes_).fdiv (2 ^ (min (((gl c b.toNat).N_)).toNat (IntKind.bits .i64)))) (1:Int))==0)))) (Z5V F b i)
def Z4Y(F:Nat):Option (Int×Int):=
 some ((-1:Int),(0:Int))
def Q2k(F:Nat)(b:List Scheme)(c:(Int)->Option (Int×Int))(a:Int):Option (Int×Int):=
 br (decide (a<(b.length:Int))) (gd (0<=a/\a<(b.length:Int))<|Z2 (fun g (z:Int)=>Q1s F b a c g z) F (0:Int)) (Z4Y F)
def Z1W(F:Nat)(a:List Scheme):Option (Int×Int):=
 Z2 (fun g (z:Int)=>Q2k F a g z) F (0:Int)
def Q2l(F:Nat)(b:List Scheme)(d:(Int)->Option (Int×Int))(a:Int):Option (Int×Int):=
 br (decide (a<(b.length:Int))) (gd (0<=a/\a<(b.length:Int))<|(Z6Z F (gl b a.toNat)).bind fun c=>br (c != (0:Int)) (some (a,c)) (gd (0<=a/\a<=(b.length:Int))<|Z2 (fun g (z:Int)=>Q1t F b a d g z) F (0:Int))) (Z1W F b)
def Z2K(F:Nat)(a:List Scheme):Option (Int×Int):=
 br (decide (16<(a.length:Int))) (some ((0:Int),(1:Int))) (Z2 (fun g (z:Int)=>Q2l F a g z) F (0:Int))
def Q9f(F:Nat)(a:Int)(b:(Int×Int×(List Int)×Int×(List Scheme))->Option (Tape×(List Scheme)))(c:Int)(d:List Int)(e:Int)(i:List Scheme):Option (Tape×(List Scheme)):=
 gd (I64 (a-1))<|b (c,(a-1),d,e,i)
def Q9g(F:Nat)(a m:Int)(c:List Scheme)(e:ByteArray)(i:Tape×Term)(j:Tape×Int)(k:Tape×Bool)(l:(Int×Int×(List Int)×Int×(List Scheme))->Option (Tape×(List Scheme)))(n:List Int)(o:Int)(d:List Bracket):Option (Tape×(List Scheme)):=
 gd (c.length+(List.length ([(⟨a,((ByteArray.mk #[115])++e),i.2,d,j.2,0,k.2⟩:Scheme)]:List Scheme))<=LIM)<|(U3 F (⟨n,o⟩:Tape) (1:Int) (2:Int)).bind fun b=>gd (I64 (a+b.2))<|Q9f F m l (a+b.2) b.1.l_ b.1.at_ (c++([(⟨a,((ByteArray.mk #[115])++e),i.2,d,j.2,0,k.2⟩:Scheme)]:List Scheme))
def Q9j(F:Nat)(m n:Int)(o:List Scheme)(p:ByteArray)(q:Tape×Term)(s:Tape×Int)(t:Tape×Bool)(k:(Int×Int×(List Int)×Int×(List Scheme))->Option (Tape×(List Scheme)))(l:(Int×Int×(List Int)×Int×(List Bracket))->Option (Tape×(List Scheme)))(b d:Int)(i:List Int)(j:Int)(e:List Bracket):Option (Tape×(List Scheme)):=
 br (decide ((0:Int)<d)) ((U3 F (⟨i,j⟩:Tape) (1:Int) (40:Int)).bind fun a=>gd (I64 (b+a.2))<|(Z9 F a.1 (3000:Int)).bind fun c=>gd (e.length+(List.length ([(⟨(b+a.2),c.2⟩:Bracket)]:List Bracket))<=LIM)<|gd (I64 (d-1))<|l ((b+a.2),(d-1),c.1.l_,c.1.at_,(e++([(⟨(b+a.2),c.2⟩:Bracket)]:List Bracket)))) (Q9g F m n o p q s t k i j e)
def Q3G(F:Nat)(a:Int)(b:(Int×(List Int)×Int×(List Scheme))->Option (Tape×(List Scheme)))(c:List Int)(d:Int)(e:List Scheme):Option (Tape×(List Scheme)):=
 gd (I64 (a+1))<|b ((a+1),c,d,e)
def Q9e(F:Nat)(a:Int)(b:(Int×(List Int)×Int×(List Scheme))->Option (Tape×(List Scheme)))(c:List Int)(d:Int)(e:List Scheme):Option (Tape×(List Scheme)):=
 gd (I64 (a+1))<|b ((a+1),c,d,e)
def Q9h(F:Nat)(b:Int)(k e:(Int×(List Int)×Int×(List Scheme))->Option (Tape×(List Scheme)))(c:Int)(i:List Int)(j:Int)(a:List Scheme):Option (Tape×(List Scheme)):=
 br (decide (c<((((b).toNat):Nat):Int))) ((Q3k F (⟨i,j⟩:Tape) (3:Int)).bind fun d=>br d.2 (gd (0<=b/\b<(a.length:Int))<|gd (0<=c/\c<(a.length:Int))<|gd (I64 ((1:Int)*2 ^ (min (((gl a c.toNat).N_)).toNat (IntKind.bits .i64)))/\0<=((gl a c.toNat).N_))<|gd (0<=b/\b<(a.length:Int))<|gd (0<=c/\c<((List.length (List.set a b.toNat (⟨(gl a b.toNat).N_,(gl a b.toNat).n_,(gl a b.toNat).cond_,(gl a b.toNat).brackets_,(gl a b.toNat).least_,(bor .i64 ((gl a b.toNat).excludes_) ((1:Int)*2 ^ (min (((gl a c.toNat).N_)).toNat (IntKind.bits .i64)))),(gl a b.toNat).needs_⟩:Scheme)):Nat):Int))<|gd (0<=b/\b<((List.length (List.set a b.toNat (⟨(gl a b.toNat).N_,(gl a b.toNat).n_,(gl a b.toNat).cond_,(gl a b.toNat).brackets_,(gl a b.toNat).least_,(bor .i64 ((gl a b.toNat).excludes_) ((1:Int)*2 ^ (min (((gl a c.toNat).N_)).toNat (IntKind.bits .i64)))),(gl a b.toNat).needs_⟩:Scheme)):Nat):Int))<|gd (I64 ((1:Int)*2 ^ (min (((gl (List.set a b.toNat (⟨(gl a b.toNat).N_,(gl a b.toNat).n_,(gl a b.toNat).cond_,(gl a b.toNat).brackets_,(gl a b.toNat).least_,(bor .i64 ((gl a b.toNat).excludes_) ((1:Int)*2 ^ (min (((gl a c.toNat).N_)).toNat (IntKind.bits .i64)))),(gl a b.toNat).needs_⟩:Scheme)) b.toNat).N_)).toNat (IntKind.bits .i64)))/\0<=((gl (List.set a b.toNat (⟨(gl a b.toNat).N_,(gl a b.toNat).n_,(gl a b.toNat).cond_,(gl a b.toNat).brackets_,(gl a b.toNat).least_,(bor .i64 ((gl a b.toNat).excludes_) ((1:Int)*2 ^ (min (((gl a c.toNat).N_)).toNat (IntKind.bits .i64)))),(gl a b.toNat).needs_⟩:Scheme)) b.toNat).N_))<|gd (0<=c/\c<((List.length (List.set a b.toNat (⟨(gl a b.toNat).N_,(gl a b.toNat).n_,(gl a b.toNat).cond_,(gl a b.toNat).brackets_,(gl a b.toNat).least_,(bor .i64 ((gl a b.toNat).excludes_) ((1:Int)*2 ^ (min (((gl a c.toNat).N_)).toNat (IntKind.bits .i64)))),(gl a b.toNat).needs_⟩:Scheme)):Nat):Int))<|Q3G F c e d.1.l_ d.1.at_ (List.set (List.set a b.toNat (⟨(gl a b.toNat).N_,(gl a b.toNat).n_,(gl a b.toNat).cond_,(gl a b.toNat).brackets_,(gl a b.toNat).least_,(bor .i64 ((gl a b.toNat).excludes_) ((1:Int)*2 ^ (min (((gl a c.toNat).N_)).toNat (IntKind.bits .i64)))),(gl a b.toNat).needs_⟩:Scheme)) c.toNat (⟨(gl (List.set a b.toNat (⟨(gl a b.toNat).N_,(gl a b.toNat).n_,(gl a b.toNat).cond_,(gl a b.toNat).brackets_,(gl a b.toNat).least_,(bor .i64 ((gl a b.toNat).excludes_) ((1:Int)*2 ^ (min (((gl a c.toNat).N_)).toNat (IntKind.bits .i64)))),(gl a b.toNat).needs_⟩:Scheme)) c.toNat).N_,(gl (List.set a b.toNat (⟨(gl a b.toNat).N_,(gl a b.toNat).n_,(gl a b.toNat).cond_,(gl a b.toNat).brackets_,(gl a b.toNat).least_,(bor .i64 ((gl a b.toNat).excludes_) ((1:Int)*2 ^ (min (((gl a c.toNat).N_)).toNat (IntKind.bits .i64)))),(gl a b.toNat).needs_⟩:Scheme)) c.toNat).n_,(gl (List.set a b.toNat (⟨(gl a b.toNat).N_,(gl a b.toNat).n_,(gl a b.toNat).cond_,(gl a b.toNat).brackets_,(gl a b.toNat).least_,(bor .i64 ((gl a b.toNat).excludes_) ((1:Int)*2 ^ (min (((gl a c.toNat).N_)).toNat (IntKind.bits .i64)))),(gl a b.toNat).needs_⟩:Scheme)) c.toNat).cond_,(gl (List.set a b.toNat (⟨(gl a b.toNat).N_,(gl a b.toNat).n_,(gl a b.toNat).cond_,(gl a b.toNat).brackets_,(gl a b.toNat).least_,(bor .i64 ((gl a b.toNat).excludes_) ((1:Int)*2 ^ (min (((gl a c.toNat).N_)).toNat (IntKind.bits .i64)))),(gl a b.toNat).needs_⟩:Scheme)) c.toNat).brackets_,(gl (List.set a b.toNat (⟨(gl a b.toNat).N_,(gl a b.toNat).n_,(gl a b.toNat).cond_,(gl a b.toNat).brackets_,(gl a b.toNat).least_,(bor .i64 ((gl a b.toNat).excludes_) ((1:Int)*2 ^ (min (((gl a c.toNat).N_)).toNat (IntKind.bits .i64)))),(gl a b.toNat).needs_⟩:Scheme)) c.toNat).least_,(bor .i64 ((gl (List.set a b.toNat (⟨(gl a b.toNat).N_,(gl a b.toNat).n_,(gl a b.toNat).cond_,(gl a b.toNat).brackets_,(gl a b.toNat).least_,(bor .i64 ((gl a b.toNat).excludes_) ((1:Int)*2 ^ (min (((gl a c.toNat).N_)).toNat (IntKind.bits .i64)))),(gl a b.toNat).needs_⟩:Scheme)) c.toNat).excludes_) ((1:Int)*2 ^ (min (((gl (List.set a b.toNat (⟨(gl a b.toNat).N_,(gl a b.toNat).n_,(gl a b.toNat).cond_,(gl a b.toNat).brackets_,(gl a b.toNat).least_,(bor .i64 ((gl a b.toNat).excludes_) ((1:Int)*2 ^ (min (((gl a c.toNat).N_)).toNat (IntKind.bits .i64)))),(gl a b.toNat).needs_⟩:Scheme)) b.toNat).N_)).toNat (IntKind.bits .i64)))),(gl (List.set a b.toNat (⟨(gl a b.toNat).N_,(gl a b.toNat).n_,(gl a b.toNat).cond_,(gl a b.toNat).brackets_,(gl a b.toNat).least_,(bor .i64 ((gl a b.toNat).excludes_) ((1:Int)*2 ^ (min (((gl a c.toNat).N_)).toNat (IntKind.bits .i64)))),(gl a b.toNat).needs_⟩:Scheme)) c.toNat).needs_⟩:Scheme))) (Q3G F c e d.1.l_ d.1.at_ a)) (Q9e F b k i j a)
def Q5b(F:Nat)(a:List Scheme)(b:List Int)(c:Int):Option (Tape×(List Scheme)):=
 (Z2K F a).bind fun d=>br (d.2 != (0:Int)) (some ((⟨b,c⟩:Tape),([]:List Scheme))) (some ((⟨b,c⟩:Tape),a))
def Q9i(F:Nat)(i:List Scheme)(e:(Int×(List Int)×Int×(List Scheme))->Option (Tape×(List Scheme)))(a:Int)(c:List Int)(d:Int)(b:List Scheme):Option (Tape×(List Scheme)):=
 br (decide (a<(i.length:Int))) (gd (0<=(0:Int)/\(0:Int)<=a/\((0:Nat):Int)+a<=(b.length:Int))<|Z2 (fun g (z:Int×(List Int)×Int×(List Scheme))=>Q9h F a e g z.1 z.2.1 z.2.2.1 z.2.2.2) F ((0:Int),c,d,b)) (Q5b F b c d)
def Q5Z(F:Nat)(b:List Int)(c:Int)(a:List Scheme):Option (Tape×(List Scheme)):=
 Z2 (fun g (z:Int×(List Int)×Int×(List Scheme))=>Q9i F a g z.1 z.2.1 z.2.2.1 z.2.2.2) F ((0:Int),b,c,a)
def Q1Z(F:Nat)(b n:Int)(c:List Int)(d:Int)(e:List Scheme)(m:(Int×Int×(List Int)×Int×(List Scheme))->Option (Tape×(List Scheme)))(o:Bool):Option (Tape×(List Scheme)):=
 br o ((Q4B F b).bind fun i=>gd (ByteArray.size (ByteArray.mk #[115])+ByteArray.size i<=LIM)<|(G5 F (⟨c,d⟩:Tape) (2:Int)).bind fun j=>(Z9 F j.1 (4:Int)).bind fun k=>(Q3k F k.1 (2:Int)).bind fun l=>(U3 F l.1 (1:Int) (3:Int)).bind fun a=>Z2 (fun g (z:Int×Int×(List Int)×Int×(List Bracket))=>Q9j F b n e i j k l m g z.1 z.2.1 z.2.2.1 z.2.2.2.1 z.2.2.2.2) F ((0:Int),a.2,a.1.l_,a.1.at_,([]:List Bracket))) (Q5Z F c d e)
def Q6a(F:Nat)(c:(Int×Int×(List Int)×Int×(List Scheme))->Option (Tape×(List Scheme)))(a b:Int)(d:List Int)(e:Int)(i:List Scheme):Option (Tape×(List Scheme)):=
 br (decide ((0:Int)<b)) (Q1Z F a b d e i c (decide (a<=3))) (Q1Z F a b d e i c false)
def Q6B(F:Nat)(d:Tape)(b:Int):Option (Tape×(List Scheme)):=
 (Z9 F d (2:Int)).bind fun c=>gd (I64 (b+1))<|(Z9 F c.1 (b+1)).bind fun a=>Z2 (fun g (z:Int×Int×(List Int)×Int×(List Scheme))=>Q6a F g z.1 z.2.1 z.2.2.1 z.2.2.2.1 z.2.2.2.2) F (c.2,a.2,a.1.l_,a.1.at_,([]:List Scheme))
def Z6l(F:Nat):Option Bool:=
 some true
def Z6m(F:Nat)(b c:List Rect)(d:(Int)->Option Bool)(a:Int):Option Bool:=
 br (decide (a<(b.length:Int))) (gd (0<=a/\a<(b.length:Int))<|gd (0<=a/\a<(c.length:Int))<|br (!((((gl b a.toNat).L_)==((gl c a.toNat).L_))&&((((gl b a.toNat).w_)==((gl c a.toNat).w_))&&((((gl b a.toNat).R_)==((gl c a.toNat).R_))&&((((gl b a.toNat).H_)==((gl c a.toNat).H_))&&true))))) (some false) (gd (I64 (a+1))<|d (a+1))) (Z6l F)
def Z2R(F:Nat)(a b:List Rect):Option Bool:=
 br ((a.length:Int) != (b.length:Int)) (some false) (Z2 (fun g (z:Int)=>Z6m F a b g z) F (0:Int))
def Z2g(F:Nat)(a:Re_):Option Bool:=
 (V2 F a.t_ ([]) (1:Int)).bind fun b=>(Z2R F b a.t_).bind fun c=>some c
def Z6k(F:Nat)(b:Re_)(c:(Int)->Option Bool)(a:Int):Option Bool:=
 br (decide (a<(b.t_.length:Int))) (gd (0<=a/\a<(b.t_.length:Int))<|(Q5T F (gl b.t_ a.toNat)).bind fun d=>br (!d) (some false) (gd (I64 (a+1))<|c (a+1))) (Z2g F b)
def Q0p(F:Nat)(a:Re_):Option Bool:=
 br (decide (120<(a.t_.length:Int))) (some false) (Z2 (fun g (z:Int)=>Z6k F a g z) F (0:Int))
def Q5D(F:Nat)(a:Bool):Option Bool:=
 some a
def Q7v(F:Nat)(a b:Re_):Option Bool:=
 (Q0p F a).bind fun c=>br c ((Q0p F b).bind fun d=>br d ((V2 F a.t_ b.t_ (2:Int)).bind fun e=>Q5D F (decide (0<(e.length:Int)))) (Q5D F false)) (Q5D F false)
def Q2m(F:Nat)(a:Int)(b:(Int)->Option Int)(c:Bool):Option Int:=
 br c (some (3:Int)) (gd (I64 (a+1))<|b (a+1))
def Q5t(F:Nat)(b:List Rg_)(a:Int)(c:(Int)->Option Int)(d:Bool):Option Int:=
 br d (some (7:Int)) (br (decide ((0:Int)<a)) (gd (I64 (a-1))<|gd (0<=(a-1)/\(a-1)<(b.length:Int))<|br (decide (((gl b a.toNat).y_)<((gl b (a-1).toNat).y_))) (Q2m F a c true) (gd (I64 (a-1))<|gd (0<=(a-1)/\(a-1)<(b.length:Int))<|br (((gl b a.toNat).y_)==((gl b (a-1).toNat).y_)) (gd (I64 (a-1))<|gd (0<=(a-1)/\(a-1)<(b.length:Int))<|Q2m F a c (decide (((gl b a.toNat).c_)<=((gl b (a-1).toNat).c_)))) (Q2m F a c false))) (Q2m F a c false))
def Q5u(F:Nat)(b:List Rg_)(a:Int)(c:(Int)->Option Int)(d:Bool):Option Int:=
 br d (some (13:Int)) ((Q0p F ((gl b a.toNat).g_)).bind fun e=>br (!e) (Q5t F b a c true) (Q5t F b a c (((List.length ((gl b a.toNat).g_.t_):Nat):Int)==(0:Int))))
def Q5v(F:Nat)(b:List Rg_)(a:Int)(c:(Int)->Option Int)(d:Bool):Option Int:=
 br d (some (18:Int)) (br (decide (((gl b a.toNat).c_)<0)) (Q5u F b a c true) (Q5u F b a c (decide ((40:Int)<=((gl b a.toNat).c_)))))
def Q5r(F:Nat)(a:Int)(b:(Int)->Option Int)(c:Bool):Option Int:=
 br c (some (11:Int)) (gd (I64 (a+1))<|b (a+1))
def Z1Z(F:Nat)(a:Int)(b:(Int)->Option Int):Option Int:=
 gd (I64 (a+1))<|b (a+1)
def Z5Z(F:Nat)(c:List Rg_)(a:Int)(e d:(Int)->Option Int)(b:Int):Option Int:=
 br (decide (b<((List.length (c.take a.toNat):Nat):Int))) (gd (0<=b/\b<((List.length (c.take a.toNat):Nat):Int))<|br (((gl (c.take a.toNat) b.toNat).y_)==((gl c a.toNat).y_)) ((Q7v F ((gl (c.take a.toNat) b.toNat).g_) ((gl c a.toNat).g_)).bind fun i=>Q5r F b d i) (Q5r F b d false)) (Z1Z F a e)
def Z5a(F:Nat):Option Int:=
 some (0:Int)
def Z6a(F:Nat)(b:List Rg_)(c:(Int)->Option Int)(a:Int):Option Int:=
 br (decide (a<(b.length:Int))) (gd (0<=a/\a<(b.length:Int))<|gd (0<=a/\a<=(b.length:Int))<|Z2 (fun g (z:Int)=>Z5Z F b a c g z) F (0:Int)) (Z5a F)
def Q5s(F:Nat)(a:List Rg_):Option Int:=
 Z2 (fun g (z:Int)=>Z6a F a g z) F (0:Int)
def Z6b(F:Nat)(b:List Rg_)(c:(Int)->Option Int)(a:Int):Option Int:=
 br (decide (a<(b.length:Int))) (gd (0<=a/\a<(b.length:Int))<|br (decide (((gl b a.toNat).y_)<0)) (Q5v F b a c true) (Q5v F b a c (decide ((100:Int)<((gl b a.toNat).y_))))) (Q5s F b)
def Z2M(F:Nat)(a:List Rg_):Option Int:=
 br (decide (200<(a.length:Int))) (some (1:Int)) (Z2 (fun g (z:Int)=>Z6b F a g z) F (0:Int))
def Q5R(F:Nat)(a:Int)(b:((List Rect)×Int×(List Rg_))->Option ((List Rg_)×Int))(c:List Rect)(d:List Rg_):Option ((List Rg_)×Int):=
 gd (I64 (a+1))<|b (c,(a+1),d)
def Q7W(F:Nat)(b:List Rg_)(i:List Rect)(a:Int)(c:List Rg_)(e:((List Rect)×Int×(List Rg_))->Option ((List Rg_)×Int))(d:List Rect):Option ((List Rg_)×Int):=
 br (decide (0<(d.length:Int))) (gd (c.length+(List.length ([(⟨(gl b a.toNat).y_,(gl b a.toNat).c_,(⟨d⟩:Re_)⟩:Rg_)]:List Rg_))<=LIM)<|Q5R F a e i (c++([(⟨(gl b a.toNat).y_,(gl b a.toNat).c_,(⟨d⟩:Re_)⟩:Rg_)]:List Rg_))) (Q5R F a e i c)
def Q7X(F:Nat)(b:List Rg_)(j:Int)(k:Re_)(d:List Rect)(a:Int)(e:List Rg_)(c:((List Rect)×Int×(List Rg_))->Option ((List Rg_)×Int))(i:Bool):Option ((List Rg_)×Int):=
 br i ((V2 F d ((gl b a.toNat).g_.t_) (1:Int)).bind fun l=>Q5R F a c l e) (br (((gl b a.toNat).y_)==j) ((V2 F ((gl b a.toNat).g_.t_) k.t_ (3:Int)).bind fun m=>Q7W F b d a e c m) (Q7W F b d a e c ((gl b a.toNat).g_.t_)))
def Z7T(F:Nat)(a:List Rg_):Option ((List Rg_)×Int):=
 some (a,(0:Int))
def Z7U(F:Nat)(b:List Rg_)(c:(Int)->Option ((List Rg_)×Int))(a:Int):Option ((List Rg_)×Int):=
 br (decide (a<(b.length:Int))) (gd (0<=a/\a<(b.length:Int))<|br (decide ((120:Int)<((List.length ((gl b a.toNat).g_.t_):Nat):Int))) (some ([],(1:Int))) (gd (I64 (a+1))<|c (a+1))) (Z7T F b)
def Q6x(F:Nat)(a:List Rg_):Option ((List Rg_)×Int):=
 br (decide (200<(a.length:Int))) (some ([],(1:Int))) (Z2 (fun g (z:Int)=>Z7U F a g z) F (0:Int))
def Z1o(F:Nat)(d e:Int)(c:List Rect)(b:List Rg_)(a:Int):Option ((List Rg_)×Int):=
 gd (0<=(0:Int)/\(0:Int)<=a/\((0:Nat):Int)+a<=(b.length:Int))<|gd (0+((a).toNat)<=List.length b)<|gd ((0)+(((a).toNat))<=LIM)<|gd (((0)+(((a).toNat)))+(List.length ([(⟨d,e,(⟨c⟩:Re_)⟩:Rg_)]:List Rg_))<=LIM)<|gd (0<=a/\a<=((b.length:Nat):Int)/\((0:Nat):Int)+((b.length:Nat):Int)<=(b.length:Int))<|gd ((0+(a).toNat)+(b.length-(a).toNat)<=List.length b)<|gd ((((0)+(((a).toNat)))+(List.length ([(⟨d,e,(⟨c⟩:Re_)⟩:Rg_)]:List Rg_)))+((b.length-(a).toNat))<=LIM)<|Q6x F (((([]:List Rg_)++((b.drop 0).take ((a).toNat)))++([(⟨d,e,(⟨c⟩:Re_)⟩:Rg_)]:List Rg_))++((b.drop (0+(a).toNat)).take (b.length-(a).toNat)))
def Q4d(F:Nat)(i j:Int)(c:List Rect)(d:List Rg_)(a:Int)(b:(Int)->Option ((List Rg_)×Int))(e:Bool):Option ((List Rg_)×Int):=
 br e (gd (I64 (a+1))<|b (a+1)) (Z1o F i j c d a)
def Z9p(F:Nat)(c d:Int)(i:List Rect)(b:List Rg_)(e:(Int)->Option ((List Rg_)×Int))(a:Int):Option ((List Rg_)×Int):=
 br (decide (a<(b.length:Int))) (gd (0<=a/\a<(b.length:Int))<|br (decide (((gl b a.toNat).y_)<c)) (Q4d F c d i b a e true) (gd (0<=a/\a<(b.length:Int))<|br (((gl b a.toNat).y_)==c) (gd (0<=a/\a<(b.length:Int))<|Q4d F c d i b a e (decide (((gl b a.toNat).c_)<d))) (Q4d F c d i b a e false))) (Q4d F c d i b a e false)
def Q7V(F:Nat)(c d:Int)(a:List Rect)(b:List Rg_):Option ((List Rg_)×Int):=
 br (decide (0<(a.length:Int))) (Z2 (fun g (z:Int)=>Z9p F c d a b g z) F (0:Int)) (Q6x F b)
def Z4t(F:Nat)(b:List Rg_)(c j:Int)(k:Re_)(i:((List Rect)×Int×(List Rg_))->Option ((List Rg_)×Int))(d:List Rect)(a:Int)(e:List Rg_):Option ((List Rg_)×Int):=
 br (decide (a<(b.length:Int))) (gd (0<=a/\a<(b.length:Int))<|br (((gl b a.toNat).y_)==c) (Q7X F b c k d a e i (((gl b a.toNat).c_)==j)) (Q7X F b c k d a e i false)) (Q7V F c j d e)
def Q7Y(F:Nat)(c:List Rg_)(d e:Int)(a:Re_)(b:Bool):Option ((List Rg_)×Int):=
 br b (some ([],(13:Int))) ((Q0p F a).bind fun i=>br (!i) (some ([],(7:Int))) (Z2 (fun g (z:(List Rect)×Int×(List Rg_))=>Z4t F c d e a g z.1 z.2.1 z.2.2) F (a.t_,(0:Int),([]:List Rg_))))
def Q7Z(F:Nat)(b:List Rg_)(c a:Int)(d:Re_)(e:Bool):Option ((List Rg_)×Int):=
 br e (some ([],(18:Int))) (br (decide (a<0)) (Q7Y F b c a d true) (Q7Y F b c a d (decide ((40:Int)<=a))))
def Z7a(F:Nat)(b:List Rg_)(a c:Int)(d:Re_):Option ((List Rg_)×Int):=
 (Z2M F b).bind fun e=>br (e != (0:Int)) (some ([],e)) (br (decide (a<0)) (Q7Z F b a c d true) (Q7Z F b a c d (decide ((100:Int)<a))))
def Z0e(F:Nat)(a:List Rg_)(b:List Int)(c:Int):Option (Tape×(List Rg_)):=
 some ((⟨b,c⟩:Tape),a)
def Q2T(F:Nat)(m:List Crop)(i:Int)(l:((List Rg_)×Int×(List Int)×Int)->Option (Tape×(List Rg_)))(c:List Rg_)(a:Int)(d:List Int)(e:Int):Option (Tape×(List Rg_)):=
 br (decide ((0:Int)<a)) (gd (I64 (i+1))<|(Z9 F (⟨d,e⟩:Tape) (i+1)).bind fun j=>(Z9 F j.1 (m.length:Int)).bind fun k=>(Q1Y F k.1 (9:Int) (2:Int)).bind fun b=>(Z7a F c j.2 k.2 b.2).bind fun n=>gd (I64 (a-1))<|l (n.1,(a-1),b.1.l_,b.1.at_)) (Z0e F c d e)
def Q5c(F:Nat)(c:Tape)(d:List Crop)(e b:Int):Option (Tape×(List Rg_)):=
 gd (I64 (b+1))<|(Z9 F c (b+1)).bind fun a=>Z2 (fun g (z:(List Rg_)×Int×(List Int)×Int)=>Q2T F d e g z.1 z.2.1 z.2.2.1 z.2.2.2) F (([]:List Rg_),a.2,a.1.l_,a.1.at_)
def Q5d(F:Nat)(e:Tape)(i:Int):Option (Tape×A2_):=
 (Z9 F e (20:Int)).bind fun a=>(Z9 F a.1 (16:Int)).bind fun c=>(U3 F c.1 (1:Int) (30:Int)).bind fun b=>gd (I64 (a.2+b.2))<|(Q2r F b.1 (9:Int) (2:Int)).bind fun d=>some (d.1,(⟨i,c.2,a.2,(a.2+b.2),d.2⟩:A2_))
def Q5S(F:Nat)(a:Bool):Option Int:=
 br a (some (7:Int)) (some (0:Int))
def Q2O(F:Nat)(a:A2_)(b:Bool):Option Int:=
 br b (some (9:Int)) ((Q0p F a.g_).bind fun c=>br (!c) (Q5S F true) (Q5S F ((a.g_.t_.length:Int)==0)))
def Q2P(F:Nat)(a:A2_)(b:Bool):Option Int:=
 br b (some (14:Int)) (br (decide (a.F_<0)) (Q2O F a true) (br (decide (a.u_<=a.F_)) (Q2O F a true) (Q2O F a (decide ((36865:Int)<a.u_)))))
def Z1p(F:Nat)(a:A2_)(b:Bool):Option Int:=
 br b (some (2:Int)) (br (decide (a.k_<0)) (Q2P F a true) (Q2P F a (decide ((15:Int)<a.k_))))
def Z3G(F:Nat)(a:A2_):Option Int:=
 br (decide (a.N_<1)) (Z1p F a true) (Z1p F a (decide ((1073741824:Int)<a.N_)))
def Q5x(F:Nat)(a:Int)(b:(Int)->Option Int)(c:Bool):Option Int:=
 br c (some (3:Int)) (gd (I64 (a+1))<|b (a+1))
def Z6e(F:Nat):Option Int:=
 some (0:Int)
def Z6f(F:Nat)(b:List A2_)(c:(Int)->Option Int)(a:Int):Option Int:=
 br (decide (a<(b.length:Int))) (gd (0<=a/\a<(b.length:Int))<|(Z3G F (gl b a.toNat)).bind fun d=>br (d != (0:Int)) (some d) (br (decide ((0:Int)<a)) (gd (I64 (a-1))<|gd (0<=(a-1)/\(a-1)<(b.length:Int))<|Q5x F a c (decide (((gl b a.toNat).N_)<=((gl b (a-1).toNat).N_)))) (Q5x F a c false))) (Z6e F)
def Q9X(F:Nat)(a:List A2_):Option Int:=
 br (decide (60<(a.length:Int))) (some (1:Int)) (Z2 (fun g (z:Int)=>Z6f F a g z) F (0:Int))
def Q8a(F:Nat)(b:List A2_)(c:A2_)(a:Int)(d:Bool):Option ((List A2_)×Int):=
 br d (some ([],(6:Int))) (br ((b.length:Int)==60) (some ([],(1:Int))) (gd (0<=a/\a<=(b.length:Int))<|gd ((0)+(List.length (b.take a.toNat))<=LIM)<|gd (((0)+(List.length (b.take a.toNat)))+(List.length ([c]:List A2_))<=LIM)<|gd (0<=a/\a<=(b.length:Int))<|gd ((((0)+(List.length (b.take a.toNat)))+(List.length ([c]:List A2_)))+(List.length (b.drop a.toNat))<=LIM)<|some ((((([]:List A2_)++(b.take a.toNat))++([c]:List A2_))++(b.drop a.toNat)),(0:Int))))
def Z1q(F:Nat)(b:List A2_)(c:A2_)(a:Int):Option ((List A2_)×Int):=
 br (decide (a<(b.length:Int))) (gd (0<=a/\a<(b.length:Int))<|Q8a F b c a (((gl b a.toNat).N_)==c.N_)) (Q8a F b c a false)
def Q8b(F:Nat)(d:List A2_)(e:A2_)(a:Int)(b:(Int)->Option ((List A2_)×Int))(c:Bool):Option ((List A2_)×Int):=
 br c (gd (I64 (a+1))<|b (a+1)) (Z1q F d e a)
def Z9s(F:Nat)(b:List A2_)(c:A2_)(d:(Int)->Option ((List A2_)×Int))(a:Int):Option ((List A2_)×Int):=
 br (decide (a<(b.length:Int))) (gd (0<=a/\a<(b.length:Int))<|Q8b F b c a d (decide (((gl b a.toNat).N_)<c.N_))) (Q8b F b c a d false)
def Z7b(F:Nat)(a:List A2_)(b:A2_):Option ((List A2_)×Int):=
 (Q9X F a).bind fun c=>br (c != (0:Int)) (some ([],c)) ((Z3G F b).bind fun d=>br (d != (0:Int)) (some ([],d)) (Z2 (fun g (z:Int)=>Z9s F a b g z) F (0:Int)))
def Q2q(F:Nat)(a:Int)(b:((List A2_)×Int×(List Int)×Int)->Option (Tape×(List A2_)))(c:List A2_)(d:List Int)(e:Int):Option (Tape×(List A2_)):=
 gd (I64 (a-1))<|b (c,(a-1),d,e)
def Z2q(F:Nat)(a:List A2_)(b:List Int)(c:Int):Option (Tape×(List A2_)):=
 some ((⟨b,c⟩:Tape),a)
def Q1h(F:Nat)(d:((List A2_)×Int×(List Int)×Int)->Option (Tape×(List A2_)))(b:List A2_)(c:Int)(e:List Int)(i:Int):Option (Tape×(List A2_)):=
 br (decide ((0:Int)<c)) ((U3 F (⟨e,i⟩:Tape) (1:Int) (12:Int)).bind fun j=>(Q5d F j.1 j.2).bind fun a=>(Z7b F b a.2).bind fun k=>br (k.2==(0:Int)) (Q2q F c d k.1 a.1.l_ a.1.at_) (Q2q F c d b a.1.l_ a.1.at_)) (Z2q F b e i)
def Q6W(F:Nat)(c:Tape)(b:Int):Option (Tape×(List A2_)):=
 gd (I64 (b+1))<|(Z9 F c (b+1)).bind fun a=>Z2 (fun g (z:(List A2_)×Int×(List Int)×Int)=>Q1h F g z.1 z.2.1 z.2.2.1 z.2.2.2) F (([]:List A2_),a.2,a.1.l_,a.1.at_)
def Q4q(F:Nat)(j:Tape)(a:List Crop):Option (Tape×World):=
 (Z9 F j (5:Int)).bind fun b=>(Q5c F b.1 a (4:Int) (5:Int)).bind fun c=>(Q6W F c.1 (3:Int)).bind fun d=>(Z9 F d.1 (25:Int)).bind fun e=>(Z9 F e.1 (5:Int)).bind fun i=>some (i.1,(⟨b.2,a,c.2,d.2,e.2,i.2⟩:World))
def Z2a(F:Nat)(a:Bool):Option Int:=
 br a (some (9:Int)) (some (0:Int))
def Q7u(F:Nat)(c:List A2_)(a:Int):Option Int:=
 (Q9X F c).bind fun b=>br (b != (0:Int)) (some b) (br (decide (a<0)) (Z2a F true) (Z2a F (decide ((36864:Int)<a))))
def Z2c(F:Nat)(a:Bool):Option Bool:=
 some a
def Z2N(F:Nat)(a:A2_)(b:Int):Option Bool:=
 br (decide (a.F_<=b)) (Z2c F (decide (b<a.u_))) (Z2c F false)
def Q3B(F:Nat)(a:Int)(b:((List Rect)×Int)->Option (List Rect))(c:List Rect):Option (List Rect):=
 gd (I64 (a+1))<|b (c,(a+1))
def Q1X(F:Nat)(e:List A2_)(c:List Rect)(a:Int)(b:((List Rect)×Int)->Option (List Rect))(d:Bool):Option (List Rect):=
 br d ((V2 F c ((gl e a.toNat).g_.t_) (1:Int)).bind fun i=>Q3B F a b i) (Q3B F a b c)
def Q8W(F:Nat)(a:List Rect):Option (List Rect):=
 some a
def Z3H(F:Nat)(b:List A2_)(e i j:Int)(d:((List Rect)×Int)->Option (List Rect))(c:List Rect)(a:Int):Option (List Rect):=
 br (decide (a<(b.length:Int))) (gd (0<=a/\a<(b.length:Int))<|(Z2N F (gl b a.toNat) j).bind fun k=>br k (br (decide (e<=((gl b a.toNat).k_))) (Q1X F b c a d (decide (((gl b a.toNat).k_)<=i))) (Q1X F b c a d false)) (Q1X F b c a d false)) (Q8W F c)
def Q6z(F:Nat)(a:List A2_)(b c d:Int):Option (List Rect):=
 Z2 (fun g (z:(List Rect)×Int)=>Z3H F a b c d g z.1 z.2) F (([]:List Rect),(0:Int))
def Z2b(F:Nat)(a:List A2_)(b:Int):Option (Re_×Int):=
 (Q7u F a b).bind fun c=>br (c != (0:Int)) (some ((⟨[]⟩:Re_),c)) ((Q6z F a (0:Int) (7:Int) b).bind fun e=>(Q3V F e).bind fun d=>some (d.1,d.2))
def Q5y(F:Nat)(a b:Rect)(c:Bool):Option Int:=
 br c (gd (I64 ((Q2b a.R_ b.R_)-(G2 a.L_ b.L_)))<|some (G2 (0:Int) ((Q2b a.R_ b.R_)-(G2 a.L_ b.L_)))) (some (0:Int))
def Q5z(F:Nat)(a b:Rect)(c:Bool):Option Int:=
 br c (gd (I64 ((Q2b a.H_ b.H_)-(G2 a.w_ b.w_)))<|some (G2 (0:Int) ((Q2b a.H_ b.H_)-(G2 a.w_ b.w_)))) (br (a.H_==b.w_) (Q5y F a b true) (Q5y F a b (b.H_==a.w_)))
def Z2P(F:Nat)(a b:Rect):Option Int:=
 br (a.R_==b.L_) (Q5z F a b true) (Q5z F a b (b.R_==a.L_))
def Q5B(F:Nat)(a:Int)(b:(Bool×Int×(List Int))->Option ((List Re_)×Int))(c:Bool)(d:List Int):Option ((List Re_)×Int):=
 gd (I64 (a+1))<|b (c,(a+1),d)
def Q5C(F:Nat)(c:Int)(e:Bool)(a:Int)(b:List Int)(d:(Bool×Int×(List Int))->Option ((List Re_)×Int))(i:Bool):Option ((List Re_)×Int):=
 br i (gd (0<=a/\a<(b.length:Int))<|gd (0<=c/\c<(b.length:Int))<|Q5B F a d true (List.set b c.toNat (gl b a.toNat))) (Q5B F a d e b)
def Z2e(F:Nat)(a:Int)(b:(Bool×Int×(List Int))->Option ((List Re_)×Int))(c:Bool)(d:List Int):Option ((List Re_)×Int):=
 gd (I64 (a+1))<|b (c,(a+1),d)
def Z2f(F:Nat)(d:Re_)(a:Int)(k:List Int)(j i:(Bool×Int×(List Int))->Option ((List Re_)×Int))(e:Bool)(b:Int)(c:List Int):Option ((List Re_)×Int):=
 br (decide (b<(k.length:Int))) (gd (0<=b/\b<(c.length:Int))<|gd (0<=a/\a<(c.length:Int))<|br (decide ((gl c b.toNat)<(gl c a.toNat))) (gd (0<=a/\a<(d.t_.length:Int))<|gd (0<=b/\b<(d.t_.length:Int))<|(Z2P F (gl d.t_ a.toNat) (gl d.t_ b.toNat)).bind fun l=>Q5C F a e b c i (decide ((0:Int)<l))) (Q5C F a e b c i false)) (Z2e F a j e c)
def Z6h(F:Nat)(j:Re_)(i:List Int)(d:(Bool×(List Int))->Option ((List Re_)×Int))(e:(Bool×Int×(List Int))->Option ((List Re_)×Int))(b:Bool)(c:Int)(a:List Int):Option ((List Re_)×Int):=
 br (decide (c<(i.length:Int))) (Z2 (fun g (z:Bool×Int×(List Int))=>Z2f F j c a e g z.1 z.2.1 z.2.2) F (b,(0:Int),a)) (d (b,a))
def Q4o(F:Nat)(a:Int)(b:(Int×(List Re_))->Option ((List Re_)×Int))(c:List Re_):Option ((List Re_)×Int):=
 gd (I64 (a+1))<|b ((a+1),c)
def Q4p(F:Nat)(a:Int)(b:(Int×(List Rect))->Option ((List Re_)×Int))(c:List Rect):Option ((List Re_)×Int):=
 gd (I64 (a+1))<|b ((a+1),c)
def Z0B(F:Nat)(d:Int)(a:List Re_)(c:(Int×(List Re_))->Option ((List Re_)×Int))(e:List Rect):Option ((List Re_)×Int):=
 (V2 F e ([]) (1:Int)).bind fun b=>gd (a.length+(List.length ([(⟨b⟩:Re_)]:List Re_))<=LIM)<|Q4o F d c (a++([(⟨b⟩:Re_)]:List Re_))
def Z5b(F:Nat)(d:Re_)(c:List Int)(i:Int)(k:List Re_)(j:(Int×(List Re_))->Option ((List Re_)×Int))(e:(Int×(List Rect))->Option ((List Re_)×Int))(a:Int)(b:List Rect):Option ((List Re_)×Int):=
 br (decide (a<(c.length:Int))) (gd (0<=a/\a<(c.length:Int))<|br ((gl c a.toNat)==i) (gd (0<=a/\a<(d.t_.length:Int))<|gd (b.length+(List.length ([(gl d.t_ a.toNat)]:List Rect))<=LIM)<|Q4p F a e (b++([(gl d.t_ a.toNat)]:List Rect))) (Q4p F a e b)) (Z0B F i k j b)
def Z0A(F:Nat)(a:List Re_):Option ((List Re_)×Int):=
 some (a,(0:Int))
def Z6g(F:Nat)(e:Re_)(b:List Int)(d:(Int×(List Re_))->Option ((List Re_)×Int))(a:Int)(c:List Re_):Option ((List Re_)×Int):=
 br (decide (a<(b.length:Int))) (gd (0<=a/\a<(b.length:Int))<|br ((gl b a.toNat) != a) (Q4o F a d c) (Z2 (fun g (z:Int×(List Rect))=>Z5b F e b a c d g z.1 z.2) F ((0:Int),([]:List Rect)))) (Z0A F c)
def Q5A(F:Nat)(b:Re_)(a:List Int):Option ((List Re_)×Int):=
 Z2 (fun g (z:Int×(List Re_))=>Z6g F b a g z.1 z.2) F ((0:Int),([]:List Re_))
def Z6i(F:Nat)(b:Re_)(c:(Bool×(List Int))->Option ((List Re_)×Int))(d:Bool)(a:List Int):Option ((List Re_)×Int):=
 br d (Z2 (fun g (z:Bool×Int×(List Int))=>Z6h F b a c g z.1 z.2.1 z.2.2) F (false,(0:Int),a)) (Q5A F b a)
def Q8c(F:Nat)(b:Re_)(a:List Int):Option ((List Re_)×Int):=
 Z2 (fun g (z:Bool×(List Int))=>Z6i F b g z.1 z.2) F (true,a)
def Z6j(F:Nat)(c:Re_)(d:(Int×(List Int))->Option ((List Re_)×Int))(a:Int)(b:List Int):Option ((List Re_)×Int):=
 br (decide (a<((List.length (List.replicate ((c.t_.length:Int)).toNat (0:Int)):Nat):Int))) (gd (0<=a/\a<(b.length:Int))<|gd (I64 (a+1))<|d ((a+1),(List.set b a.toNat a))) (Q8c F c b)
def Q9Y(F:Nat)(a:Re_):Option ((List Re_)×Int):=
 (Q0p F a).bind fun b=>br (!b) (some ([],(7:Int))) (gd (0<=(a.t_.length:Int)/\(a.t_.length:Int)<=((LIM:Nat):Int))<|Z2 (fun g (z:Int×(List Int))=>Z6j F a g z.1 z.2) F ((0:Int),(List.replicate ((a.t_.length:Int)).toNat (0:Int))))
def Z7Y(F:Nat)(a:Int):Option Int:=
 some a
def Z7Z(F:Nat)(b:List Rect)(d:(Int×Int)->Option Int)(c a:Int):Option Int:=
 br (decide (a<(b.length:Int))) (gd (0<=a/\a<(b.length:Int))<|gd (I64 (((gl b a.toNat).R_)-((gl b a.toNat).L_)))<|gd (I64 (((gl b a.toNat).H_)-((gl b a.toNat).w_)))<|gd (I64 ((((gl b a.toNat).R_)-((gl b a.toNat).L_))*(((gl b a.toNat).H_)-((gl b a.toNat).w_))))<|gd (I64 (c+((((gl b a.toNat).R_)-((gl b a.toNat).L_))*(((gl b a.toNat).H_)-((gl b a.toNat).w_)))))<|gd (I64 (a+1))<|d ((c+((((gl b a.toNat).R_)-((gl b a.toNat).L_))*(((gl b a.toNat).H_)-((gl b a.toNat).w_)))),(a+1))) (Z7Y F c)
def Z4w(F:Nat)(a:List Rect):Option Int:=
 Z2 (fun g (z:Int×Int)=>Z7Z F a g z.1 z.2) F ((0:Int),(0:Int))
def Q3f(F:Nat)(a:Re_):Option Int:=
 (Q0p F a).bind fun b=>br (!b) (some (0:Int)) ((Z4w F a.t_).bind fun c=>some c)
def Q6y(F:Nat)(a:Int)(b:((List Rect)×Int)->Option (Re_×Int))(c:List Rect):Option (Re_×Int):=
 gd (I64 (a+1))<|b (c,(a+1))
def Z3i(F:Nat)(b:List Rect):Option (Re_×Int):=
 (Q3V F b).bind fun a=>some (a.1,a.2)
def Z7V(F:Nat)(e:Int)(b:(List Re_)×Int)(d:((List Rect)×Int)->Option (Re_×Int))(c:List Rect)(a:Int):Option (Re_×Int):=
 br (decide (a<(b.1.length:Int))) (gd (0<=a/\a<(b.1.length:Int))<|(Q3f F (gl b.1 a.toNat)).bind fun i=>br (decide (e<i)) ((V2 F c ((gl b.1 a.toNat).t_) (1:Int)).bind fun j=>Q6y F a d j) (Q6y F a d c)) (Z3i F c)
def Q3d(F:Nat)(b:Int)(c:List Rect)(a:Bool):Option (Re_×Int):=
 br a (some ((⟨[]⟩:Re_),(1:Int))) ((Q9Y F (⟨c⟩:Re_)).bind fun d=>Z2 (fun g (z:(List Rect)×Int)=>Z7V F b d g z.1 z.2) F (([]:List Rect),(0:Int)))
def Q9C(F:Nat)(e:List A2_)(i b:Int)(j:Re_)(d:Bool):Option (Re_×Int):=
 br d (some ((⟨[]⟩:Re_),(2:Int))) ((Q6z F e (8:Int) (11:Int) i).bind fun c=>(V2 F c j.t_ (2:Int)).bind fun a=>br (decide (120<(c.length:Int))) (Q3d F b a true) (Q3d F b a (decide (120<(a.length:Int)))))
def Q5w(F:Nat)(b:List A2_)(c a:Int)(d:Re_):Option (Re_×Int):=
 (Q7u F b c).bind fun e=>br (e != (0:Int)) (some ((⟨[]⟩:Re_),e)) ((Q0p F d).bind fun i=>br (!i) (some ((⟨[]⟩:Re_),(7:Int))) (br (decide (a<0)) (Q9C F b c a d true) (Q9C F b c a d (decide ((268435456:Int)<a)))))
def Q4W(F:Nat)(c:Re_)(d:List A2_)(e k:Int)(j:Bool):Option (Re_×Int):=
 br j (some ((⟨[]⟩:Re_),(2:Int))) ((Z2b F d e).bind fun a=>br (a.2 != (0:Int)) (some ((⟨[]⟩:Re_),a.2)) ((Q5w F d e k c).bind fun b=>br (b.2 != (0:Int)) (some ((⟨[]⟩:Re_),b.2)) ((V2 F c.t_ a.1.t_ (3:Int)).bind fun l=>(V2 F l b.1.t_ (3:Int)).bind fun m=>(Q3V F m).bind fun i=>some (i.1,i.2))))
def Q1u(F:Nat)(b:Re_)(c:List A2_)(d a:Int):Option (Re_×Int):=
 (Q7u F c d).bind fun e=>br (e != (0:Int)) (some ((⟨[]⟩:Re_),e)) ((Q0p F b).bind fun i=>br (!i) (some ((⟨[]⟩:Re_),(7:Int))) (br (decide (a<0)) (Q4W F b c d a true) (Q4W F b c d a (decide ((268435456:Int)<a)))))
def Q6s(F:Nat):Option Int:=
 some (-1:Int)
def U8(F:Nat)(b:List Rect)(d:Rect->Option Bool)(c:(Int)->Option Int)(a:Int):Option Int:=
 br (decide (a<(b.length:Int))) (gd (0<=a/\a<(b.length:Int))<|(d (gl b a.toNat)).bind fun e=>br e (some a) (gd (I64 (a+1))<|c (a+1))) (Q6s F)
def Q4G(F:Nat)(a:List Rect)(b:Rect->Option Bool):Option Int:=
 Z2 (fun g (z:Int)=>U8 F a b g z) F (0:Int)
def G8(F:Nat)(a:List Rect)(b:Rect->Option Bool):Option Bool:=
 (Q4G F a b).bind fun c=>some (decide ((0:Int)<=c))
def J4(F:Nat)(a:Bool):Option Bool:=
 some a
def Q9x(F:Nat)(a:Rect):Option Bool:=
 br (decide ((0:Int)<=a.L_)) (br (decide (a.L_<a.R_)) (br (decide (a.R_<=16384)) (br (decide ((0:Int)<=a.w_)) (br (decide (a.w_<a.H_)) (J4 F (decide (a.H_<=16384))) (J4 F false)) (J4 F false)) (J4 F false)) (J4 F false)) (J4 F false)
def Z1Q(F:Nat)(a:Rect):Option Bool:=
 (Q9x F a).bind fun b=>some (!b)
def Q2y(F:Nat)(a:Int)(b:(Int×Int×(List Int))->Option (List Int))(c:Int)(d:List Int):Option (List Int):=
 gd (I64 (a+1))<|b (c,(a+1),d)
def Q4L(F:Nat)(a:Int)(b:List Int):Option (List Int):=
 gd (0<=a/\a<=((b.length:Nat):Int)/\((0:Nat):Int)+((b.length:Nat):Int)<=(b.length:Int))<|gd (0<=a/\a<=((List.length (clr b (0+(a).toNat) (b.length-(a).toNat)):Nat):Int))<|some ((clr b (0+(a).toNat) (b.length-(a).toNat)).take (a).toNat)
def Q8E(F:Nat)(e:List Int)(b:Int)(i:(Int×Int×(List Int))->Option (List Int))(d a:Int)(c:List Int):Option (List Int):=
 br (decide (a<(((e.length-(b).toNat):Nat):Int))) (gd (0<=a/\a<(((e.length-(b).toNat):Nat):Int))<|gd (((0+(b).toNat)+(a).toNat)<List.length c)<|gd (I64 (a-1))<|gd (0<=(a-1)/\(a-1)<(((e.length-(b).toNat):Nat):Int))<|gd (((0+(b).toNat)+((a-1)).toNat)<List.length c)<|br ((gl c ((0+(b).toNat)+(a).toNat)) != (gl c ((0+(b).toNat)+((a-1)).toNat))) (gd (0<=a/\a<(((e.length-(b).toNat):Nat):Int))<|gd (((0+(b).toNat)+(a).toNat)<List.length c)<|gd (0<=d/\d<(c.length:Int))<|gd (I64 (d+1))<|Q2y F a i (d+1) (List.set c d.toNat (gl c ((0+(b).toNat)+(a).toNat)))) (Q2y F a i d c)) (Q4L F d c)
def Q4K(F:Nat)(a:Int)(b:(Int)->Option (List Int)):Option (List Int):=
 gd (I64 (a+1))<|b (a+1)
def Q4J(F:Nat)(a:List Int):Option (List Int):=
 some a
def Q8F(F:Nat)(b:List Int)(c:(Int)->Option (List Int))(a:Int):Option (List Int):=
 br (decide (a<(b.length:Int))) (gd (0<=a/\a<(b.length:Int))<|gd (I64 (a-1))<|gd (0<=(a-1)/\(a-1)<(b.length:Int))<|br ((gl b a.toNat)==(gl b (a-1).toNat)) (gd (0<=a/\a<=((b.length:Nat):Int)/\((0:Nat):Int)+((b.length:Nat):Int)<=(b.length:Int))<|Z2 (fun g (z:Int×Int×(List Int))=>Q8E F b a g z.1 z.2.1 z.2.2) F (a,(1:Int),b)) (Q4K F a c)) (Q4J F b)
def Q2g(F:Nat)(a:List Int):Option (List Int):=
 br (decide ((a.length:Int)<2)) (some a) (Z2 (fun g (z:Int)=>Q8F F a g z) F (1:Int))
def Z1T(F:Nat)(a:Int)(b:(Int×(List Int))->Option (List Int))(c:List Int):Option (List Int):=
 gd (I64 (a+1))<|b ((a+1),c)
def Z1U(F:Nat)(c:(List (List Rect)))(b:Int)(e i:(Int×(List Int))->Option (List Int))(a:Int)(d:List Int):Option (List Int):=
 br (decide (a<((List.length (gl c b.toNat):Nat):Int))) (gd (0<=a/\a<((List.length (gl c b.toNat):Nat):Int))<|gd (d.length+(List.length ([(gl (gl c b.toNat) a.toNat).w_,(gl (gl c b.toNat) a.toNat).H_]:List Int))<=LIM)<|gd (I64 (a+1))<|i ((a+1),(d++([(gl (gl c b.toNat) a.toNat).w_,(gl (gl c b.toNat) a.toNat).H_]:List Int)))) (Z1T F b e d)
def Z1S(F:Nat)(a:List Int):Option (List Int):=
 (Z7N a).bind fun b=>(Q2g F b).bind fun c=>some c
def Z1V(F:Nat)(b:(List (List Rect)))(d:(Int×(List Int))->Option (List Int))(a:Int)(c:List Int):Option (List Int):=
 br (decide (a<(b.length:Int))) (gd (0<=a/\a<(b.length:Int))<|Z2 (fun g (z:Int×(List Int))=>Z1U F b a d g z.1 z.2) F ((0:Int),c)) (Z1S F c)
def Q9W(F:Nat)(a:(List (List Rect))):Option (List Int):=
 Z2 (fun g (z:Int×(List Int))=>Z1V F a g z.1 z.2) F ((0:Int),([]:List Int))
def Q9I(F:Nat)(a:Int):Option Bool:=
 some (a != a)
def Q2E(F:Nat)(a b:Int):Option Int:=
 (Q9I F a).bind fun d=>(Q9I F b).bind fun c=>br d (br c (some (0:Int)) (some (-1:Int))) (br c (some (1:Int)) (br (decide (a<b)) (some (-1:Int)) (br (decide (b<a)) (some (1:Int)) (some (0:Int)))))
def Z1l(F:Nat)(a b:Span):Option Int:=
 (Q2E F a.L_ b.L_).bind fun c=>some c
def Q6v(F:Nat)(a:Int)(b:(Int×(List Span))->Option (List Span))(c:List Span):Option (List Span):=
 gd (I64 (a+1))<|b ((a+1),c)
def Q6w(F:Nat)(b:List Rect)(a:Int)(c:List Span)(d:(Int×(List Span))->Option (List Span))(e:Bool):Option (List Span):=
 br e (gd (c.length+(List.length ([(⟨(gl b a.toNat).L_,(gl b a.toNat).R_⟩:Span)]:List Span))<=LIM)<|Q6v F a d (c++([(⟨(gl b a.toNat).L_,(gl b a.toNat).R_⟩:Span)]:List Span))) (Q6v F a d c)
def Q6u(F:Nat)(a:Int)(b:(Int×(List Span))->Option (List Span))(c:List Span):Option (List Span):=
 gd (I64 (a+1))<|b ((a+1),c)
def Q4w(F:Nat)(c:List Span)(b:Int)(a:List Span)(d:(Int×(List Span))->Option (List Span))(e:Bool):Option (List Span):=
 br e (gd (I64 ((a.length:Int)-1))<|gd (I64 ((a.length:Int)-1))<|gd (0<=((a.length:Int)-1)/\((a.length:Int)-1)<(a.length:Int))<|gd (0<=((a.length:Int)-1)/\((a.length:Int)-1)<(a.length:Int))<|Q6u F b d (List.set a ((a.length:Int)-1).toNat (⟨(gl a ((a.length:Int)-1).toNat).L_,(G2 ((gl a ((a.length:Int)-1).toNat).R_) ((gl c b.toNat).R_))⟩:Span))) (gd (a.length+(List.length ([(gl c b.toNat)]:List Span))<=LIM)<|Q6u F b d (a++([(gl c b.toNat)]:List Span)))
def Z3f(F:Nat)(a:List Span):Option (List Span):=
 some a
def Z3g(F:Nat)(c:List Span)(d:(Int×(List Span))->Option (List Span))(b:Int)(a:List Span):Option (List Span):=
 br (decide (b<(c.length:Int))) (gd (0<=b/\b<(c.length:Int))<|br (decide (0<(a.length:Int))) (gd (I64 ((a.length:Int)-1))<|gd (0<=((a.length:Int)-1)/\((a.length:Int)-1)<(a.length:Int))<|Q4w F c b a d (decide (((gl c b.toNat).L_)<=((gl a ((a.length:Int)-1).toNat).R_)))) (Q4w F c b a d false)) (Z3f F a)
def Q9z(F:Nat)(a:List Span):Option (List Span):=
 (Y0W a (fun y0 y1=>Z1l F y0 y1)).bind fun b=>Z2 (fun g (z:Int×(List Span))=>Z3g F b g z.1 z.2) F ((0:Int),([]:List Span))
def Z3h(F:Nat)(b:List Rect)(e:Int)(d:(Int×(List Span))->Option (List Span))(a:Int)(c:List Span):Option (List Span):=
 br (decide (a<(b.length:Int))) (gd (0<=a/\a<(b.length:Int))<|br (decide (((gl b a.toNat).w_)<=e)) (Q6w F b a c d (decide (e<((gl b a.toNat).H_)))) (Q6w F b a c d false)) (Q9z F c)
def Q8R(F:Nat)(a:List Rect)(b:Int):Option (List Span):=
 Z2 (fun g (z:Int×(List Span))=>Z3h F a b g z.1 z.2) F ((0:Int),([]:List Span))
def Q7h(F:Nat)(a:Int)(b:List Rect):Option (List Span):=
 (Q8R F b a).bind fun c=>some c
def Q9N(F:Nat):Option Bool:=
 some true
def Q9O(F:Nat)(b c:List Span)(d:(Int)->Option Bool)(a:Int):Option Bool:=
 br (decide (a<(b.length:Int))) (gd (0<=a/\a<(b.length:Int))<|gd (0<=a/\a<(c.length:Int))<|br (!((((gl b a.toNat).L_)==((gl c a.toNat).L_))&&((((gl b a.toNat).R_)==((gl c a.toNat).R_))&&true))) (some false) (gd (I64 (a+1))<|d (a+1))) (Q9N F)
def Q4S(F:Nat)(a b:List Span):Option Bool:=
 br ((a.length:Int) != (b.length:Int)) (some false) (Z2 (fun g (z:Int)=>Q9O F a b g z) F (0:Int))
def Z0t(F:Nat)(a:Int)(b:(Int×(List Rect))->Option (List Rect))(c:List Rect):Option (List Rect):=
 gd (I64 (a+1))<|b ((a+1),c)
def Z0u(F:Nat)(b:List Band)(a:Int)(e i:(Int×(List Rect))->Option (List Rect))(c:Int)(d:List Rect):Option (List Rect):=
 br (decide (c<((List.length ((gl b a.toNat).spans_):Nat):Int))) (gd (0<=c/\c<((List.length ((gl b a.toNat).spans_):Nat):Int))<|gd (d.length+(List.length ([(⟨(gl ((gl b a.toNat).spans_) c.toNat).L_,(gl b a.toNat).w_,(gl ((gl b a.toNat).spans_) c.toNat).R_,(gl b a.toNat).H_⟩:Rect)]:List Rect))<=LIM)<|gd (I64 (c+1))<|i ((c+1),(d++([(⟨(gl ((gl b a.toNat).spans_) c.toNat).L_,(gl b a.toNat).w_,(gl ((gl b a.toNat).spans_) c.toNat).R_,(gl b a.toNat).H_⟩:Rect)]:List Rect)))) (Z0t F a e d)
def Z0s(F:Nat)(a:List Rect):Option (List Rect):=
 some a
def Z0v(F:Nat)(b:List Band)(d:(Int×(List Rect))->Option (List Rect))(a:Int)(c:List Rect):Option (List Rect):=
 br (decide (a<(b.length:Int))) (gd (0<=a/\a<(b.length:Int))<|Z2 (fun g (z:Int×(List Rect))=>Z0u F b a d g z.1 z.2) F ((0:Int),c)) (Z0s F c)
def Z1j(F:Nat)(a:List Band):Option (List Rect):=
 Z2 (fun g (z:Int×(List Rect))=>Z0v F a g z.1 z.2) F ((0:Int),([]:List Rect))
def Q4n(F:Nat)(a:Int)(b:(Int×(List Band))->Option (List Rect))(c:List Band):Option (List Rect):=
 gd (I64 (a+1))<|b ((a+1),c)
def Q1G(F:Nat)(c:List Int)(b:Int)(a:List Band)(e:List Span)(d:(Int×(List Band))->Option (List Rect))(i:Bool):Option (List Rect):=
 br i (gd (I64 ((a.length:Int)-1))<|gd (0<=((a.length:Int)-1)/\((a.length:Int)-1)<(a.length:Int))<|Q4n F b d (List.set a ((a.length:Int)-1).toNat (⟨(gl a ((a.length:Int)-1).toNat).w_,(gl c b.toNat),(gl a ((a.length:Int)-1).toNat).spans_⟩:Band))) (gd (a.length+(List.length ([(⟨(gl c (b-1).toNat),(gl c b.toNat),e⟩:Band)]:List Band))<=LIM)<|Q4n F b d (a++([(⟨(gl c (b-1).toNat),(gl c b.toNat),e⟩:Band)]:List Band)))
def Q6S(F:Nat)(a:List Band):Option (List Rect):=
 (Z1j F a).bind fun b=>some b
def Z4X(F:Nat)(c:List Int)(i:Int->Option (List Span))(e:(Int×(List Band))->Option (List Rect))(b:Int)(a:List Band):Option (List Rect):=
 br (decide (b<(c.length:Int))) (gd (I64 (b-1))<|gd (0<=(b-1)/\(b-1)<(c.length:Int))<|gd (0<=b/\b<(c.length:Int))<|gd (I64 (b-1))<|gd (0<=(b-1)/\(b-1)<(c.length:Int))<|(i (gl c (b-1).toNat)).bind fun d=>br (decide (0<(a.length:Int))) (gd (I64 ((a.length:Int)-1))<|gd (0<=((a.length:Int)-1)/\((a.length:Int)-1)<(a.length:Int))<|br (((gl a ((a.length:Int)-1).toNat).H_)==(gl c (b-1).toNat)) (gd (I64 ((a.length:Int)-1))<|gd (0<=((a.length:Int)-1)/\((a.length:Int)-1)<(a.length:Int))<|(Q4S F ((gl a ((a.length:Int)-1).toNat).spans_) d).bind fun j=>Q1G F c b a d e j) (Q1G F c b a d e false)) (Q1G F c b a d e false)) (Q6S F a)
def Q7N(F:Nat)(a:List Int)(b:Int->Option (List Span)):Option (List Rect):=
 Z2 (fun g (z:Int×(List Band))=>Z4X F a b g z.1 z.2) F ((1:Int),([]:List Band))
def Q3w(F:Nat)(a:List Rect):Option (List Rect):=
 (Q9W F ([a]:List (List Rect))).bind fun b=>(Q7N F b (fun y0=>Q7h F y0 a)).bind fun c=>some c
def Q9P(F:Nat):Option Bool:=
 some true
def Q9Q(F:Nat)(b c:List Rect)(d:(Int)->Option Bool)(a:Int):Option Bool:=
 br (decide (a<(b.length:Int))) (gd (0<=a/\a<(b.length:Int))<|gd (0<=a/\a<(c.length:Int))<|br (!((((gl b a.toNat).L_)==((gl c a.toNat).L_))&&((((gl b a.toNat).w_)==((gl c a.toNat).w_))&&((((gl b a.toNat).R_)==((gl c a.toNat).R_))&&((((gl b a.toNat).H_)==((gl c a.toNat).H_))&&true))))) (some false) (gd (I64 (a+1))<|d (a+1))) (Q9P F)
def Q4T(F:Nat)(a b:List Rect):Option Bool:=
 br ((a.length:Int) != (b.length:Int)) (some false) (Z2 (fun g (z:Int)=>Q9Q F a b g z) F (0:Int))
def Q6Q(F:Nat)(a:Re_)(b:Bool):Option Bool:=
 br b (some false) ((Q3w F a.t_).bind fun c=>(Q4T F c a.t_).bind fun d=>some d)
def Q0z(F:Nat)(a:Re_):Option Bool:=
 br (decide (120<(a.t_.length:Int))) (Q6Q F a true) ((G8 F a.t_ (fun y0=>Z1Q F y0)).bind fun b=>Q6Q F a b)
def Z3a(F:Nat)(rc:Term->Int->Option Int)(a:Int):Option Int:=
 some a
def Q9v(F:Nat)(rc:Term->Int->Option Int)(c:Term)(d:Int)(i:(Int×Int)->Option Int)(a b:Int):Option Int:=
 br (decide (b<(c.kids_.length:Int))) (gd (0<=b/\b<(c.kids_.length:Int))<|gd (I64 (gl c.kids_ b.toNat).op_)<|br (decide (d<a)) (Z3a F rc a) (gd (I64 (d-a))<|(rc (gl c.kids_ b.toNat) (d-a)).bind fun e=>gd (I64 (a+e))<|gd (I64 (b+1))<|i ((a+e),(b+1)))) (Z3a F rc a)
def Z0Z(F:Nat)(rc:Term->Int->Option Int)(a:Term)(b:Int):Option Int:=
 Z2 (fun g (z:Int×Int)=>Q9v F rc a b g z.1 z.2) F ((1:Int),(0:Int))
def Q5j:Nat->Term->Int->Option Int
 | 0=>fun _ _=>none
 | F+1=>Z0Z F (Q5j F)
def Q7G(F:Nat)(a:Bool):Option (Int×Int×Bool):=
 br a (some ((1:Int),(10:Int),true)) (some ((0:Int),(0:Int),false))
def Z2D(F:Nat)(a:Int):Option (Int×Int×Bool):=
 br (a==2) (some ((0:Int),(39:Int),true)) (br (a==3) (some ((0:Int),(40:Int),true)) (br (a==4) (some ((1:Int),(16:Int),true)) (br (a==5) (some ((0:Int),(15:Int),true)) (br (a==6) (some ((2:Int),(10:Int),true)) (br (a==7) (Q7G F (a==7)) (Q7G F (a==8)))))))
def Z0Y(F:Nat)(b:Int)(a:Bool):Option (Int×Int):=
 br a (some ((1:Int),(40:Int))) (br (b==11) (some ((1:Int),(1:Int))) (some ((0:Int),(0:Int))))
def Z6U(F:Nat)(a:Int):Option (Int×Int):=
 br (a==9) (Z0Y F a (a==9)) (Z0Y F a (a==10))
def Q8H(F:Nat)(a:Int):Option Int:=
 gd (0<=(1:Int))<|(some (Q5K .u64 (a.fdiv (2 ^ (min ((1:Int)).toNat (IntKind.bits .u64)))) (6148914691236517205:Int))).bind fun k=>(some (IntKind.wrap .u64 (k+(Q5K .u64 a (6148914691236517205:Int))))).bind fun b=>gd (0<=(2:Int))<|(some (Q5K .u64 (b.fdiv (2 ^ (min ((2:Int)).toNat (IntKind.bits .u64)))) (3689348814741910323:Int))).bind fun l=>(some (IntKind.wrap .u64 (l+(Q5K .u64 b (3689348814741910323:Int))))).bind fun c=>gd (0<=(4:Int))<|(some (IntKind.wrap .u64 ((c.fdiv (2 ^ (min ((4:Int)).toNat (IntKind.bits .u64))))+c))).bind fun d=>gd (0<=(8:Int))<|(some ((Q5K .u64 d (1085102592571150095:Int)).fdiv (2 ^ (min ((8:Int)).toNat (IntKind.bits .u64))))).bind fun m=>(some (IntKind.wrap .u64 ((Q5K .u64 d (1085102592571150095:Int))+m))).bind fun e=>gd (0<=(16:Int))<|(some (IntKind.wrap .u64 (e+(e.fdiv (2 ^ (min ((16:Int)).toNat (IntKind.bits .u64))))))).bind fun i=>gd (0<=(32:Int))<|(some (IntKind.wrap .u64 (i+(i.fdiv (2 ^ (min ((32:Int)).toNat (IntKind.bits .u64))))))).bind fun j=>gd (I64 j)<|some (Q5K .i64 j (127:Int))
def Z0S(F:Nat)(a:Int):Option Int:=
 (Q8H F a).bind fun b=>some b
def Q7E(F:Nat)(a:Bool):Option Bool:=
 some a
def Q3R(F:Nat)(a:Int):Option Bool:=
 br (decide ((1:Int)<=a)) (br (decide (a<=16)) ((Z0S F (IntKind.wrap .u64 a)).bind fun b=>Q7E F (b==1)) (Q7E F false)) (Q7E F false)
def Q6q(F:Nat):Option Int:=
 some (-1:Int)
def Q1l(F:Nat)(b:List Term)(d:Term->Option Bool)(c:(Int)->Option Int)(a:Int):Option Int:=
 br (decide (a<(b.length:Int))) (gd (0<=a/\a<(b.length:Int))<|gd (I64 (gl b a.toNat).op_)<|(d (gl b a.toNat)).bind fun e=>br e (some a) (gd (I64 (a+1))<|c (a+1))) (Q6q F)
def Q2v(F:Nat)(a:List Term)(b:Term->Option Bool):Option Int:=
 Z2 (fun g (z:Int)=>Q1l F a b g z) F (0:Int)
def Q1o(F:Nat)(a:List Term)(b:Term->Option Bool):Option Bool:=
 (Q2v F a b).bind fun c=>some (decide ((0:Int)<=c))
def Z4e(F:Nat)(rc:Term->Int->Option Bool)(b:Term)(a:Int):Option Bool:=
 gd (I64 (a-1))<|(rc b (a-1)).bind fun c=>some (!c)
def Q4u(F:Nat)(rc:Term->Int->Option Bool)(b:Term)(c:Int)(a:Bool):Option Bool:=
 br a (some false) ((Q1o F b.kids_ (fun y0=>Z4e F rc y0 c)).bind fun d=>some (!d))
def W9(F:Nat)(rc:Term->Int->Option Bool)(a:Term)(b:Int)(c:Int×Int)(d:Bool):Option Bool:=
 br d (some false) (br (decide ((a.kids_.length:Int)<c.1)) (Q4u F rc a b true) (Q4u F rc a b (decide (c.2<(a.kids_.length:Int)))))
def Q0L(F:Nat)(rc:Term->Int->Option Bool)(a:Term)(b:Int)(c:Int×Int)(d:Bool):Option Bool:=
 br d (some false) (br (a.op_==4) ((Q3R F a.num_).bind fun e=>br (!e) (W9 F rc a b c true) (br (a.op_==7) ((Q3R F a.more_).bind fun i=>br (!i) (W9 F rc a b c true) (br (a.op_ != (7:Int)) (W9 F rc a b c (a.more_ != (0:Int))) (W9 F rc a b c false))) (br (a.op_ != (7:Int)) (W9 F rc a b c (a.more_ != (0:Int))) (W9 F rc a b c false)))) (br (a.op_==7) ((Q3R F a.more_).bind fun j=>br (!j) (W9 F rc a b c true) (br (a.op_ != (7:Int)) (W9 F rc a b c (a.more_ != (0:Int))) (W9 F rc a b c false))) (br (a.op_ != (7:Int)) (W9 F rc a b c (a.more_ != (0:Int))) (W9 F rc a b c false))))
def Q1R(F:Nat)(rc:Term->Int->Option Bool)(a:Term)(b:Int)(d:Int×Int×Bool)(c:Int×Int)(e:Bool):Option Bool:=
 br e (some false) (br d.2.2 (br (decide (a.num_<d.1)) (Q0L F rc a b c true) (br (decide (d.2.1<a.num_)) (Q0L F rc a b c true) (br (!d.2.2) (Q0L F rc a b c (a.num_ != (0:Int))) (Q0L F rc a b c false)))) (br (!d.2.2) (Q0L F rc a b c (a.num_ != (0:Int))) (Q0L F rc a b c false)))
def Z0X(F:Nat)(rc:Term->Int->Option Bool)(a:Term)(b:Int):Option Bool:=
 (Z2D F a.op_).bind fun c=>(Z6U F a.op_).bind fun d=>br (decide (a.op_<1)) (Q1R F rc a b c d true) (br (decide ((11:Int)<a.op_)) (Q1R F rc a b c d true) (Q1R F rc a b c d (b==0)))
def U7:Nat->Term->Int->Option Bool
 | 0=>fun _ _=>none
 | F+1=>Z0X F (U7 F)
def Z1G(F:Nat)(a:Term):Option Int:=
 (Q5j F a (40:Int)).bind fun b=>br (decide ((40:Int)<b)) (some (1:Int)) ((U7 F a (8:Int)).bind fun c=>br (!c) (some (16:Int)) (some (0:Int)))
def Q4t(F:Nat)(a:Int)(b:(Int)->Option Bool)(c:Bool):Option Bool:=
 br c (some false) (gd (I64 (a+1))<|b (a+1))
def Q6n(F:Nat)(a:Int)(c:Bool)(b:(Int)->Option Bool)(d:Bool):Option Bool:=
 br (!c) (br (a==0) (Q4t F a b true) (Q4t F a b (!d))) (Q4t F a b false)
def Q6o(F:Nat)(b:ByteArray)(a:Int)(c:(Int)->Option Bool)(d:Bool):Option Bool:=
 gd (0<=a/\a<((b.size:Nat):Int))<|br (decide ((48:Int)<=(sAt b a))) (gd (0<=a/\a<((b.size:Nat):Int))<|Q6n F a d c (decide ((sAt b a)<=57))) (Q6n F a d c false)
def Q6m(F:Nat)(a:Bool):Option Bool:=
 some a
def Z2Z(F:Nat)(a:ByteArray):Option Bool:=
 br (decide ((1:Int)<=((a.size:Nat):Int))) (Q6m F (decide (((a.size:Nat):Int)<=(12:Int)))) (Q6m F false)
def Z7I(F:Nat)(b:ByteArray)(c:(Int)->Option Bool)(a:Int):Option Bool:=
 br (decide (a<((b.size:Nat):Int))) (gd (0<=a/\a<((b.size:Nat):Int))<|br (decide ((97:Int)<=(sAt b a))) (gd (0<=a/\a<((b.size:Nat):Int))<|Q6o F b a c (decide ((sAt b a)<=122))) (Q6o F b a c false)) (Z2Z F b)
def Z1E(F:Nat)(a:ByteArray):Option Bool:=
 Z2 (fun g (z:Int)=>Z7I F a g z) F (0:Int)
def Q3l(F:Nat)(a:Int)(b:(Int)->Option Int)(c:Bool):Option Int:=
 br c (some (6:Int)) (gd (I64 (a+1))<|b (a+1))
def Q3m(F:Nat)(b:List Crop)(a:Int)(c:(Int)->Option Int)(d:Bool):Option Int:=
 br d (some (14:Int)) (br (decide ((0:Int)<a)) (gd (I64 (a-1))<|gd (0<=(a-1)/\(a-1)<(b.length:Int))<|Q3l F a c (sLt ((gl b a.toNat).n_) ((gl b (a-1).toNat).n_)||sEq ((gl b a.toNat).n_) ((gl b (a-1).toNat).n_))) (Q3l F a c false))
def Q3n(F:Nat)(b:List Crop)(a:Int)(c:(Int)->Option Int)(d:Bool):Option Int:=
 br d (some (2:Int)) (br (decide (((gl b a.toNat).m_)<0)) (Q3m F b a c true) (Q3m F b a c (decide ((31:Int)<((gl b a.toNat).m_)))))
def Z8i(F:Nat):Option Int:=
 some (0:Int)
def Q4D(F:Nat)(b:List Crop)(c:(Int)->Option Int)(a:Int):Option Int:=
 br (decide (a<(b.length:Int))) (gd (0<=a/\a<(b.length:Int))<|(Z1E F ((gl b a.toNat).n_)).bind fun d=>br (!d) (some (5:Int)) (br (decide (((gl b a.toNat).f_)<0)) (Q3n F b a c true) (Q3n F b a c (decide ((40:Int)<((gl b a.toNat).f_)))))) (Z8i F)
def Q9p(F:Nat)(a:List Crop):Option Int:=
 br (decide (40<(a.length:Int))) (some (1:Int)) (Z2 (fun g (z:Int)=>Q4D F a g z) F (0:Int))
def Q5n(F:Nat):Option Int:=
 some (-1:Int)
def Q5o(F:Nat)(b:List Rg_)(d:Rg_->Option Bool)(c:(Int)->Option Int)(a:Int):Option Int:=
 br (decide (a<(b.length:Int))) (gd (0<=a/\a<(b.length:Int))<|(d (gl b a.toNat)).bind fun e=>br e (some a) (gd (I64 (a+1))<|c (a+1))) (Q5n F)
def Q1A(F:Nat)(a:List Rg_)(b:Rg_->Option Bool):Option Int:=
 Z2 (fun g (z:Int)=>Q5o F a b g z) F (0:Int)
def Q0N(F:Nat)(a:List Rg_)(b:Rg_->Option Bool):Option Bool:=
 (Q1A F a b).bind fun c=>some (decide ((0:Int)<=c))
def Q5f(F:Nat)(a:Bool):Option Int:=
 br a (some (7:Int)) (some (0:Int))
def Q2U(F:Nat)(a:Rg_)(b:Bool):Option Int:=
 br b (some (13:Int)) (br ((a.g_.t_.length:Int)==0) (Q5f F true) ((Q0z F a.g_).bind fun c=>Q5f F (!c)))
def Q2V(F:Nat)(a:Rg_)(b:Bool):Option Int:=
 br b (some (18:Int)) (br (decide (a.c_<0)) (Q2U F a true) (Q2U F a (decide ((40:Int)<=a.c_))))
def Q8r(F:Nat)(a:Rg_):Option Int:=
 br (decide (a.y_<0)) (Q2V F a true) (Q2V F a (decide ((100:Int)<a.y_)))
def Z8k(F:Nat):Option Int:=
 some (0:Int)
def Q3o(F:Nat)(b:List Int)(c:(Int)->Option Int)(a:Int):Option Int:=
 br (decide (a<(b.length:Int))) (gd (0<=a/\a<(b.length:Int))<|br ((gl b a.toNat) != (0:Int)) (some (gl b a.toNat)) (gd (I64 (a+1))<|c (a+1))) (Z8k F)
def Z4M(F:Nat)(a:List Int):Option Int:=
 Z2 (fun g (z:Int)=>Q3o F a g z) F (0:Int)
def Q6Z(F:Nat)(a b:Rg_):Option Int:=
 (Q2E F a.y_ b.y_).bind fun c=>(Q2E F a.c_ b.c_).bind fun d=>(Z4M F ([c,d]:List Int)).bind fun e=>some e
def Z3P(F:Nat)(a:(List (Int×(List Rg_)))):Option ((List (Int×(List Rg_)))):=
 some a
def Q2a(F:Nat)(b:List Rg_)(d:(Int×(List (Int×(List Rg_))))->Option ((List (Int×(List Rg_)))))(a:Int)(c:(List (Int×(List Rg_)))):Option ((List (Int×(List Rg_)))):=
 br (decide (a<(b.length:Int))) (gd (0<=a/\a<(b.length:Int))<|gd ((gRow ((gl b a.toNat).y_) c).length+List.length ([(gl b a.toNat)]:List Rg_)<=LIM)<|gd (I64 (a+1))<|d ((a+1),(gApp ((gl b a.toNat).y_) ([(gl b a.toNat)]:List Rg_) c))) (Z3P F c)
def Z3s(F:Nat)(a:List Rg_):Option ((List (Int×(List Rg_)))):=
 Z2 (fun g (z:Int×(List (Int×(List Rg_))))=>Q2a F a g z.1 z.2) F ((0:Int),([]:List (Int×(List Rg_))))
def Q0n(F:Nat)(a:Bool):Option Bool:=
 some a
def Q7L(F:Nat)(a b:Rect):Option Bool:=
 br (decide (a.L_<b.R_)) (br (decide (b.L_<a.R_)) (br (decide (a.w_<b.H_)) (Q0n F (decide (b.w_<a.H_))) (Q0n F false)) (Q0n F false)) (Q0n F false)
def Q8S(F:Nat)(a b:Rect):Option Bool:=
 (Q7L F b a).bind fun c=>some c
def Z1R(F:Nat)(a:Rect)(b:Re_):Option Bool:=
 (G8 F b.t_ (fun y0=>Q8S F y0 a)).bind fun c=>some c
def Q6R(F:Nat)(a:Bool):Option Bool:=
 some a
def Z1m(F:Nat)(a b:Re_):Option Bool:=
 (Q0z F a).bind fun c=>br c ((Q0z F b).bind fun d=>br d ((G8 F a.t_ (fun y0=>Z1R F y0 b)).bind fun e=>Q6R F e) (Q6R F false)) (Q6R F false)
def Z0H(F:Nat)(a b:Rg_):Option Bool:=
 (Z1m F a.g_ b.g_).bind fun c=>some c
def Q3J(F:Nat)(a:Int)(b:(Int)->Option Int)(c:Bool):Option Int:=
 br c (some (3:Int)) (gd (I64 (a+1))<|b (a+1))
def Z3R(F:Nat):Option Int:=
 some (0:Int)
def Q9m(F:Nat)(b:(Int×(List Rg_)))(e:(List (Int×(List Rg_))))(c:((List (Int×(List Rg_))))->Option Int)(d:(Int)->Option Int)(a:Int):Option Int:=
 br (decide (a<(b.2.length:Int))) (gd (0<=a/\a<(b.2.length:Int))<|gd (0<=a/\a<=(b.2.length:Int))<|(Q0N F (b.2.take a.toNat) (fun y0=>Z0H F y0 (gl b.2 a.toNat))).bind fun i=>br i (some (11:Int)) (gd (I64 (a+1))<|d (a+1))) (c e)
def Q6d(F:Nat)(a:((List (Int×(List Rg_))))->Option Int)(b:(List (Int×(List Rg_)))):Option Int:=
 nextM b (Z3R F) (fun c d=>
 Z2 (fun g (z:Int)=>Q9m F c d a g z) F (0:Int))
def Q6c(F:Nat)(a:List Rg_):Option Int:=
 (Z3s F a).bind fun b=>Z2 (fun g (z:(List (Int×(List Rg_))))=>Q6d F g z) F b
def Z3S(F:Nat)(b:List Rg_)(c:(Int)->Option Int)(a:Int):Option Int:=
 br (decide (a<(b.length:Int))) (gd (0<=a/\a<(b.length:Int))<|(Q8r F (gl b a.toNat)).bind fun d=>br (d != (0:Int)) (some d) (br (decide ((0:Int)<a)) (gd (I64 (a-1))<|gd (0<=(a-1)/\(a-1)<(b.length:Int))<|(Q6Z F (gl b (a-1).toNat) (gl b a.toNat)).bind fun e=>Q3J F a c (decide ((0:Int)<=e))) (Q3J F a c false))) (Q6c F b)
def Q9F(F:Nat)(a:List Rg_):Option Int:=
 br (decide (200<(a.length:Int))) (some (1:Int)) (Z2 (fun g (z:Int)=>Z3S F a g z) F (0:Int))
def Q2W(F:Nat)(a:Bool):Option Int:=
 br a (some (7:Int)) (some (0:Int))
def Q0q(F:Nat)(a:A2_)(b:Bool):Option Int:=
 br b (some (9:Int)) (br ((a.g_.t_.length:Int)==0) (Q2W F true) ((Q0z F a.g_).bind fun c=>Q2W F (!c)))
def Q0r(F:Nat)(a:A2_)(b:Bool):Option Int:=
 br b (some (14:Int)) (br (decide (a.F_<0)) (Q0q F a true) (br (decide (a.u_<=a.F_)) (Q0q F a true) (Q0q F a (decide ((36865:Int)<a.u_)))))
def Q5g(F:Nat)(a:A2_)(b:Bool):Option Int:=
 br b (some (2:Int)) (br (decide (a.k_<0)) (Q0r F a true) (Q0r F a (decide ((15:Int)<a.k_))))
def Q8u(F:Nat)(a:A2_):Option Int:=
 br (decide (a.N_<1)) (Q5g F a true) (Q5g F a (decide ((1073741824:Int)<a.N_)))
def Q3O(F:Nat)(a:Int)(b:(Int)->Option Int)(c:Bool):Option Int:=
 br c (some (3:Int)) (gd (I64 (a+1))<|b (a+1))
def Z3U(F:Nat):Option Int:=
 some (0:Int)
def Z3V(F:Nat)(b:List A2_)(c:(Int)->Option Int)(a:Int):Option Int:=
 br (decide (a<(b.length:Int))) (gd (0<=a/\a<(b.length:Int))<|(Q8u F (gl b a.toNat)).bind fun d=>br (d != (0:Int)) (some d) (br (decide ((0:Int)<a)) (gd (I64 (a-1))<|gd (0<=(a-1)/\(a-1)<(b.length:Int))<|Q3O F a c (decide (((gl b a.toNat).N_)<=((gl b (a-1).toNat).N_)))) (Q3O F a c false))) (Z3U F)
def Q9H(F:Nat)(a:List A2_):Option Int:=
 br (decide (60<(a.length:Int))) (some (1:Int)) (Z2 (fun g (z:Int)=>Z3V F a g z) F (0:Int))
def Q3L(F:Nat)(a:Bool):Option Int:=
 br a (some (9:Int)) (some (0:Int))
def Q9G(F:Nat)(c:List A2_)(a:Int):Option Int:=
 (Q9H F c).bind fun b=>br (b != (0:Int)) (some b) (br (decide (a<0)) (Q3L F true) (Q3L F (decide ((36864:Int)<a))))
def Q2L(F:Nat)(a:List Rect):Option (List Rect):=
 brN a.length (some ([])) (gd ((0)+a.length<=LIM)<|some (([]:List Rect)++a))
def Q8v(F:Nat)(a:A2_):Option A2_:=
 (Q2L F a.g_.t_).bind fun b=>some (⟨a.N_,a.k_,a.F_,a.u_,(⟨b⟩:Re_)⟩:A2_)
def Z2t(F:Nat)(a:List A2_):Option (List A2_):=
 some a
def Z6G(F:Nat)(c:List A2_)(e:(Int×(List A2_))->Option (List A2_))(a:Int)(b:List A2_):Option (List A2_):=
 br (decide (a<(c.length:Int))) (gd (0<=a/\a<(c.length:Int))<|(Q8v F (gl c a.toNat)).bind fun d=>gd (b.length+(List.length ([d]:List A2_))<=LIM)<|gd (I64 (a+1))<|e ((a+1),(b++([d]:List A2_)))) (Z2t F b)
def Z2V(F:Nat)(a:List A2_):Option (List A2_):=
 Z2 (fun g (z:Int×(List A2_))=>Z6G F a g z.1 z.2) F ((0:Int),([]:List A2_))
def Q6e(F:Nat)(a:Bool):Option Bool:=
 some a
def Q6D(F:Nat)(a:A2_)(b:Int):Option Bool:=
 br (decide (a.F_<=b)) (Q6e F (decide (b<a.u_))) (Q6e F false)
def Z4J(F:Nat)(a:A2_)(b:Int):Option Bool:=
 (Q6D F a b).bind fun c=>some (!c)
def Q4Q(F:Nat):Option Int:=
 some (-1:Int)
def Q4R(F:Nat)(b:List A2_)(d:A2_->Option Bool)(c:(Int)->Option Int)(a:Int):Option Int:=
 br (decide (a<(b.length:Int))) (gd (0<=a/\a<(b.length:Int))<|(d (gl b a.toNat)).bind fun e=>br e (some a) (gd (I64 (a+1))<|c (a+1))) (Q4Q F)
def Q1m(F:Nat)(a:List A2_)(b:A2_->Option Bool):Option Int:=
 Z2 (fun g (z:Int)=>Q4R F a b g z) F (0:Int)
def G4(F:Nat)(a:Int)(b:(Int×Int×(List A2_))->Option (List A2_))(c:Int)(d:List A2_):Option (List A2_):=
 gd (I64 (a+1))<|b (c,(a+1),d)
def Q1D(F:Nat)(a:Int)(b:List A2_):Option (List A2_):=
 gd (0<=a/\a<=((b.length:Nat):Int)/\((0:Nat):Int)+((b.length:Nat):Int)<=(b.length:Int))<|gd (0<=a/\a<=((List.length (clr b (0+(a).toNat) (b.length-(a).toNat)):Nat):Int))<|some ((clr b (0+(a).toNat) (b.length-(a).toNat)).take (a).toNat)
def Q4i(F:Nat)(e:A2_->Option Bool)(d:(Int×Int×(List A2_))->Option (List A2_))(b c:Int)(a:List A2_):Option (List A2_):=
 br (decide (c<(a.length:Int))) (gd (0<=c/\c<(a.length:Int))<|(e (gl a c.toNat)).bind fun i=>br (!i) (gd (0<=b/\b<(a.length:Int))<|gd (I64 (b+1))<|G4 F c d (b+1) (List.set a b.toNat (gl a c.toNat))) (G4 F c d b a)) (Q1D F b a)
def Q0Z(F:Nat)(b:List A2_)(c:A2_->Option Bool):Option (List A2_):=
 (Q1m F b c).bind fun a=>br (a==(-1:Int)) (some b) (gd (I64 (a+1))<|Z2 (fun g (z:Int×Int×(List A2_))=>Q4i F c g z.1 z.2.1 z.2.2) F (a,(a+1),b))
def Z2v(F:Nat)(a:List A2_)(b:Int):Option ((List A2_)×Int):=
 (Q9G F a b).bind fun c=>br (c != (0:Int)) (some ([],c)) ((Z2V F a).bind fun d=>(Q0Z F d (fun y0=>Z4J F y0 b)).bind fun e=>some (e,(0:Int)))
def Q2u(F:Nat)(a:Bool):Option Bool:=
 some a
def Q2e(F:Nat)(a:Int)(b:TermPlace):Option Bool:=
 br (decide (a<0)) (Q2u F true) (Q2u F (decide ((b.world_.crops_.length:Int)<=a)))
def Q2I(F:Nat)(a:Rg_)(b:TermPlace):Option Bool:=
 (Q2e F a.c_ b).bind fun c=>some c
def Q4h(F:Nat):Option Int:=
 some (-1:Int)
def U6(F:Nat)(b:List Rg_)(d:TermPlace)(c:(Int)->Option Int)(a:Int):Option Int:=
 br (decide (a<(b.length:Int))) (gd (0<=a/\a<(b.length:Int))<|(Q2I F (gl b a.toNat) d).bind fun e=>br e (some a) (gd (I64 (a+1))<|c (a+1))) (Q4h F)
def Q0Y(F:Nat)(a:List Rg_)(b:TermPlace):Option Int:=
 Z2 (fun g (z:Int)=>U6 F a b g z) F (0:Int)
def Q0y(F:Nat)(a:List Rg_)(b:TermPlace):Option Bool:=
 (Q0Y F a b).bind fun c=>some (decide ((0:Int)<=c))
def Q1I(F:Nat)(a:TermPlace)(c:Bool):Option Int:=
 br c (some (18:Int)) ((Z2v F a.world_.zones_ a.world_.day_).bind fun b=>br (b.2 != (0:Int)) (some b.2) ((Q0z F a.line_.g_).bind fun d=>br (!d) (some (7:Int)) (some (0:Int))))
def Q1J(F:Nat)(a:TermPlace)(c:Bool):Option Int:=
 br c (some (13:Int)) ((Q9F F a.world_.history_).bind fun b=>br (b != (0:Int)) (some b) (br (decide (a.world_.y_<0)) (Q1I F a true) (Q1I F a (decide ((100:Int)<a.world_.y_)))))
def Q5P(F:Nat)(a:TermPlace)(d:Term):Option Int:=
 (Z1G F d).bind fun b=>br (b != (0:Int)) (some b) ((Q9p F a.world_.crops_).bind fun c=>br (c != (0:Int)) (some c) ((Q2e F a.line_.c_ a).bind fun e=>br e (Q1J F a true) ((Q0y F a.world_.history_ a).bind fun i=>Q1J F a i)))
def Q9J(F:Nat)(a:Squares):Option Squares:=
 some (⟨a.no_,a.yes_,a.open_⟩:Squares)
def Q4H(F:Nat)(a:List Span):Option (List Span):=
 some a
def z6(F:Nat)(b:(List (List Span)))(d:(Int×(List Span))->Option (List Span))(a:Int)(c:List Span):Option (List Span):=
 br (decide (a<(b.length:Int))) (gd (0<=a/\a<(b.length:Int))<|gd (c.length+(List.length (gl b a.toNat))<=LIM)<|gd (I64 (a+1))<|d ((a+1),(c++(gl b a.toNat)))) (Q4H F c)
def Q2w(F:Nat)(b:(List (List Span)))(a:Int):Option (List Span):=
 (Y1g a).bind fun c=>Z2 (fun g (z:Int×(List Span))=>z6 F b g z.1 z.2) F ((0:Int),c)
def z7(F:Nat)(b:(List (List Span)))(d:(Int×Int)->Option (List Span))(c a:Int):Option (List Span):=
 br (decide (a<(b.length:Int))) (gd (0<=a/\a<(b.length:Int))<|gd (I64 (c+((List.length (gl b a.toNat):Nat):Int)))<|br (decide ((c+((List.length (gl b a.toNat):Nat):Int))<0)) (none) (gd (I64 (a+1))<|d ((c+((List.length (gl b a.toNat):Nat):Int)),(a+1)))) (Q2w F b c)
def Q7f(F:Nat)(a:(List (List Span))):Option (List Span):=
 Z2 (fun g (z:Int×Int)=>z7 F a g z.1 z.2) F ((0:Int),(0:Int))
def Q3Z(F:Nat)(a:Bool):Option Bool:=
 some a
def Q0X(F:Nat)(a:Span)(b:Int):Option Bool:=
 br (decide (a.L_<=b)) (Q3Z F (decide (b<a.R_))) (Q3Z F false)
def Q6r(F:Nat):Option Int:=
 some (-1:Int)
def J7(F:Nat)(b:List Span)(d:Span->Option Bool)(c:(Int)->Option Int)(a:Int):Option Int:=
 br (decide (a<(b.length:Int))) (gd (0<=a/\a<(b.length:Int))<|(d (gl b a.toNat)).bind fun e=>br e (some a) (gd (I64 (a+1))<|c (a+1))) (Q6r F)
def Q4F(F:Nat)(a:List Span)(b:Span->Option Bool):Option Int:=
 Z2 (fun g (z:Int)=>J7 F a b g z) F (0:Int)
def Q3b(F:Nat)(a:List Span)(b:Span->Option Bool):Option Bool:=
 (Q4F F a b).bind fun c=>some (decide ((0:Int)<=c))
def Q6t(F:Nat)(a:List Span)(b:Int):Option Bool:=
 (Q3b F a (fun y0=>Q0X F y0 b)).bind fun c=>some c
def Q2D(F:Nat)(a:Int)(b:(Int×(List Span))->Option (List Span))(c:List Span):Option (List Span):=
 gd (I64 (a+1))<|b ((a+1),c)
def Q4l(F:Nat)(c:List Int)(a:Int)(b:List Span)(d:(Int×(List Span))->Option (List Span))(e:Bool):Option (List Span):=
 br e (gd (I64 ((b.length:Int)-1))<|gd (0<=a/\a<(c.length:Int))<|gd (0<=((b.length:Int)-1)/\((b.length:Int)-1)<(b.length:Int))<|Q2D F a d (List.set b ((b.length:Int)-1).toNat (⟨(gl b ((b.length:Int)-1).toNat).L_,(gl c a.toNat)⟩:Span))) (gd (0<=a/\a<(c.length:Int))<|gd (b.length+(List.length ([(⟨(gl c (a-1).toNat),(gl c a.toNat)⟩:Span)]:List Span))<=LIM)<|Q2D F a d (b++([(⟨(gl c (a-1).toNat),(gl c a.toNat)⟩:Span)]:List Span)))
def Q6N(F:Nat)(a:List Span):Option (List Span):=
 some a
def Q4m(F:Nat)(e i:List Span)(j:Bool->Bool->Option Bool)(c:List Int)(d:(Int×(List Span))->Option (List Span))(b:Int)(a:List Span):Option (List Span):=
 br (decide (b<(c.length:Int))) (gd (I64 (b-1))<|gd (0<=(b-1)/\(b-1)<(c.length:Int))<|(Q6t F e (gl c (b-1).toNat)).bind fun k=>(Q6t F i (gl c (b-1).toNat)).bind fun l=>(j k l).bind fun m=>br (!m) (Q2D F b d a) (br (decide (0<(a.length:Int))) (gd (I64 ((a.length:Int)-1))<|gd (0<=((a.length:Int)-1)/\((a.length:Int)-1)<(a.length:Int))<|Q4l F c b a d (((gl a ((a.length:Int)-1).toNat).R_)==(gl c (b-1).toNat))) (Q4l F c b a d false))) (Q6N F a)
def Z0w(F:Nat)(b c:List Span)(d:Bool->Bool->Option Bool)(a:List Int):Option (List Span):=
 (Z7N a).bind fun e=>(Q2g F e).bind fun i=>Z2 (fun g (z:Int×(List Span))=>Q4m F b c d i g z.1 z.2) F ((1:Int),([]:List Span))
def Q6O(F:Nat)(e i:List Span)(j:Bool->Bool->Option Bool)(b:List Span)(d:(Int×(List Int))->Option (List Span))(a:Int)(c:List Int):Option (List Span):=
 br (decide (a<(b.length:Int))) (gd (0<=a/\a<(b.length:Int))<|gd (c.length+(List.length ([(gl b a.toNat).L_,(gl b a.toNat).R_]:List Int))<=LIM)<|gd (I64 (a+1))<|d ((a+1),(c++([(gl b a.toNat).L_,(gl b a.toNat).R_]:List Int)))) (Z0w F e i j c)
def Z1k(F:Nat)(a b:List Span)(c:Bool->Bool->Option Bool):Option (List Span):=
 (Q7f F ([a,b]:List (List Span))).bind fun d=>Z2 (fun g (z:Int×(List Int))=>Q6O F a b c d g z.1 z.2) F ((0:Int),([]:List Int))
def Z0y(F:Nat)(a:Int)(b c:List Rect)(d:Bool->Bool->Option Bool):Option (List Span):=
 (Q8R F b a).bind fun e=>(Q8R F c a).bind fun i=>(Z1k F e i d).bind fun j=>some j
def V8(F:Nat)(a b:List Rect)(c:Bool->Bool->Option Bool):Option (List Rect):=
 (Q9W F ([a,b]:List (List Rect))).bind fun d=>(Q7N F d (fun y0=>Z0y F y0 a b c)).bind fun e=>some e
def Z1b(F:Nat)(a:Bool):Option Bool:=
 some a
def Q8N(F:Nat)(a b:Bool):Option Bool:=
 br a (Z1b F b) (Z1b F false)
def Q7H(F:Nat)(a:Bool):Option Bool:=
 some a
def Q9L(F:Nat)(a b:Bool):Option Bool:=
 br a (Q7H F true) (Q7H F b)
def Q6J(F:Nat)(a:Bool):Option Bool:=
 some a
def Q5O(F:Nat)(a b:Bool):Option Bool:=
 br a (Q6J F (!b)) (Q6J F false)
def Q2B(F:Nat)(c:TermPlace)(a b:List Rect):Option Squares:=
 (V8 F c.t_ a (fun y0 y1=>Q5O F y0 y1)).bind fun d=>(V8 F d b (fun y0 y1=>Q5O F y0 y1)).bind fun e=>some (⟨a,b,e⟩:Squares)
def Q7F(F:Nat)(c:TermPlace)(a b:List Rect):Option Squares:=
 (Q2B F c a b).bind fun d=>some d
def Q1y(F:Nat)(i:TermPlace)(b:List Squares)(e:((List Rect)×(List Rect)×Int)->Option Squares)(c d:List Rect)(a:Int):Option Squares:=
 br (decide (a<(b.length:Int))) (gd (0<=a/\a<(b.length:Int))<|(V8 F c ((gl b a.toNat).yes_) (fun y0 y1=>Q8N F y0 y1)).bind fun j=>(V8 F d ((gl b a.toNat).no_) (fun y0 y1=>Q9L F y0 y1)).bind fun k=>gd (I64 (a+1))<|e (j,k,(a+1))) (Q7F F i c d)
def Q3v(F:Nat)(a:TermPlace)(b:List Squares):Option Squares:=
 Z2 (fun g (z:(List Rect)×(List Rect)×Int)=>Q1y F a b g z.1 z.2.1 z.2.2) F (a.t_,([]:List Rect),(0:Int))
def Q1c(F:Nat)(a:TermPlace)(b:Bool):Option Squares:=
 br b (some (⟨a.t_,[],[]⟩:Squares)) (some (⟨[],a.t_,[]⟩:Squares))
def Z0f(F:Nat)(a:Bool):Option Bool:=
 some a
def Z3Z(F:Nat)(b:List Crop)(a c:Int):Option Bool:=
 br (decide ((0:Int)<=a)) (br (decide (a<(b.length:Int))) (br (c != (0:Int)) (gd (0<=a/\a<(b.length:Int))<|Z0f F ((Q5K .i64 ((gl b a.toNat).m_) c)==c)) (Z0f F false)) (Z0f F false)) (Z0f F false)
def Z2C(F:Nat)(a:Int)(b:Term):Option Bool:=
 some (a==b.num_)
def Q3M(F:Nat)(a:Int)(b:(Int×(List Rect))->Option (List Rect))(c:List Rect):Option (List Rect):=
 gd (I64 (a+1))<|b ((a+1),c)
def Q3N(F:Nat)(d:List A2_)(a:Int)(b:List Rect)(c:(Int×(List Rect))->Option (List Rect))(e:Bool):Option (List Rect):=
 br e (gd (b.length+(List.length ((gl d a.toNat).g_.t_))<=LIM)<|Q3M F a c (b++((gl d a.toNat).g_.t_))) (Q3M F a c b)
def Q9o(F:Nat)(a:List Rect):Option (List Rect):=
 some a
def Q6f(F:Nat)(b:List A2_)(e:Int)(i:Int->Option Bool)(d:(Int×(List Rect))->Option (List Rect))(a:Int)(c:List Rect):Option (List Rect):=
 br (decide (a<(b.length:Int))) (gd (0<=a/\a<(b.length:Int))<|(Q6D F (gl b a.toNat) e).bind fun j=>br j ((i ((gl b a.toNat).k_)).bind fun k=>Q3N F b a c d k) (Q3N F b a c d false)) (Q9o F c)
def Q6E(F:Nat)(a:List A2_)(b:Int)(c:Int->Option Bool):Option (List Rect):=
 Z2 (fun g (z:Int×(List Rect))=>Q6f F a b c g z.1 z.2) F ((0:Int),([]:List Rect))
def Q2d(F:Nat)(b:TermPlace)(a:List Rect):Option Squares:=
 (V8 F b.t_ a (fun y0 y1=>Q5O F y0 y1)).bind fun c=>some (⟨a,c,[]⟩:Squares)
def Q4O(F:Nat)(a:Int)(b:TermPlace)(c:Int):Option Bool:=
 gd (0<=a/\a<(b.world_.crops_.length:Int))<|some (((gl b.world_.crops_ a.toNat).f_)==c)
def Q3H(F:Nat)(a:Int)(b:(Int×(List Rect))->Option (List Rect))(c:List Rect):Option (List Rect):=
 gd (I64 (a+1))<|b ((a+1),c)
def Q3I(F:Nat)(d:List Rg_)(a:Int)(b:List Rect)(c:(Int×(List Rect))->Option (List Rect))(e:Bool):Option (List Rect):=
 br e (gd (b.length+(List.length ((gl d a.toNat).g_.t_))<=LIM)<|Q3H F a c (b++((gl d a.toNat).g_.t_))) (Q3H F a c b)
def Q9l(F:Nat)(a:List Rect):Option (List Rect):=
 some a
def Z3Q(F:Nat)(b:List Rg_)(e:Int)(i:Int->Option Bool)(d:(Int×(List Rect))->Option (List Rect))(a:Int)(c:List Rect):Option (List Rect):=
 br (decide (a<(b.length:Int))) (gd (0<=a/\a<(b.length:Int))<|br (((gl b a.toNat).y_)==e) ((i ((gl b a.toNat).c_)).bind fun j=>Q3I F b a c d j) (Q3I F b a c d false)) (Q9l F c)
def Q9E(F:Nat)(a:List Rg_)(b:Int)(c:Int->Option Bool):Option (List Rect):=
 Z2 (fun g (z:Int×(List Rect))=>Z3Q F a b c g z.1 z.2) F ((0:Int),([]:List Rect))
def Q0G(F:Nat)(a:TermPlace)(b:Int)(c:Int->Option Bool):Option (List Rect):=
 gd (I64 (a.world_.y_-b))<|(Q9E F a.world_.history_ (a.world_.y_-b) c).bind fun d=>(V8 F a.t_ d (fun y0 y1=>Q8N F y0 y1)).bind fun e=>some e
def Q4N(F:Nat)(a:Int)(b:TermPlace)(c:Int):Option Bool:=
 gd (0<=a/\a<(b.world_.crops_.length:Int))<|some (((gl b.world_.crops_ a.toNat).f_) != c)
def Q7c(F:Nat)(c:TermPlace)(a b:List Rect):Option Squares:=
 (Q2B F c a b).bind fun d=>some d
def Q1d(F:Nat)(a:TermPlace)(i:Int)(e:((List Rect)×(List Rect)×Int)->Option Squares)(c d:List Rect)(b:Int):Option Squares:=
 br (decide (b<i)) ((Q0G F a b (fun y0=>Q4O F y0 a ((gl a.world_.crops_ a.line_.c_.toNat).f_))).bind fun j=>(Q0G F a b (fun y0=>Q4N F y0 a ((gl a.world_.crops_ a.line_.c_.toNat).f_))).bind fun k=>(V8 F c j (fun y0 y1=>Q8N F y0 y1)).bind fun l=>(V8 F d k (fun y0 y1=>Q9L F y0 y1)).bind fun m=>gd (I64 (b+1))<|e (l,m,(b+1))) (Q7c F a c d)
def Q6K(F:Nat)(a:TermPlace)(b:Int):Option Squares:=
 gd (0<=a.line_.c_/\a.line_.c_<(a.world_.crops_.length:Int))<|Z2 (fun g (z:(List Rect)×(List Rect)×Int)=>Q1d F a b g z.1 z.2.1 z.2.2) F (a.t_,([]:List Rect),(1:Int))
def Q2K(F:Nat)(a:Int)(b:TermPlace)(c:Term):Option Bool:=
 (Z3Z F b.world_.crops_ a c.more_).bind fun d=>some d
def Q2J(F:Nat)(a:Int)(b:TermPlace)(c:Term):Option Bool:=
 (Z3Z F b.world_.crops_ a c.more_).bind fun d=>some (!d)
def Z2U(F:Nat)(a:Int):Option Bool:=
 some true
def Q6L(F:Nat)(a:TermPlace)(b:Term):Option Squares:=
 br (b.op_==2) ((Q1c F a (a.line_.c_==b.num_)).bind fun c=>some c) (br (b.op_==3) (gd (0<=a.line_.c_/\a.line_.c_<(a.world_.crops_.length:Int))<|(Q1c F a (((gl a.world_.crops_ a.line_.c_.toNat).f_)==b.num_)).bind fun d=>some d) (br (b.op_==4) ((Z3Z F a.world_.crops_ a.line_.c_ b.num_).bind fun e=>(Q1c F a e).bind fun i=>some i) (br (b.op_==5) ((Q6E F a.world_.zones_ a.world_.day_ (fun y0=>Z2C F y0 b)).bind fun j=>(V8 F a.t_ j (fun y0 y1=>Q8N F y0 y1)).bind fun k=>(Q2d F a k).bind fun l=>some l) (br (b.op_==6) ((Q6K F a b.num_).bind fun m=>some m) (br (b.op_==7) ((Q0G F a b.num_ (fun y0=>Q2K F y0 a b)).bind fun n=>(Q0G F a b.num_ (fun y0=>Q2J F y0 a b)).bind fun o=>(Q2B F a n o).bind fun p=>some p) (br (b.op_==8) ((Q0G F a b.num_ (fun y0=>Z2U F y0)).bind fun q=>(Q2d F a q).bind fun s=>some s) ((Q1c F a true).bind fun t=>some t)))))))
def Q2c(F:Nat)(rc:TermPlace->Term->Option Squares)(a:Int)(b:List Squares)(i:(Int×(List Squares))->Option Squares)(c d e:List Rect):Option Squares:=
 gd (b.length+(List.length ([(⟨c,d,e⟩:Squares)]:List Squares))<=LIM)<|gd (I64 (a+1))<|i ((a+1),(b++([(⟨c,d,e⟩:Squares)]:List Squares)))
def Q7d(F:Nat)(rc:TermPlace->Term->Option Squares)(c:TermPlace)(b:Term)(a:List Squares):Option Squares:=
 br (b.op_==9) ((Q3v F c a).bind fun d=>some d) (br (b.op_==10) ((Q3v F c a).bind fun e=>(Q9J F e).bind fun i=>some i) (br (b.op_==11) (gd (0<=(0:Int)/\0<(a.length:Int))<|some (gl a (0:Int).toNat)) ((Q6L F c b).bind fun j=>some j)))
def Q0C(F:Nat)(rc:TermPlace->Term->Option Squares)(j:TermPlace)(b:Term)(i:(Int×(List Squares))->Option Squares)(a:Int)(d:List Squares):Option Squares:=
 br (decide (a<(b.kids_.length:Int))) (gd (0<=a/\a<(b.kids_.length:Int))<|gd (I64 (gl b.kids_ a.toNat).op_)<|(rc j (gl b.kids_ a.toNat)).bind fun c=>br (b.op_ != (9:Int)) ((Q9J F c).bind fun e=>Q2c F rc a d i e.yes_ e.no_ e.open_) (Q2c F rc a d i c.yes_ c.no_ c.open_)) (Q7d F rc j b d)
def Q4P(F:Nat)(rc:TermPlace->Term->Option Squares)(a:TermPlace)(b:Term):Option Squares:=
 Z2 (fun g (z:Int×(List Squares))=>Q0C F rc a b g z.1 z.2) F ((0:Int),([]:List Squares))
def G3:Nat->TermPlace->Term->Option Squares
 | 0=>fun _ _=>none
 | F+1=>Q4P F (G3 F)
def Q7r(F:Nat)(a:List Rect):Option Re_:=
 (Q2L F a).bind fun b=>some (⟨b⟩:Re_)
def Z6V(F:Nat)(c:Term)(b:Line)(d:Int)(e:List Crop)(i:List Rg_)(j:List A2_)(k:Int):Option (Truth×Int):=
 (Q5P F (⟨(⟨d,e,i,j,k⟩:TermWorld),b,b.g_.t_⟩:TermPlace) c).bind fun l=>br (l != (0:Int)) (some ((⟨(⟨[]⟩:Re_),(⟨[]⟩:Re_),(⟨[]⟩:Re_)⟩:Truth),l)) ((G3 F (⟨(⟨d,e,i,j,k⟩:TermWorld),b,b.g_.t_⟩:TermPlace) c).bind fun a=>br (decide ((120:Int)<(G2 (G2 (a.yes_.length:Int) (a.no_.length:Int)) (a.open_.length:Int)))) (some ((⟨(⟨[]⟩:Re_),(⟨[]⟩:Re_),(⟨[]⟩:Re_)⟩:Truth),(1:Int))) ((Q7r F a.yes_).bind fun m=>(Q7r F a.no_).bind fun n=>(Q7r F a.open_).bind fun o=>some ((⟨m,n,o⟩:Truth),(0:Int))))
def K9(F:Nat)(a:Int)(b:(Int)->Option Bool)(c:Bool):Option Bool:=
 br c (some false) (gd (I64 (a+1))<|b (a+1))
def Q3Y(F:Nat)(a:Bool):Option Bool:=
 some a
def Q7g(F:Nat)(a:List Bracket):Option Bool:=
 br (decide (1<=(a.length:Int))) (Q3Y F (decide ((a.length:Int)<=6))) (Q3Y F false)
def Q0D(F:Nat)(b:List Bracket)(c:(Int)->Option Bool)(a:Int):Option Bool:=
 br (decide (a<(b.length:Int))) (gd (0<=a/\a<(b.length:Int))<|br (decide (((gl b a.toNat).up_)<1)) (K9 F a c true) (br (decide ((268435456:Int)<((gl b a.toNat).up_))) (K9 F a c true) (br (decide (((gl b a.toNat).rate_)<0)) (K9 F a c true) (br (decide ((1048576:Int)<((gl b a.toNat).rate_))) (K9 F a c true) (br (decide ((0:Int)<a)) (gd (I64 (a-1))<|gd (0<=(a-1)/\(a-1)<(b.length:Int))<|K9 F a c (decide (((gl b a.toNat).up_)<=((gl b (a-1).toNat).up_)))) (K9 F a c false)))))) (Q7g F b)
def Q6M(F:Nat)(a:List Bracket):Option Bool:=
 Z2 (fun g (z:Int)=>Q0D F a g z) F (0:Int)
def Q1E(F:Nat)(a:Bool):Option Int:=
 br a (some (3:Int)) (some (0:Int))
def Q1F(F:Nat)(a:Scheme)(c:Bool):Option Int:=
 br c (some (2:Int)) ((Z1E F a.n_).bind fun d=>br (!d) (some (5:Int)) ((Z1G F a.cond_).bind fun b=>br (b != (0:Int)) (some b) ((Q6M F a.brackets_).bind fun e=>br (!e) (Q1E F true) (br (decide (a.excludes_<0)) (Q1E F true) (br (decide ((65536:Int)<=a.excludes_)) (Q1E F true) (gd (0<=a.N_)<|Q1E F ((Q5K .i64 (a.excludes_.fdiv (2 ^ (min (a.N_).toNat (IntKind.bits .i64)))) (1:Int))==1)))))))
def Z1i(F:Nat)(a:Scheme):Option Int:=
 br (decide (a.N_<0)) (Q1F F a true) (br (decide ((15:Int)<a.N_)) (Q1F F a true) (br (decide (a.least_<0)) (Q1F F a true) (Q1F F a (decide ((268435456:Int)<a.least_)))))
def Z2X(F:Nat)(a:Bool):Option Int:=
 br a (some (2:Int)) (some (0:Int))
def Q5h(F:Nat)(c:List A2_)(d a:Int)(e:Re_):Option Int:=
 (Z2v F c d).bind fun b=>br (b.2 != (0:Int)) (some b.2) ((Q0z F e).bind fun i=>br (!i) (some (7:Int)) (br (decide (a<0)) (Z2X F true) (Z2X F (decide ((268435456:Int)<a)))))
def Q2G(F:Nat)(a:Bool):Option Int:=
 br a (some (1:Int)) (some (2:Int))
def Q0x(F:Nat)(a:Int)(b:Bool):Option Int:=
 br b (some (0:Int)) (br (a==8) (Q2G F (a==8)) (br (a==9) (Q2G F (a==9)) (br (a==10) (Q2G F (a==10)) (Q2G F (a==11)))))
def Z6Q(F:Nat)(a:Int):Option Int:=
 br (a==0) (Q0x F a (a==0)) (br (a==1) (Q0x F a (a==1)) (br (a==2) (Q0x F a (a==2)) (br (a==3) (Q0x F a (a==3)) (br (a==4) (Q0x F a (a==4)) (br (a==5) (Q0x F a (a==5)) (br (a==6) (Q0x F a (a==6)) (Q0x F a (a==7))))))))
def Z6R(F:Nat)(a b:Int):Option Bool:=
 (Z6Q F a).bind fun c=>some (c==b)
def Q2i(F:Nat)(a:List Rect):Option (Re_×Int):=
 br (decide (120<(a.length:Int))) (some ((⟨[]⟩:Re_),(1:Int))) (some ((⟨a⟩:Re_),(0:Int)))
def Q1p(F:Nat)(b:List Rect):Option (Re_×Int):=
 (Q3w F b).bind fun c=>(Q2i F c).bind fun a=>some (a.1,a.2)
def Z4d(F:Nat)(b:List A2_)(c d:Int):Option (Re_×Int):=
 (Q6E F b c (fun y0=>Z6R F y0 d)).bind fun e=>(Q1p F e).bind fun a=>some (a.1,a.2)
def Q8K(F:Nat)(a:List A2_)(b:Int):Option (Re_×Int):=
 (Q5h F a b (0:Int) (⟨[]⟩:Re_)).bind fun c=>br (c != (0:Int)) (some ((⟨[]⟩:Re_),c)) ((Z4d F a b (0:Int)).bind fun d=>some (d.1,d.2))
def Z1D(F:Nat)(a:Bool):Option Bool:=
 some a
def Z5v(F:Nat)(a b:Bool):Option Bool:=
 br a (Z1D F b) (Z1D F false)
def Z0o(F:Nat)(a:Int):Option Int:=
 some a
def Q4j(F:Nat)(a b:Rect)(c:Int)(d:Bool):Option Int:=
 br d (gd (I64 ((Q2b a.R_ b.R_)-(G2 a.L_ b.L_)))<|gd (I64 (c+(G2 (0:Int) ((Q2b a.R_ b.R_)-(G2 a.L_ b.L_)))))<|Z0o F (c+(G2 (0:Int) ((Q2b a.R_ b.R_)-(G2 a.L_ b.L_))))) (Z0o F c)
def Q2C(F:Nat)(a b:Rect)(c:Int):Option Int:=
 br (a.H_==b.w_) (Q4j F a b c true) (Q4j F a b c (b.H_==a.w_))
def Q4k(F:Nat)(a b:Rect)(c:Bool):Option Int:=
 br c (gd (I64 ((Q2b a.H_ b.H_)-(G2 a.w_ b.w_)))<|gd (I64 ((0:Int)+(G2 (0:Int) ((Q2b a.H_ b.H_)-(G2 a.w_ b.w_)))))<|Q2C F a b ((0:Int)+(G2 (0:Int) ((Q2b a.H_ b.H_)-(G2 a.w_ b.w_))))) (Q2C F a b (0:Int))
def Z1f(F:Nat)(a b:Rect):Option Int:=
 br (a.R_==b.L_) (Q4k F a b true) (Q4k F a b (b.R_==a.L_))
def Q7K(F:Nat)(a:Bool)(b:List Rect):Option ((List Rect)×Bool):=
 some (b,a)
def Q4V(F:Nat)(c:Rect)(b:List Rect)(a:Bool):Option ((List Rect)×Bool):=
 br a (gd (b.length+(List.length ([c]:List Rect))<=LIM)<|Q7K F a (b++([c]:List Rect))) (Q7K F a b)
def Q5p(F:Nat)(c:Rect)(a:List Rect)(b:Int):Option ((List Rect)×Bool):=
 gd (0<=b/\b<(a.length:Int))<|(Z1f F (gl a b.toNat) c).bind fun d=>Q4V F c a (decide ((0:Int)<d))
def Q3q(F:Nat)(a:List Rect):Option (List Rect):=
 brN a.length (some ([]:List Rect)) (gd ((0)+a.length<=LIM)<|some (([]:List Rect)++a))
def Q5l(F:Nat)(b a:List Rect):Option ((List Rect)×(List Rect)×Int):=
 some (b,a,(-1:Int))
def Q5m(F:Nat)(b:List Rect)(i:Int)(e:(Int×(List Rect))->Option ((List Rect)×(List Rect)×Int))(a:Int)(d:List Rect):Option ((List Rect)×(List Rect)×Int):=
 br (decide (a<(b.length:Int))) (gd (0<=a/\a<(b.length:Int))<|(Q5p F (gl b a.toNat) d i).bind fun c=>br c.2 (some (b,c.1,a)) (gd (I64 (a+1))<|e ((a+1),c.1))) (Q5l F b d)
def Q1z(F:Nat)(a b:List Rect)(c:Int):Option ((List Rect)×(List Rect)×Int):=
 Z2 (fun g (z:Int×(List Rect))=>Q5m F a c g z.1 z.2) F ((0:Int),b)
def y9(F:Nat)(a:Int)(b:(Int×Int×(List Rect)×(List Rect))->Option ((List Rect)×(List Rect)))(c:Int)(d e:List Rect):Option ((List Rect)×(List Rect)):=
 gd (I64 (a+1))<|b (c,(a+1),d,e)
def Q1N(F:Nat)(a:Int)(b c:List Rect):Option ((List Rect)×(List Rect)):=
 gd (0<=a/\a<=((b.length:Nat):Int)/\((0:Nat):Int)+((b.length:Nat):Int)<=(b.length:Int))<|gd (0<=a/\a<=((List.length (clr b (0+(a).toNat) (b.length-(a).toNat)):Nat):Int))<|some (c,((clr b (0+(a).toNat) (b.length-(a).toNat)).take (a).toNat))
def Q4U(F:Nat)(j:Int)(e:(Int×Int×(List Rect)×(List Rect))->Option ((List Rect)×(List Rect)))(b c:Int)(a i:List Rect):Option ((List Rect)×(List Rect)):=
 br (decide (c<(a.length:Int))) (gd (0<=c/\c<(a.length:Int))<|(Q5p F (gl a c.toNat) i j).bind fun d=>br (!d.2) (gd (0<=b/\b<(a.length:Int))<|gd (I64 (b+1))<|y9 F c e (b+1) (List.set a b.toNat (gl a c.toNat)) d.1) (y9 F c e b a d.1)) (Q1N F b a i)
def Q1n(F:Nat)(c d:List Rect)(b:Int):Option ((List Rect)×(List Rect)):=
 (Q1z F c d b).bind fun a=>br (a.2.2==(-1:Int)) (some (a.2.1,a.1)) (gd (I64 (a.2.2+(1:Int)))<|Z2 (fun g (z:Int×Int×(List Rect)×(List Rect))=>Q4U F b g z.1 z.2.1 z.2.2.1 z.2.2.2) F (a.2.2,(a.2.2+(1:Int)),a.1,a.2.1))
def Z0p(F:Nat)(a b:List Rect):Option ((List Rect)×(List Rect)):=
 some (b,a)
def Z0q(F:Nat)(c:List Rect)(a:Int)(b:List Rect)(e:((List Rect)×Int×(List Rect))->Option ((List Rect)×(List Rect))):Option ((List Rect)×(List Rect)):=
 br (decide (a<(b.length:Int))) ((Q1n F c b a).bind fun d=>gd (I64 (a+1))<|e (d.2,(a+1),d.1)) (Z0p F c b)
def Z4U(F:Nat)(a:((List Rect)×Int×(List Rect))->Option ((List Rect)×(List Rect)))(b:List Rect)(c:Int)(d:List Rect):Option ((List Rect)×(List Rect)):=
 Z0q F b c d a
def Z1g(F:Nat)(a:List Rect):Option ((List Rect)×(List Rect)):=
 gd (1<=(a.length:Int))<|gd (0<=(1:Int)/\1<=(a.length:Int))<|(Q3q F (a.drop (1:Int).toNat)).bind fun b=>Z2 (fun g (z:(List Rect)×Int×(List Rect))=>Z4U F g z.1 z.2.1 z.2.2) F (b,(0:Int),(a.take ((1:Int)).toNat))
def Z5R(F:Nat)(a:Int):Option Int:=
 some a
def Z5S(F:Nat)(b:List Rect)(d:(Int×Int)->Option Int)(c a:Int):Option Int:=
 br (decide (a<(b.length:Int))) (gd (0<=a/\a<(b.length:Int))<|gd (I64 (((gl b a.toNat).R_)-((gl b a.toNat).L_)))<|gd (I64 (((gl b a.toNat).H_)-((gl b a.toNat).w_)))<|gd (I64 ((((gl b a.toNat).R_)-((gl b a.toNat).L_))*(((gl b a.toNat).H_)-((gl b a.toNat).w_))))<|gd (I64 (c+((((gl b a.toNat).R_)-((gl b a.toNat).L_))*(((gl b a.toNat).H_)-((gl b a.toNat).w_)))))<|gd (I64 (a+1))<|d ((c+((((gl b a.toNat).R_)-((gl b a.toNat).L_))*(((gl b a.toNat).H_)-((gl b a.toNat).w_)))),(a+1))) (Z5R F c)
def Z2H(F:Nat)(a:List Rect):Option Int:=
 Z2 (fun g (z:Int×Int)=>Z5S F a g z.1 z.2) F ((0:Int),(0:Int))
def Z0V(F:Nat)(b:List Rect):Option (Re_×Int):=
 (Q1p F b).bind fun a=>some (a.1,a.2)
def Z0W(F:Nat)(e:Int)(c:((List Rect)×(List Rect))->Option (Re_×Int))(d b:List Rect):Option (Re_×Int):=
 br (decide (0<(d.length:Int))) ((Z1g F d).bind fun a=>(Z2H F a.1).bind fun i=>br (decide (e<i)) (gd (b.length+a.1.length<=LIM)<|c (a.2,(b++a.1))) (c (a.2,b))) (Z0V F b)
def Q3u(F:Nat)(b:List A2_)(c d:Int)(e:Re_):Option (Re_×Int):=
 (Q5h F b c d e).bind fun i=>br (i != (0:Int)) (some ((⟨[]⟩:Re_),i)) ((Z4d F b c (1:Int)).bind fun a=>br (a.2 != (0:Int)) (some ((⟨[]⟩:Re_),a.2)) ((V8 F a.1.t_ e.t_ (fun y0 y1=>Z5v F y0 y1)).bind fun j=>br (decide (120<(j.length:Int))) (some ((⟨[]⟩:Re_),(1:Int))) (Z2 (fun g (z:(List Rect)×(List Rect))=>Z0W F d g z.1 z.2) F (j,([]:List Rect)))))
def Q4I(F:Nat)(a:List Rect):Option (List Rect):=
 some a
def z8(F:Nat)(b:(List (List Rect)))(d:(Int×(List Rect))->Option (List Rect))(a:Int)(c:List Rect):Option (List Rect):=
 br (decide (a<(b.length:Int))) (gd (0<=a/\a<(b.length:Int))<|gd (c.length+(List.length (gl b a.toNat))<=LIM)<|gd (I64 (a+1))<|d ((a+1),(c++(gl b a.toNat)))) (Q4I F c)
def Q2x(F:Nat)(b:(List (List Rect)))(a:Int):Option (List Rect):=
 (Y1g a).bind fun c=>Z2 (fun g (z:Int×(List Rect))=>z8 F b g z.1 z.2) F ((0:Int),c)
def y5(F:Nat)(b:(List (List Rect)))(d:(Int×Int)->Option (List Rect))(c a:Int):Option (List Rect):=
 br (decide (a<(b.length:Int))) (gd (0<=a/\a<(b.length:Int))<|gd (I64 (c+((List.length (gl b a.toNat):Nat):Int)))<|br (decide ((c+((List.length (gl b a.toNat):Nat):Int))<0)) (none) (gd (I64 (a+1))<|d ((c+((List.length (gl b a.toNat):Nat):Int)),(a+1)))) (Q2x F b c)
def Q2f(F:Nat)(a:(List (List Rect))):Option (List Rect):=
 Z2 (fun g (z:Int×Int)=>y5 F a g z.1 z.2) F ((0:Int),(0:Int))
def Q7b(F:Nat)(a:Bool):Option Bool:=
 some a
def Z0j(F:Nat)(a b:Bool):Option Bool:=
 br a (Q7b F (!b)) (Q7b F false)
def Q1k(F:Nat)(a:Re_)(b:List A2_)(c i:Int):Option (Re_×Int):=
 (Q5h F b c i a).bind fun j=>br (j != (0:Int)) (some ((⟨[]⟩:Re_),j)) ((Q8K F b c).bind fun d=>br (d.2 != (0:Int)) (some ((⟨[]⟩:Re_),d.2)) ((Q3u F b c i a).bind fun e=>br (e.2 != (0:Int)) (some ((⟨[]⟩:Re_),e.2)) ((Q2f F ([d.1.t_,e.1.t_]:List (List Rect))).bind fun l=>(V8 F a.t_ l (fun y0 y1=>Z0j F y0 y1)).bind fun m=>(Q2i F m).bind fun k=>some (k.1,k.2))))
def Q4a(F:Nat)(a:Bool):Option Bool:=
 some a
def Q6P(F:Nat)(a b:Bool):Option Bool:=
 br a (Q4a F (!b)) (Q4a F false)
def Q3x(F:Nat)(a:Bool):Option Bool:=
 some a
def Q9y(F:Nat)(a b:Re_):Option Bool:=
 (Q0z F a).bind fun c=>br c ((Q0z F b).bind fun d=>br d ((V8 F a.t_ b.t_ (fun y0 y1=>Q6P F y0 y1)).bind fun e=>Q3x F ((e.length:Int)==0)) (Q3x F false)) (Q3x F false)
def Q7z(F:Nat)(a b c:List Rect):Option (Truth×Int):=
 some ((⟨(⟨a⟩:Re_),(⟨b⟩:Re_),(⟨c⟩:Re_)⟩:Truth),(0:Int))
def Q1v(F:Nat)(a:Arr3ListRect):Option (Truth×Int):=
 (Q1p F a.e0_).bind fun b=>br (b.2 != (0:Int)) (some ((⟨(⟨[]⟩:Re_),(⟨[]⟩:Re_),(⟨[]⟩:Re_)⟩:Truth),b.2)) (gd (I64 ((0:Int)+(1:Int)))<|(Q1p F a.e1_).bind fun c=>br (c.2 != (0:Int)) (some ((⟨(⟨[]⟩:Re_),(⟨[]⟩:Re_),(⟨[]⟩:Re_)⟩:Truth),c.2)) (gd (I64 ((1:Int)+(1:Int)))<|(Q1p F a.e2_).bind fun d=>br (d.2 != (0:Int)) (some ((⟨(⟨[]⟩:Re_),(⟨[]⟩:Re_),(⟨[]⟩:Re_)⟩:Truth),d.2)) (gd (I64 ((2:Int)+(1:Int)))<|Q7z F b.1.t_ c.1.t_ d.1.t_)))
def Q6h(F:Nat)(a:Bool):Option Bool:=
 some a
def Q6F(F:Nat)(a b:Bool):Option Bool:=
 br a (Q6h F b) (Q6h F false)
def Q3t(F:Nat)(a:Bool):Option Bool:=
 some a
def Q6g(F:Nat)(a b:Bool):Option Bool:=
 br a (Q3t F (!b)) (Q3t F false)
def Q1U(F:Nat)(b:Line)(i:Re_)(c:Scheme)(a:World):Option (Truth×Int):=
 (Q0z F i).bind fun n=>br (!n) (some ((⟨(⟨[]⟩:Re_),(⟨[]⟩:Re_),(⟨[]⟩:Re_)⟩:Truth),(7:Int))) ((Z6V F c.cond_ b a.y_ a.crops_ a.history_ a.zones_ a.day_).bind fun d=>br (d.2 != (0:Int)) (some ((⟨(⟨[]⟩:Re_),(⟨[]⟩:Re_),(⟨[]⟩:Re_)⟩:Truth),d.2)) ((Z1i F c).bind fun o=>br (o != (0:Int)) (some ((⟨(⟨[]⟩:Re_),(⟨[]⟩:Re_),(⟨[]⟩:Re_)⟩:Truth),(17:Int))) ((Q1k F i a.zones_ a.day_ a.most_).bind fun e=>br (e.2 != (0:Int)) (some ((⟨(⟨[]⟩:Re_),(⟨[]⟩:Re_),(⟨[]⟩:Re_)⟩:Truth),e.2)) ((Q9y F b.g_ i).bind fun p=>br (!p) (some ((⟨(⟨[]⟩:Re_),(⟨[]⟩:Re_),(⟨[]⟩:Re_)⟩:Truth),(12:Int))) (gd (0<=c.N_)<|br ((Q5K .i64 (b.s_.fdiv (2 ^ (min (c.N_).toNat (IntKind.bits .i64)))) (1:Int))==0) ((Q1v F (⟨[],b.g_.t_,[]⟩:Arr3ListRect)).bind fun j=>some (j.1,j.2)) ((V8 F d.1.true_.t_ e.1.t_ (fun y0 y1=>Q6F F y0 y1)).bind fun k=>(V8 F d.1.unknown_.t_ e.1.t_ (fun y0 y1=>Q6F F y0 y1)).bind fun l=>(Q2f F ([k,l]:List (List Rect))).bind fun q=>(V8 F b.g_.t_ q (fun y0 y1=>Q6g F y0 y1)).bind fun s=>(Q1v F (⟨k,s,l⟩:Arr3ListRect)).bind fun m=>some (m.1,m.2)))))))
def Q6T(F:Nat)(a:Bool):Option Bool:=
 some a
def Q5U(F:Nat)(a b:Re_):Option Bool:=
 (Q0p F a).bind fun c=>br c ((Q0p F b).bind fun d=>br d ((V2 F a.t_ b.t_ (3:Int)).bind fun e=>Q6T F ((e.length:Int)==0)) (Q6T F false)) (Q6T F false)
def Q8n(F:Nat)(a:Bool):Option Bool:=
 some a
def Z2S(F:Nat):Option Bool:=
 (Q1U F (⟨(1:Int),(⟨([(⟨0,0,(10:Int),(1:Int)⟩:Rect)]:List Rect)⟩:Re_),0,(1:Int)⟩:Line) (⟨([(⟨0,0,(10:Int),(1:Int)⟩:Rect)]:List Rect)⟩:Re_) (⟨0,(ByteArray.mk #[115]),(⟨(1:Int),0,0,[]⟩:Term),([(⟨(10:Int),(1:Int)⟩:Bracket)]:List Bracket),0,0,false⟩:Scheme) (⟨0,([(⟨(ByteArray.mk #[114,121,101]),0,0⟩:Crop)]:List Crop),[],([(⟨(1:Int),0,0,(9:Int),(⟨([(⟨(3:Int),0,(5:Int),(1:Int)⟩:Rect)]:List Rect)⟩:Re_)⟩:A2_)]:List A2_),0,0⟩:World)).bind fun a=>br (a.2==(0:Int)) ((Q3f F a.1.true_).bind fun b=>br (b==8) ((Q3f F a.1.false_).bind fun c=>Q8n F (c==2)) (Q8n F false)) (Q8n F false)
def Q0u(F:Nat)(a:Int)(b:(Int)->Option Bool)(c:Bool):Option Bool:=
 br c (some false) (gd (I64 (a+1))<|b (a+1))
def U9(F:Nat)(j:Tape×(List Line)×(List Int)×(List Re_))(d:Tape×(List Scheme))(e a:Int)(b:Truth×Int)(c:(Int)->Option Bool)(i:Bool):Option Bool:=
 br i (some false) (gd (0<=((gl d.2 a.toNat).N_))<|br ((Q5K .i64 (((gl j.2.1 e.toNat).s_).fdiv (2 ^ (min (((gl d.2 a.toNat).N_)).toNat (IntKind.bits .i64)))) (1:Int))==0) (gd (I64 ((b.1.true_.t_.length:Int)+(b.1.unknown_.t_.length:Int)))<|Q0u F a c (decide ((0:Int)<((b.1.true_.t_.length:Int)+(b.1.unknown_.t_.length:Int))))) (Q0u F a c false))
def Q1q(F:Nat)(c:Tape×(List Line)×(List Int)×(List Re_))(i:Tape×(List Scheme))(b:Int)(l:Re_×Int)(e:Int)(a:Truth×Int)(d:(Int)->Option Bool)(n:Bool):Option Bool:=
 br n (some false) ((Q3f F a.1.true_).bind fun j=>(Q3f F a.1.false_).bind fun k=>gd (I64 (j+k))<|(Q3f F a.1.unknown_).bind fun m=>gd (I64 ((j+k)+m))<|(Q3f F ((gl c.2.1 b.toNat).g_)).bind fun o=>br (((j+k)+m) != o) (U9 F c i b e a d true) ((Q7v F a.1.true_ a.1.unknown_).bind fun p=>br p (U9 F c i b e a d true) ((Q7v F a.1.true_ a.1.false_).bind fun q=>br q (U9 F c i b e a d true) ((Q5U F a.1.true_ l.1).bind fun s=>br (!s) (U9 F c i b e a d true) ((Q5U F a.1.unknown_ l.1).bind fun t=>br (!t) (U9 F c i b e a d true) ((Q5U F a.1.false_ ((gl c.2.1 b.toNat).g_)).bind fun u=>U9 F c i b e a d (!u)))))))
def Q3j(F:Nat)(a:Int)(b:(Int)->Option Bool):Option Bool:=
 gd (I64 (a+1))<|b (a+1)
def Q0v(F:Nat)(d:Tape×(List Line)×(List Int)×(List Re_))(k:List Re_)(c:Tape×(List Scheme))(m:Tape×World)(a:Int)(e:Re_×Int)(l j:(Int)->Option Bool)(b:Int):Option Bool:=
 br (decide (b<(c.2.length:Int))) (gd (0<=b/\b<(c.2.length:Int))<|gd (0<=a/\a<(k.length:Int))<|(Q1U F (gl d.2.1 a.toNat) (gl k a.toNat) (gl c.2 b.toNat) m.2).bind fun i=>br (i.2 != (0:Int)) (Q1q F d c a e b i j true) (Q1q F d c a e b i j (e.2 != (0:Int)))) (Q3j F a l)
def Q3i(F:Nat):Option Bool:=
 (Z2S F).bind fun a=>some a
def Q0w(F:Nat)(c:Tape×(List Line)×(List Int)×(List Re_))(d:List Re_)(i:Tape×(List Scheme))(b:Tape×World)(e:(Int)->Option Bool)(a:Int):Option Bool:=
 br (decide (a<(c.2.1.length:Int))) (gd (0<=a/\a<(c.2.1.length:Int))<|gd (0<=a/\a<(d.length:Int))<|(Q1u F (gl d a.toNat) b.2.zones_ b.2.day_ b.2.most_).bind fun j=>Z2 (fun g (z:Int)=>Q0v F c d i b a j e g z) F (0:Int)) (Q3i F)
def Q2z(F:Nat)(d:List Int):Option Bool:=
 (Z6y F d).bind fun e=>(Q4s F e).bind fun b=>(Q4r F b.1 b.2 (3:Int)).bind fun a=>(Q8q F a.2.1 a.2.2.2).bind fun i=>(Q6B F a.1 (2:Int)).bind fun c=>(Q4q F c.1 b.2).bind fun j=>Z2 (fun g (z:Int)=>Q0w F a i c j g z) F (0:Int)
end
end Go.Ab
end
section
end
section
end
section
end
section
end
section
end
section
namespace Go.Ab
def BIG:Nat:=1099511627776
theorem Q7{R:Type}{p:Prop}[Decidable p]{x:Option R}{y:Option R}(h:p)(k:x=y):gd p x=y:=by unfold gd;rw [if_pos h];exact k
theorem Q2{α R:Type}{x:Option α}{f:α->Option R}{a:α}{y:Option R}(h:x=some a)(k:f a=y):x.bind f=y:=by rw [h];exact k
theorem Q6{R:Type}{b:Bool}{x y z:Option R}(ht:b=true->x=z)(hf:b=false->y=z):br b x y=z:=by cases b;exact hf rfl;exact ht rfl
theorem Z4{R:Type}{b:Bool}{x y z:Option R}(h:b=true)(k:x=z):br b x y=z:=by subst h;exact k
theorem Q5{R:Type}{b:Bool}{x y z:Option R}(h:b=false)(k:y=z):br b x y=z:=by subst h;exact k
theorem W0P{R:Type}(b:Bool)(x y:Option R):br b x y=if b=true then x else y:=by cases b <;> rfl
theorem Y8{σ R:Type}{body:(σ->Option R)->σ->Option R}{y:Option R}(I:σ->Prop)(μ:σ->Nat)(round:∀ g z,I z->(∀ z',I z' -> μ z' < μ z->g z'=y)->body g z=y):∀ {n:Nat} {z:σ},I z->μ z<n->Z2 body n z=y:=by
 intro n
 induction n with
 | zero=>intro z _ h;omega
 | succ n ih=>
  intro z hz hμ;exact round (Z2 body n) z hz fun z' hz' hlt=>ih hz' (by omega)
section
variable {α:Type} [Emb α]
theorem K8{l:List α}{i:Nat}(h:i<l.length):gl l i=l[i]:=by simp [gl,List.getD_eq_getElem?_getD,h]
theorem V7{l:List α}{i:Nat}(h:i<l.length):gl l i ∈ l:=by rw [K8 h];exact List.getElem_mem h
theorem Q1P{l:List α}{i:Nat}(h:i<l.length):l.drop i=gl l i::l.drop (i+1):=by rw [K8 h];exact List.drop_eq_getElem_cons h
theorem Q0c{l:List α}{i:Nat}(h:i<l.length):l.take (i+1)=l.take i++[gl l i]:=by rw [K8 h];exact List.take_succ_eq_append_getElem h
end
theorem Z7{n:Int}(h1 : -4611686018427387904<=n)(h2:n<=4611686018427387904):I64 n:=⟨by omega,by omega⟩
theorem Y5V{α R:Type}[Emb α]{l:List α}{body:(Int->Option R)->Int->Option R}(y:List α->Option R)(step:∀ g (i:Nat),i<l.length->g ((i:Int)+1)=y (l.drop (i+1))->body g (i:Int)=y (gl l i::l.drop (i+1)))(stop:∀ g,body g (l.length:Int)=y []){F:Nat}(hF:l.length<F):Z2 body F 0=y l:=by
 have key:∀ (n:Nat) (i:Nat),i<=l.length->l.length-i<n->Z2 body n (i:Int)=y (l.drop i):=by
  intro n
  induction n with
  | zero=>intro i _ h;omega
  | succ n ih=>
   intro i hi hn;show body (Z2 body n) (i:Int)=_
   by_cases h:i<l.length
   .rw [Q1P h]
    refine step _ i h ?_;have:=ih (i+1) h (by omega)
    rw [<-this];congr 1
   .have:i=l.length:=by omega
    subst this;rw [List.drop_length];exact stop _
 have:=key F 0 (Nat.zero_le _) (by omega)
 rw [List.drop_zero] at this;exact this
theorem Z2j{α σ R:Type}[Emb α]{l:List α}{body:(Int×σ->Option R)->Int×σ->Option R}(I:List α->σ->Prop)(y:List α->σ->Option R)(step:∀ g (i:Nat) (s:σ),i<l.length->I (gl l i::l.drop (i+1)) s->(∀ s',I (l.drop (i+1)) s' -> g ((i:Int)+1,s')=y (l.drop (i+1)) s')->body g ((i:Int),s)=y (gl l i::l.drop (i+1)) s)(stop:∀ g (s:σ),I [] s->body g ((l.length:Int),s)=y [] s){F:Nat}(hF:l.length<F){s0:σ}(h0:I l s0):Z2 body F (0,s0)=y l s0:=by
 have key:∀ (n:Nat) (i:Nat) (s:σ),i<=l.length->l.length-i<n->I (l.drop i) s->Z2 body n ((i:Int),s)=y (l.drop i) s:=by
  intro n
  induction n with
  | zero=>intro i _ _ h;omega
  | succ n ih=>
   intro i s hi hn hI;show body (Z2 body n) ((i:Int),s)=_
   by_cases h:i<l.length
   .rw [Q1P h] at hI ⊢
    refine step _ i s h hI fun s' hs'=>?_
    have:=ih (i+1) s' h (by omega) hs'
    rw [<-this];congr 1
   .have:i=l.length:=by omega
    subst this;rw [List.drop_length] at hI ⊢;exact stop _ s hI
 have:=key F 0 s0 (Nat.zero_le _) (by omega) (by rwa [List.drop_zero])
 rw [List.drop_zero] at this;exact this
theorem Q4g{R:Type}(K:Bool->Option R)(b x:Bool):br b (K x) (K false)=K (b&&x):=by cases b <;> rfl
theorem Q7x{R:Type}(K:Bool->Option R)(b x:Bool):br b (K true) (K x)=K (b||x):=by cases b <;> rfl
theorem Y3z{α:Type}[Emb α]{l:List α}{i:Nat}(h:i<l.length)(p:α->Bool):(l.drop i).any p=(p (gl l i)||(l.drop (i+1)).any p):=by rw [Q1P h];rfl
theorem Z0E{a b:Nat}(h:a<b):decide ((a:Int)<((b:Nat):Int))=true:=by simpa using h
theorem Q3g(a:Nat):decide ((a:Int)<((a:Nat):Int))=false:=by simp
theorem Z3{R:Type}{p:Prop}[Decidable p]{x:Option R}{y:Option R}(h:p:=by first|omega|exact Z7 (by omega) (by omega) | (simp only [LIM,BIG,List.length_append,List.length_cons,List.length_nil,List.length_map,List.length_take,List.length_drop,List.length_set] at *;omega))(k:x=y):gd p x=y:=Q7 h k
end Go.Ab
end
section
namespace Go.Ab
def Asc(l:List Int):Prop:=l.Pairwise (· < ·)
theorem Asc.at_lt{l:List Int}(h:Asc l){i j:Nat}(hij:i<j)(hj:j<l.length):gl l i<gl l j:=by
 rw [K8 (by omega),K8 hj];exact List.pairwise_iff_getElem.1 h i j (by omega) hj hij
theorem Y7j{l:List Int}{v:Int}(h:v ∈ l):∃ j,j<l.length/\gl l j=v:=by
 obtain ⟨j,hj,e⟩:=List.getElem_of_mem h;exact ⟨j,hj,by rw [K8 hj];exact e⟩
theorem Asc.gap{c:List Int}(h:Asc c){i:Nat}(hi:i+1<c.length){t v:Int}(h1:gl c i<=t)(h2:t<gl c (i+1))(hv:v ∈ c):(v<=t↔v<=gl c i):=by
 obtain ⟨j,hj,rfl⟩:=Y7j hv;rcases Nat.lt_or_ge i j with hij|hij
 .rcases Nat.lt_or_ge (i+1) j with h3|h3
  .have:=h.at_lt h3 hj
   have:=h.at_lt (show i<i+1 by omega) hi
   omega
  .have:j=i+1:=by omega
   subst this;have:=h.at_lt (show i<i+1 by omega) hi
   omega
 .rcases Nat.lt_or_ge j i with h3|h3
  .have:=h.at_lt h3 (by omega)
   omega
  .have:j=i:=by omega
   subst this;omega
def Y6F(c:List Int)(l:List Rect):Prop:=∀ r ∈ l,r.L_ ∈ c/\r.R_ ∈ c
def Y5u(c:List Int)(l:List Rect):Prop:=∀ r ∈ l,r.w_ ∈ c/\r.H_ ∈ c
theorem Y4v{l:List Rect}{x y x' y' : Int}(h:∀ r ∈ l,r.has x y=r.has x' y'):inR l x y=inR l x' y':=by
 induction l with
 | nil=>rfl
 | cons r l ih=>
  simp only [inR,List.any_cons] at ih ⊢;rw [h r (by simp),ih fun q hq=>h q (by simp [hq])]
theorem Z7j{l:List Rect}{x y:Int}(h:∀ r ∈ l,r.has x y=false):inR l x y=false:=by
 induction l with
 | nil=>rfl
 | cons r l ih=>
  simp only [inR,List.any_cons] at ih ⊢;rw [h r (by simp),ih fun q hq=>h q (by simp [hq])];rfl
theorem J0(r:Rect)(x y:Int):r.has x y=true↔r.L_<=x/\x<r.R_/\r.w_<=y/\y<r.H_:=by simp [Rect.has,and_assoc]
theorem W0o{r:Rect}{x y x' y' : Int}(h:(r.L_<=x/\x<r.R_/\r.w_<=y/\y<r.H_)↔(r.L_<=x' /\ x' < r.R_/\r.w_<=y' /\ y' < r.H_)):r.has x y=r.has x' y':=by
 rw [Bool.eq_iff_iff,J0,J0];exact h
theorem Y2Z{r:Rect}{x y:Int}(h:¬ (r.L_<=x/\x<r.R_/\r.w_<=y/\y<r.H_)):r.has x y=false:=by
 rw [<-Bool.not_eq_true,J0];exact h
theorem Y6F.gap{c:List Int}{l:List Rect}(hc:Asc c)(h:Y6F c l){i:Nat}(hi:i+1<c.length){t:Int}(h1:gl c i<=t)(h2:t<gl c (i+1))(y:Int):inR l t y=inR l (gl c i) y:=
 Y4v fun r hr=>W0o (by
  have a:=hc.gap hi h1 h2 (h r hr).1;have b:=hc.gap hi h1 h2 (h r hr).2
  omega)
theorem Y5u.gap{c:List Int}{l:List Rect}(hc:Asc c)(h:Y5u c l){i:Nat}(hi:i+1<c.length){t:Int}(h1:gl c i<=t)(h2:t<gl c (i+1))(x:Int):inR l x t=inR l x (gl c i):=
 Y4v fun r hr=>W0o (by
  have a:=hc.gap hi h1 h2 (h r hr).1;have b:=hc.gap hi h1 h2 (h r hr).2
  omega)
theorem Y6F.before{c:List Int}{l:List Rect}(h:Y6F c l){t:Int}(ht:∀ v ∈ c,t<v)(y:Int):inR l t y=false:=
 Z7j fun r hr=>Y2Z (by have:=ht _ (h r hr).1;omega)
theorem Y6F.after{c:List Int}{l:List Rect}(h:Y6F c l){t:Int}(ht:∀ v ∈ c,v<=t)(y:Int):inR l t y=false:=
 Z7j fun r hr=>Y2Z (by have:=ht _ (h r hr).2;omega)
theorem Y5u.before{c:List Int}{l:List Rect}(h:Y5u c l){t:Int}(ht:∀ v ∈ c,t<v)(x:Int):inR l x t=false:=
 Z7j fun r hr=>Y2Z (by have:=ht _ (h r hr).1;omega)
theorem Y5u.after{c:List Int}{l:List Rect}(h:Y5u c l){t:Int}(ht:∀ v ∈ c,v<=t)(x:Int):inR l x t=false:=
 Z7j fun r hr=>Y2Z (by have:=ht _ (h r hr).2;omega)
theorem Asc.first{c:List Int}(h:Asc c){t:Int}(ht:t<gl c 0):∀ v ∈ c,t<v:=by
 intro v hv;obtain ⟨j,hj,rfl⟩:=Y7j hv
 rcases Nat.eq_zero_or_pos j with rfl|hp
 .exact ht
 .have:=h.at_lt hp hj;omega
theorem Asc.last{c:List Int}(h:Asc c){t:Int}{i:Nat}(hi:i+1=c.length)(ht:gl c i<=t):∀ v ∈ c,v<=t:=by
 intro v hv;obtain ⟨j,hj,rfl⟩:=Y7j hv
 rcases Nat.lt_or_ge j i with h1|h1
 .have:=h.at_lt h1 (by omega);omega
 .have:j=i:=by omega
  subst this;exact ht
structure Step {α:Type} (d:α) (c:List Int) (f:Int->α):Prop where
 asc:Asc c
 gap:∀ i,i+1<c.length->∀ t,gl c i<=t->t<gl c (i+1)->f t=f (gl c i)
 before:∀ t,(∀ v ∈ c,t<v)->f t=d
 after:∀ t,(∀ v ∈ c,v<=t)->f t=d
theorem Step.start{α:Type}{d:α}{c:List Int}{f:Int->α}(h:Step d c f)(_:0<c.length):Bst d f [] (gl c 0):=.start fun t ht=>h.before t (h.asc.first ht)
theorem Step.empty{α:Type}{d:α}{c:List Int}{f:Int->α}(h:Step d c f)(hc:c.length=0)(t:Int):f t=d:=h.before t fun v hv=>by
 rw [List.eq_nil_of_length_eq_zero hc] at hv;cases hv
theorem Step.done{α:Type}{d:α}{c:List Int}{f:Int->α}(h:Step d c f){i:Nat}(hi:i+1=c.length){acc:List (Rn α)}(hb:Bst d f acc (gl c i))(t:Int):atR d acc t=f t:=by
 rcases Int.lt_or_le t (gl c i) with h1|h1
 .exact hb.val t h1
 .rw [hb.out t h1,h.after t (h.asc.last hi h1)]
open Classical in
noncomputable def spn(f:Int->Bool):List Span:=if h:∃ l,SpOk l/\∀ x,inS l x=f x then h.choose else []
theorem Z8o{f:Int->Bool}{l:List Span}(hl:SpOk l)(h:∀ x,inS l x=f x):spn f=l:=by
 have he:∃ l,SpOk l/\∀ x,inS l x=f x:=⟨l,hl,h⟩;unfold spn
 rw [dif_pos he];exact he.choose_spec.1.unique hl fun x=>(he.choose_spec.2 x).trans (h x).symm
theorem SpOk.nil:SpOk []:=⟨fun s hs=>(List.not_mem_nil hs).elim,List.Pairwise.nil⟩
theorem Y0f{f:Int->Bool}(h:∀ x,f x=false):spn f=[]:=Z8o .nil fun x=>(h x).symm
def Y3D(S:Int->Int->Bool):Prop:=∀ y,∃ l,SpOk l/\∀ x,inS l x=S x y
theorem Y3D.sp{S:Int->Int->Bool}(h:Y3D S)(y:Int):SpOk (spn fun x=>S x y)/\∀ x,inS (spn fun x=>S x y) x=S x y:=by
 obtain ⟨l,h1,h2⟩:=h y;rw [Z8o h1 h2];exact ⟨h1,h2⟩
theorem Step.cn{S:Int->Int->Bool}(hr:Y3D S){c:List Int}(h:Step [] c fun y=>spn fun x=>S x y){acc:List (Rn (List Span))}(hacc:Runs acc)(hval:∀ t,atR [] acc t=spn fun x=>S x t)(hne:∀ b ∈ acc,b.v≠[]):cn S=flat acc/\Fin S:=by
 have hv:∀ b ∈ acc,b.v=spn fun x=>S x b.lo:=by
  intro b hb;have hat:∀ (l:List (Rn (List Span))),Runs l->b ∈ l->atR [] l b.lo=b.v:=by
   intro l
   induction l with
   | nil=>intro _ hb;cases hb
   | cons a l ih=>
    intro hl hb;rcases List.mem_cons.1 hb with rfl|hb
    .have:=hl.pos b (by simp)
     rw [atR,if_pos ⟨by omega,this⟩]
    .have h1:=(hl.head b hb).1
     rw [atR,if_neg (by omega)];exact ih hl.tail hb
  rw [<-hval,hat acc hacc hb]
 have hB:Bands acc:=⟨hacc,fun b hb=>by rw [hv b hb];exact (hr.sp _).1,hne⟩;have hS:∀ x y,inS (atR [] acc y) x=S x y:=fun x y=>by rw [hval];exact (hr.sp y).2 x
 exact ⟨Y4C hB hS,acc,hB,hS⟩
structure Grid (xs ys:List Int) (S:Int->Int->Bool):Prop where
 x:∀ y,Step false xs fun x=>S x y
 y:∀ x,Step false ys fun y=>S x y
theorem Step.spansL{xs:List Int}{f:Int->Bool}(h:Step false xs f):∃ l,SpOk l/\(∀ x,inS l x=f x)/\l.length<=xs.length:=by
 by_cases h0:xs.length=0
 .exact ⟨[],.nil,fun x=>(h.empty h0 x).symm,by simp⟩
 .have key:∀ i,i+1<=xs.length->∃ l:List Span,Bst false f (l.map Span.rn) (gl xs i)/\l.length<=i:=by
   intro i
   induction i with
   | zero=>intro hi;exact ⟨[],h.start (by omega),by simp⟩
   | succ i ih=>
    intro hi;obtain ⟨l,hl,hll⟩:=ih (by omega)
    have hlt:=h.asc.at_lt (show i<i+1 by omega) (by omega)
    cases hf:f (gl xs i) with
    | false=>exact ⟨l,hl.skip (by omega) fun t h1 h2=>(h.gap i (by omega) t h1 h2).trans hf,by omega⟩
    | true=>
     rcases List.eq_nil_or_concat l with rfl|⟨l',s,hls⟩
     .refine ⟨[⟨gl xs i,gl xs (i+1)⟩],?_,by simp⟩
      have:=hl.add hlt (h.gap i (by omega)) (fun a ha=>by simp at ha)
      rw [hf] at this;exact this
     .rw [List.concat_eq_append] at hls
      subst hls
      by_cases hs:s.R_=gl xs i
      .refine ⟨l' ++ [⟨s.L_,gl xs (i+1)⟩],?_,by simp at hll ⊢;omega⟩
       rw [List.map_append] at hl;have:=hl.grow (a:=s.rn) hs hlt fun t h1 h2=>(h.gap i (by omega) t h1 h2).trans hf
       rw [List.map_append];exact this
      .refine ⟨(l' ++ [s])++[⟨gl xs i,gl xs (i+1)⟩],?_,by simp at hll ⊢;omega⟩
       have:=hl.add hlt (h.gap i (by omega)) (fun a ha he=>by
        rw [List.map_append] at ha;simp at ha
        subst ha;exact absurd he hs)
       rw [hf] at this;rw [List.map_append];exact this
  obtain ⟨l,hl,hll⟩:=key (xs.length-1) (by omega);refine ⟨l,.of_runs hl.runs,fun x=>?_,by omega⟩
  rw [Z7h];exact h.done (by omega) hl x
theorem Step.spans{xs:List Int}{f:Int->Bool}(h:Step false xs f):∃ l,SpOk l/\∀ x,inS l x=f x:=by
 obtain ⟨l,h1,h2,_⟩:=h.spansL;exact ⟨l,h1,h2⟩
theorem Step.spn_len{xs:List Int}{f:Int->Bool}(h:Step false xs f):(spn f).length<=xs.length:=by
 obtain ⟨l,h1,h2,h3⟩:=h.spansL;rw [Z8o h1 h2];exact h3
theorem Grid.rows{xs ys:List Int}{S:Int->Int->Bool}(h:Grid xs ys S):Y3D S:=fun y=>(h.x y).spans
theorem Grid.step{xs ys:List Int}{S:Int->Int->Bool}(h:Grid xs ys S):Step [] ys fun y=>spn fun x=>S x y:=by
 refine ⟨(h.y 0).asc,fun i hi t h1 h2=>?_,fun t ht=>?_,fun t ht=>?_⟩
 .congr 1;funext x;exact (h.y x).gap i hi t h1 h2
 .exact Y0f fun x=>(h.y x).before t ht
 .exact Y0f fun x=>(h.y x).after t ht
theorem Grid.of{xs ys:List Int}{a b:List Rect}(hx:Asc xs)(hy:Asc ys)(ax:Y6F xs a)(bx:Y6F xs b)(ay:Y5u ys a)(by' : Y5u ys b){k:Bool->Bool->Bool}(hk:k false false=false):
  Grid xs ys fun x y=>k (inR a x y) (inR b x y):=by
 refine ⟨fun y=>⟨hx,fun i hi t h1 h2=>?_,fun t ht=>?_,fun t ht=>?_⟩,fun x=>⟨hy,fun i hi t h1 h2=>?_,fun t ht=>?_,fun t ht=>?_⟩⟩
 .simp only [ax.gap hx hi h1 h2,bx.gap hx hi h1 h2]
 .simp only [ax.before ht,bx.before ht,hk]
 .simp only [ax.after ht,bx.after ht,hk]
 .simp only [ay.gap hy hi h1 h2,by'.gap hy hi h1 h2]
 .simp only [ay.before ht,by'.before ht,hk]
 .simp only [ay.after ht,by'.after ht,hk]
end Go.Ab
end
