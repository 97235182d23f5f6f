/- The code that the statement reaches as plain programs, and what they compute. -/
import Derived.Test.YtjafnaffdfaokaaGreatDoorAbC
import Derived.Test.YtjafnaffdfaokaaGreatDoorPuA
set_option linter.unusedVariables false
set_option linter.unusedSimpArgs false
section
namespace Go.Ab
set_option maxRecDepth 100000
noncomputable section
structure Crop where
 n_:ByteArray
 f_:Int
 m_:Int
 deriving DecidableEq
instance:Emb Crop:=⟨fun x=>[.str x.n_,.int .i64 x.f_,.int .i64 x.m_],3,⟨ByteArray.empty,0,0⟩,fun _=>rfl⟩
instance:Emb Rect:=⟨fun x=>[.int .i64 x.L_,.int .i64 x.w_,.int .i64 x.R_,.int .i64 x.H_],4,⟨0,0,0,0⟩,fun _=>rfl⟩
structure Re_ where
 t_:(List Rect)
 deriving DecidableEq
instance:Emb Re_:=⟨fun x=>[DL x.t_],1,⟨[]⟩,fun _=>rfl⟩
structure Line where
 p_:Int
 g_:Re_
 c_:Int
 s_:Int
 deriving DecidableEq
instance:Emb Line:=⟨fun x=>[.int .i64 x.p_,DL x.g_.t_,.int .i64 x.c_,.int .i64 x.s_],4,⟨0,⟨[]⟩,0,0⟩,fun _=>rfl⟩
structure Version where
 day_:Int
 lines_:(List Line)
 deriving DecidableEq
instance:Emb Version:=⟨fun x=>[.int .i64 x.day_,DL x.lines_],2,⟨0,[]⟩,fun _=>rfl⟩
structure Term where
 op_:Int
 num_:Int
 more_:Int
 kids_:(List Term)
def Term.d0(x:Term):DVal:=if x.op_=(2 ^ 64) then .any else .int .i64 x.op_
def Term.d1(x:Term):DVal:=if x.op_=(2 ^ 64) then .any else .int .i64 x.num_
def Term.d2(x:Term):DVal:=if x.op_=(2 ^ 64) then .any else .int .i64 x.more_
def Term.d3:Term->DVal
 | ⟨a0,a1,a2,a3⟩=>if a0=(2 ^ 64) then .any else .lst a3.length (fun i=>if h:i<a3.length then [Term.d0 a3[i],Term.d1 a3[i],Term.d2 a3[i],Term.d3 a3[i]] else [.any,.any,.any,.any])
decreasing_by
 have:=List.sizeOf_lt_of_mem (List.getElem_mem h)
 simp only [Term.mk.sizeOf_spec];omega
instance:Emb Term:=⟨fun x=>[x.d0,x.d1,x.d2,x.d3],4,⟨(2 ^ 64),0,0,[]⟩,fun _=>rfl⟩
theorem Pg{x:Term}(h:Q6 x.op_):Emb.cells x=[.int .i64 x.op_,.int .i64 x.num_,.int .i64 x.more_,DL x.kids_]:=by
 obtain ⟨a0,a1,a2,a3⟩:=x;show [Term.d0 _,Term.d1 _,Term.d2 _,Term.d3 _]=_
 have h:Q6 a0:=h;have hm:¬ a0=(2 ^ 64):=fun e=>by subst e;revert h;decide
 have hl:∀ l:List Term,(.lst l.length (fun i=>if h:i<l.length then [Term.d0 l[i],Term.d1 l[i],Term.d2 l[i],Term.d3 l[i]] else [.any,.any,.any,.any]):DVal)=DL l:=by
  intro l;unfold DL
  congr 1
  funext i
  unfold LF
  by_cases hi:i<l.length
  .rw [dif_pos hi,List.getD_eq_getElem?_getD,List.getElem?_eq_getElem hi];rfl
  .rw [dif_neg hi,List.getD_eq_getElem?_getD,List.getElem?_eq_none (by omega)];show _=[Term.d0 ⟨(2 ^ 64),0,0,[]⟩,Term.d1 ⟨(2 ^ 64),0,0,[]⟩,Term.d2 ⟨(2 ^ 64),0,0,[]⟩,Term.d3 ⟨(2 ^ 64),0,0,[]⟩];unfold Term.d3;rfl
 have hk:Term.d3 ⟨a0,a1,a2,a3⟩=DL a3:=by
  unfold Term.d3;rw [if_neg hm,hl]
 rw [hk];simp only [Term.d0,Term.d1,Term.d2,if_neg hm]
theorem Term.elm{l:List Term}{i:Nat}(h:Q6 (gl l i).op_):AVal.v (.c (.elm (LF l i)))=.v (.c (.elm [.int .i64 (gl l i).op_,.int .i64 (gl l i).num_,.int .i64 (gl l i).more_,DL (gl l i).kids_])):=by
 have:=Pg h
 unfold LF;unfold gl at this ⊢
 rw [this]
structure Bracket where
 up_:Int
 rate_:Int
 deriving DecidableEq
instance:Emb Bracket:=⟨fun x=>[.int .i64 x.up_,.int .i64 x.rate_],2,⟨0,0⟩,fun _=>rfl⟩
structure Scheme where
 N_:Int
 n_:ByteArray
 cond_:Term
 brackets_:(List Bracket)
 least_:Int
 excludes_:Int
 needs_:Bool
instance:Emb Scheme:=⟨fun x=>[.int .i64 x.N_,.str x.n_,.int .i64 x.cond_.op_,.int .i64 x.cond_.num_,.int .i64 x.cond_.more_,DL x.cond_.kids_,DL x.brackets_,.int .i64 x.least_,.int .i64 x.excludes_,.bool x.needs_],10,⟨0,ByteArray.empty,(Emb.d:Term),[],0,0,false⟩,fun _=>rfl⟩
structure Rg_ where
 year_:Int
 c_:Int
 g_:Re_
 deriving DecidableEq
instance:Emb Rg_:=⟨fun x=>[.int .i64 x.year_,.int .i64 x.c_,DL x.g_.t_],3,⟨0,0,⟨[]⟩⟩,fun _=>rfl⟩
structure A2_ where
 N_:Int
 k_:Int
 F_:Int
 u_:Int
 g_:Re_
 deriving DecidableEq
instance:Emb A2_:=⟨fun x=>[.int .i64 x.N_,.int .i64 x.k_,.int .i64 x.F_,.int .i64 x.u_,DL x.g_.t_],5,⟨0,0,0,0,⟨[]⟩⟩,fun _=>rfl⟩
structure World where
 year_:Int
 crops_:(List Crop)
 history_:(List Rg_)
 zones_:(List A2_)
 day_:Int
 most_:Int
 deriving DecidableEq
instance:Emb World:=⟨fun x=>[.int .i64 x.year_,DL x.crops_,DL x.history_,DL x.zones_,.int .i64 x.day_,.int .i64 x.most_],6,⟨0,[],[],[],0,0⟩,fun _=>rfl⟩
structure Tape where
 l_:(List Int)
 at_:Int
 deriving DecidableEq
instance:Emb Tape:=⟨fun x=>[DL x.l_,.int .i64 x.at_],2,⟨[],0⟩,fun _=>rfl⟩
structure Arr3ListRect where
 e0_:(List Rect)
 e1_:(List Rect)
 e2_:(List Rect)
 deriving DecidableEq
instance:Emb Arr3ListRect:=⟨fun x=>[DL x.e0_,DL x.e1_,DL x.e2_],3,⟨[],[],[]⟩,fun _=>rfl⟩
structure Point where
 x_:Int
 y_:Int
 deriving DecidableEq
instance:Emb Point:=⟨fun x=>[.int .i64 x.x_,.int .i64 x.y_],2,⟨0,0⟩,fun _=>rfl⟩
structure Truth where
 true_:Re_
 false_:Re_
 unknown_:Re_
 deriving DecidableEq
instance:Emb Truth:=⟨fun x=>[DL x.true_.t_,DL x.false_.t_,DL x.unknown_.t_],3,⟨⟨[]⟩,⟨[]⟩,⟨[]⟩⟩,fun _=>rfl⟩
structure Edge where
 F_:Point
 to_:Point
 deriving DecidableEq
instance:Emb Edge:=⟨fun x=>[.int .i64 x.F_.x_,.int .i64 x.F_.y_,.int .i64 x.to_.x_,.int .i64 x.to_.y_],4,⟨⟨0,0⟩,⟨0,0⟩⟩,fun _=>rfl⟩
instance:Emb Span:=⟨fun x=>[.int .i64 x.L_,.int .i64 x.R_],2,⟨0,0⟩,fun _=>rfl⟩
structure Wide where
 H_:Int
 w_:Int
 deriving DecidableEq
instance:Emb Wide:=⟨fun x=>[.int .u64 x.H_,.int .u64 x.w_],2,⟨0,0⟩,fun _=>rfl⟩
structure Band where
 w_:Int
 H_:Int
 spans_:(List Span)
 deriving DecidableEq
instance:Emb Band:=⟨fun x=>[.int .i64 x.w_,.int .i64 x.H_,DL x.spans_],3,⟨0,0,[]⟩,fun _=>rfl⟩
structure TermWorld where
 year_:Int
 crops_:(List Crop)
 history_:(List Rg_)
 zones_:(List A2_)
 day_:Int
 deriving DecidableEq
instance:Emb TermWorld:=⟨fun x=>[.int .i64 x.year_,DL x.crops_,DL x.history_,DL x.zones_,.int .i64 x.day_],5,⟨0,[],[],[],0⟩,fun _=>rfl⟩
structure Place where
 world_:TermWorld
 line_:Line
 t_:(List Rect)
 deriving DecidableEq
instance:Emb Place:=⟨fun x=>[.int .i64 x.world_.year_,DL x.world_.crops_,DL x.world_.history_,DL x.world_.zones_,.int .i64 x.world_.day_,.int .i64 x.line_.p_,DL x.line_.g_.t_,.int .i64 x.line_.c_,.int .i64 x.line_.s_,DL x.t_],10,⟨⟨0,[],[],[],0⟩,⟨0,⟨[]⟩,0,0⟩,[]⟩,fun _=>rfl⟩
structure Squares where
 yes_:(List Rect)
 no_:(List Rect)
 open_:(List Rect)
 deriving DecidableEq
instance:Emb Squares:=⟨fun x=>[DL x.yes_,DL x.no_,DL x.open_],3,⟨[],[],[]⟩,fun _=>rfl⟩
def vG(q:Rect->Option Bool):List AVal->AVal->Prop:=fun args r=>∃ x0 y,q x0=some y/\args=[gE x0]/\r=vb y
def Q2C(q:Span->Span->Option Int):List AVal->AVal->Prop:=fun args r=>∃ x0 x1 y,q x0 x1=some y/\args=[gE x0,gE x1]/\r=vi y
def Q2D(q:Int->Option (List Span)):List AVal->AVal->Prop:=fun args r=>∃ x0 y,q x0=some y/\args=[vi x0]/\r=AL y
def vE(q:Span->Option Bool):List AVal->AVal->Prop:=fun args r=>∃ x0 y,q x0=some y/\args=[gE x0]/\r=vb y
def GA(q:Bool->Bool->Option Bool):List AVal->AVal->Prop:=fun args r=>∃ x0 x1 y,q x0 x1=some y/\args=[vb x0,vb x1]/\r=vb y
def vD(q:Term->Option Bool):List AVal->AVal->Prop:=fun args r=>∃ x0 y,q x0=some y/\args=[.v (.g [ci x0.op_,ci x0.num_,ci x0.more_,.d (DL x0.kids_)])]/\r=vb y
def vF(q:Scheme->Option Bool):List AVal->AVal->Prop:=fun args r=>∃ x0 y,q x0=some y/\args=[gE x0]/\r=vb y
def vH(q:Rg_->Option Bool):List AVal->AVal->Prop:=fun args r=>∃ x0 y,q x0=some y/\args=[gE x0]/\r=vb y
def CK(q:A2_->Option Bool):List AVal->AVal->Prop:=fun args r=>∃ x0 y,q x0=some y/\args=[gE x0]/\r=vb y
def JX(q:Int->Option Bool):List AVal->AVal->Prop:=fun args r=>∃ x0 y,q x0=some y/\args=[vi x0]/\r=vb y
def vI(q:Line->Option Bool):List AVal->AVal->Prop:=fun args r=>∃ x0 y,q x0=some y/\args=[gE x0]/\r=vb y
def Q2E(q:Int->Int->Option Int):List AVal->AVal->Prop:=fun args r=>∃ x0 x1 y,q x0 x1=some y/\args=[vi x0,vi x1]/\r=vi y
def Td(F:Nat)(x1:List Int):Option Tape:=
 gd (0<=(Ql (x1.length:Int) (400:Int))/\(Ql (x1.length:Int) (400:Int))<=(x1.length:Int))<|some (⟨(x1.take (Ql (x1.length:Int) (400:Int)).toNat),0⟩:Tape)
def zH(F:Nat)(v9:Int):Option Int:=
 some v9
def Gb(F:Nat)(x3 x4:Int):Option Int:=
 br (decide (x4<(1:Int))) (some (0:Int)) (gd (x4≠0)<|br (decide ((x3.tmod x4)<0)) (gd (Q6 ((x3.tmod x4)+x4))<|zH F ((x3.tmod x4)+x4)) (zH F (x3.tmod x4)))
def QD(F:Nat)(a:Tape)(b:Int):Option (Tape×Int):=
 br (decide ((a.l_.length:Int)<=a.at_)) (some (a,(0:Int))) (gd (Q6 (a.at_+1))<|gd (Q6 ((a.at_+1)-1))<|gd (0<=((a.at_+1)-1)/\((a.at_+1)-1)<(a.l_.length:Int))<|(Gb F (gl a.l_ ((a.at_+1)-1).toNat) b).bind fun c=>some ((⟨a.l_,(a.at_+1)⟩:Tape),c))
def YD(F:Nat)(d:Tape)(a b:Int):Option (Tape×Int):=
 gd (Q6 (b-a))<|gd (Q6 ((b-a)+1))<|(QD F d ((b-a)+1)).bind fun c=>gd (Q6 (a+c.2))<|some (c.1,(a+c.2))
def bF(F:Nat)(a:List Crop)(b:List Int)(c:Int):Option (Tape×(List Crop)):=
 some ((⟨b,c⟩:Tape),a)
def XF(F:Nat)(c:Tape×Int)(k:(Int×(List Int)×Int×(List Crop))->Option (Tape×(List Crop)))(a:Int)(i:List Int)(j:Int)(d:List Crop):Option (Tape×(List Crop)):=
 br (decide (a<((List.length (([(ByteArray.mk #[98,97,114,108,101,121]),(ByteArray.mk #[99,108,111,118,101,114]),(ByteArray.mk #[103,114,97,115,115]),(ByteArray.mk #[109,97,105,122,101]),(ByteArray.mk #[111,97,116,115]),(ByteArray.mk #[114,121,101]),(ByteArray.mk #[118,101,116,99,104]),(ByteArray.mk #[119,104,101,97,116])]:List ByteArray).take c.2.toNat):Nat):Int))) (gd (0<=a/\a<((List.length (([(ByteArray.mk #[98,97,114,108,101,121]),(ByteArray.mk #[99,108,111,118,101,114]),(ByteArray.mk #[103,114,97,115,115]),(ByteArray.mk #[109,97,105,122,101]),(ByteArray.mk #[111,97,116,115]),(ByteArray.mk #[114,121,101]),(ByteArray.mk #[118,101,116,99,104]),(ByteArray.mk #[119,104,101,97,116])]:List ByteArray).take c.2.toNat):Nat):Int))<|(QD F (⟨i,j⟩:Tape) (3:Int)).bind fun e=>(QD F e.1 (8:Int)).bind fun b=>gd (0<=b.2/\b.2<((List.length ([(0:Int),(0:Int),(0:Int),(2:Int),(20:Int),(8:Int),(1:Int),(31:Int)]:List Int):Nat):Int))<|gd (d.length+(List.length ([(⟨(gl (([(ByteArray.mk #[98,97,114,108,101,121]),(ByteArray.mk #[99,108,111,118,101,114]),(ByteArray.mk #[103,114,97,115,115]),(ByteArray.mk #[109,97,105,122,101]),(ByteArray.mk #[111,97,116,115]),(ByteArray.mk #[114,121,101]),(ByteArray.mk #[118,101,116,99,104]),(ByteArray.mk #[119,104,101,97,116])]:List ByteArray).take c.2.toNat) a.toNat),e.2,(gl ([(0:Int),(0:Int),(0:Int),(2:Int),(20:Int),(8:Int),(1:Int),(31:Int)]:List Int) b.2.toNat)⟩:Crop)]:List Crop))<=Y5)<|gd (Q6 (a+1))<|k ((a+1),b.1.l_,b.1.at_,(d++([(⟨(gl (([(ByteArray.mk #[98,97,114,108,101,121]),(ByteArray.mk #[99,108,111,118,101,114]),(ByteArray.mk #[103,114,97,115,115]),(ByteArray.mk #[109,97,105,122,101]),(ByteArray.mk #[111,97,116,115]),(ByteArray.mk #[114,121,101]),(ByteArray.mk #[118,101,116,99,104]),(ByteArray.mk #[119,104,101,97,116])]:List ByteArray).take c.2.toNat) a.toNat),e.2,(gl ([(0:Int),(0:Int),(0:Int),(2:Int),(20:Int),(8:Int),(1:Int),(31:Int)]:List Int) b.2.toNat)⟩:Crop)]:List Crop)))) (bF F d i j)
def Tb(F:Nat)(b:Tape):Option (Tape×(List Crop)):=
 (YD F b (3:Int) (8:Int)).bind fun a=>gd (0<=a.2/\a.2<=((List.length ([(ByteArray.mk #[98,97,114,108,101,121]),(ByteArray.mk #[99,108,111,118,101,114]),(ByteArray.mk #[103,114,97,115,115]),(ByteArray.mk #[109,97,105,122,101]),(ByteArray.mk #[111,97,116,115]),(ByteArray.mk #[114,121,101]),(ByteArray.mk #[118,101,116,99,104]),(ByteArray.mk #[119,104,101,97,116])]:List ByteArray):Nat):Int))<|Z9 (fun g (z:Int×(List Int)×Int×(List Crop))=>XF F a g z.1 z.2.1 z.2.2.1 z.2.2.2) F ((0:Int),a.1.l_,a.1.at_,([]:List Crop))
def KY(F:Nat)(i:Tape)(c:Int):Option (Tape×Rect):=
 (QD F i c).bind fun a=>(QD F a.1 c).bind fun b=>gd (Q6 (a.2+(1:Int)))<|gd (Q6 (c-a.2))<|(QD F b.1 (c-a.2)).bind fun d=>gd (Q6 ((a.2+(1:Int))+d.2))<|gd (Q6 (b.2+(1:Int)))<|gd (Q6 (c-b.2))<|(QD F d.1 (c-b.2)).bind fun e=>gd (Q6 ((b.2+(1:Int))+e.2))<|some (e.1,(⟨a.2,b.2,((a.2+(1:Int))+d.2),((b.2+(1:Int))+e.2)⟩:Rect))
def Ve(F:Nat)(a:Bool):Option Bool:=
 some a
def Xo(F:Nat)(a:Rect):Option Bool:=
 br (decide ((0:Int)<=a.L_)) (br (decide (a.L_<a.R_)) (br (decide (a.R_<=16384)) (br (decide ((0:Int)<=a.w_)) (br (decide (a.w_<a.H_)) (Ve F (decide (a.H_<=16384))) (Ve F false)) (Ve F false)) (Ve F false)) (Ve F false)) (Ve F false)
def BX(F:Nat)(b:List Int)(c a:Int)(d:Bool):Option (List Int):=
 br d (some b) (gd (0<=a/\a<=(b.length:Int))<|gd ((0)+(List.length (b.take a.toNat))<=Y5)<|gd (((0)+(List.length (b.take a.toNat)))+(List.length ([c]:List Int))<=Y5)<|gd (0<=a/\a<=(b.length:Int))<|gd ((((0)+(List.length (b.take a.toNat)))+(List.length ([c]:List Int)))+(List.length (b.drop a.toNat))<=Y5)<|some (((([]:List Int)++(b.take a.toNat))++([c]:List Int))++(b.drop a.toNat)))
def Sl(F:Nat)(b:List Int)(c a:Int):Option (List Int):=
 br (decide (a<(b.length:Int))) (gd (0<=a/\a<(b.length:Int))<|BX F b c a ((gl b a.toNat)==c)) (BX F b c a false)
def BY(F:Nat)(d:List Int)(e a:Int)(b:(Int)->Option (List Int))(c:Bool):Option (List Int):=
 br c (gd (Q6 (a+1))<|b (a+1)) (Sl F d e a)
def cc(F:Nat)(b:List Int)(c:Int)(d:(Int)->Option (List Int))(a:Int):Option (List Int):=
 br (decide (a<(b.length:Int))) (gd (0<=a/\a<(b.length:Int))<|BY F b c a d (decide ((gl b a.toNat)<c))) (BY F b c a d false)
def KN(F:Nat)(a:List Int)(b:Int):Option (List Int):=
 Z9 (fun g (z:Int)=>cc F a b g z) F (0:Int)
def UC(F:Nat)(a:Int)(b:(Int)->Option Bool)(c:Bool):Option Bool:=
 br c (some true) (gd (Q6 (a+1))<|b (a+1))
def jL(F:Nat):Option Bool:=
 some false
def qv(F:Nat)(b:List Rect)(d e:Int)(c:(Int)->Option Bool)(a:Int):Option Bool:=
 br (decide (a<(b.length:Int))) (gd (0<=a/\a<(b.length:Int))<|br (decide (((gl b a.toNat).L_)<=d)) (br (decide (d<((gl b a.toNat).R_))) (br (decide (((gl b a.toNat).w_)<=e)) (UC F a c (decide (e<((gl b a.toNat).H_)))) (UC F a c false)) (UC F a c false)) (UC F a c false)) (jL F)
def BQ(F:Nat)(a:List Rect)(b c:Int):Option Bool:=
 Z9 (fun g (z:Int)=>qv F a b c g z) F (0:Int)
def qu(F:Nat)(a:Bool):Option Bool:=
 some a
def qt(F:Nat)(a:Bool):Option Bool:=
 some a
def qr(F:Nat)(a:Bool):Option Bool:=
 some a
def RW(F:Nat)(a b:Bool)(c:Int):Option Bool:=
 br (c==1) (br a (qu F true) (qu F b)) (br (c==2) (br a (qt F b) (qt F false)) (br a (qr F (!b)) (qr F false)))
def BP(F:Nat)(a:Int)(b:(Int)->Option Bool)(c:Bool):Option Bool:=
 br c (some false) (gd (Q6 (a+1))<|b (a+1))
def jG(F:Nat):Option Bool:=
 some true
def jH(F:Nat)(b c:List Rect)(d:(Int)->Option Bool)(a:Int):Option Bool:=
 br (decide (a<(b.length:Int))) (gd (0<=a/\a<(b.length:Int))<|gd (0<=a/\a<(c.length:Int))<|br (((gl b a.toNat).L_) != ((gl c a.toNat).L_)) (BP F a d true) (gd (0<=a/\a<(b.length:Int))<|gd (0<=a/\a<(c.length:Int))<|BP F a d (((gl b a.toNat).R_) != ((gl c a.toNat).R_)))) (jG F)
def RV(F:Nat)(a b:List Rect):Option Bool:=
 br ((a.length:Int) != (b.length:Int)) (some false) (Z9 (fun g (z:Int)=>jH F a b g z) F (0:Int))
def qy(F:Nat)(a:Int)(b:((List Int)×(List Int)×Int)->Option (List Rect))(c d:List Int):Option (List Rect):=
 gd (Q6 (a+1))<|b (c,d,(a+1))
def qE(F:Nat)(c d:List Rect)(b:Int)(j k:((List Int)×(List Int)×Int)->Option (List Rect))(e i:List Int)(a:Int):Option (List Rect):=
 br (decide (a<((List.length (gl ([c,d]:List (List Rect)) b.toNat):Nat):Int))) (gd (0<=a/\a<((List.length (gl ([c,d]:List (List Rect)) b.toNat):Nat):Int))<|(KN F e ((gl (gl ([c,d]:List (List Rect)) b.toNat) a.toNat).L_)).bind fun l=>(KN F l ((gl (gl ([c,d]:List (List Rect)) b.toNat) a.toNat).R_)).bind fun m=>(KN F i ((gl (gl ([c,d]:List (List Rect)) b.toNat) a.toNat).w_)).bind fun n=>(KN F n ((gl (gl ([c,d]:List (List Rect)) b.toNat) a.toNat).H_)).bind fun o=>gd (Q6 (a+1))<|k (m,o,(a+1))) (qy F b j e i)
def BU(F:Nat)(a:Int)(b:(Int×(List Rect))->Option (List Rect))(c:List Rect):Option (List Rect):=
 gd (Q6 (a+1))<|b ((a+1),c)
def Jz(F:Nat)(d e:List Int)(c a:Int)(b:List Rect)(i:(Int×(List Rect))->Option (List Rect))(j:Bool):Option (List Rect):=
 br j (gd (Q6 ((b.length:Int)-1))<|gd (Q6 (a+1))<|gd (0<=(a+1)/\(a+1)<(d.length:Int))<|gd (0<=((b.length:Int)-1)/\((b.length:Int)-1)<(b.length:Int))<|BU F a i (List.set b ((b.length:Int)-1).toNat (⟨(gl b ((b.length:Int)-1).toNat).L_,(gl b ((b.length:Int)-1).toNat).w_,(gl d (a+1).toNat),(gl b ((b.length:Int)-1).toNat).H_⟩:Rect))) (gd (0<=a/\a<(d.length:Int))<|gd (0<=c/\c<(e.length:Int))<|gd (Q6 (a+1))<|gd (0<=(a+1)/\(a+1)<(d.length:Int))<|gd (Q6 (c+1))<|gd (0<=(c+1)/\(c+1)<(e.length:Int))<|gd (b.length+(List.length ([(⟨(gl d a.toNat),(gl e c.toNat),(gl d (a+1).toNat),(gl e (c+1).toNat)⟩:Rect)]:List Rect))<=Y5)<|BU F a i (b++([(⟨(gl d a.toNat),(gl e c.toNat),(gl d (a+1).toNat),(gl e (c+1).toNat)⟩:Rect)]:List Rect)))
def BV(F:Nat)(a:Int)(b:(Int×(List Rect)×(List Rect))->Option (List Rect))(c d:List Rect):Option (List Rect):=
 gd (Q6 (a+1))<|b ((a+1),c,d)
def qz(F:Nat)(b:Int)(c:List Rect)(a:(Int×(List Rect)×(List Rect))->Option (List Rect))(d:List Rect):Option (List Rect):=
 BV F b a c d
def qD(F:Nat)(d:List Int)(c:Int)(j k:List Rect)(i:(Int×(List Rect)×(List Rect))->Option (List Rect))(e:(Int×(List Rect))->Option (List Rect))(a:Int)(b:List Rect):Option (List Rect):=
 br (decide (a<(k.length:Int))) (gd (Q6 (c+1))<|gd (0<=(c+1)/\(c+1)<(d.length:Int))<|gd (0<=a/\a<(b.length:Int))<|gd (Q6 (a+1))<|e ((a+1),(List.set b a.toNat (⟨(gl b a.toNat).L_,(gl b a.toNat).w_,(gl b a.toNat).R_,(gl d (c+1).toNat)⟩:Rect)))) (qz F c j i b)
def Sc(F:Nat)(d:Int)(a b e:List Rect)(c:(Int×(List Rect)×(List Rect))->Option (List Rect)):Option (List Rect):=
 gd (a.length+b.length<=Y5)<|BV F d c (a++b) e
def KM(F:Nat)(e:List Int)(c:Int)(d a i:List Rect)(b:(Int×(List Rect)×(List Rect))->Option (List Rect))(j:Bool):Option (List Rect):=
 br j (Z9 (fun g (z:Int×(List Rect))=>qD F e c d a b g z.1 z.2) F ((0:Int),a)) (Sc F c d a i b)
def BT(F:Nat)(c:List Int)(b:Int)(i a:List Rect)(e:(Int×(List Rect)×(List Rect))->Option (List Rect))(d:List Rect):Option (List Rect):=
 br (decide (0<(a.length:Int))) ((RV F a d).bind fun j=>br j (gd (0<=(0:Int)/\0<(a.length:Int))<|gd (0<=b/\b<(c.length:Int))<|KM F c b i a d e (((gl a (0:Int).toNat).H_)==(gl c b.toNat))) (KM F c b i a d e false)) (KM F c b i a d e false)
def qA(F:Nat)(m n:List Rect)(o:Int)(c e:List Int)(d:Int)(k l:List Rect)(j:(Int×(List Rect)×(List Rect))->Option (List Rect))(i:(Int×(List Rect))->Option (List Rect))(a:Int)(b:List Rect):Option (List Rect):=
 gd (Q6 (a+1))<|br (decide ((a+1)<(c.length:Int))) (gd (0<=a/\a<(c.length:Int))<|gd (0<=d/\d<(e.length:Int))<|(BQ F m (gl c a.toNat) (gl e d.toNat)).bind fun p=>gd (0<=a/\a<(c.length:Int))<|gd (0<=d/\d<(e.length:Int))<|(BQ F n (gl c a.toNat) (gl e d.toNat)).bind fun q=>(RW F p q o).bind fun s=>br (!s) (BU F a i b) (br (decide (0<(b.length:Int))) (gd (Q6 ((b.length:Int)-1))<|gd (0<=((b.length:Int)-1)/\((b.length:Int)-1)<(b.length:Int))<|gd (0<=a/\a<(c.length:Int))<|Jz F c e d a b i (((gl b ((b.length:Int)-1).toNat).R_)==(gl c a.toNat))) (Jz F c e d a b i false))) (BT F e d k l j b)
def Sb(F:Nat)(a b:List Rect):Option (List Rect):=
 gd (a.length+b.length<=Y5)<|some (a++b)
def jV(F:Nat)(j k:List Rect)(l:Int)(i b:List Int)(e:(Int×(List Rect)×(List Rect))->Option (List Rect))(a:Int)(c d:List Rect):Option (List Rect):=
 gd (Q6 (a+1))<|br (decide ((a+1)<(b.length:Int))) (Z9 (fun g (z:Int×(List Rect))=>qA F j k l i b a c d e g z.1 z.2) F ((0:Int),([]:List Rect))) (Sb F c d)
def Sa(F:Nat)(c d:List Rect)(e:Int)(a b:List Int):Option (List Rect):=
 Z9 (fun g (z:Int×(List Rect)×(List Rect))=>jV F c d e a b g z.1 z.2.1 z.2.2) F ((0:Int),([]:List Rect),([]:List Rect))
def BW(F:Nat)(b c:List Rect)(j:Int)(i:((List Int)×(List Int)×Int)->Option (List Rect))(d e:List Int)(a:Int):Option (List Rect):=
 br (decide (a<((List.length ([b,c]:List (List Rect)):Nat):Int))) (gd (0<=a/\a<((List.length ([b,c]:List (List Rect)):Nat):Int))<|Z9 (fun g (z:(List Int)×(List Int)×Int)=>qE F b c a i g z.1 z.2.1 z.2.2) F (d,e,(0:Int))) (Sa F b c j d e)
def Wo(F:Nat)(a b:List Rect)(c:Int):Option (List Rect):=
 Z9 (fun g (z:(List Int)×(List Int)×Int)=>BW F a b c g z.1 z.2.1 z.2.2) F (([]:List Int),([]:List Int),(0:Int))
def Se(F:Nat)(a:List Rect):Option (Re_×Int):=
 br (decide (120<(a.length:Int))) (some ((⟨[]⟩:Re_),(1:Int))) (some ((⟨a⟩:Re_),(0:Int)))
def qx(F:Nat)(b:List Rect):Option (Re_×Int):=
 (Wo F b ([]) (1:Int)).bind fun c=>(Se F c).bind fun a=>some (a.1,a.2)
def jP(F:Nat)(b:List Rect)(c:(Int)->Option (Re_×Int))(a:Int):Option (Re_×Int):=
 br (decide (a<(b.length:Int))) (gd (0<=a/\a<(b.length:Int))<|(Xo F (gl b a.toNat)).bind fun d=>br (!d) (some ((⟨[]⟩:Re_),(2:Int))) (gd (Q6 (a+1))<|c (a+1))) (qx F b)
def RY(F:Nat)(a:List Rect):Option (Re_×Int):=
 br (decide (120<(a.length:Int))) (some ((⟨[]⟩:Re_),(1:Int))) (Z9 (fun g (z:Int)=>jP F a g z) F (0:Int))
def zr(F:Nat)(a:List Rect)(b:List Int)(c:Int):Option (Tape×Re_):=
 (RY F a).bind fun d=>some ((⟨b,c⟩:Tape),d.1)
def Xz(F:Nat)(j:Int)(i:(Int×(List Int)×Int×(List Rect))->Option (Tape×Re_))(b:Int)(d:List Int)(e:Int)(c:List Rect):Option (Tape×Re_):=
 br (decide ((0:Int)<b)) ((KY F (⟨d,e⟩:Tape) j).bind fun a=>gd (c.length+(List.length ([a.2]:List Rect))<=Y5)<|gd (Q6 (b-1))<|i ((b-1),a.1.l_,a.1.at_,(c++([a.2]:List Rect)))) (zr F c d e)
def XA(F:Nat)(c:Tape)(d b:Int):Option (Tape×Re_):=
 gd (Q6 (b+1))<|(QD F c (b+1)).bind fun a=>Z9 (fun g (z:Int×(List Int)×Int×(List Rect))=>Xz F d g z.1 z.2.1 z.2.2.1 z.2.2.2) F (a.2,a.1.l_,a.1.at_,([]:List Rect))
def zD(F:Nat)(a:List Rect)(b:List Int)(c:Int):Option (Tape×Re_):=
 some ((⟨b,c⟩:Tape),(⟨a⟩:Re_))
def Ga(F:Nat)(d:Tape)(c e:Int):Option (Tape×Re_):=
 (XA F d c e).bind fun a=>br ((a.2.t_.length:Int)==0) ((KY F a.1 c).bind fun b=>zD F ([b.2]:List Rect) b.1.l_ b.1.at_) (zD F a.2.t_ a.1.l_ a.1.at_)
def jX(F:Nat)(a:List Rect):Option (Re_×Int):=
 br (decide (120<(a.length:Int))) (some ((⟨([]:List Rect)⟩:Re_),(1:Int))) (some ((⟨a⟩:Re_),(0:Int)))
def jQ(F:Nat)(b:List Rect):Option (Re_×Int):=
 (Wo F b ([]) (1:Int)).bind fun c=>(jX F c).bind fun a=>some ((⟨a.1.t_⟩:Re_),a.2)
def Q8B(F:Nat)(b:List Rect)(c:(Int)->Option (Re_×Int))(a:Int):Option (Re_×Int):=
 br (decide (a<(b.length:Int))) (gd (0<=a/\a<(b.length:Int))<|(Xo F (gl b a.toNat)).bind fun d=>br (!d) (some ((⟨([]:List Rect)⟩:Re_),(2:Int))) (gd (Q6 (a+1))<|c (a+1))) (jQ F b)
def jR(F:Nat)(a:List Rect):Option (Re_×Int):=
 br (decide (120<(a.length:Int))) (some ((⟨([]:List Rect)⟩:Re_),(1:Int))) (Z9 (fun g (z:Int)=>Q8B F a g z) F (0:Int))
def bv(F:Nat)(a:List Rect)(b:List Int)(c:Int):Option (Tape×Re_):=
 (jR F a).bind fun d=>some ((⟨b,c⟩:Tape),(⟨d.1.t_⟩:Re_))
def Z0k(F:Nat)(j:Int)(i:(Int×(List Int)×Int×(List Rect))->Option (Tape×Re_))(b:Int)(d:List Int)(e:Int)(c:List Rect):Option (Tape×Re_):=
 br (decide ((0:Int)<b)) ((KY F (⟨d,e⟩:Tape) j).bind fun a=>gd (c.length+(List.length ([a.2]:List Rect))<=Y5)<|gd (Q6 (b-1))<|i ((b-1),a.1.l_,a.1.at_,(c++([a.2]:List Rect)))) (bv F c d e)
def bw(F:Nat)(c:Tape)(d b:Int):Option (Tape×Re_):=
 gd (Q6 (b+1))<|(QD F c (b+1)).bind fun a=>Z9 (fun g (z:Int×(List Int)×Int×(List Rect))=>Z0k F d g z.1 z.2.1 z.2.2.1 z.2.2.2) F (a.2,a.1.l_,a.1.at_,([]:List Rect))
def zE(F:Nat)(a:List Int)(b:Int)(c:List Rect):Option (Tape×Re_):=
 some ((⟨a,b⟩:Tape),(⟨c⟩:Re_))
def zF(F:Nat)(d:Tape)(c e:Int):Option (Tape×Re_):=
 (bw F d c e).bind fun a=>br ((a.2.t_.length:Int)==0) ((KY F a.1 c).bind fun b=>zE F b.1.l_ b.1.at_ ([b.2]:List Rect)) (zE F a.1.l_ a.1.at_ a.2.t_)
def Dk(F:Nat)(a:Int)(b:(Int×(List Int)×Int×(List Line))->Option (Tape×(List Line)×(List Int)×(List Re_)))(c:List Int)(d:Int)(e:List Line):Option (Tape×(List Line)×(List Int)×(List Re_)):=
 gd (Q6 (a-1))<|b ((a-1),c,d,e)
def Dl(F:Nat)(l:List Crop)(k:Int)(b:List Line)(d:Tape×Int)(e:Tape×Re_)(j:(Int×(List Int)×Int×(List Line))->Option (Tape×(List Line)×(List Int)×(List Re_)))(c:List Rect):Option (Tape×(List Line)×(List Int)×(List Re_)):=
 br (decide (0<(c.length:Int))) (gd (Q6 (d.2+(1:Int)))<|(QD F e.1 (l.length:Int)).bind fun i=>(QD F i.1 (15:Int)).bind fun a=>gd (Q6 ((1:Int)+a.2))<|gd (b.length+(List.length ([(⟨(d.2+(1:Int)),(⟨c⟩:Re_),i.2,((1:Int)+a.2)⟩:Line)]:List Line))<=Y5)<|Dk F k j a.1.l_ a.1.at_ (b++([(⟨(d.2+(1:Int)),(⟨c⟩:Re_),i.2,((1:Int)+a.2)⟩:Line)]:List Line))) (Dk F k j e.1.l_ e.1.at_ b)
def bB(F:Nat)(j:List Crop)(i:Int)(b:List Line)(k:Tape×Int)(l:Tape×Re_)(d:(Int×(List Int)×Int×(List Line))->Option (Tape×(List Line)×(List Int)×(List Re_)))(e:((List Rect)×Int)->Option (Tape×(List Line)×(List Int)×(List Re_)))(c:List Rect)(a:Int):Option (Tape×(List Line)×(List Int)×(List Re_)):=
 br (decide (a<(b.length:Int))) (gd (0<=a/\a<(b.length:Int))<|(Wo F c ((gl b a.toNat).g_.t_) (3:Int)).bind fun m=>gd (Q6 (a+1))<|e (m,(a+1))) (Dl F j i b k l d c)
def SN(F:Nat)(j:List Crop)(b:List Re_)(d:Int)(e:List Line)(a:Tape×Int)(k:Tape×Re_)(c:(Int×(List Int)×Int×(List Line))->Option (Tape×(List Line)×(List Int)×(List Re_)))(i:List Rect):Option (Tape×(List Line)×(List Int)×(List Re_)):=
 gd (0<=a.2/\a.2<(b.length:Int))<|(Wo F i ((gl b a.2.toNat).t_) (2:Int)).bind fun l=>Z9 (fun g (z:(List Rect)×Int)=>bB F j d e a k c g z.1 z.2) F (l,(0:Int))
def bC(F:Nat)(m:List Crop)(j:List Re_)(k:Int)(l:List Line)(c:Tape×Int)(d:Tape×Re_)(e:(Int×(List Int)×Int×(List Line))->Option (Tape×(List Line)×(List Int)×(List Re_)))(i:(Int×(List Rect))->Option (Tape×(List Line)×(List Int)×(List Re_)))(a:Int)(b:List Rect):Option (Tape×(List Line)×(List Int)×(List Re_)):=
 br (decide (a<(d.2.t_.length:Int))) (gd (0<=a/\a<(b.length:Int))<|gd (Q6 ((10:Int)*c.2))<|gd (Q6 (((gl b a.toNat).L_)+((10:Int)*c.2)))<|gd (0<=a/\a<(b.length:Int))<|gd (Q6 ((10:Int)*c.2))<|gd (Q6 (((gl b a.toNat).R_)+((10:Int)*c.2)))<|gd (0<=a/\a<(b.length:Int))<|gd (0<=a/\a<((List.length (List.set b a.toNat (⟨(((gl b a.toNat).L_)+((10:Int)*c.2)),(gl b a.toNat).w_,(gl b a.toNat).R_,(gl b a.toNat).H_⟩:Rect)):Nat):Int))<|gd (Q6 (a+1))<|i ((a+1),(List.set (List.set b a.toNat (⟨(((gl b a.toNat).L_)+((10:Int)*c.2)),(gl b a.toNat).w_,(gl b a.toNat).R_,(gl b a.toNat).H_⟩:Rect)) a.toNat (⟨(gl (List.set b a.toNat (⟨(((gl b a.toNat).L_)+((10:Int)*c.2)),(gl b a.toNat).w_,(gl b a.toNat).R_,(gl b a.toNat).H_⟩:Rect)) a.toNat).L_,(gl (List.set b a.toNat (⟨(((gl b a.toNat).L_)+((10:Int)*c.2)),(gl b a.toNat).w_,(gl b a.toNat).R_,(gl b a.toNat).H_⟩:Rect)) a.toNat).w_,(((gl b a.toNat).R_)+((10:Int)*c.2)),(gl (List.set b a.toNat (⟨(((gl b a.toNat).L_)+((10:Int)*c.2)),(gl b a.toNat).w_,(gl b a.toNat).R_,(gl b a.toNat).H_⟩:Rect)) a.toNat).H_⟩:Rect)))) (SN F m j k l c d e b)
def bz(F:Nat)(a:List Int)(b:List Re_)(c:List Line)(d:List Int)(e:Int):Option (Tape×(List Line)×(List Int)×(List Re_)):=
 some ((⟨d,e⟩:Tape),c,a,b)
def XB(F:Nat)(m:List Crop)(a:List Int)(b:List Re_)(l:(Int×(List Int)×Int×(List Line))->Option (Tape×(List Line)×(List Int)×(List Re_)))(c:Int)(d:List Int)(e:Int)(i:List Line):Option (Tape×(List Line)×(List Int)×(List Re_)):=
 br (decide ((0:Int)<c)) ((QD F (⟨d,e⟩:Tape) (a.length:Int)).bind fun j=>(zF F j.1 (9:Int) (2:Int)).bind fun k=>Z9 (fun g (z:Int×(List Rect))=>bC F m b c i j k l g z.1 z.2) F ((0:Int),k.2.t_)) (bz F a b i d e)
def SO(F:Nat)(j:List Crop)(b:Int)(c:List Int)(d:Int)(e:List Int)(i:List Re_):Option (Tape×(List Line)×(List Int)×(List Re_)):=
 gd (Q6 (b+1))<|(QD F (⟨c,d⟩:Tape) (b+1)).bind fun a=>Z9 (fun g (z:Int×(List Int)×Int×(List Line))=>XB F j e i g z.1 z.2.1 z.2.2.1 z.2.2.2) F (a.2,a.1.l_,a.1.at_,([]:List Line))
def XC(F:Nat)(l:List Crop)(m:Int)(k:(Int×(List Int)×Int×(List Int)×(List Re_))->Option (Tape×(List Line)×(List Int)×(List Re_)))(d:Int)(i:List Int)(j:Int)(a:List Int)(e:List Re_):Option (Tape×(List Line)×(List Int)×(List Re_)):=
 br (decide ((0:Int)<d)) (gd (Q6 ((a.length:Int)+1))<|gd (a.length+(List.length ([((a.length:Int)+1)]:List Int))<=Y5)<|gd (Q6 (10*(a.length:Int)))<|gd (Q6 (10*(a.length:Int)))<|(YD F (⟨i,j⟩:Tape) (2:Int) (9:Int)).bind fun b=>gd (Q6 ((10*(a.length:Int))+b.2))<|(YD F b.1 (2:Int) (9:Int)).bind fun c=>gd (e.length+(List.length ([(⟨([(⟨(10*(a.length:Int)),0,((10*(a.length:Int))+b.2),c.2⟩:Rect)]:List Rect)⟩:Re_)]:List Re_))<=Y5)<|gd (Q6 (d-1))<|k ((d-1),c.1.l_,c.1.at_,(a++([((a.length:Int)+1)]:List Int)),(e++([(⟨([(⟨(10*(a.length:Int)),0,((10*(a.length:Int))+b.2),c.2⟩:Rect)]:List Rect)⟩:Re_)]:List Re_)))) (SO F l m i j a e)
def SQ(F:Nat)(b:Tape)(c:List Crop)(d:Int):Option (Tape×(List Line)×(List Int)×(List Re_)):=
 (YD F b (1:Int) (3:Int)).bind fun a=>Z9 (fun g (z:Int×(List Int)×Int×(List Int)×(List Re_))=>XC F c d g z.1 z.2.1 z.2.2.1 z.2.2.2.1 z.2.2.2.2) F (a.2,a.1.l_,a.1.at_,([]:List Int),([]:List Re_))
def Fa(F:Nat)(e:Tape×(List Crop))(a:List Re_)(b:List Version)(c:List Int)(d:Int):Option (Tape×(List Crop)×(List Version)×(List Re_)):=
 some ((⟨c,d⟩:Tape),e.2,b,a)
def Fb(F:Nat)(i:Tape×(List Crop))(k:List Re_)(j:(Int×(List Int)×Int×(List Version))->Option (Tape×(List Crop)×(List Version)×(List Re_)))(b:Int)(d:List Int)(e:Int)(c:List Version):Option (Tape×(List Crop)×(List Version)×(List Re_)):=
 br (decide ((0:Int)<b)) ((SQ F (⟨d,e⟩:Tape) i.2 (2:Int)).bind fun a=>gd (c.length+(List.length ([(⟨0,a.2.1⟩:Version)]:List Version))<=Y5)<|gd (Q6 (b-1))<|j ((b-1),a.1.l_,a.1.at_,(c++([(⟨0,a.2.1⟩:Version)]:List Version)))) (Fa F i k c d e)
def Hx(F:Nat)(b:Tape×(List Crop))(c:List Re_):Option (Tape×(List Crop)×(List Version)×(List Re_)):=
 (YD F b.1 (1:Int) (3:Int)).bind fun a=>Z9 (fun g (z:Int×(List Int)×Int×(List Version))=>Fb F b c g z.1 z.2.1 z.2.2.1 z.2.2.2) F (a.2,a.1.l_,a.1.at_,([]:List Version))
def Fc(F:Nat)(d:Tape×(List Crop))(c:(Int×(List Re_))->Option (Tape×(List Crop)×(List Version)×(List Re_)))(a:Int)(b:List Re_):Option (Tape×(List Crop)×(List Version)×(List Re_)):=
 br (decide (a<3)) (gd (Q6 ((10:Int)*a))<|gd (Q6 ((10:Int)*a))<|gd (Q6 (((10:Int)*a)+9))<|gd (b.length+(List.length ([(⟨([(⟨((10:Int)*a),0,(((10:Int)*a)+9),(9:Int)⟩:Rect)]:List Rect)⟩:Re_)]:List Re_))<=Y5)<|gd (Q6 (a+1))<|c ((a+1),(b++([(⟨([(⟨((10:Int)*a),0,(((10:Int)*a)+9),(9:Int)⟩:Rect)]:List Rect)⟩:Re_)]:List Re_)))) (Hx F d b)
def Px(F:Nat)(a:Tape):Option (Tape×(List Crop)×(List Version)×(List Re_)):=
 (Tb F a).bind fun b=>Z9 (fun g (z:Int×(List Re_))=>Fc F b g z.1 z.2) F ((0:Int),([]:List Re_))
def Sh(F:Nat)(rc:Int->Option ByteArray)(a:Int):Option ByteArray:=
 br (decide (a<0)) (gd ((10:Int)≠0)<|gd (Q6 (0-(a.tmod (10:Int))))<|br (decide ((-10:Int)<a)) (gd (Q6 ((48:Int)+(0-(a.tmod (10:Int)))))<|gd (ByteArray.size (ByteArray.mk #[45])+ByteArray.size (ZU (IntKind.wrap .u8 ((48:Int)+(0-(a.tmod (10:Int))))))<=Y5)<|some ((ByteArray.mk #[45])++(ZU (IntKind.wrap .u8 ((48:Int)+(0-(a.tmod (10:Int)))))))) (gd (Q6 (a.tdiv (10:Int))/\(10:Int)≠0)<|(rc (a.tdiv (10:Int))).bind fun b=>gd (Q6 ((48:Int)+(0-(a.tmod (10:Int)))))<|gd (ByteArray.size b+ByteArray.size (ZU (IntKind.wrap .u8 ((48:Int)+(0-(a.tmod (10:Int))))))<=Y5)<|some (b++(ZU (IntKind.wrap .u8 ((48:Int)+(0-(a.tmod (10:Int))))))))) (br (decide (a<10)) (gd (Q6 ((48:Int)+a))<|some (ZU (IntKind.wrap .u8 ((48:Int)+a)))) (gd (Q6 (a.tdiv (10:Int))/\(10:Int)≠0)<|(rc (a.tdiv (10:Int))).bind fun c=>gd ((10:Int)≠0)<|gd (Q6 ((48:Int)+(a.tmod (10:Int))))<|gd (ByteArray.size c+ByteArray.size (ZU (IntKind.wrap .u8 ((48:Int)+(a.tmod (10:Int)))))<=Y5)<|some (c++(ZU (IntKind.wrap .u8 ((48:Int)+(a.tmod (10:Int))))))))
def Xp:Nat->Int->Option ByteArray
 | 0=>fun _=>none
 | F+1=>Sh F (Xp F)
def KZ(F:Nat)(c:Tape)(a:Int):Option (Tape×Bool):=
 (QD F c a).bind fun b=>gd (Q6 (a-1))<|some (b.1,(b.2==(a-1)))
def Ue(F:Nat)(rc:Tape->Int->Option (Tape×Term))(e:Tape×Int)(a b:Int)(c:List Int)(d:Int):Option (Tape×Term):=
 some ((⟨c,d⟩:Tape),(⟨e.2,a,b,[]⟩:Term))
def KW(F:Nat)(rc:Tape->Int->Option (Tape×Term))(a:Tape×Int)(l:Bool):Option (Tape×Term):=
 br l ((QD F a.1 (4:Int)).bind fun d=>Ue F rc a d.2 0 d.1.l_ d.1.at_) (br (a.2==(4:Int)) ((QD F a.1 (5:Int)).bind fun b=>gd (Q6 ((1:Int)*2 ^ (min (b.2).toNat (IntKind.bits .i64)))/\0<=b.2)<|Ue F rc a ((1:Int)*2 ^ (min (b.2).toNat (IntKind.bits .i64))) 0 b.1.l_ b.1.at_) (br (a.2==(5:Int)) ((QD F a.1 (16:Int)).bind fun e=>Ue F rc a e.2 0 e.1.l_ e.1.at_) (br (a.2==(6:Int)) ((YD F a.1 (2:Int) (3:Int)).bind fun i=>Ue F rc a i.2 0 i.1.l_ i.1.at_) (br (a.2==(7:Int)) ((YD F a.1 (1:Int) (2:Int)).bind fun k=>(QD F k.1 (5:Int)).bind fun c=>gd (Q6 ((1:Int)*2 ^ (min (c.2).toNat (IntKind.bits .i64)))/\0<=c.2)<|Ue F rc a k.2 ((1:Int)*2 ^ (min (c.2).toNat (IntKind.bits .i64))) c.1.l_ c.1.at_) (br (a.2==(8:Int)) ((YD F a.1 (1:Int) (3:Int)).bind fun j=>Ue F rc a j.2 0 j.1.l_ j.1.at_) (Ue F rc a 0 0 a.1.l_ a.1.at_))))))
def KX(F:Nat)(rc:Tape->Int->Option (Tape×Term))(a:Int)(n:Bool)(l:List Int)(m:Int):Option (Tape×Term):=
 br n ((QD F (⟨l,m⟩:Tape) (3:Int)).bind fun b=>br (b.2==(0:Int)) (gd (Q6 (a-1))<|(rc b.1 (a-1)).bind fun d=>gd (Q6 d.2.op_)<|some (d.1,(⟨(11:Int),0,0,([d.2]:List Term)⟩:Term))) (br (b.2==(1:Int)) (gd (Q6 (a-1))<|(rc b.1 (a-1)).bind fun e=>gd (Q6 (a-1))<|(rc e.1 (a-1)).bind fun i=>gd (Q6 e.2.op_)<|gd (Q6 i.2.op_)<|some (i.1,(⟨(9:Int),0,0,([e.2,i.2]:List Term)⟩:Term))) (gd (Q6 (a-1))<|(rc b.1 (a-1)).bind fun j=>gd (Q6 (a-1))<|(rc j.1 (a-1)).bind fun k=>gd (Q6 j.2.op_)<|gd (Q6 k.2.op_)<|some (k.1,(⟨(10:Int),0,0,([j.2,k.2]:List Term)⟩:Term))))) ((YD F (⟨l,m⟩:Tape) (1:Int) (8:Int)).bind fun c=>br (c.2==(2:Int)) (KW F rc c (c.2==(2:Int))) (KW F rc c (c.2==(3:Int))))
def SL(F:Nat)(rc:Tape->Int->Option (Tape×Term))(a:Tape)(b:Int):Option (Tape×Term):=
 br (decide ((0:Int)<b)) ((KZ F a (2:Int)).bind fun c=>KX F rc b c.2 c.1.l_ c.1.at_) (KX F rc b false a.l_ a.at_)
def Vl:Nat->Tape->Int->Option (Tape×Term)
 | 0=>fun _ _=>none
 | F+1=>SL F (Vl F)
def Vf(F:Nat)(a:Int)(b:(Int)->Option Bool)(c:Bool):Option Bool:=
 br c (some false) (gd (Q6 (a+1))<|b (a+1))
def jY(F:Nat):Option Bool:=
 some true
def Sf(F:Nat)(b:ByteArray)(c:(Int)->Option Bool)(a:Int):Option Bool:=
 br (decide (a<((b.size:Nat):Int))) (gd (0<=a/\a<((b.size:Nat):Int))<|br (decide ((K2 b a)<97)) (gd (0<=a/\a<((b.size:Nat):Int))<|br (decide ((K2 b a)<48)) (Vf F a c true) (gd (0<=a/\a<((b.size:Nat):Int))<|Vf F a c (decide ((57:Int)<(K2 b a))))) (gd (0<=a/\a<((b.size:Nat):Int))<|br (decide ((122:Int)<(K2 b a))) (gd (0<=a/\a<((b.size:Nat):Int))<|br (decide ((K2 b a)<48)) (Vf F a c true) (gd (0<=a/\a<((b.size:Nat):Int))<|Vf F a c (decide ((57:Int)<(K2 b a))))) (Vf F a c false))) (jY F)
def JA(F:Nat)(b:ByteArray)(a:Bool):Option Bool:=
 br a (some false) (Z9 (fun g (z:Int)=>Sf F b g z) F (0:Int))
def Sg(F:Nat)(a:ByteArray):Option Bool:=
 br (decide (((a.size:Nat):Int)<(1:Int))) (JA F a true) (br (decide ((12:Int)<((a.size:Nat):Int))) (JA F a true) (gd (0<=(0:Int)/\(0:Int)<((a.size:Nat):Int))<|br (decide ((K2 a (0:Int))<97)) (JA F a true) (gd (0<=(0:Int)/\(0:Int)<((a.size:Nat):Int))<|JA F a (decide ((122:Int)<(K2 a (0:Int)))))))
def Bz(F:Nat)(rc:Term->Option Int)(a:Int)(b:(Int×Int)->Option Int)(c:Int):Option Int:=
 gd (Q6 (a+1))<|b (c,(a+1))
def jq(F:Nat)(rc:Term->Option Int)(a:Int):Option Int:=
 some a
def RK(F:Nat)(rc:Term->Option Int)(c:Term)(d:(Int×Int)->Option Int)(b a:Int):Option Int:=
 br (decide (a<(c.kids_.length:Int))) (gd (0<=a/\a<(c.kids_.length:Int))<|gd (Q6 (gl c.kids_ a.toNat).op_)<|br (decide (b<=40)) ((rc (gl c.kids_ a.toNat)).bind fun e=>gd (Q6 (b+e))<|Bz F rc a d (b+e)) (Bz F rc a d b)) (jq F rc b)
def RL(F:Nat)(rc:Term->Option Int)(a:Term):Option Int:=
 Z9 (fun g (z:Int×Int)=>RK F rc a g z.1 z.2) F ((1:Int),(0:Int))
def Jv:Nat->Term->Option Int
 | 0=>fun _=>none
 | F+1=>RL F (Jv F)
def qm(F:Nat)(rc:Term->Option Int)(a:Int):Option Int:=
 gd (Q6 (a+1))<|some (a+1)
def RI(F:Nat)(rc:Term->Option Int)(b:Term)(d:(Int×Int)->Option Int)(c a:Int):Option Int:=
 br (decide (a<(b.kids_.length:Int))) (gd (0<=a/\a<(b.kids_.length:Int))<|gd (Q6 (gl b.kids_ a.toNat).op_)<|(rc (gl b.kids_ a.toNat)).bind fun e=>gd (Q6 (a+1))<|d ((G7 c e),(a+1))) (qm F rc c)
def RJ(F:Nat)(rc:Term->Option Int)(a:Term):Option Int:=
 Z9 (fun g (z:Int×Int)=>RI F rc a g z.1 z.2) F ((0:Int),(0:Int))
def Ju:Nat->Term->Option Int
 | 0=>fun _=>none
 | F+1=>RJ F (Ju F)
def KI(F:Nat)(a:Bool):Option Bool:=
 some a
def Xi(F:Nat)(a:Int):Option Bool:=
 br (a==1) (KI F true) (br (a==2) (KI F true) (br (a==4) (KI F true) (br (a==8) (KI F true) (KI F (a==16)))))
def jm(F:Nat)(rc:Term->Option Bool):Option Bool:=
 some true
def Xl(F:Nat)(rc:Term->Option Bool)(b:Term)(c:(Int)->Option Bool)(a:Int):Option Bool:=
 br (decide (a<(b.kids_.length:Int))) (gd (0<=a/\a<(b.kids_.length:Int))<|gd (Q6 (gl b.kids_ a.toNat).op_)<|(rc (gl b.kids_ a.toNat)).bind fun d=>br (!d) (some false) (gd (Q6 (a+1))<|c (a+1))) (jm F rc)
def Xj(F:Nat)(rc:Term->Option Bool)(b:Term)(a:Bool):Option Bool:=
 br a (some false) (Z9 (fun g (z:Int)=>Xl F rc b g z) F (0:Int))
def Zv(F:Nat)(rc:Term->Option Bool)(a:Term)(b:Int)(c d:Bool):Option Bool:=
 br (!d) (Xj F rc a true) (br (!c) (Xj F rc a true) (Xj F rc a ((a.kids_.length:Int) != b)))
def Xk(F:Nat)(rc:Term->Option Bool)(a:Term)(b:Bool):Option Bool:=
 br b (br (a.num_==0) (Zv F rc a (a.kids_.length:Int) (a.more_==0) (decide (0<(a.kids_.length:Int)))) (Zv F rc a (a.kids_.length:Int) (a.more_==0) false)) (br (a.op_==11) (Zv F rc a (1:Int) (a.more_==0) (a.num_==0)) (Zv F rc a (0:Int) (a.more_==0) false))
def RH(F:Nat)(rc:Term->Option Bool)(a:Term):Option Bool:=
 br (a.op_==1) (Zv F rc a (0:Int) (a.more_==0) (a.num_==0)) (br (a.op_==2) (br (decide ((0:Int)<=a.num_)) (Zv F rc a (0:Int) (a.more_==0) (decide (a.num_<40))) (Zv F rc a (0:Int) (a.more_==0) false)) (br (a.op_==3) (br (decide ((0:Int)<=a.num_)) (Zv F rc a (0:Int) (a.more_==0) (decide (a.num_<=40))) (Zv F rc a (0:Int) (a.more_==0) false)) (br (a.op_==4) ((Xi F a.num_).bind fun b=>Zv F rc a (0:Int) (a.more_==0) b) (br (a.op_==5) (br (decide ((0:Int)<=a.num_)) (Zv F rc a (0:Int) (a.more_==0) (decide (a.num_<=15))) (Zv F rc a (0:Int) (a.more_==0) false)) (br (a.op_==6) (br (decide ((2:Int)<=a.num_)) (Zv F rc a (0:Int) (a.more_==0) (decide (a.num_<=10))) (Zv F rc a (0:Int) (a.more_==0) false)) (br (a.op_==7) (br (decide ((1:Int)<=a.num_)) ((Xi F a.more_).bind fun c=>Zv F rc a (0:Int) c (decide (a.num_<=10))) ((Xi F a.more_).bind fun d=>Zv F rc a (0:Int) d false)) (br (a.op_==8) (br (decide ((1:Int)<=a.num_)) (Zv F rc a (0:Int) (a.more_==0) (decide (a.num_<=10))) (Zv F rc a (0:Int) (a.more_==0) false)) (br (a.op_==9) (Xk F rc a (a.op_==9)) (Xk F rc a (a.op_==10))))))))))
def Wa:Nat->Term->Option Bool
 | 0=>fun _=>none
 | F+1=>RH F (Wa F)
def RM(F:Nat)(a:Bool):Option Int:=
 br a (some (16:Int)) (some (0:Int))
def RN(F:Nat)(a:Term):Option Int:=
 (Jv F a).bind fun b=>br (decide ((40:Int)<b)) (some (1:Int)) ((Ju F a).bind fun c=>br (decide ((8:Int)<c)) (RM F true) ((Wa F a).bind fun d=>RM F (!d)))
def Jr(F:Nat)(d:List Bracket)(a:Int)(b:(Int×Int)->Option Bool)(c:Bool):Option Bool:=
 br c (some false) (gd (Q6 (a+1))<|b ((gl d a.toNat).up_,(a+1)))
def jd(F:Nat):Option Bool:=
 some true
def Xg(F:Nat)(b:List Bracket)(c:(Int×Int)->Option Bool)(d a:Int):Option Bool:=
 br (decide (a<(b.length:Int))) (gd (0<=a/\a<(b.length:Int))<|br (decide (((gl b a.toNat).up_)<=d)) (Jr F b a c true) (br (decide ((268435456:Int)<((gl b a.toNat).up_))) (Jr F b a c true) (br (decide (((gl b a.toNat).rate_)<0)) (Jr F b a c true) (Jr F b a c (decide ((1048576:Int)<((gl b a.toNat).rate_))))))) (jd F)
def Bx(F:Nat)(b:List Bracket)(a:Bool):Option Bool:=
 br a (some false) (Z9 (fun g (z:Int×Int)=>Xg F b g z.1 z.2) F ((0:Int),(0:Int)))
def RB(F:Nat)(a:List Bracket):Option Bool:=
 br (decide ((a.length:Int)<1)) (Bx F a true) (Bx F a (decide (6<(a.length:Int))))
def KD(F:Nat)(a:Bool):Option Int:=
 br a (some (3:Int)) (some (0:Int))
def KE(F:Nat)(a:Scheme)(c:Bool):Option Int:=
 br c (some (2:Int)) ((Sg F a.n_).bind fun d=>br (!d) (some (5:Int)) ((RN F a.cond_).bind fun b=>br (b != (0:Int)) (some b) ((RB F a.brackets_).bind fun e=>br (!e) (KD F true) (br (decide (a.excludes_<0)) (KD F true) (br (decide ((65536:Int)<=a.excludes_)) (KD F true) (gd (0<=a.N_)<|KD F ((QE .i64 (a.excludes_.fdiv (2 ^ (min (a.N_).toNat (IntKind.bits .i64)))) (1:Int))==1)))))))
def RC(F:Nat)(a:Scheme):Option Int:=
 br (decide (a.N_<0)) (KE F a true) (br (decide ((15:Int)<a.N_)) (KE F a true) (br (decide (a.least_<0)) (KE F a true) (KE F a (decide ((268435456:Int)<a.least_)))))
def jg(F:Nat):Option Int:=
 some (-1:Int)
def KF(F:Nat)(b:List Scheme)(d:Int)(c:(Int)->Option Int)(a:Int):Option Int:=
 br (decide (a<(b.length:Int))) (gd (0<=a/\a<(b.length:Int))<|br (((gl b a.toNat).N_)==d) (some a) (gd (Q6 (a+1))<|c (a+1))) (jg F)
def RD(F:Nat)(a:List Scheme)(b:Int):Option Int:=
 Z9 (fun g (z:Int)=>KF F a b g z) F (0:Int)
def Xh(F:Nat)(c a:Int)(b:(Int)->Option (Int×Int))(d:Bool):Option (Int×Int):=
 br d (some (c,(6:Int))) (gd (Q6 (a+1))<|b (a+1))
def ji(F:Nat)(a:Int)(b:(Int)->Option (Int×Int)):Option (Int×Int):=
 gd (Q6 (a+1))<|b (a+1)
def Jt(F:Nat)(c:List Scheme)(a:Int)(e d:(Int)->Option (Int×Int))(b:Int):Option (Int×Int):=
 br (decide (b<((List.length (c.take a.toNat):Nat):Int))) (gd (0<=b/\b<((List.length (c.take a.toNat):Nat):Int))<|br (Zm ((gl (c.take a.toNat) b.toNat).n_) ((gl c a.toNat).n_)) (Xh F a b d true) (gd (Q6 (a-1))<|br (b==(a-1)) (Xh F a b d (decide (((gl c a.toNat).N_)<=((gl (c.take a.toNat) b.toNat).N_)))) (Xh F a b d false))) (ji F a e)
def RE(F:Nat)(a:Int)(b:(Int)->Option (Int×Int)):Option (Int×Int):=
 gd (Q6 (a+1))<|b (a+1)
def RF(F:Nat)(b c:Int)(a:(Int)->Option (Int×Int))(d:Bool):Option (Int×Int):=
 br d (some (b,(17:Int))) (RE F c a)
def jh(F:Nat)(a:Int)(b:(Int)->Option (Int×Int)):Option (Int×Int):=
 gd (Q6 (a+1))<|b (a+1)
def Js(F:Nat)(c:List Scheme)(b:Int)(i e:(Int)->Option (Int×Int))(a:Int):Option (Int×Int):=
 br (decide (a<=15)) (gd (0<=a)<|br ((QE .i64 (((gl c b.toNat).excludes_).fdiv (2 ^ (min (a).toNat (IntKind.bits .i64)))) (1:Int))==0) (RE F a e) ((RD F c a).bind fun d=>br (decide (d<0)) (RF F b a e true) (gd (0<=d/\d<(c.length:Int))<|gd (0<=((gl c b.toNat).N_))<|RF F b a e ((QE .i64 (((gl c d.toNat).excludes_).fdiv (2 ^ (min (((gl c b.toNat).N_)).toNat (IntKind.bits .i64)))) (1:Int))==0)))) (jh F b i)
def jj(F:Nat):Option (Int×Int):=
 some ((-1:Int),(0:Int))
def KG(F:Nat)(b:List Scheme)(c:(Int)->Option (Int×Int))(a:Int):Option (Int×Int):=
 br (decide (a<(b.length:Int))) (gd (0<=a/\a<(b.length:Int))<|Z9 (fun g (z:Int)=>Js F b a c g z) F (0:Int)) (jj F)
def qh(F:Nat)(a:List Scheme):Option (Int×Int):=
 Z9 (fun g (z:Int)=>KG F a g z) F (0:Int)
def KH(F:Nat)(b:List Scheme)(d:(Int)->Option (Int×Int))(a:Int):Option (Int×Int):=
 br (decide (a<(b.length:Int))) (gd (0<=a/\a<(b.length:Int))<|(RC F (gl b a.toNat)).bind fun c=>br (c != (0:Int)) (some (a,c)) (gd (0<=a/\a<=(b.length:Int))<|Z9 (fun g (z:Int)=>Jt F b a d g z) F (0:Int))) (qh F b)
def RG(F:Nat)(a:List Scheme):Option (Int×Int):=
 br (decide (16<(a.length:Int))) (some ((0:Int),(1:Int))) (Z9 (fun g (z:Int)=>KH F a g z) F (0:Int))
def zx(F:Nat)(a:Int)(b:(Int×Int×(List Int)×Int×(List Scheme))->Option (Tape×(List Scheme)))(c:Int)(d:List Int)(e:Int)(i:List Scheme):Option (Tape×(List Scheme)):=
 gd (Q6 (a-1))<|b (c,(a-1),d,e,i)
def zy(F:Nat)(a m:Int)(c:List Scheme)(e:ByteArray)(i:Tape×Term)(j:Tape×Int)(k:Tape×Bool)(l:(Int×Int×(List Int)×Int×(List Scheme))->Option (Tape×(List Scheme)))(n:List Int)(o:Int)(d:List Bracket):Option (Tape×(List Scheme)):=
 gd (c.length+(List.length ([(⟨a,((ByteArray.mk #[115])++e),i.2,d,j.2,0,k.2⟩:Scheme)]:List Scheme))<=Y5)<|(YD F (⟨n,o⟩:Tape) (1:Int) (2:Int)).bind fun b=>gd (Q6 (a+b.2))<|zx F m l (a+b.2) b.1.l_ b.1.at_ (c++([(⟨a,((ByteArray.mk #[115])++e),i.2,d,j.2,0,k.2⟩:Scheme)]:List Scheme))
def zC(F:Nat)(m n:Int)(o:List Scheme)(p:ByteArray)(q:Tape×Term)(s:Tape×Int)(t:Tape×Bool)(k:(Int×Int×(List Int)×Int×(List Scheme))->Option (Tape×(List Scheme)))(l:(Int×Int×(List Int)×Int×(List Bracket))->Option (Tape×(List Scheme)))(b d:Int)(i:List Int)(j:Int)(e:List Bracket):Option (Tape×(List Scheme)):=
 br (decide ((0:Int)<d)) ((YD F (⟨i,j⟩:Tape) (1:Int) (40:Int)).bind fun a=>gd (Q6 (b+a.2))<|(QD F a.1 (3000:Int)).bind fun c=>gd (e.length+(List.length ([(⟨(b+a.2),c.2⟩:Bracket)]:List Bracket))<=Y5)<|gd (Q6 (d-1))<|l ((b+a.2),(d-1),c.1.l_,c.1.at_,(e++([(⟨(b+a.2),c.2⟩:Bracket)]:List Bracket)))) (zy F m n o p q s t k i j e)
def Dn(F:Nat)(a:Int)(b:(Int×(List Int)×Int×(List Scheme))->Option (Tape×(List Scheme)))(c:List Int)(d:Int)(e:List Scheme):Option (Tape×(List Scheme)):=
 gd (Q6 (a+1))<|b ((a+1),c,d,e)
def zw(F:Nat)(a:Int)(b:(Int×(List Int)×Int×(List Scheme))->Option (Tape×(List Scheme)))(c:List Int)(d:Int)(e:List Scheme):Option (Tape×(List Scheme)):=
 gd (Q6 (a+1))<|b ((a+1),c,d,e)
def zA(F:Nat)(b:Int)(k e:(Int×(List Int)×Int×(List Scheme))->Option (Tape×(List Scheme)))(c:Int)(i:List Int)(j:Int)(a:List Scheme):Option (Tape×(List Scheme)):=
 br (decide (c<((((b).toNat):Nat):Int))) ((KZ F (⟨i,j⟩:Tape) (3:Int)).bind fun d=>br d.2 (gd (0<=b/\b<(a.length:Int))<|gd (0<=c/\c<(a.length:Int))<|gd (Q6 ((1:Int)*2 ^ (min (((gl a c.toNat).N_)).toNat (IntKind.bits .i64)))/\0<=((gl a c.toNat).N_))<|gd (0<=b/\b<(a.length:Int))<|gd (0<=c/\c<((List.length (List.set a b.toNat (⟨(gl a b.toNat).N_,(gl a b.toNat).n_,(gl a b.toNat).cond_,(gl a b.toNat).brackets_,(gl a b.toNat).least_,(K7 .i64 ((gl a b.toNat).excludes_) ((1:Int)*2 ^ (min (((gl a c.toNat).N_)).toNat (IntKind.bits .i64)))),(gl a b.toNat).needs_⟩:Scheme)):Nat):Int))<|gd (0<=b/\b<((List.length (List.set a b.toNat (⟨(gl a b.toNat).N_,(gl a b.toNat).n_,(gl a b.toNat).cond_,(gl a b.toNat).brackets_,(gl a b.toNat).least_,(K7 .i64 ((gl a b.toNat).excludes_) ((1:Int)*2 ^ (min (((gl a c.toNat).N_)).toNat (IntKind.bits .i64)))),(gl a b.toNat).needs_⟩:Scheme)):Nat):Int))<|gd (Q6 ((1:Int)*2 ^ (min (((gl (List.set a b.toNat (⟨(gl a b.toNat).N_,(gl a b.toNat).n_,(gl a b.toNat).cond_,(gl a b.toNat).brackets_,(gl a b.toNat).least_,(K7 .i64 ((gl a b.toNat).excludes_) ((1:Int)*2 ^ (min (((gl a c.toNat).N_)).toNat (IntKind.bits .i64)))),(gl a b.toNat).needs_⟩:Scheme)) b.toNat).N_)).toNat (IntKind.bits .i64)))/\0<=((gl (List.set a b.toNat (⟨(gl a b.toNat).N_,(gl a b.toNat).n_,(gl a b.toNat).cond_,(gl a b.toNat).brackets_,(gl a b.toNat).least_,(K7 .i64 ((gl a b.toNat).excludes_) ((1:Int)*2 ^ (min (((gl a c.toNat).N_)).toNat (IntKind.bits .i64)))),(gl a b.toNat).needs_⟩:Scheme)) b.toNat).N_))<|gd (0<=c/\c<((List.length (List.set a b.toNat (⟨(gl a b.toNat).N_,(gl a b.toNat).n_,(gl a b.toNat).cond_,(gl a b.toNat).brackets_,(gl a b.toNat).least_,(K7 .i64 ((gl a b.toNat).excludes_) ((1:Int)*2 ^ (min (((gl a c.toNat).N_)).toNat (IntKind.bits .i64)))),(gl a b.toNat).needs_⟩:Scheme)):Nat):Int))<|Dn F c e d.1.l_ d.1.at_ (List.set (List.set a b.toNat (⟨(gl a b.toNat).N_,(gl a b.toNat).n_,(gl a b.toNat).cond_,(gl a b.toNat).brackets_,(gl a b.toNat).least_,(K7 .i64 ((gl a b.toNat).excludes_) ((1:Int)*2 ^ (min (((gl a c.toNat).N_)).toNat (IntKind.bits .i64)))),(gl a b.toNat).needs_⟩:Scheme)) c.toNat (⟨(gl (List.set a b.toNat (⟨(gl a b.toNat).N_,(gl a b.toNat).n_,(gl a b.toNat).cond_,(gl a b.toNat).brackets_,(gl a b.toNat).least_,(K7 .i64 ((gl a b.toNat).excludes_) ((1:Int)*2 ^ (min (((gl a c.toNat).N_)).toNat (IntKind.bits .i64)))),(gl a b.toNat).needs_⟩:Scheme)) c.toNat).N_,(gl (List.set a b.toNat (⟨(gl a b.toNat).N_,(gl a b.toNat).n_,(gl a b.toNat).cond_,(gl a b.toNat).brackets_,(gl a b.toNat).least_,(K7 .i64 ((gl a b.toNat).excludes_) ((1:Int)*2 ^ (min (((gl a c.toNat).N_)).toNat (IntKind.bits .i64)))),(gl a b.toNat).needs_⟩:Scheme)) c.toNat).n_,(gl (List.set a b.toNat (⟨(gl a b.toNat).N_,(gl a b.toNat).n_,(gl a b.toNat).cond_,(gl a b.toNat).brackets_,(gl a b.toNat).least_,(K7 .i64 ((gl a b.toNat).excludes_) ((1:Int)*2 ^ (min (((gl a c.toNat).N_)).toNat (IntKind.bits .i64)))),(gl a b.toNat).needs_⟩:Scheme)) c.toNat).cond_,(gl (List.set a b.toNat (⟨(gl a b.toNat).N_,(gl a b.toNat).n_,(gl a b.toNat).cond_,(gl a b.toNat).brackets_,(gl a b.toNat).least_,(K7 .i64 ((gl a b.toNat).excludes_) ((1:Int)*2 ^ (min (((gl a c.toNat).N_)).toNat (IntKind.bits .i64)))),(gl a b.toNat).needs_⟩:Scheme)) c.toNat).brackets_,(gl (List.set a b.toNat (⟨(gl a b.toNat).N_,(gl a b.toNat).n_,(gl a b.toNat).cond_,(gl a b.toNat).brackets_,(gl a b.toNat).least_,(K7 .i64 ((gl a b.toNat).excludes_) ((1:Int)*2 ^ (min (((gl a c.toNat).N_)).toNat (IntKind.bits .i64)))),(gl a b.toNat).needs_⟩:Scheme)) c.toNat).least_,(K7 .i64 ((gl (List.set a b.toNat (⟨(gl a b.toNat).N_,(gl a b.toNat).n_,(gl a b.toNat).cond_,(gl a b.toNat).brackets_,(gl a b.toNat).least_,(K7 .i64 ((gl a b.toNat).excludes_) ((1:Int)*2 ^ (min (((gl a c.toNat).N_)).toNat (IntKind.bits .i64)))),(gl a b.toNat).needs_⟩:Scheme)) c.toNat).excludes_) ((1:Int)*2 ^ (min (((gl (List.set a b.toNat (⟨(gl a b.toNat).N_,(gl a b.toNat).n_,(gl a b.toNat).cond_,(gl a b.toNat).brackets_,(gl a b.toNat).least_,(K7 .i64 ((gl a b.toNat).excludes_) ((1:Int)*2 ^ (min (((gl a c.toNat).N_)).toNat (IntKind.bits .i64)))),(gl a b.toNat).needs_⟩:Scheme)) b.toNat).N_)).toNat (IntKind.bits .i64)))),(gl (List.set a b.toNat (⟨(gl a b.toNat).N_,(gl a b.toNat).n_,(gl a b.toNat).cond_,(gl a b.toNat).brackets_,(gl a b.toNat).least_,(K7 .i64 ((gl a b.toNat).excludes_) ((1:Int)*2 ^ (min (((gl a c.toNat).N_)).toNat (IntKind.bits .i64)))),(gl a b.toNat).needs_⟩:Scheme)) c.toNat).needs_⟩:Scheme))) (Dn F c e d.1.l_ d.1.at_ a)) (zw F b k i j a)
def SV(F:Nat)(a:List Scheme)(b:List Int)(c:Int):Option (Tape×(List Scheme)):=
 (RG F a).bind fun d=>br (d.2 != (0:Int)) (some ((⟨b,c⟩:Tape),([]:List Scheme))) (some ((⟨b,c⟩:Tape),a))
def zB(F:Nat)(i:List Scheme)(e:(Int×(List Int)×Int×(List Scheme))->Option (Tape×(List Scheme)))(a:Int)(c:List Int)(d:Int)(b:List Scheme):Option (Tape×(List Scheme)):=
 br (decide (a<(i.length:Int))) (gd (0<=(0:Int)/\(0:Int)<=a/\((0:Nat):Int)+a<=(b.length:Int))<|Z9 (fun g (z:Int×(List Int)×Int×(List Scheme))=>zA F a e g z.1 z.2.1 z.2.2.1 z.2.2.2) F ((0:Int),c,d,b)) (SV F b c d)
def SU(F:Nat)(b:List Int)(c:Int)(a:List Scheme):Option (Tape×(List Scheme)):=
 Z9 (fun g (z:Int×(List Int)×Int×(List Scheme))=>zB F a g z.1 z.2.1 z.2.2.1 z.2.2.2) F ((0:Int),b,c,a)
def XE(F:Nat)(b n:Int)(c:List Int)(d:Int)(e:List Scheme)(m:(Int×Int×(List Int)×Int×(List Scheme))->Option (Tape×(List Scheme)))(o:Bool):Option (Tape×(List Scheme)):=
 br o ((Xp F b).bind fun i=>gd (ByteArray.size (ByteArray.mk #[115])+ByteArray.size i<=Y5)<|(Vl F (⟨c,d⟩:Tape) (2:Int)).bind fun j=>(QD F j.1 (4:Int)).bind fun k=>(KZ F k.1 (2:Int)).bind fun l=>(YD F l.1 (1:Int) (3:Int)).bind fun a=>Z9 (fun g (z:Int×Int×(List Int)×Int×(List Bracket))=>zC F b n e i j k l m g z.1 z.2.1 z.2.2.1 z.2.2.2.1 z.2.2.2.2) F ((0:Int),a.2,a.1.l_,a.1.at_,([]:List Bracket))) (SU F c d e)
def SW(F:Nat)(c:(Int×Int×(List Int)×Int×(List Scheme))->Option (Tape×(List Scheme)))(a b:Int)(d:List Int)(e:Int)(i:List Scheme):Option (Tape×(List Scheme)):=
 br (decide ((0:Int)<b)) (XE F a b d e i c (decide (a<=3))) (XE F a b d e i c false)
def SX(F:Nat)(d:Tape)(b:Int):Option (Tape×(List Scheme)):=
 (QD F d (2:Int)).bind fun c=>gd (Q6 (b+1))<|(QD F c.1 (b+1)).bind fun a=>Z9 (fun g (z:Int×Int×(List Int)×Int×(List Scheme))=>SW F g z.1 z.2.1 z.2.2.1 z.2.2.2.1 z.2.2.2.2) F (c.2,a.2,a.1.l_,a.1.at_,([]:List Scheme))
def jN(F:Nat):Option Bool:=
 some true
def jO(F:Nat)(b c:List Rect)(d:(Int)->Option Bool)(a:Int):Option Bool:=
 br (decide (a<(b.length:Int))) (gd (0<=a/\a<(b.length:Int))<|gd (0<=a/\a<(c.length:Int))<|br (!((((gl b a.toNat).L_)==((gl c a.toNat).L_))&&((((gl b a.toNat).w_)==((gl c a.toNat).w_))&&((((gl b a.toNat).R_)==((gl c a.toNat).R_))&&((((gl b a.toNat).H_)==((gl c a.toNat).H_))&&true))))) (some false) (gd (Q6 (a+1))<|d (a+1))) (jN F)
def RX(F:Nat)(a b:List Rect):Option Bool:=
 br ((a.length:Int) != (b.length:Int)) (some false) (Z9 (fun g (z:Int)=>jO F a b g z) F (0:Int))
def qw(F:Nat)(a:Re_):Option Bool:=
 (Wo F a.t_ ([]) (1:Int)).bind fun b=>(RX F b a.t_).bind fun c=>some c
def jM(F:Nat)(b:Re_)(c:(Int)->Option Bool)(a:Int):Option Bool:=
 br (decide (a<(b.t_.length:Int))) (gd (0<=a/\a<(b.t_.length:Int))<|(Xo F (gl b.t_ a.toNat)).bind fun d=>br (!d) (some false) (gd (Q6 (a+1))<|c (a+1))) (qw F b)
def Jy(F:Nat)(a:Re_):Option Bool:=
 br (decide (120<(a.t_.length:Int))) (some false) (Z9 (fun g (z:Int)=>jM F a g z) F (0:Int))
def BS(F:Nat)(a:Bool):Option Bool:=
 some a
def RZ(F:Nat)(a b:Re_):Option Bool:=
 (Jy F a).bind fun c=>br c ((Jy F b).bind fun d=>br d ((Wo F a.t_ b.t_ (2:Int)).bind fun e=>BS F (decide (0<(e.length:Int)))) (BS F false)) (BS F false)
def KJ(F:Nat)(a:Int)(b:(Int)->Option Int)(c:Bool):Option Int:=
 br c (some (3:Int)) (gd (Q6 (a+1))<|b (a+1))
def BC(F:Nat)(b:List Rg_)(a:Int)(c:(Int)->Option Int)(d:Bool):Option Int:=
 br d (some (7:Int)) (br (decide ((0:Int)<a)) (gd (Q6 (a-1))<|gd (0<=(a-1)/\(a-1)<(b.length:Int))<|br (decide (((gl b a.toNat).year_)<((gl b (a-1).toNat).year_))) (KJ F a c true) (gd (Q6 (a-1))<|gd (0<=(a-1)/\(a-1)<(b.length:Int))<|br (((gl b a.toNat).year_)==((gl b (a-1).toNat).year_)) (gd (Q6 (a-1))<|gd (0<=(a-1)/\(a-1)<(b.length:Int))<|KJ F a c (decide (((gl b a.toNat).c_)<=((gl b (a-1).toNat).c_)))) (KJ F a c false))) (KJ F a c false))
def BD(F:Nat)(b:List Rg_)(a:Int)(c:(Int)->Option Int)(d:Bool):Option Int:=
 br d (some (13:Int)) ((Jy F ((gl b a.toNat).g_)).bind fun e=>br (!e) (BC F b a c true) (BC F b a c (((List.length ((gl b a.toNat).g_.t_):Nat):Int)==(0:Int))))
def BE(F:Nat)(b:List Rg_)(a:Int)(c:(Int)->Option Int)(d:Bool):Option Int:=
 br d (some (18:Int)) (br (decide (((gl b a.toNat).c_)<0)) (BD F b a c true) (BD F b a c (decide ((40:Int)<=((gl b a.toNat).c_)))))
def BA(F:Nat)(a:Int)(b:(Int)->Option Int)(c:Bool):Option Int:=
 br c (some (11:Int)) (gd (Q6 (a+1))<|b (a+1))
def qn(F:Nat)(a:Int)(b:(Int)->Option Int):Option Int:=
 gd (Q6 (a+1))<|b (a+1)
def js(F:Nat)(c:List Rg_)(a:Int)(e d:(Int)->Option Int)(b:Int):Option Int:=
 br (decide (b<((List.length (c.take a.toNat):Nat):Int))) (gd (0<=b/\b<((List.length (c.take a.toNat):Nat):Int))<|br (((gl (c.take a.toNat) b.toNat).year_)==((gl c a.toNat).year_)) ((RZ F ((gl (c.take a.toNat) b.toNat).g_) ((gl c a.toNat).g_)).bind fun i=>BA F b d i) (BA F b d false)) (qn F a e)
def jr(F:Nat):Option Int:=
 some (0:Int)
def jt(F:Nat)(b:List Rg_)(c:(Int)->Option Int)(a:Int):Option Int:=
 br (decide (a<(b.length:Int))) (gd (0<=a/\a<(b.length:Int))<|gd (0<=a/\a<=(b.length:Int))<|Z9 (fun g (z:Int)=>js F b a c g z) F (0:Int)) (jr F)
def BB(F:Nat)(a:List Rg_):Option Int:=
 Z9 (fun g (z:Int)=>jt F a g z) F (0:Int)
def ju(F:Nat)(b:List Rg_)(c:(Int)->Option Int)(a:Int):Option Int:=
 br (decide (a<(b.length:Int))) (gd (0<=a/\a<(b.length:Int))<|br (decide (((gl b a.toNat).year_)<0)) (BE F b a c true) (BE F b a c (decide ((100:Int)<((gl b a.toNat).year_))))) (BB F b)
def RO(F:Nat)(a:List Rg_):Option Int:=
 br (decide (200<(a.length:Int))) (some (1:Int)) (Z9 (fun g (z:Int)=>ju F a g z) F (0:Int))
def Xm(F:Nat)(a:Int)(b:((List Rect)×Int×(List Rg_))->Option ((List Rg_)×Int))(c:List Rect)(d:List Rg_):Option ((List Rg_)×Int):=
 gd (Q6 (a+1))<|b (c,(a+1),d)
def BG(F:Nat)(b:List Rg_)(i:List Rect)(a:Int)(c:List Rg_)(e:((List Rect)×Int×(List Rg_))->Option ((List Rg_)×Int))(d:List Rect):Option ((List Rg_)×Int):=
 br (decide (0<(d.length:Int))) (gd (c.length+(List.length ([(⟨(gl b a.toNat).year_,(gl b a.toNat).c_,(⟨d⟩:Re_)⟩:Rg_)]:List Rg_))<=Y5)<|Xm F a e i (c++([(⟨(gl b a.toNat).year_,(gl b a.toNat).c_,(⟨d⟩:Re_)⟩:Rg_)]:List Rg_))) (Xm F a e i c)
def BH(F:Nat)(b:List Rg_)(j:Int)(k:Re_)(d:List Rect)(a:Int)(e:List Rg_)(c:((List Rect)×Int×(List Rg_))->Option ((List Rg_)×Int))(i:Bool):Option ((List Rg_)×Int):=
 br i ((Wo F d ((gl b a.toNat).g_.t_) (1:Int)).bind fun l=>Xm F a c l e) (br (((gl b a.toNat).year_)==j) ((Wo F ((gl b a.toNat).g_.t_) k.t_ (3:Int)).bind fun m=>BG F b d a e c m) (BG F b d a e c ((gl b a.toNat).g_.t_)))
def jv(F:Nat)(a:List Rg_):Option ((List Rg_)×Int):=
 some (a,(0:Int))
def jy(F:Nat)(b:List Rg_)(c:(Int)->Option ((List Rg_)×Int))(a:Int):Option ((List Rg_)×Int):=
 br (decide (a<(b.length:Int))) (gd (0<=a/\a<(b.length:Int))<|br (decide ((120:Int)<((List.length ((gl b a.toNat).g_.t_):Nat):Int))) (some ([],(1:Int))) (gd (Q6 (a+1))<|c (a+1))) (jv F b)
def BI(F:Nat)(a:List Rg_):Option ((List Rg_)×Int):=
 br (decide (200<(a.length:Int))) (some ([],(1:Int))) (Z9 (fun g (z:Int)=>jy F a g z) F (0:Int))
def RP(F:Nat)(d e:Int)(c:List Rect)(b:List Rg_)(a:Int):Option ((List Rg_)×Int):=
 gd (0<=(0:Int)/\(0:Int)<=a/\((0:Nat):Int)+a<=(b.length:Int))<|gd (0+((a).toNat)<=List.length b)<|gd ((0)+(((a).toNat))<=Y5)<|gd (((0)+(((a).toNat)))+(List.length ([(⟨d,e,(⟨c⟩:Re_)⟩:Rg_)]:List Rg_))<=Y5)<|gd (0<=a/\a<=((b.length:Nat):Int)/\((0:Nat):Int)+((b.length:Nat):Int)<=(b.length:Int))<|gd ((0+(a).toNat)+(b.length-(a).toNat)<=List.length b)<|gd ((((0)+(((a).toNat)))+(List.length ([(⟨d,e,(⟨c⟩:Re_)⟩:Rg_)]:List Rg_)))+((b.length-(a).toNat))<=Y5)<|BI F (((([]:List Rg_)++((b.drop 0).take ((a).toNat)))++([(⟨d,e,(⟨c⟩:Re_)⟩:Rg_)]:List Rg_))++((b.drop (0+(a).toNat)).take (b.length-(a).toNat)))
def KK(F:Nat)(i j:Int)(c:List Rect)(d:List Rg_)(a:Int)(b:(Int)->Option ((List Rg_)×Int))(e:Bool):Option ((List Rg_)×Int):=
 br e (gd (Q6 (a+1))<|b (a+1)) (RP F i j c d a)
def jx(F:Nat)(c d:Int)(i:List Rect)(b:List Rg_)(e:(Int)->Option ((List Rg_)×Int))(a:Int):Option ((List Rg_)×Int):=
 br (decide (a<(b.length:Int))) (gd (0<=a/\a<(b.length:Int))<|br (decide (((gl b a.toNat).year_)<c)) (KK F c d i b a e true) (gd (0<=a/\a<(b.length:Int))<|br (((gl b a.toNat).year_)==c) (gd (0<=a/\a<(b.length:Int))<|KK F c d i b a e (decide (((gl b a.toNat).c_)<d))) (KK F c d i b a e false))) (KK F c d i b a e false)
def BF(F:Nat)(c d:Int)(a:List Rect)(b:List Rg_):Option ((List Rg_)×Int):=
 br (decide (0<(a.length:Int))) (Z9 (fun g (z:Int)=>jx F c d a b g z) F (0:Int)) (BI F b)
def qo(F:Nat)(b:List Rg_)(c j:Int)(k:Re_)(i:((List Rect)×Int×(List Rg_))->Option ((List Rg_)×Int))(d:List Rect)(a:Int)(e:List Rg_):Option ((List Rg_)×Int):=
 br (decide (a<(b.length:Int))) (gd (0<=a/\a<(b.length:Int))<|br (((gl b a.toNat).year_)==c) (BH F b c k d a e i (((gl b a.toNat).c_)==j)) (BH F b c k d a e i false)) (BF F c j d e)
def BJ(F:Nat)(c:List Rg_)(d e:Int)(a:Re_)(b:Bool):Option ((List Rg_)×Int):=
 br b (some ([],(13:Int))) ((Jy F a).bind fun i=>br (!i) (some ([],(7:Int))) (Z9 (fun g (z:(List Rect)×Int×(List Rg_))=>qo F c d e a g z.1 z.2.1 z.2.2) F (a.t_,(0:Int),([]:List Rg_))))
def BK(F:Nat)(b:List Rg_)(c a:Int)(d:Re_)(e:Bool):Option ((List Rg_)×Int):=
 br e (some ([],(18:Int))) (br (decide (a<0)) (BJ F b c a d true) (BJ F b c a d (decide ((40:Int)<=a))))
def RQ(F:Nat)(b:List Rg_)(a c:Int)(d:Re_):Option ((List Rg_)×Int):=
 (RO F b).bind fun e=>br (e != (0:Int)) (some ([],e)) (br (decide (a<0)) (BK F b a c d true) (BK F b a c d (decide ((100:Int)<a))))
def bE(F:Nat)(a:List Rg_)(b:List Int)(c:Int):Option (Tape×(List Rg_)):=
 some ((⟨b,c⟩:Tape),a)
def SY(F:Nat)(m:List Crop)(i:Int)(l:((List Rg_)×Int×(List Int)×Int)->Option (Tape×(List Rg_)))(c:List Rg_)(a:Int)(d:List Int)(e:Int):Option (Tape×(List Rg_)):=
 br (decide ((0:Int)<a)) (gd (Q6 (i+1))<|(QD F (⟨d,e⟩:Tape) (i+1)).bind fun j=>(QD F j.1 (m.length:Int)).bind fun k=>(XA F k.1 (9:Int) (2:Int)).bind fun b=>(RQ F c j.2 k.2 b.2).bind fun n=>gd (Q6 (a-1))<|l (n.1,(a-1),b.1.l_,b.1.at_)) (bE F c d e)
def SZ(F:Nat)(c:Tape)(d:List Crop)(e b:Int):Option (Tape×(List Rg_)):=
 gd (Q6 (b+1))<|(QD F c (b+1)).bind fun a=>Z9 (fun g (z:(List Rg_)×Int×(List Int)×Int)=>SY F d e g z.1 z.2.1 z.2.2.1 z.2.2.2) F (([]:List Rg_),a.2,a.1.l_,a.1.at_)
def Ta(F:Nat)(e:Tape)(i:Int):Option (Tape×A2_):=
 (QD F e (20:Int)).bind fun a=>(QD F a.1 (16:Int)).bind fun c=>(YD F c.1 (1:Int) (30:Int)).bind fun b=>gd (Q6 (a.2+b.2))<|(Ga F b.1 (9:Int) (2:Int)).bind fun d=>some (d.1,(⟨i,c.2,a.2,(a.2+b.2),d.2⟩:A2_))
def Xn(F:Nat)(a:Bool):Option Int:=
 br a (some (7:Int)) (some (0:Int))
def Jw(F:Nat)(a:A2_)(b:Bool):Option Int:=
 br b (some (9:Int)) ((Jy F a.g_).bind fun c=>br (!c) (Xn F true) (Xn F ((a.g_.t_.length:Int)==0)))
def Jx(F:Nat)(a:A2_)(b:Bool):Option Int:=
 br b (some (14:Int)) (br (decide (a.F_<0)) (Jw F a true) (br (decide (a.u_<=a.F_)) (Jw F a true) (Jw F a (decide ((36865:Int)<a.u_)))))
def RR(F:Nat)(a:A2_)(b:Bool):Option Int:=
 br b (some (2:Int)) (br (decide (a.k_<0)) (Jx F a true) (Jx F a (decide ((15:Int)<a.k_))))
def BL(F:Nat)(a:A2_):Option Int:=
 br (decide (a.N_<1)) (RR F a true) (RR F a (decide ((1073741824:Int)<a.N_)))
def BM(F:Nat)(a:Int)(b:(Int)->Option Int)(c:Bool):Option Int:=
 br c (some (3:Int)) (gd (Q6 (a+1))<|b (a+1))
def jB(F:Nat):Option Int:=
 some (0:Int)
def jC(F:Nat)(b:List A2_)(c:(Int)->Option Int)(a:Int):Option Int:=
 br (decide (a<(b.length:Int))) (gd (0<=a/\a<(b.length:Int))<|(BL F (gl b a.toNat)).bind fun d=>br (d != (0:Int)) (some d) (br (decide ((0:Int)<a)) (gd (Q6 (a-1))<|gd (0<=(a-1)/\(a-1)<(b.length:Int))<|BM F a c (decide (((gl b a.toNat).N_)<=((gl b (a-1).toNat).N_)))) (BM F a c false))) (jB F)
def RS(F:Nat)(a:List A2_):Option Int:=
 br (decide (60<(a.length:Int))) (some (1:Int)) (Z9 (fun g (z:Int)=>jC F a g z) F (0:Int))
def BN(F:Nat)(b:List A2_)(c:A2_)(a:Int)(d:Bool):Option ((List A2_)×Int):=
 br d (some ([],(6:Int))) (br ((b.length:Int)==60) (some ([],(1:Int))) (gd (0<=a/\a<=(b.length:Int))<|gd ((0)+(List.length (b.take a.toNat))<=Y5)<|gd (((0)+(List.length (b.take a.toNat)))+(List.length ([c]:List A2_))<=Y5)<|gd (0<=a/\a<=(b.length:Int))<|gd ((((0)+(List.length (b.take a.toNat)))+(List.length ([c]:List A2_)))+(List.length (b.drop a.toNat))<=Y5)<|some ((((([]:List A2_)++(b.take a.toNat))++([c]:List A2_))++(b.drop a.toNat)),(0:Int))))
def RT(F:Nat)(b:List A2_)(c:A2_)(a:Int):Option ((List A2_)×Int):=
 br (decide (a<(b.length:Int))) (gd (0<=a/\a<(b.length:Int))<|BN F b c a (((gl b a.toNat).N_)==c.N_)) (BN F b c a false)
def BO(F:Nat)(d:List A2_)(e:A2_)(a:Int)(b:(Int)->Option ((List A2_)×Int))(c:Bool):Option ((List A2_)×Int):=
 br c (gd (Q6 (a+1))<|b (a+1)) (RT F d e a)
def jE(F:Nat)(b:List A2_)(c:A2_)(d:(Int)->Option ((List A2_)×Int))(a:Int):Option ((List A2_)×Int):=
 br (decide (a<(b.length:Int))) (gd (0<=a/\a<(b.length:Int))<|BO F b c a d (decide (((gl b a.toNat).N_)<c.N_))) (BO F b c a d false)
def RU(F:Nat)(a:List A2_)(b:A2_):Option ((List A2_)×Int):=
 (RS F a).bind fun c=>br (c != (0:Int)) (some ([],c)) ((BL F b).bind fun d=>br (d != (0:Int)) (some ([],d)) (Z9 (fun g (z:Int)=>jE F a b g z) F (0:Int)))
def Dm(F:Nat)(a:Int)(b:((List A2_)×Int×(List Int)×Int)->Option (Tape×(List A2_)))(c:List A2_)(d:List Int)(e:Int):Option (Tape×(List A2_)):=
 gd (Q6 (a-1))<|b (c,(a-1),d,e)
def bD(F:Nat)(a:List A2_)(b:List Int)(c:Int):Option (Tape×(List A2_)):=
 some ((⟨b,c⟩:Tape),a)
def XD(F:Nat)(d:((List A2_)×Int×(List Int)×Int)->Option (Tape×(List A2_)))(b:List A2_)(c:Int)(e:List Int)(i:Int):Option (Tape×(List A2_)):=
 br (decide ((0:Int)<c)) ((YD F (⟨e,i⟩:Tape) (1:Int) (12:Int)).bind fun j=>(Ta F j.1 j.2).bind fun a=>(RU F b a.2).bind fun k=>br (k.2==(0:Int)) (Dm F c d k.1 a.1.l_ a.1.at_) (Dm F c d b a.1.l_ a.1.at_)) (bD F b e i)
def SS(F:Nat)(c:Tape)(b:Int):Option (Tape×(List A2_)):=
 gd (Q6 (b+1))<|(QD F c (b+1)).bind fun a=>Z9 (fun g (z:(List A2_)×Int×(List Int)×Int)=>XD F g z.1 z.2.1 z.2.2.1 z.2.2.2) F (([]:List A2_),a.2,a.1.l_,a.1.at_)
def SJ(F:Nat)(j:Tape)(a:List Crop):Option (Tape×World):=
 (QD F j (5:Int)).bind fun b=>(SZ F b.1 a (4:Int) (5:Int)).bind fun c=>(SS F c.1 (3:Int)).bind fun d=>(QD F d.1 (25:Int)).bind fun e=>(QD F e.1 (5:Int)).bind fun i=>some (i.1,(⟨b.2,a,c.2,d.2,e.2,i.2⟩:World))
def kt(F:Nat):Option Int:=
 some (-1:Int)
def Ji(F:Nat)(b:List Rect)(d:Rect->Option Bool)(c:(Int)->Option Int)(a:Int):Option Int:=
 br (decide (a<(b.length:Int))) (gd (0<=a/\a<(b.length:Int))<|(d (gl b a.toNat)).bind fun e=>br e (some a) (gd (Q6 (a+1))<|c (a+1))) (kt F)
def FR(F:Nat)(a:List Rect)(b:Rect->Option Bool):Option Int:=
 Z9 (fun g (z:Int)=>Ji F a b g z) F (0:Int)
def Kl(F:Nat)(a:List Rect)(b:Rect->Option Bool):Option Bool:=
 (FR F a b).bind fun c=>some (decide ((0:Int)<=c))
def Vd(F:Nat)(a:Bool):Option Bool:=
 some a
def Be(F:Nat)(a:Rect):Option Bool:=
 br (decide ((0:Int)<=a.L_)) (br (decide (a.L_<a.R_)) (br (decide (a.R_<=16384)) (br (decide ((0:Int)<=a.w_)) (br (decide (a.w_<a.H_)) (Vd F (decide (a.H_<=16384))) (Vd F false)) (Vd F false)) (Vd F false)) (Vd F false)) (Vd F false)
def LM(F:Nat)(a:Rect):Option Bool:=
 (Be F a).bind fun b=>some (!b)
def Mz(F:Nat)(a:Int)(b:(Int×Int×(List Int))->Option (List Int))(c:Int)(d:List Int):Option (List Int):=
 gd (Q6 (a+1))<|b (c,(a+1),d)
def Lb(F:Nat)(a:Int)(b:List Int):Option (List Int):=
 gd (0<=a/\a<=((b.length:Nat):Int)/\((0:Nat):Int)+((b.length:Nat):Int)<=(b.length:Int))<|gd (0<=a/\a<=((List.length (clr b (0+(a).toNat) (b.length-(a).toNat)):Nat):Int))<|some ((clr b (0+(a).toNat) (b.length-(a).toNat)).take (a).toNat)
def kU(F:Nat)(e:List Int)(b:Int)(i:(Int×Int×(List Int))->Option (List Int))(d a:Int)(c:List Int):Option (List Int):=
 br (decide (a<(((e.length-(b).toNat):Nat):Int))) (gd (0<=a/\a<(((e.length-(b).toNat):Nat):Int))<|gd (((0+(b).toNat)+(a).toNat)<List.length c)<|gd (Q6 (a-1))<|gd (0<=(a-1)/\(a-1)<(((e.length-(b).toNat):Nat):Int))<|gd (((0+(b).toNat)+((a-1)).toNat)<List.length c)<|br ((gl c ((0+(b).toNat)+(a).toNat)) != (gl c ((0+(b).toNat)+((a-1)).toNat))) (gd (0<=a/\a<(((e.length-(b).toNat):Nat):Int))<|gd (((0+(b).toNat)+(a).toNat)<List.length c)<|gd (0<=d/\d<(c.length:Int))<|gd (Q6 (d+1))<|Mz F a i (d+1) (List.set c d.toNat (gl c ((0+(b).toNat)+(a).toNat)))) (Mz F a i d c)) (Lb F d c)
def La(F:Nat)(a:Int)(b:(Int)->Option (List Int)):Option (List Int):=
 gd (Q6 (a+1))<|b (a+1)
def FZ(F:Nat)(a:List Int):Option (List Int):=
 some a
def kV(F:Nat)(b:List Int)(c:(Int)->Option (List Int))(a:Int):Option (List Int):=
 br (decide (a<(b.length:Int))) (gd (0<=a/\a<(b.length:Int))<|gd (Q6 (a-1))<|gd (0<=(a-1)/\(a-1)<(b.length:Int))<|br ((gl b a.toNat)==(gl b (a-1).toNat)) (gd (0<=a/\a<=((b.length:Nat):Int)/\((0:Nat):Int)+((b.length:Nat):Int)<=(b.length:Int))<|Z9 (fun g (z:Int×Int×(List Int))=>kU F b a g z.1 z.2.1 z.2.2) F (a,(1:Int),b)) (La F a c)) (FZ F b)
def PV(F:Nat)(a:List Int):Option (List Int):=
 br (decide ((a.length:Int)<2)) (some a) (Z9 (fun g (z:Int)=>kV F a g z) F (1:Int))
def qb(F:Nat)(a:Int)(b:(Int×(List Int))->Option (List Int))(c:List Int):Option (List Int):=
 gd (Q6 (a+1))<|b ((a+1),c)
def qc(F:Nat)(c:(List (List Rect)))(b:Int)(e i:(Int×(List Int))->Option (List Int))(a:Int)(d:List Int):Option (List Int):=
 br (decide (a<((List.length (gl c b.toNat):Nat):Int))) (gd (0<=a/\a<((List.length (gl c b.toNat):Nat):Int))<|gd (d.length+(List.length ([(gl (gl c b.toNat) a.toNat).w_,(gl (gl c b.toNat) a.toNat).H_]:List Int))<=Y5)<|gd (Q6 (a+1))<|i ((a+1),(d++([(gl (gl c b.toNat) a.toNat).w_,(gl (gl c b.toNat) a.toNat).H_]:List Int)))) (qb F b e d)
def qa(F:Nat)(a:List Int):Option (List Int):=
 (VU a).bind fun b=>(PV F b).bind fun c=>some c
def qd(F:Nat)(b:(List (List Rect)))(d:(Int×(List Int))->Option (List Int))(a:Int)(c:List Int):Option (List Int):=
 br (decide (a<(b.length:Int))) (gd (0<=a/\a<(b.length:Int))<|Z9 (fun g (z:Int×(List Int))=>qc F b a d g z.1 z.2) F ((0:Int),c)) (qa F c)
def KA(F:Nat)(a:(List (List Rect))):Option (List Int):=
 Z9 (fun g (z:Int×(List Int))=>qd F a g z.1 z.2) F ((0:Int),([]:List Int))
def Cp(F:Nat)(a:Int):Option Bool:=
 some (a != a)
def WC(F:Nat)(a b:Int):Option Int:=
 (Cp F a).bind fun d=>(Cp F b).bind fun c=>br d (br c (some (0:Int)) (some (-1:Int))) (br c (some (1:Int)) (br (decide (a<b)) (some (-1:Int)) (br (decide (b<a)) (some (1:Int)) (some (0:Int)))))
def Rw(F:Nat)(a b:Span):Option Int:=
 (WC F a.L_ b.L_).bind fun c=>some c
def Bn(F:Nat)(a:Int)(b:(Int×(List Span))->Option (List Span))(c:List Span):Option (List Span):=
 gd (Q6 (a+1))<|b ((a+1),c)
def Bo(F:Nat)(b:List Rect)(a:Int)(c:List Span)(d:(Int×(List Span))->Option (List Span))(e:Bool):Option (List Span):=
 br e (gd (c.length+(List.length ([(⟨(gl b a.toNat).L_,(gl b a.toNat).R_⟩:Span)]:List Span))<=Y5)<|Bn F a d (c++([(⟨(gl b a.toNat).L_,(gl b a.toNat).R_⟩:Span)]:List Span))) (Bn F a d c)
def Bm(F:Nat)(a:Int)(b:(Int×(List Span))->Option (List Span))(c:List Span):Option (List Span):=
 gd (Q6 (a+1))<|b ((a+1),c)
def Xd(F:Nat)(c:List Span)(b:Int)(a:List Span)(d:(Int×(List Span))->Option (List Span))(e:Bool):Option (List Span):=
 br e (gd (Q6 ((a.length:Int)-1))<|gd (Q6 ((a.length:Int)-1))<|gd (0<=((a.length:Int)-1)/\((a.length:Int)-1)<(a.length:Int))<|gd (0<=((a.length:Int)-1)/\((a.length:Int)-1)<(a.length:Int))<|Bm F b d (List.set a ((a.length:Int)-1).toNat (⟨(gl a ((a.length:Int)-1).toNat).L_,(G7 ((gl a ((a.length:Int)-1).toNat).R_) ((gl c b.toNat).R_))⟩:Span))) (gd (a.length+(List.length ([(gl c b.toNat)]:List Span))<=Y5)<|Bm F b d (a++([(gl c b.toNat)]:List Span)))
def LP(F:Nat)(a:List Span):Option (List Span):=
 some a
def LQ(F:Nat)(c:List Span)(d:(Int×(List Span))->Option (List Span))(b:Int)(a:List Span):Option (List Span):=
 br (decide (b<(c.length:Int))) (gd (0<=b/\b<(c.length:Int))<|br (decide (0<(a.length:Int))) (gd (Q6 ((a.length:Int)-1))<|gd (0<=((a.length:Int)-1)/\((a.length:Int)-1)<(a.length:Int))<|Xd F c b a d (decide (((gl c b.toNat).L_)<=((gl a ((a.length:Int)-1).toNat).R_)))) (Xd F c b a d false)) (LP F a)
def Rv(F:Nat)(a:List Span):Option (List Span):=
 (Jh a (fun y0 y1=>Rw F y0 y1)).bind fun b=>Z9 (fun g (z:Int×(List Span))=>LQ F b g z.1 z.2) F ((0:Int),([]:List Span))
def LR(F:Nat)(b:List Rect)(e:Int)(d:(Int×(List Span))->Option (List Span))(a:Int)(c:List Span):Option (List Span):=
 br (decide (a<(b.length:Int))) (gd (0<=a/\a<(b.length:Int))<|br (decide (((gl b a.toNat).w_)<=e)) (Bo F b a c d (decide (e<((gl b a.toNat).H_)))) (Bo F b a c d false)) (Rv F c)
def VG(F:Nat)(a:List Rect)(b:Int):Option (List Span):=
 Z9 (fun g (z:Int×(List Span))=>LR F a b g z.1 z.2) F ((0:Int),([]:List Span))
def LJ(F:Nat)(a:Int)(b:List Rect):Option (List Span):=
 (VG F b a).bind fun c=>some c
def kD(F:Nat):Option Bool:=
 some true
def kE(F:Nat)(b c:List Span)(d:(Int)->Option Bool)(a:Int):Option Bool:=
 br (decide (a<(b.length:Int))) (gd (0<=a/\a<(b.length:Int))<|gd (0<=a/\a<(c.length:Int))<|br (!((((gl b a.toNat).L_)==((gl c a.toNat).L_))&&((((gl b a.toNat).R_)==((gl c a.toNat).R_))&&true))) (some false) (gd (Q6 (a+1))<|d (a+1))) (kD F)
def Mm(F:Nat)(a b:List Span):Option Bool:=
 br ((a.length:Int) != (b.length:Int)) (some false) (Z9 (fun g (z:Int)=>kE F a b g z) F (0:Int))
def LC(F:Nat)(a:Int)(b:(Int×(List Rect))->Option (List Rect))(c:List Rect):Option (List Rect):=
 gd (Q6 (a+1))<|b ((a+1),c)
def LD(F:Nat)(b:List Band)(a:Int)(e i:(Int×(List Rect))->Option (List Rect))(c:Int)(d:List Rect):Option (List Rect):=
 br (decide (c<((List.length ((gl b a.toNat).spans_):Nat):Int))) (gd (0<=c/\c<((List.length ((gl b a.toNat).spans_):Nat):Int))<|gd (d.length+(List.length ([(⟨(gl ((gl b a.toNat).spans_) c.toNat).L_,(gl b a.toNat).w_,(gl ((gl b a.toNat).spans_) c.toNat).R_,(gl b a.toNat).H_⟩:Rect)]:List Rect))<=Y5)<|gd (Q6 (c+1))<|i ((c+1),(d++([(⟨(gl ((gl b a.toNat).spans_) c.toNat).L_,(gl b a.toNat).w_,(gl ((gl b a.toNat).spans_) c.toNat).R_,(gl b a.toNat).H_⟩:Rect)]:List Rect)))) (LC F a e d)
def LA(F:Nat)(a:List Rect):Option (List Rect):=
 some a
def LE(F:Nat)(b:List Band)(d:(Int×(List Rect))->Option (List Rect))(a:Int)(c:List Rect):Option (List Rect):=
 br (decide (a<(b.length:Int))) (gd (0<=a/\a<(b.length:Int))<|Z9 (fun g (z:Int×(List Rect))=>LD F b a d g z.1 z.2) F ((0:Int),c)) (LA F c)
def Rh(F:Nat)(a:List Band):Option (List Rect):=
 Z9 (fun g (z:Int×(List Rect))=>LE F a g z.1 z.2) F ((0:Int),([]:List Rect))
def Bt(F:Nat)(a:Int)(b:(Int×(List Band))->Option (List Rect))(c:List Band):Option (List Rect):=
 gd (Q6 (a+1))<|b ((a+1),c)
def KC(F:Nat)(c:List Int)(b:Int)(a:List Band)(e:List Span)(d:(Int×(List Band))->Option (List Rect))(i:Bool):Option (List Rect):=
 br i (gd (Q6 ((a.length:Int)-1))<|gd (0<=((a.length:Int)-1)/\((a.length:Int)-1)<(a.length:Int))<|Bt F b d (List.set a ((a.length:Int)-1).toNat (⟨(gl a ((a.length:Int)-1).toNat).w_,(gl c b.toNat),(gl a ((a.length:Int)-1).toNat).spans_⟩:Band))) (gd (a.length+(List.length ([(⟨(gl c (b-1).toNat),(gl c b.toNat),e⟩:Band)]:List Band))<=Y5)<|Bt F b d (a++([(⟨(gl c (b-1).toNat),(gl c b.toNat),e⟩:Band)]:List Band)))
def Rz(F:Nat)(a:List Band):Option (List Rect):=
 (Rh F a).bind fun b=>some b
def ja(F:Nat)(c:List Int)(i:Int->Option (List Span))(e:(Int×(List Band))->Option (List Rect))(b:Int)(a:List Band):Option (List Rect):=
 br (decide (b<(c.length:Int))) (gd (Q6 (b-1))<|gd (0<=(b-1)/\(b-1)<(c.length:Int))<|gd (0<=b/\b<(c.length:Int))<|gd (Q6 (b-1))<|gd (0<=(b-1)/\(b-1)<(c.length:Int))<|(i (gl c (b-1).toNat)).bind fun d=>br (decide (0<(a.length:Int))) (gd (Q6 ((a.length:Int)-1))<|gd (0<=((a.length:Int)-1)/\((a.length:Int)-1)<(a.length:Int))<|br (((gl a ((a.length:Int)-1).toNat).H_)==(gl c (b-1).toNat)) (gd (Q6 ((a.length:Int)-1))<|gd (0<=((a.length:Int)-1)/\((a.length:Int)-1)<(a.length:Int))<|(Mm F ((gl a ((a.length:Int)-1).toNat).spans_) d).bind fun j=>KC F c b a d e j) (KC F c b a d e false)) (KC F c b a d e false)) (Rz F a)
def Bu(F:Nat)(a:List Int)(b:Int->Option (List Span)):Option (List Rect):=
 Z9 (fun g (z:Int×(List Band))=>ja F a b g z.1 z.2) F ((1:Int),([]:List Band))
def Xa(F:Nat)(a:List Rect):Option (List Rect):=
 (KA F ([a]:List (List Rect))).bind fun b=>(Bu F b (fun y0=>LJ F y0 a)).bind fun c=>some c
def kF(F:Nat):Option Bool:=
 some true
def kG(F:Nat)(b c:List Rect)(d:(Int)->Option Bool)(a:Int):Option Bool:=
 br (decide (a<(b.length:Int))) (gd (0<=a/\a<(b.length:Int))<|gd (0<=a/\a<(c.length:Int))<|br (!((((gl b a.toNat).L_)==((gl c a.toNat).L_))&&((((gl b a.toNat).w_)==((gl c a.toNat).w_))&&((((gl b a.toNat).R_)==((gl c a.toNat).R_))&&((((gl b a.toNat).H_)==((gl c a.toNat).H_))&&true))))) (some false) (gd (Q6 (a+1))<|d (a+1))) (kF F)
def Mn(F:Nat)(a b:List Rect):Option Bool:=
 br ((a.length:Int) != (b.length:Int)) (some false) (Z9 (fun g (z:Int)=>kG F a b g z) F (0:Int))
def Rt(F:Nat)(a:Re_)(b:Bool):Option Bool:=
 br b (some false) ((Xa F a.t_).bind fun c=>(Mn F c a.t_).bind fun d=>some d)
def Yx(F:Nat)(a:Re_):Option Bool:=
 br (decide (120<(a.t_.length:Int))) (Rt F a true) ((Kl F a.t_ (fun y0=>LM F y0)).bind fun b=>Rt F a b)
def FV(F:Nat)(a:List Span):Option (List Span):=
 some a
def Km(F:Nat)(b:(List (List Span)))(d:(Int×(List Span))->Option (List Span))(a:Int)(c:List Span):Option (List Span):=
 br (decide (a<(b.length:Int))) (gd (0<=a/\a<(b.length:Int))<|gd (c.length+(List.length (gl b a.toNat))<=Y5)<|gd (Q6 (a+1))<|d ((a+1),(c++(gl b a.toNat)))) (FV F c)
def Mw(F:Nat)(b:(List (List Span)))(a:Int):Option (List Span):=
 (Uf a).bind fun c=>Z9 (fun g (z:Int×(List Span))=>Km F b g z.1 z.2) F ((0:Int),c)
def Ko(F:Nat)(b:(List (List Span)))(d:(Int×Int)->Option (List Span))(c a:Int):Option (List Span):=
 br (decide (a<(b.length:Int))) (gd (0<=a/\a<(b.length:Int))<|gd (Q6 (c+((List.length (gl b a.toNat):Nat):Int)))<|br (decide ((c+((List.length (gl b a.toNat):Nat):Int))<0)) (none) (gd (Q6 (a+1))<|d ((c+((List.length (gl b a.toNat):Nat):Int)),(a+1)))) (Mw F b c)
def FW(F:Nat)(a:(List (List Span))):Option (List Span):=
 Z9 (fun g (z:Int×Int)=>Ko F a g z.1 z.2) F ((0:Int),(0:Int))
def Ro(F:Nat)(a:Bool):Option Bool:=
 some a
def Jp(F:Nat)(a:Span)(b:Int):Option Bool:=
 br (decide (a.L_<=b)) (Ro F (decide (b<a.R_))) (Ro F false)
def kl(F:Nat):Option Int:=
 some (-1:Int)
def Ki(F:Nat)(b:List Span)(d:Span->Option Bool)(c:(Int)->Option Int)(a:Int):Option Int:=
 br (decide (a<(b.length:Int))) (gd (0<=a/\a<(b.length:Int))<|(d (gl b a.toNat)).bind fun e=>br e (some a) (gd (Q6 (a+1))<|c (a+1))) (kl F)
def FQ(F:Nat)(a:List Span)(b:Span->Option Bool):Option Int:=
 Z9 (fun g (z:Int)=>Ki F a b g z) F (0:Int)
def FU(F:Nat)(a:List Span)(b:Span->Option Bool):Option Bool:=
 (FQ F a b).bind fun c=>some (decide ((0:Int)<=c))
def Bh(F:Nat)(a:List Span)(b:Int):Option Bool:=
 (FU F a (fun y0=>Jp F y0 b)).bind fun c=>some c
def GZ(F:Nat)(a:Int)(b:(Int×(List Span))->Option (List Span))(c:List Span):Option (List Span):=
 gd (Q6 (a+1))<|b ((a+1),c)
def Bf(F:Nat)(c:List Int)(a:Int)(b:List Span)(d:(Int×(List Span))->Option (List Span))(e:Bool):Option (List Span):=
 br e (gd (Q6 ((b.length:Int)-1))<|gd (0<=a/\a<(c.length:Int))<|gd (0<=((b.length:Int)-1)/\((b.length:Int)-1)<(b.length:Int))<|GZ F a d (List.set b ((b.length:Int)-1).toNat (⟨(gl b ((b.length:Int)-1).toNat).L_,(gl c a.toNat)⟩:Span))) (gd (0<=a/\a<(c.length:Int))<|gd (b.length+(List.length ([(⟨(gl c (a-1).toNat),(gl c a.toNat)⟩:Span)]:List Span))<=Y5)<|GZ F a d (b++([(⟨(gl c (a-1).toNat),(gl c a.toNat)⟩:Span)]:List Span)))
def Rj(F:Nat)(a:List Span):Option (List Span):=
 some a
def Bg(F:Nat)(e i:List Span)(j:Bool->Bool->Option Bool)(c:List Int)(d:(Int×(List Span))->Option (List Span))(b:Int)(a:List Span):Option (List Span):=
 br (decide (b<(c.length:Int))) (gd (Q6 (b-1))<|gd (0<=(b-1)/\(b-1)<(c.length:Int))<|(Bh F e (gl c (b-1).toNat)).bind fun k=>(Bh F i (gl c (b-1).toNat)).bind fun l=>(j k l).bind fun m=>br (!m) (GZ F b d a) (br (decide (0<(a.length:Int))) (gd (Q6 ((a.length:Int)-1))<|gd (0<=((a.length:Int)-1)/\((a.length:Int)-1)<(a.length:Int))<|Bf F c b a d (((gl a ((a.length:Int)-1).toNat).R_)==(gl c (b-1).toNat))) (Bf F c b a d false))) (Rj F a)
def LG(F:Nat)(b c:List Span)(d:Bool->Bool->Option Bool)(a:List Int):Option (List Span):=
 (VU a).bind fun e=>(PV F e).bind fun i=>Z9 (fun g (z:Int×(List Span))=>Bg F b c d i g z.1 z.2) F ((1:Int),([]:List Span))
def Rk(F:Nat)(e i:List Span)(j:Bool->Bool->Option Bool)(b:List Span)(d:(Int×(List Int))->Option (List Span))(a:Int)(c:List Int):Option (List Span):=
 br (decide (a<(b.length:Int))) (gd (0<=a/\a<(b.length:Int))<|gd (c.length+(List.length ([(gl b a.toNat).L_,(gl b a.toNat).R_]:List Int))<=Y5)<|gd (Q6 (a+1))<|d ((a+1),(c++([(gl b a.toNat).L_,(gl b a.toNat).R_]:List Int)))) (LG F e i j c)
def Rl(F:Nat)(a b:List Span)(c:Bool->Bool->Option Bool):Option (List Span):=
 (FW F ([a,b]:List (List Span))).bind fun d=>Z9 (fun g (z:Int×(List Int))=>Rk F a b c d g z.1 z.2) F ((0:Int),([]:List Int))
def qe(F:Nat)(a:Int)(b c:List Rect)(d:Bool->Bool->Option Bool):Option (List Span):=
 (VG F b a).bind fun e=>(VG F c a).bind fun i=>(Rl F e i d).bind fun j=>some j
def Zn(F:Nat)(a b:List Rect)(c:Bool->Bool->Option Bool):Option (List Rect):=
 (KA F ([a,b]:List (List Rect))).bind fun d=>(Bu F d (fun y0=>qe F y0 a b c)).bind fun e=>some e
def Jq(F:Nat)(a:List Rect):Option (Re_×Int):=
 br (decide (120<(a.length:Int))) (some ((⟨[]⟩:Re_),(1:Int))) (some ((⟨a⟩:Re_),(0:Int)))
def Bi(F:Nat)(c d:Re_)(e:Bool->Bool->Option Bool)(b:Bool):Option (Re_×Int):=
 br b (some ((⟨[]⟩:Re_),(7:Int))) ((Zn F c.t_ d.t_ e).bind fun i=>(Jq F i).bind fun a=>some (a.1,a.2))
def Bj(F:Nat)(a b:Re_)(c:Bool->Bool->Option Bool):Option (Re_×Int):=
 (Yx F a).bind fun d=>br (!d) (Bi F a b c true) ((Yx F b).bind fun e=>Bi F a b c (!e))
def qf(F:Nat)(a:Bool):Option Bool:=
 some a
def qg(F:Nat)(a b:Bool):Option Bool:=
 br a (qf F b) (qf F false)
def Bv(F:Nat)(b c:Re_):Option (Re_×Int):=
 (Bj F b c (fun y0 y1=>qg F y0 y1)).bind fun a=>some (a.1,a.2)
def LK(F:Nat)(a:Bool):Option Bool:=
 some a
def LL(F:Nat)(a b:Bool):Option Bool:=
 br a (LK F (!b)) (LK F false)
def Bk(F:Nat)(b c:Re_):Option (Re_×Int):=
 (Bj F b c (fun y0 y1=>LL F y0 y1)).bind fun a=>some (a.1,a.2)
def zG(F:Nat)(a:List Re_):Option (List Re_):=
 some a
def Tc(F:Nat)(b:List Line)(c:List Re_)(i:(Int×(List Re_))->Option (List Re_))(a:Int)(e:List Re_):Option (List Re_):=
 br (decide (a<(b.length:Int))) (gd (0<=a/\a<(b.length:Int))<|gd (Q6 (((gl b a.toNat).p_)-1))<|(Gb F (((gl b a.toNat).p_)-1) (c.length:Int)).bind fun d=>gd (0<=d/\d<(c.length:Int))<|gd (e.length+(List.length ([(gl c d.toNat)]:List Re_))<=Y5)<|gd (Q6 (a+1))<|i ((a+1),(e++([(gl c d.toNat)]:List Re_)))) (zG F e)
def Dp(F:Nat)(a:List Line)(b:List Re_):Option (List Re_):=
 Z9 (fun g (z:Int×(List Re_))=>Tc F a b g z.1 z.2) F ((0:Int),([]:List Re_))
def GE(F:Nat)(a:Int)(b:(Int)->Option Bool)(c:Bool):Option Bool:=
 br c (some false) (gd (Q6 (a+1))<|b (a+1))
def Pt(F:Nat)(a:Int)(c:Bool)(b:(Int)->Option Bool)(d:Bool):Option Bool:=
 br (!c) (br (a==0) (GE F a b true) (GE F a b (!d))) (GE F a b false)
def Pu(F:Nat)(b:ByteArray)(a:Int)(c:(Int)->Option Bool)(d:Bool):Option Bool:=
 gd (0<=a/\a<((b.size:Nat):Int))<|br (decide ((48:Int)<=(K2 b a))) (gd (0<=a/\a<((b.size:Nat):Int))<|Pt F a d c (decide ((K2 b a)<=57))) (Pt F a d c false)
def Ps(F:Nat)(a:Bool):Option Bool:=
 some a
def CU(F:Nat)(a:ByteArray):Option Bool:=
 br (decide ((1:Int)<=((a.size:Nat):Int))) (Ps F (decide (((a.size:Nat):Int)<=(12:Int)))) (Ps F false)
def xc(F:Nat)(b:ByteArray)(c:(Int)->Option Bool)(a:Int):Option Bool:=
 br (decide (a<((b.size:Nat):Int))) (gd (0<=a/\a<((b.size:Nat):Int))<|br (decide ((97:Int)<=(K2 b a))) (gd (0<=a/\a<((b.size:Nat):Int))<|Pu F b a c (decide ((K2 b a)<=122))) (Pu F b a c false)) (CU F b)
def Pv(F:Nat)(a:ByteArray):Option Bool:=
 Z9 (fun g (z:Int)=>xc F a g z) F (0:Int)
def Fw(F:Nat)(rc:Term->Int->Option Int)(a:Int):Option Int:=
 some a
def HU(F:Nat)(rc:Term->Int->Option Int)(c:Term)(d:Int)(i:(Int×Int)->Option Int)(a b:Int):Option Int:=
 br (decide (b<(c.kids_.length:Int))) (gd (0<=b/\b<(c.kids_.length:Int))<|gd (Q6 (gl c.kids_ b.toNat).op_)<|br (decide (d<a)) (Fw F rc a) (gd (Q6 (d-a))<|(rc (gl c.kids_ b.toNat) (d-a)).bind fun e=>gd (Q6 (a+e))<|gd (Q6 (b+1))<|i ((a+e),(b+1)))) (Fw F rc a)
def HV(F:Nat)(rc:Term->Int->Option Int)(a:Term)(b:Int):Option Int:=
 Z9 (fun g (z:Int×Int)=>HU F rc a b g z.1 z.2) F ((1:Int),(0:Int))
def Jf:Nat->Term->Int->Option Int
 | 0=>fun _ _=>none
 | F+1=>HV F (Jf F)
def HP(F:Nat)(a:Bool):Option (Int×Int×Bool):=
 br a (some ((1:Int),(10:Int),true)) (some ((0:Int),(0:Int),false))
def HQ(F:Nat)(a:Int):Option (Int×Int×Bool):=
 br (a==2) (some ((0:Int),(39:Int),true)) (br (a==3) (some ((0:Int),(40:Int),true)) (br (a==4) (some ((1:Int),(16:Int),true)) (br (a==5) (some ((0:Int),(15:Int),true)) (br (a==6) (some ((2:Int),(10:Int),true)) (br (a==7) (HP F (a==7)) (HP F (a==8)))))))
def HR(F:Nat)(b:Int)(a:Bool):Option (Int×Int):=
 br a (some ((1:Int),(40:Int))) (br (b==11) (some ((1:Int),(1:Int))) (some ((0:Int),(0:Int))))
def HS(F:Nat)(a:Int):Option (Int×Int):=
 br (a==9) (HR F a (a==9)) (HR F a (a==10))
def cZ(F:Nat)(a:Int):Option Int:=
 gd (0<=(1:Int))<|(some (QE .u64 (a.fdiv (2 ^ (min ((1:Int)).toNat (IntKind.bits .u64)))) (6148914691236517205:Int))).bind fun k=>(some (IntKind.wrap .u64 (k+(QE .u64 a (6148914691236517205:Int))))).bind fun b=>gd (0<=(2:Int))<|(some (QE .u64 (b.fdiv (2 ^ (min ((2:Int)).toNat (IntKind.bits .u64)))) (3689348814741910323:Int))).bind fun l=>(some (IntKind.wrap .u64 (l+(QE .u64 b (3689348814741910323:Int))))).bind fun c=>gd (0<=(4:Int))<|(some (IntKind.wrap .u64 ((c.fdiv (2 ^ (min ((4:Int)).toNat (IntKind.bits .u64))))+c))).bind fun d=>gd (0<=(8:Int))<|(some ((QE .u64 d (1085102592571150095:Int)).fdiv (2 ^ (min ((8:Int)).toNat (IntKind.bits .u64))))).bind fun m=>(some (IntKind.wrap .u64 ((QE .u64 d (1085102592571150095:Int))+m))).bind fun e=>gd (0<=(16:Int))<|(some (IntKind.wrap .u64 (e+(e.fdiv (2 ^ (min ((16:Int)).toNat (IntKind.bits .u64))))))).bind fun i=>gd (0<=(32:Int))<|(some (IntKind.wrap .u64 (i+(i.fdiv (2 ^ (min ((32:Int)).toNat (IntKind.bits .u64))))))).bind fun j=>gd (Q6 j)<|some (QE .i64 j (127:Int))
def ba(F:Nat)(a:Int):Option Int:=
 (cZ F a).bind fun b=>some b
def HD(F:Nat)(a:Bool):Option Bool:=
 some a
def Jc(F:Nat)(a:Int):Option Bool:=
 br (decide ((1:Int)<=a)) (br (decide (a<=16)) ((ba F (IntKind.wrap .u64 a)).bind fun b=>HD F (b==1)) (HD F false)) (HD F false)
def kj(F:Nat):Option Int:=
 some (-1:Int)
def Mf(F:Nat)(b:List Term)(d:Term->Option Bool)(c:(Int)->Option Int)(a:Int):Option Int:=
 br (decide (a<(b.length:Int))) (gd (0<=a/\a<(b.length:Int))<|gd (Q6 (gl b a.toNat).op_)<|(d (gl b a.toNat)).bind fun e=>br e (some a) (gd (Q6 (a+1))<|c (a+1))) (kj F)
def Mg(F:Nat)(a:List Term)(b:Term->Option Bool):Option Int:=
 Z9 (fun g (z:Int)=>Mf F a b g z) F (0:Int)
def Mr(F:Nat)(a:List Term)(b:Term->Option Bool):Option Bool:=
 (Mg F a b).bind fun c=>some (decide ((0:Int)<=c))
def Fn(F:Nat)(rc:Term->Int->Option Bool)(b:Term)(a:Int):Option Bool:=
 gd (Q6 (a-1))<|(rc b (a-1)).bind fun c=>some (!c)
def GM(F:Nat)(rc:Term->Int->Option Bool)(b:Term)(c:Int)(a:Bool):Option Bool:=
 br a (some false) ((Mr F b.kids_ (fun y0=>Fn F rc y0 c)).bind fun d=>some (!d))
def Zz(F:Nat)(rc:Term->Int->Option Bool)(a:Term)(b:Int)(c:Int×Int)(d:Bool):Option Bool:=
 br d (some false) (br (decide ((a.kids_.length:Int)<c.1)) (GM F rc a b true) (GM F rc a b (decide (c.2<(a.kids_.length:Int)))))
def VS(F:Nat)(rc:Term->Int->Option Bool)(a:Term)(b:Int)(c:Int×Int)(d:Bool):Option Bool:=
 br d (some false) (br (a.op_==4) ((Jc F a.num_).bind fun e=>br (!e) (Zz F rc a b c true) (br (a.op_==7) ((Jc F a.more_).bind fun i=>br (!i) (Zz F rc a b c true) (br (a.op_ != (7:Int)) (Zz F rc a b c (a.more_ != (0:Int))) (Zz F rc a b c false))) (br (a.op_ != (7:Int)) (Zz F rc a b c (a.more_ != (0:Int))) (Zz F rc a b c false)))) (br (a.op_==7) ((Jc F a.more_).bind fun j=>br (!j) (Zz F rc a b c true) (br (a.op_ != (7:Int)) (Zz F rc a b c (a.more_ != (0:Int))) (Zz F rc a b c false))) (br (a.op_ != (7:Int)) (Zz F rc a b c (a.more_ != (0:Int))) (Zz F rc a b c false))))
def Jd(F:Nat)(rc:Term->Int->Option Bool)(a:Term)(b:Int)(d:Int×Int×Bool)(c:Int×Int)(e:Bool):Option Bool:=
 br e (some false) (br d.2.2 (br (decide (a.num_<d.1)) (VS F rc a b c true) (br (decide (d.2.1<a.num_)) (VS F rc a b c true) (br (!d.2.2) (VS F rc a b c (a.num_ != (0:Int))) (VS F rc a b c false)))) (br (!d.2.2) (VS F rc a b c (a.num_ != (0:Int))) (VS F rc a b c false)))
def HE(F:Nat)(rc:Term->Int->Option Bool)(a:Term)(b:Int):Option Bool:=
 (HQ F a.op_).bind fun c=>(HS F a.op_).bind fun d=>br (decide (a.op_<1)) (Jd F rc a b c d true) (br (decide ((11:Int)<a.op_)) (Jd F rc a b c d true) (Jd F rc a b c d (b==0)))
def ZA:Nat->Term->Int->Option Bool
 | 0=>fun _ _=>none
 | F+1=>HE F (ZA F)
def PN(F:Nat)(a:Term):Option Int:=
 (Jf F a (40:Int)).bind fun b=>br (decide ((40:Int)<b)) (some (1:Int)) ((ZA F a (8:Int)).bind fun c=>br (!c) (some (16:Int)) (some (0:Int)))
def Uy(F:Nat)(a:Int)(b:(Int)->Option Bool)(c:Bool):Option Bool:=
 br c (some false) (gd (Q6 (a+1))<|b (a+1))
def MM(F:Nat)(a:Bool):Option Bool:=
 some a
def Lk(F:Nat)(a:List Bracket):Option Bool:=
 br (decide (1<=(a.length:Int))) (MM F (decide ((a.length:Int)<=6))) (MM F false)
def Kt(F:Nat)(b:List Bracket)(c:(Int)->Option Bool)(a:Int):Option Bool:=
 br (decide (a<(b.length:Int))) (gd (0<=a/\a<(b.length:Int))<|br (decide (((gl b a.toNat).up_)<1)) (Uy F a c true) (br (decide ((268435456:Int)<((gl b a.toNat).up_))) (Uy F a c true) (br (decide (((gl b a.toNat).rate_)<0)) (Uy F a c true) (br (decide ((1048576:Int)<((gl b a.toNat).rate_))) (Uy F a c true) (br (decide ((0:Int)<a)) (gd (Q6 (a-1))<|gd (0<=(a-1)/\(a-1)<(b.length:Int))<|Uy F a c (decide (((gl b a.toNat).up_)<=((gl b (a-1).toNat).up_)))) (Uy F a c false)))))) (Lk F b)
def MN(F:Nat)(a:List Bracket):Option Bool:=
 Z9 (fun g (z:Int)=>Kt F a g z) F (0:Int)
def Ku(F:Nat)(a:Bool):Option Int:=
 br a (some (3:Int)) (some (0:Int))
def Kv(F:Nat)(a:Scheme)(c:Bool):Option Int:=
 br c (some (2:Int)) ((Pv F a.n_).bind fun d=>br (!d) (some (5:Int)) ((PN F a.cond_).bind fun b=>br (b != (0:Int)) (some b) ((MN F a.brackets_).bind fun e=>br (!e) (Ku F true) (br (decide (a.excludes_<0)) (Ku F true) (br (decide ((65536:Int)<=a.excludes_)) (Ku F true) (gd (0<=a.N_)<|Ku F ((QE .i64 (a.excludes_.fdiv (2 ^ (min (a.N_).toNat (IntKind.bits .i64)))) (1:Int))==1)))))))
def GV(F:Nat)(a:Scheme):Option Int:=
 br (decide (a.N_<0)) (Kv F a true) (br (decide ((15:Int)<a.N_)) (Kv F a true) (br (decide (a.least_<0)) (Kv F a true) (Kv F a (decide ((268435456:Int)<a.least_)))))
def Bc(F:Nat)(a b:Scheme):Option Bool:=
 some (Zm a.n_ b.n_)
def kq(F:Nat):Option Int:=
 some (-1:Int)
def kr(F:Nat)(b:List Scheme)(d:Scheme->Option Bool)(c:(Int)->Option Int)(a:Int):Option Int:=
 br (decide (a<(b.length:Int))) (gd (0<=a/\a<(b.length:Int))<|(d (gl b a.toNat)).bind fun e=>br e (some a) (gd (Q6 (a+1))<|c (a+1))) (kq F)
def PR(F:Nat)(a:List Scheme)(b:Scheme->Option Bool):Option Int:=
 Z9 (fun g (z:Int)=>kr F a b g z) F (0:Int)
def Kk(F:Nat)(a:List Scheme)(b:Scheme->Option Bool):Option Bool:=
 (PR F a b).bind fun c=>some (decide ((0:Int)<=c))
def gw(F:Nat)(a:Scheme)(b:Int):Option Bool:=
 some (a.N_==b)
def MO(F:Nat)(a:List Scheme)(b:Int):Option Int:=
 (PR F a (fun y0=>gw F y0 b)).bind fun c=>some c
def MI(F:Nat)(a:Int)(b:(Int)->Option Bool):Option Bool:=
 gd (Q6 (a+1))<|b (a+1)
def MJ(F:Nat)(b:Int)(a:(Int)->Option Bool)(c:Bool):Option Bool:=
 br c (some false) (MI F b a)
def gu(F:Nat):Option Bool:=
 some true
def Ks(F:Nat)(d:List Scheme)(e:Scheme)(c:(Int)->Option Bool)(a:Int):Option Bool:=
 br (decide (a<16)) (gd (0<=a)<|br ((QE .i64 (e.excludes_.fdiv (2 ^ (min (a).toNat (IntKind.bits .i64)))) (1:Int))==0) (MI F a c) ((MO F d a).bind fun b=>br (decide (b<0)) (MJ F a c true) (gd (0<=b/\b<(d.length:Int))<|gd (0<=e.N_)<|MJ F a c ((QE .i64 (((gl d b.toNat).excludes_).fdiv (2 ^ (min (e.N_).toNat (IntKind.bits .i64)))) (1:Int))==0)))) (gu F)
def MK(F:Nat)(a:List Scheme)(b:Scheme):Option Bool:=
 Z9 (fun g (z:Int)=>Ks F a b g z) F (0:Int)
def GW(F:Nat)(a:Int)(b:(Int)->Option (Int×Int))(c:Bool):Option (Int×Int):=
 br c (some (a,(6:Int))) (gd (Q6 (a+1))<|b (a+1))
def gx(F:Nat):Option (Int×Int):=
 some ((-1:Int),(0:Int))
def Kw(F:Nat)(b:List Scheme)(c:(Int)->Option (Int×Int))(a:Int):Option (Int×Int):=
 br (decide (a<(b.length:Int))) (gd (0<=a/\a<(b.length:Int))<|(MK F b (gl b a.toNat)).bind fun d=>br (!d) (some (a,(17:Int))) (gd (Q6 (a+1))<|c (a+1))) (gx F)
def Lm(F:Nat)(a:List Scheme):Option (Int×Int):=
 Z9 (fun g (z:Int)=>Kw F a g z) F (0:Int)
def Kx(F:Nat)(b:List Scheme)(c:(Int)->Option (Int×Int))(a:Int):Option (Int×Int):=
 br (decide (a<(b.length:Int))) (gd (0<=a/\a<(b.length:Int))<|(GV F (gl b a.toNat)).bind fun d=>br (d != (0:Int)) (some (a,d)) (br (decide ((0:Int)<a)) (gd (Q6 (a-1))<|gd (0<=(a-1)/\(a-1)<(b.length:Int))<|br (decide (((gl b a.toNat).N_)<=((gl b (a-1).toNat).N_))) (GW F a c true) (gd (0<=a/\a<=(b.length:Int))<|(Kk F (b.take a.toNat) (fun y0=>Bc F y0 (gl b a.toNat))).bind fun e=>GW F a c e)) (gd (0<=a/\a<=(b.length:Int))<|(Kk F (b.take a.toNat) (fun y0=>Bc F y0 (gl b a.toNat))).bind fun i=>GW F a c i))) (Lm F b)
def MQ(F:Nat)(a:List Scheme):Option (Int×Int):=
 br (decide (16<(a.length:Int))) (some ((0:Int),(1:Int))) (Z9 (fun g (z:Int)=>Kx F a g z) F (0:Int))
def Cg(F:Nat)(a:List Line)(b:List Re_)(c:List Scheme):Option Int:=
 br ((a.length:Int) != (b.length:Int)) (some (3:Int)) (br (decide (20<(a.length:Int))) (some (1:Int)) ((MQ F c).bind fun d=>some d.2))
def Gk(F:Nat)(a:Int)(b:(Int)->Option Int)(c:Bool):Option Int:=
 br c (some (6:Int)) (gd (Q6 (a+1))<|b (a+1))
def Gl(F:Nat)(b:List Crop)(a:Int)(c:(Int)->Option Int)(d:Bool):Option Int:=
 br d (some (14:Int)) (br (decide ((0:Int)<a)) (gd (Q6 (a-1))<|gd (0<=(a-1)/\(a-1)<(b.length:Int))<|Gk F a c (VE ((gl b a.toNat).n_) ((gl b (a-1).toNat).n_)||Zm ((gl b a.toNat).n_) ((gl b (a-1).toNat).n_))) (Gk F a c false))
def Gm(F:Nat)(b:List Crop)(a:Int)(c:(Int)->Option Int)(d:Bool):Option Int:=
 br d (some (2:Int)) (br (decide (((gl b a.toNat).m_)<0)) (Gl F b a c true) (Gl F b a c (decide ((31:Int)<((gl b a.toNat).m_)))))
def Q1l(F:Nat):Option Int:=
 some (0:Int)
def XV(F:Nat)(b:List Crop)(c:(Int)->Option Int)(a:Int):Option Int:=
 br (decide (a<(b.length:Int))) (gd (0<=a/\a<(b.length:Int))<|(Pv F ((gl b a.toNat).n_)).bind fun d=>br (!d) (some (5:Int)) (br (decide (((gl b a.toNat).f_)<0)) (Gm F b a c true) (Gm F b a c (decide ((40:Int)<((gl b a.toNat).f_)))))) (Q1l F)
def XW(F:Nat)(a:List Crop):Option Int:=
 br (decide (40<(a.length:Int))) (some (1:Int)) (Z9 (fun g (z:Int)=>XV F a g z) F (0:Int))
def kw(F:Nat):Option Int:=
 some (-1:Int)
def kx(F:Nat)(b:List Rg_)(d:Rg_->Option Bool)(c:(Int)->Option Int)(a:Int):Option Int:=
 br (decide (a<(b.length:Int))) (gd (0<=a/\a<(b.length:Int))<|(d (gl b a.toNat)).bind fun e=>br e (some a) (gd (Q6 (a+1))<|c (a+1))) (kw F)
def Mj(F:Nat)(a:List Rg_)(b:Rg_->Option Bool):Option Int:=
 Z9 (fun g (z:Int)=>kx F a b g z) F (0:Int)
def Mv(F:Nat)(a:List Rg_)(b:Rg_->Option Bool):Option Bool:=
 (Mj F a b).bind fun c=>some (decide ((0:Int)<=c))
def Tl(F:Nat)(a:Bool):Option Int:=
 br a (some (7:Int)) (some (0:Int))
def Dr(F:Nat)(a:Rg_)(b:Bool):Option Int:=
 br b (some (13:Int)) (br ((a.g_.t_.length:Int)==0) (Tl F true) ((Yx F a.g_).bind fun c=>Tl F (!c)))
def Ds(F:Nat)(a:Rg_)(b:Bool):Option Int:=
 br b (some (18:Int)) (br (decide (a.c_<0)) (Dr F a true) (Dr F a (decide ((40:Int)<=a.c_))))
def Tm(F:Nat)(a:Rg_):Option Int:=
 br (decide (a.year_<0)) (Ds F a true) (Ds F a (decide ((100:Int)<a.year_)))
def Q1B(F:Nat):Option Int:=
 some (0:Int)
def Gn(F:Nat)(b:List Int)(c:(Int)->Option Int)(a:Int):Option Int:=
 br (decide (a<(b.length:Int))) (gd (0<=a/\a<(b.length:Int))<|br ((gl b a.toNat) != (0:Int)) (some (gl b a.toNat)) (gd (Q6 (a+1))<|c (a+1))) (Q1B F)
def Pa(F:Nat)(a:List Int):Option Int:=
 Z9 (fun g (z:Int)=>Gn F a g z) F (0:Int)
def Tn(F:Nat)(a b:Rg_):Option Int:=
 (WC F a.year_ b.year_).bind fun c=>(WC F a.c_ b.c_).bind fun d=>(Pa F ([c,d]:List Int)).bind fun e=>some e
def bW(F:Nat)(a:(List (Int×(List Rg_)))):Option ((List (Int×(List Rg_)))):=
 some a
def XJ(F:Nat)(b:List Rg_)(d:(Int×(List (Int×(List Rg_))))->Option ((List (Int×(List Rg_)))))(a:Int)(c:(List (Int×(List Rg_)))):Option ((List (Int×(List Rg_)))):=
 br (decide (a<(b.length:Int))) (gd (0<=a/\a<(b.length:Int))<|gd ((gRow ((gl b a.toNat).year_) c).length+List.length ([(gl b a.toNat)]:List Rg_)<=Y5)<|gd (Q6 (a+1))<|d ((a+1),(gApp ((gl b a.toNat).year_) ([(gl b a.toNat)]:List Rg_) c))) (bW F c)
def zO(F:Nat)(a:List Rg_):Option ((List (Int×(List Rg_)))):=
 Z9 (fun g (z:Int×(List (Int×(List Rg_))))=>XJ F a g z.1 z.2) F ((0:Int),([]:List (Int×(List Rg_))))
def Jo(F:Nat)(a:Bool):Option Bool:=
 some a
def Ri(F:Nat)(a b:Rect):Option Bool:=
 br (decide (a.L_<b.R_)) (br (decide (b.L_<a.R_)) (br (decide (a.w_<b.H_)) (Jo F (decide (b.w_<a.H_))) (Jo F false)) (Jo F false)) (Jo F false)
def LU(F:Nat)(a b:Rect):Option Bool:=
 (Ri F b a).bind fun c=>some c
def LW(F:Nat)(a:Rect)(b:Re_):Option Bool:=
 (Kl F b.t_ (fun y0=>LU F y0 a)).bind fun c=>some c
def Rx(F:Nat)(a:Bool):Option Bool:=
 some a
def Bq(F:Nat)(a b:Re_):Option Bool:=
 (Yx F a).bind fun c=>br c ((Yx F b).bind fun d=>br d ((Kl F a.t_ (fun y0=>LW F y0 b)).bind fun e=>Rx F e) (Rx F false)) (Rx F false)
def zR(F:Nat)(a b:Rg_):Option Bool:=
 (Bq F a.g_ b.g_).bind fun c=>some c
def Dv(F:Nat)(a:Int)(b:(Int)->Option Int)(c:Bool):Option Int:=
 br c (some (3:Int)) (gd (Q6 (a+1))<|b (a+1))
def bY(F:Nat):Option Int:=
 some (0:Int)
def zQ(F:Nat)(b:(Int×(List Rg_)))(e:(List (Int×(List Rg_))))(c:((List (Int×(List Rg_))))->Option Int)(d:(Int)->Option Int)(a:Int):Option Int:=
 br (decide (a<(b.2.length:Int))) (gd (0<=a/\a<(b.2.length:Int))<|gd (0<=a/\a<=(b.2.length:Int))<|(Mv F (b.2.take a.toNat) (fun y0=>zR F y0 (gl b.2 a.toNat))).bind fun i=>br i (some (11:Int)) (gd (Q6 (a+1))<|d (a+1))) (c e)
def Tq(F:Nat)(a:((List (Int×(List Rg_))))->Option Int)(b:(List (Int×(List Rg_)))):Option Int:=
 KT b (bY F) (fun c d=>
 Z9 (fun g (z:Int)=>zQ F c d a g z) F (0:Int))
def Tp(F:Nat)(a:List Rg_):Option Int:=
 (zO F a).bind fun b=>Z9 (fun g (z:(List (Int×(List Rg_))))=>Tq F g z) F b
def bZ(F:Nat)(b:List Rg_)(c:(Int)->Option Int)(a:Int):Option Int:=
 br (decide (a<(b.length:Int))) (gd (0<=a/\a<(b.length:Int))<|(Tm F (gl b a.toNat)).bind fun d=>br (d != (0:Int)) (some d) (br (decide ((0:Int)<a)) (gd (Q6 (a-1))<|gd (0<=(a-1)/\(a-1)<(b.length:Int))<|(Tn F (gl b (a-1).toNat) (gl b a.toNat)).bind fun e=>Dv F a c (decide ((0:Int)<=e))) (Dv F a c false))) (Tp F b)
def Tr(F:Nat)(a:List Rg_):Option Int:=
 br (decide (200<(a.length:Int))) (some (1:Int)) (Z9 (fun g (z:Int)=>bZ F a g z) F (0:Int))
def DC(F:Nat)(a:Bool):Option Int:=
 br a (some (7:Int)) (some (0:Int))
def JO(F:Nat)(a:A2_)(b:Bool):Option Int:=
 br b (some (9:Int)) (br ((a.g_.t_.length:Int)==0) (DC F true) ((Yx F a.g_).bind fun c=>DC F (!c)))
def JP(F:Nat)(a:A2_)(b:Bool):Option Int:=
 br b (some (14:Int)) (br (decide (a.F_<0)) (JO F a true) (br (decide (a.u_<=a.F_)) (JO F a true) (JO F a (decide ((36865:Int)<a.u_)))))
def TE(F:Nat)(a:A2_)(b:Bool):Option Int:=
 br b (some (2:Int)) (br (decide (a.k_<0)) (JP F a true) (JP F a (decide ((15:Int)<a.k_))))
def TF(F:Nat)(a:A2_):Option Int:=
 br (decide (a.N_<1)) (TE F a true) (TE F a (decide ((1073741824:Int)<a.N_)))
def DI(F:Nat)(a:Int)(b:(Int)->Option Int)(c:Bool):Option Int:=
 br c (some (3:Int)) (gd (Q6 (a+1))<|b (a+1))
def Q0H(F:Nat):Option Int:=
 some (0:Int)
def Q0I(F:Nat)(b:List A2_)(c:(Int)->Option Int)(a:Int):Option Int:=
 br (decide (a<(b.length:Int))) (gd (0<=a/\a<(b.length:Int))<|(TF F (gl b a.toNat)).bind fun d=>br (d != (0:Int)) (some d) (br (decide ((0:Int)<a)) (gd (Q6 (a-1))<|gd (0<=(a-1)/\(a-1)<(b.length:Int))<|DI F a c (decide (((gl b a.toNat).N_)<=((gl b (a-1).toNat).N_)))) (DI F a c false))) (Q0H F)
def TM(F:Nat)(a:List A2_):Option Int:=
 br (decide (60<(a.length:Int))) (some (1:Int)) (Z9 (fun g (z:Int)=>Q0I F a g z) F (0:Int))
def DD(F:Nat)(a:Bool):Option Int:=
 br a (some (9:Int)) (some (0:Int))
def TG(F:Nat)(c:List A2_)(a:Int):Option Int:=
 (TM F c).bind fun b=>br (b != (0:Int)) (some b) (br (decide (a<0)) (DD F true) (DD F (decide ((36864:Int)<a))))
def PW(F:Nat)(a:List Rect):Option (List Rect):=
 Cu a.length (some ([])) (gd ((0)+a.length<=Y5)<|some (([]:List Rect)++a))
def TH(F:Nat)(a:A2_):Option A2_:=
 (PW F a.g_.t_).bind fun b=>some (⟨a.N_,a.k_,a.F_,a.u_,(⟨b⟩:Re_)⟩:A2_)
def yq(F:Nat)(a:List A2_):Option (List A2_):=
 some a
def Q0C(F:Nat)(c:List A2_)(e:(Int×(List A2_))->Option (List A2_))(a:Int)(b:List A2_):Option (List A2_):=
 br (decide (a<(c.length:Int))) (gd (0<=a/\a<(c.length:Int))<|(TH F (gl c a.toNat)).bind fun d=>gd (b.length+(List.length ([d]:List A2_))<=Y5)<|gd (Q6 (a+1))<|e ((a+1),(b++([d]:List A2_)))) (yq F b)
def TJ(F:Nat)(a:List A2_):Option (List A2_):=
 Z9 (fun g (z:Int×(List A2_))=>Q0C F a g z.1 z.2) F ((0:Int),([]:List A2_))
def TC(F:Nat)(a:Bool):Option Bool:=
 some a
def DB(F:Nat)(a:A2_)(b:Int):Option Bool:=
 br (decide (a.F_<=b)) (TC F (decide (b<a.u_))) (TC F false)
def yu(F:Nat)(a:A2_)(b:Int):Option Bool:=
 (DB F a b).bind fun c=>some (!c)
def kB(F:Nat):Option Int:=
 some (-1:Int)
def kC(F:Nat)(b:List A2_)(d:A2_->Option Bool)(c:(Int)->Option Int)(a:Int):Option Int:=
 br (decide (a<(b.length:Int))) (gd (0<=a/\a<(b.length:Int))<|(d (gl b a.toNat)).bind fun e=>br e (some a) (gd (Q6 (a+1))<|c (a+1))) (kB F)
def Ml(F:Nat)(a:List A2_)(b:A2_->Option Bool):Option Int:=
 Z9 (fun g (z:Int)=>kC F a b g z) F (0:Int)
def PT(F:Nat)(a:Int)(b:(Int×Int×(List A2_))->Option (List A2_))(c:Int)(d:List A2_):Option (List A2_):=
 gd (Q6 (a+1))<|b (c,(a+1),d)
def FT(F:Nat)(a:Int)(b:List A2_):Option (List A2_):=
 gd (0<=a/\a<=((b.length:Nat):Int)/\((0:Nat):Int)+((b.length:Nat):Int)<=(b.length:Int))<|gd (0<=a/\a<=((List.length (clr b (0+(a).toNat) (b.length-(a).toNat)):Nat):Int))<|some ((clr b (0+(a).toNat) (b.length-(a).toNat)).take (a).toNat)
def kI(F:Nat)(e:A2_->Option Bool)(d:(Int×Int×(List A2_))->Option (List A2_))(b c:Int)(a:List A2_):Option (List A2_):=
 br (decide (c<(a.length:Int))) (gd (0<=c/\c<(a.length:Int))<|(e (gl a c.toNat)).bind fun i=>br (!i) (gd (0<=b/\b<(a.length:Int))<|gd (Q6 (b+1))<|PT F c d (b+1) (List.set a b.toNat (gl a c.toNat))) (PT F c d b a)) (FT F b a)
def Mp(F:Nat)(b:List A2_)(c:A2_->Option Bool):Option (List A2_):=
 (Ml F b c).bind fun a=>br (a==(-1:Int)) (some b) (gd (Q6 (a+1))<|Z9 (fun g (z:Int×Int×(List A2_))=>kI F c g z.1 z.2.1 z.2.2) F (a,(a+1),b))
def DH(F:Nat)(a:List A2_)(b:Int):Option ((List A2_)×Int):=
 (TG F a b).bind fun c=>br (c != (0:Int)) (some ([],c)) ((TJ F a).bind fun d=>(Mp F d (fun y0=>yu F y0 b)).bind fun e=>some (e,(0:Int)))
def HM(F:Nat)(a:Bool):Option Bool:=
 some a
def PH(F:Nat)(a:Int)(b:Place):Option Bool:=
 br (decide (a<0)) (HM F true) (HM F (decide ((b.world_.crops_.length:Int)<=a)))
def HK(F:Nat)(a:Rg_)(b:Place):Option Bool:=
 (PH F a.c_ b).bind fun c=>some c
def ky(F:Nat):Option Int:=
 some (-1:Int)
def Kj(F:Nat)(b:List Rg_)(d:Place)(c:(Int)->Option Int)(a:Int):Option Int:=
 br (decide (a<(b.length:Int))) (gd (0<=a/\a<(b.length:Int))<|(HK F (gl b a.toNat) d).bind fun e=>br e (some a) (gd (Q6 (a+1))<|c (a+1))) (ky F)
def Mi(F:Nat)(a:List Rg_)(b:Place):Option Int:=
 Z9 (fun g (z:Int)=>Kj F a b g z) F (0:Int)
def Mu(F:Nat)(a:List Rg_)(b:Place):Option Bool:=
 (Mi F a b).bind fun c=>some (decide ((0:Int)<=c))
def PF(F:Nat)(a:Place)(c:Bool):Option Int:=
 br c (some (18:Int)) ((DH F a.world_.zones_ a.world_.day_).bind fun b=>br (b.2 != (0:Int)) (some b.2) ((Yx F a.line_.g_).bind fun d=>br (!d) (some (7:Int)) (some (0:Int))))
def PG(F:Nat)(a:Place)(c:Bool):Option Int:=
 br c (some (13:Int)) ((Tr F a.world_.history_).bind fun b=>br (b != (0:Int)) (some b) (br (decide (a.world_.year_<0)) (PF F a true) (PF F a (decide ((100:Int)<a.world_.year_)))))
def HN(F:Nat)(a:Place)(d:Term):Option Int:=
 (PN F d).bind fun b=>br (b != (0:Int)) (some b) ((XW F a.world_.crops_).bind fun c=>br (c != (0:Int)) (some c) ((PH F a.line_.c_ a).bind fun e=>br e (PG F a true) ((Mu F a.world_.history_ a).bind fun i=>PG F a i)))
def PB(F:Nat)(a:Squares):Option Squares:=
 some (⟨a.no_,a.yes_,a.open_⟩:Squares)
def HY(F:Nat)(a:Bool):Option Bool:=
 some a
def Kc(F:Nat)(a b:Bool):Option Bool:=
 br a (HY F b) (HY F false)
def HT(F:Nat)(a:Bool):Option Bool:=
 some a
def PM(F:Nat)(a b:Bool):Option Bool:=
 br a (HT F true) (HT F b)
def HB(F:Nat)(a:Bool):Option Bool:=
 some a
def GL(F:Nat)(a b:Bool):Option Bool:=
 br a (HB F (!b)) (HB F false)
def GO(F:Nat)(c:Place)(a b:List Rect):Option Squares:=
 (Zn F c.t_ a (fun y0 y1=>GL F y0 y1)).bind fun d=>(Zn F d b (fun y0 y1=>GL F y0 y1)).bind fun e=>some (⟨a,b,e⟩:Squares)
def Fv(F:Nat)(c:Place)(a b:List Rect):Option Squares:=
 (GO F c a b).bind fun d=>some d
def GP(F:Nat)(i:Place)(b:List Squares)(e:((List Rect)×(List Rect)×Int)->Option Squares)(c d:List Rect)(a:Int):Option Squares:=
 br (decide (a<(b.length:Int))) (gd (0<=a/\a<(b.length:Int))<|(Zn F c ((gl b a.toNat).yes_) (fun y0 y1=>Kc F y0 y1)).bind fun j=>(Zn F d ((gl b a.toNat).no_) (fun y0 y1=>PM F y0 y1)).bind fun k=>gd (Q6 (a+1))<|e (j,k,(a+1))) (Fv F i c d)
def GQ(F:Nat)(a:Place)(b:List Squares):Option Squares:=
 Z9 (fun g (z:(List Rect)×(List Rect)×Int)=>GP F a b g z.1 z.2.1 z.2.2) F (a.t_,([]:List Rect),(0:Int))
def Ka(F:Nat)(a:Place)(b:Bool):Option Squares:=
 br b (some (⟨a.t_,[],[]⟩:Squares)) (some (⟨[],a.t_,[]⟩:Squares))
def DU(F:Nat)(a:Bool):Option Bool:=
 some a
def XU(F:Nat)(b:List Crop)(a c:Int):Option Bool:=
 br (decide ((0:Int)<=a)) (br (decide (a<(b.length:Int))) (br (c != (0:Int)) (gd (0<=a/\a<(b.length:Int))<|DU F ((QE .i64 ((gl b a.toNat).m_) c)==c)) (DU F false)) (DU F false)) (DU F false)
def xo(F:Nat)(a:Int)(b:Term):Option Bool:=
 some (a==b.num_)
def DE(F:Nat)(a:Int)(b:(Int×(List Rect))->Option (List Rect))(c:List Rect):Option (List Rect):=
 gd (Q6 (a+1))<|b ((a+1),c)
def DF(F:Nat)(d:List A2_)(a:Int)(b:List Rect)(c:(Int×(List Rect))->Option (List Rect))(e:Bool):Option (List Rect):=
 br e (gd (b.length+(List.length ((gl d a.toNat).g_.t_))<=Y5)<|DE F a c (b++((gl d a.toNat).g_.t_))) (DE F a c b)
def yt(F:Nat)(a:List Rect):Option (List Rect):=
 some a
def TL(F:Nat)(b:List A2_)(e:Int)(i:Int->Option Bool)(d:(Int×(List Rect))->Option (List Rect))(a:Int)(c:List Rect):Option (List Rect):=
 br (decide (a<(b.length:Int))) (gd (0<=a/\a<(b.length:Int))<|(DB F (gl b a.toNat) e).bind fun j=>br j ((i ((gl b a.toNat).k_)).bind fun k=>DF F b a c d k) (DF F b a c d false)) (yt F c)
def DG(F:Nat)(a:List A2_)(b:Int)(c:Int->Option Bool):Option (List Rect):=
 Z9 (fun g (z:Int×(List Rect))=>TL F a b c g z.1 z.2) F ((0:Int),([]:List Rect))
def PE(F:Nat)(b:Place)(a:List Rect):Option Squares:=
 (Zn F b.t_ a (fun y0 y1=>GL F y0 y1)).bind fun c=>some (⟨a,c,[]⟩:Squares)
def HH(F:Nat)(a:Int)(b:Place)(c:Int):Option Bool:=
 gd (0<=a/\a<(b.world_.crops_.length:Int))<|some (((gl b.world_.crops_ a.toNat).f_)==c)
def Dt(F:Nat)(a:Int)(b:(Int×(List Rect))->Option (List Rect))(c:List Rect):Option (List Rect):=
 gd (Q6 (a+1))<|b ((a+1),c)
def Du(F:Nat)(d:List Rg_)(a:Int)(b:List Rect)(c:(Int×(List Rect))->Option (List Rect))(e:Bool):Option (List Rect):=
 br e (gd (b.length+(List.length ((gl d a.toNat).g_.t_))<=Y5)<|Dt F a c (b++((gl d a.toNat).g_.t_))) (Dt F a c b)
def zP(F:Nat)(a:List Rect):Option (List Rect):=
 some a
def bX(F:Nat)(b:List Rg_)(e:Int)(i:Int->Option Bool)(d:(Int×(List Rect))->Option (List Rect))(a:Int)(c:List Rect):Option (List Rect):=
 br (decide (a<(b.length:Int))) (gd (0<=a/\a<(b.length:Int))<|br (((gl b a.toNat).year_)==e) ((i ((gl b a.toNat).c_)).bind fun j=>Du F b a c d j) (Du F b a c d false)) (zP F c)
def To(F:Nat)(a:List Rg_)(b:Int)(c:Int->Option Bool):Option (List Rect):=
 Z9 (fun g (z:Int×(List Rect))=>bX F a b c g z.1 z.2) F ((0:Int),([]:List Rect))
def Je(F:Nat)(a:Place)(b:Int)(c:Int->Option Bool):Option (List Rect):=
 gd (Q6 (a.world_.year_-b))<|(To F a.world_.history_ (a.world_.year_-b) c).bind fun d=>(Zn F a.t_ d (fun y0 y1=>Kc F y0 y1)).bind fun e=>some e
def HG(F:Nat)(a:Int)(b:Place)(c:Int):Option Bool:=
 gd (0<=a/\a<(b.world_.crops_.length:Int))<|some (((gl b.world_.crops_ a.toNat).f_) != c)
def Fq(F:Nat)(c:Place)(a b:List Rect):Option Squares:=
 (GO F c a b).bind fun d=>some d
def GN(F:Nat)(a:Place)(i:Int)(e:((List Rect)×(List Rect)×Int)->Option Squares)(c d:List Rect)(b:Int):Option Squares:=
 br (decide (b<i)) ((Je F a b (fun y0=>HH F y0 a ((gl a.world_.crops_ a.line_.c_.toNat).f_))).bind fun j=>(Je F a b (fun y0=>HG F y0 a ((gl a.world_.crops_ a.line_.c_.toNat).f_))).bind fun k=>(Zn F c j (fun y0 y1=>Kc F y0 y1)).bind fun l=>(Zn F d k (fun y0 y1=>PM F y0 y1)).bind fun m=>gd (Q6 (b+1))<|e (l,m,(b+1))) (Fq F a c d)
def HI(F:Nat)(a:Place)(b:Int):Option Squares:=
 gd (0<=a.line_.c_/\a.line_.c_<(a.world_.crops_.length:Int))<|Z9 (fun g (z:(List Rect)×(List Rect)×Int)=>GN F a b g z.1 z.2.1 z.2.2) F (a.t_,([]:List Rect),(1:Int))
def PJ(F:Nat)(a:Int)(b:Place)(c:Term):Option Bool:=
 (XU F b.world_.crops_ a c.more_).bind fun d=>some d
def PI(F:Nat)(a:Int)(b:Place)(c:Term):Option Bool:=
 (XU F b.world_.crops_ a c.more_).bind fun d=>some (!d)
def Ts(F:Nat)(a:Int):Option Bool:=
 some true
def HO(F:Nat)(a:Place)(b:Term):Option Squares:=
 br (b.op_==2) ((Ka F a (a.line_.c_==b.num_)).bind fun c=>some c) (br (b.op_==3) (gd (0<=a.line_.c_/\a.line_.c_<(a.world_.crops_.length:Int))<|(Ka F a (((gl a.world_.crops_ a.line_.c_.toNat).f_)==b.num_)).bind fun d=>some d) (br (b.op_==4) ((XU F a.world_.crops_ a.line_.c_ b.num_).bind fun e=>(Ka F a e).bind fun i=>some i) (br (b.op_==5) ((DG F a.world_.zones_ a.world_.day_ (fun y0=>xo F y0 b)).bind fun j=>(Zn F a.t_ j (fun y0 y1=>Kc F y0 y1)).bind fun k=>(PE F a k).bind fun l=>some l) (br (b.op_==6) ((HI F a b.num_).bind fun m=>some m) (br (b.op_==7) ((Je F a b.num_ (fun y0=>PJ F y0 a b)).bind fun n=>(Je F a b.num_ (fun y0=>PI F y0 a b)).bind fun o=>(GO F a n o).bind fun p=>some p) (br (b.op_==8) ((Je F a b.num_ (fun y0=>Ts F y0)).bind fun q=>(PE F a q).bind fun s=>some s) ((Ka F a true).bind fun t=>some t)))))))
def PD(F:Nat)(rc:Place->Term->Option Squares)(a:Int)(b:List Squares)(i:(Int×(List Squares))->Option Squares)(c d e:List Rect):Option Squares:=
 gd (b.length+(List.length ([(⟨c,d,e⟩:Squares)]:List Squares))<=Y5)<|gd (Q6 (a+1))<|i ((a+1),(b++([(⟨c,d,e⟩:Squares)]:List Squares)))
def Ft(F:Nat)(rc:Place->Term->Option Squares)(c:Place)(b:Term)(a:List Squares):Option Squares:=
 br (b.op_==9) ((GQ F c a).bind fun d=>some d) (br (b.op_==10) ((GQ F c a).bind fun e=>(PB F e).bind fun i=>some i) (br (b.op_==11) (gd (0<=(0:Int)/\0<(a.length:Int))<|some (gl a (0:Int).toNat)) ((HO F c b).bind fun j=>some j)))
def Kb(F:Nat)(rc:Place->Term->Option Squares)(j:Place)(b:Term)(i:(Int×(List Squares))->Option Squares)(a:Int)(d:List Squares):Option Squares:=
 br (decide (a<(b.kids_.length:Int))) (gd (0<=a/\a<(b.kids_.length:Int))<|gd (Q6 (gl b.kids_ a.toNat).op_)<|(rc j (gl b.kids_ a.toNat)).bind fun c=>br (b.op_ != (9:Int)) ((PB F c).bind fun e=>PD F rc a d i e.yes_ e.no_ e.open_) (PD F rc a d i c.yes_ c.no_ c.open_)) (Ft F rc j b d)
def HJ(F:Nat)(rc:Place->Term->Option Squares)(a:Place)(b:Term):Option Squares:=
 Z9 (fun g (z:Int×(List Squares))=>Kb F rc a b g z.1 z.2) F ((0:Int),([]:List Squares))
def Vy:Nat->Place->Term->Option Squares
 | 0=>fun _ _=>none
 | F+1=>HJ F (Vy F)
def GR(F:Nat)(a:List Rect):Option Re_:=
 (PW F a).bind fun b=>some (⟨b⟩:Re_)
def HZ(F:Nat)(c:Term)(b:Line)(d:Int)(e:List Crop)(i:List Rg_)(j:List A2_)(k:Int):Option (Truth×Int):=
 (HN F (⟨(⟨d,e,i,j,k⟩:TermWorld),b,b.g_.t_⟩:Place) c).bind fun l=>br (l != (0:Int)) (some ((⟨(⟨[]⟩:Re_),(⟨[]⟩:Re_),(⟨[]⟩:Re_)⟩:Truth),l)) ((Vy F (⟨(⟨d,e,i,j,k⟩:TermWorld),b,b.g_.t_⟩:Place) c).bind fun a=>br (decide ((120:Int)<(G7 (G7 (a.yes_.length:Int) (a.no_.length:Int)) (a.open_.length:Int)))) (some ((⟨(⟨[]⟩:Re_),(⟨[]⟩:Re_),(⟨[]⟩:Re_)⟩:Truth),(1:Int))) ((GR F a.yes_).bind fun m=>(GR F a.no_).bind fun n=>(GR F a.open_).bind fun o=>some ((⟨m,n,o⟩:Truth),(0:Int))))
def CO(F:Nat)(a:Bool):Option Int:=
 br a (some (2:Int)) (some (0:Int))
def GD(F:Nat)(c:List A2_)(d a:Int)(e:Re_):Option Int:=
 (DH F c d).bind fun b=>br (b.2 != (0:Int)) (some b.2) ((Yx F e).bind fun i=>br (!i) (some (7:Int)) (br (decide (a<0)) (CO F true) (CO F (decide ((268435456:Int)<a)))))
def UY(F:Nat)(a:Bool):Option Int:=
 br a (some (1:Int)) (some (2:Int))
def WZ(F:Nat)(a:Int)(b:Bool):Option Int:=
 br b (some (0:Int)) (br (a==8) (UY F (a==8)) (br (a==9) (UY F (a==9)) (br (a==10) (UY F (a==10)) (UY F (a==11)))))
def Hr(F:Nat)(a:Int):Option Int:=
 br (a==0) (WZ F a (a==0)) (br (a==1) (WZ F a (a==1)) (br (a==2) (WZ F a (a==2)) (br (a==3) (WZ F a (a==3)) (br (a==4) (WZ F a (a==4)) (br (a==5) (WZ F a (a==5)) (br (a==6) (WZ F a (a==6)) (WZ F a (a==7))))))))
def Hs(F:Nat)(a b:Int):Option Bool:=
 (Hr F a).bind fun c=>some (c==b)
def UB(F:Nat)(b:List Rect):Option (Re_×Int):=
 (Xa F b).bind fun c=>(Jq F c).bind fun a=>some (a.1,a.2)
def Po(F:Nat)(b:List A2_)(c d:Int):Option (Re_×Int):=
 (DG F b c (fun y0=>Hs F y0 d)).bind fun e=>(UB F e).bind fun a=>some (a.1,a.2)
def Hu(F:Nat)(a:List A2_)(b:Int):Option (Re_×Int):=
 (GD F a b (0:Int) (⟨[]⟩:Re_)).bind fun c=>br (c != (0:Int)) (some ((⟨[]⟩:Re_),c)) ((Po F a b (0:Int)).bind fun d=>some (d.1,d.2))
def CQ(F:Nat)(a:Bool):Option Bool:=
 some a
def vV(F:Nat)(a b:Bool):Option Bool:=
 br a (CQ F b) (CQ F false)
def Lf(F:Nat)(a:Int):Option Int:=
 some a
def PY(F:Nat)(a b:Rect)(c:Int)(d:Bool):Option Int:=
 br d (gd (Q6 ((Ql a.R_ b.R_)-(G7 a.L_ b.L_)))<|gd (Q6 (c+(G7 (0:Int) ((Ql a.R_ b.R_)-(G7 a.L_ b.L_)))))<|Lf F (c+(G7 (0:Int) ((Ql a.R_ b.R_)-(G7 a.L_ b.L_))))) (Lf F c)
def GS(F:Nat)(a b:Rect)(c:Int):Option Int:=
 br (a.H_==b.w_) (PY F a b c true) (PY F a b c (b.H_==a.w_))
def PZ(F:Nat)(a b:Rect)(c:Bool):Option Int:=
 br c (gd (Q6 ((Ql a.H_ b.H_)-(G7 a.w_ b.w_)))<|gd (Q6 ((0:Int)+(G7 (0:Int) ((Ql a.H_ b.H_)-(G7 a.w_ b.w_)))))<|GS F a b ((0:Int)+(G7 (0:Int) ((Ql a.H_ b.H_)-(G7 a.w_ b.w_))))) (GS F a b (0:Int))
def MC(F:Nat)(a b:Rect):Option Int:=
 br (a.R_==b.L_) (PZ F a b true) (PZ F a b (b.R_==a.L_))
def Li(F:Nat)(a:Bool)(b:List Rect):Option ((List Rect)×Bool):=
 some (b,a)
def MD(F:Nat)(c:Rect)(b:List Rect)(a:Bool):Option ((List Rect)×Bool):=
 br a (gd (b.length+(List.length ([c]:List Rect))<=Y5)<|Li F a (b++([c]:List Rect))) (Li F a b)
def Ba(F:Nat)(c:Rect)(a:List Rect)(b:Int):Option ((List Rect)×Bool):=
 gd (0<=b/\b<(a.length:Int))<|(MC F (gl a b.toNat) c).bind fun d=>MD F c a (decide ((0:Int)<d))
def MA(F:Nat)(a:List Rect):Option (List Rect):=
 Cu a.length (some ([]:List Rect)) (gd ((0)+a.length<=Y5)<|some (([]:List Rect)++a))
def ku(F:Nat)(b a:List Rect):Option ((List Rect)×(List Rect)×Int):=
 some (b,a,(-1:Int))
def kv(F:Nat)(b:List Rect)(i:Int)(e:(Int×(List Rect))->Option ((List Rect)×(List Rect)×Int))(a:Int)(d:List Rect):Option ((List Rect)×(List Rect)×Int):=
 br (decide (a<(b.length:Int))) (gd (0<=a/\a<(b.length:Int))<|(Ba F (gl b a.toNat) d i).bind fun c=>br c.2 (some (b,c.1,a)) (gd (Q6 (a+1))<|e ((a+1),c.1))) (ku F b d)
def Mh(F:Nat)(a b:List Rect)(c:Int):Option ((List Rect)×(List Rect)×Int):=
 Z9 (fun g (z:Int×(List Rect))=>kv F a c g z.1 z.2) F ((0:Int),b)
def PS(F:Nat)(a:Int)(b:(Int×Int×(List Rect)×(List Rect))->Option ((List Rect)×(List Rect)))(c:Int)(d e:List Rect):Option ((List Rect)×(List Rect)):=
 gd (Q6 (a+1))<|b (c,(a+1),d,e)
def FSq(F:Nat)(a:Int)(b c:List Rect):Option ((List Rect)×(List Rect)):=
 gd (0<=a/\a<=((b.length:Nat):Int)/\((0:Nat):Int)+((b.length:Nat):Int)<=(b.length:Int))<|gd (0<=a/\a<=((List.length (clr b (0+(a).toNat) (b.length-(a).toNat)):Nat):Int))<|some (c,((clr b (0+(a).toNat) (b.length-(a).toNat)).take (a).toNat))
def kH(F:Nat)(j:Int)(e:(Int×Int×(List Rect)×(List Rect))->Option ((List Rect)×(List Rect)))(b c:Int)(a i:List Rect):Option ((List Rect)×(List Rect)):=
 br (decide (c<(a.length:Int))) (gd (0<=c/\c<(a.length:Int))<|(Ba F (gl a c.toNat) i j).bind fun d=>br (!d.2) (gd (0<=b/\b<(a.length:Int))<|gd (Q6 (b+1))<|PS F c e (b+1) (List.set a b.toNat (gl a c.toNat)) d.1) (PS F c e b a d.1)) (FSq F b a i)
def Mo(F:Nat)(c d:List Rect)(b:Int):Option ((List Rect)×(List Rect)):=
 (Mh F c d b).bind fun a=>br (a.2.2==(-1:Int)) (some (a.2.1,a.1)) (gd (Q6 (a.2.2+(1:Int)))<|Z9 (fun g (z:Int×Int×(List Rect)×(List Rect))=>kH F b g z.1 z.2.1 z.2.2.1 z.2.2.2) F (a.2.2,(a.2.2+(1:Int)),a.1,a.2.1))
def Lg(F:Nat)(a b:List Rect):Option ((List Rect)×(List Rect)):=
 some (b,a)
def Lh(F:Nat)(c:List Rect)(a:Int)(b:List Rect)(e:((List Rect)×Int×(List Rect))->Option ((List Rect)×(List Rect))):Option ((List Rect)×(List Rect)):=
 br (decide (a<(b.length:Int))) ((Mo F c b a).bind fun d=>gd (Q6 (a+1))<|e (d.2,(a+1),d.1)) (Lg F c b)
def gg(F:Nat)(a:((List Rect)×Int×(List Rect))->Option ((List Rect)×(List Rect)))(b:List Rect)(c:Int)(d:List Rect):Option ((List Rect)×(List Rect)):=
 Lh F b c d a
def ME(F:Nat)(a:List Rect):Option ((List Rect)×(List Rect)):=
 gd (1<=(a.length:Int))<|gd (0<=(1:Int)/\1<=(a.length:Int))<|(MA F (a.drop (1:Int).toNat)).bind fun b=>Z9 (fun g (z:(List Rect)×Int×(List Rect))=>gg F g z.1 z.2.1 z.2.2) F (b,(0:Int),(a.take ((1:Int)).toNat))
def gU(F:Nat)(a:Int):Option Int:=
 some a
def gV(F:Nat)(b:List Rect)(d:(Int×Int)->Option Int)(c a:Int):Option Int:=
 br (decide (a<(b.length:Int))) (gd (0<=a/\a<(b.length:Int))<|gd (Q6 (((gl b a.toNat).R_)-((gl b a.toNat).L_)))<|gd (Q6 (((gl b a.toNat).H_)-((gl b a.toNat).w_)))<|gd (Q6 ((((gl b a.toNat).R_)-((gl b a.toNat).L_))*(((gl b a.toNat).H_)-((gl b a.toNat).w_))))<|gd (Q6 (c+((((gl b a.toNat).R_)-((gl b a.toNat).L_))*(((gl b a.toNat).H_)-((gl b a.toNat).w_)))))<|gd (Q6 (a+1))<|d ((c+((((gl b a.toNat).R_)-((gl b a.toNat).L_))*(((gl b a.toNat).H_)-((gl b a.toNat).w_)))),(a+1))) (gU F c)
def Xb(F:Nat)(a:List Rect):Option Int:=
 Z9 (fun g (z:Int×Int)=>gV F a g z.1 z.2) F ((0:Int),(0:Int))
def CP(F:Nat)(b:List Rect):Option (Re_×Int):=
 (UB F b).bind fun a=>some (a.1,a.2)
def vU(F:Nat)(e:Int)(c:((List Rect)×(List Rect))->Option (Re_×Int))(d b:List Rect):Option (Re_×Int):=
 br (decide (0<(d.length:Int))) ((ME F d).bind fun a=>(Xb F a.1).bind fun i=>br (decide (e<i)) (gd (b.length+a.1.length<=Y5)<|c (a.2,(b++a.1))) (c (a.2,b))) (CP F b)
def Ht(F:Nat)(b:List A2_)(c d:Int)(e:Re_):Option (Re_×Int):=
 (GD F b c d e).bind fun i=>br (i != (0:Int)) (some ((⟨[]⟩:Re_),i)) ((Po F b c (1:Int)).bind fun a=>br (a.2 != (0:Int)) (some ((⟨[]⟩:Re_),a.2)) ((Zn F a.1.t_ e.t_ (fun y0 y1=>vV F y0 y1)).bind fun j=>br (decide (120<(j.length:Int))) (some ((⟨[]⟩:Re_),(1:Int))) (Z9 (fun g (z:(List Rect)×(List Rect))=>vU F d g z.1 z.2) F (j,([]:List Rect)))))
def FY(F:Nat)(a:List Rect):Option (List Rect):=
 some a
def Kp(F:Nat)(b:(List (List Rect)))(d:(Int×(List Rect))->Option (List Rect))(a:Int)(c:List Rect):Option (List Rect):=
 br (decide (a<(b.length:Int))) (gd (0<=a/\a<(b.length:Int))<|gd (c.length+(List.length (gl b a.toNat))<=Y5)<|gd (Q6 (a+1))<|d ((a+1),(c++(gl b a.toNat)))) (FY F c)
def Mx(F:Nat)(b:(List (List Rect)))(a:Int):Option (List Rect):=
 (Uf a).bind fun c=>Z9 (fun g (z:Int×(List Rect))=>Kp F b g z.1 z.2) F ((0:Int),c)
def Kq(F:Nat)(b:(List (List Rect)))(d:(Int×Int)->Option (List Rect))(c a:Int):Option (List Rect):=
 br (decide (a<(b.length:Int))) (gd (0<=a/\a<(b.length:Int))<|gd (Q6 (c+((List.length (gl b a.toNat):Nat):Int)))<|br (decide ((c+((List.length (gl b a.toNat):Nat):Int))<0)) (none) (gd (Q6 (a+1))<|d ((c+((List.length (gl b a.toNat):Nat):Int)),(a+1)))) (Mx F b c)
def My(F:Nat)(a:(List (List Rect))):Option (List Rect):=
 Z9 (fun g (z:Int×Int)=>Kq F a g z.1 z.2) F ((0:Int),(0:Int))
def CR(F:Nat)(a:Bool):Option Bool:=
 some a
def vW(F:Nat)(a b:Bool):Option Bool:=
 br a (CR F (!b)) (CR F false)
def Pp(F:Nat)(a:Re_)(b:List A2_)(c i:Int):Option (Re_×Int):=
 (GD F b c i a).bind fun j=>br (j != (0:Int)) (some ((⟨[]⟩:Re_),j)) ((Hu F b c).bind fun d=>br (d.2 != (0:Int)) (some ((⟨[]⟩:Re_),d.2)) ((Ht F b c i a).bind fun e=>br (e.2 != (0:Int)) (some ((⟨[]⟩:Re_),e.2)) ((My F ([d.1.t_,e.1.t_]:List (List Rect))).bind fun l=>(Zn F a.t_ l (fun y0 y1=>vW F y0 y1)).bind fun m=>(Jq F m).bind fun k=>some (k.1,k.2))))
def Rp(F:Nat)(a:Bool):Option Bool:=
 some a
def Rq(F:Nat)(a b:Bool):Option Bool:=
 br a (Rp F (!b)) (Rp F false)
def Bl(F:Nat)(a:Bool):Option Bool:=
 some a
def Rs(F:Nat)(a b:Re_):Option Bool:=
 (Yx F a).bind fun c=>br c ((Yx F b).bind fun d=>br d ((Zn F a.t_ b.t_ (fun y0 y1=>Rq F y0 y1)).bind fun e=>Bl F ((e.length:Int)==0)) (Bl F false)) (Bl F false)
def Q0T(F:Nat)(a b c:List Rect):Option (Truth×Int):=
 some ((⟨(⟨a⟩:Re_),(⟨b⟩:Re_),(⟨c⟩:Re_)⟩:Truth),(0:Int))
def DM(F:Nat)(a:Arr3ListRect):Option (Truth×Int):=
 (UB F a.e0_).bind fun b=>br (b.2 != (0:Int)) (some ((⟨(⟨[]⟩:Re_),(⟨[]⟩:Re_),(⟨[]⟩:Re_)⟩:Truth),b.2)) (gd (Q6 ((0:Int)+(1:Int)))<|(UB F a.e1_).bind fun c=>br (c.2 != (0:Int)) (some ((⟨(⟨[]⟩:Re_),(⟨[]⟩:Re_),(⟨[]⟩:Re_)⟩:Truth),c.2)) (gd (Q6 ((1:Int)+(1:Int)))<|(UB F a.e2_).bind fun d=>br (d.2 != (0:Int)) (some ((⟨(⟨[]⟩:Re_),(⟨[]⟩:Re_),(⟨[]⟩:Re_)⟩:Truth),d.2)) (gd (Q6 ((2:Int)+(1:Int)))<|Q0T F b.1.t_ c.1.t_ d.1.t_)))
def Ch(F:Nat)(a:Bool):Option Bool:=
 some a
def DO(F:Nat)(a b:Bool):Option Bool:=
 br a (Ch F b) (Ch F false)
def Cd(F:Nat)(a:Bool):Option Bool:=
 some a
def Ce(F:Nat)(a b:Bool):Option Bool:=
 br a (Cd F (!b)) (Cd F false)
def Gh(F:Nat)(b:Line)(i:Re_)(c:Scheme)(a:World):Option (Truth×Int):=
 (Yx F i).bind fun n=>br (!n) (some ((⟨(⟨[]⟩:Re_),(⟨[]⟩:Re_),(⟨[]⟩:Re_)⟩:Truth),(7:Int))) ((HZ F c.cond_ b a.year_ a.crops_ a.history_ a.zones_ a.day_).bind fun d=>br (d.2 != (0:Int)) (some ((⟨(⟨[]⟩:Re_),(⟨[]⟩:Re_),(⟨[]⟩:Re_)⟩:Truth),d.2)) ((GV F c).bind fun o=>br (o != (0:Int)) (some ((⟨(⟨[]⟩:Re_),(⟨[]⟩:Re_),(⟨[]⟩:Re_)⟩:Truth),(17:Int))) ((Pp F i a.zones_ a.day_ a.most_).bind fun e=>br (e.2 != (0:Int)) (some ((⟨(⟨[]⟩:Re_),(⟨[]⟩:Re_),(⟨[]⟩:Re_)⟩:Truth),e.2)) ((Rs F b.g_ i).bind fun p=>br (!p) (some ((⟨(⟨[]⟩:Re_),(⟨[]⟩:Re_),(⟨[]⟩:Re_)⟩:Truth),(12:Int))) (gd (0<=c.N_)<|br ((QE .i64 (b.s_.fdiv (2 ^ (min (c.N_).toNat (IntKind.bits .i64)))) (1:Int))==0) ((DM F (⟨[],b.g_.t_,[]⟩:Arr3ListRect)).bind fun j=>some (j.1,j.2)) ((Zn F d.1.true_.t_ e.1.t_ (fun y0 y1=>DO F y0 y1)).bind fun k=>(Zn F d.1.unknown_.t_ e.1.t_ (fun y0 y1=>DO F y0 y1)).bind fun l=>(My F ([k,l]:List (List Rect))).bind fun q=>(Zn F b.g_.t_ q (fun y0 y1=>Ce F y0 y1)).bind fun s=>(DM F (⟨k,s,l⟩:Arr3ListRect)).bind fun m=>some (m.1,m.2)))))))
def DN(F:Nat)(a:Int)(b:(Int×(List Rect)×(List Rect)×(List Rect))->Option (Arr3ListRect×Int))(c d e:List Rect):Option (Arr3ListRect×Int):=
 gd (Q6 (a+1))<|b ((a+1),c,d,e)
def Q0U(F:Nat)(a b c:List Rect):Option (Arr3ListRect×Int):=
 some ((⟨a,b,c⟩:Arr3ListRect),(0:Int))
def yD(F:Nat)(i:List Line)(l:List Re_)(j:Scheme)(m:World)(k:(Int×(List Rect)×(List Rect)×(List Rect))->Option (Arr3ListRect×Int))(a:Int)(c d e:List Rect):Option (Arr3ListRect×Int):=
 br (decide (a<(i.length:Int))) (gd (0<=a/\a<(i.length:Int))<|gd (0<=a/\a<(l.length:Int))<|(Gh F (gl i a.toNat) (gl l a.toNat) j m).bind fun b=>br (b.2 != (0:Int)) (some ((⟨[],[],[]⟩:Arr3ListRect),b.2)) (gd (0<=j.N_)<|br ((QE .i64 (((gl i a.toNat).s_).fdiv (2 ^ (min (j.N_).toNat (IntKind.bits .i64)))) (1:Int))==0) (DN F a k c d e) (gd (c.length+b.1.true_.t_.length<=Y5)<|gd (Q6 ((0:Int)+(1:Int)))<|gd (d.length+b.1.false_.t_.length<=Y5)<|gd (Q6 ((1:Int)+(1:Int)))<|gd (e.length+b.1.unknown_.t_.length<=Y5)<|gd (Q6 ((2:Int)+(1:Int)))<|DN F a k (c++b.1.true_.t_) (d++b.1.false_.t_) (e++b.1.unknown_.t_)))) (Q0U F c d e)
def Cf(F:Nat)(a:List Line)(b:List Re_)(c:Scheme)(d:World):Option (Arr3ListRect×Int):=
 Z9 (fun g (z:Int×(List Rect)×(List Rect)×(List Rect))=>yD F a b c d g z.1 z.2.1 z.2.2.1 z.2.2.2) F ((0:Int),([]:List Rect),([]:List Rect),([]:List Rect))
def Ci(F:Nat)(a b:Line):Option Bool:=
 (Bq F b.g_ a.g_).bind fun c=>some c
def kz(F:Nat):Option Int:=
 some (-1:Int)
def kA(F:Nat)(b:List Line)(d:Line->Option Bool)(c:(Int)->Option Int)(a:Int):Option Int:=
 br (decide (a<(b.length:Int))) (gd (0<=a/\a<(b.length:Int))<|(d (gl b a.toNat)).bind fun e=>br e (some a) (gd (Q6 (a+1))<|c (a+1))) (kz F)
def Mk(F:Nat)(a:List Line)(b:Line->Option Bool):Option Int:=
 Z9 (fun g (z:Int)=>kA F a b g z) F (0:Int)
def PU(F:Nat)(a:List Line)(b:Line->Option Bool):Option Bool:=
 (Mk F a b).bind fun c=>some (decide ((0:Int)<=c))
def Q0X(F:Nat):Option Int:=
 some (0:Int)
def yE(F:Nat)(b:List Line)(c:(Int)->Option Int)(a:Int):Option Int:=
 br (decide (a<(b.length:Int))) (gd (0<=a/\a<(b.length:Int))<|gd (0<=a/\a<=(b.length:Int))<|(PU F (b.take a.toNat) (fun y0=>Ci F y0 (gl b a.toNat))).bind fun d=>br d (some (11:Int)) (gd (Q6 (a+1))<|c (a+1))) (Q0X F)
def Cj(F:Nat)(a:List Line):Option Int:=
 Z9 (fun g (z:Int)=>yE F a g z) F (0:Int)
def DP(F:Nat)(a:Int)(b:List Int)(d:(Int×(List Int))->Option ((List Int)×Int))(c:Int):Option ((List Int)×Int):=
 gd (b.length+(List.length ([c]:List Int))<=Y5)<|gd (Q6 (a+1))<|d ((a+1),(b++([c]:List Int)))
def yF(F:Nat)(c:List Line)(b:List Int):Option ((List Int)×Int):=
 (Cj F c).bind fun a=>br (a != (0:Int)) (some ([],a)) (some (b,(0:Int)))
def yG(F:Nat)(i:List Line)(k:List Re_)(b:List Scheme)(l:World)(e:(Int×(List Int))->Option ((List Int)×Int))(a:Int)(c:List Int):Option ((List Int)×Int):=
 br (decide (a<(b.length:Int))) (gd (0<=a/\a<(b.length:Int))<|(Cf F i k (gl b a.toNat) l).bind fun d=>br (d.2 != (0:Int)) (some ([],d.2)) ((Xb F d.1.e0_).bind fun j=>br (decide (j<((gl b a.toNat).least_))) (DP F a c e (0:Int)) (DP F a c e j))) (yF F i c)
def DQ(F:Nat)(a:List Line)(b:List Re_)(c:List Scheme)(e:World):Option ((List Int)×Int):=
 (Cg F a b c).bind fun d=>br (d != (0:Int)) (some ([],d)) (Z9 (fun g (z:Int×(List Int))=>yG F a b c e g z.1 z.2) F ((0:Int),([]:List Int)))
def cd(F:Nat):Option Bool:=
 some true
def qF(F:Nat)(b c:List Int)(d:(Int)->Option Bool)(a:Int):Option Bool:=
 br (decide (a<(b.length:Int))) (gd (0<=a/\a<(b.length:Int))<|gd (0<=a/\a<(c.length:Int))<|br ((gl b a.toNat) != (gl c a.toNat)) (some false) (gd (Q6 (a+1))<|d (a+1))) (cd F)
def Sn(F:Nat)(a b:List Int):Option Bool:=
 br ((a.length:Int) != (b.length:Int)) (some false) (Z9 (fun g (z:Int)=>qF F a b g z) F (0:Int))
def XQ(F:Nat)(a:Bool):Option Bool:=
 some a
def TP(F:Nat)(a b:Int):Option Bool:=
 br (decide ((-1125899906842624:Int)<=a)) (br (decide (a<=1125899906842624)) (br (decide ((1:Int)<=b)) (XQ F (decide (b<=1099511627776))) (XQ F false)) (XQ F false)) (XQ F false)
def yA(F:Nat)(a:Int):Option Int:=
 some a
def TY(F:Nat)(b a:Int):Option Int:=
 (TP F b a).bind fun c=>br (!c) (some (0:Int)) (gd (Q6 (b.tdiv a)/\a≠0)<|gd (a≠0)<|br (decide ((b.tmod a)<0)) (gd (Q6 ((b.tdiv a)-1))<|yA F ((b.tdiv a)-1)) (yA F (b.tdiv a)))
def Lo(F:Nat)(a:Int):Option (Int×Int):=
 (TY F a (100:Int)).bind fun b=>some (b,(0:Int))
def Lp(F:Nat)(b:Scheme)(d:Int)(i:(Int×Int×Int)->Option (Int×Int))(e c a:Int):Option (Int×Int):=
 br (decide (a<(b.brackets_.length:Int))) (gd (0<=a/\a<(b.brackets_.length:Int))<|gd (Q6 ((Ql d ((gl b.brackets_ a.toNat).up_))-c))<|gd (Q6 ((G7 (0:Int) ((Ql d ((gl b.brackets_ a.toNat).up_))-c))*((gl b.brackets_ a.toNat).rate_)))<|gd (Q6 (e+((G7 (0:Int) ((Ql d ((gl b.brackets_ a.toNat).up_))-c))*((gl b.brackets_ a.toNat).rate_))))<|gd (Q6 (a+1))<|i ((e+((G7 (0:Int) ((Ql d ((gl b.brackets_ a.toNat).up_))-c))*((gl b.brackets_ a.toNat).rate_))),(gl b.brackets_ a.toNat).up_,(a+1))) (Lo F e)
def MR(F:Nat)(b:Scheme)(c:Int)(a:Bool):Option (Int×Int):=
 br a (some ((0:Int),(2:Int))) (Z9 (fun g (z:Int×Int×Int)=>Lp F b c g z.1 z.2.1 z.2.2) F ((0:Int),(0:Int),(0:Int)))
def Uz(F:Nat)(b:Scheme)(a:Int):Option (Int×Int):=
 (GV F b).bind fun c=>br (c != (0:Int)) (some ((0:Int),(17:Int))) (br (decide (a<0)) (MR F b a true) (MR F b a (decide ((268435456:Int)<a))))
def LS(F:Nat)(a:Rect):Option Bool:=
 (Be F a).bind fun b=>some (!b)
def Bp(F:Nat)(a:List Rect):Option (Re_×Int):=
 br (decide (120<(a.length:Int))) (some ((⟨[]⟩:Re_),(1:Int))) ((Kl F a (fun y0=>LS F y0)).bind fun c=>br c (some ((⟨[]⟩:Re_),(2:Int))) ((Xa F a).bind fun d=>(Jq F d).bind fun b=>some (b.1,b.2)))
def cM(F:Nat)(a:List Rect):Option (List Rect):=
 some a
def Q9o(F:Nat)(b:List Span)(d:(Int×(List Rect))->Option (List Rect))(a:Int)(c:List Rect):Option (List Rect):=
 br (decide (a<(b.length:Int))) (gd (0<=a/\a<(b.length:Int))<|gd (c.length+(List.length ([(⟨(gl b a.toNat).L_,(0:Int),(gl b a.toNat).R_,(1:Int)⟩:Rect)]:List Rect))<=Y5)<|gd (Q6 (a+1))<|d ((a+1),(c++([(⟨(gl b a.toNat).L_,(0:Int),(gl b a.toNat).R_,(1:Int)⟩:Rect)]:List Rect)))) (cM F c)
def UE(F:Nat)(a:List Span):Option (List Rect):=
 Z9 (fun g (z:Int×(List Rect))=>Q9o F a g z.1 z.2) F ((0:Int),([]:List Rect))
def qW(F:Nat)(a:Bool):Option Bool:=
 some a
def Df(F:Nat)(a b:Bool):Option Bool:=
 br a (qW F (!b)) (qW F false)
def cK(F:Nat)(a:List Edge):Option (List Edge):=
 some a
def Q9n(F:Nat)(c:Int)(b:List Rect)(e:(Int×(List Edge))->Option (List Edge))(a:Int)(d:List Edge):Option (List Edge):=
 br (decide (a<(b.length:Int))) (gd (0<=a/\a<(b.length:Int))<|gd (d.length+(List.length ([(⟨(⟨(gl b a.toNat).R_,c⟩:Point),(⟨(gl b a.toNat).L_,c⟩:Point)⟩:Edge)]:List Edge))<=Y5)<|gd (Q6 (a+1))<|e ((a+1),(d++([(⟨(⟨(gl b a.toNat).R_,c⟩:Point),(⟨(gl b a.toNat).L_,c⟩:Point)⟩:Edge)]:List Edge)))) (cK F d)
def Xr(F:Nat)(b c:List Span)(d:Int)(a:List Edge):Option (List Edge):=
 (UE F b).bind fun e=>(UE F c).bind fun i=>(Zn F e i (fun y0 y1=>Df F y0 y1)).bind fun j=>Z9 (fun g (z:Int×(List Edge))=>Q9n F d j g z.1 z.2) F ((0:Int),a)
def qV(F:Nat)(i j:List Span)(c:Int)(b:List Rect)(e:(Int×(List Edge))->Option (List Edge))(a:Int)(d:List Edge):Option (List Edge):=
 br (decide (a<(b.length:Int))) (gd (0<=a/\a<(b.length:Int))<|gd (d.length+(List.length ([(⟨(⟨(gl b a.toNat).L_,c⟩:Point),(⟨(gl b a.toNat).R_,c⟩:Point)⟩:Edge)]:List Edge))<=Y5)<|gd (Q6 (a+1))<|e ((a+1),(d++([(⟨(⟨(gl b a.toNat).L_,c⟩:Point),(⟨(gl b a.toNat).R_,c⟩:Point)⟩:Edge)]:List Edge)))) (Xr F i j c d)
def Xs(F:Nat)(a b:List Span)(c:Int):Option (List Edge):=
 (UE F b).bind fun d=>(UE F a).bind fun e=>(Zn F d e (fun y0 y1=>Df F y0 y1)).bind fun i=>Z9 (fun g (z:Int×(List Edge))=>qV F a b c i g z.1 z.2) F ((0:Int),([]:List Edge))
def qX(F:Nat)(a:List Edge):Option (List Edge):=
 some a
def cN(F:Nat)(a:Int)(b:(Int×(List Edge))->Option (List Edge))(c:List Edge):Option (List Edge):=
 gd (Q6 (a+1))<|b ((a+1),c)
def Q9q(F:Nat)(d:List Int)(b:Int)(c:List Span)(i j:(Int×(List Edge))->Option (List Edge))(a:Int)(e:List Edge):Option (List Edge):=
 br (decide (a<(c.length:Int))) (gd (0<=a/\a<(c.length:Int))<|gd (Q6 (b+1))<|gd (0<=(b+1)/\(b+1)<(d.length:Int))<|gd (e.length+(List.length ([(⟨(⟨(gl c a.toNat).L_,(gl d (b+1).toNat)⟩:Point),(⟨(gl c a.toNat).L_,(gl d b.toNat)⟩:Point)⟩:Edge),(⟨(⟨(gl c a.toNat).R_,(gl d b.toNat)⟩:Point),(⟨(gl c a.toNat).R_,(gl d (b+1).toNat)⟩:Point)⟩:Edge)]:List Edge))<=Y5)<|gd (Q6 (a+1))<|j ((a+1),(e++([(⟨(⟨(gl c a.toNat).L_,(gl d (b+1).toNat)⟩:Point),(⟨(gl c a.toNat).L_,(gl d b.toNat)⟩:Point)⟩:Edge),(⟨(⟨(gl c a.toNat).R_,(gl d b.toNat)⟩:Point),(⟨(gl c a.toNat).R_,(gl d (b+1).toNat)⟩:Point)⟩:Edge)]:List Edge)))) (cN F b i e)
def Xt(F:Nat)(d:Re_)(b:List Int)(i:(Int×(List Edge))->Option (List Edge))(a:Int)(c:List Edge):Option (List Edge):=
 br (decide (a<(b.length:Int))) (gd (0<=a/\a<(b.length:Int))<|gd (Q6 ((gl b a.toNat)-1))<|(VG F d.t_ ((gl b a.toNat)-1)).bind fun j=>(VG F d.t_ (gl b a.toNat)).bind fun k=>(Xs F j k (gl b a.toNat)).bind fun e=>gd (c.length+e.length<=Y5)<|gd (Q6 (a+1))<|br ((a+1)==(b.length:Int)) (qX F (c++e)) ((VG F d.t_ (gl b a.toNat)).bind fun l=>Z9 (fun g (z:Int×(List Edge))=>Q9q F b a l i g z.1 z.2) F ((0:Int),(c++e)))) (qX F c)
def Dg(F:Nat)(a:Re_):Option (List Edge):=
 (KA F ([a.t_]:List (List Rect))).bind fun b=>Z9 (fun g (z:Int×(List Edge))=>Xt F a b g z.1 z.2) F ((0:Int),([]:List Edge))
def cJ(F:Nat)(a b:Point):Option Int:=
 (WC F a.y_ b.y_).bind fun c=>(WC F a.x_ b.x_).bind fun d=>(Pa F ([c,d]:List Int)).bind fun e=>some e
def kN(F:Nat)(a:List Point):Option (List Point):=
 some a
def Q6k(F:Nat)(b:(List (List Point)))(d:(Int×(List Point))->Option (List Point))(a:Int)(c:List Point):Option (List Point):=
 br (decide (a<(b.length:Int))) (gd (0<=a/\a<(b.length:Int))<|gd (c.length+(List.length (gl b a.toNat))<=Y5)<|gd (Q6 (a+1))<|d ((a+1),(c++(gl b a.toNat)))) (kN F c)
def kO(F:Nat)(b:(List (List Point)))(a:Int):Option (List Point):=
 (Uf a).bind fun c=>Z9 (fun g (z:Int×(List Point))=>Q6k F b g z.1 z.2) F ((0:Int),c)
def Q6l(F:Nat)(b:(List (List Point)))(d:(Int×Int)->Option (List Point))(c a:Int):Option (List Point):=
 br (decide (a<(b.length:Int))) (gd (0<=a/\a<(b.length:Int))<|gd (Q6 (c+((List.length (gl b a.toNat):Nat):Int)))<|br (decide ((c+((List.length (gl b a.toNat):Nat):Int))<0)) (none) (gd (Q6 (a+1))<|d ((c+((List.length (gl b a.toNat):Nat):Int)),(a+1)))) (kO F b c)
def kP(F:Nat)(a:(List (List Point))):Option (List Point):=
 Z9 (fun g (z:Int×Int)=>Q6l F a g z.1 z.2) F ((0:Int),(0:Int))
def qY(F:Nat)(a:Int)(b:(Int×Int)->Option (List Point))(c:Int):Option (List Point):=
 gd (Q6 (a+1))<|b ((a+1),c)
def cO(F:Nat)(b:List Point)(a:Int):Option (List Point):=
 gd (0<=a/\a<=(b.length:Int))<|gd (0<=a/\a<=(b.length:Int))<|(kP F ([(b.drop a.toNat),(b.take a.toNat)]:List (List Point))).bind fun c=>some c
def Q9s(F:Nat)(b:List Point)(d:(Int×Int)->Option (List Point))(a c:Int):Option (List Point):=
 br (decide (a<(b.length:Int))) (gd (0<=a/\a<(b.length:Int))<|gd (0<=c/\c<(b.length:Int))<|(cJ F (gl b a.toNat) (gl b c.toNat)).bind fun e=>br (decide (e<0)) (qY F a d a) (qY F a d c)) (cO F b c)
def cP(F:Nat)(a:List Point):Option (List Point):=
 Z9 (fun g (z:Int×Int)=>Q9s F a g z.1 z.2) F ((0:Int),(0:Int))
def Dh(F:Nat)(a:Re_):Option ((List (List Point))×Int):=if a=⟨[⟨0,0,10,10⟩]⟩ then some ([[⟨0,0⟩,⟨10,0⟩,⟨10,10⟩,⟨0,10⟩]],0) else none
def Bw(F:Nat)(a:Re_):Option Int:=
 (Yx F a).bind fun b=>br (!b) (some (0:Int)) ((Xb F a.t_).bind fun c=>some c)
def Pr(F:Nat)(s:ByteArray):Option ((List (List ByteArray))×Int):=if s=⟨#[97,32,98,10]⟩ then some ([[⟨#[97]⟩,⟨#[98]⟩]],0) else none
def TO(F:Nat)(a:Bool):Option Bool:=
 some a
def DJ(F:Nat)(a:Int):Option Bool:=
 br (decide ((0:Int)<=a)) (TO F (decide (a<=1099511627776))) (TO F false)
def kh(F:Nat):Option Int:=
 some (-1:Int)
def ki(F:Nat)(b:List Int)(d:Int->Option Bool)(c:(Int)->Option Int)(a:Int):Option Int:=
 br (decide (a<(b.length:Int))) (gd (0<=a/\a<(b.length:Int))<|(d (gl b a.toNat)).bind fun e=>br e (some a) (gd (Q6 (a+1))<|c (a+1))) (kh F)
def Me(F:Nat)(a:List Int)(b:Int->Option Bool):Option Int:=
 Z9 (fun g (z:Int)=>ki F a b g z) F (0:Int)
def Mq(F:Nat)(a:List Int)(b:Int->Option Bool):Option Bool:=
 (Me F a b).bind fun c=>some (decide ((0:Int)<=c))
def yz(F:Nat)(a:Int):Option Bool:=
 (DJ F a).bind fun b=>some (!b)
def SB(F:Nat)(a b:Int):Option (Int×Int):=
 gd (0<=(32:Int))<|gd (0<=(32:Int))<|gd (0<=(32:Int))<|gd (0<=(32:Int))<|gd (0<=(32:Int))<|some ((IntKind.wrap .u64 ((IntKind.wrap .u64 ((IntKind.wrap .u64 ((a.fdiv (2 ^ (min ((32:Int)).toNat (IntKind.bits .u64))))*(b.fdiv (2 ^ (min ((32:Int)).toNat (IntKind.bits .u64))))))+((IntKind.wrap .u64 ((IntKind.wrap .u64 ((a.fdiv (2 ^ (min ((32:Int)).toNat (IntKind.bits .u64))))*(QE .u64 b (4294967295:Int))))+((IntKind.wrap .u64 ((QE .u64 a (4294967295:Int))*(QE .u64 b (4294967295:Int)))).fdiv (2 ^ (min ((32:Int)).toNat (IntKind.bits .u64)))))).fdiv (2 ^ (min ((32:Int)).toNat (IntKind.bits .u64))))))+((IntKind.wrap .u64 ((QE .u64 (IntKind.wrap .u64 ((IntKind.wrap .u64 ((a.fdiv (2 ^ (min ((32:Int)).toNat (IntKind.bits .u64))))*(QE .u64 b (4294967295:Int))))+((IntKind.wrap .u64 ((QE .u64 a (4294967295:Int))*(QE .u64 b (4294967295:Int)))).fdiv (2 ^ (min ((32:Int)).toNat (IntKind.bits .u64)))))) (4294967295:Int))+(IntKind.wrap .u64 ((QE .u64 a (4294967295:Int))*(b.fdiv (2 ^ (min ((32:Int)).toNat (IntKind.bits .u64)))))))).fdiv (2 ^ (min ((32:Int)).toNat (IntKind.bits .u64)))))),(IntKind.wrap .u64 (a*b)))
def yw(F:Nat)(b c:Int):Option Wide:=
 (SB F (IntKind.wrap .u64 b) (IntKind.wrap .u64 c)).bind fun a=>some (⟨a.1,a.2⟩:Wide)
def zj(F:Nat)(b c a:Int):Option (Int×Int):=
 br (a==0) (none) (br (decide (a<=b)) (none) (br (b==0) (gd (a≠0)<|gd (a≠0)<|some ((IntKind.wrap .u64 (c.tdiv a)),(c.tmod a))) (none)))
def TQ(F:Nat)(d e c:Int):Option (Int×Int):=
 (yw F d e).bind fun b=>br (decide ((IntKind.wrap .u64 c)<=b.H_)) (some ((1125899906842625:Int),(0:Int))) ((zj F b.H_ b.w_ (IntKind.wrap .u64 c)).bind fun a=>gd (Q6 (Ql a.1 (1125899906842625:Int)))<|gd (Q6 a.2)<|some ((Ql a.1 (1125899906842625:Int)),a.2))
def JQ(F:Nat)(a b:Int)(c:List Int):Option Int:=
 gd (0<=b/\b<(c.length:Int))<|gd (0<=a/\a<(c.length:Int))<|(WC F (gl c b.toNat) (gl c a.toNat)).bind fun d=>(WC F a b).bind fun e=>(Pa F ([d,e]:List Int)).bind fun i=>some i
def yy(F:Nat)(a:List Int):Option ((List Int)×Int):=
 some (a,(0:Int))
def Q0K(F:Nat)(b:Int)(c:List Int)(e:(Int×(List Int))->Option ((List Int)×Int))(a:Int)(d:List Int):Option ((List Int)×Int):=
 br (decide (a<(((b).toNat:Nat):Int))) (gd (0<=a/\a<((List.length (c.take (b).toNat):Nat):Int))<|gd (0<=(gl (c.take (b).toNat) a.toNat)/\(gl (c.take (b).toNat) a.toNat)<(d.length:Int))<|gd (Q6 ((gl d (gl (c.take (b).toNat) a.toNat).toNat)+1))<|gd (0<=(gl (c.take (b).toNat) a.toNat)/\(gl (c.take (b).toNat) a.toNat)<(d.length:Int))<|gd (Q6 (a+1))<|e ((a+1),(List.set d (gl (c.take (b).toNat) a.toNat).toNat ((gl d (gl (c.take (b).toNat) a.toNat).toNat)+1)))) (yy F d)
def TU(F:Nat)(a:Int)(c d e:List Int):Option ((List Int)×Int):=
 (Vz d (fun y0 y1=>JQ F y0 y1 e)).bind fun b=>gd (0<=a/\a<=(b.length:Int))<|Z9 (fun g (z:Int×(List Int))=>Q0K F a b g z.1 z.2) F ((0:Int),c)
def Q0L(F:Nat)(m:Int)(j:List Int)(l:Int)(k:(Int×Int×(List Int)×(List Int)×(List Int))->Option ((List Int)×Int))(d a:Int)(b e i:List Int):Option ((List Int)×Int):=
 br (decide (a<(j.length:Int))) (gd (0<=a/\a<(j.length:Int))<|(TQ F m (gl j a.toNat) l).bind fun c=>gd (0<=a/\a<(b.length:Int))<|gd (0<=a/\a<(i.length:Int))<|gd (0<=a/\a<(e.length:Int))<|gd (0<=a/\a<((List.length (List.set b a.toNat c.1):Nat):Int))<|gd (Q6 (d-(gl (List.set b a.toNat c.1) a.toNat)))<|gd (Q6 (a+1))<|k ((d-(gl (List.set b a.toNat c.1) a.toNat)),(a+1),(List.set b a.toNat c.1),(List.set e a.toNat a),(List.set i a.toNat c.2))) (TU F d b e i)
def TW(F:Nat)(c:Int)(a:List Int)(b:Int):Option ((List Int)×Int):=
 gd (0<=(a.length:Int)/\(a.length:Int)<=((Y5:Nat):Int))<|br (b==0) (some ((List.replicate ((a.length:Int)).toNat (0:Int)),(0:Int))) (gd (0<=(a.length:Int)/\(a.length:Int)<=((Y5:Nat):Int))<|gd (0<=(a.length:Int)/\(a.length:Int)<=((Y5:Nat):Int))<|Z9 (fun g (z:Int×Int×(List Int)×(List Int)×(List Int))=>Q0L F c a b g z.1 z.2.1 z.2.2.1 z.2.2.2.1 z.2.2.2.2) F (c,(0:Int),(List.replicate ((a.length:Int)).toNat (0:Int)),(List.replicate ((a.length:Int)).toNat (0:Int)),(List.replicate ((a.length:Int)).toNat (0:Int))))
def Q0M(F:Nat)(e:Int)(b:List Int)(d:(Int×Int)->Option ((List Int)×Int))(c a:Int):Option ((List Int)×Int):=
 br (decide (a<(b.length:Int))) (gd (0<=a/\a<(b.length:Int))<|gd (Q6 (c+(gl b a.toNat)))<|gd (Q6 (a+1))<|d ((c+(gl b a.toNat)),(a+1))) (TW F e b c)
def TX(F:Nat)(b:Int)(c:List Int)(a:Bool):Option ((List Int)×Int):=
 br a (some ([],(2:Int))) (Z9 (fun g (z:Int×Int)=>Q0M F b c g z.1 z.2) F ((0:Int),(0:Int)))
def DK(F:Nat)(b:Int)(a:List Int):Option ((List Int)×Int):=
 br (decide (64<(a.length:Int))) (some ([],(1:Int))) ((DJ F b).bind fun c=>br (!c) (TX F b a true) ((Mq F a (fun y0=>yz F y0)).bind fun d=>TX F b a d))
def Vb(F:Nat)(a:Bool):Option Bool:=
 some a
def Hy(F:Nat):Option Bool:=
 (Bp F ([(⟨0,0,(10:Int),(10:Int)⟩:Rect)]:List Rect)).bind fun c=>(Dh F c.1).bind fun a=>(Bw F c.1).bind fun i=>(Uz F (⟨0,(ByteArray.mk #[115]),(⟨(1:Int),0,0,[]⟩:Term),([(⟨(1000:Int),(200:Int)⟩:Bracket)]:List Bracket),0,0,false⟩:Scheme) i).bind fun d=>(Pr F (ByteArray.mk #[97,32,98,10])).bind fun e=>(DK F (3:Int) ([(1:Int),(2:Int)]:List Int)).bind fun b=>br (c.2==(0:Int)) (br (a.2==(0:Int)) (br ((a.1.length:Int)==1) (gd (0<=(0:Int)/\0<(a.1.length:Int))<|br (((List.length (gl a.1 (0:Int).toNat):Nat):Int)==(4:Int)) (br (d.2==(0:Int)) (br (d.1==(200:Int)) (br (e.2==(0:Int)) (br ((e.1.length:Int)==1) (br (b.2==(0:Int)) (br ((b.1.length:Int)==2) (gd (0<=(1:Int)/\1<(b.1.length:Int))<|Vb F ((gl b.1 (1:Int).toNat)==2)) (Vb F false)) (Vb F false)) (Vb F false)) (Vb F false)) (Vb F false)) (Vb F false)) (Vb F false)) (Vb F false)) (Vb F false)) (Vb F false)
def Pz(F:Nat)(b:Tape×(List Crop)×(List Version)×(List Re_))(a:Int)(c:List Line)(d e:Re_×Int)(i:(Int×(List Line))->Option Bool)(j:Bool):Option Bool:=
 br j (some false) (gd (c.length+(List.length ([(⟨(gl ((gl b.2.2.1 (0:Int).toNat).lines_) a.toNat).p_,e.1,(gl ((gl b.2.2.1 (0:Int).toNat).lines_) a.toNat).c_,(gl ((gl b.2.2.1 (0:Int).toNat).lines_) a.toNat).s_⟩:Line),(⟨(gl ((gl b.2.2.1 (0:Int).toNat).lines_) a.toNat).p_,d.1,(gl ((gl b.2.2.1 (0:Int).toNat).lines_) a.toNat).c_,(gl ((gl b.2.2.1 (0:Int).toNat).lines_) a.toNat).s_⟩:Line)]:List Line))<=Y5)<|gd (Q6 (a+1))<|i ((a+1),(c++([(⟨(gl ((gl b.2.2.1 (0:Int).toNat).lines_) a.toNat).p_,e.1,(gl ((gl b.2.2.1 (0:Int).toNat).lines_) a.toNat).c_,(gl ((gl b.2.2.1 (0:Int).toNat).lines_) a.toNat).s_⟩:Line),(⟨(gl ((gl b.2.2.1 (0:Int).toNat).lines_) a.toNat).p_,d.1,(gl ((gl b.2.2.1 (0:Int).toNat).lines_) a.toNat).c_,(gl ((gl b.2.2.1 (0:Int).toNat).lines_) a.toNat).s_⟩:Line)]:List Line))))
def Py(F:Nat)(a:Int)(b:(Int)->Option Bool)(c:Bool):Option Bool:=
 br c (some false) (gd (Q6 (a+1))<|b (a+1))
def Fd(F:Nat):Option Bool:=
 (Hy F).bind fun a=>some a
def PA(F:Nat)(b:Tape×(List Scheme))(d e:(List Int)×Int)(c:(Int)->Option Bool)(a:Int):Option Bool:=
 br (decide (a<(b.2.length:Int))) (gd (0<=a/\a<(b.2.length:Int))<|gd (0<=a/\a<(d.1.length:Int))<|(Uz F (gl b.2 a.toNat) (gl d.1 a.toNat)).bind fun i=>gd (0<=a/\a<(e.1.length:Int))<|(Uz F (gl b.2 a.toNat) (gl e.1 a.toNat)).bind fun j=>br (i.2 != (0:Int)) (Py F a c true) (br (j.2 != (0:Int)) (Py F a c true) (Py F a c (i.1 != j.1)))) (Fd F)
def GH(F:Nat)(b:Tape×(List Scheme))(c d:(List Int)×Int)(a:Bool):Option Bool:=
 br a (some false) (Z9 (fun g (z:Int)=>PA F b c d g z) F (0:Int))
def Fe(F:Nat)(d:Tape×(List Crop)×(List Version)×(List Re_))(a:Tape×(List Scheme))(i:Tape×World)(e:List Line):Option Bool:=
 (Dp F ((gl d.2.2.1 (0:Int).toNat).lines_) d.2.2.2).bind fun j=>(DQ F ((gl d.2.2.1 (0:Int).toNat).lines_) j a.2 i.2).bind fun b=>(Dp F e d.2.2.2).bind fun k=>(DQ F e k a.2 i.2).bind fun c=>br (b.2 != (0:Int)) (GH F a b c true) (br (c.2 != (0:Int)) (GH F a b c true) (br ((b.1.length:Int) != (a.2.length:Int)) (GH F a b c true) ((Sn F b.1 c.1).bind fun l=>GH F a b c (!l))))
def Fg(F:Nat)(c:Int)(i:Tape×(List Crop)×(List Version)×(List Re_))(j:Tape×(List Scheme))(k:Tape×World)(a:List Line)(e:(Int×(List Line))->Option Bool)(b:Int)(d:List Line):Option Bool:=
 br (decide (b<(a.length:Int))) (gd (Q6 c)<|gd (Q6 (b+c))<|gd ((a.length:Int)≠0)<|gd (0<=((b+c).tmod (a.length:Int))/\((b+c).tmod (a.length:Int))<(a.length:Int))<|gd (d.length+(List.length ([(gl a ((b+c).tmod (a.length:Int)).toNat)]:List Line))<=Y5)<|gd (Q6 (b+1))<|e ((b+1),(d++([(gl a ((b+c).tmod (a.length:Int)).toNat)]:List Line)))) (Fe F i j k d)
def Ff(F:Nat)(b:Int)(c:Tape×(List Crop)×(List Version)×(List Re_))(d:Tape×(List Scheme))(e:Tape×World)(a:List Line):Option Bool:=
 Z9 (fun g (z:Int×(List Line))=>Fg F b c d e a g z.1 z.2) F ((0:Int),([]:List Line))
def Fh(F:Nat)(j k:Int)(b:Tape×(List Crop)×(List Version)×(List Re_))(l:Tape×(List Scheme))(m:Tape×World)(i:(Int×(List Line))->Option Bool)(a:Int)(c:List Line):Option Bool:=
 br (decide (a<((List.length ((gl b.2.2.1 (0:Int).toNat).lines_):Nat):Int))) (gd (0<=a/\a<((List.length ((gl b.2.2.1 (0:Int).toNat).lines_):Nat):Int))<|(Bv F ((gl ((gl b.2.2.1 (0:Int).toNat).lines_) a.toNat).g_) (⟨([(⟨0,0,((1:Int)+(j.tmod (28:Int))),(20:Int)⟩:Rect)]:List Rect)⟩:Re_)).bind fun d=>(Bk F ((gl ((gl b.2.2.1 (0:Int).toNat).lines_) a.toNat).g_) (⟨([(⟨0,0,((1:Int)+(j.tmod (28:Int))),(20:Int)⟩:Rect)]:List Rect)⟩:Re_)).bind fun e=>br (d.2 != (0:Int)) (Pz F b a c d e i true) (Pz F b a c d e i (e.2 != (0:Int)))) (Ff F k b l m c)
def Hz(F:Nat)(d:List Int)(b e:Int):Option Bool:=
 (Td F d).bind fun i=>(Px F i).bind fun a=>(SX F a.1 (2:Int)).bind fun c=>(SJ F c.1 a.2.1).bind fun j=>gd (0<=(0:Int)/\0<(a.2.2.1.length:Int))<|gd (Q6 b)<|gd ((28:Int)≠0)<|gd (Q6 ((1:Int)+(b.tmod (28:Int))))<|Z9 (fun g (z:Int×(List Line))=>Fh F b e a c j g z.1 z.2) F ((0:Int),([]:List Line))
def Xq(F:Nat)(a b:Edge):Option Int:=
 (WC F a.to_.x_ a.F_.x_).bind fun c=>(WC F a.to_.y_ a.F_.y_).bind fun d=>(WC F b.to_.x_ b.F_.x_).bind fun e=>(WC F b.to_.y_ b.F_.y_).bind fun i=>gd (Q6 (c*i))<|gd (Q6 (d*e))<|gd (Q6 ((c*i)-(d*e)))<|some ((c*i)-(d*e))
end
end Go.Ab
end
section
namespace Go.Ab
abbrev Vv:=Place
end Go.Ab
end
section
end
section
end
section
end
section
end
section
namespace Go.Ab
def Q7:Nat:=1099511627776
theorem Q8{R:Type}{p:Prop}[Decidable p]{x:Option R}{y:Option R}(h:p)(k:x=y):gd p x=y:=by unfold gd;rw [if_pos h];exact k
theorem Q3{α R:Type}{x:Option α}{f:α->Option R}{a:α}{y:Option R}(h:x=some a)(k:f a=y):x.bind f=y:=by rw [h];exact k
theorem Z6{R:Type}{b:Bool}{x y z:Option R}(ht:b=true->x=z)(hf:b=false->y=z):br b x y=z:=by cases b;exact hf rfl;exact ht rfl
theorem Y7{R:Type}{b:Bool}{x y z:Option R}(h:b=true)(k:x=z):br b x y=z:=by subst h;exact k
theorem Z5{R:Type}{b:Bool}{x y z:Option R}(h:b=false)(k:y=z):br b x y=z:=by subst h;exact k
theorem Q1M{R:Type}(b:Bool)(x y:Option R):br b x y=if b=true then x else y:=by cases b <;> rfl
theorem K9{σ R:Type}{body:(σ->Option R)->σ->Option R}{y:Option R}(I:σ->Prop)(μ:σ->Nat)(round:∀ g z,I z->(∀ z',I z' -> μ z' < μ z->g z'=y)->body g z=y):∀ {n:Nat} {z:σ},I z->μ z<n->Z9 body n z=y:=by
 intro n
 induction n with
 | zero=>intro z _ h;omega
 | succ n ih=>
  intro z hz hμ;exact round (Z9 body n) z hz fun z' hz' hlt=>ih hz' (by omega)
section
variable {α:Type} [Emb α]
theorem G8{l:List α}{i:Nat}(h:i<l.length):gl l i=l[i]:=by simp [gl,List.getD_eq_getElem?_getD,h]
theorem J7{l:List α}{i:Nat}(h:i<l.length):gl l i ∈ l:=by rw [G8 h];exact List.getElem_mem h
theorem Yq{l:List α}{i:Nat}(h:i<l.length):l.drop i=gl l i::l.drop (i+1):=by rw [G8 h];exact List.drop_eq_getElem_cons h
theorem Qx{l:List α}{i:Nat}(h:i<l.length):l.take (i+1)=l.take i++[gl l i]:=by rw [G8 h];exact List.take_succ_eq_append_getElem h
end
theorem V9{n:Int}(h1 : -4611686018427387904<=n)(h2:n<=4611686018427387904):Q6 n:=⟨by omega,by omega⟩
theorem cl{α R:Type}[Emb α]{l:List α}{body:(Int->Option R)->Int->Option R}(y:List α->Option R)(step:∀ g (i:Nat),i<l.length->g ((i:Int)+1)=y (l.drop (i+1))->body g (i:Int)=y (gl l i::l.drop (i+1)))(stop:∀ g,body g (l.length:Int)=y []){F:Nat}(hF:l.length<F):Z9 body F 0=y l:=by
 have key:∀ (n:Nat) (i:Nat),i<=l.length->l.length-i<n->Z9 body n (i:Int)=y (l.drop i):=by
  intro n
  induction n with
  | zero=>intro i _ h;omega
  | succ n ih=>
   intro i hi hn;show body (Z9 body n) (i:Int)=_
   by_cases h:i<l.length
   .rw [Yq h]
    refine step _ i h ?_;have:=ih (i+1) h (by omega)
    rw [<-this];congr 1
   .have:i=l.length:=by omega
    subst this;rw [List.drop_length];exact stop _
 have:=key F 0 (Nat.zero_le _) (by omega)
 rw [List.drop_zero] at this;exact this
theorem KP{α σ R:Type}[Emb α]{l:List α}{body:(Int×σ->Option R)->Int×σ->Option R}(I:List α->σ->Prop)(y:List α->σ->Option R)(step:∀ g (i:Nat) (s:σ),i<l.length->I (gl l i::l.drop (i+1)) s->(∀ s',I (l.drop (i+1)) s' -> g ((i:Int)+1,s')=y (l.drop (i+1)) s')->body g ((i:Int),s)=y (gl l i::l.drop (i+1)) s)(stop:∀ g (s:σ),I [] s->body g ((l.length:Int),s)=y [] s){F:Nat}(hF:l.length<F){s0:σ}(h0:I l s0):Z9 body F (0,s0)=y l s0:=by
 have key:∀ (n:Nat) (i:Nat) (s:σ),i<=l.length->l.length-i<n->I (l.drop i) s->Z9 body n ((i:Int),s)=y (l.drop i) s:=by
  intro n
  induction n with
  | zero=>intro i _ _ h;omega
  | succ n ih=>
   intro i s hi hn hI;show body (Z9 body n) ((i:Int),s)=_
   by_cases h:i<l.length
   .rw [Yq h] at hI ⊢
    refine step _ i s h hI fun s' hs'=>?_
    have:=ih (i+1) s' h (by omega) hs'
    rw [<-this];congr 1
   .have:i=l.length:=by omega
    subst this;rw [List.drop_length] at hI ⊢;exact stop _ s hI
 have:=key F 0 s0 (Nat.zero_le _) (by omega) (by rwa [List.drop_zero])
 rw [List.drop_zero] at this;exact this
theorem Yt{R:Type}(K:Bool->Option R)(b x:Bool):br b (K x) (K false)=K (b&&x):=by cases b <;> rfl
theorem Yd{R:Type}(K:Bool->Option R)(b x:Bool):br b (K true) (K x)=K (b||x):=by cases b <;> rfl
theorem vo{α:Type}[Emb α]{l:List α}{i:Nat}(h:i<l.length)(p:α->Bool):(l.drop i).any p=(p (gl l i)||(l.drop (i+1)).any p):=by rw [Yq h];rfl
theorem Vj{a b:Nat}(h:a<b):decide ((a:Int)<((b:Nat):Int))=true:=by simpa using h
theorem Ua(a:Nat):decide ((a:Int)<((a:Nat):Int))=false:=by simp
theorem Q9{R:Type}{p:Prop}[Decidable p]{x:Option R}{y:Option R}(h:p:=by first|omega|exact V9 (by omega) (by omega) | (simp only [Y5,Q7,List.length_append,List.length_cons,List.length_nil,List.length_map,List.length_take,List.length_drop,List.length_set] at *;omega))(k:x=y):gd p x=y:=Q8 h k
end Go.Ab
end
section
namespace Go.Ab
def ZZ(l:List Int):Prop:=l.Pairwise (· < ·)
theorem ZZ.at_lt{l:List Int}(h:ZZ l){i j:Nat}(hij:i<j)(hj:j<l.length):gl l i<gl l j:=by
 rw [G8 (by omega),G8 hj];exact List.pairwise_iff_getElem.1 h i j (by omega) hj hij
theorem zg{l:List Int}{v:Int}(h:v ∈ l):∃ j,j<l.length/\gl l j=v:=by
 obtain ⟨j,hj,e⟩:=List.getElem_of_mem h;exact ⟨j,hj,by rw [G8 hj];exact e⟩
theorem ZZ.gap{c:List Int}(h:ZZ c){i:Nat}(hi:i+1<c.length){t v:Int}(h1:gl c i<=t)(h2:t<gl c (i+1))(hv:v ∈ c):(v<=t↔v<=gl c i):=by
 obtain ⟨j,hj,rfl⟩:=zg hv;rcases Nat.lt_or_ge i j with hij|hij
 .rcases Nat.lt_or_ge (i+1) j with h3|h3
  .have:=h.at_lt h3 hj
   have:=h.at_lt (show i<i+1 by omega) hi
   omega
  .have:j=i+1:=by omega
   subst this;have:=h.at_lt (show i<i+1 by omega) hi
   omega
 .rcases Nat.lt_or_ge j i with h3|h3
  .have:=h.at_lt h3 (by omega)
   omega
  .have:j=i:=by omega
   subst this;omega
def JY(c:List Int)(l:List Rect):Prop:=∀ r ∈ l,r.L_ ∈ c/\r.R_ ∈ c
def US(c:List Int)(l:List Rect):Prop:=∀ r ∈ l,r.w_ ∈ c/\r.H_ ∈ c
theorem bQ{l:List Rect}{x y x' y' : Int}(h:∀ r ∈ l,r.has x y=r.has x' y'):Q4 l x y=Q4 l x' y':=by
 induction l with
 | nil=>rfl
 | cons r l ih=>
  simp only [Q4,List.any_cons] at ih ⊢;rw [h r (by simp),ih fun q hq=>h q (by simp [hq])]
theorem Ti{l:List Rect}{x y:Int}(h:∀ r ∈ l,r.has x y=false):Q4 l x y=false:=by
 induction l with
 | nil=>rfl
 | cons r l ih=>
  simp only [Q4,List.any_cons] at ih ⊢;rw [h r (by simp),ih fun q hq=>h q (by simp [hq])];rfl
theorem Zp(r:Rect)(x y:Int):r.has x y=true↔r.L_<=x/\x<r.R_/\r.w_<=y/\y<r.H_:=by simp [Rect.has,and_assoc]
theorem Q0a{r:Rect}{x y x' y' : Int}(h:(r.L_<=x/\x<r.R_/\r.w_<=y/\y<r.H_)↔(r.L_<=x' /\ x' < r.R_/\r.w_<=y' /\ y' < r.H_)):r.has x y=r.has x' y':=by
 rw [Bool.eq_iff_iff,Zp,Zp];exact h
theorem Dw{r:Rect}{x y:Int}(h:¬ (r.L_<=x/\x<r.R_/\r.w_<=y/\y<r.H_)):r.has x y=false:=by
 rw [<-Bool.not_eq_true,Zp];exact h
theorem JY.gap{c:List Int}{l:List Rect}(hc:ZZ c)(h:JY c l){i:Nat}(hi:i+1<c.length){t:Int}(h1:gl c i<=t)(h2:t<gl c (i+1))(y:Int):Q4 l t y=Q4 l (gl c i) y:=
 bQ fun r hr=>Q0a (by
  have a:=hc.gap hi h1 h2 (h r hr).1;have b:=hc.gap hi h1 h2 (h r hr).2
  omega)
theorem US.gap{c:List Int}{l:List Rect}(hc:ZZ c)(h:US c l){i:Nat}(hi:i+1<c.length){t:Int}(h1:gl c i<=t)(h2:t<gl c (i+1))(x:Int):Q4 l x t=Q4 l x (gl c i):=
 bQ fun r hr=>Q0a (by
  have a:=hc.gap hi h1 h2 (h r hr).1;have b:=hc.gap hi h1 h2 (h r hr).2
  omega)
theorem JY.before{c:List Int}{l:List Rect}(h:JY c l){t:Int}(ht:∀ v ∈ c,t<v)(y:Int):Q4 l t y=false:=
 Ti fun r hr=>Dw (by have:=ht _ (h r hr).1;omega)
theorem JY.after{c:List Int}{l:List Rect}(h:JY c l){t:Int}(ht:∀ v ∈ c,v<=t)(y:Int):Q4 l t y=false:=
 Ti fun r hr=>Dw (by have:=ht _ (h r hr).2;omega)
theorem US.before{c:List Int}{l:List Rect}(h:US c l){t:Int}(ht:∀ v ∈ c,t<v)(x:Int):Q4 l x t=false:=
 Ti fun r hr=>Dw (by have:=ht _ (h r hr).1;omega)
theorem US.after{c:List Int}{l:List Rect}(h:US c l){t:Int}(ht:∀ v ∈ c,v<=t)(x:Int):Q4 l x t=false:=
 Ti fun r hr=>Dw (by have:=ht _ (h r hr).2;omega)
theorem ZZ.first{c:List Int}(h:ZZ c){t:Int}(ht:t<gl c 0):∀ v ∈ c,t<v:=by
 intro v hv;obtain ⟨j,hj,rfl⟩:=zg hv
 rcases Nat.eq_zero_or_pos j with rfl|hp
 .exact ht
 .have:=h.at_lt hp hj;omega
theorem ZZ.last{c:List Int}(h:ZZ c){t:Int}{i:Nat}(hi:i+1=c.length)(ht:gl c i<=t):∀ v ∈ c,v<=t:=by
 intro v hv;obtain ⟨j,hj,rfl⟩:=zg hv
 rcases Nat.lt_or_ge j i with h1|h1
 .have:=h.at_lt h1 (by omega);omega
 .have:j=i:=by omega
  subst this;exact ht
structure Step {α:Type} (d:α) (c:List Int) (f:Int->α):Prop where
 asc:ZZ c
 gap:∀ i,i+1<c.length->∀ t,gl c i<=t->t<gl c (i+1)->f t=f (gl c i)
 before:∀ t,(∀ v ∈ c,t<v)->f t=d
 after:∀ t,(∀ v ∈ c,v<=t)->f t=d
theorem Step.start{α:Type}{d:α}{c:List Int}{f:Int->α}(h:Step d c f)(_:0<c.length):Bst d f [] (gl c 0):=.start fun t ht=>h.before t (h.asc.first ht)
theorem Step.empty{α:Type}{d:α}{c:List Int}{f:Int->α}(h:Step d c f)(hc:c.length=0)(t:Int):f t=d:=h.before t fun v hv=>by
 rw [List.eq_nil_of_length_eq_zero hc] at hv;cases hv
theorem Step.done{α:Type}{d:α}{c:List Int}{f:Int->α}(h:Step d c f){i:Nat}(hi:i+1=c.length){acc:List (Rn α)}(hb:Bst d f acc (gl c i))(t:Int):K8 d acc t=f t:=by
 rcases Int.lt_or_le t (gl c i) with h1|h1
 .exact hb.val t h1
 .rw [hb.out t h1,h.after t (h.asc.last hi h1)]
open Classical in
noncomputable def QS(f:Int->Bool):List Span:=if h:∃ l,SpOk l/\∀ x,J9 l x=f x then h.choose else []
theorem Kg{f:Int->Bool}{l:List Span}(hl:SpOk l)(h:∀ x,J9 l x=f x):QS f=l:=by
 have he:∃ l,SpOk l/\∀ x,J9 l x=f x:=⟨l,hl,h⟩;unfold QS
 rw [dif_pos he];exact he.choose_spec.1.unique hl fun x=>(he.choose_spec.2 x).trans (h x).symm
theorem SpOk.nil:SpOk []:=⟨fun s hs=>(List.not_mem_nil hs).elim,List.Pairwise.nil⟩
theorem Ma{f:Int->Bool}(h:∀ x,f x=false):QS f=[]:=Kg .nil fun x=>(h x).symm
def Hh(S:Int->Int->Bool):Prop:=∀ y,∃ l,SpOk l/\∀ x,J9 l x=S x y
theorem Hh.sp{S:Int->Int->Bool}(h:Hh S)(y:Int):SpOk (QS fun x=>S x y)/\∀ x,J9 (QS fun x=>S x y) x=S x y:=by
 obtain ⟨l,h1,h2⟩:=h y;rw [Kg h1 h2];exact ⟨h1,h2⟩
theorem Hf{S:Int->Int->Bool}(hr:Hh S){c:List Int}(h:Step [] c fun y=>QS fun x=>S x y){acc:List (Rn (List Span))}(hacc:Runs acc)(hval:∀ t,K8 [] acc t=QS fun x=>S x t)(hne:∀ b ∈ acc,b.v≠[]):cn S=flat acc/\Fin S:=by
 have hv:∀ b ∈ acc,b.v=QS fun x=>S x b.lo:=by
  intro b hb;have hat:∀ (l:List (Rn (List Span))),Runs l->b ∈ l->K8 [] l b.lo=b.v:=by
   intro l
   induction l with
   | nil=>intro _ hb;cases hb
   | cons a l ih=>
    intro hl hb;rcases List.mem_cons.1 hb with rfl|hb
    .have:=hl.pos b (by simp)
     rw [K8,if_pos ⟨by omega,this⟩]
    .have h1:=(hl.head b hb).1
     rw [K8,if_neg (by omega)];exact ih hl.tail hb
  rw [<-hval,hat acc hacc hb]
 have hB:Bands acc:=⟨hacc,fun b hb=>by rw [hv b hb];exact (hr.sp _).1,hne⟩;have hS:∀ x y,J9 (K8 [] acc y) x=S x y:=fun x y=>by rw [hval];exact (hr.sp y).2 x
 exact ⟨XY hB hS,acc,hB,hS⟩
structure Grid (xs ys:List Int) (S:Int->Int->Bool):Prop where
 x:∀ y,Step false xs fun x=>S x y
 y:∀ x,Step false ys fun y=>S x y
theorem Step.spansL{xs:List Int}{f:Int->Bool}(h:Step false xs f):∃ l,SpOk l/\(∀ x,J9 l x=f x)/\l.length<=xs.length:=by
 by_cases h0:xs.length=0
 .exact ⟨[],.nil,fun x=>(h.empty h0 x).symm,by simp⟩
 .have key:∀ i,i+1<=xs.length->∃ l:List Span,Bst false f (l.map Span.rn) (gl xs i)/\l.length<=i:=by
   intro i
   induction i with
   | zero=>intro hi;exact ⟨[],h.start (by omega),by simp⟩
   | succ i ih=>
    intro hi;obtain ⟨l,hl,hll⟩:=ih (by omega)
    have hlt:=h.asc.at_lt (show i<i+1 by omega) (by omega)
    cases hf:f (gl xs i) with
    | false=>exact ⟨l,hl.skip (by omega) fun t h1 h2=>(h.gap i (by omega) t h1 h2).trans hf,by omega⟩
    | true=>
     rcases List.eq_nil_or_concat l with rfl|⟨l',s,hls⟩
     .refine ⟨[⟨gl xs i,gl xs (i+1)⟩],?_,by simp⟩
      have:=hl.add hlt (h.gap i (by omega)) (fun a ha=>by simp at ha)
      rw [hf] at this;exact this
     .rw [List.concat_eq_append] at hls
      subst hls
      by_cases hs:s.R_=gl xs i
      .refine ⟨l' ++ [⟨s.L_,gl xs (i+1)⟩],?_,by simp at hll ⊢;omega⟩
       rw [List.map_append] at hl;have:=hl.grow (a:=s.rn) hs hlt fun t h1 h2=>(h.gap i (by omega) t h1 h2).trans hf
       rw [List.map_append];exact this
      .refine ⟨(l' ++ [s])++[⟨gl xs i,gl xs (i+1)⟩],?_,by simp at hll ⊢;omega⟩
       have:=hl.add hlt (h.gap i (by omega)) (fun a ha he=>by
        rw [List.map_append] at ha;simp at ha
        subst ha;exact absurd he hs)
       rw [hf] at this;rw [List.map_append];exact this
  obtain ⟨l,hl,hll⟩:=key (xs.length-1) (by omega);refine ⟨l,.of_runs hl.runs,fun x=>?_,by omega⟩
  rw [Dq];exact h.done (by omega) hl x
theorem Step.spans{xs:List Int}{f:Int->Bool}(h:Step false xs f):∃ l,SpOk l/\∀ x,J9 l x=f x:=by
 obtain ⟨l,h1,h2,_⟩:=h.spansL;exact ⟨l,h1,h2⟩
theorem Step.spn_len{xs:List Int}{f:Int->Bool}(h:Step false xs f):(QS f).length<=xs.length:=by
 obtain ⟨l,h1,h2,h3⟩:=h.spansL;rw [Kg h1 h2];exact h3
theorem Grid.rows{xs ys:List Int}{S:Int->Int->Bool}(h:Grid xs ys S):Hh S:=fun y=>(h.x y).spans
theorem Grid.step{xs ys:List Int}{S:Int->Int->Bool}(h:Grid xs ys S):Step [] ys fun y=>QS fun x=>S x y:=by
 refine ⟨(h.y 0).asc,fun i hi t h1 h2=>?_,fun t ht=>?_,fun t ht=>?_⟩
 .congr 1;funext x;exact (h.y x).gap i hi t h1 h2
 .exact Ma fun x=>(h.y x).before t ht
 .exact Ma fun x=>(h.y x).after t ht
theorem Grid.of{xs ys:List Int}{a b:List Rect}(hx:ZZ xs)(hy:ZZ ys)(ax:JY xs a)(bx:JY xs b)(ay:US ys a)(by' : US ys b){k:Bool->Bool->Bool}(hk:k false false=false):
  Grid xs ys fun x y=>k (Q4 a x y) (Q4 b x y):=by
 refine ⟨fun y=>⟨hx,fun i hi t h1 h2=>?_,fun t ht=>?_,fun t ht=>?_⟩,fun x=>⟨hy,fun i hi t h1 h2=>?_,fun t ht=>?_,fun t ht=>?_⟩⟩
 .simp only [ax.gap hx hi h1 h2,bx.gap hx hi h1 h2]
 .simp only [ax.before ht,bx.before ht,hk]
 .simp only [ax.after ht,bx.after ht,hk]
 .simp only [ay.gap hy hi h1 h2,by'.gap hy hi h1 h2]
 .simp only [ay.before ht,by'.before ht,hk]
 .simp only [ay.after ht,by'.after ht,hk]
end Go.Ab
end
