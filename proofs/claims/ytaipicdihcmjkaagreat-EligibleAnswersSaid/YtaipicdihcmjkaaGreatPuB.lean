/- The code that the statement reaches as plain programs, and what they compute. -/
import Derived.Test.YtaipicdihcmjkaaGreatAbC
import Derived.Test.YtaipicdihcmjkaaGreatPuA
set_option linter.unusedVariables false
set_option linter.unusedSimpArgs false
section
namespace Go.Ab
set_option maxRecDepth 100000
noncomputable section
structure Crop where
 n_:ByteArray
 f_:Int
 m_:Int
 deriving DecidableEq
instance:Emb Crop:=⟨fun x=>[.str x.n_,.int .i64 x.f_,.int .i64 x.m_],3,⟨ByteArray.empty,0,0⟩,fun _=>rfl⟩
instance:Emb Rect:=⟨fun x=>[.int .i64 x.L_,.int .i64 x.w_,.int .i64 x.R_,.int .i64 x.H_],4,⟨0,0,0,0⟩,fun _=>rfl⟩
structure Re_ where
 t_:(List Rect)
 deriving DecidableEq
instance:Emb Re_:=⟨fun x=>[DL x.t_],1,⟨[]⟩,fun _=>rfl⟩
structure Line where
 p_:Int
 g_:Re_
 c_:Int
 s_:Int
 deriving DecidableEq
instance:Emb Line:=⟨fun x=>[.int .i64 x.p_,DL x.g_.t_,.int .i64 x.c_,.int .i64 x.s_],4,⟨0,⟨[]⟩,0,0⟩,fun _=>rfl⟩
structure Term where
 op_:Int
 num_:Int
 more_:Int
 kids_:(List Term)
def Term.d0(x:Term):DVal:=if x.op_=(2 ^ 64) then .any else .int .i64 x.op_
def Term.d1(x:Term):DVal:=if x.op_=(2 ^ 64) then .any else .int .i64 x.num_
def Term.d2(x:Term):DVal:=if x.op_=(2 ^ 64) then .any else .int .i64 x.more_
def Term.d3:Term->DVal
 | ⟨a0,a1,a2,a3⟩=>if a0=(2 ^ 64) then .any else .lst a3.length (fun i=>if h:i<a3.length then [Term.d0 a3[i],Term.d1 a3[i],Term.d2 a3[i],Term.d3 a3[i]] else [.any,.any,.any,.any])
decreasing_by
 have:=List.sizeOf_lt_of_mem (List.getElem_mem h)
 simp only [Term.mk.sizeOf_spec];omega
instance:Emb Term:=⟨fun x=>[x.d0,x.d1,x.d2,x.d3],4,⟨(2 ^ 64),0,0,[]⟩,fun _=>rfl⟩
theorem PN{x:Term}(h:Q9 x.op_):Emb.cells x=[.int .i64 x.op_,.int .i64 x.num_,.int .i64 x.more_,DL x.kids_]:=by
 obtain ⟨a0,a1,a2,a3⟩:=x;show [Term.d0 _,Term.d1 _,Term.d2 _,Term.d3 _]=_
 have h:Q9 a0:=h;have hm:¬ a0=(2 ^ 64):=fun e=>by subst e;revert h;decide
 have hl:∀ l:List Term,(.lst l.length (fun i=>if h:i<l.length then [Term.d0 l[i],Term.d1 l[i],Term.d2 l[i],Term.d3 l[i]] else [.any,.any,.any,.any]):DVal)=DL l:=by
  intro l;unfold DL
  congr 1
  funext i
  unfold LF
  by_cases hi:i<l.length
  .rw [dif_pos hi,List.getD_eq_getElem?_getD,List.getElem?_eq_getElem hi];rfl
  .rw [dif_neg hi,List.getD_eq_getElem?_getD,List.getElem?_eq_none (by omega)];show _=[Term.d0 ⟨(2 ^ 64),0,0,[]⟩,Term.d1 ⟨(2 ^ 64),0,0,[]⟩,Term.d2 ⟨(2 ^ 64),0,0,[]⟩,Term.d3 ⟨(2 ^ 64),0,0,[]⟩];unfold Term.d3;rfl
 have hk:Term.d3 ⟨a0,a1,a2,a3⟩=DL a3:=by
  unfold Term.d3;rw [if_neg hm,hl]
 rw [hk];simp only [Term.d0,Term.d1,Term.d2,if_neg hm]
theorem Term.elm{l:List Term}{i:Nat}(h:Q9 (gl l i).op_):AVal.v (.c (.elm (LF l i)))=.v (.c (.elm [.int .i64 (gl l i).op_,.int .i64 (gl l i).num_,.int .i64 (gl l i).more_,DL (gl l i).kids_])):=by
 have:=PN h
 unfold LF;unfold gl at this ⊢
 rw [this]
structure Bracket where
 up_:Int
 rate_:Int
 deriving DecidableEq
instance:Emb Bracket:=⟨fun x=>[.int .i64 x.up_,.int .i64 x.rate_],2,⟨0,0⟩,fun _=>rfl⟩
structure Scheme where
 N_:Int
 n_:ByteArray
 cond_:Term
 brackets_:(List Bracket)
 least_:Int
 excludes_:Int
 needs_:Bool
instance:Emb Scheme:=⟨fun x=>[.int .i64 x.N_,.str x.n_,.int .i64 x.cond_.op_,.int .i64 x.cond_.num_,.int .i64 x.cond_.more_,DL x.cond_.kids_,DL x.brackets_,.int .i64 x.least_,.int .i64 x.excludes_,.bool x.needs_],10,⟨0,ByteArray.empty,(Emb.d:Term),[],0,0,false⟩,fun _=>rfl⟩
structure Rg_ where
 y_:Int
 c_:Int
 g_:Re_
 deriving DecidableEq
instance:Emb Rg_:=⟨fun x=>[.int .i64 x.y_,.int .i64 x.c_,DL x.g_.t_],3,⟨0,0,⟨[]⟩⟩,fun _=>rfl⟩
structure A2_ where
 N_:Int
 k_:Int
 F_:Int
 u_:Int
 g_:Re_
 deriving DecidableEq
instance:Emb A2_:=⟨fun x=>[.int .i64 x.N_,.int .i64 x.k_,.int .i64 x.F_,.int .i64 x.u_,DL x.g_.t_],5,⟨0,0,0,0,⟨[]⟩⟩,fun _=>rfl⟩
structure World where
 y_:Int
 crops_:(List Crop)
 history_:(List Rg_)
 zones_:(List A2_)
 day_:Int
 most_:Int
 deriving DecidableEq
instance:Emb World:=⟨fun x=>[.int .i64 x.y_,DL x.crops_,DL x.history_,DL x.zones_,.int .i64 x.day_,.int .i64 x.most_],6,⟨0,[],[],[],0,0⟩,fun _=>rfl⟩
structure Truth where
 true_:Re_
 false_:Re_
 unknown_:Re_
 deriving DecidableEq
instance:Emb Truth:=⟨fun x=>[DL x.true_.t_,DL x.false_.t_,DL x.unknown_.t_],3,⟨⟨[]⟩,⟨[]⟩,⟨[]⟩⟩,fun _=>rfl⟩
structure Tape where
 l_:(List Int)
 at_:Int
 deriving DecidableEq
instance:Emb Tape:=⟨fun x=>[DL x.l_,.int .i64 x.at_],2,⟨[],0⟩,fun _=>rfl⟩
structure Arr3ListRect where
 e0_:(List Rect)
 e1_:(List Rect)
 e2_:(List Rect)
 deriving DecidableEq
instance:Emb Arr3ListRect:=⟨fun x=>[DL x.e0_,DL x.e1_,DL x.e2_],3,⟨[],[],[]⟩,fun _=>rfl⟩
structure Ref18Parts where
 due_:(List Rect)
 refused_:(List Rect)
 open_:(List Rect)
 deriving DecidableEq
instance:Emb Ref18Parts:=⟨fun x=>[DL x.due_,DL x.refused_,DL x.open_],3,⟨[],[],[]⟩,fun _=>rfl⟩
structure TermWorld where
 y_:Int
 crops_:(List Crop)
 history_:(List Rg_)
 zones_:(List A2_)
 day_:Int
 deriving DecidableEq
instance:Emb TermWorld:=⟨fun x=>[.int .i64 x.y_,DL x.crops_,DL x.history_,DL x.zones_,.int .i64 x.day_],5,⟨0,[],[],[],0⟩,fun _=>rfl⟩
structure TermPlace where
 world_:TermWorld
 line_:Line
 t_:(List Rect)
 deriving DecidableEq
instance:Emb TermPlace:=⟨fun x=>[.int .i64 x.world_.y_,DL x.world_.crops_,DL x.world_.history_,DL x.world_.zones_,.int .i64 x.world_.day_,.int .i64 x.line_.p_,DL x.line_.g_.t_,.int .i64 x.line_.c_,.int .i64 x.line_.s_,DL x.t_],10,⟨⟨0,[],[],[],0⟩,⟨0,⟨[]⟩,0,0⟩,[]⟩,fun _=>rfl⟩
structure Squares where
 yes_:(List Rect)
 no_:(List Rect)
 open_:(List Rect)
 deriving DecidableEq
instance:Emb Squares:=⟨fun x=>[DL x.yes_,DL x.no_,DL x.open_],3,⟨[],[],[]⟩,fun _=>rfl⟩
instance:Emb Span:=⟨fun x=>[.int .i64 x.L_,.int .i64 x.R_],2,⟨0,0⟩,fun _=>rfl⟩
structure Ref16Truth where
 yes_:(List Rect)
 no_:(List Rect)
 open_:(List Rect)
 deriving DecidableEq
instance:Emb Ref16Truth:=⟨fun x=>[DL x.yes_,DL x.no_,DL x.open_],3,⟨[],[],[]⟩,fun _=>rfl⟩
structure Ref16Place where
 line_:Line
 y_:Int
 crops_:(List Crop)
 history_:(List Rg_)
 zones_:(List A2_)
 day_:Int
 deriving DecidableEq
instance:Emb Ref16Place:=⟨fun x=>[.int .i64 x.line_.p_,DL x.line_.g_.t_,.int .i64 x.line_.c_,.int .i64 x.line_.s_,.int .i64 x.y_,DL x.crops_,DL x.history_,DL x.zones_,.int .i64 x.day_],9,⟨⟨0,⟨[]⟩,0,0⟩,0,[],[],[],0⟩,fun _=>rfl⟩
structure Band where
 w_:Int
 H_:Int
 spans_:(List Span)
 deriving DecidableEq
instance:Emb Band:=⟨fun x=>[.int .i64 x.w_,.int .i64 x.H_,DL x.spans_],3,⟨0,0,[]⟩,fun _=>rfl⟩
def xI(q:Term->Option Bool):List AVal->AVal->Prop:=fun args r=>∃ x0 y,q x0=some y/\args=[.v (.g [ci x0.op_,ci x0.num_,ci x0.more_,.d (DL x0.kids_)])]/\r=vb y
def xK(q:Scheme->Option Bool):List AVal->AVal->Prop:=fun args r=>∃ x0 y,q x0=some y/\args=[gE x0]/\r=vb y
def xL(q:Rect->Option Bool):List AVal->AVal->Prop:=fun args r=>∃ x0 y,q x0=some y/\args=[gE x0]/\r=vb y
def Q3M(q:Span->Span->Option Int):List AVal->AVal->Prop:=fun args r=>∃ x0 x1 y,q x0 x1=some y/\args=[gE x0,gE x1]/\r=vi y
def Q3N(q:Int->Option (List Span)):List AVal->AVal->Prop:=fun args r=>∃ x0 y,q x0=some y/\args=[vi x0]/\r=AL y
def xM(q:Rg_->Option Bool):List AVal->AVal->Prop:=fun args r=>∃ x0 y,q x0=some y/\args=[gE x0]/\r=vb y
def Ld(q:A2_->Option Bool):List AVal->AVal->Prop:=fun args r=>∃ x0 y,q x0=some y/\args=[gE x0]/\r=vb y
def Ms(q:Int->Option Bool):List AVal->AVal->Prop:=fun args r=>∃ x0 y,q x0=some y/\args=[vi x0]/\r=vb y
def xJ(q:Span->Option Bool):List AVal->AVal->Prop:=fun args r=>∃ x0 y,q x0=some y/\args=[gE x0]/\r=vb y
def PV(q:Bool->Bool->Option Bool):List AVal->AVal->Prop:=fun args r=>∃ x0 x1 y,q x0 x1=some y/\args=[vb x0,vb x1]/\r=vb y
def xN(q:Line->Option Bool):List AVal->AVal->Prop:=fun args r=>∃ x0 y,q x0=some y/\args=[gE x0]/\r=vb y
def CB(F:Nat)(x1:List Int):Option Tape:=
 gd (0<=(Qd (x1.length:Int) (400:Int))/\(Qd (x1.length:Int) (400:Int))<=(x1.length:Int))<|some (⟨(x1.take (Qd (x1.length:Int) (400:Int)).toNat),0⟩:Tape)
def yW(F:Nat)(v9:Int):Option Int:=
 some v9
def JY(F:Nat)(x3 x4:Int):Option Int:=
 br (decide (x4<(1:Int))) (some (0:Int)) (gd (x4≠0)<|br (decide ((x3.tmod x4)<0)) (gd (Q9 ((x3.tmod x4)+x4))<|yW F ((x3.tmod x4)+x4)) (yW F (x3.tmod x4)))
def Qr(F:Nat)(a:Tape)(b:Int):Option (Tape×Int):=
 br (decide ((a.l_.length:Int)<=a.at_)) (some (a,(0:Int))) (gd (Q9 (a.at_+1))<|gd (Q9 ((a.at_+1)-1))<|gd (0<=((a.at_+1)-1)/\((a.at_+1)-1)<(a.l_.length:Int))<|(JY F (gl a.l_ ((a.at_+1)-1).toNat) b).bind fun c=>some ((⟨a.l_,(a.at_+1)⟩:Tape),c))
def YW(F:Nat)(d:Tape)(a b:Int):Option (Tape×Int):=
 gd (Q9 (b-a))<|gd (Q9 ((b-a)+1))<|(Qr F d ((b-a)+1)).bind fun c=>gd (Q9 (a+c.2))<|some (c.1,(a+c.2))
def Q1h(F:Nat)(a:List Crop)(b:List Int)(c:Int):Option (Tape×(List Crop)):=
 some ((⟨b,c⟩:Tape),a)
def Pf(F:Nat)(c:Tape×Int)(k:(Int×(List Int)×Int×(List Crop))->Option (Tape×(List Crop)))(a:Int)(i:List Int)(j:Int)(d:List Crop):Option (Tape×(List Crop)):=
 br (decide (a<((List.length (([(ByteArray.mk #[98,97,114,108,101,121]),(ByteArray.mk #[99,108,111,118,101,114]),(ByteArray.mk #[103,114,97,115,115]),(ByteArray.mk #[109,97,105,122,101]),(ByteArray.mk #[111,97,116,115]),(ByteArray.mk #[114,121,101]),(ByteArray.mk #[118,101,116,99,104]),(ByteArray.mk #[119,104,101,97,116])]:List ByteArray).take c.2.toNat):Nat):Int))) (gd (0<=a/\a<((List.length (([(ByteArray.mk #[98,97,114,108,101,121]),(ByteArray.mk #[99,108,111,118,101,114]),(ByteArray.mk #[103,114,97,115,115]),(ByteArray.mk #[109,97,105,122,101]),(ByteArray.mk #[111,97,116,115]),(ByteArray.mk #[114,121,101]),(ByteArray.mk #[118,101,116,99,104]),(ByteArray.mk #[119,104,101,97,116])]:List ByteArray).take c.2.toNat):Nat):Int))<|(Qr F (⟨i,j⟩:Tape) (3:Int)).bind fun e=>(Qr F e.1 (8:Int)).bind fun b=>gd (0<=b.2/\b.2<((List.length ([(0:Int),(0:Int),(0:Int),(2:Int),(20:Int),(8:Int),(1:Int),(31:Int)]:List Int):Nat):Int))<|gd (d.length+(List.length ([(⟨(gl (([(ByteArray.mk #[98,97,114,108,101,121]),(ByteArray.mk #[99,108,111,118,101,114]),(ByteArray.mk #[103,114,97,115,115]),(ByteArray.mk #[109,97,105,122,101]),(ByteArray.mk #[111,97,116,115]),(ByteArray.mk #[114,121,101]),(ByteArray.mk #[118,101,116,99,104]),(ByteArray.mk #[119,104,101,97,116])]:List ByteArray).take c.2.toNat) a.toNat),e.2,(gl ([(0:Int),(0:Int),(0:Int),(2:Int),(20:Int),(8:Int),(1:Int),(31:Int)]:List Int) b.2.toNat)⟩:Crop)]:List Crop))<=Y5)<|gd (Q9 (a+1))<|k ((a+1),b.1.l_,b.1.at_,(d++([(⟨(gl (([(ByteArray.mk #[98,97,114,108,101,121]),(ByteArray.mk #[99,108,111,118,101,114]),(ByteArray.mk #[103,114,97,115,115]),(ByteArray.mk #[109,97,105,122,101]),(ByteArray.mk #[111,97,116,115]),(ByteArray.mk #[114,121,101]),(ByteArray.mk #[118,101,116,99,104]),(ByteArray.mk #[119,104,101,97,116])]:List ByteArray).take c.2.toNat) a.toNat),e.2,(gl ([(0:Int),(0:Int),(0:Int),(2:Int),(20:Int),(8:Int),(1:Int),(31:Int)]:List Int) b.2.toNat)⟩:Crop)]:List Crop)))) (Q1h F d i j)
def Cy(F:Nat)(b:Tape):Option (Tape×(List Crop)):=
 (YW F b (3:Int) (8:Int)).bind fun a=>gd (0<=a.2/\a.2<=((List.length ([(ByteArray.mk #[98,97,114,108,101,121]),(ByteArray.mk #[99,108,111,118,101,114]),(ByteArray.mk #[103,114,97,115,115]),(ByteArray.mk #[109,97,105,122,101]),(ByteArray.mk #[111,97,116,115]),(ByteArray.mk #[114,121,101]),(ByteArray.mk #[118,101,116,99,104]),(ByteArray.mk #[119,104,101,97,116])]:List ByteArray):Nat):Int))<|Z7 (fun g (z:Int×(List Int)×Int×(List Crop))=>Pf F a g z.1 z.2.1 z.2.2.1 z.2.2.2) F ((0:Int),a.1.l_,a.1.at_,([]:List Crop))
def GE(F:Nat)(i:Tape)(c:Int):Option (Tape×Rect):=
 (Qr F i c).bind fun a=>(Qr F a.1 c).bind fun b=>gd (Q9 (a.2+(1:Int)))<|gd (Q9 (c-a.2))<|(Qr F b.1 (c-a.2)).bind fun d=>gd (Q9 ((a.2+(1:Int))+d.2))<|gd (Q9 (b.2+(1:Int)))<|gd (Q9 (c-b.2))<|(Qr F d.1 (c-b.2)).bind fun e=>gd (Q9 ((b.2+(1:Int))+e.2))<|some (e.1,(⟨a.2,b.2,((a.2+(1:Int))+d.2),((b.2+(1:Int))+e.2)⟩:Rect))
def Vs(F:Nat)(a:Bool):Option Bool:=
 some a
def XP(F:Nat)(a:Rect):Option Bool:=
 br (decide ((0:Int)<=a.L_)) (br (decide (a.L_<a.R_)) (br (decide (a.R_<=16384)) (br (decide ((0:Int)<=a.w_)) (br (decide (a.w_<a.H_)) (Vs F (decide (a.H_<=16384))) (Vs F false)) (Vs F false)) (Vs F false)) (Vs F false)) (Vs F false)
def Hc(F:Nat)(b:List Int)(c a:Int)(d:Bool):Option (List Int):=
 br d (some b) (gd (0<=a/\a<=(b.length:Int))<|gd ((0)+(List.length (b.take a.toNat))<=Y5)<|gd (((0)+(List.length (b.take a.toNat)))+(List.length ([c]:List Int))<=Y5)<|gd (0<=a/\a<=(b.length:Int))<|gd ((((0)+(List.length (b.take a.toNat)))+(List.length ([c]:List Int)))+(List.length (b.drop a.toNat))<=Y5)<|some (((([]:List Int)++(b.take a.toNat))++([c]:List Int))++(b.drop a.toNat)))
def TB(F:Nat)(b:List Int)(c a:Int):Option (List Int):=
 br (decide (a<(b.length:Int))) (gd (0<=a/\a<(b.length:Int))<|Hc F b c a ((gl b a.toNat)==c)) (Hc F b c a false)
def Hd(F:Nat)(d:List Int)(e a:Int)(b:(Int)->Option (List Int))(c:Bool):Option (List Int):=
 br c (gd (Q9 (a+1))<|b (a+1)) (TB F d e a)
def Q0i(F:Nat)(b:List Int)(c:Int)(d:(Int)->Option (List Int))(a:Int):Option (List Int):=
 br (decide (a<(b.length:Int))) (gd (0<=a/\a<(b.length:Int))<|Hd F b c a d (decide ((gl b a.toNat)<c))) (Hd F b c a d false)
def Gv(F:Nat)(a:List Int)(b:Int):Option (List Int):=
 Z7 (fun g (z:Int)=>Q0i F a b g z) F (0:Int)
def UO(F:Nat)(a:Int)(b:(Int)->Option Bool)(c:Bool):Option Bool:=
 br c (some true) (gd (Q9 (a+1))<|b (a+1))
def bH(F:Nat):Option Bool:=
 some false
def zP(F:Nat)(b:List Rect)(d e:Int)(c:(Int)->Option Bool)(a:Int):Option Bool:=
 br (decide (a<(b.length:Int))) (gd (0<=a/\a<(b.length:Int))<|br (decide (((gl b a.toNat).L_)<=d)) (br (decide (d<((gl b a.toNat).R_))) (br (decide (((gl b a.toNat).w_)<=e)) (UO F a c (decide (e<((gl b a.toNat).H_)))) (UO F a c false)) (UO F a c false)) (UO F a c false)) (bH F)
def DT(F:Nat)(a:List Rect)(b c:Int):Option Bool:=
 Z7 (fun g (z:Int)=>zP F a b c g z) F (0:Int)
def zO(F:Nat)(a:Bool):Option Bool:=
 some a
def zN(F:Nat)(a:Bool):Option Bool:=
 some a
def zM(F:Nat)(a:Bool):Option Bool:=
 some a
def Tn(F:Nat)(a b:Bool)(c:Int):Option Bool:=
 br (c==1) (br a (zO F true) (zO F b)) (br (c==2) (br a (zN F b) (zN F false)) (br a (zM F (!b)) (zM F false)))
def DS(F:Nat)(a:Int)(b:(Int)->Option Bool)(c:Bool):Option Bool:=
 br c (some false) (gd (Q9 (a+1))<|b (a+1))
def bB(F:Nat):Option Bool:=
 some true
def bD(F:Nat)(b c:List Rect)(d:(Int)->Option Bool)(a:Int):Option Bool:=
 br (decide (a<(b.length:Int))) (gd (0<=a/\a<(b.length:Int))<|gd (0<=a/\a<(c.length:Int))<|br (((gl b a.toNat).L_) != ((gl c a.toNat).L_)) (DS F a d true) (gd (0<=a/\a<(b.length:Int))<|gd (0<=a/\a<(c.length:Int))<|DS F a d (((gl b a.toNat).R_) != ((gl c a.toNat).R_)))) (bB F)
def Tm(F:Nat)(a b:List Rect):Option Bool:=
 br ((a.length:Int) != (b.length:Int)) (some false) (Z7 (fun g (z:Int)=>bD F a b g z) F (0:Int))
def zU(F:Nat)(a:Int)(b:((List Int)×(List Int)×Int)->Option (List Rect))(c d:List Int):Option (List Rect):=
 gd (Q9 (a+1))<|b (c,d,(a+1))
def zY(F:Nat)(c d:List Rect)(b:Int)(j k:((List Int)×(List Int)×Int)->Option (List Rect))(e i:List Int)(a:Int):Option (List Rect):=
 br (decide (a<((List.length (gl ([c,d]:List (List Rect)) b.toNat):Nat):Int))) (gd (0<=a/\a<((List.length (gl ([c,d]:List (List Rect)) b.toNat):Nat):Int))<|(Gv F e ((gl (gl ([c,d]:List (List Rect)) b.toNat) a.toNat).L_)).bind fun l=>(Gv F l ((gl (gl ([c,d]:List (List Rect)) b.toNat) a.toNat).R_)).bind fun m=>(Gv F i ((gl (gl ([c,d]:List (List Rect)) b.toNat) a.toNat).w_)).bind fun n=>(Gv F n ((gl (gl ([c,d]:List (List Rect)) b.toNat) a.toNat).H_)).bind fun o=>gd (Q9 (a+1))<|k (m,o,(a+1))) (zU F b j e i)
def DY(F:Nat)(a:Int)(b:(Int×(List Rect))->Option (List Rect))(c:List Rect):Option (List Rect):=
 gd (Q9 (a+1))<|b ((a+1),c)
def JQ(F:Nat)(d e:List Int)(c a:Int)(b:List Rect)(i:(Int×(List Rect))->Option (List Rect))(j:Bool):Option (List Rect):=
 br j (gd (Q9 ((b.length:Int)-1))<|gd (Q9 (a+1))<|gd (0<=(a+1)/\(a+1)<(d.length:Int))<|gd (0<=((b.length:Int)-1)/\((b.length:Int)-1)<(b.length:Int))<|DY F a i (List.set b ((b.length:Int)-1).toNat (⟨(gl b ((b.length:Int)-1).toNat).L_,(gl b ((b.length:Int)-1).toNat).w_,(gl d (a+1).toNat),(gl b ((b.length:Int)-1).toNat).H_⟩:Rect))) (gd (0<=a/\a<(d.length:Int))<|gd (0<=c/\c<(e.length:Int))<|gd (Q9 (a+1))<|gd (0<=(a+1)/\(a+1)<(d.length:Int))<|gd (Q9 (c+1))<|gd (0<=(c+1)/\(c+1)<(e.length:Int))<|gd (b.length+(List.length ([(⟨(gl d a.toNat),(gl e c.toNat),(gl d (a+1).toNat),(gl e (c+1).toNat)⟩:Rect)]:List Rect))<=Y5)<|DY F a i (b++([(⟨(gl d a.toNat),(gl e c.toNat),(gl d (a+1).toNat),(gl e (c+1).toNat)⟩:Rect)]:List Rect)))
def DZ(F:Nat)(a:Int)(b:(Int×(List Rect)×(List Rect))->Option (List Rect))(c d:List Rect):Option (List Rect):=
 gd (Q9 (a+1))<|b ((a+1),c,d)
def zV(F:Nat)(b:Int)(c:List Rect)(a:(Int×(List Rect)×(List Rect))->Option (List Rect))(d:List Rect):Option (List Rect):=
 DZ F b a c d
def zX(F:Nat)(d:List Int)(c:Int)(j k:List Rect)(i:(Int×(List Rect)×(List Rect))->Option (List Rect))(e:(Int×(List Rect))->Option (List Rect))(a:Int)(b:List Rect):Option (List Rect):=
 br (decide (a<(k.length:Int))) (gd (Q9 (c+1))<|gd (0<=(c+1)/\(c+1)<(d.length:Int))<|gd (0<=a/\a<(b.length:Int))<|gd (Q9 (a+1))<|e ((a+1),(List.set b a.toNat (⟨(gl b a.toNat).L_,(gl b a.toNat).w_,(gl b a.toNat).R_,(gl d (c+1).toNat)⟩:Rect)))) (zV F c j i b)
def Tt(F:Nat)(d:Int)(a b e:List Rect)(c:(Int×(List Rect)×(List Rect))->Option (List Rect)):Option (List Rect):=
 gd (a.length+b.length<=Y5)<|DZ F d c (a++b) e
def Gu(F:Nat)(e:List Int)(c:Int)(d a i:List Rect)(b:(Int×(List Rect)×(List Rect))->Option (List Rect))(j:Bool):Option (List Rect):=
 br j (Z7 (fun g (z:Int×(List Rect))=>zX F e c d a b g z.1 z.2) F ((0:Int),a)) (Tt F c d a i b)
def DX(F:Nat)(c:List Int)(b:Int)(i a:List Rect)(e:(Int×(List Rect)×(List Rect))->Option (List Rect))(d:List Rect):Option (List Rect):=
 br (decide (0<(a.length:Int))) ((Tm F a d).bind fun j=>br j (gd (0<=(0:Int)/\0<(a.length:Int))<|gd (0<=b/\b<(c.length:Int))<|Gu F c b i a d e (((gl a (0:Int).toNat).H_)==(gl c b.toNat))) (Gu F c b i a d e false)) (Gu F c b i a d e false)
def zW(F:Nat)(m n:List Rect)(o:Int)(c e:List Int)(d:Int)(k l:List Rect)(j:(Int×(List Rect)×(List Rect))->Option (List Rect))(i:(Int×(List Rect))->Option (List Rect))(a:Int)(b:List Rect):Option (List Rect):=
 gd (Q9 (a+1))<|br (decide ((a+1)<(c.length:Int))) (gd (0<=a/\a<(c.length:Int))<|gd (0<=d/\d<(e.length:Int))<|(DT F m (gl c a.toNat) (gl e d.toNat)).bind fun p=>gd (0<=a/\a<(c.length:Int))<|gd (0<=d/\d<(e.length:Int))<|(DT F n (gl c a.toNat) (gl e d.toNat)).bind fun q=>(Tn F p q o).bind fun s=>br (!s) (DY F a i b) (br (decide (0<(b.length:Int))) (gd (Q9 ((b.length:Int)-1))<|gd (0<=((b.length:Int)-1)/\((b.length:Int)-1)<(b.length:Int))<|gd (0<=a/\a<(c.length:Int))<|JQ F c e d a b i (((gl b ((b.length:Int)-1).toNat).R_)==(gl c a.toNat))) (JQ F c e d a b i false))) (DX F e d k l j b)
def Ts(F:Nat)(a b:List Rect):Option (List Rect):=
 gd (a.length+b.length<=Y5)<|some (a++b)
def Q0b(F:Nat)(j k:List Rect)(l:Int)(i b:List Int)(e:(Int×(List Rect)×(List Rect))->Option (List Rect))(a:Int)(c d:List Rect):Option (List Rect):=
 gd (Q9 (a+1))<|br (decide ((a+1)<(b.length:Int))) (Z7 (fun g (z:Int×(List Rect))=>zW F j k l i b a c d e g z.1 z.2) F ((0:Int),([]:List Rect))) (Ts F c d)
def Tr(F:Nat)(c d:List Rect)(e:Int)(a b:List Int):Option (List Rect):=
 Z7 (fun g (z:Int×(List Rect)×(List Rect))=>Q0b F c d e a b g z.1 z.2.1 z.2.2) F ((0:Int),([]:List Rect),([]:List Rect))
def Ha(F:Nat)(b c:List Rect)(j:Int)(i:((List Int)×(List Int)×Int)->Option (List Rect))(d e:List Int)(a:Int):Option (List Rect):=
 br (decide (a<((List.length ([b,c]:List (List Rect)):Nat):Int))) (gd (0<=a/\a<((List.length ([b,c]:List (List Rect)):Nat):Int))<|Z7 (fun g (z:(List Int)×(List Int)×Int)=>zY F b c a i g z.1 z.2.1 z.2.2) F (d,e,(0:Int))) (Tr F b c j d e)
def G5(F:Nat)(a b:List Rect)(c:Int):Option (List Rect):=
 Z7 (fun g (z:(List Int)×(List Int)×Int)=>Ha F a b c g z.1 z.2.1 z.2.2) F (([]:List Int),([]:List Int),(0:Int))
def JS(F:Nat)(a:List Rect):Option (Re_×Int):=
 br (decide (120<(a.length:Int))) (some ((⟨[]⟩:Re_),(1:Int))) (some ((⟨a⟩:Re_),(0:Int)))
def zR(F:Nat)(b:List Rect):Option (Re_×Int):=
 (G5 F b ([]) (1:Int)).bind fun c=>(JS F c).bind fun a=>some (a.1,a.2)
def bW(F:Nat)(b:List Rect)(c:(Int)->Option (Re_×Int))(a:Int):Option (Re_×Int):=
 br (decide (a<(b.length:Int))) (gd (0<=a/\a<(b.length:Int))<|(XP F (gl b a.toNat)).bind fun d=>br (!d) (some ((⟨[]⟩:Re_),(2:Int))) (gd (Q9 (a+1))<|c (a+1))) (zR F b)
def Tq(F:Nat)(a:List Rect):Option (Re_×Int):=
 br (decide (120<(a.length:Int))) (some ((⟨[]⟩:Re_),(1:Int))) (Z7 (fun g (z:Int)=>bW F a g z) F (0:Int))
def yJ(F:Nat)(a:List Rect)(b:List Int)(c:Int):Option (Tape×Re_):=
 (Tq F a).bind fun d=>some ((⟨b,c⟩:Tape),d.1)
def Pa(F:Nat)(j:Int)(i:(Int×(List Int)×Int×(List Rect))->Option (Tape×Re_))(b:Int)(d:List Int)(e:Int)(c:List Rect):Option (Tape×Re_):=
 br (decide ((0:Int)<b)) ((GE F (⟨d,e⟩:Tape) j).bind fun a=>gd (c.length+(List.length ([a.2]:List Rect))<=Y5)<|gd (Q9 (b-1))<|i ((b-1),a.1.l_,a.1.at_,(c++([a.2]:List Rect)))) (yJ F c d e)
def GD(F:Nat)(c:Tape)(d b:Int):Option (Tape×Re_):=
 gd (Q9 (b+1))<|(Qr F c (b+1)).bind fun a=>Z7 (fun g (z:Int×(List Int)×Int×(List Rect))=>Pa F d g z.1 z.2.1 z.2.2.1 z.2.2.2) F (a.2,a.1.l_,a.1.at_,([]:List Rect))
def yR(F:Nat)(a:List Rect)(b:List Int)(c:Int):Option (Tape×Re_):=
 some ((⟨b,c⟩:Tape),(⟨a⟩:Re_))
def GF(F:Nat)(d:Tape)(c e:Int):Option (Tape×Re_):=
 (GD F d c e).bind fun a=>br ((a.2.t_.length:Int)==0) ((GE F a.1 c).bind fun b=>yR F ([b.2]:List Rect) b.1.l_ b.1.at_) (yR F a.2.t_ a.1.l_ a.1.at_)
def Q0d(F:Nat)(a:List Rect):Option (Re_×Int):=
 br (decide (120<(a.length:Int))) (some ((⟨([]:List Rect)⟩:Re_),(1:Int))) (some ((⟨a⟩:Re_),(0:Int)))
def bX(F:Nat)(b:List Rect):Option (Re_×Int):=
 (G5 F b ([]) (1:Int)).bind fun c=>(Q0d F c).bind fun a=>some ((⟨a.1.t_⟩:Re_),a.2)
def Q8p(F:Nat)(b:List Rect)(c:(Int)->Option (Re_×Int))(a:Int):Option (Re_×Int):=
 br (decide (a<(b.length:Int))) (gd (0<=a/\a<(b.length:Int))<|(XP F (gl b a.toNat)).bind fun d=>br (!d) (some ((⟨([]:List Rect)⟩:Re_),(2:Int))) (gd (Q9 (a+1))<|c (a+1))) (bX F b)
def bY(F:Nat)(a:List Rect):Option (Re_×Int):=
 br (decide (120<(a.length:Int))) (some ((⟨([]:List Rect)⟩:Re_),(1:Int))) (Z7 (fun g (z:Int)=>Q8p F a g z) F (0:Int))
def Q1a(F:Nat)(a:List Rect)(b:List Int)(c:Int):Option (Tape×Re_):=
 (bY F a).bind fun d=>some ((⟨b,c⟩:Tape),(⟨d.1.t_⟩:Re_))
def Q9D(F:Nat)(j:Int)(i:(Int×(List Int)×Int×(List Rect))->Option (Tape×Re_))(b:Int)(d:List Int)(e:Int)(c:List Rect):Option (Tape×Re_):=
 br (decide ((0:Int)<b)) ((GE F (⟨d,e⟩:Tape) j).bind fun a=>gd (c.length+(List.length ([a.2]:List Rect))<=Y5)<|gd (Q9 (b-1))<|i ((b-1),a.1.l_,a.1.at_,(c++([a.2]:List Rect)))) (Q1a F c d e)
def Q1b(F:Nat)(c:Tape)(d b:Int):Option (Tape×Re_):=
 gd (Q9 (b+1))<|(Qr F c (b+1)).bind fun a=>Z7 (fun g (z:Int×(List Int)×Int×(List Rect))=>Q9D F d g z.1 z.2.1 z.2.2.1 z.2.2.2) F (a.2,a.1.l_,a.1.at_,([]:List Rect))
def yS(F:Nat)(a:List Int)(b:Int)(c:List Rect):Option (Tape×Re_):=
 some ((⟨a,b⟩:Tape),(⟨c⟩:Re_))
def yT(F:Nat)(d:Tape)(c e:Int):Option (Tape×Re_):=
 (Q1b F d c e).bind fun a=>br ((a.2.t_.length:Int)==0) ((GE F a.1 c).bind fun b=>yS F b.1.l_ b.1.at_ ([b.2]:List Rect)) (yS F a.1.l_ a.1.at_ a.2.t_)
def Hs(F:Nat)(a:Int)(b:(Int×(List Int)×Int×(List Line))->Option (Tape×(List Line)×(List Int)×(List Re_)))(c:List Int)(d:Int)(e:List Line):Option (Tape×(List Line)×(List Int)×(List Re_)):=
 gd (Q9 (a-1))<|b ((a-1),c,d,e)
def Ht(F:Nat)(l:List Crop)(k:Int)(b:List Line)(d:Tape×Int)(e:Tape×Re_)(j:(Int×(List Int)×Int×(List Line))->Option (Tape×(List Line)×(List Int)×(List Re_)))(c:List Rect):Option (Tape×(List Line)×(List Int)×(List Re_)):=
 br (decide (0<(c.length:Int))) (gd (Q9 (d.2+(1:Int)))<|(Qr F e.1 (l.length:Int)).bind fun i=>(Qr F i.1 (15:Int)).bind fun a=>gd (Q9 ((1:Int)+a.2))<|gd (b.length+(List.length ([(⟨(d.2+(1:Int)),(⟨c⟩:Re_),i.2,((1:Int)+a.2)⟩:Line)]:List Line))<=Y5)<|Hs F k j a.1.l_ a.1.at_ (b++([(⟨(d.2+(1:Int)),(⟨c⟩:Re_),i.2,((1:Int)+a.2)⟩:Line)]:List Line))) (Hs F k j e.1.l_ e.1.at_ b)
def Q1d(F:Nat)(j:List Crop)(i:Int)(b:List Line)(k:Tape×Int)(l:Tape×Re_)(d:(Int×(List Int)×Int×(List Line))->Option (Tape×(List Line)×(List Int)×(List Re_)))(e:((List Rect)×Int)->Option (Tape×(List Line)×(List Int)×(List Re_)))(c:List Rect)(a:Int):Option (Tape×(List Line)×(List Int)×(List Re_)):=
 br (decide (a<(b.length:Int))) (gd (0<=a/\a<(b.length:Int))<|(G5 F c ((gl b a.toNat).g_.t_) (3:Int)).bind fun m=>gd (Q9 (a+1))<|e (m,(a+1))) (Ht F j i b k l d c)
def Cn(F:Nat)(j:List Crop)(b:List Re_)(d:Int)(e:List Line)(a:Tape×Int)(k:Tape×Re_)(c:(Int×(List Int)×Int×(List Line))->Option (Tape×(List Line)×(List Int)×(List Re_)))(i:List Rect):Option (Tape×(List Line)×(List Int)×(List Re_)):=
 gd (0<=a.2/\a.2<(b.length:Int))<|(G5 F i ((gl b a.2.toNat).t_) (2:Int)).bind fun l=>Z7 (fun g (z:(List Rect)×Int)=>Q1d F j d e a k c g z.1 z.2) F (l,(0:Int))
def Q1e(F:Nat)(m:List Crop)(j:List Re_)(k:Int)(l:List Line)(c:Tape×Int)(d:Tape×Re_)(e:(Int×(List Int)×Int×(List Line))->Option (Tape×(List Line)×(List Int)×(List Re_)))(i:(Int×(List Rect))->Option (Tape×(List Line)×(List Int)×(List Re_)))(a:Int)(b:List Rect):Option (Tape×(List Line)×(List Int)×(List Re_)):=
 br (decide (a<(d.2.t_.length:Int))) (gd (0<=a/\a<(b.length:Int))<|gd (Q9 ((10:Int)*c.2))<|gd (Q9 (((gl b a.toNat).L_)+((10:Int)*c.2)))<|gd (0<=a/\a<(b.length:Int))<|gd (Q9 ((10:Int)*c.2))<|gd (Q9 (((gl b a.toNat).R_)+((10:Int)*c.2)))<|gd (0<=a/\a<(b.length:Int))<|gd (0<=a/\a<((List.length (List.set b a.toNat (⟨(((gl b a.toNat).L_)+((10:Int)*c.2)),(gl b a.toNat).w_,(gl b a.toNat).R_,(gl b a.toNat).H_⟩:Rect)):Nat):Int))<|gd (Q9 (a+1))<|i ((a+1),(List.set (List.set b a.toNat (⟨(((gl b a.toNat).L_)+((10:Int)*c.2)),(gl b a.toNat).w_,(gl b a.toNat).R_,(gl b a.toNat).H_⟩:Rect)) a.toNat (⟨(gl (List.set b a.toNat (⟨(((gl b a.toNat).L_)+((10:Int)*c.2)),(gl b a.toNat).w_,(gl b a.toNat).R_,(gl b a.toNat).H_⟩:Rect)) a.toNat).L_,(gl (List.set b a.toNat (⟨(((gl b a.toNat).L_)+((10:Int)*c.2)),(gl b a.toNat).w_,(gl b a.toNat).R_,(gl b a.toNat).H_⟩:Rect)) a.toNat).w_,(((gl b a.toNat).R_)+((10:Int)*c.2)),(gl (List.set b a.toNat (⟨(((gl b a.toNat).L_)+((10:Int)*c.2)),(gl b a.toNat).w_,(gl b a.toNat).R_,(gl b a.toNat).H_⟩:Rect)) a.toNat).H_⟩:Rect)))) (Cn F m j k l c d e b)
def Q1c(F:Nat)(a:List Int)(b:List Re_)(c:List Line)(d:List Int)(e:Int):Option (Tape×(List Line)×(List Int)×(List Re_)):=
 some ((⟨d,e⟩:Tape),c,a,b)
def Pb(F:Nat)(m:List Crop)(a:List Int)(b:List Re_)(l:(Int×(List Int)×Int×(List Line))->Option (Tape×(List Line)×(List Int)×(List Re_)))(c:Int)(d:List Int)(e:Int)(i:List Line):Option (Tape×(List Line)×(List Int)×(List Re_)):=
 br (decide ((0:Int)<c)) ((Qr F (⟨d,e⟩:Tape) (a.length:Int)).bind fun j=>(yT F j.1 (9:Int) (2:Int)).bind fun k=>Z7 (fun g (z:Int×(List Rect))=>Q1e F m b c i j k l g z.1 z.2) F ((0:Int),k.2.t_)) (Q1c F a b i d e)
def Co(F:Nat)(j:List Crop)(b:Int)(c:List Int)(d:Int)(e:List Int)(i:List Re_):Option (Tape×(List Line)×(List Int)×(List Re_)):=
 gd (Q9 (b+1))<|(Qr F (⟨c,d⟩:Tape) (b+1)).bind fun a=>Z7 (fun g (z:Int×(List Int)×Int×(List Line))=>Pb F j e i g z.1 z.2.1 z.2.2.1 z.2.2.2) F (a.2,a.1.l_,a.1.at_,([]:List Line))
def Pc(F:Nat)(l:List Crop)(m:Int)(k:(Int×(List Int)×Int×(List Int)×(List Re_))->Option (Tape×(List Line)×(List Int)×(List Re_)))(d:Int)(i:List Int)(j:Int)(a:List Int)(e:List Re_):Option (Tape×(List Line)×(List Int)×(List Re_)):=
 br (decide ((0:Int)<d)) (gd (Q9 ((a.length:Int)+1))<|gd (a.length+(List.length ([((a.length:Int)+1)]:List Int))<=Y5)<|gd (Q9 (10*(a.length:Int)))<|gd (Q9 (10*(a.length:Int)))<|(YW F (⟨i,j⟩:Tape) (2:Int) (9:Int)).bind fun b=>gd (Q9 ((10*(a.length:Int))+b.2))<|(YW F b.1 (2:Int) (9:Int)).bind fun c=>gd (e.length+(List.length ([(⟨([(⟨(10*(a.length:Int)),0,((10*(a.length:Int))+b.2),c.2⟩:Rect)]:List Rect)⟩:Re_)]:List Re_))<=Y5)<|gd (Q9 (d-1))<|k ((d-1),c.1.l_,c.1.at_,(a++([((a.length:Int)+1)]:List Int)),(e++([(⟨([(⟨(10*(a.length:Int)),0,((10*(a.length:Int))+b.2),c.2⟩:Rect)]:List Rect)⟩:Re_)]:List Re_)))) (Co F l m i j a e)
def Cp(F:Nat)(b:Tape)(c:List Crop)(d:Int):Option (Tape×(List Line)×(List Int)×(List Re_)):=
 (YW F b (1:Int) (3:Int)).bind fun a=>Z7 (fun g (z:Int×(List Int)×Int×(List Int)×(List Re_))=>Pc F c d g z.1 z.2.1 z.2.2.1 z.2.2.2.1 z.2.2.2.2) F (a.2,a.1.l_,a.1.at_,([]:List Int),([]:List Re_))
def Ty(F:Nat)(rc:Int->Option ByteArray)(a:Int):Option ByteArray:=
 br (decide (a<0)) (gd ((10:Int)≠0)<|gd (Q9 (0-(a.tmod (10:Int))))<|br (decide ((-10:Int)<a)) (gd (Q9 ((48:Int)+(0-(a.tmod (10:Int)))))<|gd (ByteArray.size (ByteArray.mk #[45])+ByteArray.size (Yb (IntKind.wrap .u8 ((48:Int)+(0-(a.tmod (10:Int))))))<=Y5)<|some ((ByteArray.mk #[45])++(Yb (IntKind.wrap .u8 ((48:Int)+(0-(a.tmod (10:Int)))))))) (gd (Q9 (a.tdiv (10:Int))/\(10:Int)≠0)<|(rc (a.tdiv (10:Int))).bind fun b=>gd (Q9 ((48:Int)+(0-(a.tmod (10:Int)))))<|gd (ByteArray.size b+ByteArray.size (Yb (IntKind.wrap .u8 ((48:Int)+(0-(a.tmod (10:Int))))))<=Y5)<|some (b++(Yb (IntKind.wrap .u8 ((48:Int)+(0-(a.tmod (10:Int))))))))) (br (decide (a<10)) (gd (Q9 ((48:Int)+a))<|some (Yb (IntKind.wrap .u8 ((48:Int)+a)))) (gd (Q9 (a.tdiv (10:Int))/\(10:Int)≠0)<|(rc (a.tdiv (10:Int))).bind fun c=>gd ((10:Int)≠0)<|gd (Q9 ((48:Int)+(a.tmod (10:Int))))<|gd (ByteArray.size c+ByteArray.size (Yb (IntKind.wrap .u8 ((48:Int)+(a.tmod (10:Int)))))<=Y5)<|some (c++(Yb (IntKind.wrap .u8 ((48:Int)+(a.tmod (10:Int))))))))
def XU:Nat->Int->Option ByteArray
 | 0=>fun _=>none
 | F+1=>Ty F (XU F)
def JX(F:Nat)(c:Tape)(a:Int):Option (Tape×Bool):=
 (Qr F c a).bind fun b=>gd (Q9 (a-1))<|some (b.1,(b.2==(a-1)))
def Uq(F:Nat)(rc:Tape->Int->Option (Tape×Term))(e:Tape×Int)(a b:Int)(c:List Int)(d:Int):Option (Tape×Term):=
 some ((⟨c,d⟩:Tape),(⟨e.2,a,b,[]⟩:Term))
def GB(F:Nat)(rc:Tape->Int->Option (Tape×Term))(a:Tape×Int)(l:Bool):Option (Tape×Term):=
 br l ((Qr F a.1 (4:Int)).bind fun d=>Uq F rc a d.2 0 d.1.l_ d.1.at_) (br (a.2==(4:Int)) ((Qr F a.1 (5:Int)).bind fun b=>gd (Q9 ((1:Int)*2 ^ (min (b.2).toNat (IntKind.bits .i64)))/\0<=b.2)<|Uq F rc a ((1:Int)*2 ^ (min (b.2).toNat (IntKind.bits .i64))) 0 b.1.l_ b.1.at_) (br (a.2==(5:Int)) ((Qr F a.1 (16:Int)).bind fun e=>Uq F rc a e.2 0 e.1.l_ e.1.at_) (br (a.2==(6:Int)) ((YW F a.1 (2:Int) (3:Int)).bind fun i=>Uq F rc a i.2 0 i.1.l_ i.1.at_) (br (a.2==(7:Int)) ((YW F a.1 (1:Int) (2:Int)).bind fun k=>(Qr F k.1 (5:Int)).bind fun c=>gd (Q9 ((1:Int)*2 ^ (min (c.2).toNat (IntKind.bits .i64)))/\0<=c.2)<|Uq F rc a k.2 ((1:Int)*2 ^ (min (c.2).toNat (IntKind.bits .i64))) c.1.l_ c.1.at_) (br (a.2==(8:Int)) ((YW F a.1 (1:Int) (3:Int)).bind fun j=>Uq F rc a j.2 0 j.1.l_ j.1.at_) (Uq F rc a 0 0 a.1.l_ a.1.at_))))))
def GC(F:Nat)(rc:Tape->Int->Option (Tape×Term))(a:Int)(n:Bool)(l:List Int)(m:Int):Option (Tape×Term):=
 br n ((Qr F (⟨l,m⟩:Tape) (3:Int)).bind fun b=>br (b.2==(0:Int)) (gd (Q9 (a-1))<|(rc b.1 (a-1)).bind fun d=>gd (Q9 d.2.op_)<|some (d.1,(⟨(11:Int),0,0,([d.2]:List Term)⟩:Term))) (br (b.2==(1:Int)) (gd (Q9 (a-1))<|(rc b.1 (a-1)).bind fun e=>gd (Q9 (a-1))<|(rc e.1 (a-1)).bind fun i=>gd (Q9 e.2.op_)<|gd (Q9 i.2.op_)<|some (i.1,(⟨(9:Int),0,0,([e.2,i.2]:List Term)⟩:Term))) (gd (Q9 (a-1))<|(rc b.1 (a-1)).bind fun j=>gd (Q9 (a-1))<|(rc j.1 (a-1)).bind fun k=>gd (Q9 j.2.op_)<|gd (Q9 k.2.op_)<|some (k.1,(⟨(10:Int),0,0,([j.2,k.2]:List Term)⟩:Term))))) ((YW F (⟨l,m⟩:Tape) (1:Int) (8:Int)).bind fun c=>br (c.2==(2:Int)) (GB F rc c (c.2==(2:Int))) (GB F rc c (c.2==(3:Int))))
def Ci(F:Nat)(rc:Tape->Int->Option (Tape×Term))(a:Tape)(b:Int):Option (Tape×Term):=
 br (decide ((0:Int)<b)) ((JX F a (2:Int)).bind fun c=>GC F rc b c.2 c.1.l_ c.1.at_) (GC F rc b false a.l_ a.at_)
def VA:Nat->Tape->Int->Option (Tape×Term)
 | 0=>fun _ _=>none
 | F+1=>Ci F (VA F)
def Vt(F:Nat)(a:Int)(b:(Int)->Option Bool)(c:Bool):Option Bool:=
 br c (some false) (gd (Q9 (a+1))<|b (a+1))
def Q0f(F:Nat):Option Bool:=
 some true
def Tx(F:Nat)(b:ByteArray)(c:(Int)->Option Bool)(a:Int):Option Bool:=
 br (decide (a<((b.size:Nat):Int))) (gd (0<=a/\a<((b.size:Nat):Int))<|br (decide ((J0 b a)<97)) (gd (0<=a/\a<((b.size:Nat):Int))<|br (decide ((J0 b a)<48)) (Vt F a c true) (gd (0<=a/\a<((b.size:Nat):Int))<|Vt F a c (decide ((57:Int)<(J0 b a))))) (gd (0<=a/\a<((b.size:Nat):Int))<|br (decide ((122:Int)<(J0 b a))) (gd (0<=a/\a<((b.size:Nat):Int))<|br (decide ((J0 b a)<48)) (Vt F a c true) (gd (0<=a/\a<((b.size:Nat):Int))<|Vt F a c (decide ((57:Int)<(J0 b a))))) (Vt F a c false))) (Q0f F)
def JT(F:Nat)(b:ByteArray)(a:Bool):Option Bool:=
 br a (some false) (Z7 (fun g (z:Int)=>Tx F b g z) F (0:Int))
def Hb(F:Nat)(a:ByteArray):Option Bool:=
 br (decide (((a.size:Nat):Int)<(1:Int))) (JT F a true) (br (decide ((12:Int)<((a.size:Nat):Int))) (JT F a true) (gd (0<=(0:Int)/\(0:Int)<((a.size:Nat):Int))<|br (decide ((J0 a (0:Int))<97)) (JT F a true) (gd (0<=(0:Int)/\(0:Int)<((a.size:Nat):Int))<|JT F a (decide ((122:Int)<(J0 a (0:Int)))))))
def De(F:Nat)(rc:Term->Option Int)(a:Int)(b:(Int×Int)->Option Int)(c:Int):Option Int:=
 gd (Q9 (a+1))<|b (c,(a+1))
def cO(F:Nat)(rc:Term->Option Int)(a:Int):Option Int:=
 some a
def SN(F:Nat)(rc:Term->Option Int)(c:Term)(d:(Int×Int)->Option Int)(b a:Int):Option Int:=
 br (decide (a<(c.kids_.length:Int))) (gd (0<=a/\a<(c.kids_.length:Int))<|gd (Q9 (gl c.kids_ a.toNat).op_)<|br (decide (b<=40)) ((rc (gl c.kids_ a.toNat)).bind fun e=>gd (Q9 (b+e))<|De F rc a d (b+e)) (De F rc a d b)) (cO F rc b)
def SO(F:Nat)(rc:Term->Option Int)(a:Term):Option Int:=
 Z7 (fun g (z:Int×Int)=>SN F rc a g z.1 z.2) F ((1:Int),(0:Int))
def JJ:Nat->Term->Option Int
 | 0=>fun _=>none
 | F+1=>SO F (JJ F)
def zt(F:Nat)(rc:Term->Option Int)(a:Int):Option Int:=
 gd (Q9 (a+1))<|some (a+1)
def SL(F:Nat)(rc:Term->Option Int)(b:Term)(d:(Int×Int)->Option Int)(c a:Int):Option Int:=
 br (decide (a<(b.kids_.length:Int))) (gd (0<=a/\a<(b.kids_.length:Int))<|gd (Q9 (gl b.kids_ a.toNat).op_)<|(rc (gl b.kids_ a.toNat)).bind fun e=>gd (Q9 (a+1))<|d ((J3 c e),(a+1))) (zt F rc c)
def SM(F:Nat)(rc:Term->Option Int)(a:Term):Option Int:=
 Z7 (fun g (z:Int×Int)=>SL F rc a g z.1 z.2) F ((0:Int),(0:Int))
def JI:Nat->Term->Option Int
 | 0=>fun _=>none
 | F+1=>SM F (JI F)
def Gi(F:Nat)(a:Bool):Option Bool:=
 some a
def XC(F:Nat)(a:Int):Option Bool:=
 br (a==1) (Gi F true) (br (a==2) (Gi F true) (br (a==4) (Gi F true) (br (a==8) (Gi F true) (Gi F (a==16)))))
def cL(F:Nat)(rc:Term->Option Bool):Option Bool:=
 some true
def XH(F:Nat)(rc:Term->Option Bool)(b:Term)(c:(Int)->Option Bool)(a:Int):Option Bool:=
 br (decide (a<(b.kids_.length:Int))) (gd (0<=a/\a<(b.kids_.length:Int))<|gd (Q9 (gl b.kids_ a.toNat).op_)<|(rc (gl b.kids_ a.toNat)).bind fun d=>br (!d) (some false) (gd (Q9 (a+1))<|c (a+1))) (cL F rc)
def XF(F:Nat)(rc:Term->Option Bool)(b:Term)(a:Bool):Option Bool:=
 br a (some false) (Z7 (fun g (z:Int)=>XH F rc b g z) F (0:Int))
def Zy(F:Nat)(rc:Term->Option Bool)(a:Term)(b:Int)(c d:Bool):Option Bool:=
 br (!d) (XF F rc a true) (br (!c) (XF F rc a true) (XF F rc a ((a.kids_.length:Int) != b)))
def XG(F:Nat)(rc:Term->Option Bool)(a:Term)(b:Bool):Option Bool:=
 br b (br (a.num_==0) (Zy F rc a (a.kids_.length:Int) (a.more_==0) (decide (0<(a.kids_.length:Int)))) (Zy F rc a (a.kids_.length:Int) (a.more_==0) false)) (br (a.op_==11) (Zy F rc a (1:Int) (a.more_==0) (a.num_==0)) (Zy F rc a (0:Int) (a.more_==0) false))
def SJ(F:Nat)(rc:Term->Option Bool)(a:Term):Option Bool:=
 br (a.op_==1) (Zy F rc a (0:Int) (a.more_==0) (a.num_==0)) (br (a.op_==2) (br (decide ((0:Int)<=a.num_)) (Zy F rc a (0:Int) (a.more_==0) (decide (a.num_<40))) (Zy F rc a (0:Int) (a.more_==0) false)) (br (a.op_==3) (br (decide ((0:Int)<=a.num_)) (Zy F rc a (0:Int) (a.more_==0) (decide (a.num_<=40))) (Zy F rc a (0:Int) (a.more_==0) false)) (br (a.op_==4) ((XC F a.num_).bind fun b=>Zy F rc a (0:Int) (a.more_==0) b) (br (a.op_==5) (br (decide ((0:Int)<=a.num_)) (Zy F rc a (0:Int) (a.more_==0) (decide (a.num_<=15))) (Zy F rc a (0:Int) (a.more_==0) false)) (br (a.op_==6) (br (decide ((2:Int)<=a.num_)) (Zy F rc a (0:Int) (a.more_==0) (decide (a.num_<=10))) (Zy F rc a (0:Int) (a.more_==0) false)) (br (a.op_==7) (br (decide ((1:Int)<=a.num_)) ((XC F a.more_).bind fun c=>Zy F rc a (0:Int) c (decide (a.num_<=10))) ((XC F a.more_).bind fun d=>Zy F rc a (0:Int) d false)) (br (a.op_==8) (br (decide ((1:Int)<=a.num_)) (Zy F rc a (0:Int) (a.more_==0) (decide (a.num_<=10))) (Zy F rc a (0:Int) (a.more_==0) false)) (br (a.op_==9) (XG F rc a (a.op_==9)) (XG F rc a (a.op_==10))))))))))
def Wj:Nat->Term->Option Bool
 | 0=>fun _=>none
 | F+1=>SJ F (Wj F)
def SX(F:Nat)(a:Bool):Option Int:=
 br a (some (16:Int)) (some (0:Int))
def Dl(F:Nat)(a:Term):Option Int:=
 (JJ F a).bind fun b=>br (decide ((40:Int)<b)) (some (1:Int)) ((JI F a).bind fun c=>br (decide ((8:Int)<c)) (SX F true) ((Wj F a).bind fun d=>SX F (!d)))
def JF(F:Nat)(d:List Bracket)(a:Int)(b:(Int×Int)->Option Bool)(c:Bool):Option Bool:=
 br c (some false) (gd (Q9 (a+1))<|b ((gl d a.toNat).up_,(a+1)))
def ck(F:Nat):Option Bool:=
 some true
def XA(F:Nat)(b:List Bracket)(c:(Int×Int)->Option Bool)(d a:Int):Option Bool:=
 br (decide (a<(b.length:Int))) (gd (0<=a/\a<(b.length:Int))<|br (decide (((gl b a.toNat).up_)<=d)) (JF F b a c true) (br (decide ((268435456:Int)<((gl b a.toNat).up_))) (JF F b a c true) (br (decide (((gl b a.toNat).rate_)<0)) (JF F b a c true) (JF F b a c (decide ((1048576:Int)<((gl b a.toNat).rate_))))))) (ck F)
def BZ(F:Nat)(b:List Bracket)(a:Bool):Option Bool:=
 br a (some false) (Z7 (fun g (z:Int×Int)=>XA F b g z.1 z.2) F ((0:Int),(0:Int)))
def SB(F:Nat)(a:List Bracket):Option Bool:=
 br (decide ((a.length:Int)<1)) (BZ F a true) (BZ F a (decide (6<(a.length:Int))))
def Gc(F:Nat)(a:Bool):Option Int:=
 br a (some (3:Int)) (some (0:Int))
def Ge(F:Nat)(a:Scheme)(c:Bool):Option Int:=
 br c (some (2:Int)) ((Hb F a.n_).bind fun d=>br (!d) (some (5:Int)) ((Dl F a.cond_).bind fun b=>br (b != (0:Int)) (some b) ((SB F a.brackets_).bind fun e=>br (!e) (Gc F true) (br (decide (a.excludes_<0)) (Gc F true) (br (decide ((65536:Int)<=a.excludes_)) (Gc F true) (gd (0<=a.N_)<|Gc F ((QN .i64 (a.excludes_.fdiv (2 ^ (min (a.N_).toNat (IntKind.bits .i64)))) (1:Int))==1)))))))
def Da(F:Nat)(a:Scheme):Option Int:=
 br (decide (a.N_<0)) (Ge F a true) (br (decide ((15:Int)<a.N_)) (Ge F a true) (br (decide (a.least_<0)) (Ge F a true) (Ge F a (decide ((268435456:Int)<a.least_)))))
def co(F:Nat):Option Int:=
 some (-1:Int)
def Gf(F:Nat)(b:List Scheme)(d:Int)(c:(Int)->Option Int)(a:Int):Option Int:=
 br (decide (a<(b.length:Int))) (gd (0<=a/\a<(b.length:Int))<|br (((gl b a.toNat).N_)==d) (some a) (gd (Q9 (a+1))<|c (a+1))) (co F)
def Db(F:Nat)(a:List Scheme)(b:Int):Option Int:=
 Z7 (fun g (z:Int)=>Gf F a b g z) F (0:Int)
def XB(F:Nat)(c a:Int)(b:(Int)->Option (Int×Int))(d:Bool):Option (Int×Int):=
 br d (some (c,(6:Int))) (gd (Q9 (a+1))<|b (a+1))
def cv(F:Nat)(a:Int)(b:(Int)->Option (Int×Int)):Option (Int×Int):=
 gd (Q9 (a+1))<|b (a+1)
def JH(F:Nat)(c:List Scheme)(a:Int)(e d:(Int)->Option (Int×Int))(b:Int):Option (Int×Int):=
 br (decide (b<((List.length (c.take a.toNat):Nat):Int))) (gd (0<=b/\b<((List.length (c.take a.toNat):Nat):Int))<|br (Zm ((gl (c.take a.toNat) b.toNat).n_) ((gl c a.toNat).n_)) (XB F a b d true) (gd (Q9 (a-1))<|br (b==(a-1)) (XB F a b d (decide (((gl c a.toNat).N_)<=((gl (c.take a.toNat) b.toNat).N_)))) (XB F a b d false))) (cv F a e)
def SC(F:Nat)(a:Int)(b:(Int)->Option (Int×Int)):Option (Int×Int):=
 gd (Q9 (a+1))<|b (a+1)
def SE(F:Nat)(b c:Int)(a:(Int)->Option (Int×Int))(d:Bool):Option (Int×Int):=
 br d (some (b,(17:Int))) (SC F c a)
def cu(F:Nat)(a:Int)(b:(Int)->Option (Int×Int)):Option (Int×Int):=
 gd (Q9 (a+1))<|b (a+1)
def JG(F:Nat)(c:List Scheme)(b:Int)(i e:(Int)->Option (Int×Int))(a:Int):Option (Int×Int):=
 br (decide (a<=15)) (gd (0<=a)<|br ((QN .i64 (((gl c b.toNat).excludes_).fdiv (2 ^ (min (a).toNat (IntKind.bits .i64)))) (1:Int))==0) (SC F a e) ((Db F c a).bind fun d=>br (decide (d<0)) (SE F b a e true) (gd (0<=d/\d<(c.length:Int))<|gd (0<=((gl c b.toNat).N_))<|SE F b a e ((QN .i64 (((gl c d.toNat).excludes_).fdiv (2 ^ (min (((gl c b.toNat).N_)).toNat (IntKind.bits .i64)))) (1:Int))==0)))) (cu F b i)
def cw(F:Nat):Option (Int×Int):=
 some ((-1:Int),(0:Int))
def Gg(F:Nat)(b:List Scheme)(c:(Int)->Option (Int×Int))(a:Int):Option (Int×Int):=
 br (decide (a<(b.length:Int))) (gd (0<=a/\a<(b.length:Int))<|Z7 (fun g (z:Int)=>JG F b a c g z) F (0:Int)) (cw F)
def zl(F:Nat)(a:List Scheme):Option (Int×Int):=
 Z7 (fun g (z:Int)=>Gg F a g z) F (0:Int)
def Gh(F:Nat)(b:List Scheme)(d:(Int)->Option (Int×Int))(a:Int):Option (Int×Int):=
 br (decide (a<(b.length:Int))) (gd (0<=a/\a<(b.length:Int))<|(Da F (gl b a.toNat)).bind fun c=>br (c != (0:Int)) (some (a,c)) (gd (0<=a/\a<=(b.length:Int))<|Z7 (fun g (z:Int)=>JH F b a d g z) F (0:Int))) (zl F b)
def Dc(F:Nat)(a:List Scheme):Option (Int×Int):=
 br (decide (16<(a.length:Int))) (some ((0:Int),(1:Int))) (Z7 (fun g (z:Int)=>Gh F a g z) F (0:Int))
def yM(F:Nat)(a:Int)(b:(Int×Int×(List Int)×Int×(List Scheme))->Option (Tape×(List Scheme)))(c:Int)(d:List Int)(e:Int)(i:List Scheme):Option (Tape×(List Scheme)):=
 gd (Q9 (a-1))<|b (c,(a-1),d,e,i)
def yN(F:Nat)(a m:Int)(c:List Scheme)(e:ByteArray)(i:Tape×Term)(j:Tape×Int)(k:Tape×Bool)(l:(Int×Int×(List Int)×Int×(List Scheme))->Option (Tape×(List Scheme)))(n:List Int)(o:Int)(d:List Bracket):Option (Tape×(List Scheme)):=
 gd (c.length+(List.length ([(⟨a,((ByteArray.mk #[115])++e),i.2,d,j.2,0,k.2⟩:Scheme)]:List Scheme))<=Y5)<|(YW F (⟨n,o⟩:Tape) (1:Int) (2:Int)).bind fun b=>gd (Q9 (a+b.2))<|yM F m l (a+b.2) b.1.l_ b.1.at_ (c++([(⟨a,((ByteArray.mk #[115])++e),i.2,d,j.2,0,k.2⟩:Scheme)]:List Scheme))
def yQ(F:Nat)(m n:Int)(o:List Scheme)(p:ByteArray)(q:Tape×Term)(s:Tape×Int)(t:Tape×Bool)(k:(Int×Int×(List Int)×Int×(List Scheme))->Option (Tape×(List Scheme)))(l:(Int×Int×(List Int)×Int×(List Bracket))->Option (Tape×(List Scheme)))(b d:Int)(i:List Int)(j:Int)(e:List Bracket):Option (Tape×(List Scheme)):=
 br (decide ((0:Int)<d)) ((YW F (⟨i,j⟩:Tape) (1:Int) (40:Int)).bind fun a=>gd (Q9 (b+a.2))<|(Qr F a.1 (3000:Int)).bind fun c=>gd (e.length+(List.length ([(⟨(b+a.2),c.2⟩:Bracket)]:List Bracket))<=Y5)<|gd (Q9 (d-1))<|l ((b+a.2),(d-1),c.1.l_,c.1.at_,(e++([(⟨(b+a.2),c.2⟩:Bracket)]:List Bracket)))) (yN F m n o p q s t k i j e)
def Hv(F:Nat)(a:Int)(b:(Int×(List Int)×Int×(List Scheme))->Option (Tape×(List Scheme)))(c:List Int)(d:Int)(e:List Scheme):Option (Tape×(List Scheme)):=
 gd (Q9 (a+1))<|b ((a+1),c,d,e)
def yL(F:Nat)(a:Int)(b:(Int×(List Int)×Int×(List Scheme))->Option (Tape×(List Scheme)))(c:List Int)(d:Int)(e:List Scheme):Option (Tape×(List Scheme)):=
 gd (Q9 (a+1))<|b ((a+1),c,d,e)
def yO(F:Nat)(b:Int)(k e:(Int×(List Int)×Int×(List Scheme))->Option (Tape×(List Scheme)))(c:Int)(i:List Int)(j:Int)(a:List Scheme):Option (Tape×(List Scheme)):=
 br (decide (c<((((b).toNat):Nat):Int))) ((JX F (⟨i,j⟩:Tape) (3:Int)).bind fun d=>br d.2 (gd (0<=b/\b<(a.length:Int))<|gd (0<=c/\c<(a.length:Int))<|gd (Q9 ((1:Int)*2 ^ (min (((gl a c.toNat).N_)).toNat (IntKind.bits .i64)))/\0<=((gl a c.toNat).N_))<|gd (0<=b/\b<(a.length:Int))<|gd (0<=c/\c<((List.length (List.set a b.toNat (⟨(gl a b.toNat).N_,(gl a b.toNat).n_,(gl a b.toNat).cond_,(gl a b.toNat).brackets_,(gl a b.toNat).least_,(J8 .i64 ((gl a b.toNat).excludes_) ((1:Int)*2 ^ (min (((gl a c.toNat).N_)).toNat (IntKind.bits .i64)))),(gl a b.toNat).needs_⟩:Scheme)):Nat):Int))<|gd (0<=b/\b<((List.length (List.set a b.toNat (⟨(gl a b.toNat).N_,(gl a b.toNat).n_,(gl a b.toNat).cond_,(gl a b.toNat).brackets_,(gl a b.toNat).least_,(J8 .i64 ((gl a b.toNat).excludes_) ((1:Int)*2 ^ (min (((gl a c.toNat).N_)).toNat (IntKind.bits .i64)))),(gl a b.toNat).needs_⟩:Scheme)):Nat):Int))<|gd (Q9 ((1:Int)*2 ^ (min (((gl (List.set a b.toNat (⟨(gl a b.toNat).N_,(gl a b.toNat).n_,(gl a b.toNat).cond_,(gl a b.toNat).brackets_,(gl a b.toNat).least_,(J8 .i64 ((gl a b.toNat).excludes_) ((1:Int)*2 ^ (min (((gl a c.toNat).N_)).toNat (IntKind.bits .i64)))),(gl a b.toNat).needs_⟩:Scheme)) b.toNat).N_)).toNat (IntKind.bits .i64)))/\0<=((gl (List.set a b.toNat (⟨(gl a b.toNat).N_,(gl a b.toNat).n_,(gl a b.toNat).cond_,(gl a b.toNat).brackets_,(gl a b.toNat).least_,(J8 .i64 ((gl a b.toNat).excludes_) ((1:Int)*2 ^ (min (((gl a c.toNat).N_)).toNat (IntKind.bits .i64)))),(gl a b.toNat).needs_⟩:Scheme)) b.toNat).N_))<|gd (0<=c/\c<((List.length (List.set a b.toNat (⟨(gl a b.toNat).N_,(gl a b.toNat).n_,(gl a b.toNat).cond_,(gl a b.toNat).brackets_,(gl a b.toNat).least_,(J8 .i64 ((gl a b.toNat).excludes_) ((1:Int)*2 ^ (min (((gl a c.toNat).N_)).toNat (IntKind.bits .i64)))),(gl a b.toNat).needs_⟩:Scheme)):Nat):Int))<|Hv F c e d.1.l_ d.1.at_ (List.set (List.set a b.toNat (⟨(gl a b.toNat).N_,(gl a b.toNat).n_,(gl a b.toNat).cond_,(gl a b.toNat).brackets_,(gl a b.toNat).least_,(J8 .i64 ((gl a b.toNat).excludes_) ((1:Int)*2 ^ (min (((gl a c.toNat).N_)).toNat (IntKind.bits .i64)))),(gl a b.toNat).needs_⟩:Scheme)) c.toNat (⟨(gl (List.set a b.toNat (⟨(gl a b.toNat).N_,(gl a b.toNat).n_,(gl a b.toNat).cond_,(gl a b.toNat).brackets_,(gl a b.toNat).least_,(J8 .i64 ((gl a b.toNat).excludes_) ((1:Int)*2 ^ (min (((gl a c.toNat).N_)).toNat (IntKind.bits .i64)))),(gl a b.toNat).needs_⟩:Scheme)) c.toNat).N_,(gl (List.set a b.toNat (⟨(gl a b.toNat).N_,(gl a b.toNat).n_,(gl a b.toNat).cond_,(gl a b.toNat).brackets_,(gl a b.toNat).least_,(J8 .i64 ((gl a b.toNat).excludes_) ((1:Int)*2 ^ (min (((gl a c.toNat).N_)).toNat (IntKind.bits .i64)))),(gl a b.toNat).needs_⟩:Scheme)) c.toNat).n_,(gl (List.set a b.toNat (⟨(gl a b.toNat).N_,(gl a b.toNat).n_,(gl a b.toNat).cond_,(gl a b.toNat).brackets_,(gl a b.toNat).least_,(J8 .i64 ((gl a b.toNat).excludes_) ((1:Int)*2 ^ (min (((gl a c.toNat).N_)).toNat (IntKind.bits .i64)))),(gl a b.toNat).needs_⟩:Scheme)) c.toNat).cond_,(gl (List.set a b.toNat (⟨(gl a b.toNat).N_,(gl a b.toNat).n_,(gl a b.toNat).cond_,(gl a b.toNat).brackets_,(gl a b.toNat).least_,(J8 .i64 ((gl a b.toNat).excludes_) ((1:Int)*2 ^ (min (((gl a c.toNat).N_)).toNat (IntKind.bits .i64)))),(gl a b.toNat).needs_⟩:Scheme)) c.toNat).brackets_,(gl (List.set a b.toNat (⟨(gl a b.toNat).N_,(gl a b.toNat).n_,(gl a b.toNat).cond_,(gl a b.toNat).brackets_,(gl a b.toNat).least_,(J8 .i64 ((gl a b.toNat).excludes_) ((1:Int)*2 ^ (min (((gl a c.toNat).N_)).toNat (IntKind.bits .i64)))),(gl a b.toNat).needs_⟩:Scheme)) c.toNat).least_,(J8 .i64 ((gl (List.set a b.toNat (⟨(gl a b.toNat).N_,(gl a b.toNat).n_,(gl a b.toNat).cond_,(gl a b.toNat).brackets_,(gl a b.toNat).least_,(J8 .i64 ((gl a b.toNat).excludes_) ((1:Int)*2 ^ (min (((gl a c.toNat).N_)).toNat (IntKind.bits .i64)))),(gl a b.toNat).needs_⟩:Scheme)) c.toNat).excludes_) ((1:Int)*2 ^ (min (((gl (List.set a b.toNat (⟨(gl a b.toNat).N_,(gl a b.toNat).n_,(gl a b.toNat).cond_,(gl a b.toNat).brackets_,(gl a b.toNat).least_,(J8 .i64 ((gl a b.toNat).excludes_) ((1:Int)*2 ^ (min (((gl a c.toNat).N_)).toNat (IntKind.bits .i64)))),(gl a b.toNat).needs_⟩:Scheme)) b.toNat).N_)).toNat (IntKind.bits .i64)))),(gl (List.set a b.toNat (⟨(gl a b.toNat).N_,(gl a b.toNat).n_,(gl a b.toNat).cond_,(gl a b.toNat).brackets_,(gl a b.toNat).least_,(J8 .i64 ((gl a b.toNat).excludes_) ((1:Int)*2 ^ (min (((gl a c.toNat).N_)).toNat (IntKind.bits .i64)))),(gl a b.toNat).needs_⟩:Scheme)) c.toNat).needs_⟩:Scheme))) (Hv F c e d.1.l_ d.1.at_ a)) (yL F b k i j a)
def Cs(F:Nat)(a:List Scheme)(b:List Int)(c:Int):Option (Tape×(List Scheme)):=
 (Dc F a).bind fun d=>br (d.2 != (0:Int)) (some ((⟨b,c⟩:Tape),([]:List Scheme))) (some ((⟨b,c⟩:Tape),a))
def yP(F:Nat)(i:List Scheme)(e:(Int×(List Int)×Int×(List Scheme))->Option (Tape×(List Scheme)))(a:Int)(c:List Int)(d:Int)(b:List Scheme):Option (Tape×(List Scheme)):=
 br (decide (a<(i.length:Int))) (gd (0<=(0:Int)/\(0:Int)<=a/\((0:Nat):Int)+a<=(b.length:Int))<|Z7 (fun g (z:Int×(List Int)×Int×(List Scheme))=>yO F a e g z.1 z.2.1 z.2.2.1 z.2.2.2) F ((0:Int),c,d,b)) (Cs F b c d)
def Cr(F:Nat)(b:List Int)(c:Int)(a:List Scheme):Option (Tape×(List Scheme)):=
 Z7 (fun g (z:Int×(List Int)×Int×(List Scheme))=>yP F a g z.1 z.2.1 z.2.2.1 z.2.2.2) F ((0:Int),b,c,a)
def Pe(F:Nat)(b n:Int)(c:List Int)(d:Int)(e:List Scheme)(m:(Int×Int×(List Int)×Int×(List Scheme))->Option (Tape×(List Scheme)))(o:Bool):Option (Tape×(List Scheme)):=
 br o ((XU F b).bind fun i=>gd (ByteArray.size (ByteArray.mk #[115])+ByteArray.size i<=Y5)<|(VA F (⟨c,d⟩:Tape) (2:Int)).bind fun j=>(Qr F j.1 (4:Int)).bind fun k=>(JX F k.1 (2:Int)).bind fun l=>(YW F l.1 (1:Int) (3:Int)).bind fun a=>Z7 (fun g (z:Int×Int×(List Int)×Int×(List Bracket))=>yQ F b n e i j k l m g z.1 z.2.1 z.2.2.1 z.2.2.2.1 z.2.2.2.2) F ((0:Int),a.2,a.1.l_,a.1.at_,([]:List Bracket))) (Cr F c d e)
def Ct(F:Nat)(c:(Int×Int×(List Int)×Int×(List Scheme))->Option (Tape×(List Scheme)))(a b:Int)(d:List Int)(e:Int)(i:List Scheme):Option (Tape×(List Scheme)):=
 br (decide ((0:Int)<b)) (Pe F a b d e i c (decide (a<=3))) (Pe F a b d e i c false)
def Cu(F:Nat)(d:Tape)(b:Int):Option (Tape×(List Scheme)):=
 (Qr F d (2:Int)).bind fun c=>gd (Q9 (b+1))<|(Qr F c.1 (b+1)).bind fun a=>Z7 (fun g (z:Int×Int×(List Int)×Int×(List Scheme))=>Ct F g z.1 z.2.1 z.2.2.1 z.2.2.2.1 z.2.2.2.2) F (c.2,a.2,a.1.l_,a.1.at_,([]:List Scheme))
def bR(F:Nat):Option Bool:=
 some true
def bV(F:Nat)(b c:List Rect)(d:(Int)->Option Bool)(a:Int):Option Bool:=
 br (decide (a<(b.length:Int))) (gd (0<=a/\a<(b.length:Int))<|gd (0<=a/\a<(c.length:Int))<|br (!((((gl b a.toNat).L_)==((gl c a.toNat).L_))&&((((gl b a.toNat).w_)==((gl c a.toNat).w_))&&((((gl b a.toNat).R_)==((gl c a.toNat).R_))&&((((gl b a.toNat).H_)==((gl c a.toNat).H_))&&true))))) (some false) (gd (Q9 (a+1))<|d (a+1))) (bR F)
def DU(F:Nat)(a b:List Rect):Option Bool:=
 br ((a.length:Int) != (b.length:Int)) (some false) (Z7 (fun g (z:Int)=>bV F a b g z) F (0:Int))
def zQ(F:Nat)(a:Re_):Option Bool:=
 (G5 F a.t_ ([]) (1:Int)).bind fun b=>(DU F b a.t_).bind fun c=>some c
def bI(F:Nat)(b:Re_)(c:(Int)->Option Bool)(a:Int):Option Bool:=
 br (decide (a<(b.t_.length:Int))) (gd (0<=a/\a<(b.t_.length:Int))<|(XP F (gl b.t_ a.toNat)).bind fun d=>br (!d) (some false) (gd (Q9 (a+1))<|c (a+1))) (zQ F b)
def Wk(F:Nat)(a:Re_):Option Bool:=
 br (decide (120<(a.t_.length:Int))) (some false) (Z7 (fun g (z:Int)=>bI F a g z) F (0:Int))
def DV(F:Nat)(a:Bool):Option Bool:=
 some a
def DW(F:Nat)(a b:Re_):Option Bool:=
 (Wk F a).bind fun c=>br c ((Wk F b).bind fun d=>br d ((G5 F a.t_ b.t_ (2:Int)).bind fun e=>DV F (decide (0<(e.length:Int)))) (DV F false)) (DV F false)
def Gn(F:Nat)(a:Int)(b:(Int)->Option Int)(c:Bool):Option Int:=
 br c (some (3:Int)) (gd (Q9 (a+1))<|b (a+1))
def Ds(F:Nat)(b:List Rg_)(a:Int)(c:(Int)->Option Int)(d:Bool):Option Int:=
 br d (some (7:Int)) (br (decide ((0:Int)<a)) (gd (Q9 (a-1))<|gd (0<=(a-1)/\(a-1)<(b.length:Int))<|br (decide (((gl b a.toNat).y_)<((gl b (a-1).toNat).y_))) (Gn F a c true) (gd (Q9 (a-1))<|gd (0<=(a-1)/\(a-1)<(b.length:Int))<|br (((gl b a.toNat).y_)==((gl b (a-1).toNat).y_)) (gd (Q9 (a-1))<|gd (0<=(a-1)/\(a-1)<(b.length:Int))<|Gn F a c (decide (((gl b a.toNat).c_)<=((gl b (a-1).toNat).c_)))) (Gn F a c false))) (Gn F a c false))
def Dt(F:Nat)(b:List Rg_)(a:Int)(c:(Int)->Option Int)(d:Bool):Option Int:=
 br d (some (13:Int)) ((Wk F ((gl b a.toNat).g_)).bind fun e=>br (!e) (Ds F b a c true) (Ds F b a c (((List.length ((gl b a.toNat).g_.t_):Nat):Int)==(0:Int))))
def Du(F:Nat)(b:List Rg_)(a:Int)(c:(Int)->Option Int)(d:Bool):Option Int:=
 br d (some (18:Int)) (br (decide (((gl b a.toNat).c_)<0)) (Dt F b a c true) (Dt F b a c (decide ((40:Int)<=((gl b a.toNat).c_)))))
def Dq(F:Nat)(a:Int)(b:(Int)->Option Int)(c:Bool):Option Int:=
 br c (some (11:Int)) (gd (Q9 (a+1))<|b (a+1))
def zv(F:Nat)(a:Int)(b:(Int)->Option Int):Option Int:=
 gd (Q9 (a+1))<|b (a+1)
def cW(F:Nat)(c:List Rg_)(a:Int)(e d:(Int)->Option Int)(b:Int):Option Int:=
 br (decide (b<((List.length (c.take a.toNat):Nat):Int))) (gd (0<=b/\b<((List.length (c.take a.toNat):Nat):Int))<|br (((gl (c.take a.toNat) b.toNat).y_)==((gl c a.toNat).y_)) ((DW F ((gl (c.take a.toNat) b.toNat).g_) ((gl c a.toNat).g_)).bind fun i=>Dq F b d i) (Dq F b d false)) (zv F a e)
def cV(F:Nat):Option Int:=
 some (0:Int)
def cX(F:Nat)(b:List Rg_)(c:(Int)->Option Int)(a:Int):Option Int:=
 br (decide (a<(b.length:Int))) (gd (0<=a/\a<(b.length:Int))<|gd (0<=a/\a<=(b.length:Int))<|Z7 (fun g (z:Int)=>cW F b a c g z) F (0:Int)) (cV F)
def Dr(F:Nat)(a:List Rg_):Option Int:=
 Z7 (fun g (z:Int)=>cX F a g z) F (0:Int)
def cY(F:Nat)(b:List Rg_)(c:(Int)->Option Int)(a:Int):Option Int:=
 br (decide (a<(b.length:Int))) (gd (0<=a/\a<(b.length:Int))<|br (decide (((gl b a.toNat).y_)<0)) (Du F b a c true) (Du F b a c (decide ((100:Int)<((gl b a.toNat).y_))))) (Dr F b)
def Dv(F:Nat)(a:List Rg_):Option Int:=
 br (decide (200<(a.length:Int))) (some (1:Int)) (Z7 (fun g (z:Int)=>cY F a g z) F (0:Int))
def XI(F:Nat)(a:Int)(b:((List Rect)×Int×(List Rg_))->Option ((List Rg_)×Int))(c:List Rect)(d:List Rg_):Option ((List Rg_)×Int):=
 gd (Q9 (a+1))<|b (c,(a+1),d)
def Dx(F:Nat)(b:List Rg_)(i:List Rect)(a:Int)(c:List Rg_)(e:((List Rect)×Int×(List Rg_))->Option ((List Rg_)×Int))(d:List Rect):Option ((List Rg_)×Int):=
 br (decide (0<(d.length:Int))) (gd (c.length+(List.length ([(⟨(gl b a.toNat).y_,(gl b a.toNat).c_,(⟨d⟩:Re_)⟩:Rg_)]:List Rg_))<=Y5)<|XI F a e i (c++([(⟨(gl b a.toNat).y_,(gl b a.toNat).c_,(⟨d⟩:Re_)⟩:Rg_)]:List Rg_))) (XI F a e i c)
def Dy(F:Nat)(b:List Rg_)(j:Int)(k:Re_)(d:List Rect)(a:Int)(e:List Rg_)(c:((List Rect)×Int×(List Rg_))->Option ((List Rg_)×Int))(i:Bool):Option ((List Rg_)×Int):=
 br i ((G5 F d ((gl b a.toNat).g_.t_) (1:Int)).bind fun l=>XI F a c l e) (br (((gl b a.toNat).y_)==j) ((G5 F ((gl b a.toNat).g_.t_) k.t_ (3:Int)).bind fun m=>Dx F b d a e c m) (Dx F b d a e c ((gl b a.toNat).g_.t_)))
def cZ(F:Nat)(a:List Rg_):Option ((List Rg_)×Int):=
 some (a,(0:Int))
def bd(F:Nat)(b:List Rg_)(c:(Int)->Option ((List Rg_)×Int))(a:Int):Option ((List Rg_)×Int):=
 br (decide (a<(b.length:Int))) (gd (0<=a/\a<(b.length:Int))<|br (decide ((120:Int)<((List.length ((gl b a.toNat).g_.t_):Nat):Int))) (some ([],(1:Int))) (gd (Q9 (a+1))<|c (a+1))) (cZ F b)
def Dz(F:Nat)(a:List Rg_):Option ((List Rg_)×Int):=
 br (decide (200<(a.length:Int))) (some ([],(1:Int))) (Z7 (fun g (z:Int)=>bd F a g z) F (0:Int))
def SY(F:Nat)(d e:Int)(c:List Rect)(b:List Rg_)(a:Int):Option ((List Rg_)×Int):=
 gd (0<=(0:Int)/\(0:Int)<=a/\((0:Nat):Int)+a<=(b.length:Int))<|gd (0+((a).toNat)<=List.length b)<|gd ((0)+(((a).toNat))<=Y5)<|gd (((0)+(((a).toNat)))+(List.length ([(⟨d,e,(⟨c⟩:Re_)⟩:Rg_)]:List Rg_))<=Y5)<|gd (0<=a/\a<=((b.length:Nat):Int)/\((0:Nat):Int)+((b.length:Nat):Int)<=(b.length:Int))<|gd ((0+(a).toNat)+(b.length-(a).toNat)<=List.length b)<|gd ((((0)+(((a).toNat)))+(List.length ([(⟨d,e,(⟨c⟩:Re_)⟩:Rg_)]:List Rg_)))+((b.length-(a).toNat))<=Y5)<|Dz F (((([]:List Rg_)++((b.drop 0).take ((a).toNat)))++([(⟨d,e,(⟨c⟩:Re_)⟩:Rg_)]:List Rg_))++((b.drop (0+(a).toNat)).take (b.length-(a).toNat)))
def Gp(F:Nat)(i j:Int)(c:List Rect)(d:List Rg_)(a:Int)(b:(Int)->Option ((List Rg_)×Int))(e:Bool):Option ((List Rg_)×Int):=
 br e (gd (Q9 (a+1))<|b (a+1)) (SY F i j c d a)
def bc(F:Nat)(c d:Int)(i:List Rect)(b:List Rg_)(e:(Int)->Option ((List Rg_)×Int))(a:Int):Option ((List Rg_)×Int):=
 br (decide (a<(b.length:Int))) (gd (0<=a/\a<(b.length:Int))<|br (decide (((gl b a.toNat).y_)<c)) (Gp F c d i b a e true) (gd (0<=a/\a<(b.length:Int))<|br (((gl b a.toNat).y_)==c) (gd (0<=a/\a<(b.length:Int))<|Gp F c d i b a e (decide (((gl b a.toNat).c_)<d))) (Gp F c d i b a e false))) (Gp F c d i b a e false)
def Dw(F:Nat)(c d:Int)(a:List Rect)(b:List Rg_):Option ((List Rg_)×Int):=
 br (decide (0<(a.length:Int))) (Z7 (fun g (z:Int)=>bc F c d a b g z) F (0:Int)) (Dz F b)
def zw(F:Nat)(b:List Rg_)(c j:Int)(k:Re_)(i:((List Rect)×Int×(List Rg_))->Option ((List Rg_)×Int))(d:List Rect)(a:Int)(e:List Rg_):Option ((List Rg_)×Int):=
 br (decide (a<(b.length:Int))) (gd (0<=a/\a<(b.length:Int))<|br (((gl b a.toNat).y_)==c) (Dy F b c k d a e i (((gl b a.toNat).c_)==j)) (Dy F b c k d a e i false)) (Dw F c j d e)
def DA(F:Nat)(c:List Rg_)(d e:Int)(a:Re_)(b:Bool):Option ((List Rg_)×Int):=
 br b (some ([],(13:Int))) ((Wk F a).bind fun i=>br (!i) (some ([],(7:Int))) (Z7 (fun g (z:(List Rect)×Int×(List Rg_))=>zw F c d e a g z.1 z.2.1 z.2.2) F (a.t_,(0:Int),([]:List Rg_))))
def DB(F:Nat)(b:List Rg_)(c a:Int)(d:Re_)(e:Bool):Option ((List Rg_)×Int):=
 br e (some ([],(18:Int))) (br (decide (a<0)) (DA F b c a d true) (DA F b c a d (decide ((40:Int)<=a))))
def SZ(F:Nat)(b:List Rg_)(a c:Int)(d:Re_):Option ((List Rg_)×Int):=
 (Dv F b).bind fun e=>br (e != (0:Int)) (some ([],e)) (br (decide (a<0)) (DB F b a c d true) (DB F b a c d (decide ((100:Int)<a))))
def Q1g(F:Nat)(a:List Rg_)(b:List Int)(c:Int):Option (Tape×(List Rg_)):=
 some ((⟨b,c⟩:Tape),a)
def Cv(F:Nat)(m:List Crop)(i:Int)(l:((List Rg_)×Int×(List Int)×Int)->Option (Tape×(List Rg_)))(c:List Rg_)(a:Int)(d:List Int)(e:Int):Option (Tape×(List Rg_)):=
 br (decide ((0:Int)<a)) (gd (Q9 (i+1))<|(Qr F (⟨d,e⟩:Tape) (i+1)).bind fun j=>(Qr F j.1 (m.length:Int)).bind fun k=>(GD F k.1 (9:Int) (2:Int)).bind fun b=>(SZ F c j.2 k.2 b.2).bind fun n=>gd (Q9 (a-1))<|l (n.1,(a-1),b.1.l_,b.1.at_)) (Q1g F c d e)
def Cw(F:Nat)(c:Tape)(d:List Crop)(e b:Int):Option (Tape×(List Rg_)):=
 gd (Q9 (b+1))<|(Qr F c (b+1)).bind fun a=>Z7 (fun g (z:(List Rg_)×Int×(List Int)×Int)=>Cv F d e g z.1 z.2.1 z.2.2.1 z.2.2.2) F (([]:List Rg_),a.2,a.1.l_,a.1.at_)
def Cx(F:Nat)(e:Tape)(i:Int):Option (Tape×A2_):=
 (Qr F e (20:Int)).bind fun a=>(Qr F a.1 (16:Int)).bind fun c=>(YW F c.1 (1:Int) (30:Int)).bind fun b=>gd (Q9 (a.2+b.2))<|(GF F b.1 (9:Int) (2:Int)).bind fun d=>some (d.1,(⟨i,c.2,a.2,(a.2+b.2),d.2⟩:A2_))
def XN(F:Nat)(a:Bool):Option Int:=
 br a (some (7:Int)) (some (0:Int))
def JM(F:Nat)(a:A2_)(b:Bool):Option Int:=
 br b (some (9:Int)) ((Wk F a.g_).bind fun c=>br (!c) (XN F true) (XN F ((a.g_.t_.length:Int)==0)))
def JN(F:Nat)(a:A2_)(b:Bool):Option Int:=
 br b (some (14:Int)) (br (decide (a.F_<0)) (JM F a true) (br (decide (a.u_<=a.F_)) (JM F a true) (JM F a (decide ((36865:Int)<a.u_)))))
def Tg(F:Nat)(a:A2_)(b:Bool):Option Int:=
 br b (some (2:Int)) (br (decide (a.k_<0)) (JN F a true) (JN F a (decide ((15:Int)<a.k_))))
def DF(F:Nat)(a:A2_):Option Int:=
 br (decide (a.N_<1)) (Tg F a true) (Tg F a (decide ((1073741824:Int)<a.N_)))
def DG(F:Nat)(a:Int)(b:(Int)->Option Int)(c:Bool):Option Int:=
 br c (some (3:Int)) (gd (Q9 (a+1))<|b (a+1))
def bl(F:Nat):Option Int:=
 some (0:Int)
def bm(F:Nat)(b:List A2_)(c:(Int)->Option Int)(a:Int):Option Int:=
 br (decide (a<(b.length:Int))) (gd (0<=a/\a<(b.length:Int))<|(DF F (gl b a.toNat)).bind fun d=>br (d != (0:Int)) (some d) (br (decide ((0:Int)<a)) (gd (Q9 (a-1))<|gd (0<=(a-1)/\(a-1)<(b.length:Int))<|DG F a c (decide (((gl b a.toNat).N_)<=((gl b (a-1).toNat).N_)))) (DG F a c false))) (bl F)
def XO(F:Nat)(a:List A2_):Option Int:=
 br (decide (60<(a.length:Int))) (some (1:Int)) (Z7 (fun g (z:Int)=>bm F a g z) F (0:Int))
def DH(F:Nat)(b:List A2_)(c:A2_)(a:Int)(d:Bool):Option ((List A2_)×Int):=
 br d (some ([],(6:Int))) (br ((b.length:Int)==60) (some ([],(1:Int))) (gd (0<=a/\a<=(b.length:Int))<|gd ((0)+(List.length (b.take a.toNat))<=Y5)<|gd (((0)+(List.length (b.take a.toNat)))+(List.length ([c]:List A2_))<=Y5)<|gd (0<=a/\a<=(b.length:Int))<|gd ((((0)+(List.length (b.take a.toNat)))+(List.length ([c]:List A2_)))+(List.length (b.drop a.toNat))<=Y5)<|some ((((([]:List A2_)++(b.take a.toNat))++([c]:List A2_))++(b.drop a.toNat)),(0:Int))))
def Ti(F:Nat)(b:List A2_)(c:A2_)(a:Int):Option ((List A2_)×Int):=
 br (decide (a<(b.length:Int))) (gd (0<=a/\a<(b.length:Int))<|DH F b c a (((gl b a.toNat).N_)==c.N_)) (DH F b c a false)
def DI(F:Nat)(d:List A2_)(e:A2_)(a:Int)(b:(Int)->Option ((List A2_)×Int))(c:Bool):Option ((List A2_)×Int):=
 br c (gd (Q9 (a+1))<|b (a+1)) (Ti F d e a)
def bp(F:Nat)(b:List A2_)(c:A2_)(d:(Int)->Option ((List A2_)×Int))(a:Int):Option ((List A2_)×Int):=
 br (decide (a<(b.length:Int))) (gd (0<=a/\a<(b.length:Int))<|DI F b c a d (decide (((gl b a.toNat).N_)<c.N_))) (DI F b c a d false)
def Tj(F:Nat)(a:List A2_)(b:A2_):Option ((List A2_)×Int):=
 (XO F a).bind fun c=>br (c != (0:Int)) (some ([],c)) ((DF F b).bind fun d=>br (d != (0:Int)) (some ([],d)) (Z7 (fun g (z:Int)=>bp F a b g z) F (0:Int)))
def Hu(F:Nat)(a:Int)(b:((List A2_)×Int×(List Int)×Int)->Option (Tape×(List A2_)))(c:List A2_)(d:List Int)(e:Int):Option (Tape×(List A2_)):=
 gd (Q9 (a-1))<|b (c,(a-1),d,e)
def Q1f(F:Nat)(a:List A2_)(b:List Int)(c:Int):Option (Tape×(List A2_)):=
 some ((⟨b,c⟩:Tape),a)
def Pd(F:Nat)(d:((List A2_)×Int×(List Int)×Int)->Option (Tape×(List A2_)))(b:List A2_)(c:Int)(e:List Int)(i:Int):Option (Tape×(List A2_)):=
 br (decide ((0:Int)<c)) ((YW F (⟨e,i⟩:Tape) (1:Int) (12:Int)).bind fun j=>(Cx F j.1 j.2).bind fun a=>(Tj F b a.2).bind fun k=>br (k.2==(0:Int)) (Hu F c d k.1 a.1.l_ a.1.at_) (Hu F c d b a.1.l_ a.1.at_)) (Q1f F b e i)
def Cq(F:Nat)(c:Tape)(b:Int):Option (Tape×(List A2_)):=
 gd (Q9 (b+1))<|(Qr F c (b+1)).bind fun a=>Z7 (fun g (z:(List A2_)×Int×(List Int)×Int)=>Pd F g z.1 z.2.1 z.2.2.1 z.2.2.2) F (([]:List A2_),a.2,a.1.l_,a.1.at_)
def Cg(F:Nat)(j:Tape)(a:List Crop):Option (Tape×World):=
 (Qr F j (5:Int)).bind fun b=>(Cw F b.1 a (4:Int) (5:Int)).bind fun c=>(Cq F c.1 (3:Int)).bind fun d=>(Qr F d.1 (25:Int)).bind fun e=>(Qr F e.1 (5:Int)).bind fun i=>some (i.1,(⟨b.2,a,c.2,d.2,e.2,i.2⟩:World))
def Pg(F:Nat)(a:List Rect)(b:List Int)(c:Int):Option (Tape×Re_):=
 some ((⟨b,c⟩:Tape),(⟨a⟩:Re_))
def Hw(F:Nat)(b:Tape×Re_)(i:Bool)(d:List Int)(e:Int):Option (Tape×Re_):=
 br i (some ((⟨d,e⟩:Tape),b.2)) (gd ((0)+b.2.t_.length<=Y5)<|(Qr F (⟨d,e⟩:Tape) ((List.length (([]:List Rect)++b.2.t_):Nat):Int)).bind fun a=>(Qr F a.1 (5:Int)).bind fun c=>br (c.2==(0:Int)) (gd (0<=a.2/\a.2<((List.length (([]:List Rect)++b.2.t_):Nat):Int))<|gd (Q9 (((gl (([]:List Rect)++b.2.t_) a.2.toNat).R_)+1))<|gd (0<=a.2/\a.2<((List.length (([]:List Rect)++b.2.t_):Nat):Int))<|Pg F (List.set (([]:List Rect)++b.2.t_) a.2.toNat (⟨(gl (([]:List Rect)++b.2.t_) a.2.toNat).L_,(gl (([]:List Rect)++b.2.t_) a.2.toNat).w_,(((gl (([]:List Rect)++b.2.t_) a.2.toNat).R_)+1),(gl (([]:List Rect)++b.2.t_) a.2.toNat).H_⟩:Rect)) c.1.l_ c.1.at_) (br (c.2==(1:Int)) (gd (0<=a.2/\a.2<((List.length (([]:List Rect)++b.2.t_):Nat):Int))<|Pg F (List.set (([]:List Rect)++b.2.t_) a.2.toNat (⟨(-1:Int),(gl (([]:List Rect)++b.2.t_) a.2.toNat).w_,(gl (([]:List Rect)++b.2.t_) a.2.toNat).R_,(gl (([]:List Rect)++b.2.t_) a.2.toNat).H_⟩:Rect)) c.1.l_ c.1.at_) (br (c.2==(2:Int)) (gd (0<=a.2/\a.2<((List.length (([]:List Rect)++b.2.t_):Nat):Int))<|gd ((List.length (([]:List Rect)++b.2.t_))+(List.length ([(gl (([]:List Rect)++b.2.t_) a.2.toNat)]:List Rect))<=Y5)<|Pg F ((([]:List Rect)++b.2.t_)++([(gl (([]:List Rect)++b.2.t_) a.2.toNat)]:List Rect)) c.1.l_ c.1.at_) (br (c.2==(3:Int)) (gd (0<=a.2/\a.2<((List.length (([]:List Rect)++b.2.t_):Nat):Int))<|gd (0<=(0:Int)/\(0:Int)<((List.length (([]:List Rect)++b.2.t_):Nat):Int))<|gd (0<=(0:Int)/\(0:Int)<((List.length (([]:List Rect)++b.2.t_):Nat):Int))<|gd (0<=a.2/\a.2<((List.length (List.set (([]:List Rect)++b.2.t_) (0:Int).toNat (gl (([]:List Rect)++b.2.t_) a.2.toNat)):Nat):Int))<|Pg F (List.set (List.set (([]:List Rect)++b.2.t_) (0:Int).toNat (gl (([]:List Rect)++b.2.t_) a.2.toNat)) a.2.toNat (gl (([]:List Rect)++b.2.t_) (0:Int).toNat)) c.1.l_ c.1.at_) (gd (0<=a.2/\a.2<((List.length (([]:List Rect)++b.2.t_):Nat):Int))<|gd (0<=a.2/\a.2<((List.length (([]:List Rect)++b.2.t_):Nat):Int))<|Pg F (List.set (([]:List Rect)++b.2.t_) a.2.toNat (⟨(gl (([]:List Rect)++b.2.t_) a.2.toNat).L_,(gl (([]:List Rect)++b.2.t_) a.2.toNat).w_,(gl (([]:List Rect)++b.2.t_) a.2.toNat).R_,(gl (([]:List Rect)++b.2.t_) a.2.toNat).w_⟩:Rect)) c.1.l_ c.1.at_)))))
def Hx(F:Nat)(c:Tape)(d e:Int):Option (Tape×Re_):=
 (GD F c d e).bind fun a=>br ((a.2.t_.length:Int)==0) (Hw F a true a.1.l_ a.1.at_) ((JX F a.1 (6:Int)).bind fun b=>Hw F a (!b.2) b.1.l_ b.1.at_)
def Xd(F:Nat)(a:Int)(b:(Int)->Option Bool)(c:Bool):Option Bool:=
 br c (some false) (gd (Q9 (a+1))<|b (a+1))
def Bb(F:Nat)(a:Int)(c:Bool)(b:(Int)->Option Bool)(d:Bool):Option Bool:=
 br (!c) (br (a==0) (Xd F a b true) (Xd F a b (!d))) (Xd F a b false)
def Bc(F:Nat)(b:ByteArray)(a:Int)(c:(Int)->Option Bool)(d:Bool):Option Bool:=
 gd (0<=a/\a<((b.size:Nat):Int))<|br (decide ((48:Int)<=(J0 b a))) (gd (0<=a/\a<((b.size:Nat):Int))<|Bb F a d c (decide ((J0 b a)<=57))) (Bb F a d c false)
def Ba(F:Nat)(a:Bool):Option Bool:=
 some a
def Ln(F:Nat)(a:ByteArray):Option Bool:=
 br (decide ((1:Int)<=((a.size:Nat):Int))) (Ba F (decide (((a.size:Nat):Int)<=(12:Int)))) (Ba F false)
def kg(F:Nat)(b:ByteArray)(c:(Int)->Option Bool)(a:Int):Option Bool:=
 br (decide (a<((b.size:Nat):Int))) (gd (0<=a/\a<((b.size:Nat):Int))<|br (decide ((97:Int)<=(J0 b a))) (gd (0<=a/\a<((b.size:Nat):Int))<|Bc F b a c (decide ((J0 b a)<=122))) (Bc F b a c false)) (Ln F b)
def Bd(F:Nat)(a:ByteArray):Option Bool:=
 Z7 (fun g (z:Int)=>kg F a g z) F (0:Int)
def LD(F:Nat)(rc:Term->Int->Option Int)(a:Int):Option Int:=
 some a
def MZ(F:Nat)(rc:Term->Int->Option Int)(c:Term)(d:Int)(i:(Int×Int)->Option Int)(a b:Int):Option Int:=
 br (decide (b<(c.kids_.length:Int))) (gd (0<=b/\b<(c.kids_.length:Int))<|gd (Q9 (gl c.kids_ b.toNat).op_)<|br (decide (d<a)) (LD F rc a) (gd (Q9 (d-a))<|(rc (gl c.kids_ b.toNat) (d-a)).bind fun e=>gd (Q9 (a+e))<|gd (Q9 (b+1))<|i ((a+e),(b+1)))) (LD F rc a)
def Ra(F:Nat)(rc:Term->Int->Option Int)(a:Term)(b:Int):Option Int:=
 Z7 (fun g (z:Int×Int)=>MZ F rc a b g z.1 z.2) F ((1:Int),(0:Int))
def Ju:Nat->Term->Int->Option Int
 | 0=>fun _ _=>none
 | F+1=>Ra F (Ju F)
def MU(F:Nat)(a:Bool):Option (Int×Int×Bool):=
 br a (some ((1:Int),(10:Int),true)) (some ((0:Int),(0:Int),false))
def MV(F:Nat)(a:Int):Option (Int×Int×Bool):=
 br (a==2) (some ((0:Int),(39:Int),true)) (br (a==3) (some ((0:Int),(40:Int),true)) (br (a==4) (some ((1:Int),(16:Int),true)) (br (a==5) (some ((0:Int),(15:Int),true)) (br (a==6) (some ((2:Int),(10:Int),true)) (br (a==7) (MU F (a==7)) (MU F (a==8)))))))
def MW(F:Nat)(b:Int)(a:Bool):Option (Int×Int):=
 br a (some ((1:Int),(40:Int))) (br (b==11) (some ((1:Int),(1:Int))) (some ((0:Int),(0:Int))))
def MX(F:Nat)(a:Int):Option (Int×Int):=
 br (a==9) (MW F a (a==9)) (MW F a (a==10))
def Q0M(F:Nat)(a:Int):Option Int:=
 gd (0<=(1:Int))<|(some (QN .u64 (a.fdiv (2 ^ (min ((1:Int)).toNat (IntKind.bits .u64)))) (6148914691236517205:Int))).bind fun k=>(some (IntKind.wrap .u64 (k+(QN .u64 a (6148914691236517205:Int))))).bind fun b=>gd (0<=(2:Int))<|(some (QN .u64 (b.fdiv (2 ^ (min ((2:Int)).toNat (IntKind.bits .u64)))) (3689348814741910323:Int))).bind fun l=>(some (IntKind.wrap .u64 (l+(QN .u64 b (3689348814741910323:Int))))).bind fun c=>gd (0<=(4:Int))<|(some (IntKind.wrap .u64 ((c.fdiv (2 ^ (min ((4:Int)).toNat (IntKind.bits .u64))))+c))).bind fun d=>gd (0<=(8:Int))<|(some ((QN .u64 d (1085102592571150095:Int)).fdiv (2 ^ (min ((8:Int)).toNat (IntKind.bits .u64))))).bind fun m=>(some (IntKind.wrap .u64 ((QN .u64 d (1085102592571150095:Int))+m))).bind fun e=>gd (0<=(16:Int))<|(some (IntKind.wrap .u64 (e+(e.fdiv (2 ^ (min ((16:Int)).toNat (IntKind.bits .u64))))))).bind fun i=>gd (0<=(32:Int))<|(some (IntKind.wrap .u64 (i+(i.fdiv (2 ^ (min ((32:Int)).toNat (IntKind.bits .u64))))))).bind fun j=>gd (Q9 j)<|some (QN .i64 j (127:Int))
def Q0N(F:Nat)(a:Int):Option Int:=
 (Q0M F a).bind fun b=>some b
def MI(F:Nat)(a:Bool):Option Bool:=
 some a
def Jr(F:Nat)(a:Int):Option Bool:=
 br (decide ((1:Int)<=a)) (br (decide (a<=16)) ((Q0N F (IntKind.wrap .u64 a)).bind fun b=>MI F (b==1)) (MI F false)) (MI F false)
def gq(F:Nat):Option Int:=
 some (-1:Int)
def Rj(F:Nat)(b:List Term)(d:Term->Option Bool)(c:(Int)->Option Int)(a:Int):Option Int:=
 br (decide (a<(b.length:Int))) (gd (0<=a/\a<(b.length:Int))<|gd (Q9 (gl b a.toNat).op_)<|(d (gl b a.toNat)).bind fun e=>br e (some a) (gd (Q9 (a+1))<|c (a+1))) (gq F)
def Rk(F:Nat)(a:List Term)(b:Term->Option Bool):Option Int:=
 Z7 (fun g (z:Int)=>Rj F a b g z) F (0:Int)
def Rw(F:Nat)(a:List Term)(b:Term->Option Bool):Option Bool:=
 (Rk F a b).bind fun c=>some (decide ((0:Int)<=c))
def Lt(F:Nat)(rc:Term->Int->Option Bool)(b:Term)(a:Int):Option Bool:=
 gd (Q9 (a-1))<|(rc b (a-1)).bind fun c=>some (!c)
def Xg(F:Nat)(rc:Term->Int->Option Bool)(b:Term)(c:Int)(a:Bool):Option Bool:=
 br a (some false) ((Rw F b.kids_ (fun y0=>Lt F rc y0 c)).bind fun d=>some (!d))
def ZD(F:Nat)(rc:Term->Int->Option Bool)(a:Term)(b:Int)(c:Int×Int)(d:Bool):Option Bool:=
 br d (some false) (br (decide ((a.kids_.length:Int)<c.1)) (Xg F rc a b true) (Xg F rc a b (decide (c.2<(a.kids_.length:Int)))))
def Ug(F:Nat)(rc:Term->Int->Option Bool)(a:Term)(b:Int)(c:Int×Int)(d:Bool):Option Bool:=
 br d (some false) (br (a.op_==4) ((Jr F a.num_).bind fun e=>br (!e) (ZD F rc a b c true) (br (a.op_==7) ((Jr F a.more_).bind fun i=>br (!i) (ZD F rc a b c true) (br (a.op_ != (7:Int)) (ZD F rc a b c (a.more_ != (0:Int))) (ZD F rc a b c false))) (br (a.op_ != (7:Int)) (ZD F rc a b c (a.more_ != (0:Int))) (ZD F rc a b c false)))) (br (a.op_==7) ((Jr F a.more_).bind fun j=>br (!j) (ZD F rc a b c true) (br (a.op_ != (7:Int)) (ZD F rc a b c (a.more_ != (0:Int))) (ZD F rc a b c false))) (br (a.op_ != (7:Int)) (ZD F rc a b c (a.more_ != (0:Int))) (ZD F rc a b c false))))
def Js(F:Nat)(rc:Term->Int->Option Bool)(a:Term)(b:Int)(d:Int×Int×Bool)(c:Int×Int)(e:Bool):Option Bool:=
 br e (some false) (br d.2.2 (br (decide (a.num_<d.1)) (Ug F rc a b c true) (br (decide (d.2.1<a.num_)) (Ug F rc a b c true) (br (!d.2.2) (Ug F rc a b c (a.num_ != (0:Int))) (Ug F rc a b c false)))) (br (!d.2.2) (Ug F rc a b c (a.num_ != (0:Int))) (Ug F rc a b c false)))
def MJ(F:Nat)(rc:Term->Int->Option Bool)(a:Term)(b:Int):Option Bool:=
 (MV F a.op_).bind fun c=>(MX F a.op_).bind fun d=>br (decide (a.op_<1)) (Js F rc a b c d true) (br (decide ((11:Int)<a.op_)) (Js F rc a b c d true) (Js F rc a b c d (b==0)))
def ZE:Nat->Term->Int->Option Bool
 | 0=>fun _ _=>none
 | F+1=>MJ F (ZE F)
def Bq(F:Nat)(a:Term):Option Int:=
 (Ju F a (40:Int)).bind fun b=>br (decide ((40:Int)<b)) (some (1:Int)) ((ZE F a (8:Int)).bind fun c=>br (!c) (some (16:Int)) (some (0:Int)))
def UI(F:Nat)(a:Int)(b:(Int)->Option Bool)(c:Bool):Option Bool:=
 br c (some false) (gd (Q9 (a+1))<|b (a+1))
def RQ(F:Nat)(a:Bool):Option Bool:=
 some a
def qt(F:Nat)(a:List Bracket):Option Bool:=
 br (decide (1<=(a.length:Int))) (RQ F (decide ((a.length:Int)<=6))) (RQ F false)
def KQ(F:Nat)(b:List Bracket)(c:(Int)->Option Bool)(a:Int):Option Bool:=
 br (decide (a<(b.length:Int))) (gd (0<=a/\a<(b.length:Int))<|br (decide (((gl b a.toNat).up_)<1)) (UI F a c true) (br (decide ((268435456:Int)<((gl b a.toNat).up_))) (UI F a c true) (br (decide (((gl b a.toNat).rate_)<0)) (UI F a c true) (br (decide ((1048576:Int)<((gl b a.toNat).rate_))) (UI F a c true) (br (decide ((0:Int)<a)) (gd (Q9 (a-1))<|gd (0<=(a-1)/\(a-1)<(b.length:Int))<|UI F a c (decide (((gl b a.toNat).up_)<=((gl b (a-1).toNat).up_)))) (UI F a c false)))))) (qt F b)
def RR(F:Nat)(a:List Bracket):Option Bool:=
 Z7 (fun g (z:Int)=>KQ F a g z) F (0:Int)
def KR(F:Nat)(a:Bool):Option Int:=
 br a (some (3:Int)) (some (0:Int))
def KS(F:Nat)(a:Scheme)(c:Bool):Option Int:=
 br c (some (2:Int)) ((Bd F a.n_).bind fun d=>br (!d) (some (5:Int)) ((Bq F a.cond_).bind fun b=>br (b != (0:Int)) (some b) ((RR F a.brackets_).bind fun e=>br (!e) (KR F true) (br (decide (a.excludes_<0)) (KR F true) (br (decide ((65536:Int)<=a.excludes_)) (KR F true) (gd (0<=a.N_)<|KR F ((QN .i64 (a.excludes_.fdiv (2 ^ (min (a.N_).toNat (IntKind.bits .i64)))) (1:Int))==1)))))))
def BD(F:Nat)(a:Scheme):Option Int:=
 br (decide (a.N_<0)) (KS F a true) (br (decide ((15:Int)<a.N_)) (KS F a true) (br (decide (a.least_<0)) (KS F a true) (KS F a (decide ((268435456:Int)<a.least_)))))
def BF(F:Nat)(a b:Scheme):Option Bool:=
 some (Zm a.n_ b.n_)
def gw(F:Nat):Option Int:=
 some (-1:Int)
def gy(F:Nat)(b:List Scheme)(d:Scheme->Option Bool)(c:(Int)->Option Int)(a:Int):Option Int:=
 br (decide (a<(b.length:Int))) (gd (0<=a/\a<(b.length:Int))<|(d (gl b a.toNat)).bind fun e=>br e (some a) (gd (Q9 (a+1))<|c (a+1))) (gw F)
def Bs(F:Nat)(a:List Scheme)(b:Scheme->Option Bool):Option Int:=
 Z7 (fun g (z:Int)=>gy F a b g z) F (0:Int)
def KJ(F:Nat)(a:List Scheme)(b:Scheme->Option Bool):Option Bool:=
 (Bs F a b).bind fun c=>some (decide ((0:Int)<=c))
def ju(F:Nat)(a:Scheme)(b:Int):Option Bool:=
 some (a.N_==b)
def BE(F:Nat)(a:List Scheme)(b:Int):Option Int:=
 (Bs F a (fun y0=>ju F y0 b)).bind fun c=>some c
def RL(F:Nat)(a:Int)(b:(Int)->Option Bool):Option Bool:=
 gd (Q9 (a+1))<|b (a+1)
def RM(F:Nat)(b:Int)(a:(Int)->Option Bool)(c:Bool):Option Bool:=
 br c (some false) (RL F b a)
def jr(F:Nat):Option Bool:=
 some true
def KP(F:Nat)(d:List Scheme)(e:Scheme)(c:(Int)->Option Bool)(a:Int):Option Bool:=
 br (decide (a<16)) (gd (0<=a)<|br ((QN .i64 (e.excludes_.fdiv (2 ^ (min (a).toNat (IntKind.bits .i64)))) (1:Int))==0) (RL F a c) ((BE F d a).bind fun b=>br (decide (b<0)) (RM F a c true) (gd (0<=b/\b<(d.length:Int))<|gd (0<=e.N_)<|RM F a c ((QN .i64 (((gl d b.toNat).excludes_).fdiv (2 ^ (min (e.N_).toNat (IntKind.bits .i64)))) (1:Int))==0)))) (jr F)
def RN(F:Nat)(a:List Scheme)(b:Scheme):Option Bool:=
 Z7 (fun g (z:Int)=>KP F a b g z) F (0:Int)
def Xp(F:Nat)(a:Int)(b:(Int)->Option (Int×Int))(c:Bool):Option (Int×Int):=
 br c (some (a,(6:Int))) (gd (Q9 (a+1))<|b (a+1))
def jv(F:Nat):Option (Int×Int):=
 some ((-1:Int),(0:Int))
def KT(F:Nat)(b:List Scheme)(c:(Int)->Option (Int×Int))(a:Int):Option (Int×Int):=
 br (decide (a<(b.length:Int))) (gd (0<=a/\a<(b.length:Int))<|(RN F b (gl b a.toNat)).bind fun d=>br (!d) (some (a,(17:Int))) (gd (Q9 (a+1))<|c (a+1))) (jv F)
def qw(F:Nat)(a:List Scheme):Option (Int×Int):=
 Z7 (fun g (z:Int)=>KT F a g z) F (0:Int)
def KU(F:Nat)(b:List Scheme)(c:(Int)->Option (Int×Int))(a:Int):Option (Int×Int):=
 br (decide (a<(b.length:Int))) (gd (0<=a/\a<(b.length:Int))<|(BD F (gl b a.toNat)).bind fun d=>br (d != (0:Int)) (some (a,d)) (br (decide ((0:Int)<a)) (gd (Q9 (a-1))<|gd (0<=(a-1)/\(a-1)<(b.length:Int))<|br (decide (((gl b a.toNat).N_)<=((gl b (a-1).toNat).N_))) (Xp F a c true) (gd (0<=a/\a<=(b.length:Int))<|(KJ F (b.take a.toNat) (fun y0=>BF F y0 (gl b a.toNat))).bind fun e=>Xp F a c e)) (gd (0<=a/\a<=(b.length:Int))<|(KJ F (b.take a.toNat) (fun y0=>BF F y0 (gl b a.toNat))).bind fun i=>Xp F a c i))) (qw F b)
def RS(F:Nat)(a:List Scheme):Option (Int×Int):=
 br (decide (16<(a.length:Int))) (some ((0:Int),(1:Int))) (Z7 (fun g (z:Int)=>KU F a g z) F (0:Int))
def HU(F:Nat)(a:List Line)(b:List Re_)(c:List Scheme):Option Int:=
 br ((a.length:Int) != (b.length:Int)) (some (3:Int)) (br (decide (20<(a.length:Int))) (some (1:Int)) ((RS F c).bind fun d=>some d.2))
def gz(F:Nat):Option Int:=
 some (-1:Int)
def Jy(F:Nat)(b:List Rect)(d:Rect->Option Bool)(c:(Int)->Option Int)(a:Int):Option Int:=
 br (decide (a<(b.length:Int))) (gd (0<=a/\a<(b.length:Int))<|(d (gl b a.toNat)).bind fun e=>br e (some a) (gd (Q9 (a+1))<|c (a+1))) (gz F)
def LZ(F:Nat)(a:List Rect)(b:Rect->Option Bool):Option Int:=
 Z7 (fun g (z:Int)=>Jy F a b g z) F (0:Int)
def Xn(F:Nat)(a:List Rect)(b:Rect->Option Bool):Option Bool:=
 (LZ F a b).bind fun c=>some (decide ((0:Int)<=c))
def Vq(F:Nat)(a:Bool):Option Bool:=
 some a
def Se(F:Nat)(a:Rect):Option Bool:=
 br (decide ((0:Int)<=a.L_)) (br (decide (a.L_<a.R_)) (br (decide (a.R_<=16384)) (br (decide ((0:Int)<=a.w_)) (br (decide (a.w_<a.H_)) (Vq F (decide (a.H_<=16384))) (Vq F false)) (Vq F false)) (Vq F false)) (Vq F false)) (Vq F false)
def qH(F:Nat)(a:Rect):Option Bool:=
 (Se F a).bind fun b=>some (!b)
def RC(F:Nat)(a:Int)(b:(Int×Int×(List Int))->Option (List Int))(c:Int)(d:List Int):Option (List Int):=
 gd (Q9 (a+1))<|b (c,(a+1),d)
def ql(F:Nat)(a:Int)(b:List Int):Option (List Int):=
 gd (0<=a/\a<=((b.length:Nat):Int)/\((0:Nat):Int)+((b.length:Nat):Int)<=(b.length:Int))<|gd (0<=a/\a<=((List.length (clr b (0+(a).toNat) (b.length-(a).toNat)):Nat):Int))<|some ((clr b (0+(a).toNat) (b.length-(a).toNat)).take (a).toNat)
def gZ(F:Nat)(e:List Int)(b:Int)(i:(Int×Int×(List Int))->Option (List Int))(d a:Int)(c:List Int):Option (List Int):=
 br (decide (a<(((e.length-(b).toNat):Nat):Int))) (gd (0<=a/\a<(((e.length-(b).toNat):Nat):Int))<|gd (((0+(b).toNat)+(a).toNat)<List.length c)<|gd (Q9 (a-1))<|gd (0<=(a-1)/\(a-1)<(((e.length-(b).toNat):Nat):Int))<|gd (((0+(b).toNat)+((a-1)).toNat)<List.length c)<|br ((gl c ((0+(b).toNat)+(a).toNat)) != (gl c ((0+(b).toNat)+((a-1)).toNat))) (gd (0<=a/\a<(((e.length-(b).toNat):Nat):Int))<|gd (((0+(b).toNat)+(a).toNat)<List.length c)<|gd (0<=d/\d<(c.length:Int))<|gd (Q9 (d+1))<|RC F a i (d+1) (List.set c d.toNat (gl c ((0+(b).toNat)+(a).toNat)))) (RC F a i d c)) (ql F d c)
def qk(F:Nat)(a:Int)(b:(Int)->Option (List Int)):Option (List Int):=
 gd (Q9 (a+1))<|b (a+1)
def qj(F:Nat)(a:List Int):Option (List Int):=
 some a
def ja(F:Nat)(b:List Int)(c:(Int)->Option (List Int))(a:Int):Option (List Int):=
 br (decide (a<(b.length:Int))) (gd (0<=a/\a<(b.length:Int))<|gd (Q9 (a-1))<|gd (0<=(a-1)/\(a-1)<(b.length:Int))<|br ((gl b a.toNat)==(gl b (a-1).toNat)) (gd (0<=a/\a<=((b.length:Nat):Int)/\((0:Nat):Int)+((b.length:Nat):Int)<=(b.length:Int))<|Z7 (fun g (z:Int×Int×(List Int))=>gZ F b a g z.1 z.2.1 z.2.2) F (a,(1:Int),b)) (qk F a c)) (qj F b)
def Bw(F:Nat)(a:List Int):Option (List Int):=
 br (decide ((a.length:Int)<2)) (some a) (Z7 (fun g (z:Int)=>ja F a g z) F (1:Int))
def qU(F:Nat)(a:Int)(b:(Int×(List Int))->Option (List Int))(c:List Int):Option (List Int):=
 gd (Q9 (a+1))<|b ((a+1),c)
def qV(F:Nat)(c:(List (List Rect)))(b:Int)(e i:(Int×(List Int))->Option (List Int))(a:Int)(d:List Int):Option (List Int):=
 br (decide (a<((List.length (gl c b.toNat):Nat):Int))) (gd (0<=a/\a<((List.length (gl c b.toNat):Nat):Int))<|gd (d.length+(List.length ([(gl (gl c b.toNat) a.toNat).w_,(gl (gl c b.toNat) a.toNat).H_]:List Int))<=Y5)<|gd (Q9 (a+1))<|i ((a+1),(d++([(gl (gl c b.toNat) a.toNat).w_,(gl (gl c b.toNat) a.toNat).H_]:List Int)))) (qU F b e d)
def qT(F:Nat)(a:List Int):Option (List Int):=
 (Uh a).bind fun b=>(Bw F b).bind fun c=>some c
def qW(F:Nat)(b:(List (List Rect)))(d:(Int×(List Int))->Option (List Int))(a:Int)(c:List Int):Option (List Int):=
 br (decide (a<(b.length:Int))) (gd (0<=a/\a<(b.length:Int))<|Z7 (fun g (z:Int×(List Int))=>qV F b a d g z.1 z.2) F ((0:Int),c)) (qT F c)
def BR(F:Nat)(a:(List (List Rect))):Option (List Int):=
 Z7 (fun g (z:Int×(List Int))=>qW F a g z.1 z.2) F ((0:Int),([]:List Int))
def FG(F:Nat)(a:Int):Option Bool:=
 some (a != a)
def PD(F:Nat)(a b:Int):Option Int:=
 (FG F a).bind fun d=>(FG F b).bind fun c=>br d (br c (some (0:Int)) (some (-1:Int))) (br c (some (1:Int)) (br (decide (a<b)) (some (-1:Int)) (br (decide (b<a)) (some (1:Int)) (some (0:Int)))))
def St(F:Nat)(a b:Span):Option Int:=
 (PD F a.L_ b.L_).bind fun c=>some c
def BN(F:Nat)(a:Int)(b:(Int×(List Span))->Option (List Span))(c:List Span):Option (List Span):=
 gd (Q9 (a+1))<|b ((a+1),c)
def BO(F:Nat)(b:List Rect)(a:Int)(c:List Span)(d:(Int×(List Span))->Option (List Span))(e:Bool):Option (List Span):=
 br e (gd (c.length+(List.length ([(⟨(gl b a.toNat).L_,(gl b a.toNat).R_⟩:Span)]:List Span))<=Y5)<|BN F a d (c++([(⟨(gl b a.toNat).L_,(gl b a.toNat).R_⟩:Span)]:List Span))) (BN F a d c)
def BM(F:Nat)(a:Int)(b:(Int×(List Span))->Option (List Span))(c:List Span):Option (List Span):=
 gd (Q9 (a+1))<|b ((a+1),c)
def Xu(F:Nat)(c:List Span)(b:Int)(a:List Span)(d:(Int×(List Span))->Option (List Span))(e:Bool):Option (List Span):=
 br e (gd (Q9 ((a.length:Int)-1))<|gd (Q9 ((a.length:Int)-1))<|gd (0<=((a.length:Int)-1)/\((a.length:Int)-1)<(a.length:Int))<|gd (0<=((a.length:Int)-1)/\((a.length:Int)-1)<(a.length:Int))<|BM F b d (List.set a ((a.length:Int)-1).toNat (⟨(gl a ((a.length:Int)-1).toNat).L_,(J3 ((gl a ((a.length:Int)-1).toNat).R_) ((gl c b.toNat).R_))⟩:Span))) (gd (a.length+(List.length ([(gl c b.toNat)]:List Span))<=Y5)<|BM F b d (a++([(gl c b.toNat)]:List Span)))
def qL(F:Nat)(a:List Span):Option (List Span):=
 some a
def qM(F:Nat)(c:List Span)(d:(Int×(List Span))->Option (List Span))(b:Int)(a:List Span):Option (List Span):=
 br (decide (b<(c.length:Int))) (gd (0<=b/\b<(c.length:Int))<|br (decide (0<(a.length:Int))) (gd (Q9 ((a.length:Int)-1))<|gd (0<=((a.length:Int)-1)/\((a.length:Int)-1)<(a.length:Int))<|Xu F c b a d (decide (((gl c b.toNat).L_)<=((gl a ((a.length:Int)-1).toNat).R_)))) (Xu F c b a d false)) (qL F a)
def Ss(F:Nat)(a:List Span):Option (List Span):=
 (Jx a (fun y0 y1=>St F y0 y1)).bind fun b=>Z7 (fun g (z:Int×(List Span))=>qM F b g z.1 z.2) F ((0:Int),([]:List Span))
def qN(F:Nat)(b:List Rect)(e:Int)(d:(Int×(List Span))->Option (List Span))(a:Int)(c:List Span):Option (List Span):=
 br (decide (a<(b.length:Int))) (gd (0<=a/\a<(b.length:Int))<|br (decide (((gl b a.toNat).w_)<=e)) (BO F b a c d (decide (e<((gl b a.toNat).H_)))) (BO F b a c d false)) (Ss F c)
def Xv(F:Nat)(a:List Rect)(b:Int):Option (List Span):=
 Z7 (fun g (z:Int×(List Span))=>qN F a b g z.1 z.2) F ((0:Int),([]:List Span))
def qG(F:Nat)(a:Int)(b:List Rect):Option (List Span):=
 (Xv F b a).bind fun c=>some c
def gL(F:Nat):Option Bool:=
 some true
def gM(F:Nat)(b c:List Span)(d:(Int)->Option Bool)(a:Int):Option Bool:=
 br (decide (a<(b.length:Int))) (gd (0<=a/\a<(b.length:Int))<|gd (0<=a/\a<(c.length:Int))<|br (!((((gl b a.toNat).L_)==((gl c a.toNat).L_))&&((((gl b a.toNat).R_)==((gl c a.toNat).R_))&&true))) (some false) (gd (Q9 (a+1))<|d (a+1))) (gL F)
def Rs(F:Nat)(a b:List Span):Option Bool:=
 br ((a.length:Int) != (b.length:Int)) (some false) (Z7 (fun g (z:Int)=>gM F a b g z) F (0:Int))
def qC(F:Nat)(a:Int)(b:(Int×(List Rect))->Option (List Rect))(c:List Rect):Option (List Rect):=
 gd (Q9 (a+1))<|b ((a+1),c)
def qD(F:Nat)(b:List Band)(a:Int)(e i:(Int×(List Rect))->Option (List Rect))(c:Int)(d:List Rect):Option (List Rect):=
 br (decide (c<((List.length ((gl b a.toNat).spans_):Nat):Int))) (gd (0<=c/\c<((List.length ((gl b a.toNat).spans_):Nat):Int))<|gd (d.length+(List.length ([(⟨(gl ((gl b a.toNat).spans_) c.toNat).L_,(gl b a.toNat).w_,(gl ((gl b a.toNat).spans_) c.toNat).R_,(gl b a.toNat).H_⟩:Rect)]:List Rect))<=Y5)<|gd (Q9 (c+1))<|i ((c+1),(d++([(⟨(gl ((gl b a.toNat).spans_) c.toNat).L_,(gl b a.toNat).w_,(gl ((gl b a.toNat).spans_) c.toNat).R_,(gl b a.toNat).H_⟩:Rect)]:List Rect)))) (qC F a e d)
def qB(F:Nat)(a:List Rect):Option (List Rect):=
 some a
def qE(F:Nat)(b:List Band)(d:(Int×(List Rect))->Option (List Rect))(a:Int)(c:List Rect):Option (List Rect):=
 br (decide (a<(b.length:Int))) (gd (0<=a/\a<(b.length:Int))<|Z7 (fun g (z:Int×(List Rect))=>qD F b a d g z.1 z.2) F ((0:Int),c)) (qB F c)
def Sd(F:Nat)(a:List Band):Option (List Rect):=
 Z7 (fun g (z:Int×(List Rect))=>qE F a g z.1 z.2) F ((0:Int),([]:List Rect))
def BS(F:Nat)(a:Int)(b:(Int×(List Band))->Option (List Rect))(c:List Band):Option (List Rect):=
 gd (Q9 (a+1))<|b ((a+1),c)
def KY(F:Nat)(c:List Int)(b:Int)(a:List Band)(e:List Span)(d:(Int×(List Band))->Option (List Rect))(i:Bool):Option (List Rect):=
 br i (gd (Q9 ((a.length:Int)-1))<|gd (0<=((a.length:Int)-1)/\((a.length:Int)-1)<(a.length:Int))<|BS F b d (List.set a ((a.length:Int)-1).toNat (⟨(gl a ((a.length:Int)-1).toNat).w_,(gl c b.toNat),(gl a ((a.length:Int)-1).toNat).spans_⟩:Band))) (gd (a.length+(List.length ([(⟨(gl c (b-1).toNat),(gl c b.toNat),e⟩:Band)]:List Band))<=Y5)<|BS F b d (a++([(⟨(gl c (b-1).toNat),(gl c b.toNat),e⟩:Band)]:List Band)))
def Sv(F:Nat)(a:List Band):Option (List Rect):=
 (Sd F a).bind fun b=>some b
def jW(F:Nat)(c:List Int)(i:Int->Option (List Span))(e:(Int×(List Band))->Option (List Rect))(b:Int)(a:List Band):Option (List Rect):=
 br (decide (b<(c.length:Int))) (gd (Q9 (b-1))<|gd (0<=(b-1)/\(b-1)<(c.length:Int))<|gd (0<=b/\b<(c.length:Int))<|gd (Q9 (b-1))<|gd (0<=(b-1)/\(b-1)<(c.length:Int))<|(i (gl c (b-1).toNat)).bind fun d=>br (decide (0<(a.length:Int))) (gd (Q9 ((a.length:Int)-1))<|gd (0<=((a.length:Int)-1)/\((a.length:Int)-1)<(a.length:Int))<|br (((gl a ((a.length:Int)-1).toNat).H_)==(gl c (b-1).toNat)) (gd (Q9 ((a.length:Int)-1))<|gd (0<=((a.length:Int)-1)/\((a.length:Int)-1)<(a.length:Int))<|(Rs F ((gl a ((a.length:Int)-1).toNat).spans_) d).bind fun j=>KY F c b a d e j) (KY F c b a d e false)) (KY F c b a d e false)) (Sv F a)
def BT(F:Nat)(a:List Int)(b:Int->Option (List Span)):Option (List Rect):=
 Z7 (fun g (z:Int×(List Band))=>jW F a b g z.1 z.2) F ((1:Int),([]:List Band))
def BJ(F:Nat)(a:List Rect):Option (List Rect):=
 (BR F ([a]:List (List Rect))).bind fun b=>(BT F b (fun y0=>qG F y0 a)).bind fun c=>some c
def gN(F:Nat):Option Bool:=
 some true
def gP(F:Nat)(b c:List Rect)(d:(Int)->Option Bool)(a:Int):Option Bool:=
 br (decide (a<(b.length:Int))) (gd (0<=a/\a<(b.length:Int))<|gd (0<=a/\a<(c.length:Int))<|br (!((((gl b a.toNat).L_)==((gl c a.toNat).L_))&&((((gl b a.toNat).w_)==((gl c a.toNat).w_))&&((((gl b a.toNat).R_)==((gl c a.toNat).R_))&&((((gl b a.toNat).H_)==((gl c a.toNat).H_))&&true))))) (some false) (gd (Q9 (a+1))<|d (a+1))) (gN F)
def Rt(F:Nat)(a b:List Rect):Option Bool:=
 br ((a.length:Int) != (b.length:Int)) (some false) (Z7 (fun g (z:Int)=>gP F a b g z) F (0:Int))
def Sr(F:Nat)(a:Re_)(b:Bool):Option Bool:=
 br b (some false) ((BJ F a.t_).bind fun c=>(Rt F c a.t_).bind fun d=>some d)
def Vr(F:Nat)(a:Re_):Option Bool:=
 br (decide (120<(a.t_.length:Int))) (Sr F a true) ((Xn F a.t_ (fun y0=>qH F y0)).bind fun b=>Sr F a b)
def Md(F:Nat)(a:Int)(b:(Int)->Option Int)(c:Bool):Option Int:=
 br c (some (6:Int)) (gd (Q9 (a+1))<|b (a+1))
def Py(F:Nat)(b:List Crop)(a:Int)(c:(Int)->Option Int)(d:Bool):Option Int:=
 br d (some (14:Int)) (br (decide ((0:Int)<a)) (gd (Q9 (a-1))<|gd (0<=(a-1)/\(a-1)<(b.length:Int))<|Md F a c (Vp ((gl b a.toNat).n_) ((gl b (a-1).toNat).n_)||Zm ((gl b a.toNat).n_) ((gl b (a-1).toNat).n_))) (Md F a c false))
def Pz(F:Nat)(b:List Crop)(a:Int)(c:(Int)->Option Int)(d:Bool):Option Int:=
 br d (some (2:Int)) (br (decide (((gl b a.toNat).m_)<0)) (Py F b a c true) (Py F b a c (decide ((31:Int)<((gl b a.toNat).m_)))))
def Q2E(F:Nat):Option Int:=
 some (0:Int)
def FB(F:Nat)(b:List Crop)(c:(Int)->Option Int)(a:Int):Option Int:=
 br (decide (a<(b.length:Int))) (gd (0<=a/\a<(b.length:Int))<|(Bd F ((gl b a.toNat).n_)).bind fun d=>br (!d) (some (5:Int)) (br (decide (((gl b a.toNat).f_)<0)) (Pz F b a c true) (Pz F b a c (decide ((40:Int)<((gl b a.toNat).f_)))))) (Q2E F)
def FC(F:Nat)(a:List Crop):Option Int:=
 br (decide (40<(a.length:Int))) (some (1:Int)) (Z7 (fun g (z:Int)=>FB F a g z) F (0:Int))
def gD(F:Nat):Option Int:=
 some (-1:Int)
def gF(F:Nat)(b:List Rg_)(d:Rg_->Option Bool)(c:(Int)->Option Int)(a:Int):Option Int:=
 br (decide (a<(b.length:Int))) (gd (0<=a/\a<(b.length:Int))<|(d (gl b a.toNat)).bind fun e=>br e (some a) (gd (Q9 (a+1))<|c (a+1))) (gD F)
def Rp(F:Nat)(a:List Rg_)(b:Rg_->Option Bool):Option Int:=
 Z7 (fun g (z:Int)=>gF F a b g z) F (0:Int)
def Ry(F:Nat)(a:List Rg_)(b:Rg_->Option Bool):Option Bool:=
 (Rp F a b).bind fun c=>some (decide ((0:Int)<=c))
def CI(F:Nat)(a:Bool):Option Int:=
 br a (some (7:Int)) (some (0:Int))
def Hy(F:Nat)(a:Rg_)(b:Bool):Option Int:=
 br b (some (13:Int)) (br ((a.g_.t_.length:Int)==0) (CI F true) ((Vr F a.g_).bind fun c=>CI F (!c)))
def Hz(F:Nat)(a:Rg_)(b:Bool):Option Int:=
 br b (some (18:Int)) (br (decide (a.c_<0)) (Hy F a true) (Hy F a (decide ((40:Int)<=a.c_))))
def CJ(F:Nat)(a:Rg_):Option Int:=
 br (decide (a.y_<0)) (Hz F a true) (Hz F a (decide ((100:Int)<a.y_)))
def Q2O(F:Nat):Option Int:=
 some (0:Int)
def GP(F:Nat)(b:List Int)(c:(Int)->Option Int)(a:Int):Option Int:=
 br (decide (a<(b.length:Int))) (gd (0<=a/\a<(b.length:Int))<|br ((gl b a.toNat) != (0:Int)) (some (gl b a.toNat)) (gd (Q9 (a+1))<|c (a+1))) (Q2O F)
def FH(F:Nat)(a:List Int):Option Int:=
 Z7 (fun g (z:Int)=>GP F a g z) F (0:Int)
def CK(F:Nat)(a b:Rg_):Option Int:=
 (PD F a.y_ b.y_).bind fun c=>(PD F a.c_ b.c_).bind fun d=>(FH F ([c,d]:List Int)).bind fun e=>some e
def Q1r(F:Nat)(a:(List (Int×(List Rg_)))):Option ((List (Int×(List Rg_)))):=
 some a
def Pm(F:Nat)(b:List Rg_)(d:(Int×(List (Int×(List Rg_))))->Option ((List (Int×(List Rg_)))))(a:Int)(c:(List (Int×(List Rg_)))):Option ((List (Int×(List Rg_)))):=
 br (decide (a<(b.length:Int))) (gd (0<=a/\a<(b.length:Int))<|gd ((gRow ((gl b a.toNat).y_) c).length+List.length ([(gl b a.toNat)]:List Rg_)<=Y5)<|gd (Q9 (a+1))<|d ((a+1),(gApp ((gl b a.toNat).y_) ([(gl b a.toNat)]:List Rg_) c))) (Q1r F c)
def vh(F:Nat)(a:List Rg_):Option ((List (Int×(List Rg_)))):=
 Z7 (fun g (z:Int×(List (Int×(List Rg_))))=>Pm F a g z.1 z.2) F ((0:Int),([]:List (Int×(List Rg_))))
def JC(F:Nat)(a:Bool):Option Bool:=
 some a
def Sf(F:Nat)(a b:Rect):Option Bool:=
 br (decide (a.L_<b.R_)) (br (decide (b.L_<a.R_)) (br (decide (a.w_<b.H_)) (JC F (decide (b.w_<a.H_))) (JC F false)) (JC F false)) (JC F false)
def qP(F:Nat)(a b:Rect):Option Bool:=
 (Sf F b a).bind fun c=>some c
def qQ(F:Nat)(a:Rect)(b:Re_):Option Bool:=
 (Xn F b.t_ (fun y0=>qP F y0 a)).bind fun c=>some c
def Su(F:Nat)(a:Bool):Option Bool:=
 some a
def BP(F:Nat)(a b:Re_):Option Bool:=
 (Vr F a).bind fun c=>br c ((Vr F b).bind fun d=>br d ((Xn F a.t_ (fun y0=>qQ F y0 b)).bind fun e=>Su F e) (Su F false)) (Su F false)
def vm(F:Nat)(a b:Rg_):Option Bool:=
 (BP F a.g_ b.g_).bind fun c=>some c
def HC(F:Nat)(a:Int)(b:(Int)->Option Int)(c:Bool):Option Int:=
 br c (some (3:Int)) (gd (Q9 (a+1))<|b (a+1))
def Q1t(F:Nat):Option Int:=
 some (0:Int)
def vk(F:Nat)(b:(Int×(List Rg_)))(e:(List (Int×(List Rg_))))(c:((List (Int×(List Rg_))))->Option Int)(d:(Int)->Option Int)(a:Int):Option Int:=
 br (decide (a<(b.2.length:Int))) (gd (0<=a/\a<(b.2.length:Int))<|gd (0<=a/\a<=(b.2.length:Int))<|(Ry F (b.2.take a.toNat) (fun y0=>vm F y0 (gl b.2 a.toNat))).bind fun i=>br i (some (11:Int)) (gd (Q9 (a+1))<|d (a+1))) (c e)
def CN(F:Nat)(a:((List (Int×(List Rg_))))->Option Int)(b:(List (Int×(List Rg_)))):Option Int:=
 Gz b (Q1t F) (fun c d=>
 Z7 (fun g (z:Int)=>vk F c d a g z) F (0:Int))
def CM(F:Nat)(a:List Rg_):Option Int:=
 (vh F a).bind fun b=>Z7 (fun g (z:(List (Int×(List Rg_))))=>CN F g z) F b
def Q1u(F:Nat)(b:List Rg_)(c:(Int)->Option Int)(a:Int):Option Int:=
 br (decide (a<(b.length:Int))) (gd (0<=a/\a<(b.length:Int))<|(CJ F (gl b a.toNat)).bind fun d=>br (d != (0:Int)) (some d) (br (decide ((0:Int)<a)) (gd (Q9 (a-1))<|gd (0<=(a-1)/\(a-1)<(b.length:Int))<|(CK F (gl b (a-1).toNat) (gl b a.toNat)).bind fun e=>HC F a c (decide ((0:Int)<=e))) (HC F a c false))) (CM F b)
def CO(F:Nat)(a:List Rg_):Option Int:=
 br (decide (200<(a.length:Int))) (some (1:Int)) (Z7 (fun g (z:Int)=>Q1u F a g z) F (0:Int))
def HJ(F:Nat)(a:Bool):Option Int:=
 br a (some (7:Int)) (some (0:Int))
def Ke(F:Nat)(a:A2_)(b:Bool):Option Int:=
 br b (some (9:Int)) (br ((a.g_.t_.length:Int)==0) (HJ F true) ((Vr F a.g_).bind fun c=>HJ F (!c)))
def Kf(F:Nat)(a:A2_)(b:Bool):Option Int:=
 br b (some (14:Int)) (br (decide (a.F_<0)) (Ke F a true) (br (decide (a.u_<=a.F_)) (Ke F a true) (Ke F a (decide ((36865:Int)<a.u_)))))
def CZ(F:Nat)(a:A2_)(b:Bool):Option Int:=
 br b (some (2:Int)) (br (decide (a.k_<0)) (Kf F a true) (Kf F a (decide ((15:Int)<a.k_))))
def Fa(F:Nat)(a:A2_):Option Int:=
 br (decide (a.N_<1)) (CZ F a true) (CZ F a (decide ((1073741824:Int)<a.N_)))
def HQ(F:Nat)(a:Int)(b:(Int)->Option Int)(c:Bool):Option Int:=
 br c (some (3:Int)) (gd (Q9 (a+1))<|b (a+1))
def Q1Z(F:Nat):Option Int:=
 some (0:Int)
def Q2a(F:Nat)(b:List A2_)(c:(Int)->Option Int)(a:Int):Option Int:=
 br (decide (a<(b.length:Int))) (gd (0<=a/\a<(b.length:Int))<|(Fa F (gl b a.toNat)).bind fun d=>br (d != (0:Int)) (some d) (br (decide ((0:Int)<a)) (gd (Q9 (a-1))<|gd (0<=(a-1)/\(a-1)<(b.length:Int))<|HQ F a c (decide (((gl b a.toNat).N_)<=((gl b (a-1).toNat).N_)))) (HQ F a c false))) (Q1Z F)
def Ff(F:Nat)(a:List A2_):Option Int:=
 br (decide (60<(a.length:Int))) (some (1:Int)) (Z7 (fun g (z:Int)=>Q2a F a g z) F (0:Int))
def HK(F:Nat)(a:Bool):Option Int:=
 br a (some (9:Int)) (some (0:Int))
def Fb(F:Nat)(c:List A2_)(a:Int):Option Int:=
 (Ff F c).bind fun b=>br (b != (0:Int)) (some b) (br (decide (a<0)) (HK F true) (HK F (decide ((36864:Int)<a))))
def Bx(F:Nat)(a:List Rect):Option (List Rect):=
 FN a.length (some ([])) (gd ((0)+a.length<=Y5)<|some (([]:List Rect)++a))
def Fc(F:Nat)(a:A2_):Option A2_:=
 (Bx F a.g_.t_).bind fun b=>some (⟨a.N_,a.k_,a.F_,a.u_,(⟨b⟩:Re_)⟩:A2_)
def vF(F:Nat)(a:List A2_):Option (List A2_):=
 some a
def Q1W(F:Nat)(c:List A2_)(e:(Int×(List A2_))->Option (List A2_))(a:Int)(b:List A2_):Option (List A2_):=
 br (decide (a<(c.length:Int))) (gd (0<=a/\a<(c.length:Int))<|(Fc F (gl c a.toNat)).bind fun d=>gd (b.length+(List.length ([d]:List A2_))<=Y5)<|gd (Q9 (a+1))<|e ((a+1),(b++([d]:List A2_)))) (vF F b)
def Fd(F:Nat)(a:List A2_):Option (List A2_):=
 Z7 (fun g (z:Int×(List A2_))=>Q1W F a g z.1 z.2) F ((0:Int),([]:List A2_))
def CY(F:Nat)(a:Bool):Option Bool:=
 some a
def HI(F:Nat)(a:A2_)(b:Int):Option Bool:=
 br (decide (a.F_<=b)) (CY F (decide (b<a.u_))) (CY F false)
def vJ(F:Nat)(a:A2_)(b:Int):Option Bool:=
 (HI F a b).bind fun c=>some (!c)
def gJ(F:Nat):Option Int:=
 some (-1:Int)
def gK(F:Nat)(b:List A2_)(d:A2_->Option Bool)(c:(Int)->Option Int)(a:Int):Option Int:=
 br (decide (a<(b.length:Int))) (gd (0<=a/\a<(b.length:Int))<|(d (gl b a.toNat)).bind fun e=>br e (some a) (gd (Q9 (a+1))<|c (a+1))) (gJ F)
def Rr(F:Nat)(a:List A2_)(b:A2_->Option Bool):Option Int:=
 Z7 (fun g (z:Int)=>gK F a b g z) F (0:Int)
def Bu(F:Nat)(a:Int)(b:(Int×Int×(List A2_))->Option (List A2_))(c:Int)(d:List A2_):Option (List A2_):=
 gd (Q9 (a+1))<|b (c,(a+1),d)
def qb(F:Nat)(a:Int)(b:List A2_):Option (List A2_):=
 gd (0<=a/\a<=((b.length:Nat):Int)/\((0:Nat):Int)+((b.length:Nat):Int)<=(b.length:Int))<|gd (0<=a/\a<=((List.length (clr b (0+(a).toNat) (b.length-(a).toNat)):Nat):Int))<|some ((clr b (0+(a).toNat) (b.length-(a).toNat)).take (a).toNat)
def gR(F:Nat)(e:A2_->Option Bool)(d:(Int×Int×(List A2_))->Option (List A2_))(b c:Int)(a:List A2_):Option (List A2_):=
 br (decide (c<(a.length:Int))) (gd (0<=c/\c<(a.length:Int))<|(e (gl a c.toNat)).bind fun i=>br (!i) (gd (0<=b/\b<(a.length:Int))<|gd (Q9 (b+1))<|Bu F c d (b+1) (List.set a b.toNat (gl a c.toNat))) (Bu F c d b a)) (qb F b a)
def Rv(F:Nat)(b:List A2_)(c:A2_->Option Bool):Option (List A2_):=
 (Rr F b c).bind fun a=>br (a==(-1:Int)) (some b) (gd (Q9 (a+1))<|Z7 (fun g (z:Int×Int×(List A2_))=>gR F c g z.1 z.2.1 z.2.2) F (a,(a+1),b))
def HP(F:Nat)(a:List A2_)(b:Int):Option ((List A2_)×Int):=
 (Fb F a b).bind fun c=>br (c != (0:Int)) (some ([],c)) ((Fd F a).bind fun d=>(Rv F d (fun y0=>vJ F y0 b)).bind fun e=>some (e,(0:Int)))
def MR(F:Nat)(a:Bool):Option Bool:=
 some a
def Bl(F:Nat)(a:Int)(b:TermPlace):Option Bool:=
 br (decide (a<0)) (MR F true) (MR F (decide ((b.world_.crops_.length:Int)<=a)))
def MQ(F:Nat)(a:Rg_)(b:TermPlace):Option Bool:=
 (Bl F a.c_ b).bind fun c=>some c
def gG(F:Nat):Option Int:=
 some (-1:Int)
def KI(F:Nat)(b:List Rg_)(d:TermPlace)(c:(Int)->Option Int)(a:Int):Option Int:=
 br (decide (a<(b.length:Int))) (gd (0<=a/\a<(b.length:Int))<|(MQ F (gl b a.toNat) d).bind fun e=>br e (some a) (gd (Q9 (a+1))<|c (a+1))) (gG F)
def Ro(F:Nat)(a:List Rg_)(b:TermPlace):Option Int:=
 Z7 (fun g (z:Int)=>KI F a b g z) F (0:Int)
def Rx(F:Nat)(a:List Rg_)(b:TermPlace):Option Bool:=
 (Ro F a b).bind fun c=>some (decide ((0:Int)<=c))
def Bj(F:Nat)(a:TermPlace)(c:Bool):Option Int:=
 br c (some (18:Int)) ((HP F a.world_.zones_ a.world_.day_).bind fun b=>br (b.2 != (0:Int)) (some b.2) ((Vr F a.line_.g_).bind fun d=>br (!d) (some (7:Int)) (some (0:Int))))
def Bk(F:Nat)(a:TermPlace)(c:Bool):Option Int:=
 br c (some (13:Int)) ((CO F a.world_.history_).bind fun b=>br (b != (0:Int)) (some b) (br (decide (a.world_.y_<0)) (Bj F a true) (Bj F a (decide ((100:Int)<a.world_.y_)))))
def MS(F:Nat)(a:TermPlace)(d:Term):Option Int:=
 (Bq F d).bind fun b=>br (b != (0:Int)) (some b) ((FC F a.world_.crops_).bind fun c=>br (c != (0:Int)) (some c) ((Bl F a.line_.c_ a).bind fun e=>br e (Bk F a true) ((Rx F a.world_.history_ a).bind fun i=>Bk F a i)))
def Bf(F:Nat)(a:Squares):Option Squares:=
 some (⟨a.no_,a.yes_,a.open_⟩:Squares)
def qf(F:Nat)(a:List Span):Option (List Span):=
 some a
def KK(F:Nat)(b:(List (List Span)))(d:(Int×(List Span))->Option (List Span))(a:Int)(c:List Span):Option (List Span):=
 br (decide (a<(b.length:Int))) (gd (0<=a/\a<(b.length:Int))<|gd (c.length+(List.length (gl b a.toNat))<=Y5)<|gd (Q9 (a+1))<|d ((a+1),(c++(gl b a.toNat)))) (qf F c)
def RA(F:Nat)(b:(List (List Span)))(a:Int):Option (List Span):=
 (Ka a).bind fun c=>Z7 (fun g (z:Int×(List Span))=>KK F b g z.1 z.2) F ((0:Int),c)
def KL(F:Nat)(b:(List (List Span)))(d:(Int×Int)->Option (List Span))(c a:Int):Option (List Span):=
 br (decide (a<(b.length:Int))) (gd (0<=a/\a<(b.length:Int))<|gd (Q9 (c+((List.length (gl b a.toNat):Nat):Int)))<|br (decide ((c+((List.length (gl b a.toNat):Nat):Int))<0)) (none) (gd (Q9 (a+1))<|d ((c+((List.length (gl b a.toNat):Nat):Int)),(a+1)))) (RA F b c)
def qg(F:Nat)(a:(List (List Span))):Option (List Span):=
 Z7 (fun g (z:Int×Int)=>KL F a g z.1 z.2) F ((0:Int),(0:Int))
def Sk(F:Nat)(a:Bool):Option Bool:=
 some a
def JD(F:Nat)(a:Span)(b:Int):Option Bool:=
 br (decide (a.L_<=b)) (Sk F (decide (b<a.R_))) (Sk F false)
def gt(F:Nat):Option Int:=
 some (-1:Int)
def KH(F:Nat)(b:List Span)(d:Span->Option Bool)(c:(Int)->Option Int)(a:Int):Option Int:=
 br (decide (a<(b.length:Int))) (gd (0<=a/\a<(b.length:Int))<|(d (gl b a.toNat)).bind fun e=>br e (some a) (gd (Q9 (a+1))<|c (a+1))) (gt F)
def LY(F:Nat)(a:List Span)(b:Span->Option Bool):Option Int:=
 Z7 (fun g (z:Int)=>KH F a b g z) F (0:Int)
def qc(F:Nat)(a:List Span)(b:Span->Option Bool):Option Bool:=
 (LY F a b).bind fun c=>some (decide ((0:Int)<=c))
def BI(F:Nat)(a:List Span)(b:Int):Option Bool:=
 (qc F a (fun y0=>JD F y0 b)).bind fun c=>some c
def Xt(F:Nat)(a:Int)(b:(Int×(List Span))->Option (List Span))(c:List Span):Option (List Span):=
 gd (Q9 (a+1))<|b ((a+1),c)
def BG(F:Nat)(c:List Int)(a:Int)(b:List Span)(d:(Int×(List Span))->Option (List Span))(e:Bool):Option (List Span):=
 br e (gd (Q9 ((b.length:Int)-1))<|gd (0<=a/\a<(c.length:Int))<|gd (0<=((b.length:Int)-1)/\((b.length:Int)-1)<(b.length:Int))<|Xt F a d (List.set b ((b.length:Int)-1).toNat (⟨(gl b ((b.length:Int)-1).toNat).L_,(gl c a.toNat)⟩:Span))) (gd (0<=a/\a<(c.length:Int))<|gd (b.length+(List.length ([(⟨(gl c (a-1).toNat),(gl c a.toNat)⟩:Span)]:List Span))<=Y5)<|Xt F a d (b++([(⟨(gl c (a-1).toNat),(gl c a.toNat)⟩:Span)]:List Span)))
def Sg(F:Nat)(a:List Span):Option (List Span):=
 some a
def BH(F:Nat)(e i:List Span)(j:Bool->Bool->Option Bool)(c:List Int)(d:(Int×(List Span))->Option (List Span))(b:Int)(a:List Span):Option (List Span):=
 br (decide (b<(c.length:Int))) (gd (Q9 (b-1))<|gd (0<=(b-1)/\(b-1)<(c.length:Int))<|(BI F e (gl c (b-1).toNat)).bind fun k=>(BI F i (gl c (b-1).toNat)).bind fun l=>(j k l).bind fun m=>br (!m) (Xt F b d a) (br (decide (0<(a.length:Int))) (gd (Q9 ((a.length:Int)-1))<|gd (0<=((a.length:Int)-1)/\((a.length:Int)-1)<(a.length:Int))<|BG F c b a d (((gl a ((a.length:Int)-1).toNat).R_)==(gl c (b-1).toNat))) (BG F c b a d false))) (Sg F a)
def qF(F:Nat)(b c:List Span)(d:Bool->Bool->Option Bool)(a:List Int):Option (List Span):=
 (Uh a).bind fun e=>(Bw F e).bind fun i=>Z7 (fun g (z:Int×(List Span))=>BH F b c d i g z.1 z.2) F ((1:Int),([]:List Span))
def Sh(F:Nat)(e i:List Span)(j:Bool->Bool->Option Bool)(b:List Span)(d:(Int×(List Int))->Option (List Span))(a:Int)(c:List Int):Option (List Span):=
 br (decide (a<(b.length:Int))) (gd (0<=a/\a<(b.length:Int))<|gd (c.length+(List.length ([(gl b a.toNat).L_,(gl b a.toNat).R_]:List Int))<=Y5)<|gd (Q9 (a+1))<|d ((a+1),(c++([(gl b a.toNat).L_,(gl b a.toNat).R_]:List Int)))) (qF F e i j c)
def Sj(F:Nat)(a b:List Span)(c:Bool->Bool->Option Bool):Option (List Span):=
 (qg F ([a,b]:List (List Span))).bind fun d=>Z7 (fun g (z:Int×(List Int))=>Sh F a b c d g z.1 z.2) F ((0:Int),([]:List Int))
def qX(F:Nat)(a:Int)(b c:List Rect)(d:Bool->Bool->Option Bool):Option (List Span):=
 (Xv F b a).bind fun e=>(Xv F c a).bind fun i=>(Sj F e i d).bind fun j=>some j
def Yd(F:Nat)(a b:List Rect)(c:Bool->Bool->Option Bool):Option (List Rect):=
 (BR F ([a,b]:List (List Rect))).bind fun d=>(BT F d (fun y0=>qX F y0 a b c)).bind fun e=>some e
def Rd(F:Nat)(a:Bool):Option Bool:=
 some a
def KA(F:Nat)(a b:Bool):Option Bool:=
 br a (Rd F b) (Rd F false)
def MY(F:Nat)(a:Bool):Option Bool:=
 some a
def Bp(F:Nat)(a b:Bool):Option Bool:=
 br a (MY F true) (MY F b)
def MG(F:Nat)(a:Bool):Option Bool:=
 some a
def Xf(F:Nat)(a b:Bool):Option Bool:=
 br a (MG F (!b)) (MG F false)
def Xi(F:Nat)(c:TermPlace)(a b:List Rect):Option Squares:=
 (Yd F c.t_ a (fun y0 y1=>Xf F y0 y1)).bind fun d=>(Yd F d b (fun y0 y1=>Xf F y0 y1)).bind fun e=>some (⟨a,b,e⟩:Squares)
def LC(F:Nat)(c:TermPlace)(a b:List Rect):Option Squares:=
 (Xi F c a b).bind fun d=>some d
def Xj(F:Nat)(i:TermPlace)(b:List Squares)(e:((List Rect)×(List Rect)×Int)->Option Squares)(c d:List Rect)(a:Int):Option Squares:=
 br (decide (a<(b.length:Int))) (gd (0<=a/\a<(b.length:Int))<|(Yd F c ((gl b a.toNat).yes_) (fun y0 y1=>KA F y0 y1)).bind fun j=>(Yd F d ((gl b a.toNat).no_) (fun y0 y1=>Bp F y0 y1)).bind fun k=>gd (Q9 (a+1))<|e (j,k,(a+1))) (LC F i c d)
def Xk(F:Nat)(a:TermPlace)(b:List Squares):Option Squares:=
 Z7 (fun g (z:(List Rect)×(List Rect)×Int)=>Xj F a b g z.1 z.2.1 z.2.2) F (a.t_,([]:List Rect),(0:Int))
def Ky(F:Nat)(a:TermPlace)(b:Bool):Option Squares:=
 br b (some (⟨a.t_,[],[]⟩:Squares)) (some (⟨[],a.t_,[]⟩:Squares))
def Mc(F:Nat)(a:Bool):Option Bool:=
 some a
def Px(F:Nat)(b:List Crop)(a c:Int):Option Bool:=
 br (decide ((0:Int)<=a)) (br (decide (a<(b.length:Int))) (br (c != (0:Int)) (gd (0<=a/\a<(b.length:Int))<|Mc F ((QN .i64 ((gl b a.toNat).m_) c)==c)) (Mc F false)) (Mc F false)) (Mc F false)
def kz(F:Nat)(a:Int)(b:Term):Option Bool:=
 some (a==b.num_)
def HM(F:Nat)(a:Int)(b:(Int×(List Rect))->Option (List Rect))(c:List Rect):Option (List Rect):=
 gd (Q9 (a+1))<|b ((a+1),c)
def HN(F:Nat)(d:List A2_)(a:Int)(b:List Rect)(c:(Int×(List Rect))->Option (List Rect))(e:Bool):Option (List Rect):=
 br e (gd (b.length+(List.length ((gl d a.toNat).g_.t_))<=Y5)<|HM F a c (b++((gl d a.toNat).g_.t_))) (HM F a c b)
def vH(F:Nat)(a:List Rect):Option (List Rect):=
 some a
def Fe(F:Nat)(b:List A2_)(e:Int)(i:Int->Option Bool)(d:(Int×(List Rect))->Option (List Rect))(a:Int)(c:List Rect):Option (List Rect):=
 br (decide (a<(b.length:Int))) (gd (0<=a/\a<(b.length:Int))<|(HI F (gl b a.toNat) e).bind fun j=>br j ((i ((gl b a.toNat).k_)).bind fun k=>HN F b a c d k) (HN F b a c d false)) (vH F c)
def HO(F:Nat)(a:List A2_)(b:Int)(c:Int->Option Bool):Option (List Rect):=
 Z7 (fun g (z:Int×(List Rect))=>Fe F a b c g z.1 z.2) F ((0:Int),([]:List Rect))
def Bi(F:Nat)(b:TermPlace)(a:List Rect):Option Squares:=
 (Yd F b.t_ a (fun y0 y1=>Xf F y0 y1)).bind fun c=>some (⟨a,c,[]⟩:Squares)
def MM(F:Nat)(a:Int)(b:TermPlace)(c:Int):Option Bool:=
 gd (0<=a/\a<(b.world_.crops_.length:Int))<|some (((gl b.world_.crops_ a.toNat).f_)==c)
def HA(F:Nat)(a:Int)(b:(Int×(List Rect))->Option (List Rect))(c:List Rect):Option (List Rect):=
 gd (Q9 (a+1))<|b ((a+1),c)
def HB(F:Nat)(d:List Rg_)(a:Int)(b:List Rect)(c:(Int×(List Rect))->Option (List Rect))(e:Bool):Option (List Rect):=
 br e (gd (b.length+(List.length ((gl d a.toNat).g_.t_))<=Y5)<|HA F a c (b++((gl d a.toNat).g_.t_))) (HA F a c b)
def vj(F:Nat)(a:List Rect):Option (List Rect):=
 some a
def Q1s(F:Nat)(b:List Rg_)(e:Int)(i:Int->Option Bool)(d:(Int×(List Rect))->Option (List Rect))(a:Int)(c:List Rect):Option (List Rect):=
 br (decide (a<(b.length:Int))) (gd (0<=a/\a<(b.length:Int))<|br (((gl b a.toNat).y_)==e) ((i ((gl b a.toNat).c_)).bind fun j=>HB F b a c d j) (HB F b a c d false)) (vj F c)
def CL(F:Nat)(a:List Rg_)(b:Int)(c:Int->Option Bool):Option (List Rect):=
 Z7 (fun g (z:Int×(List Rect))=>Q1s F a b c g z.1 z.2) F ((0:Int),([]:List Rect))
def Jt(F:Nat)(a:TermPlace)(b:Int)(c:Int->Option Bool):Option (List Rect):=
 gd (Q9 (a.world_.y_-b))<|(CL F a.world_.history_ (a.world_.y_-b) c).bind fun d=>(Yd F a.t_ d (fun y0 y1=>KA F y0 y1)).bind fun e=>some e
def ML(F:Nat)(a:Int)(b:TermPlace)(c:Int):Option Bool:=
 gd (0<=a/\a<(b.world_.crops_.length:Int))<|some (((gl b.world_.crops_ a.toNat).f_) != c)
def Lw(F:Nat)(c:TermPlace)(a b:List Rect):Option Squares:=
 (Xi F c a b).bind fun d=>some d
def Xh(F:Nat)(a:TermPlace)(i:Int)(e:((List Rect)×(List Rect)×Int)->Option Squares)(c d:List Rect)(b:Int):Option Squares:=
 br (decide (b<i)) ((Jt F a b (fun y0=>MM F y0 a ((gl a.world_.crops_ a.line_.c_.toNat).f_))).bind fun j=>(Jt F a b (fun y0=>ML F y0 a ((gl a.world_.crops_ a.line_.c_.toNat).f_))).bind fun k=>(Yd F c j (fun y0 y1=>KA F y0 y1)).bind fun l=>(Yd F d k (fun y0 y1=>Bp F y0 y1)).bind fun m=>gd (Q9 (b+1))<|e (l,m,(b+1))) (Lw F a c d)
def MN(F:Nat)(a:TermPlace)(b:Int):Option Squares:=
 gd (0<=a.line_.c_/\a.line_.c_<(a.world_.crops_.length:Int))<|Z7 (fun g (z:(List Rect)×(List Rect)×Int)=>Xh F a b g z.1 z.2.1 z.2.2) F (a.t_,([]:List Rect),(1:Int))
def Bn(F:Nat)(a:Int)(b:TermPlace)(c:Term):Option Bool:=
 (Px F b.world_.crops_ a c.more_).bind fun d=>some d
def Bm(F:Nat)(a:Int)(b:TermPlace)(c:Term):Option Bool:=
 (Px F b.world_.crops_ a c.more_).bind fun d=>some (!d)
def CP(F:Nat)(a:Int):Option Bool:=
 some true
def MT(F:Nat)(a:TermPlace)(b:Term):Option Squares:=
 br (b.op_==2) ((Ky F a (a.line_.c_==b.num_)).bind fun c=>some c) (br (b.op_==3) (gd (0<=a.line_.c_/\a.line_.c_<(a.world_.crops_.length:Int))<|(Ky F a (((gl a.world_.crops_ a.line_.c_.toNat).f_)==b.num_)).bind fun d=>some d) (br (b.op_==4) ((Px F a.world_.crops_ a.line_.c_ b.num_).bind fun e=>(Ky F a e).bind fun i=>some i) (br (b.op_==5) ((HO F a.world_.zones_ a.world_.day_ (fun y0=>kz F y0 b)).bind fun j=>(Yd F a.t_ j (fun y0 y1=>KA F y0 y1)).bind fun k=>(Bi F a k).bind fun l=>some l) (br (b.op_==6) ((MN F a b.num_).bind fun m=>some m) (br (b.op_==7) ((Jt F a b.num_ (fun y0=>Bn F y0 a b)).bind fun n=>(Jt F a b.num_ (fun y0=>Bm F y0 a b)).bind fun o=>(Xi F a n o).bind fun p=>some p) (br (b.op_==8) ((Jt F a b.num_ (fun y0=>CP F y0)).bind fun q=>(Bi F a q).bind fun s=>some s) ((Ky F a true).bind fun t=>some t)))))))
def Bh(F:Nat)(rc:TermPlace->Term->Option Squares)(a:Int)(b:List Squares)(i:(Int×(List Squares))->Option Squares)(c d e:List Rect):Option Squares:=
 gd (b.length+(List.length ([(⟨c,d,e⟩:Squares)]:List Squares))<=Y5)<|gd (Q9 (a+1))<|i ((a+1),(b++([(⟨c,d,e⟩:Squares)]:List Squares)))
def Lz(F:Nat)(rc:TermPlace->Term->Option Squares)(c:TermPlace)(b:Term)(a:List Squares):Option Squares:=
 br (b.op_==9) ((Xk F c a).bind fun d=>some d) (br (b.op_==10) ((Xk F c a).bind fun e=>(Bf F e).bind fun i=>some i) (br (b.op_==11) (gd (0<=(0:Int)/\0<(a.length:Int))<|some (gl a (0:Int).toNat)) ((MT F c b).bind fun j=>some j)))
def Kz(F:Nat)(rc:TermPlace->Term->Option Squares)(j:TermPlace)(b:Term)(i:(Int×(List Squares))->Option Squares)(a:Int)(d:List Squares):Option Squares:=
 br (decide (a<(b.kids_.length:Int))) (gd (0<=a/\a<(b.kids_.length:Int))<|gd (Q9 (gl b.kids_ a.toNat).op_)<|(rc j (gl b.kids_ a.toNat)).bind fun c=>br (b.op_ != (9:Int)) ((Bf F c).bind fun e=>Bh F rc a d i e.yes_ e.no_ e.open_) (Bh F rc a d i c.yes_ c.no_ c.open_)) (Lz F rc j b d)
def MO(F:Nat)(rc:TermPlace->Term->Option Squares)(a:TermPlace)(b:Term):Option Squares:=
 Z7 (fun g (z:Int×(List Squares))=>Kz F rc a b g z.1 z.2) F ((0:Int),([]:List Squares))
def VQ:Nat->TermPlace->Term->Option Squares
 | 0=>fun _ _=>none
 | F+1=>MO F (VQ F)
def Xl(F:Nat)(a:List Rect):Option Re_:=
 (Bx F a).bind fun b=>some (⟨b⟩:Re_)
def Re(F:Nat)(c:Term)(b:Line)(d:Int)(e:List Crop)(i:List Rg_)(j:List A2_)(k:Int):Option (Truth×Int):=
 (MS F (⟨(⟨d,e,i,j,k⟩:TermWorld),b,b.g_.t_⟩:TermPlace) c).bind fun l=>br (l != (0:Int)) (some ((⟨(⟨[]⟩:Re_),(⟨[]⟩:Re_),(⟨[]⟩:Re_)⟩:Truth),l)) ((VQ F (⟨(⟨d,e,i,j,k⟩:TermWorld),b,b.g_.t_⟩:TermPlace) c).bind fun a=>br (decide ((120:Int)<(J3 (J3 (a.yes_.length:Int) (a.no_.length:Int)) (a.open_.length:Int)))) (some ((⟨(⟨[]⟩:Re_),(⟨[]⟩:Re_),(⟨[]⟩:Re_)⟩:Truth),(1:Int))) ((Xl F a.yes_).bind fun m=>(Xl F a.no_).bind fun n=>(Xl F a.open_).bind fun o=>some ((⟨m,n,o⟩:Truth),(0:Int))))
def Lh(F:Nat)(a:Bool):Option Int:=
 br a (some (2:Int)) (some (0:Int))
def Jo(F:Nat)(c:List A2_)(d a:Int)(e:Re_):Option Int:=
 (HP F c d).bind fun b=>br (b.2 != (0:Int)) (some b.2) ((Vr F e).bind fun i=>br (!i) (some (7:Int)) (br (decide (a<0)) (Lh F true) (Lh F (decide ((268435456:Int)<a)))))
def Jn(F:Nat)(a:Bool):Option Int:=
 br a (some (1:Int)) (some (2:Int))
def Vn(F:Nat)(a:Int)(b:Bool):Option Int:=
 br b (some (0:Int)) (br (a==8) (Jn F (a==8)) (br (a==9) (Jn F (a==9)) (br (a==10) (Jn F (a==10)) (Jn F (a==11)))))
def Mx(F:Nat)(a:Int):Option Int:=
 br (a==0) (Vn F a (a==0)) (br (a==1) (Vn F a (a==1)) (br (a==2) (Vn F a (a==2)) (br (a==3) (Vn F a (a==3)) (br (a==4) (Vn F a (a==4)) (br (a==5) (Vn F a (a==5)) (br (a==6) (Vn F a (a==6)) (Vn F a (a==7))))))))
def My(F:Nat)(a b:Int):Option Bool:=
 (Mx F a).bind fun c=>some (c==b)
def KX(F:Nat)(a:List Rect):Option (Re_×Int):=
 br (decide (120<(a.length:Int))) (some ((⟨[]⟩:Re_),(1:Int))) (some ((⟨a⟩:Re_),(0:Int)))
def UK(F:Nat)(b:List Rect):Option (Re_×Int):=
 (BJ F b).bind fun c=>(KX F c).bind fun a=>some (a.1,a.2)
def Kv(F:Nat)(b:List A2_)(c d:Int):Option (Re_×Int):=
 (HO F b c (fun y0=>My F y0 d)).bind fun e=>(UK F e).bind fun a=>some (a.1,a.2)
def Kx(F:Nat)(a:List A2_)(b:Int):Option (Re_×Int):=
 (Jo F a b (0:Int) (⟨[]⟩:Re_)).bind fun c=>br (c != (0:Int)) (some ((⟨[]⟩:Re_),c)) ((Kv F a b (0:Int)).bind fun d=>some (d.1,d.2))
def Lj(F:Nat)(a:Bool):Option Bool:=
 some a
def Lk(F:Nat)(a b:Bool):Option Bool:=
 br a (Lj F b) (Lj F false)
def qo(F:Nat)(a:Int):Option Int:=
 some a
def BA(F:Nat)(a b:Rect)(c:Int)(d:Bool):Option Int:=
 br d (gd (Q9 ((Qd a.R_ b.R_)-(J3 a.L_ b.L_)))<|gd (Q9 (c+(J3 (0:Int) ((Qd a.R_ b.R_)-(J3 a.L_ b.L_)))))<|qo F (c+(J3 (0:Int) ((Qd a.R_ b.R_)-(J3 a.L_ b.L_))))) (qo F c)
def Xo(F:Nat)(a b:Rect)(c:Int):Option Int:=
 br (a.H_==b.w_) (BA F a b c true) (BA F a b c (b.H_==a.w_))
def BB(F:Nat)(a b:Rect)(c:Bool):Option Int:=
 br c (gd (Q9 ((Qd a.H_ b.H_)-(J3 a.w_ b.w_)))<|gd (Q9 ((0:Int)+(J3 (0:Int) ((Qd a.H_ b.H_)-(J3 a.w_ b.w_)))))<|Xo F a b ((0:Int)+(J3 (0:Int) ((Qd a.H_ b.H_)-(J3 a.w_ b.w_))))) (Xo F a b (0:Int))
def RE(F:Nat)(a b:Rect):Option Int:=
 br (a.R_==b.L_) (BB F a b true) (BB F a b (b.R_==a.L_))
def qs(F:Nat)(a:Bool)(b:List Rect):Option ((List Rect)×Bool):=
 some (b,a)
def RF(F:Nat)(c:Rect)(b:List Rect)(a:Bool):Option ((List Rect)×Bool):=
 br a (gd (b.length+(List.length ([c]:List Rect))<=Y5)<|qs F a (b++([c]:List Rect))) (qs F a b)
def BC(F:Nat)(c:Rect)(a:List Rect)(b:Int):Option ((List Rect)×Bool):=
 gd (0<=b/\b<(a.length:Int))<|(RE F (gl a b.toNat) c).bind fun d=>RF F c a (decide ((0:Int)<d))
def RD(F:Nat)(a:List Rect):Option (List Rect):=
 FN a.length (some ([]:List Rect)) (gd ((0)+a.length<=Y5)<|some (([]:List Rect)++a))
def gA(F:Nat)(b a:List Rect):Option ((List Rect)×(List Rect)×Int):=
 some (b,a,(-1:Int))
def gB(F:Nat)(b:List Rect)(i:Int)(e:(Int×(List Rect))->Option ((List Rect)×(List Rect)×Int))(a:Int)(d:List Rect):Option ((List Rect)×(List Rect)×Int):=
 br (decide (a<(b.length:Int))) (gd (0<=a/\a<(b.length:Int))<|(BC F (gl b a.toNat) d i).bind fun c=>br c.2 (some (b,c.1,a)) (gd (Q9 (a+1))<|e ((a+1),c.1))) (gA F b d)
def Rm(F:Nat)(a b:List Rect)(c:Int):Option ((List Rect)×(List Rect)×Int):=
 Z7 (fun g (z:Int×(List Rect))=>gB F a c g z.1 z.2) F ((0:Int),b)
def Bt(F:Nat)(a:Int)(b:(Int×Int×(List Rect)×(List Rect))->Option ((List Rect)×(List Rect)))(c:Int)(d e:List Rect):Option ((List Rect)×(List Rect)):=
 gd (Q9 (a+1))<|b (c,(a+1),d,e)
def qa(F:Nat)(a:Int)(b c:List Rect):Option ((List Rect)×(List Rect)):=
 gd (0<=a/\a<=((b.length:Nat):Int)/\((0:Nat):Int)+((b.length:Nat):Int)<=(b.length:Int))<|gd (0<=a/\a<=((List.length (clr b (0+(a).toNat) (b.length-(a).toNat)):Nat):Int))<|some (c,((clr b (0+(a).toNat) (b.length-(a).toNat)).take (a).toNat))
def gQ(F:Nat)(j:Int)(e:(Int×Int×(List Rect)×(List Rect))->Option ((List Rect)×(List Rect)))(b c:Int)(a i:List Rect):Option ((List Rect)×(List Rect)):=
 br (decide (c<(a.length:Int))) (gd (0<=c/\c<(a.length:Int))<|(BC F (gl a c.toNat) i j).bind fun d=>br (!d.2) (gd (0<=b/\b<(a.length:Int))<|gd (Q9 (b+1))<|Bt F c e (b+1) (List.set a b.toNat (gl a c.toNat)) d.1) (Bt F c e b a d.1)) (qa F b a i)
def Ru(F:Nat)(c d:List Rect)(b:Int):Option ((List Rect)×(List Rect)):=
 (Rm F c d b).bind fun a=>br (a.2.2==(-1:Int)) (some (a.2.1,a.1)) (gd (Q9 (a.2.2+(1:Int)))<|Z7 (fun g (z:Int×Int×(List Rect)×(List Rect))=>gQ F b g z.1 z.2.1 z.2.2.1 z.2.2.2) F (a.2.2,(a.2.2+(1:Int)),a.1,a.2.1))
def qp(F:Nat)(a b:List Rect):Option ((List Rect)×(List Rect)):=
 some (b,a)
def qr(F:Nat)(c:List Rect)(a:Int)(b:List Rect)(e:((List Rect)×Int×(List Rect))->Option ((List Rect)×(List Rect))):Option ((List Rect)×(List Rect)):=
 br (decide (a<(b.length:Int))) ((Ru F c b a).bind fun d=>gd (Q9 (a+1))<|e (d.2,(a+1),d.1)) (qp F c b)
def jk(F:Nat)(a:((List Rect)×Int×(List Rect))->Option ((List Rect)×(List Rect)))(b:List Rect)(c:Int)(d:List Rect):Option ((List Rect)×(List Rect)):=
 qr F b c d a
def RG(F:Nat)(a:List Rect):Option ((List Rect)×(List Rect)):=
 gd (1<=(a.length:Int))<|gd (0<=(1:Int)/\1<=(a.length:Int))<|(RD F (a.drop (1:Int).toNat)).bind fun b=>Z7 (fun g (z:(List Rect)×Int×(List Rect))=>jk F g z.1 z.2.1 z.2.2) F (b,(0:Int),(a.take ((1:Int)).toNat))
def jO(F:Nat)(a:Int):Option Int:=
 some a
def jP(F:Nat)(b:List Rect)(d:(Int×Int)->Option Int)(c a:Int):Option Int:=
 br (decide (a<(b.length:Int))) (gd (0<=a/\a<(b.length:Int))<|gd (Q9 (((gl b a.toNat).R_)-((gl b a.toNat).L_)))<|gd (Q9 (((gl b a.toNat).H_)-((gl b a.toNat).w_)))<|gd (Q9 ((((gl b a.toNat).R_)-((gl b a.toNat).L_))*(((gl b a.toNat).H_)-((gl b a.toNat).w_))))<|gd (Q9 (c+((((gl b a.toNat).R_)-((gl b a.toNat).L_))*(((gl b a.toNat).H_)-((gl b a.toNat).w_)))))<|gd (Q9 (a+1))<|d ((c+((((gl b a.toNat).R_)-((gl b a.toNat).L_))*(((gl b a.toNat).H_)-((gl b a.toNat).w_)))),(a+1))) (jO F c)
def BL(F:Nat)(a:List Rect):Option Int:=
 Z7 (fun g (z:Int×Int)=>jP F a g z.1 z.2) F ((0:Int),(0:Int))
def Mz(F:Nat)(b:List Rect):Option (Re_×Int):=
 (UK F b).bind fun a=>some (a.1,a.2)
def MA(F:Nat)(e:Int)(c:((List Rect)×(List Rect))->Option (Re_×Int))(d b:List Rect):Option (Re_×Int):=
 br (decide (0<(d.length:Int))) ((RG F d).bind fun a=>(BL F a.1).bind fun i=>br (decide (e<i)) (gd (b.length+a.1.length<=Y5)<|c (a.2,(b++a.1))) (c (a.2,b))) (Mz F b)
def VM(F:Nat)(b:List A2_)(c d:Int)(e:Re_):Option (Re_×Int):=
 (Jo F b c d e).bind fun i=>br (i != (0:Int)) (some ((⟨[]⟩:Re_),i)) ((Kv F b c (1:Int)).bind fun a=>br (a.2 != (0:Int)) (some ((⟨[]⟩:Re_),a.2)) ((Yd F a.1.t_ e.t_ (fun y0 y1=>Lk F y0 y1)).bind fun j=>br (decide (120<(j.length:Int))) (some ((⟨[]⟩:Re_),(1:Int))) (Z7 (fun g (z:(List Rect)×(List Rect))=>MA F d g z.1 z.2) F (j,([]:List Rect)))))
def qi(F:Nat)(a:List Rect):Option (List Rect):=
 some a
def KM(F:Nat)(b:(List (List Rect)))(d:(Int×(List Rect))->Option (List Rect))(a:Int)(c:List Rect):Option (List Rect):=
 br (decide (a<(b.length:Int))) (gd (0<=a/\a<(b.length:Int))<|gd (c.length+(List.length (gl b a.toNat))<=Y5)<|gd (Q9 (a+1))<|d ((a+1),(c++(gl b a.toNat)))) (qi F c)
def RB(F:Nat)(b:(List (List Rect)))(a:Int):Option (List Rect):=
 (Ka a).bind fun c=>Z7 (fun g (z:Int×(List Rect))=>KM F b g z.1 z.2) F ((0:Int),c)
def KN(F:Nat)(b:(List (List Rect)))(d:(Int×Int)->Option (List Rect))(c a:Int):Option (List Rect):=
 br (decide (a<(b.length:Int))) (gd (0<=a/\a<(b.length:Int))<|gd (Q9 (c+((List.length (gl b a.toNat):Nat):Int)))<|br (decide ((c+((List.length (gl b a.toNat):Nat):Int))<0)) (none) (gd (Q9 (a+1))<|d ((c+((List.length (gl b a.toNat):Nat):Int)),(a+1)))) (RB F b c)
def Bv(F:Nat)(a:(List (List Rect))):Option (List Rect):=
 Z7 (fun g (z:Int×Int)=>KN F a g z.1 z.2) F ((0:Int),(0:Int))
def Ll(F:Nat)(a:Bool):Option Bool:=
 some a
def Lm(F:Nat)(a b:Bool):Option Bool:=
 br a (Ll F (!b)) (Ll F false)
def VN(F:Nat)(a:Re_)(b:List A2_)(c i:Int):Option (Re_×Int):=
 (Jo F b c i a).bind fun j=>br (j != (0:Int)) (some ((⟨[]⟩:Re_),j)) ((Kx F b c).bind fun d=>br (d.2 != (0:Int)) (some ((⟨[]⟩:Re_),d.2)) ((VM F b c i a).bind fun e=>br (e.2 != (0:Int)) (some ((⟨[]⟩:Re_),e.2)) ((Bv F ([d.1.t_,e.1.t_]:List (List Rect))).bind fun l=>(Yd F a.t_ l (fun y0 y1=>Lm F y0 y1)).bind fun m=>(KX F m).bind fun k=>some (k.1,k.2))))
def Sl(F:Nat)(a:Bool):Option Bool:=
 some a
def Sn(F:Nat)(a b:Bool):Option Bool:=
 br a (Sl F (!b)) (Sl F false)
def BK(F:Nat)(a:Bool):Option Bool:=
 some a
def Sp(F:Nat)(a b:Re_):Option Bool:=
 (Vr F a).bind fun c=>br c ((Vr F b).bind fun d=>br d ((Yd F a.t_ b.t_ (fun y0 y1=>Sn F y0 y1)).bind fun e=>BK F ((e.length:Int)==0)) (BK F false)) (BK F false)
def Q2k(F:Nat)(a b c:List Rect):Option (Truth×Int):=
 some ((⟨(⟨a⟩:Re_),(⟨b⟩:Re_),(⟨c⟩:Re_)⟩:Truth),(0:Int))
def Kh(F:Nat)(a:Arr3ListRect):Option (Truth×Int):=
 (UK F a.e0_).bind fun b=>br (b.2 != (0:Int)) (some ((⟨(⟨[]⟩:Re_),(⟨[]⟩:Re_),(⟨[]⟩:Re_)⟩:Truth),b.2)) (gd (Q9 ((0:Int)+(1:Int)))<|(UK F a.e1_).bind fun c=>br (c.2 != (0:Int)) (some ((⟨(⟨[]⟩:Re_),(⟨[]⟩:Re_),(⟨[]⟩:Re_)⟩:Truth),c.2)) (gd (Q9 ((1:Int)+(1:Int)))<|(UK F a.e2_).bind fun d=>br (d.2 != (0:Int)) (some ((⟨(⟨[]⟩:Re_),(⟨[]⟩:Re_),(⟨[]⟩:Re_)⟩:Truth),d.2)) (gd (Q9 ((2:Int)+(1:Int)))<|Q2k F b.1.t_ c.1.t_ d.1.t_)))
def Fq(F:Nat)(a:Bool):Option Bool:=
 some a
def HV(F:Nat)(a b:Bool):Option Bool:=
 br a (Fq F b) (Fq F false)
def Fo(F:Nat)(a:Bool):Option Bool:=
 some a
def Fp(F:Nat)(a b:Bool):Option Bool:=
 br a (Fo F (!b)) (Fo F false)
def Ki(F:Nat)(b:Line)(i:Re_)(c:Scheme)(a:World):Option (Truth×Int):=
 (Vr F i).bind fun n=>br (!n) (some ((⟨(⟨[]⟩:Re_),(⟨[]⟩:Re_),(⟨[]⟩:Re_)⟩:Truth),(7:Int))) ((Re F c.cond_ b a.y_ a.crops_ a.history_ a.zones_ a.day_).bind fun d=>br (d.2 != (0:Int)) (some ((⟨(⟨[]⟩:Re_),(⟨[]⟩:Re_),(⟨[]⟩:Re_)⟩:Truth),d.2)) ((BD F c).bind fun o=>br (o != (0:Int)) (some ((⟨(⟨[]⟩:Re_),(⟨[]⟩:Re_),(⟨[]⟩:Re_)⟩:Truth),(17:Int))) ((VN F i a.zones_ a.day_ a.most_).bind fun e=>br (e.2 != (0:Int)) (some ((⟨(⟨[]⟩:Re_),(⟨[]⟩:Re_),(⟨[]⟩:Re_)⟩:Truth),e.2)) ((Sp F b.g_ i).bind fun p=>br (!p) (some ((⟨(⟨[]⟩:Re_),(⟨[]⟩:Re_),(⟨[]⟩:Re_)⟩:Truth),(12:Int))) (gd (0<=c.N_)<|br ((QN .i64 (b.s_.fdiv (2 ^ (min (c.N_).toNat (IntKind.bits .i64)))) (1:Int))==0) ((Kh F (⟨[],b.g_.t_,[]⟩:Arr3ListRect)).bind fun j=>some (j.1,j.2)) ((Yd F d.1.true_.t_ e.1.t_ (fun y0 y1=>HV F y0 y1)).bind fun k=>(Yd F d.1.unknown_.t_ e.1.t_ (fun y0 y1=>HV F y0 y1)).bind fun l=>(Bv F ([k,l]:List (List Rect))).bind fun q=>(Yd F b.g_.t_ q (fun y0 y1=>Fp F y0 y1)).bind fun s=>(Kh F (⟨k,s,l⟩:Arr3ListRect)).bind fun m=>some (m.1,m.2)))))))
def HS(F:Nat)(a:Int)(b:(Int×(List Rect)×(List Rect)×(List Rect))->Option (Arr3ListRect×Int))(c d e:List Rect):Option (Arr3ListRect×Int):=
 gd (Q9 (a+1))<|b ((a+1),c,d,e)
def Q2m(F:Nat)(a b c:List Rect):Option (Arr3ListRect×Int):=
 some ((⟨a,b,c⟩:Arr3ListRect),(0:Int))
def vM(F:Nat)(i:List Line)(l:List Re_)(j:Scheme)(m:World)(k:(Int×(List Rect)×(List Rect)×(List Rect))->Option (Arr3ListRect×Int))(a:Int)(c d e:List Rect):Option (Arr3ListRect×Int):=
 br (decide (a<(i.length:Int))) (gd (0<=a/\a<(i.length:Int))<|gd (0<=a/\a<(l.length:Int))<|(Ki F (gl i a.toNat) (gl l a.toNat) j m).bind fun b=>br (b.2 != (0:Int)) (some ((⟨[],[],[]⟩:Arr3ListRect),b.2)) (gd (0<=j.N_)<|br ((QN .i64 (((gl i a.toNat).s_).fdiv (2 ^ (min (j.N_).toNat (IntKind.bits .i64)))) (1:Int))==0) (HS F a k c d e) (gd (c.length+b.1.true_.t_.length<=Y5)<|gd (Q9 ((0:Int)+(1:Int)))<|gd (d.length+b.1.false_.t_.length<=Y5)<|gd (Q9 ((1:Int)+(1:Int)))<|gd (e.length+b.1.unknown_.t_.length<=Y5)<|gd (Q9 ((2:Int)+(1:Int)))<|HS F a k (c++b.1.true_.t_) (d++b.1.false_.t_) (e++b.1.unknown_.t_)))) (Q2m F c d e)
def HT(F:Nat)(a:List Line)(b:List Re_)(c:Scheme)(d:World):Option (Arr3ListRect×Int):=
 Z7 (fun g (z:Int×(List Rect)×(List Rect)×(List Rect))=>vM F a b c d g z.1 z.2.1 z.2.2.1 z.2.2.2) F ((0:Int),([]:List Rect),([]:List Rect),([]:List Rect))
def Ft(F:Nat)(a b:Line):Option Bool:=
 (BP F b.g_ a.g_).bind fun c=>some c
def gH(F:Nat):Option Int:=
 some (-1:Int)
def gI(F:Nat)(b:List Line)(d:Line->Option Bool)(c:(Int)->Option Int)(a:Int):Option Int:=
 br (decide (a<(b.length:Int))) (gd (0<=a/\a<(b.length:Int))<|(d (gl b a.toNat)).bind fun e=>br e (some a) (gd (Q9 (a+1))<|c (a+1))) (gH F)
def Rq(F:Nat)(a:List Line)(b:Line->Option Bool):Option Int:=
 Z7 (fun g (z:Int)=>gI F a b g z) F (0:Int)
def Rz(F:Nat)(a:List Line)(b:Line->Option Bool):Option Bool:=
 (Rq F a b).bind fun c=>some (decide ((0:Int)<=c))
def Q2t(F:Nat):Option Int:=
 some (0:Int)
def Fs(F:Nat)(b:List Line)(c:(Int)->Option Int)(a:Int):Option Int:=
 br (decide (a<(b.length:Int))) (gd (0<=a/\a<(b.length:Int))<|gd (0<=a/\a<=(b.length:Int))<|(Rz F (b.take a.toNat) (fun y0=>Ft F y0 (gl b a.toNat))).bind fun d=>br d (some (11:Int)) (gd (Q9 (a+1))<|c (a+1))) (Q2t F)
def HW(F:Nat)(a:List Line):Option Int:=
 Z7 (fun g (z:Int)=>Fs F a g z) F (0:Int)
def HX(F:Nat)(a:Int)(b:List Int)(d:(Int×(List Int))->Option ((List Int)×Int))(c:Int):Option ((List Int)×Int):=
 gd (b.length+(List.length ([c]:List Int))<=Y5)<|gd (Q9 (a+1))<|d ((a+1),(b++([c]:List Int)))
def vQ(F:Nat)(c:List Line)(b:List Int):Option ((List Int)×Int):=
 (HW F c).bind fun a=>br (a != (0:Int)) (some ([],a)) (some (b,(0:Int)))
def vR(F:Nat)(i:List Line)(k:List Re_)(b:List Scheme)(l:World)(e:(Int×(List Int))->Option ((List Int)×Int))(a:Int)(c:List Int):Option ((List Int)×Int):=
 br (decide (a<(b.length:Int))) (gd (0<=a/\a<(b.length:Int))<|(HT F i k (gl b a.toNat) l).bind fun d=>br (d.2 != (0:Int)) (some ([],d.2)) ((BL F d.1.e0_).bind fun j=>br (decide (j<((gl b a.toNat).least_))) (HX F a c e (0:Int)) (HX F a c e j))) (vQ F i c)
def Fv(F:Nat)(a:List Line)(b:List Re_)(c:List Scheme)(e:World):Option ((List Int)×Int):=
 (HU F a b c).bind fun d=>br (d != (0:Int)) (some ([],d)) (Z7 (fun g (z:Int×(List Int))=>vR F a b c e g z.1 z.2) F ((0:Int),([]:List Int)))
def BW(F:Nat)(a:List Line)(b:List Re_)(c:List Scheme):Option Int:=
 br ((a.length:Int) != (b.length:Int)) (some (3:Int)) (br (decide (20<(a.length:Int))) (some (1:Int)) ((Dc F c).bind fun d=>some d.2))
def XJ(F:Nat)(a:Bool):Option Int:=
 br a (some (14:Int)) (some (0:Int))
def XK(F:Nat)(a:Crop)(b:Bool):Option Int:=
 br b (some (2:Int)) (br (decide (a.m_<0)) (XJ F true) (XJ F (decide ((31:Int)<a.m_))))
def Ta(F:Nat)(a:Crop):Option Int:=
 (Hb F a.n_).bind fun b=>br (!b) (some (5:Int)) (br (decide (a.f_<0)) (XK F a true) (XK F a (decide ((40:Int)<a.f_))))
def DC(F:Nat)(a:Int)(b:(Int)->Option Int)(c:Bool):Option Int:=
 br c (some (6:Int)) (gd (Q9 (a+1))<|b (a+1))
def be(F:Nat):Option Int:=
 some (0:Int)
def Tb(F:Nat)(b:List Crop)(c:(Int)->Option Int)(a:Int):Option Int:=
 br (decide (a<(b.length:Int))) (gd (0<=a/\a<(b.length:Int))<|(Ta F (gl b a.toNat)).bind fun d=>br (d != (0:Int)) (some d) (br (decide ((0:Int)<a)) (gd (Q9 (a-1))<|gd (0<=(a-1)/\(a-1)<(b.length:Int))<|DC F a c (Vp ((gl b a.toNat).n_) ((gl b (a-1).toNat).n_)||Zm ((gl b a.toNat).n_) ((gl b (a-1).toNat).n_))) (DC F a c false))) (be F)
def Tc(F:Nat)(a:List Crop):Option Int:=
 br (decide (40<(a.length:Int))) (some (1:Int)) (Z7 (fun g (z:Int)=>Tb F a g z) F (0:Int))
def Gl(F:Nat)(a:Ref16Place)(b:Bool):Option Ref16Truth:=
 br b (some (⟨a.line_.g_.t_,[],[]⟩:Ref16Truth)) (some (⟨[],a.line_.g_.t_,[]⟩:Ref16Truth))
def zC(F:Nat)(a:Bool):Option Bool:=
 some a
def Tf(F:Nat)(a:A2_)(b:Int):Option Bool:=
 br (decide (a.F_<=b)) (zC F (decide (b<a.u_))) (zC F false)
def Gr(F:Nat)(a:Int)(b:((List Rect)×Int)->Option (List Rect))(c:List Rect):Option (List Rect):=
 gd (Q9 (a+1))<|b (c,(a+1))
def JO(F:Nat)(e:List A2_)(c:List Rect)(a:Int)(b:((List Rect)×Int)->Option (List Rect))(d:Bool):Option (List Rect):=
 br d ((G5 F c ((gl e a.toNat).g_.t_) (1:Int)).bind fun i=>Gr F a b i) (Gr F a b c)
def Th(F:Nat)(a:List Rect):Option (List Rect):=
 some a
def zE(F:Nat)(b:List A2_)(e i j:Int)(d:((List Rect)×Int)->Option (List Rect))(c:List Rect)(a:Int):Option (List Rect):=
 br (decide (a<(b.length:Int))) (gd (0<=a/\a<(b.length:Int))<|(Tf F (gl b a.toNat) j).bind fun k=>br k (br (decide (e<=((gl b a.toNat).k_))) (JO F b c a d (decide (((gl b a.toNat).k_)<=i))) (JO F b c a d false)) (JO F b c a d false)) (Th F c)
def JP(F:Nat)(a:List A2_)(b c d:Int):Option (List Rect):=
 Z7 (fun g (z:(List Rect)×Int)=>zE F a b c d g z.1 z.2) F (([]:List Rect),(0:Int))
def UL(F:Nat)(a:Ref16Place)(d e:List Rect):Option Ref16Truth:=
 (G5 F a.line_.g_.t_ d (2:Int)).bind fun b=>(G5 F a.line_.g_.t_ e (2:Int)).bind fun c=>(G5 F a.line_.g_.t_ b (3:Int)).bind fun i=>(G5 F i c (3:Int)).bind fun j=>some (⟨b,c,j⟩:Ref16Truth)
def Dp(F:Nat)(a:Int)(b:((List Rect)×Int)->Option (List Rect))(c:List Rect):Option (List Rect):=
 gd (Q9 (a+1))<|b (c,(a+1))
def UM(F:Nat)(e:List Rg_)(c:List Rect)(a:Int)(b:((List Rect)×Int)->Option (List Rect))(d:Bool):Option (List Rect):=
 br d ((G5 F c ((gl e a.toNat).g_.t_) (1:Int)).bind fun i=>Dp F a b i) (Dp F a b c)
def zu(F:Nat)(a:List Rect):Option (List Rect):=
 some a
def cR(F:Nat)(b:List Rg_)(e:List Crop)(k j i:Int)(d:((List Rect)×Int)->Option (List Rect))(c:List Rect)(a:Int):Option (List Rect):=
 br (decide (a<(b.length:Int))) (gd (0<=a/\a<(b.length:Int))<|br (((gl b a.toNat).y_)==k) (br (decide (j<0)) (br (i==0) (UM F b c a d true) (gd (0<=((gl b a.toNat).c_)/\((gl b a.toNat).c_)<(e.length:Int))<|UM F b c a d ((QN .i64 ((gl e ((gl b a.toNat).c_).toNat).m_) i)==i))) (gd (0<=((gl b a.toNat).c_)/\((gl b a.toNat).c_)<(e.length:Int))<|br (((gl e ((gl b a.toNat).c_).toNat).f_)==j) (br (i==0) (UM F b c a d true) (gd (0<=((gl b a.toNat).c_)/\((gl b a.toNat).c_)<(e.length:Int))<|UM F b c a d ((QN .i64 ((gl e ((gl b a.toNat).c_).toNat).m_) i)==i))) (UM F b c a d false))) (UM F b c a d false)) (zu F c)
def JK(F:Nat)(a:List Rg_)(b:List Crop)(c d e:Int):Option (List Rect):=
 Z7 (fun g (z:(List Rect)×Int)=>cR F a b c d e g z.1 z.2) F (([]:List Rect),(0:Int))
def zo(F:Nat)(c:Ref16Place)(a b:List Rect):Option Ref16Truth:=
 (UL F c a b).bind fun d=>some d
def Gj(F:Nat)(a:Ref16Place)(e:Int)(j:((List Rect)×(List Rect)×Int)->Option Ref16Truth)(c d:List Rect)(b:Int):Option Ref16Truth:=
 gd (Q9 (a.y_-e))<|br (decide ((a.y_-e)<b)) ((JK F a.history_ a.crops_ b ((gl a.crops_ a.line_.c_.toNat).f_) (0:Int)).bind fun i=>(G5 F c i (2:Int)).bind fun k=>(JK F a.history_ a.crops_ b (-1:Int) (0:Int)).bind fun l=>(G5 F l i (3:Int)).bind fun m=>(G5 F d m (1:Int)).bind fun n=>gd (Q9 (b-1))<|j (k,n,(b-1))) (zo F a c d)
def SF(F:Nat)(a:Ref16Place)(b:Int):Option Ref16Truth:=
 gd (0<=a.line_.c_/\a.line_.c_<(a.crops_.length:Int))<|gd (Q9 (a.y_-1))<|Z7 (fun g (z:(List Rect)×(List Rect)×Int)=>Gj F a b g z.1 z.2.1 z.2.2) F (a.line_.g_.t_,([]:List Rect),(a.y_-1))
def Dd(F:Nat)(rc:Ref16Place->Term->Option Ref16Truth)(a:Int)(b:(Int×(List Rect)×(List Rect)×(List Rect))->Option Ref16Truth)(c d e:List Rect):Option Ref16Truth:=
 gd (Q9 (a+1))<|b ((a+1),c,d,e)
def cI(F:Nat)(rc:Ref16Place->Term->Option Ref16Truth)(a b c:List Rect):Option Ref16Truth:=
 some (⟨a,b,c⟩:Ref16Truth)
def Gk(F:Nat)(rc:Ref16Place->Term->Option Ref16Truth)(i:Ref16Place)(b:Term)(l:(Int×(List Rect)×(List Rect)×(List Rect))->Option Ref16Truth)(a:Int)(d e m:List Rect):Option Ref16Truth:=
 br (decide (a<((List.length (b.kids_.drop (1:Int).toNat):Nat):Int))) (gd (0<=a/\a<((List.length (b.kids_.drop (1:Int).toNat):Nat):Int))<|gd (Q9 (gl (b.kids_.drop (1:Int).toNat) a.toNat).op_)<|(rc i (gl (b.kids_.drop (1:Int).toNat) a.toNat)).bind fun c=>br (b.op_==9) ((G5 F d c.yes_ (2:Int)).bind fun n=>(G5 F e c.no_ (1:Int)).bind fun o=>(UL F i n o).bind fun j=>Dd F rc a l j.yes_ j.no_ j.open_) ((G5 F d c.yes_ (1:Int)).bind fun p=>(G5 F e c.no_ (2:Int)).bind fun q=>(UL F i p q).bind fun k=>Dd F rc a l k.yes_ k.no_ k.open_)) (cI F rc d e m)
def SG(F:Nat)(rc:Ref16Place->Term->Option Ref16Truth)(a:Ref16Place)(b:Term):Option Ref16Truth:=
 gd (0<=a.line_.c_/\a.line_.c_<(a.crops_.length:Int))<|br (b.op_==1) ((Gl F a true).bind fun k=>some k) (br (b.op_==2) ((Gl F a (a.line_.c_==b.num_)).bind fun l=>some l) (br (b.op_==3) ((Gl F a (((gl a.crops_ a.line_.c_.toNat).f_)==b.num_)).bind fun m=>some m) (br (b.op_==4) ((Gl F a ((QN .i64 ((gl a.crops_ a.line_.c_.toNat).m_) b.num_) != (0:Int))).bind fun n=>some n) (br (b.op_==5) ((JP F a.zones_ b.num_ b.num_ a.day_).bind fun e=>(G5 F a.line_.g_.t_ e (3:Int)).bind fun o=>(UL F a e o).bind fun p=>some p) (br (b.op_==6) ((SF F a b.num_).bind fun q=>some q) (br (b.op_==7) (gd (Q9 (a.y_-b.num_))<|(JK F a.history_ a.crops_ (a.y_-b.num_) (-1:Int) (0:Int)).bind fun s=>gd (Q9 (a.y_-b.num_))<|(JK F a.history_ a.crops_ (a.y_-b.num_) (-1:Int) b.more_).bind fun i=>(G5 F s i (3:Int)).bind fun t=>(UL F a i t).bind fun u=>some u) (br (b.op_==8) (gd (Q9 (a.y_-b.num_))<|(JK F a.history_ a.crops_ (a.y_-b.num_) (-1:Int) (0:Int)).bind fun j=>(G5 F a.line_.g_.t_ j (3:Int)).bind fun w=>(UL F a j w).bind fun y=>some y) (br (b.op_==11) (gd (0<=(0:Int)/\0<(b.kids_.length:Int))<|gd (Q9 (gl b.kids_ (0:Int).toNat).op_)<|(rc a (gl b.kids_ (0:Int).toNat)).bind fun c=>some (⟨c.no_,c.yes_,c.open_⟩:Ref16Truth)) (gd (0<=(0:Int)/\0<(b.kids_.length:Int))<|gd (Q9 (gl b.kids_ (0:Int).toNat).op_)<|(rc a (gl b.kids_ (0:Int).toNat)).bind fun d=>gd (0<=(1:Int)/\1<=(b.kids_.length:Int))<|Z7 (fun g (z:Int×(List Rect)×(List Rect)×(List Rect))=>Gk F rc a b g z.1 z.2.1 z.2.2.1 z.2.2.2) F ((0:Int),d.yes_,d.no_,d.open_))))))))))
def VW:Nat->Ref16Place->Term->Option Ref16Truth
 | 0=>fun _ _=>none
 | F+1=>SG F (VW F)
def Dj(F:Nat)(a:Int)(b:(Int)->Option (Truth×Int))(c:Bool):Option (Truth×Int):=
 br c (some ((⟨(⟨[]⟩:Re_),(⟨[]⟩:Re_),(⟨[]⟩:Re_)⟩:Truth),(13:Int))) (gd (Q9 (a+1))<|b (a+1))
def Dg(F:Nat)(a:Ref16Truth)(b:Bool):Option (Truth×Int):=
 br b (some ((⟨(⟨[]⟩:Re_),(⟨[]⟩:Re_),(⟨[]⟩:Re_)⟩:Truth),(1:Int))) (some ((⟨(⟨a.yes_⟩:Re_),(⟨a.no_⟩:Re_),(⟨a.open_⟩:Re_)⟩:Truth),(0:Int)))
def Dh(F:Nat)(d:Term)(b:Line)(e:Int)(i:List Crop)(j:List Rg_)(k:List A2_)(l:Int)(c:Bool):Option (Truth×Int):=
 br c (some ((⟨(⟨[]⟩:Re_),(⟨[]⟩:Re_),(⟨[]⟩:Re_)⟩:Truth),(9:Int))) ((Wk F b.g_).bind fun m=>br (!m) (some ((⟨(⟨[]⟩:Re_),(⟨[]⟩:Re_),(⟨[]⟩:Re_)⟩:Truth),(7:Int))) ((VW F (⟨b,e,i,j,k,l⟩:Ref16Place) d).bind fun a=>br (decide (120<(a.yes_.length:Int))) (Dg F a true) (br (decide (120<(a.no_.length:Int))) (Dg F a true) (Dg F a (decide (120<(a.open_.length:Int)))))))
def Di(F:Nat)(c:Term)(d:Line)(e:Int)(i:List Crop)(j:List Rg_)(b:List A2_)(a:Int)(l:Bool):Option (Truth×Int):=
 br l (some ((⟨(⟨[]⟩:Re_),(⟨[]⟩:Re_),(⟨[]⟩:Re_)⟩:Truth),(18:Int))) ((XO F b).bind fun k=>br (k != (0:Int)) (some ((⟨(⟨[]⟩:Re_),(⟨[]⟩:Re_),(⟨[]⟩:Re_)⟩:Truth),k)) (br (decide (a<0)) (Dh F c d e i j b a true) (Dh F c d e i j b a (decide ((36864:Int)<a)))))
def SV(F:Nat)(c:Term)(d:Line)(a:Int)(e:List Crop)(b:List Rg_)(i:List A2_)(j:Int):Option (Truth×Int):=
 (Dv F b).bind fun k=>br (k != (0:Int)) (some ((⟨(⟨[]⟩:Re_),(⟨[]⟩:Re_),(⟨[]⟩:Re_)⟩:Truth),k)) (br (decide (a<0)) (Di F c d a e b i j true) (Di F c d a e b i j (decide ((100:Int)<a))))
def Gm(F:Nat)(e:Term)(i:Line)(j:Int)(d:List Crop)(b:List Rg_)(k:List A2_)(l:Int)(c:(Int)->Option (Truth×Int))(a:Int):Option (Truth×Int):=
 br (decide (a<(b.length:Int))) (gd (0<=a/\a<(b.length:Int))<|br (decide (((gl b a.toNat).c_)<0)) (Dj F a c true) (Dj F a c (decide ((d.length:Int)<=((gl b a.toNat).c_))))) (SV F e i j d b k l)
def Dk(F:Nat)(b:Term)(c:Line)(d:Int)(e:List Crop)(i:List Rg_)(j:List A2_)(k:Int)(a:Bool):Option (Truth×Int):=
 br a (some ((⟨(⟨[]⟩:Re_),(⟨[]⟩:Re_),(⟨[]⟩:Re_)⟩:Truth),(13:Int))) (Z7 (fun g (z:Int)=>Gm F b c d e i j k g z) F (0:Int))
def SW(F:Nat)(c:Term)(a:Line)(d:Int)(b:List Crop)(e:List Rg_)(i:List A2_)(j:Int):Option (Truth×Int):=
 (Dl F c).bind fun k=>br (k != (0:Int)) (some ((⟨(⟨[]⟩:Re_),(⟨[]⟩:Re_),(⟨[]⟩:Re_)⟩:Truth),k)) ((Tc F b).bind fun l=>br (l != (0:Int)) (some ((⟨(⟨[]⟩:Re_),(⟨[]⟩:Re_),(⟨[]⟩:Re_)⟩:Truth),l)) (br (decide (a.c_<0)) (Dk F c a d b e i j true) (Dk F c a d b e i j (decide ((b.length:Int)<=a.c_)))))
def zy(F:Nat)(a:Bool):Option Int:=
 br a (some (9:Int)) (some (0:Int))
def XM(F:Nat)(c:List A2_)(a:Int):Option Int:=
 (XO F c).bind fun b=>br (b != (0:Int)) (some b) (br (decide (a<0)) (zy F true) (zy F (decide ((36864:Int)<a))))
def DE(F:Nat)(a:List A2_)(b:Int):Option (Re_×Int):=
 (XM F a b).bind fun c=>br (c != (0:Int)) (some ((⟨[]⟩:Re_),c)) ((JP F a (0:Int) (7:Int) b).bind fun e=>(JS F e).bind fun d=>some (d.1,d.2))
def DJ(F:Nat)(a b:Rect)(c:Bool):Option Int:=
 br c (gd (Q9 ((Qd a.R_ b.R_)-(J3 a.L_ b.L_)))<|some (J3 (0:Int) ((Qd a.R_ b.R_)-(J3 a.L_ b.L_)))) (some (0:Int))
def DK(F:Nat)(a b:Rect)(c:Bool):Option Int:=
 br c (gd (Q9 ((Qd a.H_ b.H_)-(J3 a.w_ b.w_)))<|some (J3 (0:Int) ((Qd a.H_ b.H_)-(J3 a.w_ b.w_)))) (br (a.H_==b.w_) (DJ F a b true) (DJ F a b (b.H_==a.w_)))
def Tk(F:Nat)(a b:Rect):Option Int:=
 br (a.R_==b.L_) (DK F a b true) (DK F a b (b.R_==a.L_))
def DN(F:Nat)(a:Int)(b:(Bool×Int×(List Int))->Option ((List Re_)×Int))(c:Bool)(d:List Int):Option ((List Re_)×Int):=
 gd (Q9 (a+1))<|b (c,(a+1),d)
def DO(F:Nat)(c:Int)(e:Bool)(a:Int)(b:List Int)(d:(Bool×Int×(List Int))->Option ((List Re_)×Int))(i:Bool):Option ((List Re_)×Int):=
 br i (gd (0<=a/\a<(b.length:Int))<|gd (0<=c/\c<(b.length:Int))<|DN F a d true (List.set b c.toNat (gl b a.toNat))) (DN F a d e b)
def zH(F:Nat)(a:Int)(b:(Bool×Int×(List Int))->Option ((List Re_)×Int))(c:Bool)(d:List Int):Option ((List Re_)×Int):=
 gd (Q9 (a+1))<|b (c,(a+1),d)
def zK(F:Nat)(d:Re_)(a:Int)(k:List Int)(j i:(Bool×Int×(List Int))->Option ((List Re_)×Int))(e:Bool)(b:Int)(c:List Int):Option ((List Re_)×Int):=
 br (decide (b<(k.length:Int))) (gd (0<=b/\b<(c.length:Int))<|gd (0<=a/\a<(c.length:Int))<|br (decide ((gl c b.toNat)<(gl c a.toNat))) (gd (0<=a/\a<(d.t_.length:Int))<|gd (0<=b/\b<(d.t_.length:Int))<|(Tk F (gl d.t_ a.toNat) (gl d.t_ b.toNat)).bind fun l=>DO F a e b c i (decide ((0:Int)<l))) (DO F a e b c i false)) (zH F a j e c)
def bt(F:Nat)(j:Re_)(i:List Int)(d:(Bool×(List Int))->Option ((List Re_)×Int))(e:(Bool×Int×(List Int))->Option ((List Re_)×Int))(b:Bool)(c:Int)(a:List Int):Option ((List Re_)×Int):=
 br (decide (c<(i.length:Int))) (Z7 (fun g (z:Bool×Int×(List Int))=>zK F j c a e g z.1 z.2.1 z.2.2) F (b,(0:Int),a)) (d (b,a))
def DP(F:Nat)(a:Int)(b:(Int×(List Re_))->Option ((List Re_)×Int))(c:List Re_):Option ((List Re_)×Int):=
 gd (Q9 (a+1))<|b ((a+1),c)
def DQ(F:Nat)(a:Int)(b:(Int×(List Rect))->Option ((List Re_)×Int))(c:List Rect):Option ((List Re_)×Int):=
 gd (Q9 (a+1))<|b ((a+1),c)
def zJ(F:Nat)(d:Int)(a:List Re_)(c:(Int×(List Re_))->Option ((List Re_)×Int))(e:List Rect):Option ((List Re_)×Int):=
 (G5 F e ([]) (1:Int)).bind fun b=>gd (a.length+(List.length ([(⟨b⟩:Re_)]:List Re_))<=Y5)<|DP F d c (a++([(⟨b⟩:Re_)]:List Re_))
def bv(F:Nat)(d:Re_)(c:List Int)(i:Int)(k:List Re_)(j:(Int×(List Re_))->Option ((List Re_)×Int))(e:(Int×(List Rect))->Option ((List Re_)×Int))(a:Int)(b:List Rect):Option ((List Re_)×Int):=
 br (decide (a<(c.length:Int))) (gd (0<=a/\a<(c.length:Int))<|br ((gl c a.toNat)==i) (gd (0<=a/\a<(d.t_.length:Int))<|gd (b.length+(List.length ([(gl d.t_ a.toNat)]:List Rect))<=Y5)<|DQ F a e (b++([(gl d.t_ a.toNat)]:List Rect))) (DQ F a e b)) (zJ F i k j b)
def zI(F:Nat)(a:List Re_):Option ((List Re_)×Int):=
 some (a,(0:Int))
def bq(F:Nat)(e:Re_)(b:List Int)(d:(Int×(List Re_))->Option ((List Re_)×Int))(a:Int)(c:List Re_):Option ((List Re_)×Int):=
 br (decide (a<(b.length:Int))) (gd (0<=a/\a<(b.length:Int))<|br ((gl b a.toNat) != a) (DP F a d c) (Z7 (fun g (z:Int×(List Rect))=>bv F e b a c d g z.1 z.2) F ((0:Int),([]:List Rect)))) (zI F c)
def DM(F:Nat)(b:Re_)(a:List Int):Option ((List Re_)×Int):=
 Z7 (fun g (z:Int×(List Re_))=>bq F b a g z.1 z.2) F ((0:Int),([]:List Re_))
def bu(F:Nat)(b:Re_)(c:(Bool×(List Int))->Option ((List Re_)×Int))(d:Bool)(a:List Int):Option ((List Re_)×Int):=
 br d (Z7 (fun g (z:Bool×Int×(List Int))=>bt F b a c g z.1 z.2.1 z.2.2) F (false,(0:Int),a)) (DM F b a)
def Tl(F:Nat)(b:Re_)(a:List Int):Option ((List Re_)×Int):=
 Z7 (fun g (z:Bool×(List Int))=>bu F b g z.1 z.2) F (true,a)
def bw(F:Nat)(c:Re_)(d:(Int×(List Int))->Option ((List Re_)×Int))(a:Int)(b:List Int):Option ((List Re_)×Int):=
 br (decide (a<((List.length (List.replicate ((c.t_.length:Int)).toNat (0:Int)):Nat):Int))) (gd (0<=a/\a<(b.length:Int))<|gd (Q9 (a+1))<|d ((a+1),(List.set b a.toNat a))) (Tl F c b)
def DR(F:Nat)(a:Re_):Option ((List Re_)×Int):=
 (Wk F a).bind fun b=>br (!b) (some ([],(7:Int))) (gd (0<=(a.t_.length:Int)/\(a.t_.length:Int)<=((Y5:Nat):Int))<|Z7 (fun g (z:Int×(List Int))=>bw F a g z.1 z.2) F ((0:Int),(List.replicate ((a.t_.length:Int)).toNat (0:Int))))
def bM(F:Nat)(a:Int):Option Int:=
 some a
def bN(F:Nat)(b:List Rect)(d:(Int×Int)->Option Int)(c a:Int):Option Int:=
 br (decide (a<(b.length:Int))) (gd (0<=a/\a<(b.length:Int))<|gd (Q9 (((gl b a.toNat).R_)-((gl b a.toNat).L_)))<|gd (Q9 (((gl b a.toNat).H_)-((gl b a.toNat).w_)))<|gd (Q9 ((((gl b a.toNat).R_)-((gl b a.toNat).L_))*(((gl b a.toNat).H_)-((gl b a.toNat).w_))))<|gd (Q9 (c+((((gl b a.toNat).R_)-((gl b a.toNat).L_))*(((gl b a.toNat).H_)-((gl b a.toNat).w_)))))<|gd (Q9 (a+1))<|d ((c+((((gl b a.toNat).R_)-((gl b a.toNat).L_))*(((gl b a.toNat).H_)-((gl b a.toNat).w_)))),(a+1))) (bM F c)
def XQ(F:Nat)(a:List Rect):Option Int:=
 Z7 (fun g (z:Int×Int)=>bN F a g z.1 z.2) F ((0:Int),(0:Int))
def XT(F:Nat)(a:Re_):Option Int:=
 (Wk F a).bind fun b=>br (!b) (some (0:Int)) ((XQ F a.t_).bind fun c=>some c)
def DD(F:Nat)(a:Int)(b:((List Rect)×Int)->Option (Re_×Int))(c:List Rect):Option (Re_×Int):=
 gd (Q9 (a+1))<|b (c,(a+1))
def zA(F:Nat)(b:List Rect):Option (Re_×Int):=
 (JS F b).bind fun a=>some (a.1,a.2)
def bf(F:Nat)(e:Int)(b:(List Re_)×Int)(d:((List Rect)×Int)->Option (Re_×Int))(c:List Rect)(a:Int):Option (Re_×Int):=
 br (decide (a<(b.1.length:Int))) (gd (0<=a/\a<(b.1.length:Int))<|(XT F (gl b.1 a.toNat)).bind fun i=>br (decide (e<i)) ((G5 F c ((gl b.1 a.toNat).t_) (1:Int)).bind fun j=>DD F a d j) (DD F a d c)) (zA F c)
def Gq(F:Nat)(b:Int)(c:List Rect)(a:Bool):Option (Re_×Int):=
 br a (some ((⟨[]⟩:Re_),(1:Int))) ((DR F (⟨c⟩:Re_)).bind fun d=>Z7 (fun g (z:(List Rect)×Int)=>bf F b d g z.1 z.2) F (([]:List Rect),(0:Int)))
def Td(F:Nat)(e:List A2_)(i b:Int)(j:Re_)(d:Bool):Option (Re_×Int):=
 br d (some ((⟨[]⟩:Re_),(2:Int))) ((JP F e (8:Int) (11:Int) i).bind fun c=>(G5 F c j.t_ (2:Int)).bind fun a=>br (decide (120<(c.length:Int))) (Gq F b a true) (Gq F b a (decide (120<(a.length:Int)))))
def JL(F:Nat)(b:List A2_)(c a:Int)(d:Re_):Option (Re_×Int):=
 (XM F b c).bind fun e=>br (e != (0:Int)) (some ((⟨[]⟩:Re_),e)) ((Wk F d).bind fun i=>br (!i) (some ((⟨[]⟩:Re_),(7:Int))) (br (decide (a<0)) (Td F b c a d true) (Td F b c a d (decide ((268435456:Int)<a)))))
def Te(F:Nat)(c:Re_)(d:List A2_)(e k:Int)(j:Bool):Option (Re_×Int):=
 br j (some ((⟨[]⟩:Re_),(2:Int))) ((DE F d e).bind fun a=>br (a.2 != (0:Int)) (some ((⟨[]⟩:Re_),a.2)) ((JL F d e k c).bind fun b=>br (b.2 != (0:Int)) (some ((⟨[]⟩:Re_),b.2)) ((G5 F c.t_ a.1.t_ (3:Int)).bind fun l=>(G5 F l b.1.t_ (3:Int)).bind fun m=>(JS F m).bind fun i=>some (i.1,i.2))))
def UN(F:Nat)(b:Re_)(c:List A2_)(d a:Int):Option (Re_×Int):=
 (XM F c d).bind fun e=>br (e != (0:Int)) (some ((⟨[]⟩:Re_),e)) ((Wk F b).bind fun i=>br (!i) (some ((⟨[]⟩:Re_),(7:Int))) (br (decide (a<0)) (Te F b c d a true) (Te F b c d a (decide ((268435456:Int)<a)))))
def To(F:Nat)(a:Bool):Option Bool:=
 some a
def Tp(F:Nat)(a b:Re_):Option Bool:=
 (Wk F a).bind fun c=>br c ((Wk F b).bind fun d=>br d ((G5 F a.t_ b.t_ (3:Int)).bind fun e=>To F ((e.length:Int)==0)) (To F false)) (To F false)
def KZ(F:Nat)(b:Line)(i:Re_)(c:Scheme)(a:World):Option (Ref18Parts×Int):=
 (Wk F i).bind fun l=>br (!l) (some ((⟨[],[],[]⟩:Ref18Parts),(7:Int))) ((SW F c.cond_ b a.y_ a.crops_ a.history_ a.zones_ a.day_).bind fun d=>br (d.2 != (0:Int)) (some ((⟨[],[],[]⟩:Ref18Parts),d.2)) ((Da F c).bind fun m=>br (m != (0:Int)) (some ((⟨[],[],[]⟩:Ref18Parts),(17:Int))) ((UN F i a.zones_ a.day_ a.most_).bind fun e=>br (e.2 != (0:Int)) (some ((⟨[],[],[]⟩:Ref18Parts),e.2)) ((Tp F b.g_ i).bind fun n=>br (!n) (some ((⟨[],[],[]⟩:Ref18Parts),(12:Int))) (gd (0<=c.N_)<|br ((QN .i64 (b.s_.fdiv (2 ^ (min (c.N_).toNat (IntKind.bits .i64)))) (1:Int))==0) (some ((⟨[],b.g_.t_,[]⟩:Ref18Parts),(0:Int))) ((G5 F d.1.true_.t_ e.1.t_ (2:Int)).bind fun j=>(G5 F d.1.unknown_.t_ e.1.t_ (2:Int)).bind fun k=>(G5 F b.g_.t_ j (3:Int)).bind fun o=>(G5 F o k (3:Int)).bind fun p=>some ((⟨j,p,k⟩:Ref18Parts),(0:Int))))))))
def Xz(F:Nat)(a:Ref18Parts)(b:Bool):Option (Truth×Int):=
 br b (some ((⟨(⟨[]⟩:Re_),(⟨[]⟩:Re_),(⟨[]⟩:Re_)⟩:Truth),(1:Int))) (some ((⟨(⟨a.due_⟩:Re_),(⟨a.refused_⟩:Re_),(⟨a.open_⟩:Re_)⟩:Truth),(0:Int)))
def Ga(F:Nat)(a:Ref18Parts):Option (Truth×Int):=
 br (decide (120<(a.due_.length:Int))) (Xz F a true) (br (decide (120<(a.refused_.length:Int))) (Xz F a true) (Xz F a (decide (120<(a.open_.length:Int)))))
def Gb(F:Nat)(c:Line)(d:Re_)(e:Scheme)(i:World):Option (Truth×Int):=
 (KZ F c d e i).bind fun a=>br (a.2 != (0:Int)) (some ((⟨(⟨[]⟩:Re_),(⟨[]⟩:Re_),(⟨[]⟩:Re_)⟩:Truth),a.2)) ((Ga F a.1).bind fun b=>some (b.1,b.2))
def qY(F:Nat)(a:Int)(b:(Int)->Option Int):Option Int:=
 gd (Q9 (a+1))<|b (a+1)
def BU(F:Nat)(c:List Line)(b:Int)(d e:(Int)->Option Int)(a:Int):Option Int:=
 br (decide (a<((List.length (c.take b.toNat):Nat):Int))) (gd (0<=b/\b<(c.length:Int))<|gd (0<=a/\a<(c.length:Int))<|(DW F ((gl c b.toNat).g_) ((gl c a.toNat).g_)).bind fun i=>br i (some (11:Int)) (gd (Q9 (a+1))<|e (a+1))) (qY F b d)
def jZ(F:Nat):Option Int:=
 some (0:Int)
def Sx(F:Nat)(b:List Line)(c:(Int)->Option Int)(a:Int):Option Int:=
 br (decide (a<(b.length:Int))) (gd (0<=a/\a<=(b.length:Int))<|Z7 (fun g (z:Int)=>BU F b a c g z) F (0:Int)) (jZ F)
def BV(F:Nat)(a:List Line):Option Int:=
 Z7 (fun g (z:Int)=>Sx F a g z) F (0:Int)
def zf(F:Nat)(a:Int)(b:(Int×(List Int))->Option ((List Int)×Int))(c:List Int):Option ((List Int)×Int):=
 gd (Q9 (a+1))<|b ((a+1),c)
def BY(F:Nat)(d:Int)(a:List Int)(c:(Int×(List Int))->Option ((List Int)×Int))(b:Int):Option ((List Int)×Int):=
 gd (a.length+(List.length ([b]:List Int))<=Y5)<|zf F d c (a++([b]:List Int))
def zg(F:Nat)(e:List Scheme)(a:Int)(c:List Int)(b:(Int×(List Int))->Option ((List Int)×Int))(d:Int):Option ((List Int)×Int):=
 br (decide (d<((gl e a.toNat).least_))) (BY F a c b (0:Int)) (BY F a c b d)
def zh(F:Nat)(b:List Line)(c:List Re_)(i:List Scheme)(j:World)(d:Int)(o:List Int)(m:(Int×(List Int))->Option ((List Int)×Int))(n:(Int×Int)->Option ((List Int)×Int))(e a:Int):Option ((List Int)×Int):=
 br (decide (a<(b.length:Int))) (gd (0<=a/\a<(b.length:Int))<|gd (0<=a/\a<(c.length:Int))<|(Gb F (gl b a.toNat) (gl c a.toNat) (gl i d.toNat) j).bind fun k=>br (k.2 != (0:Int)) (some ([],k.2)) (gd (0<=a/\a<(b.length:Int))<|gd (0<=a/\a<(c.length:Int))<|(KZ F (gl b a.toNat) (gl c a.toNat) (gl i d.toNat) j).bind fun p=>(XQ F p.1.due_).bind fun l=>gd (Q9 (e+l))<|gd (Q9 (a+1))<|n ((e+l),(a+1)))) (zg F i d o m e)
def ze(F:Nat)(c:List Line)(b:List Int):Option ((List Int)×Int):=
 (BV F c).bind fun a=>br (a != (0:Int)) (some ([],a)) (some (b,(0:Int)))
def zi(F:Nat)(d:List Line)(i:List Re_)(b:List Scheme)(j:World)(e:(Int×(List Int))->Option ((List Int)×Int))(a:Int)(c:List Int):Option ((List Int)×Int):=
 br (decide (a<(b.length:Int))) (gd (0<=a/\a<(b.length:Int))<|Z7 (fun g (z:Int×Int)=>zh F d i b j a c e g z.1 z.2) F ((0:Int),(0:Int))) (ze F d c)
def Sz(F:Nat)(a:List Line)(b:List Re_)(c:List Scheme)(e:World):Option ((List Int)×Int):=
 (BW F a b c).bind fun d=>br (d != (0:Int)) (some ([],d)) (Z7 (fun g (z:Int×(List Int))=>zi F a b c e g z.1 z.2) F ((0:Int),([]:List Int)))
def Fu(F:Nat)(c:List Line)(e:List Re_)(a:List Scheme)(l:Int)(m:World):Option (Truth×Int):=
 (HU F c e a).bind fun i=>br (i != (0:Int)) (some ((⟨(⟨[]⟩:Re_),(⟨[]⟩:Re_),(⟨[]⟩:Re_)⟩:Truth),i)) ((BE F a l).bind fun b=>br (decide (b<0)) (some ((⟨(⟨[]⟩:Re_),(⟨[]⟩:Re_),(⟨[]⟩:Re_)⟩:Truth),(17:Int))) (gd (0<=b/\b<(a.length:Int))<|(HT F c e (gl a b.toNat) m).bind fun d=>br (d.2 != (0:Int)) (some ((⟨(⟨[]⟩:Re_),(⟨[]⟩:Re_),(⟨[]⟩:Re_)⟩:Truth),d.2)) ((HW F c).bind fun j=>br (j != (0:Int)) (some ((⟨(⟨[]⟩:Re_),(⟨[]⟩:Re_),(⟨[]⟩:Re_)⟩:Truth),j)) ((Kh F d.1).bind fun k=>some (k.1,k.2)))))
def BX(F:Nat)(a:Int)(b:(Int×(List Rect)×(List Rect)×(List Rect))->Option (Truth×Int))(c d e:List Rect):Option (Truth×Int):=
 gd (Q9 (a+1))<|b ((a+1),c,d,e)
def zb(F:Nat)(i:List Line)(c d e:List Rect):Option (Truth×Int):=
 (BV F i).bind fun a=>br (a != (0:Int)) (some ((⟨(⟨[]⟩:Re_),(⟨[]⟩:Re_),(⟨[]⟩:Re_)⟩:Truth),a)) ((Ga F (⟨c,d,e⟩:Ref18Parts)).bind fun b=>some (b.1,b.2))
def zc(F:Nat)(b:List Line)(d:List Re_)(e:List Scheme)(n:Int)(o:World)(c:Int)(m:(Int×(List Rect)×(List Rect)×(List Rect))->Option (Truth×Int))(a:Int)(i j k:List Rect):Option (Truth×Int):=
 br (decide (a<(b.length:Int))) (gd (0<=a/\a<(b.length:Int))<|gd (0<=a/\a<(d.length:Int))<|gd (0<=c/\c<(e.length:Int))<|(Gb F (gl b a.toNat) (gl d a.toNat) (gl e c.toNat) o).bind fun p=>br (p.2 != (0:Int)) (some ((⟨(⟨[]⟩:Re_),(⟨[]⟩:Re_),(⟨[]⟩:Re_)⟩:Truth),p.2)) (gd (0<=a/\a<(b.length:Int))<|gd (0<=a/\a<(d.length:Int))<|gd (0<=c/\c<(e.length:Int))<|(KZ F (gl b a.toNat) (gl d a.toNat) (gl e c.toNat) o).bind fun l=>gd (0<=a/\a<(b.length:Int))<|gd (0<=n)<|br ((QN .i64 (((gl b a.toNat).s_).fdiv (2 ^ (min (n).toNat (IntKind.bits .i64)))) (1:Int))==1) ((G5 F i l.1.due_ (1:Int)).bind fun q=>(G5 F j l.1.refused_ (1:Int)).bind fun s=>(G5 F k l.1.open_ (1:Int)).bind fun t=>BX F a m q s t) (BX F a m i j k))) (zb F b i j k)
def Sy(F:Nat)(b:List Line)(c:List Re_)(a:List Scheme)(d:Int)(j:World):Option (Truth×Int):=
 (BW F b c a).bind fun e=>br (e != (0:Int)) (some ((⟨(⟨[]⟩:Re_),(⟨[]⟩:Re_),(⟨[]⟩:Re_)⟩:Truth),e)) ((Db F a d).bind fun i=>br (decide (i<0)) (some ((⟨(⟨[]⟩:Re_),(⟨[]⟩:Re_),(⟨[]⟩:Re_)⟩:Truth),(17:Int))) (Z7 (fun g (z:Int×(List Rect)×(List Rect)×(List Rect))=>zc F b c a d j i g z.1 z.2.1 z.2.2.1 z.2.2.2) F ((0:Int),[],[],[])))
def Gs(F:Nat)(a b:Re_):Option Bool:=
 (DU F a.t_ b.t_).bind fun c=>some c
def SU(F:Nat)(a:Bool):Option Bool:=
 some a
def Df(F:Nat)(a b:Truth):Option Bool:=
 (Gs F a.true_ b.true_).bind fun c=>br c ((Gs F a.false_ b.false_).bind fun d=>br d ((Gs F a.unknown_ b.unknown_).bind fun e=>SU F e) (SU F false)) (SU F false)
def TZ(F:Nat)(a:Bool):Option Bool:=
 some a
def Ca(F:Nat):Option Bool:=
 (Ki F (⟨(1:Int),(⟨([(⟨0,0,(10:Int),(1:Int)⟩:Rect)]:List Rect)⟩:Re_),0,(1:Int)⟩:Line) (⟨([(⟨0,0,(10:Int),(1:Int)⟩:Rect)]:List Rect)⟩:Re_) (⟨0,(ByteArray.mk #[115]),(⟨(1:Int),0,0,[]⟩:Term),([(⟨(10:Int),(1:Int)⟩:Bracket)]:List Bracket),0,0,false⟩:Scheme) (⟨0,([(⟨(ByteArray.mk #[114,121,101]),0,0⟩:Crop)]:List Crop),[],([(⟨(1:Int),0,0,(9:Int),(⟨([(⟨(3:Int),0,(5:Int),(1:Int)⟩:Rect)]:List Rect)⟩:Re_)⟩:A2_)]:List A2_),0,0⟩:World)).bind fun a=>br (a.2==(0:Int)) ((XT F a.1.true_).bind fun b=>br (b==8) ((XT F a.1.false_).bind fun c=>TZ F (c==2)) (TZ F false)) (TZ F false)
def yU(F:Nat)(b:List Line)(a:List Re_):Option ((List Line)×(List Re_)):=
 some (b,a)
def Cz(F:Nat)(b:List Line)(c:List Re_)(i:(Int×(List Re_))->Option ((List Line)×(List Re_)))(a:Int)(e:List Re_):Option ((List Line)×(List Re_)):=
 br (decide (a<(b.length:Int))) (gd (0<=a/\a<(b.length:Int))<|gd (Q9 (((gl b a.toNat).p_)-1))<|(JY F (((gl b a.toNat).p_)-1) (c.length:Int)).bind fun d=>gd (0<=d/\d<(c.length:Int))<|gd (e.length+(List.length ([(gl c d.toNat)]:List Re_))<=Y5)<|gd (Q9 (a+1))<|i ((a+1),(e++([(gl c d.toNat)]:List Re_)))) (yU F b e)
def CA(F:Nat)(a:List Line)(b:List Re_):Option ((List Line)×(List Re_)):=
 Z7 (fun g (z:Int×(List Re_))=>Cz F a b g z.1 z.2) F ((0:Int),([]:List Re_))
def Cc(F:Nat)(a:Int)(b:(Int)->Option Bool)(c:Bool):Option Bool:=
 br c (some false) (gd (Q9 (a+1))<|b (a+1))
def Hn(F:Nat)(a:Int)(b:(Int)->Option Bool):Option Bool:=
 gd (Q9 (a+1))<|b (a+1)
def Cb(F:Nat)(b:Int)(a:(Int)->Option Bool)(c:Bool):Option Bool:=
 br c (some false) (Hn F b a)
def Cd(F:Nat)(a:Int)(b:(Int)->Option Bool):Option Bool:=
 gd (Q9 (a+1))<|b (a+1)
def Ho(F:Nat)(c:Tape×World)(e:List Line)(d:List Re_)(i:List Scheme)(k l m a:Int)(p j:(Int)->Option Bool)(b:Int):Option Bool:=
 br (decide (b<(i.length:Int))) (gd (0<=b/\b<(i.length:Int))<|br (decide ((d.length:Int)<=a)) (Hn F b j) (gd (0<=a/\a<(e.length:Int))<|gd (0<=a/\a<(d.length:Int))<|(Ki F (gl e a.toNat) (gl d a.toNat) (gl i b.toNat) (⟨k,c.2.crops_,c.2.history_,c.2.zones_,l,m⟩:World)).bind fun n=>gd (0<=a/\a<(e.length:Int))<|gd (0<=a/\a<(d.length:Int))<|(Gb F (gl e a.toNat) (gl d a.toNat) (gl i b.toNat) (⟨k,c.2.crops_,c.2.history_,c.2.zones_,l,m⟩:World)).bind fun o=>(Df F n.1 o.1).bind fun q=>br (!q) (Cb F b j true) (Cb F b j (n.2 != o.2)))) (Cd F a p)
def yG(F:Nat):Option Bool:=
 (Ca F).bind fun a=>some a
def Hp(F:Nat)(l:Tape×World)(a:List Line)(d:List Re_)(e:List Scheme)(i j k:Int)(c:(Int)->Option Bool)(b:Int):Option Bool:=
 br (decide (b<(a.length:Int))) (Z7 (fun g (z:Int)=>Ho F l a d e i j k b c g z) F (0:Int)) (yG F)
def yE(F:Nat)(j:Tape×World)(a:List Line)(b:List Re_)(c:List Scheme)(d e i:Int):Option Bool:=
 Z7 (fun g (z:Int)=>Hp F j a b c d e i g z) F (0:Int)
def Hq(F:Nat)(c:Int)(b:Tape×World)(e:List Line)(i:List Re_)(j:List Scheme)(k l m d:Int)(n:(Int)->Option Bool)(a:Int):Option Bool:=
 br (decide (a<((List.length ([c,d]:List Int):Nat):Int))) (gd (0<=a/\a<((List.length ([c,d]:List Int):Nat):Int))<|(Fu F e i j (gl ([c,d]:List Int) a.toNat) (⟨k,b.2.crops_,b.2.history_,b.2.zones_,l,m⟩:World)).bind fun o=>(Sy F e i j (gl ([c,d]:List Int) a.toNat) (⟨k,b.2.crops_,b.2.history_,b.2.zones_,l,m⟩:World)).bind fun p=>(Df F o.1 p.1).bind fun q=>br (!q) (Cc F a n true) (Cc F a n (o.2 != p.2))) (yE F b e i j k l m)
def yF(F:Nat)(a:Int)(k:Tape×World)(b:List Line)(c:List Re_)(d:List Scheme)(e i j:Int):Option Bool:=
 (JY F a (4:Int)).bind fun l=>Z7 (fun g (z:Int)=>Hq F a k b c d e i j l g z) F (0:Int)
def Hr(F:Nat)(n:Int)(o:Tape×World)(e:List Line)(i:List Re_)(j:List Scheme)(k l m:Int)(b c:(List Int)×Int)(d:(Int)->Option Bool)(a:Int):Option Bool:=
 br (decide (a<(b.1.length:Int))) (gd (0<=a/\a<(b.1.length:Int))<|gd (0<=a/\a<(c.1.length:Int))<|br ((gl b.1 a.toNat) != (gl c.1 a.toNat)) (some false) (gd (Q9 (a+1))<|d (a+1))) (yF F n o e i j k l m)
def Ce(F:Nat)(k:Int)(l:Tape×World)(a:List Line)(b:List Re_)(c:List Scheme)(d e i:Int)(m n:(List Int)×Int)(j:Bool):Option Bool:=
 br j (some false) (Z7 (fun g (z:Int)=>Hr F k l a b c d e i m n g z) F (0:Int))
def Yx(F:Nat)(m:Int)(a:Tape×World)(b:List Line)(c:List Re_)(d:List Scheme)(e i j:Int):Option Bool:=
 (Fv F b c d (⟨e,a.2.crops_,a.2.history_,a.2.zones_,i,j⟩:World)).bind fun k=>(Sz F b c d (⟨e,a.2.crops_,a.2.history_,a.2.zones_,i,j⟩:World)).bind fun l=>br ((k.1.length:Int) != (l.1.length:Int)) (Ce F m a b c d e i j k l true) (Ce F m a b c d e i j k l (k.2 != l.2))
def Cf(F:Nat)(d i:Int)(l:List Int):Option Bool:=
 (CB F l).bind fun m=>(Cy F m).bind fun j=>(Cp F j.1 j.2 (3:Int)).bind fun k=>(CA F k.2.1 k.2.2.2).bind fun b=>(Cu F k.1 (2:Int)).bind fun c=>(Cg F c.1 j.2).bind fun a=>(Qr F a.1 (16:Int)).bind fun e=>br (e.2==(0:Int)) (gd (b.2.length+(List.length ([(⟨[]⟩:Re_)]:List Re_))<=Y5)<|Yx F d a b.1 (b.2++([(⟨[]⟩:Re_)]:List Re_)) c.2 a.2.y_ a.2.day_ a.2.most_) (br (e.2==(1:Int)) (br (decide (0<(b.1.length:Int))) ((Hx F e.1 (9:Int) (2:Int)).bind fun n=>gd (0<=(0:Int)/\0<(b.1.length:Int))<|Yx F d a (List.set b.1 (0:Int).toNat (⟨(gl b.1 (0:Int).toNat).p_,n.2,(gl b.1 (0:Int).toNat).c_,(gl b.1 (0:Int).toNat).s_⟩:Line)) b.2 c.2 a.2.y_ a.2.day_ a.2.most_) (Yx F d a b.1 b.2 c.2 a.2.y_ a.2.day_ a.2.most_)) (br (e.2==(2:Int)) (br (decide (0<(c.2.length:Int))) (gd (0<=(0:Int)/\0<(c.2.length:Int))<|Yx F d a b.1 b.2 (List.set c.2 (0:Int).toNat (⟨(gl c.2 (0:Int).toNat).N_,(gl c.2 (0:Int).toNat).n_,(gl c.2 (0:Int).toNat).cond_,(gl c.2 (0:Int).toNat).brackets_,i,(gl c.2 (0:Int).toNat).excludes_,(gl c.2 (0:Int).toNat).needs_⟩:Scheme)) a.2.y_ a.2.day_ a.2.most_) (Yx F d a b.1 b.2 c.2 a.2.y_ a.2.day_ a.2.most_)) (br (e.2==(3:Int)) (Yx F d a b.1 b.2 c.2 i a.2.day_ a.2.most_) (br (e.2==(4:Int)) (Yx F d a b.1 b.2 c.2 a.2.y_ i a.2.most_) (br (e.2==(5:Int)) (Yx F d a b.1 b.2 c.2 a.2.y_ a.2.day_ i) (br (e.2==(6:Int)) (br (decide (0<(b.2.length:Int))) ((Hx F e.1 (9:Int) (2:Int)).bind fun o=>gd (0<=(0:Int)/\0<(b.2.length:Int))<|Yx F d a b.1 (List.set b.2 (0:Int).toNat o.2) c.2 a.2.y_ a.2.day_ a.2.most_) (Yx F d a b.1 b.2 c.2 a.2.y_ a.2.day_ a.2.most_)) (br (e.2==(7:Int)) (gd (b.1.length+b.1.length<=Y5)<|gd (b.2.length+b.2.length<=Y5)<|Yx F d a (b.1++b.1) (b.2++b.2) c.2 a.2.y_ a.2.day_ a.2.most_) (br (e.2==(8:Int)) (br (decide (0<(b.1.length:Int))) (gd (0<=(0:Int)/\0<(b.1.length:Int))<|Yx F d a (List.set b.1 (0:Int).toNat (⟨(gl b.1 (0:Int).toNat).p_,(gl b.1 (0:Int).toNat).g_,i,(gl b.1 (0:Int).toNat).s_⟩:Line)) b.2 c.2 a.2.y_ a.2.day_ a.2.most_) (Yx F d a b.1 b.2 c.2 a.2.y_ a.2.day_ a.2.most_)) (br (e.2==(9:Int)) (br (decide (0<(c.2.length:Int))) (gd (0<=(0:Int)/\0<(c.2.length:Int))<|Yx F d a b.1 b.2 (List.set c.2 (0:Int).toNat (⟨(gl c.2 (0:Int).toNat).N_,(gl c.2 (0:Int).toNat).n_,(gl c.2 (0:Int).toNat).cond_,(gl c.2 (0:Int).toNat).brackets_,(gl c.2 (0:Int).toNat).least_,i,(gl c.2 (0:Int).toNat).needs_⟩:Scheme)) a.2.y_ a.2.day_ a.2.most_) (Yx F d a b.1 b.2 c.2 a.2.y_ a.2.day_ a.2.most_)) (Yx F d a b.1 b.2 c.2 a.2.y_ a.2.day_ a.2.most_))))))))))
end
end Go.Ab
end
section
end
section
end
section
end
section
end
section
end
section
namespace Go.Ab
def Q8:Nat:=1099511627776
theorem Q7{R:Type}{p:Prop}[Decidable p]{x:Option R}{y:Option R}(h:p)(k:x=y):gd p x=y:=by unfold gd;rw [if_pos h];exact k
theorem Q4{α R:Type}{x:Option α}{f:α->Option R}{a:α}{y:Option R}(h:x=some a)(k:f a=y):x.bind f=y:=by rw [h];exact k
theorem Q6{R:Type}{b:Bool}{x y z:Option R}(ht:b=true->x=z)(hf:b=false->y=z):br b x y=z:=by cases b;exact hf rfl;exact ht rfl
theorem Z9{R:Type}{b:Bool}{x y z:Option R}(h:b=true)(k:x=z):br b x y=z:=by subst h;exact k
theorem Z3{R:Type}{b:Bool}{x y z:Option R}(h:b=false)(k:y=z):br b x y=z:=by subst h;exact k
theorem Q2Y{R:Type}(b:Bool)(x y:Option R):br b x y=if b=true then x else y:=by cases b <;> rfl
theorem J4{σ R:Type}{body:(σ->Option R)->σ->Option R}{y:Option R}(I:σ->Prop)(μ:σ->Nat)(round:∀ g z,I z->(∀ z',I z' -> μ z' < μ z->g z'=y)->body g z=y):∀ {n:Nat} {z:σ},I z->μ z<n->Z7 body n z=y:=by
 intro n
 induction n with
 | zero=>intro z _ h;omega
 | succ n ih=>
  intro z hz hμ;exact round (Z7 body n) z hz fun z' hz' hlt=>ih hz' (by omega)
section
variable {α:Type} [Emb α]
theorem K5{l:List α}{i:Nat}(h:i<l.length):gl l i=l[i]:=by simp [gl,List.getD_eq_getElem?_getD,h]
theorem V4{l:List α}{i:Nat}(h:i<l.length):gl l i ∈ l:=by rw [K5 h];exact List.getElem_mem h
theorem YB{l:List α}{i:Nat}(h:i<l.length):l.drop i=gl l i::l.drop (i+1):=by rw [K5 h];exact List.drop_eq_getElem_cons h
theorem QD{l:List α}{i:Nat}(h:i<l.length):l.take (i+1)=l.take i++[gl l i]:=by rw [K5 h];exact List.take_succ_eq_append_getElem h
end
theorem W2{n:Int}(h1 : -4611686018427387904<=n)(h2:n<=4611686018427387904):Q9 n:=⟨by omega,by omega⟩
theorem Q0p{α R:Type}[Emb α]{l:List α}{body:(Int->Option R)->Int->Option R}(y:List α->Option R)(step:∀ g (i:Nat),i<l.length->g ((i:Int)+1)=y (l.drop (i+1))->body g (i:Int)=y (gl l i::l.drop (i+1)))(stop:∀ g,body g (l.length:Int)=y []){F:Nat}(hF:l.length<F):Z7 body F 0=y l:=by
 have key:∀ (n:Nat) (i:Nat),i<=l.length->l.length-i<n->Z7 body n (i:Int)=y (l.drop i):=by
  intro n
  induction n with
  | zero=>intro i _ h;omega
  | succ n ih=>
   intro i hi hn;show body (Z7 body n) (i:Int)=_
   by_cases h:i<l.length
   .rw [YB h]
    refine step _ i h ?_;have:=ih (i+1) h (by omega)
    rw [<-this];congr 1
   .have:i=l.length:=by omega
    subst this;rw [List.drop_length];exact stop _
 have:=key F 0 (Nat.zero_le _) (by omega)
 rw [List.drop_zero] at this;exact this
theorem Gw{α σ R:Type}[Emb α]{l:List α}{body:(Int×σ->Option R)->Int×σ->Option R}(I:List α->σ->Prop)(y:List α->σ->Option R)(step:∀ g (i:Nat) (s:σ),i<l.length->I (gl l i::l.drop (i+1)) s->(∀ s',I (l.drop (i+1)) s' -> g ((i:Int)+1,s')=y (l.drop (i+1)) s')->body g ((i:Int),s)=y (gl l i::l.drop (i+1)) s)(stop:∀ g (s:σ),I [] s->body g ((l.length:Int),s)=y [] s){F:Nat}(hF:l.length<F){s0:σ}(h0:I l s0):Z7 body F (0,s0)=y l s0:=by
 have key:∀ (n:Nat) (i:Nat) (s:σ),i<=l.length->l.length-i<n->I (l.drop i) s->Z7 body n ((i:Int),s)=y (l.drop i) s:=by
  intro n
  induction n with
  | zero=>intro i _ _ h;omega
  | succ n ih=>
   intro i s hi hn hI;show body (Z7 body n) ((i:Int),s)=_
   by_cases h:i<l.length
   .rw [YB h] at hI ⊢
    refine step _ i s h hI fun s' hs'=>?_
    have:=ih (i+1) s' h (by omega) hs'
    rw [<-this];congr 1
   .have:i=l.length:=by omega
    subst this;rw [List.drop_length] at hI ⊢;exact stop _ s hI
 have:=key F 0 s0 (Nat.zero_le _) (by omega) (by rwa [List.drop_zero])
 rw [List.drop_zero] at this;exact this
theorem YE{R:Type}(K:Bool->Option R)(b x:Bool):br b (K x) (K false)=K (b&&x):=by cases b <;> rfl
theorem Yn{R:Type}(K:Bool->Option R)(b x:Bool):br b (K true) (K x)=K (b||x):=by cases b <;> rfl
theorem xw{α:Type}[Emb α]{l:List α}{i:Nat}(h:i<l.length)(p:α->Bool):(l.drop i).any p=(p (gl l i)||(l.drop (i+1)).any p):=by rw [YB h];rfl
theorem Vy{a b:Nat}(h:a<b):decide ((a:Int)<((b:Nat):Int))=true:=by simpa using h
theorem Um(a:Nat):decide ((a:Int)<((a:Nat):Int))=false:=by simp
theorem Z4{R:Type}{p:Prop}[Decidable p]{x:Option R}{y:Option R}(h:p:=by first|omega|exact W2 (by omega) (by omega) | (simp only [Y5,Q8,List.length_append,List.length_cons,List.length_nil,List.length_map,List.length_take,List.length_drop,List.length_set] at *;omega))(k:x=y):gd p x=y:=Q7 h k
end Go.Ab
end
section
namespace Go.Ab
def Yl(l:List Int):Prop:=l.Pairwise (· < ·)
theorem Yl.at_lt{l:List Int}(h:Yl l){i j:Nat}(hij:i<j)(hj:j<l.length):gl l i<gl l j:=by
 rw [K5 (by omega),K5 hj];exact List.pairwise_iff_getElem.1 h i j (by omega) hj hij
theorem yt{l:List Int}{v:Int}(h:v ∈ l):∃ j,j<l.length/\gl l j=v:=by
 obtain ⟨j,hj,e⟩:=List.getElem_of_mem h;exact ⟨j,hj,by rw [K5 hj];exact e⟩
theorem Yl.gap{c:List Int}(h:Yl c){i:Nat}(hi:i+1<c.length){t v:Int}(h1:gl c i<=t)(h2:t<gl c (i+1))(hv:v ∈ c):(v<=t↔v<=gl c i):=by
 obtain ⟨j,hj,rfl⟩:=yt hv;rcases Nat.lt_or_ge i j with hij|hij
 .rcases Nat.lt_or_ge (i+1) j with h3|h3
  .have:=h.at_lt h3 hj
   have:=h.at_lt (show i<i+1 by omega) hi
   omega
  .have:j=i+1:=by omega
   subst this;have:=h.at_lt (show i<i+1 by omega) hi
   omega
 .rcases Nat.lt_or_ge j i with h3|h3
  .have:=h.at_lt h3 (by omega)
   omega
  .have:j=i:=by omega
   subst this;omega
def Kr(c:List Int)(l:List Rect):Prop:=∀ r ∈ l,r.L_ ∈ c/\r.R_ ∈ c
def Jj(c:List Int)(l:List Rect):Prop:=∀ r ∈ l,r.w_ ∈ c/\r.H_ ∈ c
theorem Q1p{l:List Rect}{x y x' y' : Int}(h:∀ r ∈ l,r.has x y=r.has x' y'):Q2 l x y=Q2 l x' y':=by
 induction l with
 | nil=>rfl
 | cons r l ih=>
  simp only [Q2,List.any_cons] at ih ⊢;rw [h r (by simp),ih fun q hq=>h q (by simp [hq])]
theorem CH{l:List Rect}{x y:Int}(h:∀ r ∈ l,r.has x y=false):Q2 l x y=false:=by
 induction l with
 | nil=>rfl
 | cons r l ih=>
  simp only [Q2,List.any_cons] at ih ⊢;rw [h r (by simp),ih fun q hq=>h q (by simp [hq])];rfl
theorem Qh(r:Rect)(x y:Int):r.has x y=true↔r.L_<=x/\x<r.R_/\r.w_<=y/\y<r.H_:=by simp [Rect.has,and_assoc]
theorem Q1v{r:Rect}{x y x' y' : Int}(h:(r.L_<=x/\x<r.R_/\r.w_<=y/\y<r.H_)↔(r.L_<=x' /\ x' < r.R_/\r.w_<=y' /\ y' < r.H_)):r.has x y=r.has x' y':=by
 rw [Bool.eq_iff_iff,Qh,Qh];exact h
theorem HD{r:Rect}{x y:Int}(h:¬ (r.L_<=x/\x<r.R_/\r.w_<=y/\y<r.H_)):r.has x y=false:=by
 rw [<-Bool.not_eq_true,Qh];exact h
theorem Kr.gap{c:List Int}{l:List Rect}(hc:Yl c)(h:Kr c l){i:Nat}(hi:i+1<c.length){t:Int}(h1:gl c i<=t)(h2:t<gl c (i+1))(y:Int):Q2 l t y=Q2 l (gl c i) y:=
 Q1p fun r hr=>Q1v (by
  have a:=hc.gap hi h1 h2 (h r hr).1;have b:=hc.gap hi h1 h2 (h r hr).2
  omega)
theorem Jj.gap{c:List Int}{l:List Rect}(hc:Yl c)(h:Jj c l){i:Nat}(hi:i+1<c.length){t:Int}(h1:gl c i<=t)(h2:t<gl c (i+1))(x:Int):Q2 l x t=Q2 l x (gl c i):=
 Q1p fun r hr=>Q1v (by
  have a:=hc.gap hi h1 h2 (h r hr).1;have b:=hc.gap hi h1 h2 (h r hr).2
  omega)
theorem Kr.before{c:List Int}{l:List Rect}(h:Kr c l){t:Int}(ht:∀ v ∈ c,t<v)(y:Int):Q2 l t y=false:=
 CH fun r hr=>HD (by have:=ht _ (h r hr).1;omega)
theorem Kr.after{c:List Int}{l:List Rect}(h:Kr c l){t:Int}(ht:∀ v ∈ c,v<=t)(y:Int):Q2 l t y=false:=
 CH fun r hr=>HD (by have:=ht _ (h r hr).2;omega)
theorem Jj.before{c:List Int}{l:List Rect}(h:Jj c l){t:Int}(ht:∀ v ∈ c,t<v)(x:Int):Q2 l x t=false:=
 CH fun r hr=>HD (by have:=ht _ (h r hr).1;omega)
theorem Jj.after{c:List Int}{l:List Rect}(h:Jj c l){t:Int}(ht:∀ v ∈ c,v<=t)(x:Int):Q2 l x t=false:=
 CH fun r hr=>HD (by have:=ht _ (h r hr).2;omega)
theorem Yl.first{c:List Int}(h:Yl c){t:Int}(ht:t<gl c 0):∀ v ∈ c,t<v:=by
 intro v hv;obtain ⟨j,hj,rfl⟩:=yt hv
 rcases Nat.eq_zero_or_pos j with rfl|hp
 .exact ht
 .have:=h.at_lt hp hj;omega
theorem Yl.last{c:List Int}(h:Yl c){t:Int}{i:Nat}(hi:i+1=c.length)(ht:gl c i<=t):∀ v ∈ c,v<=t:=by
 intro v hv;obtain ⟨j,hj,rfl⟩:=yt hv
 rcases Nat.lt_or_ge j i with h1|h1
 .have:=h.at_lt h1 (by omega);omega
 .have:j=i:=by omega
  subst this;exact ht
structure Step {α:Type} (d:α) (c:List Int) (f:Int->α):Prop where
 asc:Yl c
 gap:∀ i,i+1<c.length->∀ t,gl c i<=t->t<gl c (i+1)->f t=f (gl c i)
 before:∀ t,(∀ v ∈ c,t<v)->f t=d
 after:∀ t,(∀ v ∈ c,v<=t)->f t=d
theorem Step.start{α:Type}{d:α}{c:List Int}{f:Int->α}(h:Step d c f)(_:0<c.length):Bst d f [] (gl c 0):=.start fun t ht=>h.before t (h.asc.first ht)
theorem Step.empty{α:Type}{d:α}{c:List Int}{f:Int->α}(h:Step d c f)(hc:c.length=0)(t:Int):f t=d:=h.before t fun v hv=>by
 rw [List.eq_nil_of_length_eq_zero hc] at hv;cases hv
theorem Step.done{α:Type}{d:α}{c:List Int}{f:Int->α}(h:Step d c f){i:Nat}(hi:i+1=c.length){acc:List (Rn α)}(hb:Bst d f acc (gl c i))(t:Int):J5 d acc t=f t:=by
 rcases Int.lt_or_le t (gl c i) with h1|h1
 .exact hb.val t h1
 .rw [hb.out t h1,h.after t (h.asc.last hi h1)]
open Classical in
noncomputable def QX(f:Int->Bool):List Span:=if h:∃ l,SpOk l/\∀ x,J1 l x=f x then h.choose else []
theorem KE{f:Int->Bool}{l:List Span}(hl:SpOk l)(h:∀ x,J1 l x=f x):QX f=l:=by
 have he:∃ l,SpOk l/\∀ x,J1 l x=f x:=⟨l,hl,h⟩;unfold QX
 rw [dif_pos he];exact he.choose_spec.1.unique hl fun x=>(he.choose_spec.2 x).trans (h x).symm
theorem SpOk.nil:SpOk []:=⟨fun s hs=>(List.not_mem_nil hs).elim,List.Pairwise.nil⟩
theorem LU{f:Int->Bool}(h:∀ x,f x=false):QX f=[]:=KE .nil fun x=>(h x).symm
def Mo(S:Int->Int->Bool):Prop:=∀ y,∃ l,SpOk l/\∀ x,J1 l x=S x y
theorem Mo.sp{S:Int->Int->Bool}(h:Mo S)(y:Int):SpOk (QX fun x=>S x y)/\∀ x,J1 (QX fun x=>S x y) x=S x y:=by
 obtain ⟨l,h1,h2⟩:=h y;rw [KE h1 h2];exact ⟨h1,h2⟩
theorem Step.cn{S:Int->Int->Bool}(hr:Mo S){c:List Int}(h:Step [] c fun y=>QX fun x=>S x y){acc:List (Rn (List Span))}(hacc:Runs acc)(hval:∀ t,J5 [] acc t=QX fun x=>S x t)(hne:∀ b ∈ acc,b.v≠[]):cn S=flat acc/\z8 S:=by
 have hv:∀ b ∈ acc,b.v=QX fun x=>S x b.lo:=by
  intro b hb;have hat:∀ (l:List (Rn (List Span))),Runs l->b ∈ l->J5 [] l b.lo=b.v:=by
   intro l
   induction l with
   | nil=>intro _ hb;cases hb
   | cons a l ih=>
    intro hl hb;rcases List.mem_cons.1 hb with rfl|hb
    .have:=hl.pos b (by simp)
     rw [J5,if_pos ⟨by omega,this⟩]
    .have h1:=(hl.head b hb).1
     rw [J5,if_neg (by omega)];exact ih hl.tail hb
  rw [<-hval,hat acc hacc hb]
 have hB:Bands acc:=⟨hacc,fun b hb=>by rw [hv b hb];exact (hr.sp _).1,hne⟩;have hS:∀ x y,J1 (J5 [] acc y) x=S x y:=fun x y=>by rw [hval];exact (hr.sp y).2 x
 exact ⟨PC hB hS,acc,hB,hS⟩
structure Grid (xs ys:List Int) (S:Int->Int->Bool):Prop where
 x:∀ y,Step false xs fun x=>S x y
 y:∀ x,Step false ys fun y=>S x y
theorem Step.spansL{xs:List Int}{f:Int->Bool}(h:Step false xs f):∃ l,SpOk l/\(∀ x,J1 l x=f x)/\l.length<=xs.length:=by
 by_cases h0:xs.length=0
 .exact ⟨[],.nil,fun x=>(h.empty h0 x).symm,by simp⟩
 .have key:∀ i,i+1<=xs.length->∃ l:List Span,Bst false f (l.map Span.rn) (gl xs i)/\l.length<=i:=by
   intro i
   induction i with
   | zero=>intro hi;exact ⟨[],h.start (by omega),by simp⟩
   | succ i ih=>
    intro hi;obtain ⟨l,hl,hll⟩:=ih (by omega)
    have hlt:=h.asc.at_lt (show i<i+1 by omega) (by omega)
    cases hf:f (gl xs i) with
    | false=>exact ⟨l,hl.skip (by omega) fun t h1 h2=>(h.gap i (by omega) t h1 h2).trans hf,by omega⟩
    | true=>
     rcases List.eq_nil_or_concat l with rfl|⟨l',s,hls⟩
     .refine ⟨[⟨gl xs i,gl xs (i+1)⟩],?_,by simp⟩
      have:=hl.add hlt (h.gap i (by omega)) (fun a ha=>by simp at ha)
      rw [hf] at this;exact this
     .rw [List.concat_eq_append] at hls
      subst hls
      by_cases hs:s.R_=gl xs i
      .refine ⟨l' ++ [⟨s.L_,gl xs (i+1)⟩],?_,by simp at hll ⊢;omega⟩
       rw [List.map_append] at hl;have:=hl.grow (a:=s.rn) hs hlt fun t h1 h2=>(h.gap i (by omega) t h1 h2).trans hf
       rw [List.map_append];exact this
      .refine ⟨(l' ++ [s])++[⟨gl xs i,gl xs (i+1)⟩],?_,by simp at hll ⊢;omega⟩
       have:=hl.add hlt (h.gap i (by omega)) (fun a ha he=>by
        rw [List.map_append] at ha;simp at ha
        subst ha;exact absurd he hs)
       rw [hf] at this;rw [List.map_append];exact this
  obtain ⟨l,hl,hll⟩:=key (xs.length-1) (by omega);refine ⟨l,.of_runs hl.runs,fun x=>?_,by omega⟩
  rw [Pk];exact h.done (by omega) hl x
theorem Step.spans{xs:List Int}{f:Int->Bool}(h:Step false xs f):∃ l,SpOk l/\∀ x,J1 l x=f x:=by
 obtain ⟨l,h1,h2,_⟩:=h.spansL;exact ⟨l,h1,h2⟩
theorem Step.spn_len{xs:List Int}{f:Int->Bool}(h:Step false xs f):(QX f).length<=xs.length:=by
 obtain ⟨l,h1,h2,h3⟩:=h.spansL;rw [KE h1 h2];exact h3
theorem Grid.rows{xs ys:List Int}{S:Int->Int->Bool}(h:Grid xs ys S):Mo S:=fun y=>(h.x y).spans
theorem Grid.step{xs ys:List Int}{S:Int->Int->Bool}(h:Grid xs ys S):Step [] ys fun y=>QX fun x=>S x y:=by
 refine ⟨(h.y 0).asc,fun i hi t h1 h2=>?_,fun t ht=>?_,fun t ht=>?_⟩
 .congr 1;funext x;exact (h.y x).gap i hi t h1 h2
 .exact LU fun x=>(h.y x).before t ht
 .exact LU fun x=>(h.y x).after t ht
theorem Grid.of{xs ys:List Int}{a b:List Rect}(hx:Yl xs)(hy:Yl ys)(ax:Kr xs a)(bx:Kr xs b)(ay:Jj ys a)(by' : Jj ys b){k:Bool->Bool->Bool}(hk:k false false=false):
  Grid xs ys fun x y=>k (Q2 a x y) (Q2 b x y):=by
 refine ⟨fun y=>⟨hx,fun i hi t h1 h2=>?_,fun t ht=>?_,fun t ht=>?_⟩,fun x=>⟨hy,fun i hi t h1 h2=>?_,fun t ht=>?_,fun t ht=>?_⟩⟩
 .simp only [ax.gap hx hi h1 h2,bx.gap hx hi h1 h2]
 .simp only [ax.before ht,bx.before ht,hk]
 .simp only [ax.after ht,bx.after ht,hk]
 .simp only [ay.gap hy hi h1 h2,by'.gap hy hi h1 h2]
 .simp only [ay.before ht,by'.before ht,hk]
 .simp only [ay.after ht,by'.after ht,hk]
end Go.Ab
end
