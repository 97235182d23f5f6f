/- The code that the statement reaches as plain programs, and what they compute. -/
import Derived.Test.YtdmkoclpbbcapaaGreatDoorAbC
import Derived.Test.YtdmkoclpbbcapaaGreatDoorPuA
set_option linter.unusedVariables false
set_option linter.unusedSimpArgs false
section
namespace Go.Ab
set_option maxRecDepth 100000
noncomputable section
structure Crop where
 n_:ByteArray
 f_:Int
 m_:Int
 deriving DecidableEq
instance:Emb Crop:=⟨λx=>[.str x.n_,.int .i64 x.f_,.int .i64 x.m_],3,⟨ByteArray.empty,0,0⟩,λ_=>rfl⟩
instance:Emb Rect:=⟨λx=>[.int .i64 x.L_,.int .i64 x.w_,.int .i64 x.R_,.int .i64 x.H_],4,⟨0,0,0,0⟩,λ_=>rfl⟩
structure Re_ where
 t_:(List Rect)
 deriving DecidableEq
instance:Emb Re_:=⟨λx=>[DL x.t_],1,⟨[]⟩,λ_=>rfl⟩
structure Line where
 p_:Int
 g_:Re_
 c_:Int
 s_:Int
 deriving DecidableEq
instance:Emb Line:=⟨λx=>[.int .i64 x.p_,DL x.g_.t_,.int .i64 x.c_,.int .i64 x.s_],4,⟨0,⟨[]⟩,0,0⟩,λ_=>rfl⟩
structure Version where
 day_:Int
 lines_:(List Line)
 deriving DecidableEq
instance:Emb Version:=⟨λx=>[.int .i64 x.day_,DL x.lines_],2,⟨0,[]⟩,λ_=>rfl⟩
structure Term where
 op_:Int
 num_:Int
 more_:Int
 kids_:(List Term)
def Term.d0(x:Term):DVal:=if x.op_=(2 ^ 64)then .any else .int .i64 x.op_
def Term.d1(x:Term):DVal:=if x.op_=(2 ^ 64)then .any else .int .i64 x.num_
def Term.d2(x:Term):DVal:=if x.op_=(2 ^ 64)then .any else .int .i64 x.more_
def Term.d3:Term->DVal
 |⟨a0,a1,a2,a3⟩=>if a0=(2 ^ 64)then .any else .lst a3.length (λi=>if h:i<a3.length then[Term.d0 a3[i],Term.d1 a3[i],Term.d2 a3[i],Term.d3 a3[i]]else[.any,.any,.any,.any])
decreasing_by
 have:=List.sizeOf_lt_of_mem (Qd8 h)
 simp only[Term.mk.sizeOf_spec];omega
instance:Emb Term:=⟨λx=>[x.d0,x.d1,x.d2,x.d3],4,⟨(2 ^ 64),0,0,[]⟩,λ_=>rfl⟩
theorem PV{x:Term}(h:Q8 x.op_):Emb.cells x=[.int .i64 x.op_,.int .i64 x.num_,.int .i64 x.more_,DL x.kids_]:=by
 obtain⟨a0,a1,a2,a3⟩:=x;show[Term.d0 _,Term.d1 _,Term.d2 _,Term.d3 _]=_
 have h:Q8 a0:=h;have hm:¬a0=(2 ^ 64):=λe=>by subst e;revert h;decide
 have hl:∀l:List Term,(.lst l.length (λi=>if h:i<l.length then[Term.d0 l[i],Term.d1 l[i],Term.d2 l[i],Term.d3 l[i]]else[.any,.any,.any,.any]):DVal)=DL l:=by
  intro l;unfold DL
  congr 1
  funext i
  unfold LF
  by_cases hi:i<l.length
  .rw [Qu4 hi,Qa0,Qb9 hi];rfl
  .rw [dif_neg hi,Qa0,Qg7 (by omega)];show _=[Term.d0 ⟨(2 ^ 64),0,0,[]⟩,Term.d1 ⟨(2 ^ 64),0,0,[]⟩,Term.d2 ⟨(2 ^ 64),0,0,[]⟩,Term.d3 ⟨(2 ^ 64),0,0,[]⟩];unfold Term.d3;rfl
 have hk:Term.d3 ⟨a0,a1,a2,a3⟩=DL a3:=by
  unfold Term.d3;rw[Qa1 hm,hl]
 rw[hk];simp only[Term.d0,Term.d1,Term.d2,Qa1 hm]
theorem Term.elm{l:List Term}{i:Nat}(h:Q8 (gl l i).op_):AVal.v (.c (.elm (LF l i)))=.v (.c (.elm [.int .i64 (gl l i).op_,.int .i64 (gl l i).num_,.int .i64 (gl l i).more_,DL (gl l i).kids_])):=by
 have:=PV h
 unfold LF;unfold gl at this⊢
 rw[this]
structure Bracket where
 up_:Int
 rate_:Int
 deriving DecidableEq
instance:Emb Bracket:=⟨λx=>[.int .i64 x.up_,.int .i64 x.rate_],2,⟨0,0⟩,λ_=>rfl⟩
structure Scheme where
 N_:Int
 n_:ByteArray
 cond_:Term
 brackets_:(List Bracket)
 least_:Int
 excludes_:Int
 needs_:Bool
instance:Emb Scheme:=⟨λx=>[.int .i64 x.N_,.str x.n_,.int .i64 x.cond_.op_,.int .i64 x.cond_.num_,.int .i64 x.cond_.more_,DL x.cond_.kids_,DL x.brackets_,.int .i64 x.least_,.int .i64 x.excludes_,.bool x.needs_],10,⟨0,ByteArray.empty,(Emb.d:Term),[],0,0,false⟩,λ_=>rfl⟩
structure Rg_ where
 year_:Int
 c_:Int
 g_:Re_
 deriving DecidableEq
instance:Emb Rg_:=⟨λx=>[.int .i64 x.year_,.int .i64 x.c_,DL x.g_.t_],3,⟨0,0,⟨[]⟩⟩,λ_=>rfl⟩
structure A2_ where
 N_:Int
 k_:Int
 F_:Int
 u_:Int
 g_:Re_
 deriving DecidableEq
instance:Emb A2_:=⟨λx=>[.int .i64 x.N_,.int .i64 x.k_,.int .i64 x.F_,.int .i64 x.u_,DL x.g_.t_],5,⟨0,0,0,0,⟨[]⟩⟩,λ_=>rfl⟩
structure World where
 year_:Int
 crops_:(List Crop)
 history_:(List Rg_)
 zones_:(List A2_)
 day_:Int
 most_:Int
 deriving DecidableEq
instance:Emb World:=⟨λx=>[.int .i64 x.year_,DL x.crops_,DL x.history_,DL x.zones_,.int .i64 x.day_,.int .i64 x.most_],6,⟨0,[],[],[],0,0⟩,λ_=>rfl⟩
structure Place where
 application_:Int
 line_:Int
 deriving DecidableEq
instance:Emb Place:=⟨λx=>[.int .i64 x.application_,.int .i64 x.line_],2,⟨0,0⟩,λ_=>rfl⟩
structure Double where
 g_:Re_
 claims_:(List Place)
 deriving DecidableEq
instance:Emb Double:=⟨λx=>[DL x.g_.t_,DL x.claims_],2,⟨⟨[]⟩,[]⟩,λ_=>rfl⟩
structure Yield where
 place_:Place
 g_:Re_
 deriving DecidableEq
instance:Emb Yield:=⟨λx=>[.int .i64 x.place_.application_,.int .i64 x.place_.line_,DL x.g_.t_],3,⟨⟨0,0⟩,⟨[]⟩⟩,λ_=>rfl⟩
structure Truth where
 true_:Re_
 false_:Re_
 unknown_:Re_
 deriving DecidableEq
instance:Emb Truth:=⟨λx=>[DL x.true_.t_,DL x.false_.t_,DL x.unknown_.t_],3,⟨⟨[]⟩,⟨[]⟩,⟨[]⟩⟩,λ_=>rfl⟩
structure Tape where
 l_:(List Int)
 at_:Int
 deriving DecidableEq
instance:Emb Tape:=⟨λx=>[DL x.l_,.int .i64 x.at_],2,⟨[],0⟩,λ_=>rfl⟩
structure Arr3ListRect where
 e0_:(List Rect)
 e1_:(List Rect)
 e2_:(List Rect)
 deriving DecidableEq
instance:Emb Arr3ListRect:=⟨λx=>[DL x.e0_,DL x.e1_,DL x.e2_],3,⟨[],[],[]⟩,λ_=>rfl⟩
structure Point where
 x_:Int
 y_:Int
 deriving DecidableEq
instance:Emb Point:=⟨λx=>[.int .i64 x.x_,.int .i64 x.y_],2,⟨0,0⟩,λ_=>rfl⟩
structure CrosscheckLine where
 place_:Place
 t_:(List Rect)
 deriving DecidableEq
instance:Emb CrosscheckLine:=⟨λx=>[.int .i64 x.place_.application_,.int .i64 x.place_.line_,DL x.t_],3,⟨⟨0,0⟩,[]⟩,λ_=>rfl⟩
structure Face where
 t_:(List Rect)
 claims_:(List Place)
 deriving DecidableEq
instance:Emb Face:=⟨λx=>[DL x.t_,DL x.claims_],2,⟨[],[]⟩,λ_=>rfl⟩
instance:Emb Span:=⟨λx=>[.int .i64 x.L_,.int .i64 x.R_],2,⟨0,0⟩,λ_=>rfl⟩
structure Edge where
 F_:Point
 to_:Point
 deriving DecidableEq
instance:Emb Edge:=⟨λx=>[.int .i64 x.F_.x_,.int .i64 x.F_.y_,.int .i64 x.to_.x_,.int .i64 x.to_.y_],4,⟨⟨0,0⟩,⟨0,0⟩⟩,λ_=>rfl⟩
structure Band where
 w_:Int
 H_:Int
 spans_:(List Span)
 deriving DecidableEq
instance:Emb Band:=⟨λx=>[.int .i64 x.w_,.int .i64 x.H_,DL x.spans_],3,⟨0,0,[]⟩,λ_=>rfl⟩
structure Wide where
 H_:Int
 w_:Int
 deriving DecidableEq
instance:Emb Wide:=⟨λx=>[.int .u64 x.H_,.int .u64 x.w_],2,⟨0,0⟩,λ_=>rfl⟩
structure TermWorld where
 year_:Int
 crops_:(List Crop)
 history_:(List Rg_)
 zones_:(List A2_)
 day_:Int
 deriving DecidableEq
instance:Emb TermWorld:=⟨λx=>[.int .i64 x.year_,DL x.crops_,DL x.history_,DL x.zones_,.int .i64 x.day_],5,⟨0,[],[],[],0⟩,λ_=>rfl⟩
structure TermPlace where
 world_:TermWorld
 line_:Line
 t_:(List Rect)
 deriving DecidableEq
instance:Emb TermPlace:=⟨λx=>[.int .i64 x.world_.year_,DL x.world_.crops_,DL x.world_.history_,DL x.world_.zones_,.int .i64 x.world_.day_,.int .i64 x.line_.p_,DL x.line_.g_.t_,.int .i64 x.line_.c_,.int .i64 x.line_.s_,DL x.t_],10,⟨⟨0,[],[],[],0⟩,⟨0,⟨[]⟩,0,0⟩,[]⟩,λ_=>rfl⟩
structure Squares where
 yes_:(List Rect)
 no_:(List Rect)
 open_:(List Rect)
 deriving DecidableEq
instance:Emb Squares:=⟨λx=>[DL x.yes_,DL x.no_,DL x.open_],3,⟨[],[],[]⟩,λ_=>rfl⟩
def kp(q:Rect->Option Bool):List AVal->AVal->Prop:=λargs r=>∃x0 y,q x0=some y/\args=[gE x0]/\r=vb y
def Q4p(q:Span->Span->Option Int):List AVal->AVal->Prop:=λargs r=>∃x0 x1 y,q x0 x1=some y/\args=[gE x0,gE x1]/\r=vi y
def Q4r(q:Int->Option (List Span)):List AVal->AVal->Prop:=λargs r=>∃x0 y,q x0=some y/\args=[vi x0]/\r=AL y
def kj(q:Span->Option Bool):List AVal->AVal->Prop:=λargs r=>∃x0 y,q x0=some y/\args=[gE x0]/\r=vb y
def Xg(q:Bool->Bool->Option Bool):List AVal->AVal->Prop:=λargs r=>∃x0 x1 y,q x0 x1=some y/\args=[vb x0,vb x1]/\r=vb y
def Q4q(q:Place->Place->Option Int):List AVal->AVal->Prop:=λargs r=>∃x0 x1 y,q x0 x1=some y/\args=[gE x0,gE x1]/\r=vi y
def Q4t(q:Double->Double->Option Int):List AVal->AVal->Prop:=λargs r=>∃x0 x1 y,q x0 x1=some y/\args=[gE x0,gE x1]/\r=vi y
def ki(q:Term->Option Bool):List AVal->AVal->Prop:=λargs r=>∃x0 y,q x0=some y/\args=[.v (.g [ci x0.op_,ci x0.num_,ci x0.more_,.d (DL x0.kids_)])]/\r=vb y
def kl(q:Scheme->Option Bool):List AVal->AVal->Prop:=λargs r=>∃x0 y,q x0=some y/\args=[gE x0]/\r=vb y
def kq(q:Rg_->Option Bool):List AVal->AVal->Prop:=λargs r=>∃x0 y,q x0=some y/\args=[gE x0]/\r=vb y
def Lb(q:A2_->Option Bool):List AVal->AVal->Prop:=λargs r=>∃x0 y,q x0=some y/\args=[gE x0]/\r=vb y
def KA(q:Int->Option Bool):List AVal->AVal->Prop:=λargs r=>∃x0 y,q x0=some y/\args=[vi x0]/\r=vb y
def kr(q:Line->Option Bool):List AVal->AVal->Prop:=λargs r=>∃x0 y,q x0=some y/\args=[gE x0]/\r=vb y
def km(q:Re_->Option Bool):List AVal->AVal->Prop:=λargs r=>∃x0 y,q x0=some y/\args=[.v (.g [.d (DL x0.t_)])]/\r=vb y
def Q4s(q:Int->Int->Option Int):List AVal->AVal->Prop:=λargs r=>∃x0 x1 y,q x0 x1=some y/\args=[vi x0,vi x1]/\r=vi y
def UX(F:Nat):=
 some (-1:Int)
def Wk{α:Type}[Emb α](F:Nat)(b:List α)(d:α->Option Bool)(c:(Int)->Option Int)(a:Int):Option Int:=
 br (decide (a<(b.length:Int))) (gd (0<=a/\a<(b.length:Int))<|(d (gl b a.toNat)).bind λe=>br e (some a) (gd (Q8 (a+1))<|c (a+1))) (UX F)
def Wl{α:Type}[Emb α](F:Nat)(a:List α)(b:α->Option Bool):Option Int:=
 Y3 (λg (z:Int)=>Wk F a b g z) F (0:Int)
def ZF{α:Type}[Emb α](F:Nat)(a:List α)(b:α->Option Bool):Option Bool:=
 (Wl F a b).bind λc=>some (decide ((0:Int)<=c))
def Vj(F:Nat)(a:Bool):=
 some a
variable (F:Nat)
def BR(a:Rect):=
 br (decide ((0:Int)<=a.L_)) (br (decide (a.L_<a.R_)) (br (decide (a.R_<=16384)) (br (decide ((0:Int)<=a.w_)) (br (decide (a.w_<a.H_)) (Vj F (decide (a.H_<=16384))) (Vj F false)) (Vj F false)) (Vj F false)) (Vj F false)) (Vj F false)
def qW(a:Rect):=
 (BR F a).bind λb=>some (!b)
def Rx(F:Nat)(a:Int)(b:(Int×Int×(List Int))->Option (List Int))(c:Int)(d:List Int):=
 gd (Q8 (a+1))<|b (c,(a+1),d)
def qn(F:Nat)(a:Int)(b:List Int):=
 gd (0<=a/\a<=((b.length:Nat):Int)/\((0:Nat):Int)+((b.length:Nat):Int)<=(b.length:Int))<|gd (0<=a/\a<=((List.length (clr b (0+(a).toNat) (b.length-(a).toNat)):Nat):Int))<|some ((clr b (0+(a).toNat) (b.length-(a).toNat)).take (a).toNat)
def jv(e:List Int)(c:Int)(i:(Int×Int×(List Int))->Option (List Int))(d a:Int)(b:List Int):=
 br (decide (a<(((e.length-(c).toNat):Nat):Int))) (gd (0<=a/\a<(((e.length-(c).toNat):Nat):Int))<|gd (((0+(c).toNat)+(a).toNat)<List.length b)<|gd (Q8 (a-1))<|gd (0<=(a-1)/\(a-1)<(((e.length-(c).toNat):Nat):Int))<|gd (((0+(c).toNat)+((a-1)).toNat)<List.length b)<|br ((gl b ((0+(c).toNat)+(a).toNat)) != (gl b ((0+(c).toNat)+((a-1)).toNat))) (gd (0<=a/\a<(((e.length-(c).toNat):Nat):Int))<|gd (((0+(c).toNat)+(a).toNat)<List.length b)<|gd (0<=d/\d<(b.length:Int))<|gd (Q8 (d+1))<|Rx F a i (d+1) (List.set b d.toNat (gl b ((0+(c).toNat)+(a).toNat)))) (Rx F a i d b)) (qn F d b)
def qm(F:Nat)(a:Int)(b:(Int)->Option (List Int)):=
 gd (Q8 (a+1))<|b (a+1)
def ql(F:Nat)(a:List Int):=
 some a
def jw(b:List Int)(c:(Int)->Option (List Int))(a:Int):=
 br (decide (a<(b.length:Int))) (gd (0<=a/\a<(b.length:Int))<|gd (Q8 (a-1))<|gd (0<=(a-1)/\(a-1)<(b.length:Int))<|br ((gl b a.toNat)==(gl b (a-1).toNat)) (gd (0<=a/\a<=((b.length:Nat):Int)/\((0:Nat):Int)+((b.length:Nat):Int)<=(b.length:Int))<|Y3 (λg (z:Int×Int×(List Int))=>jv F b a g z.1 z.2.1 z.2.2) F (a,(1:Int),b)) (qm F a c)) (ql F b)
def BG(a:List Int):=
 br (decide ((a.length:Int)<2)) (some a) (Y3 (λg (z:Int)=>jw F a g z) F (1:Int))
def zj(F:Nat)(a:Int)(b:(Int×(List Int))->Option (List Int))(c:List Int):=
 gd (Q8 (a+1))<|b ((a+1),c)
def zk(c:(List (List Rect)))(b:Int)(e i:(Int×(List Int))->Option (List Int))(a:Int)(d:List Int):=
 br (decide (a<((List.length (gl c b.toNat):Nat):Int))) (gd (0<=a/\a<((List.length (gl c b.toNat):Nat):Int))<|gd (d.length+(List.length ([(gl (gl c b.toNat) a.toNat).w_,(gl (gl c b.toNat) a.toNat).H_]:List Int))<=Z9)<|gd (Q8 (a+1))<|i ((a+1),(d++([(gl (gl c b.toNat) a.toNat).w_,(gl (gl c b.toNat) a.toNat).H_]:List Int)))) (zj F b e d)
def zi(a:List Int):=
 (Ui a).bind λb=>(BG F b).bind λc=>some c
def zl(b:(List (List Rect)))(d:(Int×(List Int))->Option (List Int))(a:Int)(c:List Int):=
 br (decide (a<(b.length:Int))) (gd (0<=a/\a<(b.length:Int))<|Y3 (λg (z:Int×(List Int))=>zk F b a d g z.1 z.2) F ((0:Int),c)) (zi F c)
def KY(a:(List (List Rect))):=
 Y3 (λg (z:Int×(List Int))=>zl F a g z.1 z.2) F ((0:Int),([]:List Int))
def Fq(F:Nat)(a:Int):=
 some (a != a)
def Wd(a b:Int):=
 (Fq F a).bind λd=>(Fq F b).bind λc=>br d (br c (some (0:Int)) (some (-1:Int))) (br c (some (1:Int)) (br (decide (a<b)) (some (-1:Int)) (br (decide (b<a)) (some (1:Int)) (some (0:Int)))))
def Sr(a b:Span):=
 (Wd F a.L_ b.L_).bind λc=>some c
def BY(F:Nat)(a:Int)(b:(Int×(List Span))->Option (List Span))(c:List Span):=
 gd (Q8 (a+1))<|b ((a+1),c)
def BZ(b:List Rect)(a:Int)(c:List Span)(d:(Int×(List Span))->Option (List Span))(e:Bool):=
 br e (gd (c.length+(List.length ([(⟨(gl b a.toNat).L_,(gl b a.toNat).R_⟩:Span)]:List Span))<=Z9)<|BY F a d (c++([(⟨(gl b a.toNat).L_,(gl b a.toNat).R_⟩:Span)]:List Span))) (BY F a d c)
def BX(F:Nat)(a:Int)(b:(Int×(List Span))->Option (List Span))(c:List Span):=
 gd (Q8 (a+1))<|b ((a+1),c)
def XJ(c:List Span)(b:Int)(a:List Span)(d:(Int×(List Span))->Option (List Span))(e:Bool):=
 br e (gd (Q8 ((a.length:Int)-1))<|gd (Q8 ((a.length:Int)-1))<|gd (0<=((a.length:Int)-1)/\((a.length:Int)-1)<(a.length:Int))<|gd (0<=((a.length:Int)-1)/\((a.length:Int)-1)<(a.length:Int))<|BX F b d (List.set a ((a.length:Int)-1).toNat (⟨(gl a ((a.length:Int)-1).toNat).L_,(K8 ((gl a ((a.length:Int)-1).toNat).R_) ((gl c b.toNat).R_))⟩:Span))) (gd (a.length+(List.length ([(gl c b.toNat)]:List Span))<=Z9)<|BX F b d (a++([(gl c b.toNat)]:List Span)))
def qX(F:Nat)(a:List Span):=
 some a
def qY(c:List Span)(d:(Int×(List Span))->Option (List Span))(b:Int)(a:List Span):=
 br (decide (b<(c.length:Int))) (gd (0<=b/\b<(c.length:Int))<|br (decide (0<(a.length:Int))) (gd (Q8 ((a.length:Int)-1))<|gd (0<=((a.length:Int)-1)/\((a.length:Int)-1)<(a.length:Int))<|XJ F c b a d (decide (((gl c b.toNat).L_)<=((gl a ((a.length:Int)-1).toNat).R_)))) (XJ F c b a d false)) (qX F a)
def Sp(a:List Span):=
 (JF a (λy0 y1=>Sr F y0 y1)).bind λb=>Y3 (λg (z:Int×(List Span))=>qY F b g z.1 z.2) F ((0:Int),([]:List Span))
def qZ(b:List Rect)(e:Int)(d:(Int×(List Span))->Option (List Span))(a:Int)(c:List Span):=
 br (decide (a<(b.length:Int))) (gd (0<=a/\a<(b.length:Int))<|br (decide (((gl b a.toNat).w_)<=e)) (BZ F b a c d (decide (e<((gl b a.toNat).H_)))) (BZ F b a c d false)) (Sp F c)
def VN(a:List Rect)(b:Int):=
 Y3 (λg (z:Int×(List Span))=>qZ F a b g z.1 z.2) F ((0:Int),([]:List Span))
def qV(a:Int)(b:List Rect):=
 (VN F b a).bind λc=>some c
def jk(F:Nat):=
 some true
def jl(b c:List Span)(d:(Int)->Option Bool)(a:Int):=
 br (decide (a<(b.length:Int))) (gd (0<=a/\a<(b.length:Int))<|gd (0<=a/\a<(c.length:Int))<|br (!((((gl b a.toNat).L_)==((gl c a.toNat).L_))&&((((gl b a.toNat).R_)==((gl c a.toNat).R_))&&true))) (some false) (gd (Q8 (a+1))<|d (a+1))) (jk F)
def Ro(a b:List Span):=
 br ((a.length:Int) != (b.length:Int)) (some false) (Y3 (λg (z:Int)=>jl F a b g z) F (0:Int))
def qO(F:Nat)(a:Int)(b:(Int×(List Rect))->Option (List Rect))(c:List Rect):=
 gd (Q8 (a+1))<|b ((a+1),c)
def qP(b:List Band)(a:Int)(e i:(Int×(List Rect))->Option (List Rect))(c:Int)(d:List Rect):=
 br (decide (c<((List.length ((gl b a.toNat).spans_):Nat):Int))) (gd (0<=c/\c<((List.length ((gl b a.toNat).spans_):Nat):Int))<|gd (d.length+(List.length ([(⟨(gl ((gl b a.toNat).spans_) c.toNat).L_,(gl b a.toNat).w_,(gl ((gl b a.toNat).spans_) c.toNat).R_,(gl b a.toNat).H_⟩:Rect)]:List Rect))<=Z9)<|gd (Q8 (c+1))<|i ((c+1),(d++([(⟨(gl ((gl b a.toNat).spans_) c.toNat).L_,(gl b a.toNat).w_,(gl ((gl b a.toNat).spans_) c.toNat).R_,(gl b a.toNat).H_⟩:Rect)]:List Rect)))) (qO F a e d)
def qN(F:Nat)(a:List Rect):=
 some a
def qQ(b:List Band)(d:(Int×(List Rect))->Option (List Rect))(a:Int)(c:List Rect):=
 br (decide (a<(b.length:Int))) (gd (0<=a/\a<(b.length:Int))<|Y3 (λg (z:Int×(List Rect))=>qP F b a d g z.1 z.2) F ((0:Int),c)) (qN F c)
def Sa(a:List Band):=
 Y3 (λg (z:Int×(List Rect))=>qQ F a g z.1 z.2) F ((0:Int),([]:List Rect))
def Db(F:Nat)(a:Int)(b:(Int×(List Band))->Option (List Rect))(c:List Band):=
 gd (Q8 (a+1))<|b ((a+1),c)
def KZ(c:List Int)(b:Int)(a:List Band)(e:List Span)(d:(Int×(List Band))->Option (List Rect))(i:Bool):=
 br i (gd (Q8 ((a.length:Int)-1))<|gd (0<=((a.length:Int)-1)/\((a.length:Int)-1)<(a.length:Int))<|Db F b d (List.set a ((a.length:Int)-1).toNat (⟨(gl a ((a.length:Int)-1).toNat).w_,(gl c b.toNat),(gl a ((a.length:Int)-1).toNat).spans_⟩:Band))) (gd (a.length+(List.length ([(⟨(gl c (b-1).toNat),(gl c b.toNat),e⟩:Band)]:List Band))<=Z9)<|Db F b d (a++([(⟨(gl c (b-1).toNat),(gl c b.toNat),e⟩:Band)]:List Band)))
def Sw(a:List Band):=
 (Sa F a).bind λb=>some b
def cS(c:List Int)(i:Int->Option (List Span))(e:(Int×(List Band))->Option (List Rect))(b:Int)(a:List Band):=
 br (decide (b<(c.length:Int))) (gd (Q8 (b-1))<|gd (0<=(b-1)/\(b-1)<(c.length:Int))<|gd (0<=b/\b<(c.length:Int))<|gd (Q8 (b-1))<|gd (0<=(b-1)/\(b-1)<(c.length:Int))<|(i (gl c (b-1).toNat)).bind λd=>br (decide (0<(a.length:Int))) (gd (Q8 ((a.length:Int)-1))<|gd (0<=((a.length:Int)-1)/\((a.length:Int)-1)<(a.length:Int))<|br (((gl a ((a.length:Int)-1).toNat).H_)==(gl c (b-1).toNat)) (gd (Q8 ((a.length:Int)-1))<|gd (0<=((a.length:Int)-1)/\((a.length:Int)-1)<(a.length:Int))<|(Ro F ((gl a ((a.length:Int)-1).toNat).spans_) d).bind λj=>KZ F c b a d e j) (KZ F c b a d e false)) (KZ F c b a d e false)) (Sw F a)
def Dc(a:List Int)(b:Int->Option (List Span)):=
 Y3 (λg (z:Int×(List Band))=>cS F a b g z.1 z.2) F ((1:Int),([]:List Band))
def XH(a:List Rect):=
 (KY F ([a]:List (List Rect))).bind λb=>(Dc F b (λy0=>qV F y0 a)).bind λc=>some c
def jm(F:Nat):=
 some true
def jo(b c:List Rect)(d:(Int)->Option Bool)(a:Int):=
 br (decide (a<(b.length:Int))) (gd (0<=a/\a<(b.length:Int))<|gd (0<=a/\a<(c.length:Int))<|br (!((((gl b a.toNat).L_)==((gl c a.toNat).L_))&&((((gl b a.toNat).w_)==((gl c a.toNat).w_))&&((((gl b a.toNat).R_)==((gl c a.toNat).R_))&&((((gl b a.toNat).H_)==((gl c a.toNat).H_))&&true))))) (some false) (gd (Q8 (a+1))<|d (a+1))) (jm F)
def Rp(a b:List Rect):=
 br ((a.length:Int) != (b.length:Int)) (some false) (Y3 (λg (z:Int)=>jo F a b g z) F (0:Int))
def Sl(a:Re_)(b:Bool):=
 br b (some false) ((XH F a.t_).bind λc=>(Rp F c a.t_).bind λd=>some d)
def Ya(a:Re_):=
 br (decide (120<(a.t_.length:Int))) (Sl F a true) ((ZF F a.t_ (λy0=>qW F y0)).bind λb=>Sl F a b)
def Fj(F:Nat)(i:List Version)(b a:Int)(d:List CrosscheckLine)(c:(Bool×Int×(List CrosscheckLine))->Option ((List CrosscheckLine)×Int))(e:Bool):=
 gd (Q8 (a+1))<|c (e,(a+1),(d++([(⟨(⟨b,a⟩:Place),(gl ((gl i b.toNat).lines_) a.toNat).g_.t_⟩:CrosscheckLine)]:List CrosscheckLine)))
def xg(F:Nat)(a:Int)(b:(Bool×Int×(List CrosscheckLine))->Option ((List CrosscheckLine)×Int))(c:Bool)(d:List CrosscheckLine):=
 gd (Q8 (a+1))<|b (c,(a+1),d)
def xh(c:Int)(b:(Bool×Int×(List CrosscheckLine))->Option ((List CrosscheckLine)×Int))(d:Bool)(a:List CrosscheckLine):=
 br (decide (60<(a.length:Int))) (some ([],(1:Int))) (xg F c b d a)
def xi(c:List Version)(a:Int)(j e:(Bool×Int×(List CrosscheckLine))->Option ((List CrosscheckLine)×Int))(i:Bool)(b:Int)(d:List CrosscheckLine):=
 br (decide (b<((List.length ((gl c a.toNat).lines_):Nat):Int))) (gd (0<=b/\b<((List.length ((gl c a.toNat).lines_):Nat):Int))<|gd (d.length+(List.length ([(⟨(⟨a,b⟩:Place),(gl ((gl c a.toNat).lines_) b.toNat).g_.t_⟩:CrosscheckLine)]:List CrosscheckLine))<=Z9)<|br i ((Ya F ((gl ((gl c a.toNat).lines_) b.toNat).g_)).bind λk=>Fj F c a b d e k) (Fj F c a b d e false)) (xh F a j i d)
def xf(F:Nat)(a:Bool)(b:List CrosscheckLine):=
 br (!a) (some ([],(7:Int))) (some (b,(0:Int)))
def xj(b:List Version)(e:(Bool×Int×(List CrosscheckLine))->Option ((List CrosscheckLine)×Int))(c:Bool)(a:Int)(d:List CrosscheckLine):=
 br (decide (a<(b.length:Int))) (gd (0<=a/\a<(b.length:Int))<|Y3 (λg (z:Bool×Int×(List CrosscheckLine))=>xi F b a e g z.1 z.2.1 z.2.2) F (c,(0:Int),d)) (xf F c d)
def PB(a:List Version):=
 Y3 (λg (z:Bool×Int×(List CrosscheckLine))=>xj F a g z.1 z.2.1 z.2.2) F (true,(0:Int),([]:List CrosscheckLine))
def BF{α:Type}[Emb α](F:Nat)(a:List α):Option (List α):=
 some a
def KM{α:Type}[Emb α](F:Nat)(b:(List (List α)))(d:(Int×(List α))->Option (List α))(a:Int)(c:List α):Option (List α):=
 br (decide (a<(b.length:Int))) (gd (0<=a/\a<(b.length:Int))<|gd (c.length+(List.length (gl b a.toNat))<=Z9)<|gd (Q8 (a+1))<|d ((a+1),(c++(gl b a.toNat)))) (BF F c)
def Xu{α:Type}[Emb α](F:Nat)(b:(List (List α)))(a:Int):Option (List α):=
 (GE a).bind λc=>Y3 (λg (z:Int×(List α))=>KM F b g z.1 z.2) F ((0:Int),c)
def KN{α:Type}[Emb α](F:Nat)(b:(List (List α)))(d:(Int×Int)->Option (List α))(c:Int)(a:Int):Option (List α):=
 br (decide (a<(b.length:Int))) (gd (0<=a/\a<(b.length:Int))<|gd (Q8 (c+((List.length (gl b a.toNat):Nat):Int)))<|br (decide ((c+((List.length (gl b a.toNat):Nat):Int))<0)) (none) (gd (Q8 (a+1))<|d ((c+((List.length (gl b a.toNat):Nat):Int)),(a+1)))) (Xu F b c)
def JG{α:Type}[Emb α](F:Nat)(a:(List (List α))):Option (List α):=
 Y3 (λg (z:Int×Int)=>KN F a g z.1 z.2) F ((0:Int),(0:Int))
def Sf(F:Nat)(a:Bool):=
 some a
def JR(a:Span)(b:Int):=
 br (decide (a.L_<=b)) (Sf F (decide (b<a.R_))) (Sf F false)
def BU(a:List Span)(b:Int):=
 (ZF F a (λy0=>JR F y0 b)).bind λc=>some c
def XG(F:Nat)(a:Int)(b:(Int×(List Span))->Option (List Span))(c:List Span):=
 gd (Q8 (a+1))<|b ((a+1),c)
def BS(c:List Int)(a:Int)(b:List Span)(d:(Int×(List Span))->Option (List Span))(e:Bool):=
 br e (gd (Q8 ((b.length:Int)-1))<|gd (0<=a/\a<(c.length:Int))<|gd (0<=((b.length:Int)-1)/\((b.length:Int)-1)<(b.length:Int))<|XG F a d (List.set b ((b.length:Int)-1).toNat (⟨(gl b ((b.length:Int)-1).toNat).L_,(gl c a.toNat)⟩:Span))) (gd (0<=a/\a<(c.length:Int))<|gd (b.length+(List.length ([(⟨(gl c (a-1).toNat),(gl c a.toNat)⟩:Span)]:List Span))<=Z9)<|XG F a d (b++([(⟨(gl c (a-1).toNat),(gl c a.toNat)⟩:Span)]:List Span)))
def Sc(F:Nat)(a:List Span):=
 some a
def BT(e i:List Span)(j:Bool->Bool->Option Bool)(c:List Int)(d:(Int×(List Span))->Option (List Span))(b:Int)(a:List Span):=
 br (decide (b<(c.length:Int))) (gd (Q8 (b-1))<|gd (0<=(b-1)/\(b-1)<(c.length:Int))<|(BU F e (gl c (b-1).toNat)).bind λk=>(BU F i (gl c (b-1).toNat)).bind λl=>(j k l).bind λm=>br (!m) (XG F b d a) (br (decide (0<(a.length:Int))) (gd (Q8 ((a.length:Int)-1))<|gd (0<=((a.length:Int)-1)/\((a.length:Int)-1)<(a.length:Int))<|BS F c b a d (((gl a ((a.length:Int)-1).toNat).R_)==(gl c (b-1).toNat))) (BS F c b a d false))) (Sc F a)
def qS(b c:List Span)(d:Bool->Bool->Option Bool)(a:List Int):=
 (Ui a).bind λe=>(BG F e).bind λi=>Y3 (λg (z:Int×(List Span))=>BT F b c d i g z.1 z.2) F ((1:Int),([]:List Span))
def Sd(e i:List Span)(j:Bool->Bool->Option Bool)(b:List Span)(d:(Int×(List Int))->Option (List Span))(a:Int)(c:List Int):=
 br (decide (a<(b.length:Int))) (gd (0<=a/\a<(b.length:Int))<|gd (c.length+(List.length ([(gl b a.toNat).L_,(gl b a.toNat).R_]:List Int))<=Z9)<|gd (Q8 (a+1))<|d ((a+1),(c++([(gl b a.toNat).L_,(gl b a.toNat).R_]:List Int)))) (qS F e i j c)
def Se(a b:List Span)(c:Bool->Bool->Option Bool):=
 (JG F ([a,b]:List (List Span))).bind λd=>Y3 (λg (z:Int×(List Int))=>Sd F a b c d g z.1 z.2) F ((0:Int),([]:List Int))
def zm(a:Int)(b c:List Rect)(d:Bool->Bool->Option Bool):=
 (VN F b a).bind λe=>(VN F c a).bind λi=>(Se F e i d).bind λj=>some j
def QU(a b:List Rect)(c:Bool->Bool->Option Bool):=
 (KY F ([a,b]:List (List Rect))).bind λd=>(Dc F d (λy0=>zm F y0 a b c)).bind λe=>some e
def xq(F:Nat)(a:Bool):=
 some a
def xr(a b:Bool):=
 br a (xq F b) (xq F false)
def xe(F:Nat)(a:Bool):=
 some a
def Kq(a b:Bool):=
 br a (xe F (!b)) (xe F false)
def Xw(F:Nat)(a:List Rect):=
 Ju a.length (some ([])) (gd ((0)+a.length<=Z9)<|some (([]:List Rect)++a))
def Ry(F:Nat)(a:List Place):=
 Ju a.length (some ([]:List Place)) (gd ((0)+a.length<=Z9)<|some (([]:List Place)++a))
def BH(F:Nat)(a:List Rect):=
 Ju a.length (some ([]:List Rect)) (gd ((0)+a.length<=Z9)<|some (([]:List Rect)++a))
def Fl(F:Nat)(a:Int)(b:(Int×(List Face))->Option (List Face))(c:List Face):=
 gd (Q8 (a+1))<|b ((a+1),c)
def HC(j:List CrosscheckLine)(i:Int)(b:List Face)(a:Int)(e:(Int×(List Face))->Option (List Face))(c:List Face):=
 (QU F ((gl b a.toNat).t_) ((gl j i.toNat).t_) (λy0 y1=>Kq F y0 y1)).bind λd=>br (decide (0<(d.length:Int))) (gd (c.length+(List.length ([(⟨d,(gl b a.toNat).claims_⟩:Face)]:List Face))<=Z9)<|Fl F a e (c++([(⟨d,(gl b a.toNat).claims_⟩:Face)]:List Face))) (Fl F a e c)
def xo(F:Nat)(a:Int)(b:(Int×(List Face)×(List Rect))->Option (List Face))(c:List Rect)(d:List Face):=
 gd (Q8 (a+1))<|b ((a+1),d,c)
def HB(b:List CrosscheckLine)(a:Int)(e:List Rect)(d:(Int×(List Face)×(List Rect))->Option (List Face))(i:List Face):=
 (BH F e).bind λc=>gd (c.length+(List.length ((gl b a.toNat).t_))<=Z9)<|xo F a d (c++((gl b a.toNat).t_)) i
def Fk(b:List CrosscheckLine)(a:Int)(c:List Rect)(i:(Int×(List Face)×(List Rect))->Option (List Face))(d:List Face):=
 (QU F ((gl b a.toNat).t_) c (λy0 y1=>Kq F y0 y1)).bind λe=>br (decide (0<(e.length:Int))) (gd (d.length+(List.length ([(⟨e,([(gl b a.toNat).place_]:List Place)⟩:Face)]:List Face))<=Z9)<|HB F b a c i (d++([(⟨e,([(gl b a.toNat).place_]:List Place)⟩:Face)]:List Face))) (HB F b a c i d)
def Fn(c:List CrosscheckLine)(a:Int)(d:List Face)(m:List Rect)(l:(Int×(List Face)×(List Rect))->Option (List Face))(k:(Int×(List Face))->Option (List Face))(b:Int)(e:List Face):=
 br (decide (b<(d.length:Int))) (gd (0<=b/\b<(d.length:Int))<|(QU F ((gl d b.toNat).t_) ((gl c a.toNat).t_) (λy0 y1=>xr F y0 y1)).bind λi=>br (decide (0<(i.length:Int))) ((Ry F ((gl d b.toNat).claims_)).bind λj=>gd (j.length+(List.length ([(gl c a.toNat).place_]:List Place))<=Z9)<|gd (e.length+(List.length ([(⟨i,(j++([(gl c a.toNat).place_]:List Place))⟩:Face)]:List Face))<=Z9)<|HC F c a d b k (e++([(⟨i,(j++([(gl c a.toNat).place_]:List Place))⟩:Face)]:List Face))) (HC F c a d b k e)) (Fk F c a m l e)
def xn(F:Nat)(a:List Face):=
 some a
def xp(b:List CrosscheckLine)(d:(Int×(List Face)×(List Rect))->Option (List Face))(a:Int)(c:List Face)(e:List Rect):=
 br (decide (a<(b.length:Int))) (gd (0<=a/\a<(b.length:Int))<|Y3 (λg (z:Int×(List Face))=>Fn F b a c e d g z.1 z.2) F ((0:Int),([]:List Face))) (xn F c)
def HD(a:List CrosscheckLine):=
 Y3 (λg (z:Int×(List Face)×(List Rect))=>xp F a g z.1 z.2.1 z.2.2) F ((0:Int),([]:List Face),([]:List Rect))
def JS(F:Nat)(a:List Rect):=
 br (decide (120<(a.length:Int))) (some ((⟨[]⟩:Re_),(1:Int))) (some ((⟨a⟩:Re_),(0:Int)))
def qh(F:Nat)(a b:List Place):=
 br (decide ((a.length:Int)<(b.length:Int))) (some (-1:Int)) (some (0:Int))
def qk(b c:List Place)(i:Place->Place->Option Int)(e:(Int)->Option Int)(a:Int):=
 br (decide (a<(b.length:Int))) (gd (0<=a/\a<(b.length:Int))<|br (decide ((c.length:Int)<=a)) (some (1:Int)) (gd (0<=a/\a<(c.length:Int))<|(i (gl b a.toNat) (gl c a.toNat)).bind λd=>br (d != (0:Int)) (some d) (gd (Q8 (a+1))<|e (a+1)))) (qh F b c)
def Rw(a b:List Place)(c:Place->Place->Option Int):=
 Y3 (λg (z:Int)=>qk F a b c g z) F (0:Int)
def Q3f(F:Nat):=
 some (0:Int)
def GU(b:List Int)(c:(Int)->Option Int)(a:Int):=
 br (decide (a<(b.length:Int))) (gd (0<=a/\a<(b.length:Int))<|br ((gl b a.toNat) != (0:Int)) (some (gl b a.toNat)) (gd (Q8 (a+1))<|c (a+1))) (Q3f F)
def GV(a:List Int):=
 Y3 (λg (z:Int)=>GU F a g z) F (0:Int)
def HE(a b:Place):=
 (Wd F a.application_ b.application_).bind λc=>(Wd F a.line_ b.line_).bind λd=>(GV F ([c,d]:List Int)).bind λe=>some e
def HH(a b:Double):=
 (Rw F a.claims_ b.claims_ (λy0 y1=>HE F y0 y1)).bind λc=>some c
def HG(F:Nat)(a:Int)(b:(Int×(List Double))->Option ((List Double)×Int))(c:List Double):=
 gd (Q8 (a+1))<|b ((a+1),c)
def xt(a:List Double):=
 br (decide (200<(a.length:Int))) (some ([],(1:Int))) ((Vi a (λy0 y1=>HH F y0 y1)).bind λb=>some (b,(0:Int)))
def xu(b:List Face)(e:(Int×(List Double))->Option ((List Double)×Int))(a:Int)(c:List Double):=
 br (decide (a<(b.length:Int))) (gd (0<=a/\a<(b.length:Int))<|br (decide (((List.length ((gl b a.toNat).claims_):Nat):Int)<(2:Int))) (HG F a e c) ((JS F ((gl b a.toNat).t_)).bind λd=>br (d.2 != (0:Int)) (some ([],d.2)) (gd (c.length+(List.length ([(⟨d.1,(gl b a.toNat).claims_⟩:Double)]:List Double))<=Z9)<|HG F a e (c++([(⟨d.1,(gl b a.toNat).claims_⟩:Double)]:List Double))))) (xt F c)
def PD(b:List Version):=
 (PB F b).bind λa=>br (a.2 != (0:Int)) (some ([],a.2)) ((HD F a.1).bind λc=>Y3 (λg (z:Int×(List Double))=>xu F c g z.1 z.2) F ((0:Int),([]:List Double)))
def PA(F:Nat)(a:Bool):=
 some a
def HA(b:List Version)(a:Place):=
 br (decide ((0:Int)<=a.application_)) (br (decide (a.application_<(b.length:Int))) (br (decide ((0:Int)<=a.line_)) (gd (0<=a.application_/\a.application_<(b.length:Int))<|PA F (decide (a.line_<((List.length ((gl b a.application_.toNat).lines_):Nat):Int)))) (PA F false)) (PA F false)) (PA F false)
def Xv(F:Nat)(a:List Version):=
 Ju a.length (some ([]:List Version)) (gd ((0)+a.length<=Z9)<|some (([]:List Version)++a))
def Xx(F:Nat)(a:List Line):=
 Ju a.length (some ([]:List Line)) (gd ((0)+a.length<=Z9)<|some (([]:List Line)++a))
def xk(F:Nat)(a:Int)(b:(Int)->Option Int):=
 gd (Q8 (a+1))<|b (a+1)
def xl(c:List Version)(b:Int)(d e:(Int)->Option Int)(a:Int):=
 br (decide (a<((List.length ((gl c b.toNat).lines_):Nat):Int))) (gd (0<=a/\a<((List.length ((gl c b.toNat).lines_):Nat):Int))<|br (decide ((120:Int)<((List.length ((gl ((gl c b.toNat).lines_) a.toNat).g_.t_):Nat):Int))) (some (1:Int)) (gd (Q8 (a+1))<|e (a+1))) (xk F b d)
def Q2L(F:Nat):=
 some (0:Int)
def xm(b:List Version)(c:(Int)->Option Int)(a:Int):=
 br (decide (a<(b.length:Int))) (gd (0<=a/\a<(b.length:Int))<|Y3 (λg (z:Int)=>xl F b a c g z) F (0:Int)) (Q2L F)
def PC(a:List Version):=
 Y3 (λg (z:Int)=>xm F a g z) F (0:Int)
def Q0D(F:Nat)(a:List Rect):=
 some a
def Z0T(b:List Span)(d:(Int×(List Rect))->Option (List Rect))(a:Int)(c:List Rect):=
 br (decide (a<(b.length:Int))) (gd (0<=a/\a<(b.length:Int))<|gd (c.length+(List.length ([(⟨(gl b a.toNat).L_,(0:Int),(gl b a.toNat).R_,(1:Int)⟩:Rect)]:List Rect))<=Z9)<|gd (Q8 (a+1))<|d ((a+1),(c++([(⟨(gl b a.toNat).L_,(0:Int),(gl b a.toNat).R_,(1:Int)⟩:Rect)]:List Rect)))) (Q0D F c)
def Je(a:List Span):=
 Y3 (λg (z:Int×(List Rect))=>Z0T F a g z.1 z.2) F ((0:Int),([]:List Rect))
def zY(F:Nat)(a:Bool):=
 some a
def DM(a b:Bool):=
 br a (zY F (!b)) (zY F false)
def Q0B(F:Nat)(a:List Edge):=
 some a
def Z0S(c:Int)(b:List Rect)(e:(Int×(List Edge))->Option (List Edge))(a:Int)(d:List Edge):=
 br (decide (a<(b.length:Int))) (gd (0<=a/\a<(b.length:Int))<|gd (d.length+(List.length ([(⟨(⟨(gl b a.toNat).R_,c⟩:Point),(⟨(gl b a.toNat).L_,c⟩:Point)⟩:Edge)]:List Edge))<=Z9)<|gd (Q8 (a+1))<|e ((a+1),(d++([(⟨(⟨(gl b a.toNat).R_,c⟩:Point),(⟨(gl b a.toNat).L_,c⟩:Point)⟩:Edge)]:List Edge)))) (Q0B F d)
def Pb(b c:List Span)(d:Int)(a:List Edge):=
 (Je F b).bind λe=>(Je F c).bind λi=>(QU F e i (λy0 y1=>DM F y0 y1)).bind λj=>Y3 (λg (z:Int×(List Edge))=>Z0S F d j g z.1 z.2) F ((0:Int),a)
def zX(i j:List Span)(c:Int)(b:List Rect)(e:(Int×(List Edge))->Option (List Edge))(a:Int)(d:List Edge):=
 br (decide (a<(b.length:Int))) (gd (0<=a/\a<(b.length:Int))<|gd (d.length+(List.length ([(⟨(⟨(gl b a.toNat).L_,c⟩:Point),(⟨(gl b a.toNat).R_,c⟩:Point)⟩:Edge)]:List Edge))<=Z9)<|gd (Q8 (a+1))<|e ((a+1),(d++([(⟨(⟨(gl b a.toNat).L_,c⟩:Point),(⟨(gl b a.toNat).R_,c⟩:Point)⟩:Edge)]:List Edge)))) (Pb F i j c d)
def Pc(a b:List Span)(c:Int):=
 (Je F b).bind λd=>(Je F a).bind λe=>(QU F d e (λy0 y1=>DM F y0 y1)).bind λi=>Y3 (λg (z:Int×(List Edge))=>zX F a b c i g z.1 z.2) F ((0:Int),([]:List Edge))
def zZ(F:Nat)(a:List Edge):=
 some a
def Q0E(F:Nat)(a:Int)(b:(Int×(List Edge))->Option (List Edge))(c:List Edge):=
 gd (Q8 (a+1))<|b ((a+1),c)
def Z0V(d:List Int)(b:Int)(c:List Span)(i j:(Int×(List Edge))->Option (List Edge))(a:Int)(e:List Edge):=
 br (decide (a<(c.length:Int))) (gd (0<=a/\a<(c.length:Int))<|gd (Q8 (b+1))<|gd (0<=(b+1)/\(b+1)<(d.length:Int))<|gd (e.length+(List.length ([(⟨(⟨(gl c a.toNat).L_,(gl d (b+1).toNat)⟩:Point),(⟨(gl c a.toNat).L_,(gl d b.toNat)⟩:Point)⟩:Edge),(⟨(⟨(gl c a.toNat).R_,(gl d b.toNat)⟩:Point),(⟨(gl c a.toNat).R_,(gl d (b+1).toNat)⟩:Point)⟩:Edge)]:List Edge))<=Z9)<|gd (Q8 (a+1))<|j ((a+1),(e++([(⟨(⟨(gl c a.toNat).L_,(gl d (b+1).toNat)⟩:Point),(⟨(gl c a.toNat).L_,(gl d b.toNat)⟩:Point)⟩:Edge),(⟨(⟨(gl c a.toNat).R_,(gl d b.toNat)⟩:Point),(⟨(gl c a.toNat).R_,(gl d (b+1).toNat)⟩:Point)⟩:Edge)]:List Edge)))) (Q0E F b i e)
def Pd(d:Re_)(b:List Int)(i:(Int×(List Edge))->Option (List Edge))(a:Int)(c:List Edge):=
 br (decide (a<(b.length:Int))) (gd (0<=a/\a<(b.length:Int))<|gd (Q8 ((gl b a.toNat)-1))<|(VN F d.t_ ((gl b a.toNat)-1)).bind λj=>(VN F d.t_ (gl b a.toNat)).bind λk=>(Pc F j k (gl b a.toNat)).bind λe=>gd (c.length+e.length<=Z9)<|gd (Q8 (a+1))<|br ((a+1)==(b.length:Int)) (zZ F (c++e)) ((VN F d.t_ (gl b a.toNat)).bind λl=>Y3 (λg (z:Int×(List Edge))=>Z0V F b a l i g z.1 z.2) F ((0:Int),(c++e)))) (zZ F c)
def DN(a:Re_):=
 (KY F ([a.t_]:List (List Rect))).bind λb=>Y3 (λg (z:Int×(List Edge))=>Pd F a b g z.1 z.2) F ((0:Int),([]:List Edge))
def Q0A(a b:Point):=
 (Wd F a.y_ b.y_).bind λc=>(Wd F a.x_ b.x_).bind λd=>(GV F ([c,d]:List Int)).bind λe=>some e
def ya(F:Nat)(a:Int)(b:(Int×Int)->Option (List Point))(c:Int):=
 gd (Q8 (a+1))<|b ((a+1),c)
def Q0F(b:List Point)(a:Int):=
 gd (0<=a/\a<=(b.length:Int))<|gd (0<=a/\a<=(b.length:Int))<|(JG F ([(b.drop a.toNat),(b.take a.toNat)]:List (List Point))).bind λc=>some c
def Z0X(b:List Point)(d:(Int×Int)->Option (List Point))(a c:Int):=
 br (decide (a<(b.length:Int))) (gd (0<=a/\a<(b.length:Int))<|gd (0<=c/\c<(b.length:Int))<|(Q0A F (gl b a.toNat) (gl b c.toNat)).bind λe=>br (decide (e<0)) (ya F a d a) (ya F a d c)) (Q0F F b c)
def Q0G(a:List Point):=
 Y3 (λg (z:Int×Int)=>Z0X F a g z.1 z.2) F ((0:Int),(0:Int))
def Pa(a b:Edge):=
 (Wd F a.to_.x_ a.F_.x_).bind λc=>(Wd F a.to_.y_ a.F_.y_).bind λd=>(Wd F b.to_.x_ b.F_.x_).bind λe=>(Wd F b.to_.y_ b.F_.y_).bind λi=>gd (Q8 (c*i))<|gd (Q8 (d*e))<|gd (Q8 ((c*i)-(d*e)))<|some ((c*i)-(d*e))
def Cg(F:Nat)(a:List Int):=
 gd (0<=(Qa (a.length:Int) (400:Int))/\(Qa (a.length:Int) (400:Int))<=(a.length:Int))<|some (⟨(a.take (Qa (a.length:Int) (400:Int)).toNat),0⟩:Tape)
def yN(F:Nat)(a:Int):=
 some a
def GC(b a:Int):=
 br (decide (a<1)) (some (0:Int)) (gd (a≠0)<|br (decide ((b.tmod a)<0)) (gd (Q8 ((b.tmod a)+a))<|yN F ((b.tmod a)+a)) (yN F (b.tmod a)))
def Qt(a:Tape)(b:Int):=
 br (decide ((a.l_.length:Int)<=a.at_)) (some (a,(0:Int))) (gd (Q8 (a.at_+1))<|gd (Q8 ((a.at_+1)-1))<|gd (0<=((a.at_+1)-1)/\((a.at_+1)-1)<(a.l_.length:Int))<|(GC F (gl a.l_ ((a.at_+1)-1).toNat) b).bind λc=>some ((⟨a.l_,(a.at_+1)⟩:Tape),c))
def YF(d:Tape)(a b:Int):=
 gd (Q8 (b-a))<|gd (Q8 ((b-a)+1))<|(Qt F d ((b-a)+1)).bind λc=>gd (Q8 (a+c.2))<|some (c.1,(a+c.2))
def Q1i(F:Nat)(a:List Crop)(b:List Int)(c:Int):=
 some ((⟨b,c⟩:Tape),a)
def Pn(c:Tape×Int)(k:(Int×(List Int)×Int×(List Crop))->Option (Tape×(List Crop)))(a:Int)(i:List Int)(j:Int)(d:List Crop):=
 br (decide (a<((List.length (([(ByteArray.mk #[98,97,114,108,101,121]),(ByteArray.mk #[99,108,111,118,101,114]),(ByteArray.mk #[103,114,97,115,115]),(ByteArray.mk #[109,97,105,122,101]),(ByteArray.mk #[111,97,116,115]),(ByteArray.mk #[114,121,101]),(ByteArray.mk #[118,101,116,99,104]),(ByteArray.mk #[119,104,101,97,116])]:List ByteArray).take c.2.toNat):Nat):Int))) (gd (0<=a/\a<((List.length (([(ByteArray.mk #[98,97,114,108,101,121]),(ByteArray.mk #[99,108,111,118,101,114]),(ByteArray.mk #[103,114,97,115,115]),(ByteArray.mk #[109,97,105,122,101]),(ByteArray.mk #[111,97,116,115]),(ByteArray.mk #[114,121,101]),(ByteArray.mk #[118,101,116,99,104]),(ByteArray.mk #[119,104,101,97,116])]:List ByteArray).take c.2.toNat):Nat):Int))<|(Qt F (⟨i,j⟩:Tape) (3:Int)).bind λe=>(Qt F e.1 (8:Int)).bind λb=>gd (0<=b.2/\b.2<((List.length ([(0:Int),(0:Int),(0:Int),(2:Int),(20:Int),(8:Int),(1:Int),(31:Int)]:List Int):Nat):Int))<|gd (d.length+(List.length ([(⟨(gl (([(ByteArray.mk #[98,97,114,108,101,121]),(ByteArray.mk #[99,108,111,118,101,114]),(ByteArray.mk #[103,114,97,115,115]),(ByteArray.mk #[109,97,105,122,101]),(ByteArray.mk #[111,97,116,115]),(ByteArray.mk #[114,121,101]),(ByteArray.mk #[118,101,116,99,104]),(ByteArray.mk #[119,104,101,97,116])]:List ByteArray).take c.2.toNat) a.toNat),e.2,(gl ([(0:Int),(0:Int),(0:Int),(2:Int),(20:Int),(8:Int),(1:Int),(31:Int)]:List Int) b.2.toNat)⟩:Crop)]:List Crop))<=Z9)<|gd (Q8 (a+1))<|k ((a+1),b.1.l_,b.1.at_,(d++([(⟨(gl (([(ByteArray.mk #[98,97,114,108,101,121]),(ByteArray.mk #[99,108,111,118,101,114]),(ByteArray.mk #[103,114,97,115,115]),(ByteArray.mk #[109,97,105,122,101]),(ByteArray.mk #[111,97,116,115]),(ByteArray.mk #[114,121,101]),(ByteArray.mk #[118,101,116,99,104]),(ByteArray.mk #[119,104,101,97,116])]:List ByteArray).take c.2.toNat) a.toNat),e.2,(gl ([(0:Int),(0:Int),(0:Int),(2:Int),(20:Int),(8:Int),(1:Int),(31:Int)]:List Int) b.2.toNat)⟩:Crop)]:List Crop)))) (Q1i F d i j)
def Cd(b:Tape):=
 (YF F b (3:Int) (8:Int)).bind λa=>gd (0<=a.2/\a.2<=((List.length ([(ByteArray.mk #[98,97,114,108,101,121]),(ByteArray.mk #[99,108,111,118,101,114]),(ByteArray.mk #[103,114,97,115,115]),(ByteArray.mk #[109,97,105,122,101]),(ByteArray.mk #[111,97,116,115]),(ByteArray.mk #[114,121,101]),(ByteArray.mk #[118,101,116,99,104]),(ByteArray.mk #[119,104,101,97,116])]:List ByteArray):Nat):Int))<|Y3 (λg (z:Int×(List Int)×Int×(List Crop))=>Pn F a g z.1 z.2.1 z.2.2.1 z.2.2.2) F ((0:Int),a.1.l_,a.1.at_,([]:List Crop))
def Gy(i:Tape)(c:Int):=
 (Qt F i c).bind λa=>(Qt F a.1 c).bind λb=>gd (Q8 (a.2+(1:Int)))<|gd (Q8 (c-a.2))<|(Qt F b.1 (c-a.2)).bind λd=>gd (Q8 ((a.2+(1:Int))+d.2))<|gd (Q8 (b.2+(1:Int)))<|gd (Q8 (c-b.2))<|(Qt F d.1 (c-b.2)).bind λe=>gd (Q8 ((b.2+(1:Int))+e.2))<|some (e.1,(⟨a.2,b.2,((a.2+(1:Int))+d.2),((b.2+(1:Int))+e.2)⟩:Rect))
def Vk(F:Nat)(a:Bool):=
 some a
def XW(a:Rect):=
 br (decide ((0:Int)<=a.L_)) (br (decide (a.L_<a.R_)) (br (decide (a.R_<=16384)) (br (decide ((0:Int)<=a.w_)) (br (decide (a.w_<a.H_)) (Vk F (decide (a.H_<=16384))) (Vk F false)) (Vk F false)) (Vk F false)) (Vk F false)) (Vk F false)
def DE(F:Nat)(b:List Int)(c a:Int)(d:Bool):=
 br d (some b) (gd (0<=a/\a<=(b.length:Int))<|gd ((0)+(List.length (b.take a.toNat))<=Z9)<|gd (((0)+(List.length (b.take a.toNat)))+(List.length ([c]:List Int))<=Z9)<|gd (0<=a/\a<=(b.length:Int))<|gd ((((0)+(List.length (b.take a.toNat)))+(List.length ([c]:List Int)))+(List.length (b.drop a.toNat))<=Z9)<|some (((([]:List Int)++(b.take a.toNat))++([c]:List Int))++(b.drop a.toNat)))
def Tl(b:List Int)(c a:Int):=
 br (decide (a<(b.length:Int))) (gd (0<=a/\a<(b.length:Int))<|DE F b c a ((gl b a.toNat)==c)) (DE F b c a false)
def DF(d:List Int)(e a:Int)(b:(Int)->Option (List Int))(c:Bool):=
 br c (gd (Q8 (a+1))<|b (a+1)) (Tl F d e a)
def Q0h(b:List Int)(c:Int)(d:(Int)->Option (List Int))(a:Int):=
 br (decide (a<(b.length:Int))) (gd (0<=a/\a<(b.length:Int))<|DF F b c a d (decide ((gl b a.toNat)<c))) (DF F b c a d false)
def Gk(a:List Int)(b:Int):=
 Y3 (λg (z:Int)=>Q0h F a b g z) F (0:Int)
def Jc(F:Nat)(a:Int)(b:(Int)->Option Bool)(c:Bool):=
 br c (some true) (gd (Q8 (a+1))<|b (a+1))
def bP(F:Nat):=
 some false
def zD(b:List Rect)(d e:Int)(c:(Int)->Option Bool)(a:Int):=
 br (decide (a<(b.length:Int))) (gd (0<=a/\a<(b.length:Int))<|br (decide (((gl b a.toNat).L_)<=d)) (br (decide (d<((gl b a.toNat).R_))) (br (decide (((gl b a.toNat).w_)<=e)) (Jc F a c (decide (e<((gl b a.toNat).H_)))) (Jc F a c false)) (Jc F a c false)) (Jc F a c false)) (bP F)
def Dx(a:List Rect)(b c:Int):=
 Y3 (λg (z:Int)=>zD F a b c g z) F (0:Int)
def zC(F:Nat)(a:Bool):=
 some a
def zB(F:Nat)(a:Bool):=
 some a
def zA(F:Nat)(a:Bool):=
 some a
def SX(a b:Bool)(c:Int):=
 br (c==1) (br a (zC F true) (zC F b)) (br (c==2) (br a (zB F b) (zB F false)) (br a (zA F (!b)) (zA F false)))
def Dw(F:Nat)(a:Int)(b:(Int)->Option Bool)(c:Bool):=
 br c (some false) (gd (Q8 (a+1))<|b (a+1))
def bI(F:Nat):=
 some true
def bK(b c:List Rect)(d:(Int)->Option Bool)(a:Int):=
 br (decide (a<(b.length:Int))) (gd (0<=a/\a<(b.length:Int))<|gd (0<=a/\a<(c.length:Int))<|br (((gl b a.toNat).L_) != ((gl c a.toNat).L_)) (Dw F a d true) (gd (0<=a/\a<(b.length:Int))<|gd (0<=a/\a<(c.length:Int))<|Dw F a d (((gl b a.toNat).R_) != ((gl c a.toNat).R_)))) (bI F)
def SW(a b:List Rect):=
 br ((a.length:Int) != (b.length:Int)) (some false) (Y3 (λg (z:Int)=>bK F a b g z) F (0:Int))
def zG(F:Nat)(a:Int)(b:((List Int)×(List Int)×Int)->Option (List Rect))(c d:List Int):=
 gd (Q8 (a+1))<|b (c,d,(a+1))
def zK(c d:List Rect)(b:Int)(j k:((List Int)×(List Int)×Int)->Option (List Rect))(e i:List Int)(a:Int):=
 br (decide (a<((List.length (gl ([c,d]:List (List Rect)) b.toNat):Nat):Int))) (gd (0<=a/\a<((List.length (gl ([c,d]:List (List Rect)) b.toNat):Nat):Int))<|(Gk F e ((gl (gl ([c,d]:List (List Rect)) b.toNat) a.toNat).L_)).bind λl=>(Gk F l ((gl (gl ([c,d]:List (List Rect)) b.toNat) a.toNat).R_)).bind λm=>(Gk F i ((gl (gl ([c,d]:List (List Rect)) b.toNat) a.toNat).w_)).bind λn=>(Gk F n ((gl (gl ([c,d]:List (List Rect)) b.toNat) a.toNat).H_)).bind λo=>gd (Q8 (a+1))<|k (m,o,(a+1))) (zG F b j e i)
def DB(F:Nat)(a:Int)(b:(Int×(List Rect))->Option (List Rect))(c:List Rect):=
 gd (Q8 (a+1))<|b ((a+1),c)
def Kc(d e:List Int)(c a:Int)(b:List Rect)(i:(Int×(List Rect))->Option (List Rect))(j:Bool):=
 br j (gd (Q8 ((b.length:Int)-1))<|gd (Q8 (a+1))<|gd (0<=(a+1)/\(a+1)<(d.length:Int))<|gd (0<=((b.length:Int)-1)/\((b.length:Int)-1)<(b.length:Int))<|DB F a i (List.set b ((b.length:Int)-1).toNat (⟨(gl b ((b.length:Int)-1).toNat).L_,(gl b ((b.length:Int)-1).toNat).w_,(gl d (a+1).toNat),(gl b ((b.length:Int)-1).toNat).H_⟩:Rect))) (gd (0<=a/\a<(d.length:Int))<|gd (0<=c/\c<(e.length:Int))<|gd (Q8 (a+1))<|gd (0<=(a+1)/\(a+1)<(d.length:Int))<|gd (Q8 (c+1))<|gd (0<=(c+1)/\(c+1)<(e.length:Int))<|gd (b.length+(List.length ([(⟨(gl d a.toNat),(gl e c.toNat),(gl d (a+1).toNat),(gl e (c+1).toNat)⟩:Rect)]:List Rect))<=Z9)<|DB F a i (b++([(⟨(gl d a.toNat),(gl e c.toNat),(gl d (a+1).toNat),(gl e (c+1).toNat)⟩:Rect)]:List Rect)))
def DC(F:Nat)(a:Int)(b:(Int×(List Rect)×(List Rect))->Option (List Rect))(c d:List Rect):=
 gd (Q8 (a+1))<|b ((a+1),c,d)
def zH(b:Int)(c:List Rect)(a:(Int×(List Rect)×(List Rect))->Option (List Rect))(d:List Rect):=
 DC F b a c d
def zJ(d:List Int)(c:Int)(j k:List Rect)(i:(Int×(List Rect)×(List Rect))->Option (List Rect))(e:(Int×(List Rect))->Option (List Rect))(a:Int)(b:List Rect):=
 br (decide (a<(k.length:Int))) (gd (Q8 (c+1))<|gd (0<=(c+1)/\(c+1)<(d.length:Int))<|gd (0<=a/\a<(b.length:Int))<|gd (Q8 (a+1))<|e ((a+1),(List.set b a.toNat (⟨(gl b a.toNat).L_,(gl b a.toNat).w_,(gl b a.toNat).R_,(gl d (c+1).toNat)⟩:Rect)))) (zH F c j i b)
def Td(d:Int)(a b e:List Rect)(c:(Int×(List Rect)×(List Rect))->Option (List Rect)):=
 gd (a.length+b.length<=Z9)<|DC F d c (a++b) e
def Gj(e:List Int)(c:Int)(d a i:List Rect)(b:(Int×(List Rect)×(List Rect))->Option (List Rect))(j:Bool):=
 br j (Y3 (λg (z:Int×(List Rect))=>zJ F e c d a b g z.1 z.2) F ((0:Int),a)) (Td F c d a i b)
def DA(c:List Int)(b:Int)(i a:List Rect)(e:(Int×(List Rect)×(List Rect))->Option (List Rect))(d:List Rect):=
 br (decide (0<(a.length:Int))) ((SW F a d).bind λj=>br j (gd (0<=(0:Int)/\0<(a.length:Int))<|gd (0<=b/\b<(c.length:Int))<|Gj F c b i a d e (((gl a (0:Int).toNat).H_)==(gl c b.toNat))) (Gj F c b i a d e false)) (Gj F c b i a d e false)
def zI(m n:List Rect)(o:Int)(c e:List Int)(d:Int)(k l:List Rect)(j:(Int×(List Rect)×(List Rect))->Option (List Rect))(i:(Int×(List Rect))->Option (List Rect))(a:Int)(b:List Rect):=
 gd (Q8 (a+1))<|br (decide ((a+1)<(c.length:Int))) (gd (0<=a/\a<(c.length:Int))<|gd (0<=d/\d<(e.length:Int))<|(Dx F m (gl c a.toNat) (gl e d.toNat)).bind λp=>gd (0<=a/\a<(c.length:Int))<|gd (0<=d/\d<(e.length:Int))<|(Dx F n (gl c a.toNat) (gl e d.toNat)).bind λq=>(SX F p q o).bind λs=>br (!s) (DB F a i b) (br (decide (0<(b.length:Int))) (gd (Q8 ((b.length:Int)-1))<|gd (0<=((b.length:Int)-1)/\((b.length:Int)-1)<(b.length:Int))<|gd (0<=a/\a<(c.length:Int))<|Kc F c e d a b i (((gl b ((b.length:Int)-1).toNat).R_)==(gl c a.toNat))) (Kc F c e d a b i false))) (DA F e d k l j b)
def Tc(F:Nat)(a b:List Rect):=
 gd (a.length+b.length<=Z9)<|some (a++b)
def Q0c(j k:List Rect)(l:Int)(i b:List Int)(e:(Int×(List Rect)×(List Rect))->Option (List Rect))(a:Int)(c d:List Rect):=
 gd (Q8 (a+1))<|br (decide ((a+1)<(b.length:Int))) (Y3 (λg (z:Int×(List Rect))=>zI F j k l i b a c d e g z.1 z.2) F ((0:Int),([]:List Rect))) (Tc F c d)
def Tb(c d:List Rect)(e:Int)(a b:List Int):=
 Y3 (λg (z:Int×(List Rect)×(List Rect))=>Q0c F c d e a b g z.1 z.2.1 z.2.2) F ((0:Int),([]:List Rect),([]:List Rect))
def DD(b c:List Rect)(j:Int)(i:((List Int)×(List Int)×Int)->Option (List Rect))(d e:List Int)(a:Int):=
 br (decide (a<((List.length ([b,c]:List (List Rect)):Nat):Int))) (gd (0<=a/\a<((List.length ([b,c]:List (List Rect)):Nat):Int))<|Y3 (λg (z:(List Int)×(List Int)×Int)=>zK F b c a i g z.1 z.2.1 z.2.2) F (d,e,(0:Int))) (Tb F b c j d e)
def Wo(a b:List Rect)(c:Int):=
 Y3 (λg (z:(List Int)×(List Int)×Int)=>DD F a b c g z.1 z.2.1 z.2.2) F (([]:List Int),([]:List Int),(0:Int))
def Tf(F:Nat)(a:List Rect):=
 br (decide (120<(a.length:Int))) (some ((⟨[]⟩:Re_),(1:Int))) (some ((⟨a⟩:Re_),(0:Int)))
def zF(b:List Rect):=
 (Wo F b ([]) (1:Int)).bind λc=>(Tf F c).bind λa=>some (a.1,a.2)
def bW(b:List Rect)(c:(Int)->Option (Re_×Int))(a:Int):=
 br (decide (a<(b.length:Int))) (gd (0<=a/\a<(b.length:Int))<|(XW F (gl b a.toNat)).bind λd=>br (!d) (some ((⟨[]⟩:Re_),(2:Int))) (gd (Q8 (a+1))<|c (a+1))) (zF F b)
def SZ(a:List Rect):=
 br (decide (120<(a.length:Int))) (some ((⟨[]⟩:Re_),(1:Int))) (Y3 (λg (z:Int)=>bW F a g z) F (0:Int))
def yz(a:List Rect)(b:List Int)(c:Int):=
 (SZ F a).bind λd=>some ((⟨b,c⟩:Tape),d.1)
def Pi(j:Int)(i:(Int×(List Int)×Int×(List Rect))->Option (Tape×Re_))(b:Int)(d:List Int)(e:Int)(c:List Rect):=
 br (decide ((0:Int)<b)) ((Gy F (⟨d,e⟩:Tape) j).bind λa=>gd (c.length+(List.length ([a.2]:List Rect))<=Z9)<|gd (Q8 (b-1))<|i ((b-1),a.1.l_,a.1.at_,(c++([a.2]:List Rect)))) (yz F c d e)
def Gx(c:Tape)(d b:Int):=
 gd (Q8 (b+1))<|(Qt F c (b+1)).bind λa=>Y3 (λg (z:Int×(List Int)×Int×(List Rect))=>Pi F d g z.1 z.2.1 z.2.2.1 z.2.2.2) F (a.2,a.1.l_,a.1.at_,([]:List Rect))
def yJ(F:Nat)(a:List Rect)(b:List Int)(c:Int):=
 some ((⟨b,c⟩:Tape),(⟨a⟩:Re_))
def GA(d:Tape)(c e:Int):=
 (Gx F d c e).bind λa=>br ((a.2.t_.length:Int)==0) ((Gy F a.1 c).bind λb=>yJ F ([b.2]:List Rect) b.1.l_ b.1.at_) (yJ F a.2.t_ a.1.l_ a.1.at_)
def Q0e(F:Nat)(a:List Rect):=
 br (decide (120<(a.length:Int))) (some ((⟨([]:List Rect)⟩:Re_),(1:Int))) (some ((⟨a⟩:Re_),(0:Int)))
def bX(b:List Rect):=
 (Wo F b ([]) (1:Int)).bind λc=>(Q0e F c).bind λa=>some ((⟨a.1.t_⟩:Re_),a.2)
def Z0d(b:List Rect)(c:(Int)->Option (Re_×Int))(a:Int):=
 br (decide (a<(b.length:Int))) (gd (0<=a/\a<(b.length:Int))<|(XW F (gl b a.toNat)).bind λd=>br (!d) (some ((⟨([]:List Rect)⟩:Re_),(2:Int))) (gd (Q8 (a+1))<|c (a+1))) (bX F b)
def bY(a:List Rect):=
 br (decide (120<(a.length:Int))) (some ((⟨([]:List Rect)⟩:Re_),(1:Int))) (Y3 (λg (z:Int)=>Z0d F a g z) F (0:Int))
def Q1b(a:List Rect)(b:List Int)(c:Int):=
 (bY F a).bind λd=>some ((⟨b,c⟩:Tape),(⟨d.1.t_⟩:Re_))
def Z1V(j:Int)(i:(Int×(List Int)×Int×(List Rect))->Option (Tape×Re_))(b:Int)(d:List Int)(e:Int)(c:List Rect):=
 br (decide ((0:Int)<b)) ((Gy F (⟨d,e⟩:Tape) j).bind λa=>gd (c.length+(List.length ([a.2]:List Rect))<=Z9)<|gd (Q8 (b-1))<|i ((b-1),a.1.l_,a.1.at_,(c++([a.2]:List Rect)))) (Q1b F c d e)
def Q1c(c:Tape)(d b:Int):=
 gd (Q8 (b+1))<|(Qt F c (b+1)).bind λa=>Y3 (λg (z:Int×(List Int)×Int×(List Rect))=>Z1V F d g z.1 z.2.1 z.2.2.1 z.2.2.2) F (a.2,a.1.l_,a.1.at_,([]:List Rect))
def yK(F:Nat)(a:List Int)(b:Int)(c:List Rect):=
 some ((⟨a,b⟩:Tape),(⟨c⟩:Re_))
def yL(d:Tape)(c e:Int):=
 (Q1c F d c e).bind λa=>br ((a.2.t_.length:Int)==0) ((Gy F a.1 c).bind λb=>yK F b.1.l_ b.1.at_ ([b.2]:List Rect)) (yK F a.1.l_ a.1.at_ a.2.t_)
def DV(F:Nat)(a:Int)(b:(Int×(List Int)×Int×(List Line))->Option (Tape×(List Line)×(List Int)×(List Re_)))(c:List Int)(d:Int)(e:List Line):=
 gd (Q8 (a-1))<|b ((a-1),c,d,e)
def DW(l:List Crop)(k:Int)(b:List Line)(d:Tape×Int)(e:Tape×Re_)(j:(Int×(List Int)×Int×(List Line))->Option (Tape×(List Line)×(List Int)×(List Re_)))(c:List Rect):=
 br (decide (0<(c.length:Int))) (gd (Q8 (d.2+(1:Int)))<|(Qt F e.1 (l.length:Int)).bind λi=>(Qt F i.1 (15:Int)).bind λa=>gd (Q8 ((1:Int)+a.2))<|gd (b.length+(List.length ([(⟨(d.2+(1:Int)),(⟨c⟩:Re_),i.2,((1:Int)+a.2)⟩:Line)]:List Line))<=Z9)<|DV F k j a.1.l_ a.1.at_ (b++([(⟨(d.2+(1:Int)),(⟨c⟩:Re_),i.2,((1:Int)+a.2)⟩:Line)]:List Line))) (DV F k j e.1.l_ e.1.at_ b)
def Q1e(j:List Crop)(i:Int)(b:List Line)(k:Tape×Int)(l:Tape×Re_)(d:(Int×(List Int)×Int×(List Line))->Option (Tape×(List Line)×(List Int)×(List Re_)))(e:((List Rect)×Int)->Option (Tape×(List Line)×(List Int)×(List Re_)))(c:List Rect)(a:Int):=
 br (decide (a<(b.length:Int))) (gd (0<=a/\a<(b.length:Int))<|(Wo F c ((gl b a.toNat).g_.t_) (3:Int)).bind λm=>gd (Q8 (a+1))<|e (m,(a+1))) (DW F j i b k l d c)
def TO(j:List Crop)(b:List Re_)(d:Int)(e:List Line)(a:Tape×Int)(k:Tape×Re_)(c:(Int×(List Int)×Int×(List Line))->Option (Tape×(List Line)×(List Int)×(List Re_)))(i:List Rect):=
 gd (0<=a.2/\a.2<(b.length:Int))<|(Wo F i ((gl b a.2.toNat).t_) (2:Int)).bind λl=>Y3 (λg (z:(List Rect)×Int)=>Q1e F j d e a k c g z.1 z.2) F (l,(0:Int))
def Q1f(m:List Crop)(j:List Re_)(k:Int)(l:List Line)(c:Tape×Int)(d:Tape×Re_)(e:(Int×(List Int)×Int×(List Line))->Option (Tape×(List Line)×(List Int)×(List Re_)))(i:(Int×(List Rect))->Option (Tape×(List Line)×(List Int)×(List Re_)))(a:Int)(b:List Rect):=
 br (decide (a<(d.2.t_.length:Int))) (gd (0<=a/\a<(b.length:Int))<|gd (Q8 ((10:Int)*c.2))<|gd (Q8 (((gl b a.toNat).L_)+((10:Int)*c.2)))<|gd (0<=a/\a<(b.length:Int))<|gd (Q8 ((10:Int)*c.2))<|gd (Q8 (((gl b a.toNat).R_)+((10:Int)*c.2)))<|gd (0<=a/\a<(b.length:Int))<|gd (0<=a/\a<((List.length (List.set b a.toNat (⟨(((gl b a.toNat).L_)+((10:Int)*c.2)),(gl b a.toNat).w_,(gl b a.toNat).R_,(gl b a.toNat).H_⟩:Rect)):Nat):Int))<|gd (Q8 (a+1))<|i ((a+1),(List.set (List.set b a.toNat (⟨(((gl b a.toNat).L_)+((10:Int)*c.2)),(gl b a.toNat).w_,(gl b a.toNat).R_,(gl b a.toNat).H_⟩:Rect)) a.toNat (⟨(gl (List.set b a.toNat (⟨(((gl b a.toNat).L_)+((10:Int)*c.2)),(gl b a.toNat).w_,(gl b a.toNat).R_,(gl b a.toNat).H_⟩:Rect)) a.toNat).L_,(gl (List.set b a.toNat (⟨(((gl b a.toNat).L_)+((10:Int)*c.2)),(gl b a.toNat).w_,(gl b a.toNat).R_,(gl b a.toNat).H_⟩:Rect)) a.toNat).w_,(((gl b a.toNat).R_)+((10:Int)*c.2)),(gl (List.set b a.toNat (⟨(((gl b a.toNat).L_)+((10:Int)*c.2)),(gl b a.toNat).w_,(gl b a.toNat).R_,(gl b a.toNat).H_⟩:Rect)) a.toNat).H_⟩:Rect)))) (TO F m j k l c d e b)
def Q1d(F:Nat)(a:List Int)(b:List Re_)(c:List Line)(d:List Int)(e:Int):=
 some ((⟨d,e⟩:Tape),c,a,b)
def Pj(m:List Crop)(a:List Int)(b:List Re_)(l:(Int×(List Int)×Int×(List Line))->Option (Tape×(List Line)×(List Int)×(List Re_)))(c:Int)(d:List Int)(e:Int)(i:List Line):=
 br (decide ((0:Int)<c)) ((Qt F (⟨d,e⟩:Tape) (a.length:Int)).bind λj=>(yL F j.1 (9:Int) (2:Int)).bind λk=>Y3 (λg (z:Int×(List Rect))=>Q1f F m b c i j k l g z.1 z.2) F ((0:Int),k.2.t_)) (Q1d F a b i d e)
def TP(j:List Crop)(b:Int)(c:List Int)(d:Int)(e:List Int)(i:List Re_):=
 gd (Q8 (b+1))<|(Qt F (⟨c,d⟩:Tape) (b+1)).bind λa=>Y3 (λg (z:Int×(List Int)×Int×(List Line))=>Pj F j e i g z.1 z.2.1 z.2.2.1 z.2.2.2) F (a.2,a.1.l_,a.1.at_,([]:List Line))
def Pk(l:List Crop)(m:Int)(k:(Int×(List Int)×Int×(List Int)×(List Re_))->Option (Tape×(List Line)×(List Int)×(List Re_)))(d:Int)(i:List Int)(j:Int)(a:List Int)(e:List Re_):=
 br (decide ((0:Int)<d)) (gd (Q8 ((a.length:Int)+1))<|gd (a.length+(List.length ([((a.length:Int)+1)]:List Int))<=Z9)<|gd (Q8 (10*(a.length:Int)))<|gd (Q8 (10*(a.length:Int)))<|(YF F (⟨i,j⟩:Tape) (2:Int) (9:Int)).bind λb=>gd (Q8 ((10*(a.length:Int))+b.2))<|(YF F b.1 (2:Int) (9:Int)).bind λc=>gd (e.length+(List.length ([(⟨([(⟨(10*(a.length:Int)),0,((10*(a.length:Int))+b.2),c.2⟩:Rect)]:List Rect)⟩:Re_)]:List Re_))<=Z9)<|gd (Q8 (d-1))<|k ((d-1),c.1.l_,c.1.at_,(a++([((a.length:Int)+1)]:List Int)),(e++([(⟨([(⟨(10*(a.length:Int)),0,((10*(a.length:Int))+b.2),c.2⟩:Rect)]:List Rect)⟩:Re_)]:List Re_)))) (TP F l m i j a e)
def TQ(b:Tape)(c:List Crop)(d:Int):=
 (YF F b (1:Int) (3:Int)).bind λa=>Y3 (λg (z:Int×(List Int)×Int×(List Int)×(List Re_))=>Pk F c d g z.1 z.2.1 z.2.2.1 z.2.2.2.1 z.2.2.2.2) F (a.2,a.1.l_,a.1.at_,([]:List Int),([]:List Re_))
def Lo(F:Nat)(e:Tape×(List Crop))(a:List Re_)(b:List Version)(c:List Int)(d:Int):=
 some ((⟨c,d⟩:Tape),e.2,b,a)
def Lp(i:Tape×(List Crop))(k:List Re_)(j:(Int×(List Int)×Int×(List Version))->Option (Tape×(List Crop)×(List Version)×(List Re_)))(b:Int)(d:List Int)(e:Int)(c:List Version):=
 br (decide ((0:Int)<b)) ((TQ F (⟨d,e⟩:Tape) i.2 (2:Int)).bind λa=>gd (c.length+(List.length ([(⟨0,a.2.1⟩:Version)]:List Version))<=Z9)<|gd (Q8 (b-1))<|j ((b-1),a.1.l_,a.1.at_,(c++([(⟨0,a.2.1⟩:Version)]:List Version)))) (Lo F i k c d e)
def Mw(b:Tape×(List Crop))(c:List Re_):=
 (YF F b.1 (1:Int) (3:Int)).bind λa=>Y3 (λg (z:Int×(List Int)×Int×(List Version))=>Lp F b c g z.1 z.2.1 z.2.2.1 z.2.2.2) F (a.2,a.1.l_,a.1.at_,([]:List Version))
def Lq(d:Tape×(List Crop))(c:(Int×(List Re_))->Option (Tape×(List Crop)×(List Version)×(List Re_)))(a:Int)(b:List Re_):=
 br (decide (a<3)) (gd (Q8 ((10:Int)*a))<|gd (Q8 ((10:Int)*a))<|gd (Q8 (((10:Int)*a)+9))<|gd (b.length+(List.length ([(⟨([(⟨((10:Int)*a),0,(((10:Int)*a)+9),(9:Int)⟩:Rect)]:List Rect)⟩:Re_)]:List Re_))<=Z9)<|gd (Q8 (a+1))<|c ((a+1),(b++([(⟨([(⟨((10:Int)*a),0,(((10:Int)*a)+9),(9:Int)⟩:Rect)]:List Rect)⟩:Re_)]:List Re_)))) (Mw F d b)
def Bo(a:Tape):=
 (Cd F a).bind λb=>Y3 (λg (z:Int×(List Re_))=>Lq F b g z.1 z.2) F ((0:Int),([]:List Re_))
def Ti(F:Nat)(rc:Int->Option ByteArray)(a:Int):=
 br (decide (a<0)) (gd ((10:Int)≠0)<|gd (Q8 (0-(a.tmod (10:Int))))<|br (decide ((-10:Int)<a)) (gd (Q8 ((48:Int)+(0-(a.tmod (10:Int)))))<|gd (ByteArray.size (ByteArray.mk #[45])+ByteArray.size (ZW (IntKind.wrap .u8 ((48:Int)+(0-(a.tmod (10:Int))))))<=Z9)<|some ((ByteArray.mk #[45])++(ZW (IntKind.wrap .u8 ((48:Int)+(0-(a.tmod (10:Int)))))))) (gd (Q8 (a.tdiv (10:Int))/\(10:Int)≠0)<|(rc (a.tdiv (10:Int))).bind λb=>gd (Q8 ((48:Int)+(0-(a.tmod (10:Int)))))<|gd (ByteArray.size b+ByteArray.size (ZW (IntKind.wrap .u8 ((48:Int)+(0-(a.tmod (10:Int))))))<=Z9)<|some (b++(ZW (IntKind.wrap .u8 ((48:Int)+(0-(a.tmod (10:Int))))))))) (br (decide (a<10)) (gd (Q8 ((48:Int)+a))<|some (ZW (IntKind.wrap .u8 ((48:Int)+a)))) (gd (Q8 (a.tdiv (10:Int))/\(10:Int)≠0)<|(rc (a.tdiv (10:Int))).bind λc=>gd ((10:Int)≠0)<|gd (Q8 ((48:Int)+(a.tmod (10:Int))))<|gd (ByteArray.size c+ByteArray.size (ZW (IntKind.wrap .u8 ((48:Int)+(a.tmod (10:Int)))))<=Z9)<|some (c++(ZW (IntKind.wrap .u8 ((48:Int)+(a.tmod (10:Int))))))))
def XX:Nat->Int->Option ByteArray
 |0=>λ_=>none
 |F+1=>Ti F (XX F)
def Gz(c:Tape)(a:Int):=
 (Qt F c a).bind λb=>gd (Q8 (a-1))<|some (b.1,(b.2==(a-1)))
def Ux(F:Nat)(rc:Tape->Int->Option (Tape×Term))(e:Tape×Int)(a b:Int)(c:List Int)(d:Int):=
 some ((⟨c,d⟩:Tape),(⟨e.2,a,b,[]⟩:Term))
def Gv(rc:Tape->Int->Option (Tape×Term))(a:Tape×Int)(l:Bool):=
 br l ((Qt F a.1 (4:Int)).bind λd=>Ux F rc a d.2 0 d.1.l_ d.1.at_) (br (a.2==(4:Int)) ((Qt F a.1 (5:Int)).bind λb=>gd (Q8 ((1:Int)*2 ^ (min (b.2).toNat (IntKind.bits .i64)))/\0<=b.2)<|Ux F rc a ((1:Int)*2 ^ (min (b.2).toNat (IntKind.bits .i64))) 0 b.1.l_ b.1.at_) (br (a.2==(5:Int)) ((Qt F a.1 (16:Int)).bind λe=>Ux F rc a e.2 0 e.1.l_ e.1.at_) (br (a.2==(6:Int)) ((YF F a.1 (2:Int) (3:Int)).bind λi=>Ux F rc a i.2 0 i.1.l_ i.1.at_) (br (a.2==(7:Int)) ((YF F a.1 (1:Int) (2:Int)).bind λk=>(Qt F k.1 (5:Int)).bind λc=>gd (Q8 ((1:Int)*2 ^ (min (c.2).toNat (IntKind.bits .i64)))/\0<=c.2)<|Ux F rc a k.2 ((1:Int)*2 ^ (min (c.2).toNat (IntKind.bits .i64))) c.1.l_ c.1.at_) (br (a.2==(8:Int)) ((YF F a.1 (1:Int) (3:Int)).bind λj=>Ux F rc a j.2 0 j.1.l_ j.1.at_) (Ux F rc a 0 0 a.1.l_ a.1.at_))))))
def Gw(rc:Tape->Int->Option (Tape×Term))(a:Int)(n:Bool)(l:List Int)(m:Int):=
 br n ((Qt F (⟨l,m⟩:Tape) (3:Int)).bind λb=>br (b.2==(0:Int)) (gd (Q8 (a-1))<|(rc b.1 (a-1)).bind λd=>gd (Q8 d.2.op_)<|some (d.1,(⟨(11:Int),0,0,([d.2]:List Term)⟩:Term))) (br (b.2==(1:Int)) (gd (Q8 (a-1))<|(rc b.1 (a-1)).bind λe=>gd (Q8 (a-1))<|(rc e.1 (a-1)).bind λi=>gd (Q8 e.2.op_)<|gd (Q8 i.2.op_)<|some (i.1,(⟨(9:Int),0,0,([e.2,i.2]:List Term)⟩:Term))) (gd (Q8 (a-1))<|(rc b.1 (a-1)).bind λj=>gd (Q8 (a-1))<|(rc j.1 (a-1)).bind λk=>gd (Q8 j.2.op_)<|gd (Q8 k.2.op_)<|some (k.1,(⟨(10:Int),0,0,([j.2,k.2]:List Term)⟩:Term))))) ((YF F (⟨l,m⟩:Tape) (1:Int) (8:Int)).bind λc=>br (c.2==(2:Int)) (Gv F rc c (c.2==(2:Int))) (Gv F rc c (c.2==(3:Int))))
def TM(rc:Tape->Int->Option (Tape×Term))(a:Tape)(b:Int):=
 br (decide ((0:Int)<b)) ((Gz F a (2:Int)).bind λc=>Gw F rc b c.2 c.1.l_ c.1.at_) (Gw F rc b false a.l_ a.at_)
def Vr:Nat->Tape->Int->Option (Tape×Term)
 |0=>λ_ _=>none
 |F+1=>TM F (Vr F)
def Vl(F:Nat)(a:Int)(b:(Int)->Option Bool)(c:Bool):=
 br c (some false) (gd (Q8 (a+1))<|b (a+1))
def Q0f(F:Nat):=
 some true
def Tg(b:ByteArray)(c:(Int)->Option Bool)(a:Int):=
 br (decide (a<((b.size:Nat):Int))) (gd (0<=a/\a<((b.size:Nat):Int))<|br (decide ((K7 b a)<97)) (gd (0<=a/\a<((b.size:Nat):Int))<|br (decide ((K7 b a)<48)) (Vl F a c true) (gd (0<=a/\a<((b.size:Nat):Int))<|Vl F a c (decide ((57:Int)<(K7 b a))))) (gd (0<=a/\a<((b.size:Nat):Int))<|br (decide ((122:Int)<(K7 b a))) (gd (0<=a/\a<((b.size:Nat):Int))<|br (decide ((K7 b a)<48)) (Vl F a c true) (gd (0<=a/\a<((b.size:Nat):Int))<|Vl F a c (decide ((57:Int)<(K7 b a))))) (Vl F a c false))) (Q0f F)
def Kd(b:ByteArray)(a:Bool):=
 br a (some false) (Y3 (λg (z:Int)=>Tg F b g z) F (0:Int))
def Th(a:ByteArray):=
 br (decide (((a.size:Nat):Int)<(1:Int))) (Kd F a true) (br (decide ((12:Int)<((a.size:Nat):Int))) (Kd F a true) (gd (0<=(0:Int)/\(0:Int)<((a.size:Nat):Int))<|br (decide ((K7 a (0:Int))<97)) (Kd F a true) (gd (0<=(0:Int)/\(0:Int)<((a.size:Nat):Int))<|Kd F a (decide ((122:Int)<(K7 a (0:Int)))))))
def Df(F:Nat)(rc:Term->Option Int)(a:Int)(b:(Int×Int)->Option Int)(c:Int):=
 gd (Q8 (a+1))<|b (c,(a+1))
def bj(F:Nat)(rc:Term->Option Int)(a:Int):=
 some a
def SI(rc:Term->Option Int)(c:Term)(d:(Int×Int)->Option Int)(b a:Int):=
 br (decide (a<(c.kids_.length:Int))) (gd (0<=a/\a<(c.kids_.length:Int))<|gd (Q8 (gl c.kids_ a.toNat).op_)<|br (decide (b<=40)) ((rc (gl c.kids_ a.toNat)).bind λe=>gd (Q8 (b+e))<|Df F rc a d (b+e)) (Df F rc a d b)) (bj F rc b)
def SJ(rc:Term->Option Int)(a:Term):=
 Y3 (λg (z:Int×Int)=>SI F rc a g z.1 z.2) F ((1:Int),(0:Int))
def JY:Nat->Term->Option Int
 |0=>λ_=>none
 |F+1=>SJ F (JY F)
def zv(F:Nat)(rc:Term->Option Int)(a:Int):=
 gd (Q8 (a+1))<|some (a+1)
def SG(rc:Term->Option Int)(b:Term)(d:(Int×Int)->Option Int)(c a:Int):=
 br (decide (a<(b.kids_.length:Int))) (gd (0<=a/\a<(b.kids_.length:Int))<|gd (Q8 (gl b.kids_ a.toNat).op_)<|(rc (gl b.kids_ a.toNat)).bind λe=>gd (Q8 (a+1))<|d ((K8 c e),(a+1))) (zv F rc c)
def SH(rc:Term->Option Int)(a:Term):=
 Y3 (λg (z:Int×Int)=>SG F rc a g z.1 z.2) F ((0:Int),(0:Int))
def JX:Nat->Term->Option Int
 |0=>λ_=>none
 |F+1=>SH F (JX F)
def Gf(F:Nat)(a:Bool):=
 some a
def XP(a:Int):=
 br (a==1) (Gf F true) (br (a==2) (Gf F true) (br (a==4) (Gf F true) (br (a==8) (Gf F true) (Gf F (a==16)))))
def bf(F:Nat)(rc:Term->Option Bool):=
 some true
def XT(rc:Term->Option Bool)(b:Term)(c:(Int)->Option Bool)(a:Int):=
 br (decide (a<(b.kids_.length:Int))) (gd (0<=a/\a<(b.kids_.length:Int))<|gd (Q8 (gl b.kids_ a.toNat).op_)<|(rc (gl b.kids_ a.toNat)).bind λd=>br (!d) (some false) (gd (Q8 (a+1))<|c (a+1))) (bf F rc)
def XQ(rc:Term->Option Bool)(b:Term)(a:Bool):=
 br a (some false) (Y3 (λg (z:Int)=>XT F rc b g z) F (0:Int))
def Zw(rc:Term->Option Bool)(a:Term)(b:Int)(c d:Bool):=
 br (!d) (XQ F rc a true) (br (!c) (XQ F rc a true) (XQ F rc a ((a.kids_.length:Int) != b)))
def XR(rc:Term->Option Bool)(a:Term)(b:Bool):=
 br b (br (a.num_==0) (Zw F rc a (a.kids_.length:Int) (a.more_==0) (decide (0<(a.kids_.length:Int)))) (Zw F rc a (a.kids_.length:Int) (a.more_==0) false)) (br (a.op_==11) (Zw F rc a (1:Int) (a.more_==0) (a.num_==0)) (Zw F rc a (0:Int) (a.more_==0) false))
def SF(rc:Term->Option Bool)(a:Term):=
 br (a.op_==1) (Zw F rc a (0:Int) (a.more_==0) (a.num_==0)) (br (a.op_==2) (br (decide ((0:Int)<=a.num_)) (Zw F rc a (0:Int) (a.more_==0) (decide (a.num_<40))) (Zw F rc a (0:Int) (a.more_==0) false)) (br (a.op_==3) (br (decide ((0:Int)<=a.num_)) (Zw F rc a (0:Int) (a.more_==0) (decide (a.num_<=40))) (Zw F rc a (0:Int) (a.more_==0) false)) (br (a.op_==4) ((XP F a.num_).bind λb=>Zw F rc a (0:Int) (a.more_==0) b) (br (a.op_==5) (br (decide ((0:Int)<=a.num_)) (Zw F rc a (0:Int) (a.more_==0) (decide (a.num_<=15))) (Zw F rc a (0:Int) (a.more_==0) false)) (br (a.op_==6) (br (decide ((2:Int)<=a.num_)) (Zw F rc a (0:Int) (a.more_==0) (decide (a.num_<=10))) (Zw F rc a (0:Int) (a.more_==0) false)) (br (a.op_==7) (br (decide ((1:Int)<=a.num_)) ((XP F a.more_).bind λc=>Zw F rc a (0:Int) c (decide (a.num_<=10))) ((XP F a.more_).bind λd=>Zw F rc a (0:Int) d false)) (br (a.op_==8) (br (decide ((1:Int)<=a.num_)) (Zw F rc a (0:Int) (a.more_==0) (decide (a.num_<=10))) (Zw F rc a (0:Int) (a.more_==0) false)) (br (a.op_==9) (XR F rc a (a.op_==9)) (XR F rc a (a.op_==10))))))))))
def YY:Nat->Term->Option Bool
 |0=>λ_=>none
 |F+1=>SF F (YY F)
def SK(F:Nat)(a:Bool):=
 br a (some (16:Int)) (some (0:Int))
def SL(a:Term):=
 (JY F a).bind λb=>br (decide ((40:Int)<b)) (some (1:Int)) ((JX F a).bind λc=>br (decide ((8:Int)<c)) (SK F true) ((YY F a).bind λd=>SK F (!d)))
def JU(F:Nat)(d:List Bracket)(a:Int)(b:(Int×Int)->Option Bool)(c:Bool):=
 br c (some false) (gd (Q8 (a+1))<|b ((gl d a.toNat).up_,(a+1)))
def cV(F:Nat):=
 some true
def XN(b:List Bracket)(c:(Int×Int)->Option Bool)(d a:Int):=
 br (decide (a<(b.length:Int))) (gd (0<=a/\a<(b.length:Int))<|br (decide (((gl b a.toNat).up_)<=d)) (JU F b a c true) (br (decide ((268435456:Int)<((gl b a.toNat).up_))) (JU F b a c true) (br (decide (((gl b a.toNat).rate_)<0)) (JU F b a c true) (JU F b a c (decide ((1048576:Int)<((gl b a.toNat).rate_))))))) (cV F)
def De(b:List Bracket)(a:Bool):=
 br a (some false) (Y3 (λg (z:Int×Int)=>XN F b g z.1 z.2) F ((0:Int),(0:Int)))
def Sy(a:List Bracket):=
 br (decide ((a.length:Int)<1)) (De F a true) (De F a (decide (6<(a.length:Int))))
def Ga(F:Nat)(a:Bool):=
 br a (some (3:Int)) (some (0:Int))
def Gb(a:Scheme)(c:Bool):=
 br c (some (2:Int)) ((Th F a.n_).bind λd=>br (!d) (some (5:Int)) ((SL F a.cond_).bind λb=>br (b != (0:Int)) (some b) ((Sy F a.brackets_).bind λe=>br (!e) (Ga F true) (br (decide (a.excludes_<0)) (Ga F true) (br (decide ((65536:Int)<=a.excludes_)) (Ga F true) (gd (0<=a.N_)<|Ga F ((QO .i64 (a.excludes_.fdiv (2 ^ (min (a.N_).toNat (IntKind.bits .i64)))) (1:Int))==1)))))))
def Sz(a:Scheme):=
 br (decide (a.N_<0)) (Gb F a true) (br (decide ((15:Int)<a.N_)) (Gb F a true) (br (decide (a.least_<0)) (Gb F a true) (Gb F a (decide ((268435456:Int)<a.least_)))))
def cY(F:Nat):=
 some (-1:Int)
def Gc(b:List Scheme)(d:Int)(c:(Int)->Option Int)(a:Int):=
 br (decide (a<(b.length:Int))) (gd (0<=a/\a<(b.length:Int))<|br (((gl b a.toNat).N_)==d) (some a) (gd (Q8 (a+1))<|c (a+1))) (cY F)
def SA(a:List Scheme)(b:Int):=
 Y3 (λg (z:Int)=>Gc F a b g z) F (0:Int)
def XO(F:Nat)(c a:Int)(b:(Int)->Option (Int×Int))(d:Bool):=
 br d (some (c,(6:Int))) (gd (Q8 (a+1))<|b (a+1))
def ba(F:Nat)(a:Int)(b:(Int)->Option (Int×Int)):=
 gd (Q8 (a+1))<|b (a+1)
def JW(c:List Scheme)(a:Int)(e d:(Int)->Option (Int×Int))(b:Int):=
 br (decide (b<((List.length (c.take a.toNat):Nat):Int))) (gd (0<=b/\b<((List.length (c.take a.toNat):Nat):Int))<|br (Zv ((gl (c.take a.toNat) b.toNat).n_) ((gl c a.toNat).n_)) (XO F a b d true) (gd (Q8 (a-1))<|br (b==(a-1)) (XO F a b d (decide (((gl c a.toNat).N_)<=((gl (c.take a.toNat) b.toNat).N_)))) (XO F a b d false))) (ba F a e)
def SB(F:Nat)(a:Int)(b:(Int)->Option (Int×Int)):=
 gd (Q8 (a+1))<|b (a+1)
def SC(b c:Int)(a:(Int)->Option (Int×Int))(d:Bool):=
 br d (some (b,(17:Int))) (SB F c a)
def cZ(F:Nat)(a:Int)(b:(Int)->Option (Int×Int)):=
 gd (Q8 (a+1))<|b (a+1)
def JV(c:List Scheme)(b:Int)(i e:(Int)->Option (Int×Int))(a:Int):=
 br (decide (a<=15)) (gd (0<=a)<|br ((QO .i64 (((gl c b.toNat).excludes_).fdiv (2 ^ (min (a).toNat (IntKind.bits .i64)))) (1:Int))==0) (SB F a e) ((SA F c a).bind λd=>br (decide (d<0)) (SC F b a e true) (gd (0<=d/\d<(c.length:Int))<|gd (0<=((gl c b.toNat).N_))<|SC F b a e ((QO .i64 (((gl c d.toNat).excludes_).fdiv (2 ^ (min (((gl c b.toNat).N_)).toNat (IntKind.bits .i64)))) (1:Int))==0)))) (cZ F b i)
def bc(F:Nat):=
 some ((-1:Int),(0:Int))
def Gd(b:List Scheme)(c:(Int)->Option (Int×Int))(a:Int):=
 br (decide (a<(b.length:Int))) (gd (0<=a/\a<(b.length:Int))<|Y3 (λg (z:Int)=>JV F b a c g z) F (0:Int)) (bc F)
def zo(a:List Scheme):=
 Y3 (λg (z:Int)=>Gd F a g z) F (0:Int)
def Ge(b:List Scheme)(d:(Int)->Option (Int×Int))(a:Int):=
 br (decide (a<(b.length:Int))) (gd (0<=a/\a<(b.length:Int))<|(Sz F (gl b a.toNat)).bind λc=>br (c != (0:Int)) (some (a,c)) (gd (0<=a/\a<=(b.length:Int))<|Y3 (λg (z:Int)=>JW F b a d g z) F (0:Int))) (zo F b)
def SE(a:List Scheme):=
 br (decide (16<(a.length:Int))) (some ((0:Int),(1:Int))) (Y3 (λg (z:Int)=>Ge F a g z) F (0:Int))
def yE(F:Nat)(a:Int)(b:(Int×Int×(List Int)×Int×(List Scheme))->Option (Tape×(List Scheme)))(c:Int)(d:List Int)(e:Int)(i:List Scheme):=
 gd (Q8 (a-1))<|b (c,(a-1),d,e,i)
def yF(a m:Int)(c:List Scheme)(e:ByteArray)(i:Tape×Term)(j:Tape×Int)(k:Tape×Bool)(l:(Int×Int×(List Int)×Int×(List Scheme))->Option (Tape×(List Scheme)))(n:List Int)(o:Int)(d:List Bracket):=
 gd (c.length+(List.length ([(⟨a,((ByteArray.mk #[115])++e),i.2,d,j.2,0,k.2⟩:Scheme)]:List Scheme))<=Z9)<|(YF F (⟨n,o⟩:Tape) (1:Int) (2:Int)).bind λb=>gd (Q8 (a+b.2))<|yE F m l (a+b.2) b.1.l_ b.1.at_ (c++([(⟨a,((ByteArray.mk #[115])++e),i.2,d,j.2,0,k.2⟩:Scheme)]:List Scheme))
def yI(m n:Int)(o:List Scheme)(p:ByteArray)(q:Tape×Term)(s:Tape×Int)(t:Tape×Bool)(k:(Int×Int×(List Int)×Int×(List Scheme))->Option (Tape×(List Scheme)))(l:(Int×Int×(List Int)×Int×(List Bracket))->Option (Tape×(List Scheme)))(b d:Int)(i:List Int)(j:Int)(e:List Bracket):=
 br (decide ((0:Int)<d)) ((YF F (⟨i,j⟩:Tape) (1:Int) (40:Int)).bind λa=>gd (Q8 (b+a.2))<|(Qt F a.1 (3000:Int)).bind λc=>gd (e.length+(List.length ([(⟨(b+a.2),c.2⟩:Bracket)]:List Bracket))<=Z9)<|gd (Q8 (d-1))<|l ((b+a.2),(d-1),c.1.l_,c.1.at_,(e++([(⟨(b+a.2),c.2⟩:Bracket)]:List Bracket)))) (yF F m n o p q s t k i j e)
def DY(F:Nat)(a:Int)(b:(Int×(List Int)×Int×(List Scheme))->Option (Tape×(List Scheme)))(c:List Int)(d:Int)(e:List Scheme):=
 gd (Q8 (a+1))<|b ((a+1),c,d,e)
def yD(F:Nat)(a:Int)(b:(Int×(List Int)×Int×(List Scheme))->Option (Tape×(List Scheme)))(c:List Int)(d:Int)(e:List Scheme):=
 gd (Q8 (a+1))<|b ((a+1),c,d,e)
def yG(b:Int)(k e:(Int×(List Int)×Int×(List Scheme))->Option (Tape×(List Scheme)))(c:Int)(i:List Int)(j:Int)(a:List Scheme):=
 br (decide (c<((((b).toNat):Nat):Int))) ((Gz F (⟨i,j⟩:Tape) (3:Int)).bind λd=>br d.2 (gd (0<=b/\b<(a.length:Int))<|gd (0<=c/\c<(a.length:Int))<|gd (Q8 ((1:Int)*2 ^ (min (((gl a c.toNat).N_)).toNat (IntKind.bits .i64)))/\0<=((gl a c.toNat).N_))<|gd (0<=b/\b<(a.length:Int))<|gd (0<=c/\c<((List.length (List.set a b.toNat (⟨(gl a b.toNat).N_,(gl a b.toNat).n_,(gl a b.toNat).cond_,(gl a b.toNat).brackets_,(gl a b.toNat).least_,(G5 .i64 ((gl a b.toNat).excludes_) ((1:Int)*2 ^ (min (((gl a c.toNat).N_)).toNat (IntKind.bits .i64)))),(gl a b.toNat).needs_⟩:Scheme)):Nat):Int))<|gd (0<=b/\b<((List.length (List.set a b.toNat (⟨(gl a b.toNat).N_,(gl a b.toNat).n_,(gl a b.toNat).cond_,(gl a b.toNat).brackets_,(gl a b.toNat).least_,(G5 .i64 ((gl a b.toNat).excludes_) ((1:Int)*2 ^ (min (((gl a c.toNat).N_)).toNat (IntKind.bits .i64)))),(gl a b.toNat).needs_⟩:Scheme)):Nat):Int))<|gd (Q8 ((1:Int)*2 ^ (min (((gl (List.set a b.toNat (⟨(gl a b.toNat).N_,(gl a b.toNat).n_,(gl a b.toNat).cond_,(gl a b.toNat).brackets_,(gl a b.toNat).least_,(G5 .i64 ((gl a b.toNat).excludes_) ((1:Int)*2 ^ (min (((gl a c.toNat).N_)).toNat (IntKind.bits .i64)))),(gl a b.toNat).needs_⟩:Scheme)) b.toNat).N_)).toNat (IntKind.bits .i64)))/\0<=((gl (List.set a b.toNat (⟨(gl a b.toNat).N_,(gl a b.toNat).n_,(gl a b.toNat).cond_,(gl a b.toNat).brackets_,(gl a b.toNat).least_,(G5 .i64 ((gl a b.toNat).excludes_) ((1:Int)*2 ^ (min (((gl a c.toNat).N_)).toNat (IntKind.bits .i64)))),(gl a b.toNat).needs_⟩:Scheme)) b.toNat).N_))<|gd (0<=c/\c<((List.length (List.set a b.toNat (⟨(gl a b.toNat).N_,(gl a b.toNat).n_,(gl a b.toNat).cond_,(gl a b.toNat).brackets_,(gl a b.toNat).least_,(G5 .i64 ((gl a b.toNat).excludes_) ((1:Int)*2 ^ (min (((gl a c.toNat).N_)).toNat (IntKind.bits .i64)))),(gl a b.toNat).needs_⟩:Scheme)):Nat):Int))<|DY F c e d.1.l_ d.1.at_ (List.set (List.set a b.toNat (⟨(gl a b.toNat).N_,(gl a b.toNat).n_,(gl a b.toNat).cond_,(gl a b.toNat).brackets_,(gl a b.toNat).least_,(G5 .i64 ((gl a b.toNat).excludes_) ((1:Int)*2 ^ (min (((gl a c.toNat).N_)).toNat (IntKind.bits .i64)))),(gl a b.toNat).needs_⟩:Scheme)) c.toNat (⟨(gl (List.set a b.toNat (⟨(gl a b.toNat).N_,(gl a b.toNat).n_,(gl a b.toNat).cond_,(gl a b.toNat).brackets_,(gl a b.toNat).least_,(G5 .i64 ((gl a b.toNat).excludes_) ((1:Int)*2 ^ (min (((gl a c.toNat).N_)).toNat (IntKind.bits .i64)))),(gl a b.toNat).needs_⟩:Scheme)) c.toNat).N_,(gl (List.set a b.toNat (⟨(gl a b.toNat).N_,(gl a b.toNat).n_,(gl a b.toNat).cond_,(gl a b.toNat).brackets_,(gl a b.toNat).least_,(G5 .i64 ((gl a b.toNat).excludes_) ((1:Int)*2 ^ (min (((gl a c.toNat).N_)).toNat (IntKind.bits .i64)))),(gl a b.toNat).needs_⟩:Scheme)) c.toNat).n_,(gl (List.set a b.toNat (⟨(gl a b.toNat).N_,(gl a b.toNat).n_,(gl a b.toNat).cond_,(gl a b.toNat).brackets_,(gl a b.toNat).least_,(G5 .i64 ((gl a b.toNat).excludes_) ((1:Int)*2 ^ (min (((gl a c.toNat).N_)).toNat (IntKind.bits .i64)))),(gl a b.toNat).needs_⟩:Scheme)) c.toNat).cond_,(gl (List.set a b.toNat (⟨(gl a b.toNat).N_,(gl a b.toNat).n_,(gl a b.toNat).cond_,(gl a b.toNat).brackets_,(gl a b.toNat).least_,(G5 .i64 ((gl a b.toNat).excludes_) ((1:Int)*2 ^ (min (((gl a c.toNat).N_)).toNat (IntKind.bits .i64)))),(gl a b.toNat).needs_⟩:Scheme)) c.toNat).brackets_,(gl (List.set a b.toNat (⟨(gl a b.toNat).N_,(gl a b.toNat).n_,(gl a b.toNat).cond_,(gl a b.toNat).brackets_,(gl a b.toNat).least_,(G5 .i64 ((gl a b.toNat).excludes_) ((1:Int)*2 ^ (min (((gl a c.toNat).N_)).toNat (IntKind.bits .i64)))),(gl a b.toNat).needs_⟩:Scheme)) c.toNat).least_,(G5 .i64 ((gl (List.set a b.toNat (⟨(gl a b.toNat).N_,(gl a b.toNat).n_,(gl a b.toNat).cond_,(gl a b.toNat).brackets_,(gl a b.toNat).least_,(G5 .i64 ((gl a b.toNat).excludes_) ((1:Int)*2 ^ (min (((gl a c.toNat).N_)).toNat (IntKind.bits .i64)))),(gl a b.toNat).needs_⟩:Scheme)) c.toNat).excludes_) ((1:Int)*2 ^ (min (((gl (List.set a b.toNat (⟨(gl a b.toNat).N_,(gl a b.toNat).n_,(gl a b.toNat).cond_,(gl a b.toNat).brackets_,(gl a b.toNat).least_,(G5 .i64 ((gl a b.toNat).excludes_) ((1:Int)*2 ^ (min (((gl a c.toNat).N_)).toNat (IntKind.bits .i64)))),(gl a b.toNat).needs_⟩:Scheme)) b.toNat).N_)).toNat (IntKind.bits .i64)))),(gl (List.set a b.toNat (⟨(gl a b.toNat).N_,(gl a b.toNat).n_,(gl a b.toNat).cond_,(gl a b.toNat).brackets_,(gl a b.toNat).least_,(G5 .i64 ((gl a b.toNat).excludes_) ((1:Int)*2 ^ (min (((gl a c.toNat).N_)).toNat (IntKind.bits .i64)))),(gl a b.toNat).needs_⟩:Scheme)) c.toNat).needs_⟩:Scheme))) (DY F c e d.1.l_ d.1.at_ a)) (yD F b k i j a)
def TX(a:List Scheme)(b:List Int)(c:Int):=
 (SE F a).bind λd=>br (d.2 != (0:Int)) (some ((⟨b,c⟩:Tape),([]:List Scheme))) (some ((⟨b,c⟩:Tape),a))
def yH(i:List Scheme)(e:(Int×(List Int)×Int×(List Scheme))->Option (Tape×(List Scheme)))(a:Int)(c:List Int)(d:Int)(b:List Scheme):=
 br (decide (a<(i.length:Int))) (gd (0<=(0:Int)/\(0:Int)<=a/\((0:Nat):Int)+a<=(b.length:Int))<|Y3 (λg (z:Int×(List Int)×Int×(List Scheme))=>yG F a e g z.1 z.2.1 z.2.2.1 z.2.2.2) F ((0:Int),c,d,b)) (TX F b c d)
def TW(b:List Int)(c:Int)(a:List Scheme):=
 Y3 (λg (z:Int×(List Int)×Int×(List Scheme))=>yH F a g z.1 z.2.1 z.2.2.1 z.2.2.2) F ((0:Int),b,c,a)
def Pm(b n:Int)(c:List Int)(d:Int)(e:List Scheme)(m:(Int×Int×(List Int)×Int×(List Scheme))->Option (Tape×(List Scheme)))(o:Bool):=
 br o ((XX F b).bind λi=>gd (ByteArray.size (ByteArray.mk #[115])+ByteArray.size i<=Z9)<|(Vr F (⟨c,d⟩:Tape) (2:Int)).bind λj=>(Qt F j.1 (4:Int)).bind λk=>(Gz F k.1 (2:Int)).bind λl=>(YF F l.1 (1:Int) (3:Int)).bind λa=>Y3 (λg (z:Int×Int×(List Int)×Int×(List Bracket))=>yI F b n e i j k l m g z.1 z.2.1 z.2.2.1 z.2.2.2.1 z.2.2.2.2) F ((0:Int),a.2,a.1.l_,a.1.at_,([]:List Bracket))) (TW F c d e)
def TY(c:(Int×Int×(List Int)×Int×(List Scheme))->Option (Tape×(List Scheme)))(a b:Int)(d:List Int)(e:Int)(i:List Scheme):=
 br (decide ((0:Int)<b)) (Pm F a b d e i c (decide (a<=3))) (Pm F a b d e i c false)
def TZ(d:Tape)(b:Int):=
 (Qt F d (2:Int)).bind λc=>gd (Q8 (b+1))<|(Qt F c.1 (b+1)).bind λa=>Y3 (λg (z:Int×Int×(List Int)×Int×(List Scheme))=>TY F g z.1 z.2.1 z.2.2.1 z.2.2.2.1 z.2.2.2.2) F (c.2,a.2,a.1.l_,a.1.at_,([]:List Scheme))
def bR(F:Nat):=
 some true
def bV(b c:List Rect)(d:(Int)->Option Bool)(a:Int):=
 br (decide (a<(b.length:Int))) (gd (0<=a/\a<(b.length:Int))<|gd (0<=a/\a<(c.length:Int))<|br (!((((gl b a.toNat).L_)==((gl c a.toNat).L_))&&((((gl b a.toNat).w_)==((gl c a.toNat).w_))&&((((gl b a.toNat).R_)==((gl c a.toNat).R_))&&((((gl b a.toNat).H_)==((gl c a.toNat).H_))&&true))))) (some false) (gd (Q8 (a+1))<|d (a+1))) (bR F)
def SY(a b:List Rect):=
 br ((a.length:Int) != (b.length:Int)) (some false) (Y3 (λg (z:Int)=>bV F a b g z) F (0:Int))
def zE(a:Re_):=
 (Wo F a.t_ ([]) (1:Int)).bind λb=>(SY F b a.t_).bind λc=>some c
def bQ(b:Re_)(c:(Int)->Option Bool)(a:Int):=
 br (decide (a<(b.t_.length:Int))) (gd (0<=a/\a<(b.t_.length:Int))<|(XW F (gl b.t_ a.toNat)).bind λd=>br (!d) (some false) (gd (Q8 (a+1))<|c (a+1))) (zE F b)
def Kb(a:Re_):=
 br (decide (120<(a.t_.length:Int))) (some false) (Y3 (λg (z:Int)=>bQ F a g z) F (0:Int))
def Dz(F:Nat)(a:Bool):=
 some a
def Ta(a b:Re_):=
 (Kb F a).bind λc=>br c ((Kb F b).bind λd=>br d ((Wo F a.t_ b.t_ (2:Int)).bind λe=>Dz F (decide (0<(e.length:Int)))) (Dz F false)) (Dz F false)
def Gg(F:Nat)(a:Int)(b:(Int)->Option Int)(c:Bool):=
 br c (some (3:Int)) (gd (Q8 (a+1))<|b (a+1))
def Di(b:List Rg_)(a:Int)(c:(Int)->Option Int)(d:Bool):=
 br d (some (7:Int)) (br (decide ((0:Int)<a)) (gd (Q8 (a-1))<|gd (0<=(a-1)/\(a-1)<(b.length:Int))<|br (decide (((gl b a.toNat).year_)<((gl b (a-1).toNat).year_))) (Gg F a c true) (gd (Q8 (a-1))<|gd (0<=(a-1)/\(a-1)<(b.length:Int))<|br (((gl b a.toNat).year_)==((gl b (a-1).toNat).year_)) (gd (Q8 (a-1))<|gd (0<=(a-1)/\(a-1)<(b.length:Int))<|Gg F a c (decide (((gl b a.toNat).c_)<=((gl b (a-1).toNat).c_)))) (Gg F a c false))) (Gg F a c false))
def Dj(b:List Rg_)(a:Int)(c:(Int)->Option Int)(d:Bool):=
 br d (some (13:Int)) ((Kb F ((gl b a.toNat).g_)).bind λe=>br (!e) (Di F b a c true) (Di F b a c (((List.length ((gl b a.toNat).g_.t_):Nat):Int)==(0:Int))))
def Dk(b:List Rg_)(a:Int)(c:(Int)->Option Int)(d:Bool):=
 br d (some (18:Int)) (br (decide (((gl b a.toNat).c_)<0)) (Dj F b a c true) (Dj F b a c (decide ((40:Int)<=((gl b a.toNat).c_)))))
def Dg(F:Nat)(a:Int)(b:(Int)->Option Int)(c:Bool):=
 br c (some (11:Int)) (gd (Q8 (a+1))<|b (a+1))
def zw(F:Nat)(a:Int)(b:(Int)->Option Int):=
 gd (Q8 (a+1))<|b (a+1)
def bm(c:List Rg_)(a:Int)(e d:(Int)->Option Int)(b:Int):=
 br (decide (b<((List.length (c.take a.toNat):Nat):Int))) (gd (0<=b/\b<((List.length (c.take a.toNat):Nat):Int))<|br (((gl (c.take a.toNat) b.toNat).year_)==((gl c a.toNat).year_)) ((Ta F ((gl (c.take a.toNat) b.toNat).g_) ((gl c a.toNat).g_)).bind λi=>Dg F b d i) (Dg F b d false)) (zw F a e)
def bk(F:Nat):=
 some (0:Int)
def bn(b:List Rg_)(c:(Int)->Option Int)(a:Int):=
 br (decide (a<(b.length:Int))) (gd (0<=a/\a<(b.length:Int))<|gd (0<=a/\a<=(b.length:Int))<|Y3 (λg (z:Int)=>bm F b a c g z) F (0:Int)) (bk F)
def Dh(a:List Rg_):=
 Y3 (λg (z:Int)=>bn F a g z) F (0:Int)
def bp(b:List Rg_)(c:(Int)->Option Int)(a:Int):=
 br (decide (a<(b.length:Int))) (gd (0<=a/\a<(b.length:Int))<|br (decide (((gl b a.toNat).year_)<0)) (Dk F b a c true) (Dk F b a c (decide ((100:Int)<((gl b a.toNat).year_))))) (Dh F b)
def SM(a:List Rg_):=
 br (decide (200<(a.length:Int))) (some (1:Int)) (Y3 (λg (z:Int)=>bp F a g z) F (0:Int))
def XU(F:Nat)(a:Int)(b:((List Rect)×Int×(List Rg_))->Option ((List Rg_)×Int))(c:List Rect)(d:List Rg_):=
 gd (Q8 (a+1))<|b (c,(a+1),d)
def Dm(b:List Rg_)(i:List Rect)(a:Int)(c:List Rg_)(e:((List Rect)×Int×(List Rg_))->Option ((List Rg_)×Int))(d:List Rect):=
 br (decide (0<(d.length:Int))) (gd (c.length+(List.length ([(⟨(gl b a.toNat).year_,(gl b a.toNat).c_,(⟨d⟩:Re_)⟩:Rg_)]:List Rg_))<=Z9)<|XU F a e i (c++([(⟨(gl b a.toNat).year_,(gl b a.toNat).c_,(⟨d⟩:Re_)⟩:Rg_)]:List Rg_))) (XU F a e i c)
def Dn(b:List Rg_)(j:Int)(k:Re_)(d:List Rect)(a:Int)(e:List Rg_)(c:((List Rect)×Int×(List Rg_))->Option ((List Rg_)×Int))(i:Bool):=
 br i ((Wo F d ((gl b a.toNat).g_.t_) (1:Int)).bind λl=>XU F a c l e) (br (((gl b a.toNat).year_)==j) ((Wo F ((gl b a.toNat).g_.t_) k.t_ (3:Int)).bind λm=>Dm F b d a e c m) (Dm F b d a e c ((gl b a.toNat).g_.t_)))
def bq(F:Nat)(a:List Rg_):=
 some (a,(0:Int))
def bz(b:List Rg_)(c:(Int)->Option ((List Rg_)×Int))(a:Int):=
 br (decide (a<(b.length:Int))) (gd (0<=a/\a<(b.length:Int))<|br (decide ((120:Int)<((List.length ((gl b a.toNat).g_.t_):Nat):Int))) (some ([],(1:Int))) (gd (Q8 (a+1))<|c (a+1))) (bq F b)
def Dp(a:List Rg_):=
 br (decide (200<(a.length:Int))) (some ([],(1:Int))) (Y3 (λg (z:Int)=>bz F a g z) F (0:Int))
def SN(d e:Int)(c:List Rect)(b:List Rg_)(a:Int):=
 gd (0<=(0:Int)/\(0:Int)<=a/\((0:Nat):Int)+a<=(b.length:Int))<|gd (0+((a).toNat)<=List.length b)<|gd ((0)+(((a).toNat))<=Z9)<|gd (((0)+(((a).toNat)))+(List.length ([(⟨d,e,(⟨c⟩:Re_)⟩:Rg_)]:List Rg_))<=Z9)<|gd (0<=a/\a<=((b.length:Nat):Int)/\((0:Nat):Int)+((b.length:Nat):Int)<=(b.length:Int))<|gd ((0+(a).toNat)+(b.length-(a).toNat)<=List.length b)<|gd ((((0)+(((a).toNat)))+(List.length ([(⟨d,e,(⟨c⟩:Re_)⟩:Rg_)]:List Rg_)))+((b.length-(a).toNat))<=Z9)<|Dp F (((([]:List Rg_)++((b.drop 0).take ((a).toNat)))++([(⟨d,e,(⟨c⟩:Re_)⟩:Rg_)]:List Rg_))++((b.drop (0+(a).toNat)).take (b.length-(a).toNat)))
def Gh(i j:Int)(c:List Rect)(d:List Rg_)(a:Int)(b:(Int)->Option ((List Rg_)×Int))(e:Bool):=
 br e (gd (Q8 (a+1))<|b (a+1)) (SN F i j c d a)
def bw(c d:Int)(i:List Rect)(b:List Rg_)(e:(Int)->Option ((List Rg_)×Int))(a:Int):=
 br (decide (a<(b.length:Int))) (gd (0<=a/\a<(b.length:Int))<|br (decide (((gl b a.toNat).year_)<c)) (Gh F c d i b a e true) (gd (0<=a/\a<(b.length:Int))<|br (((gl b a.toNat).year_)==c) (gd (0<=a/\a<(b.length:Int))<|Gh F c d i b a e (decide (((gl b a.toNat).c_)<d))) (Gh F c d i b a e false))) (Gh F c d i b a e false)
def Dl(c d:Int)(a:List Rect)(b:List Rg_):=
 br (decide (0<(a.length:Int))) (Y3 (λg (z:Int)=>bw F c d a b g z) F (0:Int)) (Dp F b)
def zx(b:List Rg_)(c j:Int)(k:Re_)(i:((List Rect)×Int×(List Rg_))->Option ((List Rg_)×Int))(d:List Rect)(a:Int)(e:List Rg_):=
 br (decide (a<(b.length:Int))) (gd (0<=a/\a<(b.length:Int))<|br (((gl b a.toNat).year_)==c) (Dn F b c k d a e i (((gl b a.toNat).c_)==j)) (Dn F b c k d a e i false)) (Dl F c j d e)
def Dq(c:List Rg_)(d e:Int)(a:Re_)(b:Bool):=
 br b (some ([],(13:Int))) ((Kb F a).bind λi=>br (!i) (some ([],(7:Int))) (Y3 (λg (z:(List Rect)×Int×(List Rg_))=>zx F c d e a g z.1 z.2.1 z.2.2) F (a.t_,(0:Int),([]:List Rg_))))
def Dr(b:List Rg_)(c a:Int)(d:Re_)(e:Bool):=
 br e (some ([],(18:Int))) (br (decide (a<0)) (Dq F b c a d true) (Dq F b c a d (decide ((40:Int)<=a))))
def SO(b:List Rg_)(a c:Int)(d:Re_):=
 (SM F b).bind λe=>br (e != (0:Int)) (some ([],e)) (br (decide (a<0)) (Dr F b a c d true) (Dr F b a c d (decide ((100:Int)<a))))
def Q1h(F:Nat)(a:List Rg_)(b:List Int)(c:Int):=
 some ((⟨b,c⟩:Tape),a)
def Ca(m:List Crop)(i:Int)(l:((List Rg_)×Int×(List Int)×Int)->Option (Tape×(List Rg_)))(c:List Rg_)(a:Int)(d:List Int)(e:Int):=
 br (decide ((0:Int)<a)) (gd (Q8 (i+1))<|(Qt F (⟨d,e⟩:Tape) (i+1)).bind λj=>(Qt F j.1 (m.length:Int)).bind λk=>(Gx F k.1 (9:Int) (2:Int)).bind λb=>(SO F c j.2 k.2 b.2).bind λn=>gd (Q8 (a-1))<|l (n.1,(a-1),b.1.l_,b.1.at_)) (Q1h F c d e)
def Cb(c:Tape)(d:List Crop)(e b:Int):=
 gd (Q8 (b+1))<|(Qt F c (b+1)).bind λa=>Y3 (λg (z:(List Rg_)×Int×(List Int)×Int)=>Ca F d e g z.1 z.2.1 z.2.2.1 z.2.2.2) F (([]:List Rg_),a.2,a.1.l_,a.1.at_)
def Cc(e:Tape)(i:Int):=
 (Qt F e (20:Int)).bind λa=>(Qt F a.1 (16:Int)).bind λc=>(YF F c.1 (1:Int) (30:Int)).bind λb=>gd (Q8 (a.2+b.2))<|(GA F b.1 (9:Int) (2:Int)).bind λd=>some (d.1,(⟨i,c.2,a.2,(a.2+b.2),d.2⟩:A2_))
def XV(F:Nat)(a:Bool):=
 br a (some (7:Int)) (some (0:Int))
def JZ(a:A2_)(b:Bool):=
 br b (some (9:Int)) ((Kb F a.g_).bind λc=>br (!c) (XV F true) (XV F ((a.g_.t_.length:Int)==0)))
def Ka(a:A2_)(b:Bool):=
 br b (some (14:Int)) (br (decide (a.F_<0)) (JZ F a true) (br (decide (a.u_<=a.F_)) (JZ F a true) (JZ F a (decide ((36865:Int)<a.u_)))))
def SQ(a:A2_)(b:Bool):=
 br b (some (2:Int)) (br (decide (a.k_<0)) (Ka F a true) (Ka F a (decide ((15:Int)<a.k_))))
def Ds(a:A2_):=
 br (decide (a.N_<1)) (SQ F a true) (SQ F a (decide ((1073741824:Int)<a.N_)))
def Dt(F:Nat)(a:Int)(b:(Int)->Option Int)(c:Bool):=
 br c (some (3:Int)) (gd (Q8 (a+1))<|b (a+1))
def bD(F:Nat):=
 some (0:Int)
def bE(b:List A2_)(c:(Int)->Option Int)(a:Int):=
 br (decide (a<(b.length:Int))) (gd (0<=a/\a<(b.length:Int))<|(Ds F (gl b a.toNat)).bind λd=>br (d != (0:Int)) (some d) (br (decide ((0:Int)<a)) (gd (Q8 (a-1))<|gd (0<=(a-1)/\(a-1)<(b.length:Int))<|Dt F a c (decide (((gl b a.toNat).N_)<=((gl b (a-1).toNat).N_)))) (Dt F a c false))) (bD F)
def SS(a:List A2_):=
 br (decide (60<(a.length:Int))) (some (1:Int)) (Y3 (λg (z:Int)=>bE F a g z) F (0:Int))
def Du(F:Nat)(b:List A2_)(c:A2_)(a:Int)(d:Bool):=
 br d (some ([],(6:Int))) (br ((b.length:Int)==60) (some ([],(1:Int))) (gd (0<=a/\a<=(b.length:Int))<|gd ((0)+(List.length (b.take a.toNat))<=Z9)<|gd (((0)+(List.length (b.take a.toNat)))+(List.length ([c]:List A2_))<=Z9)<|gd (0<=a/\a<=(b.length:Int))<|gd ((((0)+(List.length (b.take a.toNat)))+(List.length ([c]:List A2_)))+(List.length (b.drop a.toNat))<=Z9)<|some ((((([]:List A2_)++(b.take a.toNat))++([c]:List A2_))++(b.drop a.toNat)),(0:Int))))
def SU(b:List A2_)(c:A2_)(a:Int):=
 br (decide (a<(b.length:Int))) (gd (0<=a/\a<(b.length:Int))<|Du F b c a (((gl b a.toNat).N_)==c.N_)) (Du F b c a false)
def Dv(d:List A2_)(e:A2_)(a:Int)(b:(Int)->Option ((List A2_)×Int))(c:Bool):=
 br c (gd (Q8 (a+1))<|b (a+1)) (SU F d e a)
def bG(b:List A2_)(c:A2_)(d:(Int)->Option ((List A2_)×Int))(a:Int):=
 br (decide (a<(b.length:Int))) (gd (0<=a/\a<(b.length:Int))<|Dv F b c a d (decide (((gl b a.toNat).N_)<c.N_))) (Dv F b c a d false)
def SV(a:List A2_)(b:A2_):=
 (SS F a).bind λc=>br (c != (0:Int)) (some ([],c)) ((Ds F b).bind λd=>br (d != (0:Int)) (some ([],d)) (Y3 (λg (z:Int)=>bG F a b g z) F (0:Int)))
def DX(F:Nat)(a:Int)(b:((List A2_)×Int×(List Int)×Int)->Option (Tape×(List A2_)))(c:List A2_)(d:List Int)(e:Int):=
 gd (Q8 (a-1))<|b (c,(a-1),d,e)
def Q1g(F:Nat)(a:List A2_)(b:List Int)(c:Int):=
 some ((⟨b,c⟩:Tape),a)
def Pl(d:((List A2_)×Int×(List Int)×Int)->Option (Tape×(List A2_)))(b:List A2_)(c:Int)(e:List Int)(i:Int):=
 br (decide ((0:Int)<c)) ((YF F (⟨e,i⟩:Tape) (1:Int) (12:Int)).bind λj=>(Cc F j.1 j.2).bind λa=>(SV F b a.2).bind λk=>br (k.2==(0:Int)) (DX F c d k.1 a.1.l_ a.1.at_) (DX F c d b a.1.l_ a.1.at_)) (Q1g F b e i)
def TU(c:Tape)(b:Int):=
 gd (Q8 (b+1))<|(Qt F c (b+1)).bind λa=>Y3 (λg (z:(List A2_)×Int×(List Int)×Int)=>Pl F g z.1 z.2.1 z.2.2.1 z.2.2.2) F (([]:List A2_),a.2,a.1.l_,a.1.at_)
def TJ(j:Tape)(a:List Crop):=
 (Qt F j (5:Int)).bind λb=>(Cb F b.1 a (4:Int) (5:Int)).bind λc=>(TU F c.1 (3:Int)).bind λd=>(Qt F d.1 (25:Int)).bind λe=>(Qt F e.1 (5:Int)).bind λi=>some (i.1,(⟨b.2,a,c.2,d.2,e.2,i.2⟩:World))
def DT(F:Nat)(a:Int)(b:(Int×(List Int)×Int×(List Yield))->Option (Tape×(List Yield)))(c:List Int)(d:Int)(e:List Yield):=
 gd (Q8 (a-1))<|b ((a-1),c,d,e)
def yv(F:Nat)(a:List Yield)(b:List Int)(c:Int):=
 some ((⟨b,c⟩:Tape),a)
def yw(c:List Version)(j:(Int×(List Int)×Int×(List Yield))->Option (Tape×(List Yield)))(e:Int)(k:List Int)(l:Int)(b:List Yield):=
 br (decide ((0:Int)<e)) ((Qt F (⟨k,l⟩:Tape) (c.length:Int)).bind λa=>gd (0<=a.2/\a.2<(c.length:Int))<|br (decide ((0:Int)<((List.length ((gl c a.2.toNat).lines_):Nat):Int))) ((Qt F a.1 ((List.length ((gl c a.2.toNat).lines_):Nat):Int)).bind λi=>(Gx F i.1 (9:Int) (2:Int)).bind λd=>gd (b.length+(List.length ([(⟨(⟨a.2,i.2⟩:Place),d.2⟩:Yield)]:List Yield))<=Z9)<|DT F e j d.1.l_ d.1.at_ (b++([(⟨(⟨a.2,i.2⟩:Place),d.2⟩:Yield)]:List Yield))) (DT F e j a.1.l_ a.1.at_ b)) (yv F b k l)
def DU(b:Tape)(c:List Version):=
 (Qt F b (4:Int)).bind λa=>Y3 (λg (z:Int×(List Int)×Int×(List Yield))=>yw F c g z.1 z.2.1 z.2.2.1 z.2.2.2) F (a.2,a.1.l_,a.1.at_,([]:List Yield))
def ZQ(l:List Version)(p:Place):Prop:=0<=p.application_/\p.application_<(l.length:Int)/\0<=p.line_/\p.line_<((List.length (gl l p.application_.toNat).lines_:Nat):Int)
instance (l:List Version) (p:Place):Decidable (ZQ l p):=by unfold ZQ;infer_instance
def PJ(l:List Version)(p:Place):List Rect:=(gl (gl l p.application_.toNat).lines_ p.line_.toNat).g_.t_
def UI(l:List Version)(p:Place)(r:List Rect):List Version:=l.modify p.application_.toNat λv=> {v with lines_:=v.lines_.modify p.line_.toNat λx=> {x with g_:=⟨r⟩}}
def xG(l:List Version)(p:Place)(r:List Rect):Option (List Version):=gd (ZQ l p) <|(QU F (PJ l p) r (λy0 y1=>Kq F y0 y1)).bind λz=>some (UI l p z)
def GY(F:Nat)(l:List Version):List Yield->Option Int
 |[]=>some 0
 |x::r=>(HA F l x.place_).bind λb=>br b ((Ya F x.g_).bind λb=>br b (GY F l r) (some 7)) (some 15)
def HP(F:Nat):List Line->Option Unit
 |[]=>some ()
 |x::r=>(Xw F x.g_.t_).bind λz=>gd (z=x.g_.t_) (HP F r)
def HQ(F:Nat):List Version->Option Unit
 |[]=>some ()
 |x::r=>(Xx F x.lines_).bind λz=>gd (z=x.lines_) <|(HP F x.lines_).bind λ_=>HQ F r
def FB(l:List Version):Option Unit:=(Xv F l).bind λz=>gd (z=l) (HQ F l)
def HR(F:Nat):List Version->List Yield->Option (List Version)
 |l,[]=>some l
 |l,x::r=>(xG F l x.place_ x.g_.t_).bind λl=>HR F l r
def HO(F:Nat)(r:List Rect):List Version->List Place->Option (List Version)
 |l,[]=>some l
 |l,p::q=>(xG F l p r).bind λl=>HO F r l q
def HS(F:Nat):List Version->List Double->Option (List Version)
 |l,[]=>some l
 |l,d::r=>gd (List.length d.claims_<=Z9) <|(HO F d.g_.t_ l d.claims_).bind λl=>HS F l r
def Fp(l:List Version)(y:List Yield):=
 (PB F l).bind λz=>br (z.2 != 0) (some ([],z.2)) <|br (decide (200<(y.length:Int))) (some ([],1))<|(GY F l y).bind λe=>br (e != 0) (some ([],e)) <|(FB F l).bind λ_=>(HR F l y).bind λo=>(PC F o).bind λe=>br (e != 0) (some ([],e)) (some (o,0))
def HF(l:List Version)(y:List Yield):=
 (Fp F l y).bind λo=>br (o.2 != 0) (some ([],[],o.2)) <|(PD F o.1).bind λz=>br (z.2 != 0) (some ([],[],z.2))<|gd (List.length z.1<=Z9) <|(HS F o.1 z.1).bind λs=>(PC F s).bind λe=>br (e != 0) (some ([],[],e)) (some (s,z.1,0))
def yM(F:Nat)(a:List Re_):=
 some a
def Ce(b:List Line)(c:List Re_)(i:(Int×(List Re_))->Option (List Re_))(a:Int)(e:List Re_):=
 br (decide (a<(b.length:Int))) (gd (0<=a/\a<(b.length:Int))<|gd (Q8 (((gl b a.toNat).p_)-1))<|(GC F (((gl b a.toNat).p_)-1) (c.length:Int)).bind λd=>gd (0<=d/\d<(c.length:Int))<|gd (e.length+(List.length ([(gl c d.toNat)]:List Re_))<=Z9)<|gd (Q8 (a+1))<|i ((a+1),(e++([(gl c d.toNat)]:List Re_)))) (yM F e)
def Cf(a:List Line)(b:List Re_):=
 Y3 (λg (z:Int×(List Re_))=>Ce F a b g z.1 z.2) F ((0:Int),([]:List Re_))
def Xj(F:Nat)(a:Int)(b:(Int)->Option Bool)(c:Bool):=
 br c (some false) (gd (Q8 (a+1))<|b (a+1))
def Bl(a:Int)(c:Bool)(b:(Int)->Option Bool)(d:Bool):=
 br (!c) (br (a==0) (Xj F a b true) (Xj F a b (!d))) (Xj F a b false)
def Bm(b:ByteArray)(a:Int)(c:(Int)->Option Bool)(d:Bool):=
 gd (0<=a/\a<((b.size:Nat):Int))<|br (decide ((48:Int)<=(K7 b a))) (gd (0<=a/\a<((b.size:Nat):Int))<|Bl F a d c (decide ((K7 b a)<=57))) (Bl F a d c false)
def Bk(F:Nat)(a:Bool):=
 some a
def Lm(a:ByteArray):=
 br (decide ((1:Int)<=((a.size:Nat):Int))) (Bk F (decide (((a.size:Nat):Int)<=(12:Int)))) (Bk F false)
def kK(b:ByteArray)(c:(Int)->Option Bool)(a:Int):=
 br (decide (a<((b.size:Nat):Int))) (gd (0<=a/\a<((b.size:Nat):Int))<|br (decide ((97:Int)<=(K7 b a))) (gd (0<=a/\a<((b.size:Nat):Int))<|Bm F b a c (decide ((K7 b a)<=122))) (Bm F b a c false)) (Lm F b)
def Bn(a:ByteArray):=
 Y3 (λg (z:Int)=>kK F a g z) F (0:Int)
def LO(F:Nat)(rc:Term->Int->Option Int)(a:Int):=
 some a
def MT(rc:Term->Int->Option Int)(c:Term)(d:Int)(i:(Int×Int)->Option Int)(a b:Int):=
 br (decide (b<(c.kids_.length:Int))) (gd (0<=b/\b<(c.kids_.length:Int))<|gd (Q8 (gl c.kids_ b.toNat).op_)<|br (decide (d<a)) (LO F rc a) (gd (Q8 (d-a))<|(rc (gl c.kids_ b.toNat) (d-a)).bind λe=>gd (Q8 (a+e))<|gd (Q8 (b+1))<|i ((a+e),(b+1)))) (LO F rc a)
def MU(rc:Term->Int->Option Int)(a:Term)(b:Int):=
 Y3 (λg (z:Int×Int)=>MT F rc a b g z.1 z.2) F ((1:Int),(0:Int))
def JE:Nat->Term->Int->Option Int
 |0=>λ_ _=>none
 |F+1=>MU F (JE F)
def MN(F:Nat)(a:Bool):=
 br a (some ((1:Int),(10:Int),true)) (some ((0:Int),(0:Int),false))
def MO(a:Int):=
 br (a==2) (some ((0:Int),(39:Int),true)) (br (a==3) (some ((0:Int),(40:Int),true)) (br (a==4) (some ((1:Int),(16:Int),true)) (br (a==5) (some ((0:Int),(15:Int),true)) (br (a==6) (some ((2:Int),(10:Int),true)) (br (a==7) (MN F (a==7)) (MN F (a==8)))))))
def MQ(F:Nat)(b:Int)(a:Bool):=
 br a (some ((1:Int),(40:Int))) (br (b==11) (some ((1:Int),(1:Int))) (some ((0:Int),(0:Int))))
def MR(a:Int):=
 br (a==9) (MQ F a (a==9)) (MQ F a (a==10))
def Q0N(F:Nat)(a:Int):=
 gd (0<=(1:Int))<|(some (QO .u64 (a.fdiv (2 ^ (min ((1:Int)).toNat (IntKind.bits .u64)))) (6148914691236517205:Int))).bind λk=>(some (IntKind.wrap .u64 (k+(QO .u64 a (6148914691236517205:Int))))).bind λb=>gd (0<=(2:Int))<|(some (QO .u64 (b.fdiv (2 ^ (min ((2:Int)).toNat (IntKind.bits .u64)))) (3689348814741910323:Int))).bind λl=>(some (IntKind.wrap .u64 (l+(QO .u64 b (3689348814741910323:Int))))).bind λc=>gd (0<=(4:Int))<|(some (IntKind.wrap .u64 ((c.fdiv (2 ^ (min ((4:Int)).toNat (IntKind.bits .u64))))+c))).bind λd=>gd (0<=(8:Int))<|(some ((QO .u64 d (1085102592571150095:Int)).fdiv (2 ^ (min ((8:Int)).toNat (IntKind.bits .u64))))).bind λm=>(some (IntKind.wrap .u64 ((QO .u64 d (1085102592571150095:Int))+m))).bind λe=>gd (0<=(16:Int))<|(some (IntKind.wrap .u64 (e+(e.fdiv (2 ^ (min ((16:Int)).toNat (IntKind.bits .u64))))))).bind λi=>gd (0<=(32:Int))<|(some (IntKind.wrap .u64 (i+(i.fdiv (2 ^ (min ((32:Int)).toNat (IntKind.bits .u64))))))).bind λj=>gd (Q8 j)<|some (QO .i64 j (127:Int))
def Q0O(a:Int):=
 (Q0N F a).bind λb=>some b
def MC(F:Nat)(a:Bool):=
 some a
def JB(a:Int):=
 br (decide ((1:Int)<=a)) (br (decide (a<=16)) ((Q0O F (IntKind.wrap .u64 a)).bind λb=>MC F (b==1)) (MC F false)) (MC F false)
def je(F:Nat):=
 some (-1:Int)
def Ri(b:List Term)(d:Term->Option Bool)(c:(Int)->Option Int)(a:Int):=
 br (decide (a<(b.length:Int))) (gd (0<=a/\a<(b.length:Int))<|gd (Q8 (gl b a.toNat).op_)<|(d (gl b a.toNat)).bind λe=>br e (some a) (gd (Q8 (a+1))<|c (a+1))) (je F)
def Rj(a:List Term)(b:Term->Option Bool):=
 Y3 (λg (z:Int)=>Ri F a b g z) F (0:Int)
def Rt(a:List Term)(b:Term->Option Bool):=
 (Rj F a b).bind λc=>some (decide ((0:Int)<=c))
def LH(F:Nat)(rc:Term->Int->Option Bool)(b:Term)(a:Int):=
 gd (Q8 (a-1))<|(rc b (a-1)).bind λc=>some (!c)
def Xo(rc:Term->Int->Option Bool)(b:Term)(c:Int)(a:Bool):=
 br a (some false) ((Rt F b.kids_ (λy0=>LH F rc y0 c)).bind λd=>some (!d))
def ZD(rc:Term->Int->Option Bool)(a:Term)(b:Int)(c:Int×Int)(d:Bool):=
 br d (some false) (br (decide ((a.kids_.length:Int)<c.1)) (Xo F rc a b true) (Xo F rc a b (decide (c.2<(a.kids_.length:Int)))))
def Uh(rc:Term->Int->Option Bool)(a:Term)(b:Int)(c:Int×Int)(d:Bool):=
 br d (some false) (br (a.op_==4) ((JB F a.num_).bind λe=>br (!e) (ZD F rc a b c true) (br (a.op_==7) ((JB F a.more_).bind λi=>br (!i) (ZD F rc a b c true) (br (a.op_ != (7:Int)) (ZD F rc a b c (a.more_ != (0:Int))) (ZD F rc a b c false))) (br (a.op_ != (7:Int)) (ZD F rc a b c (a.more_ != (0:Int))) (ZD F rc a b c false)))) (br (a.op_==7) ((JB F a.more_).bind λj=>br (!j) (ZD F rc a b c true) (br (a.op_ != (7:Int)) (ZD F rc a b c (a.more_ != (0:Int))) (ZD F rc a b c false))) (br (a.op_ != (7:Int)) (ZD F rc a b c (a.more_ != (0:Int))) (ZD F rc a b c false))))
def JC(rc:Term->Int->Option Bool)(a:Term)(b:Int)(d:Int×Int×Bool)(c:Int×Int)(e:Bool):=
 br e (some false) (br d.2.2 (br (decide (a.num_<d.1)) (Uh F rc a b c true) (br (decide (d.2.1<a.num_)) (Uh F rc a b c true) (br (!d.2.2) (Uh F rc a b c (a.num_ != (0:Int))) (Uh F rc a b c false)))) (br (!d.2.2) (Uh F rc a b c (a.num_ != (0:Int))) (Uh F rc a b c false)))
def MD(rc:Term->Int->Option Bool)(a:Term)(b:Int):=
 (MO F a.op_).bind λc=>(MR F a.op_).bind λd=>br (decide (a.op_<1)) (JC F rc a b c d true) (br (decide ((11:Int)<a.op_)) (JC F rc a b c d true) (JC F rc a b c d (b==0)))
def ZE:Nat->Term->Int->Option Bool
 |0=>λ_ _=>none
 |F+1=>MD F (ZE F)
def BB(a:Term):=
 (JE F a (40:Int)).bind λb=>br (decide ((40:Int)<b)) (some (1:Int)) ((ZE F a (8:Int)).bind λc=>br (!c) (some (16:Int)) (some (0:Int)))
def Ja(F:Nat)(a:Int)(b:(Int)->Option Bool)(c:Bool):=
 br c (some false) (gd (Q8 (a+1))<|b (a+1))
def RK(F:Nat)(a:Bool):=
 some a
def qy(a:List Bracket):=
 br (decide (1<=(a.length:Int))) (RK F (decide ((a.length:Int)<=6))) (RK F false)
def KR(b:List Bracket)(c:(Int)->Option Bool)(a:Int):=
 br (decide (a<(b.length:Int))) (gd (0<=a/\a<(b.length:Int))<|br (decide (((gl b a.toNat).up_)<1)) (Ja F a c true) (br (decide ((268435456:Int)<((gl b a.toNat).up_))) (Ja F a c true) (br (decide (((gl b a.toNat).rate_)<0)) (Ja F a c true) (br (decide ((1048576:Int)<((gl b a.toNat).rate_))) (Ja F a c true) (br (decide ((0:Int)<a)) (gd (Q8 (a-1))<|gd (0<=(a-1)/\(a-1)<(b.length:Int))<|Ja F a c (decide (((gl b a.toNat).up_)<=((gl b (a-1).toNat).up_)))) (Ja F a c false)))))) (qy F b)
def RL(a:List Bracket):=
 Y3 (λg (z:Int)=>KR F a g z) F (0:Int)
def KS(F:Nat)(a:Bool):=
 br a (some (3:Int)) (some (0:Int))
def KT(a:Scheme)(c:Bool):=
 br c (some (2:Int)) ((Bn F a.n_).bind λd=>br (!d) (some (5:Int)) ((BB F a.cond_).bind λb=>br (b != (0:Int)) (some b) ((RL F a.brackets_).bind λe=>br (!e) (KS F true) (br (decide (a.excludes_<0)) (KS F true) (br (decide ((65536:Int)<=a.excludes_)) (KS F true) (gd (0<=a.N_)<|KS F ((QO .i64 (a.excludes_.fdiv (2 ^ (min (a.N_).toNat (IntKind.bits .i64)))) (1:Int))==1)))))))
def XA(a:Scheme):=
 br (decide (a.N_<0)) (KT F a true) (br (decide ((15:Int)<a.N_)) (KT F a true) (br (decide (a.least_<0)) (KT F a true) (KT F a (decide ((268435456:Int)<a.least_)))))
def BO(F:Nat)(a b:Scheme):=
 some (Zv a.n_ b.n_)
def jQ(F:Nat)(a:Scheme)(b:Int):=
 some (a.N_==b)
def BN(a:List Scheme)(b:Int):=
 (Wl F a (λy0=>jQ F y0 b)).bind λc=>some c
def RG(F:Nat)(a:Int)(b:(Int)->Option Bool):=
 gd (Q8 (a+1))<|b (a+1)
def RH(b:Int)(a:(Int)->Option Bool)(c:Bool):=
 br c (some false) (RG F b a)
def jO(F:Nat):=
 some true
def KQ(d:List Scheme)(e:Scheme)(c:(Int)->Option Bool)(a:Int):=
 br (decide (a<16)) (gd (0<=a)<|br ((QO .i64 (e.excludes_.fdiv (2 ^ (min (a).toNat (IntKind.bits .i64)))) (1:Int))==0) (RG F a c) ((BN F d a).bind λb=>br (decide (b<0)) (RH F a c true) (gd (0<=b/\b<(d.length:Int))<|gd (0<=e.N_)<|RH F a c ((QO .i64 (((gl d b.toNat).excludes_).fdiv (2 ^ (min (e.N_).toNat (IntKind.bits .i64)))) (1:Int))==0)))) (jO F)
def RI(a:List Scheme)(b:Scheme):=
 Y3 (λg (z:Int)=>KQ F a b g z) F (0:Int)
def XB(F:Nat)(a:Int)(b:(Int)->Option (Int×Int))(c:Bool):=
 br c (some (a,(6:Int))) (gd (Q8 (a+1))<|b (a+1))
def jR(F:Nat):=
 some ((-1:Int),(0:Int))
def KU(b:List Scheme)(c:(Int)->Option (Int×Int))(a:Int):=
 br (decide (a<(b.length:Int))) (gd (0<=a/\a<(b.length:Int))<|(RI F b (gl b a.toNat)).bind λd=>br (!d) (some (a,(17:Int))) (gd (Q8 (a+1))<|c (a+1))) (jR F)
def qB(a:List Scheme):=
 Y3 (λg (z:Int)=>KU F a g z) F (0:Int)
def KV(b:List Scheme)(c:(Int)->Option (Int×Int))(a:Int):=
 br (decide (a<(b.length:Int))) (gd (0<=a/\a<(b.length:Int))<|(XA F (gl b a.toNat)).bind λd=>br (d != (0:Int)) (some (a,d)) (br (decide ((0:Int)<a)) (gd (Q8 (a-1))<|gd (0<=(a-1)/\(a-1)<(b.length:Int))<|br (decide (((gl b a.toNat).N_)<=((gl b (a-1).toNat).N_))) (XB F a c true) (gd (0<=a/\a<=(b.length:Int))<|(ZF F (b.take a.toNat) (λy0=>BO F y0 (gl b a.toNat))).bind λe=>XB F a c e)) (gd (0<=a/\a<=(b.length:Int))<|(ZF F (b.take a.toNat) (λy0=>BO F y0 (gl b a.toNat))).bind λi=>XB F a c i))) (qB F b)
def RM(a:List Scheme):=
 br (decide (16<(a.length:Int))) (some ((0:Int),(1:Int))) (Y3 (λg (z:Int)=>KV F a g z) F (0:Int))
def CZ(a:List Line)(b:List Re_)(c:List Scheme):=
 br ((a.length:Int) != (b.length:Int)) (some (3:Int)) (br (decide (20<(a.length:Int))) (some (1:Int)) ((RM F c).bind λd=>some d.2))
def GQ(F:Nat)(a:Int)(b:(Int)->Option Int)(c:Bool):=
 br c (some (6:Int)) (gd (Q8 (a+1))<|b (a+1))
def GR(b:List Crop)(a:Int)(c:(Int)->Option Int)(d:Bool):=
 br d (some (14:Int)) (br (decide ((0:Int)<a)) (gd (Q8 (a-1))<|gd (0<=(a-1)/\(a-1)<(b.length:Int))<|GQ F a c (VK ((gl b a.toNat).n_) ((gl b (a-1).toNat).n_)||Zv ((gl b a.toNat).n_) ((gl b (a-1).toNat).n_))) (GQ F a c false))
def GS(b:List Crop)(a:Int)(c:(Int)->Option Int)(d:Bool):=
 br d (some (2:Int)) (br (decide (((gl b a.toNat).m_)<0)) (GR F b a c true) (GR F b a c (decide ((31:Int)<((gl b a.toNat).m_)))))
def Q2M(F:Nat):=
 some (0:Int)
def PF(b:List Crop)(c:(Int)->Option Int)(a:Int):=
 br (decide (a<(b.length:Int))) (gd (0<=a/\a<(b.length:Int))<|(Bn F ((gl b a.toNat).n_)).bind λd=>br (!d) (some (5:Int)) (br (decide (((gl b a.toNat).f_)<0)) (GS F b a c true) (GS F b a c (decide ((40:Int)<((gl b a.toNat).f_)))))) (Q2M F)
def PG(a:List Crop):=
 br (decide (40<(a.length:Int))) (some (1:Int)) (Y3 (λg (z:Int)=>PF F a g z) F (0:Int))
def Cl(F:Nat)(a:Bool):=
 br a (some (7:Int)) (some (0:Int))
def Hc(a:Rg_)(b:Bool):=
 br b (some (13:Int)) (br ((a.g_.t_.length:Int)==0) (Cl F true) ((Ya F a.g_).bind λc=>Cl F (!c)))
def Hd(a:Rg_)(b:Bool):=
 br b (some (18:Int)) (br (decide (a.c_<0)) (Hc F a true) (Hc F a (decide ((40:Int)<=a.c_))))
def Cm(a:Rg_):=
 br (decide (a.year_<0)) (Hd F a true) (Hd F a (decide ((100:Int)<a.year_)))
def Cn(a b:Rg_):=
 (Wd F a.year_ b.year_).bind λc=>(Wd F a.c_ b.c_).bind λd=>(GV F ([c,d]:List Int)).bind λe=>some e
def Q1v(F:Nat)(a:(List (Int×(List Rg_)))):=
 some a
def Pr(b:List Rg_)(d:(Int×(List (Int×(List Rg_))))->Option ((List (Int×(List Rg_)))))(a:Int)(c:(List (Int×(List Rg_)))):=
 br (decide (a<(b.length:Int))) (gd (0<=a/\a<(b.length:Int))<|gd ((gRow ((gl b a.toNat).year_) c).length+List.length ([(gl b a.toNat)]:List Rg_)<=Z9)<|gd (Q8 (a+1))<|d ((a+1),(gApp ((gl b a.toNat).year_) ([(gl b a.toNat)]:List Rg_) c))) (Q1v F c)
def yU(a:List Rg_):=
 Y3 (λg (z:Int×(List (Int×(List Rg_))))=>Pr F a g z.1 z.2) F ((0:Int),([]:List (Int×(List Rg_))))
def JQ(F:Nat)(a:Bool):=
 some a
def Sb(a b:Rect):=
 br (decide (a.L_<b.R_)) (br (decide (b.L_<a.R_)) (br (decide (a.w_<b.H_)) (JQ F (decide (b.w_<a.H_))) (JQ F false)) (JQ F false)) (JQ F false)
def ze(a b:Rect):=
 (Sb F b a).bind λc=>some c
def zf(a:Rect)(b:Re_):=
 (ZF F b.t_ (λy0=>ze F y0 a)).bind λc=>some c
def Ss(F:Nat)(a:Bool):=
 some a
def XK(a b:Re_):=
 (Ya F a).bind λc=>br c ((Ya F b).bind λd=>br d ((ZF F a.t_ (λy0=>zf F y0 b)).bind λe=>Ss F e) (Ss F false)) (Ss F false)
def yX(a b:Rg_):=
 (XK F a.g_ b.g_).bind λc=>some c
def Hg(F:Nat)(a:Int)(b:(Int)->Option Int)(c:Bool):=
 br c (some (3:Int)) (gd (Q8 (a+1))<|b (a+1))
def Q1x(F:Nat):=
 some (0:Int)
def yW(b:(Int×(List Rg_)))(e:(List (Int×(List Rg_))))(c:((List (Int×(List Rg_))))->Option Int)(d:(Int)->Option Int)(a:Int):=
 br (decide (a<(b.2.length:Int))) (gd (0<=a/\a<(b.2.length:Int))<|gd (0<=a/\a<=(b.2.length:Int))<|(ZF F (b.2.take a.toNat) (λy0=>yX F y0 (gl b.2 a.toNat))).bind λi=>br i (some (11:Int)) (gd (Q8 (a+1))<|d (a+1))) (c e)
def Cq(a:((List (Int×(List Rg_))))->Option Int)(b:(List (Int×(List Rg_)))):=
 Gs b (Q1x F) (λc d=>
 Y3 (λg (z:Int)=>yW F c d a g z) F (0:Int))
def Cp(a:List Rg_):=
 (yU F a).bind λb=>Y3 (λg (z:(List (Int×(List Rg_))))=>Cq F g z) F b
def Q1y(b:List Rg_)(c:(Int)->Option Int)(a:Int):=
 br (decide (a<(b.length:Int))) (gd (0<=a/\a<(b.length:Int))<|(Cm F (gl b a.toNat)).bind λd=>br (d != (0:Int)) (some d) (br (decide ((0:Int)<a)) (gd (Q8 (a-1))<|gd (0<=(a-1)/\(a-1)<(b.length:Int))<|(Cn F (gl b (a-1).toNat) (gl b a.toNat)).bind λe=>Hg F a c (decide ((0:Int)<=e))) (Hg F a c false))) (Cp F b)
def Cr(a:List Rg_):=
 br (decide (200<(a.length:Int))) (some (1:Int)) (Y3 (λg (z:Int)=>Q1y F a g z) F (0:Int))
def Ho(F:Nat)(a:Bool):=
 br a (some (7:Int)) (some (0:Int))
def Ko(a:A2_)(b:Bool):=
 br b (some (9:Int)) (br ((a.g_.t_.length:Int)==0) (Ho F true) ((Ya F a.g_).bind λc=>Ho F (!c)))
def Kp(a:A2_)(b:Bool):=
 br b (some (14:Int)) (br (decide (a.F_<0)) (Ko F a true) (br (decide (a.u_<=a.F_)) (Ko F a true) (Ko F a (decide ((36865:Int)<a.u_)))))
def CF(a:A2_)(b:Bool):=
 br b (some (2:Int)) (br (decide (a.k_<0)) (Kp F a true) (Kp F a (decide ((15:Int)<a.k_))))
def CG(a:A2_):=
 br (decide (a.N_<1)) (CF F a true) (CF F a (decide ((1073741824:Int)<a.N_)))
def Hu(F:Nat)(a:Int)(b:(Int)->Option Int)(c:Bool):=
 br c (some (3:Int)) (gd (Q8 (a+1))<|b (a+1))
def Q2f(F:Nat):=
 some (0:Int)
def Q2g(b:List A2_)(c:(Int)->Option Int)(a:Int):=
 br (decide (a<(b.length:Int))) (gd (0<=a/\a<(b.length:Int))<|(CG F (gl b a.toNat)).bind λd=>br (d != (0:Int)) (some d) (br (decide ((0:Int)<a)) (gd (Q8 (a-1))<|gd (0<=(a-1)/\(a-1)<(b.length:Int))<|Hu F a c (decide (((gl b a.toNat).N_)<=((gl b (a-1).toNat).N_)))) (Hu F a c false))) (Q2f F)
def CL(a:List A2_):=
 br (decide (60<(a.length:Int))) (some (1:Int)) (Y3 (λg (z:Int)=>Q2g F a g z) F (0:Int))
def Hp(F:Nat)(a:Bool):=
 br a (some (9:Int)) (some (0:Int))
def CH(c:List A2_)(a:Int):=
 (CL F c).bind λb=>br (b != (0:Int)) (some b) (br (decide (a<0)) (Hp F true) (Hp F (decide ((36864:Int)<a))))
def CI(a:A2_):=
 (Xw F a.g_.t_).bind λb=>some (⟨a.N_,a.k_,a.F_,a.u_,(⟨b⟩:Re_)⟩:A2_)
def vG(F:Nat)(a:List A2_):=
 some a
def Q2a(c:List A2_)(e:(Int×(List A2_))->Option (List A2_))(a:Int)(b:List A2_):=
 br (decide (a<(c.length:Int))) (gd (0<=a/\a<(c.length:Int))<|(CI F (gl c a.toNat)).bind λd=>gd (b.length+(List.length ([d]:List A2_))<=Z9)<|gd (Q8 (a+1))<|e ((a+1),(b++([d]:List A2_)))) (vG F b)
def CJ(a:List A2_):=
 Y3 (λg (z:Int×(List A2_))=>Q2a F a g z.1 z.2) F ((0:Int),([]:List A2_))
def CE(F:Nat)(a:Bool):=
 some a
def Hn(a:A2_)(b:Int):=
 br (decide (a.F_<=b)) (CE F (decide (b<a.u_))) (CE F false)
def vI(a:A2_)(b:Int):=
 (Hn F a b).bind λc=>some (!c)
def BE(F:Nat)(a:Int)(b:(Int×Int×(List A2_))->Option (List A2_))(c:Int)(d:List A2_):=
 gd (Q8 (a+1))<|b (c,(a+1),d)
def qf(F:Nat)(a:Int)(b:List A2_):=
 gd (0<=a/\a<=((b.length:Nat):Int)/\((0:Nat):Int)+((b.length:Nat):Int)<=(b.length:Int))<|gd (0<=a/\a<=((List.length (clr b (0+(a).toNat) (b.length-(a).toNat)):Nat):Int))<|some ((clr b (0+(a).toNat) (b.length-(a).toNat)).take (a).toNat)
def jq(e:A2_->Option Bool)(d:(Int×Int×(List A2_))->Option (List A2_))(b c:Int)(a:List A2_):=
 br (decide (c<(a.length:Int))) (gd (0<=c/\c<(a.length:Int))<|(e (gl a c.toNat)).bind λi=>br (!i) (gd (0<=b/\b<(a.length:Int))<|gd (Q8 (b+1))<|BE F c d (b+1) (List.set a b.toNat (gl a c.toNat))) (BE F c d b a)) (qf F b a)
def Rs(b:List A2_)(c:A2_->Option Bool):=
 (Wl F b c).bind λa=>br (a==(-1:Int)) (some b) (gd (Q8 (a+1))<|Y3 (λg (z:Int×Int×(List A2_))=>jq F c g z.1 z.2.1 z.2.2) F (a,(a+1),b))
def Ht(a:List A2_)(b:Int):=
 (CH F a b).bind λc=>br (c != (0:Int)) (some ([],c)) ((CJ F a).bind λd=>(Rs F d (λy0=>vI F y0 b)).bind λe=>some (e,(0:Int)))
def MK(F:Nat)(a:Bool):=
 some a
def Bv(a:Int)(b:TermPlace):=
 br (decide (a<0)) (MK F true) (MK F (decide ((b.world_.crops_.length:Int)<=a)))
def MJ(a:Rg_)(b:TermPlace):=
 (Bv F a.c_ b).bind λc=>some c
def ji(F:Nat):=
 some (-1:Int)
def KL(b:List Rg_)(d:TermPlace)(c:(Int)->Option Int)(a:Int):=
 br (decide (a<(b.length:Int))) (gd (0<=a/\a<(b.length:Int))<|(MJ F (gl b a.toNat) d).bind λe=>br e (some a) (gd (Q8 (a+1))<|c (a+1))) (ji F)
def Rl(a:List Rg_)(b:TermPlace):=
 Y3 (λg (z:Int)=>KL F a b g z) F (0:Int)
def Rv(a:List Rg_)(b:TermPlace):=
 (Rl F a b).bind λc=>some (decide ((0:Int)<=c))
def Bt(a:TermPlace)(c:Bool):=
 br c (some (18:Int)) ((Ht F a.world_.zones_ a.world_.day_).bind λb=>br (b.2 != (0:Int)) (some b.2) ((Ya F a.line_.g_).bind λd=>br (!d) (some (7:Int)) (some (0:Int))))
def Bu(a:TermPlace)(c:Bool):=
 br c (some (13:Int)) ((Cr F a.world_.history_).bind λb=>br (b != (0:Int)) (some b) (br (decide (a.world_.year_<0)) (Bt F a true) (Bt F a (decide ((100:Int)<a.world_.year_)))))
def ML(a:TermPlace)(d:Term):=
 (BB F d).bind λb=>br (b != (0:Int)) (some b) ((PG F a.world_.crops_).bind λc=>br (c != (0:Int)) (some c) ((Bv F a.line_.c_ a).bind λe=>br e (Bu F a true) ((Rv F a.world_.history_ a).bind λi=>Bu F a i)))
def Bp(F:Nat)(a:Squares):=
 some (⟨a.no_,a.yes_,a.open_⟩:Squares)
def MX(F:Nat)(a:Bool):=
 some a
def KF(a b:Bool):=
 br a (MX F b) (MX F false)
def MS(F:Nat)(a:Bool):=
 some a
def BA(a b:Bool):=
 br a (MS F true) (MS F b)
def MA(F:Nat)(a:Bool):=
 some a
def Xn(a b:Bool):=
 br a (MA F (!b)) (MA F false)
def Xq(c:TermPlace)(a b:List Rect):=
 (QU F c.t_ a (λy0 y1=>Xn F y0 y1)).bind λd=>(QU F d b (λy0 y1=>Xn F y0 y1)).bind λe=>some (⟨a,b,e⟩:Squares)
def LN(c:TermPlace)(a b:List Rect):=
 (Xq F c a b).bind λd=>some d
def Xr(i:TermPlace)(b:List Squares)(e:((List Rect)×(List Rect)×Int)->Option Squares)(c d:List Rect)(a:Int):=
 br (decide (a<(b.length:Int))) (gd (0<=a/\a<(b.length:Int))<|(QU F c ((gl b a.toNat).yes_) (λy0 y1=>KF F y0 y1)).bind λj=>(QU F d ((gl b a.toNat).no_) (λy0 y1=>BA F y0 y1)).bind λk=>gd (Q8 (a+1))<|e (j,k,(a+1))) (LN F i c d)
def Xs(a:TermPlace)(b:List Squares):=
 Y3 (λg (z:(List Rect)×(List Rect)×Int)=>Xr F a b g z.1 z.2.1 z.2.2) F (a.t_,([]:List Rect),(0:Int))
def KD(F:Nat)(a:TermPlace)(b:Bool):=
 br b (some (⟨a.t_,[],[]⟩:Squares)) (some (⟨[],a.t_,[]⟩:Squares))
def HI(F:Nat)(a:Bool):=
 some a
def PE(b:List Crop)(a c:Int):=
 br (decide ((0:Int)<=a)) (br (decide (a<(b.length:Int))) (br (c != (0:Int)) (gd (0<=a/\a<(b.length:Int))<|HI F ((QO .i64 ((gl b a.toNat).m_) c)==c)) (HI F false)) (HI F false)) (HI F false)
def kZ(F:Nat)(a:Int)(b:Term):=
 some (a==b.num_)
def Hq(F:Nat)(a:Int)(b:(Int×(List Rect))->Option (List Rect))(c:List Rect):=
 gd (Q8 (a+1))<|b ((a+1),c)
def Hr(d:List A2_)(a:Int)(b:List Rect)(c:(Int×(List Rect))->Option (List Rect))(e:Bool):=
 br e (gd (b.length+(List.length ((gl d a.toNat).g_.t_))<=Z9)<|Hq F a c (b++((gl d a.toNat).g_.t_))) (Hq F a c b)
def vH(F:Nat)(a:List Rect):=
 some a
def CK(b:List A2_)(e:Int)(i:Int->Option Bool)(d:(Int×(List Rect))->Option (List Rect))(a:Int)(c:List Rect):=
 br (decide (a<(b.length:Int))) (gd (0<=a/\a<(b.length:Int))<|(Hn F (gl b a.toNat) e).bind λj=>br j ((i ((gl b a.toNat).k_)).bind λk=>Hr F b a c d k) (Hr F b a c d false)) (vH F c)
def Hs(a:List A2_)(b:Int)(c:Int->Option Bool):=
 Y3 (λg (z:Int×(List Rect))=>CK F a b c g z.1 z.2) F ((0:Int),([]:List Rect))
def Bs(b:TermPlace)(a:List Rect):=
 (QU F b.t_ a (λy0 y1=>Xn F y0 y1)).bind λc=>some (⟨a,c,[]⟩:Squares)
def MG(F:Nat)(a:Int)(b:TermPlace)(c:Int):=
 gd (0<=a/\a<(b.world_.crops_.length:Int))<|some (((gl b.world_.crops_ a.toNat).f_)==c)
def He(F:Nat)(a:Int)(b:(Int×(List Rect))->Option (List Rect))(c:List Rect):=
 gd (Q8 (a+1))<|b ((a+1),c)
def Hf(d:List Rg_)(a:Int)(b:List Rect)(c:(Int×(List Rect))->Option (List Rect))(e:Bool):=
 br e (gd (b.length+(List.length ((gl d a.toNat).g_.t_))<=Z9)<|He F a c (b++((gl d a.toNat).g_.t_))) (He F a c b)
def yV(F:Nat)(a:List Rect):=
 some a
def Q1w(b:List Rg_)(e:Int)(i:Int->Option Bool)(d:(Int×(List Rect))->Option (List Rect))(a:Int)(c:List Rect):=
 br (decide (a<(b.length:Int))) (gd (0<=a/\a<(b.length:Int))<|br (((gl b a.toNat).year_)==e) ((i ((gl b a.toNat).c_)).bind λj=>Hf F b a c d j) (Hf F b a c d false)) (yV F c)
def Co(a:List Rg_)(b:Int)(c:Int->Option Bool):=
 Y3 (λg (z:Int×(List Rect))=>Q1w F a b c g z.1 z.2) F ((0:Int),([]:List Rect))
def JD(a:TermPlace)(b:Int)(c:Int->Option Bool):=
 gd (Q8 (a.world_.year_-b))<|(Co F a.world_.history_ (a.world_.year_-b) c).bind λd=>(QU F a.t_ d (λy0 y1=>KF F y0 y1)).bind λe=>some e
def MF(F:Nat)(a:Int)(b:TermPlace)(c:Int):=
 gd (0<=a/\a<(b.world_.crops_.length:Int))<|some (((gl b.world_.crops_ a.toNat).f_) != c)
def LJ(c:TermPlace)(a b:List Rect):=
 (Xq F c a b).bind λd=>some d
def Xp(a:TermPlace)(i:Int)(e:((List Rect)×(List Rect)×Int)->Option Squares)(c d:List Rect)(b:Int):=
 br (decide (b<i)) ((JD F a b (λy0=>MG F y0 a ((gl a.world_.crops_ a.line_.c_.toNat).f_))).bind λj=>(JD F a b (λy0=>MF F y0 a ((gl a.world_.crops_ a.line_.c_.toNat).f_))).bind λk=>(QU F c j (λy0 y1=>KF F y0 y1)).bind λl=>(QU F d k (λy0 y1=>BA F y0 y1)).bind λm=>gd (Q8 (b+1))<|e (l,m,(b+1))) (LJ F a c d)
def MH(a:TermPlace)(b:Int):=
 gd (0<=a.line_.c_/\a.line_.c_<(a.world_.crops_.length:Int))<|Y3 (λg (z:(List Rect)×(List Rect)×Int)=>Xp F a b g z.1 z.2.1 z.2.2) F (a.t_,([]:List Rect),(1:Int))
def Bx(a:Int)(b:TermPlace)(c:Term):=
 (PE F b.world_.crops_ a c.more_).bind λd=>some d
def Bw(a:Int)(b:TermPlace)(c:Term):=
 (PE F b.world_.crops_ a c.more_).bind λd=>some (!d)
def Cs(F:Nat)(a:Int):=
 some true
def MM(a:TermPlace)(b:Term):=
 br (b.op_==2) ((KD F a (a.line_.c_==b.num_)).bind λc=>some c) (br (b.op_==3) (gd (0<=a.line_.c_/\a.line_.c_<(a.world_.crops_.length:Int))<|(KD F a (((gl a.world_.crops_ a.line_.c_.toNat).f_)==b.num_)).bind λd=>some d) (br (b.op_==4) ((PE F a.world_.crops_ a.line_.c_ b.num_).bind λe=>(KD F a e).bind λi=>some i) (br (b.op_==5) ((Hs F a.world_.zones_ a.world_.day_ (λy0=>kZ F y0 b)).bind λj=>(QU F a.t_ j (λy0 y1=>KF F y0 y1)).bind λk=>(Bs F a k).bind λl=>some l) (br (b.op_==6) ((MH F a b.num_).bind λm=>some m) (br (b.op_==7) ((JD F a b.num_ (λy0=>Bx F y0 a b)).bind λn=>(JD F a b.num_ (λy0=>Bw F y0 a b)).bind λo=>(Xq F a n o).bind λp=>some p) (br (b.op_==8) ((JD F a b.num_ (λy0=>Cs F y0)).bind λq=>(Bs F a q).bind λs=>some s) ((KD F a true).bind λt=>some t)))))))
def Br(F:Nat)(rc:TermPlace->Term->Option Squares)(a:Int)(b:List Squares)(i:(Int×(List Squares))->Option Squares)(c d e:List Rect):=
 gd (b.length+(List.length ([(⟨c,d,e⟩:Squares)]:List Squares))<=Z9)<|gd (Q8 (a+1))<|i ((a+1),(b++([(⟨c,d,e⟩:Squares)]:List Squares)))
def LL(rc:TermPlace->Term->Option Squares)(c:TermPlace)(b:Term)(a:List Squares):=
 br (b.op_==9) ((Xs F c a).bind λd=>some d) (br (b.op_==10) ((Xs F c a).bind λe=>(Bp F e).bind λi=>some i) (br (b.op_==11) (gd (0<=(0:Int)/\0<(a.length:Int))<|some (gl a (0:Int).toNat)) ((MM F c b).bind λj=>some j)))
def KE(rc:TermPlace->Term->Option Squares)(j:TermPlace)(b:Term)(i:(Int×(List Squares))->Option Squares)(a:Int)(d:List Squares):=
 br (decide (a<(b.kids_.length:Int))) (gd (0<=a/\a<(b.kids_.length:Int))<|gd (Q8 (gl b.kids_ a.toNat).op_)<|(rc j (gl b.kids_ a.toNat)).bind λc=>br (b.op_ != (9:Int)) ((Bp F c).bind λe=>Br F rc a d i e.yes_ e.no_ e.open_) (Br F rc a d i c.yes_ c.no_ c.open_)) (LL F rc j b d)
def MI(rc:TermPlace->Term->Option Squares)(a:TermPlace)(b:Term):=
 Y3 (λg (z:Int×(List Squares))=>KE F rc a b g z.1 z.2) F ((0:Int),([]:List Squares))
def VF:Nat->TermPlace->Term->Option Squares
 |0=>λ_ _=>none
 |F+1=>MI F (VF F)
def Xt(a:List Rect):=
 (Xw F a).bind λb=>some (⟨b⟩:Re_)
def MY(c:Term)(b:Line)(d:Int)(e:List Crop)(i:List Rg_)(j:List A2_)(k:Int):=
 (ML F (⟨(⟨d,e,i,j,k⟩:TermWorld),b,b.g_.t_⟩:TermPlace) c).bind λl=>br (l != (0:Int)) (some ((⟨(⟨[]⟩:Re_),(⟨[]⟩:Re_),(⟨[]⟩:Re_)⟩:Truth),l)) ((VF F (⟨(⟨d,e,i,j,k⟩:TermWorld),b,b.g_.t_⟩:TermPlace) c).bind λa=>br (decide ((120:Int)<(K8 (K8 (a.yes_.length:Int) (a.no_.length:Int)) (a.open_.length:Int)))) (some ((⟨(⟨[]⟩:Re_),(⟨[]⟩:Re_),(⟨[]⟩:Re_)⟩:Truth),(1:Int))) ((Xt F a.yes_).bind λm=>(Xt F a.no_).bind λn=>(Xt F a.open_).bind λo=>some ((⟨m,n,o⟩:Truth),(0:Int))))
def Lf(F:Nat)(a:Bool):=
 br a (some (2:Int)) (some (0:Int))
def Xi(c:List A2_)(d a:Int)(e:Re_):=
 (Ht F c d).bind λb=>br (b.2 != (0:Int)) (some b.2) ((Ya F e).bind λi=>br (!i) (some (7:Int)) (br (decide (a<0)) (Lf F true) (Lf F (decide ((268435456:Int)<a)))))
def Jz(F:Nat)(a:Bool):=
 br a (some (1:Int)) (some (2:Int))
def Ve(a:Int)(b:Bool):=
 br b (some (0:Int)) (br (a==8) (Jz F (a==8)) (br (a==9) (Jz F (a==9)) (br (a==10) (Jz F (a==10)) (Jz F (a==11)))))
def Mo(a:Int):=
 br (a==0) (Ve F a (a==0)) (br (a==1) (Ve F a (a==1)) (br (a==2) (Ve F a (a==2)) (br (a==3) (Ve F a (a==3)) (br (a==4) (Ve F a (a==4)) (br (a==5) (Ve F a (a==5)) (br (a==6) (Ve F a (a==6)) (Ve F a (a==7))))))))
def Mp(a b:Int):=
 (Mo F a).bind λc=>some (c==b)
def Un(b:List Rect):=
 (XH F b).bind λc=>(JS F c).bind λa=>some (a.1,a.2)
def Bg(b:List A2_)(c d:Int):=
 (Hs F b c (λy0=>Mp F y0 d)).bind λe=>(Un F e).bind λa=>some (a.1,a.2)
def Mr(a:List A2_)(b:Int):=
 (Xi F a b (0:Int) (⟨[]⟩:Re_)).bind λc=>br (c != (0:Int)) (some ((⟨[]⟩:Re_),c)) ((Bg F a b (0:Int)).bind λd=>some (d.1,d.2))
def Lh(F:Nat)(a:Bool):=
 some a
def kD(a b:Bool):=
 br a (Lh F b) (Lh F false)
def qt(F:Nat)(a:Int):=
 some a
def BJ(a b:Rect)(c:Int)(d:Bool):=
 br d (gd (Q8 ((Qa a.R_ b.R_)-(K8 a.L_ b.L_)))<|gd (Q8 (c+(K8 (0:Int) ((Qa a.R_ b.R_)-(K8 a.L_ b.L_)))))<|qt F (c+(K8 (0:Int) ((Qa a.R_ b.R_)-(K8 a.L_ b.L_))))) (qt F c)
def Xy(a b:Rect)(c:Int):=
 br (a.H_==b.w_) (BJ F a b c true) (BJ F a b c (b.H_==a.w_))
def BK(a b:Rect)(c:Bool):=
 br c (gd (Q8 ((Qa a.H_ b.H_)-(K8 a.w_ b.w_)))<|gd (Q8 ((0:Int)+(K8 (0:Int) ((Qa a.H_ b.H_)-(K8 a.w_ b.w_)))))<|Xy F a b ((0:Int)+(K8 (0:Int) ((Qa a.H_ b.H_)-(K8 a.w_ b.w_))))) (Xy F a b (0:Int))
def RB(a b:Rect):=
 br (a.R_==b.L_) (BK F a b true) (BK F a b (b.R_==a.L_))
def qw(F:Nat)(a:Bool)(b:List Rect):=
 some (b,a)
def RC(c:Rect)(b:List Rect)(a:Bool):=
 br a (gd (b.length+(List.length ([c]:List Rect))<=Z9)<|qw F a (b++([c]:List Rect))) (qw F a b)
def BL(c:Rect)(a:List Rect)(b:Int):=
 gd (0<=b/\b<(a.length:Int))<|(RB F (gl a b.toNat) c).bind λd=>RC F c a (decide ((0:Int)<d))
def jg(F:Nat)(b a:List Rect):=
 some (b,a,(-1:Int))
def jh(b:List Rect)(i:Int)(e:(Int×(List Rect))->Option ((List Rect)×(List Rect)×Int))(a:Int)(d:List Rect):=
 br (decide (a<(b.length:Int))) (gd (0<=a/\a<(b.length:Int))<|(BL F (gl b a.toNat) d i).bind λc=>br c.2 (some (b,c.1,a)) (gd (Q8 (a+1))<|e ((a+1),c.1))) (jg F b d)
def Rk(a b:List Rect)(c:Int):=
 Y3 (λg (z:Int×(List Rect))=>jh F a c g z.1 z.2) F ((0:Int),b)
def BD(F:Nat)(a:Int)(b:(Int×Int×(List Rect)×(List Rect))->Option ((List Rect)×(List Rect)))(c:Int)(d e:List Rect):=
 gd (Q8 (a+1))<|b (c,(a+1),d,e)
def qe(F:Nat)(a:Int)(b c:List Rect):=
 gd (0<=a/\a<=((b.length:Nat):Int)/\((0:Nat):Int)+((b.length:Nat):Int)<=(b.length:Int))<|gd (0<=a/\a<=((List.length (clr b (0+(a).toNat) (b.length-(a).toNat)):Nat):Int))<|some (c,((clr b (0+(a).toNat) (b.length-(a).toNat)).take (a).toNat))
def jp(j:Int)(e:(Int×Int×(List Rect)×(List Rect))->Option ((List Rect)×(List Rect)))(b c:Int)(a i:List Rect):=
 br (decide (c<(a.length:Int))) (gd (0<=c/\c<(a.length:Int))<|(BL F (gl a c.toNat) i j).bind λd=>br (!d.2) (gd (0<=b/\b<(a.length:Int))<|gd (Q8 (b+1))<|BD F c e (b+1) (List.set a b.toNat (gl a c.toNat)) d.1) (BD F c e b a d.1)) (qe F b a i)
def Rq(c d:List Rect)(b:Int):=
 (Rk F c d b).bind λa=>br (a.2.2==(-1:Int)) (some (a.2.1,a.1)) (gd (Q8 (a.2.2+(1:Int)))<|Y3 (λg (z:Int×Int×(List Rect)×(List Rect))=>jp F b g z.1 z.2.1 z.2.2.1 z.2.2.2) F (a.2.2,(a.2.2+(1:Int)),a.1,a.2.1))
def qu(F:Nat)(a b:List Rect):=
 some (b,a)
def qv(c:List Rect)(a:Int)(b:List Rect)(e:((List Rect)×Int×(List Rect))->Option ((List Rect)×(List Rect))):=
 br (decide (a<(b.length:Int))) ((Rq F c b a).bind λd=>gd (Q8 (a+1))<|e (d.2,(a+1),d.1)) (qu F c b)
def jD(a:((List Rect)×Int×(List Rect))->Option ((List Rect)×(List Rect)))(b:List Rect)(c:Int)(d:List Rect):=
 qv F b c d a
def RD(a:List Rect):=
 gd (1<=(a.length:Int))<|gd (0<=(1:Int)/\1<=(a.length:Int))<|(BH F (a.drop (1:Int).toNat)).bind λb=>Y3 (λg (z:(List Rect)×Int×(List Rect))=>jD F g z.1 z.2.1 z.2.2) F (b,(0:Int),(a.take ((1:Int)).toNat))
def cM(F:Nat)(a:Int):=
 some a
def cN(b:List Rect)(d:(Int×Int)->Option Int)(c a:Int):=
 br (decide (a<(b.length:Int))) (gd (0<=a/\a<(b.length:Int))<|gd (Q8 (((gl b a.toNat).R_)-((gl b a.toNat).L_)))<|gd (Q8 (((gl b a.toNat).H_)-((gl b a.toNat).w_)))<|gd (Q8 ((((gl b a.toNat).R_)-((gl b a.toNat).L_))*(((gl b a.toNat).H_)-((gl b a.toNat).w_))))<|gd (Q8 (c+((((gl b a.toNat).R_)-((gl b a.toNat).L_))*(((gl b a.toNat).H_)-((gl b a.toNat).w_)))))<|gd (Q8 (a+1))<|d ((c+((((gl b a.toNat).R_)-((gl b a.toNat).L_))*(((gl b a.toNat).H_)-((gl b a.toNat).w_)))),(a+1))) (cM F c)
def BW(a:List Rect):=
 Y3 (λg (z:Int×Int)=>cN F a g z.1 z.2) F ((0:Int),(0:Int))
def Lg(b:List Rect):=
 (Un F b).bind λa=>some (a.1,a.2)
def kC(e:Int)(c:((List Rect)×(List Rect))->Option (Re_×Int))(d b:List Rect):=
 br (decide (0<(d.length:Int))) ((RD F d).bind λa=>(BW F a.1).bind λi=>br (decide (e<i)) (gd (b.length+a.1.length<=Z9)<|c (a.2,(b++a.1))) (c (a.2,b))) (Lg F b)
def Mq(b:List A2_)(c d:Int)(e:Re_):=
 (Xi F b c d e).bind λi=>br (i != (0:Int)) (some ((⟨[]⟩:Re_),i)) ((Bg F b c (1:Int)).bind λa=>br (a.2 != (0:Int)) (some ((⟨[]⟩:Re_),a.2)) ((QU F a.1.t_ e.t_ (λy0 y1=>kD F y0 y1)).bind λj=>br (decide (120<(j.length:Int))) (some ((⟨[]⟩:Re_),(1:Int))) (Y3 (λg (z:(List Rect)×(List Rect))=>kC F d g z.1 z.2) F (j,([]:List Rect)))))
def Li(F:Nat)(a:Bool):=
 some a
def kE(a b:Bool):=
 br a (Li F (!b)) (Li F false)
def Bh(a:Re_)(b:List A2_)(c i:Int):=
 (Xi F b c i a).bind λj=>br (j != (0:Int)) (some ((⟨[]⟩:Re_),j)) ((Mr F b c).bind λd=>br (d.2 != (0:Int)) (some ((⟨[]⟩:Re_),d.2)) ((Mq F b c i a).bind λe=>br (e.2 != (0:Int)) (some ((⟨[]⟩:Re_),e.2)) ((JG F ([d.1.t_,e.1.t_]:List (List Rect))).bind λl=>(QU F a.t_ l (λy0 y1=>kE F y0 y1)).bind λm=>(JS F m).bind λk=>some (k.1,k.2))))
def Sg(F:Nat)(a:Bool):=
 some a
def Sj(a b:Bool):=
 br a (Sg F (!b)) (Sg F false)
def BV(F:Nat)(a:Bool):=
 some a
def Sk(a b:Re_):=
 (Ya F a).bind λc=>br c ((Ya F b).bind λd=>br d ((QU F a.t_ b.t_ (λy0 y1=>Sj F y0 y1)).bind λe=>BV F ((e.length:Int)==0)) (BV F false)) (BV F false)
def Q2r(F:Nat)(a b c:List Rect):=
 some ((⟨(⟨a⟩:Re_),(⟨b⟩:Re_),(⟨c⟩:Re_)⟩:Truth),(0:Int))
def GK(a:Arr3ListRect):=
 (Un F a.e0_).bind λb=>br (b.2 != (0:Int)) (some ((⟨(⟨[]⟩:Re_),(⟨[]⟩:Re_),(⟨[]⟩:Re_)⟩:Truth),b.2)) (gd (Q8 ((0:Int)+(1:Int)))<|(Un F a.e1_).bind λc=>br (c.2 != (0:Int)) (some ((⟨(⟨[]⟩:Re_),(⟨[]⟩:Re_),(⟨[]⟩:Re_)⟩:Truth),c.2)) (gd (Q8 ((1:Int)+(1:Int)))<|(Un F a.e2_).bind λd=>br (d.2 != (0:Int)) (some ((⟨(⟨[]⟩:Re_),(⟨[]⟩:Re_),(⟨[]⟩:Re_)⟩:Truth),d.2)) (gd (Q8 ((2:Int)+(1:Int)))<|Q2r F b.1.t_ c.1.t_ d.1.t_)))
def Fa(F:Nat)(a:Bool):=
 some a
def Hx(a b:Bool):=
 br a (Fa F b) (Fa F false)
def CW(F:Nat)(a:Bool):=
 some a
def CX(a b:Bool):=
 br a (CW F (!b)) (CW F false)
def GL(b:Line)(i:Re_)(c:Scheme)(a:World):=
 (Ya F i).bind λn=>br (!n) (some ((⟨(⟨[]⟩:Re_),(⟨[]⟩:Re_),(⟨[]⟩:Re_)⟩:Truth),(7:Int))) ((MY F c.cond_ b a.year_ a.crops_ a.history_ a.zones_ a.day_).bind λd=>br (d.2 != (0:Int)) (some ((⟨(⟨[]⟩:Re_),(⟨[]⟩:Re_),(⟨[]⟩:Re_)⟩:Truth),d.2)) ((XA F c).bind λo=>br (o != (0:Int)) (some ((⟨(⟨[]⟩:Re_),(⟨[]⟩:Re_),(⟨[]⟩:Re_)⟩:Truth),(17:Int))) ((Bh F i a.zones_ a.day_ a.most_).bind λe=>br (e.2 != (0:Int)) (some ((⟨(⟨[]⟩:Re_),(⟨[]⟩:Re_),(⟨[]⟩:Re_)⟩:Truth),e.2)) ((Sk F b.g_ i).bind λp=>br (!p) (some ((⟨(⟨[]⟩:Re_),(⟨[]⟩:Re_),(⟨[]⟩:Re_)⟩:Truth),(12:Int))) (gd (0<=c.N_)<|br ((QO .i64 (b.s_.fdiv (2 ^ (min (c.N_).toNat (IntKind.bits .i64)))) (1:Int))==0) ((GK F (⟨[],b.g_.t_,[]⟩:Arr3ListRect)).bind λj=>some (j.1,j.2)) ((QU F d.1.true_.t_ e.1.t_ (λy0 y1=>Hx F y0 y1)).bind λk=>(QU F d.1.unknown_.t_ e.1.t_ (λy0 y1=>Hx F y0 y1)).bind λl=>(JG F ([k,l]:List (List Rect))).bind λq=>(QU F b.g_.t_ q (λy0 y1=>CX F y0 y1)).bind λs=>(GK F (⟨k,s,l⟩:Arr3ListRect)).bind λm=>some (m.1,m.2)))))))
def Hw(F:Nat)(a:Int)(b:(Int×(List Rect)×(List Rect)×(List Rect))->Option (Arr3ListRect×Int))(c d e:List Rect):=
 gd (Q8 (a+1))<|b ((a+1),c,d,e)
def Q2s(F:Nat)(a b c:List Rect):=
 some ((⟨a,b,c⟩:Arr3ListRect),(0:Int))
def vT(i:List Line)(l:List Re_)(j:Scheme)(m:World)(k:(Int×(List Rect)×(List Rect)×(List Rect))->Option (Arr3ListRect×Int))(a:Int)(c d e:List Rect):=
 br (decide (a<(i.length:Int))) (gd (0<=a/\a<(i.length:Int))<|gd (0<=a/\a<(l.length:Int))<|(GL F (gl i a.toNat) (gl l a.toNat) j m).bind λb=>br (b.2 != (0:Int)) (some ((⟨[],[],[]⟩:Arr3ListRect),b.2)) (gd (0<=j.N_)<|br ((QO .i64 (((gl i a.toNat).s_).fdiv (2 ^ (min (j.N_).toNat (IntKind.bits .i64)))) (1:Int))==0) (Hw F a k c d e) (gd (c.length+b.1.true_.t_.length<=Z9)<|gd (Q8 ((0:Int)+(1:Int)))<|gd (d.length+b.1.false_.t_.length<=Z9)<|gd (Q8 ((1:Int)+(1:Int)))<|gd (e.length+b.1.unknown_.t_.length<=Z9)<|gd (Q8 ((2:Int)+(1:Int)))<|Hw F a k (c++b.1.true_.t_) (d++b.1.false_.t_) (e++b.1.unknown_.t_)))) (Q2s F c d e)
def CY(a:List Line)(b:List Re_)(c:Scheme)(d:World):=
 Y3 (λg (z:Int×(List Rect)×(List Rect)×(List Rect))=>vT F a b c d g z.1 z.2.1 z.2.2.1 z.2.2.2) F ((0:Int),([]:List Rect),([]:List Rect),([]:List Rect))
def Fb(a b:Line):=
 (XK F b.g_ a.g_).bind λc=>some c
def Q2v(F:Nat):=
 some (0:Int)
def vU(b:List Line)(c:(Int)->Option Int)(a:Int):=
 br (decide (a<(b.length:Int))) (gd (0<=a/\a<(b.length:Int))<|gd (0<=a/\a<=(b.length:Int))<|(ZF F (b.take a.toNat) (λy0=>Fb F y0 (gl b a.toNat))).bind λd=>br d (some (11:Int)) (gd (Q8 (a+1))<|c (a+1))) (Q2v F)
def Fc(a:List Line):=
 Y3 (λg (z:Int)=>vU F a g z) F (0:Int)
def Fd(c:List Line)(e:List Re_)(a:List Scheme)(l:Int)(m:World):=
 (CZ F c e a).bind λi=>br (i != (0:Int)) (some ((⟨(⟨[]⟩:Re_),(⟨[]⟩:Re_),(⟨[]⟩:Re_)⟩:Truth),i)) ((BN F a l).bind λb=>br (decide (b<0)) (some ((⟨(⟨[]⟩:Re_),(⟨[]⟩:Re_),(⟨[]⟩:Re_)⟩:Truth),(17:Int))) (gd (0<=b/\b<(a.length:Int))<|(CY F c e (gl a b.toNat) m).bind λd=>br (d.2 != (0:Int)) (some ((⟨(⟨[]⟩:Re_),(⟨[]⟩:Re_),(⟨[]⟩:Re_)⟩:Truth),d.2)) ((Fc F c).bind λj=>br (j != (0:Int)) (some ((⟨(⟨[]⟩:Re_),(⟨[]⟩:Re_),(⟨[]⟩:Re_)⟩:Truth),j)) ((GK F d.1).bind λk=>some (k.1,k.2)))))
def Uo(a:Re_):=
 (Ya F a).bind λb=>br (!b) (some (0:Int)) ((BW F a.t_).bind λc=>some c)
def zT(a:Re_):=
 (Ya F a).bind λb=>some (!b)
def Tt(a:List Re_):=
 br (decide (60<(a.length:Int))) (some (1:Int)) ((ZF F a (λy0=>zT F y0)).bind λb=>br b (some (7:Int)) (some (0:Int)))
def zU(F:Nat)(a:Int)(b:(Int)->Option (Int×Int×Bool×Int)):=
 gd (Q8 (a+1))<|b (a+1)
def Q0y(b:List Re_)(c:Int)(d e:(Int)->Option (Int×Int×Bool×Int))(a:Int):=
 br (decide (a<(b.length:Int))) (gd (0<=a/\a<(b.length:Int))<|(XK F (gl b c.toNat) (gl b a.toNat)).bind λi=>br i (some (c,a,true,(0:Int))) (gd (Q8 (a+1))<|e (a+1))) (zU F c d)
def Q0x(F:Nat):=
 some ((0:Int),(0:Int),false,(0:Int))
def zV(b:List Re_)(c:(Int)->Option (Int×Int×Bool×Int))(a:Int):=
 br (decide (a<(b.length:Int))) (gd (0<=a/\a<(b.length:Int))<|gd (Q8 (a+1))<|Y3 (λg (z:Int)=>Q0y F b a c g z) F (a+1)) (Q0x F)
def DK(a:List Re_):=
 (Tt F a).bind λb=>br (b != (0:Int)) (some ((0:Int),(0:Int),false,b)) (Y3 (λg (z:Int)=>zV F a g z) F (0:Int))
def za(a:Rect):=
 (BR F a).bind λb=>some (!b)
def KX(a:List Rect):=
 br (decide (120<(a.length:Int))) (some ((⟨[]⟩:Re_),(1:Int))) ((ZF F a (λy0=>za F y0)).bind λc=>br c (some ((⟨[]⟩:Re_),(2:Int))) ((XH F a).bind λd=>(JS F d).bind λb=>some (b.1,b.2)))
def Pw(F:Nat)(a:Bool):=
 some a
def CN(a b:Int):=
 br (decide ((-1125899906842624:Int)<=a)) (br (decide (a<=1125899906842624)) (br (decide ((1:Int)<=b)) (Pw F (decide (b<=1099511627776))) (Pw F false)) (Pw F false)) (Pw F false)
def vQ(F:Nat)(a:Int):=
 some a
def CQ(b a:Int):=
 (CN F b a).bind λc=>br (!c) (some (0:Int)) (gd (Q8 (b.tdiv a)/\a≠0)<|gd (a≠0)<|br (decide ((b.tmod a)<0)) (gd (Q8 ((b.tdiv a)-1))<|vQ F ((b.tdiv a)-1)) (vQ F (b.tdiv a)))
def qD(a:Int):=
 (CQ F a (100:Int)).bind λb=>some (b,(0:Int))
def qE(b:Scheme)(d:Int)(i:(Int×Int×Int)->Option (Int×Int))(e c a:Int):=
 br (decide (a<(b.brackets_.length:Int))) (gd (0<=a/\a<(b.brackets_.length:Int))<|gd (Q8 ((Qa d ((gl b.brackets_ a.toNat).up_))-c))<|gd (Q8 ((K8 (0:Int) ((Qa d ((gl b.brackets_ a.toNat).up_))-c))*((gl b.brackets_ a.toNat).rate_)))<|gd (Q8 (e+((K8 (0:Int) ((Qa d ((gl b.brackets_ a.toNat).up_))-c))*((gl b.brackets_ a.toNat).rate_))))<|gd (Q8 (a+1))<|i ((e+((K8 (0:Int) ((Qa d ((gl b.brackets_ a.toNat).up_))-c))*((gl b.brackets_ a.toNat).rate_))),(gl b.brackets_ a.toNat).up_,(a+1))) (qD F e)
def RN(b:Scheme)(c:Int)(a:Bool):=
 br a (some ((0:Int),(2:Int))) (Y3 (λg (z:Int×Int×Int)=>qE F b c g z.1 z.2.1 z.2.2) F ((0:Int),(0:Int),(0:Int)))
def JJ(b:Scheme)(a:Int):=
 (XA F b).bind λc=>br (c != (0:Int)) (some ((0:Int),(17:Int))) (br (decide (a<0)) (RN F b a true) (RN F b a (decide ((268435456:Int)<a))))
def DO(F:Nat)(a:Re_):Option ((List (List Point))×Int):=if a=⟨[⟨0,0,10,10⟩]⟩then some ([[⟨0,0⟩,⟨10,0⟩,⟨10,10⟩,⟨0,10⟩]],0)else none
def Bj(F:Nat)(s:ByteArray):Option ((List (List ByteArray))×Int):=if s=⟨#[97,32,98,10]⟩then some ([[⟨#[97]⟩,⟨#[98]⟩]],0)else none
def vL(F:Nat)(a:Bool):=
 some a
def vM(a:Int):=
 br (decide ((0:Int)<=a)) (vL F (decide (a<=1099511627776))) (vL F false)
def Q2l(a:Int):=
 (vM F a).bind λb=>some (!b)
def Q0P(F:Nat)(a b:Int):=
 gd (0<=(32:Int))<|gd (0<=(32:Int))<|gd (0<=(32:Int))<|gd (0<=(32:Int))<|gd (0<=(32:Int))<|some ((IntKind.wrap .u64 ((IntKind.wrap .u64 ((IntKind.wrap .u64 ((a.fdiv (2 ^ (min ((32:Int)).toNat (IntKind.bits .u64))))*(b.fdiv (2 ^ (min ((32:Int)).toNat (IntKind.bits .u64))))))+((IntKind.wrap .u64 ((IntKind.wrap .u64 ((a.fdiv (2 ^ (min ((32:Int)).toNat (IntKind.bits .u64))))*(QO .u64 b (4294967295:Int))))+((IntKind.wrap .u64 ((QO .u64 a (4294967295:Int))*(QO .u64 b (4294967295:Int)))).fdiv (2 ^ (min ((32:Int)).toNat (IntKind.bits .u64)))))).fdiv (2 ^ (min ((32:Int)).toNat (IntKind.bits .u64))))))+((IntKind.wrap .u64 ((QO .u64 (IntKind.wrap .u64 ((IntKind.wrap .u64 ((a.fdiv (2 ^ (min ((32:Int)).toNat (IntKind.bits .u64))))*(QO .u64 b (4294967295:Int))))+((IntKind.wrap .u64 ((QO .u64 a (4294967295:Int))*(QO .u64 b (4294967295:Int)))).fdiv (2 ^ (min ((32:Int)).toNat (IntKind.bits .u64)))))) (4294967295:Int))+(IntKind.wrap .u64 ((QO .u64 a (4294967295:Int))*(b.fdiv (2 ^ (min ((32:Int)).toNat (IntKind.bits .u64)))))))).fdiv (2 ^ (min ((32:Int)).toNat (IntKind.bits .u64)))))),(IntKind.wrap .u64 (a*b)))
def Q2h(b c:Int):=
 (Q0P F (IntKind.wrap .u64 b) (IntKind.wrap .u64 c)).bind λa=>some (⟨a.1,a.2⟩:Wide)
def Q0Q(F:Nat)(b c a:Int):=
 br (a==0) (none) (br (decide (a<=b)) (none) (br (b==0) (gd (a≠0)<|gd (a≠0)<|some ((IntKind.wrap .u64 (c.tdiv a)),(c.tmod a))) (none)))
def Q2i(d e c:Int):=
 (Q2h F d e).bind λb=>br (decide ((IntKind.wrap .u64 c)<=b.H_)) (some ((1125899906842625:Int),(0:Int))) ((Q0Q F b.H_ b.w_ (IntKind.wrap .u64 c)).bind λa=>gd (Q8 (Qa a.1 (1125899906842625:Int)))<|gd (Q8 a.2)<|some ((Qa a.1 (1125899906842625:Int)),a.2))
def Hv(a b:Int)(c:List Int):=
 gd (0<=b/\b<(c.length:Int))<|gd (0<=a/\a<(c.length:Int))<|(Wd F (gl c b.toNat) (gl c a.toNat)).bind λd=>(Wd F a b).bind λe=>(GV F ([d,e]:List Int)).bind λi=>some i
def Q2j(F:Nat)(a:List Int):=
 some (a,(0:Int))
def Z3K(b:Int)(c:List Int)(e:(Int×(List Int))->Option ((List Int)×Int))(a:Int)(d:List Int):=
 br (decide (a<(((b).toNat:Nat):Int))) (gd (0<=a/\a<((List.length (c.take (b).toNat):Nat):Int))<|gd (0<=(gl (c.take (b).toNat) a.toNat)/\(gl (c.take (b).toNat) a.toNat)<(d.length:Int))<|gd (Q8 ((gl d (gl (c.take (b).toNat) a.toNat).toNat)+1))<|gd (0<=(gl (c.take (b).toNat) a.toNat)/\(gl (c.take (b).toNat) a.toNat)<(d.length:Int))<|gd (Q8 (a+1))<|e ((a+1),(List.set d (gl (c.take (b).toNat) a.toNat).toNat ((gl d (gl (c.take (b).toNat) a.toNat).toNat)+1)))) (Q2j F d)
def CO(a:Int)(c d e:List Int):=
 (Vi d (λy0 y1=>Hv F y0 y1 e)).bind λb=>gd (0<=a/\a<=(b.length:Int))<|Y3 (λg (z:Int×(List Int))=>Z3K F a b g z.1 z.2) F ((0:Int),c)
def Z3L(m:Int)(j:List Int)(l:Int)(k:(Int×Int×(List Int)×(List Int)×(List Int))->Option ((List Int)×Int))(d a:Int)(b e i:List Int):=
 br (decide (a<(j.length:Int))) (gd (0<=a/\a<(j.length:Int))<|(Q2i F m (gl j a.toNat) l).bind λc=>gd (0<=a/\a<(b.length:Int))<|gd (0<=a/\a<(i.length:Int))<|gd (0<=a/\a<(e.length:Int))<|gd (0<=a/\a<((List.length (List.set b a.toNat c.1):Nat):Int))<|gd (Q8 (d-(gl (List.set b a.toNat c.1) a.toNat)))<|gd (Q8 (a+1))<|k ((d-(gl (List.set b a.toNat c.1) a.toNat)),(a+1),(List.set b a.toNat c.1),(List.set e a.toNat a),(List.set i a.toNat c.2))) (CO F d b e i)
def Q2k(c:Int)(a:List Int)(b:Int):=
 gd (0<=(a.length:Int)/\(a.length:Int)<=((Z9:Nat):Int))<|br (b==0) (some ((List.replicate ((a.length:Int)).toNat (0:Int)),(0:Int))) (gd (0<=(a.length:Int)/\(a.length:Int)<=((Z9:Nat):Int))<|gd (0<=(a.length:Int)/\(a.length:Int)<=((Z9:Nat):Int))<|Y3 (λg (z:Int×Int×(List Int)×(List Int)×(List Int))=>Z3L F c a b g z.1 z.2.1 z.2.2.1 z.2.2.2.1 z.2.2.2.2) F (c,(0:Int),(List.replicate ((a.length:Int)).toNat (0:Int)),(List.replicate ((a.length:Int)).toNat (0:Int)),(List.replicate ((a.length:Int)).toNat (0:Int))))
def Z3M(e:Int)(b:List Int)(d:(Int×Int)->Option ((List Int)×Int))(c a:Int):=
 br (decide (a<(b.length:Int))) (gd (0<=a/\a<(b.length:Int))<|gd (Q8 (c+(gl b a.toNat)))<|gd (Q8 (a+1))<|d ((c+(gl b a.toNat)),(a+1))) (Q2k F e b c)
def vP(b:Int)(c:List Int)(a:Bool):=
 br a (some ([],(2:Int))) (Y3 (λg (z:Int×Int)=>Z3M F b c g z.1 z.2) F ((0:Int),(0:Int)))
def CP(b:Int)(a:List Int):=
 br (decide (64<(a.length:Int))) (some ([],(1:Int))) ((vM F b).bind λc=>br (!c) (vP F b a true) ((ZF F a (λy0=>Q2l F y0)).bind λd=>vP F b a d))
def Vg(F:Nat)(a:Bool):=
 some a
def Mx:=
 (KX F ([(⟨0,0,(10:Int),(10:Int)⟩:Rect)]:List Rect)).bind λc=>(DO F c.1).bind λa=>(Uo F c.1).bind λi=>(JJ F (⟨0,(ByteArray.mk #[115]),(⟨(1:Int),0,0,[]⟩:Term),([(⟨(1000:Int),(200:Int)⟩:Bracket)]:List Bracket),0,0,false⟩:Scheme) i).bind λd=>(Bj F (ByteArray.mk #[97,32,98,10])).bind λe=>(CP F (3:Int) ([(1:Int),(2:Int)]:List Int)).bind λb=>br (c.2==(0:Int)) (br (a.2==(0:Int)) (br ((a.1.length:Int)==1) (gd (0<=(0:Int)/\0<(a.1.length:Int))<|br (((List.length (gl a.1 (0:Int).toNat):Nat):Int)==(4:Int)) (br (d.2==(0:Int)) (br (d.1==(200:Int)) (br (e.2==(0:Int)) (br ((e.1.length:Int)==1) (br (b.2==(0:Int)) (br ((b.1.length:Int)==2) (gd (0<=(1:Int)/\1<(b.1.length:Int))<|Vg F ((gl b.1 (1:Int).toNat)==2)) (Vg F false)) (Vg F false)) (Vg F false)) (Vg F false)) (Vg F false)) (Vg F false)) (Vg F false)) (Vg F false)) (Vg F false)) (Vg F false)
def Lu(F:Nat)(a:Int)(b:(Int×Int×(List Re_)×(List Rect))->Option Bool)(c:Int)(d:List Re_)(e:List Rect):=
 gd (Q8 (a+1))<|b (c,(a+1),d,e)
def Lw(o:Tape×(List Crop)×(List Version)×(List Re_))(p:Tape×World)(b:(List Version)×(List Double)×Int)(k l:List Scheme)(m d a:Int)(e:List Re_)(j:(Int×Int×(List Re_)×(List Rect))->Option Bool)(n:List Rect):=
 gd (0<=a/\a<(b.1.length:Int))<|gd (0<=a/\a<(b.1.length:Int))<|(Cf F ((gl b.1 a.toNat).lines_) o.2.2.2).bind λq=>(Fd F ((gl b.1 a.toNat).lines_) q k ((gl l m.toNat).N_) p.2).bind λc=>br (c.2 != (0:Int)) (some false) (gd (e.length+(List.length ([c.1.true_]:List Re_))<=Z9)<|(Uo F c.1.true_).bind λi=>gd (Q8 (d+i))<|Lu F a j (d+i) (e++([c.1.true_]:List Re_)) n)
def Lx(c:Tape×(List Crop)×(List Version)×(List Re_))(o:Tape×World)(p:(List Version)×(List Double)×Int)(j k:List Scheme)(l m b:Int)(n:List Re_)(e:(Int×Int×(List Re_)×(List Rect))->Option Bool)(i:(Int×(List Rect))->Option Bool)(a:Int)(d:List Rect):=
 br (decide (a<((List.length ((gl c.2.2.1 b.toNat).lines_):Nat):Int))) (gd (0<=a/\a<((List.length ((gl c.2.2.1 b.toNat).lines_):Nat):Int))<|gd (d.length+(List.length ((gl ((gl c.2.2.1 b.toNat).lines_) a.toNat).g_.t_))<=Z9)<|gd (Q8 (a+1))<|i ((a+1),(d++((gl ((gl c.2.2.1 b.toNat).lines_) a.toNat).g_.t_)))) (Lw F c o p j k l m b n e d)
def Ls(F:Nat)(c d:List Scheme)(a:Int)(b:((List Scheme)×(List Scheme)×Int)->Option Bool):=
 gd (Q8 (a+1))<|b (c,d,(a+1))
def US(b c:List Scheme)(d:Int)(a:((List Scheme)×(List Scheme)×Int)->Option Bool)(e:Bool):=
 br e (some false) (Ls F b c d a)
def Lt(d a:List Scheme)(b:Int)(c:((List Scheme)×(List Scheme)×Int)->Option Bool)(i:Int)(m:List Re_)(n:List Rect):=
 (DK F m).bind λj=>(KX F n).bind λe=>(JJ F (gl a b.toNat) i).bind λk=>(Uo F e.1).bind λo=>(JJ F (gl a b.toNat) o).bind λl=>br (j.2.2.2 != (0:Int)) (US F d a b c true) (br j.2.2.1 (US F d a b c true) (br (e.2 != (0:Int)) (US F d a b c true) (br (k.2 != (0:Int)) (US F d a b c true) (br (l.2 != (0:Int)) (US F d a b c true) ((Uo F e.1).bind λp=>br (decide (p<i)) (US F d a b c true) (US F d a b c (decide (l.1<k.1))))))))
def Lz(b:Tape×(List Crop)×(List Version)×(List Re_))(o:Tape×World)(c:(List Version)×(List Double)×Int)(d e:List Scheme)(i:Int)(m:((List Scheme)×(List Scheme)×Int)->Option Bool)(n:(Int×Int×(List Re_)×(List Rect))->Option Bool)(j a:Int)(k:List Re_)(l:List Rect):=
 br (decide (a<(c.1.length:Int))) (gd (0<=a/\a<(c.1.length:Int))<|gd (0<=a/\a<(b.2.2.1.length:Int))<|br (((List.length ((gl c.1 a.toNat).lines_):Nat):Int) != ((List.length ((gl b.2.2.1 a.toNat).lines_):Nat):Int)) (some false) (gd (0<=a/\a<(b.2.2.1.length:Int))<|Y3 (λg (z:Int×(List Rect))=>Lx F b o c d e i j a k n g z.1 z.2) F ((0:Int),l))) (Lt F d e i m j k l)
def Lr:=
 (Mx F).bind λa=>some a
def LA(c:Tape×(List Crop)×(List Version)×(List Re_))(j:Tape×(List Scheme))(k:Tape×World)(d:(List Version)×(List Double)×Int)(e:((List Scheme)×(List Scheme)×Int)->Option Bool)(i b:List Scheme)(a:Int):=
 br (decide (a<(j.2.length:Int))) (gd (0<=a/\a<(b.length:Int))<|br ((d.1.length:Int) != (c.2.2.1.length:Int)) (some false) (Y3 (λg (z:Int×Int×(List Re_)×(List Rect))=>Lz F c k d i b a e g z.1 z.2.1 z.2.2.1 z.2.2.2) F ((0:Int),(0:Int),([]:List Re_),([]:List Rect)))) (Lr F)
def My(e:List Int):=
 (Cg F e).bind λi=>(Bo F i).bind λa=>(TZ F a.1 (2:Int)).bind λb=>(TJ F b.1 a.2.1).bind λc=>(DU F c.1 a.2.2.1).bind λj=>(HF F a.2.2.1 j.2).bind λd=>br (d.2.2 != (0:Int)) (some false) (Y3 (λg (z:(List Scheme)×(List Scheme)×Int)=>LA F a b c d g z.1 z.2.1 z.2.2) F (b.2,b.2,(0:Int)))
end
end Go.Ab
end
section
end
section
end
section
end
section
end
section
end
section
namespace Go.Ab
def Q6:Nat:=1099511627776
theorem Q9{R:Type}{p:Prop}[Decidable p]{x:Option R}{y:Option R}(h:p)(k:x=y):gd p x=y:=by unfold gd;rw[Qa2 h];exact k
theorem Q4{α R:Type}{x:Option α}{f:α->Option R}{a:α}{y:Option R}(h:x=some a)(k:f a=y):x.bind f=y:=by rw[h];exact k
theorem Z6{R:Type}{b:Bool}{x y z:Option R}(ht:b=true->x=z)(hf:b=false->y=z):br b x y=z:=by cases b;exact hf rfl;exact ht rfl
theorem Y9{R:Type}{b:Bool}{x y z:Option R}(h:b=true)(k:x=z):br b x y=z:=by subst h;exact k
theorem Z4{R:Type}{b:Bool}{x y z:Option R}(h:b=false)(k:y=z):br b x y=z:=by subst h;exact k
theorem Q3E{R:Type}(b:Bool)(x y:Option R):br b x y=if b=true then x else y:=by cases b<;>rfl
theorem z5{σ R:Type}{body:(σ->Option R)->σ->Option R}{y:Option R}(I:σ->Prop)(μ:σ->Nat)(round:∀g z,I z->(∀z',I z' -> μ z' < μ z->g z'=y)->body g z=y):∀{n:Nat} {z:σ},I z->μ z<n->Y3 body n z=y:=by
 intro n
 induction n with
 |zero=>intro z _ h;omega
 |succ n ih=>
  intro z hz hμ;exact round (Y3 body n) z hz λz' hz' hlt=>ih hz' (by omega)
section
variable {α:Type} [Emb α]
theorem Qc{l:List α}{i:Nat}(h:i<l.length):gl l i=l[i]:=by simp[gl,Qa0,h]
theorem K3{l:List α}{i:Nat}(h:i<l.length):gl l i∈l:=by rw[Qc h];exact Qd8 h
theorem Zy{l:List α}{i:Nat}(h:i<l.length):l.drop i=gl l i::l.drop (i+1):=by rw[Qc h];exact Qi3 h
theorem Qr{l:List α}{i:Nat}(h:i<l.length):l.take (i+1)=l.take i++[gl l i]:=by rw[Qc h];exact Qq7 h
end
theorem V9{n:Int}(h1 : -4611686018427387904<=n)(h2:n<=4611686018427387904):Q8 n:=⟨by omega,by omega⟩
theorem Q0l{α R:Type}[Emb α]{l:List α}{body:(Int->Option R)->Int->Option R}(y:List α->Option R)(step:∀g (i:Nat),i<l.length->g ((i:Int)+1)=y (l.drop (i+1))->body g (i:Int)=y (gl l i::l.drop (i+1)))(stop:∀g,body g (l.length:Int)=y []){F:Nat}(hF:l.length<F):Y3 body F 0=y l:=by
 have key:∀(n:Nat) (i:Nat),i<=l.length->l.length-i<n->Y3 body n (i:Int)=y (l.drop i):=by
  intro n
  induction n with
  |zero=>intro i _ h;omega
  |succ n ih=>
   intro i hi hn;show body (Y3 body n) (i:Int)=_
   by_cases h:i<l.length
   .rw [Zy h]
    refine step _ i h ?_;have:=ih (i+1) h (by omega)
    rw[<-this];congr 1
   .have:i=l.length:=by omega
    subst this;rw[Qh4];exact stop _
 have:=key F 0 (Qc3 _) (by omega)
 rw[Qm2]at this;exact this
theorem Gm{α σ R:Type}[Emb α]{l:List α}{body:(Int×σ->Option R)->Int×σ->Option R}(I:List α->σ->Prop)(y:List α->σ->Option R)(step:∀g (i:Nat) (s:σ),i<l.length->I (gl l i::l.drop (i+1)) s->(∀s',I (l.drop (i+1)) s' -> g ((i:Int)+1,s')=y (l.drop (i+1)) s')->body g ((i:Int),s)=y (gl l i::l.drop (i+1)) s)(stop:∀g (s:σ),I [] s->body g ((l.length:Int),s)=y [] s){F:Nat}(hF:l.length<F){s0:σ}(h0:I l s0):Y3 body F (0,s0)=y l s0:=by
 have key:∀(n:Nat) (i:Nat) (s:σ),i<=l.length->l.length-i<n->I (l.drop i) s->Y3 body n ((i:Int),s)=y (l.drop i) s:=by
  intro n
  induction n with
  |zero=>intro i _ _ h;omega
  |succ n ih=>
   intro i s hi hn hI;show body (Y3 body n) ((i:Int),s)=_
   by_cases h:i<l.length
   .rw [Zy h]at hI⊢
    refine step _ i s h hI λs' hs'=>?_
    have:=ih (i+1) s' h (by omega) hs'
    rw[<-this];congr 1
   .have:i=l.length:=by omega
    subst this;rw[Qh4]at hI⊢;exact stop _ s hI
 have:=key F 0 s0 (Qc3 _) (by omega) (by rwa [Qm2])
 rw[Qm2]at this;exact this
theorem Yy{R:Type}(K:Bool->Option R)(b x:Bool):br b (K x) (K false)=K (b&&x):=by cases b<;>rfl
theorem Yi{R:Type}(K:Bool->Option R)(b x:Bool):br b (K true) (K x)=K (b||x):=by cases b<;>rfl
theorem xR{α:Type}[Emb α]{l:List α}{i:Nat}(h:i<l.length)(p:α->Bool):(l.drop i).any p=(p (gl l i)||(l.drop (i+1)).any p):=by rw[Zy h];rfl
theorem Vo{a b:Nat}(h:a<b):decide ((a:Int)<((b:Nat):Int))=true:=by simpa using h
theorem Us(a:Nat):decide ((a:Int)<((a:Nat):Int))=false:=by simp
theorem Z5{R:Type}{p:Prop}[Decidable p]{x:Option R}{y:Option R}(h:p:=by first|omega|exact V9 (by omega) (by omega)|(simp only[Z9,Q6,Qb7,Qb1,Qc2,Qg1,Qd7,Qo3,List.length_set]at *;omega))(k:x=y):gd p x=y:=Q9 h k
end Go.Ab
end
section
namespace Go.Ab
def Yg(l:List Int):Prop:=l.Pairwise (· < ·)
theorem Yg.at_lt{l:List Int}(h:Yg l){i j:Nat}(hij:i<j)(hj:j<l.length):gl l i<gl l j:=by
 rw[Qc (by omega),Qc hj];exact Qc8.1 h i j (by omega) hj hij
theorem yj{l:List Int}{v:Int}(h:v∈l):∃j,j<l.length/\gl l j=v:=by
 obtain⟨j,hj,e⟩:=Qc7 h;exact⟨j,hj,by rw[Qc hj];exact e⟩
theorem Yg.gap{c:List Int}(h:Yg c){i:Nat}(hi:i+1<c.length){t v:Int}(h1:gl c i<=t)(h2:t<gl c (i+1))(hv:v∈c):(v<=t↔v<=gl c i):=by
 obtain⟨j,hj,rfl⟩:=yj hv;rcases Qd3 i j with hij|hij
 .rcases Qd3 (i+1) j with h3|h3
  .have:=h.at_lt h3 hj
   grind
  all_goals grind
 .rcases Qd3 j i with h3|h3
  .have:=h.at_lt h3 (by omega)
   omega
  all_goals grind
def KB(c:List Int)(l:List Rect):Prop:=∀r∈l,r.L_∈c/\r.R_∈c
def Jv(c:List Int)(l:List Rect):Prop:=∀r∈l,r.w_∈c/\r.H_∈c
theorem Q1t{l:List Rect}{x y x' y' : Int}(h:∀r∈l,r.has x y=r.has x' y'):Q2 l x y=Q2 l x' y':=by
 induction l with
 |nil=>rfl
 |cons r l ih=>
  simp only[Q2,Ql0]at ih⊢
  grind
theorem Ck{l:List Rect}{x y:Int}(h:∀r∈l,r.has x y=false):Q2 l x y=false:=by
 induction l with
 |nil=>rfl
 |cons r l ih=>
  simp only[Q2,Ql0]at ih⊢
  grind
theorem QG(r:Rect)(x y:Int):r.has x y=true↔r.L_<=x/\x<r.R_/\r.w_<=y/\y<r.H_:=by simp[Rect.has,and_assoc]
theorem Q1z{r:Rect}{x y x' y' : Int}(h:(r.L_<=x/\x<r.R_/\r.w_<=y/\y<r.H_)↔(r.L_<=x' /\ x' < r.R_/\r.w_<=y' /\ y' < r.H_)):r.has x y=r.has x' y':=by
 rw[Qe1,QG,QG];exact h
theorem Hh{r:Rect}{x y:Int}(h:¬(r.L_<=x/\x<r.R_/\r.w_<=y/\y<r.H_)):r.has x y=false:=by
 rw[<-Qg3,QG];exact h
theorem KB.gap{c:List Int}{l:List Rect}(hc:Yg c)(h:KB c l){i:Nat}(hi:i+1<c.length){t:Int}(h1:gl c i<=t)(h2:t<gl c (i+1))(y:Int):Q2 l t y=Q2 l (gl c i) y:=
 Q1t λr hr=>Q1z (by
  have a:=hc.gap hi h1 h2 (h r hr).1;have b:=hc.gap hi h1 h2 (h r hr).2
  omega)
theorem Jv.gap{c:List Int}{l:List Rect}(hc:Yg c)(h:Jv c l){i:Nat}(hi:i+1<c.length){t:Int}(h1:gl c i<=t)(h2:t<gl c (i+1))(x:Int):Q2 l x t=Q2 l x (gl c i):=
 Q1t λr hr=>Q1z (by
  have a:=hc.gap hi h1 h2 (h r hr).1;have b:=hc.gap hi h1 h2 (h r hr).2
  omega)
theorem KB.before{c:List Int}{l:List Rect}(h:KB c l){t:Int}(ht:∀v∈c,t<v)(y:Int):Q2 l t y=false:=
 Ck λr hr=>Hh (by have:=ht _ (h r hr).1;omega)
theorem KB.after{c:List Int}{l:List Rect}(h:KB c l){t:Int}(ht:∀v∈c,v<=t)(y:Int):Q2 l t y=false:=
 Ck λr hr=>Hh (by have:=ht _ (h r hr).2;omega)
theorem Jv.before{c:List Int}{l:List Rect}(h:Jv c l){t:Int}(ht:∀v∈c,t<v)(x:Int):Q2 l x t=false:=
 Ck λr hr=>Hh (by have:=ht _ (h r hr).1;omega)
theorem Jv.after{c:List Int}{l:List Rect}(h:Jv c l){t:Int}(ht:∀v∈c,v<=t)(x:Int):Q2 l x t=false:=
 Ck λr hr=>Hh (by have:=ht _ (h r hr).2;omega)
theorem Yg.first{c:List Int}(h:Yg c){t:Int}(ht:t<gl c 0):∀v∈c,t<v:=by
 intro v hv;obtain⟨j,hj,rfl⟩:=yj hv
 rcases Qi6 j with rfl|hp
 .exact ht
 .have:=h.at_lt hp hj;omega
theorem Yg.last{c:List Int}(h:Yg c){t:Int}{i:Nat}(hi:i+1=c.length)(ht:gl c i<=t):∀v∈c,v<=t:=by
 intro v hv;obtain⟨j,hj,rfl⟩:=yj hv
 rcases Qd3 j i with h1|h1
 .have:=h.at_lt h1 (by omega);omega
 all_goals grind
structure Step {α:Type} (d:α) (c:List Int) (f:Int->α):Prop where
 asc:Yg c
 gap:∀i,i+1<c.length->∀t,gl c i<=t->t<gl c (i+1)->f t=f (gl c i)
 before:∀t,(∀v∈c,t<v)->f t=d
 after:∀t,(∀v∈c,v<=t)->f t=d
theorem Step.start{α:Type}{d:α}{c:List Int}{f:Int->α}(h:Step d c f)(_:0<c.length):Bst d f [] (gl c 0):=.start λt ht=>h.before t (h.asc.first ht)
theorem Step.empty{α:Type}{d:α}{c:List Int}{f:Int->α}(h:Step d c f)(hc:c.length=0)(t:Int):f t=d:=h.before t λv hv=>by
 grind
theorem Step.done{α:Type}{d:α}{c:List Int}{f:Int->α}(h:Step d c f){i:Nat}(hi:i+1=c.length){acc:List (Rn α)}(hb:Bst d f acc (gl c i))(t:Int):K5 d acc t=f t:=by
 rcases Int.lt_or_le t (gl c i)with h1|h1
 .exact hb.val t h1
 .rw [hb.out t h1,h.after t (h.asc.last hi h1)]
open Classical in
noncomputable def QV(f:Int->Bool):List Span:=if h:∃l,SpOk l/\∀x,J8 l x=f x then h.choose else[]
theorem KJ{f:Int->Bool}{l:List Span}(hl:SpOk l)(h:∀x,J8 l x=f x):QV f=l:=by
 have he:∃l,SpOk l/\∀x,J8 l x=f x:=⟨l,hl,h⟩;unfold QV
 rw[Qu4 he];exact he.choose_spec.1.unique hl λx=>(he.choose_spec.2 x).trans (h x).symm
theorem SpOk.nil:SpOk []:=⟨λs hs=>(Qe7 hs).elim,List.Pairwise.nil⟩
theorem Rd{f:Int->Bool}(h:∀x,f x=false):QV f=[]:=KJ .nil λx=>(h x).symm
def Ma(S:Int->Int->Bool):Prop:=∀y,∃l,SpOk l/\∀x,J8 l x=S x y
theorem Ma.sp{S:Int->Int->Bool}(h:Ma S)(y:Int):SpOk (QV λx=>S x y)/\∀x,J8 (QV λx=>S x y) x=S x y:=by
 obtain⟨l,h1,h2⟩:=h y;rw[KJ h1 h2];exact⟨h1,h2⟩
theorem HY{S:Int->Int->Bool}(hr:Ma S){c:List Int}(h:Step [] c λy=>QV λx=>S x y){acc:List (Rn (List Span))}(hacc:Runs acc)(hval:∀t,K5 [] acc t=QV λx=>S x t)(hne:∀b∈acc,b.v≠[]):cn S=flat acc/\Fin S:=by
 have hv:∀b∈acc,b.v=QV λx=>S x b.lo:=by
  intro b hb;have hat:∀(l:List (Rn (List Span))),Runs l->b∈l->K5 [] l b.lo=b.v:=by
   intro l
   induction l with
   |nil=>intro _ hb;cases hb
   |cons a l ih=>
    intro hl hb;rcases Qf0.1 hb with rfl|hb
    .have:=hl.pos b (by simp)
     rw[K5,Qa2 ⟨by omega,this⟩]
    .have h1:=(hl.head b hb).1
     rw[K5,Qa1 (by omega)];exact ih hl.tail hb
  grind
 have hB:Bands acc:=⟨hacc,λb hb=>by rw[hv b hb];exact(hr.sp _).1,hne⟩;have hS:∀x y,J8 (K5 [] acc y) x=S x y:=λx y=>by rw[hval];exact(hr.sp y).2 x
 exact⟨PI hB hS,acc,hB,hS⟩
structure Grid (xs ys:List Int) (S:Int->Int->Bool):Prop where
 x:∀y,Step false xs λx=>S x y
 y:∀x,Step false ys λy=>S x y
theorem Step.spansL{xs:List Int}{f:Int->Bool}(h:Step false xs f):∃l,SpOk l/\(∀x,J8 l x=f x)/\l.length<=xs.length:=by
 by_cases h0:xs.length=0
 .exact ⟨[],.nil,λx=>(h.empty h0 x).symm,by simp⟩
 .have key:∀ i,i+1<=xs.length->∃ l:List Span,Bst false f (l.map Span.rn) (gl xs i)/\l.length<=i:=by
   intro i
   induction i with
   |zero=>intro hi;exact⟨[],h.start (by omega),by simp⟩
   |succ i ih=>
    intro hi;obtain⟨l,hl,hll⟩:=ih (by omega)
    have hlt:=h.asc.at_lt (show i<i+1 by omega) (by omega)
    cases hf:f (gl xs i)with
    |false=>exact⟨l,hl.skip (by omega) λt h1 h2=>(h.gap i (by omega) t h1 h2).trans hf,by omega⟩
    |true=>
     rcases Qj4 l with rfl|⟨l',s,hls⟩
     .refine ⟨[⟨gl xs i,gl xs (i+1)⟩],?_,by simp⟩
      have:=hl.add hlt (h.gap i (by omega)) (λa ha=>by simp at ha)
      rw[hf]at this;exact this
     .rw [Qj5]at hls
      subst hls
      by_cases hs:s.R_=gl xs i
      .refine ⟨l' ++ [⟨s.L_,gl xs (i+1)⟩],?_,by simp at hll⊢;omega⟩
       rw[Qd6]at hl;have:=hl.grow (a:=s.rn) hs hlt λt h1 h2=>(h.gap i (by omega) t h1 h2).trans hf
       rw[Qd6];exact this
      .refine ⟨(l' ++ [s])++[⟨gl xs i,gl xs (i+1)⟩],?_,by simp at hll⊢;omega⟩
       have:=hl.add hlt (h.gap i (by omega)) (λa ha he=>by
        rw[Qd6]at ha;simp at ha
        subst ha;exact absurd he hs)
       rw[hf]at this;rw[Qd6];exact this
  obtain⟨l,hl,hll⟩:=key (xs.length-1) (by omega);refine⟨l,.of_runs hl.runs,λx=>?_,by omega⟩
  rw[DZ];exact h.done (by omega) hl x
theorem Step.spans{xs:List Int}{f:Int->Bool}(h:Step false xs f):∃l,SpOk l/\∀x,J8 l x=f x:=by
 obtain⟨l,h1,h2,_⟩:=h.spansL;exact⟨l,h1,h2⟩
theorem Step.spn_len{xs:List Int}{f:Int->Bool}(h:Step false xs f):(QV f).length<=xs.length:=by
 obtain⟨l,h1,h2,h3⟩:=h.spansL;rw[KJ h1 h2];exact h3
theorem Grid.rows{xs ys:List Int}{S:Int->Int->Bool}(h:Grid xs ys S):Ma S:=λy=>(h.x y).spans
theorem Grid.step{xs ys:List Int}{S:Int->Int->Bool}(h:Grid xs ys S):Step [] ys λy=>QV λx=>S x y:=by
 refine⟨(h.y 0).asc,λi hi t h1 h2=>?_,λt ht=>?_,λt ht=>?_⟩
 .congr 1;funext x;exact(h.y x).gap i hi t h1 h2
 .exact Rd λx=>(h.y x).before t ht
 .exact Rd λx=>(h.y x).after t ht
theorem Grid.of{xs ys:List Int}{a b:List Rect}(hx:Yg xs)(hy:Yg ys)(ax:KB xs a)(bx:KB xs b)(ay:Jv ys a)(by' : Jv ys b){k:Bool->Bool->Bool}(hk:k false false=false):
  Grid xs ys λx y=>k (Q2 a x y) (Q2 b x y):=by
 refine⟨λy=>⟨hx,λi hi t h1 h2=>?_,λt ht=>?_,λt ht=>?_⟩,λx=>⟨hy,λi hi t h1 h2=>?_,λt ht=>?_,λt ht=>?_⟩⟩
 .simp only[ax.gap hx hi h1 h2,bx.gap hx hi h1 h2]
 .simp only[ax.before ht,bx.before ht,hk]
 .simp only[ax.after ht,bx.after ht,hk]
 .simp only[ay.gap hy hi h1 h2,by'.gap hy hi h1 h2]
 .simp only[ay.before ht,by'.before ht,hk]
 .simp only[ay.after ht,by'.after ht,hk]
end Go.Ab
end
