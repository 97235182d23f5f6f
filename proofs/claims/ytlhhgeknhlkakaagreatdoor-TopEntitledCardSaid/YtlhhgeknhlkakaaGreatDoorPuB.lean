/- The code that the statement reaches as plain programs, and what they compute. -/
import Derived.Test.YtlhhgeknhlkakaaGreatDoorAbC
import Derived.Test.YtlhhgeknhlkakaaGreatDoorPuA
set_option linter.unusedVariables false
set_option linter.unusedSimpArgs false
section
namespace Go.Ab
set_option maxRecDepth 100000
noncomputable section
structure Crop where
 n_:ByteArray
 f_:Int
 m_:Int
 deriving DecidableEq
instance:Emb Crop:=⟨λx=>[.str x.n_,.int .i64 x.f_,.int .i64 x.m_],3,⟨ByteArray.empty,0,0⟩,λ_=>rfl⟩
instance:Emb Rect:=⟨λx=>[.int .i64 x.L_,.int .i64 x.w_,.int .i64 x.R_,.int .i64 x.H_],4,⟨0,0,0,0⟩,λ_=>rfl⟩
structure Re_ where
 t_:(List Rect)
 deriving DecidableEq
instance:Emb Re_:=⟨λx=>[DL x.t_],1,⟨[]⟩,λ_=>rfl⟩
structure Line where
 p_:Int
 g_:Re_
 c_:Int
 s_:Int
 deriving DecidableEq
instance:Emb Line:=⟨λx=>[.int .i64 x.p_,DL x.g_.t_,.int .i64 x.c_,.int .i64 x.s_],4,⟨0,⟨[]⟩,0,0⟩,λ_=>rfl⟩
structure Version where
 day_:Int
 lines_:(List Line)
 deriving DecidableEq
instance:Emb Version:=⟨λx=>[.int .i64 x.day_,DL x.lines_],2,⟨0,[]⟩,λ_=>rfl⟩
structure Term where
 op_:Int
 num_:Int
 more_:Int
 kids_:(List Term)
def Term.d0(x:Term):DVal:=if x.op_=(2 ^ 64)then .any else .int .i64 x.op_
def Term.d1(x:Term):DVal:=if x.op_=(2 ^ 64)then .any else .int .i64 x.num_
def Term.d2(x:Term):DVal:=if x.op_=(2 ^ 64)then .any else .int .i64 x.more_
def Term.d3:Term->DVal
 |⟨a0,a1,a2,a3⟩=>if a0=(2 ^ 64)then .any else .lst a3.length (λi=>if h:i<a3.length then[Term.d0 a3[i],Term.d1 a3[i],Term.d2 a3[i],Term.d3 a3[i]]else[.any,.any,.any,.any])
decreasing_by
 have:=List.sizeOf_lt_of_mem (Qf6 h)
 simp only[Term.mk.sizeOf_spec];omega
instance:Emb Term:=⟨λx=>[x.d0,x.d1,x.d2,x.d3],4,⟨(2 ^ 64),0,0,[]⟩,λ_=>rfl⟩
theorem Pf{x:Term}(h:Q5 x.op_):Emb.cells x=[.int .i64 x.op_,.int .i64 x.num_,.int .i64 x.more_,DL x.kids_]:=by
 obtain⟨a0,a1,a2,a3⟩:=x;show[Term.d0 _,Term.d1 _,Term.d2 _,Term.d3 _]=_
 have h:Q5 a0:=h;have hm:¬a0=(2 ^ 64):=λe=>by subst e;revert h;decide
 have hl:∀l:List Term,(.lst l.length (λi=>if h:i<l.length then[Term.d0 l[i],Term.d1 l[i],Term.d2 l[i],Term.d3 l[i]]else[.any,.any,.any,.any]):DVal)=DL l:=by
  intro l;unfold DL
  congr 1
  funext i
  unfold LF
  by_cases hi:i<l.length
  .rw [Qt9 hi,Qa0,Qc0 hi];rfl
  .rw [dif_neg hi,Qa0,Qh0 (by omega)];show _=[Term.d0 ⟨(2 ^ 64),0,0,[]⟩,Term.d1 ⟨(2 ^ 64),0,0,[]⟩,Term.d2 ⟨(2 ^ 64),0,0,[]⟩,Term.d3 ⟨(2 ^ 64),0,0,[]⟩];unfold Term.d3;rfl
 have hk:Term.d3 ⟨a0,a1,a2,a3⟩=DL a3:=by
  unfold Term.d3;rw[Qa1 hm,hl]
 rw[hk];simp only[Term.d0,Term.d1,Term.d2,Qa1 hm]
theorem Term.elm{l:List Term}{i:Nat}(h:Q5 (gl l i).op_):AVal.v (.c (.elm (LF l i)))=.v (.c (.elm [.int .i64 (gl l i).op_,.int .i64 (gl l i).num_,.int .i64 (gl l i).more_,DL (gl l i).kids_])):=by
 have:=Pf h
 unfold LF;unfold gl at this⊢
 rw[this]
structure Bracket where
 up_:Int
 rate_:Int
 deriving DecidableEq
instance:Emb Bracket:=⟨λx=>[.int .i64 x.up_,.int .i64 x.rate_],2,⟨0,0⟩,λ_=>rfl⟩
structure Scheme where
 N_:Int
 n_:ByteArray
 cond_:Term
 brackets_:(List Bracket)
 least_:Int
 excludes_:Int
 needs_:Bool
instance:Emb Scheme:=⟨λx=>[.int .i64 x.N_,.str x.n_,.int .i64 x.cond_.op_,.int .i64 x.cond_.num_,.int .i64 x.cond_.more_,DL x.cond_.kids_,DL x.brackets_,.int .i64 x.least_,.int .i64 x.excludes_,.bool x.needs_],10,⟨0,ByteArray.empty,(Emb.d:Term),[],0,0,false⟩,λ_=>rfl⟩
structure Lot where
 N_:Int
 owner_:Int
 user_:Int
 squares_:Int
 value_:Int
 used_:Int
 deriving DecidableEq
instance:Emb Lot:=⟨λx=>[.int .i64 x.N_,.int .i64 x.owner_,.int .i64 x.user_,.int .i64 x.squares_,.int .i64 x.value_,.int .i64 x.used_],6,⟨0,0,0,0,0,0⟩,λ_=>rfl⟩
structure Entitlements where
 lots_:(List Lot)
 reserve_:Int
 next_:Int
 deriving DecidableEq
instance:Emb Entitlements:=⟨λx=>[DL x.lots_,.int .i64 x.reserve_,.int .i64 x.next_],3,⟨[],0,0⟩,λ_=>rfl⟩
structure Act where
 k_:Int
 farm_:Int
 to_:Int
 lot_:Int
 squares_:Int
 value_:Int
 keep_:Int
 year_:Int
 deriving DecidableEq
instance:Emb Act:=⟨λx=>[.int .i64 x.k_,.int .i64 x.farm_,.int .i64 x.to_,.int .i64 x.lot_,.int .i64 x.squares_,.int .i64 x.value_,.int .i64 x.keep_,.int .i64 x.year_],8,⟨0,0,0,0,0,0,0,0⟩,λ_=>rfl⟩
structure Rg_ where
 year_:Int
 c_:Int
 g_:Re_
 deriving DecidableEq
instance:Emb Rg_:=⟨λx=>[.int .i64 x.year_,.int .i64 x.c_,DL x.g_.t_],3,⟨0,0,⟨[]⟩⟩,λ_=>rfl⟩
structure A2_ where
 N_:Int
 k_:Int
 F_:Int
 u_:Int
 g_:Re_
 deriving DecidableEq
instance:Emb A2_:=⟨λx=>[.int .i64 x.N_,.int .i64 x.k_,.int .i64 x.F_,.int .i64 x.u_,DL x.g_.t_],5,⟨0,0,0,0,⟨[]⟩⟩,λ_=>rfl⟩
structure World where
 year_:Int
 crops_:(List Crop)
 history_:(List Rg_)
 zones_:(List A2_)
 day_:Int
 most_:Int
 deriving DecidableEq
instance:Emb World:=⟨λx=>[.int .i64 x.year_,DL x.crops_,DL x.history_,DL x.zones_,.int .i64 x.day_,.int .i64 x.most_],6,⟨0,[],[],[],0,0⟩,λ_=>rfl⟩
structure Tape where
 l_:(List Int)
 at_:Int
 deriving DecidableEq
instance:Emb Tape:=⟨λx=>[DL x.l_,.int .i64 x.at_],2,⟨[],0⟩,λ_=>rfl⟩
structure Arr3ListRect where
 e0_:(List Rect)
 e1_:(List Rect)
 e2_:(List Rect)
 deriving DecidableEq
instance:Emb Arr3ListRect:=⟨λx=>[DL x.e0_,DL x.e1_,DL x.e2_],3,⟨[],[],[]⟩,λ_=>rfl⟩
structure Undo where
 now_:Entitlements
 before_:Entitlements
 deriving DecidableEq
instance:Emb Undo:=⟨λx=>[DL x.now_.lots_,.int .i64 x.now_.reserve_,.int .i64 x.now_.next_,DL x.before_.lots_,.int .i64 x.before_.reserve_,.int .i64 x.before_.next_],6,⟨⟨[],0,0⟩,⟨[],0,0⟩⟩,λ_=>rfl⟩
structure Point where
 x_:Int
 y_:Int
 deriving DecidableEq
instance:Emb Point:=⟨λx=>[.int .i64 x.x_,.int .i64 x.y_],2,⟨0,0⟩,λ_=>rfl⟩
structure Truth where
 true_:Re_
 false_:Re_
 unknown_:Re_
 deriving DecidableEq
instance:Emb Truth:=⟨λx=>[DL x.true_.t_,DL x.false_.t_,DL x.unknown_.t_],3,⟨⟨[]⟩,⟨[]⟩,⟨[]⟩⟩,λ_=>rfl⟩
structure Edge where
 F_:Point
 to_:Point
 deriving DecidableEq
instance:Emb Edge:=⟨λx=>[.int .i64 x.F_.x_,.int .i64 x.F_.y_,.int .i64 x.to_.x_,.int .i64 x.to_.y_],4,⟨⟨0,0⟩,⟨0,0⟩⟩,λ_=>rfl⟩
instance:Emb Span:=⟨λx=>[.int .i64 x.L_,.int .i64 x.R_],2,⟨0,0⟩,λ_=>rfl⟩
structure Wide where
 H_:Int
 w_:Int
 deriving DecidableEq
instance:Emb Wide:=⟨λx=>[.int .u64 x.H_,.int .u64 x.w_],2,⟨0,0⟩,λ_=>rfl⟩
structure TermWorld where
 year_:Int
 crops_:(List Crop)
 history_:(List Rg_)
 zones_:(List A2_)
 day_:Int
 deriving DecidableEq
instance:Emb TermWorld:=⟨λx=>[.int .i64 x.year_,DL x.crops_,DL x.history_,DL x.zones_,.int .i64 x.day_],5,⟨0,[],[],[],0⟩,λ_=>rfl⟩
structure Place where
 world_:TermWorld
 line_:Line
 t_:(List Rect)
 deriving DecidableEq
instance:Emb Place:=⟨λx=>[.int .i64 x.world_.year_,DL x.world_.crops_,DL x.world_.history_,DL x.world_.zones_,.int .i64 x.world_.day_,.int .i64 x.line_.p_,DL x.line_.g_.t_,.int .i64 x.line_.c_,.int .i64 x.line_.s_,DL x.t_],10,⟨⟨0,[],[],[],0⟩,⟨0,⟨[]⟩,0,0⟩,[]⟩,λ_=>rfl⟩
structure Squares where
 yes_:(List Rect)
 no_:(List Rect)
 open_:(List Rect)
 deriving DecidableEq
instance:Emb Squares:=⟨λx=>[DL x.yes_,DL x.no_,DL x.open_],3,⟨[],[],[]⟩,λ_=>rfl⟩
structure Band where
 w_:Int
 H_:Int
 spans_:(List Span)
 deriving DecidableEq
instance:Emb Band:=⟨λx=>[.int .i64 x.w_,.int .i64 x.H_,DL x.spans_],3,⟨0,0,[]⟩,λ_=>rfl⟩
def kt(q:Rect->Option Bool):List AVal->AVal->Prop:=λargs r=>∃x0 y,q x0=some y/\args=[gE x0]/\r=vb y
def Q3O(q:Span->Span->Option Int):List AVal->AVal->Prop:=λargs r=>∃x0 x1 y,q x0 x1=some y/\args=[gE x0,gE x1]/\r=vi y
def Q3P(q:Int->Option (List Span)):List AVal->AVal->Prop:=λargs r=>∃x0 y,q x0=some y/\args=[vi x0]/\r=AL y
def kq(q:Span->Option Bool):List AVal->AVal->Prop:=λargs r=>∃x0 y,q x0=some y/\args=[gE x0]/\r=vb y
def Pn(q:Bool->Bool->Option Bool):List AVal->AVal->Prop:=λargs r=>∃x0 x1 y,q x0 x1=some y/\args=[vb x0,vb x1]/\r=vb y
def Pm(q:Int->Int->Option Int):List AVal->AVal->Prop:=λargs r=>∃x0 x1 y,q x0 x1=some y/\args=[vi x0,vi x1]/\r=vi y
def kp(q:Term->Option Bool):List AVal->AVal->Prop:=λargs r=>∃x0 y,q x0=some y/\args=[.v (.g [ci x0.op_,ci x0.num_,ci x0.more_,.d (DL x0.kids_)])]/\r=vb y
def kr(q:Scheme->Option Bool):List AVal->AVal->Prop:=λargs r=>∃x0 y,q x0=some y/\args=[gE x0]/\r=vb y
def ku(q:Rg_->Option Bool):List AVal->AVal->Prop:=λargs r=>∃x0 y,q x0=some y/\args=[gE x0]/\r=vb y
def FW(q:A2_->Option Bool):List AVal->AVal->Prop:=λargs r=>∃x0 y,q x0=some y/\args=[gE x0]/\r=vb y
def JR(q:Int->Option Bool):List AVal->AVal->Prop:=λargs r=>∃x0 y,q x0=some y/\args=[vi x0]/\r=vb y
def kv(q:Line->Option Bool):List AVal->AVal->Prop:=λargs r=>∃x0 y,q x0=some y/\args=[gE x0]/\r=vb y
def Je(F:Nat):=
 some (-1:Int)
def Wi{α:Type}[Emb α](F:Nat)(b:List α)(d:α->Option Bool)(c:(Int)->Option Int)(a:Int):Option Int:=
 br (decide (a<(b.length:Int))) (gd (0<=a/\a<(b.length:Int))<|(d (gl b a.toNat)).bind λe=>br e (some a) (gd (Q5 (a+1))<|c (a+1))) (Je F)
def Wr{α:Type}[Emb α](F:Nat)(a:List α)(b:α->Option Bool):Option Int:=
 Y3 (λg (z:Int)=>Wi F a b g z) F (0:Int)
def ZN{α:Type}[Emb α](F:Nat)(a:List α)(b:α->Option Bool):Option Bool:=
 (Wr F a b).bind λc=>some (decide ((0:Int)<=c))
def WQ(F:Nat)(a:Bool):=
 some a
variable (F:Nat)
def Bc(a:Rect):=
 br (decide ((0:Int)<=a.L_)) (br (decide (a.L_<a.R_)) (br (decide (a.R_<=16384)) (br (decide ((0:Int)<=a.w_)) (br (decide (a.w_<a.H_)) (WQ F (decide (a.H_<=16384))) (WQ F false)) (WQ F false)) (WQ F false)) (WQ F false)) (WQ F false)
def qO(a:Rect):=
 (Bc F a).bind λb=>some (!b)
def MZ(F:Nat)(a:Int)(b:(Int×Int×(List Int))->Option (List Int))(c:Int)(d:List Int):=
 gd (Q5 (a+1))<|b (c,(a+1),d)
def qi(F:Nat)(a:Int)(b:List Int):=
 gd (0<=a/\a<=((b.length:Nat):Int)/\((0:Nat):Int)+((b.length:Nat):Int)<=(b.length:Int))<|gd (0<=a/\a<=((List.length (clr b (0+(a).toNat) (b.length-(a).toNat)):Nat):Int))<|some ((clr b (0+(a).toNat) (b.length-(a).toNat)).take (a).toNat)
def jw(e:List Int)(c:Int)(i:(Int×Int×(List Int))->Option (List Int))(d a:Int)(b:List Int):=
 br (decide (a<(((e.length-(c).toNat):Nat):Int))) (gd (0<=a/\a<(((e.length-(c).toNat):Nat):Int))<|gd (((0+(c).toNat)+(a).toNat)<List.length b)<|gd (Q5 (a-1))<|gd (0<=(a-1)/\(a-1)<(((e.length-(c).toNat):Nat):Int))<|gd (((0+(c).toNat)+((a-1)).toNat)<List.length b)<|br ((gl b ((0+(c).toNat)+(a).toNat)) != (gl b ((0+(c).toNat)+((a-1)).toNat))) (gd (0<=a/\a<(((e.length-(c).toNat):Nat):Int))<|gd (((0+(c).toNat)+(a).toNat)<List.length b)<|gd (0<=d/\d<(b.length:Int))<|gd (Q5 (d+1))<|MZ F a i (d+1) (List.set b d.toNat (gl b ((0+(c).toNat)+(a).toNat)))) (MZ F a i d b)) (qi F d b)
def qh(F:Nat)(a:Int)(b:(Int)->Option (List Int)):=
 gd (Q5 (a+1))<|b (a+1)
def qg(F:Nat)(a:List Int):=
 some a
def jx(b:List Int)(c:(Int)->Option (List Int))(a:Int):=
 br (decide (a<(b.length:Int))) (gd (0<=a/\a<(b.length:Int))<|gd (Q5 (a-1))<|gd (0<=(a-1)/\(a-1)<(b.length:Int))<|br ((gl b a.toNat)==(gl b (a-1).toNat)) (gd (0<=a/\a<=((b.length:Nat):Int)/\((0:Nat):Int)+((b.length:Nat):Int)<=(b.length:Int))<|Y3 (λg (z:Int×Int×(List Int))=>jw F b a g z.1 z.2.1 z.2.2) F (a,(1:Int),b)) (qh F a c)) (qg F b)
def PU(a:List Int):=
 br (decide ((a.length:Int)<2)) (some a) (Y3 (λg (z:Int)=>jx F a g z) F (1:Int))
def zf(F:Nat)(a:Int)(b:(Int×(List Int))->Option (List Int))(c:List Int):=
 gd (Q5 (a+1))<|b ((a+1),c)
def zg(c:(List (List Rect)))(b:Int)(e i:(Int×(List Int))->Option (List Int))(a:Int)(d:List Int):=
 br (decide (a<((List.length (gl c b.toNat):Nat):Int))) (gd (0<=a/\a<((List.length (gl c b.toNat):Nat):Int))<|gd (d.length+(List.length ([(gl (gl c b.toNat) a.toNat).w_,(gl (gl c b.toNat) a.toNat).H_]:List Int))<=Y6)<|gd (Q5 (a+1))<|i ((a+1),(d++([(gl (gl c b.toNat) a.toNat).w_,(gl (gl c b.toNat) a.toNat).H_]:List Int)))) (zf F b e d)
def ze(a:List Int):=
 (VM a).bind λb=>(PU F b).bind λc=>some c
def zh(b:(List (List Rect)))(d:(Int×(List Int))->Option (List Int))(a:Int)(c:List Int):=
 br (decide (a<(b.length:Int))) (gd (0<=a/\a<(b.length:Int))<|Y3 (λg (z:Int×(List Int))=>zg F b a d g z.1 z.2) F ((0:Int),c)) (ze F c)
def Kp(a:(List (List Rect))):=
 Y3 (λg (z:Int×(List Int))=>zh F a g z.1 z.2) F ((0:Int),([]:List Int))
def Fy(F:Nat)(a:Int):=
 some (a != a)
def YB(a b:Int):=
 (Fy F a).bind λd=>(Fy F b).bind λc=>br d (br c (some (0:Int)) (some (-1:Int))) (br c (some (1:Int)) (br (decide (a<b)) (some (-1:Int)) (br (decide (b<a)) (some (1:Int)) (some (0:Int)))))
def RX(a b:Span):=
 (YB F a.L_ b.L_).bind λc=>some c
def Bi(F:Nat)(a:Int)(b:(Int×(List Span))->Option (List Span))(c:List Span):=
 gd (Q5 (a+1))<|b ((a+1),c)
def Bj(b:List Rect)(a:Int)(c:List Span)(d:(Int×(List Span))->Option (List Span))(e:Bool):=
 br e (gd (c.length+(List.length ([(⟨(gl b a.toNat).L_,(gl b a.toNat).R_⟩:Span)]:List Span))<=Y6)<|Bi F a d (c++([(⟨(gl b a.toNat).L_,(gl b a.toNat).R_⟩:Span)]:List Span))) (Bi F a d c)
def Bh(F:Nat)(a:Int)(b:(Int×(List Span))->Option (List Span))(c:List Span):=
 gd (Q5 (a+1))<|b ((a+1),c)
def GW(c:List Span)(b:Int)(a:List Span)(d:(Int×(List Span))->Option (List Span))(e:Bool):=
 br e (gd (Q5 ((a.length:Int)-1))<|gd (Q5 ((a.length:Int)-1))<|gd (0<=((a.length:Int)-1)/\((a.length:Int)-1)<(a.length:Int))<|gd (0<=((a.length:Int)-1)/\((a.length:Int)-1)<(a.length:Int))<|Bh F b d (List.set a ((a.length:Int)-1).toNat (⟨(gl a ((a.length:Int)-1).toNat).L_,(y3 ((gl a ((a.length:Int)-1).toNat).R_) ((gl c b.toNat).R_))⟩:Span))) (gd (a.length+(List.length ([(gl c b.toNat)]:List Span))<=Y6)<|Bh F b d (a++([(gl c b.toNat)]:List Span)))
def qS(F:Nat)(a:List Span):=
 some a
def qT(c:List Span)(d:(Int×(List Span))->Option (List Span))(b:Int)(a:List Span):=
 br (decide (b<(c.length:Int))) (gd (0<=b/\b<(c.length:Int))<|br (decide (0<(a.length:Int))) (gd (Q5 ((a.length:Int)-1))<|gd (0<=((a.length:Int)-1)/\((a.length:Int)-1)<(a.length:Int))<|GW F c b a d (decide (((gl c b.toNat).L_)<=((gl a ((a.length:Int)-1).toNat).R_)))) (GW F c b a d false)) (qS F a)
def RW(a:List Span):=
 (Jd a (λy0 y1=>RX F y0 y1)).bind λb=>Y3 (λg (z:Int×(List Span))=>qT F b g z.1 z.2) F ((0:Int),([]:List Span))
def qU(b:List Rect)(e:Int)(d:(Int×(List Span))->Option (List Span))(a:Int)(c:List Span):=
 br (decide (a<(b.length:Int))) (gd (0<=a/\a<(b.length:Int))<|br (decide (((gl b a.toNat).w_)<=e)) (Bj F b a c d (decide (e<((gl b a.toNat).H_)))) (Bj F b a c d false)) (RW F c)
def Vx(a:List Rect)(b:Int):=
 Y3 (λg (z:Int×(List Span))=>qU F a b g z.1 z.2) F ((0:Int),([]:List Span))
def qN(a:Int)(b:List Rect):=
 (Vx F b a).bind λc=>some c
def jl(F:Nat):=
 some true
def jm(b c:List Span)(d:(Int)->Option Bool)(a:Int):=
 br (decide (a<(b.length:Int))) (gd (0<=a/\a<(b.length:Int))<|gd (0<=a/\a<(c.length:Int))<|br (!((((gl b a.toNat).L_)==((gl c a.toNat).L_))&&((((gl b a.toNat).R_)==((gl c a.toNat).R_))&&true))) (some false) (gd (Q5 (a+1))<|d (a+1))) (jl F)
def MS(a b:List Span):=
 br ((a.length:Int) != (b.length:Int)) (some false) (Y3 (λg (z:Int)=>jm F a b g z) F (0:Int))
def qH(F:Nat)(a:Int)(b:(Int×(List Rect))->Option (List Rect))(c:List Rect):=
 gd (Q5 (a+1))<|b ((a+1),c)
def qI(b:List Band)(a:Int)(e i:(Int×(List Rect))->Option (List Rect))(c:Int)(d:List Rect):=
 br (decide (c<((List.length ((gl b a.toNat).spans_):Nat):Int))) (gd (0<=c/\c<((List.length ((gl b a.toNat).spans_):Nat):Int))<|gd (d.length+(List.length ([(⟨(gl ((gl b a.toNat).spans_) c.toNat).L_,(gl b a.toNat).w_,(gl ((gl b a.toNat).spans_) c.toNat).R_,(gl b a.toNat).H_⟩:Rect)]:List Rect))<=Y6)<|gd (Q5 (c+1))<|i ((c+1),(d++([(⟨(gl ((gl b a.toNat).spans_) c.toNat).L_,(gl b a.toNat).w_,(gl ((gl b a.toNat).spans_) c.toNat).R_,(gl b a.toNat).H_⟩:Rect)]:List Rect)))) (qH F a e d)
def qG(F:Nat)(a:List Rect):=
 some a
def qJ(b:List Band)(d:(Int×(List Rect))->Option (List Rect))(a:Int)(c:List Rect):=
 br (decide (a<(b.length:Int))) (gd (0<=a/\a<(b.length:Int))<|Y3 (λg (z:Int×(List Rect))=>qI F b a d g z.1 z.2) F ((0:Int),c)) (qG F c)
def RL(a:List Band):=
 Y3 (λg (z:Int×(List Rect))=>qJ F a g z.1 z.2) F ((0:Int),([]:List Rect))
def Bo(F:Nat)(a:Int)(b:(Int×(List Band))->Option (List Rect))(c:List Band):=
 gd (Q5 (a+1))<|b ((a+1),c)
def Kq(c:List Int)(b:Int)(a:List Band)(e:List Span)(d:(Int×(List Band))->Option (List Rect))(i:Bool):=
 br i (gd (Q5 ((a.length:Int)-1))<|gd (0<=((a.length:Int)-1)/\((a.length:Int)-1)<(a.length:Int))<|Bo F b d (List.set a ((a.length:Int)-1).toNat (⟨(gl a ((a.length:Int)-1).toNat).w_,(gl c b.toNat),(gl a ((a.length:Int)-1).toNat).spans_⟩:Band))) (gd (a.length+(List.length ([(⟨(gl c (b-1).toNat),(gl c b.toNat),e⟩:Band)]:List Band))<=Y6)<|Bo F b d (a++([(⟨(gl c (b-1).toNat),(gl c b.toNat),e⟩:Band)]:List Band)))
def RZ(a:List Band):=
 (RL F a).bind λb=>some b
def cM(c:List Int)(i:Int->Option (List Span))(e:(Int×(List Band))->Option (List Rect))(b:Int)(a:List Band):=
 br (decide (b<(c.length:Int))) (gd (Q5 (b-1))<|gd (0<=(b-1)/\(b-1)<(c.length:Int))<|gd (0<=b/\b<(c.length:Int))<|gd (Q5 (b-1))<|gd (0<=(b-1)/\(b-1)<(c.length:Int))<|(i (gl c (b-1).toNat)).bind λd=>br (decide (0<(a.length:Int))) (gd (Q5 ((a.length:Int)-1))<|gd (0<=((a.length:Int)-1)/\((a.length:Int)-1)<(a.length:Int))<|br (((gl a ((a.length:Int)-1).toNat).H_)==(gl c (b-1).toNat)) (gd (Q5 ((a.length:Int)-1))<|gd (0<=((a.length:Int)-1)/\((a.length:Int)-1)<(a.length:Int))<|(MS F ((gl a ((a.length:Int)-1).toNat).spans_) d).bind λj=>Kq F c b a d e j) (Kq F c b a d e false)) (Kq F c b a d e false)) (RZ F a)
def Bp(a:List Int)(b:Int->Option (List Span)):=
 Y3 (λg (z:Int×(List Band))=>cM F a b g z.1 z.2) F ((1:Int),([]:List Band))
def GT(a:List Rect):=
 (Kp F ([a]:List (List Rect))).bind λb=>(Bp F b (λy0=>qN F y0 a)).bind λc=>some c
def jo(F:Nat):=
 some true
def jp(b c:List Rect)(d:(Int)->Option Bool)(a:Int):=
 br (decide (a<(b.length:Int))) (gd (0<=a/\a<(b.length:Int))<|gd (0<=a/\a<(c.length:Int))<|br (!((((gl b a.toNat).L_)==((gl c a.toNat).L_))&&((((gl b a.toNat).w_)==((gl c a.toNat).w_))&&((((gl b a.toNat).R_)==((gl c a.toNat).R_))&&((((gl b a.toNat).H_)==((gl c a.toNat).H_))&&true))))) (some false) (gd (Q5 (a+1))<|d (a+1))) (jo F)
def MT(a b:List Rect):=
 br ((a.length:Int) != (b.length:Int)) (some false) (Y3 (λg (z:Int)=>jp F a b g z) F (0:Int))
def RU(a:Re_)(b:Bool):=
 br b (some false) ((GT F a.t_).bind λc=>(MT F c a.t_).bind λd=>some d)
def Wa(a:Re_):=
 br (decide (120<(a.t_.length:Int))) (RU F a true) ((ZN F a.t_ (λy0=>qO F y0)).bind λb=>RU F a b)
def Q0x(F:Nat)(a:List Rect):=
 some a
def Z0y(b:List Span)(d:(Int×(List Rect))->Option (List Rect))(a:Int)(c:List Rect):=
 br (decide (a<(b.length:Int))) (gd (0<=a/\a<(b.length:Int))<|gd (c.length+(List.length ([(⟨(gl b a.toNat).L_,(0:Int),(gl b a.toNat).R_,(1:Int)⟩:Rect)]:List Rect))<=Y6)<|gd (Q5 (a+1))<|d ((a+1),(c++([(⟨(gl b a.toNat).L_,(0:Int),(gl b a.toNat).R_,(1:Int)⟩:Rect)]:List Rect)))) (Q0x F c)
def UA(a:List Span):=
 Y3 (λg (z:Int×(List Rect))=>Z0y F a g z.1 z.2) F ((0:Int),([]:List Rect))
def yp(F:Nat)(a:Bool):=
 some a
def Dw(a b:Bool):=
 br a (yp F (!b)) (yp F false)
def PT{α:Type}[Emb α](F:Nat)(a:List α):Option (List α):=
 some a
def Kd{α:Type}[Emb α](F:Nat)(b:(List (List α)))(d:(Int×(List α))->Option (List α))(a:Int)(c:List α):Option (List α):=
 br (decide (a<(b.length:Int))) (gd (0<=a/\a<(b.length:Int))<|gd (c.length+(List.length (gl b a.toNat))<=Y6)<|gd (Q5 (a+1))<|d ((a+1),(c++(gl b a.toNat)))) (PT F c)
def GL{α:Type}[Emb α](F:Nat)(b:(List (List α)))(a:Int):Option (List α):=
 (KV a).bind λc=>Y3 (λg (z:Int×(List α))=>Kd F b g z.1 z.2) F ((0:Int),c)
def Ke{α:Type}[Emb α](F:Nat)(b:(List (List α)))(d:(Int×Int)->Option (List α))(c:Int)(a:Int):Option (List α):=
 br (decide (a<(b.length:Int))) (gd (0<=a/\a<(b.length:Int))<|gd (Q5 (c+((List.length (gl b a.toNat):Nat):Int)))<|br (decide ((c+((List.length (gl b a.toNat):Nat):Int))<0)) (none) (gd (Q5 (a+1))<|d ((c+((List.length (gl b a.toNat):Nat):Int)),(a+1)))) (GL F b c)
def Jg{α:Type}[Emb α](F:Nat)(a:(List (List α))):Option (List α):=
 Y3 (λg (z:Int×Int)=>Ke F a g z.1 z.2) F ((0:Int),(0:Int))
def RQ(F:Nat)(a:Bool):=
 some a
def Jn(a:Span)(b:Int):=
 br (decide (a.L_<=b)) (RQ F (decide (b<a.R_))) (RQ F false)
def Bf(a:List Span)(b:Int):=
 (ZN F a (λy0=>Jn F y0 b)).bind λc=>some c
def GS(F:Nat)(a:Int)(b:(Int×(List Span))->Option (List Span))(c:List Span):=
 gd (Q5 (a+1))<|b ((a+1),c)
def Bd(c:List Int)(a:Int)(b:List Span)(d:(Int×(List Span))->Option (List Span))(e:Bool):=
 br e (gd (Q5 ((b.length:Int)-1))<|gd (0<=a/\a<(c.length:Int))<|gd (0<=((b.length:Int)-1)/\((b.length:Int)-1)<(b.length:Int))<|GS F a d (List.set b ((b.length:Int)-1).toNat (⟨(gl b ((b.length:Int)-1).toNat).L_,(gl c a.toNat)⟩:Span))) (gd (0<=a/\a<(c.length:Int))<|gd (b.length+(List.length ([(⟨(gl c (a-1).toNat),(gl c a.toNat)⟩:Span)]:List Span))<=Y6)<|GS F a d (b++([(⟨(gl c (a-1).toNat),(gl c a.toNat)⟩:Span)]:List Span)))
def RN(F:Nat)(a:List Span):=
 some a
def Be(e i:List Span)(j:Bool->Bool->Option Bool)(c:List Int)(d:(Int×(List Span))->Option (List Span))(b:Int)(a:List Span):=
 br (decide (b<(c.length:Int))) (gd (Q5 (b-1))<|gd (0<=(b-1)/\(b-1)<(c.length:Int))<|(Bf F e (gl c (b-1).toNat)).bind λk=>(Bf F i (gl c (b-1).toNat)).bind λl=>(j k l).bind λm=>br (!m) (GS F b d a) (br (decide (0<(a.length:Int))) (gd (Q5 ((a.length:Int)-1))<|gd (0<=((a.length:Int)-1)/\((a.length:Int)-1)<(a.length:Int))<|Bd F c b a d (((gl a ((a.length:Int)-1).toNat).R_)==(gl c (b-1).toNat))) (Bd F c b a d false))) (RN F a)
def qK(b c:List Span)(d:Bool->Bool->Option Bool)(a:List Int):=
 (VM a).bind λe=>(PU F e).bind λi=>Y3 (λg (z:Int×(List Span))=>Be F b c d i g z.1 z.2) F ((1:Int),([]:List Span))
def RO(e i:List Span)(j:Bool->Bool->Option Bool)(b:List Span)(d:(Int×(List Int))->Option (List Span))(a:Int)(c:List Int):=
 br (decide (a<(b.length:Int))) (gd (0<=a/\a<(b.length:Int))<|gd (c.length+(List.length ([(gl b a.toNat).L_,(gl b a.toNat).R_]:List Int))<=Y6)<|gd (Q5 (a+1))<|d ((a+1),(c++([(gl b a.toNat).L_,(gl b a.toNat).R_]:List Int)))) (qK F e i j c)
def RP(a b:List Span)(c:Bool->Bool->Option Bool):=
 (Jg F ([a,b]:List (List Span))).bind λd=>Y3 (λg (z:Int×(List Int))=>RO F a b c d g z.1 z.2) F ((0:Int),([]:List Int))
def zi(a:Int)(b c:List Rect)(d:Bool->Bool->Option Bool):=
 (Vx F b a).bind λe=>(Vx F c a).bind λi=>(RP F e i d).bind λj=>some j
def ZG(a b:List Rect)(c:Bool->Bool->Option Bool):=
 (Kp F ([a,b]:List (List Rect))).bind λd=>(Bp F d (λy0=>zi F y0 a b c)).bind λe=>some e
def Q0v(F:Nat)(a:List Edge):=
 some a
def Z0x(c:Int)(b:List Rect)(e:(Int×(List Edge))->Option (List Edge))(a:Int)(d:List Edge):=
 br (decide (a<(b.length:Int))) (gd (0<=a/\a<(b.length:Int))<|gd (d.length+(List.length ([(⟨(⟨(gl b a.toNat).R_,c⟩:Point),(⟨(gl b a.toNat).L_,c⟩:Point)⟩:Edge)]:List Edge))<=Y6)<|gd (Q5 (a+1))<|e ((a+1),(d++([(⟨(⟨(gl b a.toNat).R_,c⟩:Point),(⟨(gl b a.toNat).L_,c⟩:Point)⟩:Edge)]:List Edge)))) (Q0v F d)
def Xp(b c:List Span)(d:Int)(a:List Edge):=
 (UA F b).bind λe=>(UA F c).bind λi=>(ZG F e i (λy0 y1=>Dw F y0 y1)).bind λj=>Y3 (λg (z:Int×(List Edge))=>Z0x F d j g z.1 z.2) F ((0:Int),a)
def yo(i j:List Span)(c:Int)(b:List Rect)(e:(Int×(List Edge))->Option (List Edge))(a:Int)(d:List Edge):=
 br (decide (a<(b.length:Int))) (gd (0<=a/\a<(b.length:Int))<|gd (d.length+(List.length ([(⟨(⟨(gl b a.toNat).L_,c⟩:Point),(⟨(gl b a.toNat).R_,c⟩:Point)⟩:Edge)]:List Edge))<=Y6)<|gd (Q5 (a+1))<|e ((a+1),(d++([(⟨(⟨(gl b a.toNat).L_,c⟩:Point),(⟨(gl b a.toNat).R_,c⟩:Point)⟩:Edge)]:List Edge)))) (Xp F i j c d)
def Xq(a b:List Span)(c:Int):=
 (UA F b).bind λd=>(UA F a).bind λe=>(ZG F d e (λy0 y1=>Dw F y0 y1)).bind λi=>Y3 (λg (z:Int×(List Edge))=>yo F a b c i g z.1 z.2) F ((0:Int),([]:List Edge))
def yq(F:Nat)(a:List Edge):=
 some a
def Q0y(F:Nat)(a:Int)(b:(Int×(List Edge))->Option (List Edge))(c:List Edge):=
 gd (Q5 (a+1))<|b ((a+1),c)
def Z0A(d:List Int)(b:Int)(c:List Span)(i j:(Int×(List Edge))->Option (List Edge))(a:Int)(e:List Edge):=
 br (decide (a<(c.length:Int))) (gd (0<=a/\a<(c.length:Int))<|gd (Q5 (b+1))<|gd (0<=(b+1)/\(b+1)<(d.length:Int))<|gd (e.length+(List.length ([(⟨(⟨(gl c a.toNat).L_,(gl d (b+1).toNat)⟩:Point),(⟨(gl c a.toNat).L_,(gl d b.toNat)⟩:Point)⟩:Edge),(⟨(⟨(gl c a.toNat).R_,(gl d b.toNat)⟩:Point),(⟨(gl c a.toNat).R_,(gl d (b+1).toNat)⟩:Point)⟩:Edge)]:List Edge))<=Y6)<|gd (Q5 (a+1))<|j ((a+1),(e++([(⟨(⟨(gl c a.toNat).L_,(gl d (b+1).toNat)⟩:Point),(⟨(gl c a.toNat).L_,(gl d b.toNat)⟩:Point)⟩:Edge),(⟨(⟨(gl c a.toNat).R_,(gl d b.toNat)⟩:Point),(⟨(gl c a.toNat).R_,(gl d (b+1).toNat)⟩:Point)⟩:Edge)]:List Edge)))) (Q0y F b i e)
def Xr(d:Re_)(b:List Int)(i:(Int×(List Edge))->Option (List Edge))(a:Int)(c:List Edge):=
 br (decide (a<(b.length:Int))) (gd (0<=a/\a<(b.length:Int))<|gd (Q5 ((gl b a.toNat)-1))<|(Vx F d.t_ ((gl b a.toNat)-1)).bind λj=>(Vx F d.t_ (gl b a.toNat)).bind λk=>(Xq F j k (gl b a.toNat)).bind λe=>gd (c.length+e.length<=Y6)<|gd (Q5 (a+1))<|br ((a+1)==(b.length:Int)) (yq F (c++e)) ((Vx F d.t_ (gl b a.toNat)).bind λl=>Y3 (λg (z:Int×(List Edge))=>Z0A F b a l i g z.1 z.2) F ((0:Int),(c++e)))) (yq F c)
def Dx(a:Re_):=
 (Kp F ([a.t_]:List (List Rect))).bind λb=>Y3 (λg (z:Int×(List Edge))=>Xr F a b g z.1 z.2) F ((0:Int),([]:List Edge))
def Q2U(F:Nat):=
 some (0:Int)
def Gi(b:List Int)(c:(Int)->Option Int)(a:Int):=
 br (decide (a<(b.length:Int))) (gd (0<=a/\a<(b.length:Int))<|br ((gl b a.toNat) != (0:Int)) (some (gl b a.toNat)) (gd (Q5 (a+1))<|c (a+1))) (Q2U F)
def XZ(a:List Int):=
 Y3 (λg (z:Int)=>Gi F a g z) F (0:Int)
def Q0u(a b:Point):=
 (YB F a.y_ b.y_).bind λc=>(YB F a.x_ b.x_).bind λd=>(XZ F ([c,d]:List Int)).bind λe=>some e
def yt(F:Nat)(a:Int)(b:(Int×Int)->Option (List Point))(c:Int):=
 gd (Q5 (a+1))<|b ((a+1),c)
def Q0z(b:List Point)(a:Int):=
 gd (0<=a/\a<=(b.length:Int))<|gd (0<=a/\a<=(b.length:Int))<|(Jg F ([(b.drop a.toNat),(b.take a.toNat)]:List (List Point))).bind λc=>some c
def Z0C(b:List Point)(d:(Int×Int)->Option (List Point))(a c:Int):=
 br (decide (a<(b.length:Int))) (gd (0<=a/\a<(b.length:Int))<|gd (0<=c/\c<(b.length:Int))<|(Q0u F (gl b a.toNat) (gl b c.toNat)).bind λe=>br (decide (e<0)) (yt F a d a) (yt F a d c)) (Q0z F b c)
def Q0A(a:List Point):=
 Y3 (λg (z:Int×Int)=>Z0C F a g z.1 z.2) F ((0:Int),(0:Int))
def Xo(a b:Edge):=
 (YB F a.to_.x_ a.F_.x_).bind λc=>(YB F a.to_.y_ a.F_.y_).bind λd=>(YB F b.to_.x_ b.F_.x_).bind λe=>(YB F b.to_.y_ b.F_.y_).bind λi=>gd (Q5 (c*i))<|gd (Q5 (d*e))<|gd (Q5 ((c*i)-(d*e)))<|some ((c*i)-(d*e))
def He(b c:Int)(a:Entitlements):=
 gd (0<=c/\c<(a.lots_.length:Int))<|gd (0<=b/\b<(a.lots_.length:Int))<|(YB F ((gl a.lots_ c.toNat).value_) ((gl a.lots_ b.toNat).value_)).bind λd=>some d
def MM(F:Nat)(a:Int)(b:(Int×(List Int))->Option (List Int))(c:List Int):=
 gd (Q5 (a+1))<|b ((a+1),c)
def PP(e a:Int)(b:List Int)(d c:(Int×(List Int))->Option (List Int))(i:Bool):=
 br i (gd (Q5 (a-1))<|gd (Q5 (a-1))<|gd (0<=(a-1)/\(a-1)<(b.length:Int))<|gd (0<=a/\a<(b.length:Int))<|gd (0<=a/\a<(b.length:Int))<|gd (0<=(a-1)/\(a-1)<((List.length (List.set b a.toNat (gl b (a-1).toNat)):Nat):Int))<|gd (Q5 (a-1))<|d ((a-1),(List.set (List.set b a.toNat (gl b (a-1).toNat)) (a-1).toNat (gl b a.toNat)))) (MM F e c b)
def qa(i:Int)(j:Int->Int->Option Int)(e:Int)(c d:(Int×(List Int))->Option (List Int))(a:Int)(b:List Int):=
 br (decide (i<a)) (gd (0<=a/\a<(b.length:Int))<|gd (Q5 (a-1))<|gd (0<=(a-1)/\(a-1)<(b.length:Int))<|(j (gl b a.toNat) (gl b (a-1).toNat)).bind λk=>PP F e a b d c (decide (k<0))) (PP F e a b d c false)
def qb(d e:Int)(i:Int->Int->Option Int)(c:(Int×(List Int))->Option (List Int))(a:Int)(b:List Int):=
 br (decide (a<e)) (Y3 (λg (z:Int×(List Int))=>qa F d i a c g z.1 z.2) F (a,b)) (some b)
def PQ(b:List Int)(a c:Int)(d:Int->Int->Option Int):=
 gd (Q5 (a+1))<|Y3 (λg (z:Int×(List Int))=>qb F a c d g z.1 z.2) F ((a+1),b)
def LY(b:List Int)(a:Int)(c:Int->Int->Option Int):=
 (PQ F b (0:Int) a c).bind λd=>br (decide ((20:Int)<a)) (none) (some d)
def LZ(b:List Int)(a:Int)(c:Int->Int->Option Int):=
 br (decide ((20:Int)<=a)) (none) (LY F b a c)
def qc(a:List Int)(b:Int->Int->Option Int):=
 (LZ F a (a.length:Int) b).bind λc=>some c
def CW(F:Nat)(a:Int)(b:(Int×(List Int))->Option (List Int))(c:List Int):=
 gd (Q5 (a+1))<|b ((a+1),c)
def xh(b:Entitlements)(a:List Int):=
 (qc F a (λy0 y1=>He F y0 y1 b)).bind λc=>some c
def xi(c:Entitlements)(e:Int)(d:(Int×(List Int))->Option (List Int))(a:Int)(b:List Int):=
 br (decide (a<(c.lots_.length:Int))) (gd (0<=a/\a<(c.lots_.length:Int))<|br (((gl c.lots_ a.toNat).user_)==e) (gd (b.length+(List.length ([a]:List Int))<=Y6)<|CW F a d (b++([a]:List Int))) (CW F a d b)) (xh F c b)
def Hf(a:Entitlements)(b:Int):=
 Y3 (λg (z:Int×(List Int))=>xi F a b g z.1 z.2) F ((0:Int),([]:List Int))
def CZ(F:Nat)(a:Bool):=
 some a
def KZ(a:Int):=
 br (decide ((1:Int)<=a)) (CZ F (decide (a<=60))) (CZ F false)
def CX(F:Nat)(a:Bool):=
 some a
def Hh(a:Int):=
 br (decide ((1:Int)<=a)) (CX F (decide (a<=268435456))) (CX F false)
def Fa(F:Nat)(b:Undo)(a:Lot)(c:Bool):=
 br c (some (b,(1:Int))) (gd (Q5 (b.now_.next_+1))<|gd (b.now_.lots_.length+(List.length ([(⟨b.now_.next_,a.owner_,a.user_,a.squares_,a.value_,a.used_⟩:Lot)]:List Lot))<=Y6)<|some ((⟨(⟨(b.now_.lots_++([(⟨b.now_.next_,a.owner_,a.user_,a.squares_,a.value_,a.used_⟩:Lot)]:List Lot)),b.now_.reserve_,(b.now_.next_+1)⟩:Entitlements),b.before_⟩:Undo),(0:Int)))
def xn(a:Undo)(b:Lot):=
 br (decide (80<=(a.now_.lots_.length:Int))) (Fa F a b true) (Fa F a b (decide ((1073741824:Int)<=a.now_.next_)))
def CT(F:Nat)(e:Undo)(i:List Int)(c a:Int)(b:(Int×Bool×Int)->Option (Undo×Int))(d:Bool):=
 gd (Q5 (a+1))<|b ((c+((gl e.now_.lots_ (gl i a.toNat).toNat).squares_)),d,(a+1))
def Hd(F:Nat)(a:Undo)(b:List Lot):=
 some ((⟨(⟨b,a.now_.reserve_,a.now_.next_⟩:Entitlements),a.before_⟩:Undo),(0:Int))
def xf(e:Undo)(i:Act)(b:List Int)(k:(Int×Int×(List Lot))->Option (Undo×Int))(d a:Int)(c:List Lot):=
 br (decide (a<(b.length:Int))) (gd (0<=a/\a<(b.length:Int))<|gd (0<=(gl b a.toNat)/\(gl b a.toNat)<(c.length:Int))<|br (decide (d<((gl c (gl b a.toNat).toNat).squares_))) (br (decide ((0:Int)<d)) (gd (0<=(gl b a.toNat)/\(gl b a.toNat)<(c.length:Int))<|gd (0<=(gl b a.toNat)/\(gl b a.toNat)<(c.length:Int))<|gd (Q5 (((gl c (gl b a.toNat).toNat).squares_)-d))<|gd (0<=(gl b a.toNat)/\(gl b a.toNat)<(c.length:Int))<|(xn F (⟨(⟨(List.set c (gl b a.toNat).toNat (⟨(gl c (gl b a.toNat).toNat).N_,(gl c (gl b a.toNat).toNat).owner_,(gl c (gl b a.toNat).toNat).user_,(((gl c (gl b a.toNat).toNat).squares_)-d),(gl c (gl b a.toNat).toNat).value_,(gl c (gl b a.toNat).toNat).used_⟩:Lot)),e.now_.reserve_,e.now_.next_⟩:Entitlements),e.before_⟩:Undo) (⟨(gl c (gl b a.toNat).toNat).N_,(gl c (gl b a.toNat).toNat).owner_,(gl c (gl b a.toNat).toNat).user_,d,(gl c (gl b a.toNat).toNat).value_,i.year_⟩:Lot)).bind λj=>some (j.1,j.2)) (Hd F e c)) (gd (0<=(gl b a.toNat)/\(gl b a.toNat)<(c.length:Int))<|gd (Q5 (d-((gl c (gl b a.toNat).toNat).squares_)))<|gd (0<=(gl b a.toNat)/\(gl b a.toNat)<(c.length:Int))<|gd (Q5 (a+1))<|k ((d-((gl c (gl b a.toNat).toNat).squares_)),(a+1),(List.set c (gl b a.toNat).toNat (⟨(gl c (gl b a.toNat).toNat).N_,(gl c (gl b a.toNat).toNat).owner_,(gl c (gl b a.toNat).toNat).user_,(gl c (gl b a.toNat).toNat).squares_,(gl c (gl b a.toNat).toNat).value_,i.year_⟩:Lot))))) (Hd F e c)
def XP(a:Undo)(b:Act)(i:List Int)(d:Int)(c:Bool):=
 br c (some (a,(18:Int))) ((Hh F b.squares_).bind λe=>br (!e) (some (a,(2:Int))) (br (decide (d<b.squares_)) (some (a,(22:Int))) (Y3 (λg (z:Int×Int×(List Lot))=>xf F a b i g z.1 z.2.1 z.2.2) F (b.squares_,(0:Int),a.now_.lots_))))
def xe(b:Undo)(a:Act)(d:List Int)(c:Int)(e:Bool):=
 (KZ F a.farm_).bind λi=>br (!i) (some (b,(20:Int))) (br (decide (a.year_<0)) (XP F b a d c true) (br (decide ((100:Int)<a.year_)) (XP F b a d c true) (XP F b a d c e)))
def xg(c:Undo)(j:Act)(b:List Int)(e:(Int×Bool×Int)->Option (Undo×Int))(d:Int)(i:Bool)(a:Int):=
 br (decide (a<(b.length:Int))) (gd (0<=a/\a<(b.length:Int))<|gd (0<=(gl b a.toNat)/\(gl b a.toNat)<(c.now_.lots_.length:Int))<|gd (Q5 (d+((gl c.now_.lots_ (gl b a.toNat).toNat).squares_)))<|br i (CT F c b d a e true) (gd (0<=(gl b a.toNat)/\(gl b a.toNat)<(c.now_.lots_.length:Int))<|CT F c b d a e (decide (j.year_<((gl c.now_.lots_ (gl b a.toNat).toNat).used_))))) (xe F c j b d i)
def CU(a:Undo)(b:Act):=
 (Hf F a.now_ b.farm_).bind λc=>Y3 (λg (z:Int×Bool×Int)=>xg F a b c g z.1 z.2.1 z.2.2) F ((0:Int),false,(0:Int))
def Cb(F:Nat)(a:List Int):=
 gd (0<=(y6 (a.length:Int) (400:Int))/\(y6 (a.length:Int) (400:Int))<=(a.length:Int))<|some (⟨(a.take (y6 (a.length:Int) (400:Int)).toNat),0⟩:Tape)
def yZ(F:Nat)(a:Int):=
 some a
def KT(b a:Int):=
 br (decide (a<1)) (some (0:Int)) (gd (a≠0)<|br (decide ((b.tmod a)<0)) (gd (Q5 ((b.tmod a)+a))<|yZ F ((b.tmod a)+a)) (yZ F (b.tmod a)))
def Qm(a:Tape)(b:Int):=
 br (decide ((a.l_.length:Int)<=a.at_)) (some (a,(0:Int))) (gd (Q5 (a.at_+1))<|gd (Q5 ((a.at_+1)-1))<|gd (0<=((a.at_+1)-1)/\((a.at_+1)-1)<(a.l_.length:Int))<|(KT F (gl a.l_ ((a.at_+1)-1).toNat) b).bind λc=>some ((⟨a.l_,(a.at_+1)⟩:Tape),c))
def Zn(d:Tape)(a b:Int):=
 gd (Q5 (b-a))<|gd (Q5 ((b-a)+1))<|(Qm F d ((b-a)+1)).bind λc=>gd (Q5 (a+c.2))<|some (c.1,(a+c.2))
def Q1b(F:Nat)(a:List Crop)(b:List Int)(c:Int):=
 some ((⟨b,c⟩:Tape),a)
def XC(c:Tape×Int)(k:(Int×(List Int)×Int×(List Crop))->Option (Tape×(List Crop)))(a:Int)(i:List Int)(j:Int)(d:List Crop):=
 br (decide (a<((List.length (([(ByteArray.mk #[98,97,114,108,101,121]),(ByteArray.mk #[99,108,111,118,101,114]),(ByteArray.mk #[103,114,97,115,115]),(ByteArray.mk #[109,97,105,122,101]),(ByteArray.mk #[111,97,116,115]),(ByteArray.mk #[114,121,101]),(ByteArray.mk #[118,101,116,99,104]),(ByteArray.mk #[119,104,101,97,116])]:List ByteArray).take c.2.toNat):Nat):Int))) (gd (0<=a/\a<((List.length (([(ByteArray.mk #[98,97,114,108,101,121]),(ByteArray.mk #[99,108,111,118,101,114]),(ByteArray.mk #[103,114,97,115,115]),(ByteArray.mk #[109,97,105,122,101]),(ByteArray.mk #[111,97,116,115]),(ByteArray.mk #[114,121,101]),(ByteArray.mk #[118,101,116,99,104]),(ByteArray.mk #[119,104,101,97,116])]:List ByteArray).take c.2.toNat):Nat):Int))<|(Qm F (⟨i,j⟩:Tape) (3:Int)).bind λe=>(Qm F e.1 (8:Int)).bind λb=>gd (0<=b.2/\b.2<((List.length ([(0:Int),(0:Int),(0:Int),(2:Int),(20:Int),(8:Int),(1:Int),(31:Int)]:List Int):Nat):Int))<|gd (d.length+(List.length ([(⟨(gl (([(ByteArray.mk #[98,97,114,108,101,121]),(ByteArray.mk #[99,108,111,118,101,114]),(ByteArray.mk #[103,114,97,115,115]),(ByteArray.mk #[109,97,105,122,101]),(ByteArray.mk #[111,97,116,115]),(ByteArray.mk #[114,121,101]),(ByteArray.mk #[118,101,116,99,104]),(ByteArray.mk #[119,104,101,97,116])]:List ByteArray).take c.2.toNat) a.toNat),e.2,(gl ([(0:Int),(0:Int),(0:Int),(2:Int),(20:Int),(8:Int),(1:Int),(31:Int)]:List Int) b.2.toNat)⟩:Crop)]:List Crop))<=Y6)<|gd (Q5 (a+1))<|k ((a+1),b.1.l_,b.1.at_,(d++([(⟨(gl (([(ByteArray.mk #[98,97,114,108,101,121]),(ByteArray.mk #[99,108,111,118,101,114]),(ByteArray.mk #[103,114,97,115,115]),(ByteArray.mk #[109,97,105,122,101]),(ByteArray.mk #[111,97,116,115]),(ByteArray.mk #[114,121,101]),(ByteArray.mk #[118,101,116,99,104]),(ByteArray.mk #[119,104,101,97,116])]:List ByteArray).take c.2.toNat) a.toNat),e.2,(gl ([(0:Int),(0:Int),(0:Int),(2:Int),(20:Int),(8:Int),(1:Int),(31:Int)]:List Int) b.2.toNat)⟩:Crop)]:List Crop)))) (Q1b F d i j)
def TX(b:Tape):=
 (Zn F b (3:Int) (8:Int)).bind λa=>gd (0<=a.2/\a.2<=((List.length ([(ByteArray.mk #[98,97,114,108,101,121]),(ByteArray.mk #[99,108,111,118,101,114]),(ByteArray.mk #[103,114,97,115,115]),(ByteArray.mk #[109,97,105,122,101]),(ByteArray.mk #[111,97,116,115]),(ByteArray.mk #[114,121,101]),(ByteArray.mk #[118,101,116,99,104]),(ByteArray.mk #[119,104,101,97,116])]:List ByteArray):Nat):Int))<|Y3 (λg (z:Int×(List Int)×Int×(List Crop))=>XC F a g z.1 z.2.1 z.2.2.1 z.2.2.2) F ((0:Int),a.1.l_,a.1.at_,([]:List Crop))
def KR(i:Tape)(c:Int):=
 (Qm F i c).bind λa=>(Qm F a.1 c).bind λb=>gd (Q5 (a.2+(1:Int)))<|gd (Q5 (c-a.2))<|(Qm F b.1 (c-a.2)).bind λd=>gd (Q5 ((a.2+(1:Int))+d.2))<|gd (Q5 (b.2+(1:Int)))<|gd (Q5 (c-b.2))<|(Qm F d.1 (c-b.2)).bind λe=>gd (Q5 ((b.2+(1:Int))+e.2))<|some (e.1,(⟨a.2,b.2,((a.2+(1:Int))+d.2),((b.2+(1:Int))+e.2)⟩:Rect))
def WR(F:Nat)(a:Bool):=
 some a
def Xl(a:Rect):=
 br (decide ((0:Int)<=a.L_)) (br (decide (a.L_<a.R_)) (br (decide (a.R_<=16384)) (br (decide ((0:Int)<=a.w_)) (br (decide (a.w_<a.H_)) (WR F (decide (a.H_<=16384))) (WR F false)) (WR F false)) (WR F false)) (WR F false)) (WR F false)
def Dm(F:Nat)(b:List Int)(c a:Int)(d:Bool):=
 br d (some b) (gd (0<=a/\a<=(b.length:Int))<|gd ((0)+(List.length (b.take a.toNat))<=Y6)<|gd (((0)+(List.length (b.take a.toNat)))+(List.length ([c]:List Int))<=Y6)<|gd (0<=a/\a<=(b.length:Int))<|gd ((((0)+(List.length (b.take a.toNat)))+(List.length ([c]:List Int)))+(List.length (b.drop a.toNat))<=Y6)<|some (((([]:List Int)++(b.take a.toNat))++([c]:List Int))++(b.drop a.toNat)))
def Tf(b:List Int)(c a:Int):=
 br (decide (a<(b.length:Int))) (gd (0<=a/\a<(b.length:Int))<|Dm F b c a ((gl b a.toNat)==c)) (Dm F b c a false)
def Dn(d:List Int)(e a:Int)(b:(Int)->Option (List Int))(c:Bool):=
 br c (gd (Q5 (a+1))<|b (a+1)) (Tf F d e a)
def Q0g(b:List Int)(c:Int)(d:(Int)->Option (List Int))(a:Int):=
 br (decide (a<(b.length:Int))) (gd (0<=a/\a<(b.length:Int))<|Dn F b c a d (decide ((gl b a.toNat)<c))) (Dn F b c a d false)
def KH(a:List Int)(b:Int):=
 Y3 (λg (z:Int)=>Q0g F a b g z) F (0:Int)
def Ux(F:Nat)(a:Int)(b:(Int)->Option Bool)(c:Bool):=
 br c (some true) (gd (Q5 (a+1))<|b (a+1))
def bN(F:Nat):=
 some false
def zT(b:List Rect)(d e:Int)(c:(Int)->Option Bool)(a:Int):=
 br (decide (a<(b.length:Int))) (gd (0<=a/\a<(b.length:Int))<|br (decide (((gl b a.toNat).L_)<=d)) (br (decide (d<((gl b a.toNat).R_))) (br (decide (((gl b a.toNat).w_)<=e)) (Ux F a c (decide (e<((gl b a.toNat).H_)))) (Ux F a c false)) (Ux F a c false)) (Ux F a c false)) (bN F)
def Df(a:List Rect)(b c:Int):=
 Y3 (λg (z:Int)=>zT F a b c g z) F (0:Int)
def zS(F:Nat)(a:Bool):=
 some a
def zR(F:Nat)(a:Bool):=
 some a
def zQ(F:Nat)(a:Bool):=
 some a
def SN(a b:Bool)(c:Int):=
 br (c==1) (br a (zS F true) (zS F b)) (br (c==2) (br a (zR F b) (zR F false)) (br a (zQ F (!b)) (zQ F false)))
def De(F:Nat)(a:Int)(b:(Int)->Option Bool)(c:Bool):=
 br c (some false) (gd (Q5 (a+1))<|b (a+1))
def bH(F:Nat):=
 some true
def bI(b c:List Rect)(d:(Int)->Option Bool)(a:Int):=
 br (decide (a<(b.length:Int))) (gd (0<=a/\a<(b.length:Int))<|gd (0<=a/\a<(c.length:Int))<|br (((gl b a.toNat).L_) != ((gl c a.toNat).L_)) (De F a d true) (gd (0<=a/\a<(b.length:Int))<|gd (0<=a/\a<(c.length:Int))<|De F a d (((gl b a.toNat).R_) != ((gl c a.toNat).R_)))) (bH F)
def SM(a b:List Rect):=
 br ((a.length:Int) != (b.length:Int)) (some false) (Y3 (λg (z:Int)=>bI F a b g z) F (0:Int))
def zW(F:Nat)(a:Int)(b:((List Int)×(List Int)×Int)->Option (List Rect))(c d:List Int):=
 gd (Q5 (a+1))<|b (c,d,(a+1))
def ya(c d:List Rect)(b:Int)(j k:((List Int)×(List Int)×Int)->Option (List Rect))(e i:List Int)(a:Int):=
 br (decide (a<((List.length (gl ([c,d]:List (List Rect)) b.toNat):Nat):Int))) (gd (0<=a/\a<((List.length (gl ([c,d]:List (List Rect)) b.toNat):Nat):Int))<|(KH F e ((gl (gl ([c,d]:List (List Rect)) b.toNat) a.toNat).L_)).bind λl=>(KH F l ((gl (gl ([c,d]:List (List Rect)) b.toNat) a.toNat).R_)).bind λm=>(KH F i ((gl (gl ([c,d]:List (List Rect)) b.toNat) a.toNat).w_)).bind λn=>(KH F n ((gl (gl ([c,d]:List (List Rect)) b.toNat) a.toNat).H_)).bind λo=>gd (Q5 (a+1))<|k (m,o,(a+1))) (zW F b j e i)
def Dj(F:Nat)(a:Int)(b:(Int×(List Rect))->Option (List Rect))(c:List Rect):=
 gd (Q5 (a+1))<|b ((a+1),c)
def Jx(d e:List Int)(c a:Int)(b:List Rect)(i:(Int×(List Rect))->Option (List Rect))(j:Bool):=
 br j (gd (Q5 ((b.length:Int)-1))<|gd (Q5 (a+1))<|gd (0<=(a+1)/\(a+1)<(d.length:Int))<|gd (0<=((b.length:Int)-1)/\((b.length:Int)-1)<(b.length:Int))<|Dj F a i (List.set b ((b.length:Int)-1).toNat (⟨(gl b ((b.length:Int)-1).toNat).L_,(gl b ((b.length:Int)-1).toNat).w_,(gl d (a+1).toNat),(gl b ((b.length:Int)-1).toNat).H_⟩:Rect))) (gd (0<=a/\a<(d.length:Int))<|gd (0<=c/\c<(e.length:Int))<|gd (Q5 (a+1))<|gd (0<=(a+1)/\(a+1)<(d.length:Int))<|gd (Q5 (c+1))<|gd (0<=(c+1)/\(c+1)<(e.length:Int))<|gd (b.length+(List.length ([(⟨(gl d a.toNat),(gl e c.toNat),(gl d (a+1).toNat),(gl e (c+1).toNat)⟩:Rect)]:List Rect))<=Y6)<|Dj F a i (b++([(⟨(gl d a.toNat),(gl e c.toNat),(gl d (a+1).toNat),(gl e (c+1).toNat)⟩:Rect)]:List Rect)))
def Dk(F:Nat)(a:Int)(b:(Int×(List Rect)×(List Rect))->Option (List Rect))(c d:List Rect):=
 gd (Q5 (a+1))<|b ((a+1),c,d)
def zX(b:Int)(c:List Rect)(a:(Int×(List Rect)×(List Rect))->Option (List Rect))(d:List Rect):=
 Dk F b a c d
def zZ(d:List Int)(c:Int)(j k:List Rect)(i:(Int×(List Rect)×(List Rect))->Option (List Rect))(e:(Int×(List Rect))->Option (List Rect))(a:Int)(b:List Rect):=
 br (decide (a<(k.length:Int))) (gd (Q5 (c+1))<|gd (0<=(c+1)/\(c+1)<(d.length:Int))<|gd (0<=a/\a<(b.length:Int))<|gd (Q5 (a+1))<|e ((a+1),(List.set b a.toNat (⟨(gl b a.toNat).L_,(gl b a.toNat).w_,(gl b a.toNat).R_,(gl d (c+1).toNat)⟩:Rect)))) (zX F c j i b)
def SW(d:Int)(a b e:List Rect)(c:(Int×(List Rect)×(List Rect))->Option (List Rect)):=
 gd (a.length+b.length<=Y6)<|Dk F d c (a++b) e
def KG(e:List Int)(c:Int)(d a i:List Rect)(b:(Int×(List Rect)×(List Rect))->Option (List Rect))(j:Bool):=
 br j (Y3 (λg (z:Int×(List Rect))=>zZ F e c d a b g z.1 z.2) F ((0:Int),a)) (SW F c d a i b)
def Di(c:List Int)(b:Int)(i a:List Rect)(e:(Int×(List Rect)×(List Rect))->Option (List Rect))(d:List Rect):=
 br (decide (0<(a.length:Int))) ((SM F a d).bind λj=>br j (gd (0<=(0:Int)/\0<(a.length:Int))<|gd (0<=b/\b<(c.length:Int))<|KG F c b i a d e (((gl a (0:Int).toNat).H_)==(gl c b.toNat))) (KG F c b i a d e false)) (KG F c b i a d e false)
def zY(m n:List Rect)(o:Int)(c e:List Int)(d:Int)(k l:List Rect)(j:(Int×(List Rect)×(List Rect))->Option (List Rect))(i:(Int×(List Rect))->Option (List Rect))(a:Int)(b:List Rect):=
 gd (Q5 (a+1))<|br (decide ((a+1)<(c.length:Int))) (gd (0<=a/\a<(c.length:Int))<|gd (0<=d/\d<(e.length:Int))<|(Df F m (gl c a.toNat) (gl e d.toNat)).bind λp=>gd (0<=a/\a<(c.length:Int))<|gd (0<=d/\d<(e.length:Int))<|(Df F n (gl c a.toNat) (gl e d.toNat)).bind λq=>(SN F p q o).bind λs=>br (!s) (Dj F a i b) (br (decide (0<(b.length:Int))) (gd (Q5 ((b.length:Int)-1))<|gd (0<=((b.length:Int)-1)/\((b.length:Int)-1)<(b.length:Int))<|gd (0<=a/\a<(c.length:Int))<|Jx F c e d a b i (((gl b ((b.length:Int)-1).toNat).R_)==(gl c a.toNat))) (Jx F c e d a b i false))) (Di F e d k l j b)
def SV(F:Nat)(a b:List Rect):=
 gd (a.length+b.length<=Y6)<|some (a++b)
def Q0b(j k:List Rect)(l:Int)(i b:List Int)(e:(Int×(List Rect)×(List Rect))->Option (List Rect))(a:Int)(c d:List Rect):=
 gd (Q5 (a+1))<|br (decide ((a+1)<(b.length:Int))) (Y3 (λg (z:Int×(List Rect))=>zY F j k l i b a c d e g z.1 z.2) F ((0:Int),([]:List Rect))) (SV F c d)
def SU(c d:List Rect)(e:Int)(a b:List Int):=
 Y3 (λg (z:Int×(List Rect)×(List Rect))=>Q0b F c d e a b g z.1 z.2.1 z.2.2) F ((0:Int),([]:List Rect),([]:List Rect))
def Dl(b c:List Rect)(j:Int)(i:((List Int)×(List Int)×Int)->Option (List Rect))(d e:List Int)(a:Int):=
 br (decide (a<((List.length ([b,c]:List (List Rect)):Nat):Int))) (gd (0<=a/\a<((List.length ([b,c]:List (List Rect)):Nat):Int))<|Y3 (λg (z:(List Int)×(List Int)×Int)=>ya F b c a i g z.1 z.2.1 z.2.2) F (d,e,(0:Int))) (SU F b c j d e)
def Wk(a b:List Rect)(c:Int):=
 Y3 (λg (z:(List Int)×(List Int)×Int)=>Dl F a b c g z.1 z.2.1 z.2.2) F (([]:List Int),([]:List Int),(0:Int))
def SY(F:Nat)(a:List Rect):=
 br (decide (120<(a.length:Int))) (some ((⟨[]⟩:Re_),(1:Int))) (some ((⟨a⟩:Re_),(0:Int)))
def zV(b:List Rect):=
 (Wk F b ([]) (1:Int)).bind λc=>(SY F c).bind λa=>some (a.1,a.2)
def bV(b:List Rect)(c:(Int)->Option (Re_×Int))(a:Int):=
 br (decide (a<(b.length:Int))) (gd (0<=a/\a<(b.length:Int))<|(Xl F (gl b a.toNat)).bind λd=>br (!d) (some ((⟨[]⟩:Re_),(2:Int))) (gd (Q5 (a+1))<|c (a+1))) (zV F b)
def SQ(a:List Rect):=
 br (decide (120<(a.length:Int))) (some ((⟨[]⟩:Re_),(1:Int))) (Y3 (λg (z:Int)=>bV F a g z) F (0:Int))
def yJ(a:List Rect)(b:List Int)(c:Int):=
 (SQ F a).bind λd=>some ((⟨b,c⟩:Tape),d.1)
def Xw(j:Int)(i:(Int×(List Int)×Int×(List Rect))->Option (Tape×Re_))(b:Int)(d:List Int)(e:Int)(c:List Rect):=
 br (decide ((0:Int)<b)) ((KR F (⟨d,e⟩:Tape) j).bind λa=>gd (c.length+(List.length ([a.2]:List Rect))<=Y6)<|gd (Q5 (b-1))<|i ((b-1),a.1.l_,a.1.at_,(c++([a.2]:List Rect)))) (yJ F c d e)
def Xx(c:Tape)(d b:Int):=
 gd (Q5 (b+1))<|(Qm F c (b+1)).bind λa=>Y3 (λg (z:Int×(List Int)×Int×(List Rect))=>Xw F d g z.1 z.2.1 z.2.2.1 z.2.2.2) F (a.2,a.1.l_,a.1.at_,([]:List Rect))
def yR(F:Nat)(a:List Rect)(b:List Int)(c:Int):=
 some ((⟨b,c⟩:Tape),(⟨a⟩:Re_))
def KS(d:Tape)(c e:Int):=
 (Xx F d c e).bind λa=>br ((a.2.t_.length:Int)==0) ((KR F a.1 c).bind λb=>yR F ([b.2]:List Rect) b.1.l_ b.1.at_) (yR F a.2.t_ a.1.l_ a.1.at_)
def Q0d(F:Nat)(a:List Rect):=
 br (decide (120<(a.length:Int))) (some ((⟨([]:List Rect)⟩:Re_),(1:Int))) (some ((⟨a⟩:Re_),(0:Int)))
def bW(b:List Rect):=
 (Wk F b ([]) (1:Int)).bind λc=>(Q0d F c).bind λa=>some (a.1,a.2)
def Q9L(b:List Rect)(c:(Int)->Option (Re_×Int))(a:Int):=
 br (decide (a<(b.length:Int))) (gd (0<=a/\a<(b.length:Int))<|(Xl F (gl b a.toNat)).bind λd=>br (!d) (some ((⟨([]:List Rect)⟩:Re_),(2:Int))) (gd (Q5 (a+1))<|c (a+1))) (bW F b)
def bX(a:List Rect):=
 br (decide (120<(a.length:Int))) (some ((⟨([]:List Rect)⟩:Re_),(1:Int))) (Y3 (λg (z:Int)=>Q9L F a g z) F (0:Int))
def Q0U(a:List Rect)(b:List Int)(c:Int):=
 (bX F a).bind λd=>some ((⟨b,c⟩:Tape),d.1)
def Z1t(j:Int)(i:(Int×(List Int)×Int×(List Rect))->Option (Tape×Re_))(b:Int)(d:List Int)(e:Int)(c:List Rect):=
 br (decide ((0:Int)<b)) ((KR F (⟨d,e⟩:Tape) j).bind λa=>gd (c.length+(List.length ([a.2]:List Rect))<=Y6)<|gd (Q5 (b-1))<|i ((b-1),a.1.l_,a.1.at_,(c++([a.2]:List Rect)))) (Q0U F c d e)
def Q0V(c:Tape)(d b:Int):=
 gd (Q5 (b+1))<|(Qm F c (b+1)).bind λa=>Y3 (λg (z:Int×(List Int)×Int×(List Rect))=>Z1t F d g z.1 z.2.1 z.2.2.1 z.2.2.2) F (a.2,a.1.l_,a.1.at_,([]:List Rect))
def yS(F:Nat)(a:List Int)(b:Int)(c:List Rect):=
 some ((⟨a,b⟩:Tape),(⟨c⟩:Re_))
def yT(d:Tape)(c e:Int):=
 (Q0V F d c e).bind λa=>br ((a.2.t_.length:Int)==0) ((KR F a.1 c).bind λb=>yS F b.1.l_ b.1.at_ ([b.2]:List Rect)) (yS F a.1.l_ a.1.at_ a.2.t_)
def DE(F:Nat)(a:Int)(b:(Int×(List Int)×Int×(List Line))->Option (Tape×(List Line)×(List Int)×(List Re_)))(c:List Int)(d:Int)(e:List Line):=
 gd (Q5 (a-1))<|b ((a-1),c,d,e)
def DF(l:List Crop)(k:Int)(b:List Line)(d:Tape×Int)(e:Tape×Re_)(j:(Int×(List Int)×Int×(List Line))->Option (Tape×(List Line)×(List Int)×(List Re_)))(c:List Rect):=
 br (decide (0<(c.length:Int))) (gd (Q5 (d.2+(1:Int)))<|(Qm F e.1 (l.length:Int)).bind λi=>(Qm F i.1 (15:Int)).bind λa=>gd (Q5 ((1:Int)+a.2))<|gd (b.length+(List.length ([(⟨(d.2+(1:Int)),(⟨c⟩:Re_),i.2,((1:Int)+a.2)⟩:Line)]:List Line))<=Y6)<|DE F k j a.1.l_ a.1.at_ (b++([(⟨(d.2+(1:Int)),(⟨c⟩:Re_),i.2,((1:Int)+a.2)⟩:Line)]:List Line))) (DE F k j e.1.l_ e.1.at_ b)
def Q0X(j:List Crop)(i:Int)(b:List Line)(k:Tape×Int)(l:Tape×Re_)(d:(Int×(List Int)×Int×(List Line))->Option (Tape×(List Line)×(List Int)×(List Re_)))(e:((List Rect)×Int)->Option (Tape×(List Line)×(List Int)×(List Re_)))(c:List Rect)(a:Int):=
 br (decide (a<(b.length:Int))) (gd (0<=a/\a<(b.length:Int))<|(Wk F c ((gl b a.toNat).g_.t_) (3:Int)).bind λm=>gd (Q5 (a+1))<|e (m,(a+1))) (DF F j i b k l d c)
def TE(j:List Crop)(b:List Re_)(d:Int)(e:List Line)(a:Tape×Int)(k:Tape×Re_)(c:(Int×(List Int)×Int×(List Line))->Option (Tape×(List Line)×(List Int)×(List Re_)))(i:List Rect):=
 gd (0<=a.2/\a.2<(b.length:Int))<|(Wk F i ((gl b a.2.toNat).t_) (2:Int)).bind λl=>Y3 (λg (z:(List Rect)×Int)=>Q0X F j d e a k c g z.1 z.2) F (l,(0:Int))
def Q0Y(m:List Crop)(j:List Re_)(k:Int)(l:List Line)(c:Tape×Int)(d:Tape×Re_)(e:(Int×(List Int)×Int×(List Line))->Option (Tape×(List Line)×(List Int)×(List Re_)))(i:(Int×(List Rect))->Option (Tape×(List Line)×(List Int)×(List Re_)))(a:Int)(b:List Rect):=
 br (decide (a<(d.2.t_.length:Int))) (gd (0<=a/\a<(b.length:Int))<|gd (Q5 ((10:Int)*c.2))<|gd (Q5 (((gl b a.toNat).L_)+((10:Int)*c.2)))<|gd (0<=a/\a<(b.length:Int))<|gd (Q5 ((10:Int)*c.2))<|gd (Q5 (((gl b a.toNat).R_)+((10:Int)*c.2)))<|gd (0<=a/\a<(b.length:Int))<|gd (0<=a/\a<((List.length (List.set b a.toNat (⟨(((gl b a.toNat).L_)+((10:Int)*c.2)),(gl b a.toNat).w_,(gl b a.toNat).R_,(gl b a.toNat).H_⟩:Rect)):Nat):Int))<|gd (Q5 (a+1))<|i ((a+1),(List.set (List.set b a.toNat (⟨(((gl b a.toNat).L_)+((10:Int)*c.2)),(gl b a.toNat).w_,(gl b a.toNat).R_,(gl b a.toNat).H_⟩:Rect)) a.toNat (⟨(gl (List.set b a.toNat (⟨(((gl b a.toNat).L_)+((10:Int)*c.2)),(gl b a.toNat).w_,(gl b a.toNat).R_,(gl b a.toNat).H_⟩:Rect)) a.toNat).L_,(gl (List.set b a.toNat (⟨(((gl b a.toNat).L_)+((10:Int)*c.2)),(gl b a.toNat).w_,(gl b a.toNat).R_,(gl b a.toNat).H_⟩:Rect)) a.toNat).w_,(((gl b a.toNat).R_)+((10:Int)*c.2)),(gl (List.set b a.toNat (⟨(((gl b a.toNat).L_)+((10:Int)*c.2)),(gl b a.toNat).w_,(gl b a.toNat).R_,(gl b a.toNat).H_⟩:Rect)) a.toNat).H_⟩:Rect)))) (TE F m j k l c d e b)
def Q0W(F:Nat)(a:List Int)(b:List Re_)(c:List Line)(d:List Int)(e:Int):=
 some ((⟨d,e⟩:Tape),c,a,b)
def Xy(m:List Crop)(a:List Int)(b:List Re_)(l:(Int×(List Int)×Int×(List Line))->Option (Tape×(List Line)×(List Int)×(List Re_)))(c:Int)(d:List Int)(e:Int)(i:List Line):=
 br (decide ((0:Int)<c)) ((Qm F (⟨d,e⟩:Tape) (a.length:Int)).bind λj=>(yT F j.1 (9:Int) (2:Int)).bind λk=>Y3 (λg (z:Int×(List Rect))=>Q0Y F m b c i j k l g z.1 z.2) F ((0:Int),k.2.t_)) (Q0W F a b i d e)
def TF(j:List Crop)(b:Int)(c:List Int)(d:Int)(e:List Int)(i:List Re_):=
 gd (Q5 (b+1))<|(Qm F (⟨c,d⟩:Tape) (b+1)).bind λa=>Y3 (λg (z:Int×(List Int)×Int×(List Line))=>Xy F j e i g z.1 z.2.1 z.2.2.1 z.2.2.2) F (a.2,a.1.l_,a.1.at_,([]:List Line))
def Xz(l:List Crop)(m:Int)(k:(Int×(List Int)×Int×(List Int)×(List Re_))->Option (Tape×(List Line)×(List Int)×(List Re_)))(d:Int)(i:List Int)(j:Int)(a:List Int)(e:List Re_):=
 br (decide ((0:Int)<d)) (gd (Q5 ((a.length:Int)+1))<|gd (a.length+(List.length ([((a.length:Int)+1)]:List Int))<=Y6)<|gd (Q5 (10*(a.length:Int)))<|gd (Q5 (10*(a.length:Int)))<|(Zn F (⟨i,j⟩:Tape) (2:Int) (9:Int)).bind λb=>gd (Q5 ((10*(a.length:Int))+b.2))<|(Zn F b.1 (2:Int) (9:Int)).bind λc=>gd (e.length+(List.length ([(⟨([(⟨(10*(a.length:Int)),0,((10*(a.length:Int))+b.2),c.2⟩:Rect)]:List Rect)⟩:Re_)]:List Re_))<=Y6)<|gd (Q5 (d-1))<|k ((d-1),c.1.l_,c.1.at_,(a++([((a.length:Int)+1)]:List Int)),(e++([(⟨([(⟨(10*(a.length:Int)),0,((10*(a.length:Int))+b.2),c.2⟩:Rect)]:List Rect)⟩:Re_)]:List Re_)))) (TF F l m i j a e)
def TG(b:Tape)(c:List Crop)(d:Int):=
 (Zn F b (1:Int) (3:Int)).bind λa=>Y3 (λg (z:Int×(List Int)×Int×(List Int)×(List Re_))=>Xz F c d g z.1 z.2.1 z.2.2.1 z.2.2.2.1 z.2.2.2.2) F (a.2,a.1.l_,a.1.at_,([]:List Int),([]:List Re_))
def Ln(F:Nat)(e:Tape×(List Crop))(a:List Re_)(b:List Version)(c:List Int)(d:Int):=
 some ((⟨c,d⟩:Tape),e.2,b,a)
def Lo(i:Tape×(List Crop))(k:List Re_)(j:(Int×(List Int)×Int×(List Version))->Option (Tape×(List Crop)×(List Version)×(List Re_)))(b:Int)(d:List Int)(e:Int)(c:List Version):=
 br (decide ((0:Int)<b)) ((TG F (⟨d,e⟩:Tape) i.2 (2:Int)).bind λa=>gd (c.length+(List.length ([(⟨0,a.2.1⟩:Version)]:List Version))<=Y6)<|gd (Q5 (b-1))<|j ((b-1),a.1.l_,a.1.at_,(c++([(⟨0,a.2.1⟩:Version)]:List Version)))) (Ln F i k c d e)
def Mf(b:Tape×(List Crop))(c:List Re_):=
 (Zn F b.1 (1:Int) (3:Int)).bind λa=>Y3 (λg (z:Int×(List Int)×Int×(List Version))=>Lo F b c g z.1 z.2.1 z.2.2.1 z.2.2.2) F (a.2,a.1.l_,a.1.at_,([]:List Version))
def Lp(d:Tape×(List Crop))(c:(Int×(List Re_))->Option (Tape×(List Crop)×(List Version)×(List Re_)))(a:Int)(b:List Re_):=
 br (decide (a<3)) (gd (Q5 ((10:Int)*a))<|gd (Q5 ((10:Int)*a))<|gd (Q5 (((10:Int)*a)+9))<|gd (b.length+(List.length ([(⟨([(⟨((10:Int)*a),0,(((10:Int)*a)+9),(9:Int)⟩:Rect)]:List Rect)⟩:Re_)]:List Re_))<=Y6)<|gd (Q5 (a+1))<|c ((a+1),(b++([(⟨([(⟨((10:Int)*a),0,(((10:Int)*a)+9),(9:Int)⟩:Rect)]:List Rect)⟩:Re_)]:List Re_)))) (Mf F d b)
def Py(a:Tape):=
 (TX F a).bind λb=>Y3 (λg (z:Int×(List Re_))=>Lp F b g z.1 z.2) F ((0:Int),([]:List Re_))
def Tb(F:Nat)(rc:Int->Option ByteArray)(a:Int):=
 br (decide (a<0)) (gd ((10:Int)≠0)<|gd (Q5 (0-(a.tmod (10:Int))))<|br (decide ((-10:Int)<a)) (gd (Q5 ((48:Int)+(0-(a.tmod (10:Int)))))<|gd (ByteArray.size (ByteArray.mk #[45])+ByteArray.size (ZT (IntKind.wrap .u8 ((48:Int)+(0-(a.tmod (10:Int))))))<=Y6)<|some ((ByteArray.mk #[45])++(ZT (IntKind.wrap .u8 ((48:Int)+(0-(a.tmod (10:Int)))))))) (gd (Q5 (a.tdiv (10:Int))/\(10:Int)≠0)<|(rc (a.tdiv (10:Int))).bind λb=>gd (Q5 ((48:Int)+(0-(a.tmod (10:Int)))))<|gd (ByteArray.size b+ByteArray.size (ZT (IntKind.wrap .u8 ((48:Int)+(0-(a.tmod (10:Int))))))<=Y6)<|some (b++(ZT (IntKind.wrap .u8 ((48:Int)+(0-(a.tmod (10:Int))))))))) (br (decide (a<10)) (gd (Q5 ((48:Int)+a))<|some (ZT (IntKind.wrap .u8 ((48:Int)+a)))) (gd (Q5 (a.tdiv (10:Int))/\(10:Int)≠0)<|(rc (a.tdiv (10:Int))).bind λc=>gd ((10:Int)≠0)<|gd (Q5 ((48:Int)+(a.tmod (10:Int))))<|gd (ByteArray.size c+ByteArray.size (ZT (IntKind.wrap .u8 ((48:Int)+(a.tmod (10:Int)))))<=Y6)<|some (c++(ZT (IntKind.wrap .u8 ((48:Int)+(a.tmod (10:Int))))))))
def Xm:Nat->Int->Option ByteArray
 |0=>λ_=>none
 |F+1=>Tb F (Xm F)
def UG(c:Tape)(a:Int):=
 (Qm F c a).bind λb=>gd (Q5 (a-1))<|some (b.1,(b.2==(a-1)))
def Ua(F:Nat)(rc:Tape->Int->Option (Tape×Term))(e:Tape×Int)(a b:Int)(c:List Int)(d:Int):=
 some ((⟨c,d⟩:Tape),(⟨e.2,a,b,[]⟩:Term))
def KP(rc:Tape->Int->Option (Tape×Term))(a:Tape×Int)(l:Bool):=
 br l ((Qm F a.1 (4:Int)).bind λd=>Ua F rc a d.2 0 d.1.l_ d.1.at_) (br (a.2==(4:Int)) ((Qm F a.1 (5:Int)).bind λb=>gd (Q5 ((1:Int)*2 ^ (min (b.2).toNat (IntKind.bits .i64)))/\0<=b.2)<|Ua F rc a ((1:Int)*2 ^ (min (b.2).toNat (IntKind.bits .i64))) 0 b.1.l_ b.1.at_) (br (a.2==(5:Int)) ((Qm F a.1 (16:Int)).bind λe=>Ua F rc a e.2 0 e.1.l_ e.1.at_) (br (a.2==(6:Int)) ((Zn F a.1 (2:Int) (3:Int)).bind λi=>Ua F rc a i.2 0 i.1.l_ i.1.at_) (br (a.2==(7:Int)) ((Zn F a.1 (1:Int) (2:Int)).bind λk=>(Qm F k.1 (5:Int)).bind λc=>gd (Q5 ((1:Int)*2 ^ (min (c.2).toNat (IntKind.bits .i64)))/\0<=c.2)<|Ua F rc a k.2 ((1:Int)*2 ^ (min (c.2).toNat (IntKind.bits .i64))) c.1.l_ c.1.at_) (br (a.2==(8:Int)) ((Zn F a.1 (1:Int) (3:Int)).bind λj=>Ua F rc a j.2 0 j.1.l_ j.1.at_) (Ua F rc a 0 0 a.1.l_ a.1.at_))))))
def KQ(rc:Tape->Int->Option (Tape×Term))(a:Int)(n:Bool)(l:List Int)(m:Int):=
 br n ((Qm F (⟨l,m⟩:Tape) (3:Int)).bind λb=>br (b.2==(0:Int)) (gd (Q5 (a-1))<|(rc b.1 (a-1)).bind λd=>gd (Q5 d.2.op_)<|some (d.1,(⟨(11:Int),0,0,([d.2]:List Term)⟩:Term))) (br (b.2==(1:Int)) (gd (Q5 (a-1))<|(rc b.1 (a-1)).bind λe=>gd (Q5 (a-1))<|(rc e.1 (a-1)).bind λi=>gd (Q5 e.2.op_)<|gd (Q5 i.2.op_)<|some (i.1,(⟨(9:Int),0,0,([e.2,i.2]:List Term)⟩:Term))) (gd (Q5 (a-1))<|(rc b.1 (a-1)).bind λj=>gd (Q5 (a-1))<|(rc j.1 (a-1)).bind λk=>gd (Q5 j.2.op_)<|gd (Q5 k.2.op_)<|some (k.1,(⟨(10:Int),0,0,([j.2,k.2]:List Term)⟩:Term))))) ((Zn F (⟨l,m⟩:Tape) (1:Int) (8:Int)).bind λc=>br (c.2==(2:Int)) (KP F rc c (c.2==(2:Int))) (KP F rc c (c.2==(3:Int))))
def TB(rc:Tape->Int->Option (Tape×Term))(a:Tape)(b:Int):=
 br (decide ((0:Int)<b)) ((UG F a (2:Int)).bind λc=>KQ F rc b c.2 c.1.l_ c.1.at_) (KQ F rc b false a.l_ a.at_)
def WZ:Nat->Tape->Int->Option (Tape×Term)
 |0=>λ_ _=>none
 |F+1=>TB F (WZ F)
def WS(F:Nat)(a:Int)(b:(Int)->Option Bool)(c:Bool):=
 br c (some false) (gd (Q5 (a+1))<|b (a+1))
def Q0e(F:Nat):=
 some true
def SZ(b:ByteArray)(c:(Int)->Option Bool)(a:Int):=
 br (decide (a<((b.size:Nat):Int))) (gd (0<=a/\a<((b.size:Nat):Int))<|br (decide ((K9 b a)<97)) (gd (0<=a/\a<((b.size:Nat):Int))<|br (decide ((K9 b a)<48)) (WS F a c true) (gd (0<=a/\a<((b.size:Nat):Int))<|WS F a c (decide ((57:Int)<(K9 b a))))) (gd (0<=a/\a<((b.size:Nat):Int))<|br (decide ((122:Int)<(K9 b a))) (gd (0<=a/\a<((b.size:Nat):Int))<|br (decide ((K9 b a)<48)) (WS F a c true) (gd (0<=a/\a<((b.size:Nat):Int))<|WS F a c (decide ((57:Int)<(K9 b a))))) (WS F a c false))) (Q0e F)
def Jy(b:ByteArray)(a:Bool):=
 br a (some false) (Y3 (λg (z:Int)=>SZ F b g z) F (0:Int))
def Ta(a:ByteArray):=
 br (decide (((a.size:Nat):Int)<(1:Int))) (Jy F a true) (br (decide ((12:Int)<((a.size:Nat):Int))) (Jy F a true) (gd (0<=(0:Int)/\(0:Int)<((a.size:Nat):Int))<|br (decide ((K9 a (0:Int))<97)) (Jy F a true) (gd (0<=(0:Int)/\(0:Int)<((a.size:Nat):Int))<|Jy F a (decide ((122:Int)<(K9 a (0:Int)))))))
def BO(F:Nat)(rc:Term->Option Int)(a:Int)(b:(Int×Int)->Option Int)(c:Int):=
 gd (Q5 (a+1))<|b (c,(a+1))
def bl(F:Nat)(rc:Term->Option Int)(a:Int):=
 some a
def SA(rc:Term->Option Int)(c:Term)(d:(Int×Int)->Option Int)(b a:Int):=
 br (decide (a<(c.kids_.length:Int))) (gd (0<=a/\a<(c.kids_.length:Int))<|gd (Q5 (gl c.kids_ a.toNat).op_)<|br (decide (b<=40)) ((rc (gl c.kids_ a.toNat)).bind λe=>gd (Q5 (b+e))<|BO F rc a d (b+e)) (BO F rc a d b)) (bl F rc b)
def SB(rc:Term->Option Int)(a:Term):=
 Y3 (λg (z:Int×Int)=>SA F rc a g z.1 z.2) F ((1:Int),(0:Int))
def Jt:Nat->Term->Option Int
 |0=>λ_=>none
 |F+1=>SB F (Jt F)
def zM(F:Nat)(rc:Term->Option Int)(a:Int):=
 gd (Q5 (a+1))<|some (a+1)
def Sy(rc:Term->Option Int)(b:Term)(d:(Int×Int)->Option Int)(c a:Int):=
 br (decide (a<(b.kids_.length:Int))) (gd (0<=a/\a<(b.kids_.length:Int))<|gd (Q5 (gl b.kids_ a.toNat).op_)<|(rc (gl b.kids_ a.toNat)).bind λe=>gd (Q5 (a+1))<|d ((y3 c e),(a+1))) (zM F rc c)
def Sz(rc:Term->Option Int)(a:Term):=
 Y3 (λg (z:Int×Int)=>Sy F rc a g z.1 z.2) F ((0:Int),(0:Int))
def Js:Nat->Term->Option Int
 |0=>λ_=>none
 |F+1=>Sz F (Js F)
def KC(F:Nat)(a:Bool):=
 some a
def Xf(a:Int):=
 br (a==1) (KC F true) (br (a==2) (KC F true) (br (a==4) (KC F true) (br (a==8) (KC F true) (KC F (a==16)))))
def bh(F:Nat)(rc:Term->Option Bool):=
 some true
def Xi(rc:Term->Option Bool)(b:Term)(c:(Int)->Option Bool)(a:Int):=
 br (decide (a<(b.kids_.length:Int))) (gd (0<=a/\a<(b.kids_.length:Int))<|gd (Q5 (gl b.kids_ a.toNat).op_)<|(rc (gl b.kids_ a.toNat)).bind λd=>br (!d) (some false) (gd (Q5 (a+1))<|c (a+1))) (bh F rc)
def Xg(rc:Term->Option Bool)(b:Term)(a:Bool):=
 br a (some false) (Y3 (λg (z:Int)=>Xi F rc b g z) F (0:Int))
def Zt(rc:Term->Option Bool)(a:Term)(b:Int)(c d:Bool):=
 br (!d) (Xg F rc a true) (br (!c) (Xg F rc a true) (Xg F rc a ((a.kids_.length:Int) != b)))
def Xh(rc:Term->Option Bool)(a:Term)(b:Bool):=
 br b (br (a.num_==0) (Zt F rc a (a.kids_.length:Int) (a.more_==0) (decide (0<(a.kids_.length:Int)))) (Zt F rc a (a.kids_.length:Int) (a.more_==0) false)) (br (a.op_==11) (Zt F rc a (1:Int) (a.more_==0) (a.num_==0)) (Zt F rc a (0:Int) (a.more_==0) false))
def Sx(rc:Term->Option Bool)(a:Term):=
 br (a.op_==1) (Zt F rc a (0:Int) (a.more_==0) (a.num_==0)) (br (a.op_==2) (br (decide ((0:Int)<=a.num_)) (Zt F rc a (0:Int) (a.more_==0) (decide (a.num_<40))) (Zt F rc a (0:Int) (a.more_==0) false)) (br (a.op_==3) (br (decide ((0:Int)<=a.num_)) (Zt F rc a (0:Int) (a.more_==0) (decide (a.num_<=40))) (Zt F rc a (0:Int) (a.more_==0) false)) (br (a.op_==4) ((Xf F a.num_).bind λb=>Zt F rc a (0:Int) (a.more_==0) b) (br (a.op_==5) (br (decide ((0:Int)<=a.num_)) (Zt F rc a (0:Int) (a.more_==0) (decide (a.num_<=15))) (Zt F rc a (0:Int) (a.more_==0) false)) (br (a.op_==6) (br (decide ((2:Int)<=a.num_)) (Zt F rc a (0:Int) (a.more_==0) (decide (a.num_<=10))) (Zt F rc a (0:Int) (a.more_==0) false)) (br (a.op_==7) (br (decide ((1:Int)<=a.num_)) ((Xf F a.more_).bind λc=>Zt F rc a (0:Int) c (decide (a.num_<=10))) ((Xf F a.more_).bind λd=>Zt F rc a (0:Int) d false)) (br (a.op_==8) (br (decide ((1:Int)<=a.num_)) (Zt F rc a (0:Int) (a.more_==0) (decide (a.num_<=10))) (Zt F rc a (0:Int) (a.more_==0) false)) (br (a.op_==9) (Xh F rc a (a.op_==9)) (Xh F rc a (a.op_==10))))))))))
def Wb:Nat->Term->Option Bool
 |0=>λ_=>none
 |F+1=>Sx F (Wb F)
def SC(F:Nat)(a:Bool):=
 br a (some (16:Int)) (some (0:Int))
def SE(a:Term):=
 (Jt F a).bind λb=>br (decide ((40:Int)<b)) (some (1:Int)) ((Js F a).bind λc=>br (decide ((8:Int)<c)) (SC F true) ((Wb F a).bind λd=>SC F (!d)))
def Jp(F:Nat)(d:List Bracket)(a:Int)(b:(Int×Int)->Option Bool)(c:Bool):=
 br c (some false) (gd (Q5 (a+1))<|b ((gl d a.toNat).up_,(a+1)))
def cX(F:Nat):=
 some true
def Xd(b:List Bracket)(c:(Int×Int)->Option Bool)(d a:Int):=
 br (decide (a<(b.length:Int))) (gd (0<=a/\a<(b.length:Int))<|br (decide (((gl b a.toNat).up_)<=d)) (Jp F b a c true) (br (decide ((268435456:Int)<((gl b a.toNat).up_))) (Jp F b a c true) (br (decide (((gl b a.toNat).rate_)<0)) (Jp F b a c true) (Jp F b a c (decide ((1048576:Int)<((gl b a.toNat).rate_))))))) (cX F)
def BN(b:List Bracket)(a:Bool):=
 br a (some false) (Y3 (λg (z:Int×Int)=>Xd F b g z.1 z.2) F ((0:Int),(0:Int)))
def Sr(a:List Bracket):=
 br (decide ((a.length:Int)<1)) (BN F a true) (BN F a (decide (6<(a.length:Int))))
def Kx(F:Nat)(a:Bool):=
 br a (some (3:Int)) (some (0:Int))
def Ky(a:Scheme)(c:Bool):=
 br c (some (2:Int)) ((Ta F a.n_).bind λd=>br (!d) (some (5:Int)) ((SE F a.cond_).bind λb=>br (b != (0:Int)) (some b) ((Sr F a.brackets_).bind λe=>br (!e) (Kx F true) (br (decide (a.excludes_<0)) (Kx F true) (br (decide ((65536:Int)<=a.excludes_)) (Kx F true) (gd (0<=a.N_)<|Kx F ((QK .i64 (a.excludes_.fdiv (2 ^ (min (a.N_).toNat (IntKind.bits .i64)))) (1:Int))==1)))))))
def Ss(a:Scheme):=
 br (decide (a.N_<0)) (Ky F a true) (br (decide ((15:Int)<a.N_)) (Ky F a true) (br (decide (a.least_<0)) (Ky F a true) (Ky F a (decide ((268435456:Int)<a.least_)))))
def ba(F:Nat):=
 some (-1:Int)
def Kz(b:List Scheme)(d:Int)(c:(Int)->Option Int)(a:Int):=
 br (decide (a<(b.length:Int))) (gd (0<=a/\a<(b.length:Int))<|br (((gl b a.toNat).N_)==d) (some a) (gd (Q5 (a+1))<|c (a+1))) (ba F)
def St(a:List Scheme)(b:Int):=
 Y3 (λg (z:Int)=>Kz F a b g z) F (0:Int)
def Xe(F:Nat)(c a:Int)(b:(Int)->Option (Int×Int))(d:Bool):=
 br d (some (c,(6:Int))) (gd (Q5 (a+1))<|b (a+1))
def bd(F:Nat)(a:Int)(b:(Int)->Option (Int×Int)):=
 gd (Q5 (a+1))<|b (a+1)
def Jr(c:List Scheme)(a:Int)(e d:(Int)->Option (Int×Int))(b:Int):=
 br (decide (b<((List.length (c.take a.toNat):Nat):Int))) (gd (0<=b/\b<((List.length (c.take a.toNat):Nat):Int))<|br (Zl ((gl (c.take a.toNat) b.toNat).n_) ((gl c a.toNat).n_)) (Xe F a b d true) (gd (Q5 (a-1))<|br (b==(a-1)) (Xe F a b d (decide (((gl c a.toNat).N_)<=((gl (c.take a.toNat) b.toNat).N_)))) (Xe F a b d false))) (bd F a e)
def Su(F:Nat)(a:Int)(b:(Int)->Option (Int×Int)):=
 gd (Q5 (a+1))<|b (a+1)
def Sv(b c:Int)(a:(Int)->Option (Int×Int))(d:Bool):=
 br d (some (b,(17:Int))) (Su F c a)
def bc(F:Nat)(a:Int)(b:(Int)->Option (Int×Int)):=
 gd (Q5 (a+1))<|b (a+1)
def Jq(c:List Scheme)(b:Int)(i e:(Int)->Option (Int×Int))(a:Int):=
 br (decide (a<=15)) (gd (0<=a)<|br ((QK .i64 (((gl c b.toNat).excludes_).fdiv (2 ^ (min (a).toNat (IntKind.bits .i64)))) (1:Int))==0) (Su F a e) ((St F c a).bind λd=>br (decide (d<0)) (Sv F b a e true) (gd (0<=d/\d<(c.length:Int))<|gd (0<=((gl c b.toNat).N_))<|Sv F b a e ((QK .i64 (((gl c d.toNat).excludes_).fdiv (2 ^ (min (((gl c b.toNat).N_)).toNat (IntKind.bits .i64)))) (1:Int))==0)))) (bc F b i)
def be(F:Nat):=
 some ((-1:Int),(0:Int))
def KA(b:List Scheme)(c:(Int)->Option (Int×Int))(a:Int):=
 br (decide (a<(b.length:Int))) (gd (0<=a/\a<(b.length:Int))<|Y3 (λg (z:Int)=>Jq F b a c g z) F (0:Int)) (be F)
def zH(a:List Scheme):=
 Y3 (λg (z:Int)=>KA F a g z) F (0:Int)
def KB(b:List Scheme)(d:(Int)->Option (Int×Int))(a:Int):=
 br (decide (a<(b.length:Int))) (gd (0<=a/\a<(b.length:Int))<|(Ss F (gl b a.toNat)).bind λc=>br (c != (0:Int)) (some (a,c)) (gd (0<=a/\a<=(b.length:Int))<|Y3 (λg (z:Int)=>Jr F b a d g z) F (0:Int))) (zH F b)
def Sw(a:List Scheme):=
 br (decide (16<(a.length:Int))) (some ((0:Int),(1:Int))) (Y3 (λg (z:Int)=>KB F a g z) F (0:Int))
def yM(F:Nat)(a:Int)(b:(Int×Int×(List Int)×Int×(List Scheme))->Option (Tape×(List Scheme)))(c:Int)(d:List Int)(e:Int)(i:List Scheme):=
 gd (Q5 (a-1))<|b (c,(a-1),d,e,i)
def yN(a m:Int)(c:List Scheme)(e:ByteArray)(i:Tape×Term)(j:Tape×Int)(k:Tape×Bool)(l:(Int×Int×(List Int)×Int×(List Scheme))->Option (Tape×(List Scheme)))(n:List Int)(o:Int)(d:List Bracket):=
 gd (c.length+(List.length ([(⟨a,((ByteArray.mk #[115])++e),i.2,d,j.2,0,k.2⟩:Scheme)]:List Scheme))<=Y6)<|(Zn F (⟨n,o⟩:Tape) (1:Int) (2:Int)).bind λb=>gd (Q5 (a+b.2))<|yM F m l (a+b.2) b.1.l_ b.1.at_ (c++([(⟨a,((ByteArray.mk #[115])++e),i.2,d,j.2,0,k.2⟩:Scheme)]:List Scheme))
def yQ(m n:Int)(o:List Scheme)(p:ByteArray)(q:Tape×Term)(s:Tape×Int)(t:Tape×Bool)(k:(Int×Int×(List Int)×Int×(List Scheme))->Option (Tape×(List Scheme)))(l:(Int×Int×(List Int)×Int×(List Bracket))->Option (Tape×(List Scheme)))(b d:Int)(i:List Int)(j:Int)(e:List Bracket):=
 br (decide ((0:Int)<d)) ((Zn F (⟨i,j⟩:Tape) (1:Int) (40:Int)).bind λa=>gd (Q5 (b+a.2))<|(Qm F a.1 (3000:Int)).bind λc=>gd (e.length+(List.length ([(⟨(b+a.2),c.2⟩:Bracket)]:List Bracket))<=Y6)<|gd (Q5 (d-1))<|l ((b+a.2),(d-1),c.1.l_,c.1.at_,(e++([(⟨(b+a.2),c.2⟩:Bracket)]:List Bracket)))) (yN F m n o p q s t k i j e)
def DH(F:Nat)(a:Int)(b:(Int×(List Int)×Int×(List Scheme))->Option (Tape×(List Scheme)))(c:List Int)(d:Int)(e:List Scheme):=
 gd (Q5 (a+1))<|b ((a+1),c,d,e)
def yL(F:Nat)(a:Int)(b:(Int×(List Int)×Int×(List Scheme))->Option (Tape×(List Scheme)))(c:List Int)(d:Int)(e:List Scheme):=
 gd (Q5 (a+1))<|b ((a+1),c,d,e)
def yO(b:Int)(k e:(Int×(List Int)×Int×(List Scheme))->Option (Tape×(List Scheme)))(c:Int)(i:List Int)(j:Int)(a:List Scheme):=
 br (decide (c<((((b).toNat):Nat):Int))) ((UG F (⟨i,j⟩:Tape) (3:Int)).bind λd=>br d.2 (gd (0<=b/\b<(a.length:Int))<|gd (0<=c/\c<(a.length:Int))<|gd (Q5 ((1:Int)*2 ^ (min (((gl a c.toNat).N_)).toNat (IntKind.bits .i64)))/\0<=((gl a c.toNat).N_))<|gd (0<=b/\b<(a.length:Int))<|gd (0<=c/\c<((List.length (List.set a b.toNat (⟨(gl a b.toNat).N_,(gl a b.toNat).n_,(gl a b.toNat).cond_,(gl a b.toNat).brackets_,(gl a b.toNat).least_,(G8 .i64 ((gl a b.toNat).excludes_) ((1:Int)*2 ^ (min (((gl a c.toNat).N_)).toNat (IntKind.bits .i64)))),(gl a b.toNat).needs_⟩:Scheme)):Nat):Int))<|gd (0<=b/\b<((List.length (List.set a b.toNat (⟨(gl a b.toNat).N_,(gl a b.toNat).n_,(gl a b.toNat).cond_,(gl a b.toNat).brackets_,(gl a b.toNat).least_,(G8 .i64 ((gl a b.toNat).excludes_) ((1:Int)*2 ^ (min (((gl a c.toNat).N_)).toNat (IntKind.bits .i64)))),(gl a b.toNat).needs_⟩:Scheme)):Nat):Int))<|gd (Q5 ((1:Int)*2 ^ (min (((gl (List.set a b.toNat (⟨(gl a b.toNat).N_,(gl a b.toNat).n_,(gl a b.toNat).cond_,(gl a b.toNat).brackets_,(gl a b.toNat).least_,(G8 .i64 ((gl a b.toNat).excludes_) ((1:Int)*2 ^ (min (((gl a c.toNat).N_)).toNat (IntKind.bits .i64)))),(gl a b.toNat).needs_⟩:Scheme)) b.toNat).N_)).toNat (IntKind.bits .i64)))/\0<=((gl (List.set a b.toNat (⟨(gl a b.toNat).N_,(gl a b.toNat).n_,(gl a b.toNat).cond_,(gl a b.toNat).brackets_,(gl a b.toNat).least_,(G8 .i64 ((gl a b.toNat).excludes_) ((1:Int)*2 ^ (min (((gl a c.toNat).N_)).toNat (IntKind.bits .i64)))),(gl a b.toNat).needs_⟩:Scheme)) b.toNat).N_))<|gd (0<=c/\c<((List.length (List.set a b.toNat (⟨(gl a b.toNat).N_,(gl a b.toNat).n_,(gl a b.toNat).cond_,(gl a b.toNat).brackets_,(gl a b.toNat).least_,(G8 .i64 ((gl a b.toNat).excludes_) ((1:Int)*2 ^ (min (((gl a c.toNat).N_)).toNat (IntKind.bits .i64)))),(gl a b.toNat).needs_⟩:Scheme)):Nat):Int))<|DH F c e d.1.l_ d.1.at_ (List.set (List.set a b.toNat (⟨(gl a b.toNat).N_,(gl a b.toNat).n_,(gl a b.toNat).cond_,(gl a b.toNat).brackets_,(gl a b.toNat).least_,(G8 .i64 ((gl a b.toNat).excludes_) ((1:Int)*2 ^ (min (((gl a c.toNat).N_)).toNat (IntKind.bits .i64)))),(gl a b.toNat).needs_⟩:Scheme)) c.toNat (⟨(gl (List.set a b.toNat (⟨(gl a b.toNat).N_,(gl a b.toNat).n_,(gl a b.toNat).cond_,(gl a b.toNat).brackets_,(gl a b.toNat).least_,(G8 .i64 ((gl a b.toNat).excludes_) ((1:Int)*2 ^ (min (((gl a c.toNat).N_)).toNat (IntKind.bits .i64)))),(gl a b.toNat).needs_⟩:Scheme)) c.toNat).N_,(gl (List.set a b.toNat (⟨(gl a b.toNat).N_,(gl a b.toNat).n_,(gl a b.toNat).cond_,(gl a b.toNat).brackets_,(gl a b.toNat).least_,(G8 .i64 ((gl a b.toNat).excludes_) ((1:Int)*2 ^ (min (((gl a c.toNat).N_)).toNat (IntKind.bits .i64)))),(gl a b.toNat).needs_⟩:Scheme)) c.toNat).n_,(gl (List.set a b.toNat (⟨(gl a b.toNat).N_,(gl a b.toNat).n_,(gl a b.toNat).cond_,(gl a b.toNat).brackets_,(gl a b.toNat).least_,(G8 .i64 ((gl a b.toNat).excludes_) ((1:Int)*2 ^ (min (((gl a c.toNat).N_)).toNat (IntKind.bits .i64)))),(gl a b.toNat).needs_⟩:Scheme)) c.toNat).cond_,(gl (List.set a b.toNat (⟨(gl a b.toNat).N_,(gl a b.toNat).n_,(gl a b.toNat).cond_,(gl a b.toNat).brackets_,(gl a b.toNat).least_,(G8 .i64 ((gl a b.toNat).excludes_) ((1:Int)*2 ^ (min (((gl a c.toNat).N_)).toNat (IntKind.bits .i64)))),(gl a b.toNat).needs_⟩:Scheme)) c.toNat).brackets_,(gl (List.set a b.toNat (⟨(gl a b.toNat).N_,(gl a b.toNat).n_,(gl a b.toNat).cond_,(gl a b.toNat).brackets_,(gl a b.toNat).least_,(G8 .i64 ((gl a b.toNat).excludes_) ((1:Int)*2 ^ (min (((gl a c.toNat).N_)).toNat (IntKind.bits .i64)))),(gl a b.toNat).needs_⟩:Scheme)) c.toNat).least_,(G8 .i64 ((gl (List.set a b.toNat (⟨(gl a b.toNat).N_,(gl a b.toNat).n_,(gl a b.toNat).cond_,(gl a b.toNat).brackets_,(gl a b.toNat).least_,(G8 .i64 ((gl a b.toNat).excludes_) ((1:Int)*2 ^ (min (((gl a c.toNat).N_)).toNat (IntKind.bits .i64)))),(gl a b.toNat).needs_⟩:Scheme)) c.toNat).excludes_) ((1:Int)*2 ^ (min (((gl (List.set a b.toNat (⟨(gl a b.toNat).N_,(gl a b.toNat).n_,(gl a b.toNat).cond_,(gl a b.toNat).brackets_,(gl a b.toNat).least_,(G8 .i64 ((gl a b.toNat).excludes_) ((1:Int)*2 ^ (min (((gl a c.toNat).N_)).toNat (IntKind.bits .i64)))),(gl a b.toNat).needs_⟩:Scheme)) b.toNat).N_)).toNat (IntKind.bits .i64)))),(gl (List.set a b.toNat (⟨(gl a b.toNat).N_,(gl a b.toNat).n_,(gl a b.toNat).cond_,(gl a b.toNat).brackets_,(gl a b.toNat).least_,(G8 .i64 ((gl a b.toNat).excludes_) ((1:Int)*2 ^ (min (((gl a c.toNat).N_)).toNat (IntKind.bits .i64)))),(gl a b.toNat).needs_⟩:Scheme)) c.toNat).needs_⟩:Scheme))) (DH F c e d.1.l_ d.1.at_ a)) (yL F b k i j a)
def TL(a:List Scheme)(b:List Int)(c:Int):=
 (Sw F a).bind λd=>br (d.2 != (0:Int)) (some ((⟨b,c⟩:Tape),([]:List Scheme))) (some ((⟨b,c⟩:Tape),a))
def yP(i:List Scheme)(e:(Int×(List Int)×Int×(List Scheme))->Option (Tape×(List Scheme)))(a:Int)(c:List Int)(d:Int)(b:List Scheme):=
 br (decide (a<(i.length:Int))) (gd (0<=(0:Int)/\(0:Int)<=a/\((0:Nat):Int)+a<=(b.length:Int))<|Y3 (λg (z:Int×(List Int)×Int×(List Scheme))=>yO F a e g z.1 z.2.1 z.2.2.1 z.2.2.2) F ((0:Int),c,d,b)) (TL F b c d)
def TJ(b:List Int)(c:Int)(a:List Scheme):=
 Y3 (λg (z:Int×(List Int)×Int×(List Scheme))=>yP F a g z.1 z.2.1 z.2.2.1 z.2.2.2) F ((0:Int),b,c,a)
def XB(b n:Int)(c:List Int)(d:Int)(e:List Scheme)(m:(Int×Int×(List Int)×Int×(List Scheme))->Option (Tape×(List Scheme)))(o:Bool):=
 br o ((Xm F b).bind λi=>gd (ByteArray.size (ByteArray.mk #[115])+ByteArray.size i<=Y6)<|(WZ F (⟨c,d⟩:Tape) (2:Int)).bind λj=>(Qm F j.1 (4:Int)).bind λk=>(UG F k.1 (2:Int)).bind λl=>(Zn F l.1 (1:Int) (3:Int)).bind λa=>Y3 (λg (z:Int×Int×(List Int)×Int×(List Bracket))=>yQ F b n e i j k l m g z.1 z.2.1 z.2.2.1 z.2.2.2.1 z.2.2.2.2) F ((0:Int),a.2,a.1.l_,a.1.at_,([]:List Bracket))) (TJ F c d e)
def TM(c:(Int×Int×(List Int)×Int×(List Scheme))->Option (Tape×(List Scheme)))(a b:Int)(d:List Int)(e:Int)(i:List Scheme):=
 br (decide ((0:Int)<b)) (XB F a b d e i c (decide (a<=3))) (XB F a b d e i c false)
def TN(d:Tape)(b:Int):=
 (Qm F d (2:Int)).bind λc=>gd (Q5 (b+1))<|(Qm F c.1 (b+1)).bind λa=>Y3 (λg (z:Int×Int×(List Int)×Int×(List Scheme))=>TM F g z.1 z.2.1 z.2.2.1 z.2.2.2.1 z.2.2.2.2) F (c.2,a.2,a.1.l_,a.1.at_,([]:List Scheme))
def Sf(F:Nat)(a:Bool):=
 some a
def VR(a:Int):=
 br (decide ((1:Int)<=a)) (Sf F (decide (a<=60))) (Sf F false)
def zm(F:Nat)(a:Int):=
 some a
def zn(b:Entitlements)(d:(Int×Int)->Option Int)(c a:Int):=
 br (decide (a<(b.lots_.length:Int))) (gd (0<=a/\a<(b.lots_.length:Int))<|gd (Q5 (c+((gl b.lots_ a.toNat).squares_)))<|gd (Q5 (a+1))<|d ((c+((gl b.lots_ a.toNat).squares_)),(a+1))) (zm F c)
def Sd(a:Entitlements):=
 Y3 (λg (z:Int×Int)=>zn F a g z.1 z.2) F (a.reserve_,(0:Int))
def BJ(F:Nat)(d:Entitlements)(a:Int)(b:(Int×Int)->Option Int)(c:Bool):=
 br c (some (18:Int)) (gd (Q5 (a+1))<|b ((gl d.lots_ a.toNat).N_,(a+1)))
def Kv(b:Entitlements)(a:Int)(c:(Int×Int)->Option Int)(d:Bool):=
 br d (some (2:Int)) (br (decide (((gl b.lots_ a.toNat).used_)<(-1:Int))) (BJ F b a c true) (BJ F b a c (decide ((100:Int)<((gl b.lots_ a.toNat).used_)))))
def BK(b:Entitlements)(a:Int)(c:(Int×Int)->Option Int)(d:Bool):=
 br d (some (20:Int)) (br (decide (((gl b.lots_ a.toNat).squares_)<1)) (Kv F b a c true) (br (decide ((268435456:Int)<((gl b.lots_ a.toNat).squares_))) (Kv F b a c true) (br (decide (((gl b.lots_ a.toNat).value_)<0)) (Kv F b a c true) (Kv F b a c (decide ((1048576:Int)<((gl b.lots_ a.toNat).value_)))))))
def BL(b:Entitlements)(a:Int)(c:(Int×Int)->Option Int)(d:Bool):=
 br d (some (19:Int)) ((VR F ((gl b.lots_ a.toNat).owner_)).bind λe=>br (!e) (BK F b a c true) ((VR F ((gl b.lots_ a.toNat).user_)).bind λi=>BK F b a c (!i)))
def zF(a:Entitlements):=
 (Sd F a).bind λb=>br (decide ((1099511627776:Int)<b)) (some (1:Int)) (some (0:Int))
def zG(a:Entitlements)(c:(Int×Int)->Option Int)(d b:Int):=
 br (decide (b<(a.lots_.length:Int))) (gd (0<=b/\b<(a.lots_.length:Int))<|br (decide (((gl a.lots_ b.toNat).N_)<=d)) (BL F a b c true) (BL F a b c (decide (a.next_<=((gl a.lots_ b.toNat).N_))))) (zF F a)
def Kw(b:Entitlements)(a:Bool):=
 br a (some (2:Int)) (Y3 (λg (z:Int×Int)=>zG F b g z.1 z.2) F ((0:Int),(0:Int)))
def Xc(a:Entitlements):=
 br (decide (80<(a.lots_.length:Int))) (some (1:Int)) (br (decide (a.next_<1)) (Kw F a true) (br (decide ((1073741824:Int)<a.next_)) (Kw F a true) (br (decide (a.reserve_<0)) (Kw F a true) (Kw F a (decide ((1099511627776:Int)<a.reserve_))))))
def Ku(F:Nat)(a:Entitlements):=
 gd ((0)+a.lots_.length<=Y6)<|some (⟨(([]:List Lot)++a.lots_),a.reserve_,a.next_⟩:Entitlements)
def BA(F:Nat)(b:Entitlements)(a:Lot)(c:Bool):=
 br c (some (b,(1:Int))) (gd (b.lots_.length+(List.length ([(⟨b.next_,a.owner_,a.user_,a.squares_,a.value_,a.used_⟩:Lot)]:List Lot))<=Y6)<|gd (Q5 (b.next_+1))<|some ((⟨(b.lots_++([(⟨b.next_,a.owner_,a.user_,a.squares_,a.value_,a.used_⟩:Lot)]:List Lot)),b.reserve_,(b.next_+1)⟩:Entitlements),(0:Int)))
def Xa(a:Entitlements)(b:Lot):=
 br (decide (80<=(a.lots_.length:Int))) (BA F a b true) (BA F a b (decide ((1073741824:Int)<=a.next_)))
def zr(F:Nat):=
 some (-1:Int)
def cR(b:Entitlements)(d:Int)(c:(Int)->Option Int)(a:Int):=
 br (decide (a<(b.lots_.length:Int))) (gd (0<=a/\a<(b.lots_.length:Int))<|br (((gl b.lots_ a.toNat).N_)==d) (some a) (gd (Q5 (a+1))<|c (a+1))) (zr F)
def GZ(a:Entitlements)(b:Int):=
 Y3 (λg (z:Int)=>cR F a b g z) F (0:Int)
def Sc(F:Nat)(a:Int)(b:(Int×(List Lot))->Option Entitlements)(c:List Lot):=
 gd (Q5 (a+1))<|b ((a+1),c)
def Bv(b:Entitlements)(a:Int)(c:List Lot)(e:(Int×(List Lot))->Option Entitlements)(d:Int):=
 br (decide ((0:Int)<d)) (gd (c.length+(List.length ([(⟨(gl b.lots_ a.toNat).N_,(gl b.lots_ a.toNat).owner_,(gl b.lots_ a.toNat).user_,d,(gl b.lots_ a.toNat).value_,(gl b.lots_ a.toNat).used_⟩:Lot)]:List Lot))<=Y6)<|Sc F a e (c++([(⟨(gl b.lots_ a.toNat).N_,(gl b.lots_ a.toNat).owner_,(gl b.lots_ a.toNat).user_,d,(gl b.lots_ a.toNat).value_,(gl b.lots_ a.toNat).used_⟩:Lot)]:List Lot))) (Sc F a e c)
def cQ(F:Nat)(a:Entitlements)(b:List Lot):=
 some (⟨b,a.reserve_,a.next_⟩:Entitlements)
def zl(b:Entitlements)(i e:Int)(d:(Int×(List Lot))->Option Entitlements)(a:Int)(c:List Lot):=
 br (decide (a<(b.lots_.length:Int))) (gd (0<=a/\a<(b.lots_.length:Int))<|br (a==i) (gd (Q5 (((gl b.lots_ a.toNat).squares_)-e))<|Bv F b a c d (((gl b.lots_ a.toNat).squares_)-e)) (Bv F b a c d ((gl b.lots_ a.toNat).squares_))) (cQ F b c)
def Bw(a:Entitlements)(b c:Int):=
 Y3 (λg (z:Int×(List Lot))=>zl F a b c g z.1 z.2) F ((0:Int),([]:List Lot))
def Xn(F:Nat)(a:Bool):=
 some a
def Tc(a b:Int):=
 br (decide ((-1125899906842624:Int)<=a)) (br (decide (a<=1125899906842624)) (br (decide ((1:Int)<=b)) (Xn F (decide (b<=1099511627776))) (Xn F false)) (Xn F false)) (Xn F false)
def Tg(F:Nat)(a:Int):=
 some a
def Th(b a:Int):=
 (Tc F b a).bind λc=>br (!c) (some (0:Int)) (gd (Q5 (b.tdiv a)/\a≠0)<|gd (Q5 ((b.tdiv a)*a))<|br (decide (b<((b.tdiv a)*a))) (gd (Q5 ((b.tdiv a)-1))<|Tg F ((b.tdiv a)-1)) (Tg F (b.tdiv a)))
def Bx(b:Entitlements)(k:Act)(c:Int)(a:Entitlements)(d j e:Int):=
 br (e==0) (some ((⟨a.lots_,d,a.next_⟩:Entitlements),(0:Int))) ((Xa F (⟨a.lots_,d,a.next_⟩:Entitlements) (⟨(gl b.lots_ c.toNat).N_,j,k.to_,e,(gl b.lots_ c.toNat).value_,(gl b.lots_ c.toNat).used_⟩:Lot)).bind λi=>some (i.1,i.2))
def Jo(b:Entitlements)(a:Act)(d:Int)(i:Bool):=
 br i (some (b,(2:Int))) ((Bw F b d a.squares_).bind λc=>br (a.k_==2) (gd (Q5 (a.squares_*a.keep_))<|(Th F (a.squares_*a.keep_) (1000000:Int)).bind λe=>gd (Q5 (c.reserve_+e))<|gd (Q5 (a.squares_-e))<|Bx F b a d c (c.reserve_+e) a.to_ (a.squares_-e)) (Bx F b a d c c.reserve_ ((gl b.lots_ d.toNat).owner_) a.squares_))
def Bz(b:Entitlements)(a:Act)(c:Int)(d:Bool):=
 br d (some (b,(22:Int))) (br (decide (a.squares_<1)) (Jo F b a c true) (br (decide (((gl b.lots_ c.toNat).squares_)<a.squares_)) (Jo F b a c true) (br (a.k_==2) (br (decide (a.keep_<0)) (Jo F b a c true) (Jo F b a c (decide ((1000000:Int)<a.keep_)))) (Jo F b a c false))))
def Se(a:Entitlements)(c:Act):=
 (GZ F a c.lot_).bind λb=>br (decide (b<0)) (some (a,(19:Int))) (gd (0<=b/\b<(a.lots_.length:Int))<|(VR F c.to_).bind λd=>br (!d) (some (a,(20:Int))) (br (((gl a.lots_ b.toNat).owner_) != ((gl a.lots_ b.toNat).user_)) (Bz F a c b true) (Bz F a c b (((gl a.lots_ b.toNat).owner_)==c.to_))))
def BG(F:Nat)(a:Int)(b:(Int×(List Int))->Option (List Int))(c:List Int):=
 gd (Q5 (a+1))<|b ((a+1),c)
def Sj(c:Int)(b:List Int)(d:(Int×(List Int))->Option (List Int))(a:Int):=
 gd (0<=(0:Int)/\(0:Int)<=a/\((0:Nat):Int)+a<=(b.length:Int))<|gd (0+((a).toNat)<=List.length b)<|gd ((0)+(((a).toNat))<=Y6)<|gd (((0)+(((a).toNat)))+(List.length ([c]:List Int))<=Y6)<|gd (0<=a/\a<=((b.length:Nat):Int)/\((0:Nat):Int)+((b.length:Nat):Int)<=(b.length:Int))<|gd ((0+(a).toNat)+(b.length-(a).toNat)<=List.length b)<|gd ((((0)+(((a).toNat)))+(List.length ([c]:List Int)))+((b.length-(a).toNat))<=Y6)<|BG F c d (((([]:List Int)++((b.drop 0).take ((a).toNat)))++([c]:List Int))++((b.drop (0+(a).toNat)).take (b.length-(a).toNat)))
def BH(d:Int)(e:List Int)(a:Int)(c:(Int)->Option (List Int))(b:(Int×(List Int))->Option (List Int))(i:Bool):=
 br i (gd (Q5 (a-1))<|c (a-1)) (Sj F d e b a)
def cU(d:Entitlements)(c:Int)(b:List Int)(e:(Int×(List Int))->Option (List Int))(i:(Int)->Option (List Int))(a:Int):=
 br (decide ((0:Int)<a)) (gd (Q5 (a-1))<|gd (0<=(a-1)/\(a-1)<(b.length:Int))<|gd (0<=(gl b (a-1).toNat)/\(gl b (a-1).toNat)<(d.lots_.length:Int))<|BH F c b a i e (decide (((gl d.lots_ (gl b (a-1).toNat).toNat).value_)<((gl d.lots_ c.toNat).value_)))) (BH F c b a i e false)
def cS(F:Nat)(a:List Int):=
 some a
def zy(c:Entitlements)(e:Int)(d:(Int×(List Int))->Option (List Int))(a:Int)(b:List Int):=
 br (decide (a<(c.lots_.length:Int))) (gd (0<=a/\a<(c.lots_.length:Int))<|br (((gl c.lots_ a.toNat).user_) != e) (BG F a d b) (Y3 (λg (z:Int)=>cU F c a b d g z) F (b.length:Int))) (cS F b)
def Sk(a:Entitlements)(b:Int):=
 (Xc F a).bind λc=>br (c != (0:Int)) (some ([]:List Int)) (Y3 (λg (z:Int×(List Int))=>zy F a b g z.1 z.2) F ((0:Int),([]:List Int)))
def Sl(F:Nat)(a:Int)(b:(Int×Int×Int)->Option (Int×Int))(c d:Int):=
 gd (Q5 (a+1))<|b (c,d,(a+1))
def BI(c:Entitlements)(i b a:Int)(d:(Int×Int×Int)->Option (Int×Int))(e:Int):=
 br (((gl c.lots_ a.toNat).user_)==i) (gd (Q5 (b+((gl c.lots_ a.toNat).squares_)))<|Sl F a d e (b+((gl c.lots_ a.toNat).squares_))) (Sl F a d e b)
def zA(F:Nat)(a b:Int):=
 some (a,b)
def zB(b:Entitlements)(e:Int)(i:(Int×Int×Int)->Option (Int×Int))(c d a:Int):=
 br (decide (a<(b.lots_.length:Int))) (gd (0<=a/\a<(b.lots_.length:Int))<|br (((gl b.lots_ a.toNat).owner_)==e) (gd (Q5 (c+((gl b.lots_ a.toNat).squares_)))<|BI F b e d a i (c+((gl b.lots_ a.toNat).squares_))) (BI F b e d a i c)) (zA F c d)
def Sn(a:Entitlements)(b:Int):=
 (Xc F a).bind λc=>br (c != (0:Int)) (some ((0:Int),(0:Int))) (Y3 (λg (z:Int×Int×Int)=>zB F a b g z.1 z.2.1 z.2.2) F ((0:Int),(0:Int),(0:Int)))
def Bt(F:Nat)(a:Int)(b:(Bool×Int)->Option (Entitlements×Int))(c:Bool):=
 gd (Q5 (a+1))<|b (c,(a+1))
def Br(F:Nat)(a:Entitlements)(b:List Lot):=
 some ((⟨b,a.reserve_,a.next_⟩:Entitlements),(0:Int))
def zj(i:Entitlements)(e:Act)(b:List Int)(k:(Int×Int×(List Lot))->Option (Entitlements×Int))(d a:Int)(c:List Lot):=
 br (decide (a<(b.length:Int))) (gd (0<=a/\a<(b.length:Int))<|br (d==0) (Br F i c) (gd (0<=(gl b a.toNat)/\(gl b a.toNat)<(c.length:Int))<|br (decide (((gl c (gl b a.toNat).toNat).squares_)<=d)) (gd (0<=(gl b a.toNat)/\(gl b a.toNat)<(c.length:Int))<|gd (0<=(gl b a.toNat)/\(gl b a.toNat)<((List.length (List.set c (gl b a.toNat).toNat (⟨(gl c (gl b a.toNat).toNat).N_,(gl c (gl b a.toNat).toNat).owner_,(gl c (gl b a.toNat).toNat).user_,(gl c (gl b a.toNat).toNat).squares_,(gl c (gl b a.toNat).toNat).value_,e.year_⟩:Lot)):Nat):Int))<|gd (Q5 (d-((gl (List.set c (gl b a.toNat).toNat (⟨(gl c (gl b a.toNat).toNat).N_,(gl c (gl b a.toNat).toNat).owner_,(gl c (gl b a.toNat).toNat).user_,(gl c (gl b a.toNat).toNat).squares_,(gl c (gl b a.toNat).toNat).value_,e.year_⟩:Lot)) (gl b a.toNat).toNat).squares_)))<|gd (Q5 (a+1))<|k ((d-((gl (List.set c (gl b a.toNat).toNat (⟨(gl c (gl b a.toNat).toNat).N_,(gl c (gl b a.toNat).toNat).owner_,(gl c (gl b a.toNat).toNat).user_,(gl c (gl b a.toNat).toNat).squares_,(gl c (gl b a.toNat).toNat).value_,e.year_⟩:Lot)) (gl b a.toNat).toNat).squares_)),(a+1),(List.set c (gl b a.toNat).toNat (⟨(gl c (gl b a.toNat).toNat).N_,(gl c (gl b a.toNat).toNat).owner_,(gl c (gl b a.toNat).toNat).user_,(gl c (gl b a.toNat).toNat).squares_,(gl c (gl b a.toNat).toNat).value_,e.year_⟩:Lot)))) (gd (0<=(gl b a.toNat)/\(gl b a.toNat)<(c.length:Int))<|gd (0<=(gl b a.toNat)/\(gl b a.toNat)<(c.length:Int))<|gd (Q5 (((gl c (gl b a.toNat).toNat).squares_)-d))<|gd (0<=(gl b a.toNat)/\(gl b a.toNat)<(c.length:Int))<|(Xa F (⟨(List.set c (gl b a.toNat).toNat (⟨(gl c (gl b a.toNat).toNat).N_,(gl c (gl b a.toNat).toNat).owner_,(gl c (gl b a.toNat).toNat).user_,(((gl c (gl b a.toNat).toNat).squares_)-d),(gl c (gl b a.toNat).toNat).value_,(gl c (gl b a.toNat).toNat).used_⟩:Lot)),i.reserve_,i.next_⟩:Entitlements) (⟨(gl c (gl b a.toNat).toNat).N_,(gl c (gl b a.toNat).toNat).owner_,(gl c (gl b a.toNat).toNat).user_,d,(gl c (gl b a.toNat).toNat).value_,e.year_⟩:Lot)).bind λj=>some (j.1,j.2)))) (Br F i c)
def Bs(a:Entitlements)(b:Act)(d:List Int)(c:Bool):=
 br c (some (a,(2:Int))) ((Sn F a b.farm_).bind λe=>br (decide (e.2<b.squares_)) (some (a,(22:Int))) (Y3 (λg (z:Int×Int×(List Lot))=>zj F a b d g z.1 z.2.1 z.2.2) F (b.squares_,(0:Int),a.lots_)))
def Sa(b:Entitlements)(a:Act)(c:List Int)(d:Bool):=
 br d (some (b,(18:Int))) (br (decide (a.squares_<1)) (Bs F b a c true) (Bs F b a c (decide ((268435456:Int)<a.squares_))))
def zk(c:Entitlements)(i:Act)(b:List Int)(d:(Bool×Int)->Option (Entitlements×Int))(e:Bool)(a:Int):=
 br (decide (a<(b.length:Int))) (gd (0<=a/\a<(b.length:Int))<|br e (Bt F a d true) (gd (0<=(gl b a.toNat)/\(gl b a.toNat)<(c.lots_.length:Int))<|Bt F a d (decide (i.year_<((gl c.lots_ (gl b a.toNat).toNat).used_))))) (Sa F c i b e)
def Bu(b:Entitlements)(c:Act)(d:List Int)(a:Bool):=
 Y3 (λg (z:Bool×Int)=>zk F b c d g z.1 z.2) F (a,(0:Int))
def Sb(b:Entitlements)(a:Act):=
 (VR F a.farm_).bind λd=>br (!d) (some (b,(20:Int))) ((Sk F b a.farm_).bind λc=>br (decide (a.year_<0)) (Bu F b a c true) (Bu F b a c (decide ((100:Int)<a.year_))))
def Kt(a:Entitlements)(b:Act)(d:Bool):=
 br d (some (a,(2:Int))) (br (decide (a.reserve_<b.squares_)) (some (a,(22:Int))) (gd (Q5 (a.reserve_-b.squares_))<|(Xa F (⟨a.lots_,(a.reserve_-b.squares_),a.next_⟩:Entitlements) (⟨0,b.to_,b.to_,b.squares_,b.value_,(-1:Int)⟩:Lot)).bind λc=>some (c.1,c.2)))
def Ks(F:Nat)(a b:Int)(c:List Lot):=
 some ((⟨c,a,b⟩:Entitlements),(0:Int))
def BC(F:Nat)(a:Int)(b:(Int×(List Lot))->Option (Entitlements×Int))(c:List Lot):=
 gd (Q5 (a+1))<|b ((a+1),c)
def BD(d:Act)(a:Int)(c:(Int×(List Lot))->Option (Entitlements×Int))(b:List Lot):=
 gd (0<=a/\a<(b.length:Int))<|br (((gl b a.toNat).user_)==d.farm_) (gd (0<=a/\a<(b.length:Int))<|BC F a c (List.set b a.toNat (⟨(gl b a.toNat).N_,(gl b a.toNat).owner_,d.to_,(gl b a.toNat).squares_,(gl b a.toNat).value_,(gl b a.toNat).used_⟩:Lot))) (BC F a c b)
def zx(d:Entitlements)(c:Act)(e:(Int×(List Lot))->Option (Entitlements×Int))(a:Int)(b:List Lot):=
 br (decide (a<(d.lots_.length:Int))) (gd (0<=a/\a<(b.length:Int))<|br (((gl b a.toNat).owner_)==c.farm_) (gd (0<=a/\a<(b.length:Int))<|BD F c a e (List.set b a.toNat (⟨(gl b a.toNat).N_,c.to_,(gl b a.toNat).user_,(gl b a.toNat).squares_,(gl b a.toNat).value_,(gl b a.toNat).used_⟩:Lot))) (BD F c a e b)) (Ks F d.reserve_ d.next_ b)
def Xb(a:Entitlements)(c:Act)(b:Bool):=
 br b (some (a,(20:Int))) (Y3 (λg (z:Int×(List Lot))=>zx F a c g z.1 z.2) F ((0:Int),a.lots_))
def Sg(F:Nat)(a:Int)(b:(Int×Int×(List Lot))->Option (Entitlements×Int))(c:Int)(d:List Lot):=
 gd (Q5 (a+1))<|b ((a+1),c,d)
def zv(c:Entitlements)(a:Int)(b:List Lot):=
 Ks F a c.next_ b
def zw(b:Entitlements)(i:Act)(e:(Int×Int×(List Lot))->Option (Entitlements×Int))(a c:Int)(d:List Lot):=
 br (decide (a<(b.lots_.length:Int))) (gd (0<=a/\a<(b.lots_.length:Int))<|gd (Q5 (i.year_-2))<|br (decide (((gl b.lots_ a.toNat).used_)<=(i.year_-2))) (gd (Q5 (c+((gl b.lots_ a.toNat).squares_)))<|Sg F a e (c+((gl b.lots_ a.toNat).squares_)) d) (gd (d.length+(List.length ([(gl b.lots_ a.toNat)]:List Lot))<=Y6)<|Sg F a e c (d++([(gl b.lots_ a.toNat)]:List Lot)))) (zv F b c d)
def BB(a:Entitlements)(c:Act)(b:Bool):=
 br b (some (a,(18:Int))) (Y3 (λg (z:Int×Int×(List Lot))=>zw F a c g z.1 z.2.1 z.2.2) F ((0:Int),a.reserve_,([]:List Lot)))
def BE(a:Entitlements)(d:Act)(b:Int)(e:Bool):=
 br e (some (a,(2:Int))) (gd (0<=b/\b<(a.lots_.length:Int))<|gd (0<=b/\b<(a.lots_.length:Int))<|br (((gl a.lots_ b.toNat).owner_) != ((gl a.lots_ b.toNat).user_)) (some (a,(22:Int))) ((Bw F a b d.squares_).bind λc=>gd (Q5 (c.reserve_+d.squares_))<|Ks F (c.reserve_+d.squares_) c.next_ c.lots_))
def BF(a:Entitlements)(b:Act)(j:Bool):=
 br j ((Se F a b).bind λe=>some (e.1,e.2)) (br (b.k_==4) ((GZ F a b.lot_).bind λc=>br (decide (c<0)) (some (a,(19:Int))) (gd (0<=c/\c<(a.lots_.length:Int))<|gd (0<=c/\c<(a.lots_.length:Int))<|br (((gl a.lots_ c.toNat).owner_)==((gl a.lots_ c.toNat).user_)) (some (a,(22:Int))) (gd (0<=c/\c<(a.lots_.length:Int))<|gd (0<=c/\c<(a.lots_.length:Int))<|Ks F a.reserve_ a.next_ (List.set a.lots_ c.toNat (⟨(gl a.lots_ c.toNat).N_,(gl a.lots_ c.toNat).owner_,(gl a.lots_ c.toNat).owner_,(gl a.lots_ c.toNat).squares_,(gl a.lots_ c.toNat).value_,(gl a.lots_ c.toNat).used_⟩:Lot))))) (br (b.k_==5) ((VR F b.farm_).bind λk=>br (!k) (Xb F a b true) ((VR F b.to_).bind λl=>br (!l) (Xb F a b true) (Xb F a b (b.farm_==b.to_)))) (br (b.k_==6) ((Sb F a b).bind λi=>some (i.1,i.2)) (br (b.k_==7) (br (decide (b.year_<0)) (BB F a b true) (BB F a b (decide ((100:Int)<b.year_)))) (br (b.k_==8) ((GZ F a b.lot_).bind λd=>br (decide (d<0)) (some (a,(19:Int))) (br (decide (b.squares_<1)) (BE F a b d true) (gd (0<=d/\d<(a.lots_.length:Int))<|BE F a b d (decide (((gl a.lots_ d.toNat).squares_)<b.squares_))))) (some (a,(14:Int))))))))
def Sh(b:Entitlements)(a:Act):=
 br (a.k_==1) ((VR F a.to_).bind λc=>br (!c) (some (b,(20:Int))) (br (decide (a.squares_<1)) (Kt F b a true) (br (decide ((268435456:Int)<a.squares_)) (Kt F b a true) (br (decide (a.value_<0)) (Kt F b a true) (Kt F b a (decide ((1048576:Int)<a.value_))))))) (br (a.k_==2) (BF F b a (a.k_==2)) (BF F b a (a.k_==3)))
def BM(a:Entitlements)(d:Act):=
 (Xc F a).bind λc=>br (c != (0:Int)) ((Ku F a).bind λe=>some (e,c)) ((Ku F a).bind λi=>(Sh F i d).bind λb=>br (b.2 != (0:Int)) ((Ku F a).bind λj=>some (j,b.2)) (some (b.1,(0:Int))))
def XD(F:Nat)(i j k l m:Tape×Int)(a b c:Int)(d:List Int)(e:Int):=
 some ((⟨d,e⟩:Tape),(⟨i.2,a,j.2,b,c,k.2,(gl ([(0:Int),(200000:Int),(500000:Int),(1000000:Int)]:List Int) l.2.toNat),m.2⟩:Act))
def DI(b:Entitlements)(e o i j k l c:Tape×Int)(m:List Int)(n d:Int):=
 (UG F (⟨m,n⟩:Tape) (2:Int)).bind λa=>br a.2 (XD F e i j k l ((gl b.lots_ c.2.toNat).user_) ((gl b.lots_ c.2.toNat).N_) d a.1.l_ a.1.at_) (XD F e i j k l o.2 ((gl b.lots_ c.2.toNat).N_) d a.1.l_ a.1.at_)
def TY(n:Tape)(a:Entitlements):=
 (Zn F n (1:Int) (8:Int)).bind λi=>(Zn F i.1 (1:Int) (4:Int)).bind λj=>(Zn F j.1 (1:Int) (4:Int)).bind λk=>(Zn F k.1 (1:Int) (60:Int)).bind λm=>(Qm F m.1 (500:Int)).bind λl=>(Qm F l.1 (4:Int)).bind λb=>gd (0<=b.2/\b.2<((List.length ([(0:Int),(200000:Int),(500000:Int),(1000000:Int)]:List Int):Nat):Int))<|(Qm F b.1 (6:Int)).bind λc=>br (decide (0<(a.lots_.length:Int))) ((Qm F c.1 (a.lots_.length:Int)).bind λd=>gd (0<=d.2/\d.2<(a.lots_.length:Int))<|(UG F d.1 (2:Int)).bind λe=>br e.2 (DI F a i j k l b c d e.1.l_ e.1.at_ ((gl a.lots_ d.2.toNat).squares_)) (DI F a i j k l b c d e.1.l_ e.1.at_ m.2)) (XD F i k l b c j.2 0 m.2 c.1.l_ c.1.at_)
def TU(F:Nat)(a:Int)(b:(Int×(List Int)×Int×(List Lot)×Int×Int×(List Act))->Option (Tape×Entitlements×(List Act)))(c:List Int)(d:Int)(e:List Lot)(i j:Int)(k:List Act):=
 gd (Q5 (a-1))<|b ((a-1),c,d,e,i,j,k)
def yU(F:Nat)(a:List Lot)(b c:Int)(d:List Act)(e:List Int)(i:Int):=
 some ((⟨e,i⟩:Tape),(⟨a,b,c⟩:Entitlements),d)
def yW(k:(Int×(List Int)×Int×(List Lot)×Int×Int×(List Act))->Option (Tape×Entitlements×(List Act)))(j:Int)(l:List Int)(m:Int)(b:List Lot)(c d:Int)(e:List Act):=
 br (decide ((0:Int)<j)) ((TY F (⟨l,m⟩:Tape) (⟨b,c,d⟩:Entitlements)).bind λa=>(BM F (⟨b,c,d⟩:Entitlements) a.2).bind λi=>br (i.2==(0:Int)) (gd (e.length+(List.length ([a.2]:List Act))<=Y6)<|TU F j k a.1.l_ a.1.at_ i.1.lots_ i.1.reserve_ i.1.next_ (e++([a.2]:List Act))) (TU F j k a.1.l_ a.1.at_ b c d e)) (yU F b c d e l m)
def yV(b:Int)(c:List Int)(d:Int)(e:List Lot)(i j:Int):=
 gd (Q5 (b+1))<|(Qm F (⟨c,d⟩:Tape) (b+1)).bind λa=>Y3 (λg (z:Int×(List Int)×Int×(List Lot)×Int×Int×(List Act))=>yW F g z.1 z.2.1 z.2.2.1 z.2.2.2.1 z.2.2.2.2.1 z.2.2.2.2.2.1 z.2.2.2.2.2.2) F (a.2,a.1.l_,a.1.at_,e,i,j,([]:List Act))
def yX(o:Int)(n:(Int×(List Int)×Int×(List Lot)×Int×Int)->Option (Tape×Entitlements×(List Act)))(a:Int)(d:List Int)(e:Int)(i:List Lot)(j k:Int):=
 br (decide ((0:Int)<a)) ((Zn F (⟨d,e⟩:Tape) (1:Int) (4:Int)).bind λl=>(Zn F l.1 (1:Int) (60:Int)).bind λm=>(Qm F m.1 (500:Int)).bind λb=>(BM F (⟨i,j,k⟩:Entitlements) (⟨(1:Int),0,l.2,0,m.2,b.2,0,0⟩:Act)).bind λc=>gd (Q5 (a-1))<|n ((a-1),b.1.l_,b.1.at_,c.1.lots_,c.1.reserve_,c.1.next_)) (yV F o d e i j k)
def TW(c:Tape)(d:Int):=
 (Zn F c (50:Int) (400:Int)).bind λb=>(Zn F b.1 (1:Int) (4:Int)).bind λa=>Y3 (λg (z:Int×(List Int)×Int×(List Lot)×Int×Int)=>yX F d g z.1 z.2.1 z.2.2.1 z.2.2.2.1 z.2.2.2.2.1 z.2.2.2.2.2) F (a.2,a.1.l_,a.1.at_,[],b.2,(1:Int))
def yY(F:Nat)(a:List Re_):=
 some a
def TZ(b:List Line)(c:List Re_)(i:(Int×(List Re_))->Option (List Re_))(a:Int)(e:List Re_):=
 br (decide (a<(b.length:Int))) (gd (0<=a/\a<(b.length:Int))<|gd (Q5 (((gl b a.toNat).p_)-1))<|(KT F (((gl b a.toNat).p_)-1) (c.length:Int)).bind λd=>gd (0<=d/\d<(c.length:Int))<|gd (e.length+(List.length ([(gl c d.toNat)]:List Re_))<=Y6)<|gd (Q5 (a+1))<|i ((a+1),(e++([(gl c d.toNat)]:List Re_)))) (yY F e)
def Ca(a:List Line)(b:List Re_):=
 Y3 (λg (z:Int×(List Re_))=>TZ F a b g z.1 z.2) F ((0:Int),([]:List Re_))
def bQ(F:Nat):=
 some true
def bR(b c:List Rect)(d:(Int)->Option Bool)(a:Int):=
 br (decide (a<(b.length:Int))) (gd (0<=a/\a<(b.length:Int))<|gd (0<=a/\a<(c.length:Int))<|br (!((((gl b a.toNat).L_)==((gl c a.toNat).L_))&&((((gl b a.toNat).w_)==((gl c a.toNat).w_))&&((((gl b a.toNat).R_)==((gl c a.toNat).R_))&&((((gl b a.toNat).H_)==((gl c a.toNat).H_))&&true))))) (some false) (gd (Q5 (a+1))<|d (a+1))) (bQ F)
def SO(a b:List Rect):=
 br ((a.length:Int) != (b.length:Int)) (some false) (Y3 (λg (z:Int)=>bR F a b g z) F (0:Int))
def zU(a:Re_):=
 (Wk F a.t_ ([]) (1:Int)).bind λb=>(SO F b a.t_).bind λc=>some c
def bP(b:Re_)(c:(Int)->Option Bool)(a:Int):=
 br (decide (a<(b.t_.length:Int))) (gd (0<=a/\a<(b.t_.length:Int))<|(Xl F (gl b.t_ a.toNat)).bind λd=>br (!d) (some false) (gd (Q5 (a+1))<|c (a+1))) (zU F b)
def Jw(a:Re_):=
 br (decide (120<(a.t_.length:Int))) (some false) (Y3 (λg (z:Int)=>bP F a g z) F (0:Int))
def Dh(F:Nat)(a:Bool):=
 some a
def SS(a b:Re_):=
 (Jw F a).bind λc=>br c ((Jw F b).bind λd=>br d ((Wk F a.t_ b.t_ (2:Int)).bind λe=>Dh F (decide (0<(e.length:Int)))) (Dh F false)) (Dh F false)
def KD(F:Nat)(a:Int)(b:(Int)->Option Int)(c:Bool):=
 br c (some (3:Int)) (gd (Q5 (a+1))<|b (a+1))
def BR(b:List Rg_)(a:Int)(c:(Int)->Option Int)(d:Bool):=
 br d (some (7:Int)) (br (decide ((0:Int)<a)) (gd (Q5 (a-1))<|gd (0<=(a-1)/\(a-1)<(b.length:Int))<|br (decide (((gl b a.toNat).year_)<((gl b (a-1).toNat).year_))) (KD F a c true) (gd (Q5 (a-1))<|gd (0<=(a-1)/\(a-1)<(b.length:Int))<|br (((gl b a.toNat).year_)==((gl b (a-1).toNat).year_)) (gd (Q5 (a-1))<|gd (0<=(a-1)/\(a-1)<(b.length:Int))<|KD F a c (decide (((gl b a.toNat).c_)<=((gl b (a-1).toNat).c_)))) (KD F a c false))) (KD F a c false))
def BS(b:List Rg_)(a:Int)(c:(Int)->Option Int)(d:Bool):=
 br d (some (13:Int)) ((Jw F ((gl b a.toNat).g_)).bind λe=>br (!e) (BR F b a c true) (BR F b a c (((List.length ((gl b a.toNat).g_.t_):Nat):Int)==(0:Int))))
def BT(b:List Rg_)(a:Int)(c:(Int)->Option Int)(d:Bool):=
 br d (some (18:Int)) (br (decide (((gl b a.toNat).c_)<0)) (BS F b a c true) (BS F b a c (decide ((40:Int)<=((gl b a.toNat).c_)))))
def BP(F:Nat)(a:Int)(b:(Int)->Option Int)(c:Bool):=
 br c (some (11:Int)) (gd (Q5 (a+1))<|b (a+1))
def zN(F:Nat)(a:Int)(b:(Int)->Option Int):=
 gd (Q5 (a+1))<|b (a+1)
def bn(c:List Rg_)(a:Int)(e d:(Int)->Option Int)(b:Int):=
 br (decide (b<((List.length (c.take a.toNat):Nat):Int))) (gd (0<=b/\b<((List.length (c.take a.toNat):Nat):Int))<|br (((gl (c.take a.toNat) b.toNat).year_)==((gl c a.toNat).year_)) ((SS F ((gl (c.take a.toNat) b.toNat).g_) ((gl c a.toNat).g_)).bind λi=>BP F b d i) (BP F b d false)) (zN F a e)
def bm(F:Nat):=
 some (0:Int)
def bp(b:List Rg_)(c:(Int)->Option Int)(a:Int):=
 br (decide (a<(b.length:Int))) (gd (0<=a/\a<(b.length:Int))<|gd (0<=a/\a<=(b.length:Int))<|Y3 (λg (z:Int)=>bn F b a c g z) F (0:Int)) (bm F)
def BQ(a:List Rg_):=
 Y3 (λg (z:Int)=>bp F a g z) F (0:Int)
def bq(b:List Rg_)(c:(Int)->Option Int)(a:Int):=
 br (decide (a<(b.length:Int))) (gd (0<=a/\a<(b.length:Int))<|br (decide (((gl b a.toNat).year_)<0)) (BT F b a c true) (BT F b a c (decide ((100:Int)<((gl b a.toNat).year_))))) (BQ F b)
def SF(a:List Rg_):=
 br (decide (200<(a.length:Int))) (some (1:Int)) (Y3 (λg (z:Int)=>bq F a g z) F (0:Int))
def Xj(F:Nat)(a:Int)(b:((List Rect)×Int×(List Rg_))->Option ((List Rg_)×Int))(c:List Rect)(d:List Rg_):=
 gd (Q5 (a+1))<|b (c,(a+1),d)
def BV(b:List Rg_)(i:List Rect)(a:Int)(c:List Rg_)(e:((List Rect)×Int×(List Rg_))->Option ((List Rg_)×Int))(d:List Rect):=
 br (decide (0<(d.length:Int))) (gd (c.length+(List.length ([(⟨(gl b a.toNat).year_,(gl b a.toNat).c_,(⟨d⟩:Re_)⟩:Rg_)]:List Rg_))<=Y6)<|Xj F a e i (c++([(⟨(gl b a.toNat).year_,(gl b a.toNat).c_,(⟨d⟩:Re_)⟩:Rg_)]:List Rg_))) (Xj F a e i c)
def BW(b:List Rg_)(j:Int)(k:Re_)(d:List Rect)(a:Int)(e:List Rg_)(c:((List Rect)×Int×(List Rg_))->Option ((List Rg_)×Int))(i:Bool):=
 br i ((Wk F d ((gl b a.toNat).g_.t_) (1:Int)).bind λl=>Xj F a c l e) (br (((gl b a.toNat).year_)==j) ((Wk F ((gl b a.toNat).g_.t_) k.t_ (3:Int)).bind λm=>BV F b d a e c m) (BV F b d a e c ((gl b a.toNat).g_.t_)))
def bt(F:Nat)(a:List Rg_):=
 some (a,(0:Int))
def bw(b:List Rg_)(c:(Int)->Option ((List Rg_)×Int))(a:Int):=
 br (decide (a<(b.length:Int))) (gd (0<=a/\a<(b.length:Int))<|br (decide ((120:Int)<((List.length ((gl b a.toNat).g_.t_):Nat):Int))) (some ([],(1:Int))) (gd (Q5 (a+1))<|c (a+1))) (bt F b)
def BX(a:List Rg_):=
 br (decide (200<(a.length:Int))) (some ([],(1:Int))) (Y3 (λg (z:Int)=>bw F a g z) F (0:Int))
def SG(d e:Int)(c:List Rect)(b:List Rg_)(a:Int):=
 gd (0<=(0:Int)/\(0:Int)<=a/\((0:Nat):Int)+a<=(b.length:Int))<|gd (0+((a).toNat)<=List.length b)<|gd ((0)+(((a).toNat))<=Y6)<|gd (((0)+(((a).toNat)))+(List.length ([(⟨d,e,(⟨c⟩:Re_)⟩:Rg_)]:List Rg_))<=Y6)<|gd (0<=a/\a<=((b.length:Nat):Int)/\((0:Nat):Int)+((b.length:Nat):Int)<=(b.length:Int))<|gd ((0+(a).toNat)+(b.length-(a).toNat)<=List.length b)<|gd ((((0)+(((a).toNat)))+(List.length ([(⟨d,e,(⟨c⟩:Re_)⟩:Rg_)]:List Rg_)))+((b.length-(a).toNat))<=Y6)<|BX F (((([]:List Rg_)++((b.drop 0).take ((a).toNat)))++([(⟨d,e,(⟨c⟩:Re_)⟩:Rg_)]:List Rg_))++((b.drop (0+(a).toNat)).take (b.length-(a).toNat)))
def KE(i j:Int)(c:List Rect)(d:List Rg_)(a:Int)(b:(Int)->Option ((List Rg_)×Int))(e:Bool):=
 br e (gd (Q5 (a+1))<|b (a+1)) (SG F i j c d a)
def bv(c d:Int)(i:List Rect)(b:List Rg_)(e:(Int)->Option ((List Rg_)×Int))(a:Int):=
 br (decide (a<(b.length:Int))) (gd (0<=a/\a<(b.length:Int))<|br (decide (((gl b a.toNat).year_)<c)) (KE F c d i b a e true) (gd (0<=a/\a<(b.length:Int))<|br (((gl b a.toNat).year_)==c) (gd (0<=a/\a<(b.length:Int))<|KE F c d i b a e (decide (((gl b a.toNat).c_)<d))) (KE F c d i b a e false))) (KE F c d i b a e false)
def BU(c d:Int)(a:List Rect)(b:List Rg_):=
 br (decide (0<(a.length:Int))) (Y3 (λg (z:Int)=>bv F c d a b g z) F (0:Int)) (BX F b)
def zO(b:List Rg_)(c j:Int)(k:Re_)(i:((List Rect)×Int×(List Rg_))->Option ((List Rg_)×Int))(d:List Rect)(a:Int)(e:List Rg_):=
 br (decide (a<(b.length:Int))) (gd (0<=a/\a<(b.length:Int))<|br (((gl b a.toNat).year_)==c) (BW F b c k d a e i (((gl b a.toNat).c_)==j)) (BW F b c k d a e i false)) (BU F c j d e)
def BY(c:List Rg_)(d e:Int)(a:Re_)(b:Bool):=
 br b (some ([],(13:Int))) ((Jw F a).bind λi=>br (!i) (some ([],(7:Int))) (Y3 (λg (z:(List Rect)×Int×(List Rg_))=>zO F c d e a g z.1 z.2.1 z.2.2) F (a.t_,(0:Int),([]:List Rg_))))
def BZ(b:List Rg_)(c a:Int)(d:Re_)(e:Bool):=
 br e (some ([],(18:Int))) (br (decide (a<0)) (BY F b c a d true) (BY F b c a d (decide ((40:Int)<=a))))
def SH(b:List Rg_)(a c:Int)(d:Re_):=
 (SF F b).bind λe=>br (e != (0:Int)) (some ([],e)) (br (decide (a<0)) (BZ F b a c d true) (BZ F b a c d (decide ((100:Int)<a))))
def Q1a(F:Nat)(a:List Rg_)(b:List Int)(c:Int):=
 some ((⟨b,c⟩:Tape),a)
def TO(m:List Crop)(i:Int)(l:((List Rg_)×Int×(List Int)×Int)->Option (Tape×(List Rg_)))(c:List Rg_)(a:Int)(d:List Int)(e:Int):=
 br (decide ((0:Int)<a)) (gd (Q5 (i+1))<|(Qm F (⟨d,e⟩:Tape) (i+1)).bind λj=>(Qm F j.1 (m.length:Int)).bind λk=>(Xx F k.1 (9:Int) (2:Int)).bind λb=>(SH F c j.2 k.2 b.2).bind λn=>gd (Q5 (a-1))<|l (n.1,(a-1),b.1.l_,b.1.at_)) (Q1a F c d e)
def TP(c:Tape)(d:List Crop)(e b:Int):=
 gd (Q5 (b+1))<|(Qm F c (b+1)).bind λa=>Y3 (λg (z:(List Rg_)×Int×(List Int)×Int)=>TO F d e g z.1 z.2.1 z.2.2.1 z.2.2.2) F (([]:List Rg_),a.2,a.1.l_,a.1.at_)
def TQ(e:Tape)(i:Int):=
 (Qm F e (20:Int)).bind λa=>(Qm F a.1 (16:Int)).bind λc=>(Zn F c.1 (1:Int) (30:Int)).bind λb=>gd (Q5 (a.2+b.2))<|(KS F b.1 (9:Int) (2:Int)).bind λd=>some (d.1,(⟨i,c.2,a.2,(a.2+b.2),d.2⟩:A2_))
def Xk(F:Nat)(a:Bool):=
 br a (some (7:Int)) (some (0:Int))
def Ju(a:A2_)(b:Bool):=
 br b (some (9:Int)) ((Jw F a.g_).bind λc=>br (!c) (Xk F true) (Xk F ((a.g_.t_.length:Int)==0)))
def Jv(a:A2_)(b:Bool):=
 br b (some (14:Int)) (br (decide (a.F_<0)) (Ju F a true) (br (decide (a.u_<=a.F_)) (Ju F a true) (Ju F a (decide ((36865:Int)<a.u_)))))
def SI(a:A2_)(b:Bool):=
 br b (some (2:Int)) (br (decide (a.k_<0)) (Jv F a true) (Jv F a (decide ((15:Int)<a.k_))))
def Da(a:A2_):=
 br (decide (a.N_<1)) (SI F a true) (SI F a (decide ((1073741824:Int)<a.N_)))
def Db(F:Nat)(a:Int)(b:(Int)->Option Int)(c:Bool):=
 br c (some (3:Int)) (gd (Q5 (a+1))<|b (a+1))
def bC(F:Nat):=
 some (0:Int)
def bD(b:List A2_)(c:(Int)->Option Int)(a:Int):=
 br (decide (a<(b.length:Int))) (gd (0<=a/\a<(b.length:Int))<|(Da F (gl b a.toNat)).bind λd=>br (d != (0:Int)) (some d) (br (decide ((0:Int)<a)) (gd (Q5 (a-1))<|gd (0<=(a-1)/\(a-1)<(b.length:Int))<|Db F a c (decide (((gl b a.toNat).N_)<=((gl b (a-1).toNat).N_)))) (Db F a c false))) (bC F)
def SJ(a:List A2_):=
 br (decide (60<(a.length:Int))) (some (1:Int)) (Y3 (λg (z:Int)=>bD F a g z) F (0:Int))
def Dc(F:Nat)(b:List A2_)(c:A2_)(a:Int)(d:Bool):=
 br d (some ([],(6:Int))) (br ((b.length:Int)==60) (some ([],(1:Int))) (gd (0<=a/\a<=(b.length:Int))<|gd ((0)+(List.length (b.take a.toNat))<=Y6)<|gd (((0)+(List.length (b.take a.toNat)))+(List.length ([c]:List A2_))<=Y6)<|gd (0<=a/\a<=(b.length:Int))<|gd ((((0)+(List.length (b.take a.toNat)))+(List.length ([c]:List A2_)))+(List.length (b.drop a.toNat))<=Y6)<|some ((((([]:List A2_)++(b.take a.toNat))++([c]:List A2_))++(b.drop a.toNat)),(0:Int))))
def SK(b:List A2_)(c:A2_)(a:Int):=
 br (decide (a<(b.length:Int))) (gd (0<=a/\a<(b.length:Int))<|Dc F b c a (((gl b a.toNat).N_)==c.N_)) (Dc F b c a false)
def Dd(d:List A2_)(e:A2_)(a:Int)(b:(Int)->Option ((List A2_)×Int))(c:Bool):=
 br c (gd (Q5 (a+1))<|b (a+1)) (SK F d e a)
def bF(b:List A2_)(c:A2_)(d:(Int)->Option ((List A2_)×Int))(a:Int):=
 br (decide (a<(b.length:Int))) (gd (0<=a/\a<(b.length:Int))<|Dd F b c a d (decide (((gl b a.toNat).N_)<c.N_))) (Dd F b c a d false)
def SL(a:List A2_)(b:A2_):=
 (SJ F a).bind λc=>br (c != (0:Int)) (some ([],c)) ((Da F b).bind λd=>br (d != (0:Int)) (some ([],d)) (Y3 (λg (z:Int)=>bF F a b g z) F (0:Int)))
def DG(F:Nat)(a:Int)(b:((List A2_)×Int×(List Int)×Int)->Option (Tape×(List A2_)))(c:List A2_)(d:List Int)(e:Int):=
 gd (Q5 (a-1))<|b (c,(a-1),d,e)
def Q0Z(F:Nat)(a:List A2_)(b:List Int)(c:Int):=
 some ((⟨b,c⟩:Tape),a)
def XA(d:((List A2_)×Int×(List Int)×Int)->Option (Tape×(List A2_)))(b:List A2_)(c:Int)(e:List Int)(i:Int):=
 br (decide ((0:Int)<c)) ((Zn F (⟨e,i⟩:Tape) (1:Int) (12:Int)).bind λj=>(TQ F j.1 j.2).bind λa=>(SL F b a.2).bind λk=>br (k.2==(0:Int)) (DG F c d k.1 a.1.l_ a.1.at_) (DG F c d b a.1.l_ a.1.at_)) (Q0Z F b e i)
def TH(c:Tape)(b:Int):=
 gd (Q5 (b+1))<|(Qm F c (b+1)).bind λa=>Y3 (λg (z:(List A2_)×Int×(List Int)×Int)=>XA F g z.1 z.2.1 z.2.2.1 z.2.2.2) F (([]:List A2_),a.2,a.1.l_,a.1.at_)
def Tz(j:Tape)(a:List Crop):=
 (Qm F j (5:Int)).bind λb=>(TP F b.1 a (4:Int) (5:Int)).bind λc=>(TH F c.1 (3:Int)).bind λd=>(Qm F d.1 (25:Int)).bind λe=>(Qm F e.1 (5:Int)).bind λi=>some (i.1,(⟨b.2,a,c.2,d.2,e.2,i.2⟩:World))
def Gw(F:Nat)(a:Int)(b:(Int)->Option Bool)(c:Bool):=
 br c (some false) (gd (Q5 (a+1))<|b (a+1))
def Pu(a:Int)(c:Bool)(b:(Int)->Option Bool)(d:Bool):=
 br (!c) (br (a==0) (Gw F a b true) (Gw F a b (!d))) (Gw F a b false)
def Pv(b:ByteArray)(a:Int)(c:(Int)->Option Bool)(d:Bool):=
 gd (0<=a/\a<((b.size:Nat):Int))<|br (decide ((48:Int)<=(K9 b a))) (gd (0<=a/\a<((b.size:Nat):Int))<|Pu F a d c (decide ((K9 b a)<=57))) (Pu F a d c false)
def Pt(F:Nat)(a:Bool):=
 some a
def Lj(a:ByteArray):=
 br (decide ((1:Int)<=((a.size:Nat):Int))) (Pt F (decide (((a.size:Nat):Int)<=(12:Int)))) (Pt F false)
def kN(b:ByteArray)(c:(Int)->Option Bool)(a:Int):=
 br (decide (a<((b.size:Nat):Int))) (gd (0<=a/\a<((b.size:Nat):Int))<|br (decide ((97:Int)<=(K9 b a))) (gd (0<=a/\a<((b.size:Nat):Int))<|Pv F b a c (decide ((K9 b a)<=122))) (Pv F b a c false)) (Lj F b)
def Pw(a:ByteArray):=
 Y3 (λg (z:Int)=>kN F a g z) F (0:Int)
def LG(F:Nat)(rc:Term->Int->Option Int)(a:Int):=
 some a
def MB(rc:Term->Int->Option Int)(c:Term)(d:Int)(i:(Int×Int)->Option Int)(a b:Int):=
 br (decide (b<(c.kids_.length:Int))) (gd (0<=b/\b<(c.kids_.length:Int))<|gd (Q5 (gl c.kids_ b.toNat).op_)<|br (decide (d<a)) (LG F rc a) (gd (Q5 (d-a))<|(rc (gl c.kids_ b.toNat) (d-a)).bind λe=>gd (Q5 (a+e))<|gd (Q5 (b+1))<|i ((a+e),(b+1)))) (LG F rc a)
def MC(rc:Term->Int->Option Int)(a:Term)(b:Int):=
 Y3 (λg (z:Int×Int)=>MB F rc a b g z.1 z.2) F ((1:Int),(0:Int))
def Ja:Nat->Term->Int->Option Int
 |0=>λ_ _=>none
 |F+1=>MC F (Ja F)
def Mw(F:Nat)(a:Bool):=
 br a (some ((1:Int),(10:Int),true)) (some ((0:Int),(0:Int),false))
def Mx(a:Int):=
 br (a==2) (some ((0:Int),(39:Int),true)) (br (a==3) (some ((0:Int),(40:Int),true)) (br (a==4) (some ((1:Int),(16:Int),true)) (br (a==5) (some ((0:Int),(15:Int),true)) (br (a==6) (some ((2:Int),(10:Int),true)) (br (a==7) (Mw F (a==7)) (Mw F (a==8)))))))
def My(F:Nat)(b:Int)(a:Bool):=
 br a (some ((1:Int),(40:Int))) (br (b==11) (some ((1:Int),(1:Int))) (some ((0:Int),(0:Int))))
def Mz(a:Int):=
 br (a==9) (My F a (a==9)) (My F a (a==10))
def Q0H(F:Nat)(a:Int):=
 gd (0<=(1:Int))<|(some (QK .u64 (a.fdiv (2 ^ (min ((1:Int)).toNat (IntKind.bits .u64)))) (6148914691236517205:Int))).bind λk=>(some (IntKind.wrap .u64 (k+(QK .u64 a (6148914691236517205:Int))))).bind λb=>gd (0<=(2:Int))<|(some (QK .u64 (b.fdiv (2 ^ (min ((2:Int)).toNat (IntKind.bits .u64)))) (3689348814741910323:Int))).bind λl=>(some (IntKind.wrap .u64 (l+(QK .u64 b (3689348814741910323:Int))))).bind λc=>gd (0<=(4:Int))<|(some (IntKind.wrap .u64 ((c.fdiv (2 ^ (min ((4:Int)).toNat (IntKind.bits .u64))))+c))).bind λd=>gd (0<=(8:Int))<|(some ((QK .u64 d (1085102592571150095:Int)).fdiv (2 ^ (min ((8:Int)).toNat (IntKind.bits .u64))))).bind λm=>(some (IntKind.wrap .u64 ((QK .u64 d (1085102592571150095:Int))+m))).bind λe=>gd (0<=(16:Int))<|(some (IntKind.wrap .u64 (e+(e.fdiv (2 ^ (min ((16:Int)).toNat (IntKind.bits .u64))))))).bind λi=>gd (0<=(32:Int))<|(some (IntKind.wrap .u64 (i+(i.fdiv (2 ^ (min ((32:Int)).toNat (IntKind.bits .u64))))))).bind λj=>gd (Q5 j)<|some (QK .i64 j (127:Int))
def Q0I(a:Int):=
 (Q0H F a).bind λb=>some b
def Ml(F:Nat)(a:Bool):=
 some a
def UX(a:Int):=
 br (decide ((1:Int)<=a)) (br (decide (a<=16)) ((Q0I F (IntKind.wrap .u64 a)).bind λb=>Ml F (b==1)) (Ml F false)) (Ml F false)
def jf(F:Nat):=
 some (-1:Int)
def MN(b:List Term)(d:Term->Option Bool)(c:(Int)->Option Int)(a:Int):=
 br (decide (a<(b.length:Int))) (gd (0<=a/\a<(b.length:Int))<|gd (Q5 (gl b a.toNat).op_)<|(d (gl b a.toNat)).bind λe=>br e (some a) (gd (Q5 (a+1))<|c (a+1))) (jf F)
def MO(a:List Term)(b:Term->Option Bool):=
 Y3 (λg (z:Int)=>MN F a b g z) F (0:Int)
def MW(a:List Term)(b:Term->Option Bool):=
 (MO F a b).bind λc=>some (decide ((0:Int)<=c))
def Lw(F:Nat)(rc:Term->Int->Option Bool)(b:Term)(a:Int):=
 gd (Q5 (a-1))<|(rc b (a-1)).bind λc=>some (!c)
def GD(rc:Term->Int->Option Bool)(b:Term)(c:Int)(a:Bool):=
 br a (some false) ((MW F b.kids_ (λy0=>Lw F rc y0 c)).bind λd=>some (!d))
def Zx(rc:Term->Int->Option Bool)(a:Term)(b:Int)(c:Int×Int)(d:Bool):=
 br d (some false) (br (decide ((a.kids_.length:Int)<c.1)) (GD F rc a b true) (GD F rc a b (decide (c.2<(a.kids_.length:Int)))))
def VK(rc:Term->Int->Option Bool)(a:Term)(b:Int)(c:Int×Int)(d:Bool):=
 br d (some false) (br (a.op_==4) ((UX F a.num_).bind λe=>br (!e) (Zx F rc a b c true) (br (a.op_==7) ((UX F a.more_).bind λi=>br (!i) (Zx F rc a b c true) (br (a.op_ != (7:Int)) (Zx F rc a b c (a.more_ != (0:Int))) (Zx F rc a b c false))) (br (a.op_ != (7:Int)) (Zx F rc a b c (a.more_ != (0:Int))) (Zx F rc a b c false)))) (br (a.op_==7) ((UX F a.more_).bind λj=>br (!j) (Zx F rc a b c true) (br (a.op_ != (7:Int)) (Zx F rc a b c (a.more_ != (0:Int))) (Zx F rc a b c false))) (br (a.op_ != (7:Int)) (Zx F rc a b c (a.more_ != (0:Int))) (Zx F rc a b c false))))
def UY(rc:Term->Int->Option Bool)(a:Term)(b:Int)(d:Int×Int×Bool)(c:Int×Int)(e:Bool):=
 br e (some false) (br d.2.2 (br (decide (a.num_<d.1)) (VK F rc a b c true) (br (decide (d.2.1<a.num_)) (VK F rc a b c true) (br (!d.2.2) (VK F rc a b c (a.num_ != (0:Int))) (VK F rc a b c false)))) (br (!d.2.2) (VK F rc a b c (a.num_ != (0:Int))) (VK F rc a b c false)))
def Mm(rc:Term->Int->Option Bool)(a:Term)(b:Int):=
 (Mx F a.op_).bind λc=>(Mz F a.op_).bind λd=>br (decide (a.op_<1)) (UY F rc a b c d true) (br (decide ((11:Int)<a.op_)) (UY F rc a b c d true) (UY F rc a b c d (b==0)))
def Zy:Nat->Term->Int->Option Bool
 |0=>λ_ _=>none
 |F+1=>Mm F (Zy F)
def PN(a:Term):=
 (Ja F a (40:Int)).bind λb=>br (decide ((40:Int)<b)) (some (1:Int)) ((Zy F a (8:Int)).bind λc=>br (!c) (some (16:Int)) (some (0:Int)))
def Uv(F:Nat)(a:Int)(b:(Int)->Option Bool)(c:Bool):=
 br c (some false) (gd (Q5 (a+1))<|b (a+1))
def Rp(F:Nat)(a:Bool):=
 some a
def qs(a:List Bracket):=
 br (decide (1<=(a.length:Int))) (Rp F (decide ((a.length:Int)<=6))) (Rp F false)
def Kg(b:List Bracket)(c:(Int)->Option Bool)(a:Int):=
 br (decide (a<(b.length:Int))) (gd (0<=a/\a<(b.length:Int))<|br (decide (((gl b a.toNat).up_)<1)) (Uv F a c true) (br (decide ((268435456:Int)<((gl b a.toNat).up_))) (Uv F a c true) (br (decide (((gl b a.toNat).rate_)<0)) (Uv F a c true) (br (decide ((1048576:Int)<((gl b a.toNat).rate_))) (Uv F a c true) (br (decide ((0:Int)<a)) (gd (Q5 (a-1))<|gd (0<=(a-1)/\(a-1)<(b.length:Int))<|Uv F a c (decide (((gl b a.toNat).up_)<=((gl b (a-1).toNat).up_)))) (Uv F a c false)))))) (qs F b)
def Rq(a:List Bracket):=
 Y3 (λg (z:Int)=>Kg F a g z) F (0:Int)
def Kh(F:Nat)(a:Bool):=
 br a (some (3:Int)) (some (0:Int))
def Ki(a:Scheme)(c:Bool):=
 br c (some (2:Int)) ((Pw F a.n_).bind λd=>br (!d) (some (5:Int)) ((PN F a.cond_).bind λb=>br (b != (0:Int)) (some b) ((Rq F a.brackets_).bind λe=>br (!e) (Kh F true) (br (decide (a.excludes_<0)) (Kh F true) (br (decide ((65536:Int)<=a.excludes_)) (Kh F true) (gd (0<=a.N_)<|Kh F ((QK .i64 (a.excludes_.fdiv (2 ^ (min (a.N_).toNat (IntKind.bits .i64)))) (1:Int))==1)))))))
def GO(a:Scheme):=
 br (decide (a.N_<0)) (Ki F a true) (br (decide ((15:Int)<a.N_)) (Ki F a true) (br (decide (a.least_<0)) (Ki F a true) (Ki F a (decide ((268435456:Int)<a.least_)))))
def Bb(F:Nat)(a b:Scheme):=
 some (Zl a.n_ b.n_)
def jP(F:Nat)(a:Scheme)(b:Int):=
 some (a.N_==b)
def Rt(a:List Scheme)(b:Int):=
 (Wr F a (λy0=>jP F y0 b)).bind λc=>some c
def Rj(F:Nat)(a:Int)(b:(Int)->Option Bool):=
 gd (Q5 (a+1))<|b (a+1)
def Rk(b:Int)(a:(Int)->Option Bool)(c:Bool):=
 br c (some false) (Rj F b a)
def jN(F:Nat):=
 some true
def Kf(d:List Scheme)(e:Scheme)(c:(Int)->Option Bool)(a:Int):=
 br (decide (a<16)) (gd (0<=a)<|br ((QK .i64 (e.excludes_.fdiv (2 ^ (min (a).toNat (IntKind.bits .i64)))) (1:Int))==0) (Rj F a c) ((Rt F d a).bind λb=>br (decide (b<0)) (Rk F a c true) (gd (0<=b/\b<(d.length:Int))<|gd (0<=e.N_)<|Rk F a c ((QK .i64 (((gl d b.toNat).excludes_).fdiv (2 ^ (min (e.N_).toNat (IntKind.bits .i64)))) (1:Int))==0)))) (jN F)
def Rl(a:List Scheme)(b:Scheme):=
 Y3 (λg (z:Int)=>Kf F a b g z) F (0:Int)
def GP(F:Nat)(a:Int)(b:(Int)->Option (Int×Int))(c:Bool):=
 br c (some (a,(6:Int))) (gd (Q5 (a+1))<|b (a+1))
def jQ(F:Nat):=
 some ((-1:Int),(0:Int))
def Kj(b:List Scheme)(c:(Int)->Option (Int×Int))(a:Int):=
 br (decide (a<(b.length:Int))) (gd (0<=a/\a<(b.length:Int))<|(Rl F b (gl b a.toNat)).bind λd=>br (!d) (some (a,(17:Int))) (gd (Q5 (a+1))<|c (a+1))) (jQ F)
def qu(a:List Scheme):=
 Y3 (λg (z:Int)=>Kj F a g z) F (0:Int)
def Kk(b:List Scheme)(c:(Int)->Option (Int×Int))(a:Int):=
 br (decide (a<(b.length:Int))) (gd (0<=a/\a<(b.length:Int))<|(GO F (gl b a.toNat)).bind λd=>br (d != (0:Int)) (some (a,d)) (br (decide ((0:Int)<a)) (gd (Q5 (a-1))<|gd (0<=(a-1)/\(a-1)<(b.length:Int))<|br (decide (((gl b a.toNat).N_)<=((gl b (a-1).toNat).N_))) (GP F a c true) (gd (0<=a/\a<=(b.length:Int))<|(ZN F (b.take a.toNat) (λy0=>Bb F y0 (gl b a.toNat))).bind λe=>GP F a c e)) (gd (0<=a/\a<=(b.length:Int))<|(ZN F (b.take a.toNat) (λy0=>Bb F y0 (gl b a.toNat))).bind λi=>GP F a c i))) (qu F b)
def Ru(a:List Scheme):=
 br (decide (16<(a.length:Int))) (some ((0:Int),(1:Int))) (Y3 (λg (z:Int)=>Kk F a g z) F (0:Int))
def Fl(a:List Line)(b:List Re_)(c:List Scheme):=
 br ((a.length:Int) != (b.length:Int)) (some (3:Int)) (br (decide (20<(a.length:Int))) (some (1:Int)) ((Ru F c).bind λd=>some d.2))
def Gf(F:Nat)(a:Int)(b:(Int)->Option Int)(c:Bool):=
 br c (some (6:Int)) (gd (Q5 (a+1))<|b (a+1))
def Gg(b:List Crop)(a:Int)(c:(Int)->Option Int)(d:Bool):=
 br d (some (14:Int)) (br (decide ((0:Int)<a)) (gd (Q5 (a-1))<|gd (0<=(a-1)/\(a-1)<(b.length:Int))<|Gf F a c (Vu ((gl b a.toNat).n_) ((gl b (a-1).toNat).n_)||Zl ((gl b a.toNat).n_) ((gl b (a-1).toNat).n_))) (Gf F a c false))
def Gh(b:List Crop)(a:Int)(c:(Int)->Option Int)(d:Bool):=
 br d (some (2:Int)) (br (decide (((gl b a.toNat).m_)<0)) (Gg F b a c true) (Gg F b a c (decide ((31:Int)<((gl b a.toNat).m_)))))
def Q2F(F:Nat):=
 some (0:Int)
def XU(b:List Crop)(c:(Int)->Option Int)(a:Int):=
 br (decide (a<(b.length:Int))) (gd (0<=a/\a<(b.length:Int))<|(Pw F ((gl b a.toNat).n_)).bind λd=>br (!d) (some (5:Int)) (br (decide (((gl b a.toNat).f_)<0)) (Gh F b a c true) (Gh F b a c (decide ((40:Int)<((gl b a.toNat).f_)))))) (Q2F F)
def XV(a:List Crop):=
 br (decide (40<(a.length:Int))) (some (1:Int)) (Y3 (λg (z:Int)=>XU F a g z) F (0:Int))
def Cj(F:Nat)(a:Bool):=
 br a (some (7:Int)) (some (0:Int))
def DK(a:Rg_)(b:Bool):=
 br b (some (13:Int)) (br ((a.g_.t_.length:Int)==0) (Cj F true) ((Wa F a.g_).bind λc=>Cj F (!c)))
def DM(a:Rg_)(b:Bool):=
 br b (some (18:Int)) (br (decide (a.c_<0)) (DK F a true) (DK F a (decide ((40:Int)<=a.c_))))
def Ck(a:Rg_):=
 br (decide (a.year_<0)) (DM F a true) (DM F a (decide ((100:Int)<a.year_)))
def Cl(a b:Rg_):=
 (YB F a.year_ b.year_).bind λc=>(YB F a.c_ b.c_).bind λd=>(XZ F ([c,d]:List Int)).bind λe=>some e
def Q1j(F:Nat)(a:(List (Int×(List Rg_)))):=
 some a
def XH(b:List Rg_)(d:(Int×(List (Int×(List Rg_))))->Option ((List (Int×(List Rg_)))))(a:Int)(c:(List (Int×(List Rg_)))):=
 br (decide (a<(b.length:Int))) (gd (0<=a/\a<(b.length:Int))<|gd ((gRow ((gl b a.toNat).year_) c).length+List.length ([(gl b a.toNat)]:List Rg_)<=Y6)<|gd (Q5 (a+1))<|d ((a+1),(gApp ((gl b a.toNat).year_) ([(gl b a.toNat)]:List Rg_) c))) (Q1j F c)
def vm(a:List Rg_):=
 Y3 (λg (z:Int×(List (Int×(List Rg_))))=>XH F a g z.1 z.2) F ((0:Int),([]:List (Int×(List Rg_))))
def Jm(F:Nat)(a:Bool):=
 some a
def RM(a b:Rect):=
 br (decide (a.L_<b.R_)) (br (decide (b.L_<a.R_)) (br (decide (a.w_<b.H_)) (Jm F (decide (b.w_<a.H_))) (Jm F false)) (Jm F false)) (Jm F false)
def qW(a b:Rect):=
 (RM F b a).bind λc=>some c
def qX(a:Rect)(b:Re_):=
 (ZN F b.t_ (λy0=>qW F y0 a)).bind λc=>some c
def RY(F:Nat)(a:Bool):=
 some a
def Bl(a b:Re_):=
 (Wa F a).bind λc=>br c ((Wa F b).bind λd=>br d ((ZN F a.t_ (λy0=>qX F y0 b)).bind λe=>RY F e) (RY F false)) (RY F false)
def vp(a b:Rg_):=
 (Bl F a.g_ b.g_).bind λc=>some c
def DP(F:Nat)(a:Int)(b:(Int)->Option Int)(c:Bool):=
 br c (some (3:Int)) (gd (Q5 (a+1))<|b (a+1))
def Q1l(F:Nat):=
 some (0:Int)
def vo(b:(Int×(List Rg_)))(e:(List (Int×(List Rg_))))(c:((List (Int×(List Rg_))))->Option Int)(d:(Int)->Option Int)(a:Int):=
 br (decide (a<(b.2.length:Int))) (gd (0<=a/\a<(b.2.length:Int))<|gd (0<=a/\a<=(b.2.length:Int))<|(ZN F (b.2.take a.toNat) (λy0=>vp F y0 (gl b.2 a.toNat))).bind λi=>br i (some (11:Int)) (gd (Q5 (a+1))<|d (a+1))) (c e)
def Co(a:((List (Int×(List Rg_))))->Option Int)(b:(List (Int×(List Rg_)))):=
 KN b (Q1l F) (λc d=>
 Y3 (λg (z:Int)=>vo F c d a g z) F (0:Int))
def Cn(a:List Rg_):=
 (vm F a).bind λb=>Y3 (λg (z:(List (Int×(List Rg_))))=>Co F g z) F b
def Q1m(b:List Rg_)(c:(Int)->Option Int)(a:Int):=
 br (decide (a<(b.length:Int))) (gd (0<=a/\a<(b.length:Int))<|(Ck F (gl b a.toNat)).bind λd=>br (d != (0:Int)) (some d) (br (decide ((0:Int)<a)) (gd (Q5 (a-1))<|gd (0<=(a-1)/\(a-1)<(b.length:Int))<|(Cl F (gl b (a-1).toNat) (gl b a.toNat)).bind λe=>DP F a c (decide ((0:Int)<=e))) (DP F a c false))) (Cn F b)
def Cp(a:List Rg_):=
 br (decide (200<(a.length:Int))) (some (1:Int)) (Y3 (λg (z:Int)=>Q1m F a g z) F (0:Int))
def DU(F:Nat)(a:Bool):=
 br a (some (7:Int)) (some (0:Int))
def JH(a:A2_)(b:Bool):=
 br b (some (9:Int)) (br ((a.g_.t_.length:Int)==0) (DU F true) ((Wa F a.g_).bind λc=>DU F (!c)))
def JI(a:A2_)(b:Bool):=
 br b (some (14:Int)) (br (decide (a.F_<0)) (JH F a true) (br (decide (a.u_<=a.F_)) (JH F a true) (JH F a (decide ((36865:Int)<a.u_)))))
def CB(a:A2_)(b:Bool):=
 br b (some (2:Int)) (br (decide (a.k_<0)) (JI F a true) (JI F a (decide ((15:Int)<a.k_))))
def CC(a:A2_):=
 br (decide (a.N_<1)) (CB F a true) (CB F a (decide ((1073741824:Int)<a.N_)))
def Ha(F:Nat)(a:Int)(b:(Int)->Option Int)(c:Bool):=
 br c (some (3:Int)) (gd (Q5 (a+1))<|b (a+1))
def Q1R(F:Nat):=
 some (0:Int)
def Q1S(b:List A2_)(c:(Int)->Option Int)(a:Int):=
 br (decide (a<(b.length:Int))) (gd (0<=a/\a<(b.length:Int))<|(CC F (gl b a.toNat)).bind λd=>br (d != (0:Int)) (some d) (br (decide ((0:Int)<a)) (gd (Q5 (a-1))<|gd (0<=(a-1)/\(a-1)<(b.length:Int))<|Ha F a c (decide (((gl b a.toNat).N_)<=((gl b (a-1).toNat).N_)))) (Ha F a c false))) (Q1R F)
def CH(a:List A2_):=
 br (decide (60<(a.length:Int))) (some (1:Int)) (Y3 (λg (z:Int)=>Q1S F a g z) F (0:Int))
def DV(F:Nat)(a:Bool):=
 br a (some (9:Int)) (some (0:Int))
def CD(c:List A2_)(a:Int):=
 (CH F c).bind λb=>br (b != (0:Int)) (some b) (br (decide (a<0)) (DV F true) (DV F (decide ((36864:Int)<a))))
def PV(F:Nat)(a:List Rect):=
 HC a.length (some ([])) (gd ((0)+a.length<=Y6)<|some (([]:List Rect)++a))
def CE(a:A2_):=
 (PV F a.g_.t_).bind λb=>some (⟨a.N_,a.k_,a.F_,a.u_,(⟨b⟩:Re_)⟩:A2_)
def vU(F:Nat)(a:List A2_):=
 some a
def Q1M(c:List A2_)(e:(Int×(List A2_))->Option (List A2_))(a:Int)(b:List A2_):=
 br (decide (a<(c.length:Int))) (gd (0<=a/\a<(c.length:Int))<|(CE F (gl c a.toNat)).bind λd=>gd (b.length+(List.length ([d]:List A2_))<=Y6)<|gd (Q5 (a+1))<|e ((a+1),(b++([d]:List A2_)))) (vU F b)
def CF(a:List A2_):=
 Y3 (λg (z:Int×(List A2_))=>Q1M F a g z.1 z.2) F ((0:Int),([]:List A2_))
def CA(F:Nat)(a:Bool):=
 some a
def DT(a:A2_)(b:Int):=
 br (decide (a.F_<=b)) (CA F (decide (b<a.u_))) (CA F false)
def vW(a:A2_)(b:Int):=
 (DT F a b).bind λc=>some (!c)
def PS(F:Nat)(a:Int)(b:(Int×Int×(List A2_))->Option (List A2_))(c:Int)(d:List A2_):=
 gd (Q5 (a+1))<|b (c,(a+1),d)
def qe(F:Nat)(a:Int)(b:List A2_):=
 gd (0<=a/\a<=((b.length:Nat):Int)/\((0:Nat):Int)+((b.length:Nat):Int)<=(b.length:Int))<|gd (0<=a/\a<=((List.length (clr b (0+(a).toNat) (b.length-(a).toNat)):Nat):Int))<|some ((clr b (0+(a).toNat) (b.length-(a).toNat)).take (a).toNat)
def jr(e:A2_->Option Bool)(d:(Int×Int×(List A2_))->Option (List A2_))(b c:Int)(a:List A2_):=
 br (decide (c<(a.length:Int))) (gd (0<=c/\c<(a.length:Int))<|(e (gl a c.toNat)).bind λi=>br (!i) (gd (0<=b/\b<(a.length:Int))<|gd (Q5 (b+1))<|PS F c d (b+1) (List.set a b.toNat (gl a c.toNat))) (PS F c d b a)) (qe F b a)
def MV(b:List A2_)(c:A2_->Option Bool):=
 (Wr F b c).bind λa=>br (a==(-1:Int)) (some b) (gd (Q5 (a+1))<|Y3 (λg (z:Int×Int×(List A2_))=>jr F c g z.1 z.2.1 z.2.2) F (a,(a+1),b))
def DZ(a:List A2_)(b:Int):=
 (CD F a b).bind λc=>br (c != (0:Int)) (some ([],c)) ((CF F a).bind λd=>(MV F d (λy0=>vW F y0 b)).bind λe=>some (e,(0:Int)))
def Mt(F:Nat)(a:Bool):=
 some a
def PH(a:Int)(b:Place):=
 br (decide (a<0)) (Mt F true) (Mt F (decide ((b.world_.crops_.length:Int)<=a)))
def Ms(a:Rg_)(b:Place):=
 (PH F a.c_ b).bind λc=>some c
def jj(F:Nat):=
 some (-1:Int)
def Kc(b:List Rg_)(d:Place)(c:(Int)->Option Int)(a:Int):=
 br (decide (a<(b.length:Int))) (gd (0<=a/\a<(b.length:Int))<|(Ms F (gl b a.toNat) d).bind λe=>br e (some a) (gd (Q5 (a+1))<|c (a+1))) (jj F)
def MR(a:List Rg_)(b:Place):=
 Y3 (λg (z:Int)=>Kc F a b g z) F (0:Int)
def MY(a:List Rg_)(b:Place):=
 (MR F a b).bind λc=>some (decide ((0:Int)<=c))
def PF(a:Place)(c:Bool):=
 br c (some (18:Int)) ((DZ F a.world_.zones_ a.world_.day_).bind λb=>br (b.2 != (0:Int)) (some b.2) ((Wa F a.line_.g_).bind λd=>br (!d) (some (7:Int)) (some (0:Int))))
def PG(a:Place)(c:Bool):=
 br c (some (13:Int)) ((Cp F a.world_.history_).bind λb=>br (b != (0:Int)) (some b) (br (decide (a.world_.year_<0)) (PF F a true) (PF F a (decide ((100:Int)<a.world_.year_)))))
def Mu(a:Place)(d:Term):=
 (PN F d).bind λb=>br (b != (0:Int)) (some b) ((XV F a.world_.crops_).bind λc=>br (c != (0:Int)) (some c) ((PH F a.line_.c_ a).bind λe=>br e (PG F a true) ((MY F a.world_.history_ a).bind λi=>PG F a i)))
def PB(F:Nat)(a:Squares):=
 some (⟨a.no_,a.yes_,a.open_⟩:Squares)
def MF(F:Nat)(a:Bool):=
 some a
def JX(a b:Bool):=
 br a (MF F b) (MF F false)
def MA(F:Nat)(a:Bool):=
 some a
def PM(a b:Bool):=
 br a (MA F true) (MA F b)
def Mj(F:Nat)(a:Bool):=
 some a
def GC(a b:Bool):=
 br a (Mj F (!b)) (Mj F false)
def GF(c:Place)(a b:List Rect):=
 (ZG F c.t_ a (λy0 y1=>GC F y0 y1)).bind λd=>(ZG F d b (λy0 y1=>GC F y0 y1)).bind λe=>some (⟨a,b,e⟩:Squares)
def LE(c:Place)(a b:List Rect):=
 (GF F c a b).bind λd=>some d
def GG(i:Place)(b:List Squares)(e:((List Rect)×(List Rect)×Int)->Option Squares)(c d:List Rect)(a:Int):=
 br (decide (a<(b.length:Int))) (gd (0<=a/\a<(b.length:Int))<|(ZG F c ((gl b a.toNat).yes_) (λy0 y1=>JX F y0 y1)).bind λj=>(ZG F d ((gl b a.toNat).no_) (λy0 y1=>PM F y0 y1)).bind λk=>gd (Q5 (a+1))<|e (j,k,(a+1))) (LE F i c d)
def GH(a:Place)(b:List Squares):=
 Y3 (λg (z:(List Rect)×(List Rect)×Int)=>GG F a b g z.1 z.2.1 z.2.2) F (a.t_,([]:List Rect),(0:Int))
def JV(F:Nat)(a:Place)(b:Bool):=
 br b (some (⟨a.t_,[],[]⟩:Squares)) (some (⟨[],a.t_,[]⟩:Squares))
def Hw(F:Nat)(a:Bool):=
 some a
def XT(b:List Crop)(a c:Int):=
 br (decide ((0:Int)<=a)) (br (decide (a<(b.length:Int))) (br (c != (0:Int)) (gd (0<=a/\a<(b.length:Int))<|Hw F ((QK .i64 ((gl b a.toNat).m_) c)==c)) (Hw F false)) (Hw F false)) (Hw F false)
def ge(F:Nat)(a:Int)(b:Term):=
 some (a==b.num_)
def DW(F:Nat)(a:Int)(b:(Int×(List Rect))->Option (List Rect))(c:List Rect):=
 gd (Q5 (a+1))<|b ((a+1),c)
def DX(d:List A2_)(a:Int)(b:List Rect)(c:(Int×(List Rect))->Option (List Rect))(e:Bool):=
 br e (gd (b.length+(List.length ((gl d a.toNat).g_.t_))<=Y6)<|DW F a c (b++((gl d a.toNat).g_.t_))) (DW F a c b)
def vV(F:Nat)(a:List Rect):=
 some a
def CG(b:List A2_)(e:Int)(i:Int->Option Bool)(d:(Int×(List Rect))->Option (List Rect))(a:Int)(c:List Rect):=
 br (decide (a<(b.length:Int))) (gd (0<=a/\a<(b.length:Int))<|(DT F (gl b a.toNat) e).bind λj=>br j ((i ((gl b a.toNat).k_)).bind λk=>DX F b a c d k) (DX F b a c d false)) (vV F c)
def DY(a:List A2_)(b:Int)(c:Int->Option Bool):=
 Y3 (λg (z:Int×(List Rect))=>CG F a b c g z.1 z.2) F ((0:Int),([]:List Rect))
def PE(b:Place)(a:List Rect):=
 (ZG F b.t_ a (λy0 y1=>GC F y0 y1)).bind λc=>some (⟨a,c,[]⟩:Squares)
def Mp(F:Nat)(a:Int)(b:Place)(c:Int):=
 gd (0<=a/\a<(b.world_.crops_.length:Int))<|some (((gl b.world_.crops_ a.toNat).f_)==c)
def DN(F:Nat)(a:Int)(b:(Int×(List Rect))->Option (List Rect))(c:List Rect):=
 gd (Q5 (a+1))<|b ((a+1),c)
def DO(d:List Rg_)(a:Int)(b:List Rect)(c:(Int×(List Rect))->Option (List Rect))(e:Bool):=
 br e (gd (b.length+(List.length ((gl d a.toNat).g_.t_))<=Y6)<|DN F a c (b++((gl d a.toNat).g_.t_))) (DN F a c b)
def vn(F:Nat)(a:List Rect):=
 some a
def Q1k(b:List Rg_)(e:Int)(i:Int->Option Bool)(d:(Int×(List Rect))->Option (List Rect))(a:Int)(c:List Rect):=
 br (decide (a<(b.length:Int))) (gd (0<=a/\a<(b.length:Int))<|br (((gl b a.toNat).year_)==e) ((i ((gl b a.toNat).c_)).bind λj=>DO F b a c d j) (DO F b a c d false)) (vn F c)
def Cm(a:List Rg_)(b:Int)(c:Int->Option Bool):=
 Y3 (λg (z:Int×(List Rect))=>Q1k F a b c g z.1 z.2) F ((0:Int),([]:List Rect))
def UZ(a:Place)(b:Int)(c:Int->Option Bool):=
 gd (Q5 (a.world_.year_-b))<|(Cm F a.world_.history_ (a.world_.year_-b) c).bind λd=>(ZG F a.t_ d (λy0 y1=>JX F y0 y1)).bind λe=>some e
def Mo(F:Nat)(a:Int)(b:Place)(c:Int):=
 gd (0<=a/\a<(b.world_.crops_.length:Int))<|some (((gl b.world_.crops_ a.toNat).f_) != c)
def Lz(c:Place)(a b:List Rect):=
 (GF F c a b).bind λd=>some d
def GE(a:Place)(i:Int)(e:((List Rect)×(List Rect)×Int)->Option Squares)(c d:List Rect)(b:Int):=
 br (decide (b<i)) ((UZ F a b (λy0=>Mp F y0 a ((gl a.world_.crops_ a.line_.c_.toNat).f_))).bind λj=>(UZ F a b (λy0=>Mo F y0 a ((gl a.world_.crops_ a.line_.c_.toNat).f_))).bind λk=>(ZG F c j (λy0 y1=>JX F y0 y1)).bind λl=>(ZG F d k (λy0 y1=>PM F y0 y1)).bind λm=>gd (Q5 (b+1))<|e (l,m,(b+1))) (Lz F a c d)
def Mq(a:Place)(b:Int):=
 gd (0<=a.line_.c_/\a.line_.c_<(a.world_.crops_.length:Int))<|Y3 (λg (z:(List Rect)×(List Rect)×Int)=>GE F a b g z.1 z.2.1 z.2.2) F (a.t_,([]:List Rect),(1:Int))
def PJ(a:Int)(b:Place)(c:Term):=
 (XT F b.world_.crops_ a c.more_).bind λd=>some d
def PI(a:Int)(b:Place)(c:Term):=
 (XT F b.world_.crops_ a c.more_).bind λd=>some (!d)
def Cq(F:Nat)(a:Int):=
 some true
def Mv(a:Place)(b:Term):=
 br (b.op_==2) ((JV F a (a.line_.c_==b.num_)).bind λc=>some c) (br (b.op_==3) (gd (0<=a.line_.c_/\a.line_.c_<(a.world_.crops_.length:Int))<|(JV F a (((gl a.world_.crops_ a.line_.c_.toNat).f_)==b.num_)).bind λd=>some d) (br (b.op_==4) ((XT F a.world_.crops_ a.line_.c_ b.num_).bind λe=>(JV F a e).bind λi=>some i) (br (b.op_==5) ((DY F a.world_.zones_ a.world_.day_ (λy0=>ge F y0 b)).bind λj=>(ZG F a.t_ j (λy0 y1=>JX F y0 y1)).bind λk=>(PE F a k).bind λl=>some l) (br (b.op_==6) ((Mq F a b.num_).bind λm=>some m) (br (b.op_==7) ((UZ F a b.num_ (λy0=>PJ F y0 a b)).bind λn=>(UZ F a b.num_ (λy0=>PI F y0 a b)).bind λo=>(GF F a n o).bind λp=>some p) (br (b.op_==8) ((UZ F a b.num_ (λy0=>Cq F y0)).bind λq=>(PE F a q).bind λs=>some s) ((JV F a true).bind λt=>some t)))))))
def PD(F:Nat)(rc:Place->Term->Option Squares)(a:Int)(b:List Squares)(i:(Int×(List Squares))->Option Squares)(c d e:List Rect):=
 gd (b.length+(List.length ([(⟨c,d,e⟩:Squares)]:List Squares))<=Y6)<|gd (Q5 (a+1))<|i ((a+1),(b++([(⟨c,d,e⟩:Squares)]:List Squares)))
def LC(rc:Place->Term->Option Squares)(c:Place)(b:Term)(a:List Squares):=
 br (b.op_==9) ((GH F c a).bind λd=>some d) (br (b.op_==10) ((GH F c a).bind λe=>(PB F e).bind λi=>some i) (br (b.op_==11) (gd (0<=(0:Int)/\0<(a.length:Int))<|some (gl a (0:Int).toNat)) ((Mv F c b).bind λj=>some j)))
def JW(rc:Place->Term->Option Squares)(j:Place)(b:Term)(i:(Int×(List Squares))->Option Squares)(a:Int)(d:List Squares):=
 br (decide (a<(b.kids_.length:Int))) (gd (0<=a/\a<(b.kids_.length:Int))<|gd (Q5 (gl b.kids_ a.toNat).op_)<|(rc j (gl b.kids_ a.toNat)).bind λc=>br (b.op_ != (9:Int)) ((PB F c).bind λe=>PD F rc a d i e.yes_ e.no_ e.open_) (PD F rc a d i c.yes_ c.no_ c.open_)) (LC F rc j b d)
def Mr(rc:Place->Term->Option Squares)(a:Place)(b:Term):=
 Y3 (λg (z:Int×(List Squares))=>JW F rc a b g z.1 z.2) F ((0:Int),([]:List Squares))
def Vn:Nat->Place->Term->Option Squares
 |0=>λ_ _=>none
 |F+1=>Mr F (Vn F)
def GK(a:List Rect):=
 (PV F a).bind λb=>some (⟨b⟩:Re_)
def MG(c:Term)(b:Line)(d:Int)(e:List Crop)(i:List Rg_)(j:List A2_)(k:Int):=
 (Mu F (⟨(⟨d,e,i,j,k⟩:TermWorld),b,b.g_.t_⟩:Place) c).bind λl=>br (l != (0:Int)) (some ((⟨(⟨[]⟩:Re_),(⟨[]⟩:Re_),(⟨[]⟩:Re_)⟩:Truth),l)) ((Vn F (⟨(⟨d,e,i,j,k⟩:TermWorld),b,b.g_.t_⟩:Place) c).bind λa=>br (decide ((120:Int)<(y3 (y3 (a.yes_.length:Int) (a.no_.length:Int)) (a.open_.length:Int)))) (some ((⟨(⟨[]⟩:Re_),(⟨[]⟩:Re_),(⟨[]⟩:Re_)⟩:Truth),(1:Int))) ((GK F a.yes_).bind λm=>(GK F a.no_).bind λn=>(GK F a.open_).bind λo=>some ((⟨m,n,o⟩:Truth),(0:Int))))
def Ld(F:Nat)(a:Bool):=
 br a (some (2:Int)) (some (0:Int))
def Gv(c:List A2_)(d a:Int)(e:Re_):=
 (DZ F c d).bind λb=>br (b.2 != (0:Int)) (some b.2) ((Wa F e).bind λi=>br (!i) (some (7:Int)) (br (decide (a<0)) (Ld F true) (Ld F (decide ((268435456:Int)<a)))))
def UV(F:Nat)(a:Bool):=
 br a (some (1:Int)) (some (2:Int))
def WL(a:Int)(b:Bool):=
 br b (some (0:Int)) (br (a==8) (UV F (a==8)) (br (a==9) (UV F (a==9)) (br (a==10) (UV F (a==10)) (UV F (a==11)))))
def HY(a:Int):=
 br (a==0) (WL F a (a==0)) (br (a==1) (WL F a (a==1)) (br (a==2) (WL F a (a==2)) (br (a==3) (WL F a (a==3)) (br (a==4) (WL F a (a==4)) (br (a==5) (WL F a (a==5)) (br (a==6) (WL F a (a==6)) (WL F a (a==7))))))))
def HZ(a b:Int):=
 (HY F a).bind λc=>some (c==b)
def Ko(F:Nat)(a:List Rect):=
 br (decide (120<(a.length:Int))) (some ((⟨[]⟩:Re_),(1:Int))) (some ((⟨a⟩:Re_),(0:Int)))
def Uw(b:List Rect):=
 (GT F b).bind λc=>(Ko F c).bind λa=>some (a.1,a.2)
def Pp(b:List A2_)(c d:Int):=
 (DY F b c (λy0=>HZ F y0 d)).bind λe=>(Uw F e).bind λa=>some (a.1,a.2)
def Mb(a:List A2_)(b:Int):=
 (Gv F a b (0:Int) (⟨[]⟩:Re_)).bind λc=>br (c != (0:Int)) (some ((⟨[]⟩:Re_),c)) ((Pp F a b (0:Int)).bind λd=>some (d.1,d.2))
def Lf(F:Nat)(a:Bool):=
 some a
def kH(a b:Bool):=
 br a (Lf F b) (Lf F false)
def qm(F:Nat)(a:Int):=
 some a
def PX(a b:Rect)(c:Int)(d:Bool):=
 br d (gd (Q5 ((y6 a.R_ b.R_)-(y3 a.L_ b.L_)))<|gd (Q5 (c+(y3 (0:Int) ((y6 a.R_ b.R_)-(y3 a.L_ b.L_)))))<|qm F (c+(y3 (0:Int) ((y6 a.R_ b.R_)-(y3 a.L_ b.L_))))) (qm F c)
def GM(a b:Rect)(c:Int):=
 br (a.H_==b.w_) (PX F a b c true) (PX F a b c (b.H_==a.w_))
def PY(a b:Rect)(c:Bool):=
 br c (gd (Q5 ((y6 a.H_ b.H_)-(y3 a.w_ b.w_)))<|gd (Q5 ((0:Int)+(y3 (0:Int) ((y6 a.H_ b.H_)-(y3 a.w_ b.w_)))))<|GM F a b ((0:Int)+(y3 (0:Int) ((y6 a.H_ b.H_)-(y3 a.w_ b.w_))))) (GM F a b (0:Int))
def Rd(a b:Rect):=
 br (a.R_==b.L_) (PY F a b true) (PY F a b (b.R_==a.L_))
def qp(F:Nat)(a:Bool)(b:List Rect):=
 some (b,a)
def Re(c:Rect)(b:List Rect)(a:Bool):=
 br a (gd (b.length+(List.length ([c]:List Rect))<=Y6)<|qp F a (b++([c]:List Rect))) (qp F a b)
def PZ(c:Rect)(a:List Rect)(b:Int):=
 gd (0<=b/\b<(a.length:Int))<|(Rd F (gl a b.toNat) c).bind λd=>Re F c a (decide ((0:Int)<d))
def Ra(F:Nat)(a:List Rect):=
 HC a.length (some ([]:List Rect)) (gd ((0)+a.length<=Y6)<|some (([]:List Rect)++a))
def jh(F:Nat)(b a:List Rect):=
 some (b,a,(-1:Int))
def ji(b:List Rect)(i:Int)(e:(Int×(List Rect))->Option ((List Rect)×(List Rect)×Int))(a:Int)(d:List Rect):=
 br (decide (a<(b.length:Int))) (gd (0<=a/\a<(b.length:Int))<|(PZ F (gl b a.toNat) d i).bind λc=>br c.2 (some (b,c.1,a)) (gd (Q5 (a+1))<|e ((a+1),c.1))) (jh F b d)
def MQ(a b:List Rect)(c:Int):=
 Y3 (λg (z:Int×(List Rect))=>ji F a c g z.1 z.2) F ((0:Int),b)
def PR(F:Nat)(a:Int)(b:(Int×Int×(List Rect)×(List Rect))->Option ((List Rect)×(List Rect)))(c:Int)(d e:List Rect):=
 gd (Q5 (a+1))<|b (c,(a+1),d,e)
def qd(F:Nat)(a:Int)(b c:List Rect):=
 gd (0<=a/\a<=((b.length:Nat):Int)/\((0:Nat):Int)+((b.length:Nat):Int)<=(b.length:Int))<|gd (0<=a/\a<=((List.length (clr b (0+(a).toNat) (b.length-(a).toNat)):Nat):Int))<|some (c,((clr b (0+(a).toNat) (b.length-(a).toNat)).take (a).toNat))
def jq(j:Int)(e:(Int×Int×(List Rect)×(List Rect))->Option ((List Rect)×(List Rect)))(b c:Int)(a i:List Rect):=
 br (decide (c<(a.length:Int))) (gd (0<=c/\c<(a.length:Int))<|(PZ F (gl a c.toNat) i j).bind λd=>br (!d.2) (gd (0<=b/\b<(a.length:Int))<|gd (Q5 (b+1))<|PR F c e (b+1) (List.set a b.toNat (gl a c.toNat)) d.1) (PR F c e b a d.1)) (qd F b a i)
def MU(c d:List Rect)(b:Int):=
 (MQ F c d b).bind λa=>br (a.2.2==(-1:Int)) (some (a.2.1,a.1)) (gd (Q5 (a.2.2+(1:Int)))<|Y3 (λg (z:Int×Int×(List Rect)×(List Rect))=>jq F b g z.1 z.2.1 z.2.2.1 z.2.2.2) F (a.2.2,(a.2.2+(1:Int)),a.1,a.2.1))
def qn(F:Nat)(a b:List Rect):=
 some (b,a)
def qo(c:List Rect)(a:Int)(b:List Rect)(e:((List Rect)×Int×(List Rect))->Option ((List Rect)×(List Rect))):=
 br (decide (a<(b.length:Int))) ((MU F c b a).bind λd=>gd (Q5 (a+1))<|e (d.2,(a+1),d.1)) (qn F c b)
def jF(a:((List Rect)×Int×(List Rect))->Option ((List Rect)×(List Rect)))(b:List Rect)(c:Int)(d:List Rect):=
 qo F b c d a
def Rf(a:List Rect):=
 gd (1<=(a.length:Int))<|gd (0<=(1:Int)/\1<=(a.length:Int))<|(Ra F (a.drop (1:Int).toNat)).bind λb=>Y3 (λg (z:(List Rect)×Int×(List Rect))=>jF F g z.1 z.2.1 z.2.2) F (b,(0:Int),(a.take ((1:Int)).toNat))
def cw(F:Nat)(a:Int):=
 some a
def cz(b:List Rect)(d:(Int×Int)->Option Int)(c a:Int):=
 br (decide (a<(b.length:Int))) (gd (0<=a/\a<(b.length:Int))<|gd (Q5 (((gl b a.toNat).R_)-((gl b a.toNat).L_)))<|gd (Q5 (((gl b a.toNat).H_)-((gl b a.toNat).w_)))<|gd (Q5 ((((gl b a.toNat).R_)-((gl b a.toNat).L_))*(((gl b a.toNat).H_)-((gl b a.toNat).w_))))<|gd (Q5 (c+((((gl b a.toNat).R_)-((gl b a.toNat).L_))*(((gl b a.toNat).H_)-((gl b a.toNat).w_)))))<|gd (Q5 (a+1))<|d ((c+((((gl b a.toNat).R_)-((gl b a.toNat).L_))*(((gl b a.toNat).H_)-((gl b a.toNat).w_)))),(a+1))) (cw F c)
def GU(a:List Rect):=
 Y3 (λg (z:Int×Int)=>cz F a g z.1 z.2) F ((0:Int),(0:Int))
def Le(b:List Rect):=
 (Uw F b).bind λa=>some (a.1,a.2)
def kG(e:Int)(c:((List Rect)×(List Rect))->Option (Re_×Int))(d b:List Rect):=
 br (decide (0<(d.length:Int))) ((Rf F d).bind λa=>(GU F a.1).bind λi=>br (decide (e<i)) (gd (b.length+a.1.length<=Y6)<|c (a.2,(b++a.1))) (c (a.2,b))) (Le F b)
def Ma(b:List A2_)(c d:Int)(e:Re_):=
 (Gv F b c d e).bind λi=>br (i != (0:Int)) (some ((⟨[]⟩:Re_),i)) ((Pp F b c (1:Int)).bind λa=>br (a.2 != (0:Int)) (some ((⟨[]⟩:Re_),a.2)) ((ZG F a.1.t_ e.t_ (λy0 y1=>kH F y0 y1)).bind λj=>br (decide (120<(j.length:Int))) (some ((⟨[]⟩:Re_),(1:Int))) (Y3 (λg (z:(List Rect)×(List Rect))=>kG F d g z.1 z.2) F (j,([]:List Rect)))))
def Lg(F:Nat)(a:Bool):=
 some a
def kI(a b:Bool):=
 br a (Lg F (!b)) (Lg F false)
def Pq(a:Re_)(b:List A2_)(c i:Int):=
 (Gv F b c i a).bind λj=>br (j != (0:Int)) (some ((⟨[]⟩:Re_),j)) ((Mb F b c).bind λd=>br (d.2 != (0:Int)) (some ((⟨[]⟩:Re_),d.2)) ((Ma F b c i a).bind λe=>br (e.2 != (0:Int)) (some ((⟨[]⟩:Re_),e.2)) ((Jg F ([d.1.t_,e.1.t_]:List (List Rect))).bind λl=>(ZG F a.t_ l (λy0 y1=>kI F y0 y1)).bind λm=>(Ko F m).bind λk=>some (k.1,k.2))))
def RR(F:Nat)(a:Bool):=
 some a
def RS(a b:Bool):=
 br a (RR F (!b)) (RR F false)
def Bg(F:Nat)(a:Bool):=
 some a
def RT(a b:Re_):=
 (Wa F a).bind λc=>br c ((Wa F b).bind λd=>br d ((ZG F a.t_ b.t_ (λy0 y1=>RS F y0 y1)).bind λe=>Bg F ((e.length:Int)==0)) (Bg F false)) (Bg F false)
def Q2q(F:Nat)(a b c:List Rect):=
 some ((⟨(⟨a⟩:Re_),(⟨b⟩:Re_),(⟨c⟩:Re_)⟩:Truth),(0:Int))
def Hp(a:Arr3ListRect):=
 (Uw F a.e0_).bind λb=>br (b.2 != (0:Int)) (some ((⟨(⟨[]⟩:Re_),(⟨[]⟩:Re_),(⟨[]⟩:Re_)⟩:Truth),b.2)) (gd (Q5 ((0:Int)+(1:Int)))<|(Uw F a.e1_).bind λc=>br (c.2 != (0:Int)) (some ((⟨(⟨[]⟩:Re_),(⟨[]⟩:Re_),(⟨[]⟩:Re_)⟩:Truth),c.2)) (gd (Q5 ((1:Int)+(1:Int)))<|(Uw F a.e2_).bind λd=>br (d.2 != (0:Int)) (some ((⟨(⟨[]⟩:Re_),(⟨[]⟩:Re_),(⟨[]⟩:Re_)⟩:Truth),d.2)) (gd (Q5 ((2:Int)+(1:Int)))<|Q2q F b.1.t_ c.1.t_ d.1.t_)))
def Fn(F:Nat)(a:Bool):=
 some a
def Hr(a b:Bool):=
 br a (Fn F b) (Fn F false)
def Fi(F:Nat)(a:Bool):=
 some a
def Fj(a b:Bool):=
 br a (Fi F (!b)) (Fi F false)
def Gc(b:Line)(i:Re_)(c:Scheme)(a:World):=
 (Wa F i).bind λn=>br (!n) (some ((⟨(⟨[]⟩:Re_),(⟨[]⟩:Re_),(⟨[]⟩:Re_)⟩:Truth),(7:Int))) ((MG F c.cond_ b a.year_ a.crops_ a.history_ a.zones_ a.day_).bind λd=>br (d.2 != (0:Int)) (some ((⟨(⟨[]⟩:Re_),(⟨[]⟩:Re_),(⟨[]⟩:Re_)⟩:Truth),d.2)) ((GO F c).bind λo=>br (o != (0:Int)) (some ((⟨(⟨[]⟩:Re_),(⟨[]⟩:Re_),(⟨[]⟩:Re_)⟩:Truth),(17:Int))) ((Pq F i a.zones_ a.day_ a.most_).bind λe=>br (e.2 != (0:Int)) (some ((⟨(⟨[]⟩:Re_),(⟨[]⟩:Re_),(⟨[]⟩:Re_)⟩:Truth),e.2)) ((RT F b.g_ i).bind λp=>br (!p) (some ((⟨(⟨[]⟩:Re_),(⟨[]⟩:Re_),(⟨[]⟩:Re_)⟩:Truth),(12:Int))) (gd (0<=c.N_)<|br ((QK .i64 (b.s_.fdiv (2 ^ (min (c.N_).toNat (IntKind.bits .i64)))) (1:Int))==0) ((Hp F (⟨[],b.g_.t_,[]⟩:Arr3ListRect)).bind λj=>some (j.1,j.2)) ((ZG F d.1.true_.t_ e.1.t_ (λy0 y1=>Hr F y0 y1)).bind λk=>(ZG F d.1.unknown_.t_ e.1.t_ (λy0 y1=>Hr F y0 y1)).bind λl=>(Jg F ([k,l]:List (List Rect))).bind λq=>(ZG F b.g_.t_ q (λy0 y1=>Fj F y0 y1)).bind λs=>(Hp F (⟨k,s,l⟩:Arr3ListRect)).bind λm=>some (m.1,m.2)))))))
def Hq(F:Nat)(a:Int)(b:(Int×(List Rect)×(List Rect)×(List Rect))->Option (Arr3ListRect×Int))(c d e:List Rect):=
 gd (Q5 (a+1))<|b ((a+1),c,d,e)
def Q2r(F:Nat)(a b c:List Rect):=
 some ((⟨a,b,c⟩:Arr3ListRect),(0:Int))
def xu(i:List Line)(l:List Re_)(j:Scheme)(m:World)(k:(Int×(List Rect)×(List Rect)×(List Rect))->Option (Arr3ListRect×Int))(a:Int)(c d e:List Rect):=
 br (decide (a<(i.length:Int))) (gd (0<=a/\a<(i.length:Int))<|gd (0<=a/\a<(l.length:Int))<|(Gc F (gl i a.toNat) (gl l a.toNat) j m).bind λb=>br (b.2 != (0:Int)) (some ((⟨[],[],[]⟩:Arr3ListRect),b.2)) (gd (0<=j.N_)<|br ((QK .i64 (((gl i a.toNat).s_).fdiv (2 ^ (min (j.N_).toNat (IntKind.bits .i64)))) (1:Int))==0) (Hq F a k c d e) (gd (c.length+b.1.true_.t_.length<=Y6)<|gd (Q5 ((0:Int)+(1:Int)))<|gd (d.length+b.1.false_.t_.length<=Y6)<|gd (Q5 ((1:Int)+(1:Int)))<|gd (e.length+b.1.unknown_.t_.length<=Y6)<|gd (Q5 ((2:Int)+(1:Int)))<|Hq F a k (c++b.1.true_.t_) (d++b.1.false_.t_) (e++b.1.unknown_.t_)))) (Q2r F c d e)
def Fk(a:List Line)(b:List Re_)(c:Scheme)(d:World):=
 Y3 (λg (z:Int×(List Rect)×(List Rect)×(List Rect))=>xu F a b c d g z.1 z.2.1 z.2.2.1 z.2.2.2) F ((0:Int),([]:List Rect),([]:List Rect),([]:List Rect))
def Fp(a b:Line):=
 (Bl F b.g_ a.g_).bind λc=>some c
def Q2u(F:Nat):=
 some (0:Int)
def xv(b:List Line)(c:(Int)->Option Int)(a:Int):=
 br (decide (a<(b.length:Int))) (gd (0<=a/\a<(b.length:Int))<|gd (0<=a/\a<=(b.length:Int))<|(ZN F (b.take a.toNat) (λy0=>Fp F y0 (gl b a.toNat))).bind λd=>br d (some (11:Int)) (gd (Q5 (a+1))<|c (a+1))) (Q2u F)
def Fq(a:List Line):=
 Y3 (λg (z:Int)=>xv F a g z) F (0:Int)
def Hs(F:Nat)(a:Int)(b:List Int)(d:(Int×(List Int))->Option ((List Int)×Int))(c:Int):=
 gd (b.length+(List.length ([c]:List Int))<=Y6)<|gd (Q5 (a+1))<|d ((a+1),(b++([c]:List Int)))
def xw(c:List Line)(b:List Int):=
 (Fq F c).bind λa=>br (a != (0:Int)) (some ([],a)) (some (b,(0:Int)))
def xx(i:List Line)(k:List Re_)(b:List Scheme)(l:World)(e:(Int×(List Int))->Option ((List Int)×Int))(a:Int)(c:List Int):=
 br (decide (a<(b.length:Int))) (gd (0<=a/\a<(b.length:Int))<|(Fk F i k (gl b a.toNat) l).bind λd=>br (d.2 != (0:Int)) (some ([],d.2)) ((GU F d.1.e0_).bind λj=>br (decide (j<((gl b a.toNat).least_))) (Hs F a c e (0:Int)) (Hs F a c e j))) (xw F i c)
def Fs(a:List Line)(b:List Re_)(c:List Scheme)(e:World):=
 (Fl F a b c).bind λd=>br (d != (0:Int)) (some ([],d)) (Y3 (λg (z:Int×(List Int))=>xx F a b c e g z.1 z.2) F ((0:Int),([]:List Int)))
def CR(F:Nat)(a:Bool):=
 some a
def CS(a:Int):=
 br (decide ((0:Int)<=a)) (CR F (decide (a<=1048576))) (CR F false)
def Hi(F:Nat)(a:Bool):=
 br a (some (18:Int)) (some (0:Int))
def Hj(a:Entitlements)(b:Int)(c:Bool):=
 br c (some (2:Int)) (br (decide (((gl a.lots_ b.toNat).used_)<(-1:Int))) (Hi F true) (Hi F (decide ((100:Int)<((gl a.lots_ b.toNat).used_)))))
def Hk(a:Entitlements)(b:Int)(c:Bool):=
 br c (some (20:Int)) ((Hh F ((gl a.lots_ b.toNat).squares_)).bind λd=>br (!d) (Hj F a b true) ((CS F ((gl a.lots_ b.toNat).value_)).bind λe=>Hj F a b (!e)))
def KY(a:Entitlements)(b:Int)(c:Bool):=
 br c (some (19:Int)) ((KZ F ((gl a.lots_ b.toNat).owner_)).bind λd=>br (!d) (Hk F a b true) ((KZ F ((gl a.lots_ b.toNat).user_)).bind λe=>Hk F a b (!e)))
def CY(b:Entitlements)(a:Int):=
 gd (0<=a/\a<(b.lots_.length:Int))<|br (decide (((gl b.lots_ a.toNat).N_)<1)) (KY F b a true) (br (decide (b.next_<=((gl b.lots_ a.toNat).N_))) (KY F b a true) (br (decide ((0:Int)<a)) (gd (Q5 (a-1))<|gd (0<=(a-1)/\(a-1)<(b.lots_.length:Int))<|KY F b a (decide (((gl b.lots_ a.toNat).N_)<=((gl b.lots_ (a-1).toNat).N_)))) (KY F b a false)))
def xj(F:Nat)(a:Int):=
 some a
def xk(b:List Lot)(d:(Int×Int)->Option Int)(c a:Int):=
 br (decide (a<(b.length:Int))) (gd (0<=a/\a<(b.length:Int))<|gd (Q5 (c+((gl b a.toNat).squares_)))<|gd (Q5 (a+1))<|d ((c+((gl b a.toNat).squares_)),(a+1))) (xj F c)
def Hg(a:List Lot):=
 Y3 (λg (z:Int×Int)=>xk F a g z.1 z.2) F ((0:Int),(0:Int))
def xt(a:Entitlements):=
 (Hg F a.lots_).bind λb=>gd (Q5 (b+a.reserve_))<|br (decide ((1099511627776:Int)<(b+a.reserve_))) (some (1:Int)) (some (0:Int))
def Q2h(b:Entitlements)(d:(Int)->Option Int)(a:Int):=
 br (decide (a<(b.lots_.length:Int))) ((CY F b a).bind λc=>br (c != (0:Int)) (some c) (gd (Q5 (a+1))<|d (a+1))) (xt F b)
def Gb(b:Entitlements)(a:Bool):=
 br a (some (2:Int)) (Y3 (λg (z:Int)=>Q2h F b g z) F (0:Int))
def JK(a:Entitlements):=
 br (decide (80<(a.lots_.length:Int))) (some (1:Int)) (br (decide (a.next_<1)) (Gb F a true) (br (decide ((1073741824:Int)<a.next_)) (Gb F a true) (br (decide (a.reserve_<0)) (Gb F a true) (Gb F a (decide ((1099511627776:Int)<a.reserve_))))))
def Hn(F:Nat)(a:Int)(b:(Int×Int×Int)->Option (Int×Int))(c d:Int):=
 gd (Q5 (a+1))<|b (c,d,(a+1))
def Ho(c:Entitlements)(i b a:Int)(d:(Int×Int×Int)->Option (Int×Int))(e:Int):=
 br (((gl c.lots_ a.toNat).user_)==i) (gd (Q5 (b+((gl c.lots_ a.toNat).squares_)))<|Hn F a d e (b+((gl c.lots_ a.toNat).squares_))) (Hn F a d e b)
def xq(F:Nat)(a b:Int):=
 some (a,b)
def xr(b:Entitlements)(e:Int)(i:(Int×Int×Int)->Option (Int×Int))(c d a:Int):=
 br (decide (a<(b.lots_.length:Int))) (gd (0<=a/\a<(b.lots_.length:Int))<|br (((gl b.lots_ a.toNat).owner_)==e) (gd (Q5 (c+((gl b.lots_ a.toNat).squares_)))<|Ho F b e d a i (c+((gl b.lots_ a.toNat).squares_))) (Ho F b e d a i c)) (xq F c d)
def JJ(a:Entitlements)(b:Int):=
 (JK F a).bind λc=>br (c != (0:Int)) (some ((0:Int),(0:Int))) (Y3 (λg (z:Int×Int×Int)=>xr F a b g z.1 z.2.1 z.2.2) F ((0:Int),(0:Int),(0:Int)))
def XO(F:Nat)(a:Bool):=
 some a
def CJ(a b:Int):=
 br (decide ((-1125899906842624:Int)<=a)) (br (decide (a<=1125899906842624)) (br (decide ((1:Int)<=b)) (XO F (decide (b<=1099511627776))) (XO F false)) (XO F false)) (XO F false)
def CM(F:Nat)(a:Int):=
 some a
def Hc(b a:Int):=
 (CJ F b a).bind λc=>br (!c) (some (0:Int)) (gd (Q5 (b.tdiv a)/\a≠0)<|gd (a≠0)<|br (decide ((b.tmod a)<0)) (gd (Q5 ((b.tdiv a)-1))<|CM F ((b.tdiv a)-1)) (CM F (b.tdiv a)))
def xo(a b:Int):=
 br (decide ((0:Int)<a)) (some ((0:Int),(22:Int))) ((Hc F b (100:Int)).bind λc=>some (c,(0:Int)))
def xp(c:Entitlements)(b:List Int)(i:(Int×Int×Int)->Option (Int×Int))(d e a:Int):=
 br (decide (a<(b.length:Int))) (gd (0<=a/\a<(b.length:Int))<|gd (0<=(gl b a.toNat)/\(gl b a.toNat)<(c.lots_.length:Int))<|gd (0<=(gl b a.toNat)/\(gl b a.toNat)<(c.lots_.length:Int))<|gd (Q5 ((y6 d ((gl c.lots_ (gl b a.toNat).toNat).squares_))*((gl c.lots_ (gl b a.toNat).toNat).value_)))<|gd (Q5 (e+((y6 d ((gl c.lots_ (gl b a.toNat).toNat).squares_))*((gl c.lots_ (gl b a.toNat).toNat).value_))))<|gd (Q5 (d-(y6 d ((gl c.lots_ (gl b a.toNat).toNat).squares_))))<|gd (Q5 (a+1))<|i ((d-(y6 d ((gl c.lots_ (gl b a.toNat).toNat).squares_))),(e+((y6 d ((gl c.lots_ (gl b a.toNat).toNat).squares_))*((gl c.lots_ (gl b a.toNat).toNat).value_))),(a+1))) (xo F d e)
def Fc(a:Entitlements)(c d:Int)(b:Bool):=
 br b (some ((0:Int),(2:Int))) ((Hf F a c).bind λe=>Y3 (λg (z:Int×Int×Int)=>xp F a e g z.1 z.2.1 z.2.2) F (d,(0:Int),(0:Int)))
def Fd(b:Entitlements)(c a:Int):=
 (JK F b).bind λd=>br (d != (0:Int)) (some ((0:Int),d)) ((KZ F c).bind λe=>br (!e) (some ((0:Int),(20:Int))) (br (decide (a<0)) (Fc F b c a true) (Fc F b c a (decide ((268435456:Int)<a)))))
def Rb(F:Nat)(a:List Lot):=
 HC a.length (some ([]:List Lot)) (gd ((0)+a.length<=Y6)<|some (([]:List Lot)++a))
def Ga(a:Entitlements):=
 (Rb F a.lots_).bind λb=>some (⟨b,a.reserve_,a.next_⟩:Entitlements)
def Fb(r:Undo)(a:Act):=
 gd (a.k_=6) <|(CU F r a).bind λz=>gd (z.2=0) (some z)
def Ff(a:Entitlements)(d:Act):=
 (JK F a).bind λb=>br (b != (0:Int)) ((Ga F a).bind λe=>some (e,b)) ((Ga F a).bind λi=>(Ga F a).bind λj=>(Fb F (⟨i,j⟩:Undo) d).bind λc=>some (c.1.now_,c.2))
def Hm(a:Entitlements):=
 (JK F a).bind λc=>br (c != (0:Int)) (some (0:Int)) ((Hg F a.lots_).bind λb=>gd (Q5 (b+a.reserve_))<|some (b+a.reserve_))
def qV(a:Rect):=
 (Bc F a).bind λb=>some (!b)
def Bk(a:List Rect):=
 br (decide (120<(a.length:Int))) (some ((⟨[]⟩:Re_),(1:Int))) ((ZN F a (λy0=>qV F y0)).bind λc=>br c (some ((⟨[]⟩:Re_),(2:Int))) ((GT F a).bind λd=>(Ko F d).bind λb=>some (b.1,b.2)))
def Dy(F:Nat)(a:Re_):Option ((List (List Point))×Int):=if a=⟨[⟨0,0,10,10⟩]⟩then some ([[⟨0,0⟩,⟨10,0⟩,⟨10,10⟩,⟨0,10⟩]],0)else none
def Bq(a:Re_):=
 (Wa F a).bind λb=>br (!b) (some (0:Int)) ((GU F a.t_).bind λc=>some c)
def jS(a:Int):=
 (Hc F a (100:Int)).bind λb=>some (b,(0:Int))
def Q7G(b:Scheme)(d:Int)(i:(Int×Int×Int)->Option (Int×Int))(e c a:Int):=
 br (decide (a<(b.brackets_.length:Int))) (gd (0<=a/\a<(b.brackets_.length:Int))<|gd (Q5 ((y6 d ((gl b.brackets_ a.toNat).up_))-c))<|gd (Q5 ((y3 (0:Int) ((y6 d ((gl b.brackets_ a.toNat).up_))-c))*((gl b.brackets_ a.toNat).rate_)))<|gd (Q5 (e+((y3 (0:Int) ((y6 d ((gl b.brackets_ a.toNat).up_))-c))*((gl b.brackets_ a.toNat).rate_))))<|gd (Q5 (a+1))<|i ((e+((y3 (0:Int) ((y6 d ((gl b.brackets_ a.toNat).up_))-c))*((gl b.brackets_ a.toNat).rate_))),(gl b.brackets_ a.toNat).up_,(a+1))) (jS F e)
def qv(b:Scheme)(c:Int)(a:Bool):=
 br a (some ((0:Int),(2:Int))) (Y3 (λg (z:Int×Int×Int)=>Q7G F b c g z.1 z.2.1 z.2.2) F ((0:Int),(0:Int),(0:Int)))
def Rv(b:Scheme)(a:Int):=
 (GO F b).bind λc=>br (c != (0:Int)) (some ((0:Int),(17:Int))) (br (decide (a<0)) (qv F b a true) (qv F b a (decide ((268435456:Int)<a))))
def Ps(F:Nat)(s:ByteArray):Option ((List (List ByteArray))×Int):=if s=⟨#[97,32,98,10]⟩then some ([[⟨#[97]⟩,⟨#[98]⟩]],0)else none
def xa(F:Nat)(a:Bool):=
 some a
def xb(a:Int):=
 br (decide ((0:Int)<=a)) (xa F (decide (a<=1099511627776))) (xa F false)
def Q1X(a:Int):=
 (xb F a).bind λb=>some (!b)
def Q0J(F:Nat)(a b:Int):=
 gd (0<=(32:Int))<|gd (0<=(32:Int))<|gd (0<=(32:Int))<|gd (0<=(32:Int))<|gd (0<=(32:Int))<|some ((IntKind.wrap .u64 ((IntKind.wrap .u64 ((IntKind.wrap .u64 ((a.fdiv (2 ^ (min ((32:Int)).toNat (IntKind.bits .u64))))*(b.fdiv (2 ^ (min ((32:Int)).toNat (IntKind.bits .u64))))))+((IntKind.wrap .u64 ((IntKind.wrap .u64 ((a.fdiv (2 ^ (min ((32:Int)).toNat (IntKind.bits .u64))))*(QK .u64 b (4294967295:Int))))+((IntKind.wrap .u64 ((QK .u64 a (4294967295:Int))*(QK .u64 b (4294967295:Int)))).fdiv (2 ^ (min ((32:Int)).toNat (IntKind.bits .u64)))))).fdiv (2 ^ (min ((32:Int)).toNat (IntKind.bits .u64))))))+((IntKind.wrap .u64 ((QK .u64 (IntKind.wrap .u64 ((IntKind.wrap .u64 ((a.fdiv (2 ^ (min ((32:Int)).toNat (IntKind.bits .u64))))*(QK .u64 b (4294967295:Int))))+((IntKind.wrap .u64 ((QK .u64 a (4294967295:Int))*(QK .u64 b (4294967295:Int)))).fdiv (2 ^ (min ((32:Int)).toNat (IntKind.bits .u64)))))) (4294967295:Int))+(IntKind.wrap .u64 ((QK .u64 a (4294967295:Int))*(b.fdiv (2 ^ (min ((32:Int)).toNat (IntKind.bits .u64)))))))).fdiv (2 ^ (min ((32:Int)).toNat (IntKind.bits .u64)))))),(IntKind.wrap .u64 (a*b)))
def Q1T(b c:Int):=
 (Q0J F (IntKind.wrap .u64 b) (IntKind.wrap .u64 c)).bind λa=>some (⟨a.1,a.2⟩:Wide)
def Q0K(F:Nat)(b c a:Int):=
 br (a==0) (none) (br (decide (a<=b)) (none) (br (b==0) (gd (a≠0)<|gd (a≠0)<|some ((IntKind.wrap .u64 (c.tdiv a)),(c.tmod a))) (none)))
def Q1U(d e c:Int):=
 (Q1T F d e).bind λb=>br (decide ((IntKind.wrap .u64 c)<=b.H_)) (some ((1125899906842625:Int),(0:Int))) ((Q0K F b.H_ b.w_ (IntKind.wrap .u64 c)).bind λa=>gd (Q5 (y6 a.1 (1125899906842625:Int)))<|gd (Q5 a.2)<|some ((y6 a.1 (1125899906842625:Int)),a.2))
def Hb(a b:Int)(c:List Int):=
 gd (0<=b/\b<(c.length:Int))<|gd (0<=a/\a<(c.length:Int))<|(YB F (gl c b.toNat) (gl c a.toNat)).bind λd=>(YB F a b).bind λe=>(XZ F ([d,e]:List Int)).bind λi=>some i
def Q1V(F:Nat)(a:List Int):=
 some (a,(0:Int))
def Z3k(b:Int)(c:List Int)(e:(Int×(List Int))->Option ((List Int)×Int))(a:Int)(d:List Int):=
 br (decide (a<(((b).toNat:Nat):Int))) (gd (0<=a/\a<((List.length (c.take (b).toNat):Nat):Int))<|gd (0<=(gl (c.take (b).toNat) a.toNat)/\(gl (c.take (b).toNat) a.toNat)<(d.length:Int))<|gd (Q5 ((gl d (gl (c.take (b).toNat) a.toNat).toNat)+1))<|gd (0<=(gl (c.take (b).toNat) a.toNat)/\(gl (c.take (b).toNat) a.toNat)<(d.length:Int))<|gd (Q5 (a+1))<|e ((a+1),(List.set d (gl (c.take (b).toNat) a.toNat).toNat ((gl d (gl (c.take (b).toNat) a.toNat).toNat)+1)))) (Q1V F d)
def CK(a:Int)(c d e:List Int):=
 (Jc d (λy0 y1=>Hb F y0 y1 e)).bind λb=>gd (0<=a/\a<=(b.length:Int))<|Y3 (λg (z:Int×(List Int))=>Z3k F a b g z.1 z.2) F ((0:Int),c)
def Z3l(m:Int)(j:List Int)(l:Int)(k:(Int×Int×(List Int)×(List Int)×(List Int))->Option ((List Int)×Int))(d a:Int)(b e i:List Int):=
 br (decide (a<(j.length:Int))) (gd (0<=a/\a<(j.length:Int))<|(Q1U F m (gl j a.toNat) l).bind λc=>gd (0<=a/\a<(b.length:Int))<|gd (0<=a/\a<(i.length:Int))<|gd (0<=a/\a<(e.length:Int))<|gd (0<=a/\a<((List.length (List.set b a.toNat c.1):Nat):Int))<|gd (Q5 (d-(gl (List.set b a.toNat c.1) a.toNat)))<|gd (Q5 (a+1))<|k ((d-(gl (List.set b a.toNat c.1) a.toNat)),(a+1),(List.set b a.toNat c.1),(List.set e a.toNat a),(List.set i a.toNat c.2))) (CK F d b e i)
def Q1W(c:Int)(a:List Int)(b:Int):=
 gd (0<=(a.length:Int)/\(a.length:Int)<=((Y6:Nat):Int))<|br (b==0) (some ((List.replicate ((a.length:Int)).toNat (0:Int)),(0:Int))) (gd (0<=(a.length:Int)/\(a.length:Int)<=((Y6:Nat):Int))<|gd (0<=(a.length:Int)/\(a.length:Int)<=((Y6:Nat):Int))<|Y3 (λg (z:Int×Int×(List Int)×(List Int)×(List Int))=>Z3l F c a b g z.1 z.2.1 z.2.2.1 z.2.2.2.1 z.2.2.2.2) F (c,(0:Int),(List.replicate ((a.length:Int)).toNat (0:Int)),(List.replicate ((a.length:Int)).toNat (0:Int)),(List.replicate ((a.length:Int)).toNat (0:Int))))
def Z3m(e:Int)(b:List Int)(d:(Int×Int)->Option ((List Int)×Int))(c a:Int):=
 br (decide (a<(b.length:Int))) (gd (0<=a/\a<(b.length:Int))<|gd (Q5 (c+(gl b a.toNat)))<|gd (Q5 (a+1))<|d ((c+(gl b a.toNat)),(a+1))) (Q1W F e b c)
def xc(b:Int)(c:List Int)(a:Bool):=
 br a (some ([],(2:Int))) (Y3 (λg (z:Int×Int)=>Z3m F b c g z.1 z.2) F ((0:Int),(0:Int)))
def CL(b:Int)(a:List Int):=
 br (decide (64<(a.length:Int))) (some ([],(1:Int))) ((xb F b).bind λc=>br (!c) (xc F b a true) ((ZN F a (λy0=>Q1X F y0)).bind λd=>xc F b a d))
def WO(F:Nat)(a:Bool):=
 some a
def Mg:=
 (Bk F ([(⟨0,0,(10:Int),(10:Int)⟩:Rect)]:List Rect)).bind λc=>(Dy F c.1).bind λa=>(Bq F c.1).bind λi=>(Rv F (⟨0,(ByteArray.mk #[115]),(⟨(1:Int),0,0,[]⟩:Term),([(⟨(1000:Int),(200:Int)⟩:Bracket)]:List Bracket),0,0,false⟩:Scheme) i).bind λd=>(Ps F (ByteArray.mk #[97,32,98,10])).bind λe=>(CL F (3:Int) ([(1:Int),(2:Int)]:List Int)).bind λb=>br (c.2==(0:Int)) (br (a.2==(0:Int)) (br ((a.1.length:Int)==1) (gd (0<=(0:Int)/\0<(a.1.length:Int))<|br (((List.length (gl a.1 (0:Int).toNat):Nat):Int)==(4:Int)) (br (d.2==(0:Int)) (br (d.1==(200:Int)) (br (e.2==(0:Int)) (br ((e.1.length:Int)==1) (br (b.2==(0:Int)) (br ((b.1.length:Int)==2) (gd (0<=(1:Int)/\1<(b.1.length:Int))<|WO F ((gl b.1 (1:Int).toNat)==2)) (WO F false)) (WO F false)) (WO F false)) (WO F false)) (WO F false)) (WO F false)) (WO F false)) (WO F false)) (WO F false)) (WO F false)
def Gz(F:Nat)(a:Int)(b:(Int)->Option Bool):=
 gd (Q5 (a+1))<|b (a+1)
def JU(b:Int)(a:(Int)->Option Bool)(c:Bool):=
 br c (some false) (Gz F b a)
def Lq:=
 (Mg F).bind λa=>some a
def PA(c:Int)(j:Tape×(List Scheme))(d:Tape×Entitlements×(List Act))(e:(List Int)×Int)(b:(Int)->Option Bool)(a:Int):=
 br (decide (a<(j.2.length:Int))) (gd (0<=a/\a<(j.2.length:Int))<|br (!((gl j.2 a.toNat).needs_)) (Gz F a b) ((JJ F d.2.1 ((1:Int)+(c.tmod (4:Int)))).bind λi=>gd (0<=a/\a<(e.1.length:Int))<|br ((y6 (gl e.1 a.toNat) i.2)==0) (Gz F a b) ((Fd F d.2.1 ((1:Int)+(c.tmod (4:Int))) (y6 (gl e.1 a.toNat) i.2)).bind λl=>gd (Q5 ((60:Int)+a))<|(Ff F d.2.1 (⟨(6:Int),((1:Int)+(c.tmod (4:Int))),0,0,(y6 (gl e.1 a.toNat) i.2),0,0,((60:Int)+a)⟩:Act)).bind λk=>(JJ F k.1 ((1:Int)+(c.tmod (4:Int)))).bind λm=>br (l.2 != (0:Int)) (JU F a b true) (br (k.2 != (0:Int)) (JU F a b true) (br (decide (l.1<(0:Int))) (JU F a b true) (br (m.2 != i.2) (JU F a b true) ((Hm F k.1).bind λn=>(Hm F d.2.1).bind λo=>JU F a b (n != o)))))))) (Lq F)
def Pz(b:Int)(c:Tape×(List Scheme))(d:Tape×Entitlements×(List Act))(e:(List Int)×Int)(a:Bool):=
 br a (some false) (Y3 (λg (z:Int)=>PA F b c d e g z) F (0:Int))
def Mh(i:List Int)(c:Int):=
 (Cb F i).bind λj=>(Py F j).bind λa=>(TN F a.1 (2:Int)).bind λb=>(TW F b.1 (3:Int)).bind λe=>gd (Q5 c)<|gd ((4:Int)≠0)<|gd (Q5 ((1:Int)+(c.tmod (4:Int))))<|gd (0<=(0:Int)/\0<(a.2.2.1.length:Int))<|gd (0<=(0:Int)/\0<(a.2.2.1.length:Int))<|(Ca F ((gl a.2.2.1 (0:Int).toNat).lines_) a.2.2.2).bind λk=>(Tz F e.1 a.2.1).bind λl=>(Fs F ((gl a.2.2.1 (0:Int).toNat).lines_) k b.2 l.2).bind λd=>br (d.2 != (0:Int)) (Pz F c b e d true) (Pz F c b e d ((d.1.length:Int) != (b.2.length:Int)))
end
end Go.Ab
end
section
end
section
end
section
end
section
end
section
end
section
namespace Go.Ab
def Q7:Nat:=1099511627776
theorem Q9{R:Type}{p:Prop}[Decidable p]{x:Option R}{y:Option R}(h:p)(k:x=y):gd p x=y:=by unfold gd;rw[Qa2 h];exact k
theorem Q4{α R:Type}{x:Option α}{f:α->Option R}{a:α}{y:Option R}(h:x=some a)(k:f a=y):x.bind f=y:=by rw[h];exact k
theorem Z9{R:Type}{b:Bool}{x y z:Option R}(ht:b=true->x=z)(hf:b=false->y=z):br b x y=z:=by cases b;exact hf rfl;exact ht rfl
theorem U3{R:Type}{b:Bool}{x y z:Option R}(h:b=true)(k:x=z):br b x y=z:=by subst h;exact k
theorem Z8{R:Type}{b:Bool}{x y z:Option R}(h:b=false)(k:y=z):br b x y=z:=by subst h;exact k
theorem Q3d{R:Type}(b:Bool)(x y:Option R):br b x y=if b=true then x else y:=by cases b<;>rfl
theorem Qa{σ R:Type}{body:(σ->Option R)->σ->Option R}{y:Option R}(I:σ->Prop)(μ:σ->Nat)(round:∀g z,I z->(∀z',I z' -> μ z' < μ z->g z'=y)->body g z=y):∀{n:Nat} {z:σ},I z->μ z<n->Y3 body n z=y:=by
 intro n
 induction n with
 |zero=>intro z _ h;omega
 |succ n ih=>
  intro z hz hμ;exact round (Y3 body n) z hz λz' hz' hlt=>ih hz' (by omega)
section
variable {α:Type} [Emb α]
theorem y7{l:List α}{i:Nat}(h:i<l.length):gl l i=l[i]:=by simp[gl,Qa0,h]
theorem J9{l:List α}{i:Nat}(h:i<l.length):gl l i∈l:=by rw[y7 h];exact Qf6 h
theorem Yc{l:List α}{i:Nat}(h:i<l.length):l.drop i=gl l i::l.drop (i+1):=by rw[y7 h];exact Qk1 h
theorem QB{l:List α}{i:Nat}(h:i<l.length):l.take (i+1)=l.take i++[gl l i]:=by rw[y7 h];exact Qq4 h
end
theorem Y8{n:Int}(h1 : -4611686018427387904<=n)(h2:n<=4611686018427387904):Q5 n:=⟨by omega,by omega⟩
theorem Q0k{α R:Type}[Emb α]{l:List α}{body:(Int->Option R)->Int->Option R}(y:List α->Option R)(step:∀g (i:Nat),i<l.length->g ((i:Int)+1)=y (l.drop (i+1))->body g (i:Int)=y (gl l i::l.drop (i+1)))(stop:∀g,body g (l.length:Int)=y []){F:Nat}(hF:l.length<F):Y3 body F 0=y l:=by
 have key:∀(n:Nat) (i:Nat),i<=l.length->l.length-i<n->Y3 body n (i:Int)=y (l.drop i):=by
  intro n
  induction n with
  |zero=>intro i _ h;omega
  |succ n ih=>
   intro i hi hn;show body (Y3 body n) (i:Int)=_
   by_cases h:i<l.length
   .rw [Yc h]
    refine step _ i h ?_;have:=ih (i+1) h (by omega)
    rw[<-this];congr 1
   .have:i=l.length:=by omega
    subst this;rw[Qk9];exact stop _
 have:=key F 0 (Qc2 _) (by omega)
 rw[Qj9]at this;exact this
theorem KJ{α σ R:Type}[Emb α]{l:List α}{body:(Int×σ->Option R)->Int×σ->Option R}(I:List α->σ->Prop)(y:List α->σ->Option R)(step:∀g (i:Nat) (s:σ),i<l.length->I (gl l i::l.drop (i+1)) s->(∀s',I (l.drop (i+1)) s' -> g ((i:Int)+1,s')=y (l.drop (i+1)) s')->body g ((i:Int),s)=y (gl l i::l.drop (i+1)) s)(stop:∀g (s:σ),I [] s->body g ((l.length:Int),s)=y [] s){F:Nat}(hF:l.length<F){s0:σ}(h0:I l s0):Y3 body F (0,s0)=y l s0:=by
 have key:∀(n:Nat) (i:Nat) (s:σ),i<=l.length->l.length-i<n->I (l.drop i) s->Y3 body n ((i:Int),s)=y (l.drop i) s:=by
  intro n
  induction n with
  |zero=>intro i _ _ h;omega
  |succ n ih=>
   intro i s hi hn hI;show body (Y3 body n) ((i:Int),s)=_
   by_cases h:i<l.length
   .rw [Yc h]at hI⊢
    refine step _ i s h hI λs' hs'=>?_
    have:=ih (i+1) s' h (by omega) hs'
    rw[<-this];congr 1
   .have:i=l.length:=by omega
    subst this;rw[Qk9]at hI⊢;exact stop _ s hI
 have:=key F 0 s0 (Qc2 _) (by omega) (by rwa [Qj9])
 rw[Qj9]at this;exact this
theorem Ys{R:Type}(K:Bool->Option R)(b x:Bool):br b (K x) (K false)=K (b&&x):=by cases b<;>rfl
theorem Yg{R:Type}(K:Bool->Option R)(b x:Bool):br b (K true) (K x)=K (b||x):=by cases b<;>rfl
theorem xV{α:Type}[Emb α]{l:List α}{i:Nat}(h:i<l.length)(p:α->Bool):(l.drop i).any p=(p (gl l i)||(l.drop (i+1)).any p):=by rw[Yc h];rfl
theorem WX{a b:Nat}(h:a<b):decide ((a:Int)<((b:Nat):Int))=true:=by simpa using h
theorem VV(a:Nat):decide ((a:Int)<((a:Nat):Int))=false:=by simp
theorem Z4{R:Type}{p:Prop}[Decidable p]{x:Option R}{y:Option R}(h:p:=by first|omega|exact Y8 (by omega) (by omega)|(simp only[Y6,Q7,Qb5,Qb0,Qb6,Qg1,Qd1,Qk8,Qh1]at *;omega))(k:x=y):gd p x=y:=Q9 h k
end Go.Ab
end
section
namespace Go.Ab
def Yd(l:List Int):Prop:=l.Pairwise (· < ·)
theorem Yd.at_lt{l:List Int}(h:Yd l){i j:Nat}(hij:i<j)(hj:j<l.length):gl l i<gl l j:=by
 rw[y7 (by omega),y7 hj];exact Qd6.1 h i j (by omega) hj hij
theorem yB{l:List Int}{v:Int}(h:v∈l):∃j,j<l.length/\gl l j=v:=by
 obtain⟨j,hj,e⟩:=Qc3 h;exact⟨j,hj,by rw[y7 hj];exact e⟩
theorem Yd.gap{c:List Int}(h:Yd c){i:Nat}(hi:i+1<c.length){t v:Int}(h1:gl c i<=t)(h2:t<gl c (i+1))(hv:v∈c):(v<=t↔v<=gl c i):=by
 obtain⟨j,hj,rfl⟩:=yB hv;rcases Qc8 i j with hij|hij
 .rcases Qc8 (i+1) j with h3|h3
  .have:=h.at_lt h3 hj
   have:=h.at_lt (show i<i+1 by omega) hi
   omega
  .have:j=i+1:=by omega
   subst this;have:=h.at_lt (show i<i+1 by omega) hi
   omega
 .rcases Qc8 j i with h3|h3
  .have:=h.at_lt h3 (by omega)
   omega
  .have:j=i:=by omega
   subst this;omega
def JS(c:List Int)(l:List Rect):Prop:=∀r∈l,r.L_∈c/\r.R_∈c
def UR(c:List Int)(l:List Rect):Prop:=∀r∈l,r.w_∈c/\r.H_∈c
theorem Q1i{l:List Rect}{x y x' y' : Int}(h:∀r∈l,r.has x y=r.has x' y'):Q8 l x y=Q8 l x' y':=by
 induction l with
 |nil=>rfl
 |cons r l ih=>
  simp only[Q8,Qk5]at ih⊢;rw[h r (by simp),ih λq hq=>h q (by simp[hq])]
theorem Cg{l:List Rect}{x y:Int}(h:∀r∈l,r.has x y=false):Q8 l x y=false:=by
 induction l with
 |nil=>rfl
 |cons r l ih=>
  simp only[Q8,Qk5]at ih⊢;rw[h r (by simp),ih λq hq=>h q (by simp[hq])];rfl
theorem ZZ(r:Rect)(x y:Int):r.has x y=true↔r.L_<=x/\x<r.R_/\r.w_<=y/\y<r.H_:=by simp[Rect.has,and_assoc]
theorem Q1n{r:Rect}{x y x' y' : Int}(h:(r.L_<=x/\x<r.R_/\r.w_<=y/\y<r.H_)↔(r.L_<=x' /\ x' < r.R_/\r.w_<=y' /\ y' < r.H_)):r.has x y=r.has x' y':=by
 rw[Qd0,ZZ,ZZ];exact h
theorem DQ{r:Rect}{x y:Int}(h:¬(r.L_<=x/\x<r.R_/\r.w_<=y/\y<r.H_)):r.has x y=false:=by
 rw[<-Qf7,ZZ];exact h
theorem JS.gap{c:List Int}{l:List Rect}(hc:Yd c)(h:JS c l){i:Nat}(hi:i+1<c.length){t:Int}(h1:gl c i<=t)(h2:t<gl c (i+1))(y:Int):Q8 l t y=Q8 l (gl c i) y:=
 Q1i λr hr=>Q1n (by
  have a:=hc.gap hi h1 h2 (h r hr).1;have b:=hc.gap hi h1 h2 (h r hr).2
  omega)
theorem UR.gap{c:List Int}{l:List Rect}(hc:Yd c)(h:UR c l){i:Nat}(hi:i+1<c.length){t:Int}(h1:gl c i<=t)(h2:t<gl c (i+1))(x:Int):Q8 l x t=Q8 l x (gl c i):=
 Q1i λr hr=>Q1n (by
  have a:=hc.gap hi h1 h2 (h r hr).1;have b:=hc.gap hi h1 h2 (h r hr).2
  omega)
theorem JS.before{c:List Int}{l:List Rect}(h:JS c l){t:Int}(ht:∀v∈c,t<v)(y:Int):Q8 l t y=false:=
 Cg λr hr=>DQ (by have:=ht _ (h r hr).1;omega)
theorem JS.after{c:List Int}{l:List Rect}(h:JS c l){t:Int}(ht:∀v∈c,v<=t)(y:Int):Q8 l t y=false:=
 Cg λr hr=>DQ (by have:=ht _ (h r hr).2;omega)
theorem UR.before{c:List Int}{l:List Rect}(h:UR c l){t:Int}(ht:∀v∈c,t<v)(x:Int):Q8 l x t=false:=
 Cg λr hr=>DQ (by have:=ht _ (h r hr).1;omega)
theorem UR.after{c:List Int}{l:List Rect}(h:UR c l){t:Int}(ht:∀v∈c,v<=t)(x:Int):Q8 l x t=false:=
 Cg λr hr=>DQ (by have:=ht _ (h r hr).2;omega)
theorem Yd.first{c:List Int}(h:Yd c){t:Int}(ht:t<gl c 0):∀v∈c,t<v:=by
 intro v hv;obtain⟨j,hj,rfl⟩:=yB hv
 rcases Qj8 j with rfl|hp
 .exact ht
 .have:=h.at_lt hp hj;omega
theorem Yd.last{c:List Int}(h:Yd c){t:Int}{i:Nat}(hi:i+1=c.length)(ht:gl c i<=t):∀v∈c,v<=t:=by
 intro v hv;obtain⟨j,hj,rfl⟩:=yB hv
 rcases Qc8 j i with h1|h1
 .have:=h.at_lt h1 (by omega);omega
 .have:j=i:=by omega
  subst this;exact ht
structure Step {α:Type} (d:α) (c:List Int) (f:Int->α):Prop where
 asc:Yd c
 gap:∀i,i+1<c.length->∀t,gl c i<=t->t<gl c (i+1)->f t=f (gl c i)
 before:∀t,(∀v∈c,t<v)->f t=d
 after:∀t,(∀v∈c,v<=t)->f t=d
theorem Step.start{α:Type}{d:α}{c:List Int}{f:Int->α}(h:Step d c f)(_:0<c.length):Bst d f [] (gl c 0):=.start λt ht=>h.before t (h.asc.first ht)
theorem Step.empty{α:Type}{d:α}{c:List Int}{f:Int->α}(h:Step d c f)(hc:c.length=0)(t:Int):f t=d:=h.before t λv hv=>by
 rw[Qd9 hc]at hv;cases hv
theorem Step.done{α:Type}{d:α}{c:List Int}{f:Int->α}(h:Step d c f){i:Nat}(hi:i+1=c.length){acc:List (Rn α)}(hb:Bst d f acc (gl c i))(t:Int):G9 d acc t=f t:=by
 rcases Int.lt_or_le t (gl c i)with h1|h1
 .exact hb.val t h1
 .rw [hb.out t h1,h.after t (h.asc.last hi h1)]
open Classical in
noncomputable def QR(f:Int->Bool):List Span:=if h:∃l,SpOk l/\∀x,K8 l x=f x then h.choose else[]
theorem Ka{f:Int->Bool}{l:List Span}(hl:SpOk l)(h:∀x,K8 l x=f x):QR f=l:=by
 have he:∃l,SpOk l/\∀x,K8 l x=f x:=⟨l,hl,h⟩;unfold QR
 rw[Qt9 he];exact he.choose_spec.1.unique hl λx=>(he.choose_spec.2 x).trans (h x).symm
theorem SpOk.nil:SpOk []:=⟨λs hs=>(Qg0 hs).elim,List.Pairwise.nil⟩
theorem MI{f:Int->Bool}(h:∀x,f x=false):QR f=[]:=Ka .nil λx=>(h x).symm
def HM(S:Int->Int->Bool):Prop:=∀y,∃l,SpOk l/\∀x,K8 l x=S x y
theorem HM.sp{S:Int->Int->Bool}(h:HM S)(y:Int):SpOk (QR λx=>S x y)/\∀x,K8 (QR λx=>S x y) x=S x y:=by
 obtain⟨l,h1,h2⟩:=h y;rw[Ka h1 h2];exact⟨h1,h2⟩
theorem HJ{S:Int->Int->Bool}(hr:HM S){c:List Int}(h:Step [] c λy=>QR λx=>S x y){acc:List (Rn (List Span))}(hacc:Runs acc)(hval:∀t,G9 [] acc t=QR λx=>S x t)(hne:∀b∈acc,b.v≠[]):cn S=flat acc/\Fin S:=by
 have hv:∀b∈acc,b.v=QR λx=>S x b.lo:=by
  intro b hb;have hat:∀(l:List (Rn (List Span))),Runs l->b∈l->G9 [] l b.lo=b.v:=by
   intro l
   induction l with
   |nil=>intro _ hb;cases hb
   |cons a l ih=>
    intro hl hb;rcases Qe1.1 hb with rfl|hb
    .have:=hl.pos b (by simp)
     rw[G9,Qa2 ⟨by omega,this⟩]
    .have h1:=(hl.head b hb).1
     rw[G9,Qa1 (by omega)];exact ih hl.tail hb
  rw[<-hval,hat acc hacc hb]
 have hB:Bands acc:=⟨hacc,λb hb=>by rw[hv b hb];exact(hr.sp _).1,hne⟩;have hS:∀x y,K8 (G9 [] acc y) x=S x y:=λx y=>by rw[hval];exact(hr.sp y).2 x
 exact⟨XX hB hS,acc,hB,hS⟩
structure Grid (xs ys:List Int) (S:Int->Int->Bool):Prop where
 x:∀y,Step false xs λx=>S x y
 y:∀x,Step false ys λy=>S x y
theorem Step.spansL{xs:List Int}{f:Int->Bool}(h:Step false xs f):∃l,SpOk l/\(∀x,K8 l x=f x)/\l.length<=xs.length:=by
 by_cases h0:xs.length=0
 .exact ⟨[],.nil,λx=>(h.empty h0 x).symm,by simp⟩
 .have key:∀ i,i+1<=xs.length->∃ l:List Span,Bst false f (l.map Span.rn) (gl xs i)/\l.length<=i:=by
   intro i
   induction i with
   |zero=>intro hi;exact⟨[],h.start (by omega),by simp⟩
   |succ i ih=>
    intro hi;obtain⟨l,hl,hll⟩:=ih (by omega)
    have hlt:=h.asc.at_lt (show i<i+1 by omega) (by omega)
    cases hf:f (gl xs i)with
    |false=>exact⟨l,hl.skip (by omega) λt h1 h2=>(h.gap i (by omega) t h1 h2).trans hf,by omega⟩
    |true=>
     rcases Qj2 l with rfl|⟨l',s,hls⟩
     .refine ⟨[⟨gl xs i,gl xs (i+1)⟩],?_,by simp⟩
      have:=hl.add hlt (h.gap i (by omega)) (λa ha=>by simp at ha)
      rw[hf]at this;exact this
     .rw [Qj3]at hls
      subst hls
      by_cases hs:s.R_=gl xs i
      .refine ⟨l' ++ [⟨s.L_,gl xs (i+1)⟩],?_,by simp at hll⊢;omega⟩
       rw[Qe0]at hl;have:=hl.grow (a:=s.rn) hs hlt λt h1 h2=>(h.gap i (by omega) t h1 h2).trans hf
       rw[Qe0];exact this
      .refine ⟨(l' ++ [s])++[⟨gl xs i,gl xs (i+1)⟩],?_,by simp at hll⊢;omega⟩
       have:=hl.add hlt (h.gap i (by omega)) (λa ha he=>by
        rw[Qe0]at ha;simp at ha
        subst ha;exact absurd he hs)
       rw[hf]at this;rw[Qe0];exact this
  obtain⟨l,hl,hll⟩:=key (xs.length-1) (by omega);refine⟨l,.of_runs hl.runs,λx=>?_,by omega⟩
  rw[DJ];exact h.done (by omega) hl x
theorem Step.spans{xs:List Int}{f:Int->Bool}(h:Step false xs f):∃l,SpOk l/\∀x,K8 l x=f x:=by
 obtain⟨l,h1,h2,_⟩:=h.spansL;exact⟨l,h1,h2⟩
theorem Step.spn_len{xs:List Int}{f:Int->Bool}(h:Step false xs f):(QR f).length<=xs.length:=by
 obtain⟨l,h1,h2,h3⟩:=h.spansL;rw[Ka h1 h2];exact h3
theorem Grid.rows{xs ys:List Int}{S:Int->Int->Bool}(h:Grid xs ys S):HM S:=λy=>(h.x y).spans
theorem Grid.step{xs ys:List Int}{S:Int->Int->Bool}(h:Grid xs ys S):Step [] ys λy=>QR λx=>S x y:=by
 refine⟨(h.y 0).asc,λi hi t h1 h2=>?_,λt ht=>?_,λt ht=>?_⟩
 .congr 1;funext x;exact(h.y x).gap i hi t h1 h2
 .exact MI λx=>(h.y x).before t ht
 .exact MI λx=>(h.y x).after t ht
theorem Grid.of{xs ys:List Int}{a b:List Rect}(hx:Yd xs)(hy:Yd ys)(ax:JS xs a)(bx:JS xs b)(ay:UR ys a)(by' : UR ys b){k:Bool->Bool->Bool}(hk:k false false=false):
  Grid xs ys λx y=>k (Q8 a x y) (Q8 b x y):=by
 refine⟨λy=>⟨hx,λi hi t h1 h2=>?_,λt ht=>?_,λt ht=>?_⟩,λx=>⟨hy,λi hi t h1 h2=>?_,λt ht=>?_,λt ht=>?_⟩⟩
 .simp only[ax.gap hx hi h1 h2,bx.gap hx hi h1 h2]
 .simp only[ax.before ht,bx.before ht,hk]
 .simp only[ax.after ht,bx.after ht,hk]
 .simp only[ay.gap hy hi h1 h2,by'.gap hy hi h1 h2]
 .simp only[ay.before ht,by'.before ht,hk]
 .simp only[ay.after ht,by'.after ht,hk]
end Go.Ab
end
