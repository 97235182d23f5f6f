/- The code that the statement reaches as plain programs, and what they compute. -/
import Derived.Test.YtngflklgdflcdaaGreatDoorAbC
set_option maxRecDepth 100000
set_option linter.all false
noncomputable section
namespace Go.Ab
variable {i:Nat}
section
structure aB where
 n_:ByteArray
 f_:Int
 m_:Int
 deriving DecidableEq
abbrev Φ:=List aB
instance:aN aB:=⟨λx=>[.str x.n_,.int .i64 x.f_,.int .i64 x.m_],3,⟨ByteArray.empty,0,0⟩,λ_=>rfl⟩
instance:aN aa:=⟨λx=>[.int .i64 x.L_,.int .i64 x.w_,.int .i64 x.R_,.int .i64 x.H_],4,⟨0,0,0,0⟩,λ_=>rfl⟩
structure aE where
 t_:(ζ)
 deriving DecidableEq
abbrev Ω:=List aE
instance:aN aE:=⟨λx=>[DL x.t_],1,⟨[]⟩,λ_=>rfl⟩
structure aO where
 p_:Int
 g_:aE
 c_:Int
 s_:Int
 deriving DecidableEq
instance:aN aO:=⟨λx=>[.int .i64 x.p_,DL x.g_.t_,.int .i64 x.c_,.int .i64 x.s_],4,⟨0,⟨[]⟩,0,0⟩,λ_=>rfl⟩
structure aW where
 dt:Int
 eL:(List aO)
 deriving DecidableEq
instance:aN aW:=⟨λx=>[.int .i64 x.dt,DL x.eL],2,⟨0,[]⟩,λ_=>rfl⟩
structure aj where
 aw:Int
 ao:Int
 ak:Int
 ae:(List aj)
variable {x:aj}
def aj.d0(x:aj):aH:=if x.aw=(2 ^ 64)then .any else .int .i64 x.aw
def aj.d1(x:aj):aH:=if x.aw=(2 ^ 64)then .any else .int .i64 x.ao
def aj.d2(x:aj):aH:=if x.aw=(2 ^ 64)then .any else .int .i64 x.ak
def aj.d3:aj->aH
 |⟨a0,a1,a2,a3⟩=>if a0=(2 ^ 64)then .any else .lst a3.length (λi=>if h:i<a3.length then[aj.d0 a3[i],aj.d1 a3[i],aj.d2 a3[i],aj.d3 a3[i]]else[.any,.any,.any,.any])
decreasing_by
 have:=List.sizeOf_lt_of_mem (fp h)
 simp only[aj.mk.sizeOf_spec];omega
instance:aN aj:=⟨λx=>[x.d0,x.d1,x.d2,x.d3],4,⟨(2 ^ 64),0,0,[]⟩,λ_=>rfl⟩
theorem KY(h:Q7 x.aw):aN.cells x=[.int .i64 x.aw,.int .i64 x.ao,.int .i64 x.ak,DL x.ae]:=by
 obtain⟨a0,a1,a2,a3⟩:=x;show[aj.d0 _,aj.d1 _,aj.d2 _,aj.d3 _]=_
 have h:Q7 a0:=h;have hm:¬a0=(2 ^ 64):=λe=>by subst e;revert h;decide
 have hl:∀l:List aj,(.lst l.length (λi=>if h:i<l.length then[aj.d0 l[i],aj.d1 l[i],aj.d2 l[i],aj.d3 l[i]]else[.any,.any,.any,.any]):aH)=DL l:=by
  intro l;unfold DL
  congr 1
  funext i
  unfold LF
  by_cases hi:i<l.length
  .rw [lf hi,aY,eG hi];rfl
  .rw [dif_neg hi,aY,iO (by omega)];show _=[aj.d0 ⟨(2 ^ 64),0,0,[]⟩,aj.d1 ⟨(2 ^ 64),0,0,[]⟩,aj.d2 ⟨(2 ^ 64),0,0,[]⟩,aj.d3 ⟨(2 ^ 64),0,0,[]⟩];unfold aj.d3;rfl
 have hk:aj.d3 ⟨a0,a1,a2,a3⟩=DL a3:=by
  unfold aj.d3;rw[an hm,hl]
 rw[hk];simp only[aj.d0,aj.d1,aj.d2,an hm]
theorem aj.elm{l:List aj}(h:Q7 (gl l i).aw):ai.v (.c (.elm (LF l i)))=.v (.c (.elm [.int .i64 (gl l i).aw,.int .i64 (gl l i).ao,.int .i64 (gl l i).ak,DL (gl l i).ae])):=by
 have:=KY h
 unfold LF;unfold gl at this⊢
 rw[this]
structure aG where
 dX:Int
 de:Int
 deriving DecidableEq
instance:aN aG:=⟨λx=>[.int .i64 x.dX,.int .i64 x.de],2,⟨0,0⟩,λ_=>rfl⟩
structure af where
 N_:Int
 n_:ByteArray
 az:aj
 ab:(List aG)
 aL:Int
 ah:Int
 aR:Bool
abbrev χ:=List af
instance:aN af:=⟨λx=>[.int .i64 x.N_,.str x.n_,.int .i64 x.az.aw,.int .i64 x.az.ao,.int .i64 x.az.ak,DL x.az.ae,DL x.ab,.int .i64 x.aL,.int .i64 x.ah,.bool x.aR],10,⟨0,ByteArray.empty,(aN.d:aj),[],0,0,false⟩,λ_=>rfl⟩
structure aC where
 al:Int
 c_:Int
 g_:aE
 deriving DecidableEq
abbrev ν:=List aC
instance:aN aC:=⟨λx=>[.int .i64 x.al,.int .i64 x.c_,DL x.g_.t_],3,⟨0,0,⟨[]⟩⟩,λ_=>rfl⟩
structure aP where
 N_:Int
 k_:Int
 F_:Int
 u_:Int
 g_:aE
 deriving DecidableEq
abbrev ω:=List aP
instance:aN aP:=⟨λx=>[.int .i64 x.N_,.int .i64 x.k_,.int .i64 x.F_,.int .i64 x.u_,DL x.g_.t_],5,⟨0,0,0,0,⟨[]⟩⟩,λ_=>rfl⟩
structure W_ where
 al:Int
 aF:(Φ)
 aI:(ν)
 aS:(ω)
 dt:Int
 eD:Int
 deriving DecidableEq
instance:aN W_:=⟨λx=>[.int .i64 x.al,DL x.aF,DL x.aI,DL x.aS,.int .i64 x.dt,.int .i64 x.eD],6,⟨0,[],[],[],0,0⟩,λ_=>rfl⟩
structure aD where
 l_:(θ)
 aT:Int
 deriving DecidableEq
instance:aN aD:=⟨λx=>[DL x.l_,.int .i64 x.aT],2,⟨[],0⟩,λ_=>rfl⟩
structure dn where
 oP:(ζ)
 Ee:(ζ)
 Ef:(ζ)
 deriving DecidableEq
instance:aN dn:=⟨λx=>[DL x.oP,DL x.Ee,DL x.Ef],3,⟨[],[],[]⟩,λ_=>rfl⟩
structure Point where
 x_:Int
 y_:Int
 deriving DecidableEq
instance:aN Point:=⟨λx=>[.int .i64 x.x_,.int .i64 x.y_],2,⟨0,0⟩,λ_=>rfl⟩
structure dM where
 eU:aE
 eM:aE
 dN:aE
 deriving DecidableEq
instance:aN dM:=⟨λx=>[DL x.eU.t_,DL x.eM.t_,DL x.dN.t_],3,⟨⟨[]⟩,⟨[]⟩,⟨[]⟩⟩,λ_=>rfl⟩
structure Edge where
 F_:Point
 iJ:Point
 deriving DecidableEq
instance:aN Edge:=⟨λx=>[.int .i64 x.F_.x_,.int .i64 x.F_.y_,.int .i64 x.iJ.x_,.int .i64 x.iJ.y_],4,⟨⟨0,0⟩,⟨0,0⟩⟩,λ_=>rfl⟩
instance:aN aq:=⟨λx=>[.int .i64 x.L_,.int .i64 x.R_],2,⟨0,0⟩,λ_=>rfl⟩
structure l4 where
 H_:Int
 w_:Int
 deriving DecidableEq
instance:aN l4:=⟨λx=>[.int .u64 x.H_,.int .u64 x.w_],2,⟨0,0⟩,λ_=>rfl⟩
structure ar where
 dq:(ε)
 eA:Bool
 deriving DecidableEq
instance:aN ar:=⟨λx=>[DL x.dq,.bool x.eA],2,⟨[],false⟩,λ_=>rfl⟩
structure eO where
 al:Int
 aF:(Φ)
 aI:(ν)
 aS:(ω)
 dt:Int
 deriving DecidableEq
instance:aN eO:=⟨λx=>[.int .i64 x.al,DL x.aF,DL x.aI,DL x.aS,.int .i64 x.dt],5,⟨0,[],[],[],0⟩,λ_=>rfl⟩
structure aU where
 au:eO
 aV:aO
 t_:(ζ)
 deriving DecidableEq
instance:aN aU:=⟨λx=>[.int .i64 x.au.al,DL x.au.aF,DL x.au.aI,DL x.au.aS,.int .i64 x.au.dt,.int .i64 x.aV.p_,DL x.aV.g_.t_,.int .i64 x.aV.c_,.int .i64 x.aV.s_,DL x.t_],10,⟨⟨0,[],[],[],0⟩,⟨0,⟨[]⟩,0,0⟩,[]⟩,λ_=>rfl⟩
structure aJ where
 fM:(ζ)
 iZ:(ζ)
 fd:(ζ)
 deriving DecidableEq
instance:aN aJ:=⟨λx=>[DL x.fM,DL x.iZ,DL x.fd],3,⟨[],[],[]⟩,λ_=>rfl⟩
structure dp where
 w_:Int
 H_:Int
 cx:(ψ)
 deriving DecidableEq
instance:aN dp:=⟨λx=>[.int .i64 x.w_,.int .i64 x.H_,DL x.cx],3,⟨0,0,[]⟩,λ_=>rfl⟩
def jc(q:aa->π):List ai->ai->Prop:=λargs r=>∃x0 y,q x0=some y/\args=[gE x0]/\r=vb y
def tY(q:aq->aq->φ):List ai->ai->Prop:=λargs r=>∃x0 x1 y,q x0 x1=some y/\args=[gE x0,gE x1]/\r=vi y
def tH(q:Int->Option ψ):List ai->ai->Prop:=λargs r=>∃x0 y,q x0=some y/\args=[vi x0]/\r=AL y
def gZ(q:aq->π):List ai->ai->Prop:=λargs r=>∃x0 y,q x0=some y/\args=[gE x0]/\r=vb y
def BX(q:Bool->Bool->π):List ai->ai->Prop:=λargs r=>∃x0 x1 y,q x0 x1=some y/\args=[vb x0,vb x1]/\r=vb y
def gY(q:aj->π):List ai->ai->Prop:=λargs r=>∃x0 y,q x0=some y/\args=[.v (.g [ci x0.aw,ci x0.ao,ci x0.ak,.d (DL x0.ae)])]/\r=vb y
def ja(q:af->π):List ai->ai->Prop:=λargs r=>∃x0 y,q x0=some y/\args=[gE x0]/\r=vb y
def rK(q:aB->π):List ai->ai->Prop:=λargs r=>∃x0 y,q x0=some y/\args=[gE x0]/\r=vb y
def As(q:aB->aB->φ):List ai->ai->Prop:=λargs r=>∃x0 x1 y,q x0 x1=some y/\args=[gE x0,gE x1]/\r=vi y
def jd(q:aC->π):List ai->ai->Prop:=λargs r=>∃x0 y,q x0=some y/\args=[gE x0]/\r=vb y
def qx(q:aP->π):List ai->ai->Prop:=λargs r=>∃x0 y,q x0=some y/\args=[gE x0]/\r=vb y
def KZ(q:Int->π):List ai->ai->Prop:=λargs r=>∃x0 y,q x0=some y/\args=[vi x0]/\r=vb y
def je(q:aO->π):List ai->ai->Prop:=λargs r=>∃x0 y,q x0=some y/\args=[gE x0]/\r=vb y
def p8(q:Int->Int->φ):List ai->ai->Prop:=λargs r=>∃x0 x1 y,q x0 x1=some y/\args=[vi x0,vi x1]/\r=vi y
def Kf(F:Nat):=
 some (-1:Int)
def WI{α:Type}[aN α](F:Nat)(b:List α)(d:α->π)(c:(Int)->φ)(a:Int):φ:=
 br (decide (a<(b.length:Int))) (gd (0<=a/\a<(b.length:Int))<|(d (gl b a.toNat)).bind λe=>br e (some a) (gd (Q7 (a+1))<|c (a+1))) (Kf F)
def WU{α:Type}[aN α](F:Nat)(a:List α)(b:α->π):φ:=
 Y4 (λg (z:Int)=>WI F a b g z) F (0:Int)
def Yk{α:Type}[aN α](F:Nat)(a:List α)(b:α->π):π:=
 (WU F a b).bind λc=>some (decide ((0:Int)<=c))
def VD(F:Nat)(a:Bool):=
 some a
variable (F:Nat)
def DY(a:aa):=
 br (decide ((0:Int)<=a.L_)) (br (decide (a.L_<a.R_)) (br (decide (a.R_<=16384)) (br (decide ((0:Int)<=a.w_)) (br (decide (a.w_<a.H_)) (VD F (decide (a.H_<=16384))) (VD F false)) (VD F false)) (VD F false)) (VD F false)) (VD F false)
def yD(a:aa):=
 (DY F a).bind λb=>some (!b)
def SO(F:Nat)(a:Int)(b:(Int×Int×θ)->Option θ)(c:Int)(d:θ):=
 gd (Q7 (a+1))<|b (c,(a+1),d)
def zQ(F:Nat)(a:Int)(b:θ):=
 gd (0<=a/\a<=((b.length:Nat):Int)/\((0:Nat):Int)+((b.length:Nat):Int)<=(b.length:Int))<|gd (0<=a/\a<=((List.length (clr b (0+(a).toNat) (b.length-(a).toNat)):Nat):Int))<|some ((clr b (0+(a).toNat) (b.length-(a).toNat)).take (a).toNat)
def pE(e:θ)(c:Int)(i:(Int×Int×θ)->Option θ)(d a:Int)(b:θ):=
 br (decide (a<(((e.length-(c).toNat):Nat):Int))) (gd (0<=a/\a<(((e.length-(c).toNat):Nat):Int))<|gd (((0+(c).toNat)+(a).toNat)<List.length b)<|gd (Q7 (a-1))<|gd (0<=(a-1)/\(a-1)<(((e.length-(c).toNat):Nat):Int))<|gd (((0+(c).toNat)+((a-1)).toNat)<List.length b)<|br ((gl b ((0+(c).toNat)+(a).toNat)) != (gl b ((0+(c).toNat)+((a-1)).toNat))) (gd (0<=a/\a<(((e.length-(c).toNat):Nat):Int))<|gd (((0+(c).toNat)+(a).toNat)<List.length b)<|gd (0<=d/\d<(b.length:Int))<|gd (Q7 (d+1))<|SO F a i (d+1) (List.set b d.toNat (gl b ((0+(c).toNat)+(a).toNat)))) (SO F a i d b)) (zQ F d b)
def zP(F:Nat)(a:Int)(b:(Int)->Option θ):=
 gd (Q7 (a+1))<|b (a+1)
def zO(F:Nat)(a:θ):=
 some a
def C8(b:θ)(c:(Int)->Option θ)(a:Int):=
 br (decide (a<(b.length:Int))) (gd (0<=a/\a<(b.length:Int))<|gd (Q7 (a-1))<|gd (0<=(a-1)/\(a-1)<(b.length:Int))<|br ((gl b a.toNat)==(gl b (a-1).toNat)) (gd (0<=a/\a<=((b.length:Nat):Int)/\((0:Nat):Int)+((b.length:Nat):Int)<=(b.length:Int))<|Y4 (λg (z:Int×Int×θ)=>pE F b a g z.1 z.2.1 z.2.2) F (a,(1:Int),b)) (zP F a c)) (zO F b)
def DN(a:θ):=
 br (decide ((a.length:Int)<2)) (some a) (Y4 (λg (z:Int)=>C8 F a g z) F (1:Int))
def yS(F:Nat)(a:Int)(b:(Int×θ)->Option θ)(c:θ):=
 gd (Q7 (a+1))<|b ((a+1),c)
def yT(c:(List ζ))(b:Int)(e i:(Int×θ)->Option θ)(a:Int)(d:θ):=
 br (decide (a<((List.length (gl c b.toNat):Nat):Int))) (gd (0<=a/\a<((List.length (gl c b.toNat):Nat):Int))<|gd (d.length+(List.length ([(gl (gl c b.toNat) a.toNat).w_,(gl (gl c b.toNat) a.toNat).H_]:θ))<=Y2)<|gd (Q7 (a+1))<|i ((a+1),(d++([(gl (gl c b.toNat) a.toNat).w_,(gl (gl c b.toNat) a.toNat).H_]:θ)))) (yS F b e d)
def yR(a:θ):=
 (UI a).bind λb=>(DN F b).bind λc=>some c
def yU(b:(List ζ))(d:(Int×θ)->Option θ)(a:Int)(c:θ):=
 br (decide (a<(b.length:Int))) (gd (0<=a/\a<(b.length:Int))<|Y4 (λg (z:Int×θ)=>yT F b a d g z.1 z.2) F ((0:Int),c)) (yR F c)
def GD(a:(List ζ)):=
 Y4 (λg (z:Int×θ)=>yU F a g z.1 z.2) F ((0:Int),([]:θ))
def LS(F:Nat)(a:Int):=
 some (a != a)
def Vb(a b:Int):=
 (LS F a).bind λd=>(LS F b).bind λc=>br d (br c (some (0:Int)) (some (-1:Int))) (br c (some (1:Int)) (br (decide (a<b)) (some (-1:Int)) (br (decide (b<a)) (some (1:Int)) (some (0:Int)))))
def TP(a b:aq):=
 (Vb F a.L_ b.L_).bind λc=>some c
def He(F:Nat)(a:Int)(b:(Int×ψ)->Option ψ)(c:ψ):=
 gd (Q7 (a+1))<|b ((a+1),c)
def Hf(b:ζ)(a:Int)(c:ψ)(d:(Int×ψ)->Option ψ)(e:Bool):=
 br e (gd (c.length+(List.length ([(⟨(gl b a.toNat).L_,(gl b a.toNat).R_⟩:aq)]:ψ))<=Y2)<|He F a d (c++([(⟨(gl b a.toNat).L_,(gl b a.toNat).R_⟩:aq)]:ψ))) (He F a d c)
def Hd(F:Nat)(a:Int)(b:(Int×ψ)->Option ψ)(c:ψ):=
 gd (Q7 (a+1))<|b ((a+1),c)
def PC(c:ψ)(b:Int)(a:ψ)(d:(Int×ψ)->Option ψ)(e:Bool):=
 br e (gd (Q7 ((a.length:Int)-1))<|gd (Q7 ((a.length:Int)-1))<|gd (0<=((a.length:Int)-1)/\((a.length:Int)-1)<(a.length:Int))<|gd (0<=((a.length:Int)-1)/\((a.length:Int)-1)<(a.length:Int))<|Hd F b d (List.set a ((a.length:Int)-1).toNat (⟨(gl a ((a.length:Int)-1).toNat).L_,(y9 ((gl a ((a.length:Int)-1).toNat).R_) ((gl c b.toNat).R_))⟩:aq))) (gd (a.length+(List.length ([(gl c b.toNat)]:ψ))<=Y2)<|Hd F b d (a++([(gl c b.toNat)]:ψ)))
def yG(F:Nat)(a:ψ):=
 some a
def yH(c:ψ)(d:(Int×ψ)->Option ψ)(b:Int)(a:ψ):=
 br (decide (b<(c.length:Int))) (gd (0<=b/\b<(c.length:Int))<|br (decide (0<(a.length:Int))) (gd (Q7 ((a.length:Int)-1))<|gd (0<=((a.length:Int)-1)/\((a.length:Int)-1)<(a.length:Int))<|PC F c b a d (decide (((gl c b.toNat).L_)<=((gl a ((a.length:Int)-1).toNat).R_)))) (PC F c b a d false)) (yG F a)
def TO(a:ψ):=
 (UJ a (λy0 y1=>TP F y0 y1)).bind λb=>Y4 (λg (z:Int×ψ)=>yH F b g z.1 z.2) F ((0:Int),([]:ψ))
def yI(b:ζ)(e:Int)(d:(Int×ψ)->Option ψ)(a:Int)(c:ψ):=
 br (decide (a<(b.length:Int))) (gd (0<=a/\a<(b.length:Int))<|br (decide (((gl b a.toNat).w_)<=e)) (Hf F b a c d (decide (e<((gl b a.toNat).H_)))) (Hf F b a c d false)) (TO F c)
def Ul(a:ζ)(b:Int):=
 Y4 (λg (z:Int×ψ)=>yI F a b g z.1 z.2) F ((0:Int),([]:ψ))
def yC(a:Int)(b:ζ):=
 (Ul F b a).bind λc=>some c
def bP(F:Nat):=
 some true
def bQ(b c:ψ)(d:(Int)->π)(a:Int):=
 br (decide (a<(b.length:Int))) (gd (0<=a/\a<(b.length:Int))<|gd (0<=a/\a<(c.length:Int))<|br (!((((gl b a.toNat).L_)==((gl c a.toNat).L_))&&((((gl b a.toNat).R_)==((gl c a.toNat).R_))&&true))) (some false) (gd (Q7 (a+1))<|d (a+1))) (bP F)
def SG(a b:ψ):=
 br ((a.length:Int) != (b.length:Int)) (some false) (Y4 (λg (z:Int)=>bQ F a b g z) F (0:Int))
def yw(F:Nat)(a:Int)(b:(Int×ζ)->Θ)(c:ζ):=
 gd (Q7 (a+1))<|b ((a+1),c)
def yx(b:List dp)(a:Int)(e i:(Int×ζ)->Θ)(c:Int)(d:ζ):=
 br (decide (c<((List.length ((gl b a.toNat).cx):Nat):Int))) (gd (0<=c/\c<((List.length ((gl b a.toNat).cx):Nat):Int))<|gd (d.length+(List.length ([(⟨(gl ((gl b a.toNat).cx) c.toNat).L_,(gl b a.toNat).w_,(gl ((gl b a.toNat).cx) c.toNat).R_,(gl b a.toNat).H_⟩:aa)]:ζ))<=Y2)<|gd (Q7 (c+1))<|i ((c+1),(d++([(⟨(gl ((gl b a.toNat).cx) c.toNat).L_,(gl b a.toNat).w_,(gl ((gl b a.toNat).cx) c.toNat).R_,(gl b a.toNat).H_⟩:aa)]:ζ)))) (yw F a e d)
def yv(F:Nat)(a:ζ):=
 some a
def yy(b:List dp)(d:(Int×ζ)->Θ)(a:Int)(c:ζ):=
 br (decide (a<(b.length:Int))) (gd (0<=a/\a<(b.length:Int))<|Y4 (λg (z:Int×ζ)=>yx F b a d g z.1 z.2) F ((0:Int),c)) (yv F c)
def TA(a:List dp):=
 Y4 (λg (z:Int×ζ)=>yy F a g z.1 z.2) F ((0:Int),([]:ζ))
def Hk(F:Nat)(a:Int)(b:(Int×(List dp))->Θ)(c:List dp):=
 gd (Q7 (a+1))<|b ((a+1),c)
def GE(c:θ)(b:Int)(a:List dp)(e:ψ)(d:(Int×(List dp))->Θ)(i:Bool):=
 br i (gd (Q7 ((a.length:Int)-1))<|gd (0<=((a.length:Int)-1)/\((a.length:Int)-1)<(a.length:Int))<|Hk F b d (List.set a ((a.length:Int)-1).toNat (⟨(gl a ((a.length:Int)-1).toNat).w_,(gl c b.toNat),(gl a ((a.length:Int)-1).toNat).cx⟩:dp))) (gd (a.length+(List.length ([(⟨(gl c (b-1).toNat),(gl c b.toNat),e⟩:dp)]:List dp))<=Y2)<|Hk F b d (a++([(⟨(gl c (b-1).toNat),(gl c b.toNat),e⟩:dp)]:List dp)))
def TU(a:List dp):=
 (TA F a).bind λb=>some b
def wQ(c:θ)(i:Int->Option ψ)(e:(Int×(List dp))->Θ)(b:Int)(a:List dp):=
 br (decide (b<(c.length:Int))) (gd (Q7 (b-1))<|gd (0<=(b-1)/\(b-1)<(c.length:Int))<|gd (0<=b/\b<(c.length:Int))<|gd (Q7 (b-1))<|gd (0<=(b-1)/\(b-1)<(c.length:Int))<|(i (gl c (b-1).toNat)).bind λd=>br (decide (0<(a.length:Int))) (gd (Q7 ((a.length:Int)-1))<|gd (0<=((a.length:Int)-1)/\((a.length:Int)-1)<(a.length:Int))<|br (((gl a ((a.length:Int)-1).toNat).H_)==(gl c (b-1).toNat)) (gd (Q7 ((a.length:Int)-1))<|gd (0<=((a.length:Int)-1)/\((a.length:Int)-1)<(a.length:Int))<|(SG F ((gl a ((a.length:Int)-1).toNat).cx) d).bind λj=>GE F c b a d e j) (GE F c b a d e false)) (GE F c b a d e false)) (TU F a)
def Hl(a:θ)(b:Int->Option ψ):=
 Y4 (λg (z:Int×(List dp))=>wQ F a b g z.1 z.2) F ((1:Int),([]:List dp))
def Pz(a:ζ):=
 (GD F ([a]:List ζ)).bind λb=>(Hl F b (λy0=>yC F y0 a)).bind λc=>some c
def bV(F:Nat):=
 some true
def bW(b c:ζ)(d:(Int)->π)(a:Int):=
 br (decide (a<(b.length:Int))) (gd (0<=a/\a<(b.length:Int))<|gd (0<=a/\a<(c.length:Int))<|br (!((((gl b a.toNat).L_)==((gl c a.toNat).L_))&&((((gl b a.toNat).w_)==((gl c a.toNat).w_))&&((((gl b a.toNat).R_)==((gl c a.toNat).R_))&&((((gl b a.toNat).H_)==((gl c a.toNat).H_))&&true))))) (some false) (gd (Q7 (a+1))<|d (a+1))) (bV F)
def SH(a b:ζ):=
 br ((a.length:Int) != (b.length:Int)) (some false) (Y4 (λg (z:Int)=>bW F a b g z) F (0:Int))
def TM(a:aE)(b:Bool):=
 br b (some false) ((Pz F a.t_).bind λc=>(SH F c a.t_).bind λd=>some d)
def Wv(a:aE):=
 br (decide (120<(a.t_.length:Int))) (TM F a true) ((Yk F a.t_ (λy0=>yD F y0)).bind λb=>TM F a b)
def C5(F:Nat)(a:ζ):=
 some a
def Z3M(b:ψ)(d:(Int×ζ)->Θ)(a:Int)(c:ζ):=
 br (decide (a<(b.length:Int))) (gd (0<=a/\a<(b.length:Int))<|gd (c.length+(List.length ([(⟨(gl b a.toNat).L_,(0:Int),(gl b a.toNat).R_,(1:Int)⟩:aa)]:ζ))<=Y2)<|gd (Q7 (a+1))<|d ((a+1),(c++([(⟨(gl b a.toNat).L_,(0:Int),(gl b a.toNat).R_,(1:Int)⟩:aa)]:ζ)))) (C5 F c)
def Jw(a:ψ):=
 Y4 (λg (z:Int×ζ)=>Z3M F a g z.1 z.2) F ((0:Int),([]:ζ))
def vR(F:Nat)(a:Bool):=
 some a
def Ma(a b:Bool):=
 br a (vR F (!b)) (vR F false)
def DM{α:Type}[aN α](F:Nat)(a:List α):Option (List α):=
 some a
def Gq{α:Type}[aN α](F:Nat)(b:(List (List α)))(d:(Int×(List α))->Option (List α))(a:Int)(c:List α):Option (List α):=
 br (decide (a<(b.length:Int))) (gd (0<=a/\a<(b.length:Int))<|gd (c.length+(List.length (gl b a.toNat))<=Y2)<|gd (Q7 (a+1))<|d ((a+1),(c++(gl b a.toNat)))) (DM F c)
def Pn{α:Type}[aN α](F:Nat)(b:(List (List α)))(a:Int):Option (List α):=
 (Xl a).bind λc=>Y4 (λg (z:Int×(List α))=>Gq F b g z.1 z.2) F ((0:Int),c)
def Gr{α:Type}[aN α](F:Nat)(b:(List (List α)))(d:(Int×Int)->Option (List α))(c:Int)(a:Int):Option (List α):=
 br (decide (a<(b.length:Int))) (gd (0<=a/\a<(b.length:Int))<|gd (Q7 (c+((List.length (gl b a.toNat):Nat):Int)))<|br (decide ((c+((List.length (gl b a.toNat):Nat):Int))<0)) (none) (gd (Q7 (a+1))<|d ((c+((List.length (gl b a.toNat):Nat):Int)),(a+1)))) (Pn F b c)
def Kh{α:Type}[aN α](F:Nat)(a:(List (List α))):Option (List α):=
 Y4 (λg (z:Int×Int)=>Gr F a g z.1 z.2) F ((0:Int),(0:Int))
def TG(F:Nat)(a:Bool):=
 some a
def Ks(a:aq)(b:Int):=
 br (decide (a.L_<=b)) (TG F (decide (b<a.R_))) (TG F false)
def Hb(a:ψ)(b:Int):=
 (Yk F a (λy0=>Ks F y0 b)).bind λc=>some c
def Py(F:Nat)(a:Int)(b:(Int×ψ)->Option ψ)(c:ψ):=
 gd (Q7 (a+1))<|b ((a+1),c)
def DZ(c:θ)(a:Int)(b:ψ)(d:(Int×ψ)->Option ψ)(e:Bool):=
 br e (gd (Q7 ((b.length:Int)-1))<|gd (0<=a/\a<(c.length:Int))<|gd (0<=((b.length:Int)-1)/\((b.length:Int)-1)<(b.length:Int))<|Py F a d (List.set b ((b.length:Int)-1).toNat (⟨(gl b ((b.length:Int)-1).toNat).L_,(gl c a.toNat)⟩:aq))) (gd (0<=a/\a<(c.length:Int))<|gd (b.length+(List.length ([(⟨(gl c (a-1).toNat),(gl c a.toNat)⟩:aq)]:ψ))<=Y2)<|Py F a d (b++([(⟨(gl c (a-1).toNat),(gl c a.toNat)⟩:aq)]:ψ)))
def TC(F:Nat)(a:ψ):=
 some a
def Ha(e i:ψ)(j:Bool->Bool->π)(c:θ)(d:(Int×ψ)->Option ψ)(b:Int)(a:ψ):=
 br (decide (b<(c.length:Int))) (gd (Q7 (b-1))<|gd (0<=(b-1)/\(b-1)<(c.length:Int))<|(Hb F e (gl c (b-1).toNat)).bind λk=>(Hb F i (gl c (b-1).toNat)).bind λl=>(j k l).bind λm=>br (!m) (Py F b d a) (br (decide (0<(a.length:Int))) (gd (Q7 ((a.length:Int)-1))<|gd (0<=((a.length:Int)-1)/\((a.length:Int)-1)<(a.length:Int))<|DZ F c b a d (((gl a ((a.length:Int)-1).toNat).R_)==(gl c (b-1).toNat))) (DZ F c b a d false))) (TC F a)
def yz(b c:ψ)(d:Bool->Bool->π)(a:θ):=
 (UI a).bind λe=>(DN F e).bind λi=>Y4 (λg (z:Int×ψ)=>Ha F b c d i g z.1 z.2) F ((1:Int),([]:ψ))
def TE(e i:ψ)(j:Bool->Bool->π)(b:ψ)(d:(Int×θ)->Option ψ)(a:Int)(c:θ):=
 br (decide (a<(b.length:Int))) (gd (0<=a/\a<(b.length:Int))<|gd (c.length+(List.length ([(gl b a.toNat).L_,(gl b a.toNat).R_]:θ))<=Y2)<|gd (Q7 (a+1))<|d ((a+1),(c++([(gl b a.toNat).L_,(gl b a.toNat).R_]:θ)))) (yz F e i j c)
def TF(a b:ψ)(c:Bool->Bool->π):=
 (Kh F ([a,b]:List ψ)).bind λd=>Y4 (λg (z:Int×θ)=>TE F a b c d g z.1 z.2) F ((0:Int),([]:θ))
def yV(a:Int)(b c:ζ)(d:Bool->Bool->π):=
 (Ul F b a).bind λe=>(Ul F c a).bind λi=>(TF F e i d).bind λj=>some j
def Yb(a b:ζ)(c:Bool->Bool->π):=
 (GD F ([a,b]:List ζ)).bind λd=>(Hl F d (λy0=>yV F y0 a b c)).bind λe=>some e
def px(F:Nat)(a:List Edge):=
 some a
def Om(c:Int)(b:ζ)(e:(Int×(List Edge))->Option (List Edge))(a:Int)(d:List Edge):=
 br (decide (a<(b.length:Int))) (gd (0<=a/\a<(b.length:Int))<|gd (d.length+(List.length ([(⟨(⟨(gl b a.toNat).R_,c⟩:Point),(⟨(gl b a.toNat).L_,c⟩:Point)⟩:Edge)]:List Edge))<=Y2)<|gd (Q7 (a+1))<|e ((a+1),(d++([(⟨(⟨(gl b a.toNat).R_,c⟩:Point),(⟨(gl b a.toNat).L_,c⟩:Point)⟩:Edge)]:List Edge)))) (px F d)
def PW(b c:ψ)(d:Int)(a:List Edge):=
 (Jw F b).bind λe=>(Jw F c).bind λi=>(Yb F e i (λy0 y1=>Ma F y0 y1)).bind λj=>Y4 (λg (z:Int×(List Edge))=>Om F d j g z.1 z.2) F ((0:Int),a)
def vQ(i j:ψ)(c:Int)(b:ζ)(e:(Int×(List Edge))->Option (List Edge))(a:Int)(d:List Edge):=
 br (decide (a<(b.length:Int))) (gd (0<=a/\a<(b.length:Int))<|gd (d.length+(List.length ([(⟨(⟨(gl b a.toNat).L_,c⟩:Point),(⟨(gl b a.toNat).R_,c⟩:Point)⟩:Edge)]:List Edge))<=Y2)<|gd (Q7 (a+1))<|e ((a+1),(d++([(⟨(⟨(gl b a.toNat).L_,c⟩:Point),(⟨(gl b a.toNat).R_,c⟩:Point)⟩:Edge)]:List Edge)))) (PW F i j c d)
def PX(a b:ψ)(c:Int):=
 (Jw F b).bind λd=>(Jw F a).bind λe=>(Yb F d e (λy0 y1=>Ma F y0 y1)).bind λi=>Y4 (λg (z:Int×(List Edge))=>vQ F a b c i g z.1 z.2) F ((0:Int),([]:List Edge))
def vS(F:Nat)(a:List Edge):=
 some a
def wy(F:Nat)(a:Int)(b:(Int×(List Edge))->Option (List Edge))(c:List Edge):=
 gd (Q7 (a+1))<|b ((a+1),c)
def Z3O(d:θ)(b:Int)(c:ψ)(i j:(Int×(List Edge))->Option (List Edge))(a:Int)(e:List Edge):=
 br (decide (a<(c.length:Int))) (gd (0<=a/\a<(c.length:Int))<|gd (Q7 (b+1))<|gd (0<=(b+1)/\(b+1)<(d.length:Int))<|gd (e.length+(List.length ([(⟨(⟨(gl c a.toNat).L_,(gl d (b+1).toNat)⟩:Point),(⟨(gl c a.toNat).L_,(gl d b.toNat)⟩:Point)⟩:Edge),(⟨(⟨(gl c a.toNat).R_,(gl d b.toNat)⟩:Point),(⟨(gl c a.toNat).R_,(gl d (b+1).toNat)⟩:Point)⟩:Edge)]:List Edge))<=Y2)<|gd (Q7 (a+1))<|j ((a+1),(e++([(⟨(⟨(gl c a.toNat).L_,(gl d (b+1).toNat)⟩:Point),(⟨(gl c a.toNat).L_,(gl d b.toNat)⟩:Point)⟩:Edge),(⟨(⟨(gl c a.toNat).R_,(gl d b.toNat)⟩:Point),(⟨(gl c a.toNat).R_,(gl d (b+1).toNat)⟩:Point)⟩:Edge)]:List Edge)))) (wy F b i e)
def PY(d:aE)(b:θ)(i:(Int×(List Edge))->Option (List Edge))(a:Int)(c:List Edge):=
 br (decide (a<(b.length:Int))) (gd (0<=a/\a<(b.length:Int))<|gd (Q7 ((gl b a.toNat)-1))<|(Ul F d.t_ ((gl b a.toNat)-1)).bind λj=>(Ul F d.t_ (gl b a.toNat)).bind λk=>(PX F j k (gl b a.toNat)).bind λe=>gd (c.length+e.length<=Y2)<|gd (Q7 (a+1))<|br ((a+1)==(b.length:Int)) (vS F (c++e)) ((Ul F d.t_ (gl b a.toNat)).bind λl=>Y4 (λg (z:Int×(List Edge))=>Z3O F b a l i g z.1 z.2) F ((0:Int),(c++e)))) (vS F c)
def Mb(a:aE):=
 (GD F ([a.t_]:List ζ)).bind λb=>Y4 (λg (z:Int×(List Edge))=>PY F a b g z.1 z.2) F ((0:Int),([]:List Edge))
def wK(F:Nat):=
 some (0:Int)
def XA(b:θ)(c:(Int)->φ)(a:Int):=
 br (decide (a<(b.length:Int))) (gd (0<=a/\a<(b.length:Int))<|br ((gl b a.toNat) != (0:Int)) (some (gl b a.toNat)) (gd (Q7 (a+1))<|c (a+1))) (wK F)
def BI(a:θ):=
 Y4 (λg (z:Int)=>XA F a g z) F (0:Int)
def q8(a b:Point):=
 (Vb F a.y_ b.y_).bind λc=>(Vb F a.x_ b.x_).bind λd=>(BI F ([c,d]:θ)).bind λe=>some e
def vT(F:Nat)(a:Int)(b:(Int×Int)->Option (List Point))(c:Int):=
 gd (Q7 (a+1))<|b ((a+1),c)
def tm(b:List Point)(a:Int):=
 gd (0<=a/\a<=(b.length:Int))<|gd (0<=a/\a<=(b.length:Int))<|(Kh F ([(b.drop a.toNat),(b.take a.toNat)]:List (List Point))).bind λc=>some c
def Z3Q(b:List Point)(d:(Int×Int)->Option (List Point))(a c:Int):=
 br (decide (a<(b.length:Int))) (gd (0<=a/\a<(b.length:Int))<|gd (0<=c/\c<(b.length:Int))<|(q8 F (gl b a.toNat) (gl b c.toNat)).bind λe=>br (decide (e<0)) (vT F a d a) (vT F a d c)) (tm F b c)
def D5(a:List Point):=
 Y4 (λg (z:Int×Int)=>Z3Q F a g z.1 z.2) F ((0:Int),(0:Int))
def PV(a b:Edge):=
 (Vb F a.iJ.x_ a.F_.x_).bind λc=>(Vb F a.iJ.y_ a.F_.y_).bind λd=>(Vb F b.iJ.x_ b.F_.x_).bind λe=>(Vb F b.iJ.y_ b.F_.y_).bind λi=>gd (Q7 (c*i))<|gd (Q7 (d*e))<|gd (Q7 ((c*i)-(d*e)))<|some ((c*i)-(d*e))
def JZ(F:Nat)(a:ar):=
 br ((a.dq.length:Int)==0) (some ((⟨a.dq,true⟩:ar),(IS #[]))) (gd (0<=(0:Int)/\0<(a.dq.length:Int))<|gd (0<=(1:Int)/\1<=(a.dq.length:Int))<|some ((⟨(a.dq.drop (1:Int).toNat),a.eA⟩:ar),(gl a.dq (0:Int).toNat)))
def zl(F:Nat)(b:ar×ByteArray)(c:Int×Bool)(a:Bool):=
 some ((⟨b.1.dq,a⟩:ar),c.1)
def Jl(c:ar):=
 (JZ F c).bind λa=>(Yy F a.2 (-1125899906842624:Int) (1125899906842624:Int)).bind λb=>br (!b.2) (zl F a b true) (zl F a b a.1.eA)
def zm(F:Nat)(b:ar×ByteArray)(c:Int)(a:Bool):=
 some ((⟨b.1.dq,a⟩:ar),c)
def Dr(c:ar):=
 (JZ F c).bind λa=>(BB F a.2).bind λb=>br (b==0) (zm F a b true) (zm F a b a.1.eA)
def Ds(rc:ar->Option (ar×aj))(c:ε)(d:Bool)(b:List aj)(e:(ε×Bool×(List aj))->Option (ar×(List aj)))(i:Bool):=
 br i ((JZ F (⟨c,d⟩:ar)).bind λj=>some (j.1,b)) ((rc (⟨c,d⟩:ar)).bind λa=>gd (Q7 a.2.aw)<|gd (b.length+(List.length ([a.2]:List aj))<=Y2)<|e (a.1.dq,a.1.eA,(b++([a.2]:List aj))))
def cd(F:Nat)(rc:ar->Option (ar×aj))(a:List aj)(b:ε)(c:Bool):=
 some ((⟨b,c⟩:ar),a)
def zn(rc:ar->Option (ar×aj))(d:(ε×Bool×(List aj))->Option (ar×(List aj)))(a:ε)(b:Bool)(c:List aj):=
 br (!b) (br (decide (0<(a.length:Int))) (gd (0<=(0:Int)/\0<(a.length:Int))<|Ds F rc a b c d (J3 (gl a (0:Int).toNat) (IS #[41]))) (Ds F rc a b c d false)) (cd F rc c a b)
def RS(rc:ar->Option (ar×aj))(a:ε)(b:Bool):=
 Y4 (λg (z:ε×Bool×(List aj))=>zn F rc g z.1 z.2.1 z.2.2) F (a,b,([]:List aj))
def Dt(rc:ar->Option (ar×aj))(b:ar):=
 (JZ F b).bind λa=>br (!J3 a.2 (IS #[40])) (RS F rc a.1.dq true) (RS F rc a.1.dq a.1.eA)
def zk(rc:ar->Option (ar×aj))(p:ar):=
 (JZ F p).bind λa=>br (J3 a.2 (IS #[116,114,117,101])) (some (a.1,(⟨(1:Int),0,0,[]⟩:aj))) (br (J3 a.2 (IS #[99,114,111,112])) ((Jl F a.1).bind λc=>some (c.1,(⟨(2:Int),c.2,0,[]⟩:aj))) (br (J3 a.2 (IS #[102,97,109,105,108,121])) ((Jl F a.1).bind λd=>some (d.1,(⟨(3:Int),d.2,0,[]⟩:aj))) (br (J3 a.2 (IS #[109,97,114,107])) ((Dr F a.1).bind λe=>some (e.1,(⟨(4:Int),e.2,0,[]⟩:aj))) (br (J3 a.2 (IS #[122,111,110,101])) ((Jl F a.1).bind λi=>some (i.1,(⟨(5:Int),i.2,0,[]⟩:aj))) (br (J3 a.2 (IS #[115,97,109,101])) ((Jl F a.1).bind λj=>some (j.1,(⟨(6:Int),j.2,0,[]⟩:aj))) (br (J3 a.2 (IS #[98,101,102,111,114,101])) ((Jl F a.1).bind λk=>(Dr F k.1).bind λl=>some (l.1,(⟨(7:Int),k.2,l.2,[]⟩:aj))) (br (J3 a.2 (IS #[107,110,111,119,110])) ((Jl F a.1).bind λm=>some (m.1,(⟨(8:Int),m.2,0,[]⟩:aj))) (br (J3 a.2 (IS #[97,110,100])) ((Dt F rc a.1).bind λn=>some (n.1,(⟨(9:Int),0,0,n.2⟩:aj))) (br (J3 a.2 (IS #[111,114])) ((Dt F rc a.1).bind λo=>some (o.1,(⟨(10:Int),0,0,o.2⟩:aj))) (br (J3 a.2 (IS #[110,111,116])) ((rc a.1).bind λb=>gd (Q7 b.2.aw)<|some (b.1,(⟨(11:Int),0,0,([b.2]:List aj)⟩:aj))) (some ((⟨a.1.dq,true⟩:ar),(⟨0,0,0,[]⟩:aj)))))))))))))
def Gg:Nat->ar->Option (ar×aj)
 |0=>λ_=>none
 |F+1=>zk F (Gg F)
def zv(F:Nat)(rc:aj->Int->φ)(a:Int):=
 some a
def Sh(rc:aj->Int->φ)(c:aj)(d:Int)(i:(Int×Int)->φ)(a b:Int):=
 br (decide (b<(c.ae.length:Int))) (gd (0<=b/\b<(c.ae.length:Int))<|gd (Q7 (gl c.ae b.toNat).aw)<|br (decide (d<a)) (zv F rc a) (gd (Q7 (d-a))<|(rc (gl c.ae b.toNat) (d-a)).bind λe=>gd (Q7 (a+e))<|gd (Q7 (b+1))<|i ((a+e),(b+1)))) (zv F rc a)
def Sj(rc:aj->Int->φ)(a:aj)(b:Int):=
 Y4 (λg (z:Int×Int)=>Sh F rc a b g z.1 z.2) F ((1:Int),(0:Int))
def Kb:Nat->aj->Int->φ
 |0=>λ_ _=>none
 |F+1=>Sj F (Kb F)
def Sc(F:Nat)(a:Bool):=
 br a (some ((1:Int),(10:Int),true)) (some ((0:Int),(0:Int),false))
def Sd(a:Int):=
 br (a==2) (some ((0:Int),(39:Int),true)) (br (a==3) (some ((0:Int),(40:Int),true)) (br (a==4) (some ((1:Int),(16:Int),true)) (br (a==5) (some ((0:Int),(15:Int),true)) (br (a==6) (some ((2:Int),(10:Int),true)) (br (a==7) (Sc F (a==7)) (Sc F (a==8)))))))
def Se(F:Nat)(b:Int)(a:Bool):=
 br a (some ((1:Int),(40:Int))) (br (b==11) (some ((1:Int),(1:Int))) (some ((0:Int),(0:Int))))
def Sf(a:Int):=
 br (a==9) (Se F a (a==9)) (Se F a (a==10))
def C1(F:Nat)(a:Int):=
 gd (0<=(1:Int))<|(some (QO .u64 (a.fdiv (2 ^ (min ((1:Int)).toNat (IntKind.bits .u64)))) (6148914691236517205:Int))).bind λk=>(some (IntKind.wrap .u64 (k+(QO .u64 a (6148914691236517205:Int))))).bind λb=>gd (0<=(2:Int))<|(some (QO .u64 (b.fdiv (2 ^ (min ((2:Int)).toNat (IntKind.bits .u64)))) (3689348814741910323:Int))).bind λl=>(some (IntKind.wrap .u64 (l+(QO .u64 b (3689348814741910323:Int))))).bind λc=>gd (0<=(4:Int))<|(some (IntKind.wrap .u64 ((c.fdiv (2 ^ (min ((4:Int)).toNat (IntKind.bits .u64))))+c))).bind λd=>gd (0<=(8:Int))<|(some ((QO .u64 d (1085102592571150095:Int)).fdiv (2 ^ (min ((8:Int)).toNat (IntKind.bits .u64))))).bind λm=>(some (IntKind.wrap .u64 ((QO .u64 d (1085102592571150095:Int))+m))).bind λe=>gd (0<=(16:Int))<|(some (IntKind.wrap .u64 (e+(e.fdiv (2 ^ (min ((16:Int)).toNat (IntKind.bits .u64))))))).bind λi=>gd (0<=(32:Int))<|(some (IntKind.wrap .u64 (i+(i.fdiv (2 ^ (min ((32:Int)).toNat (IntKind.bits .u64))))))).bind λj=>gd (Q7 j)<|some (QO .i64 j (127:Int))
def ut(a:Int):=
 (C1 F a).bind λb=>some b
def RQ(F:Nat)(a:Bool):=
 some a
def JX(a:Int):=
 br (decide ((1:Int)<=a)) (br (decide (a<=16)) ((ut F (IntKind.wrap .u64 a)).bind λb=>RQ F (b==1)) (RQ F false)) (RQ F false)
def bF(F:Nat):=
 some (-1:Int)
def SB(b:List aj)(d:aj->π)(c:(Int)->φ)(a:Int):=
 br (decide (a<(b.length:Int))) (gd (0<=a/\a<(b.length:Int))<|gd (Q7 (gl b a.toNat).aw)<|(d (gl b a.toNat)).bind λe=>br e (some a) (gd (Q7 (a+1))<|c (a+1))) (bF F)
def SC(a:List aj)(b:aj->π):=
 Y4 (λg (z:Int)=>SB F a b g z) F (0:Int)
def SL(a:List aj)(b:aj->π):=
 (SC F a b).bind λc=>some (decide ((0:Int)<=c))
def zi(F:Nat)(rc:aj->Int->π)(b:aj)(a:Int):=
 gd (Q7 (a-1))<|(rc b (a-1)).bind λc=>some (!c)
def Pe(rc:aj->Int->π)(b:aj)(c:Int)(a:Bool):=
 br a (some false) ((SL F b.ae (λy0=>zi F rc y0 c)).bind λd=>some (!d))
def ZS(rc:aj->Int->π)(a:aj)(b:Int)(c:Int×Int)(d:Bool):=
 br d (some false) (br (decide ((a.ae.length:Int)<c.1)) (Pe F rc a b true) (Pe F rc a b (decide (c.2<(a.ae.length:Int)))))
def UG(rc:aj->Int->π)(a:aj)(b:Int)(c:Int×Int)(d:Bool):=
 br d (some false) (br (a.aw==4) ((JX F a.ao).bind λe=>br (!e) (ZS F rc a b c true) (br (a.aw==7) ((JX F a.ak).bind λi=>br (!i) (ZS F rc a b c true) (br (a.aw != (7:Int)) (ZS F rc a b c (a.ak != (0:Int))) (ZS F rc a b c false))) (br (a.aw != (7:Int)) (ZS F rc a b c (a.ak != (0:Int))) (ZS F rc a b c false)))) (br (a.aw==7) ((JX F a.ak).bind λj=>br (!j) (ZS F rc a b c true) (br (a.aw != (7:Int)) (ZS F rc a b c (a.ak != (0:Int))) (ZS F rc a b c false))) (br (a.aw != (7:Int)) (ZS F rc a b c (a.ak != (0:Int))) (ZS F rc a b c false))))
def JY(rc:aj->Int->π)(a:aj)(b:Int)(d:Int×Int×Bool)(c:Int×Int)(e:Bool):=
 br e (some false) (br d.2.2 (br (decide (a.ao<d.1)) (UG F rc a b c true) (br (decide (d.2.1<a.ao)) (UG F rc a b c true) (br (!d.2.2) (UG F rc a b c (a.ao != (0:Int))) (UG F rc a b c false)))) (br (!d.2.2) (UG F rc a b c (a.ao != (0:Int))) (UG F rc a b c false)))
def RR(rc:aj->Int->π)(a:aj)(b:Int):=
 (Sd F a.aw).bind λc=>(Sf F a.aw).bind λd=>br (decide (a.aw<1)) (JY F rc a b c d true) (br (decide ((11:Int)<a.aw)) (JY F rc a b c d true) (JY F rc a b c d (b==0)))
def ZT:Nat->aj->Int->π
 |0=>λ_ _=>none
 |F+1=>RR F (ZT F)
def Gk(a:aj):=
 (Kb F a (40:Int)).bind λb=>br (decide ((40:Int)<b)) (some (1:Int)) ((ZT F a (8:Int)).bind λc=>br (!c) (some (16:Int)) (some (0:Int)))
def zR(F:Nat)(a:ε):=
 XG a.length (some ([])) (gd ((0)+a.length<=Y2)<|some (([]:ε)++a))
def Pk(c:ε):=
 (Gg F (⟨c,false⟩:ar)).bind λa=>br a.1.eA (some ((⟨0,0,0,[]⟩:aj),[],(4:Int))) ((Gk F a.2).bind λb=>br (b != (0:Int)) (some ((⟨0,0,0,[]⟩:aj),[],b)) ((zR F a.1.dq).bind λd=>some (a.2,d,(0:Int))))
def XU(F:Nat)(a:Int)(b:(Int)->π)(c:Bool):=
 br c (some false) (gd (Q7 (a+1))<|b (a+1))
def Dg(a:Int)(c:Bool)(b:(Int)->π)(d:Bool):=
 br (!c) (br (a==0) (XU F a b true) (XU F a b (!d))) (XU F a b false)
def Dh(b:ByteArray)(a:Int)(c:(Int)->π)(d:Bool):=
 gd (0<=a/\a<((b.size:Nat):Int))<|br (decide ((48:Int)<=(K5 b a))) (gd (0<=a/\a<((b.size:Nat):Int))<|Dg F a d c (decide ((K5 b a)<=57))) (Dg F a d c false)
def Df(F:Nat)(a:Bool):=
 some a
def qN(a:ByteArray):=
 br (decide ((1:Int)<=((a.size:Nat):Int))) (Df F (decide (((a.size:Nat):Int)<=(12:Int)))) (Df F false)
def jA(b:ByteArray)(c:(Int)->π)(a:Int):=
 br (decide (a<((b.size:Nat):Int))) (gd (0<=a/\a<((b.size:Nat):Int))<|br (decide ((97:Int)<=(K5 b a))) (gd (0<=a/\a<((b.size:Nat):Int))<|Dh F b a c (decide ((K5 b a)<=122))) (Dh F b a c false)) (qN F b)
def UD(a:ByteArray):=
 Y4 (λg (z:Int)=>jA F a g z) F (0:Int)
def Jo(F:Nat)(a:Int)(b:(Int)->π)(c:Bool):=
 br c (some false) (gd (Q7 (a+1))<|b (a+1))
def Tg(F:Nat)(a:Bool):=
 some a
def ye(a:List aG):=
 br (decide (1<=(a.length:Int))) (Tg F (decide ((a.length:Int)<=6))) (Tg F false)
def Gu(b:List aG)(c:(Int)->π)(a:Int):=
 br (decide (a<(b.length:Int))) (gd (0<=a/\a<(b.length:Int))<|br (decide (((gl b a.toNat).dX)<1)) (Jo F a c true) (br (decide ((268435456:Int)<((gl b a.toNat).dX))) (Jo F a c true) (br (decide (((gl b a.toNat).de)<0)) (Jo F a c true) (br (decide ((1048576:Int)<((gl b a.toNat).de))) (Jo F a c true) (br (decide ((0:Int)<a)) (gd (Q7 (a-1))<|gd (0<=(a-1)/\(a-1)<(b.length:Int))<|Jo F a c (decide (((gl b a.toNat).dX)<=((gl b (a-1).toNat).dX)))) (Jo F a c false)))))) (ye F b)
def Th(a:List aG):=
 Y4 (λg (z:Int)=>Gu F a g z) F (0:Int)
def Gv(F:Nat)(a:Bool):=
 br a (some (3:Int)) (some (0:Int))
def Gw(a:af)(c:Bool):=
 br c (some (2:Int)) ((UD F a.n_).bind λd=>br (!d) (some (5:Int)) ((Gk F a.az).bind λb=>br (b != (0:Int)) (some b) ((Th F a.ab).bind λe=>br (!e) (Gv F true) (br (decide (a.ah<0)) (Gv F true) (br (decide ((65536:Int)<=a.ah)) (Gv F true) (gd (0<=a.N_)<|Gv F ((QO .i64 (a.ah.fdiv (2 ^ (min (a.N_).toNat (IntKind.bits .i64)))) (1:Int))==1)))))))
def Pq(a:af):=
 br (decide (a.N_<0)) (Gw F a true) (br (decide ((15:Int)<a.N_)) (Gw F a true) (br (decide (a.aL<0)) (Gw F a true) (Gw F a (decide ((268435456:Int)<a.aL)))))
def DV(F:Nat)(a b:af):=
 some (J3 a.n_ b.n_)
def wH(F:Nat)(a:af)(b:Int):=
 some (a.N_==b)
def Tk(a:χ)(b:Int):=
 (WU F a (λy0=>wH F y0 b)).bind λc=>some c
def Ta(F:Nat)(a:Int)(b:(Int)->π):=
 gd (Q7 (a+1))<|b (a+1)
def Tb(b:Int)(a:(Int)->π)(c:Bool):=
 br c (some false) (Ta F b a)
def uK(F:Nat):=
 some true
def Gt(d:χ)(e:af)(c:(Int)->π)(a:Int):=
 br (decide (a<16)) (gd (0<=a)<|br ((QO .i64 (e.ah.fdiv (2 ^ (min (a).toNat (IntKind.bits .i64)))) (1:Int))==0) (Ta F a c) ((Tk F d a).bind λb=>br (decide (b<0)) (Tb F a c true) (gd (0<=b/\b<(d.length:Int))<|gd (0<=e.N_)<|Tb F a c ((QO .i64 (((gl d b.toNat).ah).fdiv (2 ^ (min (e.N_).toNat (IntKind.bits .i64)))) (1:Int))==0)))) (uK F)
def Tc(a:χ)(b:af):=
 Y4 (λg (z:Int)=>Gt F a b g z) F (0:Int)
def Ps(F:Nat)(a:Int)(b:(Int)->Option (Int×Int))(c:Bool):=
 br c (some (a,(6:Int))) (gd (Q7 (a+1))<|b (a+1))
def uD(F:Nat):=
 some ((-1:Int),(0:Int))
def Gx(b:χ)(c:(Int)->Option (Int×Int))(a:Int):=
 br (decide (a<(b.length:Int))) (gd (0<=a/\a<(b.length:Int))<|(Tc F b (gl b a.toNat)).bind λd=>br (!d) (some (a,(17:Int))) (gd (Q7 (a+1))<|c (a+1))) (uD F)
def yk(a:χ):=
 Y4 (λg (z:Int)=>Gx F a g z) F (0:Int)
def Gy(b:χ)(c:(Int)->Option (Int×Int))(a:Int):=
 br (decide (a<(b.length:Int))) (gd (0<=a/\a<(b.length:Int))<|(Pq F (gl b a.toNat)).bind λd=>br (d != (0:Int)) (some (a,d)) (br (decide ((0:Int)<a)) (gd (Q7 (a-1))<|gd (0<=(a-1)/\(a-1)<(b.length:Int))<|br (decide (((gl b a.toNat).N_)<=((gl b (a-1).toNat).N_))) (Ps F a c true) (gd (0<=a/\a<=(b.length:Int))<|(Yk F (b.take a.toNat) (λy0=>DV F y0 (gl b a.toNat))).bind λe=>Ps F a c e)) (gd (0<=a/\a<=(b.length:Int))<|(Yk F (b.take a.toNat) (λy0=>DV F y0 (gl b a.toNat))).bind λi=>Ps F a c i))) (yk F b)
def Ko(a:χ):=
 br (decide (16<(a.length:Int))) (some ((0:Int),(1:Int))) (Y4 (λg (z:Int)=>Gy F a g z) F (0:Int))
def FF(F:Nat)(a:θ):=
 gd (0<=(QL (a.length:Int) (400:Int))/\(QL (a.length:Int) (400:Int))<=(a.length:Int))<|some (⟨(a.take (QL (a.length:Int) (400:Int)).toNat),0⟩:aD)
def xH(F:Nat)(a:Int):=
 some a
def Xj(b a:Int):=
 br (decide (a<1)) (some (0:Int)) (gd (a≠0)<|br (decide ((b.tmod a)<0)) (gd (Q7 ((b.tmod a)+a))<|xH F ((b.tmod a)+a)) (xH F (b.tmod a)))
def QK(a:aD)(b:Int):=
 br (decide ((a.l_.length:Int)<=a.aT)) (some (a,(0:Int))) (gd (Q7 (a.aT+1))<|gd (Q7 ((a.aT+1)-1))<|gd (0<=((a.aT+1)-1)/\((a.aT+1)-1)<(a.l_.length:Int))<|(Xj F (gl a.l_ ((a.aT+1)-1).toNat) b).bind λc=>some ((⟨a.l_,(a.aT+1)⟩:aD),c))
def YZ(d:aD)(a b:Int):=
 gd (Q7 (b-a))<|gd (Q7 ((b-a)+1))<|(QK F d ((b-a)+1)).bind λc=>gd (Q7 (a+c.2))<|some (c.1,(a+c.2))
def rH(F:Nat)(a:Φ)(b:θ)(c:Int):=
 some ((⟨b,c⟩:aD),a)
def Bl(c:aD×Int)(k:(Int×θ×Int×Φ)->Option (aD×Φ))(a:Int)(i:θ)(j:Int)(d:Φ):=
 br (decide (a<((List.length (([(IS #[98,97,114,108,101,121]),(IS #[99,108,111,118,101,114]),(IS #[103,114,97,115,115]),(IS #[109,97,105,122,101]),(IS #[111,97,116,115]),(IS #[114,121,101]),(IS #[118,101,116,99,104]),(IS #[119,104,101,97,116])]:ε).take c.2.toNat):Nat):Int))) (gd (0<=a/\a<((List.length (([(IS #[98,97,114,108,101,121]),(IS #[99,108,111,118,101,114]),(IS #[103,114,97,115,115]),(IS #[109,97,105,122,101]),(IS #[111,97,116,115]),(IS #[114,121,101]),(IS #[118,101,116,99,104]),(IS #[119,104,101,97,116])]:ε).take c.2.toNat):Nat):Int))<|(QK F (⟨i,j⟩:aD) (3:Int)).bind λe=>(QK F e.1 (8:Int)).bind λb=>gd (0<=b.2/\b.2<((List.length ([(0:Int),(0:Int),(0:Int),(2:Int),(20:Int),(8:Int),(1:Int),(31:Int)]:θ):Nat):Int))<|gd (d.length+(List.length ([(⟨(gl (([(IS #[98,97,114,108,101,121]),(IS #[99,108,111,118,101,114]),(IS #[103,114,97,115,115]),(IS #[109,97,105,122,101]),(IS #[111,97,116,115]),(IS #[114,121,101]),(IS #[118,101,116,99,104]),(IS #[119,104,101,97,116])]:ε).take c.2.toNat) a.toNat),e.2,(gl ([(0:Int),(0:Int),(0:Int),(2:Int),(20:Int),(8:Int),(1:Int),(31:Int)]:θ) b.2.toNat)⟩:aB)]:Φ))<=Y2)<|gd (Q7 (a+1))<|k ((a+1),b.1.l_,b.1.aT,(d++([(⟨(gl (([(IS #[98,97,114,108,101,121]),(IS #[99,108,111,118,101,114]),(IS #[103,114,97,115,115]),(IS #[109,97,105,122,101]),(IS #[111,97,116,115]),(IS #[114,121,101]),(IS #[118,101,116,99,104]),(IS #[119,104,101,97,116])]:ε).take c.2.toNat) a.toNat),e.2,(gl ([(0:Int),(0:Int),(0:Int),(2:Int),(20:Int),(8:Int),(1:Int),(31:Int)]:θ) b.2.toNat)⟩:aB)]:Φ)))) (rH F d i j)
def FC(b:aD):=
 (YZ F b (3:Int) (8:Int)).bind λa=>gd (0<=a.2/\a.2<=((List.length ([(IS #[98,97,114,108,101,121]),(IS #[99,108,111,118,101,114]),(IS #[103,114,97,115,115]),(IS #[109,97,105,122,101]),(IS #[111,97,116,115]),(IS #[114,121,101]),(IS #[118,101,116,99,104]),(IS #[119,104,101,97,116])]:ε):Nat):Int))<|Y4 (λg (z:Int×θ×Int×Φ)=>Bl F a g z.1 z.2.1 z.2.2.1 z.2.2.2) F ((0:Int),a.1.l_,a.1.aT,([]:Φ))
def Xg(i:aD)(c:Int):=
 (QK F i c).bind λa=>(QK F a.1 c).bind λb=>gd (Q7 (a.2+(1:Int)))<|gd (Q7 (c-a.2))<|(QK F b.1 (c-a.2)).bind λd=>gd (Q7 ((a.2+(1:Int))+d.2))<|gd (Q7 (b.2+(1:Int)))<|gd (Q7 (c-b.2))<|(QK F d.1 (c-b.2)).bind λe=>gd (Q7 ((b.2+(1:Int))+e.2))<|some (e.1,(⟨a.2,b.2,((a.2+(1:Int))+d.2),((b.2+(1:Int))+e.2)⟩:aa))
def VE(F:Nat)(a:Bool):=
 some a
def PQ(a:aa):=
 br (decide ((0:Int)<=a.L_)) (br (decide (a.L_<a.R_)) (br (decide (a.R_<=16384)) (br (decide ((0:Int)<=a.w_)) (br (decide (a.w_<a.H_)) (VE F (decide (a.H_<=16384))) (VE F false)) (VE F false)) (VE F false)) (VE F false)) (VE F false)
def HR(F:Nat)(b:θ)(c a:Int)(d:Bool):=
 br d (some b) (gd (0<=a/\a<=(b.length:Int))<|gd ((0)+(List.length (b.take a.toNat))<=Y2)<|gd (((0)+(List.length (b.take a.toNat)))+(List.length ([c]:θ))<=Y2)<|gd (0<=a/\a<=(b.length:Int))<|gd ((((0)+(List.length (b.take a.toNat)))+(List.length ([c]:θ)))+(List.length (b.drop a.toNat))<=Y2)<|some (((([]:θ)++(b.take a.toNat))++([c]:θ))++(b.drop a.toNat)))
def CI(b:θ)(c a:Int):=
 br (decide (a<(b.length:Int))) (gd (0<=a/\a<(b.length:Int))<|HR F b c a ((gl b a.toNat)==c)) (HR F b c a false)
def HS(d:θ)(e a:Int)(b:(Int)->Option θ)(c:Bool):=
 br c (gd (Q7 (a+1))<|b (a+1)) (CI F d e a)
def rX(b:θ)(c:Int)(d:(Int)->Option θ)(a:Int):=
 br (decide (a<(b.length:Int))) (gd (0<=a/\a<(b.length:Int))<|HS F b c a d (decide ((gl b a.toNat)<c))) (HS F b c a d false)
def GS(a:θ)(b:Int):=
 Y4 (λg (z:Int)=>rX F a b g z) F (0:Int)
def Ju(F:Nat)(a:Int)(b:(Int)->π)(c:Bool):=
 br c (some true) (gd (Q7 (a+1))<|b (a+1))
def uV(F:Nat):=
 some false
def vr(b:ζ)(d e:Int)(c:(Int)->π)(a:Int):=
 br (decide (a<(b.length:Int))) (gd (0<=a/\a<(b.length:Int))<|br (decide (((gl b a.toNat).L_)<=d)) (br (decide (d<((gl b a.toNat).R_))) (br (decide (((gl b a.toNat).w_)<=e)) (Ju F a c (decide (e<((gl b a.toNat).H_)))) (Ju F a c false)) (Ju F a c false)) (Ju F a c false)) (uV F)
def HJ(a:ζ)(b c:Int):=
 Y4 (λg (z:Int)=>vr F a b c g z) F (0:Int)
def vq(F:Nat)(a:Bool):=
 some a
def vp(F:Nat)(a:Bool):=
 some a
def vo(F:Nat)(a:Bool):=
 some a
def Cu(a b:Bool)(c:Int):=
 br (c==1) (br a (vq F true) (vq F b)) (br (c==2) (br a (vp F b) (vp F false)) (br a (vo F (!b)) (vo F false)))
def HI(F:Nat)(a:Int)(b:(Int)->π)(c:Bool):=
 br c (some false) (gd (Q7 (a+1))<|b (a+1))
def pC(F:Nat):=
 some true
def AY(b c:ζ)(d:(Int)->π)(a:Int):=
 br (decide (a<(b.length:Int))) (gd (0<=a/\a<(b.length:Int))<|gd (0<=a/\a<(c.length:Int))<|br (((gl b a.toNat).L_) != ((gl c a.toNat).L_)) (HI F a d true) (gd (0<=a/\a<(b.length:Int))<|gd (0<=a/\a<(c.length:Int))<|HI F a d (((gl b a.toNat).R_) != ((gl c a.toNat).R_)))) (pC F)
def Ct(a b:ζ):=
 br ((a.length:Int) != (b.length:Int)) (some false) (Y4 (λg (z:Int)=>AY F a b g z) F (0:Int))
def vv(F:Nat)(a:Int)(b:(θ×θ×Int)->Θ)(c d:θ):=
 gd (Q7 (a+1))<|b (c,d,(a+1))
def vz(c d:ζ)(b:Int)(j k:(θ×θ×Int)->Θ)(e i:θ)(a:Int):=
 br (decide (a<((List.length (gl ([c,d]:List ζ) b.toNat):Nat):Int))) (gd (0<=a/\a<((List.length (gl ([c,d]:List ζ) b.toNat):Nat):Int))<|(GS F e ((gl (gl ([c,d]:List ζ) b.toNat) a.toNat).L_)).bind λl=>(GS F l ((gl (gl ([c,d]:List ζ) b.toNat) a.toNat).R_)).bind λm=>(GS F i ((gl (gl ([c,d]:List ζ) b.toNat) a.toNat).w_)).bind λn=>(GS F n ((gl (gl ([c,d]:List ζ) b.toNat) a.toNat).H_)).bind λo=>gd (Q7 (a+1))<|k (m,o,(a+1))) (vv F b j e i)
def HO(F:Nat)(a:Int)(b:(Int×ζ)->Θ)(c:ζ):=
 gd (Q7 (a+1))<|b ((a+1),c)
def KD(d e:θ)(c a:Int)(b:ζ)(i:(Int×ζ)->Θ)(j:Bool):=
 br j (gd (Q7 ((b.length:Int)-1))<|gd (Q7 (a+1))<|gd (0<=(a+1)/\(a+1)<(d.length:Int))<|gd (0<=((b.length:Int)-1)/\((b.length:Int)-1)<(b.length:Int))<|HO F a i (List.set b ((b.length:Int)-1).toNat (⟨(gl b ((b.length:Int)-1).toNat).L_,(gl b ((b.length:Int)-1).toNat).w_,(gl d (a+1).toNat),(gl b ((b.length:Int)-1).toNat).H_⟩:aa))) (gd (0<=a/\a<(d.length:Int))<|gd (0<=c/\c<(e.length:Int))<|gd (Q7 (a+1))<|gd (0<=(a+1)/\(a+1)<(d.length:Int))<|gd (Q7 (c+1))<|gd (0<=(c+1)/\(c+1)<(e.length:Int))<|gd (b.length+(List.length ([(⟨(gl d a.toNat),(gl e c.toNat),(gl d (a+1).toNat),(gl e (c+1).toNat)⟩:aa)]:ζ))<=Y2)<|HO F a i (b++([(⟨(gl d a.toNat),(gl e c.toNat),(gl d (a+1).toNat),(gl e (c+1).toNat)⟩:aa)]:ζ)))
def HP(F:Nat)(a:Int)(b:(Int×ζ×ζ)->Θ)(c d:ζ):=
 gd (Q7 (a+1))<|b ((a+1),c,d)
def vw(b:Int)(c:ζ)(a:(Int×ζ×ζ)->Θ)(d:ζ):=
 HP F b a c d
def vy(d:θ)(c:Int)(j k:ζ)(i:(Int×ζ×ζ)->Θ)(e:(Int×ζ)->Θ)(a:Int)(b:ζ):=
 br (decide (a<(k.length:Int))) (gd (Q7 (c+1))<|gd (0<=(c+1)/\(c+1)<(d.length:Int))<|gd (0<=a/\a<(b.length:Int))<|gd (Q7 (a+1))<|e ((a+1),(List.set b a.toNat (⟨(gl b a.toNat).L_,(gl b a.toNat).w_,(gl b a.toNat).R_,(gl d (c+1).toNat)⟩:aa)))) (vw F c j i b)
def CA(d:Int)(a b e:ζ)(c:(Int×ζ×ζ)->Θ):=
 gd (a.length+b.length<=Y2)<|HP F d c (a++b) e
def GR(e:θ)(c:Int)(d a i:ζ)(b:(Int×ζ×ζ)->Θ)(j:Bool):=
 br j (Y4 (λg (z:Int×ζ)=>vy F e c d a b g z.1 z.2) F ((0:Int),a)) (CA F c d a i b)
def HN(c:θ)(b:Int)(i a:ζ)(e:(Int×ζ×ζ)->Θ)(d:ζ):=
 br (decide (0<(a.length:Int))) ((Ct F a d).bind λj=>br j (gd (0<=(0:Int)/\0<(a.length:Int))<|gd (0<=b/\b<(c.length:Int))<|GR F c b i a d e (((gl a (0:Int).toNat).H_)==(gl c b.toNat))) (GR F c b i a d e false)) (GR F c b i a d e false)
def vx(m n:ζ)(o:Int)(c e:θ)(d:Int)(k l:ζ)(j:(Int×ζ×ζ)->Θ)(i:(Int×ζ)->Θ)(a:Int)(b:ζ):=
 gd (Q7 (a+1))<|br (decide ((a+1)<(c.length:Int))) (gd (0<=a/\a<(c.length:Int))<|gd (0<=d/\d<(e.length:Int))<|(HJ F m (gl c a.toNat) (gl e d.toNat)).bind λp=>gd (0<=a/\a<(c.length:Int))<|gd (0<=d/\d<(e.length:Int))<|(HJ F n (gl c a.toNat) (gl e d.toNat)).bind λq=>(Cu F p q o).bind λs=>br (!s) (HO F a i b) (br (decide (0<(b.length:Int))) (gd (Q7 ((b.length:Int)-1))<|gd (0<=((b.length:Int)-1)/\((b.length:Int)-1)<(b.length:Int))<|gd (0<=a/\a<(c.length:Int))<|KD F c e d a b i (((gl b ((b.length:Int)-1).toNat).R_)==(gl c a.toNat))) (KD F c e d a b i false))) (HN F e d k l j b)
def Cz(F:Nat)(a b:ζ):=
 gd (a.length+b.length<=Y2)<|some (a++b)
def D4(j k:ζ)(l:Int)(i b:θ)(e:(Int×ζ×ζ)->Θ)(a:Int)(c d:ζ):=
 gd (Q7 (a+1))<|br (decide ((a+1)<(b.length:Int))) (Y4 (λg (z:Int×ζ)=>vx F j k l i b a c d e g z.1 z.2) F ((0:Int),([]:ζ))) (Cz F c d)
def Cy(c d:ζ)(e:Int)(a b:θ):=
 Y4 (λg (z:Int×ζ×ζ)=>D4 F c d e a b g z.1 z.2.1 z.2.2) F ((0:Int),([]:ζ),([]:ζ))
def HQ(b c:ζ)(j:Int)(i:(θ×θ×Int)->Θ)(d e:θ)(a:Int):=
 br (decide (a<((List.length ([b,c]:List ζ):Nat):Int))) (gd (0<=a/\a<((List.length ([b,c]:List ζ):Nat):Int))<|Y4 (λg (z:θ×θ×Int)=>vz F b c a i g z.1 z.2.1 z.2.2) F (d,e,(0:Int))) (Cy F b c j d e)
def WJ(a b:ζ)(c:Int):=
 Y4 (λg (z:θ×θ×Int)=>HQ F a b c g z.1 z.2.1 z.2.2) F (([]:θ),([]:θ),(0:Int))
def CC(F:Nat)(a:ζ):=
 br (decide (120<(a.length:Int))) (some ((⟨[]⟩:aE),(1:Int))) (some ((⟨a⟩:aE),(0:Int)))
def vu(b:ζ):=
 (WJ F b ([]) (1:Int)).bind λc=>(CC F c).bind λa=>some (a.1,a.2)
def uj(b:ζ)(c:(Int)->Option (aE×Int))(a:Int):=
 br (decide (a<(b.length:Int))) (gd (0<=a/\a<(b.length:Int))<|(PQ F (gl b a.toNat)).bind λd=>br (!d) (some ((⟨[]⟩:aE),(2:Int))) (gd (Q7 (a+1))<|c (a+1))) (vu F b)
def Cw(a:ζ):=
 br (decide (120<(a.length:Int))) (some ((⟨[]⟩:aE),(1:Int))) (Y4 (λg (z:Int)=>uj F a g z) F (0:Int))
def xr(a:ζ)(b:θ)(c:Int):=
 (Cw F a).bind λd=>some ((⟨b,c⟩:aD),d.1)
def Bf(j:Int)(i:(Int×θ×Int×ζ)->Option (aD×aE))(b:Int)(d:θ)(e:Int)(c:ζ):=
 br (decide ((0:Int)<b)) ((Xg F (⟨d,e⟩:aD) j).bind λa=>gd (c.length+(List.length ([a.2]:ζ))<=Y2)<|gd (Q7 (b-1))<|i ((b-1),a.1.l_,a.1.aT,(c++([a.2]:ζ)))) (xr F c d e)
def Bg(c:aD)(d b:Int):=
 gd (Q7 (b+1))<|(QK F c (b+1)).bind λa=>Y4 (λg (z:Int×θ×Int×ζ)=>Bf F d g z.1 z.2.1 z.2.2.1 z.2.2.2) F (a.2,a.1.l_,a.1.aT,([]:ζ))
def xC(F:Nat)(a:ζ)(b:θ)(c:Int):=
 some ((⟨b,c⟩:aD),(⟨a⟩:aE))
def Xi(d:aD)(c e:Int):=
 (Bg F d c e).bind λa=>br ((a.2.t_.length:Int)==0) ((Xg F a.1 c).bind λb=>xC F ([b.2]:ζ) b.1.l_ b.1.aT) (xC F a.2.t_ a.1.l_ a.1.aT)
def ux(F:Nat)(a:ζ):=
 br (decide (120<(a.length:Int))) (some ((⟨([]:ζ)⟩:aE),(1:Int))) (some ((⟨a⟩:aE),(0:Int)))
def oZ(b:ζ):=
 (WJ F b ([]) (1:Int)).bind λc=>(ux F c).bind λa=>some (a.1,a.2)
def Z2V(b:ζ)(c:(Int)->Option (aE×Int))(a:Int):=
 br (decide (a<(b.length:Int))) (gd (0<=a/\a<(b.length:Int))<|(PQ F (gl b a.toNat)).bind λd=>br (!d) (some ((⟨([]:ζ)⟩:aE),(2:Int))) (gd (Q7 (a+1))<|c (a+1))) (oZ F b)
def ww(a:ζ):=
 br (decide (120<(a.length:Int))) (some ((⟨([]:ζ)⟩:aE),(1:Int))) (Y4 (λg (z:Int)=>Z2V F a g z) F (0:Int))
def r7(a:ζ)(b:θ)(c:Int):=
 (ww F a).bind λd=>some ((⟨b,c⟩:aD),d.1)
def H5(j:Int)(i:(Int×θ×Int×ζ)->Option (aD×aE))(b:Int)(d:θ)(e:Int)(c:ζ):=
 br (decide ((0:Int)<b)) ((Xg F (⟨d,e⟩:aD) j).bind λa=>gd (c.length+(List.length ([a.2]:ζ))<=Y2)<|gd (Q7 (b-1))<|i ((b-1),a.1.l_,a.1.aT,(c++([a.2]:ζ)))) (r7 F c d e)
def A9(c:aD)(d b:Int):=
 gd (Q7 (b+1))<|(QK F c (b+1)).bind λa=>Y4 (λg (z:Int×θ×Int×ζ)=>H5 F d g z.1 z.2.1 z.2.2.1 z.2.2.2) F (a.2,a.1.l_,a.1.aT,([]:ζ))
def xD(F:Nat)(a:θ)(b:Int)(c:ζ):=
 some ((⟨a,b⟩:aD),(⟨c⟩:aE))
def xF(d:aD)(c e:Int):=
 (A9 F d c e).bind λa=>br ((a.2.t_.length:Int)==0) ((Xg F a.1 c).bind λb=>xD F b.1.l_ b.1.aT ([b.2]:ζ)) (xD F a.1.l_ a.1.aT a.2.t_)
def Mj(F:Nat)(a:Int)(b:(Int×θ×Int×(List aO))->Option (aD×(List aO)×θ×Ω))(c:θ)(d:Int)(e:List aO):=
 gd (Q7 (a-1))<|b ((a-1),c,d,e)
def Mk(l:Φ)(k:Int)(b:List aO)(d:aD×Int)(e:aD×aE)(j:(Int×θ×Int×(List aO))->Option (aD×(List aO)×θ×Ω))(c:ζ):=
 br (decide (0<(c.length:Int))) (gd (Q7 (d.2+(1:Int)))<|(QK F e.1 (l.length:Int)).bind λi=>(QK F i.1 (15:Int)).bind λa=>gd (Q7 ((1:Int)+a.2))<|gd (b.length+(List.length ([(⟨(d.2+(1:Int)),(⟨c⟩:aE),i.2,((1:Int)+a.2)⟩:aO)]:List aO))<=Y2)<|Mj F k j a.1.l_ a.1.aT (b++([(⟨(d.2+(1:Int)),(⟨c⟩:aE),i.2,((1:Int)+a.2)⟩:aO)]:List aO))) (Mj F k j e.1.l_ e.1.aT b)
def tL(j:Φ)(i:Int)(b:List aO)(k:aD×Int)(l:aD×aE)(d:(Int×θ×Int×(List aO))->Option (aD×(List aO)×θ×Ω))(e:(ζ×Int)->Option (aD×(List aO)×θ×Ω))(c:ζ)(a:Int):=
 br (decide (a<(b.length:Int))) (gd (0<=a/\a<(b.length:Int))<|(WJ F c ((gl b a.toNat).g_.t_) (3:Int)).bind λm=>gd (Q7 (a+1))<|e (m,(a+1))) (Mk F j i b k l d c)
def Fn(j:Φ)(b:Ω)(d:Int)(e:List aO)(a:aD×Int)(k:aD×aE)(c:(Int×θ×Int×(List aO))->Option (aD×(List aO)×θ×Ω))(i:ζ):=
 gd (0<=a.2/\a.2<(b.length:Int))<|(WJ F i ((gl b a.2.toNat).t_) (2:Int)).bind λl=>Y4 (λg (z:ζ×Int)=>tL F j d e a k c g z.1 z.2) F (l,(0:Int))
def rU(m:Φ)(j:Ω)(k:Int)(l:List aO)(c:aD×Int)(d:aD×aE)(e:(Int×θ×Int×(List aO))->Option (aD×(List aO)×θ×Ω))(i:(Int×ζ)->Option (aD×(List aO)×θ×Ω))(a:Int)(b:ζ):=
 br (decide (a<(d.2.t_.length:Int))) (gd (0<=a/\a<(b.length:Int))<|gd (Q7 ((10:Int)*c.2))<|gd (Q7 (((gl b a.toNat).L_)+((10:Int)*c.2)))<|gd (0<=a/\a<(b.length:Int))<|gd (Q7 ((10:Int)*c.2))<|gd (Q7 (((gl b a.toNat).R_)+((10:Int)*c.2)))<|gd (0<=a/\a<(b.length:Int))<|gd (0<=a/\a<((List.length (List.set b a.toNat (⟨(((gl b a.toNat).L_)+((10:Int)*c.2)),(gl b a.toNat).w_,(gl b a.toNat).R_,(gl b a.toNat).H_⟩:aa)):Nat):Int))<|gd (Q7 (a+1))<|i ((a+1),(List.set (List.set b a.toNat (⟨(((gl b a.toNat).L_)+((10:Int)*c.2)),(gl b a.toNat).w_,(gl b a.toNat).R_,(gl b a.toNat).H_⟩:aa)) a.toNat (⟨(gl (List.set b a.toNat (⟨(((gl b a.toNat).L_)+((10:Int)*c.2)),(gl b a.toNat).w_,(gl b a.toNat).R_,(gl b a.toNat).H_⟩:aa)) a.toNat).L_,(gl (List.set b a.toNat (⟨(((gl b a.toNat).L_)+((10:Int)*c.2)),(gl b a.toNat).w_,(gl b a.toNat).R_,(gl b a.toNat).H_⟩:aa)) a.toNat).w_,(((gl b a.toNat).R_)+((10:Int)*c.2)),(gl (List.set b a.toNat (⟨(((gl b a.toNat).L_)+((10:Int)*c.2)),(gl b a.toNat).w_,(gl b a.toNat).R_,(gl b a.toNat).H_⟩:aa)) a.toNat).H_⟩:aa)))) (Fn F m j k l c d e b)
def wU(F:Nat)(a:θ)(b:Ω)(c:List aO)(d:θ)(e:Int):=
 some ((⟨d,e⟩:aD),c,a,b)
def Bh(m:Φ)(a:θ)(b:Ω)(l:(Int×θ×Int×(List aO))->Option (aD×(List aO)×θ×Ω))(c:Int)(d:θ)(e:Int)(i:List aO):=
 br (decide ((0:Int)<c)) ((QK F (⟨d,e⟩:aD) (a.length:Int)).bind λj=>(xF F j.1 (9:Int) (2:Int)).bind λk=>Y4 (λg (z:Int×ζ)=>rU F m b c i j k l g z.1 z.2) F ((0:Int),k.2.t_)) (wU F a b i d e)
def Fp(j:Φ)(b:Int)(c:θ)(d:Int)(e:θ)(i:Ω):=
 gd (Q7 (b+1))<|(QK F (⟨c,d⟩:aD) (b+1)).bind λa=>Y4 (λg (z:Int×θ×Int×(List aO))=>Bh F j e i g z.1 z.2.1 z.2.2.1 z.2.2.2) F (a.2,a.1.l_,a.1.aT,([]:List aO))
def Bi(l:Φ)(m:Int)(k:(Int×θ×Int×θ×Ω)->Option (aD×(List aO)×θ×Ω))(d:Int)(i:θ)(j:Int)(a:θ)(e:Ω):=
 br (decide ((0:Int)<d)) (gd (Q7 ((a.length:Int)+1))<|gd (a.length+(List.length ([((a.length:Int)+1)]:θ))<=Y2)<|gd (Q7 (10*(a.length:Int)))<|gd (Q7 (10*(a.length:Int)))<|(YZ F (⟨i,j⟩:aD) (2:Int) (9:Int)).bind λb=>gd (Q7 ((10*(a.length:Int))+b.2))<|(YZ F b.1 (2:Int) (9:Int)).bind λc=>gd (e.length+(List.length ([(⟨([(⟨(10*(a.length:Int)),0,((10*(a.length:Int))+b.2),c.2⟩:aa)]:ζ)⟩:aE)]:Ω))<=Y2)<|gd (Q7 (d-1))<|k ((d-1),c.1.l_,c.1.aT,(a++([((a.length:Int)+1)]:θ)),(e++([(⟨([(⟨(10*(a.length:Int)),0,((10*(a.length:Int))+b.2),c.2⟩:aa)]:ζ)⟩:aE)]:Ω)))) (Fp F l m i j a e)
def Fq(b:aD)(c:Φ)(d:Int):=
 (YZ F b (1:Int) (3:Int)).bind λa=>Y4 (λg (z:Int×θ×Int×θ×Ω)=>Bi F c d g z.1 z.2.1 z.2.2.1 z.2.2.2.1 z.2.2.2.2) F (a.2,a.1.l_,a.1.aT,([]:θ),([]:Ω))
def qV(F:Nat)(e:aD×Φ)(a:Ω)(b:List aW)(c:θ)(d:Int):=
 some ((⟨c,d⟩:aD),e.2,b,a)
def qW(i:aD×Φ)(k:Ω)(j:(Int×θ×Int×(List aW))->Option (aD×Φ×(List aW)×Ω))(b:Int)(d:θ)(e:Int)(c:List aW):=
 br (decide ((0:Int)<b)) ((Fq F (⟨d,e⟩:aD) i.2 (2:Int)).bind λa=>gd (c.length+(List.length ([(⟨0,a.2.1⟩:aW)]:List aW))<=Y2)<|gd (Q7 (b-1))<|j ((b-1),a.1.l_,a.1.aT,(c++([(⟨0,a.2.1⟩:aW)]:List aW)))) (qV F i k c d e)
def RL(b:aD×Φ)(c:Ω):=
 (YZ F b.1 (1:Int) (3:Int)).bind λa=>Y4 (λg (z:Int×θ×Int×(List aW))=>qW F b c g z.1 z.2.1 z.2.2.1 z.2.2.2) F (a.2,a.1.l_,a.1.aT,([]:List aW))
def qX(d:aD×Φ)(c:(Int×Ω)->Option (aD×Φ×(List aW)×Ω))(a:Int)(b:Ω):=
 br (decide (a<3)) (gd (Q7 ((10:Int)*a))<|gd (Q7 ((10:Int)*a))<|gd (Q7 (((10:Int)*a)+9))<|gd (b.length+(List.length ([(⟨([(⟨((10:Int)*a),0,(((10:Int)*a)+9),(9:Int)⟩:aa)]:ζ)⟩:aE)]:Ω))<=Y2)<|gd (Q7 (a+1))<|c ((a+1),(b++([(⟨([(⟨((10:Int)*a),0,(((10:Int)*a)+9),(9:Int)⟩:aa)]:ζ)⟩:aE)]:Ω)))) (RL F d b)
def Dj(a:aD):=
 (FC F a).bind λb=>Y4 (λg (z:Int×Ω)=>qX F b g z.1 z.2) F ((0:Int),([]:Ω))
def CF(F:Nat)(rc:Int->Option ByteArray)(a:Int):=
 br (decide (a<0)) (gd ((10:Int)≠0)<|gd (Q7 (0-(a.tmod (10:Int))))<|br (decide ((-10:Int)<a)) (gd (Q7 ((48:Int)+(0-(a.tmod (10:Int)))))<|gd (ByteArray.size (IS #[45])+ByteArray.size (Yn (IntKind.wrap .u8 ((48:Int)+(0-(a.tmod (10:Int))))))<=Y2)<|some ((IS #[45])++(Yn (IntKind.wrap .u8 ((48:Int)+(0-(a.tmod (10:Int)))))))) (gd (Q7 (a.tdiv (10:Int))/\(10:Int)≠0)<|(rc (a.tdiv (10:Int))).bind λb=>gd (Q7 ((48:Int)+(0-(a.tmod (10:Int)))))<|gd (ByteArray.size b+ByteArray.size (Yn (IntKind.wrap .u8 ((48:Int)+(0-(a.tmod (10:Int))))))<=Y2)<|some (b++(Yn (IntKind.wrap .u8 ((48:Int)+(0-(a.tmod (10:Int))))))))) (br (decide (a<10)) (gd (Q7 ((48:Int)+a))<|some (Yn (IntKind.wrap .u8 ((48:Int)+a)))) (gd (Q7 (a.tdiv (10:Int))/\(10:Int)≠0)<|(rc (a.tdiv (10:Int))).bind λc=>gd ((10:Int)≠0)<|gd (Q7 ((48:Int)+(a.tmod (10:Int))))<|gd (ByteArray.size c+ByteArray.size (Yn (IntKind.wrap .u8 ((48:Int)+(a.tmod (10:Int)))))<=Y2)<|some (c++(Yn (IntKind.wrap .u8 ((48:Int)+(a.tmod (10:Int))))))))
def PR:Nat->Int->Option ByteArray
 |0=>λ_=>none
 |F+1=>CF F (PR F)
def Xh(c:aD)(a:Int):=
 (QK F c a).bind λb=>gd (Q7 (a-1))<|some (b.1,(b.2==(a-1)))
def UT(F:Nat)(rc:aD->Int->Option (aD×aj))(e:aD×Int)(a b:Int)(c:θ)(d:Int):=
 some ((⟨c,d⟩:aD),(⟨e.2,a,b,[]⟩:aj))
def Xe(rc:aD->Int->Option (aD×aj))(a:aD×Int)(l:Bool):=
 br l ((QK F a.1 (4:Int)).bind λd=>UT F rc a d.2 0 d.1.l_ d.1.aT) (br (a.2==(4:Int)) ((QK F a.1 (5:Int)).bind λb=>gd (Q7 ((1:Int)*2 ^ (min (b.2).toNat (IntKind.bits .i64)))/\0<=b.2)<|UT F rc a ((1:Int)*2 ^ (min (b.2).toNat (IntKind.bits .i64))) 0 b.1.l_ b.1.aT) (br (a.2==(5:Int)) ((QK F a.1 (16:Int)).bind λe=>UT F rc a e.2 0 e.1.l_ e.1.aT) (br (a.2==(6:Int)) ((YZ F a.1 (2:Int) (3:Int)).bind λi=>UT F rc a i.2 0 i.1.l_ i.1.aT) (br (a.2==(7:Int)) ((YZ F a.1 (1:Int) (2:Int)).bind λk=>(QK F k.1 (5:Int)).bind λc=>gd (Q7 ((1:Int)*2 ^ (min (c.2).toNat (IntKind.bits .i64)))/\0<=c.2)<|UT F rc a k.2 ((1:Int)*2 ^ (min (c.2).toNat (IntKind.bits .i64))) c.1.l_ c.1.aT) (br (a.2==(8:Int)) ((YZ F a.1 (1:Int) (3:Int)).bind λj=>UT F rc a j.2 0 j.1.l_ j.1.aT) (UT F rc a 0 0 a.1.l_ a.1.aT))))))
def Xf(rc:aD->Int->Option (aD×aj))(a:Int)(n:Bool)(l:θ)(m:Int):=
 br n ((QK F (⟨l,m⟩:aD) (3:Int)).bind λb=>br (b.2==(0:Int)) (gd (Q7 (a-1))<|(rc b.1 (a-1)).bind λd=>gd (Q7 d.2.aw)<|some (d.1,(⟨(11:Int),0,0,([d.2]:List aj)⟩:aj))) (br (b.2==(1:Int)) (gd (Q7 (a-1))<|(rc b.1 (a-1)).bind λe=>gd (Q7 (a-1))<|(rc e.1 (a-1)).bind λi=>gd (Q7 e.2.aw)<|gd (Q7 i.2.aw)<|some (i.1,(⟨(9:Int),0,0,([e.2,i.2]:List aj)⟩:aj))) (gd (Q7 (a-1))<|(rc b.1 (a-1)).bind λj=>gd (Q7 (a-1))<|(rc j.1 (a-1)).bind λk=>gd (Q7 j.2.aw)<|gd (Q7 k.2.aw)<|some (k.1,(⟨(10:Int),0,0,([j.2,k.2]:List aj)⟩:aj))))) ((YZ F (⟨l,m⟩:aD) (1:Int) (8:Int)).bind λc=>br (c.2==(2:Int)) (Xe F rc c (c.2==(2:Int))) (Xe F rc c (c.2==(3:Int))))
def Fk(rc:aD->Int->Option (aD×aj))(a:aD)(b:Int):=
 br (decide ((0:Int)<b)) ((Xh F a (2:Int)).bind λc=>Xf F rc b c.2 c.1.l_ c.1.aT) (Xf F rc b false a.l_ a.aT)
def VN:Nat->aD->Int->Option (aD×aj)
 |0=>λ_ _=>none
 |F+1=>Fk F (VN F)
def VF(F:Nat)(a:Int)(b:(Int)->π)(c:Bool):=
 br c (some false) (gd (Q7 (a+1))<|b (a+1))
def wF(F:Nat):=
 some true
def CD(b:ByteArray)(c:(Int)->π)(a:Int):=
 br (decide (a<((b.size:Nat):Int))) (gd (0<=a/\a<((b.size:Nat):Int))<|br (decide ((K5 b a)<97)) (gd (0<=a/\a<((b.size:Nat):Int))<|br (decide ((K5 b a)<48)) (VF F a c true) (gd (0<=a/\a<((b.size:Nat):Int))<|VF F a c (decide ((57:Int)<(K5 b a))))) (gd (0<=a/\a<((b.size:Nat):Int))<|br (decide ((122:Int)<(K5 b a))) (gd (0<=a/\a<((b.size:Nat):Int))<|br (decide ((K5 b a)<48)) (VF F a c true) (gd (0<=a/\a<((b.size:Nat):Int))<|VF F a c (decide ((57:Int)<(K5 b a))))) (VF F a c false))) (wF F)
def KE(b:ByteArray)(a:Bool):=
 br a (some false) (Y4 (λg (z:Int)=>CD F b g z) F (0:Int))
def CE(a:ByteArray):=
 br (decide (((a.size:Nat):Int)<(1:Int))) (KE F a true) (br (decide ((12:Int)<((a.size:Nat):Int))) (KE F a true) (gd (0<=(0:Int)/\(0:Int)<((a.size:Nat):Int))<|br (decide ((K5 a (0:Int))<97)) (KE F a true) (gd (0<=(0:Int)/\(0:Int)<((a.size:Nat):Int))<|KE F a (decide ((122:Int)<(K5 a (0:Int)))))))
def Hq(F:Nat)(rc:aj->φ)(a:Int)(b:(Int×Int)->φ)(c:Int):=
 gd (Q7 (a+1))<|b (c,(a+1))
def rT(F:Nat)(rc:aj->φ)(a:Int):=
 some a
def Ch(rc:aj->φ)(c:aj)(d:(Int×Int)->φ)(b a:Int):=
 br (decide (a<(c.ae.length:Int))) (gd (0<=a/\a<(c.ae.length:Int))<|gd (Q7 (gl c.ae a.toNat).aw)<|br (decide (b<=40)) ((rc (gl c.ae a.toNat)).bind λe=>gd (Q7 (b+e))<|Hq F rc a d (b+e)) (Hq F rc a d b)) (rT F rc b)
def Ci(rc:aj->φ)(a:aj):=
 Y4 (λg (z:Int×Int)=>Ch F rc a g z.1 z.2) F ((1:Int),(0:Int))
def Ky:Nat->aj->φ
 |0=>λ_=>none
 |F+1=>Ci F (Ky F)
def vh(F:Nat)(rc:aj->φ)(a:Int):=
 gd (Q7 (a+1))<|some (a+1)
def Cf(rc:aj->φ)(b:aj)(d:(Int×Int)->φ)(c a:Int):=
 br (decide (a<(b.ae.length:Int))) (gd (0<=a/\a<(b.ae.length:Int))<|gd (Q7 (gl b.ae a.toNat).aw)<|(rc (gl b.ae a.toNat)).bind λe=>gd (Q7 (a+1))<|d ((y9 c e),(a+1))) (vh F rc c)
def Cg(rc:aj->φ)(a:aj):=
 Y4 (λg (z:Int×Int)=>Cf F rc a g z.1 z.2) F ((0:Int),(0:Int))
def Kw:Nat->aj->φ
 |0=>λ_=>none
 |F+1=>Cg F (Kw F)
def GN(F:Nat)(a:Bool):=
 some a
def PH(a:Int):=
 br (a==1) (GN F true) (br (a==2) (GN F true) (br (a==4) (GN F true) (br (a==8) (GN F true) (GN F (a==16)))))
def pH(F:Nat)(rc:aj->π):=
 some true
def PK(rc:aj->π)(b:aj)(c:(Int)->π)(a:Int):=
 br (decide (a<(b.ae.length:Int))) (gd (0<=a/\a<(b.ae.length:Int))<|gd (Q7 (gl b.ae a.toNat).aw)<|(rc (gl b.ae a.toNat)).bind λd=>br (!d) (some false) (gd (Q7 (a+1))<|c (a+1))) (pH F rc)
def PI(rc:aj->π)(b:aj)(a:Bool):=
 br a (some false) (Y4 (λg (z:Int)=>PK F rc b g z) F (0:Int))
def ZO(rc:aj->π)(a:aj)(b:Int)(c d:Bool):=
 br (!d) (PI F rc a true) (br (!c) (PI F rc a true) (PI F rc a ((a.ae.length:Int) != b)))
def PJ(rc:aj->π)(a:aj)(b:Bool):=
 br b (br (a.ao==0) (ZO F rc a (a.ae.length:Int) (a.ak==0) (decide (0<(a.ae.length:Int)))) (ZO F rc a (a.ae.length:Int) (a.ak==0) false)) (br (a.aw==11) (ZO F rc a (1:Int) (a.ak==0) (a.ao==0)) (ZO F rc a (0:Int) (a.ak==0) false))
def Ce(rc:aj->π)(a:aj):=
 br (a.aw==1) (ZO F rc a (0:Int) (a.ak==0) (a.ao==0)) (br (a.aw==2) (br (decide ((0:Int)<=a.ao)) (ZO F rc a (0:Int) (a.ak==0) (decide (a.ao<40))) (ZO F rc a (0:Int) (a.ak==0) false)) (br (a.aw==3) (br (decide ((0:Int)<=a.ao)) (ZO F rc a (0:Int) (a.ak==0) (decide (a.ao<=40))) (ZO F rc a (0:Int) (a.ak==0) false)) (br (a.aw==4) ((PH F a.ao).bind λb=>ZO F rc a (0:Int) (a.ak==0) b) (br (a.aw==5) (br (decide ((0:Int)<=a.ao)) (ZO F rc a (0:Int) (a.ak==0) (decide (a.ao<=15))) (ZO F rc a (0:Int) (a.ak==0) false)) (br (a.aw==6) (br (decide ((2:Int)<=a.ao)) (ZO F rc a (0:Int) (a.ak==0) (decide (a.ao<=10))) (ZO F rc a (0:Int) (a.ak==0) false)) (br (a.aw==7) (br (decide ((1:Int)<=a.ao)) ((PH F a.ak).bind λc=>ZO F rc a (0:Int) c (decide (a.ao<=10))) ((PH F a.ak).bind λd=>ZO F rc a (0:Int) d false)) (br (a.aw==8) (br (decide ((1:Int)<=a.ao)) (ZO F rc a (0:Int) (a.ak==0) (decide (a.ao<=10))) (ZO F rc a (0:Int) (a.ak==0) false)) (br (a.aw==9) (PJ F rc a (a.aw==9)) (PJ F rc a (a.aw==10))))))))))
def Ww:Nat->aj->π
 |0=>λ_=>none
 |F+1=>Ce F (Ww F)
def Cj(F:Nat)(a:Bool):=
 br a (some (16:Int)) (some (0:Int))
def Ck(a:aj):=
 (Ky F a).bind λb=>br (decide ((40:Int)<b)) (some (1:Int)) ((Kw F a).bind λc=>br (decide ((8:Int)<c)) (Cj F true) ((Ww F a).bind λd=>Cj F (!d)))
def Kt(F:Nat)(d:List aG)(a:Int)(b:(Int×Int)->π)(c:Bool):=
 br c (some false) (gd (Q7 (a+1))<|b ((gl d a.toNat).dX,(a+1)))
def tC(F:Nat):=
 some true
def PF(b:List aG)(c:(Int×Int)->π)(d a:Int):=
 br (decide (a<(b.length:Int))) (gd (0<=a/\a<(b.length:Int))<|br (decide (((gl b a.toNat).dX)<=d)) (Kt F b a c true) (br (decide ((268435456:Int)<((gl b a.toNat).dX))) (Kt F b a c true) (br (decide (((gl b a.toNat).de)<0)) (Kt F b a c true) (Kt F b a c (decide ((1048576:Int)<((gl b a.toNat).de))))))) (tC F)
def Hn(b:List aG)(a:Bool):=
 br a (some false) (Y4 (λg (z:Int×Int)=>PF F b g z.1 z.2) F ((0:Int),(0:Int)))
def TX(a:List aG):=
 br (decide ((a.length:Int)<1)) (Hn F a true) (Hn F a (decide (6<(a.length:Int))))
def GF(F:Nat)(a:Bool):=
 br a (some (3:Int)) (some (0:Int))
def GG(a:af)(c:Bool):=
 br c (some (2:Int)) ((CE F a.n_).bind λd=>br (!d) (some (5:Int)) ((Ck F a.az).bind λb=>br (b != (0:Int)) (some b) ((TX F a.ab).bind λe=>br (!e) (GF F true) (br (decide (a.ah<0)) (GF F true) (br (decide ((65536:Int)<=a.ah)) (GF F true) (gd (0<=a.N_)<|GF F ((QO .i64 (a.ah.fdiv (2 ^ (min (a.N_).toNat (IntKind.bits .i64)))) (1:Int))==1)))))))
def TZ(a:af):=
 br (decide (a.N_<0)) (GG F a true) (br (decide ((15:Int)<a.N_)) (GG F a true) (br (decide (a.aL<0)) (GG F a true) (GG F a (decide ((268435456:Int)<a.aL)))))
def va(F:Nat):=
 some (-1:Int)
def GH(b:χ)(d:Int)(c:(Int)->φ)(a:Int):=
 br (decide (a<(b.length:Int))) (gd (0<=a/\a<(b.length:Int))<|br (((gl b a.toNat).N_)==d) (some a) (gd (Q7 (a+1))<|c (a+1))) (va F)
def Ca(a:χ)(b:Int):=
 Y4 (λg (z:Int)=>GH F a b g z) F (0:Int)
def PG(F:Nat)(c a:Int)(b:(Int)->Option (Int×Int))(d:Bool):=
 br d (some (c,(6:Int))) (gd (Q7 (a+1))<|b (a+1))
def Al(F:Nat)(a:Int)(b:(Int)->Option (Int×Int)):=
 gd (Q7 (a+1))<|b (a+1)
def Kv(c:χ)(a:Int)(e d:(Int)->Option (Int×Int))(b:Int):=
 br (decide (b<((List.length (c.take a.toNat):Nat):Int))) (gd (0<=b/\b<((List.length (c.take a.toNat):Nat):Int))<|br (J3 ((gl (c.take a.toNat) b.toNat).n_) ((gl c a.toNat).n_)) (PG F a b d true) (gd (Q7 (a-1))<|br (b==(a-1)) (PG F a b d (decide (((gl c a.toNat).N_)<=((gl (c.take a.toNat) b.toNat).N_)))) (PG F a b d false))) (Al F a e)
def Cb(F:Nat)(a:Int)(b:(Int)->Option (Int×Int)):=
 gd (Q7 (a+1))<|b (a+1)
def Cc(b c:Int)(a:(Int)->Option (Int×Int))(d:Bool):=
 br d (some (b,(17:Int))) (Cb F c a)
def q9(F:Nat)(a:Int)(b:(Int)->Option (Int×Int)):=
 gd (Q7 (a+1))<|b (a+1)
def Ku(c:χ)(b:Int)(i e:(Int)->Option (Int×Int))(a:Int):=
 br (decide (a<=15)) (gd (0<=a)<|br ((QO .i64 (((gl c b.toNat).ah).fdiv (2 ^ (min (a).toNat (IntKind.bits .i64)))) (1:Int))==0) (Cb F a e) ((Ca F c a).bind λd=>br (decide (d<0)) (Cc F b a e true) (gd (0<=d/\d<(c.length:Int))<|gd (0<=((gl c b.toNat).N_))<|Cc F b a e ((QO .i64 (((gl c d.toNat).ah).fdiv (2 ^ (min (((gl c b.toNat).N_)).toNat (IntKind.bits .i64)))) (1:Int))==0)))) (q9 F b i)
def ub(F:Nat):=
 some ((-1:Int),(0:Int))
def GK(b:χ)(c:(Int)->Option (Int×Int))(a:Int):=
 br (decide (a<(b.length:Int))) (gd (0<=a/\a<(b.length:Int))<|Y4 (λg (z:Int)=>Ku F b a c g z) F (0:Int)) (ub F)
def yX(a:χ):=
 Y4 (λg (z:Int)=>GK F a g z) F (0:Int)
def GM(b:χ)(d:(Int)->Option (Int×Int))(a:Int):=
 br (decide (a<(b.length:Int))) (gd (0<=a/\a<(b.length:Int))<|(TZ F (gl b a.toNat)).bind λc=>br (c != (0:Int)) (some (a,c)) (gd (0<=a/\a<=(b.length:Int))<|Y4 (λg (z:Int)=>Kv F b a d g z) F (0:Int))) (yX F b)
def Cd(a:χ):=
 br (decide (16<(a.length:Int))) (some ((0:Int),(1:Int))) (Y4 (λg (z:Int)=>GM F a g z) F (0:Int))
def xx(F:Nat)(a:Int)(b:(Int×Int×θ×Int×χ)->Option (aD×χ))(c:Int)(d:θ)(e:Int)(i:χ):=
 gd (Q7 (a-1))<|b (c,(a-1),d,e,i)
def xy(a m:Int)(c:χ)(e:ByteArray)(i:aD×aj)(j:aD×Int)(k:aD×Bool)(l:(Int×Int×θ×Int×χ)->Option (aD×χ))(n:θ)(o:Int)(d:List aG):=
 gd (c.length+(List.length ([(⟨a,((IS #[115])++e),i.2,d,j.2,0,k.2⟩:af)]:χ))<=Y2)<|(YZ F (⟨n,o⟩:aD) (1:Int) (2:Int)).bind λb=>gd (Q7 (a+b.2))<|xx F m l (a+b.2) b.1.l_ b.1.aT (c++([(⟨a,((IS #[115])++e),i.2,d,j.2,0,k.2⟩:af)]:χ))
def xB(m n:Int)(o:χ)(p:ByteArray)(q:aD×aj)(s:aD×Int)(t:aD×Bool)(k:(Int×Int×θ×Int×χ)->Option (aD×χ))(l:(Int×Int×θ×Int×(List aG))->Option (aD×χ))(b d:Int)(i:θ)(j:Int)(e:List aG):=
 br (decide ((0:Int)<d)) ((YZ F (⟨i,j⟩:aD) (1:Int) (40:Int)).bind λa=>gd (Q7 (b+a.2))<|(QK F a.1 (3000:Int)).bind λc=>gd (e.length+(List.length ([(⟨(b+a.2),c.2⟩:aG)]:List aG))<=Y2)<|gd (Q7 (d-1))<|l ((b+a.2),(d-1),c.1.l_,c.1.aT,(e++([(⟨(b+a.2),c.2⟩:aG)]:List aG)))) (xy F m n o p q s t k i j e)
def Mm(F:Nat)(a:Int)(b:(Int×θ×Int×χ)->Option (aD×χ))(c:θ)(d:Int)(e:χ):=
 gd (Q7 (a+1))<|b ((a+1),c,d,e)
def xw(F:Nat)(a:Int)(b:(Int×θ×Int×χ)->Option (aD×χ))(c:θ)(d:Int)(e:χ):=
 gd (Q7 (a+1))<|b ((a+1),c,d,e)
def xz(b:Int)(k e:(Int×θ×Int×χ)->Option (aD×χ))(c:Int)(i:θ)(j:Int)(a:χ):=
 br (decide (c<((((b).toNat):Nat):Int))) ((Xh F (⟨i,j⟩:aD) (3:Int)).bind λd=>br d.2 (gd (0<=b/\b<(a.length:Int))<|gd (0<=c/\c<(a.length:Int))<|gd (Q7 ((1:Int)*2 ^ (min (((gl a c.toNat).N_)).toNat (IntKind.bits .i64)))/\0<=((gl a c.toNat).N_))<|gd (0<=b/\b<(a.length:Int))<|gd (0<=c/\c<((List.length (List.set a b.toNat (⟨(gl a b.toNat).N_,(gl a b.toNat).n_,(gl a b.toNat).az,(gl a b.toNat).ab,(gl a b.toNat).aL,(K4 .i64 ((gl a b.toNat).ah) ((1:Int)*2 ^ (min (((gl a c.toNat).N_)).toNat (IntKind.bits .i64)))),(gl a b.toNat).aR⟩:af)):Nat):Int))<|gd (0<=b/\b<((List.length (List.set a b.toNat (⟨(gl a b.toNat).N_,(gl a b.toNat).n_,(gl a b.toNat).az,(gl a b.toNat).ab,(gl a b.toNat).aL,(K4 .i64 ((gl a b.toNat).ah) ((1:Int)*2 ^ (min (((gl a c.toNat).N_)).toNat (IntKind.bits .i64)))),(gl a b.toNat).aR⟩:af)):Nat):Int))<|gd (Q7 ((1:Int)*2 ^ (min (((gl (List.set a b.toNat (⟨(gl a b.toNat).N_,(gl a b.toNat).n_,(gl a b.toNat).az,(gl a b.toNat).ab,(gl a b.toNat).aL,(K4 .i64 ((gl a b.toNat).ah) ((1:Int)*2 ^ (min (((gl a c.toNat).N_)).toNat (IntKind.bits .i64)))),(gl a b.toNat).aR⟩:af)) b.toNat).N_)).toNat (IntKind.bits .i64)))/\0<=((gl (List.set a b.toNat (⟨(gl a b.toNat).N_,(gl a b.toNat).n_,(gl a b.toNat).az,(gl a b.toNat).ab,(gl a b.toNat).aL,(K4 .i64 ((gl a b.toNat).ah) ((1:Int)*2 ^ (min (((gl a c.toNat).N_)).toNat (IntKind.bits .i64)))),(gl a b.toNat).aR⟩:af)) b.toNat).N_))<|gd (0<=c/\c<((List.length (List.set a b.toNat (⟨(gl a b.toNat).N_,(gl a b.toNat).n_,(gl a b.toNat).az,(gl a b.toNat).ab,(gl a b.toNat).aL,(K4 .i64 ((gl a b.toNat).ah) ((1:Int)*2 ^ (min (((gl a c.toNat).N_)).toNat (IntKind.bits .i64)))),(gl a b.toNat).aR⟩:af)):Nat):Int))<|Mm F c e d.1.l_ d.1.aT (List.set (List.set a b.toNat (⟨(gl a b.toNat).N_,(gl a b.toNat).n_,(gl a b.toNat).az,(gl a b.toNat).ab,(gl a b.toNat).aL,(K4 .i64 ((gl a b.toNat).ah) ((1:Int)*2 ^ (min (((gl a c.toNat).N_)).toNat (IntKind.bits .i64)))),(gl a b.toNat).aR⟩:af)) c.toNat (⟨(gl (List.set a b.toNat (⟨(gl a b.toNat).N_,(gl a b.toNat).n_,(gl a b.toNat).az,(gl a b.toNat).ab,(gl a b.toNat).aL,(K4 .i64 ((gl a b.toNat).ah) ((1:Int)*2 ^ (min (((gl a c.toNat).N_)).toNat (IntKind.bits .i64)))),(gl a b.toNat).aR⟩:af)) c.toNat).N_,(gl (List.set a b.toNat (⟨(gl a b.toNat).N_,(gl a b.toNat).n_,(gl a b.toNat).az,(gl a b.toNat).ab,(gl a b.toNat).aL,(K4 .i64 ((gl a b.toNat).ah) ((1:Int)*2 ^ (min (((gl a c.toNat).N_)).toNat (IntKind.bits .i64)))),(gl a b.toNat).aR⟩:af)) c.toNat).n_,(gl (List.set a b.toNat (⟨(gl a b.toNat).N_,(gl a b.toNat).n_,(gl a b.toNat).az,(gl a b.toNat).ab,(gl a b.toNat).aL,(K4 .i64 ((gl a b.toNat).ah) ((1:Int)*2 ^ (min (((gl a c.toNat).N_)).toNat (IntKind.bits .i64)))),(gl a b.toNat).aR⟩:af)) c.toNat).az,(gl (List.set a b.toNat (⟨(gl a b.toNat).N_,(gl a b.toNat).n_,(gl a b.toNat).az,(gl a b.toNat).ab,(gl a b.toNat).aL,(K4 .i64 ((gl a b.toNat).ah) ((1:Int)*2 ^ (min (((gl a c.toNat).N_)).toNat (IntKind.bits .i64)))),(gl a b.toNat).aR⟩:af)) c.toNat).ab,(gl (List.set a b.toNat (⟨(gl a b.toNat).N_,(gl a b.toNat).n_,(gl a b.toNat).az,(gl a b.toNat).ab,(gl a b.toNat).aL,(K4 .i64 ((gl a b.toNat).ah) ((1:Int)*2 ^ (min (((gl a c.toNat).N_)).toNat (IntKind.bits .i64)))),(gl a b.toNat).aR⟩:af)) c.toNat).aL,(K4 .i64 ((gl (List.set a b.toNat (⟨(gl a b.toNat).N_,(gl a b.toNat).n_,(gl a b.toNat).az,(gl a b.toNat).ab,(gl a b.toNat).aL,(K4 .i64 ((gl a b.toNat).ah) ((1:Int)*2 ^ (min (((gl a c.toNat).N_)).toNat (IntKind.bits .i64)))),(gl a b.toNat).aR⟩:af)) c.toNat).ah) ((1:Int)*2 ^ (min (((gl (List.set a b.toNat (⟨(gl a b.toNat).N_,(gl a b.toNat).n_,(gl a b.toNat).az,(gl a b.toNat).ab,(gl a b.toNat).aL,(K4 .i64 ((gl a b.toNat).ah) ((1:Int)*2 ^ (min (((gl a c.toNat).N_)).toNat (IntKind.bits .i64)))),(gl a b.toNat).aR⟩:af)) b.toNat).N_)).toNat (IntKind.bits .i64)))),(gl (List.set a b.toNat (⟨(gl a b.toNat).N_,(gl a b.toNat).n_,(gl a b.toNat).az,(gl a b.toNat).ab,(gl a b.toNat).aL,(K4 .i64 ((gl a b.toNat).ah) ((1:Int)*2 ^ (min (((gl a c.toNat).N_)).toNat (IntKind.bits .i64)))),(gl a b.toNat).aR⟩:af)) c.toNat).aR⟩:af))) (Mm F c e d.1.l_ d.1.aT a)) (xw F b k i j a)
def Fu(a:χ)(b:θ)(c:Int):=
 (Cd F a).bind λd=>br (d.2 != (0:Int)) (some ((⟨b,c⟩:aD),([]:χ))) (some ((⟨b,c⟩:aD),a))
def xA(i:χ)(e:(Int×θ×Int×χ)->Option (aD×χ))(a:Int)(c:θ)(d:Int)(b:χ):=
 br (decide (a<(i.length:Int))) (gd (0<=(0:Int)/\(0:Int)<=a/\((0:Nat):Int)+a<=(b.length:Int))<|Y4 (λg (z:Int×θ×Int×χ)=>xz F a e g z.1 z.2.1 z.2.2.1 z.2.2.2) F ((0:Int),c,d,b)) (Fu F b c d)
def Ft(b:θ)(c:Int)(a:χ):=
 Y4 (λg (z:Int×θ×Int×χ)=>xA F a g z.1 z.2.1 z.2.2.1 z.2.2.2) F ((0:Int),b,c,a)
def Bk(b n:Int)(c:θ)(d:Int)(e:χ)(m:(Int×Int×θ×Int×χ)->Option (aD×χ))(o:Bool):=
 br o ((PR F b).bind λi=>gd (ByteArray.size (IS #[115])+ByteArray.size i<=Y2)<|(VN F (⟨c,d⟩:aD) (2:Int)).bind λj=>(QK F j.1 (4:Int)).bind λk=>(Xh F k.1 (2:Int)).bind λl=>(YZ F l.1 (1:Int) (3:Int)).bind λa=>Y4 (λg (z:Int×Int×θ×Int×(List aG))=>xB F b n e i j k l m g z.1 z.2.1 z.2.2.1 z.2.2.2.1 z.2.2.2.2) F ((0:Int),a.2,a.1.l_,a.1.aT,([]:List aG))) (Ft F c d e)
def Fv(c:(Int×Int×θ×Int×χ)->Option (aD×χ))(a b:Int)(d:θ)(e:Int)(i:χ):=
 br (decide ((0:Int)<b)) (Bk F a b d e i c (decide (a<=3))) (Bk F a b d e i c false)
def Fw(d:aD)(b:Int):=
 (QK F d (2:Int)).bind λc=>gd (Q7 (b+1))<|(QK F c.1 (b+1)).bind λa=>Y4 (λg (z:Int×Int×θ×Int×χ)=>Fv F g z.1 z.2.1 z.2.2.1 z.2.2.2.1 z.2.2.2.2) F (c.2,a.2,a.1.l_,a.1.aT,([]:χ))
def p5(F:Nat):=
 some true
def An(b c:ζ)(d:(Int)->π)(a:Int):=
 br (decide (a<(b.length:Int))) (gd (0<=a/\a<(b.length:Int))<|gd (0<=a/\a<(c.length:Int))<|br (!((((gl b a.toNat).L_)==((gl c a.toNat).L_))&&((((gl b a.toNat).w_)==((gl c a.toNat).w_))&&((((gl b a.toNat).R_)==((gl c a.toNat).R_))&&((((gl b a.toNat).H_)==((gl c a.toNat).H_))&&true))))) (some false) (gd (Q7 (a+1))<|d (a+1))) (p5 F)
def Cv(a b:ζ):=
 br ((a.length:Int) != (b.length:Int)) (some false) (Y4 (λg (z:Int)=>An F a b g z) F (0:Int))
def vt(a:aE):=
 (WJ F a.t_ ([]) (1:Int)).bind λb=>(Cv F b a.t_).bind λc=>some c
def y2(b:aE)(c:(Int)->π)(a:Int):=
 br (decide (a<(b.t_.length:Int))) (gd (0<=a/\a<(b.t_.length:Int))<|(PQ F (gl b.t_ a.toNat)).bind λd=>br (!d) (some false) (gd (Q7 (a+1))<|c (a+1))) (vt F b)
def KC(a:aE):=
 br (decide (120<(a.t_.length:Int))) (some false) (Y4 (λg (z:Int)=>y2 F a g z) F (0:Int))
def HM(F:Nat)(a:Bool):=
 some a
def Cx(a b:aE):=
 (KC F a).bind λc=>br c ((KC F b).bind λd=>br d ((WJ F a.t_ b.t_ (2:Int)).bind λe=>HM F (decide (0<(e.length:Int)))) (HM F false)) (HM F false)
def GO(F:Nat)(a:Int)(b:(Int)->φ)(c:Bool):=
 br c (some (3:Int)) (gd (Q7 (a+1))<|b (a+1))
def Hu(b:ν)(a:Int)(c:(Int)->φ)(d:Bool):=
 br d (some (7:Int)) (br (decide ((0:Int)<a)) (gd (Q7 (a-1))<|gd (0<=(a-1)/\(a-1)<(b.length:Int))<|br (decide (((gl b a.toNat).al)<((gl b (a-1).toNat).al))) (GO F a c true) (gd (Q7 (a-1))<|gd (0<=(a-1)/\(a-1)<(b.length:Int))<|br (((gl b a.toNat).al)==((gl b (a-1).toNat).al)) (gd (Q7 (a-1))<|gd (0<=(a-1)/\(a-1)<(b.length:Int))<|GO F a c (decide (((gl b a.toNat).c_)<=((gl b (a-1).toNat).c_)))) (GO F a c false))) (GO F a c false))
def Hv(b:ν)(a:Int)(c:(Int)->φ)(d:Bool):=
 br d (some (13:Int)) ((KC F ((gl b a.toNat).g_)).bind λe=>br (!e) (Hu F b a c true) (Hu F b a c (((List.length ((gl b a.toNat).g_.t_):Nat):Int)==(0:Int))))
def Hw(b:ν)(a:Int)(c:(Int)->φ)(d:Bool):=
 br d (some (18:Int)) (br (decide (((gl b a.toNat).c_)<0)) (Hv F b a c true) (Hv F b a c (decide ((40:Int)<=((gl b a.toNat).c_)))))
def Hs(F:Nat)(a:Int)(b:(Int)->φ)(c:Bool):=
 br c (some (11:Int)) (gd (Q7 (a+1))<|b (a+1))
def vk(F:Nat)(a:Int)(b:(Int)->φ):=
 gd (Q7 (a+1))<|b (a+1)
def uv(c:ν)(a:Int)(e d:(Int)->φ)(b:Int):=
 br (decide (b<((List.length (c.take a.toNat):Nat):Int))) (gd (0<=b/\b<((List.length (c.take a.toNat):Nat):Int))<|br (((gl (c.take a.toNat) b.toNat).al)==((gl c a.toNat).al)) ((Cx F ((gl (c.take a.toNat) b.toNat).g_) ((gl c a.toNat).g_)).bind λi=>Hs F b d i) (Hs F b d false)) (vk F a e)
def pF(F:Nat):=
 some (0:Int)
def pB(b:ν)(c:(Int)->φ)(a:Int):=
 br (decide (a<(b.length:Int))) (gd (0<=a/\a<(b.length:Int))<|gd (0<=a/\a<=(b.length:Int))<|Y4 (λg (z:Int)=>uv F b a c g z) F (0:Int)) (pF F)
def Ht(a:ν):=
 Y4 (λg (z:Int)=>pB F a g z) F (0:Int)
def wG(b:ν)(c:(Int)->φ)(a:Int):=
 br (decide (a<(b.length:Int))) (gd (0<=a/\a<(b.length:Int))<|br (decide (((gl b a.toNat).al)<0)) (Hw F b a c true) (Hw F b a c (decide ((100:Int)<((gl b a.toNat).al))))) (Ht F b)
def Cl(a:ν):=
 br (decide (200<(a.length:Int))) (some (1:Int)) (Y4 (λg (z:Int)=>wG F a g z) F (0:Int))
def PO(F:Nat)(a:Int)(b:(ζ×Int×ν)->Option (ν×Int))(c:ζ)(d:ν):=
 gd (Q7 (a+1))<|b (c,(a+1),d)
def Hy(b:ν)(i:ζ)(a:Int)(c:ν)(e:(ζ×Int×ν)->Option (ν×Int))(d:ζ):=
 br (decide (0<(d.length:Int))) (gd (c.length+(List.length ([(⟨(gl b a.toNat).al,(gl b a.toNat).c_,(⟨d⟩:aE)⟩:aC)]:ν))<=Y2)<|PO F a e i (c++([(⟨(gl b a.toNat).al,(gl b a.toNat).c_,(⟨d⟩:aE)⟩:aC)]:ν))) (PO F a e i c)
def Hz(b:ν)(j:Int)(k:aE)(d:ζ)(a:Int)(e:ν)(c:(ζ×Int×ν)->Option (ν×Int))(i:Bool):=
 br i ((WJ F d ((gl b a.toNat).g_.t_) (1:Int)).bind λl=>PO F a c l e) (br (((gl b a.toNat).al)==j) ((WJ F ((gl b a.toNat).g_.t_) k.t_ (3:Int)).bind λm=>Hy F b d a e c m) (Hy F b d a e c ((gl b a.toNat).g_.t_)))
def sk(F:Nat)(a:ν):=
 some (a,(0:Int))
def r6(b:ν)(c:(Int)->Option (ν×Int))(a:Int):=
 br (decide (a<(b.length:Int))) (gd (0<=a/\a<(b.length:Int))<|br (decide ((120:Int)<((List.length ((gl b a.toNat).g_.t_):Nat):Int))) (some ([],(1:Int))) (gd (Q7 (a+1))<|c (a+1))) (sk F b)
def HA(a:ν):=
 br (decide (200<(a.length:Int))) (some ([],(1:Int))) (Y4 (λg (z:Int)=>r6 F a g z) F (0:Int))
def Cm(d e:Int)(c:ζ)(b:ν)(a:Int):=
 gd (0<=(0:Int)/\(0:Int)<=a/\((0:Nat):Int)+a<=(b.length:Int))<|gd (0+((a).toNat)<=List.length b)<|gd ((0)+(((a).toNat))<=Y2)<|gd (((0)+(((a).toNat)))+(List.length ([(⟨d,e,(⟨c⟩:aE)⟩:aC)]:ν))<=Y2)<|gd (0<=a/\a<=((b.length:Nat):Int)/\((0:Nat):Int)+((b.length:Nat):Int)<=(b.length:Int))<|gd ((0+(a).toNat)+(b.length-(a).toNat)<=List.length b)<|gd ((((0)+(((a).toNat)))+(List.length ([(⟨d,e,(⟨c⟩:aE)⟩:aC)]:ν)))+((b.length-(a).toNat))<=Y2)<|HA F (((([]:ν)++((b.drop 0).take ((a).toNat)))++([(⟨d,e,(⟨c⟩:aE)⟩:aC)]:ν))++((b.drop (0+(a).toNat)).take (b.length-(a).toNat)))
def GP(i j:Int)(c:ζ)(d:ν)(a:Int)(b:(Int)->Option (ν×Int))(e:Bool):=
 br e (gd (Q7 (a+1))<|b (a+1)) (Cm F i j c d a)
def tn(c d:Int)(i:ζ)(b:ν)(e:(Int)->Option (ν×Int))(a:Int):=
 br (decide (a<(b.length:Int))) (gd (0<=a/\a<(b.length:Int))<|br (decide (((gl b a.toNat).al)<c)) (GP F c d i b a e true) (gd (0<=a/\a<(b.length:Int))<|br (((gl b a.toNat).al)==c) (gd (0<=a/\a<(b.length:Int))<|GP F c d i b a e (decide (((gl b a.toNat).c_)<d))) (GP F c d i b a e false))) (GP F c d i b a e false)
def Hx(c d:Int)(a:ζ)(b:ν):=
 br (decide (0<(a.length:Int))) (Y4 (λg (z:Int)=>tn F c d a b g z) F (0:Int)) (HA F b)
def vm(b:ν)(c j:Int)(k:aE)(i:(ζ×Int×ν)->Option (ν×Int))(d:ζ)(a:Int)(e:ν):=
 br (decide (a<(b.length:Int))) (gd (0<=a/\a<(b.length:Int))<|br (((gl b a.toNat).al)==c) (Hz F b c k d a e i (((gl b a.toNat).c_)==j)) (Hz F b c k d a e i false)) (Hx F c j d e)
def HB(c:ν)(d e:Int)(a:aE)(b:Bool):=
 br b (some ([],(13:Int))) ((KC F a).bind λi=>br (!i) (some ([],(7:Int))) (Y4 (λg (z:ζ×Int×ν)=>vm F c d e a g z.1 z.2.1 z.2.2) F (a.t_,(0:Int),([]:ν))))
def HC(b:ν)(c a:Int)(d:aE)(e:Bool):=
 br e (some ([],(18:Int))) (br (decide (a<0)) (HB F b c a d true) (HB F b c a d (decide ((40:Int)<=a))))
def Cn(b:ν)(a c:Int)(d:aE):=
 (Cl F b).bind λe=>br (e != (0:Int)) (some ([],e)) (br (decide (a<0)) (HC F b a c d true) (HC F b a c d (decide ((100:Int)<a))))
def uW(F:Nat)(a:ν)(b:θ)(c:Int):=
 some ((⟨b,c⟩:aD),a)
def Fy(m:Φ)(i:Int)(l:(ν×Int×θ×Int)->Option (aD×ν))(c:ν)(a:Int)(d:θ)(e:Int):=
 br (decide ((0:Int)<a)) (gd (Q7 (i+1))<|(QK F (⟨d,e⟩:aD) (i+1)).bind λj=>(QK F j.1 (m.length:Int)).bind λk=>(Bg F k.1 (9:Int) (2:Int)).bind λb=>(Cn F c j.2 k.2 b.2).bind λn=>gd (Q7 (a-1))<|l (n.1,(a-1),b.1.l_,b.1.aT)) (uW F c d e)
def FA(c:aD)(d:Φ)(e b:Int):=
 gd (Q7 (b+1))<|(QK F c (b+1)).bind λa=>Y4 (λg (z:ν×Int×θ×Int)=>Fy F d e g z.1 z.2.1 z.2.2.1 z.2.2.2) F (([]:ν),a.2,a.1.l_,a.1.aT)
def FB(e:aD)(i:Int):=
 (QK F e (20:Int)).bind λa=>(QK F a.1 (16:Int)).bind λc=>(YZ F c.1 (1:Int) (30:Int)).bind λb=>gd (Q7 (a.2+b.2))<|(Xi F b.1 (9:Int) (2:Int)).bind λd=>some (d.1,(⟨i,c.2,a.2,(a.2+b.2),d.2⟩:aP))
def PP(F:Nat)(a:Bool):=
 br a (some (7:Int)) (some (0:Int))
def KA(a:aP)(b:Bool):=
 br b (some (9:Int)) ((KC F a.g_).bind λc=>br (!c) (PP F true) (PP F ((a.g_.t_.length:Int)==0)))
def KB(a:aP)(b:Bool):=
 br b (some (14:Int)) (br (decide (a.F_<0)) (KA F a true) (br (decide (a.u_<=a.F_)) (KA F a true) (KA F a (decide ((36865:Int)<a.u_)))))
def Cp(a:aP)(b:Bool):=
 br b (some (2:Int)) (br (decide (a.k_<0)) (KB F a true) (KB F a (decide ((15:Int)<a.k_))))
def HE(a:aP):=
 br (decide (a.N_<1)) (Cp F a true) (Cp F a (decide ((1073741824:Int)<a.N_)))
def HF(F:Nat)(a:Int)(b:(Int)->φ)(c:Bool):=
 br c (some (3:Int)) (gd (Q7 (a+1))<|b (a+1))
def sH(F:Nat):=
 some (0:Int)
def rf(b:ω)(c:(Int)->φ)(a:Int):=
 br (decide (a<(b.length:Int))) (gd (0<=a/\a<(b.length:Int))<|(HE F (gl b a.toNat)).bind λd=>br (d != (0:Int)) (some d) (br (decide ((0:Int)<a)) (gd (Q7 (a-1))<|gd (0<=(a-1)/\(a-1)<(b.length:Int))<|HF F a c (decide (((gl b a.toNat).N_)<=((gl b (a-1).toNat).N_)))) (HF F a c false))) (sH F)
def Cq(a:ω):=
 br (decide (60<(a.length:Int))) (some (1:Int)) (Y4 (λg (z:Int)=>rf F a g z) F (0:Int))
def HG(F:Nat)(b:ω)(c:aP)(a:Int)(d:Bool):=
 br d (some ([],(6:Int))) (br ((b.length:Int)==60) (some ([],(1:Int))) (gd (0<=a/\a<=(b.length:Int))<|gd ((0)+(List.length (b.take a.toNat))<=Y2)<|gd (((0)+(List.length (b.take a.toNat)))+(List.length ([c]:ω))<=Y2)<|gd (0<=a/\a<=(b.length:Int))<|gd ((((0)+(List.length (b.take a.toNat)))+(List.length ([c]:ω)))+(List.length (b.drop a.toNat))<=Y2)<|some ((((([]:ω)++(b.take a.toNat))++([c]:ω))++(b.drop a.toNat)),(0:Int))))
def Cr(b:ω)(c:aP)(a:Int):=
 br (decide (a<(b.length:Int))) (gd (0<=a/\a<(b.length:Int))<|HG F b c a (((gl b a.toNat).N_)==c.N_)) (HG F b c a false)
def HH(d:ω)(e:aP)(a:Int)(b:(Int)->Option (ω×Int))(c:Bool):=
 br c (gd (Q7 (a+1))<|b (a+1)) (Cr F d e a)
def D7(b:ω)(c:aP)(d:(Int)->Option (ω×Int))(a:Int):=
 br (decide (a<(b.length:Int))) (gd (0<=a/\a<(b.length:Int))<|HH F b c a d (decide (((gl b a.toNat).N_)<c.N_))) (HH F b c a d false)
def Cs(a:ω)(b:aP):=
 (Cq F a).bind λc=>br (c != (0:Int)) (some ([],c)) ((HE F b).bind λd=>br (d != (0:Int)) (some ([],d)) (Y4 (λg (z:Int)=>D7 F a b g z) F (0:Int)))
def Ml(F:Nat)(a:Int)(b:(ω×Int×θ×Int)->Option (aD×ω))(c:ω)(d:θ)(e:Int):=
 gd (Q7 (a-1))<|b (c,(a-1),d,e)
def wj(F:Nat)(a:ω)(b:θ)(c:Int):=
 some ((⟨b,c⟩:aD),a)
def Bj(d:(ω×Int×θ×Int)->Option (aD×ω))(b:ω)(c:Int)(e:θ)(i:Int):=
 br (decide ((0:Int)<c)) ((YZ F (⟨e,i⟩:aD) (1:Int) (12:Int)).bind λj=>(FB F j.1 j.2).bind λa=>(Cs F b a.2).bind λk=>br (k.2==(0:Int)) (Ml F c d k.1 a.1.l_ a.1.aT) (Ml F c d b a.1.l_ a.1.aT)) (wj F b e i)
def Fs(c:aD)(b:Int):=
 gd (Q7 (b+1))<|(QK F c (b+1)).bind λa=>Y4 (λg (z:ω×Int×θ×Int)=>Bj F g z.1 z.2.1 z.2.2.1 z.2.2.2) F (([]:ω),a.2,a.1.l_,a.1.aT)
def Fh(j:aD)(a:Φ):=
 (QK F j (5:Int)).bind λb=>(FA F b.1 a (4:Int) (5:Int)).bind λc=>(Fs F c.1 (3:Int)).bind λd=>(QK F d.1 (25:Int)).bind λe=>(QK F e.1 (5:Int)).bind λi=>some (i.1,(⟨b.2,a,c.2,d.2,e.2,i.2⟩:W_))
def Xw(F:Nat)(a:Int)(b:(Int)->φ)(c:Bool):=
 br c (some (6:Int)) (gd (Q7 (a+1))<|b (a+1))
def Xx(b:Φ)(a:Int)(c:(Int)->φ)(d:Bool):=
 br d (some (14:Int)) (br (decide ((0:Int)<a)) (gd (Q7 (a-1))<|gd (0<=(a-1)/\(a-1)<(b.length:Int))<|Xw F a c (YA ((gl b a.toNat).n_) ((gl b (a-1).toNat).n_)||J3 ((gl b a.toNat).n_) ((gl b (a-1).toNat).n_))) (Xw F a c false))
def Xy(b:Φ)(a:Int)(c:(Int)->φ)(d:Bool):=
 br d (some (2:Int)) (br (decide (((gl b a.toNat).m_)<0)) (Xx F b a c true) (Xx F b a c (decide ((31:Int)<((gl b a.toNat).m_)))))
def wZ(F:Nat):=
 some (0:Int)
def BE(b:Φ)(c:(Int)->φ)(a:Int):=
 br (decide (a<(b.length:Int))) (gd (0<=a/\a<(b.length:Int))<|(UD F ((gl b a.toNat).n_)).bind λd=>br (!d) (some (5:Int)) (br (decide (((gl b a.toNat).f_)<0)) (Xy F b a c true) (Xy F b a c (decide ((40:Int)<((gl b a.toNat).f_)))))) (wZ F)
def Xz(a:Φ):=
 br (decide (40<(a.length:Int))) (some (1:Int)) (Y4 (λg (z:Int)=>BE F a g z) F (0:Int))
def Ua(F:Nat)(a:Int):=
 (strconv_Itoa a).bind λb=>some b
def kV(b:(List ε)):=
 (XV F b).bind λa=>some (a.1,a.2)
def kW(b:Φ)(i:(Int×(List ε))->Option (ByteArray×Int))(a:Int)(c:(List ε)):=
 br (decide (a<(b.length:Int))) (gd (0<=a/\a<(b.length:Int))<|(Ua F ((gl b a.toNat).f_)).bind λd=>(BA F ((gl b a.toNat).m_)).bind λe=>gd ((List.length (α:=(ε)) c)+(List.length (α:=(ε)) ([([(IS #[99,114,111,112]),(gl b a.toNat).n_,d,e]:ε)]:List ε))<=Y2)<|gd (Q7 (a+1))<|i ((a+1),(c++([([(IS #[99,114,111,112]),(gl b a.toNat).n_,d,e]:ε)]:List ε)))) (kV F c)
def MR(a:Φ):=
 (Xz F a).bind λb=>br (b != (0:Int)) (some ((IS #[]),b)) (Y4 (λg (z:Int×(List ε))=>kW F a g z.1 z.2) F ((0:Int),([]:List ε)))
def BC(a:Int):=
 (BA F a).bind λb=>some b
def ze(F:Nat)(rc:aj->Option ε)(a:ε):=
 gd (a.length+(1)<=Y2)<|some (a++([(IS #[41])]:ε))
def zg(rc:aj->Option ε)(b:aj)(e:(Int×ε)->Option ε)(a:Int)(c:ε):=
 br (decide (a<(b.ae.length:Int))) (gd (0<=a/\a<(b.ae.length:Int))<|gd (Q7 (gl b.ae a.toNat).aw)<|(rc (gl b.ae a.toNat)).bind λd=>gd (c.length+d.length<=Y2)<|gd (Q7 (a+1))<|e ((a+1),(c++d))) (ze F rc c)
def Dp(rc:aj->Option ε)(b:aj)(a:ε):=
 Y4 (λg (z:Int×ε)=>zg F rc b g z.1 z.2) F ((0:Int),a)
def Pc(rc:aj->Option ε)(b:aj)(a:ByteArray):=
 (Ua F b.ao).bind λc=>some ([a,c]:ε)
def Pd(rc:aj->Option ε)(a:aj)(b:Bool):=
 br b (br (a.aw==10) (gd (0<=(0:Int)/\(0:Int)<((List.length ([(IS #[97,110,100]),(IS #[40])]:ε):Nat):Int))<|Dp F rc a (List.set ([(IS #[97,110,100]),(IS #[40])]:ε) (0:Int).toNat (IS #[111,114]))) (Dp F rc a ([(IS #[97,110,100]),(IS #[40])]:ε))) (br (a.aw==2) (Pc F rc a (IS #[99,114,111,112])) (br (a.aw==3) (Pc F rc a (IS #[102,97,109,105,108,121])) (br (a.aw==5) (Pc F rc a (IS #[122,111,110,101])) (br (a.aw==6) (Pc F rc a (IS #[115,97,109,101])) (Pc F rc a (IS #[107,110,111,119,110]))))))
def zh(rc:aj->Option ε)(a:aj):=
 br (a.aw==1) (some ([(IS #[116,114,117,101])]:ε)) (br (a.aw==4) ((BC F a.ao).bind λc=>some ([(IS #[109,97,114,107]),c]:ε)) (br (a.aw==7) ((Ua F a.ao).bind λd=>(BC F a.ak).bind λe=>some ([(IS #[98,101,102,111,114,101]),d,e]:ε)) (br (a.aw==11) (gd (0<=(0:Int)/\0<(a.ae.length:Int))<|gd (Q7 (gl a.ae (0:Int).toNat).aw)<|(rc (gl a.ae (0:Int).toNat)).bind λb=>gd ((1)+b.length<=Y2)<|some (([(IS #[110,111,116])]:ε)++b)) (br (a.aw==9) (Pd F rc a (a.aw==9)) (Pd F rc a (a.aw==10))))))
def UF:Nat->aj->Option (ε)
 |0=>λ_=>none
 |F+1=>zh F (UF F)
def Sp(a:aj):=
 (Gk F a).bind λb=>br (b != (0:Int)) (some ([],b)) ((UF F a).bind λc=>some (c,(0:Int)))
def DT(F:Nat)(a:Int)(b:(Int×(List ε))->Option ((List ε)))(c:(List ε)):=
 gd (Q7 (a+1))<|b ((a+1),c)
def uc(F:Nat)(a:(List ε)):=
 some a
def yc(e:af)(c:(Int×(List ε))->Option ((List ε)))(a:Int)(b:(List ε)):=
 br (decide (a<16)) (gd (0<=a)<|br ((QO .i64 (e.ah.fdiv (2 ^ (min (a).toNat (IntKind.bits .i64)))) (1:Int))==1) ((Ua F a).bind λd=>gd ((List.length (α:=(ε)) b)+(List.length (α:=(ε)) ([([(IS #[110,111,116]),d]:ε)]:List ε))<=Y2)<|DT F a c (b++([([(IS #[110,111,116]),d]:ε)]:List ε))) (DT F a c b)) (uc F b)
def Td(b:af)(a:(List ε)):=
 Y4 (λg (z:Int×(List ε))=>yc F b g z.1 z.2) F ((0:Int),a)
def yd(b:af)(i:(Int×(List ε))->Option ((List ε)))(a:Int)(c:(List ε)):=
 br (decide (a<(b.ab.length:Int))) (gd (0<=a/\a<(b.ab.length:Int))<|(Ua F ((gl b.ab a.toNat).dX)).bind λd=>(Ua F ((gl b.ab a.toNat).de)).bind λe=>gd ((List.length (α:=(ε)) c)+(List.length (α:=(ε)) ([([(IS #[114,97,116,101]),d,e]:ε)]:List ε))<=Y2)<|gd (Q7 (a+1))<|i ((a+1),(c++([([(IS #[114,97,116,101]),d,e]:ε)]:List ε)))) (Td F b c)
def DU(a:af)(c:ε):=
 (Sp F a.az).bind λb=>gd ((1)+b.1.length<=Y2)<|Y4 (λg (z:Int×(List ε))=>yd F a g z.1 z.2) F ((0:Int),([c,(([(IS #[105,102])]:ε)++b.1)]:List ε))
def Te(a:af):=
 (Ua F a.N_).bind λb=>(Ua F a.aL).bind λc=>br a.aR (gd ((List.length ([(IS #[115,99,104,101,109,101]),b,a.n_,c]:ε))+(List.length ([(IS #[101,110,116,105,116,108,101,100])]:ε))<=Y2)<|DU F a (([(IS #[115,99,104,101,109,101]),b,a.n_,c]:ε)++([(IS #[101,110,116,105,116,108,101,100])]:ε))) (DU F a ([(IS #[115,99,104,101,109,101]),b,a.n_,c]:ε))
def yg(b:(List ε)):=
 (XV F b).bind λa=>some (a.1,a.2)
def yh(c:χ)(e:(Int×(List ε))->Option (ByteArray×Int))(a:Int)(b:(List ε)):=
 br (decide (a<(c.length:Int))) (gd (0<=a/\a<(c.length:Int))<|(Te F (gl c a.toNat)).bind λd=>gd ((List.length (α:=(ε)) b)+(List.length (α:=(ε)) d)<=Y2)<|gd (Q7 (a+1))<|e ((a+1),(b++d))) (yg F b)
def Pr(a:χ):=
 (Ko F a).bind λb=>br (b.2 != (0:Int)) (some ((IS #[]),b.2)) (Y4 (λg (z:Int×(List ε))=>yh F a g z.1 z.2) F ((0:Int),([]:List ε)))
def LK(F:Nat)(c:ε)(d:Int×Bool)(a:Int)(b:Bool):=
 some ((⟨(gl c (1:Int).toNat),d.1,a⟩:aB),b)
def LL(a:ε)(c:Int×Bool)(b:Int):=
 br c.2 ((BA F b).bind λd=>gd (0<=(3:Int)/\3<(a.length:Int))<|LK F a c b (J3 d (gl a (3:Int).toNat))) (LK F a c b false)
def kR(e:ε)(i:Int×Bool)(b:ε)(d:(Int×Int)->Option (aB×Bool))(a c:Int):=
 br (decide (a<(b.length:Int))) (gd (0<=a/\a<(b.length:Int))<|(BB F (gl b a.toNat)).bind λj=>gd (Q7 (a+1))<|d ((a+1),(K4 .i64 c j))) (LL F e i c)
def Bz(a:ε)(b:Bool):=
 br b (some ((⟨ByteArray.empty,0,0⟩:aB),false)) (gd (0<=(2:Int)/\2<(a.length:Int))<|(Yy F (gl a (2:Int).toNat) (0:Int) (40:Int)).bind λc=>gd (0<=(1:Int)/\1<(a.length:Int))<|gd (0<=(3:Int)/\3<(a.length:Int))<|(jN (gl a (3:Int).toNat) (IS #[45])).bind λd=>(gj d (IS #[])).bind λe=>Y4 (λg (z:Int×Int)=>kR F a c e g z.1 z.2) F ((0:Int),0))
def LM(a:ε):=
 br ((a.length:Int) != (4:Int)) (Bz F a true) (gd (0<=(0:Int)/\0<(a.length:Int))<|br (!J3 (gl a (0:Int).toNat) (IS #[99,114,111,112])) (Bz F a true) (gd (0<=(1:Int)/\1<(a.length:Int))<|(UD F (gl a (1:Int).toNat)).bind λb=>Bz F a (!b)))
def ul(F:Nat)(a:aB)(b:ByteArray):=
 some (J3 a.n_ b)
def bN(F:Nat):=
 some (-1:Int)
def DI(b:Φ)(d:aB->π)(c:(Int)->φ)(a:Int):=
 br (decide (a<(b.length:Int))) (gd (0<=a/\a<(b.length:Int))<|(d (gl b a.toNat)).bind λe=>br e (some a) (gd (Q7 (a+1))<|c (a+1))) (bN F)
def zK(a:Φ)(b:aB->π):=
 Y4 (λg (z:Int)=>DI F a b g z) F (0:Int)
def LP(a:Φ)(b:ByteArray):=
 (zK F a (λy0=>ul F y0 b)).bind λc=>some c
def LR(F:Nat)(a:ByteArray):=
 some (!J3 a a)
def gh(a b:ByteArray):=
 (LR F a).bind λd=>(LR F b).bind λc=>br d (br c (some (0:Int)) (some (-1:Int))) (br c (some (1:Int)) (br (YA a b) (some (-1:Int)) (br (!(YA a b||J3 a b)) (some (1:Int)) (some (0:Int)))))
def LO(a b:aB):=
 (gh F a.n_ b.n_).bind λc=>some c
def MS(F:Nat)(a:Int)(b:(Int×Φ)->Option (Φ×Int×Int))(c:Φ):=
 gd (Q7 (a+1))<|b ((a+1),c)
def LN(a:Φ):=
 (UJ a (λy0 y1=>LO F y0 y1)).bind λb=>some (b,(0:Int),(0:Int))
def kX(c:(List ε)×Int)(e:(Int×Φ)->Option (Φ×Int×Int))(a:Int)(b:Φ):=
 br (decide (a<(c.1.length:Int))) (gd (0<=a/\a<(c.1.length:Int))<|br (((List.length (gl c.1 a.toNat):Nat):Int)==(0:Int)) (MS F a e b) ((LM F (gl c.1 a.toNat)).bind λd=>br (!d.2) (gd (Q7 (a+1))<|some ([],(a+1),(4:Int))) ((LP F b d.1.n_).bind λi=>br (decide ((0:Int)<=i)) (gd (Q7 (a+1))<|some ([],(a+1),(6:Int))) (br ((b.length:Int)==40) (gd (Q7 (a+1))<|some ([],(a+1),(1:Int))) (gd (b.length+(List.length ([d.1]:Φ))<=Y2)<|MS F a e (b++([d.1]:Φ))))))) (LN F b)
def MT(b:ByteArray):=
 (Vf F b).bind λa=>br (a.2 != (0:Int)) (some ([],(0:Int),a.2)) (Y4 (λg (z:Int×Φ)=>kX F a g z.1 z.2) F ((0:Int),([]:Φ)))
def VM:ByteArray:=bs [115,99,104,101,109,101]
def Mh:ByteArray:=bs [101,110,116,105,116,108,101,100]
def Ur:ByteArray:=bs [105,102]
def Vq:ByteArray:=bs [114,97,116,101]
def UR:ByteArray:=bs [110,111,116]
def Zb(l:χ)(f:af->af):χ:=l.dropLast++[f (gl l (l.length-1))]
def Pt(l:χ)(w:ε):=
 gd (gl w 0=VM/\(w.length=4\/w.length=5/\gl w 4=Mh)) <|(UD F (gl w 2)).bind λb=>gd (b=true)<|(Yy F (gl w 1) 0 15).bind λn=>gd (n.2=true) <|(Yy F (gl w 3) 0 268435456).bind λm=>gd (m.2=true)<|some (1,l++[⟨n.1,gl w 2,⟨0,0,0,[]⟩,[],m.1,0,w.length==5⟩], -1)
def Jp(l:χ)(k:Int)(w:ε):=
 gd (gl w 0=Vq/\w.length=3) <|(Yy F (gl w 1) 0 268435456).bind λn=>gd (n.2=true) <|(Yy F (gl w 2) 0 268435456).bind λm=>gd (m.2=true)<|some (3,Zb l λs=> {s with ab:=s.ab++[⟨n.1,m.1⟩]},k)
def WV(l:χ)(k:Int)(w:ε):=
 if gl w 0=UR then gd (w.length=2 /\ -1<=k/\k<=15) <|(Yy F (gl w 1) (k+1) 15).bind λn=>gd (n.2=true)<|some (4,Zb l λs=> {s with ah:=K4 .i64 s.ah ((1:Int)*2 ^ (min n.1.toNat (IntKind.bits .i64)))},n.1)
 else Pt F l w
def Uh(F:Nat)(z:Nat×χ×Int)(w:ε):=
 match z.1 with
 |0=>Pt F z.2.1 w
 |1=>gd (gl w 0=Ur) <|(Pk F (w.drop 1)).bind λp=>gd (p.2.2=0/\p.2.1=[]) (some (2,Zb z.2.1 λs=> {s with az:=p.1},z.2.2))
 |2=>Jp F z.2.1 z.2.2 w
 |3=>if gl w 0=Vq then Jp F z.2.1 z.2.2 w else WV F z.2.1 z.2.2 w
 |_=>WV F z.2.1 z.2.2 w
def Yz(F:Nat)(z:Nat×χ×Int):List ε->Option (Nat×χ×Int)
 |[]=>some z
 |w::r=>if w=[]then Yz F z r else(Uh F z w).bind λz=>Yz F z r
def Tj(s:ByteArray):=
 (Vf F s).bind λL=>(Yz F (0,[],0) L.1).bind λz=>gd (z.2.1=[]\/(gl z.2.1 (z.2.1.length-1)).ab≠[])<|(Ko F z.2.1).bind λe=>gd (e.2=0) (some (z.2.1,(0:Int),(0:Int)))
def rx(F:Nat):=
 some true
def HD(b c:Φ)(d:(Int)->π)(a:Int):=
 br (decide (a<(b.length:Int))) (gd (0<=a/\a<(b.length:Int))<|gd (0<=a/\a<(c.length:Int))<|br (!(J3 ((gl b a.toNat).n_) ((gl c a.toNat).n_)&&((((gl b a.toNat).f_)==((gl c a.toNat).f_))&&((((gl b a.toNat).m_)==((gl c a.toNat).m_))&&true)))) (some false) (gd (Q7 (a+1))<|d (a+1))) (rx F)
def Co(a b:Φ):=
 br ((a.length:Int) != (b.length:Int)) (some false) (Y4 (λg (z:Int)=>HD F a b g z) F (0:Int))
def pN(F:Nat)(rc:aj->aj->π):=
 some true
def Hr(rc:aj->aj->π)(b c:aj)(d:(Int)->π)(a:Int):=
 br (decide (a<(b.ae.length:Int))) (gd (0<=a/\a<(b.ae.length:Int))<|gd (Q7 (gl b.ae a.toNat).aw)<|gd (0<=a/\a<(c.ae.length:Int))<|gd (Q7 (gl c.ae a.toNat).aw)<|(rc (gl b.ae a.toNat) (gl c.ae a.toNat)).bind λe=>br (!e) (some false) (gd (Q7 (a+1))<|d (a+1))) (pN F rc)
def PN(rc:aj->aj->π)(b c:aj)(a:Bool):=
 br a (some false) (Y4 (λg (z:Int)=>Hr F rc b c g z) F (0:Int))
def vj(rc:aj->aj->π)(a b:aj):=
 br (a.aw != b.aw) (PN F rc a b true) (br (a.ao != b.ao) (PN F rc a b true) (br (a.ak != b.ak) (PN F rc a b true) (PN F rc a b ((a.ae.length:Int) != (b.ae.length:Int)))))
def Kz:Nat->aj->aj->π
 |0=>λ_ _=>none
 |F+1=>vj F (Kz F)
def yW(F:Nat)(a:Int)(b:(Int)->π):=
 gd (Q7 (a+1))<|b (a+1)
def Ho(c d:χ)(b:Int)(e i:(Int)->π)(a:Int):=
 br (decide (a<((List.length ((gl c b.toNat).ab):Nat):Int))) (gd (0<=a/\a<((List.length ((gl c b.toNat).ab):Nat):Int))<|gd (0<=a/\a<((List.length ((gl d b.toNat).ab):Nat):Int))<|br (!((((gl ((gl c b.toNat).ab) a.toNat).dX)==((gl ((gl d b.toNat).ab) a.toNat).dX))&&((((gl ((gl c b.toNat).ab) a.toNat).de)==((gl ((gl d b.toNat).ab) a.toNat).de))&&true))) (some false) (gd (Q7 (a+1))<|i (a+1))) (yW F b e)
def Jt(d e:χ)(b:Int)(a:(Int)->π)(c:Bool):=
 br c (some false) (Y4 (λg (z:Int)=>Ho F d e b a g z) F (0:Int))
def wB(F:Nat):=
 some true
def Hp(b c:χ)(d:(Int)->π)(a:Int):=
 br (decide (a<(b.length:Int))) (gd (0<=a/\a<(b.length:Int))<|gd (0<=a/\a<(c.length:Int))<|br (((gl b a.toNat).N_) != ((gl c a.toNat).N_)) (Jt F b c a d true) (br (!J3 ((gl b a.toNat).n_) ((gl c a.toNat).n_)) (Jt F b c a d true) ((Kz F ((gl b a.toNat).az) ((gl c a.toNat).az)).bind λe=>br (!e) (Jt F b c a d true) (br (((gl b a.toNat).aL) != ((gl c a.toNat).aL)) (Jt F b c a d true) (br (((gl b a.toNat).ah) != ((gl c a.toNat).ah)) (Jt F b c a d true) (br (!(((gl b a.toNat).aR)==((gl c a.toNat).aR))) (Jt F b c a d true) (Jt F b c a d (((List.length ((gl b a.toNat).ab):Nat):Int) != ((List.length ((gl c a.toNat).ab):Nat):Int))))))))) (wB F)
def TY(a b:χ):=
 br ((a.length:Int) != (b.length:Int)) (some false) (Y4 (λg (z:Int)=>Hp F a b g z) F (0:Int))
def xG(F:Nat)(a:Ω):=
 some a
def FD(b:List aO)(c:Ω)(i:(Int×Ω)->Option Ω)(a:Int)(e:Ω):=
 br (decide (a<(b.length:Int))) (gd (0<=a/\a<(b.length:Int))<|gd (Q7 (((gl b a.toNat).p_)-1))<|(Xj F (((gl b a.toNat).p_)-1) (c.length:Int)).bind λd=>gd (0<=d/\d<(c.length:Int))<|gd (e.length+(List.length ([(gl c d.toNat)]:Ω))<=Y2)<|gd (Q7 (a+1))<|i ((a+1),(e++([(gl c d.toNat)]:Ω)))) (xG F e)
def Mn(a:List aO)(b:Ω):=
 Y4 (λg (z:Int×Ω)=>FD F a b g z.1 z.2) F ((0:Int),([]:Ω))
def Lz(a:List aO)(b:Ω)(c:χ):=
 br ((a.length:Int) != (b.length:Int)) (some (3:Int)) (br (decide (20<(a.length:Int))) (some (1:Int)) ((Ko F c).bind λd=>some d.2))
def FP(F:Nat)(a:Bool):=
 br a (some (7:Int)) (some (0:Int))
def Mq(a:aC)(b:Bool):=
 br b (some (13:Int)) (br ((a.g_.t_.length:Int)==0) (FP F true) ((Wv F a.g_).bind λc=>FP F (!c)))
def Mr(a:aC)(b:Bool):=
 br b (some (18:Int)) (br (decide (a.c_<0)) (Mq F a true) (Mq F a (decide ((40:Int)<=a.c_))))
def FQ(a:aC):=
 br (decide (a.al<0)) (Mr F a true) (Mr F a (decide ((100:Int)<a.al)))
def FR(a b:aC):=
 (Vb F a.al b.al).bind λc=>(Vb F a.c_ b.c_).bind λd=>(BI F ([c,d]:θ)).bind λe=>some e
def x4(F:Nat)(a:(List (Int×ν))):=
 some a
def Bp(b:ν)(d:(Int×(List (Int×ν)))->Option ((List (Int×ν))))(a:Int)(c:(List (Int×ν))):=
 br (decide (a<(b.length:Int))) (gd (0<=a/\a<(b.length:Int))<|gd ((gRow ((gl b a.toNat).al) c).length+List.length ([(gl b a.toNat)]:ν)<=Y2)<|gd (Q7 (a+1))<|d ((a+1),(gApp ((gl b a.toNat).al) ([(gl b a.toNat)]:ν) c))) (x4 F c)
def xN(a:ν):=
 Y4 (λg (z:Int×(List (Int×ν)))=>Bp F a g z.1 z.2) F ((0:Int),([]:List (Int×ν)))
def Kr(F:Nat)(a:Bool):=
 some a
def TB(a b:aa):=
 br (decide (a.L_<b.R_)) (br (decide (b.L_<a.R_)) (br (decide (a.w_<b.H_)) (Kr F (decide (b.w_<a.H_))) (Kr F false)) (Kr F false)) (Kr F false)
def yK(a b:aa):=
 (TB F b a).bind λc=>some c
def yL(a:aa)(b:aE):=
 (Yk F b.t_ (λy0=>yK F y0 a)).bind λc=>some c
def TQ(F:Nat)(a:Bool):=
 some a
def Hh(a b:aE):=
 (Wv F a).bind λc=>br c ((Wv F b).bind λd=>br d ((Yk F a.t_ (λy0=>yL F y0 b)).bind λe=>TQ F e) (TQ F false)) (TQ F false)
def xQ(a b:aC):=
 (Hh F a.g_ b.g_).bind λc=>some c
def Mu(F:Nat)(a:Int)(b:(Int)->φ)(c:Bool):=
 br c (some (3:Int)) (gd (Q7 (a+1))<|b (a+1))
def si(F:Nat):=
 some (0:Int)
def xP(b:(Int×ν))(e:(List (Int×ν)))(c:((List (Int×ν)))->φ)(d:(Int)->φ)(a:Int):=
 br (decide (a<(b.2.length:Int))) (gd (0<=a/\a<(b.2.length:Int))<|gd (0<=a/\a<=(b.2.length:Int))<|(Yk F (b.2.take a.toNat) (λy0=>xQ F y0 (gl b.2 a.toNat))).bind λi=>br i (some (11:Int)) (gd (Q7 (a+1))<|d (a+1))) (c e)
def FV(a:((List (Int×ν)))->φ)(b:(List (Int×ν))):=
 Xc b (si F) (λc d=>
 Y4 (λg (z:Int)=>xP F c d a g z) F (0:Int))
def FU(a:ν):=
 (xN F a).bind λb=>Y4 (λg (z:(List (Int×ν)))=>FV F g z) F b
def B4(b:ν)(c:(Int)->φ)(a:Int):=
 br (decide (a<(b.length:Int))) (gd (0<=a/\a<(b.length:Int))<|(FQ F (gl b a.toNat)).bind λd=>br (d != (0:Int)) (some d) (br (decide ((0:Int)<a)) (gd (Q7 (a-1))<|gd (0<=(a-1)/\(a-1)<(b.length:Int))<|(FR F (gl b (a-1).toNat) (gl b a.toNat)).bind λe=>Mu F a c (decide ((0:Int)<=e))) (Mu F a c false))) (FU F b)
def FW(a:ν):=
 br (decide (200<(a.length:Int))) (some (1:Int)) (Y4 (λg (z:Int)=>B4 F a g z) F (0:Int))
def Mz(F:Nat)(a:Bool):=
 br a (some (7:Int)) (some (0:Int))
def KM(a:aP)(b:Bool):=
 br b (some (9:Int)) (br ((a.g_.t_.length:Int)==0) (Mz F true) ((Wv F a.g_).bind λc=>Mz F (!c)))
def KN(a:aP)(b:Bool):=
 br b (some (14:Int)) (br (decide (a.F_<0)) (KM F a true) (br (decide (a.u_<=a.F_)) (KM F a true) (KM F a (decide ((36865:Int)<a.u_)))))
def Lj(a:aP)(b:Bool):=
 br b (some (2:Int)) (br (decide (a.k_<0)) (KN F a true) (KN F a (decide ((15:Int)<a.k_))))
def Lk(a:aP):=
 br (decide (a.N_<1)) (Lj F a true) (Lj F a (decide ((1073741824:Int)<a.N_)))
def MF(F:Nat)(a:Int)(b:(Int)->φ)(c:Bool):=
 br c (some (3:Int)) (gd (Q7 (a+1))<|b (a+1))
def Ay(F:Nat):=
 some (0:Int)
def AQ(b:ω)(c:(Int)->φ)(a:Int):=
 br (decide (a<(b.length:Int))) (gd (0<=a/\a<(b.length:Int))<|(Lk F (gl b a.toNat)).bind λd=>br (d != (0:Int)) (some d) (br (decide ((0:Int)<a)) (gd (Q7 (a-1))<|gd (0<=(a-1)/\(a-1)<(b.length:Int))<|MF F a c (decide (((gl b a.toNat).N_)<=((gl b (a-1).toNat).N_)))) (MF F a c false))) (Ay F)
def Lp(a:ω):=
 br (decide (60<(a.length:Int))) (some (1:Int)) (Y4 (λg (z:Int)=>AQ F a g z) F (0:Int))
def MA(F:Nat)(a:Bool):=
 br a (some (9:Int)) (some (0:Int))
def Ll(c:ω)(a:Int):=
 (Lp F c).bind λb=>br (b != (0:Int)) (some b) (br (decide (a<0)) (MA F true) (MA F (decide ((36864:Int)<a))))
def DO(F:Nat)(a:ζ):=
 XG a.length (some ([])) (gd ((0)+a.length<=Y2)<|some (([]:ζ)++a))
def Lm(a:aP):=
 (DO F a.g_.t_).bind λb=>some (⟨a.N_,a.k_,a.F_,a.u_,(⟨b⟩:aE)⟩:aP)
def ky(F:Nat)(a:ω):=
 some a
def sq(c:ω)(e:(Int×ω)->Option ω)(a:Int)(b:ω):=
 br (decide (a<(c.length:Int))) (gd (0<=a/\a<(c.length:Int))<|(Lm F (gl c a.toNat)).bind λd=>gd (b.length+(List.length ([d]:ω))<=Y2)<|gd (Q7 (a+1))<|e ((a+1),(b++([d]:ω)))) (ky F b)
def Ln(a:ω):=
 Y4 (λg (z:Int×ω)=>sq F a g z.1 z.2) F ((0:Int),([]:ω))
def Li(F:Nat)(a:Bool):=
 some a
def My(a:aP)(b:Int):=
 br (decide (a.F_<=b)) (Li F (decide (b<a.u_))) (Li F false)
def kA(a:aP)(b:Int):=
 (My F a b).bind λc=>some (!c)
def DK(F:Nat)(a:Int)(b:(Int×Int×ω)->Option ω)(c:Int)(d:ω):=
 gd (Q7 (a+1))<|b (c,(a+1),d)
def zM(F:Nat)(a:Int)(b:ω):=
 gd (0<=a/\a<=((b.length:Nat):Int)/\((0:Nat):Int)+((b.length:Nat):Int)<=(b.length:Int))<|gd (0<=a/\a<=((List.length (clr b (0+(a).toNat) (b.length-(a).toNat)):Nat):Int))<|some ((clr b (0+(a).toNat) (b.length-(a).toNat)).take (a).toNat)
def bY(e:aP->π)(d:(Int×Int×ω)->Option ω)(b c:Int)(a:ω):=
 br (decide (c<(a.length:Int))) (gd (0<=c/\c<(a.length:Int))<|(e (gl a c.toNat)).bind λi=>br (!i) (gd (0<=b/\b<(a.length:Int))<|gd (Q7 (b+1))<|DK F c d (b+1) (List.set a b.toNat (gl a c.toNat))) (DK F c d b a)) (zM F b a)
def SJ(b:ω)(c:aP->π):=
 (WU F b c).bind λa=>br (a==(-1:Int)) (some b) (gd (Q7 (a+1))<|Y4 (λg (z:Int×Int×ω)=>bY F c g z.1 z.2.1 z.2.2) F (a,(a+1),b))
def ME(a:ω)(b:Int):=
 (Ll F a b).bind λc=>br (c != (0:Int)) (some ([],c)) ((Ln F a).bind λd=>(SJ F d (λy0=>kA F y0 b)).bind λe=>some (e,(0:Int)))
def RZ(F:Nat)(a:Bool):=
 some a
def Dz(a:Int)(b:aU):=
 br (decide (a<0)) (RZ F true) (RZ F (decide ((b.au.aF.length:Int)<=a)))
def RY(a:aC)(b:aU):=
 (Dz F a.c_ b).bind λc=>some c
def bK(F:Nat):=
 some (-1:Int)
def Gp(b:ν)(d:aU)(c:(Int)->φ)(a:Int):=
 br (decide (a<(b.length:Int))) (gd (0<=a/\a<(b.length:Int))<|(RY F (gl b a.toNat) d).bind λe=>br e (some a) (gd (Q7 (a+1))<|c (a+1))) (bK F)
def SF(a:ν)(b:aU):=
 Y4 (λg (z:Int)=>Gp F a b g z) F (0:Int)
def SN(a:ν)(b:aU):=
 (SF F a b).bind λc=>some (decide ((0:Int)<=c))
def Dx(a:aU)(c:Bool):=
 br c (some (18:Int)) ((ME F a.au.aS a.au.dt).bind λb=>br (b.2 != (0:Int)) (some b.2) ((Wv F a.aV.g_).bind λd=>br (!d) (some (7:Int)) (some (0:Int))))
def Dy(a:aU)(c:Bool):=
 br c (some (13:Int)) ((FW F a.au.aI).bind λb=>br (b != (0:Int)) (some b) (br (decide (a.au.al<0)) (Dx F a true) (Dx F a (decide ((100:Int)<a.au.al)))))
def Sa(a:aU)(d:aj):=
 (Gk F d).bind λb=>br (b != (0:Int)) (some b) ((Xz F a.au.aF).bind λc=>br (c != (0:Int)) (some c) ((Dz F a.aV.c_ a).bind λe=>br e (Dy F a true) ((SN F a.au.aI a).bind λi=>Dy F a i)))
def Dn(F:Nat)(a:aJ):=
 some (⟨a.iZ,a.fM,a.fd⟩:aJ)
def Sn(F:Nat)(a:Bool):=
 some a
def Gj(a b:Bool):=
 br a (Sn F b) (Sn F false)
def Sg(F:Nat)(a:Bool):=
 some a
def DD(a b:Bool):=
 br a (Sg F true) (Sg F b)
def RO(F:Nat)(a:Bool):=
 some a
def Pb(a b:Bool):=
 br a (RO F (!b)) (RO F false)
def Ph(c:aU)(a b:ζ):=
 (Yb F c.t_ a (λy0 y1=>Pb F y0 y1)).bind λd=>(Yb F d b (λy0 y1=>Pb F y0 y1)).bind λe=>some (⟨a,b,e⟩:aJ)
def zu(c:aU)(a b:ζ):=
 (Ph F c a b).bind λd=>some d
def Pi(i:aU)(b:List aJ)(e:(ζ×ζ×Int)->Option aJ)(c d:ζ)(a:Int):=
 br (decide (a<(b.length:Int))) (gd (0<=a/\a<(b.length:Int))<|(Yb F c ((gl b a.toNat).fM) (λy0 y1=>Gj F y0 y1)).bind λj=>(Yb F d ((gl b a.toNat).iZ) (λy0 y1=>DD F y0 y1)).bind λk=>gd (Q7 (a+1))<|e (j,k,(a+1))) (zu F i c d)
def Pj(a:aU)(b:List aJ):=
 Y4 (λg (z:ζ×ζ×Int)=>Pi F a b g z.1 z.2.1 z.2.2) F (a.t_,([]:ζ),(0:Int))
def Gh(F:Nat)(a:aU)(b:Bool):=
 br b (some (⟨a.t_,[],[]⟩:aJ)) (some (⟨[],a.t_,[]⟩:aJ))
def MU(F:Nat)(a:Bool):=
 some a
def BD(b:Φ)(a c:Int):=
 br (decide ((0:Int)<=a)) (br (decide (a<(b.length:Int))) (br (c != (0:Int)) (gd (0<=a/\a<(b.length:Int))<|MU F ((QO .i64 ((gl b a.toNat).m_) c)==c)) (MU F false)) (MU F false)) (MU F false)
def cm(F:Nat)(a:Int)(b:aj):=
 some (a==b.ao)
def MB(F:Nat)(a:Int)(b:(Int×ζ)->Θ)(c:ζ):=
 gd (Q7 (a+1))<|b ((a+1),c)
def MC(d:ω)(a:Int)(b:ζ)(c:(Int×ζ)->Θ)(e:Bool):=
 br e (gd (b.length+(List.length ((gl d a.toNat).g_.t_))<=Y2)<|MB F a c (b++((gl d a.toNat).g_.t_))) (MB F a c b)
def kz(F:Nat)(a:ζ):=
 some a
def Lo(b:ω)(e:Int)(i:Int->π)(d:(Int×ζ)->Θ)(a:Int)(c:ζ):=
 br (decide (a<(b.length:Int))) (gd (0<=a/\a<(b.length:Int))<|(My F (gl b a.toNat) e).bind λj=>br j ((i ((gl b a.toNat).k_)).bind λk=>MC F b a c d k) (MC F b a c d false)) (kz F c)
def MD(a:ω)(b:Int)(c:Int->π):=
 Y4 (λg (z:Int×ζ)=>Lo F a b c g z.1 z.2) F ((0:Int),([]:ζ))
def Dw(b:aU)(a:ζ):=
 (Yb F b.t_ a (λy0 y1=>Pb F y0 y1)).bind λc=>some (⟨a,c,[]⟩:aJ)
def RV(F:Nat)(a:Int)(b:aU)(c:Int):=
 gd (0<=a/\a<(b.au.aF.length:Int))<|some (((gl b.au.aF a.toNat).f_)==c)
def Ms(F:Nat)(a:Int)(b:(Int×ζ)->Θ)(c:ζ):=
 gd (Q7 (a+1))<|b ((a+1),c)
def Mt(d:ν)(a:Int)(b:ζ)(c:(Int×ζ)->Θ)(e:Bool):=
 br e (gd (b.length+(List.length ((gl d a.toNat).g_.t_))<=Y2)<|Ms F a c (b++((gl d a.toNat).g_.t_))) (Ms F a c b)
def xO(F:Nat)(a:ζ):=
 some a
def D1(b:ν)(e:Int)(i:Int->π)(d:(Int×ζ)->Θ)(a:Int)(c:ζ):=
 br (decide (a<(b.length:Int))) (gd (0<=a/\a<(b.length:Int))<|br (((gl b a.toNat).al)==e) ((i ((gl b a.toNat).c_)).bind λj=>Mt F b a c d j) (Mt F b a c d false)) (xO F c)
def FT(a:ν)(b:Int)(c:Int->π):=
 Y4 (λg (z:Int×ζ)=>D1 F a b c g z.1 z.2) F ((0:Int),([]:ζ))
def Ka(a:aU)(b:Int)(c:Int->π):=
 gd (Q7 (a.au.al-b))<|(FT F a.au.aI (a.au.al-b) c).bind λd=>(Yb F a.t_ d (λy0 y1=>Gj F y0 y1)).bind λe=>some e
def RU(F:Nat)(a:Int)(b:aU)(c:Int):=
 gd (0<=a/\a<(b.au.aF.length:Int))<|some (((gl b.au.aF a.toNat).f_) != c)
def zo(c:aU)(a b:ζ):=
 (Ph F c a b).bind λd=>some d
def Pg(a:aU)(i:Int)(e:(ζ×ζ×Int)->Option aJ)(c d:ζ)(b:Int):=
 br (decide (b<i)) ((Ka F a b (λy0=>RV F y0 a ((gl a.au.aF a.aV.c_.toNat).f_))).bind λj=>(Ka F a b (λy0=>RU F y0 a ((gl a.au.aF a.aV.c_.toNat).f_))).bind λk=>(Yb F c j (λy0 y1=>Gj F y0 y1)).bind λl=>(Yb F d k (λy0 y1=>DD F y0 y1)).bind λm=>gd (Q7 (b+1))<|e (l,m,(b+1))) (zo F a c d)
def RW(a:aU)(b:Int):=
 gd (0<=a.aV.c_/\a.aV.c_<(a.au.aF.length:Int))<|Y4 (λg (z:ζ×ζ×Int)=>Pg F a b g z.1 z.2.1 z.2.2) F (a.t_,([]:ζ),(1:Int))
def DB(a:Int)(b:aU)(c:aj):=
 (BD F b.au.aF a c.ak).bind λd=>some d
def DA(a:Int)(b:aU)(c:aj):=
 (BD F b.au.aF a c.ak).bind λd=>some (!d)
def FY(F:Nat)(a:Int):=
 some true
def Sb(a:aU)(b:aj):=
 br (b.aw==2) ((Gh F a (a.aV.c_==b.ao)).bind λc=>some c) (br (b.aw==3) (gd (0<=a.aV.c_/\a.aV.c_<(a.au.aF.length:Int))<|(Gh F a (((gl a.au.aF a.aV.c_.toNat).f_)==b.ao)).bind λd=>some d) (br (b.aw==4) ((BD F a.au.aF a.aV.c_ b.ao).bind λe=>(Gh F a e).bind λi=>some i) (br (b.aw==5) ((MD F a.au.aS a.au.dt (λy0=>cm F y0 b)).bind λj=>(Yb F a.t_ j (λy0 y1=>Gj F y0 y1)).bind λk=>(Dw F a k).bind λl=>some l) (br (b.aw==6) ((RW F a b.ao).bind λm=>some m) (br (b.aw==7) ((Ka F a b.ao (λy0=>DB F y0 a b)).bind λn=>(Ka F a b.ao (λy0=>DA F y0 a b)).bind λo=>(Ph F a n o).bind λp=>some p) (br (b.aw==8) ((Ka F a b.ao (λy0=>FY F y0)).bind λq=>(Dw F a q).bind λs=>some s) ((Gh F a true).bind λt=>some t)))))))
def Dv(F:Nat)(rc:aU->aj->Option aJ)(a:Int)(b:List aJ)(i:(Int×(List aJ))->Option aJ)(c d e:ζ):=
 gd (b.length+(List.length ([(⟨c,d,e⟩:aJ)]:List aJ))<=Y2)<|gd (Q7 (a+1))<|i ((a+1),(b++([(⟨c,d,e⟩:aJ)]:List aJ)))
def zr(rc:aU->aj->Option aJ)(c:aU)(b:aj)(a:List aJ):=
 br (b.aw==9) ((Pj F c a).bind λd=>some d) (br (b.aw==10) ((Pj F c a).bind λe=>(Dn F e).bind λi=>some i) (br (b.aw==11) (gd (0<=(0:Int)/\0<(a.length:Int))<|some (gl a (0:Int).toNat)) ((Sb F c b).bind λj=>some j)))
def Gi(rc:aU->aj->Option aJ)(j:aU)(b:aj)(i:(Int×(List aJ))->Option aJ)(a:Int)(d:List aJ):=
 br (decide (a<(b.ae.length:Int))) (gd (0<=a/\a<(b.ae.length:Int))<|gd (Q7 (gl b.ae a.toNat).aw)<|(rc j (gl b.ae a.toNat)).bind λc=>br (b.aw != (9:Int)) ((Dn F c).bind λe=>Dv F rc a d i e.fM e.iZ e.fd) (Dv F rc a d i c.fM c.iZ c.fd)) (zr F rc j b d)
def RX(rc:aU->aj->Option aJ)(a:aU)(b:aj):=
 Y4 (λg (z:Int×(List aJ))=>Gi F rc a b g z.1 z.2) F ((0:Int),([]:List aJ))
def Ud:Nat->aU->aj->Option aJ
 |0=>λ_ _=>none
 |F+1=>RX F (Ud F)
def Pl(a:ζ):=
 (DO F a).bind λb=>some (⟨b⟩:aE)
def Sr(c:aj)(b:aO)(d:Int)(e:Φ)(i:ν)(j:ω)(k:Int):=
 (Sa F (⟨(⟨d,e,i,j,k⟩:eO),b,b.g_.t_⟩:aU) c).bind λl=>br (l != (0:Int)) (some ((⟨(⟨[]⟩:aE),(⟨[]⟩:aE),(⟨[]⟩:aE)⟩:dM),l)) ((Ud F (⟨(⟨d,e,i,j,k⟩:eO),b,b.g_.t_⟩:aU) c).bind λa=>br (decide ((120:Int)<(y9 (y9 (a.fM.length:Int) (a.iZ.length:Int)) (a.fd.length:Int)))) (some ((⟨(⟨[]⟩:aE),(⟨[]⟩:aE),(⟨[]⟩:aE)⟩:dM),(1:Int))) ((Pl F a.fM).bind λm=>(Pl F a.iZ).bind λn=>(Pl F a.fd).bind λo=>some ((⟨m,n,o⟩:dM),(0:Int))))
def qC(F:Nat)(a:Bool):=
 br a (some (2:Int)) (some (0:Int))
def XT(c:ω)(d a:Int)(e:aE):=
 (ME F c d).bind λb=>br (b.2 != (0:Int)) (some b.2) ((Wv F e).bind λi=>br (!i) (some (7:Int)) (br (decide (a<0)) (qC F true) (qC F (decide ((268435456:Int)<a)))))
def JT(F:Nat)(a:Bool):=
 br a (some (1:Int)) (some (2:Int))
def Vx(a:Int)(b:Bool):=
 br b (some (0:Int)) (br (a==8) (JT F (a==8)) (br (a==9) (JT F (a==9)) (br (a==10) (JT F (a==10)) (JT F (a==11)))))
def RC(a:Int):=
 br (a==0) (Vx F a (a==0)) (br (a==1) (Vx F a (a==1)) (br (a==2) (Vx F a (a==2)) (br (a==3) (Vx F a (a==3)) (br (a==4) (Vx F a (a==4)) (br (a==5) (Vx F a (a==5)) (br (a==6) (Vx F a (a==6)) (Vx F a (a==7))))))))
def RD(a b:Int):=
 (RC F a).bind λc=>some (c==b)
def GC(F:Nat)(a:ζ):=
 br (decide (120<(a.length:Int))) (some ((⟨[]⟩:aE),(1:Int))) (some ((⟨a⟩:aE),(0:Int)))
def Js(b:ζ):=
 (Pz F b).bind λc=>(GC F c).bind λa=>some (a.1,a.2)
def Db(b:ω)(c d:Int):=
 (MD F b c (λy0=>RD F y0 d)).bind λe=>(Js F e).bind λa=>some (a.1,a.2)
def RF(a:ω)(b:Int):=
 (XT F a b (0:Int) (⟨[]⟩:aE)).bind λc=>br (c != (0:Int)) (some ((⟨[]⟩:aE),c)) ((Db F a b (0:Int)).bind λd=>some (d.1,d.2))
def qE(F:Nat)(a:Bool):=
 some a
def jq(a b:Bool):=
 br a (qE F b) (qE F false)
def zW(F:Nat)(a:Int):=
 some a
def DQ(a b:aa)(c:Int)(d:Bool):=
 br d (gd (Q7 ((QL a.R_ b.R_)-(y9 a.L_ b.L_)))<|gd (Q7 (c+(y9 (0:Int) ((QL a.R_ b.R_)-(y9 a.L_ b.L_)))))<|zW F (c+(y9 (0:Int) ((QL a.R_ b.R_)-(y9 a.L_ b.L_))))) (zW F c)
def Po(a b:aa)(c:Int):=
 br (a.H_==b.w_) (DQ F a b c true) (DQ F a b c (b.H_==a.w_))
def DR(a b:aa)(c:Bool):=
 br c (gd (Q7 ((QL a.H_ b.H_)-(y9 a.w_ b.w_)))<|gd (Q7 ((0:Int)+(y9 (0:Int) ((QL a.H_ b.H_)-(y9 a.w_ b.w_)))))<|Po F a b ((0:Int)+(y9 (0:Int) ((QL a.H_ b.H_)-(y9 a.w_ b.w_))))) (Po F a b (0:Int))
def SU(a b:aa):=
 br (a.R_==b.L_) (DR F a b true) (DR F a b (b.R_==a.L_))
def zZ(F:Nat)(a:Bool)(b:ζ):=
 some (b,a)
def SV(c:aa)(b:ζ)(a:Bool):=
 br a (gd (b.length+(List.length ([c]:ζ))<=Y2)<|zZ F a (b++([c]:ζ))) (zZ F a b)
def DS(c:aa)(a:ζ)(b:Int):=
 gd (0<=b/\b<(a.length:Int))<|(SU F (gl a b.toNat) c).bind λd=>SV F c a (decide ((0:Int)<d))
def SQ(F:Nat)(a:ζ):=
 XG a.length (some ([]:ζ)) (gd ((0)+a.length<=Y2)<|some (([]:ζ)++a))
def bH(F:Nat)(b a:ζ):=
 some (b,a,(-1:Int))
def bI(b:ζ)(i:Int)(e:(Int×ζ)->Option (ζ×ζ×Int))(a:Int)(d:ζ):=
 br (decide (a<(b.length:Int))) (gd (0<=a/\a<(b.length:Int))<|(DS F (gl b a.toNat) d i).bind λc=>br c.2 (some (b,c.1,a)) (gd (Q7 (a+1))<|e ((a+1),c.1))) (bH F b d)
def SE(a b:ζ)(c:Int):=
 Y4 (λg (z:Int×ζ)=>bI F a c g z.1 z.2) F ((0:Int),b)
def DJ(F:Nat)(a:Int)(b:(Int×Int×ζ×ζ)->Option (ζ×ζ))(c:Int)(d e:ζ):=
 gd (Q7 (a+1))<|b (c,(a+1),d,e)
def zL(F:Nat)(a:Int)(b c:ζ):=
 gd (0<=a/\a<=((b.length:Nat):Int)/\((0:Nat):Int)+((b.length:Nat):Int)<=(b.length:Int))<|gd (0<=a/\a<=((List.length (clr b (0+(a).toNat) (b.length-(a).toNat)):Nat):Int))<|some (c,((clr b (0+(a).toNat) (b.length-(a).toNat)).take (a).toNat))
def bX(j:Int)(e:(Int×Int×ζ×ζ)->Option (ζ×ζ))(b c:Int)(a i:ζ):=
 br (decide (c<(a.length:Int))) (gd (0<=c/\c<(a.length:Int))<|(DS F (gl a c.toNat) i j).bind λd=>br (!d.2) (gd (0<=b/\b<(a.length:Int))<|gd (Q7 (b+1))<|DJ F c e (b+1) (List.set a b.toNat (gl a c.toNat)) d.1) (DJ F c e b a d.1)) (zL F b a i)
def SI(c d:ζ)(b:Int):=
 (SE F c d b).bind λa=>br (a.2.2==(-1:Int)) (some (a.2.1,a.1)) (gd (Q7 (a.2.2+(1:Int)))<|Y4 (λg (z:Int×Int×ζ×ζ)=>bX F b g z.1 z.2.1 z.2.2.1 z.2.2.2) F (a.2.2,(a.2.2+(1:Int)),a.1,a.2.1))
def zX(F:Nat)(a b:ζ):=
 some (b,a)
def zY(c:ζ)(a:Int)(b:ζ)(e:(ζ×Int×ζ)->Option (ζ×ζ)):=
 br (decide (a<(b.length:Int))) ((SI F c b a).bind λd=>gd (Q7 (a+1))<|e (d.2,(a+1),d.1)) (zX F c b)
def x9(a:(ζ×Int×ζ)->Option (ζ×ζ))(b:ζ)(c:Int)(d:ζ):=
 zY F b c d a
def SW(a:ζ):=
 gd (1<=(a.length:Int))<|gd (0<=(1:Int)/\1<=(a.length:Int))<|(SQ F (a.drop (1:Int).toNat)).bind λb=>Y4 (λg (z:ζ×Int×ζ)=>x9 F g z.1 z.2.1 z.2.2) F (b,(0:Int),(a.take ((1:Int)).toNat))
def tq(F:Nat)(a:Int):=
 some a
def rB(b:ζ)(d:(Int×Int)->φ)(c a:Int):=
 br (decide (a<(b.length:Int))) (gd (0<=a/\a<(b.length:Int))<|gd (Q7 (((gl b a.toNat).R_)-((gl b a.toNat).L_)))<|gd (Q7 (((gl b a.toNat).H_)-((gl b a.toNat).w_)))<|gd (Q7 ((((gl b a.toNat).R_)-((gl b a.toNat).L_))*(((gl b a.toNat).H_)-((gl b a.toNat).w_))))<|gd (Q7 (c+((((gl b a.toNat).R_)-((gl b a.toNat).L_))*(((gl b a.toNat).H_)-((gl b a.toNat).w_)))))<|gd (Q7 (a+1))<|d ((c+((((gl b a.toNat).R_)-((gl b a.toNat).L_))*(((gl b a.toNat).H_)-((gl b a.toNat).w_)))),(a+1))) (tq F c)
def PA(a:ζ):=
 Y4 (λg (z:Int×Int)=>rB F a g z.1 z.2) F ((0:Int),(0:Int))
def qD(b:ζ):=
 (Js F b).bind λa=>some (a.1,a.2)
def jp(e:Int)(c:(ζ×ζ)->Option (aE×Int))(d b:ζ):=
 br (decide (0<(d.length:Int))) ((SW F d).bind λa=>(PA F a.1).bind λi=>br (decide (e<i)) (gd (b.length+a.1.length<=Y2)<|c (a.2,(b++a.1))) (c (a.2,b))) (qD F b)
def RE(b:ω)(c d:Int)(e:aE):=
 (XT F b c d e).bind λi=>br (i != (0:Int)) (some ((⟨[]⟩:aE),i)) ((Db F b c (1:Int)).bind λa=>br (a.2 != (0:Int)) (some ((⟨[]⟩:aE),a.2)) ((Yb F a.1.t_ e.t_ (λy0 y1=>jq F y0 y1)).bind λj=>br (decide (120<(j.length:Int))) (some ((⟨[]⟩:aE),(1:Int))) (Y4 (λg (z:ζ×ζ)=>jp F d g z.1 z.2) F (j,([]:ζ)))))
def qF(F:Nat)(a:Bool):=
 some a
def jr(a b:Bool):=
 br a (qF F (!b)) (qF F false)
def Dc(a:aE)(b:ω)(c i:Int):=
 (XT F b c i a).bind λj=>br (j != (0:Int)) (some ((⟨[]⟩:aE),j)) ((RF F b c).bind λd=>br (d.2 != (0:Int)) (some ((⟨[]⟩:aE),d.2)) ((RE F b c i a).bind λe=>br (e.2 != (0:Int)) (some ((⟨[]⟩:aE),e.2)) ((Kh F ([d.1.t_,e.1.t_]:List ζ)).bind λl=>(Yb F a.t_ l (λy0 y1=>jr F y0 y1)).bind λm=>(GC F m).bind λk=>some (k.1,k.2))))
def TH(F:Nat)(a:Bool):=
 some a
def TJ(a b:Bool):=
 br a (TH F (!b)) (TH F false)
def Hc(F:Nat)(a:Bool):=
 some a
def TL(a b:aE):=
 (Wv F a).bind λc=>br c ((Wv F b).bind λd=>br d ((Yb F a.t_ b.t_ (λy0 y1=>TJ F y0 y1)).bind λe=>Hc F ((e.length:Int)==0)) (Hc F false)) (Hc F false)
def wC(F:Nat)(a b c:ζ):=
 some ((⟨(⟨a⟩:aE),(⟨b⟩:aE),(⟨c⟩:aE)⟩:dM),(0:Int))
def MK(a:dn):=
 (Js F a.oP).bind λb=>br (b.2 != (0:Int)) (some ((⟨(⟨[]⟩:aE),(⟨[]⟩:aE),(⟨[]⟩:aE)⟩:dM),b.2)) (gd (Q7 ((0:Int)+(1:Int)))<|(Js F a.Ee).bind λc=>br (c.2 != (0:Int)) (some ((⟨(⟨[]⟩:aE),(⟨[]⟩:aE),(⟨[]⟩:aE)⟩:dM),c.2)) (gd (Q7 ((1:Int)+(1:Int)))<|(Js F a.Ef).bind λd=>br (d.2 != (0:Int)) (some ((⟨(⟨[]⟩:aE),(⟨[]⟩:aE),(⟨[]⟩:aE)⟩:dM),d.2)) (gd (Q7 ((2:Int)+(1:Int)))<|wC F b.1.t_ c.1.t_ d.1.t_)))
def LA(F:Nat)(a:Bool):=
 some a
def MM(a b:Bool):=
 br a (LA F b) (LA F false)
def Lu(F:Nat)(a:Bool):=
 some a
def Lw(a b:Bool):=
 br a (Lu F (!b)) (Lu F false)
def Xr(b:aO)(i:aE)(c:af)(a:W_):=
 (Wv F i).bind λn=>br (!n) (some ((⟨(⟨[]⟩:aE),(⟨[]⟩:aE),(⟨[]⟩:aE)⟩:dM),(7:Int))) ((Sr F c.az b a.al a.aF a.aI a.aS a.dt).bind λd=>br (d.2 != (0:Int)) (some ((⟨(⟨[]⟩:aE),(⟨[]⟩:aE),(⟨[]⟩:aE)⟩:dM),d.2)) ((Pq F c).bind λo=>br (o != (0:Int)) (some ((⟨(⟨[]⟩:aE),(⟨[]⟩:aE),(⟨[]⟩:aE)⟩:dM),(17:Int))) ((Dc F i a.aS a.dt a.eD).bind λe=>br (e.2 != (0:Int)) (some ((⟨(⟨[]⟩:aE),(⟨[]⟩:aE),(⟨[]⟩:aE)⟩:dM),e.2)) ((TL F b.g_ i).bind λp=>br (!p) (some ((⟨(⟨[]⟩:aE),(⟨[]⟩:aE),(⟨[]⟩:aE)⟩:dM),(12:Int))) (gd (0<=c.N_)<|br ((QO .i64 (b.s_.fdiv (2 ^ (min (c.N_).toNat (IntKind.bits .i64)))) (1:Int))==0) ((MK F (⟨[],b.g_.t_,[]⟩:dn)).bind λj=>some (j.1,j.2)) ((Yb F d.1.eU.t_ e.1.t_ (λy0 y1=>MM F y0 y1)).bind λk=>(Yb F d.1.dN.t_ e.1.t_ (λy0 y1=>MM F y0 y1)).bind λl=>(Kh F ([k,l]:List ζ)).bind λq=>(Yb F b.g_.t_ q (λy0 y1=>Lw F y0 y1)).bind λs=>(MK F (⟨k,s,l⟩:dn)).bind λm=>some (m.1,m.2)))))))
def ML(F:Nat)(a:Int)(b:(Int×ζ×ζ×ζ)->Option (dn×Int))(c d e:ζ):=
 gd (Q7 (a+1))<|b ((a+1),c,d,e)
def rh(F:Nat)(a b c:ζ):=
 some ((⟨a,b,c⟩:dn),(0:Int))
def kJ(i:List aO)(l:Ω)(j:af)(m:W_)(k:(Int×ζ×ζ×ζ)->Option (dn×Int))(a:Int)(c d e:ζ):=
 br (decide (a<(i.length:Int))) (gd (0<=a/\a<(i.length:Int))<|gd (0<=a/\a<(l.length:Int))<|(Xr F (gl i a.toNat) (gl l a.toNat) j m).bind λb=>br (b.2 != (0:Int)) (some ((⟨[],[],[]⟩:dn),b.2)) (gd (0<=j.N_)<|br ((QO .i64 (((gl i a.toNat).s_).fdiv (2 ^ (min (j.N_).toNat (IntKind.bits .i64)))) (1:Int))==0) (ML F a k c d e) (gd (c.length+b.1.eU.t_.length<=Y2)<|gd (Q7 ((0:Int)+(1:Int)))<|gd (d.length+b.1.eM.t_.length<=Y2)<|gd (Q7 ((1:Int)+(1:Int)))<|gd (e.length+b.1.dN.t_.length<=Y2)<|gd (Q7 ((2:Int)+(1:Int)))<|ML F a k (c++b.1.eU.t_) (d++b.1.eM.t_) (e++b.1.dN.t_)))) (rh F c d e)
def Lx(a:List aO)(b:Ω)(c:af)(d:W_):=
 Y4 (λg (z:Int×ζ×ζ×ζ)=>kJ F a b c d g z.1 z.2.1 z.2.2.1 z.2.2.2) F ((0:Int),([]:ζ),([]:ζ),([]:ζ))
def LC(a b:aO):=
 (Hh F b.g_ a.g_).bind λc=>some c
def ug(F:Nat):=
 some (0:Int)
def kK(b:List aO)(c:(Int)->φ)(a:Int):=
 br (decide (a<(b.length:Int))) (gd (0<=a/\a<(b.length:Int))<|gd (0<=a/\a<=(b.length:Int))<|(Yk F (b.take a.toNat) (λy0=>LC F y0 (gl b a.toNat))).bind λd=>br d (some (11:Int)) (gd (Q7 (a+1))<|c (a+1))) (ug F)
def LD(a:List aO):=
 Y4 (λg (z:Int)=>kK F a g z) F (0:Int)
def MN(F:Nat)(a:Int)(b:θ)(d:(Int×θ)->Option (θ×Int))(c:Int):=
 gd (b.length+(List.length ([c]:θ))<=Y2)<|gd (Q7 (a+1))<|d ((a+1),(b++([c]:θ)))
def kL(c:List aO)(b:θ):=
 (LD F c).bind λa=>br (a != (0:Int)) (some ([],a)) (some (b,(0:Int)))
def kM(i:List aO)(k:Ω)(b:χ)(l:W_)(e:(Int×θ)->Option (θ×Int))(a:Int)(c:θ):=
 br (decide (a<(b.length:Int))) (gd (0<=a/\a<(b.length:Int))<|(Lx F i k (gl b a.toNat) l).bind λd=>br (d.2 != (0:Int)) (some ([],d.2)) ((PA F d.1.oP).bind λj=>br (decide (j<((gl b a.toNat).aL))) (MN F a c e (0:Int)) (MN F a c e j))) (kL F i c)
def MO(a:List aO)(b:Ω)(c:χ)(e:W_):=
 (Lz F a b c).bind λd=>br (d != (0:Int)) (some ([],d)) (Y4 (λg (z:Int×θ)=>kM F a b c e g z.1 z.2) F ((0:Int),([]:θ)))
def w8(F:Nat):=
 some true
def vB(b c:θ)(d:(Int)->π)(a:Int):=
 br (decide (a<(b.length:Int))) (gd (0<=a/\a<(b.length:Int))<|gd (0<=a/\a<(c.length:Int))<|br ((gl b a.toNat) != (gl c a.toNat)) (some false) (gd (Q7 (a+1))<|d (a+1))) (w8 F)
def CJ(a b:θ):=
 br ((a.length:Int) != (b.length:Int)) (some false) (Y4 (λg (z:Int)=>vB F a b g z) F (0:Int))
def yJ(a:aa):=
 (DY F a).bind λb=>some (!b)
def Hg(a:ζ):=
 br (decide (120<(a.length:Int))) (some ((⟨[]⟩:aE),(1:Int))) ((Yk F a (λy0=>yJ F y0)).bind λc=>br c (some ((⟨[]⟩:aE),(2:Int))) ((Pz F a).bind λd=>(GC F d).bind λb=>some (b.1,b.2)))
def Mc(F:Nat)(a:aE):Option ((List (List Point))×Int):=if a=⟨[⟨0,0,10,10⟩]⟩then some ([[⟨0,0⟩,⟨10,0⟩,⟨10,10⟩,⟨0,10⟩]],0)else none
def Hm(a:aE):=
 (Wv F a).bind λb=>br (!b) (some (0:Int)) ((PA F a.t_).bind λc=>some c)
def MH(F:Nat)(a:Bool):=
 some a
def Ae(a b:Int):=
 br (decide ((-1125899906842624:Int)<=a)) (br (decide (a<=1125899906842624)) (br (decide ((1:Int)<=b)) (MH F (decide (b<=1099511627776))) (MH F false)) (MH F false)) (MH F false)
def kG(F:Nat)(a:Int):=
 some a
def pS(b a:Int):=
 (Ae F b a).bind λc=>br (!c) (some (0:Int)) (gd (Q7 (b.tdiv a)/\a≠0)<|gd (a≠0)<|br (decide ((b.tmod a)<0)) (gd (Q7 ((b.tdiv a)-1))<|kG F ((b.tdiv a)-1)) (kG F (b.tdiv a)))
def pI(a:Int):=
 (pS F a (100:Int)).bind λb=>some (b,(0:Int))
def Z0X(b:af)(d:Int)(i:(Int×Int×Int)->Option (Int×Int))(e c a:Int):=
 br (decide (a<(b.ab.length:Int))) (gd (0<=a/\a<(b.ab.length:Int))<|gd (Q7 ((QL d ((gl b.ab a.toNat).dX))-c))<|gd (Q7 ((y9 (0:Int) ((QL d ((gl b.ab a.toNat).dX))-c))*((gl b.ab a.toNat).de)))<|gd (Q7 (e+((y9 (0:Int) ((QL d ((gl b.ab a.toNat).dX))-c))*((gl b.ab a.toNat).de))))<|gd (Q7 (a+1))<|i ((e+((y9 (0:Int) ((QL d ((gl b.ab a.toNat).dX))-c))*((gl b.ab a.toNat).de))),(gl b.ab a.toNat).dX,(a+1))) (pI F e)
def yl(b:af)(c:Int)(a:Bool):=
 br a (some ((0:Int),(2:Int))) (Y4 (λg (z:Int×Int×Int)=>Z0X F b c g z.1 z.2.1 z.2.2) F ((0:Int),(0:Int),(0:Int)))
def Tl(b:af)(a:Int):=
 (Pq F b).bind λc=>br (c != (0:Int)) (some ((0:Int),(17:Int))) (br (decide (a<0)) (yl F b a true) (yl F b a (decide ((268435456:Int)<a))))
def kD(F:Nat)(a:Bool):=
 some a
def kE(a:Int):=
 br (decide ((0:Int)<=a)) (kD F (decide (a<=1099511627776))) (kD F false)
def ss(a:Int):=
 (kE F a).bind λb=>some (!b)
def uY(F:Nat)(a b:Int):=
 gd (0<=(32:Int))<|gd (0<=(32:Int))<|gd (0<=(32:Int))<|gd (0<=(32:Int))<|gd (0<=(32:Int))<|some ((IntKind.wrap .u64 ((IntKind.wrap .u64 ((IntKind.wrap .u64 ((a.fdiv (2 ^ (min ((32:Int)).toNat (IntKind.bits .u64))))*(b.fdiv (2 ^ (min ((32:Int)).toNat (IntKind.bits .u64))))))+((IntKind.wrap .u64 ((IntKind.wrap .u64 ((a.fdiv (2 ^ (min ((32:Int)).toNat (IntKind.bits .u64))))*(QO .u64 b (4294967295:Int))))+((IntKind.wrap .u64 ((QO .u64 a (4294967295:Int))*(QO .u64 b (4294967295:Int)))).fdiv (2 ^ (min ((32:Int)).toNat (IntKind.bits .u64)))))).fdiv (2 ^ (min ((32:Int)).toNat (IntKind.bits .u64))))))+((IntKind.wrap .u64 ((QO .u64 (IntKind.wrap .u64 ((IntKind.wrap .u64 ((a.fdiv (2 ^ (min ((32:Int)).toNat (IntKind.bits .u64))))*(QO .u64 b (4294967295:Int))))+((IntKind.wrap .u64 ((QO .u64 a (4294967295:Int))*(QO .u64 b (4294967295:Int)))).fdiv (2 ^ (min ((32:Int)).toNat (IntKind.bits .u64)))))) (4294967295:Int))+(IntKind.wrap .u64 ((QO .u64 a (4294967295:Int))*(b.fdiv (2 ^ (min ((32:Int)).toNat (IntKind.bits .u64)))))))).fdiv (2 ^ (min ((32:Int)).toNat (IntKind.bits .u64)))))),(IntKind.wrap .u64 (a*b)))
def oY(b c:Int):=
 (uY F (IntKind.wrap .u64 b) (IntKind.wrap .u64 c)).bind λa=>some (⟨a.1,a.2⟩:l4)
def sc(F:Nat)(b c a:Int):=
 br (a==0) (none) (br (decide (a<=b)) (none) (br (b==0) (gd (a≠0)<|gd (a≠0)<|some ((IntKind.wrap .u64 (c.tdiv a)),(c.tmod a))) (none)))
def wh(d e c:Int):=
 (oY F d e).bind λb=>br (decide ((IntKind.wrap .u64 c)<=b.H_)) (some ((1125899906842625:Int),(0:Int))) ((sc F b.H_ b.w_ (IntKind.wrap .u64 c)).bind λa=>gd (Q7 (QL a.1 (1125899906842625:Int)))<|gd (Q7 a.2)<|some ((QL a.1 (1125899906842625:Int)),a.2))
def MI(a b:Int)(c:θ):=
 gd (0<=b/\b<(c.length:Int))<|gd (0<=a/\a<(c.length:Int))<|(Vb F (gl c b.toNat) (gl c a.toNat)).bind λd=>(Vb F a b).bind λe=>(BI F ([d,e]:θ)).bind λi=>some i
def pP(F:Nat)(a:θ):=
 some (a,(0:Int))
def Z6A(b:Int)(c:θ)(e:(Int×θ)->Option (θ×Int))(a:Int)(d:θ):=
 br (decide (a<(((b).toNat:Nat):Int))) (gd (0<=a/\a<((List.length (c.take (b).toNat):Nat):Int))<|gd (0<=(gl (c.take (b).toNat) a.toNat)/\(gl (c.take (b).toNat) a.toNat)<(d.length:Int))<|gd (Q7 ((gl d (gl (c.take (b).toNat) a.toNat).toNat)+1))<|gd (0<=(gl (c.take (b).toNat) a.toNat)/\(gl (c.take (b).toNat) a.toNat)<(d.length:Int))<|gd (Q7 (a+1))<|e ((a+1),(List.set d (gl (c.take (b).toNat) a.toNat).toNat ((gl d (gl (c.take (b).toNat) a.toNat).toNat)+1)))) (pP F d)
def Lq(a:Int)(c d e:θ):=
 (Ke d (λy0 y1=>MI F y0 y1 e)).bind λb=>gd (0<=a/\a<=(b.length:Int))<|Y4 (λg (z:Int×θ)=>Z6A F a b g z.1 z.2) F ((0:Int),c)
def T8(m:Int)(j:θ)(l:Int)(k:(Int×Int×θ×θ×θ)->Option (θ×Int))(d a:Int)(b e i:θ):=
 br (decide (a<(j.length:Int))) (gd (0<=a/\a<(j.length:Int))<|(wh F m (gl j a.toNat) l).bind λc=>gd (0<=a/\a<(b.length:Int))<|gd (0<=a/\a<(i.length:Int))<|gd (0<=a/\a<(e.length:Int))<|gd (0<=a/\a<((List.length (List.set b a.toNat c.1):Nat):Int))<|gd (Q7 (d-(gl (List.set b a.toNat c.1) a.toNat)))<|gd (Q7 (a+1))<|k ((d-(gl (List.set b a.toNat c.1) a.toNat)),(a+1),(List.set b a.toNat c.1),(List.set e a.toNat a),(List.set i a.toNat c.2))) (Lq F d b e i)
def uB(c:Int)(a:θ)(b:Int):=
 gd (0<=(a.length:Int)/\(a.length:Int)<=((Y2:Nat):Int))<|br (b==0) (some ((List.replicate ((a.length:Int)).toNat (0:Int)),(0:Int))) (gd (0<=(a.length:Int)/\(a.length:Int)<=((Y2:Nat):Int))<|gd (0<=(a.length:Int)/\(a.length:Int)<=((Y2:Nat):Int))<|Y4 (λg (z:Int×Int×θ×θ×θ)=>T8 F c a b g z.1 z.2.1 z.2.2.1 z.2.2.2.1 z.2.2.2.2) F (c,(0:Int),(List.replicate ((a.length:Int)).toNat (0:Int)),(List.replicate ((a.length:Int)).toNat (0:Int)),(List.replicate ((a.length:Int)).toNat (0:Int))))
def Z6C(e:Int)(b:θ)(d:(Int×Int)->Option (θ×Int))(c a:Int):=
 br (decide (a<(b.length:Int))) (gd (0<=a/\a<(b.length:Int))<|gd (Q7 (c+(gl b a.toNat)))<|gd (Q7 (a+1))<|d ((c+(gl b a.toNat)),(a+1))) (uB F e b c)
def kF(b:Int)(c:θ)(a:Bool):=
 br a (some ([],(2:Int))) (Y4 (λg (z:Int×Int)=>Z6C F b c g z.1 z.2) F ((0:Int),(0:Int)))
def Lr(b:Int)(a:θ):=
 br (decide (64<(a.length:Int))) (some ([],(1:Int))) ((kE F b).bind λc=>br (!c) (kF F b a true) ((Yk F a (λy0=>ss F y0)).bind λd=>kF F b a d))
def VA(F:Nat)(a:Bool):=
 some a
def Dk:=
 (Hg F ([(⟨0,0,(10:Int),(10:Int)⟩:aa)]:ζ)).bind λc=>(Mc F c.1).bind λa=>(Hm F c.1).bind λi=>(Tl F (⟨0,(IS #[115]),(⟨(1:Int),0,0,[]⟩:aj),([(⟨(1000:Int),(200:Int)⟩:aG)]:List aG),0,0,false⟩:af) i).bind λd=>(Vf F (IS #[97,32,98,10])).bind λe=>(Lr F (3:Int) ([(1:Int),(2:Int)]:θ)).bind λb=>br (c.2==(0:Int)) (br (a.2==(0:Int)) (br ((a.1.length:Int)==1) (gd (0<=(0:Int)/\0<(a.1.length:Int))<|br (((List.length (gl a.1 (0:Int).toNat):Nat):Int)==(4:Int)) (br (d.2==(0:Int)) (br (d.1==(200:Int)) (br (e.2==(0:Int)) (br ((e.1.length:Int)==1) (br (b.2==(0:Int)) (br ((b.1.length:Int)==2) (gd (0<=(1:Int)/\1<(b.1.length:Int))<|VA F ((gl b.1 (1:Int).toNat)==2)) (VA F false)) (VA F false)) (VA F false)) (VA F false)) (VA F false)) (VA F false)) (VA F false)) (VA F false)) (VA F false)) (VA F false)
def Dl(F:Nat)(a:Bool):=
 some a
def Jk(a:aD×Φ×(List aW)×Ω)(i:aD×χ)(b:aD×W_)(j:Φ×Int×Int)(k:χ×Int×Int)(e:Bool):=
 br e (some false) (gd (0<=(0:Int)/\0<(a.2.2.1.length:Int))<|gd (0<=(0:Int)/\0<(a.2.2.1.length:Int))<|(Mn F ((gl a.2.2.1 (0:Int).toNat).eL) a.2.2.2).bind λl=>(MO F ((gl a.2.2.1 (0:Int).toNat).eL) l i.2 b.2).bind λc=>gd (0<=(0:Int)/\0<(a.2.2.1.length:Int))<|gd (0<=(0:Int)/\0<(a.2.2.1.length:Int))<|(Mn F ((gl a.2.2.1 (0:Int).toNat).eL) a.2.2.2).bind λm=>(MO F ((gl a.2.2.1 (0:Int).toNat).eL) m k.1 (⟨b.2.al,j.1,b.2.aI,b.2.aS,b.2.dt,b.2.eD⟩:W_)).bind λd=>br (c.2==(0:Int)) (br (d.2==(0:Int)) ((CJ F c.1 d.1).bind λn=>br n ((Dk F).bind λo=>Dl F o) (Dl F false)) (Dl F false)) (Dl F false))
def Dm(k:θ):=
 (FF F k).bind λl=>(Dj F l).bind λa=>(Fw F a.1 (3:Int)).bind λb=>(Fh F b.1 a.2.1).bind λe=>(MR F a.2.1).bind λi=>(Pr F b.2).bind λj=>gd (ByteArray.size (IS #[35,32,99,114,111,112,115,10])+ByteArray.size i.1<=Y2)<|(MT F ((IS #[35,32,99,114,111,112,115,10])++i.1)).bind λc=>gd (ByteArray.size j.1+ByteArray.size (IS #[35,32,101,110,100,10])<=Y2)<|(Tj F (j.1++(IS #[35,32,101,110,100,10]))).bind λd=>br (i.2 != (0:Int)) (Jk F a b e c d true) (br (j.2 != (0:Int)) (Jk F a b e c d true) (br (c.2.2 != (0:Int)) (Jk F a b e c d true) (br (d.2.2 != (0:Int)) (Jk F a b e c d true) ((Co F c.1 a.2.1).bind λm=>br (!m) (Jk F a b e c d true) ((TY F d.1 b.2).bind λn=>Jk F a b e c d (!n))))))
