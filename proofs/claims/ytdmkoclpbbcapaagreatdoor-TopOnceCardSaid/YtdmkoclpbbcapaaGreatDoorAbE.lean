/- Abstract states over the model. -/
import Derived.Test.YtdmkoclpbbcapaaGreatDoorLwA
import Derived.Test.YtdmkoclpbbcapaaGreatDoorLwB
import Derived.Test.YtdmkoclpbbcapaaGreatDoorAbD
set_option linter.unusedVariables false
set_option linter.unusedSimpArgs false
section
namespace Go.Ab
set_option maxRecDepth 20000
noncomputable section
abbrev Sq:=Int->Int->Bool
structure TR (A:List Rect):Prop where
 val:J1 A
 sub:∀{S:Sq},Fin S->(∀x y,S x y=true->Q2 A x y=true)->J1 (cn S)
theorem xX{A:List Rect}(hv:J1 A){d:Int}(h0:0<=d/\d<=100)(hb:PZ d (Q2 A)):TR A:=⟨hv,λb a=>(Q0s b h0 λx y h=>hb x y (a x y h)).1⟩
theorem J1.pos{l:List Rect}(h:J1 l):∀r∈l,r.L_<r.R_:=λ_ a=>(h.2.2.pos a).1
theorem GT{A:List Rect}(h:J1 A):cn (Q2 A)=A:=(Xa A).1 h.2.2
theorem CD:Fin λ_ _=>false:=by
 have:=Qz []
 exact this
theorem Kr:cn (λ_ _=>false)=[]:=(Xa []).1 Q3B
theorem WZ{F:Nat}(hF:Q6<=F){a b:List Rect}(la:a.length<=8000)(lb:b.length<=8000)(pa:∀ r ∈ a,r.L_<r.R_)(pb:∀ r ∈ b,r.L_<r.R_){S T:Sq}(ea:Q2 a=S)(eb:Q2 b=T){k:Bool->Bool->Bool}(hk:k false false=false){q:Bool->Bool->Option Bool}(hq:∀ u v,q u v=some (k u v)):
  QU F a b q=some (cn λx y=>k (S x y) (T x y)):=by
 subst ea eb;exact JT hF (by omega) pa pb hk hq
theorem vD{a b:List Rect}{S T:Sq}(ea:Q2 a=S)(eb:Q2 b=T)(how:Int):Fin λx y=>Qn (S x y) (T x y) how:=by
 subst ea eb;exact Vu a b how
theorem ZO{S:Sq}(h:Fin S):Q2 (cn S)=S:=by
 funext x y;exact QN h x y
theorem Jn{S T:Sq}(hS:Fin S)(hT:Fin T):Fin λx y=>S x y&&T x y:=vD (ZO hS) (ZO hT) 2
theorem vB{S T:Sq}(hS:Fin S)(hT:Fin T):Fin λx y=>S x y||T x y:=vD (ZO hS) (ZO hT) 1
theorem Pu{S T:Sq}(hS:Fin S)(hT:Fin T):Fin λx y=>S x y && !T x y:=vD (ZO hS) (ZO hT) 3
theorem MW(F:Nat)(u v:Bool):KF F u v=some (u&&v):=by
 unfold KF MX;cases u<;>rfl
theorem gg(F:Nat)(u v:Bool):BA F u v=some (u||v):=by
 unfold BA MS;cases u<;>rfl
theorem LG(F:Nat)(u v:Bool):Xn F u v=some (u && !v):=by
 unfold Xn MA;cases u<;>rfl
structure TS where
 Y:Sq
 N:Sq
def TS.O(A:List Rect)(s:TS):Sq:=λx y=>(Q2 A x y && !s.Y x y) && !s.N x y
structure TIn (A:List Rect) (s:TS):Prop where
 fY:Fin s.Y
 fN:Fin s.N
 sY:∀x y,s.Y x y=true->Q2 A x y=true
 sN:∀x y,s.N x y=true->Q2 A x y=true
theorem TIn.fO{A:List Rect}{s:TS}(h:TIn A s):Fin (s.O A):=Pu (Pu (Qz A) h.fY) h.fN
theorem TIn.vY{A:List Rect}(ht:TR A){s:TS}(h:TIn A s):J1 (cn s.Y):=ht.sub h.fY h.sY
theorem TIn.vN{A:List Rect}(ht:TR A){s:TS}(h:TIn A s):J1 (cn s.N):=ht.sub h.fN h.sN
theorem TIn.vO{A:List Rect}(ht:TR A){s:TS}(h:TIn A s):J1 (cn (s.O A)):=ht.sub h.fO λx y a=>by
 unfold TS.O at a
 cases hA:Q2 A x y with
 |true=>rfl
 |false=>rw[hA]at a;cases a
def TS.sqs(A:List Rect)(s:TS):Squares:=⟨cn s.Y,cn s.N,cn (s.O A)⟩
theorem J1.le8{l:List Rect}(h:J1 l):l.length<=8000:=by have:=h.1;omega
theorem LI{F:Nat}(hF:Q6<=F){p:TermPlace}{A:List Rect}(hp:p.t_=A)(ht:TR A){s:TS}(h:TIn A s):Xq F p (cn s.Y) (cn s.N)=some (s.sqs A):=by
 unfold Xq;subst hp
 have a:J1 (cn λx y=>Q2 p.t_ x y && !s.Y x y):=ht.sub (Pu (Qz _) h.fY) λx y b=>by
  cases hA:Q2 p.t_ x y with
  |true=>rfl
  |false=>rw[hA]at b;cases b
 refine Q4 (WZ hF ht.val.le8 (h.vY ht).le8 ht.val.pos (h.vY ht).pos rfl (ZO h.fY) (k:=λu v=>u && !v) rfl (LG F)) (Q4 (WZ hF a.le8 (h.vN ht).le8 a.pos (h.vN ht).pos (ZO (Pu (Qz _) h.fY)) (ZO h.fN) (k:=λu v=>u && !v) rfl (LG F)) rfl)
end
end Go.Ab
end
section
namespace Go.Ab
set_option maxRecDepth 20000
noncomputable section
structure EV (y:Int) (cs:List Crop) (hs:List Rg_) (zs:List A2_) (c:Int) (A:List Rect):Prop where
 tr:TR A
 crop:0<=c/\c<(cs.length:Nat)
 fam:0<=(gl cs c.toNat).f_
 mrk:0<=(gl cs c.toNat).m_/\(gl cs c.toNat).m_<=31
 few:FewR hs
 hb:∀f∈hs,QT (15:Nat) f.g_.t_
 hc:∀f∈hs,0<=f.c_/\f.c_<(cs.length:Nat)
 yr:0<=y/\y<=100
 zs:LB 15 zs
theorem Q4R{l:List Rg_}(hb:∀f∈l,QT (15:Nat) f.g_.t_)(y:Int)(p:Int->Bool):QT (15:Nat) (Zl l y p):=λr a=>by
 unfold Zl at a;obtain⟨f,b,h⟩:=Qb8.1 a
 exact hb f (Qf9.1 b).1 r h
theorem Q4S(a b:List Rg_)(y:Int)(p:Int->Bool):Zl (a++b) y p=Zl a y p++Zl b y p:=by simp[Zl]
theorem Z3t{l:List Rg_}(h:FewR l)(y:Int)(p:Int->Bool):(Zl l y p).length<=420:=by
 by_cases h0:l.length=0
 .rw [Qe0 h0];simp[Zl]
 .have c:=h.few y p (l.length-1) (by omega)
  have e:l=l.take (l.length-1)++[gl l (l.length-1)]:=by
   have:=Qr (l:=l) (i:=l.length-1) (by omega)
   grind
  have d:(Zl [gl l (l.length-1)] y p).length<=120:=by
   have a:=((Gl _).1 (h.hl.one _ (K3 (l:=l) (i:=l.length-1) (by omega)))).2.2.2.2.2;have:=a.1
   unfold Zl
   grind
  have b:=congrArg (λm=>(Zl m y p).length) e;simp only[Q4S,Qb7]at b
  omega
def VX(A:List Rect)(hs:List Rg_)(y:Int)(p:Int->Bool):Sq:=λu v=>Q2 A u v&&Q2 (Zl hs y p) u v
theorem Jm(A:List Rect)(hs:List Rg_)(y:Int)(p:Int->Bool):Fin (VX A hs y p):=Jn (Qz A) (Qz _)
theorem Ph{A:List Rect}{hs:List Rg_}{y:Int}{p:Int->Bool}{u v:Int}(h:VX A hs y p u v=true):Q2 A u v=true:=by
 unfold VX at h
 grind
variable {F:Nat} {cs:List Crop} {hs:List Rg_} {zs:List A2_} {y c d:Int} {A:List Rect}
theorem Bz(hF:Q6<=F)(h:EV y cs hs zs c A){p:TermPlace}(e1:p.world_.history_=hs)(e2:p.world_.year_=y)(e3:p.t_=A){n:Int}(n0:0<=n)(n1:n<=1000){q:Int->Option Bool}(s:Int->Bool)(hq:∀f∈hs,q f.c_=some (s f.c_)):JD F p n q=some (cn (VX A hs (y-n) s)):=by
 subst e1 e2 e3;have e:=h.yr
 unfold JD;have b:=Q4R h.hb (p.world_.year_-n) s
 have:=Z3t h.few (p.world_.year_-n) s
 exact Q9 (V9 (by omega) (by omega)) (Q4 (Z2M hF h.few.hl _ s hq) (Q4 (WZ hF h.tr.val.le8 (by omega) h.tr.val.pos (λr a=>(b r a).2.1) rfl rfl (k:=λu v=>u&&v) rfl (MW F)) rfl))
end
end Go.Ab
end
section
namespace Go.Ab
set_option maxRecDepth 20000
noncomputable section
def vJ(cs:List Crop)(f:Int)(k:Int):Bool:=(gl cs k.toNat).f_==f
def yg(cs:List Crop)(f:Int)(k:Int):Bool:=(gl cs k.toNat).f_ != f
def VH(A:List Rect)(hs:List Rg_)(cs:List Crop)(y f:Int):Nat->TS
 |0=>⟨Q2 A,λ_ _=>false⟩
 |k+1=>⟨λu v=>(VH A hs cs y f k).Y u v&&VX A hs (y-((k+1:Nat):Int)) (vJ cs f) u v,λu v=>(VH A hs cs y f k).N u v||VX A hs (y-((k+1:Nat):Int)) (yg cs f) u v⟩
theorem Rh(A:List Rect)(hs:List Rg_)(cs:List Crop)(y f:Int):∀k,TIn A (VH A hs cs y f k)
 |0=>⟨Qz A,CD,λ_ _ h=>h,λ_ _ h=>by cases h⟩
 |k+1=>by
  have a:=Rh A hs cs y f k;refine⟨Jn a.fY (Jm _ _ _ _),vB a.fN (Jm _ _ _ _),λu v h=>?_,λu v h=>?_⟩
  .unfold VH at h
   simp only[Qa4]at h;exact a.sY u v h.1
  .unfold VH at h
   simp only[Qj3]at h;rcases h with h|h
   .exact a.sN u v h
   .exact Ph h
variable {F:Nat} {cs:List Crop} {hs:List Rg_} {zs:List A2_} {y c d:Int} {A:List Rect}
theorem EV.kn_val(h:EV y cs hs zs c A)(k:Int)(p:Int->Bool):J1 (cn (VX A hs k p)):=h.tr.sub (Jm _ _ _ _) λ_ _ h=>Ph h
theorem Q5l(hF:Q6<=F)(h:EV y cs hs zs c A){p:TermPlace}(e1:p.world_.history_=hs)(e2:p.world_.year_=y)(e3:p.t_=A)(e4:p.world_.crops_=cs)(e5:p.line_.c_=c){n:Nat}(n0:1<=n)(n1:n<=100):
  MH F p (n:Int)=some ((VH A hs cs y (gl cs c.toNat).f_ (n-1)).sqs A):=by
 have j:=hF;unfold Q6 at j
 have e:=h.crop;unfold MH
 have b:∀(m f k:Nat),k+m=n-1->m<f->Y3 (λagain (z:(List Rect)×(List Rect)×Int)=>Xp F p (n:Int) again z.1 z.2.1 z.2.2) f (cn (VH A hs cs y (gl cs c.toNat).f_ k).Y,cn (VH A hs cs y (gl cs c.toNat).f_ k).N,((k:Nat):Int)+1)=some ((VH A hs cs y (gl cs c.toNat).f_ (n-1)).sqs A):=by
  intro m
  induction m with
  |zero=>
   intro f k w q;obtain⟨f,rfl⟩:∃g,f=g+1:=⟨f-1,by omega⟩
   show Xp F p (n:Int) (Y3 _ f) _ _ (((k:Nat):Int)+1)=_;unfold Xp
   refine Z4 (Qa5 (by omega)) ?_;unfold LJ
   rw[show n-1=k by omega];exact Q4 (LI hF e3 h.tr (Rh _ _ _ _ _ k)) rfl
  |succ m ih=>
   intro f k w q;obtain⟨f,rfl⟩:∃g,f=g+1:=⟨f-1,by omega⟩
   show Xp F p (n:Int) (Y3 _ f) _ _ (((k:Nat):Int)+1)=_;unfold Xp
   have a:=Rh A hs cs y (gl cs c.toNat).f_ k;have r:∀g∈hs,MG F g.c_ p (gl p.world_.crops_ p.line_.c_.toNat).f_=some (vJ cs (gl cs c.toNat).f_ g.c_):=λg i=>by
    unfold MG;rw[e4,e5]
    exact Q9 (h.hc g i) rfl
   have s:∀g∈hs,MF F g.c_ p (gl p.world_.crops_ p.line_.c_.toNat).f_=some (yg cs (gl cs c.toNat).f_ g.c_):=λg i=>by
    unfold MF;rw[e4,e5]
    exact Q9 (h.hc g i) rfl
   have l:=h.kn_val (y-(((k:Nat):Int)+1)) (vJ cs (gl cs c.toNat).f_);have o:=h.kn_val (y-(((k:Nat):Int)+1)) (yg cs (gl cs c.toNat).f_)
   have t:=ih f (k+1) (by omega) (by omega);refine Y9 (Qa6 (by omega)) (Q4 (Bz hF h e1 e2 e3 (by omega) (by omega) _ r) (Q4 (Bz hF h e1 e2 e3 (by omega) (by omega) _ s) (Q4 (WZ hF (a.vY h.tr).le8 l.le8 (a.vY h.tr).pos l.pos (ZO a.fY) (ZO (Jm _ _ _ _)) (k:=λu v=>u&&v) rfl (MW F)) (Q4 (WZ hF (a.vN h.tr).le8 o.le8 (a.vN h.tr).pos o.pos (ZO a.fN) (ZO (Jm _ _ _ _)) (k:=λu v=>u||v) rfl (gg F)) (Q9 (V9 (by omega) (by omega)) ?_)))))
   exact t
 refine Q9 (by rw[e4,e5];exact e) ?_;have:=b (n-1) F 0 (by omega) (by omega)
 show Y3 _ F (p.t_,[],(1:Int))=_;rw[e3]
 rw[show(VH A hs cs y (gl cs c.toNat).f_ 0)=⟨Q2 A,λ_ _=>false⟩from rfl]at this;simp only[GT h.tr.val,Kr]at this
 exact this
def Ud(A:List Rect)(b:Bool):TS:=if b then⟨Q2 A,λ_ _=>false⟩else⟨λ_ _=>false,Q2 A⟩
theorem PT(A:List Rect)(b:Bool):TIn A (Ud A b):=by
 cases b
 .exact ⟨CD,Qz A,λ_ _ h=>(by cases h),λ_ _ h=>h⟩
 .exact ⟨Qz A,CD,λ_ _ h=>h,λ_ _ h=>by cases h⟩
theorem Q3W(A:List Rect)(b:Bool):(Ud A b).O A=λ_ _=>false:=by
 funext u v
 cases b<;>simp[Ud,TS.O]
theorem MB{p:TermPlace}(e3:p.t_=A)(hv:J1 A)(b:Bool):KD F p b=some ((Ud A b).sqs A):=by
 unfold KD TS.sqs;rw[Q3W,Kr,e3]
 cases b
 .refine Z4 rfl ?_
  show some _=some (Squares.mk (cn λ_ _=>false) (cn (Q2 A)) []);rw[Kr,GT hv]
 .refine Y9 rfl ?_
  show some _=some (Squares.mk (cn (Q2 A)) (cn λ_ _=>false) []);rw[Kr,GT hv]
def UG(A:List Rect)(S:Sq):TS:=⟨λu v=>Q2 A u v&&S u v,λu v=>Q2 A u v && !S u v⟩
theorem Q2A{A:List Rect}{S:Sq}(h:Fin S):TIn A (UG A S):=by
 refine⟨Jn (Qz A) h,Pu (Qz A) h,λu v a=>?_,λu v a=>?_⟩
 .simp only[UG,Qa4]at a
  exact a.1
 .simp only[UG,Qa4]at a
  exact a.1
theorem Z4p(A:List Rect)(S:Sq):(UG A S).O A=λ_ _=>false:=by
 funext u v
 simp only[UG,TS.O]
 grind
theorem gh(hF:Q6<=F){p:TermPlace}(e3:p.t_=A)(ht:TR A){S:Sq}(h:Fin S):Bs F p (cn λu v=>Q2 A u v&&S u v)=some ((UG A S).sqs A):=by
 unfold Bs TS.sqs;have b:=Jn (Qz A) h
 have a:=ht.sub b λu v e=>by
  grind
 rw[Z4p,Kr,e3];refine Q4 (WZ hF ht.val.le8 a.le8 ht.val.pos a.pos rfl (ZO b) (k:=λu v=>u && !v) rfl (LG F)) ?_
 rw[show(λu v=>Q2 A u v && !(Q2 A u v&&S u v))=(UG A S).N from ?_]
 .rfl
 .funext u v
  simp only[UG]
  grind
end
end Go.Ab
end
section
namespace Go.Ab
set_option maxRecDepth 20000
noncomputable section
theorem qF{R:Type}{body:(Int->Option R)->Int->Option R}{c y:Option R}(N:Nat)(p:Nat->Bool)(bad:∀again (i:Nat),i<N->p i=true->body again (i:Int)=c)(good:∀again (i:Nat) z,i<N->p i=false->again ((i:Int)+1)=z->body again (i:Int)=z)(stop:∀again,body again (N:Int)=y){F:Nat}(hF:N<F):Y3 body F 0=if(List.range N).any p=true then c else y:=by
 refine z5 (λz:Int=>∃i:Nat,z=i/\i<=N/\∀j,j<i->p j=false) (λz=>N-z.toNat) (λagain z f e=>?_) ⟨0,rfl,Qc3 _,λj h=>absurd h (Qc9 j)⟩ (by simp;omega);obtain⟨i,rfl,g,a⟩:=f
 rcases Qd3 i N with h|h
 .cases hpi:p i with
  |true=>
   rw[Qa2 (Qc6.2 ⟨i,Qf2.2 h,hpi⟩)];exact bad again i h hpi
  |false=>
   refine good again i _ h hpi (e _ ⟨i+1,by omega,h,λj b=>?_⟩ (by omega))
   by_cases hji:j=i
   .rw [hji];exact hpi
   .exact a j (by omega)
 .have:i=N:=by omega
  subst this;rw[Qa1 (by rw[Qg3,Qf6];intro j b;rw[a j (Qf2.1 b)];simp)]
  exact stop again
end
end Go.Ab
end
section
namespace Go.Ab
set_option maxRecDepth 20000
noncomputable section
end
end Go.Ab
end
section
namespace Go.Ab
set_option maxRecDepth 20000
noncomputable section
theorem Z0k{F:Nat}(hF:Q6<=F)(s:ByteArray):Th F s=some (QZ s):=by
 unfold Q6 at hF;unfold Th
 have b:QZ s=false->Kd F s true=some (QZ s):=λh=>by unfold Kd;rw[h];exact Y9 rfl rfl
 refine Z6 (λh=>b ?_) (λh=>?_)
 .have h:=Qa8 h
  unfold QZ
  grind
 have p:1<=s.size:=by have:=Qb2 h;omega
 refine Z6 (λh=>b ?_) (λh=>?_)
 .have h:=Qa8 h
  unfold QZ
  grind
 have q:s.size<=12:=by have:=Qb2 h;omega
 have k:QZ s=decide (∀i,i<s.size->(YE (K7 s (i:Nat))||(!decide (i=0)&&UF (K7 s (i:Nat))))=true):=by
  unfold QZ
  grind
 have e:YE (K7 s (0:Int))=false->QZ s=false:=λh=>by
  grind
 refine Q9 (by omega) (Z6 (λh=>b (e ?_)) (λh=>?_))
 .have h:=Qa8 h
  unfold YE;rw[Qa5 (by omega)];rfl
 have o:=Qb2 h;refine Q9 (by omega) ?_
 by_cases h4:122<K7 s (0:Int)
 .rw [Qa6 h4]
  refine b (e ?_);unfold YE;rw[Qa5 (by omega:¬K7 s (0:Int)<=122)];simp
 rw[Qa5 h4];have l:YE (K7 s (0:Int))=true:=by
  unfold YE;rw[Qa6 (by omega),Qa6 (by omega)];rfl
 unfold Kd;refine Z4 rfl ?_
 refine(qF (c:=some false) (y:=some true) s.size (λi=> !(YE (K7 s (i:Nat))||UF (K7 s (i:Nat)))) (λa i m g=>?_) (λa i z m g k=>?_) (λa=>?_) (by omega)).trans ?_
 .rw [Qh7,Qg5]at g
  unfold YE UF at g;unfold Tg
  have k2:Vl F (i:Int) a true=some false:=by unfold Vl;exact Y9 rfl rfl
  refine Y9 (Qa6 (by omega)) (Q9 (by omega) ?_);have j:gd (0<=(i:Int)/\(i:Int)<((s.size:Nat):Int)) (br (decide (K7 s (i:Nat)<48)) (Vl F (i:Int) a true) (gd (0<=(i:Int)/\(i:Int)<((s.size:Nat):Int)) (Vl F (i:Int) a (decide (57<K7 s (i:Nat))))))=some false:=by
   refine Q9 (by omega) (Z6 (λ_=>k2) (λf=>Q9 (by omega) ?_))
   grind
  refine Z6 (λ_=>j) (λf=>Q9 (by omega) ?_);refine Y9 ?_ j
  grind
 .rw [Qn1,Qj3]at g
  unfold YE UF at g;rw[Qa4,Qa4,Qb5,Qb5,Qb5,Qb5]at g
  unfold Tg;have k2:Vl F (i:Int) a false=z:=by unfold Vl;exact Z4 rfl (Q9 (V9 (by omega) (by omega)) k)
  refine Y9 (Qa6 (by omega)) (Q9 (by omega) ?_);refine Z6 (λf=>?_) (λf=>?_)
  .have f:=Qa8 f
   refine Q9 (by omega) (Z4 (Qa5 (by omega)) (Q9 (by omega) ?_))
   grind
  .have f:=Qb2 f
   refine Q9 (by omega) (Z6 (λn=>?_) (λn=>k2))
   grind
 .unfold Tg
  exact Z4 (Qa5 (by omega)) rfl
 all_goals grind
theorem Q8r{body:(Int->Option Int)->Int->Option Int}(N:Nat)(p:Nat->Int)(bad:∀again (i:Nat),i<N->p i≠0->body again (i:Int)=some (p i))(good:∀again (i:Nat) z,i<N->p i=0->again ((i:Int)+1)=z->body again (i:Int)=z)(stop:∀again,body again (N:Int)=some 0){F:Nat}(hF:N<F):Y3 body F 0=some ((((List.range N).map p).find? λc=>c != 0).getD 0):=by
 refine z5 (λz:Int=>∃i:Nat,z=i/\i<=N/\∀j,j<i->p j=0) (λz=>N-z.toNat) (λagain z m l=>?_) ⟨0,rfl,Qc3 _,λj h=>absurd h (Qc9 j)⟩ (by simp;omega);obtain⟨i,rfl,n,k⟩:=m
 rcases Qd3 i N with h|h
 .by_cases hpi:p i=0
  .refine good again i _ h hpi (l _ ⟨i+1,by omega,h,λj o=>?_⟩ (by omega))
   by_cases hji:j=i
   .rw [hji];exact hpi
   .exact k j (by omega)
  .rw [bad again i h hpi]
   congr 1
   have e:List.range N=List.range i++i::(List.range N).drop (i+1):=by
    have f:(List.range N).take i=List.range i:=by rw[List.take_range];congr 1;omega
    have g:=Qg8 i (List.range N);rw[f,Qi3 (by simpa using h)]at g
    grind
   have a:(((List.range i).map p).find? λc=>c != 0)=none:=Qi0.2 λc b=>by
    grind
   rw[e,Qd6,List.find?_append,a,Option.none_or,Qf7,Qv8];have:(p i != 0)=true:=by simpa using hpi
   rw[this];rfl
 .have:i=N:=by omega
  subst this;rw[stop again]
  congr 1
  have a:(((List.range i).map p).find? λc=>c != 0)=none:=Qi0.2 λc b=>by
   grind
  rw[a];rfl
def YI(l:List Crop)(i:Nat):Int:=
 if QZ (gl l i).n_=false then 5 else if(gl l i).f_<0\/40<(gl l i).f_ then 2 else if(gl l i).m_<0\/31<(gl l i).m_ then 14
 else if 0<i/\(VK (gl l i).n_ (gl l (i-1)).n_||Zv (gl l i).n_ (gl l (i-1)).n_)=true then 6 else 0
def crC(l:List Crop):Int:=if 40<l.length then 1 else(((List.range l.length).map (YI l)).find? λc=>c != 0).getD 0
def Bb(l:List Crop):Prop:=∀x∈l,x.n_.size<=4294967296
theorem Z4M{l:List Crop}{i:Nat}(h:QZ (gl l i).n_=false):YI l i=5:=by unfold YI;rw[Qa2 h]
theorem Z4N{l:List Crop}{i:Nat}(h:QZ (gl l i).n_=true)(h2:(gl l i).f_<0\/40<(gl l i).f_):YI l i=2:=by
 unfold YI;rw[Qa1 (by rw[h];simp),Qa2 h2]
theorem Z4O{l:List Crop}{i:Nat}(h:QZ (gl l i).n_=true)(h2:¬((gl l i).f_<0\/40<(gl l i).f_))(h3:(gl l i).m_<0\/31<(gl l i).m_):YI l i=14:=by
 unfold YI;rw[Qa1 (by rw[h];simp),Qa1 h2,Qa2 h3]
theorem Z4L{l:List Crop}{i:Nat}(h:QZ (gl l i).n_=true)(h2:¬((gl l i).f_<0\/40<(gl l i).f_))(h3:¬((gl l i).m_<0\/31<(gl l i).m_))(h4:0<i/\(VK (gl l i).n_ (gl l (i-1)).n_||Zv (gl l i).n_ (gl l (i-1)).n_)=true):YI l i=6:=by
 unfold YI;rw[Qa1 (by rw[h];simp),Qa1 h2,Qa1 h3,Qa2 h4]
theorem Q2P{l:List Crop}{i:Nat}(h:QZ (gl l i).n_=true)(h2:¬((gl l i).f_<0\/40<(gl l i).f_))(h3:¬((gl l i).m_<0\/31<(gl l i).m_))(h4:¬(0<i/\(VK (gl l i).n_ (gl l (i-1)).n_||Zv (gl l i).n_ (gl l (i-1)).n_)=true)):YI l i=0:=by
 unfold YI;rw[Qa1 (by rw[h];simp),Qa1 h2,Qa1 h3,Qa1 h4]
theorem Q2N{F:Nat}(hF:Q6<=F){l:List Crop}(hn:Bb l):PG F l=some (crC l):=by
 have u:=hF;unfold Q6 at hF
 unfold PG crC;refine Z6 (λh=>?_) (λh=>?_)
 .grind
 have w:l.length<=40:=by have:=Qb2 h;omega
 rw[Qa1 (by omega)];have r:∀(a:Int->Option Int) (i:Nat),i<l.length->PF F l a (i:Int)=if YI l i=0 then a ((i:Int)+1)else some (YI l i):=by
  intro a i p;unfold PF
  simp only[Qa3];have hs:=hn _ (K3 p)
  refine Y9 (Qa6 (by omega)) (Q9 (by omega) (Q4 (Ll (by omega) hs) ?_));refine Z6 (λb=>?_) (λb=>?_)
  .have b:QZ (gl l i).n_=false:=by simpa using b
   rw[Z4M b,Qa1 (by decide)]
  have b:QZ (gl l i).n_=true:=by simpa using b
  have n:(gl l i).f_<0\/40<(gl l i).f_->GS F l (i:Int) a true=if YI l i=0 then a ((i:Int)+1)else some (YI l i):=λh=>by
   rw[Z4N b h,Qa1 (by decide)];unfold GS
   exact Y9 rfl rfl
  refine Z6 (λk=>n (.inl (Qa8 k))) (λk=>?_);have k:=Qb2 k
  by_cases h3:40<(gl l i).f_
  .grind
  have j:¬((gl l i).f_<0\/40<(gl l i).f_):=by omega
  rw[Qa5 h3];unfold GS
  simp only[Qa3];refine Z4 rfl ?_
  have o:(gl l i).m_<0\/31<(gl l i).m_->GR F l (i:Int) a true=if YI l i=0 then a ((i:Int)+1)else some (YI l i):=λh=>by
   rw[Z4O b j h,Qa1 (by decide)];unfold GR
   exact Y9 rfl rfl
  refine Z6 (λg=>o (.inl (Qa8 g))) (λg=>?_);have g:=Qb2 g
  by_cases h5:31<(gl l i).m_
  .grind
  have q:¬((gl l i).m_<0\/31<(gl l i).m_):=by omega
  rw[Qa5 h5];unfold GR
  simp only[Qa3];refine Z4 rfl ?_
  refine Z6 (λe=>?_) (λe=>?_)
  .have e:0<i:=by have:=Qa8 e;omega
   have s:((i:Int)-1).toNat=i-1:=by omega
   refine Q9 (V9 (by omega) (by omega)) (Q9 (by omega) ?_);rw[s]
   unfold GQ;refine Z6 (λf=>?_) (λf=>?_)
   .rw [Z4L b j q ⟨e,f⟩,Qa1 (by decide)]
   .rw [Q2P b j q (λm=>by rw[m.2]at f;cases f),Qa2 rfl]
    exact Q9 (V9 (by omega) (by omega)) rfl
  .have e:¬0<i:=by have:=Qb2 e;omega
   rw[Q2P b j q (λm=>e m.1),Qa2 rfl];unfold GQ
   exact Z4 rfl (Q9 (V9 (by omega) (by omega)) rfl)
 refine Q8r l.length (YI l) (λa i p t=>?_) (λa i z p t v=>?_) (λa=>?_) (by omega)
 .grind
 .grind
 .unfold PF
  exact Z4 (Qa5 (by omega)) rfl
theorem CropT.nm{l:List Crop}(h:CropT l):Bb l:=λx e=>by
 obtain⟨i,a,rfl⟩:=Qc7 e;have b:=(h.one i a).1
 have:=h.len
 rw[Uz l i a]at b;rw[b]
 have:=(Q2O i (by omega)).2
 omega
theorem CropT.crC{l:List Crop}(h:CropT l):crC l=0:=by
 have a:=Z4J (F:=Q6) (Qb4 _) h;rw[Q2N (Qb4 _) h.nm]at a
 grind
end
end Go.Ab
end
section
end
section
namespace Go.Ab
set_option maxRecDepth 20000
noncomputable section
def TD:Nat->Term->Prop
 |0,_=>False
 |d+1,t=>Q8 t.op_/\Q8 t.num_/\t.kids_.length<=1000000/\∀k∈t.kids_,TD d k
theorem TD.op{d:Nat}{t:Term}(h:TD d t):Q8 t.op_:=by
 cases d with
 |zero=>exact h.elim
 |succ d=>exact h.1
def QJ:Nat->Term->Nat
 |0,_=>0
 |d+1,t=>1+(t.kids_.map (QJ d)).sum
theorem Q5N{d:Nat}{t:Term}(h:TD d t):1<=QJ d t:=by
 cases d with
 |zero=>exact h.elim
 |succ d=>unfold QJ;omega
def Wy(d:Nat)(t:Term)(i:Nat):Nat:=1+((t.kids_.take i).map (QJ d)).sum
theorem LS{d i:Nat}{t:Term}(h:i<t.kids_.length):Wy d t (i+1)=Wy d t i+QJ d (gl t.kids_ i):=by
 unfold Wy;rw[Qr h,Qd6,Qw0];simp;omega
theorem LU{d i:Nat}{t:Term}:Wy d t i<=QJ (d+1) t:=by
 unfold Wy QJ;have:(t.kids_.map (QJ d)).sum=((t.kids_.take i).map (QJ d)).sum+((t.kids_.drop i).map (QJ d)).sum:=by
  rw[<-Qw0, <-Qd6,Qg8]
 omega
theorem gA{d:Nat}{t:Term}:Wy d t t.kids_.length=QJ (d+1) t:=by unfold Wy QJ;rw[Qe5]
theorem gj:∀(d:Nat) {F:Nat} (_:Q6+d<=F) {t:Term} (_:TD d t) {m:Int} (_:0<=m) (_:m<=40),∃v,JE F t m=some v/\1<=v/\v<=m+1/\(m<v↔m<(QJ d t:Int))/\((QJ d t:Int)<=m->v=QJ d t)
 |0,_,_,_,h,_,_,_=>h.elim
 |d+1,0,hF,_,_,_,_,_=>by unfold Q6 at hF;omega
 |d+1,F+1,hF,t,h,m,m0,m1=>by
  obtain⟨_,_,K,C⟩:=h;show ∃v,MU F (JE F) t m=some v/\_
  unfold MU;have f : Q6+d<=F:=by omega
  have r:=f;unfold Q6 at r
  suffices hs:∀ (n:Nat) (i:Nat) (v:Int),t.kids_.length-i<n->i<=t.kids_.length->1<=v->v<=m+1->(v<=m->v=(Wy d t i:Int))->(m<v->m<(Wy d t i:Int)) ->
    ∃u,Y3 (λagain (z:Int×Int)=>MT F (JE F) t m again z.1 z.2) n (v,(i:Int))=some u/\1<=u/\u<=m+1/\(m<u↔m<(QJ (d+1) t:Int))/\((QJ (d+1) t:Int)<=m->u=QJ (d+1) t) by
   refine hs F 0 1 (by omega) (by omega) (by omega) (by omega) (λ_=>by simp[Wy]) (λh=>?_);simp[Wy];omega
  intro n
  induction n with
  |zero=>intro i v h;omega
  |succ n ih=>
   intro i v H G o l g b;show ∃u,MT F (JE F) t m (Y3 _ n) v (i:Int)=some u/\_
   unfold MT
   by_cases hil:i<t.kids_.length
   .rw [show decide ((i:Int)<((t.kids_.length:Nat):Int))=true from Qa6 (by omega)]
    have a:=C _ (K3 hil);have e:=a.op
    by_cases hv:m<v
    .refine ⟨v,?_,o,l,?_,λh=>?_⟩
     .refine Y9 rfl (Q9 (by omega) (Q9 e (Y9 (Qa6 hv) rfl)))
     .exact ⟨λ_=>by have:=b hv;have:=LU (d:=d) (i:=i) (t:=t);omega,λ_=>hv⟩
     .have:=b hv;have:=LU (d:=d) (i:=i) (t:=t);omega
    .obtain ⟨w,B,I,J,p,s⟩:=gj d f a (m:=m-v) (by omega) (by omega)
     have q:=LS (d:=d) hil;have E:=g (by omega)
     have j:=ih (i+1) (v+w) (by omega) (by omega) (by omega) (by omega) (λh=>by
      have:=s (by
       have:¬m-v<w:=by omega
       have:=mt p.2 this
       omega)
      omega) (λh=>by
      have:=p.1 (by omega)
      omega)
     obtain⟨u,D,x⟩:=j;refine⟨u,?_,x⟩
     refine Y9 rfl (Q9 (by omega) (Q9 e (Z4 (Qa5 hv) (Q9 (V9 (by omega) (by omega)) (Q4 B (Q9 (V9 (by omega) (by omega)) (Q9 (V9 (by omega) (by omega)) ?_)))))));rw[<-D];congr 1
   .have k:i=t.kids_.length:=by omega
    subst k;rw[gA]at g b
    refine⟨v,Z4 (Qa5 (by omega)) rfl,o,l,⟨b,λh=>?_⟩,λh=>?_⟩
    .by_cases hv:m<v
     .exact hv
     .have:=g (by omega);omega
    .by_cases hv:m<v
     .have:=b hv;omega
     .exact g (by omega)
theorem bh:∀(d:Nat) (_:d<=2000000) {F:Nat} (_:Q6+d<=F) {t:Term} (_:TD d t),∃v,JY F t=some v/\1<=v/\v<=41*d/\(40<v↔40<(QJ d t:Int))/\((QJ d t:Int)<=40->v=QJ d t)
 |0,_,_,_,_,h=>h.elim
 |d+1,_,0,hF,_,_=>by unfold Q6 at hF;omega
 |d+1,hd,F+1,hF,t,h=>by
  obtain⟨_,_,I,B⟩:=h;show ∃v,SJ F (JY F) t=some v/\_
  unfold SJ;have e : Q6+d<=F:=by omega
  have s:=e;unfold Q6 at s
  suffices hs:∀ (n:Nat) (i:Nat) (v:Int),t.kids_.length-i<n->i<=t.kids_.length->1<=v->v<=41*((d+1:Nat):Int)->(v<=40->v=(Wy d t i:Int))->(40<v->40<(Wy d t i:Int)) ->
    ∃u,Y3 (λagain (z:Int×Int)=>SI F (JY F) t again z.1 z.2) n (v,(i:Int))=some u/\1<=u/\u<=41*((d+1:Nat):Int)/\(40<u↔40<(QJ (d+1) t:Int))/\((QJ (d+1) t:Int)<=40->u=QJ (d+1) t) by
   exact hs F 0 1 (by omega) (by omega) (by omega) (by omega) (λ_=>by simp[Wy]) (λh=>by omega)
  intro n
  induction n with
  |zero=>intro i v h;omega
  |succ n ih=>
   intro i v E D q p g f;show ∃u,SI F (JY F) t (Y3 _ n) v (i:Int)=some u/\_
   unfold SI
   by_cases hil:i<t.kids_.length
   .rw [show decide ((i:Int)<((t.kids_.length:Nat):Int))=true from Qa6 (by omega)]
    have a:=B _ (K3 hil);have b:=a.op
    have r:=LS (d:=d) hil
    by_cases hv:v<=40
    .obtain ⟨w,x,G,H,k,o⟩:=bh d (by omega) e a
     have C:=g hv;obtain⟨u,m,j⟩:=ih (i+1) (v+w) (by omega) (by omega) (by omega) (by omega) (λh=>by
      have:=o (by
       have:¬40<w:=by omega
       have:=mt k.2 this
       omega)
      omega) (λh=>by
      by_cases h40:40<w
      .have:=k.1 h40;omega
      .have:=o (by have:=mt k.2 h40;omega);omega)
     refine⟨u,?_,j⟩;refine Y9 rfl (Q9 (by omega) (Q9 b (Y9 (Qa6 hv) (Q4 x (Q9 (V9 (by omega) (by omega)) ?_)))))
     unfold Df;refine Q9 (V9 (by omega) (by omega)) ?_
     rw[<-m];congr 1
    .obtain ⟨u,m,j⟩:=ih (i+1) v (by omega) (by omega) q p (λh=>by omega) (λh=>by have:=f h;omega)
     refine⟨u,?_,j⟩;refine Y9 rfl (Q9 (by omega) (Q9 b (Z4 (Qa5 hv) ?_)))
     unfold Df;refine Q9 (V9 (by omega) (by omega)) ?_
     rw[<-m];congr 1
   .have l:i=t.kids_.length:=by omega
    subst l;rw[gA]at g f
    refine⟨v,Z4 (Qa5 (by omega)) rfl,q,p,⟨f,λh=>?_⟩,λh=>?_⟩
    .by_cases hv:40<v
     .exact hv
     .have:=g (by omega);omega
    .by_cases hv:40<v
     .have:=f hv;omega
     .exact g (by omega)
def YN(n:Int):Bool:=n==1||(n==2||(n==4||(n==8||n==16)))
theorem zr(F:Nat)(n:Int):XP F n=some (YN n):=by
 unfold XP Gf YN
 cases h1:(n==(1:Int))<;>cases h2:(n==(2:Int))<;>cases h3:(n==(4:Int))<;>cases h4:(n==(8:Int))<;>rfl
theorem kU(F:Nat)(n:Int):JB F n=some (YN n):=by
 unfold JB
 by_cases h:1<=n/\n<=16
 .have b:n=1\/n=2\/n=3\/n=4\/n=5\/n=6\/n=7\/n=8\/n=9\/n=10\/n=11\/n=12\/n=13\/n=14\/n=15\/n=16:=by omega
  rcases b with rfl|rfl|rfl|rfl|rfl|rfl|rfl|rfl|rfl|rfl|rfl|rfl|rfl|rfl|rfl|rfl<;>rfl
 .have e:YN n=false:=by
   unfold YN;simp only[Qg5,Qs6]
   omega
  rw[e];refine Z6 (λf=>Z6 (λa=>?_) (λ_=>rfl)) (λ_=>rfl)
  exact absurd ⟨Qa8 f,Qa8 a⟩ h
end
end Go.Ab
end
section
namespace Go.Ab
set_option maxRecDepth 20000
noncomputable section
def Wq(t:Term):Bool:=
 if t.op_=1 then t.num_==0&&(t.more_==0&&t.kids_.length==0)
 else if t.op_=2 then(decide (0<=t.num_)&&decide (t.num_<=39))&&(t.more_==0&&t.kids_.length==0)
 else if t.op_=3 then(decide (0<=t.num_)&&decide (t.num_<=40))&&(t.more_==0&&t.kids_.length==0)
 else if t.op_=4 then YN t.num_&&(t.more_==0&&t.kids_.length==0)
 else if t.op_=5 then(decide (0<=t.num_)&&decide (t.num_<=15))&&(t.more_==0&&t.kids_.length==0)
 else if t.op_=6 then(decide (2<=t.num_)&&decide (t.num_<=10))&&(t.more_==0&&t.kids_.length==0)
 else if t.op_=7 then(decide (1<=t.num_)&&decide (t.num_<=10))&&(YN t.more_&&t.kids_.length==0)
 else if t.op_=8 then(decide (1<=t.num_)&&decide (t.num_<=10))&&(t.more_==0&&t.kids_.length==0)
 else if t.op_=9\/t.op_=10 then t.num_==0&&(t.more_==0&&decide (1<=t.kids_.length))
 else if t.op_=11 then t.num_==0&&(t.more_==0&&t.kids_.length==1)
 else false
def Yl:Nat->Term->Bool
 |0,_=>false
 |d+1,t=>Wq t&&t.kids_.all (Yl d)
def Wb:Nat->Term->Nat
 |0,_=>0
 |d+1,t=>1+t.kids_.foldl (λn k=>max n (Wb d k)) 0
def YX:Nat->Nat->Term->Bool
 |0,_,_=>false
 |d+1,n,t=> !decide (n=0)&&(Wq t&&t.kids_.all (YX d (n-1)))
theorem vt{α:Type}(f:α->Nat):∀(l:List α) (a n:Nat),l.foldl (λn k=>max n (f k)) a<=n↔a<=n/\∀k∈l,f k<=n
 |[],a,n=>by simp
 |x::l,a,n=>by
  rw[Qr0,vt f l]
  grind
theorem RT:∀(d n:Nat) (t:Term),TD d t->YX d n t=(decide (Wb d t<=n)&&Yl d t)
 |0,_,_,h=>h.elim
 |d+1,n,t,h=>by
  unfold YX Wb Yl;have b:=h.2.2.2
  cases n with
  |zero=>simp
  |succ n=>
   have g:t.kids_.all (YX d (n+1-1))=(t.kids_.all (λk=>decide (Wb d k<=n))&&t.kids_.all (Yl d)):=by
    rw[Qe1,Qa4,Qc0,Qc0,Qc0];constructor
    .intro h
     refine⟨λk a=>?_,λk a=>?_⟩<;>(have:=h k a;rw[Qt6,RT d n k (b k a),Qa4]at this)
     all_goals grind
    .rintro ⟨e,f⟩ k a
     rw[Qt6,RT d n k (b k a),e k a,f k a];rfl
   have i:decide (1+t.kids_.foldl (λn k=>max n (Wb d k)) 0<=n+1)=t.kids_.all (λk=>decide (Wb d k<=n)):=by
    rw[Qe1,Qb5,Qc0];have:=vt (Wb d) t.kids_ 0 n
    grind
   grind
theorem zu:∀(d:Nat) (_:d<=2000000) {F:Nat} (_:Q6+d<=F) {t:Term} (_:TD d t),JX F t=some (Wb d t:Int)/\Wb d t<=d
 |0,_,_,_,_,h=>h.elim
 |d+1,_,0,hF,_,_=>by unfold Q6 at hF;omega
 |d+1,hd,F+1,hF,t,h=>by
  obtain⟨_,_,w,l⟩:=h;have a : Q6+d<=F:=by omega
  have m:=a;unfold Q6 at m
  have p:t.kids_.foldl (λn k=>max n (Wb d k)) 0<=d:=(vt _ _ _ _).2 ⟨by omega,λk j=>(zu d (by omega) a (l k j)).2⟩;refine⟨?_,by unfold Wb;omega⟩
  show SH F (JX F) t=_;unfold SH
  suffices hs:∀ (n:Nat) (i:Nat) (v:Nat),t.kids_.length-i<n->i<=t.kids_.length->(t.kids_.drop i).foldl (fun n k=>max n (Wb d k)) v=t.kids_.foldl (fun n k=>max n (Wb d k)) 0->v<=d ->
    Y3 (λagain (z:Int×Int)=>SG F (JX F) t again z.1 z.2) n ((v:Int),(i:Int))=some ((Wb (d+1) t:Nat):Int) by
   exact hs F 0 0 (by omega) (by omega) rfl (by omega)
  intro n
  induction n with
  |zero=>intro i v h;omega
  |succ n ih=>
   intro i v s r e q;show SG F (JX F) t (Y3 _ n) (v:Int) (i:Int)=_
   unfold SG
   by_cases hil:i<t.kids_.length
   .have b:=l _ (K3 hil)
    obtain⟨o,u⟩:=zu d (by omega) a b;rw[Zy hil,Qr0]at e
    have f:=ih (i+1) (max v (Wb d (gl t.kids_ i))) (by omega) (by omega) e (by omega);refine Y9 (Qa6 (by omega)) (Q9 (by omega) (Q9 b.op (Q4 o (Q9 (V9 (by omega) (by omega)) ?_))))
    rw[<-f];congr 1
    refine Prod.ext ?_ rfl;show K8 _ _=_
    unfold K8
    grind
   .have g:i=t.kids_.length:=by omega
    subst g;rw[Qh4,List.foldl_nil]at e
    refine Z4 (Qa5 (by omega)) ?_;unfold zv
    refine Q9 (V9 (by omega) (by omega)) ?_;unfold Wb
    grind
theorem be:∀(d:Nat) {F:Nat} (_:Q6+d<=F) {t:Term} (_:TD d t),YY F t=some (Yl d t)
 |0,_,_,_,h=>h.elim
 |d+1,0,hF,_,_=>by unfold Q6 at hF;omega
 |d+1,F+1,hF,t,h=>by
  obtain⟨_,_,D,w⟩:=h;have o : Q6+d<=F:=by omega
  have u:=o;unfold Q6 at u
  show SF F (YY F) t=_;have g:Y3 (λf (z:Int)=>XT F (YY F) t f z) F (0:Int)=some (t.kids_.all (Yl d)):=by
   refine Q0l (λl=>some (l.all (Yl d))) (λf i p q=>?_) (λf=>?_) (by omega)
   .show XT F (YY F) t f (i:Int)=_
    unfold XT;have m:=w _ (K3 p)
    refine Y9 (Qa6 (by omega)) (Q9 (by omega) (Q9 m.op (Q4 (be d o m) ?_)));show br (!Yl d (gl t.kids_ i)) _ _=some (Yl d (gl t.kids_ i)&&_)
    cases Yl d (gl t.kids_ i)with
    |false=>rfl
    |true=>exact Z4 rfl (Q9 (V9 (by omega) (by omega)) q)
   .show XT F (YY F) t f (t.kids_.length:Int)=_
    unfold XT;exact Z4 (Qa5 (by omega)) rfl
  have k2:∀b,XQ F (YY F) t b=some (!b&&t.kids_.all (Yl d)):=λb=>by
   unfold XQ
   cases b with
   |true=>rfl
   |false=>exact Z4 rfl g
  have k1:∀(n:Int) (a b:Bool),Zw F (YY F) t n a b=some ((b&&(a&&((t.kids_.length:Nat):Int)==n))&&t.kids_.all (Yl d)):=λn a b=>by
   unfold Zw
   cases b<;>cases a
   .rw [k2];rfl
   .rw [k2];rfl
   .exact Z4 rfl (Y9 rfl (k2 _))
   .refine Z4 rfl (Z4 rfl ((k2 _).trans ?_))
    grind
  have r:∀(n:Nat),(((t.kids_.length:Nat):Int)==(n:Int))=(t.kids_.length==n):=λn=>by
   grind
  have C:(((t.kids_.length:Nat):Int)==((t.kids_.length:Nat):Int))=true:=by simp
  have B:(decide ((0:Int)<((t.kids_.length:Nat):Int)))=decide (1<=t.kids_.length):=by rw[Qe1,Qb5,Qb5];omega
  have j:(((t.kids_.length:Nat):Int)==0)=(t.kids_.length==0):=r 0;have s:(((t.kids_.length:Nat):Int)==1)=(t.kids_.length==1):=r 1
  unfold SF Yl Wq;have K:∀{x:Option Bool} {n:Int} {a b c:Bool},x=Zw F (YY F) t n a b->(b&&(a&&((t.kids_.length:Nat):Int)==n))=c->x=some (c&&t.kids_.all (Yl d)):=λh e=>by rw[h,k1,e]
  have R:∀{lo p:Int} {a:Bool} {c:Bool},(Zw F (YY F) t 0 a (decide (lo<=t.num_)&&decide (t.num_<=p)))=some c->br (decide (lo<=t.num_)) (Zw F (YY F) t 0 a (decide (t.num_<=p))) (Zw F (YY F) t 0 a false)=some c:=λh=>by
   rw[<-h];cases decide (_<=t.num_)<;>rfl
  by_cases h1:t.op_=1
  .rw [Qa2 h1]
   exact Y9 (by simp[h1]) (K rfl (by rw[j]))
  rw[Qa1 h1];refine Z4 (by simp[h1]) ?_
  by_cases h2:t.op_=2
  .rw [Qa2 h2]
   refine Y9 (by simp[h2]) ?_;rw[show decide (t.num_<40)=decide (t.num_<=39)from Qv0.2 (by omega)]
   exact R (K rfl (by rw[j]))
  rw[Qa1 h2];refine Z4 (by simp[h2]) ?_
  by_cases h3:t.op_=3
  .rw [Qa2 h3]
   exact Y9 (by simp[h3]) (R (K rfl (by rw[j])))
  rw[Qa1 h3];refine Z4 (by simp[h3]) ?_
  by_cases h4:t.op_=4
  .rw [Qa2 h4]
   exact Y9 (by simp[h4]) (Q4 (zr F _) (K rfl (by rw[j])))
  rw[Qa1 h4];refine Z4 (by simp[h4]) ?_
  by_cases h5:t.op_=5
  .rw [Qa2 h5]
   exact Y9 (by simp[h5]) (R (K rfl (by rw[j])))
  rw[Qa1 h5];refine Z4 (by simp[h5]) ?_
  by_cases h6:t.op_=6
  .rw [Qa2 h6]
   exact Y9 (by simp[h6]) (R (K rfl (by rw[j])))
  rw[Qa1 h6];refine Z4 (by simp[h6]) ?_
  by_cases h7:t.op_=7
  .rw [Qa2 h7]
   refine Y9 (by simp[h7]) ?_;refine Z6 (λk=>Q4 (zr F _) (K rfl ?_)) (λk=>Q4 (zr F _) (K rfl ?_))
   all_goals grind
  rw[Qa1 h7];refine Z4 (by simp[h7]) ?_
  by_cases k:t.op_=8
  .rw [Qa2 k]
   exact Y9 (by simp[k]) (R (K rfl (by rw[j])))
  rw[Qa1 k];refine Z4 (by simp[k]) ?_
  have v:XR F (YY F) t true=some ((t.num_==0&&(t.more_==0&&decide (1<=t.kids_.length)))&&t.kids_.all (Yl d)):=by
   unfold XR;refine Y9 rfl (Z6 (λh=>K rfl ?_) (λh=>K rfl ?_))
   all_goals grind
  by_cases h9:t.op_=9\/t.op_=10
  .rw [Qa2 h9]
   refine Z6 (λh=>?_) (λh=>?_)
   all_goals grind
  rw[Qa1 h9];refine Z4 (by simp;omega) ?_
  rw[show(t.op_==(10:Int))=false by simp;omega];unfold XR
  refine Z4 rfl ?_
  by_cases h11:t.op_=11
  .rw [Qa2 h11]
   exact Y9 (by simp[h11]) (K rfl (by rw[s]))
  .rw [Qa1 h11]
   exact Z4 (by simp[h11]) (K rfl rfl)
end
end Go.Ab
end
section
namespace Go.Ab
set_option maxRecDepth 20000
noncomputable section
theorem Q7s{F:Nat}{l:List Term}{q:Term->Option Bool}(p:Term->Bool)(hF:l.length<F)(hl:l.length<=1000000000)(ho:∀r∈l,Q8 r.op_)(hq:∀r∈l,q r=some (p r)):∃i:Int,Rj F l q=some i/\(0<=i↔l.any p=true):=by
 unfold Rj
 suffices hs:∀(n i:Nat),l.length-i<n->i<=l.length->∃j:Int,Y3 (λagain (z:Int)=>Ri F l q again z) n (i:Int)=some j/\(0<=j↔(l.drop i).any p=true) by
  simpa using hs F 0 (by omega) (by omega)
 intro n
 induction n with
 |zero=>intro i h;omega
 |succ n ih=>
  intro i f g;show ∃j:Int,Ri F l q (Y3 _ n) (i:Int)=some j/\_
  unfold Ri
  by_cases hil:i<l.length
  .have a:=K3 hil
   rw[xR hil]
   cases hp:p (gl l i)with
   |true=>exact⟨i,Y9 (Qa6 (by omega)) (Q9 (by omega) (Q9 (ho _ a) (Q4 (hq _ a) (Y9 hp rfl)))),by simp⟩
   |false=>
    obtain⟨j,e,b⟩:=ih (i+1) (by omega) (by omega);refine⟨j,Y9 (Qa6 (by omega)) (Q9 (by omega) (Q9 (ho _ a) (Q4 (hq _ a) (Z4 hp (Q9 (V9 (by omega) (by omega)) ?_))))),by simpa using b⟩
    rw[<-e];congr 1
  .refine ⟨-1,Z4 (Qa5 (by omega)) rfl,?_⟩
   grind
theorem Q7L{F:Nat}{l:List Term}{q:Term->Option Bool}(p:Term->Bool)(hF:l.length<F)(hl:l.length<=1000000000)(ho:∀r∈l,Q8 r.op_)(hq:∀r∈l,q r=some (p r)):Rt F l q=some (l.any p):=by
 obtain⟨i,b,a⟩:=Q7s p hF hl ho hq;unfold Rt
 grind
def WU(n:Int):Int×Int×Bool:=if n=2 then(0,39,true)else if n=3 then(0,40,true)else if n=4 then(1,16,true)else if n=5 then(0,15,true)else if n=6 then(2,10,true)else if n=7\/n=8 then(1,10,true)else(0,0,false)
def Ye(n:Int):Int×Int:=if n=9\/n=10 then(1,40)else if n=11 then(1,1)else(0,0)
theorem Q5z(F:Nat)(n:Int):MO F n=some (WU n):=by
 unfold MO WU MN
 by_cases h2:n=2
 .subst h2;rfl
 by_cases h3:n=3
 .subst h3;rfl
 by_cases h4:n=4
 .subst h4;rfl
 by_cases h5:n=5
 .subst h5;rfl
 by_cases h6:n=6
 .subst h6;rfl
 by_cases h7:n=7
 .subst h7;rfl
 by_cases h8:n=8
 .subst h8;rfl
 have e:∀m:Int,n≠m->(n==m)=false:=λm h=>by simpa using h
 rw[e 2 h2,e 3 h3,e 4 h4,e 5 h5,e 6 h6,e 7 h7,e 8 h8,Qa1 h2,Qa1 h3,Qa1 h4,Qa1 h5,Qa1 h6,Qa1 (by omega)];rfl
theorem Q5B(F:Nat)(n:Int):MR F n=some (Ye n):=by
 unfold MR Ye MQ;have e:∀m:Int,n≠m->(n==m)=false:=λm h=>by simpa using h
 by_cases h2:n=9
 .subst h2;rfl
 by_cases h3:n=10
 .subst h3;rfl
 by_cases h4:n=11
 .subst h4;rfl
 rw[e 9 h2,e 10 h3,e 11 h4,Qa1 (by omega),Qa1 h4];rfl
def FH(t:Term):Bool:=((WU t.op_).2.2&&(decide (t.num_<(WU t.op_).1)||decide ((WU t.op_).2.1<t.num_)))||(!(WU t.op_).2.2&&t.num_ != 0)
def PO(t:Term):Bool:=(t.op_==4 && !YN t.num_)||((t.op_==7 && !YN t.more_)||(t.op_ != 7&&t.more_ != 0))
def Xb(t:Term):Bool:=decide (((t.kids_.length:Nat):Int)<(Ye t.op_).1)||decide ((Ye t.op_).2<((t.kids_.length:Nat):Int))
theorem Z1b{t:Term}(hl:t.kids_.length<=40):(!(decide (t.op_<1)||decide (11<t.op_))&&(!FH t&&(!PO t && !Xb t)))=Wq t:=by
 have f:∀n:Int,YN n=true->1<=n/\n<=16:=λn h=>by
  unfold YN at h;simp only[Qj3,Qg4]at h;omega
 have g:∀n:Nat,(t.kids_.length==n)=decide (t.kids_.length=n):=λn=>by rw[Qe1,Qg4,Qb5]
 rw[Qe1];unfold FH PO Xb WU Ye Wq
 generalize t.op_=o,t.num_=n,t.more_=m at *;have a:∀{p q:Prop},(p↔q)->(p↔q):=λh=>h
 by_cases h:o<1\/11<o
 .rw [show(decide (o<1)||decide (11<o))=true by simpa using h]
  have e:∀m:Int,1<=m->m<=11->¬o=m:=λm _ _=>by omega
  simp[e 1,e 2,e 3,e 4,e 5,e 6,e 7,e 8,e 9,e 10,e 11]
 have b:o=1\/o=2\/o=3\/o=4\/o=5\/o=6\/o=7\/o=8\/o=9\/o=10\/o=11:=by omega
 rcases b with rfl|rfl|rfl|rfl|rfl|rfl|rfl|rfl|rfl|rfl|rfl<;>simp<;>(try omega)
 grind
theorem kW:∀(d:Nat) {F:Nat} (_:Q6+d<=F) {t:Term} (_:TD d t) (_:QJ d t<=40) (n:Nat) (_:n<=8),ZE F t (n:Int)=some (YX d n t)
 |0,_,_,_,h,_,_,_=>h.elim
 |d+1,0,hF,_,_,_,_,_=>by unfold Q6 at hF;omega
 |d+1,F+1,hF,t,h,hs,n,hn=>by
  obtain⟨_,_,G,f⟩:=h;have g : Q6+d<=F:=by omega
  have w:=g;unfold Q6 at w
  have q:t.kids_.length<=39:=by
   have:t.kids_.length<=(t.kids_.map (QJ d)).sum:=by
    have:∀l:List Term,(∀k∈l,TD d k)->l.length<=(l.map (QJ d)).sum:=by
     intro l
     induction l with
     |nil=>intro _;simp
     |cons x l ih=>intro r;have:=Q5N (r x (by simp));have:=ih λk f=>r k (by simp[f]);simp;omega
    exact this _ f
   unfold QJ at hs;omega
  have m:∀k∈t.kids_,QJ d k<=40:=λk a=>by
   obtain⟨i,p,rfl⟩:=Qc7 a;have D:=LS (d:=d) p
   have E:=LU (d:=d) (i:=i+1) (t:=t);rw[Qc p]at D;omega
  show MD F (ZE F) t (n:Int)=_;unfold MD
  refine Q4 (Q5z F _) (Q4 (Q5B F _) ?_);have v:∀b,n≠0->Xo F (ZE F) t (n:Int) b=some (!b&&t.kids_.all (YX d (n-1))):=λb e=>by
   unfold Xo
   cases b with
   |true=>rfl
   |false=>
    refine Z4 rfl (Q4 (Q7L (λk=> !YX d (n-1) k) (by omega) (by omega) (λk a=>(f k a).op) λk a=>?_) ?_)
    .unfold LH
     refine Q9 (V9 (by omega) (by omega)) ?_;rw[show((n:Int)-1)=((n-1:Nat):Int) by omega]
     exact Q4 (kW d g (f k a) (m k a) (n-1) (by omega)) rfl
    all_goals grind
  have k2:∀b,n≠0->ZD F (ZE F) t (n:Int) (Ye t.op_) b=some (!b&&(!Xb t&&t.kids_.all (YX d (n-1)))):=λb e=>by
   unfold ZD Xb
   cases b with
   |true=>rfl
   |false=>
    refine Z4 rfl ?_;rw[Yi (λb=>Xo F (ZE F) t (n:Int) b),v _ e];rfl
  have k1:∀b,n≠0->Uh F (ZE F) t (n:Int) (Ye t.op_) b=some (!b&&(!PO t&&(!Xb t&&t.kids_.all (YX d (n-1))))):=λb e=>by
   unfold Uh PO
   cases b with
   |true=>rfl
   |false=>
    refine Z4 rfl ?_;have u:(JB F t.more_).bind (λz=>br (!z) (ZD F (ZE F) t (n:Int) (Ye t.op_) true) (br (t.op_ != (7:Int)) (ZD F (ZE F) t (n:Int) (Ye t.op_) (t.more_ != (0:Int))) (ZD F (ZE F) t (n:Int) (Ye t.op_) false)))=ZD F (ZE F) t (n:Int) (Ye t.op_) (!YN t.more_||(t.op_ != 7&&t.more_ != 0)):=by
     refine Q4 (kU F _) ?_
     cases YN t.more_<;>cases(t.op_ != (7:Int))<;>rfl
    have s:(br (t.op_==(7:Int)) ((JB F t.more_).bind (fun z=>br (!z) (ZD F (ZE F) t (n:Int) (Ye t.op_) true) (br (t.op_ != (7:Int)) (ZD F (ZE F) t (n:Int) (Ye t.op_) (t.more_ != (0:Int))) (ZD F (ZE F) t (n:Int) (Ye t.op_) false)))) (br (t.op_ != (7:Int)) (ZD F (ZE F) t (n:Int) (Ye t.op_) (t.more_ != (0:Int))) (ZD F (ZE F) t (n:Int) (Ye t.op_) false)))
      = ZD F (ZE F) t (n:Int) (Ye t.op_) ((t.op_==7 && !YN t.more_)||(t.op_ != 7&&t.more_ != 0)):=by
     rw[u]
     cases h7:(t.op_==(7:Int))with
     |true=>rw[show(t.op_ != (7:Int))=false by rw[bne,h7];rfl];cases YN t.more_<;>rfl
     |false=>rw[show(t.op_ != (7:Int))=true by rw[bne,h7];rfl];rfl
    rw[s];refine Z6 (λo=>Q4 (kU F _) ?_) (λo=>?_)
    .rw [o,Qe4]
     cases YN t.num_ with
     |false=>refine Y9 rfl ((k2 _ e).trans ?_);rfl
     |true=>refine Z4 rfl ((k2 _ e).trans ?_);rfl
    all_goals grind
  have C:∀b,(b=false->n≠0)->JC F (ZE F) t (n:Int) (WU t.op_) (Ye t.op_) b=some (!b&&(!FH t&&(!PO t&&(!Xb t&&t.kids_.all (YX d (n-1)))))):=λb B=>by
   unfold JC FH
   cases b with
   |true=>rfl
   |false=>
    have e:=B rfl;refine Z4 rfl ?_
    have k1:=λb=>k1 b e
    generalize hK:Uh F (ZE F) t (n:Int) (Ye t.op_)=K at k1⊢;generalize (!PO t&&(!Xb t&&t.kids_.all (YX d (n-1))))=rest at k1⊢
    generalize (t.num_ != 0)=nz
    cases(WU t.op_).2.2<;>cases decide (t.num_<(WU t.op_).1)<;>cases decide ((WU t.op_).2.1<t.num_)<;>cases nz<;>simp only[br,k1]<;>rfl
  have j:(((n:Int))==0)=decide (n=0):=by rw[Qe1,Qg4,Qb5];omega
  rw[j];rw[Yi (λb=>JC F (ZE F) t (n:Int) (WU t.op_) (Ye t.op_) b),Yi (λb=>JC F (ZE F) t (n:Int) (WU t.op_) (Ye t.op_) b)]
  rw[C _ (λh=>by simp only[Qg5,Qi8]at h;exact h.2.2)];unfold YX
  rw[<-Z1b (t:=t) (by omega)]
  grind
def YL(d:Nat)(t:Term):Int:=if 40<QJ d t then 1 else if YX d 8 t=true then 0 else 16
theorem gp{d F:Nat}(hF:Q6+d<=F){t:Term}(h:TD d t):BB F t=some (YL d t):=by
 unfold BB YL;obtain⟨v,e,_,_,b,_⟩:=gj d hF h (m:=40) (by omega) (by omega)
 refine Q4 e (Z6 (λa=>?_) (λa=>?_))
 .grind
 .have f:¬40<QJ d t:=λh=>Qb2 a (b.2 (by omega))
  rw[Qa1 f];refine Q4 (kW d hF h (by omega) 8 (by omega)) ?_
  cases YX d 8 t<;>rfl
theorem Q9K{d F:Nat}(hd:d<=2000000)(hF:Q6+d<=F){t:Term}(h:TD d t):SL F t=some (YL d t):=by
 unfold SL YL;obtain⟨v,f,_,_,e,_⟩:=bh d hd hF h
 refine Q4 f (Z6 (λb=>?_) (λb=>?_))
 .grind
 .have g:¬40<QJ d t:=λh=>Qb2 b (e.2 (by omega))
  rw[Qa1 g,RT d 8 t h];refine Q4 (zu d hd hF h).1 (Z6 (λa=>?_) (λa=>?_))
  .have a:=Qa8 a
   rw[Qa5 (by omega)];rfl
  .have a:=Qb2 a
   rw[Qa6 (by omega)];refine Q4 (be d hF h) ?_
   unfold SK
   cases Yl d t<;>rfl
theorem Q5I(d:Nat):YL (d+1) ⟨1,0,0,[]⟩=0:=by
 unfold YL;rw[Qa1 (by simp[QJ]),Qa2]
 simp[YX,Wq]
end
end Go.Ab
end
section
namespace Go.Ab
set_option maxRecDepth 20000
noncomputable section
def PP(y:Int)(cs:List Crop)(hs:List Rg_)(zs:List A2_)(d c:Int)(A:List Rect)(t:Term):TS:=
 if t.op_=2 then Ud A (c==t.num_)
 else if t.op_=3 then Ud A ((gl cs c.toNat).f_==t.num_)
 else if t.op_=4 then Ud A (VZ cs c t.num_)
 else if t.op_=5 then UG A (Q2 (Zf zs d λk=>k==t.num_))
 else if t.op_=6 then VH A hs cs y (gl cs c.toNat).f_ (t.num_.toNat-1)
 else if t.op_=7 then⟨VX A hs (y-t.num_) λk=>VZ cs k t.more_,VX A hs (y-t.num_) λk=> !VZ cs k t.more_⟩
 else if t.op_=8 then UG A (Q2 (Zl hs (y-t.num_) λ_=>true))
 else Ud A true
def QC(y:Int)(cs:List Crop)(hs:List Rg_)(zs:List A2_)(d c:Int)(A:List Rect):Nat->Term->TS
 |0,_=>Ud A true
 |e+1,t=>
  if t.op_=9 then⟨λu v=>Q2 A u v&&t.kids_.all λk=>(QC y cs hs zs d c A e k).Y u v,λu v=>t.kids_.any λk=>(QC y cs hs zs d c A e k).N u v⟩
  else if t.op_=10 then⟨λu v=>t.kids_.any λk=>(QC y cs hs zs d c A e k).Y u v,λu v=>Q2 A u v&&t.kids_.all λk=>(QC y cs hs zs d c A e k).N u v⟩
  else if t.op_=11 then⟨(QC y cs hs zs d c A e (gl t.kids_ 0)).N,(QC y cs hs zs d c A e (gl t.kids_ 0)).Y⟩
  else PP y cs hs zs d c A t
variable {F:Nat} {cs:List Crop} {hs:List Rg_} {zs:List A2_} {y c d:Int} {A:List Rect}
theorem TIn.turn{s:TS}(h:TIn A s):TIn A ⟨s.N,s.Y⟩:=⟨h.fN,h.fY,h.sN,h.sY⟩
theorem Z5w(t:Term):TIn A (PP y cs hs zs d c A t):=by
 unfold PP
 repeat' split
 .exact PT _ _
 .exact PT _ _
 .exact PT _ _
 .exact Q2A (Qz _)
 .exact Rh _ _ _ _ _ _
 .exact ⟨Jm _ _ _ _,Jm _ _ _ _,λ_ _ h=>Ph h,λ_ _ h=>Ph h⟩
 .exact Q2A (Qz _)
 .exact PT _ _
theorem Q1W{B:Sq}(hB:Fin B){α:Type}(f:α->Sq):∀(l:List α),(∀k∈l,Fin (f k))->Fin λu v=>B u v&&l.all λk=>f k u v
 |[],_=>by simpa using hB
 |k::l,h=>by
  have b:=Jn (Q1W hB f l λj a=>h j (Qi9 _ a)) (h k Qh9)
  grind
theorem Q1V{α:Type}(f:α->Sq):∀(l:List α),(∀k∈l,Fin (f k))->Fin λu v=>l.any λk=>f k u v
 |[],_=>by simpa using CD
 |k::l,h=>by
  have a:=vB (h k Qh9) (Q1V f l λj b=>h j (Qi9 _ b));simpa using a
theorem xS{α:Type}(f:α->TS)(l:List α)(h:∀k∈l,TIn A (f k)):TIn A ⟨λu v=>Q2 A u v&&l.all λk=>(f k).Y u v,λu v=>l.any λk=>(f k).N u v⟩:=by
 refine⟨Q1W (Qz A) (λk=>(f k).Y) l λk a=>(h k a).fY,Q1V (λk=>(f k).N) l λk a=>(h k a).fN,λu v b=>?_,λu v b=>?_⟩
 .grind
 .obtain ⟨k,a,e⟩:=Qc6.1 b
  exact(h k a).sN u v e
theorem GH:∀(e:Nat) (t:Term),TIn A (QC y cs hs zs d c A e t)
 |0,_=>PT _ _
 |e+1,t=>by
  unfold QC;split
  .exact xS _ _ λk _=>GH e k
  split
  .exact (xS (λk=>⟨(QC y cs hs zs d c A e k).N,(QC y cs hs zs d c A e k).Y⟩) t.kids_ λk _=>(GH e k).turn).turn
  split
  .exact (GH e _).turn
  .exact Z5w t
structure PL (p:TermPlace) (y:Int) (cs:List Crop) (hs:List Rg_) (zs:List A2_) (d c:Int) (A:List Rect):Prop where
 yr:p.world_.year_=y
 cs:p.world_.crops_=cs
 hs:p.world_.history_=hs
 zs:p.world_.zones_=zs
 dd:p.world_.day_=d
 cr:p.line_.c_=c
 re:p.t_=A
theorem Z0o{n:Nat}{L:List A2_}(h:∀f∈L,QT n f.g_.t_)(d:Int)(p:Int->Bool):QT n (Zf L d p):=λr a=>by
 unfold Zf at a;obtain⟨f,e,b⟩:=Qb8.1 a
 exact h f (Qf9.1 e).1 r b
theorem Z1e{t:Term}(hn:Wq t=true)(q:t.op_=6):2<=t.num_/\t.num_<=10:=by
 unfold Wq at hn
 grind
theorem Z1d{t:Term}(hn:Wq t=true)(q:t.op_=7):(1<=t.num_/\t.num_<=10)/\YN t.more_=true:=by
 unfold Wq at hn;simp[q]at hn
 grind
theorem Z1c{t:Term}(hn:Wq t=true)(q:t.op_=8):1<=t.num_/\t.num_<=10:=by
 unfold Wq at hn;simp[q]at hn
 omega
theorem Q0W{n:Nat}{L:List A2_}(h:LB n L){f:A2_}(hf:f∈L):J1 f.g_.t_:=((yc f).1 (h.vl.one f hf)).2.2.2.2.2.2.2.2
theorem LB.few'{n:Nat}{L:List A2_}(h:LB n L)(d:Int)(p:Int->Bool):(Zf L d p).length<=7200:=by
 have a:=h.vl.len;have:∀(M:List A2_),(∀f∈M,f.g_.t_.length<=120)->(Zf M d p).length<=120*M.length:=by
  intro M
  induction M with
  |nil=>intro _;simp[Zf]
  |cons f M ih=>
   intro e;rw[zL]
   grind
 have:=this L λf b=>(Q0W h b).1
 omega
theorem Q5E(hF:Q6<=F)(h:EV y cs hs zs c A){p:TermPlace}(hp:PL p y cs hs zs d c A){t:Term}(hn:Wq t=true):MM F p t=some ((PP y cs hs zs d c A t).sqs A):=by
 have b:=h.tr.val;have i:=h.crop
 unfold MM PP;refine Z6 (λq=>?_) λG=>Z6 (λq=>?_) λD=>Z6 (λq=>?_) λJ=>Z6 (λq=>?_) λK=>Z6 (λq=>?_) λs=>Z6 (λq=>?_) λH=>Z6 (λq=>?_) λx=>?_
 .have q:=eq_of_beq q
  rw[Qa2 q,hp.cr];exact Q4 (MB hp.re b _) rfl
 .have q:=eq_of_beq q
  rw[Qa1 (by omega),Qa2 q,hp.cr,hp.cs];exact Q9 i (Q4 (MB hp.re b _) rfl)
 .have q:=eq_of_beq q
  rw[Qa1 (by omega),Qa1 (by omega),Qa2 q,hp.cr,hp.cs];exact Q4 (xw F cs c t.num_) (Q4 (MB hp.re b _) rfl)
 .have q:=eq_of_beq q
  rw[Qa1 (by omega),Qa1 (by omega),Qa1 (by omega),Qa2 q,hp.zs,hp.dd];have I:=Z0o h.zs.box d λk=>k==t.num_
  refine Q4 (Q2c hF (by have:=h.zs.vl.len;omega) (λf w=>(Q0W h.zs w).1) d (λk=>k==t.num_) λf _=>rfl) ?_;refine Q4 (WZ hF (a:=p.t_) (by rw[hp.re];exact b.le8) (by have:=h.zs.few' d λk=>k==t.num_;omega) (by rw[hp.re];exact b.pos) (λr C=>(I r C).2.1) (S:=Q2 A) (by rw[hp.re]) rfl (k:=λu v=>u&&v) rfl (MW F)) ?_
  exact Q4 (gh hF hp.re h.tr (Qz _)) rfl
 .have q:=eq_of_beq q
  rw[Qa1 (by omega),Qa1 (by omega),Qa1 (by omega),Qa1 (by omega),Qa2 q];have l:=Z1e hn q
  have:=Q5l hF h hp.hs hp.yr hp.re hp.cs hp.cr (n:=t.num_.toNat) (by omega) (by omega)
  grind
 .have q:=eq_of_beq q
  rw[Qa1 (by omega),Qa1 (by omega),Qa1 (by omega),Qa1 (by omega),Qa1 (by omega),Qa2 q];have l:=(Z1d hn q).1
  have j:∀f∈hs,Bx F f.c_ p t=some (VZ cs f.c_ t.more_):=λf _=>by
   unfold Bx;rw[hp.cs]
   exact Q4 (xw F cs _ _) rfl
  have B:∀f∈hs,Bw F f.c_ p t=some (!VZ cs f.c_ t.more_):=λf _=>by
   unfold Bw;rw[hp.cs]
   exact Q4 (xw F cs _ _) rfl
  have E:TIn A ⟨VX A hs (y-t.num_) λk=>VZ cs k t.more_,VX A hs (y-t.num_) λk=> !VZ cs k t.more_⟩:=⟨Jm _ _ _ _,Jm _ _ _ _,λ_ _ h=>Ph h,λ_ _ h=>Ph h⟩;have m:=Bz hF h hp.hs hp.yr hp.re (n:=t.num_) (q:=λg=>Bx F g p t) (by omega) (by omega) (λk=>VZ cs k t.more_) j
  have o:=Bz hF h hp.hs hp.yr hp.re (n:=t.num_) (q:=λg=>Bw F g p t) (by omega) (by omega) (λk=> !VZ cs k t.more_) B;have L:=LI hF hp.re h.tr E
  grind
 .have q:=eq_of_beq q
  rw[Qa1 (by omega),Qa1 (by omega),Qa1 (by omega),Qa1 (by omega),Qa1 (by omega),Qa1 (by omega),Qa2 q];have l:=Z1c hn q
  have j:∀f∈hs,Cs F f.c_=some true:=λ_ _=>rfl
  have m:=Bz hF h hp.hs hp.yr hp.re (n:=t.num_) (q:=λg=>Cs F g) (by omega) (by omega) (λ_=>true) j;have o:=gh hF hp.re h.tr (S:=Q2 (Zl hs (y-t.num_) λ_=>true)) (Qz _)
  exact Q4 m (Q4 o rfl)
 .have z:∀{k:Int},(t.op_==k)=false->¬t.op_=k:=λh e=>by rw[e]at h;simp at h
  rw[Qa1 (z G),Qa1 (z D),Qa1 (z J),Qa1 (z K),Qa1 (z s),Qa1 (z H),Qa1 (z x)];exact Q4 (MB hp.re b _) rfl
def Wc(A:List Rect)(l:List TS):TS:=⟨λu v=>Q2 A u v&&l.all λk=>k.Y u v,λu v=>l.any λk=>k.N u v⟩
theorem Q2R{l:List TS}(h:∀s∈l,TIn A s):TIn A (Wc A l):=xS (λk=>k) l h
theorem Z4Q(l:List TS)(s:TS):Wc A (l++[s])=⟨λu v=>(Wc A l).Y u v&&s.Y u v,λu v=>(Wc A l).N u v||s.N u v⟩:=by
 unfold Wc
 grind
theorem Q5F(hF:Q6<=F){p:TermPlace}(e3:p.t_=A)(ht:TR A){l:List TS}(hl:∀s∈l,TIn A s)(hlen:l.length<=1000000):Xs F p (l.map (TS.sqs A))=some ((Wc A l).sqs A):=by
 have h:=hF;unfold Q6 at h
 unfold Xs;have e:∀(m f k:Nat),k+m=l.length->m<f->Y3 (λagain (z:(List Rect)×(List Rect)×Int)=>Xr F p (l.map (TS.sqs A)) again z.1 z.2.1 z.2.2) f (cn (Wc A (l.take k)).Y,cn (Wc A (l.take k)).N,((k:Nat):Int))=some ((Wc A l).sqs A):=by
  intro m
  induction m with
  |zero=>
   intro f k q n;obtain⟨f,rfl⟩:∃g,f=g+1:=⟨f-1,by omega⟩
   show Xr F p (l.map (TS.sqs A)) (Y3 _ f) _ _ ((k:Nat):Int)=_;unfold Xr
   refine Z4 (Qa5 (by rw[Qg1];omega)) ?_;unfold LN
   rw[show k=l.length by omega,Qe5];exact Q4 (LI hF e3 ht (Q2R hl)) rfl
  |succ m ih=>
   intro f k q n;obtain⟨f,rfl⟩:∃g,f=g+1:=⟨f-1,by omega⟩
   show Xr F p (l.map (TS.sqs A)) (Y3 _ f) _ _ ((k:Nat):Int)=_;unfold Xr
   have a:k<l.length:=by omega
   have b:TIn A (Wc A (l.take k)):=Q2R λs hs=>hl s (Qi1 hs)
   have hs:=hl _ (Qd8 a);have j:gl (l.map (TS.sqs A)) ((k:Nat):Int).toNat=(l[k]).sqs A:=by
    rw[Qa3,Qc (by simpa using a),List.getElem_map]
   have i:=ih f (k+1) (by omega) (by omega);have r:l.take (k+1)=l.take k++[l[k]]:=by rw[Qv1 a]
   rw[r,Z4Q]at i;rw[j]
   refine Y9 (Qa6 (by rw[Qg1];omega)) (Q9 (by rw[Qg1];omega) (Q4 (WZ hF (b.vY ht).le8 (hs.vY ht).le8 (b.vY ht).pos (hs.vY ht).pos (ZO b.fY) (ZO hs.fY) (k:=λu v=>u&&v) rfl (MW F)) (Q4 (WZ hF (b.vN ht).le8 (hs.vN ht).le8 (b.vN ht).pos (hs.vN ht).pos (ZO b.fN) (ZO hs.fN) (k:=λu v=>u||v) rfl (gg F)) (Q9 (V9 (by omega) (by omega)) ?_))));exact i
 have:=e l.length F 0 (by omega) (by omega)
 have o:Wc A (l.take 0)=⟨Q2 A,λ_ _=>false⟩:=by unfold Wc;simp
 rw[o]at this;simp only[GT ht.val,Kr]at this
 grind
end
end Go.Ab
end
section
namespace Go.Ab
set_option maxRecDepth 20000
noncomputable section
def TS.turn(s:TS):TS:=⟨s.N,s.Y⟩
theorem Q5b(A:List Rect)(s:TS):s.turn.O A=s.O A:=by
 funext u v
 simp only[TS.turn,TS.O]
 grind
theorem kO(F:Nat)(A:List Rect)(s:TS):Bp F (s.sqs A)=some (s.turn.sqs A):=by
 unfold Bp TS.sqs;rw[Q5b]
 rfl
def YW(op:Int)(s:TS):TS:=if op=9 then s else s.turn
theorem Q5k{A:List Rect}{s:TS}(h:TIn A s)(op:Int):TIn A (YW op s):=by
 unfold YW;split
 .exact h
 .exact h.turn
variable {cs:List Crop} {hs:List Rg_} {zs:List A2_} {y c d:Int} {A:List Rect}
theorem ge{p:TermPlace}(h:EV y cs hs zs c A)(hp:PL p y cs hs zs d c A):∀(e:Nat) {F:Nat} (_:Q6+e<=F) {t:Term} (_:TD e t) (_:Yl e t=true),VF F p t=some ((QC y cs hs zs d c A e t).sqs A)
 |0,_,_,_,ht,_=>ht.elim
 |e+1,0,hF,_,_,_=>by unfold Q6 at hF;omega
 |e+1,F+1,hF,t,ht,u=>by
  have B : Q6+e<=F:=by omega
  have D:Q6<=F:=by omega
  have C:=D;unfold Q6 at C
  obtain⟨L,_,n,I⟩:=ht;have o:Wq t=true/\∀k∈t.kids_,Yl e k=true:=by
   unfold Yl at u
   grind
  have b:=o.1;show MI F (VF F) p t=_
  unfold MI;have v:∀s∈t.kids_.map (λk=>YW t.op_ (QC y cs hs zs d c A e k)),TIn A s:=λs hs=>by
   obtain⟨k,_,rfl⟩:=Qc5.1 hs;exact Q5k (GH e k) _
  have r:∀(m f i:Nat),i+m=t.kids_.length->m<f->Y3 (λagain (z:Int×(List Squares))=>KE F (VF F) p t again z.1 z.2) f (((i:Nat):Int),(t.kids_.take i).map λk=>(YW t.op_ (QC y cs hs zs d c A e k)).sqs A)=some ((QC y cs hs zs d c A (e+1) t).sqs A):=by
   intro m
   induction m with
   |zero=>
    intro f i H u;obtain⟨f,rfl⟩:∃g,f=g+1:=⟨f-1,by omega⟩
    show KE F (VF F) p t (Y3 _ f) ((i:Nat):Int) _=_;unfold KE
    refine Z4 (Qa5 (by omega)) ?_;rw[show i=t.kids_.length by omega,Qe5]
    unfold LL;have a:=Q5F D hp.re h.tr v (by rw[Qg1];exact n)
    rw[Qn8]at a;have a:Xs F p (t.kids_.map λk=>(YW t.op_ (QC y cs hs zs d c A e k)).sqs A)=_:=a
    have z:∀{k:Int},(t.op_==k)=false->¬t.op_=k:=λh e=>by rw[e]at h;simp at h
    refine Z6 (λq=>?_) λE=>Z6 (λq=>?_) λK=>Z6 (λq=>?_) λM=>?_
    .have q:=eq_of_beq q
     refine Q4 a ?_;have:Wc A (t.kids_.map λk=>YW t.op_ (QC y cs hs zs d c A e k))=QC y cs hs zs d c A (e+1) t:=by
      conv=>rhs;unfold QC
      unfold Wc YW;rw[Qa2 q]
      simp only[Qx9,Qu5,Qa2 q];rfl
     rw[this]
    .have q:=eq_of_beq q
     refine Q4 a (Q4 (kO F A _) ?_);have:(Wc A (t.kids_.map λk=>YW t.op_ (QC y cs hs zs d c A e k))).turn=QC y cs hs zs d c A (e+1) t:=by
      conv=>rhs;unfold QC
      unfold Wc YW TS.turn;rw[Qa1 (z E),Qa2 q]
      simp only[Qx9,Qu5,Qa1 (z E)];rfl
     rw[this]
    .have q:=eq_of_beq q
     have N:t.kids_.length=1:=by
      unfold Wq at b;simp[q]at b
      omega
     refine Q9 (by rw[Qg1];omega) ?_;rw[Qc (by rw[Qg1];show 0<_;omega),List.getElem_map]
     have:YW t.op_ (QC y cs hs zs d c A e (gl t.kids_ 0))=QC y cs hs zs d c A (e+1) t:=by
      conv=>rhs;unfold QC
      unfold YW TS.turn
      grind
     rw[<-this,Qc (by omega)];rfl
    .have:PP y cs hs zs d c A t=QC y cs hs zs d c A (e+1) t:=by
      unfold QC
      grind
     rw[<-this];exact Q4 (Q5E D h hp b) rfl
   |succ m ih=>
    intro f i H u;obtain⟨f,rfl⟩:∃g,f=g+1:=⟨f-1,by omega⟩
    show KE F (VF F) p t (Y3 _ f) ((i:Nat):Int) _=_;have j:i<t.kids_.length:=by omega
    have l:=I _ (K3 j);have w:=ge h hp e B l (o.2 _ (K3 j))
    have x:=ih f (i+1) (by omega) (by omega);rw[Qr j,Qd6,List.map_singleton]at x
    generalize Y3 (λagain (z:Int×(List Squares))=>KE F (VF F) p t again z.1 z.2) f=ag at x⊢;unfold KE
    have G:((i:Nat):Int).toNat=i:=Qa3 i;have J:((t.kids_.take i).map λk=>(YW t.op_ (QC y cs hs zs d c A e k)).sqs A).length<=1000000:=by
     grind
    refine Y9 (Qa6 (by omega)) (Q9 (by omega) (Q9 (by rw[G];exact l.op) (Q4 (by rw[G];exact w) ?_)));have k1:∀s:TS,s=YW t.op_ (QC y cs hs zs d c A e (gl t.kids_ i))->Br F (VF F) ((i:Nat):Int) ((t.kids_.take i).map λk=>(YW t.op_ (QC y cs hs zs d c A e k)).sqs A) ag (s.sqs A).yes_ (s.sqs A).no_ (s.sqs A).open_=some ((QC y cs hs zs d c A (e+1) t).sqs A):=λs hs=>by
     subst hs;unfold Br
     exact Q9 (by unfold Z9;simp only[List.length_singleton];omega) (Q9 (V9 (by omega) (by omega)) x)
    refine Z6 (λq=>?_) λq=>?_
    .have q:¬t.op_=9:=λe=>by rw[e]at q;simp at q
     refine Q4 (kO F A _) (k1 _ ?_);unfold YW;rw[Qa1 q]
    .have q:t.op_=9:=by simpa using q
     refine k1 _ ?_;unfold YW;rw[Qa2 q]
  have:=r t.kids_.length F 0 (by omega) (by omega)
  grind
end
end Go.Ab
end
section
namespace Go.Ab
set_option maxRecDepth 20000
noncomputable section
variable {F:Nat} {cs:List Crop} {hs:List Rg_} {zs:List A2_} {y c d:Int} {A:List Rect}
end
end Go.Ab
end
section
namespace Go.Ab
set_option maxRecDepth 20000
noncomputable section
variable {cs:List Crop} {hs:List Rg_} {zs:List A2_} {y c d:Int} {A:List Rect}
end
end Go.Ab
end
section
namespace Go.Ab
set_option maxRecDepth 20000
noncomputable section
def Vf(cs:List Crop)(c:Int):Bool:=decide (c<0)||decide (((cs.length:Nat):Int)<=c)
def Va(e:Nat)(t:Term)(cs:List Crop)(c:Int)(hs:List Rg_)(y:Int)(zs:List A2_)(d:Int)(A:List Rect):Int:=
 if YL e t≠0 then YL e t else if crC cs≠0 then crC cs else if(Vf cs c||hs.any λr=>Vf cs r.c_)=true then 13
 else if Zq hs≠0 then Zq hs else if y<0\/100<y then 18 else if ZB zs≠0 then ZB zs else if d<0\/36864<d then 9 else if QP A=true then 0 else 7
theorem Q3o(F:Nat)(k:Int)(p:TermPlace):Bv F k p=some (Vf p.world_.crops_ k):=by
 unfold Bv MK Vf;refine Z6 (λh=>?_) (λh=>?_)
 .rw [h];rfl
 .rw [h];rfl
theorem Z4P{F:Nat}(hF:Q6<=F){l:List Rg_}(hl:l.length<=1000000)(p:TermPlace):Rv F l p=some (l.any λr=>Vf p.world_.crops_ r.c_):=by
 have h:=hF;unfold Q6 at h
 have:∃i:Int,Rl F l p=some i/\(decide (0<=i))=l.any λr=>Vf p.world_.crops_ r.c_:=by
  unfold Rl;have e:∀(m f i:Nat),i+m=l.length->m<f->∃v:Int,Y3 (λagain (z:Int)=>KL F l p again z) f ((i:Nat):Int)=some v/\(decide (0<=v))=(l.drop i).any λr=>Vf p.world_.crops_ r.c_:=by
   intro m
   induction m with
   |zero=>
    intro f i o n;obtain⟨f,rfl⟩:∃g,f=g+1:=⟨f-1,by omega⟩
    show ∃v:Int,KL F l p (Y3 _ f) ((i:Nat):Int)=some v/\_;unfold KL
    refine⟨-1,Z4 (Qa5 (by omega)) rfl,?_⟩;rw[Qw5 (by omega)];rfl
   |succ m ih=>
    intro f i o n;obtain⟨f,rfl⟩:∃g,f=g+1:=⟨f-1,by omega⟩
    have a:i<l.length:=by omega
    obtain⟨v,j,q⟩:=ih f (i+1) (by omega) (by omega);show ∃v:Int,KL F l p (Y3 _ f) ((i:Nat):Int)=some v/\_
    generalize Y3 (λagain (z:Int)=>KL F l p again z) f=ag at j⊢;unfold KL
    have k:MJ F (gl l ((i:Nat):Int).toNat) p=some (Vf p.world_.crops_ (gl l i).c_):=by
     unfold MJ;rw[Qa3]
     exact Q4 (Q3o F _ p) rfl
    have b:l.drop i=gl l i::l.drop (i+1):=by rw[Qi3 a,Qc a]
    rw[b,Ql0]
    cases hw:Vf p.world_.crops_ (gl l i).c_ with
    |true=>
     refine⟨(i:Int),Y9 (Qa6 (by omega)) (Q9 (by omega) (Q4 (k.trans (by rw[hw])) (Y9 rfl rfl))),?_⟩;simp
    |false=>
     refine⟨v,Y9 (Qa6 (by omega)) (Q9 (by omega) (Q4 (k.trans (by rw[hw])) (Z4 rfl (Q9 (V9 (by omega) (by omega)) j)))),?_⟩;rw[q];rfl
  have:=e l.length F 0 (by omega) (by omega)
  simpa using this
 obtain⟨i,s,t⟩:=this;unfold Rv
 refine Q4 s ?_;rw[<-t]
theorem Q5D{e F:Nat}(hF:Q6+e<=F){p:TermPlace}{t:Term}(ht:TD e t)(hl:p.world_.history_.length<=1000000)(hc:Bb p.world_.crops_):ML F p t=some (Va e t p.world_.crops_ p.line_.c_ p.world_.history_ p.world_.year_ p.world_.zones_ p.world_.day_ p.line_.g_.t_):=by
 have a:Q6<=F:=by omega
 unfold ML Va;refine Q4 (gp hF ht) (Z6 (λq=>?_) λq=>?_)
 .rw [Qa2 (by simpa using q)]
 rw[Qa1 (by simpa using q)];refine Q4 (Q2N a hc) (Z6 (λq=>?_) λq=>?_)
 .rw [Qa2 (by simpa using q)]
 rw[Qa1 (by simpa using q)];have k1:∀b:Bool,Bt F p b=some (if b=true then 18 else if ZB p.world_.zones_≠0 then ZB p.world_.zones_ else if p.world_.day_<0\/36864<p.world_.day_ then 9 else if QP p.line_.g_.t_=true then 0 else 7):=λb=>by
  unfold Bt;cases b
  .simp only[Qh1,Qh2]
   refine Z4 rfl (Q4 (Q2e a _ _) ?_)
   by_cases h1:ZB p.world_.zones_≠0
   .rw [Qa2 h1,Qa2 h1]
    exact Y9 (by simpa using h1) rfl
   rw[Qa1 h1,Qa1 h1]
   by_cases h2:p.world_.day_<0\/36864<p.world_.day_
   .rw [Qa2 h2,Qa2 h2]
    exact Y9 rfl rfl
   rw[Qa1 h2,Qa1 h2];refine Z4 rfl (Q4 (Wz a _) ?_)
   cases QP p.line_.g_.t_<;>rfl
  .exact Y9 rfl rfl
 have f:∀b:Bool,Bu F p b=some (if b=true then 13 else if Zq p.world_.history_≠0 then Zq p.world_.history_ else if p.world_.year_<0\/100<p.world_.year_ then 18 else if ZB p.world_.zones_≠0 then ZB p.world_.zones_ else if p.world_.day_<0\/36864<p.world_.day_ then 9 else if QP p.line_.g_.t_=true then 0 else 7):=λb=>by
  unfold Bu;cases b
  .simp only[Qh1,Qh2]
   refine Z4 rfl (Q4 (Z2O a _) ?_);refine Z6 (λq=>?_) λq=>?_
   .rw [Qa2 (by simpa using q)]
   rw[Qa1 (by simpa using q)];refine Z6 (λq=>?_) λq=>?_
   .rw [k1,Qa2 rfl,Qa2 (.inl (Qa8 q))]
   .rw [k1]
    by_cases h1:100<p.world_.year_
    .rw [Qa2 (Qa6 h1),Qa2 (.inr h1)]
    .have g:¬decide (100<p.world_.year_)=true:=by simpa using h1
     have h:¬(p.world_.year_<0\/100<p.world_.year_):=by have:=Qb2 q;omega
     rw[Qa1 g,Qa1 h]
  .exact Y9 rfl rfl
 refine Q4 (Q3o F _ p) (Z6 (λq=>?_) λq=>?_)
 .rw [f,q];rfl
 .refine Q4 (Z4P a hl p) ?_
  rw[f,q];rfl
end
end Go.Ab
end
section
namespace Go.Ab
set_option maxRecDepth 20000
noncomputable section
def Pe:Truth:=⟨⟨[]⟩,⟨[]⟩,⟨[]⟩⟩
def TS.t3(A:List Rect)(s:TS):Truth:=⟨⟨cn s.Y⟩,⟨cn s.N⟩,⟨cn (s.O A)⟩⟩
def UC(e:Nat)(t:Term)(l:Line)(y:Int)(cs:List Crop)(hs:List Rg_)(zs:List A2_)(d:Int):Truth×Int:=
 if Va e t cs l.c_ hs y zs d l.g_.t_≠0 then(Pe,Va e t cs l.c_ hs y zs d l.g_.t_)else((QC y cs hs zs d l.c_ l.g_.t_ e t).t3 l.g_.t_,0)
theorem Z5d{e:Nat}{t:Term}{cs:List Crop}{c:Int}{hs:List Rg_}{y:Int}{zs:List A2_}{d:Int}{A:List Rect}(ht:TD e t)(h:Va e t cs c hs y zs d A=0):Yl e t=true:=by
 have a:YL e t=0:=Qg2 λb=>by
  unfold Va at h;rw[Qa2 b]at h
  exact b h
 unfold YL at a
 by_cases hz:40<QJ e t
 .rw [Qa2 hz]at a;cases a
 .rw [Qa1 hz]at a
  by_cases hr:YX e 8 t=true
  .rw [RT e 8 t ht,Qa4]at hr
   exact hr.2
  .rw [Qa1 hr]at a;cases a
variable {F:Nat} {cs:List Crop} {hs:List Rg_} {zs:List A2_} {y d:Int}
theorem Q5H{e:Nat}(hF:Q6+e<=F){t:Term}(ht:TD e t){l:Line}(hl:hs.length<=1000000)(hc:Bb cs)(hev:Va e t cs l.c_ hs y zs d l.g_.t_=0->EV y cs hs zs l.c_ l.g_.t_):MY F t l y cs hs zs d=some (UC e t l y cs hs zs d):=by
 have j:Q6<=F:=by omega
 unfold MY UC;refine Q4 (Q5D (p:=⟨⟨y,cs,hs,zs,d⟩,l,l.g_.t_⟩) hF ht hl hc) (Z6 (λq=>?_) λq=>?_)
 .rw [Qa2 (by simpa using q)];rfl
 have q:Va e t cs l.c_ hs y zs d l.g_.t_=0:=by simpa using q
 rw[Qa1 (by rw[q];simp)];have h:=hev q
 have b:=GH (y:=y) (cs:=cs) (hs:=hs) (zs:=zs) (d:=d) (c:=l.c_) (A:=l.g_.t_) e t;refine Q4 (ge (p:=⟨⟨y,cs,hs,zs,d⟩,l,l.g_.t_⟩) h ⟨rfl,rfl,rfl,rfl,rfl,rfl,rfl⟩ e hF ht (Z5d ht q)) ?_
 have i:=(b.vY h.tr).1;have g:=(b.vN h.tr).1
 have f:=(b.vO h.tr).1;generalize QC y cs hs zs d l.c_ l.g_.t_ e t=s at i g f⊢
 have a:∀m:List Rect,m.length<=120->Xt F m=some ⟨m⟩:=λm k=>by
  unfold Xt;refine Q4 (qp (by unfold Z9;omega)) rfl
 refine Z4 (Qa5 ?_) (Q4 (a _ i) (Q4 (a _ g) (Q4 (a _ f) rfl)));show ¬(120:Int)<K8 (K8 ((cn s.Y).length:Int) ((cn s.N).length:Int)) ((cn (s.O l.g_.t_)).length:Int)
 unfold K8;split<;>split<;>omega
end
end Go.Ab
end
section
namespace Go.Ab
set_option maxRecDepth 20000
noncomputable section
theorem Q2u(F:Nat)(u v:Bool):Hx F u v=some (u&&v):=by
 unfold Hx Fa;cases u<;>rfl
theorem Z4a(F:Nat)(u v:Bool):CX F u v=some (u && !v):=by
 unfold CX CW;cases u<;>rfl
theorem yO{F:Nat}(hF:Q6<=F){l:List Rect}(h:J1 l):Un F l=some (⟨l⟩,0):=by
 have a:=h.1;refine(Sv hF (by omega) h.pos).trans ?_
 rw[GT h,Qa1 (by omega)]
theorem Q0u{F:Nat}(hF:Q6<=F){a b c:List Rect}(ha:J1 a)(hb:J1 b)(hc:J1 c):GK F ⟨a,b,c⟩=some (⟨⟨a⟩,⟨b⟩,⟨c⟩⟩,0):=by
 unfold GK;exact Q4 (yO hF ha) (Z4 rfl (Q9 (V9 (by omega) (by omega)) (Q4 (yO hF hb) (Z4 rfl (Q9 (V9 (by omega) (by omega)) (Q4 (yO hF hc) (Z4 rfl (Q9 (V9 (by omega) (by omega)) rfl))))))))
end
end Go.Ab
end
section
namespace Go.Ab
set_option maxRecDepth 20000
noncomputable section
def Uv(A:List Rect)(s:TS)(G:Sq):TS:=⟨λu v=>s.Y u v&&G u v,λu v=>Q2 A u v && !((s.Y u v&&G u v)||(s.O A u v&&G u v))⟩
theorem Z1K{A:List Rect}{s:TS}(h:TIn A s)(G:Sq):(Uv A s G).O A=λu v=>s.O A u v&&G u v:=by
 funext u v
 simp only[Uv,TS.O];have:=h.sY u v
 have:=h.sN u v
 cases hA:Q2 A u v<;>cases hY:s.Y u v<;>cases hN:s.N u v<;>cases G u v<;>simp_all
theorem Q0U{A:List Rect}{s:TS}(h:TIn A s){G:Sq}(hG:Fin G):TIn A (Uv A s G):=by
 refine⟨Jn h.fY hG,Pu (Qz A) (vB (Jn h.fY hG) (Jn h.fO hG)),λu v a=>?_,λu v a=>?_⟩
 .simp only[Uv,Qa4]at a
  exact h.sY u v a.1
 .simp only[Uv,Qa4]at a
  exact a.1
end
end Go.Ab
end
section
namespace Go.Ab
set_option maxRecDepth 20000
noncomputable section
def ZR(e n:Int):Bool:=QO .i64 (e.fdiv (2 ^ (min n.toNat (IntKind.bits .i64)))) 1==1
theorem Z5v(x:Int):QO .i64 x 1=0\/QO .i64 x 1=1:=by
 unfold QO;have h:(BitVec.ofInt 64 x &&& BitVec.ofInt 64 1).toNat<=1:=by
  rw[BitVec.toNat_and];exact Qc4 Nat.and_le_right (by decide)
 show IntKind.wrap .i64 ((BitVec.ofInt 64 x &&& BitVec.ofInt 64 1).toNat:Nat)=0\/IntKind.wrap .i64 ((BitVec.ofInt 64 x &&& BitVec.ofInt 64 1).toNat:Nat)=1;have a:(BitVec.ofInt 64 x &&& BitVec.ofInt 64 1).toNat=0\/(BitVec.ofInt 64 x &&& BitVec.ofInt 64 1).toNat=1:=by omega
 rcases a with a|a<;>rw[a]
 .left;rfl
 .right;rfl
theorem Vz(e n:Int):(QO .i64 (e.fdiv (2 ^ (min n.toNat (IntKind.bits .i64)))) 1==0)=!ZR e n:=by
 unfold ZR;rcases Z5v (e.fdiv (2 ^ (min n.toNat (IntKind.bits .i64))))with h|h<;>rw[h]<;>rfl
def Vd(p:Int)(b:Bracket):Bool:=decide (p<b.up_)&&(decide (b.up_<=268435456)&&(decide (0<=b.rate_)&&decide (b.rate_<=1048576)))
def QM(l:List Bracket)(i:Nat):Int:=if i=0 then 0 else(gl l (i-1)).up_
def WJ(l:List Bracket):Bool:=decide (1<=l.length)&&(decide (l.length<=6) && !(List.range l.length).any λi=> !Vd (QM l i) (gl l i))
theorem Q8q{R:Type}{body:(Int->Option R)->Int->Option R}{c y:Option R}(N:Nat)(p:Nat->Bool)(bad:∀again (i:Nat),i<N->(∀j,j<i->p j=false)->p i=true->body again (i:Int)=c)(good:∀again (i:Nat) z,i<N->(∀j,j<i->p j=false)->p i=false->again ((i:Int)+1)=z->body again (i:Int)=z)(stop:∀again,body again (N:Int)=y){F:Nat}(hF:N<F):Y3 body F 0=if(List.range N).any p=true then c else y:=by
 refine z5 (λz:Int=>∃i:Nat,z=i/\i<=N/\∀j,j<i->p j=false) (λz=>N-z.toNat) (λagain z f e=>?_) ⟨0,rfl,Qc3 _,λj h=>absurd h (Qc9 j)⟩ (by simp;omega);obtain⟨i,rfl,g,a⟩:=f
 rcases Qd3 i N with h|h
 .cases hpi:p i with
  |true=>
   rw[Qa2 (Qc6.2 ⟨i,Qf2.2 h,hpi⟩)];exact bad again i h a hpi
  |false=>
   refine good again i _ h a hpi (e _ ⟨i+1,by omega,h,λj b=>?_⟩ (by omega))
   by_cases hji:j=i
   .rw [hji];exact hpi
   .exact a j (by omega)
 .have:i=N:=by omega
  subst this;rw[Qa1 (by rw[Qg3,Qf6];intro j b;rw[a j (Qf2.1 b)];simp)]
  exact stop again
theorem Q8m{F:Nat}{l:List Bracket}(hF:l.length<F)(hl:l.length<=1000000):RL F l=some (WJ l):=by
 unfold RL;refine(Q8q (c:=some false) (y:=some (decide (1<=l.length)&&decide (l.length<=6))) l.length (λi=> !Vd (QM l i) (gl l i)) (λa i r n o=>?_) (λa i z r n o v=>?_) (λa=>?_) hF).trans ?_
 all_goals try (
  have f:i=0\/(1<=i/\1<=(gl l (i-1)).up_):=by
   rcases Qi6 i with h|h
   .exact .inl h
   .refine .inr ⟨h,?_⟩
    have u:∀j,j<i->1<=(gl l j).up_:=by
     intro j
     induction j with
     |zero=>
      intro t;have:=n 0 t
      rw[Qn1]at this;unfold Vd QM at this
      rw[Qa2 rfl]at this;simp only[Qa4,Qb5]at this;omega
     |succ j ih=>
      intro w;have e:=ih (by omega)
      have:=n (j+1) w
      rw[Qn1]at this;unfold Vd QM at this
      rw[Qa1 (by omega),Qt6]at this;simp only[Qa4,Qb5]at this;omega
    exact u (i-1) (by omega)
  have q:(((i:Nat):Int)-1).toNat=i-1:=by omega)
 .show KR F l a (i:Int)=_
  unfold KR;have k1:Ja F (i:Int) a true=some false:=rfl
  refine Y9 (Qa6 (by omega)) (Q9 (by omega) (Z6 (λ_=>k1) (λe=>Z6 (λ_=>k1) (λm=>Z6 (λ_=>k1) (λk=>Z6 (λ_=>k1) (λg=>?_))))));have e:=Qb2 e
  have m:=Qb2 m;have k:=Qb2 k
  have g:=Qb2 g;simp only[Qa3]at e m k g
  have b : Vd (QM l i) (gl l i)=false:=by simpa using o
  unfold Vd QM at b;rcases f with h|⟨h,s⟩
  .subst h
   rw[Qa2 rfl,Qa6 (by omega),Qa6 (by omega),Qa6 (by omega),Qa6 (by omega)]at b;simp at b
  .rw [Qa1 (by omega)]at b
   refine Y9 (Qa6 (by omega)) (Q9 (V9 (by omega) (by omega)) (Q9 (by omega) ?_));rw[q,Qa6 (p:=(gl l ((i:Nat):Int).toNat).up_<=_)]
   .exact k1
   .simp only[Qa3]
    by_cases h6:(gl l (i-1)).up_<(gl l i).up_
    .rw [Qa6 h6,Qa6 (by omega),Qa6 (by omega),Qa6 (by omega)]at b
     simp at b
    .omega
 .show KR F l a (i:Int)=_
  unfold KR;have b : Vd (QM l i) (gl l i)=true:=by simpa using o
  unfold Vd QM at b;simp only[Qa4,Qb5]at b
  obtain⟨e,m,k,g⟩:=b;have k1:Ja F (i:Int) a false=z:=Z4 rfl (Q9 (V9 (by omega) (by omega)) v)
  have x:1<=(gl l i).up_:=by
   rcases f with h|⟨h,s⟩
   .rw [Qa2 h]at e;omega
   .rw [Qa1 (by omega)]at e;omega
  refine Y9 (Qa6 (by omega)) (Q9 (by omega) (Z4 (Qa5 (by simp only[Qa3];omega)) (Z4 (Qa5 (by simp only[Qa3];omega)) (Z4 (Qa5 (by simp only[Qa3];omega)) (Z4 (Qa5 (by simp only[Qa3];omega)) ?_)))));refine Z6 (λh=>?_) (λ_=>k1)
  have h:=Qa8 h;refine Q9 (V9 (by omega) (by omega)) (Q9 (by omega) ?_)
  rw[q,Qa5]
  .exact k1
  .rw [Qa1 (by omega)]at e
   simp only[Qa3];omega
 .show KR F l a (l.length:Int)=_
  unfold KR qy RK;refine Z4 (Qa5 (by omega)) ?_
  rw[show decide ((1:Int)<=((l.length:Nat):Int))=decide (1<=l.length)from Qv0.2 (by omega),show decide (((l.length:Nat):Int)<=(6:Int))=decide (l.length<=6)from Qv0.2 (by omega)]
  cases decide (1<=l.length)<;>rfl
 .unfold WJ
  cases(List.range l.length).any λi=> !Vd (QM l i) (gl l i)<;>simp
theorem Q9B{F:Nat}{l:List Bracket}(hF:l.length<F)(hl:l.length<=1000000):Sy F l=some (WJ l):=by
 unfold Sy WJ;have e:De F l true=some false:=rfl
 by_cases h1:1<=l.length
 .refine Z4 (Qa5 (by omega)) ?_
  by_cases h2:l.length<=6
  .rw [Qa6 h1,Qa6 h2,Qa5 (by omega)]
   unfold De;refine Z4 rfl ?_
   suffices hs:∀(n i:Nat),l.length-i<n->i<=l.length->Y3 (λagain (z:Int×Int)=>XN F l again z.1 z.2) n (QM l i,(i:Int))=some (!((List.range l.length).drop i).any λi=> !Vd (QM l i) (gl l i)) by
    have:=hs F 0 (by omega) (by omega)
    simpa[QM]using this
   intro n
   induction n with
   |zero=>intro i h;omega
   |succ n ih=>
    intro i g j;have b:=ih (i+1)
    revert b
    show _->XN F l (Y3 (λagain (z:Int×Int)=>XN F l again z.1 z.2) n) (QM l i) (i:Int)=_;generalize Y3 (λagain (z:Int×Int)=>XN F l again z.1 z.2) n=ag
    intro b;unfold XN
    by_cases hil:i<l.length
    .rw [show(List.range l.length).drop i=i::(List.range l.length).drop (i+1) by rw[Qi3 (by simpa using hil),List.getElem_range]]
     rw[Ql0];refine Y9 (Qa6 (by omega)) (Q9 (by omega) ?_)
     simp only[Qa3];have a:JU F l (i:Int) ag true=some false:=rfl
     have f:JU F l (i:Int) ag false=some (!((List.range l.length).drop (i+1)).any λi=> !Vd (QM l i) (gl l i)):=by
      unfold JU;refine Z4 rfl (Q9 (V9 (by omega) (by omega)) ?_)
      rw[<-b (by omega) (by omega)];congr 1
     rw[show Vd (QM l i) (gl l i)=(decide (QM l i<(gl l i).up_)&&(decide ((gl l i).up_<=268435456)&&(decide (0<=(gl l i).rate_)&&decide ((gl l i).rate_<=1048576))))from rfl]
     by_cases g1:QM l i<(gl l i).up_
     .rw [Qa6 g1]
      refine Z4 (Qa5 (by omega)) ?_
      by_cases g2:(gl l i).up_<=268435456
      .rw [Qa6 g2]
       refine Z4 (Qa5 (by omega)) ?_
       by_cases g3:0<=(gl l i).rate_
       .rw [Qa6 g3]
        refine Z4 (Qa5 (by omega)) ?_
        by_cases g4:(gl l i).rate_<=1048576
        .rw [Qa6 g4,Qa5 (by omega),f];simp
        .rw [Qa5 g4,Qa6 (by omega),a];simp
       .rw [Qa5 g3]
        exact Y9 (Qa6 (by omega)) a
      .rw [Qa5 g2]
       exact Y9 (Qa6 (by omega)) a
     .rw [Qa5 g1]
      exact Y9 (Qa6 (by omega)) a
    .have:i=l.length:=by omega
     subst this;refine Z4 (Qa5 (by omega)) ?_
     rw[Qw5 (by simp)];rfl
  .rw [Qa5 h2,Qa6 (by omega),Qt0,Bool.and_false];exact e
 .rw [Qa5 h1]
  exact Y9 (Qa6 (by omega)) e
structure SD (d:Nat) (s:Scheme):Prop where
 cond:TD d s.cond_
 name:s.n_.size<=4294967296
 brl:s.brackets_.length<=1000000
def Zc(d:Nat)(s:Scheme):Int:=
 if s.N_<0\/15<s.N_\/s.least_<0\/268435456<s.least_ then 2 else if QZ s.n_=false then 5 else if YL d s.cond_≠0 then YL d s.cond_
 else if WJ s.brackets_=false\/s.excludes_<0\/65536<=s.excludes_\/ZR s.excludes_ s.N_=true then 3 else 0
theorem BM{d F:Nat}(hd:d<=2000000)(hF:Q6+d<=F){s:Scheme}(h:SD d s):XA F s=some (Zc d s):=by
 have f:Q6<=F:=by omega
 have e:=f;unfold Q6 at e
 unfold XA Zc;have a:KT F s true=some 2:=rfl
 by_cases h1:s.N_<0
 .rw [Qa2 (.inl h1)];exact Y9 (Qa6 h1) a
 refine Z4 (Qa5 h1) ?_
 by_cases h2:15<s.N_
 .rw [Qa2 (.inr (.inl h2))];exact Y9 (Qa6 h2) a
 refine Z4 (Qa5 h2) ?_
 by_cases h3:s.least_<0
 .rw [Qa2 (.inr (.inr (.inl h3)))];exact Y9 (Qa6 h3) a
 refine Z4 (Qa5 h3) ?_
 by_cases h4:268435456<s.least_
 .rw [Qa2 (.inr (.inr (.inr h4))),Qa6 h4];exact a
 rw[Qa1 (by omega),Qa5 h4];unfold KT
 refine Z4 rfl (Q4 (Ll (by have:=h.name;omega) h.name) ?_)
 cases hn:QZ s.n_ with
 |false=>rfl
 |true=>
  rw[Qa1 (by simp)];refine Z4 rfl (Q4 (gp hF h.cond) ?_)
  by_cases h5:YL d s.cond_=0
  .rw [Qa1 (by simpa using h5)]
   refine Z4 (by simp[h5]) (Q4 (Q8m (by have:=h.brl;omega) h.brl) ?_);have b:KS F true=some 3:=rfl
   cases hbr:WJ s.brackets_ with
   |false=>rw[Qa2 (.inl rfl)];exact Y9 rfl b
   |true=>
    refine Z4 rfl ?_
    by_cases h6:s.excludes_<0
    .rw [Qa2 (.inr (.inl h6))];exact Y9 (Qa6 h6) b
    refine Z4 (Qa5 h6) ?_
    by_cases h7:65536<=s.excludes_
    .rw [Qa2 (.inr (.inr (.inl h7)))];exact Y9 (Qa6 h7) b
    refine Z4 (Qa5 h7) (Q9 (by omega) ?_);show KS F (ZR s.excludes_ s.N_)=_
    cases ZR s.excludes_ s.N_ with
    |true=>rw[Qa2 (.inr (.inr (.inr rfl)))];exact b
    |false=>rw[Qa1 (by simp;omega)];rfl
  .rw [Qa2 h5]
   exact Y9 (by simpa using h5) rfl
theorem cW{d F:Nat}(hd:d<=2000000)(hF:Q6+d<=F){s:Scheme}(h:SD d s):Sz F s=some (Zc d s):=by
 have f:Q6<=F:=by omega
 have e:=f;unfold Q6 at e
 unfold Sz Zc;have a:Gb F s true=some 2:=rfl
 by_cases h1:s.N_<0
 .rw [Qa2 (.inl h1)];exact Y9 (Qa6 h1) a
 refine Z4 (Qa5 h1) ?_
 by_cases h2:15<s.N_
 .rw [Qa2 (.inr (.inl h2))];exact Y9 (Qa6 h2) a
 refine Z4 (Qa5 h2) ?_
 by_cases h3:s.least_<0
 .rw [Qa2 (.inr (.inr (.inl h3)))];exact Y9 (Qa6 h3) a
 refine Z4 (Qa5 h3) ?_
 by_cases h4:268435456<s.least_
 .rw [Qa2 (.inr (.inr (.inr h4))),Qa6 h4];exact a
 rw[Qa1 (by omega),Qa5 h4];unfold Gb
 refine Z4 rfl (Q4 (Z0k f _) ?_)
 cases hn:QZ s.n_ with
 |false=>rfl
 |true=>
  rw[Qa1 (by simp)];refine Z4 rfl (Q4 (Q9K hd hF h.cond) ?_)
  by_cases h5:YL d s.cond_=0
  .rw [Qa1 (by simpa using h5)]
   refine Z4 (by simp[h5]) (Q4 (Q9B (by have:=h.brl;omega) h.brl) ?_);have b:Ga F true=some 3:=rfl
   cases hbr:WJ s.brackets_ with
   |false=>rw[Qa2 (.inl rfl)];exact Y9 rfl b
   |true=>
    refine Z4 rfl ?_
    by_cases h6:s.excludes_<0
    .rw [Qa2 (.inr (.inl h6))];exact Y9 (Qa6 h6) b
    refine Z4 (Qa5 h6) ?_
    by_cases h7:65536<=s.excludes_
    .rw [Qa2 (.inr (.inr (.inl h7)))];exact Y9 (Qa6 h7) b
    refine Z4 (Qa5 h7) (Q9 (by omega) ?_);show Ga F (ZR s.excludes_ s.N_)=_
    cases ZR s.excludes_ s.N_ with
    |true=>rw[Qa2 (.inr (.inr (.inr rfl)))];exact b
    |false=>rw[Qa1 (by simp;omega)];rfl
  .rw [Qa2 h5]
   exact Y9 (by simpa using h5) rfl
end
end Go.Ab
end
section
namespace Go.Ab
set_option maxRecDepth 20000
noncomputable section
theorem Q9j(F:Nat)(u v:Bool):Sj F u v=some (u && !v):=by
 unfold Sj Sg;cases u<;>rfl
theorem Q9t{F:Nat}(hF:Q6<=F)(a b:Re_):Sk F a b=some (Xk a b):=by
 unfold Sk Xk BV;refine Q4 (Wz hF a) (Z6 (λh=>?_) λh=>?_)
 .rw [h,Qe4]
  refine Q4 (Wz hF b) (Z6 (λe=>?_) λe=>?_)
  .rw [e,Qe4]
   have f:=(Wj _).1 h;have vb:=(Wj _).1 e
   refine Q4 (WZ hF f.le8 vb.le8 f.pos vb.pos rfl rfl (k:=λu v=>u && !v) rfl (Q9j F)) ?_;congr 1
   show _=decide (cn (λx y=>Q2 a.t_ x y && !Q2 b.t_ x y)=[])
   cases cn λx y=>Q2 a.t_ x y && !Q2 b.t_ x y with
   |nil=>rfl
   |cons r l=>simp;omega
  .rw [e];rfl
 .rw [h];rfl
theorem jM{e:Nat}{s:Scheme}(h:Zc e s=0):0<=s.N_:=by
 unfold Zc at h
 grind
def yt(e:Nat)(l:Line)(parcel:Re_)(s:Scheme)(w:World)(v:Re_×Int):Truth×Int:=
 if QP parcel.t_=false then(Pe,7)
 else if(UC e s.cond_ l w.year_ w.crops_ w.history_ w.zones_ w.day_).2≠0 then(Pe,(UC e s.cond_ l w.year_ w.crops_ w.history_ w.zones_ w.day_).2)
 else if Zc e s≠0 then(Pe,17)
 else if v.2≠0 then(Pe,v.2)
 else if Xk l.g_ parcel=false then(Pe,12)
 else if ZR l.s_ s.N_=false then(⟨⟨[]⟩,l.g_,⟨[]⟩⟩,0)
 else((Uv l.g_.t_ (QC w.year_ w.crops_ w.history_ w.zones_ w.day_ l.c_ l.g_.t_ e s.cond_) (Q2 v.1.t_)).t3 l.g_.t_,0)
theorem Z3S{e:Nat}{t:Term}{l:Line}{y:Int}{cs:List Crop}{hs:List Rg_}{zs:List A2_}{d:Int}(h:(UC e t l y cs hs zs d).2=0):Va e t cs l.c_ hs y zs d l.g_.t_=0/\UC e t l y cs hs zs d=((QC y cs hs zs d l.c_ l.g_.t_ e t).t3 l.g_.t_,0):=by
 unfold UC at h⊢
 grind
theorem Z4g{e F:Nat}(he:e<=2000000)(hF:Q6+e<=F){l:Line}{parcel:Re_}{s:Scheme}{w:World}(hs:SD e s)(hl:w.history_.length<=1000000)(hc:Bb w.crops_)(hev:Va e s.cond_ w.crops_ l.c_ w.history_ w.year_ w.zones_ w.day_ l.g_.t_=0->EV w.year_ w.crops_ w.history_ w.zones_ l.c_ l.g_.t_){v:Re_×Int}(hv:Bh F parcel w.zones_ w.day_ w.most_=some v)(hval:v.2=0->J1 v.1.t_):GL F l parcel s w=some (yt e l parcel s w v):=by
 have g:Q6<=F:=by omega
 unfold GL yt;refine Q4 (Wz g _) (Z6 (λq=>?_) λq=>?_)
 .rw [Qa2 (by simpa using q)];rfl
 rw[Qa1 (by simpa using q)];refine Q4 (Q5H hF hs.cond hl hc hev) (Z6 (λq=>?_) λq=>?_)
 .rw [Qa2 (by simpa using q)];rfl
 have q:(UC e s.cond_ l w.year_ w.crops_ w.history_ w.zones_ w.day_).2=0:=by simpa using q
 rw[Qa1 (by rw[q];simp)];obtain⟨I,hE⟩:=Z3S q
 have h:=hev I;rw[hE]
 refine Q4 (BM he hF hs) (Z6 (λq=>?_) λn=>?_)
 .rw [Qa2 (by simpa using q)];rfl
 have n:Zc e s=0:=by simpa using n
 rw[Qa1 (by rw[n];simp)];refine Q4 hv (Z6 (λq=>?_) λq=>?_)
 .rw [Qa2 (by simpa using q)];rfl
 have q:v.2=0:=by simpa using q
 rw[Qa1 (by rw[q];simp)];have j:=hval q
 refine Q4 (Q9t g _ _) (Z6 (λq=>?_) λq=>?_)
 .rw [Qa2 (by simpa using q)];rfl
 rw[Qa1 (by simpa using q)];have f:=GH (y:=w.year_) (cs:=w.crops_) (hs:=w.history_) (zs:=w.zones_) (d:=w.day_) (c:=l.c_) (A:=l.g_.t_) e s.cond_
 generalize QC w.year_ w.crops_ w.history_ w.zones_ w.day_ l.c_ l.g_.t_ e s.cond_=T at f⊢;have o:=Q0U f (Qz v.1.t_)
 have t:=Z1K f (Q2 v.1.t_);have p:=o.vY h.tr
 have H:=o.vN h.tr;have m:=o.vO h.tr
 refine Q9 (jM n) (Z6 (λq=>?_) λq=>?_)
 .rw [Vz]at q
  rw[Qa2 (by simpa using q)];exact Q4 (Q0u g J1.nil h.tr.val J1.nil) rfl
 .rw [Vz]at q
  rw[Qa1 (by simpa using q)];have D:=p.1
  have x:=m.1;rw[t]at m x
  have z:=WZ g (a:=cn T.Y) (b:=v.1.t_) (f.vY h.tr).le8 j.le8 (f.vY h.tr).pos j.pos (ZO f.fY) rfl (k:=λu v=>u&&v) rfl (Q2u F);have C:=WZ g (a:=cn (T.O l.g_.t_)) (b:=v.1.t_) (f.vO h.tr).le8 j.le8 (f.vO h.tr).pos j.pos (ZO f.fO) rfl (k:=λu v=>u&&v) rfl (Q2u F)
  have G:Q2 (cn (Uv l.g_.t_ T (Q2 v.1.t_)).Y++cn λu w=>T.O l.g_.t_ u w&&Q2 v.1.t_ u w)=λu w=>(T.Y u w&&Q2 v.1.t_ u w)||(T.O l.g_.t_ u w&&Q2 v.1.t_ u w):=by
   funext u w
   rw[Jk,QN o.fY,QN (Jn f.fO (Qz _))];rfl
  have E:=WZ g (a:=l.g_.t_) (b:=cn (Uv l.g_.t_ T (Q2 v.1.t_)).Y++cn λu w=>T.O l.g_.t_ u w&&Q2 v.1.t_ u w) h.tr.val.le8 (by rw[Qb7];omega) h.tr.val.pos (λr i=>by
   rcases Qa9.1 i with i|i
   .exact p.pos r i
   .exact m.pos r i) rfl G (k:=λu v=>u && !v) rfl (Z4a F)
  have B:=Q0u g p H m;unfold TS.t3
  rw[t];exact Q4 z (Q4 C (Q4 (qg g (by exact Qc4 D (by omega)) (by exact Qc4 x (by omega))) (Q4 E (Q4 B rfl))))
end
end Go.Ab
end
