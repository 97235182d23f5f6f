/- Abstract states over the model. -/
import Derived.Test.YtlhhgeknhlkakaaGreatDoorAbD
import Derived.Test.YtlhhgeknhlkakaaGreatDoorLwA
import Derived.Test.YtlhhgeknhlkakaaGreatDoorLwC
import Derived.Test.YtlhhgeknhlkakaaGreatDoorLwB
set_option linter.unusedVariables false
set_option linter.unusedSimpArgs false
section
namespace Go.Ab
set_option maxRecDepth 20000
noncomputable section
theorem Z3W{L:List A2_}{d m:Int}{a:List Rect}{x y:Int}(h:UM L d m a x y=true):Q8 a x y=true:=by
 unfold UM at h;rw[Qa4]at h
 exact h.1
theorem Q2v{L:List A2_}{a:List Rect}(ha:TR a)(d m:Int):K7 (cn (UM L d m a)):=ha.sub (vS L d m a) λ_ _ h=>Z3W h
theorem Q4e{F n:Nat}{L:List A2_}{d:Int}(hF:Q7<=F)(hL:LB n L)(d1:0<=d)(d2:d<=36864){a:Re_}(ht:TR a.t_){m:Int}(m1:0<=m)(m2:m<=268435456):Pq F a L d m=some (⟨cn (UM L d m a.t_)⟩,0):=by
 have b:=ht.val;have f:=hL.rval d (zp 0)
 have g:=gU hL d m a.t_;have j:=f.1.1
 have i:=g.1.1;have l:=b.1
 unfold Pq;refine Q4 (Lc hF hL.vl d1 d2 b m1 m2) ?_
 refine Z8 rfl ?_;refine Q4 (Q4d hF hL d1 d2) ?_
 refine Z8 rfl ?_;refine Q4 (Q4a hF hL d1 d2 b m1 m2) ?_
 refine Z8 rfl ?_;refine Q4 (qf hF (by simp only;omega) (by simp only;omega)) ?_
 refine Q4 (Bn hF (by simp only[Qb5];omega) (λr c=>(b.2.2.pos c).1) (λr c=>?_) (k:=λu v=>u && !v) rfl (λu v=>by cases u<;>cases v<;>rfl)) ?_
 .rcases Qb2.1 c with h|h
  .exact (f.1.2.2.pos h).1
  .exact (g.1.2.2.pos h).1
 have e:(cn λx y=>Q8 a.t_ x y && !Q8 (cn (Q8 (Ze L d (zp 0)))++cn (Q8 (Vo L d m a.t_))) x y)=cn (UM L d m a.t_):=by
  congr 1
  funext x y
  unfold UM;rw[Ch,Yj (QX _),Yj (QX _)]
 show(Ko F (cn λx y=>Q8 a.t_ x y && !Q8 (cn (Q8 (Ze L d (zp 0)))++cn (Q8 (Vo L d m a.t_))) x y)).bind _=_;rw[e]
 have:=(Q2v (L:=L) ht d m).1
 refine Q4 (qZ F _) ?_;rw[Qa1 (by omega)]
end
end Go.Ab
end
section
namespace Go.Ab
set_option maxRecDepth 20000
noncomputable section
theorem GQ{R:Type}{body:(Int->Option R)->Int->Option R}{c:Nat->Option R}{y:Option R}(N:Nat)(p:Nat->Bool)(bad:∀again (i:Nat),i<N->(∀j,j<i->p j=false)->p i=true->body again (i:Int)=c i)(good:∀again (i:Nat) z,i<N->(∀j,j<i->p j=false)->p i=false->again ((i:Int)+1)=z->body again (i:Int)=z)(stop:(∀j,j<N->p j=false)->∀again,body again (N:Int)=y){F:Nat}(hF:N<F):Y3 body F 0=match (List.range N).find? p with|some i=>c i|none=>y:=by
 refine Qa (λz:Int=>∃i:Nat,z=i/\i<=N/\∀j,j<i->p j=false) (λz=>N-z.toNat) (λagain z e f=>?_) ⟨0,rfl,Qc2 _,λj h=>absurd h (Qd7 j)⟩ (by simp;omega);obtain⟨i,rfl,g,a⟩:=e
 rcases Qc8 i N with h|h
 .cases hpi:p i with
  |true=>
   rw[Qp4.2 ⟨hpi,Qe4.2 h,λj b=>by simp[a j b]⟩];exact bad again i h a hpi
  |false=>
   refine good again i _ h a hpi (f _ ⟨i+1,by omega,h,λj b=>?_⟩ (by omega))
   by_cases hji:j=i
   .rw [hji];exact hpi
   .exact a j (by omega)
 .have:i=N:=by omega
  subst this;rw[Qg9.2 λx d=>by rw[a x (Qe4.1 d)];simp]
  exact stop a again
theorem Ci{α:Type}[Emb α](p:α->Bool)(l:List α):Yk p l<(l.length:Int) /\ -1<=Yk p l/\(0<=Yk p l->p (gl l (Yk p l).toNat)=true/\l.any p=true):=by
 unfold Yk;split
 .rename_i h
  have a:l.findIdx p<l.length:=Qm0 (by simpa using h);refine⟨by omega,by omega,λ_=>⟨?_,h⟩⟩
  rw[Qa3,y7 a];exact Qr4 (w:=a)
 .exact ⟨by omega,by omega,λh=>by omega⟩
def Vb(n:Int)(x:Scheme):Bool:=x.N_==n
theorem jO{F:Nat}(hF:Q7<=F){l:List Scheme}(hl:l.length<=1000000)(n:Int):Rt F l n=some (Yk (Vb n) l):=by
 unfold Rt;exact Q4 (jk (α:=Scheme) hF (Vb n) (by omega) λr _=>rfl) rfl
theorem cZ{F:Nat}(hF:Q7<=F){l:List Scheme}(hl:l.length<=1000000)(n:Int):St F l n=some (Yk (Vb n) l):=by
 have p:=hF;unfold Q7 at p
 unfold St;refine(GQ (c:=λi=>some (i:Int)) (y:=some (-1)) l.length (λi=>Vb n (gl l i)) (λa i o _ d=>?_) (λa i z o _ d g=>?_) (λ_ a=>?_) (by omega)).trans ?_
 .show Kz F l n a (i:Int)=_
  unfold Kz;exact U3 (Qa5 (by omega)) (Q9 (by omega) (U3 d rfl))
 .show Kz F l n a (i:Int)=_
  unfold Kz;exact U3 (Qa5 (by omega)) (Q9 (by omega) (Z8 d (Q9 (Y8 (by omega) (by omega)) g)))
 .show Kz F l n a (l.length:Int)=_
  unfold Kz;exact Z8 (Qa7 (by omega)) rfl
 .unfold Yk
  cases hf:(List.range l.length).find? λi=>Vb n (gl l i)with
  |none=>
   have h:=Qg9.1 hf;rw[Qa1]
   rw[Qf7];exact FN λj e=>by have:=h j (Qe4.2 e);simpa using this
  |some i=>
   obtain⟨f,b,k⟩:=Qp4.1 hf;have b:=Qe4.1 b
   have m:l.any (Vb n)=true:=Qd3.2 ⟨_,J9 b,f⟩;rw[Qa2 m,vP b (λj e=>by have:=k j e;simpa using this) f]
def WA(l:List Scheme)(i:Nat):Bool:=(decide (0<i)&&decide ((gl l i).N_<=(gl l (i-1)).N_))||(l.take i).any λx=>Zl x.n_ (gl l i).n_
def UB(l:List Scheme)(s:Scheme)(n:Nat):Bool:=ZS s.excludes_ n&&(decide (Yk (Vb n) l<0) || !ZS (gl l (Yk (Vb n) l).toNat).excludes_ s.N_)
def WV(l:List Scheme)(s:Scheme):Bool:= !(List.range 16).any (UB l s)
def UO(l:List Scheme):Int×Int:=match (List.range l.length).find? λi=> !WV l (gl l i)with
 |some i=>(i,17)
 |none=>(-1,0)
def YS(d:Nat)(l:List Scheme)(i:Nat):Bool:=decide (Za d (gl l i)≠0)||WA l i
def UN(d:Nat)(l:List Scheme):Int×Int:=if 16<l.length then(0,1)else match (List.range l.length).find? (YS d l)with
 |some i=>(i,if Za d (gl l i)≠0 then Za d (gl l i)else 6)
 |none=>UO l
theorem yv{d:Nat}{s:Scheme}(h:Za d s=0):0<=s.N_/\s.N_<=15/\0<=s.least_/\s.least_<=268435456/\QV s.n_=true/\YG d s.cond_=0/\Ul s.brackets_=true/\0<=s.excludes_/\s.excludes_<65536/\ZS s.excludes_ s.N_=false:=by
 unfold Za at h;split at h
 .omega
 split at h
 .omega
 split at h
 .rename_i a;exact absurd h a
 split at h
 .omega
 rename_i a c f b
 refine⟨by omega,by omega,by omega,by omega,by simpa using c,by simpa using f,?_,by omega,by omega,?_⟩
 .cases e:Ul s.brackets_ with
  |true=>rfl
  |false=>exact absurd (.inl e) b
 .cases e:ZS s.excludes_ s.N_ with
  |false=>rfl
  |true=>exact absurd (.inr (.inr (.inr e))) b
theorem jM{F:Nat}(hF:Q7<=F){l:List Scheme}(hl:l.length<=1000000){s:Scheme}(hs:0<=s.N_):Rl F l s=some (WV l s):=by
 have j:=hF;unfold Q7 at j
 unfold Rl;refine(qw (c:=some false) (y:=some true) 16 (UB l s) (λa i g b=>?_) (λa i z g b f=>?_) (λa=>?_) (by omega)).trans ?_
 .show Kf F l s a (i:Int)=_
  unfold Kf;unfold UB at b
  rw[Qa4]at b;obtain⟨h,e⟩:=Ci (Vb (i:Nat)) l
  refine U3 (Qa5 (by omega)) (Q9 (by omega) (Z8 (by rw[Vh,b.1];rfl) (Q4 (jO hF hl _) ?_)));refine Z9 (λ_=>rfl) (λd=>Q9 (by have:=Qa8 d;omega) (Q9 hs ?_))
  rw[Vh];have:=b.2
  rw[d,Qj7]at this;rw[this];rfl
 .show Kf F l s a (i:Int)=_
  unfold Kf;unfold UB at b
  obtain⟨h,e⟩:=Ci (Vb (i:Nat)) l;have k2:Rj F (i:Int) a=z:=Q9 (Y8 (by omega) (by omega)) f
  refine U3 (Qa5 (by omega)) (Q9 (by omega) ?_);rw[Vh]
  cases hb:ZS s.excludes_ i with
  |false=>exact U3 rfl k2
  |true=>
   rw[hb,Qc6,Qd4]at b;refine Z8 rfl (Q4 (jO hF hl _) (Z8 b.1 (Q9 (by have:=Qa8 b.1;omega) (Q9 hs ?_))))
   rw[Vh,b.2];unfold Rk;exact Z8 rfl k2
 .show Kf F l s a (16:Int)=_
  unfold Kf;exact Z8 (by decide) rfl
 .unfold WV
  cases(List.range 16).any (UB l s)<;>rfl
theorem Q7E{d F:Nat}(hd:d<=2000000)(hF:Q7+d<=F){l:List Scheme}(hl:∀s∈l,SD d s):Ru F l=some (UN d l):=by
 have k:Q7<=F:=by omega
 have q:=k;unfold Q7 at q
 unfold Ru UN
 by_cases h16:16<l.length
 .rw [Qa2 h16];exact U3 (Qa5 (by omega)) rfl
 rw[Qa1 h16];refine Z8 (Qa7 (by omega)) ?_
 refine(GQ (c:=λi=>some ((i:Int),if Za d (gl l i)≠0 then Za d (gl l i)else 6)) (y:=some (UO l)) l.length (YS d l) (λa i g _ b=>?_) (λa i z g _ b m=>?_) (λb a=>?_) (by omega)).trans ?_
 .show Kk F l a (i:Int)=_
  unfold Kk;refine U3 (Qa5 (by omega)) (Q9 (by omega) (Q4 (Rs hd hF (hl _ (J9 g))) ?_))
  by_cases e:Za d (gl l i)=0
  .rw [Qa1 (by simpa using e)]
   refine Z8 (by simp[e]) ?_;unfold YS WA at b
   have k1:GP F (i:Int) a true=some ((i:Int),6):=rfl;rw[Qa7 (by simpa using e),Qj7,Qi4]at b
   have h:ZN F (l.take ((i:Nat):Int).toNat) (λp=>Bb F p (gl l ((i:Nat):Int).toNat))=some ((l.take i).any λx=>Zl x.n_ (gl l i).n_):=Jf (α:=Scheme) k _ (by simp;omega) λr _=>rfl
   refine Z9 (λf=>?_) (λf=>?_)
   .have f:=Qa6 f
    rw[show((i:Int)-1).toNat=i-1 by omega];refine Q9 (Y8 (by omega) (by omega)) (Q9 (by omega) (Z9 (λ_=>k1) (λn=>Q9 (by omega) (Q4 h ?_))))
    rcases b with b|b
    .rw [Qa4]at b;rw[show decide ((gl l i).N_<=(gl l (i-1)).N_)=false from n]at b;simp at b
    .rw [b];exact k1
   .refine Q9 (by omega) (Q4 h ?_)
    rcases b with b|b
    .rw [Qa4]at b;have:=Qa8 f;have:=Qa6 b.1;omega
    .rw [b];exact k1
  .rw [Qa2 e];exact U3 (by simpa using e) rfl
 .show Kk F l a (i:Int)=_
  unfold Kk;unfold YS WA at b
  rw[Qd4,Qd4]at b;obtain⟨e,f,n⟩:=b
  have e:Za d (gl l i)=0:=by simpa using e
  have k1:GP F (i:Int) a false=z:=Z8 rfl (Q9 (Y8 (by omega) (by omega)) m);have h:ZN F (l.take ((i:Nat):Int).toNat) (λp=>Bb F p (gl l ((i:Nat):Int).toNat))=some false:=(Jf (α:=Scheme) k (λx=>Zl x.n_ (gl l i).n_) (by simp;omega) λr _=>rfl).trans (congrArg some n)
  refine U3 (Qa5 (by omega)) (Q9 (by omega) (Q4 (Rs hd hF (hl _ (J9 g))) (Z8 (by simp[e]) ?_)));refine Z9 (λo=>?_) (λo=>Q9 (by omega) (Q4 h k1))
  have o:=Qa6 o;rw[show((i:Int)-1).toNat=i-1 by omega]
  refine Q9 (Y8 (by omega) (by omega)) (Q9 (by omega) (Z8 ?_ (Q9 (by omega) (Q4 h k1))));rw[Qa5 (by omega:0<i),Qc6]at f
  exact f
 .show Kk F l a (l.length:Int)=_
  unfold Kk qu UO;refine Z8 (Qa7 (by omega)) ?_
  have m:∀j,j<l.length->0<=(gl l j).N_:=λj u=>by
   have:=b j u
   unfold YS at this;rw[Qd4]at this
   exact(yv (by simpa using this.1)).1
  refine(GQ (c:=λi=>some ((i:Int),17)) (y:=some (-1,0)) l.length (λi=> !WV l (gl l i)) (λa i g _ b=>?_) (λa i z g _ b t=>?_) (λb a=>?_) (by omega)).trans ?_
  .show Kj F l a (i:Int)=_
   unfold Kj;exact U3 (Qa5 (by omega)) (Q9 (by omega) (Q4 (jM k (by omega) (m i g)) (U3 b rfl)))
  .show Kj F l a (i:Int)=_
   unfold Kj;exact U3 (Qa5 (by omega)) (Q9 (by omega) (Q4 (jM k (by omega) (m i g)) (Z8 b (Q9 (Y8 (by omega) (by omega)) t))))
  .show Kj F l a (l.length:Int)=_
   unfold Kj;exact Z8 (Qa7 (by omega)) rfl
  .cases (List.range l.length).find? λi=> !WV l (gl l i)<;>rfl
 .cases (List.range l.length).find? (YS d l)<;>rfl
theorem Q9n{d F:Nat}(hd:d<=2000000)(hF:Q7+d<=F){l:List Scheme}(hl:∀s∈l,SD d s):Sw F l=some (UN d l):=by
 have E:Q7<=F:=by omega
 have G:=E;unfold Q7 at G
 unfold Sw UN
 by_cases h16:16<l.length
 .rw [Qa2 h16];exact U3 (Qa5 (by omega)) rfl
 rw[Qa1 h16];refine Z8 (Qa7 (by omega)) ?_
 have N:∀a b:ByteArray,Zl a b=Zl a b:=λ_ _=>rfl
 have r:∀(f:Int->Option (Int×Int)) (i:Nat),i<l.length->∀{y:Option (Int×Int)},(WA l i=false->f ((i:Int)+1)=y)->Y3 (λm (z:Int)=>Jr F l (i:Int) f m z) F (0:Int)=if WA l i=true then some ((i:Int),6)else y:=by
  intro f i q y H;have e:WA l i=(List.range i).any λk=>Zl (gl l k).n_ (gl l i).n_||(decide (k=i-1)&&decide ((gl l i).N_<=(gl l k).N_)):=by
   unfold WA;rw[Qd0,Qi4,Qa4,Qd3,Qd3]
   constructor
   .rintro (⟨p,B⟩|⟨x,hx,h⟩)
    .refine ⟨i-1,Qe4.2 (by have:=Qa6 p;omega),?_⟩
     rw[B];simp
    .obtain ⟨k,o,rfl⟩:=Qc3 hx
     rw[Qd1]at o;refine⟨k,Qe4.2 (by omega),?_⟩
     rw[Qk4, <-y7 (by omega)]at h;rw[h];rfl
   .rintro ⟨k,o,h⟩
    have o:=Qe4.1 o;rw[Qi4,Qa4]at h
    rcases h with h|⟨p,B⟩
    .exact .inr ⟨gl l k,Qt7.2 ⟨k,by omega,(y7 (by omega)).symm⟩,h⟩
    .have p:=Qa6 p
     subst p;exact .inl ⟨Qa5 (by omega),B⟩
  have A:∀k,k<i->gl (l.take i) k=gl l k:=λk o=>by rw[y7 (by simp;omega),y7 (by omega),Qk4]
  have K:((i:Nat):Int).toNat=i:=Qa3 i;have t:(l.take ((i:Nat):Int).toNat).length=i:=by simp;omega
  refine(GQ (c:=λ_=>some ((i:Int),(6:Int))) (y:=y) i (λk=>Zl (gl l k).n_ (gl l i).n_||(decide (k=i-1)&&decide ((gl l i).N_<=(gl l k).N_))) (λm k o _ g=>?_) (λm k z o _ g w=>?_) (λg m=>?_) (by omega)).trans ?_
  .show Jr F l (i:Int) f m (k:Int)=_
   unfold Jr;have k2:Xe F (i:Int) (k:Int) m true=some ((i:Int),6):=rfl
   refine U3 (Qa5 (by rw[t];omega)) (Q9 (by rw[t];omega) ?_);simp only[Qa3,A k o]
   refine Z9 (λ_=>k2) (λp=>Q9 (Y8 (by omega) (by omega)) ?_);rw[p,Qj7,Qa4]at g
   refine U3 (by have:=Qa6 g.1;simp;omega) ?_;rw[g.2];exact k2
  .show Jr F l (i:Int) f m (k:Int)=_
   unfold Jr;have k2:Xe F (i:Int) (k:Int) m false=z:=Z8 rfl (Q9 (Y8 (by omega) (by omega)) w)
   refine U3 (Qa5 (by rw[t];omega)) (Q9 (by rw[t];omega) ?_);simp only[Qa3,A k o]
   rw[Qd4]at g;refine Z8 g.1 (Q9 (Y8 (by omega) (by omega)) (Z9 (λp=>?_) (λ_=>k2)))
   have p:k=i-1:=by simp at p;omega
   have:=g.2
   rw[Qa5 p,Qc6]at this;rw[this];exact k2
  .show Jr F l (i:Int) f m (i:Int)=_
   unfold Jr;refine Z8 (Qa7 (by rw[t];omega)) ?_
   have D:WA l i=false:=by rw[e,Qf0];intro k o;rw[g k (Qe4.1 o)];simp
   exact Q9 (Y8 (by omega) (by omega)) (H D)
  .cases hf:(List.range i).find? λk=>Zl (gl l k).n_ (gl l i).n_||(decide (k=i-1)&&decide ((gl l i).N_<=(gl l k).N_))with
   |some k=>
    have D:WA l i=true:=by rw[e,Qd3];have h:=Qp4.1 hf;exact⟨k,h.2.1,h.1⟩
    rw[Qa2 D]
   |none=>
    have D:WA l i=false:=by rw[e,Qf0];intro k o;exact Qg9.1 hf k o
    rw[Qa1 (by simp[D])]
 refine(GQ (c:=λi=>some ((i:Int),if Za d (gl l i)≠0 then Za d (gl l i)else 6)) (y:=some (UO l)) l.length (YS d l) (λf i q _ g=>?_) (λf i z q _ g w=>?_) (λg f=>?_) (by omega)).trans ?_
 .show KB F l f (i:Int)=_
  unfold KB;refine U3 (Qa5 (by omega)) (Q9 (by omega) (Q4 (cY hd hF (hl _ (J9 q))) ?_))
  by_cases u:Za d (gl l i)=0
  .rw [Qa1 (by simpa using u)]
   unfold YS at g;rw[Qa7 (by simpa using u),Qj7]at g
   refine Z8 (by simp[u]) (Q9 (by omega) ((r f i q (y:=none) λh=>by rw[g]at h;cases h).trans ?_));rw[Qa2 g]
  .rw [Qa2 u];exact U3 (by simpa using u) rfl
 .show KB F l f (i:Int)=_
  unfold KB;unfold YS at g
  rw[Qd4]at g;have u:Za d (gl l i)=0:=by simpa using g.1
  refine U3 (Qa5 (by omega)) (Q9 (by omega) (Q4 (cY hd hF (hl _ (J9 q))) (Z8 (by simp[u]) (Q9 (by omega) ((r f i q λ_=>w).trans ?_)))));rw[Qa1 (by simp[g.2])]
 .show KB F l f (l.length:Int)=_
  unfold KB zH UO;refine Z8 (Qa7 (by omega)) ?_
  have w:∀j,j<l.length->0<=(gl l j).N_:=λj L=>by
   have:=g j L
   unfold YS at this;rw[Qd4]at this
   exact(yv (by simpa using this.1)).1
  have C:∀(f:Int->Option (Int×Int)) (i:Nat),i<l.length->∀{y:Option (Int×Int)},f ((i:Int)+1)=y->Y3 (λm (z:Int)=>Jq F l (i:Int) f m z) F (0:Int)=if(List.range 16).any (UB l (gl l i))=true then some ((i:Int),17)else y:=by
   intro f i q y H;refine qw (c:=some ((i:Int),17)) (y:=y) 16 (UB l (gl l i)) (λm n M g=>?_) (λm n z M g v=>?_) (λm=>?_) (by omega)
   .show Jq F l (i:Int) f m (n:Int)=_
    unfold Jq;unfold UB at g
    rw[Qa4]at g;obtain⟨p,B⟩:=Ci (Vb (n:Nat)) l
    simp only[Qa3 (n:=i)];refine U3 (Qa5 (by omega)) (Q9 (by omega) (Z8 (by rw[Vh,g.1];rfl) (Q4 (cZ E (by omega) _) ?_)))
    refine Z9 (λ_=>rfl) (λJ=>Q9 (by have:=Qa8 J;omega) (Q9 (w i q) ?_));rw[Vh]
    have:=g.2
    rw[J,Qj7]at this;rw[this];rfl
   .show Jq F l (i:Int) f m (n:Int)=_
    unfold Jq;unfold UB at g
    obtain⟨p,B⟩:=Ci (Vb (n:Nat)) l;simp only[Qa3 (n:=i)]
    have I:Su F (n:Int) m=z:=Q9 (Y8 (by omega) (by omega)) v;refine U3 (Qa5 (by omega)) (Q9 (by omega) ?_)
    rw[Vh]
    cases hb:ZS (gl l i).excludes_ n with
    |false=>exact U3 rfl I
    |true=>
     rw[hb,Qc6,Qd4]at g;refine Z8 rfl (Q4 (cZ E (by omega) _) (Z8 g.1 (Q9 (by have:=Qa8 g.1;omega) (Q9 (w i q) ?_))))
     rw[Vh,g.2];unfold Sv;exact Z8 rfl I
   .show Jq F l (i:Int) f m (16:Int)=_
    unfold Jq;exact Z8 (by decide) (Q9 (Y8 (by omega) (by omega)) H)
  refine(GQ (c:=λi=>some ((i:Int),17)) (y:=some (-1,0)) l.length (λi=> !WV l (gl l i)) (λf i q _ g=>?_) (λf i z q _ g v=>?_) (λg f=>?_) (by omega)).trans ?_
  .show KA F l f (i:Int)=_
   unfold KA;unfold WV at g
   rw[Qx6]at g;refine U3 (Qa5 (by omega)) (Q9 (by omega) ((C f i q rfl).trans ?_))
   rw[Qa2 g]
  .show KA F l f (i:Int)=_
   unfold KA;unfold WV at g
   rw[Qx6]at g;refine U3 (Qa5 (by omega)) (Q9 (by omega) ((C f i q v).trans ?_))
   rw[Qa1 (by simp[g])]
  .show KA F l f (l.length:Int)=_
   unfold KA;exact Z8 (Qa7 (by omega)) rfl
  .cases (List.range l.length).find? λi=> !WV l (gl l i)<;>rfl
 .cases (List.range l.length).find? (YS d l)<;>rfl
end
end Go.Ab
end
section
end
section
namespace Go.Ab
set_option maxRecDepth 20000
noncomputable section
structure GoodL (d:Nat) (l:List Scheme):Prop where
 len:l.length<=16
 one:∀i,i<l.length->Za d (gl l i)=0
 asc:∀i,0<i->i<l.length->(gl l (i-1)).N_<(gl l i).N_
 nam:∀i,i<l.length->((l.take i).any λx=>Zl x.n_ (gl l i).n_)=false
 mtl:∀i,i<l.length->WV l (gl l i)=true
theorem Q2V{d:Nat}{l:List Scheme}(h:GoodL d l):UN d l=(-1,0):=by
 obtain⟨g,b,c,e,f⟩:=h;unfold UN
 rw[Qa1 (by omega)];rw[Qg9.2 λi a=>by
  have a:=Qe4.1 a;unfold YS WA
  rw[b i a,e i a]
  by_cases h0:0<i
  .have:=c i h0 a
   rw[Qa7 (p:=(gl l i).N_<=(gl l (i-1)).N_) (by omega)];simp
  .rw [Qa7 h0];simp]
 show UO l=_;unfold UO
 rw[Qg9.2 λi a=>by rw[f i (Qe4.1 a)];simp]
theorem Z4z{d:Nat}{l:List Scheme}:(UN d l).2=0↔GoodL d l:=by
 unfold UN;constructor
 .intro h
  by_cases h16:16<l.length
  .rw [Qa2 h16]at h;cases h
  rw[Qa1 h16]at h
  cases hf:(List.range l.length).find? (YS d l)with
  |some i=>
   rw[hf]at h
   exfalso
   revert h
   show ¬(if Za d (gl l i)≠0 then Za d (gl l i)else 6)=0;split
   .assumption
   .omega
  |none=>
   rw[hf]at h;have b:∀i,i<l.length->YS d l i=false:=λi a=>by have:=Qg9.1 hf i (Qe4.2 a);simpa using this
   have h:(UO l).2=0:=h;unfold UO at h
   cases hg:(List.range l.length).find? λi=> !WV l (gl l i)with
   |some i=>rw[hg]at h;exact absurd h (by show ¬(17:Int)=0;omega)
   |none=>
    have c:∀i,i<l.length->WV l (gl l i)=true:=λi a=>by have:=Qg9.1 hg i (Qe4.2 a);simpa using this
    refine⟨by omega,λi a=>?_,λi e a=>?_,λi a=>?_,c⟩
    .have:=b i a
     unfold YS at this;rw[Qd4]at this
     simpa using this.1
    .have:=b i a
     unfold YS WA at this;rw[Qd4,Qd4]at this
     have:=this.2.1
     rw[Qa5 e,Qc6,Qe2]at this;omega
    .have:=b i a
     unfold YS WA at this;rw[Qd4,Qd4]at this
     exact this.2.2
 .intro h
  have:=Q2V h
  unfold UN at this;rw[this]
end
end Go.Ab
end
section
namespace Go.Ab
set_option maxRecDepth 20000
noncomputable section
theorem Q8V{F:Nat}(hF:Q7<=F){a:Re_}(hv:K7 a.t_):Bq F a=some (Wn a.t_):=by
 unfold Bq;refine Q4 (Vw hF a) ?_
 rw[WN hv];exact Z8 rfl (Q4 (qQ hF (by have:=hv.1;omega) hv.2.1) rfl)
end
end Go.Ab
end
section
namespace Go.Ab
set_option maxRecDepth 20000
noncomputable section
end
end Go.Ab
end
section
end
section
namespace Go.Ab
set_option maxRecDepth 20000
noncomputable section
theorem Q9T{F:Nat}(hF:1<=F){n:Int}(h0:0<=n)(h1:n<=9):∃s,Xm F n=some s/\s.size<=10:=by
 cases F with
 |zero=>omega
 |succ F=>
  refine⟨ZT (IntKind.wrap .u8 (48+n)),?_,by unfold ZT;simp⟩;show Tb F (Xm F) n=_
  unfold Tb;exact Z8 (Qa7 (by omega)) (U3 (Qa5 (by omega)) (Q9 (Y8 (by omega) (by omega)) rfl))
theorem Tl{k:Int}(h0:0<=k)(h1:k<=10):1<=(1:Int)*2 ^ (min k.toNat (IntKind.bits .i64))/\(1:Int)*2 ^ (min k.toNat (IntKind.bits .i64))<=1024:=by
 have a:k=0\/k=1\/k=2\/k=3\/k=4\/k=5\/k=6\/k=7\/k=8\/k=9\/k=10:=by omega
 rcases a with rfl|rfl|rfl|rfl|rfl|rfl|rfl|rfl|rfl|rfl|rfl<;>decide
theorem gw{d:Nat}{a b c:Int}(h1:Q5 a)(h2:Q5 b):TD (d+1) ⟨a,b,c,[]⟩:=⟨h1,h2,by simp,λk e=>(Qg0 e).elim⟩
theorem TA:∀(n:Nat) {F:Nat} (_:n+1<=F) {t:Tape} (_:TOk t) (_:n<=5),∃t' x,WZ F t (n:Int)=some (t',x)/\TOk t' /\ TD (n+1) x
 |n,0,hF,_,_,_=>by omega
 |n,F+1,hF,t,ht,hn=>by
  show ∃t' x,TB F (WZ F) t (n:Int)=some (t',x)/\_;unfold TB
  have k2:∀(u:Tape×Int) (a b:Int) (v:Tape),TOk v->Q5 u.2->Q5 a->Ok (Ua F (WZ F) u a b v.l_ v.at_) λz=>TOk z.1/\TD (n+1) z.2:=λu a b v D E B=>by
   unfold Ua;exact K2 ⟨D,gw E B⟩
  have g:∀(v:Tape),TOk v->Ok ((Zn F v (1:Int) (8:Int)).bind λz=>br (z.2==(2:Int)) (KP F (WZ F) z (z.2==(2:Int))) (KP F (WZ F) z (z.2==(3:Int)))) λz=>TOk z.1/\TD (n+1) z.2:=λv D=>by
   obtain⟨w,o,G,f,P,O⟩:=ZR (F:=F) D (lo:=1) (hi:=8) (by omega) (by omega) (by omega);have j:Q5 o:=Y8 (by omega) (by omega)
   have k1:∀b,Ok (KP F (WZ F) (w,o) b) λz=>TOk z.1/\TD (n+1) z.2:=λb=>by
    unfold KP;refine V7 (λ_=>?_) (λ_=>V7 (λ_=>?_) (λ_=>V7 (λ_=>?_) (λ_=>V7 (λ_=>?_) (λ_=>V7 (λ_=>?_) (λ_=>V7 (λ_=>?_) (λ_=>?_))))))
    .obtain ⟨e,k,d,c,i,p⟩:=Qz (F:=F) f (n:=4) (by omega) (by omega)
     exact G5 d (k2 _ _ _ e c j (Y8 (by omega) (by omega)))
    .obtain ⟨e,k,d,c,i,p⟩:=Qz (F:=F) f (n:=5) (by omega) (by omega)
     have:=Tl i (by omega)
     exact G5 d (V9 ⟨Y8 (by simp only;omega) (by simp only;omega),i⟩ (k2 _ _ _ e c j (Y8 (by simp only;omega) (by simp only;omega))))
    .obtain ⟨e,k,d,c,i,p⟩:=Qz (F:=F) f (n:=16) (by omega) (by omega)
     exact G5 d (k2 _ _ _ e c j (Y8 (by omega) (by omega)))
    .obtain ⟨e,k,d,c,i,p⟩:=ZR (F:=F) f (lo:=2) (hi:=3) (by omega) (by omega) (by omega)
     exact G5 d (k2 _ _ _ e c j (Y8 (by omega) (by omega)))
    .obtain ⟨e,k,d,c,i,p⟩:=ZR (F:=F) f (lo:=1) (hi:=2) (by omega) (by omega) (by omega)
     obtain⟨C,m,q,l,H,Q⟩:=Qz (F:=F) c (n:=5) (by omega) (by omega);have:=Tl H (by omega)
     exact G5 d (G5 q (V9 ⟨Y8 (by simp only;omega) (by simp only;omega),H⟩ (k2 _ _ _ C l j (Y8 (by simp only;omega) (by simp only;omega)))))
    .obtain ⟨e,k,d,c,i,p⟩:=ZR (F:=F) f (lo:=1) (hi:=3) (by omega) (by omega) (by omega)
     exact G5 d (k2 _ _ _ e c j (Y8 (by omega) (by omega)))
    .exact k2 _ _ _ w f j (Y8 (by omega) (by omega))
   exact G5 G (V7 (λ_=>k1 _) (λ_=>k1 _))
  have s:Ok (br (decide ((0:Int)<(n:Int))) ((UG F t (2:Int)).bind λz=>KQ F (WZ F) (n:Int) z.2 z.1.l_ z.1.at_) (KQ F (WZ F) (n:Int) false t.l_ t.at_)) λz=>TOk z.1/\TD (n+1) z.2:=by
   refine V7 (λh=>?_) (λ_=>?_)
   .have h:=Qa6 h
    obtain⟨m,rfl⟩:∃m,n=m+1:=⟨n-1,by omega⟩;obtain⟨w,b,G,f⟩:=DD (F:=F) ht (n:=2) (by omega) (by omega)
    refine G5 G ?_;unfold KQ
    refine V7 (λ_=>?_) (λ_=>g w f);obtain⟨e,k,d,c,_,_⟩:=Qz (F:=F) f (n:=3) (by omega) (by omega)
    refine G5 d ?_;have I:((m+1:Nat):Int)-1=(m:Int):=by omega
    refine V7 (λ_=>V9 (Y8 (by omega) (by omega)) ?_) (λ_=>V7 (λ_=>V9 (Y8 (by omega) (by omega)) ?_) (λ_=>V9 (Y8 (by omega) (by omega)) ?_))
    .rw [I]
     obtain⟨C,x,q,l,d3⟩:=TA m (by omega:m+1<=F) c (by omega);exact G5 q (V9 d3.op (K2 ⟨l,Y8 (by simp only;omega) (by simp only;omega),Y8 (by simp only;omega) (by simp only;omega),by simp,λk A=>by rw[Qb1.1 A];exact d3⟩))
    all_goals
     rw[I];obtain⟨C,x,q,l,d3⟩:=TA m (by omega:m+1<=F) c (by omega)
     obtain⟨N,y,K,M,J⟩:=TA m (by omega:m+1<=F) l (by omega);refine G5 q (V9 (Y8 (by omega) (by omega)) (G5 K (V9 d3.op (V9 J.op (K2 ⟨M,Y8 (by simp only;omega) (by simp only;omega),Y8 (by simp only;omega) (by simp only;omega),by simp,λk A=>?_⟩)))))
     rcases Qe1.1 A with h|h
     .rw [h];exact d3
     .rw [Qb1.1 h];exact J
   .unfold KQ
    exact V7 (λh=>by cases h) (λ_=>g t ht)
  obtain⟨r,L,E,B⟩:=s;exact⟨r.1,r.2,L,E,B⟩
structure ST (s:Scheme):Prop where
 sd:SD 3 s
 num:0<=s.N_/\s.N_<=3
theorem ST.excl{s:Scheme}(h:ST s)(e:Int):ST {s with excludes_:=e}:=⟨⟨h.sd.cond,h.sd.name,h.sd.brl⟩,h.num⟩
theorem gH{l:List Scheme}(h:∀s∈l,ST s){i:Nat}{x:Scheme}(hx:ST x):∀s∈l.set i x,ST s:=λs b=>by
 rcases Ql8 b with a|a
 .exact h s a
 .rw [a];exact hx
structure LT (L:List Scheme):Prop where
 st:∀s∈L,ST s
 len:L.length<=3
theorem Z1z{F:Nat}(hF:Q7+3<=F){t:Tape}(ht:TOk t){most:Int}(m0:0<=most)(m1:most<=3):∃t' L,TN F t most=some (t',L)/\TOk t' /\ LT L/\(L=[]\/GoodL 3 L):=by
 have hB:Q7<=F:=by omega
 have U:=hB;unfold Q7 at U
 unfold TN;obtain⟨t1,n,e1,o1,O,n1⟩:=Qz (F:=F) ht (n:=2) (by omega) (by omega)
 obtain⟨t2,k,e2,o2,V,k1⟩:=Qz (F:=F) o1 (n:=most+1) (by omega) (by omega)
 suffices h:Ok (Y3 (λe (z:Int×Int×(List Int)×Int×(List Scheme))=>TM F e z.1 z.2.1 z.2.2.1 z.2.2.2.1 z.2.2.2.2) F (n,k,t2.l_,t2.at_,([]:List Scheme))) λz=>TOk z.1/\LT z.2/\(z.2=[]\/GoodL 3 z.2) by
  obtain⟨r,hr,h1,P,J⟩:=h;exact⟨r.1,r.2,Q4 e1 (Q9 (Y8 (by omega) (by omega)) (Q4 e2 hr)),h1,P,J⟩
 have T:∀(L:List Scheme) (v:Tape),TOk v->LT L->Ok (TL F L v.l_ v.at_) λz=>TOk z.1/\LT z.2/\(z.2=[]\/GoodL 3 z.2):=λL v f C=>by
  unfold TL;refine G5 (Q9n (d:=3) (by omega) hF λs I=>(C.st s I).sd) (V7 (λ_=>?_) (λh=>?_))
  .exact K2 ⟨f,⟨λs I=>(Qg0 I).elim,by simp⟩,.inl rfl⟩
  .exact K2 ⟨f,C,.inr (Z4z.1 (by simpa using h))⟩
 have k5:∀(L:List Scheme) (v:Tape),TOk v->LT L->Ok (TJ F v.l_ v.at_ L) λz=>TOk z.1/\LT z.2/\(z.2=[]\/GoodL 3 z.2):=λL v f C=>by
  have a9:=C.len;unfold TJ
  refine Zb (λz:Int×(List Int)×Int×(List Scheme)=>0<=z.1/\z.1<=L.length/\TOk ⟨z.2.1,z.2.2.1⟩/\LT z.2.2.2/\z.2.2.2.length=L.length) (λz=>L.length-z.1.toNat) (λe z H ih=>?_) ⟨by simp,by simp,f,C,rfl⟩ (by simp;omega);obtain⟨i,a,b,M⟩:=z
  obtain⟨i0,i1,f,p,o⟩:=H;simp only at i0 i1 f p o
  show Ok (yP F L e i a b M) _;unfold yP
  refine V7 (λh=>?_) (λ_=>T M ⟨a,b⟩ f p);have h:=Qa6 h
  refine V9 (by omega) ?_;refine Zb (λz:Int×(List Int)×Int×(List Scheme)=>0<=z.1/\z.1<=i/\TOk ⟨z.2.1,z.2.2.1⟩/\LT z.2.2.2/\z.2.2.2.length=L.length) (λz=>i.toNat-z.1.toNat) (λR z H G=>?_) ⟨by simp,by simpa using i0,f,p,o⟩ (by simp;omega)
  obtain⟨j,a,b,M⟩:=z;obtain⟨j0,j1,f,p,o⟩:=H
  simp only at j0 j1 f p o;show Ok (yO F i e R j a b M) _
  unfold yO;refine V7 (λP=>?_) (λ_=>?_)
  .have P:=Qa6 P
   obtain⟨Q,c,e3,S⟩:=DD (F:=F) f (n:=3) (by omega) (by omega);have k8:∀(N:List Scheme) (v:Tape),TOk v->LT N->N.length=L.length->Ok (DH F j R v.l_ v.at_ N) λz=>TOk z.1/\LT z.2/\(z.2=[]\/GoodL 3 z.2):=λN v f hN o=>by
    unfold DH;exact V9 (Y8 (by omega) (by omega)) (G _ ⟨by simp only;omega,by simp only;omega,f,hN,o⟩ (by simp only;omega))
   refine G5 e3 (V7 (λ_=>?_) (λ_=>k8 M Q S p o));have hj:=p.st _ (J9 (l:=M) (i:=j.toNat) (by omega))
   have hi:=p.st _ (J9 (l:=M) (i:=i.toNat) (by omega));have p1:=Tl hj.num.1 (by have:=hj.num.2;omega)
   refine V9 (by omega) (V9 (by omega) (V9 ⟨Y8 (by omega) (by omega),hj.num.1⟩ (V9 (by omega) ?_)));have A:∀s∈M.set i.toNat ⟨(gl M i.toNat).N_,(gl M i.toNat).n_,(gl M i.toNat).cond_,(gl M i.toNat).brackets_,(gl M i.toNat).least_,G8 .i64 (gl M i.toNat).excludes_ ((1:Int)*2 ^ (min (gl M j.toNat).N_.toNat (IntKind.bits .i64))),(gl M i.toNat).needs_⟩,ST s:=gH p.st (hi.excl _)
   generalize hN:M.set i.toNat _=N at A⊢;have d7:N.length=M.length:=by rw[<-hN];simp
   have E:=A _ (J9 (l:=N) (i:=i.toNat) (by omega));have a3:=A _ (J9 (l:=N) (i:=j.toNat) (by omega))
   have p2:=Tl E.num.1 (by have:=E.num.2;omega);refine V9 (by omega) (V9 (by omega) (V9 ⟨Y8 (by omega) (by omega),E.num.1⟩ (V9 (by omega) ?_)))
   exact k8 _ Q S ⟨gH A (a3.excl _),by simp;omega⟩ (by simp;omega)
  .unfold yL
   exact V9 (Y8 (by omega) (by omega)) (ih _ ⟨by simp only;omega,by simp only;omega,f,p,o⟩ (by simp only;omega))
 refine Zb (λz:Int×Int×(List Int)×Int×(List Scheme)=>0<=z.1/\z.1<=5/\0<=z.2.1/\TOk ⟨z.2.2.1,z.2.2.2.1⟩/\(∀s∈z.2.2.2.2,ST s)/\(z.2.2.2.2.length:Int)+z.2.1<=3) (λz=>z.2.1.toNat) (λe z H ih=>?_) ⟨by simpa using O,by simp only;omega,by simpa using V,o2,λs I=>(Qg0 I).elim,by simp;omega⟩ (by simp only;omega);obtain⟨n,k,a,b,L⟩:=z
 obtain⟨O,n1,V,f,C,o⟩:=H;simp only at O n1 V f C o
 show Ok (TM F e n k a b L) _;unfold TM
 have Y:LT L:=⟨C,by omega⟩;have kf:Ok (XB F n k a b L e false) λz=>TOk z.1/\LT z.2/\(z.2=[]\/GoodL 3 z.2):=by
  unfold XB;exact V7 (λh=>by cases h) (λ_=>k5 L ⟨a,b⟩ f Y)
 refine V7 (λh=>?_) (λ_=>kf);have h:=Qa6 h
 by_cases J:n<=3
 rotate_left
 .rw [Qa7 J];exact kf
 rw[Qa5 J];unfold XB
 refine V7 (λ_=>?_) (λh=>by cases h);obtain⟨s,es,I⟩:=Q9T (F:=F) (by omega) O (by omega)
 obtain⟨Q,x,e3,S,hx⟩:=TA 2 (by omega:3<=F) f (by omega);obtain⟨t4,y,e4,o4,y0,y1⟩:=Qz (F:=F) S (n:=4) (by omega) (by omega)
 obtain⟨t5,c,e5,o5⟩:=DD (F:=F) o4 (n:=2) (by omega) (by omega);obtain⟨t6,m,e6,o6,m0,m1⟩:=ZR (F:=F) o5 (lo:=1) (hi:=3) (by omega) (by omega) (by omega)
 have K:ByteArray.size (ByteArray.mk #[115])=1:=rfl;refine G5 es (V9 (by rw[K];unfold Y6;omega) (G5 e3 (G5 e4 (G5 e5 (G5 e6 ?_)))))
 refine Zb (λz:Int×Int×(List Int)×Int×(List Bracket)=>0<=z.1/\z.1+40*z.2.1<=120/\0<=z.2.1/\TOk ⟨z.2.2.1,z.2.2.2.1⟩/\(z.2.2.2.2.length:Int)+z.2.1<=3) (λz=>z.2.1.toNat) (λR z H G=>?_) ⟨by simp,by simp only;omega,by simp only;omega,o6,by simp;omega⟩ (by simp only;omega);obtain⟨u,q,a2,b2,B⟩:=z
 obtain⟨u0,u1,q0,D,X⟩:=H;simp only at u0 u1 q0 D X
 show Ok (yQ F n k L s (Q,x) (t4,y) (t5,c) e R u q a2 b2 B) _;unfold yQ
 refine V7 (λh4=>?_) (λ_=>?_)
 .have h4:=Qa6 h4
  obtain⟨t7,w,e7,o7,w0,w1⟩:=ZR (F:=F) D (lo:=1) (hi:=40) (by omega) (by omega) (by omega);obtain⟨t8,g,e8,o8,g0,g1⟩:=Qz (F:=F) o7 (n:=3000) (by omega) (by omega)
  exact G5 e7 (V9 (Y8 (by simp only;omega) (by simp only;omega)) (G5 e8 (V9 (by simp only[Qb0,Qb6];unfold Y6;omega) (V9 (Y8 (by omega) (by omega)) (G _ ⟨by simp only;omega,by simp only;omega,by simp only;omega,o8,by simp;omega⟩ (by simp only;omega))))))
 .unfold yN
  obtain⟨t9,w,e9,o9,w0,w1⟩:=ZR (F:=F) D (lo:=1) (hi:=2) (by omega) (by omega) (by omega);refine V9 (by simp only[Qb0,Qb6];unfold Y6;omega) (G5 e9 (V9 (Y8 (by simp only;omega) (by simp only;omega)) ?_))
  unfold yM;refine V9 (Y8 (by omega) (by omega)) (ih _ ⟨by simp only;omega,by simp only;omega,by simp only;omega,o9,λs' Z=>?_,by simp;omega⟩ (by simp only;omega))
  rcases Qb2.1 Z with W|W
  .exact C s' W
  .rw [Qb1.1 W]
   refine⟨⟨hx,?_,by simp only;omega⟩,O,J⟩;show((ByteArray.mk #[115])++s).size<=_
   rw[ByteArray.size_append,K];omega
end
end Go.Ab
end
section
namespace Go.Ab
set_option maxRecDepth 20000
noncomputable section
structure WT (w:World):Prop where
 yr:0<=w.year_/\w.year_<=4
 crops:CropT w.crops_
 his:HisT (w.crops_.length:Nat) w.history_
 hlen:w.history_.length<=5
 zon:LayT w.zones_
 zlen:w.zones_.length<=3
 day:0<=w.day_/\w.day_<=24
 most:0<=w.most_/\w.most_<=300
theorem HisT.few5{K:Int}{H:List Rg_}(h:HisT K H)(hl:H.length<=5):FewR H:=⟨h.hl,λy p i a=>by
 have:=Q4j h y p i (by omega)
 omega⟩
theorem QN.up{n m:Int}{l:List Rect}(h:QN n l)(hm:n<=m):QN m l:=λr a=>by
 have:=h r a
 omega
theorem WT.lb{w:World}(h:WT w):LB 9 w.zones_:=h.zon.lb
theorem WT.ev{w:World}(h:WT w){A:List Rect}(hA:TR A){c:Int}(hc:0<=c/\c<(w.crops_.length:Nat)):EV w.year_ w.crops_ w.history_ w.zones_ c A:=by
 have b:=h.crops.one c.toNat (by omega);exact⟨hA,hc,b.2.1,⟨b.2.2.2.1,b.2.2.2.2⟩,h.his.few5 h.hlen,λf a=>(h.his.box f a).up (by omega),λf a=>⟨((KI f).1 (h.his.hl.one f a)).2.2.1,h.his.crop f a⟩,by have:=h.yr;omega,⟨h.zon.vl,λf a=>(h.lb.box f a).up (by omega),by omega⟩⟩
theorem WT.chk{w:World}(h:WT w){A:List Rect}(hA:TR A){c:Int}(hc:0<=c/\c<(w.crops_.length:Nat)){e:Nat}{t:Term}(ht:YG e t=0):Wv e t w.crops_ c w.history_ w.year_ w.zones_ w.day_ A=0:=by
 have f:=h.yr;have i:=h.day
 have d:∀k:Int,0<=k->k<(w.crops_.length:Nat)->WM w.crops_ k=false:=λk j g=>by
  unfold WM;rw[Qa7 (by omega),Qa7 (by omega)];rfl
 have a:(w.history_.any λr=>WM w.crops_ r.c_)=false:=by
  rw[Qf0];intro r b
  rw[d _ ((KI r).1 (h.his.hl.one r b)).2.2.1 (h.his.crop r b)];exact Bool.noConfusion
 unfold Wv;rw[Qa1 (by rw[ht];simp),Qa1 (by rw[h.crops.crC];simp),Qa1 (by rw[d c hc.1 hc.2,a];simp),Qa1 (by rw[(FA _).2 h.his.hl];simp),Qa1 (by omega),Qa1 (by rw[(Hz _).2 h.zon.vl];simp),Qa1 (by omega),Qa2 ((Wh _).2 hA.val)]
def UE(w:World)(x:Line)(parcel:Re_)(s:Scheme):TS:=
 if ZS x.s_ s.N_=false then VG x.g_.t_ false
 else VY x.g_.t_ (QF w.year_ w.crops_ w.history_ w.zones_ w.day_ x.c_ x.g_.t_ 3 s.cond_) (UM w.zones_ w.day_ w.most_ parcel.t_)
theorem Tw(w:World)(x:Line)(parcel:Re_)(s:Scheme):TIn x.g_.t_ (UE w x parcel s):=by
 unfold UE;split
 .exact Pe _ _
 .exact Q0M (KX _ _) (vS _ _ _ _)
theorem Z4S{A:List Rect}(h:K7 A):(VG A false).t3 A=⟨⟨[]⟩,⟨A⟩,⟨[]⟩⟩:=by
 unfold TS.t3;rw[Q3v,JL]
 show Truth.mk ⟨cn λ_ _=>false⟩ ⟨cn (Q8 A)⟩ ⟨[]⟩=_;rw[JL,XY h]
theorem Z1i{F n:Nat}(hF:Q7+3<=F){w:World}{x:Line}(hE:EV w.year_ w.crops_ w.history_ w.zones_ x.c_ x.g_.t_){s:Scheme}(hk:Wv 3 s.cond_ w.crops_ x.c_ w.history_ w.year_ w.zones_ w.day_ x.g_.t_=0)(hl:w.history_.length<=1000000)(hn:Pi w.crops_)(hL:LB n w.zones_)(d1:0<=w.day_)(d2:w.day_<=36864)(m1:0<=w.most_)(m2:w.most_<=268435456)(hs:SD 3 s)(h1:Za 3 s=0){parcel:Re_}(hp:TR parcel.t_)(hsub:∀ u v,Q8 x.g_.t_ u v=true->Q8 parcel.t_ u v=true):
  Gc F x parcel s w=some ((UE w x parcel s).t3 x.g_.t_,0):=by
 have d:Q7<=F:=by omega
 have b:=hE.tr;have c:=Q4e d hL d1 d2 hp m1 m2
 rw[Z3U (e:=3) (by omega) hF hs hl hn (λ_=>hE) c λ_=>Q2v hp _ _];have hE:(Ud 3 s.cond_ x w.year_ w.crops_ w.history_ w.zones_ w.day_).2=0:=by
  unfold Ud;rw[Qa1 (by rw[hk];simp)]
 have a:Gx x.g_ parcel=true:=(Q4o b.val hp.val).2 hsub;unfold yH
 rw[Qa1 (by rw[(Wh _).2 hp.val];simp),Qa1 (by rw[hE];simp),Qa1 (by rw[h1];simp),Qa1 (by simp),Qa1 (by rw[a];simp)];unfold UE
 by_cases q:ZS x.s_ s.N_=false
 .rw [Qa2 q,Qa2 q,Z4S b.val]
 .rw [Qa1 q,Qa1 q]
  show some ((VY _ _ (Q8 (cn (UM w.zones_ w.day_ w.most_ parcel.t_)))).t3 _,(0:Int))=_;rw[ZY (vS _ _ _ _)]
theorem Z1h{F:Nat}(hF:Q7+3<=F){w:World}(hw:WT w){x:Line}(hA:TR x.g_.t_)(hc:0<=x.c_/\x.c_<(w.crops_.length:Nat)){s:Scheme}(hs:SD 3 s)(h1:Za 3 s=0){parcel:Re_}(hp:TR parcel.t_)(hsub:∀ u v,Q8 x.g_.t_ u v=true->Q8 parcel.t_ u v=true):
  Gc F x parcel s w=some ((UE w x parcel s).t3 x.g_.t_,0):=by
 have b:=hw.day;have a:=hw.most
 have c:=hw.hlen;exact Z1i hF (hw.ev hA hc) (hw.chk hA hc (yv h1).2.2.2.2.2.1) (by omega) hw.crops.nm hw.lb b.1 (by omega) a.1 (by omega) hs h1 hp hsub
end
end Go.Ab
end
section
namespace Go.Ab
set_option maxRecDepth 20000
noncomputable section
theorem Z1T{F:Nat}{a n:Int}(h0:0<=a)(h1:a<n):KT F a n=some a:=by
 unfold KT;rw[Int.tmod_eq_of_lt h0 h1]
 exact Z8 (Qa7 (by omega)) (Q9 (by omega) (Z8 (Qa7 (by omega)) rfl))
structure PrT (rs:List Re_) (l:List Line) (ps:List Re_):Prop where
 len:ps.length=l.length
 at_:∀i,i<l.length->gl ps i=gl rs ((gl l i).p_-1).toNat
theorem Z1q{F:Nat}(hF:Q7<=F){t:Tape}(ht:TOk t){cs:List Crop}(hcs:CropT cs):∃t' w,Tz F t cs=some (t',w)/\TOk t' /\ WT w/\w.crops_=cs/\w.most_<=4:=by
 obtain⟨B,y,c,p,z,D⟩:=Qz (F:=F) ht (n:=5) (by omega) (by omega);obtain⟨x,H,f,o,g,r⟩:=Z1G hF p hcs (most:=5) (by omega) (by omega)
 obtain⟨s,Z,q,e,a,b⟩:=Z1x hF o (most:=3) (by omega) (by omega);obtain⟨v,d,j,l,d1,u⟩:=Qz (F:=F) e (n:=25) (by omega) (by omega)
 obtain⟨i,m,h,k,C,A⟩:=Qz (F:=F) l (n:=5) (by omega) (by omega);refine⟨i,⟨y,cs,H,Z,d,m⟩,?_,k,⟨by simp only;omega,hcs,g,by simp only;omega,a,by simp only;omega,by simp only;omega,by simp only;omega⟩,rfl,by simp only;omega⟩
 unfold Tz;exact Q4 c (Q4 f (Q4 q (Q4 j (Q4 h rfl))))
def Q5f:Term:=⟨1,0,0,[]⟩
theorem Q5d(d:Nat):TD (d+1) Q5f:=gw (Y8 (by omega) (by omega)) (Y8 (by omega) (by omega))
theorem Z3q:ZS 1 0=true/\ZS 0 0=false:=by decide +kernel
end
end Go.Ab
end
