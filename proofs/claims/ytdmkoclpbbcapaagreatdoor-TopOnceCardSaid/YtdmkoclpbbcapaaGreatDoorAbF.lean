/- Abstract states over the model. -/
import Derived.Test.YtdmkoclpbbcapaaGreatDoorAbE
import Derived.Test.YtdmkoclpbbcapaaGreatDoorLwA
import Derived.Test.YtdmkoclpbbcapaaGreatDoorLwC
import Derived.Test.YtdmkoclpbbcapaaGreatDoorAbD
set_option linter.unusedVariables false
set_option linter.unusedSimpArgs false
section
namespace Go.Ab
set_option maxRecDepth 20000
noncomputable section
theorem Z4i{L:List A2_}{d m:Int}{a:List Rect}{x y:Int}(h:Jq L d m a x y=true):Q2 a x y=true:=by
 unfold Jq at h
 grind
theorem Q2w{L:List A2_}{a:List Rect}(ha:TR a)(d m:Int):J1 (cn (Jq L d m a)):=ha.sub (vE L d m a) λ_ _ h=>Z4i h
theorem Q4L{F n:Nat}{L:List A2_}{d:Int}(hF:Q6<=F)(hL:LB n L)(d1:0<=d)(d2:d<=36864){a:Re_}(ht:TR a.t_){m:Int}(m1:0<=m)(m2:m<=268435456):Bh F a L d m=some (⟨cn (Jq L d m a.t_)⟩,0):=by
 have b:=ht.val;have g:=hL.rval d (zp 0)
 have f:=gT hL d m a.t_;have l:=g.1.1
 have i:=f.1.1;have j:=b.1
 unfold Bh;refine Q4 (Le hF hL.vl d1 d2 b m1 m2) ?_
 refine Z4 rfl ?_;refine Q4 (Q4K hF hL d1 d2) ?_
 refine Z4 rfl ?_;refine Q4 (Q4H hF hL d1 d2 b m1 m2) ?_
 refine Z4 rfl ?_;refine Q4 (qg hF (by simp only;omega) (by simp only;omega)) ?_
 refine Q4 (JT hF (by simp only[Qb7];omega) (λr c=>(b.2.2.pos c).1) (λr c=>?_) (k:=λu v=>u && !v) rfl (λu v=>by cases u<;>cases v<;>rfl)) ?_
 .rcases Qa9.1 c with h|h
  .exact (g.1.2.2.pos h).1
  .exact (f.1.2.2.pos h).1
 have e:(cn λx y=>Q2 a.t_ x y && !Q2 (cn (Q2 (Zf L d (zp 0)))++cn (Q2 (VG L d m a.t_))) x y)=cn (Jq L d m a.t_):=by
  congr 1
  funext x y
  unfold Jq;rw[Jk,QN (Qz _),QN (Qz _)]
 show(JS F (cn λx y=>Q2 a.t_ x y && !Q2 (cn (Q2 (Zf L d (zp 0)))++cn (Q2 (VG L d m a.t_))) x y)).bind _=_;rw[e]
 have:=(Q2w (L:=L) ht d m).1
 refine Q4 (Su F _) ?_;rw[Qa1 (by omega)]
end
end Go.Ab
end
section
namespace Go.Ab
set_option maxRecDepth 20000
noncomputable section
theorem XC{R:Type}{body:(Int->Option R)->Int->Option R}{c:Nat->Option R}{y:Option R}(N:Nat)(p:Nat->Bool)(bad:∀again (i:Nat),i<N->(∀j,j<i->p j=false)->p i=true->body again (i:Int)=c i)(good:∀again (i:Nat) z,i<N->(∀j,j<i->p j=false)->p i=false->again ((i:Int)+1)=z->body again (i:Int)=z)(stop:(∀j,j<N->p j=false)->∀again,body again (N:Int)=y){F:Nat}(hF:N<F):Y3 body F 0=match (List.range N).find? p with|some i=>c i|none=>y:=by
 refine z5 (λz:Int=>∃i:Nat,z=i/\i<=N/\∀j,j<i->p j=false) (λz=>N-z.toNat) (λagain z e d=>?_) ⟨0,rfl,Qc3 _,λj h=>absurd h (Qc9 j)⟩ (by simp;omega);obtain⟨i,rfl,g,a⟩:=e
 rcases Qd3 i N with h|h
 .cases hpi:p i with
  |true=>
   rw[Qv2.2 ⟨hpi,Qf2.2 h,λj b=>by simp[a j b]⟩]
   grind
  |false=>
   refine good again i _ h a hpi (d _ ⟨i+1,by omega,h,λj b=>?_⟩ (by omega))
   grind
 .have:i=N:=by omega
  subst this;rw[Qi0.2 λx f=>by rw[a x (Qf2.1 f)];simp]
  exact stop a again
theorem Ha{α:Type}[Emb α](p:α->Bool)(l:List α):Zx p l<(l.length:Int) /\ -1<=Zx p l/\(0<=Zx p l->p (gl l (Zx p l).toNat)=true/\l.any p=true):=by
 unfold Zx;split
 .rename_i h
  have a:l.findIdx p<l.length:=Qm4 (by simpa using h);refine⟨by omega,by omega,λ_=>⟨?_,h⟩⟩
  rw[Qa3,Qc a];exact Qr8 (w:=a)
 all_goals grind
def Yk(n:Int)(x:Scheme):Bool:=x.N_==n
theorem qA{F:Nat}(hF:Q6<=F){l:List Scheme}(hl:l.length<=1000000)(n:Int):BN F l n=some (Zx (Yk n) l):=by
 unfold BN;exact Q4 (jj (α:=Scheme) hF (Yk n) (by omega) λr _=>rfl) rfl
theorem cX{F:Nat}(hF:Q6<=F){l:List Scheme}(hl:l.length<=1000000)(n:Int):SA F l n=some (Zx (Yk n) l):=by
 have k:=hF;unfold Q6 at k
 unfold SA;refine(XC (c:=λi=>some (i:Int)) (y:=some (-1)) l.length (λi=>Yk n (gl l i)) (λa i o _ d=>?_) (λa i z o _ d p=>?_) (λ_ a=>?_) (by omega)).trans ?_
 .show Gc F l n a (i:Int)=_
  unfold Gc;exact Y9 (Qa6 (by omega)) (Q9 (by omega) (Y9 d rfl))
 .show Gc F l n a (i:Int)=_
  unfold Gc;exact Y9 (Qa6 (by omega)) (Q9 (by omega) (Z4 d (Q9 (V9 (by omega) (by omega)) p)))
 .show Gc F l n a (l.length:Int)=_
  unfold Gc;exact Z4 (Qa5 (by omega)) rfl
 .unfold Zx
  cases hf:(List.range l.length).find? λi=>Yk n (gl l i)with
  |none=>
   have h:=Qi0.1 hf;rw[Qa1]
   rw[Qg3];exact FP λj e=>by have:=h j (Qf2.2 e);simpa using this
  |some i=>
   obtain⟨f,b,g⟩:=Qv2.1 hf;have b:=Qf2.1 b
   have m:l.any (Yk n)=true:=Qc6.2 ⟨_,K3 b,f⟩;rw[Qa2 m,vz b (λj e=>by have:=g j e;simpa using this) f]
def VC(l:List Scheme)(i:Nat):Bool:=(decide (0<i)&&decide ((gl l i).N_<=(gl l (i-1)).N_))||(l.take i).any λx=>Zv x.n_ (gl l i).n_
def Kf(l:List Scheme)(s:Scheme)(n:Nat):Bool:=ZR s.excludes_ n&&(decide (Zx (Yk n) l<0) || !ZR (gl l (Zx (Yk n) l).toNat).excludes_ s.N_)
def VV(l:List Scheme)(s:Scheme):Bool:= !(List.range 16).any (Kf l s)
def Js(l:List Scheme):Int×Int:=match (List.range l.length).find? λi=> !VV l (gl l i)with
 |some i=>(i,17)
 |none=>(-1,0)
def Wf(d:Nat)(l:List Scheme)(i:Nat):Bool:=decide (Zc d (gl l i)≠0)||VC l i
def Jr(d:Nat)(l:List Scheme):Int×Int:=if 16<l.length then(0,1)else match (List.range l.length).find? (Wf d l)with
 |some i=>(i,if Zc d (gl l i)≠0 then Zc d (gl l i)else 6)
 |none=>Js l
theorem DP{d:Nat}{s:Scheme}(h:Zc d s=0):0<=s.N_/\s.N_<=15/\0<=s.least_/\s.least_<=268435456/\QZ s.n_=true/\YL d s.cond_=0/\WJ s.brackets_=true/\0<=s.excludes_/\s.excludes_<65536/\ZR s.excludes_ s.N_=false:=by
 unfold Zc at h;split at h
 all_goals grind
theorem jN{F:Nat}(hF:Q6<=F){l:List Scheme}(hl:l.length<=1000000){s:Scheme}(hs:0<=s.N_):RI F l s=some (VV l s):=by
 have f:=hF;unfold Q6 at f
 unfold RI;refine(qF (c:=some false) (y:=some true) 16 (Kf l s) (λa i g b=>?_) (λa i z g b j=>?_) (λa=>?_) (by omega)).trans ?_
 .show KQ F l s a (i:Int)=_
  unfold KQ;unfold Kf at b
  rw[Qa4]at b;obtain⟨e,h⟩:=Ha (Yk (i:Nat)) l
  refine Y9 (Qa6 (by omega)) (Q9 (by omega) (Z4 (by rw[Vz,b.1];rfl) (Q4 (qA hF hl _) ?_)));refine Z6 (λ_=>rfl) (λd=>Q9 (by have:=Qb2 d;omega) (Q9 hs ?_))
  rw[Vz];have:=b.2
  rw[d,Qk0]at this;rw[this];rfl
 .show KQ F l s a (i:Int)=_
  unfold KQ;unfold Kf at b
  obtain⟨e,h⟩:=Ha (Yk (i:Nat)) l;have k2:RG F (i:Int) a=z:=Q9 (V9 (by omega) (by omega)) j
  refine Y9 (Qa6 (by omega)) (Q9 (by omega) ?_);rw[Vz]
  cases hb:ZR s.excludes_ i with
  |false=>exact Y9 rfl k2
  |true=>
   rw[hb,Qe4,Qg5]at b;refine Z4 rfl (Q4 (qA hF hl _) (Z4 b.1 (Q9 (by have:=Qb2 b.1;omega) (Q9 hs ?_))))
   rw[Vz,b.2];unfold RH;exact Z4 rfl k2
 .show KQ F l s a (16:Int)=_
  unfold KQ;exact Z4 (by decide) rfl
 .unfold VV
  grind
theorem Q8p{d F:Nat}(hd:d<=2000000)(hF:Q6+d<=F){l:List Scheme}(hl:∀s∈l,SD d s):RM F l=some (Jr d l):=by
 have k:Q6<=F:=by omega
 have n:=k;unfold Q6 at n
 unfold RM Jr
 by_cases h16:16<l.length
 .rw [Qa2 h16];exact Y9 (Qa6 (by omega)) rfl
 rw[Qa1 h16];refine Z4 (Qa5 (by omega)) ?_
 refine(XC (c:=λi=>some ((i:Int),if Zc d (gl l i)≠0 then Zc d (gl l i)else 6)) (y:=some (Js l)) l.length (Wf d l) (λa i f _ b=>?_) (λa i z f _ b m=>?_) (λb a=>?_) (by omega)).trans ?_
 .show KV F l a (i:Int)=_
  unfold KV;refine Y9 (Qa6 (by omega)) (Q9 (by omega) (Q4 (BM hd hF (hl _ (K3 f))) ?_))
  by_cases e:Zc d (gl l i)=0
  .rw [Qa1 (by simpa using e)]
   refine Z4 (by simp[e]) ?_;unfold Wf VC at b
   have k1:XB F (i:Int) a true=some ((i:Int),6):=rfl;rw[Qa5 (by simpa using e),Qk0,Qj3]at b
   have h:ZF F (l.take ((i:Nat):Int).toNat) (λq=>BO F q (gl l ((i:Nat):Int).toNat))=some ((l.take i).any λx=>Zv x.n_ (gl l i).n_):=UY (α:=Scheme) k _ (by simp;omega) λr _=>rfl
   refine Z6 (λg=>?_) (λg=>?_)
   .have g:=Qa8 g
    rw[show((i:Int)-1).toNat=i-1 by omega];refine Q9 (V9 (by omega) (by omega)) (Q9 (by omega) (Z6 (λ_=>k1) (λt=>Q9 (by omega) (Q4 h ?_))))
    rcases b with b|b
    .rw [Qa4]at b;rw[show decide ((gl l i).N_<=(gl l (i-1)).N_)=false from t]at b;simp at b
    .rw [b];exact k1
   .refine Q9 (by omega) (Q4 h ?_)
    rcases b with b|b
    .rw [Qa4]at b;have:=Qb2 g;have:=Qa8 b.1;omega
    .rw [b];exact k1
  .rw [Qa2 e];exact Y9 (by simpa using e) rfl
 .show KV F l a (i:Int)=_
  unfold KV;unfold Wf VC at b
  rw[Qg5,Qg5]at b;obtain⟨e,g,t⟩:=b
  have e:Zc d (gl l i)=0:=by simpa using e
  have k1:XB F (i:Int) a false=z:=Z4 rfl (Q9 (V9 (by omega) (by omega)) m);have h:ZF F (l.take ((i:Nat):Int).toNat) (λq=>BO F q (gl l ((i:Nat):Int).toNat))=some false:=(UY (α:=Scheme) k (λx=>Zv x.n_ (gl l i).n_) (by simp;omega) λr _=>rfl).trans (congrArg some t)
  refine Y9 (Qa6 (by omega)) (Q9 (by omega) (Q4 (BM hd hF (hl _ (K3 f))) (Z4 (by simp[e]) ?_)));refine Z6 (λp=>?_) (λp=>Q9 (by omega) (Q4 h k1))
  have p:=Qa8 p;rw[show((i:Int)-1).toNat=i-1 by omega]
  refine Q9 (V9 (by omega) (by omega)) (Q9 (by omega) (Z4 ?_ (Q9 (by omega) (Q4 h k1))));rw[Qa6 (by omega:0<i),Qe4]at g
  exact g
 .show KV F l a (l.length:Int)=_
  unfold KV qB Js;refine Z4 (Qa5 (by omega)) ?_
  have m:∀j,j<l.length->0<=(gl l j).N_:=λj u=>by
   have:=b j u
   unfold Wf at this;rw[Qg5]at this
   exact(DP (by simpa using this.1)).1
  refine(XC (c:=λi=>some ((i:Int),17)) (y:=some (-1,0)) l.length (λi=> !VV l (gl l i)) (λa i f _ b=>?_) (λa i z f _ b o=>?_) (λb a=>?_) (by omega)).trans ?_
  .show KU F l a (i:Int)=_
   unfold KU;exact Y9 (Qa6 (by omega)) (Q9 (by omega) (Q4 (jN k (by omega) (m i f)) (Y9 b rfl)))
  .show KU F l a (i:Int)=_
   unfold KU;exact Y9 (Qa6 (by omega)) (Q9 (by omega) (Q4 (jN k (by omega) (m i f)) (Z4 b (Q9 (V9 (by omega) (by omega)) o))))
  .show KU F l a (l.length:Int)=_
   unfold KU;exact Z4 (Qa5 (by omega)) rfl
  .cases (List.range l.length).find? λi=> !VV l (gl l i)<;>rfl
 .cases (List.range l.length).find? (Wf d l)<;>rfl
theorem Q9F{d F:Nat}(hd:d<=2000000)(hF:Q6+d<=F){l:List Scheme}(hl:∀s∈l,SD d s):SE F l=some (Jr d l):=by
 have E:Q6<=F:=by omega
 have D:=E;unfold Q6 at D
 unfold SE Jr
 by_cases h16:16<l.length
 .rw [Qa2 h16];exact Y9 (Qa6 (by omega)) rfl
 rw[Qa1 h16];refine Z4 (Qa5 (by omega)) ?_
 have N:∀a b:ByteArray,Zv a b=Zv a b:=λ_ _=>rfl
 have r:∀(f:Int->Option (Int×Int)) (i:Nat),i<l.length->∀{y:Option (Int×Int)},(VC l i=false->f ((i:Int)+1)=y)->Y3 (λm (z:Int)=>JW F l (i:Int) f m z) F (0:Int)=if VC l i=true then some ((i:Int),6)else y:=by
  intro f i o y C;have e:VC l i=(List.range i).any λk=>Zv (gl l k).n_ (gl l i).n_||(decide (k=i-1)&&decide ((gl l i).N_<=(gl l k).N_)):=by
   unfold VC;rw[Qe1,Qj3,Qa4,Qc6,Qc6]
   constructor
   .rintro (⟨v,G⟩|⟨x,hx,h⟩)
    .grind
    .obtain ⟨k,q,rfl⟩:=Qc7 hx
     rw[Qd7]at q;refine⟨k,Qf2.2 (by omega),?_⟩
     rw[Qn6, <-Qc (by omega)]at h;rw[h];rfl
   .rintro ⟨k,q,h⟩
    have q:=Qf2.1 q;rw[Qj3,Qa4]at h
    rcases h with h|⟨v,G⟩
    .exact .inr ⟨gl l k,Qu2.2 ⟨k,by omega,(Qc (by omega)).symm⟩,h⟩
    all_goals grind
  have B:∀k,k<i->gl (l.take i) k=gl l k:=λk q=>by rw[Qc (by simp;omega),Qc (by omega),Qn6]
  have J:((i:Nat):Int).toNat=i:=Qa3 i;have p:(l.take ((i:Nat):Int).toNat).length=i:=by simp;omega
  refine(XC (c:=λ_=>some ((i:Int),(6:Int))) (y:=y) i (λk=>Zv (gl l k).n_ (gl l i).n_||(decide (k=i-1)&&decide ((gl l i).N_<=(gl l k).N_))) (λm k q _ g=>?_) (λm k z q _ g w=>?_) (λg m=>?_) (by omega)).trans ?_
  .show JW F l (i:Int) f m (k:Int)=_
   unfold JW;have k2:XO F (i:Int) (k:Int) m true=some ((i:Int),6):=rfl
   refine Y9 (Qa6 (by rw[p];omega)) (Q9 (by rw[p];omega) ?_);simp only[Qa3,B k q]
   refine Z6 (λ_=>k2) (λv=>Q9 (V9 (by omega) (by omega)) ?_);rw[v,Qk0,Qa4]at g
   refine Y9 (by have:=Qa8 g.1;simp;omega) ?_
   grind
  .show JW F l (i:Int) f m (k:Int)=_
   unfold JW;have k2:XO F (i:Int) (k:Int) m false=z:=Z4 rfl (Q9 (V9 (by omega) (by omega)) w)
   refine Y9 (Qa6 (by rw[p];omega)) (Q9 (by rw[p];omega) ?_);simp only[Qa3,B k q]
   rw[Qg5]at g;refine Z4 g.1 (Q9 (V9 (by omega) (by omega)) (Z6 (λv=>?_) (λ_=>k2)))
   grind
  .show JW F l (i:Int) f m (i:Int)=_
   unfold JW;refine Z4 (Qa5 (by rw[p];omega)) ?_
   have M:VC l i=false:=by rw[e,Qf6];intro k q;rw[g k (Qf2.1 q)];simp
   exact Q9 (V9 (by omega) (by omega)) (C M)
  all_goals grind
 refine(XC (c:=λi=>some ((i:Int),if Zc d (gl l i)≠0 then Zc d (gl l i)else 6)) (y:=some (Js l)) l.length (Wf d l) (λf i o _ g=>?_) (λf i z o _ g w=>?_) (λg f=>?_) (by omega)).trans ?_
 .show Ge F l f (i:Int)=_
  unfold Ge;refine Y9 (Qa6 (by omega)) (Q9 (by omega) (Q4 (cW hd hF (hl _ (K3 o))) ?_))
  by_cases u:Zc d (gl l i)=0
  .rw [Qa1 (by simpa using u)]
   unfold Wf at g;rw[Qa5 (by simpa using u),Qk0]at g
   refine Z4 (by simp[u]) (Q9 (by omega) ((r f i o (y:=none) λh=>by rw[g]at h;cases h).trans ?_));rw[Qa2 g]
  .rw [Qa2 u];exact Y9 (by simpa using u) rfl
 .show Ge F l f (i:Int)=_
  unfold Ge;unfold Wf at g
  rw[Qg5]at g;have u:Zc d (gl l i)=0:=by simpa using g.1
  refine Y9 (Qa6 (by omega)) (Q9 (by omega) (Q4 (cW hd hF (hl _ (K3 o))) (Z4 (by simp[u]) (Q9 (by omega) ((r f i o λ_=>w).trans ?_)))))
  grind
 .show Ge F l f (l.length:Int)=_
  unfold Ge zo Js;refine Z4 (Qa5 (by omega)) ?_
  have w:∀j,j<l.length->0<=(gl l j).N_:=λj L=>by
   have:=g j L
   unfold Wf at this;rw[Qg5]at this
   exact(DP (by simpa using this.1)).1
  have A:∀(f:Int->Option (Int×Int)) (i:Nat),i<l.length->∀{y:Option (Int×Int)},f ((i:Int)+1)=y->Y3 (λm (z:Int)=>JV F l (i:Int) f m z) F (0:Int)=if(List.range 16).any (Kf l (gl l i))=true then some ((i:Int),17)else y:=by
   intro f i o y C;refine qF (c:=some ((i:Int),17)) (y:=y) 16 (Kf l (gl l i)) (λm n K g=>?_) (λm n z K g t=>?_) (λm=>?_) (by omega)
   .show JV F l (i:Int) f m (n:Int)=_
    unfold JV;unfold Kf at g
    rw[Qa4]at g;obtain⟨v,G⟩:=Ha (Yk (n:Nat)) l
    simp only[Qa3 (n:=i)];refine Y9 (Qa6 (by omega)) (Q9 (by omega) (Z4 (by rw[Vz,g.1];rfl) (Q4 (cX E (by omega) _) ?_)))
    refine Z6 (λ_=>rfl) (λI=>Q9 (by have:=Qb2 I;omega) (Q9 (w i o) ?_));rw[Vz]
    have:=g.2
    rw[I,Qk0]at this;rw[this];rfl
   .show JV F l (i:Int) f m (n:Int)=_
    unfold JV;unfold Kf at g
    obtain⟨v,G⟩:=Ha (Yk (n:Nat)) l;simp only[Qa3 (n:=i)]
    have H:SB F (n:Int) m=z:=Q9 (V9 (by omega) (by omega)) t;refine Y9 (Qa6 (by omega)) (Q9 (by omega) ?_)
    rw[Vz]
    cases hb:ZR (gl l i).excludes_ n with
    |false=>exact Y9 rfl H
    |true=>
     rw[hb,Qe4,Qg5]at g;refine Z4 rfl (Q4 (cX E (by omega) _) (Z4 g.1 (Q9 (by have:=Qb2 g.1;omega) (Q9 (w i o) ?_))))
     rw[Vz,g.2];unfold SC;exact Z4 rfl H
   .show JV F l (i:Int) f m (16:Int)=_
    unfold JV;exact Z4 (by decide) (Q9 (V9 (by omega) (by omega)) C)
  refine(XC (c:=λi=>some ((i:Int),17)) (y:=some (-1,0)) l.length (λi=> !VV l (gl l i)) (λf i o _ g=>?_) (λf i z o _ g t=>?_) (λg f=>?_) (by omega)).trans ?_
  .show Gd F l f (i:Int)=_
   unfold Gd;unfold VV at g
   rw[Bool.not_not]at g;refine Y9 (Qa6 (by omega)) (Q9 (by omega) ((A f i o rfl).trans ?_))
   rw[Qa2 g]
  .show Gd F l f (i:Int)=_
   unfold Gd;unfold VV at g
   rw[Bool.not_not]at g;refine Y9 (Qa6 (by omega)) (Q9 (by omega) ((A f i o t).trans ?_))
   grind
  .show Gd F l f (l.length:Int)=_
   unfold Gd;exact Z4 (Qa5 (by omega)) rfl
  all_goals grind
 all_goals grind
end
end Go.Ab
end
section
end
section
namespace Go.Ab
set_option maxRecDepth 20000
noncomputable section
structure GoodL (d:Nat) (l:List Scheme):Prop where
 len:l.length<=16
 one:∀i,i<l.length->Zc d (gl l i)=0
 asc:∀i,0<i->i<l.length->(gl l (i-1)).N_<(gl l i).N_
 nam:∀i,i<l.length->((l.take i).any λx=>Zv x.n_ (gl l i).n_)=false
 mtl:∀i,i<l.length->VV l (gl l i)=true
theorem Q3m{d:Nat}{l:List Scheme}(h:GoodL d l):Jr d l=(-1,0):=by
 obtain⟨f,c,g,e,b⟩:=h;unfold Jr
 rw[Qa1 (by omega)];rw[Qi0.2 λi a=>by
  have a:=Qf2.1 a;unfold Wf VC
  grind]
 show Js l=_;unfold Js
 grind
theorem Z5e{d:Nat}{l:List Scheme}:(Jr d l).2=0↔GoodL d l:=by
 unfold Jr;constructor
 .intro h
  by_cases h16:16<l.length
  .grind
  rw[Qa1 h16]at h
  cases hf:(List.range l.length).find? (Wf d l)with
  |some i=>
   grind
  |none=>
   rw[hf]at h;have b:∀i,i<l.length->Wf d l i=false:=λi a=>by have:=Qi0.1 hf i (Qf2.2 a);simpa using this
   have h:(Js l).2=0:=h;unfold Js at h
   cases hg:(List.range l.length).find? λi=> !VV l (gl l i)with
   |some i=>rw[hg]at h;exact absurd h (by show ¬(17:Int)=0;omega)
   |none=>
    have c:∀i,i<l.length->VV l (gl l i)=true:=λi a=>by have:=Qi0.1 hg i (Qf2.2 a);simpa using this
    refine⟨by omega,λi a=>?_,λi e a=>?_,λi a=>?_,c⟩
    .have:=b i a
     unfold Wf at this
     grind
    .have:=b i a
     unfold Wf VC at this
     grind
    .have:=b i a
     unfold Wf VC at this
     grind
 .intro h
  have:=Q3m h
  unfold Jr at this;rw[this]
end
end Go.Ab
end
section
namespace Go.Ab
set_option maxRecDepth 20000
noncomputable section
theorem zn{F:Nat}(hF:Q6<=F){a:Re_}(hv:J1 a.t_):Uo F a=some (area a.t_):=by
 unfold Uo;refine Q4 (Wz hF a) ?_
 rw[Wi hv];exact Z4 rfl (Q4 (cL hF (by have:=hv.1;omega) hv.2.1) rfl)
end
end Go.Ab
end
section
namespace Go.Ab
set_option maxRecDepth 20000
noncomputable section
end
end Go.Ab
end
section
end
section
namespace Go.Ab
set_option maxRecDepth 20000
noncomputable section
theorem Z0l{F:Nat}(hF:1<=F){n:Int}(h0:0<=n)(h1:n<=9):∃s,XX F n=some s/\s.size<=10:=by
 cases F with
 |zero=>omega
 |succ F=>
  refine⟨ZW (IntKind.wrap .u8 (48+n)),?_,by unfold ZW;simp⟩;show Ti F (XX F) n=_
  unfold Ti;exact Z4 (Qa5 (by omega)) (Y9 (Qa6 (by omega)) (Q9 (V9 (by omega) (by omega)) rfl))
theorem Tr{k:Int}(h0:0<=k)(h1:k<=10):1<=(1:Int)*2 ^ (min k.toNat (IntKind.bits .i64))/\(1:Int)*2 ^ (min k.toNat (IntKind.bits .i64))<=1024:=by
 have a:k=0\/k=1\/k=2\/k=3\/k=4\/k=5\/k=6\/k=7\/k=8\/k=9\/k=10:=by omega
 rcases a with rfl|rfl|rfl|rfl|rfl|rfl|rfl|rfl|rfl|rfl|rfl<;>decide
theorem gq{d:Nat}{a b c:Int}(h1:Q8 a)(h2:Q8 b):TD (d+1) ⟨a,b,c,[]⟩:=⟨h1,h2,by simp,λk e=>(Qe7 e).elim⟩
theorem TL:∀(n:Nat) {F:Nat} (_:n+1<=F) {t:Tape} (_:TOk t) (_:n<=5),∃t' x,Vr F t (n:Int)=some (t',x)/\TOk t' /\ TD (n+1) x
 |n,0,hF,_,_,_=>by omega
 |n,F+1,hF,t,ht,hn=>by
  show ∃t' x,TM F (Vr F) t (n:Int)=some (t',x)/\_;unfold TM
  have k2:∀(u:Tape×Int) (a b:Int) (v:Tape),TOk v->Q8 u.2->Q8 a->Ok (Ux F (Vr F) u a b v.l_ v.at_) λz=>TOk z.1/\TD (n+1) z.2:=λu a b v A I J=>by
   unfold Ux;exact Ur ⟨A,gq I J⟩
  have g:∀(v:Tape),TOk v->Ok ((YF F v (1:Int) (8:Int)).bind λz=>br (z.2==(2:Int)) (Gv F (Vr F) z (z.2==(2:Int))) (Gv F (Vr F) z (z.2==(3:Int)))) λz=>TOk z.1/\TD (n+1) z.2:=λv A=>by
   obtain⟨w,o,D,f,M,N⟩:=WE (F:=F) A (lo:=1) (hi:=8) (by omega) (by omega) (by omega);have i:Q8 o:=V9 (by omega) (by omega)
   have k1:∀b,Ok (Gv F (Vr F) (w,o) b) λz=>TOk z.1/\TD (n+1) z.2:=λb=>by
    unfold Gv;refine QE (λ_=>?_) (λ_=>QE (λ_=>?_) (λ_=>QE (λ_=>?_) (λ_=>QE (λ_=>?_) (λ_=>QE (λ_=>?_) (λ_=>QE (λ_=>?_) (λ_=>?_))))))
    .obtain ⟨e,k,d,c,j,q⟩:=QK (F:=F) f (n:=4) (by omega) (by omega)
     exact Qm d (k2 _ _ _ e c i (V9 (by omega) (by omega)))
    .obtain ⟨e,k,d,c,j,q⟩:=QK (F:=F) f (n:=5) (by omega) (by omega)
     have:=Tr j (by omega)
     exact Qm d (G4 ⟨V9 (by simp only;omega) (by simp only;omega),j⟩ (k2 _ _ _ e c i (V9 (by simp only;omega) (by simp only;omega))))
    .obtain ⟨e,k,d,c,j,q⟩:=QK (F:=F) f (n:=16) (by omega) (by omega)
     exact Qm d (k2 _ _ _ e c i (V9 (by omega) (by omega)))
    .obtain ⟨e,k,d,c,j,q⟩:=WE (F:=F) f (lo:=2) (hi:=3) (by omega) (by omega) (by omega)
     exact Qm d (k2 _ _ _ e c i (V9 (by omega) (by omega)))
    .obtain ⟨e,k,d,c,j,q⟩:=WE (F:=F) f (lo:=1) (hi:=2) (by omega) (by omega) (by omega)
     obtain⟨B,m,l,p,E,P⟩:=QK (F:=F) c (n:=5) (by omega) (by omega);have:=Tr E (by omega)
     exact Qm d (Qm l (G4 ⟨V9 (by simp only;omega) (by simp only;omega),E⟩ (k2 _ _ _ B p i (V9 (by simp only;omega) (by simp only;omega)))))
    .obtain ⟨e,k,d,c,j,q⟩:=WE (F:=F) f (lo:=1) (hi:=3) (by omega) (by omega) (by omega)
     exact Qm d (k2 _ _ _ e c i (V9 (by omega) (by omega)))
    .exact k2 _ _ _ w f i (V9 (by omega) (by omega))
   exact Qm D (QE (λ_=>k1 _) (λ_=>k1 _))
  have s:Ok (br (decide ((0:Int)<(n:Int))) ((Gz F t (2:Int)).bind λz=>Gw F (Vr F) (n:Int) z.2 z.1.l_ z.1.at_) (Gw F (Vr F) (n:Int) false t.l_ t.at_)) λz=>TOk z.1/\TD (n+1) z.2:=by
   refine QE (λh=>?_) (λ_=>?_)
   .have h:=Qa8 h
    obtain⟨m,rfl⟩:∃m,n=m+1:=⟨n-1,by omega⟩;obtain⟨w,b,D,f⟩:=yC (F:=F) ht (n:=2) (by omega) (by omega)
    refine Qm D ?_;unfold Gw
    refine QE (λ_=>?_) (λ_=>g w f);obtain⟨e,k,d,c,_,_⟩:=QK (F:=F) f (n:=3) (by omega) (by omega)
    refine Qm d ?_;have H:((m+1:Nat):Int)-1=(m:Int):=by omega
    refine QE (λ_=>G4 (V9 (by omega) (by omega)) ?_) (λ_=>QE (λ_=>G4 (V9 (by omega) (by omega)) ?_) (λ_=>G4 (V9 (by omega) (by omega)) ?_))
    .rw [H]
     obtain⟨B,x,l,p,d3⟩:=TL m (by omega:m+1<=F) c (by omega);exact Qm l (G4 d3.op (Ur ⟨p,V9 (by simp only;omega) (by simp only;omega),V9 (by simp only;omega) (by simp only;omega),by simp,λk C=>by rw[Qb0.1 C];exact d3⟩))
    all_goals
     rw[H];obtain⟨B,x,l,p,d3⟩:=TL m (by omega:m+1<=F) c (by omega)
     obtain⟨Q,y,L,K,G⟩:=TL m (by omega:m+1<=F) p (by omega);refine Qm l (G4 (V9 (by omega) (by omega)) (Qm L (G4 d3.op (G4 G.op (Ur ⟨K,V9 (by simp only;omega) (by simp only;omega),V9 (by simp only;omega) (by simp only;omega),by simp,λk C=>?_⟩)))))
     rcases Qf0.1 C with h|h
     .rw [h];exact d3
     .rw [Qb0.1 h];exact G
   .unfold Gw
    exact QE (λh=>by cases h) (λ_=>g t ht)
  obtain⟨r,O,I,J⟩:=s
  grind
structure ST (s:Scheme):Prop where
 sd:SD 3 s
 num:0<=s.N_/\s.N_<=3
theorem ST.excl{s:Scheme}(h:ST s)(e:Int):ST {s with excludes_:=e}:=⟨⟨h.sd.cond,h.sd.name,h.sd.brl⟩,h.num⟩
theorem gD{l:List Scheme}(h:∀s∈l,ST s){i:Nat}{x:Scheme}(hx:ST x):∀s∈l.set i x,ST s:=λs a=>by
 grind
structure LT (L:List Scheme):Prop where
 st:∀s∈L,ST s
 len:L.length<=3
theorem Z2b{F:Nat}(hF:Q6+3<=F){t:Tape}(ht:TOk t){most:Int}(m0:0<=most)(m1:most<=3):∃t' L,TZ F t most=some (t',L)/\TOk t' /\ LT L/\(L=[]\/GoodL 3 L):=by
 have hB:Q6<=F:=by omega
 have a1:=hB;unfold Q6 at a1
 unfold TZ;obtain⟨t1,n,e1,o1,J,n1⟩:=QK (F:=F) ht (n:=2) (by omega) (by omega)
 obtain⟨t2,k,e2,o2,k0,k1⟩:=QK (F:=F) o1 (n:=most+1) (by omega) (by omega)
 suffices h:Ok (Y3 (λe (z:Int×Int×(List Int)×Int×(List Scheme))=>TY F e z.1 z.2.1 z.2.2.1 z.2.2.2.1 z.2.2.2.2) F (n,k,t2.l_,t2.at_,([]:List Scheme))) λz=>TOk z.1/\LT z.2/\(z.2=[]\/GoodL 3 z.2) by
  obtain⟨r,hr,h1,R,Q⟩:=h;exact⟨r.1,r.2,Q4 e1 (Q9 (V9 (by omega) (by omega)) (Q4 e2 hr)),h1,R,Q⟩
 have U:∀(L:List Scheme) (v:Tape),TOk v->LT L->Ok (TX F L v.l_ v.at_) λz=>TOk z.1/\LT z.2/\(z.2=[]\/GoodL 3 z.2):=λL v f C=>by
  unfold TX;refine Qm (Q9F (d:=3) (by omega) hF λs I=>(C.st s I).sd) (QE (λ_=>?_) (λh=>?_))
  .exact Ur ⟨f,⟨λs I=>(Qe7 I).elim,by simp⟩,.inl rfl⟩
  .exact Ur ⟨f,C,.inr (Z5e.1 (by simpa using h))⟩
 have k5:∀(L:List Scheme) (v:Tape),TOk v->LT L->Ok (TW F v.l_ v.at_ L) λz=>TOk z.1/\LT z.2/\(z.2=[]\/GoodL 3 z.2):=λL v f C=>by
  have a8:=C.len;unfold TW
  refine VS (λz:Int×(List Int)×Int×(List Scheme)=>0<=z.1/\z.1<=L.length/\TOk ⟨z.2.1,z.2.2.1⟩/\LT z.2.2.2/\z.2.2.2.length=L.length) (λz=>L.length-z.1.toNat) (λe z G ih=>?_) ⟨by simp,by simp,f,C,rfl⟩ (by simp;omega);obtain⟨i,a,b,M⟩:=z
  obtain⟨i0,i1,f,o,p⟩:=G;simp only at i0 i1 f o p
  show Ok (yH F L e i a b M) _;unfold yH
  refine QE (λh=>?_) (λ_=>U M ⟨a,b⟩ f o);have h:=Qa8 h
  refine G4 (by omega) ?_;refine VS (λz:Int×(List Int)×Int×(List Scheme)=>0<=z.1/\z.1<=i/\TOk ⟨z.2.1,z.2.2.1⟩/\LT z.2.2.2/\z.2.2.2.length=L.length) (λz=>i.toNat-z.1.toNat) (λK z G H=>?_) ⟨by simp,by simpa using i0,f,o,p⟩ (by simp;omega)
  obtain⟨j,a,b,M⟩:=z;obtain⟨j0,j1,f,o,p⟩:=G
  simp only at j0 j1 f o p;show Ok (yG F i e K j a b M) _
  unfold yG;refine QE (λR=>?_) (λ_=>?_)
  .have R:=Qa8 R
   obtain⟨O,c,Y,P⟩:=yC (F:=F) f (n:=3) (by omega) (by omega);have k8:∀(N:List Scheme) (v:Tape),TOk v->LT N->N.length=L.length->Ok (DY F j K v.l_ v.at_ N) λz=>TOk z.1/\LT z.2/\(z.2=[]\/GoodL 3 z.2):=λN v f T p=>by
    unfold DY;exact G4 (V9 (by omega) (by omega)) (H _ ⟨by simp only;omega,by simp only;omega,f,T,p⟩ (by simp only;omega))
   refine Qm Y (QE (λ_=>?_) (λ_=>k8 M O P o p));have V:=o.st _ (K3 (l:=M) (i:=j.toNat) (by omega))
   have hi:=o.st _ (K3 (l:=M) (i:=i.toNat) (by omega));have p1:=Tr V.num.1 (by have:=V.num.2;omega)
   refine G4 (by omega) (G4 (by omega) (G4 ⟨V9 (by omega) (by omega),V.num.1⟩ (G4 (by omega) ?_)));have A:∀s∈M.set i.toNat ⟨(gl M i.toNat).N_,(gl M i.toNat).n_,(gl M i.toNat).cond_,(gl M i.toNat).brackets_,(gl M i.toNat).least_,G5 .i64 (gl M i.toNat).excludes_ ((1:Int)*2 ^ (min (gl M j.toNat).N_.toNat (IntKind.bits .i64))),(gl M i.toNat).needs_⟩,ST s:=gD o.st (hi.excl _)
   generalize T:M.set i.toNat _=N at A⊢;have f4:N.length=M.length:=by rw[<-T];simp
   have D:=A _ (K3 (l:=N) (i:=i.toNat) (by omega));have S:=A _ (K3 (l:=N) (i:=j.toNat) (by omega))
   have p2:=Tr D.num.1 (by have:=D.num.2;omega);refine G4 (by omega) (G4 (by omega) (G4 ⟨V9 (by omega) (by omega),D.num.1⟩ (G4 (by omega) ?_)))
   exact k8 _ O P ⟨gD A (S.excl _),by simp;omega⟩ (by simp;omega)
  .unfold yD
   exact G4 (V9 (by omega) (by omega)) (ih _ ⟨by simp only;omega,by simp only;omega,f,o,p⟩ (by simp only;omega))
 refine VS (λz:Int×Int×(List Int)×Int×(List Scheme)=>0<=z.1/\z.1<=5/\0<=z.2.1/\TOk ⟨z.2.2.1,z.2.2.2.1⟩/\(∀s∈z.2.2.2.2,ST s)/\(z.2.2.2.2.length:Int)+z.2.1<=3) (λz=>z.2.1.toNat) (λe z G ih=>?_) ⟨by simpa using J,by simp only;omega,by simpa using k0,o2,λs I=>(Qe7 I).elim,by simp;omega⟩ (by simp only;omega);obtain⟨n,k,a,b,L⟩:=z
 obtain⟨J,n1,k0,f,C,p⟩:=G;simp only at J n1 k0 f C p
 show Ok (TY F e n k a b L) _;unfold TY
 have X:LT L:=⟨C,by omega⟩;have kf:Ok (Pm F n k a b L e false) λz=>TOk z.1/\LT z.2/\(z.2=[]\/GoodL 3 z.2):=by
  unfold Pm;exact QE (λh=>by cases h) (λ_=>k5 L ⟨a,b⟩ f X)
 refine QE (λh=>?_) (λ_=>kf);have h:=Qa8 h
 by_cases Q:n<=3
 rotate_left
 .grind
 rw[Qa6 Q];unfold Pm
 refine QE (λ_=>?_) (λh=>by cases h);obtain⟨s,es,I⟩:=Z0l (F:=F) (by omega) J (by omega)
 obtain⟨O,x,Y,P,hx⟩:=TL 2 (by omega:3<=F) f (by omega);obtain⟨t4,y,e4,o4,y0,y1⟩:=QK (F:=F) P (n:=4) (by omega) (by omega)
 obtain⟨t5,c,e5,o5⟩:=yC (F:=F) o4 (n:=2) (by omega) (by omega);obtain⟨t6,m,e6,o6,m0,m1⟩:=WE (F:=F) o5 (lo:=1) (hi:=3) (by omega) (by omega) (by omega)
 have a4:ByteArray.size (ByteArray.mk #[115])=1:=rfl;refine Qm es (G4 (by rw[a4];unfold Z9;omega) (Qm Y (Qm e4 (Qm e5 (Qm e6 ?_)))))
 refine VS (λz:Int×Int×(List Int)×Int×(List Bracket)=>0<=z.1/\z.1+40*z.2.1<=120/\0<=z.2.1/\TOk ⟨z.2.2.1,z.2.2.2.1⟩/\(z.2.2.2.2.length:Int)+z.2.1<=3) (λz=>z.2.1.toNat) (λK z G H=>?_) ⟨by simp,by simp only;omega,by simp only;omega,o6,by simp;omega⟩ (by simp only;omega);obtain⟨u,q,a2,b2,B⟩:=z
 obtain⟨u0,u1,q0,E,a3⟩:=G;simp only at u0 u1 q0 E a3
 show Ok (yI F n k L s (O,x) (t4,y) (t5,c) e K u q a2 b2 B) _;unfold yI
 refine QE (λh4=>?_) (λ_=>?_)
 .have h4:=Qa8 h4
  obtain⟨t7,w,e7,o7,w0,w1⟩:=WE (F:=F) E (lo:=1) (hi:=40) (by omega) (by omega) (by omega);obtain⟨t8,g,e8,o8,g0,g1⟩:=QK (F:=F) o7 (n:=3000) (by omega) (by omega)
  exact Qm e7 (G4 (V9 (by simp only;omega) (by simp only;omega)) (Qm e8 (G4 (by simp only[Qb1,Qc2];unfold Z9;omega) (G4 (V9 (by omega) (by omega)) (H _ ⟨by simp only;omega,by simp only;omega,by simp only;omega,o8,by simp;omega⟩ (by simp only;omega))))))
 .unfold yF
  obtain⟨t9,w,e9,o9,w0,w1⟩:=WE (F:=F) E (lo:=1) (hi:=2) (by omega) (by omega) (by omega);refine G4 (by simp only[Qb1,Qc2];unfold Z9;omega) (Qm e9 (G4 (V9 (by simp only;omega) (by simp only;omega)) ?_))
  unfold yE;refine G4 (V9 (by omega) (by omega)) (ih _ ⟨by simp only;omega,by simp only;omega,by simp only;omega,o9,λs' Z=>?_,by simp;omega⟩ (by simp only;omega))
  rcases Qa9.1 Z with W|W
  .exact C s' W
  .rw [Qb0.1 W]
   refine⟨⟨hx,?_,by simp only;omega⟩,J,Q⟩
   grind
end
end Go.Ab
end
section
namespace Go.Ab
set_option maxRecDepth 20000
noncomputable section
structure WT (w:World):Prop where
 yr:0<=w.year_/\w.year_<=4
 crops:CropT w.crops_
 his:HisT (w.crops_.length:Nat) w.history_
 hlen:w.history_.length<=5
 zon:LayT w.zones_
 zlen:w.zones_.length<=3
 day:0<=w.day_/\w.day_<=24
 most:0<=w.most_/\w.most_<=300
theorem HisT.few5{K:Int}{H:List Rg_}(h:HisT K H)(hl:H.length<=5):FewR H:=⟨h.hl,λy p i a=>by
 have:=Q4Q h y p i (by omega)
 omega⟩
theorem QT.up{n m:Int}{l:List Rect}(h:QT n l)(hm:n<=m):QT m l:=λr a=>by
 have:=h r a
 omega
theorem WT.lb{w:World}(h:WT w):LB 9 w.zones_:=h.zon.lb
theorem WT.ev{w:World}(h:WT w){A:List Rect}(hA:TR A){c:Int}(hc:0<=c/\c<(w.crops_.length:Nat)):EV w.year_ w.crops_ w.history_ w.zones_ c A:=by
 have b:=h.crops.one c.toNat (by omega);exact⟨hA,hc,b.2.1,⟨b.2.2.2.1,b.2.2.2.2⟩,h.his.few5 h.hlen,λf a=>(h.his.box f a).up (by omega),λf a=>⟨((Gl f).1 (h.his.hl.one f a)).2.2.1,h.his.crop f a⟩,by have:=h.yr;omega,⟨h.zon.vl,λf a=>(h.lb.box f a).up (by omega),by omega⟩⟩
theorem WT.chk{w:World}(h:WT w){A:List Rect}(hA:TR A){c:Int}(hc:0<=c/\c<(w.crops_.length:Nat)){e:Nat}{t:Term}(ht:YL e t=0):Va e t w.crops_ c w.history_ w.year_ w.zones_ w.day_ A=0:=by
 have g:=h.yr;have i:=h.day
 have b:∀k:Int,0<=k->k<(w.crops_.length:Nat)->Vf w.crops_ k=false:=λk f j=>by
  unfold Vf;rw[Qa5 (by omega),Qa5 (by omega)];rfl
 have a:(w.history_.any λr=>Vf w.crops_ r.c_)=false:=by
  rw[Qf6];intro r d
  rw[b _ ((Gl r).1 (h.his.hl.one r d)).2.2.1 (h.his.crop r d)];exact Bool.noConfusion
 unfold Va;rw[Qa1 (by rw[ht];simp),Qa1 (by rw[h.crops.crC];simp),Qa1 (by rw[b c hc.1 hc.2,a];simp),Qa1 (by rw[(Fv _).2 h.his.hl];simp),Qa1 (by omega),Qa1 (by rw[(HK _).2 h.zon.vl];simp),Qa1 (by omega),Qa2 ((Wj _).2 hA.val)]
def Ji(w:World)(x:Line)(parcel:Re_)(s:Scheme):TS:=
 if ZR x.s_ s.N_=false then Ud x.g_.t_ false
 else Uv x.g_.t_ (QC w.year_ w.crops_ w.history_ w.zones_ w.day_ x.c_ x.g_.t_ 3 s.cond_) (Jq w.zones_ w.day_ w.most_ parcel.t_)
theorem DR(w:World)(x:Line)(parcel:Re_)(s:Scheme):TIn x.g_.t_ (Ji w x parcel s):=by
 unfold Ji;split
 .exact PT _ _
 .exact Q0U (GH _ _) (vE _ _ _ _)
theorem Z5J{A:List Rect}(h:J1 A):(Ud A false).t3 A=⟨⟨[]⟩,⟨A⟩,⟨[]⟩⟩:=by
 unfold TS.t3;rw[Q3W,Kr]
 show Truth.mk ⟨cn λ_ _=>false⟩ ⟨cn (Q2 A)⟩ ⟨[]⟩=_;rw[Kr,GT h]
theorem Z1H{F n:Nat}(hF:Q6+3<=F){w:World}{x:Line}(hE:EV w.year_ w.crops_ w.history_ w.zones_ x.c_ x.g_.t_){s:Scheme}(hk:Va 3 s.cond_ w.crops_ x.c_ w.history_ w.year_ w.zones_ w.day_ x.g_.t_=0)(hl:w.history_.length<=1000000)(hn:Bb w.crops_)(hL:LB n w.zones_)(d1:0<=w.day_)(d2:w.day_<=36864)(m1:0<=w.most_)(m2:w.most_<=268435456)(hs:SD 3 s)(h1:Zc 3 s=0){parcel:Re_}(hp:TR parcel.t_)(hsub:∀ u v,Q2 x.g_.t_ u v=true->Q2 parcel.t_ u v=true):
  GL F x parcel s w=some ((Ji w x parcel s).t3 x.g_.t_,0):=by
 have c:Q6<=F:=by omega
 have b:=hE.tr;have d:=Q4L c hL d1 d2 hp m1 m2
 rw[Z4g (e:=3) (by omega) hF hs hl hn (λ_=>hE) d λ_=>Q2w hp _ _];have hE:(UC 3 s.cond_ x w.year_ w.crops_ w.history_ w.zones_ w.day_).2=0:=by
  unfold UC;rw[Qa1 (by rw[hk];simp)]
 have a:Xk x.g_ parcel=true:=(Q4V b.val hp.val).2 hsub;unfold yt
 rw[Qa1 (by rw[(Wj _).2 hp.val];simp),Qa1 (by rw[hE];simp),Qa1 (by rw[h1];simp),Qa1 (by simp),Qa1 (by rw[a];simp)];unfold Ji
 by_cases q:ZR x.s_ s.N_=false
 .rw [Qa2 q,Qa2 q,Z5J b.val]
 .rw [Qa1 q,Qa1 q]
  show some ((Uv _ _ (Q2 (cn (Jq w.zones_ w.day_ w.most_ parcel.t_)))).t3 _,(0:Int))=_;rw[ZO (vE _ _ _ _)]
theorem Z1G{F:Nat}(hF:Q6+3<=F){w:World}(hw:WT w){x:Line}(hA:TR x.g_.t_)(hc:0<=x.c_/\x.c_<(w.crops_.length:Nat)){s:Scheme}(hs:SD 3 s)(h1:Zc 3 s=0){parcel:Re_}(hp:TR parcel.t_)(hsub:∀ u v,Q2 x.g_.t_ u v=true->Q2 parcel.t_ u v=true):
  GL F x parcel s w=some ((Ji w x parcel s).t3 x.g_.t_,0):=by
 have a:=hw.day;have b:=hw.most
 have c:=hw.hlen;exact Z1H hF (hw.ev hA hc) (hw.chk hA hc (DP h1).2.2.2.2.2.1) (by omega) hw.crops.nm hw.lb a.1 (by omega) b.1 (by omega) hs h1 hp hsub
end
end Go.Ab
end
section
namespace Go.Ab
set_option maxRecDepth 20000
noncomputable section
theorem Z2q{F:Nat}{a n:Int}(h0:0<=a)(h1:a<n):GC F a n=some a:=by
 unfold GC;rw[Int.tmod_eq_of_lt h0 h1]
 exact Z4 (Qa5 (by omega)) (Q9 (by omega) (Z4 (Qa5 (by omega)) rfl))
structure PrT (rs:List Re_) (l:List Line) (ps:List Re_):Prop where
 len:ps.length=l.length
 at_:∀i,i<l.length->gl ps i=gl rs ((gl l i).p_-1).toNat
theorem Z1S{F:Nat}(hF:Q6<=F){t:Tape}(ht:TOk t){cs:List Crop}(hcs:CropT cs):∃t' w,TJ F t cs=some (t',w)/\TOk t' /\ WT w/\w.crops_=cs/\w.most_<=4:=by
 obtain⟨z,y,x,j,l,s⟩:=QK (F:=F) ht (n:=5) (by omega) (by omega);obtain⟨r,H,A,e,h,D⟩:=Z2i hF j hcs (most:=5) (by omega) (by omega)
 obtain⟨o,Z,q,c,g,b⟩:=Z1Z hF e (most:=3) (by omega) (by omega);obtain⟨B,d,C,i,d1,p⟩:=QK (F:=F) c (n:=25) (by omega) (by omega)
 obtain⟨a,m,v,f,u,k⟩:=QK (F:=F) i (n:=5) (by omega) (by omega);refine⟨a,⟨y,cs,H,Z,d,m⟩,?_,f,⟨by simp only;omega,hcs,h,by simp only;omega,g,by simp only;omega,by simp only;omega,by simp only;omega⟩,rfl,by simp only;omega⟩
 unfold TJ
 grind
def Q5M:Term:=⟨1,0,0,[]⟩
theorem Q5J(d:Nat):TD (d+1) Q5M:=gq (V9 (by omega) (by omega)) (V9 (by omega) (by omega))
theorem Z3R:ZR 1 0=true/\ZR 0 0=false:=by decide +kernel
end
end Go.Ab
end
