/- Abstract states over the model. -/
import Derived.Test.YtjafnaffdfaokaaGreatDoorAbD
import Derived.Test.YtjafnaffdfaokaaGreatDoorLwA
import Derived.Test.YtjafnaffdfaokaaGreatDoorLwC
import Derived.Test.YtjafnaffdfaokaaGreatDoorLwB
set_option linter.unusedVariables false
set_option linter.unusedSimpArgs false
section
namespace Go.Ab
set_option maxRecDepth 20000
noncomputable section
theorem Z2t{L:List A2_}{d m:Int}{a:List Rect}{x y:Int}(h:UN L d m a x y=true):Q4 a x y=true:=by
 unfold UN at h;rw [Bool.and_eq_true] at h
 exact h.1
theorem Q0Z{L:List A2_}{a:List Rect}(ha:TR a)(d m:Int):J2 (cn (UN L d m a)):=ha.sub (yn L d m a) fun _ _ h=>Z2t h
theorem Q2V{F n:Nat}{L:List A2_}{d:Int}(hF:Q7<=F)(hL:LB n L)(d1:0<=d)(d2:d<=36864){a:Re_}(ht:TR a.t_){m:Int}(m1:0<=m)(m2:m<=268435456):Pp F a L d m=some (⟨cn (UN L d m a.t_)⟩,0):=by
 have b:=ht.val;have g:=hL.rval d (zp 0)
 have f:=xV hL d m a.t_;have j:=g.1.1
 have i:=f.1.1;have l:=b.1
 unfold Pp;refine Q3 (CN hF hL.vl d1 d2 b m1 m2) ?_
 refine Z5 rfl ?_;refine Q3 (Q2U hF hL d1 d2) ?_
 refine Z5 rfl ?_;refine Q3 (Q2R hF hL d1 d2 b m1 m2) ?_
 refine Z5 rfl ?_;refine Q3 (kL hF (by simp only;omega) (by simp only;omega)) ?_
 refine Q3 (KB hF (by simp only [List.length_append];omega) (fun r c=>(b.2.2.pos c).1) (fun r c=>?_) (k:=fun u v=>u && !v) rfl (fun u v=>by cases u <;> cases v <;> rfl)) ?_
 .rcases List.mem_append.1 c with h|h
  .exact (g.1.2.2.pos h).1
  .exact (f.1.2.2.pos h).1
 have e:(cn fun x y=>Q4 a.t_ x y && !Q4 (cn (Q4 (Zf L d (zp 0)))++cn (Q4 (VA L d m a.t_))) x y)=cn (UN L d m a.t_):=by
  congr 1
  funext x y
  unfold UN;rw [Tj,ZM (QZ _),ZM (QZ _)]
 show (Jq F (cn fun x y=>Q4 a.t_ x y && !Q4 (cn (Q4 (Zf L d (zp 0)))++cn (Q4 (VA L d m a.t_))) x y)).bind _=_;rw [e]
 have:=(Q0Z (L:=L) ht d m).1
 refine Q3 (Br F _) ?_;rw [if_neg (by omega)]
end
end Go.Ab
end
section
namespace Go.Ab
set_option maxRecDepth 20000
noncomputable section
theorem GX{R:Type}{body:(Int->Option R)->Int->Option R}{c:Nat->Option R}{y:Option R}(N:Nat)(p:Nat->Bool)(bad:∀ again (i:Nat),i<N->(∀ j,j<i->p j=false)->p i=true->body again (i:Int)=c i)(good:∀ again (i:Nat) z,i<N->(∀ j,j<i->p j=false)->p i=false->again ((i:Int)+1)=z->body again (i:Int)=z)(stop:(∀ j,j<N->p j=false)->∀ again,body again (N:Int)=y){F:Nat}(hF:N<F):Z9 body F 0=match (List.range N).find? p with|some i=>c i|none=>y:=by
 refine K9 (fun z:Int=>∃ i:Nat,z=i/\i<=N/\∀ j,j<i->p j=false) (fun z=>N-z.toNat) (fun again z e f=>?_) ⟨0,rfl,Nat.zero_le _,fun j h=>absurd h (Nat.not_lt_zero j)⟩ (by simp;omega);obtain ⟨i,rfl,g,a⟩:=e
 rcases Nat.lt_or_ge i N with h|h
 .cases hpi:p i with
  | true=>
   rw [List.find?_range_eq_some.2 ⟨hpi,List.mem_range.2 h,fun j b=>by simp [a j b]⟩];exact bad again i h a hpi
  | false=>
   refine good again i _ h a hpi (f _ ⟨i+1,by omega,h,fun j b=>?_⟩ (by omega))
   by_cases hji:j=i
   .rw [hji];exact hpi
   .exact a j (by omega)
 .have:i=N:=by omega
  subst this;rw [List.find?_eq_none.2 fun x d=>by rw [a x (List.mem_range.1 d)];simp]
  exact stop a again
theorem Tk{α:Type}[Emb α](p:α->Bool)(l:List α):QB p l<(l.length:Int) /\ -1<=QB p l/\(0<=QB p l->p (gl l (QB p l).toNat)=true/\l.any p=true):=by
 unfold QB;split
 .rename_i h
  have a:l.findIdx p<l.length:=List.findIdx_lt_length_of_exists (by simpa using h);refine ⟨by omega,by omega,fun _=>⟨?_,h⟩⟩
  rw [Int.toNat_natCast,G8 a];exact List.findIdx_getElem (w:=a)
 .exact ⟨by omega,by omega,fun h=>by omega⟩
def Vm(n:Int)(x:Scheme):Bool:=x.N_==n
theorem gv{F:Nat}(hF:Q7<=F){l:List Scheme}(hl:l.length<=1000000)(n:Int):MO F l n=some (QB (Vm n) l):=by
 unfold MO;exact Q3 (kp hF (Vm n) (by omega) fun r _=>rfl) rfl
theorem jf{F:Nat}(hF:Q7<=F){l:List Scheme}(hl:l.length<=1000000)(n:Int):RD F l n=some (QB (Vm n) l):=by
 have hB:=hF;unfold Q7 at hB
 unfold RD;refine (GX (c:=fun i=>some (i:Int)) (y:=some (-1)) l.length (fun i=>Vm n (gl l i)) (fun a i o _ e=>?_) (fun a i z o _ e g=>?_) (fun _ a=>?_) (by omega)).trans ?_
 .show KF F l n a (i:Int)=_
  unfold KF;exact Y7 (decide_eq_true (by omega)) (Q8 (by omega) (Y7 e rfl))
 .show KF F l n a (i:Int)=_
  unfold KF;exact Y7 (decide_eq_true (by omega)) (Q8 (by omega) (Z5 e (Q8 (V9 (by omega) (by omega)) g)))
 .show KF F l n a (l.length:Int)=_
  unfold KF;exact Z5 (decide_eq_false (by omega)) rfl
 .unfold QB
  cases hf:(List.range l.length).find? fun i=>Vm n (gl l i) with
  | none=>
   have h:=List.find?_eq_none.1 hf;rw [if_neg]
   rw [Bool.not_eq_true];exact JU fun j d=>by have:=h j (List.mem_range.2 d);simpa using this
  | some i=>
   obtain ⟨f,b,k⟩:=List.find?_range_eq_some.1 hf;have b:=List.mem_range.1 b
   have m:l.any (Vm n)=true:=List.any_eq_true.2 ⟨_,J7 b,f⟩;rw [if_pos m,Gf b (fun j d=>by have:=k j d;simpa using this) f]
def WH(l:List Scheme)(i:Nat):Bool:=(decide (0<i)&&decide ((gl l i).N_<=(gl l (i-1)).N_))||(l.take i).any fun x=>Zm x.n_ (gl l i).n_
def UF(l:List Scheme)(s:Scheme)(n:Nat):Bool:=ZG s.excludes_ n&&(decide (QB (Vm n) l<0) || !ZG (gl l (QB (Vm n) l).toNat).excludes_ s.N_)
def Vh(l:List Scheme)(s:Scheme):Bool:= !(List.range 16).any (UF l s)
def UP(l:List Scheme):Int×Int:=match (List.range l.length).find? fun i=> !Vh l (gl l i) with
 | some i=>(i,17)
 | none=>(-1,0)
def YS(d:Nat)(l:List Scheme)(i:Nat):Bool:=decide (QV d (gl l i)≠0)||WH l i
def UO(d:Nat)(l:List Scheme):Int×Int:=if 16<l.length then (0,1) else match (List.range l.length).find? (YS d l) with
 | some i=>(i,if QV d (gl l i)≠0 then QV d (gl l i) else 6)
 | none=>UP l
theorem Sw{d:Nat}{s:Scheme}(h:QV d s=0):0<=s.N_/\s.N_<=15/\0<=s.least_/\s.least_<=268435456/\QX s.n_=true/\YI d s.cond_=0/\Vr s.brackets_=true/\0<=s.excludes_/\s.excludes_<65536/\ZG s.excludes_ s.N_=false:=by
 unfold QV at h;split at h
 .omega
 split at h
 .omega
 split at h
 .rename_i a;exact absurd h a
 split at h
 .omega
 rename_i a f c b
 refine ⟨by omega,by omega,by omega,by omega,by simpa using f,by simpa using c,?_,by omega,by omega,?_⟩
 .cases e:Vr s.brackets_ with
  | true=>rfl
  | false=>exact absurd (.inl e) b
 .cases e:ZG s.excludes_ s.N_ with
  | false=>rfl
  | true=>exact absurd (.inr (.inr (.inr e))) b
theorem gt{F:Nat}(hF:Q7<=F){l:List Scheme}(hl:l.length<=1000000){s:Scheme}(hs:0<=s.N_):MK F l s=some (Vh l s):=by
 have hB:=hF;unfold Q7 at hB
 unfold MK;refine (Lq (c:=some false) (y:=some true) 16 (UF l s) (fun a i h b=>?_) (fun a i z h b e=>?_) (fun a=>?_) (by omega)).trans ?_
 .show Ks F l s a (i:Int)=_
  unfold Ks;unfold UF at b
  rw [Bool.and_eq_true] at b;obtain ⟨f,g⟩:=Tk (Vm (i:Nat)) l
  refine Y7 (decide_eq_true (by omega)) (Q8 (by omega) (Z5 (by rw [Vs,b.1];rfl) (Q3 (gv hF hl _) ?_)));refine Z6 (fun _=>rfl) (fun d=>Q8 (by have:=of_decide_eq_false d;omega) (Q8 hs ?_))
  rw [Vs];have:=b.2
  rw [d,Bool.false_or] at this;rw [this];rfl
 .show Ks F l s a (i:Int)=_
  unfold Ks;unfold UF at b
  obtain ⟨f,g⟩:=Tk (Vm (i:Nat)) l;have k2:MI F (i:Int) a=z:=Q8 (V9 (by omega) (by omega)) e
  refine Y7 (decide_eq_true (by omega)) (Q8 (by omega) ?_);rw [Vs]
  cases hb:ZG s.excludes_ i with
  | false=>exact Y7 rfl k2
  | true=>
   rw [hb,Bool.true_and,Bool.or_eq_false_iff] at b;refine Z5 rfl (Q3 (gv hF hl _) (Z5 b.1 (Q8 (by have:=of_decide_eq_false b.1;omega) (Q8 hs ?_))))
   rw [Vs,b.2];unfold MJ;exact Z5 rfl k2
 .show Ks F l s a (16:Int)=_
  unfold Ks;exact Z5 (by decide) rfl
 .unfold Vh
  cases (List.range 16).any (UF l s) <;> rfl
theorem Q6C{d F:Nat}(hd:d<=2000000)(hF:Q7+d<=F){l:List Scheme}(hl:∀ s ∈ l,SD d s):MQ F l=some (UO d l):=by
 have hB:Q7<=F:=by omega
 have o:=hB;unfold Q7 at o
 unfold MQ UO
 by_cases h16:16<l.length
 .rw [if_pos h16];exact Y7 (decide_eq_true (by omega)) rfl
 rw [if_neg h16];refine Z5 (decide_eq_false (by omega)) ?_
 refine (GX (c:=fun i=>some ((i:Int),if QV d (gl l i)≠0 then QV d (gl l i) else 6)) (y:=some (UP l)) l.length (YS d l) (fun a i g _ b=>?_) (fun a i z g _ b k=>?_) (fun b a=>?_) (by omega)).trans ?_
 .show Kx F l a (i:Int)=_
  unfold Kx;refine Y7 (decide_eq_true (by omega)) (Q8 (by omega) (Q3 (Bb hd hF (hl _ (J7 g))) ?_))
  by_cases e:QV d (gl l i)=0
  .rw [if_neg (by simpa using e)]
   refine Z5 (by simp [e]) ?_;unfold YS WH at b
   have k1:GW F (i:Int) a true=some ((i:Int),6):=rfl;rw [decide_eq_false (by simpa using e),Bool.false_or,Bool.or_eq_true] at b
   have h:Kk F (l.take ((i:Nat):Int).toNat) (fun p=>Bc F p (gl l ((i:Nat):Int).toNat))=some ((l.take i).any fun x=>Zm x.n_ (gl l i).n_):=kK hB _ (by simp;omega) fun r _=>rfl
   refine Z6 (fun f=>?_) (fun f=>?_)
   .have f:=of_decide_eq_true f
    rw [show ((i:Int)-1).toNat=i-1 by omega];refine Q8 (V9 (by omega) (by omega)) (Q8 (by omega) (Z6 (fun _=>k1) (fun n=>Q8 (by omega) (Q3 h ?_))))
    rcases b with b|b
    .rw [Bool.and_eq_true] at b;rw [show decide ((gl l i).N_<=(gl l (i-1)).N_)=false from n] at b;simp at b
    .rw [b];exact k1
   .refine Q8 (by omega) (Q3 h ?_)
    rcases b with b|b
    .rw [Bool.and_eq_true] at b;have:=of_decide_eq_false f;have:=of_decide_eq_true b.1;omega
    .rw [b];exact k1
  .rw [if_pos e];exact Y7 (by simpa using e) rfl
 .show Kx F l a (i:Int)=_
  unfold Kx;unfold YS WH at b
  rw [Bool.or_eq_false_iff,Bool.or_eq_false_iff] at b;obtain ⟨e,f,n⟩:=b
  have e:QV d (gl l i)=0:=by simpa using e
  have k1:GW F (i:Int) a false=z:=Z5 rfl (Q8 (V9 (by omega) (by omega)) k);have h:Kk F (l.take ((i:Nat):Int).toNat) (fun p=>Bc F p (gl l ((i:Nat):Int).toNat))=some false:=(kK hB (fun x=>Zm x.n_ (gl l i).n_) (by simp;omega) fun r _=>rfl).trans (congrArg some n)
  refine Y7 (decide_eq_true (by omega)) (Q8 (by omega) (Q3 (Bb hd hF (hl _ (J7 g))) (Z5 (by simp [e]) ?_)));refine Z6 (fun m=>?_) (fun m=>Q8 (by omega) (Q3 h k1))
  have m:=of_decide_eq_true m;rw [show ((i:Int)-1).toNat=i-1 by omega]
  refine Q8 (V9 (by omega) (by omega)) (Q8 (by omega) (Z5 ?_ (Q8 (by omega) (Q3 h k1))));rw [decide_eq_true (by omega:0<i),Bool.true_and] at f
  exact f
 .show Kx F l a (l.length:Int)=_
  unfold Kx Lm UP;refine Z5 (decide_eq_false (by omega)) ?_
  have k:∀ j,j<l.length->0<=(gl l j).N_:=fun j t=>by
   have:=b j t
   unfold YS at this;rw [Bool.or_eq_false_iff] at this
   exact (Sw (by simpa using this.1)).1
  refine (GX (c:=fun i=>some ((i:Int),17)) (y:=some (-1,0)) l.length (fun i=> !Vh l (gl l i)) (fun a i g _ b=>?_) (fun a i z g _ b q=>?_) (fun b a=>?_) (by omega)).trans ?_
  .show Kw F l a (i:Int)=_
   unfold Kw;exact Y7 (decide_eq_true (by omega)) (Q8 (by omega) (Q3 (gt hB (by omega) (k i g)) (Y7 b rfl)))
  .show Kw F l a (i:Int)=_
   unfold Kw;exact Y7 (decide_eq_true (by omega)) (Q8 (by omega) (Q3 (gt hB (by omega) (k i g)) (Z5 b (Q8 (V9 (by omega) (by omega)) q))))
  .show Kw F l a (l.length:Int)=_
   unfold Kw;exact Z5 (decide_eq_false (by omega)) rfl
  .cases (List.range l.length).find? fun i=> !Vh l (gl l i) <;> rfl
 .cases (List.range l.length).find? (YS d l) <;> rfl
theorem Q8d{d F:Nat}(hd:d<=2000000)(hF:Q7+d<=F){l:List Scheme}(hl:∀ s ∈ l,SD d s):RG F l=some (UO d l):=by
 have hB:Q7<=F:=by omega
 have E:=hB;unfold Q7 at E
 unfold RG UO
 by_cases h16:16<l.length
 .rw [if_pos h16];exact Y7 (decide_eq_true (by omega)) rfl
 rw [if_neg h16];refine Z5 (decide_eq_false (by omega)) ?_
 have M:∀ a b:ByteArray,Zm a b=Zm a b:=fun _ _=>rfl
 have t:∀ (f:Int->Option (Int×Int)) (i:Nat),i<l.length->∀ {y:Option (Int×Int)},(WH l i=false->f ((i:Int)+1)=y)->Z9 (fun m (z:Int)=>Jt F l (i:Int) f m z) F (0:Int)=if WH l i=true then some ((i:Int),6) else y:=by
  intro f i q y G;have e:WH l i=(List.range i).any fun k=>Zm (gl l k).n_ (gl l i).n_||(decide (k=i-1)&&decide ((gl l i).N_<=(gl l k).N_)):=by
   unfold WH;rw [Bool.eq_iff_iff,Bool.or_eq_true,Bool.and_eq_true,List.any_eq_true,List.any_eq_true]
   constructor
   .rintro (⟨p,D⟩|⟨x,hx,h⟩)
    .refine ⟨i-1,List.mem_range.2 (by have:=of_decide_eq_true p;omega),?_⟩
     rw [D];simp
    .obtain ⟨k,o,rfl⟩:=List.getElem_of_mem hx
     rw [List.length_take] at o;refine ⟨k,List.mem_range.2 (by omega),?_⟩
     rw [List.getElem_take, <-G8 (by omega)] at h;rw [h];rfl
   .rintro ⟨k,o,h⟩
    have o:=List.mem_range.1 o;rw [Bool.or_eq_true,Bool.and_eq_true] at h
    rcases h with h|⟨p,D⟩
    .exact .inr ⟨gl l k,List.mem_take_iff_getElem.2 ⟨k,by omega,(G8 (by omega)).symm⟩,h⟩
    .have p:=of_decide_eq_true p
     subst p;exact .inl ⟨decide_eq_true (by omega),D⟩
  have A:∀ k,k<i->gl (l.take i) k=gl l k:=fun k o=>by rw [G8 (by simp;omega),G8 (by omega),List.getElem_take]
  have J:((i:Nat):Int).toNat=i:=Int.toNat_natCast i;have r:(l.take ((i:Nat):Int).toNat).length=i:=by simp;omega
  refine (GX (c:=fun _=>some ((i:Int),(6:Int))) (y:=y) i (fun k=>Zm (gl l k).n_ (gl l i).n_||(decide (k=i-1)&&decide ((gl l i).N_<=(gl l k).N_))) (fun m k o _ g=>?_) (fun m k z o _ g w=>?_) (fun g m=>?_) (by omega)).trans ?_
  .show Jt F l (i:Int) f m (k:Int)=_
   unfold Jt;have k2:Xh F (i:Int) (k:Int) m true=some ((i:Int),6):=rfl
   refine Y7 (decide_eq_true (by rw [r];omega)) (Q8 (by rw [r];omega) ?_);simp only [Int.toNat_natCast,A k o]
   refine Z6 (fun _=>k2) (fun p=>Q8 (V9 (by omega) (by omega)) ?_);rw [p,Bool.false_or,Bool.and_eq_true] at g
   refine Y7 (by have:=of_decide_eq_true g.1;simp;omega) ?_;rw [g.2];exact k2
  .show Jt F l (i:Int) f m (k:Int)=_
   unfold Jt;have k2:Xh F (i:Int) (k:Int) m false=z:=Z5 rfl (Q8 (V9 (by omega) (by omega)) w)
   refine Y7 (decide_eq_true (by rw [r];omega)) (Q8 (by rw [r];omega) ?_);simp only [Int.toNat_natCast,A k o]
   rw [Bool.or_eq_false_iff] at g;refine Z5 g.1 (Q8 (V9 (by omega) (by omega)) (Z6 (fun p=>?_) (fun _=>k2)))
   have p:k=i-1:=by simp at p;omega
   have:=g.2
   rw [decide_eq_true p,Bool.true_and] at this;rw [this];exact k2
  .show Jt F l (i:Int) f m (i:Int)=_
   unfold Jt;refine Z5 (decide_eq_false (by rw [r];omega)) ?_
   have C:WH l i=false:=by rw [e,List.any_eq_false];intro k o;rw [g k (List.mem_range.1 o)];simp
   exact Q8 (V9 (by omega) (by omega)) (G C)
  .cases hf:(List.range i).find? fun k=>Zm (gl l k).n_ (gl l i).n_||(decide (k=i-1)&&decide ((gl l i).N_<=(gl l k).N_)) with
   | some k=>
    have C:WH l i=true:=by rw [e,List.any_eq_true];have h:=List.find?_range_eq_some.1 hf;exact ⟨k,h.2.1,h.1⟩
    rw [if_pos C]
   | none=>
    have C:WH l i=false:=by rw [e,List.any_eq_false];intro k o;exact List.find?_eq_none.1 hf k o
    rw [if_neg (by simp [C])]
 refine (GX (c:=fun i=>some ((i:Int),if QV d (gl l i)≠0 then QV d (gl l i) else 6)) (y:=some (UP l)) l.length (YS d l) (fun f i q _ g=>?_) (fun f i z q _ g w=>?_) (fun g f=>?_) (by omega)).trans ?_
 .show KH F l f (i:Int)=_
  unfold KH;refine Y7 (decide_eq_true (by omega)) (Q8 (by omega) (Q3 (je hd hF (hl _ (J7 q))) ?_))
  by_cases u:QV d (gl l i)=0
  .rw [if_neg (by simpa using u)]
   unfold YS at g;rw [decide_eq_false (by simpa using u),Bool.false_or] at g
   refine Z5 (by simp [u]) (Q8 (by omega) ((t f i q (y:=none) fun h=>by rw [g] at h;cases h).trans ?_));rw [if_pos g]
  .rw [if_pos u];exact Y7 (by simpa using u) rfl
 .show KH F l f (i:Int)=_
  unfold KH;unfold YS at g
  rw [Bool.or_eq_false_iff] at g;have u:QV d (gl l i)=0:=by simpa using g.1
  refine Y7 (decide_eq_true (by omega)) (Q8 (by omega) (Q3 (je hd hF (hl _ (J7 q))) (Z5 (by simp [u]) (Q8 (by omega) ((t f i q fun _=>w).trans ?_)))));rw [if_neg (by simp [g.2])]
 .show KH F l f (l.length:Int)=_
  unfold KH qh UP;refine Z5 (decide_eq_false (by omega)) ?_
  have w:∀ j,j<l.length->0<=(gl l j).N_:=fun j K=>by
   have:=g j K
   unfold YS at this;rw [Bool.or_eq_false_iff] at this
   exact (Sw (by simpa using this.1)).1
  have B:∀ (f:Int->Option (Int×Int)) (i:Nat),i<l.length->∀ {y:Option (Int×Int)},f ((i:Int)+1)=y->Z9 (fun m (z:Int)=>Js F l (i:Int) f m z) F (0:Int)=if (List.range 16).any (UF l (gl l i))=true then some ((i:Int),17) else y:=by
   intro f i q y G;refine Lq (c:=some ((i:Int),17)) (y:=y) 16 (UF l (gl l i)) (fun m n L g=>?_) (fun m n z L g v=>?_) (fun m=>?_) (by omega)
   .show Js F l (i:Int) f m (n:Int)=_
    unfold Js;unfold UF at g
    rw [Bool.and_eq_true] at g;obtain ⟨p,D⟩:=Tk (Vm (n:Nat)) l
    simp only [Int.toNat_natCast (n:=i)];refine Y7 (decide_eq_true (by omega)) (Q8 (by omega) (Z5 (by rw [Vs,g.1];rfl) (Q3 (jf hB (by omega) _) ?_)))
    refine Z6 (fun _=>rfl) (fun H=>Q8 (by have:=of_decide_eq_false H;omega) (Q8 (w i q) ?_));rw [Vs]
    have:=g.2
    rw [H,Bool.false_or] at this;rw [this];rfl
   .show Js F l (i:Int) f m (n:Int)=_
    unfold Js;unfold UF at g
    obtain ⟨p,D⟩:=Tk (Vm (n:Nat)) l;simp only [Int.toNat_natCast (n:=i)]
    have I:RE F (n:Int) m=z:=Q8 (V9 (by omega) (by omega)) v;refine Y7 (decide_eq_true (by omega)) (Q8 (by omega) ?_)
    rw [Vs]
    cases hb:ZG (gl l i).excludes_ n with
    | false=>exact Y7 rfl I
    | true=>
     rw [hb,Bool.true_and,Bool.or_eq_false_iff] at g;refine Z5 rfl (Q3 (jf hB (by omega) _) (Z5 g.1 (Q8 (by have:=of_decide_eq_false g.1;omega) (Q8 (w i q) ?_))))
     rw [Vs,g.2];unfold RF;exact Z5 rfl I
   .show Js F l (i:Int) f m (16:Int)=_
    unfold Js;exact Z5 (by decide) (Q8 (V9 (by omega) (by omega)) G)
  refine (GX (c:=fun i=>some ((i:Int),17)) (y:=some (-1,0)) l.length (fun i=> !Vh l (gl l i)) (fun f i q _ g=>?_) (fun f i z q _ g v=>?_) (fun g f=>?_) (by omega)).trans ?_
  .show KG F l f (i:Int)=_
   unfold KG;unfold Vh at g
   rw [Bool.not_not] at g;refine Y7 (decide_eq_true (by omega)) (Q8 (by omega) ((B f i q rfl).trans ?_))
   rw [if_pos g]
  .show KG F l f (i:Int)=_
   unfold KG;unfold Vh at g
   rw [Bool.not_not] at g;refine Y7 (decide_eq_true (by omega)) (Q8 (by omega) ((B f i q v).trans ?_))
   rw [if_neg (by simp [g])]
  .show KG F l f (l.length:Int)=_
   unfold KG;exact Z5 (decide_eq_false (by omega)) rfl
  .cases (List.range l.length).find? fun i=> !Vh l (gl l i) <;> rfl
 .cases (List.range l.length).find? (YS d l) <;> rfl
end
end Go.Ab
end
section
end
section
namespace Go.Ab
set_option maxRecDepth 20000
noncomputable section
structure GoodL (d:Nat) (l:List Scheme):Prop where
 len:l.length<=16
 one:∀ i,i<l.length->QV d (gl l i)=0
 asc:∀ i,0<i->i<l.length->(gl l (i-1)).N_<(gl l i).N_
 nam:∀ i,i<l.length->((l.take i).any fun x=>Zm x.n_ (gl l i).n_)=false
 mtl:∀ i,i<l.length->Vh l (gl l i)=true
theorem Q1E{d:Nat}{l:List Scheme}(h:GoodL d l):UO d l=(-1,0):=by
 obtain ⟨g,c,b,f,e⟩:=h;unfold UO
 rw [if_neg (by omega)];rw [List.find?_eq_none.2 fun i a=>by
  have a:=List.mem_range.1 a;unfold YS WH
  rw [c i a,f i a]
  by_cases h0:0<i
  .have:=b i h0 a
   rw [decide_eq_false (p:=(gl l i).N_<=(gl l (i-1)).N_) (by omega)];simp
  .rw [decide_eq_false h0];simp]
 show UP l=_;unfold UP
 rw [List.find?_eq_none.2 fun i a=>by rw [e i (List.mem_range.1 a)];simp]
theorem Z2Y{d:Nat}{l:List Scheme}:(UO d l).2=0↔GoodL d l:=by
 unfold UO;constructor
 .intro h
  by_cases h16:16<l.length
  .rw [if_pos h16] at h;cases h
  rw [if_neg h16] at h
  cases hf:(List.range l.length).find? (YS d l) with
  | some i=>
   rw [hf] at h
   exfalso
   revert h
   show ¬ (if QV d (gl l i)≠0 then QV d (gl l i) else 6)=0;split
   .assumption
   .omega
  | none=>
   rw [hf] at h;have b:∀ i,i<l.length->YS d l i=false:=fun i a=>by have:=List.find?_eq_none.1 hf i (List.mem_range.2 a);simpa using this
   have h:(UP l).2=0:=h;unfold UP at h
   cases hg:(List.range l.length).find? fun i=> !Vh l (gl l i) with
   | some i=>rw [hg] at h;exact absurd h (by show ¬ (17:Int)=0;omega)
   | none=>
    have e:∀ i,i<l.length->Vh l (gl l i)=true:=fun i a=>by have:=List.find?_eq_none.1 hg i (List.mem_range.2 a);simpa using this
    refine ⟨by omega,fun i a=>?_,fun i c a=>?_,fun i a=>?_,e⟩
    .have:=b i a
     unfold YS at this;rw [Bool.or_eq_false_iff] at this
     simpa using this.1
    .have:=b i a
     unfold YS WH at this;rw [Bool.or_eq_false_iff,Bool.or_eq_false_iff] at this
     have:=this.2.1
     rw [decide_eq_true c,Bool.true_and,decide_eq_false_iff_not] at this;omega
    .have:=b i a
     unfold YS WH at this;rw [Bool.or_eq_false_iff,Bool.or_eq_false_iff] at this
     exact this.2.2
 .intro h
  have:=Q1E h
  unfold UO at this;rw [this]
end
end Go.Ab
end
section
namespace Go.Ab
set_option maxRecDepth 20000
noncomputable section
theorem Q7H{F:Nat}(hF:Q7<=F){a b:Re_}(ha:J2 a.t_)(hb:J2 b.t_):Bk F a b=some (JG (cn fun x y=>z6 (Q4 a.t_ x y) (Q4 b.t_ x y) 3)):=by
 have h:=ha.1;have g:=hb.1
 unfold Bk Bj;have d:Zn F a.t_ b.t_ (fun f e=>LL F f e)=some (cn fun x y=>z6 (Q4 a.t_ x y) (Q4 b.t_ x y) 3):=by
  refine KB hF (by omega) (fun r c=>((ZT r).1 (ha.2.1 r c)).2.1) (fun r c=>((ZT r).1 (hb.2.1 r c)).2.1) (k:=fun u v=>z6 u v 3) rfl fun u v=>?_
  cases u <;> cases v <;> rfl
 refine Q3 (a:=JG (cn fun x y=>z6 (Q4 a.t_ x y) (Q4 b.t_ x y) 3)) (Q3 (Wn hF a) ?_) rfl;rw [YX ha]
 refine Z5 rfl (Q3 (Wn hF b) ?_);rw [YX hb]
 unfold Bi;refine Z5 rfl (Q3 d (Q3 (Br F _) ?_))
 unfold JG;split <;> rfl
theorem Q7Y{F:Nat}(hF:Q7<=F){a:Re_}(hv:J2 a.t_):Bw F a=some (area a.t_):=by
 unfold Bw;refine Q3 (Wn hF a) ?_
 rw [YX hv];exact Z5 rfl (Q3 (LO hF (by have:=hv.1;omega) hv.2.1) rfl)
end
end Go.Ab
end
section
namespace Go.Ab
set_option maxRecDepth 20000
noncomputable section
end
end Go.Ab
end
section
end
section
namespace Go.Ab
set_option maxRecDepth 20000
noncomputable section
theorem Q8J{F:Nat}(hF:1<=F){n:Int}(h0:0<=n)(h1:n<=9):∃ s,Xp F n=some s/\s.size<=10:=by
 cases F with
 | zero=>omega
 | succ F=>
  refine ⟨ZU (IntKind.wrap .u8 (48+n)),?_,by unfold ZU;simp⟩;show Sh F (Xp F) n=_
  unfold Sh;exact Z5 (decide_eq_false (by omega)) (Y7 (decide_eq_true (by omega)) (Q8 (V9 (by omega) (by omega)) rfl))
theorem St{k:Int}(h0:0<=k)(h1:k<=10):1<=(1:Int)*2 ^ (min k.toNat (IntKind.bits .i64))/\(1:Int)*2 ^ (min k.toNat (IntKind.bits .i64))<=1024:=by
 have a:k=0\/k=1\/k=2\/k=3\/k=4\/k=5\/k=6\/k=7\/k=8\/k=9\/k=10:=by omega
 rcases a with rfl|rfl|rfl|rfl|rfl|rfl|rfl|rfl|rfl|rfl|rfl <;> decide
theorem xz{d:Nat}{a b c:Int}(h1:Q6 a)(h2:Q6 b):TD (d+1) ⟨a,b,c,[]⟩:=⟨h1,h2,by simp,fun k e=>(List.not_mem_nil e).elim⟩
theorem SK:∀ (n:Nat) {F:Nat} (_:n+1<=F) {t:Tape} (_:TOk t) (_:n<=5),∃ t' x,Vl F t (n:Int)=some (t',x)/\TOk t' /\ TD (n+1) x
 | n,0,hF,_,_,_=>by omega
 | n,F+1,hF,t,ht,hn=>by
  show ∃ t' x,SL F (Vl F) t (n:Int)=some (t',x)/\_;unfold SL
  have k2:∀ (u:Tape×Int) (a b:Int) (v:Tape),TOk v->Q6 u.2->Q6 a->Ok (Ue F (Vl F) u a b v.l_ v.at_) fun z=>TOk z.1/\TD (n+1) z.2:=fun u a b v D C E=>by
   unfold Ue;exact JC ⟨D,xz C E⟩
  have g:∀ (v:Tape),TOk v->Ok ((YD F v (1:Int) (8:Int)).bind fun z=>br (z.2==(2:Int)) (KW F (Vl F) z (z.2==(2:Int))) (KW F (Vl F) z (z.2==(3:Int)))) fun z=>TOk z.1/\TD (n+1) z.2:=fun v D=>by
   obtain ⟨w,o,A,f,P,O⟩:=Wy (F:=F) D (lo:=1) (hi:=8) (by omega) (by omega) (by omega);have i:Q6 o:=V9 (by omega) (by omega)
   have k1:∀ b,Ok (KW F (Vl F) (w,o) b) fun z=>TOk z.1/\TD (n+1) z.2:=fun b=>by
    unfold KW;refine Zg (fun _=>?_) (fun _=>Zg (fun _=>?_) (fun _=>Zg (fun _=>?_) (fun _=>Zg (fun _=>?_) (fun _=>Zg (fun _=>?_) (fun _=>Zg (fun _=>?_) (fun _=>?_))))))
    .obtain ⟨e,k,d,c,j,s⟩:=QQ (F:=F) f (n:=4) (by omega) (by omega)
     exact QW d (k2 _ _ _ e c i (V9 (by omega) (by omega)))
    .obtain ⟨e,k,d,c,j,s⟩:=QQ (F:=F) f (n:=5) (by omega) (by omega)
     have:=St j (by omega)
     exact QW d (Qd ⟨V9 (by simp only;omega) (by simp only;omega),j⟩ (k2 _ _ _ e c i (V9 (by simp only;omega) (by simp only;omega))))
    .obtain ⟨e,k,d,c,j,s⟩:=QQ (F:=F) f (n:=16) (by omega) (by omega)
     exact QW d (k2 _ _ _ e c i (V9 (by omega) (by omega)))
    .obtain ⟨e,k,d,c,j,s⟩:=Wy (F:=F) f (lo:=2) (hi:=3) (by omega) (by omega) (by omega)
     exact QW d (k2 _ _ _ e c i (V9 (by omega) (by omega)))
    .obtain ⟨e,k,d,c,j,s⟩:=Wy (F:=F) f (lo:=1) (hi:=2) (by omega) (by omega) (by omega)
     obtain ⟨G,m,p,l,H,Q⟩:=QQ (F:=F) c (n:=5) (by omega) (by omega);have:=St H (by omega)
     exact QW d (QW p (Qd ⟨V9 (by simp only;omega) (by simp only;omega),H⟩ (k2 _ _ _ G l i (V9 (by simp only;omega) (by simp only;omega)))))
    .obtain ⟨e,k,d,c,j,s⟩:=Wy (F:=F) f (lo:=1) (hi:=3) (by omega) (by omega) (by omega)
     exact QW d (k2 _ _ _ e c i (V9 (by omega) (by omega)))
    .exact k2 _ _ _ w f i (V9 (by omega) (by omega))
   exact QW A (Zg (fun _=>k1 _) (fun _=>k1 _))
  have q:Ok (br (decide ((0:Int)<(n:Int))) ((KZ F t (2:Int)).bind fun z=>KX F (Vl F) (n:Int) z.2 z.1.l_ z.1.at_) (KX F (Vl F) (n:Int) false t.l_ t.at_)) fun z=>TOk z.1/\TD (n+1) z.2:=by
   refine Zg (fun h=>?_) (fun _=>?_)
   .have h:=of_decide_eq_true h
    obtain ⟨m,rfl⟩:∃ m,n=m+1:=⟨n-1,by omega⟩;obtain ⟨w,b,A,f⟩:=zv (F:=F) ht (n:=2) (by omega) (by omega)
    refine QW A ?_;unfold KX
    refine Zg (fun _=>?_) (fun _=>g w f);obtain ⟨e,k,d,c,_,_⟩:=QQ (F:=F) f (n:=3) (by omega) (by omega)
    refine QW d ?_;have I:((m+1:Nat):Int)-1=(m:Int):=by omega
    refine Zg (fun _=>Qd (V9 (by omega) (by omega)) ?_) (fun _=>Zg (fun _=>Qd (V9 (by omega) (by omega)) ?_) (fun _=>Qd (V9 (by omega) (by omega)) ?_))
    .rw [I]
     obtain ⟨G,x,p,l,d3⟩:=SK m (by omega:m+1<=F) c (by omega);exact QW p (Qd d3.op (JC ⟨l,V9 (by simp only;omega) (by simp only;omega),V9 (by simp only;omega) (by simp only;omega),by simp,fun k B=>by rw [List.mem_singleton.1 B];exact d3⟩))
    all_goals
     rw [I];obtain ⟨G,x,p,l,d3⟩:=SK m (by omega:m+1<=F) c (by omega)
     obtain ⟨N,y,K,M,J⟩:=SK m (by omega:m+1<=F) l (by omega);refine QW p (Qd (V9 (by omega) (by omega)) (QW K (Qd d3.op (Qd J.op (JC ⟨M,V9 (by simp only;omega) (by simp only;omega),V9 (by simp only;omega) (by simp only;omega),by simp,fun k B=>?_⟩)))))
     rcases List.mem_cons.1 B with h|h
     .rw [h];exact d3
     .rw [List.mem_singleton.1 h];exact J
   .unfold KX
    exact Zg (fun h=>by cases h) (fun _=>g t ht)
  obtain ⟨r,L,C,E⟩:=q;exact ⟨r.1,r.2,L,C,E⟩
structure ST (s:Scheme):Prop where
 sd:SD 3 s
 num:0<=s.N_/\s.N_<=3
theorem ST.excl{s:Scheme}(h:ST s)(e:Int):ST { s with excludes_:=e }:=⟨⟨h.sd.cond,h.sd.name,h.sd.brl⟩,h.num⟩
theorem xK{l:List Scheme}(h:∀ s ∈ l,ST s){i:Nat}{x:Scheme}(hx:ST x):∀ s ∈ l.set i x,ST s:=fun s b=>by
 rcases List.mem_or_eq_of_mem_set b with a|a
 .exact h s a
 .rw [a];exact hx
structure LT (L:List Scheme):Prop where
 st:∀ s ∈ L,ST s
 len:L.length<=3
theorem Z0q{F:Nat}(hF:Q7+3<=F){t:Tape}(ht:TOk t){most:Int}(m0:0<=most)(m1:most<=3):∃ t' L,SX F t most=some (t',L)/\TOk t' /\ LT L/\(L=[]\/GoodL 3 L):=by
 have hB:Q7<=F:=by omega
 have a1:=hB;unfold Q7 at a1
 unfold SX;obtain ⟨t1,n,e1,o1,O,n1⟩:=QQ (F:=F) ht (n:=2) (by omega) (by omega)
 obtain ⟨t2,k,e2,o2,W,k1⟩:=QQ (F:=F) o1 (n:=most+1) (by omega) (by omega)
 suffices h:Ok (Z9 (fun e (z:Int×Int×(List Int)×Int×(List Scheme))=>SW F e z.1 z.2.1 z.2.2.1 z.2.2.2.1 z.2.2.2.2) F (n,k,t2.l_,t2.at_,([]:List Scheme))) fun z=>TOk z.1/\LT z.2/\(z.2=[]\/GoodL 3 z.2) by
  obtain ⟨r,hr,h1,P,K⟩:=h;exact ⟨r.1,r.2,Q3 e1 (Q8 (V9 (by omega) (by omega)) (Q3 e2 hr)),h1,P,K⟩
 have a5:∀ (L:List Scheme) (v:Tape),TOk v->LT L->Ok (SV F L v.l_ v.at_) fun z=>TOk z.1/\LT z.2/\(z.2=[]\/GoodL 3 z.2):=fun L v f A=>by
  unfold SV;refine QW (Q8d (d:=3) (by omega) hF fun s I=>(A.st s I).sd) (Zg (fun _=>?_) (fun h=>?_))
  .exact JC ⟨f,⟨fun s I=>(List.not_mem_nil I).elim,by simp⟩,.inl rfl⟩
  .exact JC ⟨f,A,.inr (Z2Y.1 (by simpa using h))⟩
 have k5:∀ (L:List Scheme) (v:Tape),TOk v->LT L->Ok (SU F v.l_ v.at_ L) fun z=>TOk z.1/\LT z.2/\(z.2=[]\/GoodL 3 z.2):=fun L v f A=>by
  have a9:=A.len;unfold SU
  refine JD (fun z:Int×(List Int)×Int×(List Scheme)=>0<=z.1/\z.1<=L.length/\TOk ⟨z.2.1,z.2.2.1⟩/\LT z.2.2.2/\z.2.2.2.length=L.length) (fun z=>L.length-z.1.toNat) (fun e z H T=>?_) ⟨by simp,by simp,f,A,rfl⟩ (by simp;omega);obtain ⟨i,a,b,M⟩:=z
  obtain ⟨i0,i1,f,p,o⟩:=H;simp only at i0 i1 f p o
  show Ok (zB F L e i a b M) _;unfold zB
  refine Zg (fun h=>?_) (fun _=>a5 M ⟨a,b⟩ f p);have h:=of_decide_eq_true h
  refine Qd (by omega) ?_;refine JD (fun z:Int×(List Int)×Int×(List Scheme)=>0<=z.1/\z.1<=i/\TOk ⟨z.2.1,z.2.2.1⟩/\LT z.2.2.2/\z.2.2.2.length=L.length) (fun z=>i.toNat-z.1.toNat) (fun S z H D=>?_) ⟨by simp,by simpa using i0,f,p,o⟩ (by simp;omega)
  obtain ⟨j,a,b,M⟩:=z;obtain ⟨j0,j1,f,p,o⟩:=H
  simp only at j0 j1 f p o;show Ok (zA F i e S j a b M) _
  unfold zA;refine Zg (fun P=>?_) (fun _=>?_)
  .have P:=of_decide_eq_true P
   obtain ⟨Q,c,U,R⟩:=zv (F:=F) f (n:=3) (by omega) (by omega);have k8:∀ (N:List Scheme) (v:Tape),TOk v->LT N->N.length=L.length->Ok (Dn F j S v.l_ v.at_ N) fun z=>TOk z.1/\LT z.2/\(z.2=[]\/GoodL 3 z.2):=fun N v f hN o=>by
    unfold Dn;exact Qd (V9 (by omega) (by omega)) (D _ ⟨by simp only;omega,by simp only;omega,f,hN,o⟩ (by simp only;omega))
   refine QW U (Zg (fun _=>?_) (fun _=>k8 M Q R p o));have X:=p.st _ (J7 (l:=M) (i:=j.toNat) (by omega))
   have hi:=p.st _ (J7 (l:=M) (i:=i.toNat) (by omega));have p1:=St X.num.1 (by have:=X.num.2;omega)
   refine Qd (by omega) (Qd (by omega) (Qd ⟨V9 (by omega) (by omega),X.num.1⟩ (Qd (by omega) ?_)));have C:∀ s ∈ M.set i.toNat ⟨(gl M i.toNat).N_,(gl M i.toNat).n_,(gl M i.toNat).cond_,(gl M i.toNat).brackets_,(gl M i.toNat).least_,K7 .i64 (gl M i.toNat).excludes_ ((1:Int)*2 ^ (min (gl M j.toNat).N_.toNat (IntKind.bits .i64))),(gl M i.toNat).needs_⟩,ST s:=xK p.st (hi.excl _)
   generalize hN:M.set i.toNat _=N at C ⊢;have d9:N.length=M.length:=by rw [<-hN];simp
   have E:=C _ (J7 (l:=N) (i:=i.toNat) (by omega));have Z:=C _ (J7 (l:=N) (i:=j.toNat) (by omega))
   have p2:=St E.num.1 (by have:=E.num.2;omega);refine Qd (by omega) (Qd (by omega) (Qd ⟨V9 (by omega) (by omega),E.num.1⟩ (Qd (by omega) ?_)))
   exact k8 _ Q R ⟨xK C (Z.excl _),by simp;omega⟩ (by simp;omega)
  .unfold zw
   exact Qd (V9 (by omega) (by omega)) (T _ ⟨by simp only;omega,by simp only;omega,f,p,o⟩ (by simp only;omega))
 refine JD (fun z:Int×Int×(List Int)×Int×(List Scheme)=>0<=z.1/\z.1<=5/\0<=z.2.1/\TOk ⟨z.2.2.1,z.2.2.2.1⟩/\(∀ s ∈ z.2.2.2.2,ST s)/\(z.2.2.2.2.length:Int)+z.2.1<=3) (fun z=>z.2.1.toNat) (fun e z H T=>?_) ⟨by simpa using O,by simp only;omega,by simpa using W,o2,fun s I=>(List.not_mem_nil I).elim,by simp;omega⟩ (by simp only;omega);obtain ⟨n,k,a,b,L⟩:=z
 obtain ⟨O,n1,W,f,A,o⟩:=H;simp only at O n1 W f A o
 show Ok (SW F e n k a b L) _;unfold SW
 have Y:LT L:=⟨A,by omega⟩;have kf:Ok (XE F n k a b L e false) fun z=>TOk z.1/\LT z.2/\(z.2=[]\/GoodL 3 z.2):=by
  unfold XE;exact Zg (fun h=>by cases h) (fun _=>k5 L ⟨a,b⟩ f Y)
 refine Zg (fun h=>?_) (fun _=>kf);have h:=of_decide_eq_true h
 by_cases K:n<=3
 rotate_left
 .rw [decide_eq_false K];exact kf
 rw [decide_eq_true K];unfold XE
 refine Zg (fun _=>?_) (fun h=>by cases h);obtain ⟨s,es,I⟩:=Q8J (F:=F) (by omega) O (by omega)
 obtain ⟨Q,x,U,R,hx⟩:=SK 2 (by omega:3<=F) f (by omega);obtain ⟨t4,y,e4,o4,y0,y1⟩:=QQ (F:=F) R (n:=4) (by omega) (by omega)
 obtain ⟨t5,c,e5,o5⟩:=zv (F:=F) o4 (n:=2) (by omega) (by omega);obtain ⟨t6,m,e6,o6,m0,m1⟩:=Wy (F:=F) o5 (lo:=1) (hi:=3) (by omega) (by omega) (by omega)
 have J:ByteArray.size (ByteArray.mk #[115])=1:=rfl;refine QW es (Qd (by rw [J];unfold Y5;omega) (QW U (QW e4 (QW e5 (QW e6 ?_)))))
 refine JD (fun z:Int×Int×(List Int)×Int×(List Bracket)=>0<=z.1/\z.1+40*z.2.1<=120/\0<=z.2.1/\TOk ⟨z.2.2.1,z.2.2.2.1⟩/\(z.2.2.2.2.length:Int)+z.2.1<=3) (fun z=>z.2.1.toNat) (fun S z H D=>?_) ⟨by simp,by simp only;omega,by simp only;omega,o6,by simp;omega⟩ (by simp only;omega);obtain ⟨u,q,a2,b2,B⟩:=z
 obtain ⟨u0,u1,q0,G,a3⟩:=H;simp only at u0 u1 q0 G a3
 show Ok (zC F n k L s (Q,x) (t4,y) (t5,c) e S u q a2 b2 B) _;unfold zC
 refine Zg (fun h4=>?_) (fun _=>?_)
 .have h4:=of_decide_eq_true h4
  obtain ⟨t7,w,e7,o7,w0,w1⟩:=Wy (F:=F) G (lo:=1) (hi:=40) (by omega) (by omega) (by omega);obtain ⟨t8,g,e8,o8,g0,g1⟩:=QQ (F:=F) o7 (n:=3000) (by omega) (by omega)
  exact QW e7 (Qd (V9 (by simp only;omega) (by simp only;omega)) (QW e8 (Qd (by simp only [List.length_cons,List.length_nil];unfold Y5;omega) (Qd (V9 (by omega) (by omega)) (D _ ⟨by simp only;omega,by simp only;omega,by simp only;omega,o8,by simp;omega⟩ (by simp only;omega))))))
 .unfold zy
  obtain ⟨t9,w,e9,o9,w0,w1⟩:=Wy (F:=F) G (lo:=1) (hi:=2) (by omega) (by omega) (by omega);refine Qd (by simp only [List.length_cons,List.length_nil];unfold Y5;omega) (QW e9 (Qd (V9 (by simp only;omega) (by simp only;omega)) ?_))
  unfold zx;refine Qd (V9 (by omega) (by omega)) (T _ ⟨by simp only;omega,by simp only;omega,by simp only;omega,o9,fun s' a4=>?_,by simp;omega⟩ (by simp only;omega))
  rcases List.mem_append.1 a4 with V|V
  .exact A s' V
  .rw [List.mem_singleton.1 V]
   refine ⟨⟨hx,?_,by simp only;omega⟩,O,K⟩;show ((ByteArray.mk #[115])++s).size<=_
   rw [ByteArray.size_append,J];omega
end
end Go.Ab
end
section
namespace Go.Ab
set_option maxRecDepth 20000
noncomputable section
structure WT (w:World):Prop where
 yr:0<=w.year_/\w.year_<=4
 crops:CropT w.crops_
 his:HisT (w.crops_.length:Nat) w.history_
 hlen:w.history_.length<=5
 zon:LayT w.zones_
 zlen:w.zones_.length<=3
 day:0<=w.day_/\w.day_<=24
 most:0<=w.most_/\w.most_<=300
theorem HisT.few5{K:Int}{H:List Rg_}(h:HisT K H)(hl:H.length<=5):FewR H:=⟨h.hl,fun y p i a=>by
 have:=Q3a h y p i (by omega)
 omega⟩
theorem QN.up{n m:Int}{l:List Rect}(h:QN n l)(hm:n<=m):QN m l:=fun r a=>by
 have:=h r a
 omega
theorem WT.lb{w:World}(h:WT w):LB 9 w.zones_:=h.zon.lb
theorem WT.ev{w:World}(h:WT w){A:List Rect}(hA:TR A){c:Int}(hc:0<=c/\c<(w.crops_.length:Nat)):EV w.year_ w.crops_ w.history_ w.zones_ c A:=by
 have b:=h.crops.one c.toNat (by omega);exact ⟨hA,hc,b.2.1,⟨b.2.2.2.1,b.2.2.2.2⟩,h.his.few5 h.hlen,fun f a=>(h.his.box f a).up (by omega),fun f a=>⟨((KO f).1 (h.his.hl.one f a)).2.2.1,h.his.crop f a⟩,by have:=h.yr;omega,⟨h.zon.vl,fun f a=>(h.lb.box f a).up (by omega),by omega⟩⟩
theorem WT.chk{w:World}(h:WT w){A:List Rect}(hA:TR A){c:Int}(hc:0<=c/\c<(w.crops_.length:Nat)){e:Nat}{t:Term}(ht:YI e t=0):WD e t w.crops_ c w.history_ w.year_ w.zones_ w.day_ A=0:=by
 have j:=h.yr;have g:=h.day
 have d:∀ k:Int,0<=k->k<(w.crops_.length:Nat)->Va w.crops_ k=false:=fun k f i=>by
  unfold Va;rw [decide_eq_false (by omega),decide_eq_false (by omega)];rfl
 have a:(w.history_.any fun r=>Va w.crops_ r.c_)=false:=by
  rw [List.any_eq_false];intro r b
  rw [d _ ((KO r).1 (h.his.hl.one r b)).2.2.1 (h.his.crop r b)];exact Bool.noConfusion
 unfold WD;rw [if_neg (by rw [ht];simp),if_neg (by rw [h.crops.crC];simp),if_neg (by rw [d c hc.1 hc.2,a];simp),if_neg (by rw [(Cq _).2 h.his.hl];simp),if_neg (by omega),if_neg (by rw [(DX _).2 h.zon.vl];simp),if_neg (by omega),if_pos ((Wj _).2 hA.val)]
def Yn(w:World)(x:Line)(parcel:Re_)(s:Scheme):TS:=
 if ZG x.s_ s.N_=false then WX x.g_.t_ false
 else Ww x.g_.t_ (Qe w.year_ w.crops_ w.history_ w.zones_ w.day_ x.c_ x.g_.t_ 3 s.cond_) (UN w.zones_ w.day_ w.most_ parcel.t_)
theorem KU(w:World)(x:Line)(parcel:Re_)(s:Scheme):TIn x.g_.t_ (Yn w x parcel s):=by
 unfold Yn;split
 .exact Pe _ _
 .exact bg (Gg _ _) (yn _ _ _ _)
theorem Z3w{A:List Rect}(h:J2 A):(WX A false).t3 A=⟨⟨[]⟩,⟨A⟩,⟨[]⟩⟩:=by
 unfold TS.t3;rw [Q2h,JR]
 show Truth.mk ⟨cn fun _ _=>false⟩ ⟨cn (Q4 A)⟩ ⟨[]⟩=_;rw [JR,XZ h]
theorem Q9Y{F n:Nat}(hF:Q7+3<=F){w:World}{x:Line}(hE:EV w.year_ w.crops_ w.history_ w.zones_ x.c_ x.g_.t_){s:Scheme}(hk:WD 3 s.cond_ w.crops_ x.c_ w.history_ w.year_ w.zones_ w.day_ x.g_.t_=0)(hl:w.history_.length<=1000000)(hn:Pj w.crops_)(hL:LB n w.zones_)(d1:0<=w.day_)(d2:w.day_<=36864)(m1:0<=w.most_)(m2:w.most_<=268435456)(hs:SD 3 s)(h1:QV 3 s=0){parcel:Re_}(hp:TR parcel.t_)(hsub:∀ u v,Q4 x.g_.t_ u v=true->Q4 parcel.t_ u v=true):
  Gh F x parcel s w=some ((Yn w x parcel s).t3 x.g_.t_,0):=by
 have hB:Q7<=F:=by omega
 have b:=hE.tr;have c:=Q2V hB hL d1 d2 hp m1 m2
 rw [Z2s (e:=3) (by omega) hF hs hl hn (fun _=>hE) c fun _=>Q0Z hp _ _];have hE:(Uh 3 s.cond_ x w.year_ w.crops_ w.history_ w.zones_ w.day_).2=0:=by
  unfold Uh;rw [if_neg (by rw [hk];simp)]
 have a:GF x.g_ parcel=true:=(Q3f b.val hp.val).2 hsub;unfold zo
 rw [if_neg (by rw [(Wj _).2 hp.val];simp),if_neg (by rw [hE];simp),if_neg (by rw [h1];simp),if_neg (by simp),if_neg (by rw [a];simp)];unfold Yn
 by_cases q:ZG x.s_ s.N_=false
 .rw [if_pos q,if_pos q,Z3w b.val]
 .rw [if_neg q,if_neg q]
  show some ((Ww _ _ (Q4 (cn (UN w.zones_ w.day_ w.most_ parcel.t_)))).t3 _,(0:Int))=_;rw [ZE (yn _ _ _ _)]
theorem Q9X{F:Nat}(hF:Q7+3<=F){w:World}(hw:WT w){x:Line}(hA:TR x.g_.t_)(hc:0<=x.c_/\x.c_<(w.crops_.length:Nat)){s:Scheme}(hs:SD 3 s)(h1:QV 3 s=0){parcel:Re_}(hp:TR parcel.t_)(hsub:∀ u v,Q4 x.g_.t_ u v=true->Q4 parcel.t_ u v=true):
  Gh F x parcel s w=some ((Yn w x parcel s).t3 x.g_.t_,0):=by
 have a:=hw.day;have b:=hw.most
 have c:=hw.hlen;exact Q9Y hF (hw.ev hA hc) (hw.chk hA hc (Sw h1).2.2.2.2.2.1) (by omega) hw.crops.nm hw.lb a.1 (by omega) b.1 (by omega) hs h1 hp hsub
end
end Go.Ab
end
section
namespace Go.Ab
set_option maxRecDepth 20000
noncomputable section
theorem Z0E{F:Nat}{a n:Int}(h0:0<=a)(h1:a<n):Gb F a n=some a:=by
 unfold Gb;rw [Int.tmod_eq_of_lt h0 h1]
 exact Z5 (decide_eq_false (by omega)) (Q8 (by omega) (Z5 (decide_eq_false (by omega)) rfl))
structure PrT (rs:List Re_) (l:List Line) (ps:List Re_):Prop where
 len:ps.length=l.length
 at_:∀ i,i<l.length->gl ps i=gl rs ((gl l i).p_-1).toNat
theorem Z0h{F:Nat}(hF:Q7<=F){t:Tape}(ht:TOk t){cs:List Crop}(hcs:CropT cs):∃ t' w,SJ F t cs=some (t',w)/\TOk t' /\ WT w/\w.crops_=cs/\w.most_<=4:=by
 obtain ⟨s,y,i,q,u,r⟩:=QQ (F:=F) ht (n:=5) (by omega) (by omega);obtain ⟨v,H,a,e,b,z⟩:=Z0x hF q hcs (most:=5) (by omega) (by omega)
 obtain ⟨B,Z,g,l,k,j⟩:=Z0o hF e (most:=3) (by omega) (by omega);obtain ⟨x,d,c,p,d1,A⟩:=QQ (F:=F) l (n:=25) (by omega) (by omega)
 obtain ⟨o,m,h,f,C,D⟩:=QQ (F:=F) p (n:=5) (by omega) (by omega);refine ⟨o,⟨y,cs,H,Z,d,m⟩,?_,f,⟨by simp only;omega,hcs,b,by simp only;omega,k,by simp only;omega,by simp only;omega,by simp only;omega⟩,rfl,by simp only;omega⟩
 unfold SJ;exact Q3 i (Q3 a (Q3 g (Q3 c (Q3 h rfl))))
def Q3X:Term:=⟨1,0,0,[]⟩
theorem Q3V(d:Nat):TD (d+1) Q3X:=xz (V9 (by omega) (by omega)) (V9 (by omega) (by omega))
theorem Z2d:ZG 1 0=true/\ZG 0 0=false:=by decide +kernel
end
end Go.Ab
end
