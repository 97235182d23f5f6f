/- Abstract states over the model. -/
import Derived.Test.YtgfmopdbhjcpfaaGreatAbD
import Derived.Test.YtgfmopdbhjcpfaaGreatLwA
import Derived.Test.YtgfmopdbhjcpfaaGreatLwC
import Derived.Test.YtgfmopdbhjcpfaaGreatLwB
set_option linter.unusedVariables false
set_option linter.unusedSimpArgs false
section
namespace Go.Ab
set_option maxRecDepth 20000
noncomputable section
theorem W2X {L:List A2_} {d m:Int} {a:List Rect} {x y:Int} (h:elS L d m a x y=true):inR a x y=true:=by
 unfold elS at h;rw [Bool.and_eq_true] at h
 exact h.1
theorem W2u {L:List A2_} {a:List Rect} (ha:TR a) (d m:Int):Val (cn (elS L d m a)):=ha.sub (Y7o L d m a) fun _ _ h=>W2X h
theorem Z9T {F n:Nat} {L:List A2_} {d:Int} (hF:BIG<=F) (hL:LB n L) (d1:0<=d) (d2:d<=36864) {a:Re_} (ht:TR a.t_) {m:Int} (m1:0<=m) (m2:m<=268435456):Q6f F a L d m=some (⟨cn (elS L d m a.t_)⟩,0):=by
 have b:=ht.val;have g:=hL.rval d (zp 0)
 have f:=Y3T hL d m a.t_;have l:=g.1.1
 have j:=f.1.1;have i:=b.1
 unfold Q6f;refine Q3 (Z2Q hF hL.vl d1 d2 b m1 m2) ?_
 refine Q8 rfl ?_;refine Q3 (Y4u hF hL d1 d2) ?_
 refine Q8 rfl ?_;refine Q3 (Y4t hF hL d1 d2 b m1 m2) ?_
 refine Q8 rfl ?_;refine Q3 (Q7C hF (by simp only;omega) (by simp only;omega)) ?_
 refine Q3 (Q8R hF (by simp only [List.length_append];omega) (fun r c=>(b.2.2.pos c).1) (fun r c=>?_) (k:=fun u v=>u && !v) rfl (fun u v=>by cases u <;> cases v <;> rfl)) ?_
 ·rcases List.mem_append.1 c with h|h
  ·exact (g.1.2.2.pos h).1
  ·exact (f.1.2.2.pos h).1
 have e:(cn fun x y=>inR a.t_ x y && !inR (cn (inR (Q0q L d (zp 0)))++cn (inR (Z1C L d m a.t_))) x y)=cn (elS L d m a.t_):=by
  congr 1
  funext x y
  unfold elS;rw [Z2g,Q1w (K2 _),Q1w (K2 _)]
 show (Q3k F (cn fun x y=>inR a.t_ x y && !inR (cn (inR (Q0q L d (zp 0)))++cn (inR (Z1C L d m a.t_))) x y)).bind _=_;rw [e]
 have:=(W2u (L:=L) ht d m).1
 refine Q3 (Z2y F _) ?_;rw [if_neg (by omega)]
theorem Y9q {A:List Rect} (hA:TR A) {P:TS} (h:TIn A P) (hd:∀ x y,P.Y x y=true->P.N x y=true->False):area (cn P.Y)+area (cn P.N)+area (cn (P.O A))=area A:=by
 rw [(h.vY hA).area,(h.vN hA).area,(h.vO hA).area,hA.val.area,Q0n h.fY,Q0n h.fN,Q0n h.fO];have e:inR A=fun x y=>(P.Y x y||P.N x y)||P.O A x y:=by
  funext x y
  have:=h.sY x y
  have:=h.sN x y
  unfold TS.O
  cases hA:inR A x y <;> cases hY:P.Y x y <;> cases hN:P.N x y <;> simp_all
 have c:sq (inR A)=sq (fun x y=>P.Y x y||P.N x y)+sq (P.O A):=by
  conv=>lhs;rw [e]
  rw [Z5F,Z5F,Z5F];refine Y7s fun x y b a=>?_
  unfold TS.O at a
  cases hY:P.Y x y <;> cases hN:P.N x y <;> simp_all
 have d:sq (fun x y=>P.Y x y||P.N x y)=sq P.Y+sq P.N:=by
  rw [Z5F,Z5F,Z5F];exact Y7s fun x y b a=>hd x y b a
 rw [c,d]
end
end Go.Ab
end
section
namespace Go.Ab
set_option maxRecDepth 20000
noncomputable section
theorem Z1u {R:Type} {body:(Int->Option R)->Int->Option R} {c:Nat->Option R} {y:Option R} (N:Nat) (p:Nat->Bool)
  (bad:∀ again (i:Nat),i<N->(∀ j,j<i->p j=false)->p i=true->body again (i:Int)=c i) (good:∀ again (i:Nat) z,i<N->(∀ j,j<i->p j=false)->p i=false->again ((i:Int)+1)=z->body again (i:Int)=z)
  (stop:(∀ j,j<N->p j=false)->∀ again,body again (N:Int)=y) {F:Nat} (hF:N<F):Z3 body F 0=match (List.range N).find? p with|some i=>c i|none=>y:=by
 refine Y7 (fun z:Int=>∃ i:Nat,z=i/\i<=N/\∀ j,j<i->p j=false) (fun z=>N-z.toNat) (fun again z d e=>?_) ⟨0,rfl,Nat.zero_le _,fun j h=>absurd h (Nat.not_lt_zero j)⟩ (by simp;omega);obtain ⟨i,rfl,g,a⟩:=d
 rcases Nat.lt_or_ge i N with h|h
 ·cases hpi:p i with
  | true=>
   rw [List.find?_range_eq_some.2 ⟨hpi,List.mem_range.2 h,fun j b=>by simp [a j b]⟩];exact bad again i h a hpi
  | false=>
   refine good again i _ h a hpi (e _ ⟨i+1,by omega,h,fun j b=>?_⟩ (by omega))
   by_cases hji:j=i
   ·rw [hji];exact hpi
   ·exact a j (by omega)
 ·have:i=N:=by omega
  subst this;rw [List.find?_eq_none.2 fun x f=>by rw [a x (List.mem_range.1 f)];simp]
  exact stop a again
theorem Z9z {α:Type} [Emb α] (p:α->Bool) (l:List α):Q4i p l<(l.length:Int) /\ -1<=Q4i p l/\(0<=Q4i p l->p (gl l (Q4i p l).toNat)=true/\l.any p=true):=by
 unfold Q4i;split
 ·rename_i h
  have a:l.findIdx p<l.length:=List.findIdx_lt_length_of_exists (by simpa using h);refine ⟨by omega,by omega,fun _=>⟨?_,h⟩⟩
  rw [Int.toNat_natCast,y7 a];exact List.findIdx_getElem (w:=a)
 ·exact ⟨by omega,by omega,fun h=>by omega⟩
def Q6x (n:Int) (x:Scheme):Bool:=x.N_==n
theorem Z1I {F:Nat} (hF:BIG<=F) {l:List Scheme} (hl:l.length<=1000000) (n:Int):Q9V F l n=some (Q4i (Q6x n) l):=by
 unfold Q9V;exact Q3 (Q5b hF (Q6x n) (by omega) fun r _=>rfl) rfl
theorem Z7I {F:Nat} (hF:BIG<=F) {l:List Scheme} (hl:l.length<=1000000) (n:Int):Z4q F l n=some (Q4i (Q6x n) l):=by
 have k:=hF;unfold BIG at k
 unfold Z4q;refine (Z1u (c:=fun i=>some (i:Int)) (y:=some (-1)) l.length (fun i=>Q6x n (gl l i)) (fun a i o _ e=>?_) (fun a i z o _ e m=>?_) (fun _ a=>?_) (by omega)).trans ?_
 ·show Q2Q F l n a (i:Int)=_
  unfold Q2Q;exact Z5 (decide_eq_true (by omega)) (Q7 (by omega) (Z5 e rfl))
 ·show Q2Q F l n a (i:Int)=_
  unfold Q2Q;exact Z5 (decide_eq_true (by omega)) (Q7 (by omega) (Q8 e (Q7 (Z7 (by omega) (by omega)) m)))
 ·show Q2Q F l n a (l.length:Int)=_
  unfold Q2Q;exact Q8 (decide_eq_false (by omega)) rfl
 ·unfold Q4i
  cases hf:(List.range l.length).find? fun i=>Q6x n (gl l i) with
  | none=>
   have h:=List.find?_eq_none.1 hf;rw [if_neg]
   rw [Bool.not_eq_true];exact Q2Y fun j d=>by have:=h j (List.mem_range.2 d);simpa using this
  | some i=>
   obtain ⟨f,b,g⟩:=List.find?_range_eq_some.1 hf;have b:=List.mem_range.1 b
   have p:l.any (Q6x n)=true:=List.any_eq_true.2 ⟨_,W9 b,f⟩;rw [if_pos p,Q9j b (fun j d=>by have:=g j d;simpa using this) f]
def twB (l:List Scheme) (i:Nat):Bool:=(decide (0<i)&&decide ((gl l i).N_<=(gl l (i-1)).N_))||(l.take i).any fun x=>sEq x.n_ (gl l i).n_
def Y4N (l:List Scheme) (s:Scheme) (n:Nat):Bool:=Q6E s.excludes_ n&&(decide (Q4i (Q6x n) l<0) || !Q6E (gl l (Q4i (Q6x n) l).toNat).excludes_ s.N_)
def Y1z (l:List Scheme) (s:Scheme):Bool:= !(List.range 16).any (Y4N l s)
def Y5f (l:List Scheme):Int×Int:=match (List.range l.length).find? fun i=> !Y1z l (gl l i) with
 | some i=>(i,17)
 | none=>(-1,0)
def Z6G (d:Nat) (l:List Scheme) (i:Nat):Bool:=decide (Q7t d (gl l i)≠0)||twB l i
def Y5e (d:Nat) (l:List Scheme):Int×Int:=if 16<l.length then (0,1) else match (List.range l.length).find? (Z6G d l) with
 | some i=>(i,if Q7t d (gl l i)≠0 then Q7t d (gl l i) else 6)
 | none=>Y5f l
theorem Y0q {d:Nat} {s:Scheme} (h:Q7t d s=0):0<=s.N_/\s.N_<=15/\0<=s.least_/\s.least_<=268435456/\Q2G s.n_=true/\Q8A d s.cond_=0/\brB s.brackets_=true/\0<=s.excludes_/\s.excludes_<65536/\Q6E s.excludes_ s.N_=false:=by
 unfold Q7t at h;split at h
 ·omega
 split at h
 ·omega
 split at h
 ·rename_i b;exact absurd h b
 split at h
 ·omega
 rename_i b f c a
 refine ⟨by omega,by omega,by omega,by omega,by simpa using f,by simpa using c,?_,by omega,by omega,?_⟩
 ·cases e:brB s.brackets_ with
  | true=>rfl
  | false=>exact absurd (.inl e) a
 ·cases e:Q6E s.excludes_ s.N_ with
  | false=>rfl
  | true=>exact absurd (.inr (.inr (.inr e))) a
theorem Z3u {F:Nat} (hF:BIG<=F) {l:List Scheme} (hl:l.length<=1000000) {s:Scheme} (hs:0<=s.N_):Q9r F l s=some (Y1z l s):=by
 have f:=hF;unfold BIG at f
 unfold Q9r;refine (Y4E (c:=some false) (y:=some true) 16 (Y4N l s) (fun a i h b=>?_) (fun a i z h b g=>?_) (fun a=>?_) (by omega)).trans ?_
 ·show Q0T F l s a (i:Int)=_
  unfold Q0T;unfold Y4N at b
  rw [Bool.and_eq_true] at b;obtain ⟨j,e⟩:=Z9z (Q6x (i:Nat)) l
  refine Z5 (decide_eq_true (by omega)) (Q7 (by omega) (Q8 (by rw [Q4j,b.1];rfl) (Q3 (Z1I hF hl _) ?_)));refine Q9 (fun _=>rfl) (fun d=>Q7 (by have:=of_decide_eq_false d;omega) (Q7 hs ?_))
  rw [Q4j];have:=b.2
  rw [d,Bool.false_or] at this;rw [this];rfl
 ·show Q0T F l s a (i:Int)=_
  unfold Q0T;unfold Y4N at b
  obtain ⟨j,e⟩:=Z9z (Q6x (i:Nat)) l;have k2:Q5E F (i:Int) a=z:=Q7 (Z7 (by omega) (by omega)) g
  refine Z5 (decide_eq_true (by omega)) (Q7 (by omega) ?_);rw [Q4j]
  cases hb:Q6E s.excludes_ i with
  | false=>exact Z5 rfl k2
  | true=>
   rw [hb,Bool.true_and,Bool.or_eq_false_iff] at b;refine Q8 rfl (Q3 (Z1I hF hl _) (Q8 b.1 (Q7 (by have:=of_decide_eq_false b.1;omega) (Q7 hs ?_))))
   rw [Q4j,b.2];unfold Q5F;exact Q8 rfl k2
 ·show Q0T F l s a (16:Int)=_
  unfold Q0T;exact Q8 (by decide) rfl
 ·unfold Y1z
  cases (List.range 16).any (Y4N l s) <;> rfl
theorem Y1n {d F:Nat} (hd:d<=2000000) (hF:BIG+d<=F) {l:List Scheme} (hl:∀ s ∈ l,SD d s):Z1e F l=some (Y5e d l):=by
 have k:BIG<=F:=by omega
 have n:=k;unfold BIG at n
 unfold Z1e Y5e
 by_cases h16:16<l.length
 ·rw [if_pos h16];exact Z5 (decide_eq_true (by omega)) rfl
 rw [if_neg h16];refine Q8 (decide_eq_false (by omega)) ?_
 refine (Z1u (c:=fun i=>some ((i:Int),if Q7t d (gl l i)≠0 then Q7t d (gl l i) else 6)) (y:=some (Y5f l)) l.length (Z6G d l) (fun a i f _ b=>?_) (fun a i z f _ b m=>?_) (fun b a=>?_) (by omega)).trans ?_
 ·show Q1t F l a (i:Int)=_
  unfold Q1t;refine Z5 (decide_eq_true (by omega)) (Q7 (by omega) (Q3 (Z0q hd hF (hl _ (W9 f))) ?_))
  by_cases e:Q7t d (gl l i)=0
  ·rw [if_neg (by simpa using e)]
   refine Q8 (by simp [e]) ?_;unfold Z6G twB at b
   have k1:Q2q F (i:Int) a true=some ((i:Int),6):=rfl;rw [decide_eq_false (by simpa using e),Bool.false_or,Bool.or_eq_true] at b
   have h:U5 F (l.take ((i:Nat):Int).toNat) (fun q=>Q5j F q (gl l ((i:Nat):Int).toNat))=some ((l.take i).any fun x=>sEq x.n_ (gl l i).n_):=Q3C k _ (by simp;omega) fun r _=>rfl
   refine Q9 (fun g=>?_) (fun g=>?_)
   ·have g:=of_decide_eq_true g
    rw [show ((i:Int)-1).toNat=i-1 by omega];refine Q7 (Z7 (by omega) (by omega)) (Q7 (by omega) (Q9 (fun _=>k1) (fun p=>Q7 (by omega) (Q3 h ?_))))
    rcases b with b|b
    ·rw [Bool.and_eq_true] at b;rw [show decide ((gl l i).N_<=(gl l (i-1)).N_)=false from p] at b;simp at b
    ·rw [b];exact k1
   ·refine Q7 (by omega) (Q3 h ?_)
    rcases b with b|b
    ·rw [Bool.and_eq_true] at b;have:=of_decide_eq_false g;have:=of_decide_eq_true b.1;omega
    ·rw [b];exact k1
  ·rw [if_pos e];exact Z5 (by simpa using e) rfl
 ·show Q1t F l a (i:Int)=_
  unfold Q1t;unfold Z6G twB at b
  rw [Bool.or_eq_false_iff,Bool.or_eq_false_iff] at b;obtain ⟨e,g,p⟩:=b
  have e:Q7t d (gl l i)=0:=by simpa using e
  have k1:Q2q F (i:Int) a false=z:=Q8 rfl (Q7 (Z7 (by omega) (by omega)) m);have h:U5 F (l.take ((i:Nat):Int).toNat) (fun q=>Q5j F q (gl l ((i:Nat):Int).toNat))=some false:=(Q3C k (fun x=>sEq x.n_ (gl l i).n_) (by simp;omega) fun r _=>rfl).trans (congrArg some p)
  refine Z5 (decide_eq_true (by omega)) (Q7 (by omega) (Q3 (Z0q hd hF (hl _ (W9 f))) (Q8 (by simp [e]) ?_)));refine Q9 (fun o=>?_) (fun o=>Q7 (by omega) (Q3 h k1))
  have o:=of_decide_eq_true o;rw [show ((i:Int)-1).toNat=i-1 by omega]
  refine Q7 (Z7 (by omega) (by omega)) (Q7 (by omega) (Q8 ?_ (Q7 (by omega) (Q3 h k1))));rw [decide_eq_true (by omega:0<i),Bool.true_and] at g
  exact g
 ·show Q1t F l a (l.length:Int)=_
  unfold Q1t Z0r Y5f;refine Q8 (decide_eq_false (by omega)) ?_
  have m:∀ j,j<l.length->0<=(gl l j).N_:=fun j u=>by
   have:=b j u
   unfold Z6G at this;rw [Bool.or_eq_false_iff] at this
   exact (Y0q (by simpa using this.1)).1
  refine (Z1u (c:=fun i=>some ((i:Int),17)) (y:=some (-1,0)) l.length (fun i=> !Y1z l (gl l i)) (fun a i f _ b=>?_) (fun a i z f _ b t=>?_) (fun b a=>?_) (by omega)).trans ?_
  ·show Q1s F l a (i:Int)=_
   unfold Q1s;exact Z5 (decide_eq_true (by omega)) (Q7 (by omega) (Q3 (Z3u k (by omega) (m i f)) (Z5 b rfl)))
  ·show Q1s F l a (i:Int)=_
   unfold Q1s;exact Z5 (decide_eq_true (by omega)) (Q7 (by omega) (Q3 (Z3u k (by omega) (m i f)) (Q8 b (Q7 (Z7 (by omega) (by omega)) t))))
  ·show Q1s F l a (l.length:Int)=_
   unfold Q1s;exact Q8 (decide_eq_false (by omega)) rfl
  ·cases (List.range l.length).find? fun i=> !Y1z l (gl l i) <;> rfl
 ·cases (List.range l.length).find? (Z6G d l) <;> rfl
theorem Y2r {d F:Nat} (hd:d<=2000000) (hF:BIG+d<=F) {l:List Scheme} (hl:∀ s ∈ l,SD d s):Z2B F l=some (Y5e d l):=by
 have H:BIG<=F:=by omega
 have G:=H;unfold BIG at G
 unfold Z2B Y5e
 by_cases h16:16<l.length
 ·rw [if_pos h16];exact Z5 (decide_eq_true (by omega)) rfl
 rw [if_neg h16];refine Q8 (decide_eq_false (by omega)) ?_
 have N:∀ a b:ByteArray,sEq a b=sEq a b:=fun _ _=>rfl
 have t:∀ (f:Int->Option (Int×Int)) (i:Nat),i<l.length->∀ {y:Option (Int×Int)},(twB l i=false->f ((i:Int)+1)=y)->Z3 (fun m (z:Int)=>Q1h F l (i:Int) f m z) F (0:Int)=if twB l i=true then some ((i:Int),6) else y:=by
  intro f i o y E;have e:twB l i=(List.range i).any fun k=>sEq (gl l k).n_ (gl l i).n_||(decide (k=i-1)&&decide ((gl l i).N_<=(gl l k).N_)):=by
   unfold twB;rw [Bool.eq_iff_iff,Bool.or_eq_true,Bool.and_eq_true,List.any_eq_true,List.any_eq_true]
   constructor
   ·rintro (⟨q,C⟩|⟨x,hx,h⟩)
    ·refine ⟨i-1,List.mem_range.2 (by have:=of_decide_eq_true q;omega),?_⟩
     rw [C];simp
    ·obtain ⟨k,p,rfl⟩:=List.getElem_of_mem hx
     rw [List.length_take] at p;refine ⟨k,List.mem_range.2 (by omega),?_⟩
     rw [List.getElem_take, <-y7 (by omega)] at h;rw [h];rfl
   ·rintro ⟨k,p,h⟩
    have p:=List.mem_range.1 p;rw [Bool.or_eq_true,Bool.and_eq_true] at h
    rcases h with h|⟨q,C⟩
    ·exact .inr ⟨gl l k,List.mem_take_iff_getElem.2 ⟨k,by omega,(y7 (by omega)).symm⟩,h⟩
    ·have q:=of_decide_eq_true q
     subst q;exact .inl ⟨decide_eq_true (by omega),C⟩
  have B:∀ k,k<i->gl (l.take i) k=gl l k:=fun k p=>by rw [y7 (by simp;omega),y7 (by omega),List.getElem_take]
  have K:((i:Nat):Int).toNat=i:=Int.toNat_natCast i;have r:(l.take ((i:Nat):Int).toNat).length=i:=by simp;omega
  refine (Z1u (c:=fun _=>some ((i:Int),(6:Int))) (y:=y) i (fun k=>sEq (gl l k).n_ (gl l i).n_||(decide (k=i-1)&&decide ((gl l i).N_<=(gl l k).N_))) (fun m k p _ g=>?_) (fun m k z p _ g w=>?_) (fun g m=>?_) (by omega)).trans ?_
  ·show Q1h F l (i:Int) f m (k:Int)=_
   unfold Q1h;have k2:Q3l F (i:Int) (k:Int) m true=some ((i:Int),6):=rfl
   refine Z5 (decide_eq_true (by rw [r];omega)) (Q7 (by rw [r];omega) ?_);simp only [Int.toNat_natCast,B k p]
   refine Q9 (fun _=>k2) (fun q=>Q7 (Z7 (by omega) (by omega)) ?_);rw [q,Bool.false_or,Bool.and_eq_true] at g
   refine Z5 (by have:=of_decide_eq_true g.1;simp;omega) ?_;rw [g.2];exact k2
  ·show Q1h F l (i:Int) f m (k:Int)=_
   unfold Q1h;have k2:Q3l F (i:Int) (k:Int) m false=z:=Q8 rfl (Q7 (Z7 (by omega) (by omega)) w)
   refine Z5 (decide_eq_true (by rw [r];omega)) (Q7 (by rw [r];omega) ?_);simp only [Int.toNat_natCast,B k p]
   rw [Bool.or_eq_false_iff] at g;refine Q8 g.1 (Q7 (Z7 (by omega) (by omega)) (Q9 (fun q=>?_) (fun _=>k2)))
   have q:k=i-1:=by simp at q;omega
   have:=g.2
   rw [decide_eq_true q,Bool.true_and] at this;rw [this];exact k2
  ·show Q1h F l (i:Int) f m (i:Int)=_
   unfold Q1h;refine Q8 (decide_eq_false (by rw [r];omega)) ?_
   have D:twB l i=false:=by rw [e,List.any_eq_false];intro k p;rw [g k (List.mem_range.1 p)];simp
   exact Q7 (Z7 (by omega) (by omega)) (E D)
  ·cases hf:(List.range i).find? fun k=>sEq (gl l k).n_ (gl l i).n_||(decide (k=i-1)&&decide ((gl l i).N_<=(gl l k).N_)) with
   | some k=>
    have D:twB l i=true:=by rw [e,List.any_eq_true];have h:=List.find?_range_eq_some.1 hf;exact ⟨k,h.2.1,h.1⟩
    rw [if_pos D]
   | none=>
    have D:twB l i=false:=by rw [e,List.any_eq_false];intro k p;exact List.find?_eq_none.1 hf k p
    rw [if_neg (by simp [D])]
 refine (Z1u (c:=fun i=>some ((i:Int),if Q7t d (gl l i)≠0 then Q7t d (gl l i) else 6)) (y:=some (Y5f l)) l.length (Z6G d l) (fun f i o _ g=>?_) (fun f i z o _ g w=>?_) (fun g f=>?_) (by omega)).trans ?_
 ·show Q1V F l f (i:Int)=_
  unfold Q1V;refine Z5 (decide_eq_true (by omega)) (Q7 (by omega) (Q3 (Z9g hd hF (hl _ (W9 o))) ?_))
  by_cases u:Q7t d (gl l i)=0
  ·rw [if_neg (by simpa using u)]
   unfold Z6G at g;rw [decide_eq_false (by simpa using u),Bool.false_or] at g
   refine Q8 (by simp [u]) (Q7 (by omega) ((t f i o (y:=none) fun h=>by rw [g] at h;cases h).trans ?_));rw [if_pos g]
  ·rw [if_pos u];exact Z5 (by simpa using u) rfl
 ·show Q1V F l f (i:Int)=_
  unfold Q1V;unfold Z6G at g
  rw [Bool.or_eq_false_iff] at g;have u:Q7t d (gl l i)=0:=by simpa using g.1
  refine Z5 (decide_eq_true (by omega)) (Q7 (by omega) (Q3 (Z9g hd hF (hl _ (W9 o))) (Q8 (by simp [u]) (Q7 (by omega) ((t f i o fun _=>w).trans ?_)))));rw [if_neg (by simp [g.2])]
 ·show Q1V F l f (l.length:Int)=_
  unfold Q1V Z1Q Y5f;refine Q8 (decide_eq_false (by omega)) ?_
  have w:∀ j,j<l.length->0<=(gl l j).N_:=fun j L=>by
   have:=g j L
   unfold Z6G at this;rw [Bool.or_eq_false_iff] at this
   exact (Y0q (by simpa using this.1)).1
  have A:∀ (f:Int->Option (Int×Int)) (i:Nat),i<l.length->∀ {y:Option (Int×Int)},f ((i:Int)+1)=y->Z3 (fun m (z:Int)=>Q1g F l (i:Int) f m z) F (0:Int)=if (List.range 16).any (Y4N l (gl l i))=true then some ((i:Int),17) else y:=by
   intro f i o y E;refine Y4E (c:=some ((i:Int),17)) (y:=y) 16 (Y4N l (gl l i)) (fun m n M g=>?_) (fun m n z M g v=>?_) (fun m=>?_) (by omega)
   ·show Q1g F l (i:Int) f m (n:Int)=_
    unfold Q1g;unfold Y4N at g
    rw [Bool.and_eq_true] at g;obtain ⟨q,C⟩:=Z9z (Q6x (n:Nat)) l
    simp only [Int.toNat_natCast (n:=i)];refine Z5 (decide_eq_true (by omega)) (Q7 (by omega) (Q8 (by rw [Q4j,g.1];rfl) (Q3 (Z7I H (by omega) _) ?_)))
    refine Q9 (fun _=>rfl) (fun J=>Q7 (by have:=of_decide_eq_false J;omega) (Q7 (w i o) ?_));rw [Q4j]
    have:=g.2
    rw [J,Bool.false_or] at this;rw [this];rfl
   ·show Q1g F l (i:Int) f m (n:Int)=_
    unfold Q1g;unfold Y4N at g
    obtain ⟨q,C⟩:=Z9z (Q6x (n:Nat)) l;simp only [Int.toNat_natCast (n:=i)]
    have I:Q7K F (n:Int) m=z:=Q7 (Z7 (by omega) (by omega)) v;refine Z5 (decide_eq_true (by omega)) (Q7 (by omega) ?_)
    rw [Q4j]
    cases hb:Q6E (gl l i).excludes_ n with
    | false=>exact Z5 rfl I
    | true=>
     rw [hb,Bool.true_and,Bool.or_eq_false_iff] at g;refine Q8 rfl (Q3 (Z7I H (by omega) _) (Q8 g.1 (Q7 (by have:=of_decide_eq_false g.1;omega) (Q7 (w i o) ?_))))
     rw [Q4j,g.2];unfold Q7L;exact Q8 rfl I
   ·show Q1g F l (i:Int) f m (16:Int)=_
    unfold Q1g;exact Q8 (by decide) (Q7 (Z7 (by omega) (by omega)) E)
  refine (Z1u (c:=fun i=>some ((i:Int),17)) (y:=some (-1,0)) l.length (fun i=> !Y1z l (gl l i)) (fun f i o _ g=>?_) (fun f i z o _ g v=>?_) (fun g f=>?_) (by omega)).trans ?_
  ·show Q1U F l f (i:Int)=_
   unfold Q1U;unfold Y1z at g
   rw [Bool.not_not] at g;refine Z5 (decide_eq_true (by omega)) (Q7 (by omega) ((A f i o rfl).trans ?_))
   rw [if_pos g]
  ·show Q1U F l f (i:Int)=_
   unfold Q1U;unfold Y1z at g
   rw [Bool.not_not] at g;refine Z5 (decide_eq_true (by omega)) (Q7 (by omega) ((A f i o v).trans ?_))
   rw [if_neg (by simp [g])]
  ·show Q1U F l f (l.length:Int)=_
   unfold Q1U;exact Q8 (decide_eq_false (by omega)) rfl
  ·cases (List.range l.length).find? fun i=> !Y1z l (gl l i) <;> rfl
 ·cases (List.range l.length).find? (Z6G d l) <;> rfl
end
end Go.Ab
end
section
end
section
namespace Go.Ab
set_option maxRecDepth 20000
noncomputable section
structure GoodL (d:Nat) (l:List Scheme):Prop where
 len:l.length<=16
 one:∀ i,i<l.length->Q7t d (gl l i)=0
 asc:∀ i,0<i->i<l.length->(gl l (i-1)).N_<(gl l i).N_
 nam:∀ i,i<l.length->((l.take i).any fun x=>sEq x.n_ (gl l i).n_)=false
 mtl:∀ i,i<l.length->Y1z l (gl l i)=true
theorem Y6n {d:Nat} {l:List Scheme} (h:GoodL d l):Y5e d l=(-1,0):=by
 obtain ⟨g,c,b,f,e⟩:=h;unfold Y5e
 rw [if_neg (by omega)];rw [List.find?_eq_none.2 fun i a=>by
  have a:=List.mem_range.1 a;unfold Z6G twB
  rw [c i a,f i a]
  by_cases h0:0<i
  ·have:=b i h0 a
   rw [decide_eq_false (p:=(gl l i).N_<=(gl l (i-1)).N_) (by omega)];simp
  ·rw [decide_eq_false h0];simp]
 show Y5f l=_;unfold Y5f
 rw [List.find?_eq_none.2 fun i a=>by rw [e i (List.mem_range.1 a)];simp]
theorem Y9d {d:Nat} {l:List Scheme}:(Y5e d l).2=0↔GoodL d l:=by
 unfold Y5e;constructor
 ·intro h
  by_cases h16:16<l.length
  ·rw [if_pos h16] at h;cases h
  rw [if_neg h16] at h
  cases hf:(List.range l.length).find? (Z6G d l) with
  | some i=>
   rw [hf] at h
   exfalso
   revert h
   show ¬ (if Q7t d (gl l i)≠0 then Q7t d (gl l i) else 6)=0;split
   ·assumption
   ·omega
  | none=>
   rw [hf] at h;have b:∀ i,i<l.length->Z6G d l i=false:=fun i a=>by have:=List.find?_eq_none.1 hf i (List.mem_range.2 a);simpa using this
   have h:(Y5f l).2=0:=h;unfold Y5f at h
   cases hg:(List.range l.length).find? fun i=> !Y1z l (gl l i) with
   | some i=>rw [hg] at h;exact absurd h (by show ¬ (17:Int)=0;omega)
   | none=>
    have e:∀ i,i<l.length->Y1z l (gl l i)=true:=fun i a=>by have:=List.find?_eq_none.1 hg i (List.mem_range.2 a);simpa using this
    refine ⟨by omega,fun i a=>?_,fun i c a=>?_,fun i a=>?_,e⟩
    ·have:=b i a
     unfold Z6G at this;rw [Bool.or_eq_false_iff] at this
     simpa using this.1
    ·have:=b i a
     unfold Z6G twB at this;rw [Bool.or_eq_false_iff,Bool.or_eq_false_iff] at this
     have:=this.2.1
     rw [decide_eq_true c,Bool.true_and,decide_eq_false_iff_not] at this;omega
    ·have:=b i a
     unfold Z6G twB at this;rw [Bool.or_eq_false_iff,Bool.or_eq_false_iff] at this
     exact this.2.2
 ·intro h
  have:=Y6n h
  unfold Y5e at this;rw [this]
end
end Go.Ab
end
section
namespace Go.Ab
set_option maxRecDepth 20000
noncomputable section
end
end Go.Ab
end
section
namespace Go.Ab
set_option maxRecDepth 20000
noncomputable section
theorem Y8t {l:List Rect} (h:Val l):0<=area l/\area l<=40000000000:=by
 unfold area;have:=Z9X (l:=l.map ar1) (M:=268435456) (fun x a=>by
  obtain ⟨r,b,rfl⟩:=List.mem_map.1 a;exact Y3m (h.2.1 r b))
 rw [List.length_map] at this;have:=h.1
 omega
end
end Go.Ab
end
section
end
section
namespace Go.Ab
set_option maxRecDepth 20000
noncomputable section
theorem Z7m {F:Nat} (hF:1<=F) {n:Int} (h0:0<=n) (h1:n<=9):∃ s,Q4s F n=some s/\s.size<=10:=by
 cases F with
 | zero=>omega
 | succ F=>
  refine ⟨bOf (IntKind.wrap .u8 (48+n)),?_,by unfold bOf;simp⟩;show Q6Q F (Q4s F) n=_
  unfold Q6Q;exact Q8 (decide_eq_false (by omega)) (Z5 (decide_eq_true (by omega)) (Q7 (Z7 (by omega) (by omega)) rfl))
theorem Y4J {k:Int} (h0:0<=k) (h1:k<=10):1<=(1:Int)*2 ^ (min k.toNat (IntKind.bits .i64))/\(1:Int)*2 ^ (min k.toNat (IntKind.bits .i64))<=1024:=by
 have a:k=0\/k=1\/k=2\/k=3\/k=4\/k=5\/k=6\/k=7\/k=8\/k=9\/k=10:=by omega
 rcases a with rfl|rfl|rfl|rfl|rfl|rfl|rfl|rfl|rfl|rfl|rfl <;> decide
theorem Y7I {d:Nat} {a b c:Int} (h1:I64 a) (h2:I64 b):TD (d+1) ⟨a,b,c,[]⟩:=⟨h1,h2,by simp,fun k e=>(List.not_mem_nil e).elim⟩
theorem Q4Q:∀ (n:Nat) {F:Nat} (_:n+1<=F) {t:Tape} (_:TOk t) (_:n<=5),∃ t' x,K5 F t (n:Int)=some (t',x)/\TOk t' /\ TD (n+1) x
 | n,0,hF,_,_,_=>by omega
 | n,F+1,hF,t,ht,hn=>by
  show ∃ t' x,Q5O F (K5 F) t (n:Int)=some (t',x)/\_;unfold Q5O
  have k2:∀ (u:Tape×Int) (a b:Int) (v:Tape),TOk v->I64 u.2->I64 a->Ok (J6 F (K5 F) u a b v.l_ v.at_) fun z=>TOk z.1/\TD (n+1) z.2:=fun u a b v D H G=>by
   unfold J6;exact Z6X ⟨D,Y7I H G⟩
  have g:∀ (v:Tape),TOk v->Ok ((V6 F v (1:Int) (8:Int)).bind fun z=>br (z.2==(2:Int)) (Q0D F (K5 F) z (z.2==(2:Int))) (Q0D F (K5 F) z (z.2==(3:Int)))) fun z=>TOk z.1/\TD (n+1) z.2:=fun v D=>by
   obtain ⟨A,o,B,f,O,R⟩:=V7 (F:=F) D (lo:=1) (hi:=8) (by omega) (by omega) (by omega);have j:I64 o:=Z7 (by omega) (by omega)
   have k1:∀ b,Ok (Q0D F (K5 F) (A,o) b) fun z=>TOk z.1/\TD (n+1) z.2:=fun b=>by
    unfold Q0D;refine Q6v (fun _=>?_) (fun _=>Q6v (fun _=>?_) (fun _=>Q6v (fun _=>?_) (fun _=>Q6v (fun _=>?_) (fun _=>Q6v (fun _=>?_) (fun _=>Q6v (fun _=>?_) (fun _=>?_))))))
    ·obtain ⟨e,k,d,c,i,w⟩:=Z6 (F:=F) f (n:=4) (by omega) (by omega)
     exact Q4O d (k2 _ _ _ e c j (Z7 (by omega) (by omega)))
    ·obtain ⟨e,k,d,c,i,w⟩:=Z6 (F:=F) f (n:=5) (by omega) (by omega)
     have:=Y4J i (by omega)
     exact Q4O d (Q1I ⟨Z7 (by simp only;omega) (by simp only;omega),i⟩ (k2 _ _ _ e c j (Z7 (by simp only;omega) (by simp only;omega))))
    ·obtain ⟨e,k,d,c,i,w⟩:=Z6 (F:=F) f (n:=16) (by omega) (by omega)
     exact Q4O d (k2 _ _ _ e c j (Z7 (by omega) (by omega)))
    ·obtain ⟨e,k,d,c,i,w⟩:=V7 (F:=F) f (lo:=2) (hi:=3) (by omega) (by omega) (by omega)
     exact Q4O d (k2 _ _ _ e c j (Z7 (by omega) (by omega)))
    ·obtain ⟨e,k,d,c,i,w⟩:=V7 (F:=F) f (lo:=1) (hi:=2) (by omega) (by omega) (by omega)
     obtain ⟨C,m,s,p,I,Q⟩:=Z6 (F:=F) c (n:=5) (by omega) (by omega);have:=Y4J I (by omega)
     exact Q4O d (Q4O s (Q1I ⟨Z7 (by simp only;omega) (by simp only;omega),I⟩ (k2 _ _ _ C p j (Z7 (by simp only;omega) (by simp only;omega)))))
    ·obtain ⟨e,k,d,c,i,w⟩:=V7 (F:=F) f (lo:=1) (hi:=3) (by omega) (by omega) (by omega)
     exact Q4O d (k2 _ _ _ e c j (Z7 (by omega) (by omega)))
    ·exact k2 _ _ _ A f j (Z7 (by omega) (by omega))
   exact Q4O B (Q6v (fun _=>k1 _) (fun _=>k1 _))
  have l:Ok (br (decide ((0:Int)<(n:Int))) ((Q2T F t (2:Int)).bind fun z=>Q0E F (K5 F) (n:Int) z.2 z.1.l_ z.1.at_) (Q0E F (K5 F) (n:Int) false t.l_ t.at_)) fun z=>TOk z.1/\TD (n+1) z.2:=by
   refine Q6v (fun h=>?_) (fun _=>?_)
   ·have h:=of_decide_eq_true h
    obtain ⟨m,rfl⟩:∃ m,n=m+1:=⟨n-1,by omega⟩;obtain ⟨A,b,B,f⟩:=Q8Z (F:=F) ht (n:=2) (by omega) (by omega)
    refine Q4O B ?_;unfold Q0E
    refine Q6v (fun _=>?_) (fun _=>g A f);obtain ⟨e,k,d,c,_,_⟩:=Z6 (F:=F) f (n:=3) (by omega) (by omega)
    refine Q4O d ?_;have J:((m+1:Nat):Int)-1=(m:Int):=by omega
    refine Q6v (fun _=>Q1I (Z7 (by omega) (by omega)) ?_) (fun _=>Q6v (fun _=>Q1I (Z7 (by omega) (by omega)) ?_) (fun _=>Q1I (Z7 (by omega) (by omega)) ?_))
    ·rw [J]
     obtain ⟨C,x,s,p,q⟩:=Q4Q m (by omega:m+1<=F) c (by omega);exact Q4O s (Q1I q.op (Z6X ⟨p,Z7 (by simp only;omega) (by simp only;omega),Z7 (by simp only;omega) (by simp only;omega),by simp,fun k E=>by rw [List.mem_singleton.1 E];exact q⟩))
    all_goals
     rw [J];obtain ⟨C,x,s,p,q⟩:=Q4Q m (by omega:m+1<=F) c (by omega)
     obtain ⟨P,y,N,L,K⟩:=Q4Q m (by omega:m+1<=F) p (by omega);refine Q4O s (Q1I (Z7 (by omega) (by omega)) (Q4O N (Q1I q.op (Q1I K.op (Z6X ⟨L,Z7 (by simp only;omega) (by simp only;omega),Z7 (by simp only;omega) (by simp only;omega),by simp,fun k E=>?_⟩)))))
     rcases List.mem_cons.1 E with h|h
     ·rw [h];exact q
     ·rw [List.mem_singleton.1 h];exact K
   ·unfold Q0E
    exact Q6v (fun h=>by cases h) (fun _=>g t ht)
  obtain ⟨r,M,H,G⟩:=l;exact ⟨r.1,r.2,M,H,G⟩
structure ST (s:Scheme):Prop where
 sd:SD 3 s
 num:0<=s.N_/\s.N_<=3
theorem ST.excl {s:Scheme} (h:ST s) (e:Int):ST { s with excludes_:=e }:=⟨⟨h.sd.cond,h.sd.name,h.sd.brl⟩,h.num⟩
theorem Y9s {l:List Scheme} (h:∀ s ∈ l,ST s) {i:Nat} {x:Scheme} (hx:ST x):∀ s ∈ l.set i x,ST s:=fun s b=>by
 rcases List.mem_or_eq_of_mem_set b with a|a
 ·exact h s a
 ·rw [a];exact hx
structure LT (L:List Scheme):Prop where
 st:∀ s ∈ L,ST s
 len:L.length<=3
theorem Y0x {F:Nat} (hF:BIG+3<=F) {t:Tape} (ht:TOk t) {most:Int} (m0:0<=most) (m1:most<=3):∃ t' L,Q6w F t most=some (t',L)/\TOk t' /\ LT L/\(L=[]\/GoodL 3 L):=by
 have hB:BIG<=F:=by omega
 have a4:=hB;unfold BIG at a4
 unfold Q6w;obtain ⟨t1,n,e1,o1,O,n1⟩:=Z6 (F:=F) ht (n:=2) (by omega) (by omega)
 obtain ⟨t2,k,e2,o2,U,k1⟩:=Z6 (F:=F) o1 (n:=most+1) (by omega) (by omega)
 suffices h:Ok (Z3 (fun e (z:Int×Int×(List Int)×Int×(List Scheme))=>Q5Q F e z.1 z.2.1 z.2.2.1 z.2.2.2.1 z.2.2.2.2) F (n,k,t2.l_,t2.at_,([]:List Scheme))) fun z=>TOk z.1/\LT z.2/\(z.2=[]\/GoodL 3 z.2) by
  obtain ⟨r,hr,h1,P,K⟩:=h;exact ⟨r.1,r.2,Q3 e1 (Q7 (Z7 (by omega) (by omega)) (Q3 e2 hr)),h1,P,K⟩
 have T:∀ (L:List Scheme) (v:Tape),TOk v->LT L->Ok (Q4R F L v.l_ v.at_) fun z=>TOk z.1/\LT z.2/\(z.2=[]\/GoodL 3 z.2):=fun L v f C=>by
  unfold Q4R;refine Q4O (Y2r (d:=3) (by omega) hF fun s I=>(C.st s I).sd) (Q6v (fun _=>?_) (fun h=>?_))
  ·exact Z6X ⟨f,⟨fun s I=>(List.not_mem_nil I).elim,by simp⟩,.inl rfl⟩
  ·exact Z6X ⟨f,C,.inr (Y9d.1 (by simpa using h))⟩
 have k5:∀ (L:List Scheme) (v:Tape),TOk v->LT L->Ok (Q5P F v.l_ v.at_ L) fun z=>TOk z.1/\LT z.2/\(z.2=[]\/GoodL 3 z.2):=fun L v f C=>by
  have b3:=C.len;unfold Q5P
  refine Z9r (fun z:Int×(List Int)×Int×(List Scheme)=>0<=z.1/\z.1<=L.length/\TOk ⟨z.2.1,z.2.2.1⟩/\LT z.2.2.2/\z.2.2.2.length=L.length) (fun z=>L.length-z.1.toNat) (fun e z H Y=>?_) ⟨by simp,by simp,f,C,rfl⟩ (by simp;omega);obtain ⟨i,a,b,M⟩:=z
  obtain ⟨i0,i1,f,p,o⟩:=H;simp only at i0 i1 f p o
  show Ok (Q9e F L e i a b M) _;unfold Q9e
  refine Q6v (fun h=>?_) (fun _=>T M ⟨a,b⟩ f p);have h:=of_decide_eq_true h
  refine Q1I (by omega) ?_;refine Z9r (fun z:Int×(List Int)×Int×(List Scheme)=>0<=z.1/\z.1<=i/\TOk ⟨z.2.1,z.2.2.1⟩/\LT z.2.2.2/\z.2.2.2.length=L.length) (fun z=>i.toNat-z.1.toNat) (fun S z H D=>?_) ⟨by simp,by simpa using i0,f,p,o⟩ (by simp;omega)
  obtain ⟨j,a,b,M⟩:=z;obtain ⟨j0,j1,f,p,o⟩:=H
  simp only at j0 j1 f p o;show Ok (Q9d F i e S j a b M) _
  unfold Q9d;refine Q6v (fun P=>?_) (fun _=>?_)
  ·have P:=of_decide_eq_true P
   obtain ⟨R,c,e3,Q⟩:=Q8Z (F:=F) f (n:=3) (by omega) (by omega);have k8:∀ (N:List Scheme) (v:Tape),TOk v->LT N->N.length=L.length->Ok (Q3q F j S v.l_ v.at_ N) fun z=>TOk z.1/\LT z.2/\(z.2=[]\/GoodL 3 z.2):=fun N v f hN o=>by
    unfold Q3q;exact Q1I (Z7 (by omega) (by omega)) (D _ ⟨by simp only;omega,by simp only;omega,f,hN,o⟩ (by simp only;omega))
   refine Q4O e3 (Q6v (fun _=>?_) (fun _=>k8 M R Q p o));have hj:=p.st _ (W9 (l:=M) (i:=j.toNat) (by omega))
   have hi:=p.st _ (W9 (l:=M) (i:=i.toNat) (by omega));have p1:=Y4J hj.num.1 (by have:=hj.num.2;omega)
   refine Q1I (by omega) (Q1I (by omega) (Q1I ⟨Z7 (by omega) (by omega),hj.num.1⟩ (Q1I (by omega) ?_)));have A:∀ s ∈ M.set i.toNat ⟨(gl M i.toNat).N_,(gl M i.toNat).n_,(gl M i.toNat).cond_,(gl M i.toNat).brackets_,(gl M i.toNat).least_,bor .i64 (gl M i.toNat).excludes_ ((1:Int)*2 ^ (min (gl M j.toNat).N_.toNat (IntKind.bits .i64))),(gl M i.toNat).needs_⟩,ST s:=Y9s p.st (hi.excl _)
   generalize hN:M.set i.toNat _=N at A ⊢;have b7:N.length=M.length:=by rw [<-hN];simp
   have G:=A _ (W9 (l:=N) (i:=i.toNat) (by omega));have X:=A _ (W9 (l:=N) (i:=j.toNat) (by omega))
   have p2:=Y4J G.num.1 (by have:=G.num.2;omega);refine Q1I (by omega) (Q1I (by omega) (Q1I ⟨Z7 (by omega) (by omega),G.num.1⟩ (Q1I (by omega) ?_)))
   exact k8 _ R Q ⟨Y9s A (X.excl _),by simp;omega⟩ (by simp;omega)
  ·unfold Q9a
   exact Q1I (Z7 (by omega) (by omega)) (Y _ ⟨by simp only;omega,by simp only;omega,f,p,o⟩ (by simp only;omega))
 refine Z9r (fun z:Int×Int×(List Int)×Int×(List Scheme)=>0<=z.1/\z.1<=5/\0<=z.2.1/\TOk ⟨z.2.2.1,z.2.2.2.1⟩/\(∀ s ∈ z.2.2.2.2,ST s)/\(z.2.2.2.2.length:Int)+z.2.1<=3) (fun z=>z.2.1.toNat) (fun e z H Y=>?_) ⟨by simpa using O,by simp only;omega,by simpa using U,o2,fun s I=>(List.not_mem_nil I).elim,by simp;omega⟩ (by simp only;omega);obtain ⟨n,k,a,b,L⟩:=z
 obtain ⟨O,n1,U,f,C,o⟩:=H;simp only at O n1 U f C o
 show Ok (Q5Q F e n k a b L) _;unfold Q5Q
 have W:LT L:=⟨C,by omega⟩;have kf:Ok (Q1M F n k a b L e false) fun z=>TOk z.1/\LT z.2/\(z.2=[]\/GoodL 3 z.2):=by
  unfold Q1M;exact Q6v (fun h=>by cases h) (fun _=>k5 L ⟨a,b⟩ f W)
 refine Q6v (fun h=>?_) (fun _=>kf);have h:=of_decide_eq_true h
 by_cases K:n<=3
 rotate_left
 ·rw [decide_eq_false K];exact kf
 rw [decide_eq_true K];unfold Q1M
 refine Q6v (fun _=>?_) (fun h=>by cases h);obtain ⟨s,es,I⟩:=Z7m (F:=F) (by omega) O (by omega)
 obtain ⟨R,x,e3,Q,hx⟩:=Q4Q 2 (by omega:3<=F) f (by omega);obtain ⟨t4,y,e4,o4,y0,y1⟩:=Z6 (F:=F) Q (n:=4) (by omega) (by omega)
 obtain ⟨t5,c,e5,o5⟩:=Q8Z (F:=F) o4 (n:=2) (by omega) (by omega);obtain ⟨t6,m,e6,o6,m0,m1⟩:=V7 (F:=F) o5 (lo:=1) (hi:=3) (by omega) (by omega) (by omega)
 have J:ByteArray.size (ByteArray.mk #[115])=1:=rfl;refine Q4O es (Q1I (by rw [J];unfold LIM;omega) (Q4O e3 (Q4O e4 (Q4O e5 (Q4O e6 ?_)))))
 refine Z9r (fun z:Int×Int×(List Int)×Int×(List Bracket)=>0<=z.1/\z.1+40*z.2.1<=120/\0<=z.2.1/\TOk ⟨z.2.2.1,z.2.2.2.1⟩/\(z.2.2.2.2.length:Int)+z.2.1<=3) (fun z=>z.2.1.toNat) (fun S z H D=>?_) ⟨by simp,by simp only;omega,by simp only;omega,o6,by simp;omega⟩ (by simp only;omega);obtain ⟨u,q,a2,b2,B⟩:=z
 obtain ⟨u0,u1,q0,E,Z⟩:=H;simp only at u0 u1 q0 E Z
 show Ok (Q9f F n k L s (R,x) (t4,y) (t5,c) e S u q a2 b2 B) _;unfold Q9f
 refine Q6v (fun h4=>?_) (fun _=>?_)
 ·have h4:=of_decide_eq_true h4
  obtain ⟨t7,w,e7,o7,w0,w1⟩:=V7 (F:=F) E (lo:=1) (hi:=40) (by omega) (by omega) (by omega);obtain ⟨t8,g,e8,o8,g0,g1⟩:=Z6 (F:=F) o7 (n:=3000) (by omega) (by omega)
  exact Q4O e7 (Q1I (Z7 (by simp only;omega) (by simp only;omega)) (Q4O e8 (Q1I (by simp only [List.length_cons,List.length_nil];unfold LIM;omega) (Q1I (Z7 (by omega) (by omega)) (D _ ⟨by simp only;omega,by simp only;omega,by simp only;omega,o8,by simp;omega⟩ (by simp only;omega))))))
 ·unfold Q9c
  obtain ⟨t9,w,e9,o9,w0,w1⟩:=V7 (F:=F) E (lo:=1) (hi:=2) (by omega) (by omega) (by omega);refine Q1I (by simp only [List.length_cons,List.length_nil];unfold LIM;omega) (Q4O e9 (Q1I (Z7 (by simp only;omega) (by simp only;omega)) ?_))
  unfold Q9b;refine Q1I (Z7 (by omega) (by omega)) (Y _ ⟨by simp only;omega,by simp only;omega,by simp only;omega,o9,fun s' a3=>?_,by simp;omega⟩ (by simp only;omega))
  rcases List.mem_append.1 a3 with V|V
  ·exact C s' V
  ·rw [List.mem_singleton.1 V]
   refine ⟨⟨hx,?_,by simp only;omega⟩,O,K⟩;show ((ByteArray.mk #[115])++s).size<=_
   rw [ByteArray.size_append,J];omega
end
end Go.Ab
end
section
namespace Go.Ab
set_option maxRecDepth 20000
noncomputable section
structure WT (w:World):Prop where
 yr:0<=w.y_/\w.y_<=4
 crops:CropT w.crops_
 his:HisT (w.crops_.length:Nat) w.history_
 hlen:w.history_.length<=5
 zon:LayT w.zones_
 zlen:w.zones_.length<=3
 day:0<=w.day_/\w.day_<=24
 most:0<=w.most_/\w.most_<=300
theorem HisT.few5 {K:Int} {H:List Rg_} (h:HisT K H) (hl:H.length<=5):FewR H:=⟨h.hl,fun y p i a=>by
 have:=W1h h y p i (by omega)
 omega⟩
theorem Box.up {n m:Int} {l:List Rect} (h:Box n l) (hm:n<=m):Box m l:=fun r a=>by
 have:=h r a
 omega
theorem WT.lb {w:World} (h:WT w):LB 9 w.zones_:=h.zon.lb
theorem WT.ev {w:World} (h:WT w) {A:List Rect} (hA:TR A) {c:Int} (hc:0<=c/\c<(w.crops_.length:Nat)):EV w.y_ w.crops_ w.history_ w.zones_ c A:=by
 have b:=h.crops.one c.toNat (by omega);exact ⟨hA,hc,b.2.1,⟨b.2.2.2.1,b.2.2.2.2⟩,h.his.few5 h.hlen,fun f a=>(h.his.box f a).up (by omega),fun f a=>⟨((Q8X f).1 (h.his.hl.one f a)).2.2.1,h.his.crop f a⟩,by have:=h.yr;omega,⟨h.zon.vl,fun f a=>(h.lb.box f a).up (by omega),by omega⟩⟩
theorem WT.chk {w:World} (h:WT w) {A:List Rect} (hA:TR A) {c:Int} (hc:0<=c/\c<(w.crops_.length:Nat)) {e:Nat} {t:Term} (ht:Q8A e t=0):Z7y e t w.crops_ c w.history_ w.y_ w.zones_ w.day_ A=0:=by
 have g:=h.yr;have f:=h.day
 have d:∀ k:Int,0<=k->k<(w.crops_.length:Nat)->Q7u w.crops_ k=false:=fun k j i=>by
  unfold Q7u;rw [decide_eq_false (by omega),decide_eq_false (by omega)];rfl
 have a:(w.history_.any fun r=>Q7u w.crops_ r.c_)=false:=by
  rw [List.any_eq_false];intro r b
  rw [d _ ((Q8X r).1 (h.his.hl.one r b)).2.2.1 (h.his.crop r b)];exact Bool.noConfusion
 unfold Z7y;rw [if_neg (by rw [ht];simp),if_neg (by rw [h.crops.crC];simp),if_neg (by rw [d c hc.1 hc.2,a];simp),if_neg (by rw [(Z3W _).2 h.his.hl];simp),if_neg (by omega),if_neg (by rw [(Z1w _).2 h.zon.vl];simp),if_neg (by omega),if_pos ((Q0P _).2 hA.val)]
def lnT (w:World) (x:Line) (parcel:Re_) (s:Scheme):TS:=
 if Q6E x.s_ s.N_=false then Z8J x.g_.t_ false
 else Z7n x.g_.t_ (evS w.y_ w.crops_ w.history_ w.zones_ w.day_ x.c_ x.g_.t_ 3 s.cond_) (elS w.zones_ w.day_ w.most_ parcel.t_)
theorem Y1b (w:World) (x:Line) (parcel:Re_) (s:Scheme):TIn x.g_.t_ (lnT w x parcel s):=by
 unfold lnT;split
 ·exact Y0R _ _
 ·exact Y9X (Y3a _ _) (Y7o _ _ _ _)
theorem W2N {w:World} {x:Line} {parcel:Re_} {s:Scheme} (u v:Int) (h1:(lnT w x parcel s).Y u v=true) (h2:(lnT w x parcel s).N u v=true):False:=by
 unfold lnT at h1 h2;split at h1
 ·cases h1
 ·rename_i q
  rw [if_neg q] at h2;simp only [Z7n] at h1 h2
  rw [h1] at h2;simp at h2
theorem W2i {A:List Rect} (h:Val A):(Z8J A false).t3 A=⟨⟨[]⟩,⟨A⟩,⟨[]⟩⟩:=by
 unfold TS.t3;rw [Y8w,Y3h]
 show Truth.mk ⟨cn fun _ _=>false⟩ ⟨cn (inR A)⟩ ⟨[]⟩=_;rw [Y3h,Y7t h]
theorem Y5N {F n:Nat} (hF:BIG+3<=F) {w:World} {x:Line} (hE:EV w.y_ w.crops_ w.history_ w.zones_ x.c_ x.g_.t_) {s:Scheme} (hk:Z7y 3 s.cond_ w.crops_ x.c_ w.history_ w.y_ w.zones_ w.day_ x.g_.t_=0) (hl:w.history_.length<=1000000) (hn:NmS w.crops_) (hL:LB n w.zones_) (d1:0<=w.day_) (d2:w.day_<=36864) (m1:0<=w.most_) (m2:w.most_<=268435456)
  (hs:SD 3 s) (h1:Q7t 3 s=0) {parcel:Re_} (hp:TR parcel.t_) (hsub:∀ u v,inR x.g_.t_ u v=true->inR parcel.t_ u v=true) :
  Q1e F x parcel s w=some ((lnT w x parcel s).t3 x.g_.t_,0):=by
 have c:BIG<=F:=by omega
 have b:=hE.tr;have d:=Z9T c hL d1 d2 hp m1 m2
 rw [Y0K (e:=3) (by omega) hF hs hl hn (fun _=>hE) d fun _=>W2u hp _ _];have hE:(Z8a 3 s.cond_ x w.y_ w.crops_ w.history_ w.zones_ w.day_).2=0:=by
  unfold Z8a;rw [if_neg (by rw [hk];simp)]
 have a:Z7B x.g_ parcel=true:=(Y3O b.val hp.val).2 hsub;unfold Y9W
 rw [if_neg (by rw [(Q0P _).2 hp.val];simp),if_neg (by rw [hE];simp),if_neg (by rw [h1];simp),if_neg (by simp),if_neg (by rw [a];simp)];unfold lnT
 by_cases q:Q6E x.s_ s.N_=false
 ·rw [if_pos q,if_pos q,W2i b.val]
 ·rw [if_neg q,if_neg q]
  show some ((Z7n _ _ (inR (cn (elS w.zones_ w.day_ w.most_ parcel.t_)))).t3 _,(0:Int))=_;rw [Q0n (Y7o _ _ _ _)]
theorem Y8S {F:Nat} (hF:BIG+3<=F) {w:World} (hw:WT w) {x:Line} (hA:TR x.g_.t_) (hc:0<=x.c_/\x.c_<(w.crops_.length:Nat)) {s:Scheme} (hs:SD 3 s) (h1:Q7t 3 s=0) {parcel:Re_} (hp:TR parcel.t_) (hsub:∀ u v,inR x.g_.t_ u v=true->inR parcel.t_ u v=true) :
  Q1e F x parcel s w=some ((lnT w x parcel s).t3 x.g_.t_,0):=by
 have b:=hw.day;have a:=hw.most
 have c:=hw.hlen;exact Y5N hF (hw.ev hA hc) (hw.chk hA hc (Y0q h1).2.2.2.2.2.1) (by omega) hw.crops.nm hw.lb b.1 (by omega) a.1 (by omega) hs h1 hp hsub
end
end Go.Ab
end
section
namespace Go.Ab
set_option maxRecDepth 20000
noncomputable section
theorem Y2L {F:Nat} {a n:Int} (h0:0<=a) (h1:a<n):Z2e F a n=some a:=by
 unfold Z2e;rw [Int.tmod_eq_of_lt h0 h1]
 exact Q8 (decide_eq_false (by omega)) (Q7 (by omega) (Q8 (decide_eq_false (by omega)) rfl))
structure PrT (rs:List Re_) (l:List Line) (ps:List Re_):Prop where
 len:ps.length=l.length
 at_:∀ i,i<l.length->gl ps i=gl rs ((gl l i).p_-1).toNat
theorem Y1A {F:Nat} (hF:BIG<=F) {K:Int} {rs:List Re_} (hp:ParT rs) {l:List Line} (hl:LinT K rs l) (h3:l.length<=100):∃ ps,Q8j F l rs=some ps/\PrT rs l ps:=by
 unfold BIG at hF;have q:=hp.len
 unfold Q8j
 suffices h:Ok (Z3 (fun b (z:Int×(List Re_))=>Q6T F l rs b z.1 z.2) F ((0:Int),([]:List Re_))) fun ps=>PrT rs l ps by
  obtain ⟨ps,e,m⟩:=h;exact ⟨ps,e,m⟩
 refine Z9r (fun z:Int×List Re_=>∃ i:Nat,z.1=i/\i<=l.length/\z.2.length=i/\∀ k,k<i->gl z.2 k=gl rs ((gl l k).p_-1).toNat) (fun z=>l.length-z.1.toNat) (fun b z n j=>?_) ⟨0,rfl,Nat.zero_le _,rfl,fun k f=>absurd f (Nat.not_lt_zero k)⟩ (by simp;omega);obtain ⟨a,ps⟩:=z
 obtain ⟨i,e,p,c,d⟩:=n;simp only at e c d
 subst e;show Ok (Q6T F l rs b (i:Int) ps) _
 unfold Q6T;refine Q6v (fun h=>?_) (fun h=>?_)
 ·have h:i<l.length:=by have:=of_decide_eq_true h;omega
  have o:=(hl.one _ (W9 h)).par;rw [Int.toNat_natCast]
  refine Q1I (by omega) (Q1I (Z7 (by omega) (by omega)) (Q4O (Y2L (by omega) (by omega)) (Q1I (by omega) (Q1I (by simp only [List.length_cons,List.length_nil];unfold LIM;omega) (Q1I (Z7 (by omega) (by omega)) (j _ ⟨i+1,by simp,h,by simp [c],fun k f=>?_⟩ (by simp only;omega)))))));rcases Nat.lt_or_ge k i with g|g
  ·rw [W0j _ _ (by omega)];exact d k g
  ·have:k=ps.length:=by omega
   subst this;rw [W0i,c]
 ·have h:i=l.length:=by have:=of_decide_eq_false h;omega
  unfold Z0C;exact Z6X ⟨by omega,fun k f=>d k (by omega)⟩
theorem Z8t {F:Nat} (hF:BIG<=F) {t:Tape} (ht:TOk t) {cs:List Crop} (hcs:CropT cs):∃ t' w,Q4f F t cs=some (t',w)/\TOk t' /\ WT w/\w.crops_=cs/\w.most_<=4:=by
 obtain ⟨x,y,e,p,E,s⟩:=Z6 (F:=F) ht (n:=5) (by omega) (by omega);obtain ⟨z,H,o,c,l,A⟩:=Z5t hF p hcs (most:=5) (by omega) (by omega)
 obtain ⟨D,Z,b,k,g,i⟩:=Z8v hF c (most:=3) (by omega) (by omega);obtain ⟨B,d,q,h,r,C⟩:=Z6 (F:=F) k (n:=25) (by omega) (by omega)
 obtain ⟨j,m,a,f,u,v⟩:=Z6 (F:=F) h (n:=5) (by omega) (by omega);refine ⟨j,⟨y,cs,H,Z,d,m⟩,?_,f,⟨by simp only;omega,hcs,l,by simp only;omega,g,by simp only;omega,by simp only;omega,by simp only;omega⟩,rfl,by simp only;omega⟩
 unfold Q4f;exact Q3 e (Q3 o (Q3 b (Q3 q (Q3 a rfl))))
def Y3R:Term:=⟨1,0,0,[]⟩
theorem W1l (d:Nat):TD (d+1) Y3R:=Y7I (Z7 (by omega) (by omega)) (Z7 (by omega) (by omega))
def exA:List Rect:=[⟨0,0,10,1⟩]
def exZ:List Rect:=[⟨3,0,5,1⟩]
def Z5u:Line:=⟨1,⟨exA⟩,0,1⟩
def exS:Scheme:=⟨0,ByteArray.mk #[115],Y3R,[⟨10,1⟩],0,0,false⟩
def exF:A2_:=⟨1,0,0,9,⟨exZ⟩⟩
def exW:World:=⟨0,[⟨ByteArray.mk #[114,121,101],0,0⟩],[],[exF],0,0⟩
theorem Y8h:Q6E 1 0=true/\Q6E 0 0=false:=by decide +kernel
theorem W1U:crC exW.crops_=0:=by decide +kernel
theorem W1W:Q7t 3 exS=0:=by
 have b:Q2G (ByteArray.mk #[115])=true:=by decide +kernel
 have a:brB [⟨10,1⟩]=true:=by decide +kernel
 show Q7t 3 ⟨0,ByteArray.mk #[115],Y3R,[⟨10,1⟩],0,0,false⟩=0;unfold Q7t
 rw [show Q8A 3 Y3R=0 from Y2b 2,if_neg (by simp),if_neg (by rw [b];simp),if_neg (by simp),if_neg (by rw [a];simp [Y8h.2])]
theorem Y8i:Val exA:=val_one (r:=⟨0,0,10,1⟩) (by decide)
theorem Y8g:Val exZ:=val_one (r:=⟨3,0,5,1⟩) (by decide)
theorem W2U (u v:Int):inR exA u v=true↔0<=u/\u<10/\0<=v/\v<1:=by
 unfold exA;rw [Q2I]
 constructor
 ·rintro ⟨r,a,h⟩
  rw [List.mem_singleton] at a;subst a
  rw [J2] at h;simp only at h
  omega
 ·intro h
  exact ⟨_,List.mem_singleton.2 rfl,(J2 _ _ _).2 (by simp only;omega)⟩
theorem W1X:Box (10:Nat) exA:=fun r a=>by
 unfold exA at a;rw [List.mem_singleton] at a
 subst a;decide
theorem TR.of_box {A:List Rect} (hv:Val A) {n:Nat} (hn:n<=15) (hb:Box n A):TR A:=⟨hv,fun b a=>(Y4w b hn fun x y h=>hb.in (a x y h)).1⟩
theorem Y2Z:TR exA:=TR.of_box Y8i (by omega) W1X
theorem Y5b:LB 10 exW.zones_:=by
 refine ⟨⟨by simp [exW],fun f a=>?_,by simp [exW]⟩,fun f a=>?_,by omega⟩
 ·have a:f=exF:=List.mem_singleton.1 a
  subst a;rw [Z6W]
  exact ⟨by decide,by decide,by decide,by decide,by decide,by decide,by decide,by decide,Y8g⟩
 ·have a:f=exF:=List.mem_singleton.1 a
  subst a;intro r b
  have b:r=⟨3,0,5,1⟩:=List.mem_singleton.1 b;subst b;decide
theorem W2T:EV exW.y_ exW.crops_ exW.history_ exW.zones_ Z5u.c_ Z5u.g_.t_:=
 ⟨Y2Z,by decide,by decide,by decide,⟨HL.nil,fun y p i b=>absurd b (Nat.not_lt_zero i)⟩,fun f a=>(List.not_mem_nil a).elim,fun f a=>(List.not_mem_nil a).elim,by decide,⟨Y5b.vl,fun f a=>(Y5b.box f a).up (by omega),by omega⟩⟩
theorem W1V:Z7y 3 exS.cond_ exW.crops_ Z5u.c_ exW.history_ exW.y_ exW.zones_ exW.day_ Z5u.g_.t_=0:=by
 have b:¬ (exW.y_<0\/100<exW.y_):=by decide
 have a:¬ (exW.day_<0\/36864<exW.day_):=by decide
 have c:(Q7u exW.crops_ Z5u.c_||exW.history_.any fun r=>Q7u exW.crops_ r.c_)=false:=by decide
 have d:Q8A 3 exS.cond_=0:=Y2b 2;unfold Z7y
 rw [if_neg (by rw [d];simp),if_neg (by rw [W1U];simp),if_neg (by rw [c];simp),if_neg (by rw [show Q9n exW.history_=0 from (Z3W _).2 HL.nil];simp),if_neg b,if_neg (by rw [(Z1w _).2 Y5b.vl];simp),if_neg a,if_pos ((Q0P Z5u.g_.t_).2 Y8i)]
theorem Y2K {F:Nat} (hF:BIG+3<=F):Z2K F=some true:=by
 have t:BIG<=F:=by omega
 have D:=Y5N (n:=10) hF (w:=exW) (x:=Z5u) W2T (s:=exS) W1V (by decide) (fun x i=>by
  have i:x=⟨ByteArray.mk #[114,121,101],0,0⟩:=List.mem_singleton.1 i;subst i;decide) Y5b (by decide) (by decide) (by decide) (by decide) ⟨W1l 2,by show (1:Nat)<=_;omega,by simp [exS]⟩ W1W (parcel:=⟨exA⟩) Y2Z fun u v h=>h
 have b:TIn exA (lnT exW Z5u ⟨exA⟩ exS):=Y1b exW Z5u ⟨exA⟩ exS;have a:lnT exW Z5u ⟨exA⟩ exS=Z7n exA (evS exW.y_ exW.crops_ exW.history_ exW.zones_ exW.day_ Z5u.c_ exA 3 Y3R) (elS exW.zones_ exW.day_ exW.most_ exA):=by
  unfold lnT;rw [if_neg (by rw [show Q6E Z5u.s_ exS.N_=Q6E 1 0 from rfl,Y8h.1];simp)];rfl
 have d:evS exW.y_ exW.crops_ exW.history_ exW.zones_ exW.day_ Z5u.c_ exA 3 Y3R=Z8J exA true:=by
  rfl
 have j:Q0q [exF] 0 (zp 0)=exZ:=by decide +kernel
 have g:Q0q [exF] 0 (zp 1)=[]:=by decide +kernel
 have o:Z4T [exF] 0 exA=[]:=by
  unfold Z4T;rw [g]
  exact Y3h
 have l:Y1a ([]:List Rect)=[]:=by decide +kernel
 have k:Z1C [exF] 0 0 exA=[]:=by
  unfold Z1C;rw [o,l];rfl
 have c:∀ u v,elS exW.zones_ exW.day_ exW.most_ exA u v=(inR exA u v && !inR exZ u v):=fun u v=>by
  show elS [exF] 0 0 exA u v=_;unfold elS
  rw [j,k];show (_ && !(_||false))=_
  rw [Bool.or_false]
 have e:∀ u v,inR exZ u v=true->inR exA u v=true:=fun u v h=>by
  rw [W2U];obtain ⟨r,m,h⟩:=(Q2I _ _ _).1 h
  have m:r=⟨3,0,5,1⟩:=List.mem_singleton.1 m;subst m
  rw [J2] at h;simp only at h
  omega
 have B:(lnT exW Z5u ⟨exA⟩ exS).Y=fun u v=>inR exA u v && !inR exZ u v:=by
  rw [a,d];funext u v
  simp only [Z7n,Z8J,if_true];rw [c]
  cases inR exA u v <;> cases inR exZ u v <;> rfl
 have p:(lnT exW Z5u ⟨exA⟩ exS).N=inR exZ:=by
  rw [a,d];funext u v
  simp only [Z7n,Y8w,Z8J,if_true];rw [c]
  have:=e u v
  cases hA:inR exA u v <;> cases hZ:inR exZ u v <;> simp_all
 have f:area exA=10:=by decide +kernel
 have A:area exZ=2:=by decide +kernel
 have q:area (cn (lnT exW Z5u ⟨exA⟩ exS).N)=2:=by rw [p,Y7t Y8g,A]
 have z:area (cn (lnT exW Z5u ⟨exA⟩ exS).Y)=8:=by
  have E:=Y9q Y2Z b fun x y H G=>W2N x y H G
  have C:(lnT exW Z5u ⟨exA⟩ exS).O exA=fun _ _=>false:=by
   funext u v
   unfold TS.O;rw [B,p]
   show ((inR exA u v && !(inR exA u v && !inR exZ u v)) && !inR exZ u v)=false
   cases inR exA u v <;> cases inR exZ u v <;> rfl
  rw [C,Y3h,q,f] at E;have:area []=0:=rfl
  omega
 unfold Z2K;refine Q3 D ?_
 refine Z5 rfl (Q3 (Q9y t (b.vY Y2Z)) (Z5 (by simp only [TS.t3];rw [z];rfl) (Q3 (Q9y t (b.vN Y2Z)) ?_)));simp only [TS.t3]
 rw [q];rfl
end
end Go.Ab
end
