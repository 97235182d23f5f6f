/- Abstract states over the model. -/
import Derived.Test.YtgfmopdbhjcpfaaGreatAbD
import Derived.Test.YtgfmopdbhjcpfaaGreatLwA
import Derived.Test.YtgfmopdbhjcpfaaGreatLwC
import Derived.Test.YtgfmopdbhjcpfaaGreatLwB
set_option linter.unusedVariables false
set_option linter.unusedSimpArgs false
section
namespace Go.Ab
set_option maxRecDepth 20000
noncomputable section
theorem W1p {L:List A2_} {d m:Int} {a:List Rect} {x y:Int} (h:elS L d m a x y=true):inR a x y=true:=by
 unfold elS at h;rw [Bool.and_eq_true] at h
 exact h.1
theorem W0M {L:List A2_} {a:List Rect} (ha:TR a) (d m:Int):Val (cn (elS L d m a)):=ha.sub (Y5B L d m a) fun _ _ h=>W1p h
theorem Z8y {F n:Nat} {L:List A2_} {d:Int} (hF:BIG<=F) (hL:LB n L) (d1:0<=d) (d2:d<=36864) {a:Re_} (ht:TR a.t_) {m:Int} (m1:0<=m) (m2:m<=268435456):Q4m F a L d m=some (⟨cn (elS L d m a.t_)⟩,0):=by
 have b:=ht.val;have g:=hL.rval d (zp 0)
 have f:=Y2s hL d m a.t_;have l:=g.1.1
 have i:=f.1.1;have j:=b.1
 unfold Q4m;refine Q4 (Z1Q hF hL.vl d1 d2 b m1 m2) ?_
 refine Q9 rfl ?_;refine Q4 (Y2W hF hL d1 d2) ?_
 refine Q9 rfl ?_;refine Q4 (Y2V hF hL d1 d2 b m1 m2) ?_
 refine Q9 rfl ?_;refine Q4 (Q7E hF (by simp only;omega) (by simp only;omega)) ?_
 refine Q4 (Q8O hF (by simp only [List.length_append];omega) (fun r c=>(b.2.2.pos c).1) (fun r c=>?_) (k:=fun u v=>u && !v) rfl (fun u v=>by cases u <;> cases v <;> rfl)) ?_
 ·rcases List.mem_append.1 c with h|h
  ·exact (g.1.2.2.pos h).1
  ·exact (f.1.2.2.pos h).1
 have e:(cn fun x y=>inR a.t_ x y && !inR (cn (inR (Q0D L d (zp 0)))++cn (inR (Z2x L d m a.t_))) x y)=cn (elS L d m a.t_):=by
  congr 1
  funext x y
  unfold elS;rw [Z3A,Q1b (G5 _),Q1b (G5 _)]
 show (Q1X F (cn fun x y=>inR a.t_ x y && !inR (cn (inR (Q0D L d (zp 0)))++cn (inR (Z2x L d m a.t_))) x y)).bind _=_;rw [e]
 have:=(W0M (L:=L) ht d m).1
 refine Q4 (Z1J F _) ?_;rw [if_neg (by omega)]
theorem Y7I {A:List Rect} (hA:TR A) {P:TS} (h:TIn A P) (hd:∀ x y,P.Y x y=true->P.N x y=true->False):area (cn P.Y)+area (cn P.N)+area (cn (P.O A))=area A:=by
 rw [(h.vY hA).area,(h.vN hA).area,(h.vO hA).area,hA.val.area,Q0y h.fY,Q0y h.fN,Q0y h.fO];have e:inR A=fun x y=>(P.Y x y||P.N x y)||P.O A x y:=by
  funext x y
  have:=h.sY x y
  have:=h.sN x y
  unfold TS.O
  cases hA:inR A x y <;> cases hY:P.Y x y <;> cases hN:P.N x y <;> simp_all
 have c:sq (inR A)=sq (fun x y=>P.Y x y||P.N x y)+sq (P.O A):=by
  conv=>lhs;rw [e]
  rw [Z4z,Z4z,Z4z];refine Y5F fun x y b a=>?_
  unfold TS.O at a
  cases hY:P.Y x y <;> cases hN:P.N x y <;> simp_all
 have d:sq (fun x y=>P.Y x y||P.N x y)=sq P.Y+sq P.N:=by
  rw [Z4z,Z4z,Z4z];exact Y5F fun x y b a=>hd x y b a
 rw [c,d]
end
end Go.Ab
end
section
namespace Go.Ab
set_option maxRecDepth 20000
noncomputable section
theorem Z5G {R:Type} {body:(Int->Option R)->Int->Option R} {c:Nat->Option R} {y:Option R} (N:Nat) (p:Nat->Bool)
  (bad:∀ again (i:Nat),i<N->(∀ j,j<i->p j=false)->p i=true->body again (i:Int)=c i) (good:∀ again (i:Nat) z,i<N->(∀ j,j<i->p j=false)->p i=false->again ((i:Int)+1)=z->body again (i:Int)=z)
  (stop:(∀ j,j<N->p j=false)->∀ again,body again (N:Int)=y) {F:Nat} (hF:N<F):Z6 body F 0=match (List.range N).find? p with|some i=>c i|none=>y:=by
 refine Y7 (fun z:Int=>∃ i:Nat,z=i/\i<=N/\∀ j,j<i->p j=false) (fun z=>N-z.toNat) (fun again z d e=>?_) ⟨0,rfl,Nat.zero_le _,fun j h=>absurd h (Nat.not_lt_zero j)⟩ (by simp;omega);obtain ⟨i,rfl,g,a⟩:=d
 rcases Nat.lt_or_ge i N with h|h
 ·cases hpi:p i with
  | true=>
   rw [List.find?_range_eq_some.2 ⟨hpi,List.mem_range.2 h,fun j b=>by simp [a j b]⟩];exact bad again i h a hpi
  | false=>
   refine good again i _ h a hpi (e _ ⟨i+1,by omega,h,fun j b=>?_⟩ (by omega))
   by_cases hji:j=i
   ·rw [hji];exact hpi
   ·exact a j (by omega)
 ·have:i=N:=by omega
  subst this;rw [List.find?_eq_none.2 fun x f=>by rw [a x (List.mem_range.1 f)];simp]
  exact stop a again
theorem Y6n {α:Type} [Emb α] (p:α->Bool) (l:List α):Z0P p l<(l.length:Int) /\ -1<=Z0P p l/\(0<=Z0P p l->p (gl l (Z0P p l).toNat)=true/\l.any p=true):=by
 unfold Z0P;split
 ·rename_i h
  have a:l.findIdx p<l.length:=List.findIdx_lt_length_of_exists (by simpa using h);refine ⟨by omega,by omega,fun _=>⟨?_,h⟩⟩
  rw [Int.toNat_natCast,z7 a];exact List.findIdx_getElem (w:=a)
 ·exact ⟨by omega,by omega,fun h=>by omega⟩
def Z9E (n:Int) (x:Scheme):Bool:=x.N_==n
theorem Z6u {F:Nat} (hF:BIG<=F) {l:List Scheme} (hl:l.length<=1000000) (n:Int):Z1f F l n=some (Z0P (Z9E n) l):=by
 have k:=hF;unfold BIG at k
 unfold Z1f;refine (Z5G (c:=fun i=>some (i:Int)) (y:=some (-1)) l.length (fun i=>Z9E n (gl l i)) (fun a i p _ d=>?_) (fun a i z p _ d g=>?_) (fun _ a=>?_) (by omega)).trans ?_
 ·show Q2T F l n a (i:Int)=_
  unfold Q2T;exact Z8 (decide_eq_true (by omega)) (Z3 (by omega) (Z8 d rfl))
 ·show Q2T F l n a (i:Int)=_
  unfold Q2T;exact Z8 (decide_eq_true (by omega)) (Z3 (by omega) (Q9 d (Z3 (Y3 (by omega) (by omega)) g)))
 ·show Q2T F l n a (l.length:Int)=_
  unfold Q2T;exact Q9 (decide_eq_false (by omega)) rfl
 ·unfold Z0P
  cases hf:(List.range l.length).find? fun i=>Z9E n (gl l i) with
  | none=>
   have h:=List.find?_eq_none.1 hf;rw [if_neg]
   rw [Bool.not_eq_true];exact Q6A fun j e=>by have:=h j (List.mem_range.2 e);simpa using this
  | some i=>
   obtain ⟨f,b,o⟩:=List.find?_range_eq_some.1 hf;have b:=List.mem_range.1 b
   have m:l.any (Z9E n)=true:=List.any_eq_true.2 ⟨_,V6 b,f⟩;rw [if_pos m,Z3E b (fun j e=>by have:=o j e;simpa using this) f]
def twB (l:List Scheme) (i:Nat):Bool:=(decide (0<i)&&decide ((gl l i).N_<=(gl l (i-1)).N_))||(l.take i).any fun x=>sEq x.n_ (gl l i).n_
def Y8j (l:List Scheme) (s:Scheme) (n:Nat):Bool:=Z3e s.excludes_ n&&(decide (Z0P (Z9E n) l<0) || !Z3e (gl l (Z0P (Z9E n) l).toNat).excludes_ s.N_)
def Y4b (l:List Scheme) (s:Scheme):Bool:= !(List.range 16).any (Y8j l s)
def Y5J (l:List Scheme):Int×Int:=match (List.range l.length).find? fun i=> !Y4b l (gl l i) with
 | some i=>(i,17)
 | none=>(-1,0)
def Y0g (d:Nat) (l:List Scheme) (i:Nat):Bool:=decide (Q9L d (gl l i)≠0)||twB l i
def Y5I (d:Nat) (l:List Scheme):Int×Int:=if 16<l.length then (0,1) else match (List.range l.length).find? (Y0g d l) with
 | some i=>(i,if Q9L d (gl l i)≠0 then Q9L d (gl l i) else 6)
 | none=>Y5J l
theorem Y2B {d:Nat} {s:Scheme} (h:Q9L d s=0):0<=s.N_/\s.N_<=15/\0<=s.least_/\s.least_<=268435456/\Q2H s.n_=true/\Q8z d s.cond_=0/\brB s.brackets_=true/\0<=s.excludes_/\s.excludes_<65536/\Z3e s.excludes_ s.N_=false:=by
 unfold Q9L at h;split at h
 ·omega
 split at h
 ·omega
 split at h
 ·rename_i b;exact absurd h b
 split at h
 ·omega
 rename_i b f c a
 refine ⟨by omega,by omega,by omega,by omega,by simpa using f,by simpa using c,?_,by omega,by omega,?_⟩
 ·cases e:brB s.brackets_ with
  | true=>rfl
  | false=>exact absurd (.inl e) a
 ·cases e:Z3e s.excludes_ s.N_ with
  | false=>rfl
  | true=>exact absurd (.inr (.inr (.inr e))) a
theorem Y0V {d F:Nat} (hd:d<=2000000) (hF:BIG+d<=F) {l:List Scheme} (hl:∀ s ∈ l,SD d s):Q9E F l=some (Y5I d l):=by
 have G:BIG<=F:=by omega
 have E:=G;unfold BIG at E
 unfold Q9E Y5I
 by_cases h16:16<l.length
 ·rw [if_pos h16];exact Z8 (decide_eq_true (by omega)) rfl
 rw [if_neg h16];refine Q9 (decide_eq_false (by omega)) ?_
 have N:∀ a b:ByteArray,sEq a b=sEq a b:=fun _ _=>rfl
 have r:∀ (f:Int->Option (Int×Int)) (i:Nat),i<l.length->∀ {y:Option (Int×Int)},(twB l i=false->f ((i:Int)+1)=y)->Z6 (fun m (z:Int)=>Q1i F l (i:Int) f m z) F (0:Int)=if twB l i=true then some ((i:Int),6) else y:=by
  intro f i p y H;have e:twB l i=(List.range i).any fun k=>sEq (gl l k).n_ (gl l i).n_||(decide (k=i-1)&&decide ((gl l i).N_<=(gl l k).N_)):=by
   unfold twB;rw [Bool.eq_iff_iff,Bool.or_eq_true,Bool.and_eq_true,List.any_eq_true,List.any_eq_true]
   constructor
   ·rintro (⟨o,C⟩|⟨x,hx,h⟩)
    ·refine ⟨i-1,List.mem_range.2 (by have:=of_decide_eq_true o;omega),?_⟩
     rw [C];simp
    ·obtain ⟨k,q,rfl⟩:=List.getElem_of_mem hx
     rw [List.length_take] at q;refine ⟨k,List.mem_range.2 (by omega),?_⟩
     rw [List.getElem_take, <-z7 (by omega)] at h;rw [h];rfl
   ·rintro ⟨k,q,h⟩
    have q:=List.mem_range.1 q;rw [Bool.or_eq_true,Bool.and_eq_true] at h
    rcases h with h|⟨o,C⟩
    ·exact .inr ⟨gl l k,List.mem_take_iff_getElem.2 ⟨k,by omega,(z7 (by omega)).symm⟩,h⟩
    ·have o:=of_decide_eq_true o
     subst o;exact .inl ⟨decide_eq_true (by omega),C⟩
  have A:∀ k,k<i->gl (l.take i) k=gl l k:=fun k q=>by rw [z7 (by simp;omega),z7 (by omega),List.getElem_take]
  have M:((i:Nat):Int).toNat=i:=Int.toNat_natCast i;have t:(l.take ((i:Nat):Int).toNat).length=i:=by simp;omega
  refine (Z5G (c:=fun _=>some ((i:Int),(6:Int))) (y:=y) i (fun k=>sEq (gl l k).n_ (gl l i).n_||(decide (k=i-1)&&decide ((gl l i).N_<=(gl l k).N_))) (fun m k q _ g=>?_) (fun m k z q _ g w=>?_) (fun g m=>?_) (by omega)).trans ?_
  ·show Q1i F l (i:Int) f m (k:Int)=_
   unfold Q1i;have k2:Q3i F (i:Int) (k:Int) m true=some ((i:Int),6):=rfl
   refine Z8 (decide_eq_true (by rw [t];omega)) (Z3 (by rw [t];omega) ?_);simp only [Int.toNat_natCast,A k q]
   refine Q8 (fun _=>k2) (fun o=>Z3 (Y3 (by omega) (by omega)) ?_);rw [o,Bool.false_or,Bool.and_eq_true] at g
   refine Z8 (by have:=of_decide_eq_true g.1;simp;omega) ?_;rw [g.2];exact k2
  ·show Q1i F l (i:Int) f m (k:Int)=_
   unfold Q1i;have k2:Q3i F (i:Int) (k:Int) m false=z:=Q9 rfl (Z3 (Y3 (by omega) (by omega)) w)
   refine Z8 (decide_eq_true (by rw [t];omega)) (Z3 (by rw [t];omega) ?_);simp only [Int.toNat_natCast,A k q]
   rw [Bool.or_eq_false_iff] at g;refine Q9 g.1 (Z3 (Y3 (by omega) (by omega)) (Q8 (fun o=>?_) (fun _=>k2)))
   have o:k=i-1:=by simp at o;omega
   have:=g.2
   rw [decide_eq_true o,Bool.true_and] at this;rw [this];exact k2
  ·show Q1i F l (i:Int) f m (i:Int)=_
   unfold Q1i;refine Q9 (decide_eq_false (by rw [t];omega)) ?_
   have D:twB l i=false:=by rw [e,List.any_eq_false];intro k q;rw [g k (List.mem_range.1 q)];simp
   exact Z3 (Y3 (by omega) (by omega)) (H D)
  ·cases hf:(List.range i).find? fun k=>sEq (gl l k).n_ (gl l i).n_||(decide (k=i-1)&&decide ((gl l i).N_<=(gl l k).N_)) with
   | some k=>
    have D:twB l i=true:=by rw [e,List.any_eq_true];have h:=List.find?_range_eq_some.1 hf;exact ⟨k,h.2.1,h.1⟩
    rw [if_pos D]
   | none=>
    have D:twB l i=false:=by rw [e,List.any_eq_false];intro k q;exact List.find?_eq_none.1 hf k q
    rw [if_neg (by simp [D])]
 refine (Z5G (c:=fun i=>some ((i:Int),if Q9L d (gl l i)≠0 then Q9L d (gl l i) else 6)) (y:=some (Y5J l)) l.length (Y0g d l) (fun f i p _ g=>?_) (fun f i z p _ g w=>?_) (fun g f=>?_) (by omega)).trans ?_
 ·show Q2a F l f (i:Int)=_
  unfold Q2a;refine Z8 (decide_eq_true (by omega)) (Z3 (by omega) (Q4 (Z7Q hd hF (hl _ (V6 p))) ?_))
  by_cases v:Q9L d (gl l i)=0
  ·rw [if_neg (by simpa using v)]
   unfold Y0g at g;rw [decide_eq_false (by simpa using v),Bool.false_or] at g
   refine Q9 (by simp [v]) (Z3 (by omega) ((r f i p (y:=none) fun h=>by rw [g] at h;cases h).trans ?_));rw [if_pos g]
  ·rw [if_pos v];exact Z8 (by simpa using v) rfl
 ·show Q2a F l f (i:Int)=_
  unfold Q2a;unfold Y0g at g
  rw [Bool.or_eq_false_iff] at g;have v:Q9L d (gl l i)=0:=by simpa using g.1
  refine Z8 (decide_eq_true (by omega)) (Z3 (by omega) (Q4 (Z7Q hd hF (hl _ (V6 p))) (Q9 (by simp [v]) (Z3 (by omega) ((r f i p fun _=>w).trans ?_)))));rw [if_neg (by simp [g.2])]
 ·show Q2a F l f (l.length:Int)=_
  unfold Q2a Z1g Y5J;refine Q9 (decide_eq_false (by omega)) ?_
  have w:∀ j,j<l.length->0<=(gl l j).N_:=fun j K=>by
   have:=g j K
   unfold Y0g at this;rw [Bool.or_eq_false_iff] at this
   exact (Y2B (by simpa using this.1)).1
  have B:∀ (f:Int->Option (Int×Int)) (i:Nat),i<l.length->∀ {y:Option (Int×Int)},f ((i:Int)+1)=y->Z6 (fun m (z:Int)=>Q1h F l (i:Int) f m z) F (0:Int)=if (List.range 16).any (Y8j l (gl l i))=true then some ((i:Int),17) else y:=by
   intro f i p y H;refine Y6c (c:=some ((i:Int),17)) (y:=y) 16 (Y8j l (gl l i)) (fun m n L g=>?_) (fun m n z L g u=>?_) (fun m=>?_) (by omega)
   ·show Q1h F l (i:Int) f m (n:Int)=_
    unfold Q1h;unfold Y8j at g
    rw [Bool.and_eq_true] at g;obtain ⟨o,C⟩:=Y6n (Z9E (n:Nat)) l
    simp only [Int.toNat_natCast (n:=i)];refine Z8 (decide_eq_true (by omega)) (Z3 (by omega) (Q9 (by rw [Z3d,g.1];rfl) (Q4 (Z6u G (by omega) _) ?_)))
    refine Q8 (fun _=>rfl) (fun J=>Z3 (by have:=of_decide_eq_false J;omega) (Z3 (w i p) ?_));rw [Z3d]
    have:=g.2
    rw [J,Bool.false_or] at this;rw [this];rfl
   ·show Q1h F l (i:Int) f m (n:Int)=_
    unfold Q1h;unfold Y8j at g
    obtain ⟨o,C⟩:=Y6n (Z9E (n:Nat)) l;simp only [Int.toNat_natCast (n:=i)]
    have I:Q7Q F (n:Int) m=z:=Z3 (Y3 (by omega) (by omega)) u;refine Z8 (decide_eq_true (by omega)) (Z3 (by omega) ?_)
    rw [Z3d]
    cases hb:Z3e (gl l i).excludes_ n with
    | false=>exact Z8 rfl I
    | true=>
     rw [hb,Bool.true_and,Bool.or_eq_false_iff] at g;refine Q9 rfl (Q4 (Z6u G (by omega) _) (Q9 g.1 (Z3 (by have:=of_decide_eq_false g.1;omega) (Z3 (w i p) ?_))))
     rw [Z3d,g.2];unfold Q7R;exact Q9 rfl I
   ·show Q1h F l (i:Int) f m (16:Int)=_
    unfold Q1h;exact Q9 (by decide) (Z3 (Y3 (by omega) (by omega)) H)
  refine (Z5G (c:=fun i=>some ((i:Int),17)) (y:=some (-1,0)) l.length (fun i=> !Y4b l (gl l i)) (fun f i p _ g=>?_) (fun f i z p _ g u=>?_) (fun g f=>?_) (by omega)).trans ?_
  ·show Q1Z F l f (i:Int)=_
   unfold Q1Z;unfold Y4b at g
   rw [Bool.not_not] at g;refine Z8 (decide_eq_true (by omega)) (Z3 (by omega) ((B f i p rfl).trans ?_))
   rw [if_pos g]
  ·show Q1Z F l f (i:Int)=_
   unfold Q1Z;unfold Y4b at g
   rw [Bool.not_not] at g;refine Z8 (decide_eq_true (by omega)) (Z3 (by omega) ((B f i p u).trans ?_))
   rw [if_neg (by simp [g])]
  ·show Q1Z F l f (l.length:Int)=_
   unfold Q1Z;exact Q9 (decide_eq_false (by omega)) rfl
  ·cases (List.range l.length).find? fun i=> !Y4b l (gl l i) <;> rfl
 ·cases (List.range l.length).find? (Y0g d l) <;> rfl
end
end Go.Ab
end
section
end
section
namespace Go.Ab
set_option maxRecDepth 20000
noncomputable section
structure GoodL (d:Nat) (l:List Scheme):Prop where
 len:l.length<=16
 one:∀ i,i<l.length->Q9L d (gl l i)=0
 asc:∀ i,0<i->i<l.length->(gl l (i-1)).N_<(gl l i).N_
 nam:∀ i,i<l.length->((l.take i).any fun x=>sEq x.n_ (gl l i).n_)=false
 mtl:∀ i,i<l.length->Y4b l (gl l i)=true
theorem Y8U {d:Nat} {l:List Scheme} (h:GoodL d l):Y5I d l=(-1,0):=by
 obtain ⟨g,f,e,b,c⟩:=h;unfold Y5I
 rw [if_neg (by omega)];rw [List.find?_eq_none.2 fun i a=>by
  have a:=List.mem_range.1 a;unfold Y0g twB
  rw [f i a,b i a]
  by_cases h0:0<i
  ·have:=e i h0 a
   rw [decide_eq_false (p:=(gl l i).N_<=(gl l (i-1)).N_) (by omega)];simp
  ·rw [decide_eq_false h0];simp]
 show Y5J l=_;unfold Y5J
 rw [List.find?_eq_none.2 fun i a=>by rw [c i (List.mem_range.1 a)];simp]
theorem Y7w {d:Nat} {l:List Scheme}:(Y5I d l).2=0↔GoodL d l:=by
 unfold Y5I;constructor
 ·intro h
  by_cases h16:16<l.length
  ·rw [if_pos h16] at h;cases h
  rw [if_neg h16] at h
  cases hf:(List.range l.length).find? (Y0g d l) with
  | some i=>
   rw [hf] at h
   exfalso
   revert h
   show ¬ (if Q9L d (gl l i)≠0 then Q9L d (gl l i) else 6)=0;split
   ·assumption
   ·omega
  | none=>
   rw [hf] at h;have b:∀ i,i<l.length->Y0g d l i=false:=fun i a=>by have:=List.find?_eq_none.1 hf i (List.mem_range.2 a);simpa using this
   have h:(Y5J l).2=0:=h;unfold Y5J at h
   cases hg:(List.range l.length).find? fun i=> !Y4b l (gl l i) with
   | some i=>rw [hg] at h;exact absurd h (by show ¬ (17:Int)=0;omega)
   | none=>
    have c:∀ i,i<l.length->Y4b l (gl l i)=true:=fun i a=>by have:=List.find?_eq_none.1 hg i (List.mem_range.2 a);simpa using this
    refine ⟨by omega,fun i a=>?_,fun i e a=>?_,fun i a=>?_,c⟩
    ·have:=b i a
     unfold Y0g at this;rw [Bool.or_eq_false_iff] at this
     simpa using this.1
    ·have:=b i a
     unfold Y0g twB at this;rw [Bool.or_eq_false_iff,Bool.or_eq_false_iff] at this
     have:=this.2.1
     rw [decide_eq_true e,Bool.true_and,decide_eq_false_iff_not] at this;omega
    ·have:=b i a
     unfold Y0g twB at this;rw [Bool.or_eq_false_iff,Bool.or_eq_false_iff] at this
     exact this.2.2
 ·intro h
  have:=Y8U h
  unfold Y5I at this;rw [this]
end
end Go.Ab
end
section
namespace Go.Ab
set_option maxRecDepth 20000
noncomputable section
end
end Go.Ab
end
section
namespace Go.Ab
set_option maxRecDepth 20000
noncomputable section
end
end Go.Ab
end
section
end
section
namespace Go.Ab
set_option maxRecDepth 20000
noncomputable section
theorem Z6a {F:Nat} (hF:1<=F) {n:Int} (h0:0<=n) (h1:n<=9):∃ s,Q4x F n=some s/\s.size<=10:=by
 cases F with
 | zero=>omega
 | succ F=>
  refine ⟨bOf (IntKind.wrap .u8 (48+n)),?_,by unfold bOf;simp⟩;show Q4h F (Q4x F) n=_
  unfold Q4h;exact Q9 (decide_eq_false (by omega)) (Z8 (decide_eq_true (by omega)) (Z3 (Y3 (by omega) (by omega)) rfl))
theorem Y3k {k:Int} (h0:0<=k) (h1:k<=10):1<=(1:Int)*2 ^ (min k.toNat (IntKind.bits .i64))/\(1:Int)*2 ^ (min k.toNat (IntKind.bits .i64))<=1024:=by
 have a:k=0\/k=1\/k=2\/k=3\/k=4\/k=5\/k=6\/k=7\/k=8\/k=9\/k=10:=by omega
 rcases a with rfl|rfl|rfl|rfl|rfl|rfl|rfl|rfl|rfl|rfl|rfl <;> decide
theorem Y5Y {d:Nat} {a b c:Int} (h1:I64 a) (h2:I64 b):TD (d+1) ⟨a,b,c,[]⟩:=⟨h1,h2,by simp,fun k e=>(List.not_mem_nil e).elim⟩
theorem Q4T:∀ (n:Nat) {F:Nat} (_:n+1<=F) {t:Tape} (_:TOk t) (_:n<=5),∃ t' x,K2 F t (n:Int)=some (t',x)/\TOk t' /\ TD (n+1) x
 | n,0,hF,_,_,_=>by omega
 | n,F+1,hF,t,ht,hn=>by
  show ∃ t' x,Q3o F (K2 F) t (n:Int)=some (t',x)/\_;unfold Q3o
  have k2:∀ (u:Tape×Int) (a b:Int) (v:Tape),TOk v->I64 u.2->I64 a->Ok (J3 F (K2 F) u a b v.l_ v.at_) fun z=>TOk z.1/\TD (n+1) z.2:=fun u a b v B D C=>by
   unfold J3;exact Z5K ⟨B,Y5Y D C⟩
  have g:∀ (v:Tape),TOk v->Ok ((W7 F v (1:Int) (8:Int)).bind fun z=>br (z.2==(2:Int)) (Q0G F (K2 F) z (z.2==(2:Int))) (Q0G F (K2 F) z (z.2==(3:Int)))) fun z=>TOk z.1/\TD (n+1) z.2:=fun v B=>by
   obtain ⟨A,o,E,f,O,P⟩:=V3 (F:=F) B (lo:=1) (hi:=8) (by omega) (by omega) (by omega);have i:I64 o:=Y3 (by omega) (by omega)
   have k1:∀ b,Ok (Q0G F (K2 F) (A,o) b) fun z=>TOk z.1/\TD (n+1) z.2:=fun b=>by
    unfold Q0G;refine Q6t (fun _=>?_) (fun _=>Q6t (fun _=>?_) (fun _=>Q6t (fun _=>?_) (fun _=>Q6t (fun _=>?_) (fun _=>Q6t (fun _=>?_) (fun _=>Q6t (fun _=>?_) (fun _=>?_))))))
    ·obtain ⟨e,k,d,c,j,p⟩:=Z7 (F:=F) f (n:=4) (by omega) (by omega)
     exact Q4R d (k2 _ _ _ e c i (Y3 (by omega) (by omega)))
    ·obtain ⟨e,k,d,c,j,p⟩:=Z7 (F:=F) f (n:=5) (by omega) (by omega)
     have:=Y3k j (by omega)
     exact Q4R d (Q1M ⟨Y3 (by simp only;omega) (by simp only;omega),j⟩ (k2 _ _ _ e c i (Y3 (by simp only;omega) (by simp only;omega))))
    ·obtain ⟨e,k,d,c,j,p⟩:=Z7 (F:=F) f (n:=16) (by omega) (by omega)
     exact Q4R d (k2 _ _ _ e c i (Y3 (by omega) (by omega)))
    ·obtain ⟨e,k,d,c,j,p⟩:=V3 (F:=F) f (lo:=2) (hi:=3) (by omega) (by omega) (by omega)
     exact Q4R d (k2 _ _ _ e c i (Y3 (by omega) (by omega)))
    ·obtain ⟨e,k,d,c,j,p⟩:=V3 (F:=F) f (lo:=1) (hi:=2) (by omega) (by omega) (by omega)
     obtain ⟨G,m,s,w,J,R⟩:=Z7 (F:=F) c (n:=5) (by omega) (by omega);have:=Y3k J (by omega)
     exact Q4R d (Q4R s (Q1M ⟨Y3 (by simp only;omega) (by simp only;omega),J⟩ (k2 _ _ _ G w i (Y3 (by simp only;omega) (by simp only;omega)))))
    ·obtain ⟨e,k,d,c,j,p⟩:=V3 (F:=F) f (lo:=1) (hi:=3) (by omega) (by omega) (by omega)
     exact Q4R d (k2 _ _ _ e c i (Y3 (by omega) (by omega)))
    ·exact k2 _ _ _ A f i (Y3 (by omega) (by omega))
   exact Q4R E (Q6t (fun _=>k1 _) (fun _=>k1 _))
  have q:Ok (br (decide ((0:Int)<(n:Int))) ((Q1N F t (2:Int)).bind fun z=>Q0H F (K2 F) (n:Int) z.2 z.1.l_ z.1.at_) (Q0H F (K2 F) (n:Int) false t.l_ t.at_)) fun z=>TOk z.1/\TD (n+1) z.2:=by
   refine Q6t (fun h=>?_) (fun _=>?_)
   ·have h:=of_decide_eq_true h
    obtain ⟨m,rfl⟩:∃ m,n=m+1:=⟨n-1,by omega⟩;obtain ⟨A,b,E,f⟩:=Q8Y (F:=F) ht (n:=2) (by omega) (by omega)
    refine Q4R E ?_;unfold Q0H
    refine Q6t (fun _=>?_) (fun _=>g A f);obtain ⟨e,k,d,c,_,_⟩:=Z7 (F:=F) f (n:=3) (by omega) (by omega)
    refine Q4R d ?_;have I:((m+1:Nat):Int)-1=(m:Int):=by omega
    refine Q6t (fun _=>Q1M (Y3 (by omega) (by omega)) ?_) (fun _=>Q6t (fun _=>Q1M (Y3 (by omega) (by omega)) ?_) (fun _=>Q1M (Y3 (by omega) (by omega)) ?_))
    ·rw [I]
     obtain ⟨G,x,s,w,l⟩:=Q4T m (by omega:m+1<=F) c (by omega);exact Q4R s (Q1M l.op (Z5K ⟨w,Y3 (by simp only;omega) (by simp only;omega),Y3 (by simp only;omega) (by simp only;omega),by simp,fun k H=>by rw [List.mem_singleton.1 H];exact l⟩))
    all_goals
     rw [I];obtain ⟨G,x,s,w,l⟩:=Q4T m (by omega:m+1<=F) c (by omega)
     obtain ⟨Q,y,M,L,K⟩:=Q4T m (by omega:m+1<=F) w (by omega);refine Q4R s (Q1M (Y3 (by omega) (by omega)) (Q4R M (Q1M l.op (Q1M K.op (Z5K ⟨L,Y3 (by simp only;omega) (by simp only;omega),Y3 (by simp only;omega) (by simp only;omega),by simp,fun k H=>?_⟩)))))
     rcases List.mem_cons.1 H with h|h
     ·rw [h];exact l
     ·rw [List.mem_singleton.1 h];exact K
   ·unfold Q0H
    exact Q6t (fun h=>by cases h) (fun _=>g t ht)
  obtain ⟨r,N,D,C⟩:=q;exact ⟨r.1,r.2,N,D,C⟩
structure ST (s:Scheme):Prop where
 sd:SD 3 s
 num:0<=s.N_/\s.N_<=3
theorem ST.excl {s:Scheme} (h:ST s) (e:Int):ST { s with excludes_:=e }:=⟨⟨h.sd.cond,h.sd.name,h.sd.brl⟩,h.num⟩
theorem Y7K {l:List Scheme} (h:∀ s ∈ l,ST s) {i:Nat} {x:Scheme} (hx:ST x):∀ s ∈ l.set i x,ST s:=fun s b=>by
 rcases List.mem_or_eq_of_mem_set b with a|a
 ·exact h s a
 ·rw [a];exact hx
structure LT (L:List Scheme):Prop where
 st:∀ s ∈ L,ST s
 len:L.length<=3
theorem Z9a {F:Nat} (hF:BIG+3<=F) {t:Tape} (ht:TOk t) {most:Int} (m0:0<=most) (m1:most<=3):∃ t' L,Q4z F t most=some (t',L)/\TOk t' /\ LT L/\(L=[]\/GoodL 3 L):=by
 have hB:BIG<=F:=by omega
 have a0:=hB;unfold BIG at a0
 unfold Q4z;obtain ⟨t1,n,e1,o1,J,n1⟩:=Z7 (F:=F) ht (n:=2) (by omega) (by omega)
 obtain ⟨t2,k,e2,o2,k0,k1⟩:=Z7 (F:=F) o1 (n:=most+1) (by omega) (by omega)
 suffices h:Ok (Z6 (fun e (z:Int×Int×(List Int)×Int×(List Scheme))=>Q5L F e z.1 z.2.1 z.2.2.1 z.2.2.2.1 z.2.2.2.2) F (n,k,t2.l_,t2.at_,([]:List Scheme))) fun z=>TOk z.1/\LT z.2/\(z.2=[]\/GoodL 3 z.2) by
  obtain ⟨r,hr,h1,R,K⟩:=h;exact ⟨r.1,r.2,Q4 e1 (Z3 (Y3 (by omega) (by omega)) (Q4 e2 hr)),h1,R,K⟩
 have a5:∀ (L:List Scheme) (v:Tape),TOk v->LT L->Ok (Q4U F L v.l_ v.at_) fun z=>TOk z.1/\LT z.2/\(z.2=[]\/GoodL 3 z.2):=fun L v f A=>by
  unfold Q4U;refine Q4R (Y0V (d:=3) (by omega) hF fun s I=>(A.st s I).sd) (Q6t (fun _=>?_) (fun h=>?_))
  ·exact Z5K ⟨f,⟨fun s I=>(List.not_mem_nil I).elim,by simp⟩,.inl rfl⟩
  ·exact Z5K ⟨f,A,.inr (Y7w.1 (by simpa using h))⟩
 have k5:∀ (L:List Scheme) (v:Tape),TOk v->LT L->Ok (Q5K F v.l_ v.at_ L) fun z=>TOk z.1/\LT z.2/\(z.2=[]\/GoodL 3 z.2):=fun L v f A=>by
  have b3:=A.len;unfold Q5K
  refine Z7Z (fun z:Int×(List Int)×Int×(List Scheme)=>0<=z.1/\z.1<=L.length/\TOk ⟨z.2.1,z.2.2.1⟩/\LT z.2.2.2/\z.2.2.2.length=L.length) (fun z=>L.length-z.1.toNat) (fun e z D V=>?_) ⟨by simp,by simp,f,A,rfl⟩ (by simp;omega);obtain ⟨i,a,b,M⟩:=z
  obtain ⟨i0,i1,f,o,p⟩:=D;simp only at i0 i1 f o p
  show Ok (Q9d F L e i a b M) _;unfold Q9d
  refine Q6t (fun h=>?_) (fun _=>a5 M ⟨a,b⟩ f o);have h:=of_decide_eq_true h
  refine Q1M (by omega) ?_;refine Z7Z (fun z:Int×(List Int)×Int×(List Scheme)=>0<=z.1/\z.1<=i/\TOk ⟨z.2.1,z.2.2.1⟩/\LT z.2.2.2/\z.2.2.2.length=L.length) (fun z=>i.toNat-z.1.toNat) (fun Q z D E=>?_) ⟨by simp,by simpa using i0,f,o,p⟩ (by simp;omega)
  obtain ⟨j,a,b,M⟩:=z;obtain ⟨j0,j1,f,o,p⟩:=D
  simp only at j0 j1 f o p;show Ok (Q9c F i e Q j a b M) _
  unfold Q9c;refine Q6t (fun R=>?_) (fun _=>?_)
  ·have R:=of_decide_eq_true R
   obtain ⟨P,c,Y,S⟩:=Q8Y (F:=F) f (n:=3) (by omega) (by omega);have k8:∀ (N:List Scheme) (v:Tape),TOk v->LT N->N.length=L.length->Ok (Q3p F j Q v.l_ v.at_ N) fun z=>TOk z.1/\LT z.2/\(z.2=[]\/GoodL 3 z.2):=fun N v f hN p=>by
    unfold Q3p;exact Q1M (Y3 (by omega) (by omega)) (E _ ⟨by simp only;omega,by simp only;omega,f,hN,p⟩ (by simp only;omega))
   refine Q4R Y (Q6t (fun _=>?_) (fun _=>k8 M P S o p));have Z:=o.st _ (V6 (l:=M) (i:=j.toNat) (by omega))
   have hi:=o.st _ (V6 (l:=M) (i:=i.toNat) (by omega));have p1:=Y3k Z.num.1 (by have:=Z.num.2;omega)
   refine Q1M (by omega) (Q1M (by omega) (Q1M ⟨Y3 (by omega) (by omega),Z.num.1⟩ (Q1M (by omega) ?_)));have C:∀ s ∈ M.set i.toNat ⟨(gl M i.toNat).N_,(gl M i.toNat).n_,(gl M i.toNat).cond_,(gl M i.toNat).brackets_,(gl M i.toNat).least_,bor .i64 (gl M i.toNat).excludes_ ((1:Int)*2 ^ (min (gl M j.toNat).N_.toNat (IntKind.bits .i64))),(gl M i.toNat).needs_⟩,ST s:=Y7K o.st (hi.excl _)
   generalize hN:M.set i.toNat _=N at C ⊢;have b5:N.length=M.length:=by rw [<-hN];simp
   have G:=C _ (V6 (l:=N) (i:=i.toNat) (by omega));have W:=C _ (V6 (l:=N) (i:=j.toNat) (by omega))
   have p2:=Y3k G.num.1 (by have:=G.num.2;omega);refine Q1M (by omega) (Q1M (by omega) (Q1M ⟨Y3 (by omega) (by omega),G.num.1⟩ (Q1M (by omega) ?_)))
   exact k8 _ P S ⟨Y7K C (W.excl _),by simp;omega⟩ (by simp;omega)
  ·unfold Q8Z
   exact Q1M (Y3 (by omega) (by omega)) (V _ ⟨by simp only;omega,by simp only;omega,f,o,p⟩ (by simp only;omega))
 refine Z7Z (fun z:Int×Int×(List Int)×Int×(List Scheme)=>0<=z.1/\z.1<=5/\0<=z.2.1/\TOk ⟨z.2.2.1,z.2.2.2.1⟩/\(∀ s ∈ z.2.2.2.2,ST s)/\(z.2.2.2.2.length:Int)+z.2.1<=3) (fun z=>z.2.1.toNat) (fun e z D V=>?_) ⟨by simpa using J,by simp only;omega,by simpa using k0,o2,fun s I=>(List.not_mem_nil I).elim,by simp;omega⟩ (by simp only;omega);obtain ⟨n,k,a,b,L⟩:=z
 obtain ⟨J,n1,k0,f,A,p⟩:=D;simp only at J n1 k0 f A p
 show Ok (Q5L F e n k a b L) _;unfold Q5L
 have U:LT L:=⟨A,by omega⟩;have kf:Ok (Q1R F n k a b L e false) fun z=>TOk z.1/\LT z.2/\(z.2=[]\/GoodL 3 z.2):=by
  unfold Q1R;exact Q6t (fun h=>by cases h) (fun _=>k5 L ⟨a,b⟩ f U)
 refine Q6t (fun h=>?_) (fun _=>kf);have h:=of_decide_eq_true h
 by_cases K:n<=3
 rotate_left
 ·rw [decide_eq_false K];exact kf
 rw [decide_eq_true K];unfold Q1R
 refine Q6t (fun _=>?_) (fun h=>by cases h);obtain ⟨s,es,I⟩:=Z6a (F:=F) (by omega) J (by omega)
 obtain ⟨P,x,Y,S,hx⟩:=Q4T 2 (by omega:3<=F) f (by omega);obtain ⟨t4,y,e4,o4,y0,y1⟩:=Z7 (F:=F) S (n:=4) (by omega) (by omega)
 obtain ⟨t5,c,e5,o5⟩:=Q8Y (F:=F) o4 (n:=2) (by omega) (by omega);obtain ⟨t6,m,e6,o6,m0,m1⟩:=V3 (F:=F) o5 (lo:=1) (hi:=3) (by omega) (by omega) (by omega)
 have O:ByteArray.size (ByteArray.mk #[115])=1:=rfl;refine Q4R es (Q1M (by rw [O];unfold LIM;omega) (Q4R Y (Q4R e4 (Q4R e5 (Q4R e6 ?_)))))
 refine Z7Z (fun z:Int×Int×(List Int)×Int×(List Bracket)=>0<=z.1/\z.1+40*z.2.1<=120/\0<=z.2.1/\TOk ⟨z.2.2.1,z.2.2.2.1⟩/\(z.2.2.2.2.length:Int)+z.2.1<=3) (fun z=>z.2.1.toNat) (fun Q z D E=>?_) ⟨by simp,by simp only;omega,by simp only;omega,o6,by simp;omega⟩ (by simp only;omega);obtain ⟨u,q,a2,b2,B⟩:=z
 obtain ⟨u0,u1,q0,H,T⟩:=D;simp only at u0 u1 q0 H T
 show Ok (Q9e F n k L s (P,x) (t4,y) (t5,c) e Q u q a2 b2 B) _;unfold Q9e
 refine Q6t (fun h4=>?_) (fun _=>?_)
 ·have h4:=of_decide_eq_true h4
  obtain ⟨t7,w,e7,o7,w0,w1⟩:=V3 (F:=F) H (lo:=1) (hi:=40) (by omega) (by omega) (by omega);obtain ⟨t8,g,e8,o8,g0,g1⟩:=Z7 (F:=F) o7 (n:=3000) (by omega) (by omega)
  exact Q4R e7 (Q1M (Y3 (by simp only;omega) (by simp only;omega)) (Q4R e8 (Q1M (by simp only [List.length_cons,List.length_nil];unfold LIM;omega) (Q1M (Y3 (by omega) (by omega)) (E _ ⟨by simp only;omega,by simp only;omega,by simp only;omega,o8,by simp;omega⟩ (by simp only;omega))))))
 ·unfold Q9b
  obtain ⟨t9,w,e9,o9,w0,w1⟩:=V3 (F:=F) H (lo:=1) (hi:=2) (by omega) (by omega) (by omega);refine Q1M (by simp only [List.length_cons,List.length_nil];unfold LIM;omega) (Q4R e9 (Q1M (Y3 (by simp only;omega) (by simp only;omega)) ?_))
  unfold Q9a;refine Q1M (Y3 (by omega) (by omega)) (V _ ⟨by simp only;omega,by simp only;omega,by simp only;omega,o9,fun s' a1=>?_,by simp;omega⟩ (by simp only;omega))
  rcases List.mem_append.1 a1 with X|X
  ·exact A s' X
  ·rw [List.mem_singleton.1 X]
   refine ⟨⟨hx,?_,by simp only;omega⟩,J,K⟩;show ((ByteArray.mk #[115])++s).size<=_
   rw [ByteArray.size_append,O];omega
end
end Go.Ab
end
section
namespace Go.Ab
set_option maxRecDepth 20000
noncomputable section
structure WT (w:World):Prop where
 yr:0<=w.y_/\w.y_<=4
 crops:CropT w.crops_
 his:HisT (w.crops_.length:Nat) w.history_
 hlen:w.history_.length<=5
 zon:LayT w.zones_
 zlen:w.zones_.length<=3
 day:0<=w.day_/\w.day_<=24
 most:0<=w.most_/\w.most_<=300
theorem HisT.few5 {K:Int} {H:List Rg_} (h:HisT K H) (hl:H.length<=5):FewR H:=⟨h.hl,fun y p i a=>by
 have:=Y9z h y p i (by omega)
 omega⟩
theorem Box.up {n m:Int} {l:List Rect} (h:Box n l) (hm:n<=m):Box m l:=fun r a=>by
 have:=h r a
 omega
theorem WT.lb {w:World} (h:WT w):LB 9 w.zones_:=h.zon.lb
theorem WT.ev {w:World} (h:WT w) {A:List Rect} (hA:TR A) {c:Int} (hc:0<=c/\c<(w.crops_.length:Nat)):EV w.y_ w.crops_ w.history_ w.zones_ c A:=by
 have b:=h.crops.one c.toNat (by omega);exact ⟨hA,hc,b.2.1,⟨b.2.2.2.1,b.2.2.2.2⟩,h.his.few5 h.hlen,fun f a=>(h.his.box f a).up (by omega),fun f a=>⟨((Q8W f).1 (h.his.hl.one f a)).2.2.1,h.his.crop f a⟩,by have:=h.yr;omega,⟨h.zon.vl,fun f a=>(h.lb.box f a).up (by omega),by omega⟩⟩
theorem WT.chk {w:World} (h:WT w) {A:List Rect} (hA:TR A) {c:Int} (hc:0<=c/\c<(w.crops_.length:Nat)) {e:Nat} {t:Term} (ht:Q8z e t=0):Z6k e t w.crops_ c w.history_ w.y_ w.zones_ w.day_ A=0:=by
 have g:=h.yr;have f:=h.day
 have b:∀ k:Int,0<=k->k<(w.crops_.length:Nat)->Q7u w.crops_ k=false:=fun k j i=>by
  unfold Q7u;rw [decide_eq_false (by omega),decide_eq_false (by omega)];rfl
 have a:(w.history_.any fun r=>Q7u w.crops_ r.c_)=false:=by
  rw [List.any_eq_false];intro r d
  rw [b _ ((Q8W r).1 (h.his.hl.one r d)).2.2.1 (h.his.crop r d)];exact Bool.noConfusion
 unfold Z6k;rw [if_neg (by rw [ht];simp),if_neg (by rw [h.crops.crC];simp),if_neg (by rw [b c hc.1 hc.2,a];simp),if_neg (by rw [(Z3b _).2 h.his.hl];simp),if_neg (by omega),if_neg (by rw [(Z0S _).2 h.zon.vl];simp),if_neg (by omega),if_pos ((Q1z _).2 hA.val)]
def lnT (w:World) (x:Line) (parcel:Re_) (s:Scheme):TS:=
 if Z3e x.s_ s.N_=false then Z6m x.g_.t_ false
 else Z4j x.g_.t_ (evS w.y_ w.crops_ w.history_ w.zones_ w.day_ x.c_ x.g_.t_ 3 s.cond_) (elS w.zones_ w.day_ w.most_ parcel.t_)
theorem Y6k (w:World) (x:Line) (parcel:Re_) (s:Scheme):TIn x.g_.t_ (lnT w x parcel s):=by
 unfold lnT;split
 ·exact Z9v _ _
 ·exact Y8p (Y1y _ _) (Y5B _ _ _ _)
theorem W1e {w:World} {x:Line} {parcel:Re_} {s:Scheme} (u v:Int) (h1:(lnT w x parcel s).Y u v=true) (h2:(lnT w x parcel s).N u v=true):False:=by
 unfold lnT at h1 h2;split at h1
 ·cases h1
 ·rename_i q
  rw [if_neg q] at h2;simp only [Z4j] at h1 h2
  rw [h1] at h2;simp at h2
theorem W0x {A:List Rect} (h:Val A):(Z6m A false).t3 A=⟨⟨[]⟩,⟨A⟩,⟨[]⟩⟩:=by
 unfold TS.t3;rw [Y9i,Y2j]
 show Truth.mk ⟨cn fun _ _=>false⟩ ⟨cn (inR A)⟩ ⟨[]⟩=_;rw [Y2j,Y5G h]
theorem Y4d {F n:Nat} (hF:BIG+3<=F) {w:World} {x:Line} (hE:EV w.y_ w.crops_ w.history_ w.zones_ x.c_ x.g_.t_) {s:Scheme} (hk:Z6k 3 s.cond_ w.crops_ x.c_ w.history_ w.y_ w.zones_ w.day_ x.g_.t_=0) (hl:w.history_.length<=1000000) (hn:NmS w.crops_) (hL:LB n w.zones_) (d1:0<=w.day_) (d2:w.day_<=36864) (m1:0<=w.most_) (m2:w.most_<=268435456)
  (hs:SD 3 s) (h1:Q9L 3 s=0) {parcel:Re_} (hp:TR parcel.t_) (hsub:∀ u v,inR x.g_.t_ u v=true->inR parcel.t_ u v=true) :
  Q0l F x parcel s w=some ((lnT w x parcel s).t3 x.g_.t_,0):=by
 have d:BIG<=F:=by omega
 have b:=hE.tr;have c:=Z8y d hL d1 d2 hp m1 m2
 rw [Z9n (e:=3) (by omega) hF hs hl hn (fun _=>hE) c fun _=>W0M hp _ _];have hE:(Z6M 3 s.cond_ x w.y_ w.crops_ w.history_ w.zones_ w.day_).2=0:=by
  unfold Z6M;rw [if_neg (by rw [hk];simp)]
 have a:Y2m x.g_ parcel=true:=(Y6R b.val hp.val).2 hsub;unfold Y8o
 rw [if_neg (by rw [(Q1z _).2 hp.val];simp),if_neg (by rw [hE];simp),if_neg (by rw [h1];simp),if_neg (by simp),if_neg (by rw [a];simp)];unfold lnT
 by_cases q:Z3e x.s_ s.N_=false
 ·rw [if_pos q,if_pos q,W0x b.val]
 ·rw [if_neg q,if_neg q]
  show some ((Z4j _ _ (inR (cn (elS w.zones_ w.day_ w.most_ parcel.t_)))).t3 _,(0:Int))=_;rw [Q0y (Y5B _ _ _ _)]
theorem Z8W {F:Nat} (hF:BIG+3<=F) {w:World} (hw:WT w) {x:Line} (hA:TR x.g_.t_) (hc:0<=x.c_/\x.c_<(w.crops_.length:Nat)) {s:Scheme} (hs:SD 3 s) (h1:Q9L 3 s=0) {parcel:Re_} (hp:TR parcel.t_) (hsub:∀ u v,inR x.g_.t_ u v=true->inR parcel.t_ u v=true) :
  Q0l F x parcel s w=some ((lnT w x parcel s).t3 x.g_.t_,0):=by
 have a:=hw.day;have b:=hw.most
 have c:=hw.hlen;exact Y4d hF (hw.ev hA hc) (hw.chk hA hc (Y2B h1).2.2.2.2.2.1) (by omega) hw.crops.nm hw.lb a.1 (by omega) b.1 (by omega) hs h1 hp hsub
end
end Go.Ab
end
section
namespace Go.Ab
set_option maxRecDepth 20000
noncomputable section
theorem Y1n {F:Nat} {a n:Int} (h0:0<=a) (h1:a<n):Q9P F a n=some a:=by
 unfold Q9P;rw [Int.tmod_eq_of_lt h0 h1]
 exact Q9 (decide_eq_false (by omega)) (Z3 (by omega) (Q9 (decide_eq_false (by omega)) rfl))
structure PrT (rs:List Re_) (l:List Line) (ps:List Re_):Prop where
 len:ps.length=l.length
 at_:∀ i,i<l.length->gl ps i=gl rs ((gl l i).p_-1).toNat
theorem Y0c {F:Nat} (hF:BIG<=F) {K:Int} {rs:List Re_} (hp:ParT rs) {l:List Line} (hl:LinT K rs l) (h3:l.length<=100):∃ ps,Q5N F l rs=some ps/\PrT rs l ps:=by
 unfold BIG at hF;have p:=hp.len
 unfold Q5N
 suffices h:Ok (Z6 (fun b (z:Int×(List Re_))=>Q6J F l rs b z.1 z.2) F ((0:Int),([]:List Re_))) fun ps=>PrT rs l ps by
  obtain ⟨ps,e,m⟩:=h;exact ⟨ps,e,m⟩
 refine Z7Z (fun z:Int×List Re_=>∃ i:Nat,z.1=i/\i<=l.length/\z.2.length=i/\∀ k,k<i->gl z.2 k=gl rs ((gl l k).p_-1).toNat) (fun z=>l.length-z.1.toNat) (fun b z j n=>?_) ⟨0,rfl,Nat.zero_le _,rfl,fun k f=>absurd f (Nat.not_lt_zero k)⟩ (by simp;omega);obtain ⟨a,ps⟩:=z
 obtain ⟨i,e,q,c,d⟩:=j;simp only at e c d
 subst e;show Ok (Q6J F l rs b (i:Int) ps) _
 unfold Q6J;refine Q6t (fun h=>?_) (fun h=>?_)
 ·have h:i<l.length:=by have:=of_decide_eq_true h;omega
  have o:=(hl.one _ (V6 h)).par;rw [Int.toNat_natCast]
  refine Q1M (by omega) (Q1M (Y3 (by omega) (by omega)) (Q4R (Y1n (by omega) (by omega)) (Q1M (by omega) (Q1M (by simp only [List.length_cons,List.length_nil];unfold LIM;omega) (Q1M (Y3 (by omega) (by omega)) (n _ ⟨i+1,by simp,h,by simp [c],fun k f=>?_⟩ (by simp only;omega)))))));rcases Nat.lt_or_ge k i with g|g
  ·rw [Y8B _ _ (by omega)];exact d k g
  ·have:k=ps.length:=by omega
   subst this;rw [Y8A,c]
 ·have h:i=l.length:=by have:=of_decide_eq_false h;omega
  unfold Z0s;exact Z5K ⟨by omega,fun k f=>d k (by omega)⟩
theorem Z7f {F:Nat} (hF:BIG<=F) {t:Tape} (ht:TOk t) {cs:List Crop} (hcs:CropT cs):∃ t' w,Q2s F t cs=some (t',w)/\TOk t' /\ WT w/\w.crops_=cs/\w.most_<=4:=by
 obtain ⟨z,y,a,o,x,A⟩:=Z7 (F:=F) ht (n:=5) (by omega) (by omega);obtain ⟨B,H,l,q,g,C⟩:=Z4n hF o hcs (most:=5) (by omega) (by omega)
 obtain ⟨u,Z,e,j,f,k⟩:=Z7h hF q (most:=3) (by omega) (by omega);obtain ⟨s,d,c,i,r,v⟩:=Z7 (F:=F) j (n:=25) (by omega) (by omega)
 obtain ⟨h,m,b,p,D,E⟩:=Z7 (F:=F) i (n:=5) (by omega) (by omega);refine ⟨h,⟨y,cs,H,Z,d,m⟩,?_,p,⟨by simp only;omega,hcs,g,by simp only;omega,f,by simp only;omega,by simp only;omega,by simp only;omega⟩,rfl,by simp only;omega⟩
 unfold Q2s;exact Q4 a (Q4 l (Q4 e (Q4 c (Q4 b rfl))))
def Y2p:Term:=⟨1,0,0,[]⟩
theorem Y9D (d:Nat):TD (d+1) Y2p:=Y5Y (Y3 (by omega) (by omega)) (Y3 (by omega) (by omega))
def exA:List Rect:=[⟨0,0,10,1⟩]
def exZ:List Rect:=[⟨3,0,5,1⟩]
def Z4o:Line:=⟨1,⟨exA⟩,0,1⟩
def exS:Scheme:=⟨0,ByteArray.mk #[115],Y2p,[⟨10,1⟩],0,0,false⟩
def exF:A2_:=⟨1,0,0,9,⟨exZ⟩⟩
def exW:World:=⟨0,[⟨ByteArray.mk #[114,121,101],0,0⟩],[],[exF],0,0⟩
theorem Y6y:Z3e 1 0=true/\Z3e 0 0=false:=by decide +kernel
theorem W0j:crC exW.crops_=0:=by decide +kernel
theorem W0l:Q9L 3 exS=0:=by
 have b:Q2H (ByteArray.mk #[115])=true:=by decide +kernel
 have a:brB [⟨10,1⟩]=true:=by decide +kernel
 show Q9L 3 ⟨0,ByteArray.mk #[115],Y2p,[⟨10,1⟩],0,0,false⟩=0;unfold Q9L
 rw [show Q8z 3 Y2p=0 from Y0F 2,if_neg (by simp),if_neg (by rw [b];simp),if_neg (by simp),if_neg (by rw [a];simp [Y6y.2])]
theorem Y6z:Val exA:=val_one (r:=⟨0,0,10,1⟩) (by decide)
theorem Y6x:Val exZ:=val_one (r:=⟨3,0,5,1⟩) (by decide)
theorem W1m (u v:Int):inR exA u v=true↔0<=u/\u<10/\0<=v/\v<1:=by
 unfold exA;rw [Q5P]
 constructor
 ·rintro ⟨r,a,h⟩
  rw [List.mem_singleton] at a;subst a
  rw [y5] at h;simp only at h
  omega
 ·intro h
  exact ⟨_,List.mem_singleton.2 rfl,(y5 _ _ _).2 (by simp only;omega)⟩
theorem W0m:Box (10:Nat) exA:=fun r a=>by
 unfold exA at a;rw [List.mem_singleton] at a
 subst a;decide
theorem TR.of_box {A:List Rect} (hv:Val A) {n:Nat} (hn:n<=15) (hb:Box n A):TR A:=⟨hv,fun b a=>(Y2Y b hn fun x y h=>hb.in (a x y h)).1⟩
theorem Y1x:TR exA:=TR.of_box Y6z (by omega) W0m
theorem Y3v:LB 10 exW.zones_:=by
 refine ⟨⟨by simp [exW],fun f a=>?_,by simp [exW]⟩,fun f a=>?_,by omega⟩
 ·have a:f=exF:=List.mem_singleton.1 a
  subst a;rw [Z5J]
  exact ⟨by decide,by decide,by decide,by decide,by decide,by decide,by decide,by decide,Y6x⟩
 ·have a:f=exF:=List.mem_singleton.1 a
  subst a;intro r b
  have b:r=⟨3,0,5,1⟩:=List.mem_singleton.1 b;subst b;decide
theorem W1l:EV exW.y_ exW.crops_ exW.history_ exW.zones_ Z4o.c_ Z4o.g_.t_:=
 ⟨Y1x,by decide,by decide,by decide,⟨HL.nil,fun y p i b=>absurd b (Nat.not_lt_zero i)⟩,fun f a=>(List.not_mem_nil a).elim,fun f a=>(List.not_mem_nil a).elim,by decide,⟨Y3v.vl,fun f a=>(Y3v.box f a).up (by omega),by omega⟩⟩
theorem W0k:Z6k 3 exS.cond_ exW.crops_ Z4o.c_ exW.history_ exW.y_ exW.zones_ exW.day_ Z4o.g_.t_=0:=by
 have a:¬ (exW.y_<0\/100<exW.y_):=by decide
 have d:¬ (exW.day_<0\/36864<exW.day_):=by decide
 have b:(Q7u exW.crops_ Z4o.c_||exW.history_.any fun r=>Q7u exW.crops_ r.c_)=false:=by decide
 have c:Q8z 3 exS.cond_=0:=Y0F 2;unfold Z6k
 rw [if_neg (by rw [c];simp),if_neg (by rw [W0j];simp),if_neg (by rw [b];simp),if_neg (by rw [show Q9j exW.history_=0 from (Z3b _).2 HL.nil];simp),if_neg a,if_neg (by rw [(Z0S _).2 Y3v.vl];simp),if_neg d,if_pos ((Q1z Z4o.g_.t_).2 Y6z)]
theorem Y1m {F:Nat} (hF:BIG+3<=F):Q9M F=some true:=by
 have p:BIG<=F:=by omega
 have A:=Y4d (n:=10) hF (w:=exW) (x:=Z4o) W1l (s:=exS) W0k (by decide) (fun x f=>by
  have f:x=⟨ByteArray.mk #[114,121,101],0,0⟩:=List.mem_singleton.1 f;subst f;decide) Y3v (by decide) (by decide) (by decide) (by decide) ⟨Y9D 2,by show (1:Nat)<=_;omega,by simp [exS]⟩ W0l (parcel:=⟨exA⟩) Y1x fun u v h=>h
 have b:TIn exA (lnT exW Z4o ⟨exA⟩ exS):=Y6k exW Z4o ⟨exA⟩ exS;have a:lnT exW Z4o ⟨exA⟩ exS=Z4j exA (evS exW.y_ exW.crops_ exW.history_ exW.zones_ exW.day_ Z4o.c_ exA 3 Y2p) (elS exW.zones_ exW.day_ exW.most_ exA):=by
  unfold lnT;rw [if_neg (by rw [show Z3e Z4o.s_ exS.N_=Z3e 1 0 from rfl,Y6y.1];simp)];rfl
 have e:evS exW.y_ exW.crops_ exW.history_ exW.zones_ exW.day_ Z4o.c_ exA 3 Y2p=Z6m exA true:=by
  rfl
 have g:Q0D [exF] 0 (zp 0)=exZ:=by decide +kernel
 have k:Q0D [exF] 0 (zp 1)=[]:=by decide +kernel
 have j:Z3P [exF] 0 exA=[]:=by
  unfold Z3P;rw [k]
  exact Y2j
 have l:Z9D ([]:List Rect)=[]:=by decide +kernel
 have i:Z2x [exF] 0 0 exA=[]:=by
  unfold Z2x;rw [j,l];rfl
 have d:∀ u v,elS exW.zones_ exW.day_ exW.most_ exA u v=(inR exA u v && !inR exZ u v):=fun u v=>by
  show elS [exF] 0 0 exA u v=_;unfold elS
  rw [g,i];show (_ && !(_||false))=_
  rw [Bool.or_false]
 have c:∀ u v,inR exZ u v=true->inR exA u v=true:=fun u v h=>by
  rw [W1m];obtain ⟨r,o,h⟩:=(Q5P _ _ _).1 h
  have o:r=⟨3,0,5,1⟩:=List.mem_singleton.1 o;subst o
  rw [y5] at h;simp only at h
  omega
 have C:(lnT exW Z4o ⟨exA⟩ exS).Y=fun u v=>inR exA u v && !inR exZ u v:=by
  rw [a,e];funext u v
  simp only [Z4j,Z6m,if_true];rw [d]
  cases inR exA u v <;> cases inR exZ u v <;> rfl
 have q:(lnT exW Z4o ⟨exA⟩ exS).N=inR exZ:=by
  rw [a,e];funext u v
  simp only [Z4j,Y9i,Z6m,if_true];rw [d]
  have:=c u v
  cases hA:inR exA u v <;> cases hZ:inR exZ u v <;> simp_all
 have m:area exA=10:=by decide +kernel
 have H:area exZ=2:=by decide +kernel
 have t:area (cn (lnT exW Z4o ⟨exA⟩ exS).N)=2:=by rw [q,Y5G Y6x,H]
 have z:area (cn (lnT exW Z4o ⟨exA⟩ exS).Y)=8:=by
  have D:=Y7I Y1x b fun x y G E=>W1e x y G E
  have B:(lnT exW Z4o ⟨exA⟩ exS).O exA=fun _ _=>false:=by
   funext u v
   unfold TS.O;rw [C,q]
   show ((inR exA u v && !(inR exA u v && !inR exZ u v)) && !inR exZ u v)=false
   cases inR exA u v <;> cases inR exZ u v <;> rfl
  rw [B,Y2j,t,m] at D;have:area []=0:=rfl
  omega
 unfold Q9M;refine Q4 A ?_
 refine Z8 rfl (Q4 (Z6F p (b.vY Y1x)) (Z8 (by simp only [TS.t3];rw [z];rfl) (Q4 (Z6F p (b.vN Y1x)) ?_)));simp only [TS.t3]
 rw [t];rfl
end
end Go.Ab
end
