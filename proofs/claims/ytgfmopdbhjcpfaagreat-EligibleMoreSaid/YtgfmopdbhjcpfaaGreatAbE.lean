/- Abstract states over the model. -/
import Derived.Test.YtgfmopdbhjcpfaaGreatAbD
import Derived.Test.YtgfmopdbhjcpfaaGreatLwA
import Derived.Test.YtgfmopdbhjcpfaaGreatLwC
import Derived.Test.YtgfmopdbhjcpfaaGreatLwB
set_option linter.unusedVariables false
set_option linter.unusedSimpArgs false
section
namespace Go.Ab
set_option maxRecDepth 20000
noncomputable section
theorem W0U {L:List A2_} {d m:Int} {a:List Rect} {x y:Int} (h:elS L d m a x y=true):inR a x y=true:=by
 unfold elS at h;rw [Bool.and_eq_true] at h
 exact h.1
theorem W0s {L:List A2_} {a:List Rect} (ha:TR a) (d m:Int):Val (cn (elS L d m a)):=ha.sub (Y5p L d m a) fun _ _ h=>W0U h
theorem Z8q {F n:Nat} {L:List A2_} {d:Int} (hF:BIG<=F) (hL:LB n L) (d1:0<=d) (d2:d<=36864) {a:Re_} (ht:TR a.t_) {m:Int} (m1:0<=m) (m2:m<=268435456):Q4i F a L d m=some (⟨cn (elS L d m a.t_)⟩,0):=by
 have b:=ht.val;have g:=hL.rval d (zp 0)
 have f:=Y2h hL d m a.t_;have i:=g.1.1
 have l:=f.1.1;have j:=b.1
 unfold Q4i;refine Q4 (Z1O hF hL.vl d1 d2 b m1 m2) ?_
 refine Q9 rfl ?_;refine Q4 (Y2K hF hL d1 d2) ?_
 refine Q9 rfl ?_;refine Q4 (Y2J hF hL d1 d2 b m1 m2) ?_
 refine Q9 rfl ?_;refine Q4 (Q7z hF (by simp only;omega) (by simp only;omega)) ?_
 refine Q4 (Q8L hF (by simp only [List.length_append];omega) (fun r c=>(b.2.2.pos c).1) (fun r c=>?_) (k:=fun u v=>u && !v) rfl (fun u v=>by cases u <;> cases v <;> rfl)) ?_
 ·rcases List.mem_append.1 c with h|h
  ·exact (g.1.2.2.pos h).1
  ·exact (f.1.2.2.pos h).1
 have e:(cn fun x y=>inR a.t_ x y && !inR (cn (inR (Q0F L d (zp 0)))++cn (inR (Z0T L d m a.t_))) x y)=cn (elS L d m a.t_):=by
  congr 1
  funext x y
  unfold elS;rw [Z3t,Q1I (G6 _),Q1I (G6 _)]
 show (Q1X F (cn fun x y=>inR a.t_ x y && !inR (cn (inR (Q0F L d (zp 0)))++cn (inR (Z0T L d m a.t_))) x y)).bind _=_;rw [e]
 have:=(W0s (L:=L) ht d m).1
 refine Q4 (Z1H F _) ?_;rw [if_neg (by omega)]
theorem Y7r {A:List Rect} (hA:TR A) {P:TS} (h:TIn A P) (hd:∀ x y,P.Y x y=true->P.N x y=true->False):area (cn P.Y)+area (cn P.N)+area (cn (P.O A))=area A:=by
 rw [(h.vY hA).area,(h.vN hA).area,(h.vO hA).area,hA.val.area,Q0z h.fY,Q0z h.fN,Q0z h.fO];have e:inR A=fun x y=>(P.Y x y||P.N x y)||P.O A x y:=by
  funext x y
  have:=h.sY x y
  have:=h.sN x y
  unfold TS.O
  cases hA:inR A x y <;> cases hY:P.Y x y <;> cases hN:P.N x y <;> simp_all
 have c:sq (inR A)=sq (fun x y=>P.Y x y||P.N x y)+sq (P.O A):=by
  conv=>lhs;rw [e]
  rw [Z4u,Z4u,Z4u];refine Y5t fun x y b a=>?_
  unfold TS.O at a
  cases hY:P.Y x y <;> cases hN:P.N x y <;> simp_all
 have d:sq (fun x y=>P.Y x y||P.N x y)=sq P.Y+sq P.N:=by
  rw [Z4u,Z4u,Z4u];exact Y5t fun x y b a=>hd x y b a
 rw [c,d]
end
end Go.Ab
end
section
namespace Go.Ab
set_option maxRecDepth 20000
noncomputable section
theorem Z5y {R:Type} {body:(Int->Option R)->Int->Option R} {c:Nat->Option R} {y:Option R} (N:Nat) (p:Nat->Bool)
  (bad:∀ again (i:Nat),i<N->(∀ j,j<i->p j=false)->p i=true->body again (i:Int)=c i) (good:∀ again (i:Nat) z,i<N->(∀ j,j<i->p j=false)->p i=false->again ((i:Int)+1)=z->body again (i:Int)=z)
  (stop:(∀ j,j<N->p j=false)->∀ again,body again (N:Int)=y) {F:Nat} (hF:N<F):Z8 body F 0=match (List.range N).find? p with|some i=>c i|none=>y:=by
 refine Y9 (fun z:Int=>∃ i:Nat,z=i/\i<=N/\∀ j,j<i->p j=false) (fun z=>N-z.toNat) (fun again z f d=>?_) ⟨0,rfl,Nat.zero_le _,fun j h=>absurd h (Nat.not_lt_zero j)⟩ (by simp;omega);obtain ⟨i,rfl,g,a⟩:=f
 rcases Nat.lt_or_ge i N with h|h
 ·cases hpi:p i with
  | true=>
   rw [List.find?_range_eq_some.2 ⟨hpi,List.mem_range.2 h,fun j b=>by simp [a j b]⟩];exact bad again i h a hpi
  | false=>
   refine good again i _ h a hpi (d _ ⟨i+1,by omega,h,fun j b=>?_⟩ (by omega))
   by_cases hji:j=i
   ·rw [hji];exact hpi
   ·exact a j (by omega)
 ·have:i=N:=by omega
  subst this;rw [List.find?_eq_none.2 fun x e=>by rw [a x (List.mem_range.1 e)];simp]
  exact stop a again
theorem Y5Y {α:Type} [Emb α] (p:α->Bool) (l:List α):Z0L p l<(l.length:Int) /\ -1<=Z0L p l/\(0<=Z0L p l->p (gl l (Z0L p l).toNat)=true/\l.any p=true):=by
 unfold Z0L;split
 ·rename_i h
  have a:l.findIdx p<l.length:=List.findIdx_lt_length_of_exists (by simpa using h);refine ⟨by omega,by omega,fun _=>⟨?_,h⟩⟩
  rw [Int.toNat_natCast,z8 a];exact List.findIdx_getElem (w:=a)
 ·exact ⟨by omega,by omega,fun h=>by omega⟩
def Z9w (n:Int) (x:Scheme):Bool:=x.N_==n
theorem Z6l {F:Nat} (hF:BIG<=F) {l:List Scheme} (hl:l.length<=1000000) (n:Int):Z1d F l n=some (Z0L (Z9w n) l):=by
 have p:=hF;unfold BIG at p
 unfold Z1d;refine (Z5y (c:=fun i=>some (i:Int)) (y:=some (-1)) l.length (fun i=>Z9w n (gl l i)) (fun a i g _ d=>?_) (fun a i z g _ d o=>?_) (fun _ a=>?_) (by omega)).trans ?_
 ·show Q2U F l n a (i:Int)=_
  unfold Q2U;exact Y2 (decide_eq_true (by omega)) (Z3 (by omega) (Y2 d rfl))
 ·show Q2U F l n a (i:Int)=_
  unfold Q2U;exact Y2 (decide_eq_true (by omega)) (Z3 (by omega) (Q9 d (Z3 (Y5 (by omega) (by omega)) o)))
 ·show Q2U F l n a (l.length:Int)=_
  unfold Q2U;exact Q9 (decide_eq_false (by omega)) rfl
 ·unfold Z0L
  cases hf:(List.range l.length).find? fun i=>Z9w n (gl l i) with
  | none=>
   have h:=List.find?_eq_none.1 hf;rw [if_neg]
   rw [Bool.not_eq_true];exact Q6y fun j e=>by have:=h j (List.mem_range.2 e);simpa using this
  | some i=>
   obtain ⟨f,b,m⟩:=List.find?_range_eq_some.1 hf;have b:=List.mem_range.1 b
   have k:l.any (Z9w n)=true:=List.any_eq_true.2 ⟨_,V7 b,f⟩;rw [if_pos k,Z3x b (fun j e=>by have:=m j e;simpa using this) f]
def twB (l:List Scheme) (i:Nat):Bool:=(decide (0<i)&&decide ((gl l i).N_<=(gl l (i-1)).N_))||(l.take i).any fun x=>sEq x.n_ (gl l i).n_
def Y7S (l:List Scheme) (s:Scheme) (n:Nat):Bool:=Z2Y s.excludes_ n&&(decide (Z0L (Z9w n) l<0) || !Z2Y (gl l (Z0L (Z9w n) l).toNat).excludes_ s.N_)
def Y3P (l:List Scheme) (s:Scheme):Bool:= !(List.range 16).any (Y7S l s)
def Y5x (l:List Scheme):Int×Int:=match (List.range l.length).find? fun i=> !Y3P l (gl l i) with
 | some i=>(i,17)
 | none=>(-1,0)
def Z9X (d:Nat) (l:List Scheme) (i:Nat):Bool:=decide (Q9I d (gl l i)≠0)||twB l i
def Y5w (d:Nat) (l:List Scheme):Int×Int:=if 16<l.length then (0,1) else match (List.range l.length).find? (Z9X d l) with
 | some i=>(i,if Q9I d (gl l i)≠0 then Q9I d (gl l i) else 6)
 | none=>Y5x l
theorem Y2p {d:Nat} {s:Scheme} (h:Q9I d s=0):0<=s.N_/\s.N_<=15/\0<=s.least_/\s.least_<=268435456/\Q2I s.n_=true/\Q8w d s.cond_=0/\brB s.brackets_=true/\0<=s.excludes_/\s.excludes_<65536/\Z2Y s.excludes_ s.N_=false:=by
 unfold Q9I at h;split at h
 ·omega
 split at h
 ·omega
 split at h
 ·rename_i b;exact absurd h b
 split at h
 ·omega
 rename_i b f c a
 refine ⟨by omega,by omega,by omega,by omega,by simpa using f,by simpa using c,?_,by omega,by omega,?_⟩
 ·cases e:brB s.brackets_ with
  | true=>rfl
  | false=>exact absurd (.inl e) a
 ·cases e:Z2Y s.excludes_ s.N_ with
  | false=>rfl
  | true=>exact absurd (.inr (.inr (.inr e))) a
theorem Y0K {d F:Nat} (hd:d<=2000000) (hF:BIG+d<=F) {l:List Scheme} (hl:∀ s ∈ l,SD d s):Q9z F l=some (Y5w d l):=by
 have E:BIG<=F:=by omega
 have G:=E;unfold BIG at G
 unfold Q9z Y5w
 by_cases h16:16<l.length
 ·rw [if_pos h16];exact Y2 (decide_eq_true (by omega)) rfl
 rw [if_neg h16];refine Q9 (decide_eq_false (by omega)) ?_
 have N:∀ a b:ByteArray,sEq a b=sEq a b:=fun _ _=>rfl
 have r:∀ (f:Int->Option (Int×Int)) (i:Nat),i<l.length->∀ {y:Option (Int×Int)},(twB l i=false->f ((i:Int)+1)=y)->Z8 (fun m (z:Int)=>Q1k F l (i:Int) f m z) F (0:Int)=if twB l i=true then some ((i:Int),6) else y:=by
  intro f i q y H;have e:twB l i=(List.range i).any fun k=>sEq (gl l k).n_ (gl l i).n_||(decide (k=i-1)&&decide ((gl l i).N_<=(gl l k).N_)):=by
   unfold twB;rw [Bool.eq_iff_iff,Bool.or_eq_true,Bool.and_eq_true,List.any_eq_true,List.any_eq_true]
   constructor
   ·rintro (⟨o,D⟩|⟨x,hx,h⟩)
    ·refine ⟨i-1,List.mem_range.2 (by have:=of_decide_eq_true o;omega),?_⟩
     rw [D];simp
    ·obtain ⟨k,p,rfl⟩:=List.getElem_of_mem hx
     rw [List.length_take] at p;refine ⟨k,List.mem_range.2 (by omega),?_⟩
     rw [List.getElem_take, <-z8 (by omega)] at h;rw [h];rfl
   ·rintro ⟨k,p,h⟩
    have p:=List.mem_range.1 p;rw [Bool.or_eq_true,Bool.and_eq_true] at h
    rcases h with h|⟨o,D⟩
    ·exact .inr ⟨gl l k,List.mem_take_iff_getElem.2 ⟨k,by omega,(z8 (by omega)).symm⟩,h⟩
    ·have o:=of_decide_eq_true o
     subst o;exact .inl ⟨decide_eq_true (by omega),D⟩
  have A:∀ k,k<i->gl (l.take i) k=gl l k:=fun k p=>by rw [z8 (by simp;omega),z8 (by omega),List.getElem_take]
  have L:((i:Nat):Int).toNat=i:=Int.toNat_natCast i;have t:(l.take ((i:Nat):Int).toNat).length=i:=by simp;omega
  refine (Z5y (c:=fun _=>some ((i:Int),(6:Int))) (y:=y) i (fun k=>sEq (gl l k).n_ (gl l i).n_||(decide (k=i-1)&&decide ((gl l i).N_<=(gl l k).N_))) (fun m k p _ g=>?_) (fun m k z p _ g w=>?_) (fun g m=>?_) (by omega)).trans ?_
  ·show Q1k F l (i:Int) f m (k:Int)=_
   unfold Q1k;have k2:Q3j F (i:Int) (k:Int) m true=some ((i:Int),6):=rfl
   refine Y2 (decide_eq_true (by rw [t];omega)) (Z3 (by rw [t];omega) ?_);simp only [Int.toNat_natCast,A k p]
   refine Q8 (fun _=>k2) (fun o=>Z3 (Y5 (by omega) (by omega)) ?_);rw [o,Bool.false_or,Bool.and_eq_true] at g
   refine Y2 (by have:=of_decide_eq_true g.1;simp;omega) ?_;rw [g.2];exact k2
  ·show Q1k F l (i:Int) f m (k:Int)=_
   unfold Q1k;have k2:Q3j F (i:Int) (k:Int) m false=z:=Q9 rfl (Z3 (Y5 (by omega) (by omega)) w)
   refine Y2 (decide_eq_true (by rw [t];omega)) (Z3 (by rw [t];omega) ?_);simp only [Int.toNat_natCast,A k p]
   rw [Bool.or_eq_false_iff] at g;refine Q9 g.1 (Z3 (Y5 (by omega) (by omega)) (Q8 (fun o=>?_) (fun _=>k2)))
   have o:k=i-1:=by simp at o;omega
   have:=g.2
   rw [decide_eq_true o,Bool.true_and] at this;rw [this];exact k2
  ·show Q1k F l (i:Int) f m (i:Int)=_
   unfold Q1k;refine Q9 (decide_eq_false (by rw [t];omega)) ?_
   have C:twB l i=false:=by rw [e,List.any_eq_false];intro k p;rw [g k (List.mem_range.1 p)];simp
   exact Z3 (Y5 (by omega) (by omega)) (H C)
  ·cases hf:(List.range i).find? fun k=>sEq (gl l k).n_ (gl l i).n_||(decide (k=i-1)&&decide ((gl l i).N_<=(gl l k).N_)) with
   | some k=>
    have C:twB l i=true:=by rw [e,List.any_eq_true];have h:=List.find?_range_eq_some.1 hf;exact ⟨k,h.2.1,h.1⟩
    rw [if_pos C]
   | none=>
    have C:twB l i=false:=by rw [e,List.any_eq_false];intro k p;exact List.find?_eq_none.1 hf k p
    rw [if_neg (by simp [C])]
 refine (Z5y (c:=fun i=>some ((i:Int),if Q9I d (gl l i)≠0 then Q9I d (gl l i) else 6)) (y:=some (Y5x l)) l.length (Z9X d l) (fun f i q _ g=>?_) (fun f i z q _ g w=>?_) (fun g f=>?_) (by omega)).trans ?_
 ·show Q2a F l f (i:Int)=_
  unfold Q2a;refine Y2 (decide_eq_true (by omega)) (Z3 (by omega) (Q4 (Z7G hd hF (hl _ (V7 q))) ?_))
  by_cases u:Q9I d (gl l i)=0
  ·rw [if_neg (by simpa using u)]
   unfold Z9X at g;rw [decide_eq_false (by simpa using u),Bool.false_or] at g
   refine Q9 (by simp [u]) (Z3 (by omega) ((r f i q (y:=none) fun h=>by rw [g] at h;cases h).trans ?_));rw [if_pos g]
  ·rw [if_pos u];exact Y2 (by simpa using u) rfl
 ·show Q2a F l f (i:Int)=_
  unfold Q2a;unfold Z9X at g
  rw [Bool.or_eq_false_iff] at g;have u:Q9I d (gl l i)=0:=by simpa using g.1
  refine Y2 (decide_eq_true (by omega)) (Z3 (by omega) (Q4 (Z7G hd hF (hl _ (V7 q))) (Q9 (by simp [u]) (Z3 (by omega) ((r f i q fun _=>w).trans ?_)))));rw [if_neg (by simp [g.2])]
 ·show Q2a F l f (l.length:Int)=_
  unfold Q2a Z1e Y5x;refine Q9 (decide_eq_false (by omega)) ?_
  have w:∀ j,j<l.length->0<=(gl l j).N_:=fun j M=>by
   have:=g j M
   unfold Z9X at this;rw [Bool.or_eq_false_iff] at this
   exact (Y2p (by simpa using this.1)).1
  have B:∀ (f:Int->Option (Int×Int)) (i:Nat),i<l.length->∀ {y:Option (Int×Int)},f ((i:Int)+1)=y->Z8 (fun m (z:Int)=>Q1j F l (i:Int) f m z) F (0:Int)=if (List.range 16).any (Y7S l (gl l i))=true then some ((i:Int),17) else y:=by
   intro f i q y H;refine Y5O (c:=some ((i:Int),17)) (y:=y) 16 (Y7S l (gl l i)) (fun m n K g=>?_) (fun m n z K g v=>?_) (fun m=>?_) (by omega)
   ·show Q1j F l (i:Int) f m (n:Int)=_
    unfold Q1j;unfold Y7S at g
    rw [Bool.and_eq_true] at g;obtain ⟨o,D⟩:=Y5Y (Z9w (n:Nat)) l
    simp only [Int.toNat_natCast (n:=i)];refine Y2 (decide_eq_true (by omega)) (Z3 (by omega) (Q9 (by rw [Z2X,g.1];rfl) (Q4 (Z6l E (by omega) _) ?_)))
    refine Q8 (fun _=>rfl) (fun I=>Z3 (by have:=of_decide_eq_false I;omega) (Z3 (w i q) ?_));rw [Z2X]
    have:=g.2
    rw [I,Bool.false_or] at this;rw [this];rfl
   ·show Q1j F l (i:Int) f m (n:Int)=_
    unfold Q1j;unfold Y7S at g
    obtain ⟨o,D⟩:=Y5Y (Z9w (n:Nat)) l;simp only [Int.toNat_natCast (n:=i)]
    have J:Q7L F (n:Int) m=z:=Z3 (Y5 (by omega) (by omega)) v;refine Y2 (decide_eq_true (by omega)) (Z3 (by omega) ?_)
    rw [Z2X]
    cases hb:Z2Y (gl l i).excludes_ n with
    | false=>exact Y2 rfl J
    | true=>
     rw [hb,Bool.true_and,Bool.or_eq_false_iff] at g;refine Q9 rfl (Q4 (Z6l E (by omega) _) (Q9 g.1 (Z3 (by have:=of_decide_eq_false g.1;omega) (Z3 (w i q) ?_))))
     rw [Z2X,g.2];unfold Q7M;exact Q9 rfl J
   ·show Q1j F l (i:Int) f m (16:Int)=_
    unfold Q1j;exact Q9 (by decide) (Z3 (Y5 (by omega) (by omega)) H)
  refine (Z5y (c:=fun i=>some ((i:Int),17)) (y:=some (-1,0)) l.length (fun i=> !Y3P l (gl l i)) (fun f i q _ g=>?_) (fun f i z q _ g v=>?_) (fun g f=>?_) (by omega)).trans ?_
  ·show Q1Z F l f (i:Int)=_
   unfold Q1Z;unfold Y3P at g
   rw [Bool.not_not] at g;refine Y2 (decide_eq_true (by omega)) (Z3 (by omega) ((B f i q rfl).trans ?_))
   rw [if_pos g]
  ·show Q1Z F l f (i:Int)=_
   unfold Q1Z;unfold Y3P at g
   rw [Bool.not_not] at g;refine Y2 (decide_eq_true (by omega)) (Z3 (by omega) ((B f i q v).trans ?_))
   rw [if_neg (by simp [g])]
  ·show Q1Z F l f (l.length:Int)=_
   unfold Q1Z;exact Q9 (decide_eq_false (by omega)) rfl
  ·cases (List.range l.length).find? fun i=> !Y3P l (gl l i) <;> rfl
 ·cases (List.range l.length).find? (Z9X d l) <;> rfl
end
end Go.Ab
end
section
end
section
namespace Go.Ab
set_option maxRecDepth 20000
noncomputable section
structure GoodL (d:Nat) (l:List Scheme):Prop where
 len:l.length<=16
 one:∀ i,i<l.length->Q9I d (gl l i)=0
 asc:∀ i,0<i->i<l.length->(gl l (i-1)).N_<(gl l i).N_
 nam:∀ i,i<l.length->((l.take i).any fun x=>sEq x.n_ (gl l i).n_)=false
 mtl:∀ i,i<l.length->Y3P l (gl l i)=true
theorem Y8D {d:Nat} {l:List Scheme} (h:GoodL d l):Y5w d l=(-1,0):=by
 obtain ⟨g,f,e,b,c⟩:=h;unfold Y5w
 rw [if_neg (by omega)];rw [List.find?_eq_none.2 fun i a=>by
  have a:=List.mem_range.1 a;unfold Z9X twB
  rw [f i a,b i a]
  by_cases h0:0<i
  ·have:=e i h0 a
   rw [decide_eq_false (p:=(gl l i).N_<=(gl l (i-1)).N_) (by omega)];simp
  ·rw [decide_eq_false h0];simp]
 show Y5x l=_;unfold Y5x
 rw [List.find?_eq_none.2 fun i a=>by rw [c i (List.mem_range.1 a)];simp]
theorem Y7f {d:Nat} {l:List Scheme}:(Y5w d l).2=0↔GoodL d l:=by
 unfold Y5w;constructor
 ·intro h
  by_cases h16:16<l.length
  ·rw [if_pos h16] at h;cases h
  rw [if_neg h16] at h
  cases hf:(List.range l.length).find? (Z9X d l) with
  | some i=>
   rw [hf] at h
   exfalso
   revert h
   show ¬ (if Q9I d (gl l i)≠0 then Q9I d (gl l i) else 6)=0;split
   ·assumption
   ·omega
  | none=>
   rw [hf] at h;have b:∀ i,i<l.length->Z9X d l i=false:=fun i a=>by have:=List.find?_eq_none.1 hf i (List.mem_range.2 a);simpa using this
   have h:(Y5x l).2=0:=h;unfold Y5x at h
   cases hg:(List.range l.length).find? fun i=> !Y3P l (gl l i) with
   | some i=>rw [hg] at h;exact absurd h (by show ¬ (17:Int)=0;omega)
   | none=>
    have e:∀ i,i<l.length->Y3P l (gl l i)=true:=fun i a=>by have:=List.find?_eq_none.1 hg i (List.mem_range.2 a);simpa using this
    refine ⟨by omega,fun i a=>?_,fun i c a=>?_,fun i a=>?_,e⟩
    ·have:=b i a
     unfold Z9X at this;rw [Bool.or_eq_false_iff] at this
     simpa using this.1
    ·have:=b i a
     unfold Z9X twB at this;rw [Bool.or_eq_false_iff,Bool.or_eq_false_iff] at this
     have:=this.2.1
     rw [decide_eq_true c,Bool.true_and,decide_eq_false_iff_not] at this;omega
    ·have:=b i a
     unfold Z9X twB at this;rw [Bool.or_eq_false_iff,Bool.or_eq_false_iff] at this
     exact this.2.2
 ·intro h
  have:=Y8D h
  unfold Y5w at this;rw [this]
end
end Go.Ab
end
section
namespace Go.Ab
set_option maxRecDepth 20000
noncomputable section
end
end Go.Ab
end
section
namespace Go.Ab
set_option maxRecDepth 20000
noncomputable section
end
end Go.Ab
end
section
end
section
namespace Go.Ab
set_option maxRecDepth 20000
noncomputable section
theorem Z5R {F:Nat} (hF:1<=F) {n:Int} (h0:0<=n) (h1:n<=9):∃ s,Q4s F n=some s/\s.size<=10:=by
 cases F with
 | zero=>omega
 | succ F=>
  refine ⟨bOf (IntKind.wrap .u8 (48+n)),?_,by unfold bOf;simp⟩;show Q4e F (Q4s F) n=_
  unfold Q4e;exact Q9 (decide_eq_false (by omega)) (Y2 (decide_eq_true (by omega)) (Z3 (Y5 (by omega) (by omega)) rfl))
theorem Y2Y {k:Int} (h0:0<=k) (h1:k<=10):1<=(1:Int)*2 ^ (min k.toNat (IntKind.bits .i64))/\(1:Int)*2 ^ (min k.toNat (IntKind.bits .i64))<=1024:=by
 have a:k=0\/k=1\/k=2\/k=3\/k=4\/k=5\/k=6\/k=7\/k=8\/k=9\/k=10:=by omega
 rcases a with rfl|rfl|rfl|rfl|rfl|rfl|rfl|rfl|rfl|rfl|rfl <;> decide
theorem Y5K {d:Nat} {a b c:Int} (h1:I64 a) (h2:I64 b):TD (d+1) ⟨a,b,c,[]⟩:=⟨h1,h2,by simp,fun k e=>(List.not_mem_nil e).elim⟩
theorem Q4Q:∀ (n:Nat) {F:Nat} (_:n+1<=F) {t:Tape} (_:TOk t) (_:n<=5),∃ t' x,K2 F t (n:Int)=some (t',x)/\TOk t' /\ TD (n+1) x
 | n,0,hF,_,_,_=>by omega
 | n,F+1,hF,t,ht,hn=>by
  show ∃ t' x,Q3p F (K2 F) t (n:Int)=some (t',x)/\_;unfold Q3p
  have k2:∀ (u:Tape×Int) (a b:Int) (v:Tape),TOk v->I64 u.2->I64 a->Ok (J3 F (K2 F) u a b v.l_ v.at_) fun z=>TOk z.1/\TD (n+1) z.2:=fun u a b v E D H=>by
   unfold J3;exact Z5C ⟨E,Y5K D H⟩
  have g:∀ (v:Tape),TOk v->Ok ((W8 F v (1:Int) (8:Int)).bind fun z=>br (z.2==(2:Int)) (Q0G F (K2 F) z (z.2==(2:Int))) (Q0G F (K2 F) z (z.2==(3:Int)))) fun z=>TOk z.1/\TD (n+1) z.2:=fun v E=>by
   obtain ⟨A,o,C,f,Q,O⟩:=V5 (F:=F) E (lo:=1) (hi:=8) (by omega) (by omega) (by omega);have i:I64 o:=Y5 (by omega) (by omega)
   have k1:∀ b,Ok (Q0G F (K2 F) (A,o) b) fun z=>TOk z.1/\TD (n+1) z.2:=fun b=>by
    unfold Q0G;refine Q6q (fun _=>?_) (fun _=>Q6q (fun _=>?_) (fun _=>Q6q (fun _=>?_) (fun _=>Q6q (fun _=>?_) (fun _=>Q6q (fun _=>?_) (fun _=>Q6q (fun _=>?_) (fun _=>?_))))))
    ·obtain ⟨e,k,d,c,j,p⟩:=Z9 (F:=F) f (n:=4) (by omega) (by omega)
     exact Q4O d (k2 _ _ _ e c i (Y5 (by omega) (by omega)))
    ·obtain ⟨e,k,d,c,j,p⟩:=Z9 (F:=F) f (n:=5) (by omega) (by omega)
     have:=Y2Y j (by omega)
     exact Q4O d (Q1N ⟨Y5 (by simp only;omega) (by simp only;omega),j⟩ (k2 _ _ _ e c i (Y5 (by simp only;omega) (by simp only;omega))))
    ·obtain ⟨e,k,d,c,j,p⟩:=Z9 (F:=F) f (n:=16) (by omega) (by omega)
     exact Q4O d (k2 _ _ _ e c i (Y5 (by omega) (by omega)))
    ·obtain ⟨e,k,d,c,j,p⟩:=V5 (F:=F) f (lo:=2) (hi:=3) (by omega) (by omega) (by omega)
     exact Q4O d (k2 _ _ _ e c i (Y5 (by omega) (by omega)))
    ·obtain ⟨e,k,d,c,j,p⟩:=V5 (F:=F) f (lo:=1) (hi:=2) (by omega) (by omega) (by omega)
     obtain ⟨B,m,w,s,K,R⟩:=Z9 (F:=F) c (n:=5) (by omega) (by omega);have:=Y2Y K (by omega)
     exact Q4O d (Q4O w (Q1N ⟨Y5 (by simp only;omega) (by simp only;omega),K⟩ (k2 _ _ _ B s i (Y5 (by simp only;omega) (by simp only;omega)))))
    ·obtain ⟨e,k,d,c,j,p⟩:=V5 (F:=F) f (lo:=1) (hi:=3) (by omega) (by omega) (by omega)
     exact Q4O d (k2 _ _ _ e c i (Y5 (by omega) (by omega)))
    ·exact k2 _ _ _ A f i (Y5 (by omega) (by omega))
   exact Q4O C (Q6q (fun _=>k1 _) (fun _=>k1 _))
  have l:Ok (br (decide ((0:Int)<(n:Int))) ((Q1O F t (2:Int)).bind fun z=>Q0H F (K2 F) (n:Int) z.2 z.1.l_ z.1.at_) (Q0H F (K2 F) (n:Int) false t.l_ t.at_)) fun z=>TOk z.1/\TD (n+1) z.2:=by
   refine Q6q (fun h=>?_) (fun _=>?_)
   ·have h:=of_decide_eq_true h
    obtain ⟨m,rfl⟩:∃ m,n=m+1:=⟨n-1,by omega⟩;obtain ⟨A,b,C,f⟩:=Q8T (F:=F) ht (n:=2) (by omega) (by omega)
    refine Q4O C ?_;unfold Q0H
    refine Q6q (fun _=>?_) (fun _=>g A f);obtain ⟨e,k,d,c,_,_⟩:=Z9 (F:=F) f (n:=3) (by omega) (by omega)
    refine Q4O d ?_;have J:((m+1:Nat):Int)-1=(m:Int):=by omega
    refine Q6q (fun _=>Q1N (Y5 (by omega) (by omega)) ?_) (fun _=>Q6q (fun _=>Q1N (Y5 (by omega) (by omega)) ?_) (fun _=>Q1N (Y5 (by omega) (by omega)) ?_))
    ·rw [J]
     obtain ⟨B,x,w,s,q⟩:=Q4Q m (by omega:m+1<=F) c (by omega);exact Q4O w (Q1N q.op (Z5C ⟨s,Y5 (by simp only;omega) (by simp only;omega),Y5 (by simp only;omega) (by simp only;omega),by simp,fun k G=>by rw [List.mem_singleton.1 G];exact q⟩))
    all_goals
     rw [J];obtain ⟨B,x,w,s,q⟩:=Q4Q m (by omega:m+1<=F) c (by omega)
     obtain ⟨P,y,M,N,I⟩:=Q4Q m (by omega:m+1<=F) s (by omega);refine Q4O w (Q1N (Y5 (by omega) (by omega)) (Q4O M (Q1N q.op (Q1N I.op (Z5C ⟨N,Y5 (by simp only;omega) (by simp only;omega),Y5 (by simp only;omega) (by simp only;omega),by simp,fun k G=>?_⟩)))))
     rcases List.mem_cons.1 G with h|h
     ·rw [h];exact q
     ·rw [List.mem_singleton.1 h];exact I
   ·unfold Q0H
    exact Q6q (fun h=>by cases h) (fun _=>g t ht)
  obtain ⟨r,L,D,H⟩:=l;exact ⟨r.1,r.2,L,D,H⟩
structure ST (s:Scheme):Prop where
 sd:SD 3 s
 num:0<=s.N_/\s.N_<=3
theorem ST.excl {s:Scheme} (h:ST s) (e:Int):ST { s with excludes_:=e }:=⟨⟨h.sd.cond,h.sd.name,h.sd.brl⟩,h.num⟩
theorem Y7t {l:List Scheme} (h:∀ s ∈ l,ST s) {i:Nat} {x:Scheme} (hx:ST x):∀ s ∈ l.set i x,ST s:=fun s b=>by
 rcases List.mem_or_eq_of_mem_set b with a|a
 ·exact h s a
 ·rw [a];exact hx
structure LT (L:List Scheme):Prop where
 st:∀ s ∈ L,ST s
 len:L.length<=3
theorem Z8T {F:Nat} (hF:BIG+3<=F) {t:Tape} (ht:TOk t) {most:Int} (m0:0<=most) (m1:most<=3):∃ t' L,Q4u F t most=some (t',L)/\TOk t' /\ LT L/\(L=[]\/GoodL 3 L):=by
 have hB:BIG<=F:=by omega
 have V:=hB;unfold BIG at V
 unfold Q4u;obtain ⟨t1,n,e1,o1,K,n1⟩:=Z9 (F:=F) ht (n:=2) (by omega) (by omega)
 obtain ⟨t2,k,e2,o2,k0,k1⟩:=Z9 (F:=F) o1 (n:=most+1) (by omega) (by omega)
 suffices h:Ok (Z8 (fun e (z:Int×Int×(List Int)×Int×(List Scheme))=>Q5J F e z.1 z.2.1 z.2.2.1 z.2.2.2.1 z.2.2.2.2) F (n,k,t2.l_,t2.at_,([]:List Scheme))) fun z=>TOk z.1/\LT z.2/\(z.2=[]\/GoodL 3 z.2) by
  obtain ⟨r,hr,h1,R,J⟩:=h;exact ⟨r.1,r.2,Q4 e1 (Z3 (Y5 (by omega) (by omega)) (Q4 e2 hr)),h1,R,J⟩
 have Z:∀ (L:List Scheme) (v:Tape),TOk v->LT L->Ok (Q4R F L v.l_ v.at_) fun z=>TOk z.1/\LT z.2/\(z.2=[]\/GoodL 3 z.2):=fun L v f A=>by
  unfold Q4R;refine Q4O (Y0K (d:=3) (by omega) hF fun s I=>(A.st s I).sd) (Q6q (fun _=>?_) (fun h=>?_))
  ·exact Z5C ⟨f,⟨fun s I=>(List.not_mem_nil I).elim,by simp⟩,.inl rfl⟩
  ·exact Z5C ⟨f,A,.inr (Y7f.1 (by simpa using h))⟩
 have k5:∀ (L:List Scheme) (v:Tape),TOk v->LT L->Ok (Q5I F v.l_ v.at_ L) fun z=>TOk z.1/\LT z.2/\(z.2=[]\/GoodL 3 z.2):=fun L v f A=>by
  have b3:=A.len;unfold Q5I
  refine Z7P (fun z:Int×(List Int)×Int×(List Scheme)=>0<=z.1/\z.1<=L.length/\TOk ⟨z.2.1,z.2.2.1⟩/\LT z.2.2.2/\z.2.2.2.length=L.length) (fun z=>L.length-z.1.toNat) (fun e z D ih=>?_) ⟨by simp,by simp,f,A,rfl⟩ (by simp;omega);obtain ⟨i,a,b,M⟩:=z
  obtain ⟨i0,i1,f,p,o⟩:=D;simp only at i0 i1 f p o
  show Ok (Q8Y F L e i a b M) _;unfold Q8Y
  refine Q6q (fun h=>?_) (fun _=>Z M ⟨a,b⟩ f p);have h:=of_decide_eq_true h
  refine Q1N (by omega) ?_;refine Z7P (fun z:Int×(List Int)×Int×(List Scheme)=>0<=z.1/\z.1<=i/\TOk ⟨z.2.1,z.2.2.1⟩/\LT z.2.2.2/\z.2.2.2.length=L.length) (fun z=>i.toNat-z.1.toNat) (fun S z D G=>?_) ⟨by simp,by simpa using i0,f,p,o⟩ (by simp;omega)
  obtain ⟨j,a,b,M⟩:=z;obtain ⟨j0,j1,f,p,o⟩:=D
  simp only at j0 j1 f p o;show Ok (Q8X F i e S j a b M) _
  unfold Q8X;refine Q6q (fun R=>?_) (fun _=>?_)
  ·have R:=of_decide_eq_true R
   obtain ⟨P,c,W,Q⟩:=Q8T (F:=F) f (n:=3) (by omega) (by omega);have k8:∀ (N:List Scheme) (v:Tape),TOk v->LT N->N.length=L.length->Ok (Q3q F j S v.l_ v.at_ N) fun z=>TOk z.1/\LT z.2/\(z.2=[]\/GoodL 3 z.2):=fun N v f T o=>by
    unfold Q3q;exact Q1N (Y5 (by omega) (by omega)) (G _ ⟨by simp only;omega,by simp only;omega,f,T,o⟩ (by simp only;omega))
   refine Q4O W (Q6q (fun _=>?_) (fun _=>k8 M P Q p o));have X:=p.st _ (V7 (l:=M) (i:=j.toNat) (by omega))
   have hi:=p.st _ (V7 (l:=M) (i:=i.toNat) (by omega));have p1:=Y2Y X.num.1 (by have:=X.num.2;omega)
   refine Q1N (by omega) (Q1N (by omega) (Q1N ⟨Y5 (by omega) (by omega),X.num.1⟩ (Q1N (by omega) ?_)));have C:∀ s ∈ M.set i.toNat ⟨(gl M i.toNat).N_,(gl M i.toNat).n_,(gl M i.toNat).cond_,(gl M i.toNat).brackets_,(gl M i.toNat).least_,bor .i64 (gl M i.toNat).excludes_ ((1:Int)*2 ^ (min (gl M j.toNat).N_.toNat (IntKind.bits .i64))),(gl M i.toNat).needs_⟩,ST s:=Y7t p.st (hi.excl _)
   generalize T:M.set i.toNat _=N at C ⊢;have c7:N.length=M.length:=by rw [<-T];simp
   have E:=C _ (V7 (l:=N) (i:=i.toNat) (by omega));have a3:=C _ (V7 (l:=N) (i:=j.toNat) (by omega))
   have p2:=Y2Y E.num.1 (by have:=E.num.2;omega);refine Q1N (by omega) (Q1N (by omega) (Q1N ⟨Y5 (by omega) (by omega),E.num.1⟩ (Q1N (by omega) ?_)))
   exact k8 _ P Q ⟨Y7t C (a3.excl _),by simp;omega⟩ (by simp;omega)
  ·unfold Q8U
   exact Q1N (Y5 (by omega) (by omega)) (ih _ ⟨by simp only;omega,by simp only;omega,f,p,o⟩ (by simp only;omega))
 refine Z7P (fun z:Int×Int×(List Int)×Int×(List Scheme)=>0<=z.1/\z.1<=5/\0<=z.2.1/\TOk ⟨z.2.2.1,z.2.2.2.1⟩/\(∀ s ∈ z.2.2.2.2,ST s)/\(z.2.2.2.2.length:Int)+z.2.1<=3) (fun z=>z.2.1.toNat) (fun e z D ih=>?_) ⟨by simpa using K,by simp only;omega,by simpa using k0,o2,fun s I=>(List.not_mem_nil I).elim,by simp;omega⟩ (by simp only;omega);obtain ⟨n,k,a,b,L⟩:=z
 obtain ⟨K,n1,k0,f,A,o⟩:=D;simp only at K n1 k0 f A o
 show Ok (Q5J F e n k a b L) _;unfold Q5J
 have Y:LT L:=⟨A,by omega⟩;have kf:Ok (Q1R F n k a b L e false) fun z=>TOk z.1/\LT z.2/\(z.2=[]\/GoodL 3 z.2):=by
  unfold Q1R;exact Q6q (fun h=>by cases h) (fun _=>k5 L ⟨a,b⟩ f Y)
 refine Q6q (fun h=>?_) (fun _=>kf);have h:=of_decide_eq_true h
 by_cases J:n<=3
 rotate_left
 ·rw [decide_eq_false J];exact kf
 rw [decide_eq_true J];unfold Q1R
 refine Q6q (fun _=>?_) (fun h=>by cases h);obtain ⟨s,es,I⟩:=Z5R (F:=F) (by omega) K (by omega)
 obtain ⟨P,x,W,Q,hx⟩:=Q4Q 2 (by omega:3<=F) f (by omega);obtain ⟨t4,y,e4,o4,y0,y1⟩:=Z9 (F:=F) Q (n:=4) (by omega) (by omega)
 obtain ⟨t5,c,e5,o5⟩:=Q8T (F:=F) o4 (n:=2) (by omega) (by omega);obtain ⟨t6,m,e6,o6,m0,m1⟩:=V5 (F:=F) o5 (lo:=1) (hi:=3) (by omega) (by omega) (by omega)
 have O:ByteArray.size (ByteArray.mk #[115])=1:=rfl;refine Q4O es (Q1N (by rw [O];unfold LIM;omega) (Q4O W (Q4O e4 (Q4O e5 (Q4O e6 ?_)))))
 refine Z7P (fun z:Int×Int×(List Int)×Int×(List Bracket)=>0<=z.1/\z.1+40*z.2.1<=120/\0<=z.2.1/\TOk ⟨z.2.2.1,z.2.2.2.1⟩/\(z.2.2.2.2.length:Int)+z.2.1<=3) (fun z=>z.2.1.toNat) (fun S z D G=>?_) ⟨by simp,by simp only;omega,by simp only;omega,o6,by simp;omega⟩ (by simp only;omega);obtain ⟨u,q,a2,b2,B⟩:=z
 obtain ⟨u0,u1,q0,H,a4⟩:=D;simp only at u0 u1 q0 H a4
 show Ok (Q8Z F n k L s (P,x) (t4,y) (t5,c) e S u q a2 b2 B) _;unfold Q8Z
 refine Q6q (fun h4=>?_) (fun _=>?_)
 ·have h4:=of_decide_eq_true h4
  obtain ⟨t7,w,e7,o7,w0,w1⟩:=V5 (F:=F) H (lo:=1) (hi:=40) (by omega) (by omega) (by omega);obtain ⟨t8,g,e8,o8,g0,g1⟩:=Z9 (F:=F) o7 (n:=3000) (by omega) (by omega)
  exact Q4O e7 (Q1N (Y5 (by simp only;omega) (by simp only;omega)) (Q4O e8 (Q1N (by simp only [List.length_cons,List.length_nil];unfold LIM;omega) (Q1N (Y5 (by omega) (by omega)) (G _ ⟨by simp only;omega,by simp only;omega,by simp only;omega,o8,by simp;omega⟩ (by simp only;omega))))))
 ·unfold Q8W
  obtain ⟨t9,w,e9,o9,w0,w1⟩:=V5 (F:=F) H (lo:=1) (hi:=2) (by omega) (by omega) (by omega);refine Q1N (by simp only [List.length_cons,List.length_nil];unfold LIM;omega) (Q4O e9 (Q1N (Y5 (by simp only;omega) (by simp only;omega)) ?_))
  unfold Q8V;refine Q1N (Y5 (by omega) (by omega)) (ih _ ⟨by simp only;omega,by simp only;omega,by simp only;omega,o9,fun s' U=>?_,by simp;omega⟩ (by simp only;omega))
  rcases List.mem_append.1 U with h5|h5
  ·exact A s' h5
  ·rw [List.mem_singleton.1 h5]
   refine ⟨⟨hx,?_,by simp only;omega⟩,K,J⟩;show ((ByteArray.mk #[115])++s).size<=_
   rw [ByteArray.size_append,O];omega
end
end Go.Ab
end
section
namespace Go.Ab
set_option maxRecDepth 20000
noncomputable section
structure WT (w:World):Prop where
 yr:0<=w.y_/\w.y_<=4
 crops:CropT w.crops_
 his:HisT (w.crops_.length:Nat) w.history_
 hlen:w.history_.length<=5
 zon:LayT w.zones_
 zlen:w.zones_.length<=3
 day:0<=w.day_/\w.day_<=24
 most:0<=w.most_/\w.most_<=300
theorem HisT.few5 {K:Int} {H:List Rg_} (h:HisT K H) (hl:H.length<=5):FewR H:=⟨h.hl,fun y p i a=>by
 have:=Y9h h y p i (by omega)
 omega⟩
theorem Box.up {n m:Int} {l:List Rect} (h:Box n l) (hm:n<=m):Box m l:=fun r a=>by
 have:=h r a
 omega
theorem WT.lb {w:World} (h:WT w):LB 9 w.zones_:=h.zon.lb
theorem WT.ev {w:World} (h:WT w) {A:List Rect} (hA:TR A) {c:Int} (hc:0<=c/\c<(w.crops_.length:Nat)):EV w.y_ w.crops_ w.history_ w.zones_ c A:=by
 have b:=h.crops.one c.toNat (by omega);exact ⟨hA,hc,b.2.1,⟨b.2.2.2.1,b.2.2.2.2⟩,h.his.few5 h.hlen,fun f a=>(h.his.box f a).up (by omega),fun f a=>⟨((Q8R f).1 (h.his.hl.one f a)).2.2.1,h.his.crop f a⟩,by have:=h.yr;omega,⟨h.zon.vl,fun f a=>(h.lb.box f a).up (by omega),by omega⟩⟩
theorem WT.chk {w:World} (h:WT w) {A:List Rect} (hA:TR A) {c:Int} (hc:0<=c/\c<(w.crops_.length:Nat)) {e:Nat} {t:Term} (ht:Q8w e t=0):Z6b e t w.crops_ c w.history_ w.y_ w.zones_ w.day_ A=0:=by
 have g:=h.yr;have i:=h.day
 have d:∀ k:Int,0<=k->k<(w.crops_.length:Nat)->Q7p w.crops_ k=false:=fun k f j=>by
  unfold Q7p;rw [decide_eq_false (by omega),decide_eq_false (by omega)];rfl
 have a:(w.history_.any fun r=>Q7p w.crops_ r.c_)=false:=by
  rw [List.any_eq_false];intro r b
  rw [d _ ((Q8R r).1 (h.his.hl.one r b)).2.2.1 (h.his.crop r b)];exact Bool.noConfusion
 unfold Z6b;rw [if_neg (by rw [ht];simp),if_neg (by rw [h.crops.crC];simp),if_neg (by rw [d c hc.1 hc.2,a];simp),if_neg (by rw [(Z2V _).2 h.his.hl];simp),if_neg (by omega),if_neg (by rw [(Z0P _).2 h.zon.vl];simp),if_neg (by omega),if_pos ((Q0P _).2 hA.val)]
def lnT (w:World) (x:Line) (parcel:Re_) (s:Scheme):TS:=
 if Z2Y x.s_ s.N_=false then Z8l x.g_.t_ false
 else Z4d x.g_.t_ (evS w.y_ w.crops_ w.history_ w.zones_ w.day_ x.c_ x.g_.t_ 3 s.cond_) (elS w.zones_ w.day_ w.most_ parcel.t_)
theorem Y7X (w:World) (x:Line) (parcel:Re_) (s:Scheme):TIn x.g_.t_ (lnT w x parcel s):=by
 unfold lnT;split
 ·exact Z9n _ _
 ·exact Y7Z (Y1o _ _) (Y5p _ _ _ _)
theorem W0K {w:World} {x:Line} {parcel:Re_} {s:Scheme} (u v:Int) (h1:(lnT w x parcel s).Y u v=true) (h2:(lnT w x parcel s).N u v=true):False:=by
 unfold lnT at h1 h2;split at h1
 ·cases h1
 ·rename_i q
  rw [if_neg q] at h2;simp only [Z4d] at h1 h2
  rw [h1] at h2;simp at h2
theorem W0g {A:List Rect} (h:Val A):(Z8l A false).t3 A=⟨⟨[]⟩,⟨A⟩,⟨[]⟩⟩:=by
 unfold TS.t3;rw [Y8R,Y1Z]
 show Truth.mk ⟨cn fun _ _=>false⟩ ⟨cn (inR A)⟩ ⟨[]⟩=_;rw [Y1Z,Y5u h]
theorem Y3R {F n:Nat} (hF:BIG+3<=F) {w:World} {x:Line} (hE:EV w.y_ w.crops_ w.history_ w.zones_ x.c_ x.g_.t_) {s:Scheme} (hk:Z6b 3 s.cond_ w.crops_ x.c_ w.history_ w.y_ w.zones_ w.day_ x.g_.t_=0) (hl:w.history_.length<=1000000) (hn:NmS w.crops_) (hL:LB n w.zones_) (d1:0<=w.day_) (d2:w.day_<=36864) (m1:0<=w.most_) (m2:w.most_<=268435456)
  (hs:SD 3 s) (h1:Q9I 3 s=0) {parcel:Re_} (hp:TR parcel.t_) (hsub:∀ u v,inR x.g_.t_ u v=true->inR parcel.t_ u v=true) :
  Q0E F x parcel s w=some ((lnT w x parcel s).t3 x.g_.t_,0):=by
 have d:BIG<=F:=by omega
 have b:=hE.tr;have c:=Z8q d hL d1 d2 hp m1 m2
 rw [Z9g (e:=3) (by omega) hF hs hl hn (fun _=>hE) c fun _=>W0s hp _ _];have hE:(Z6D 3 s.cond_ x w.y_ w.crops_ w.history_ w.zones_ w.day_).2=0:=by
  unfold Z6D;rw [if_neg (by rw [hk];simp)]
 have a:Z6e x.g_ parcel=true:=(Z8r b.val hp.val).2 hsub;unfold Y7Y
 rw [if_neg (by rw [(Q0P _).2 hp.val];simp),if_neg (by rw [hE];simp),if_neg (by rw [h1];simp),if_neg (by simp),if_neg (by rw [a];simp)];unfold lnT
 by_cases q:Z2Y x.s_ s.N_=false
 ·rw [if_pos q,if_pos q,W0g b.val]
 ·rw [if_neg q,if_neg q]
  show some ((Z4d _ _ (inR (cn (elS w.zones_ w.day_ w.most_ parcel.t_)))).t3 _,(0:Int))=_;rw [Q0z (Y5p _ _ _ _)]
theorem Y6U {F:Nat} (hF:BIG+3<=F) {w:World} (hw:WT w) {x:Line} (hA:TR x.g_.t_) (hc:0<=x.c_/\x.c_<(w.crops_.length:Nat)) {s:Scheme} (hs:SD 3 s) (h1:Q9I 3 s=0) {parcel:Re_} (hp:TR parcel.t_) (hsub:∀ u v,inR x.g_.t_ u v=true->inR parcel.t_ u v=true) :
  Q0E F x parcel s w=some ((lnT w x parcel s).t3 x.g_.t_,0):=by
 have a:=hw.day;have b:=hw.most
 have c:=hw.hlen;exact Y3R hF (hw.ev hA hc) (hw.chk hA hc (Y2p h1).2.2.2.2.2.1) (by omega) hw.crops.nm hw.lb a.1 (by omega) b.1 (by omega) hs h1 hp hsub
end
end Go.Ab
end
section
namespace Go.Ab
set_option maxRecDepth 20000
noncomputable section
theorem Y1d {F:Nat} {a n:Int} (h0:0<=a) (h1:a<n):Q9M F a n=some a:=by
 unfold Q9M;rw [Int.tmod_eq_of_lt h0 h1]
 exact Q9 (decide_eq_false (by omega)) (Z3 (by omega) (Q9 (decide_eq_false (by omega)) rfl))
structure PrT (rs:List Re_) (l:List Line) (ps:List Re_):Prop where
 len:ps.length=l.length
 at_:∀ i,i<l.length->gl ps i=gl rs ((gl l i).p_-1).toNat
theorem Z9T {F:Nat} (hF:BIG<=F) {K:Int} {rs:List Re_} (hp:ParT rs) {l:List Line} (hl:LinT K rs l) (h3:l.length<=100):∃ ps,Q5L F l rs=some ps/\PrT rs l ps:=by
 unfold BIG at hF;have o:=hp.len
 unfold Q5L
 suffices h:Ok (Z8 (fun b (z:Int×(List Re_))=>Q6I F l rs b z.1 z.2) F ((0:Int),([]:List Re_))) fun ps=>PrT rs l ps by
  obtain ⟨ps,e,n⟩:=h;exact ⟨ps,e,n⟩
 refine Z7P (fun z:Int×List Re_=>∃ i:Nat,z.1=i/\i<=l.length/\z.2.length=i/\∀ k,k<i->gl z.2 k=gl rs ((gl l k).p_-1).toNat) (fun z=>l.length-z.1.toNat) (fun b z m j=>?_) ⟨0,rfl,Nat.zero_le _,rfl,fun k f=>absurd f (Nat.not_lt_zero k)⟩ (by simp;omega);obtain ⟨a,ps⟩:=z
 obtain ⟨i,e,q,c,d⟩:=m;simp only at e c d
 subst e;show Ok (Q6I F l rs b (i:Int) ps) _
 unfold Q6I;refine Q6q (fun h=>?_) (fun h=>?_)
 ·have h:i<l.length:=by have:=of_decide_eq_true h;omega
  have p:=(hl.one _ (V7 h)).par;rw [Int.toNat_natCast]
  refine Q1N (by omega) (Q1N (Y5 (by omega) (by omega)) (Q4O (Y1d (by omega) (by omega)) (Q1N (by omega) (Q1N (by simp only [List.length_cons,List.length_nil];unfold LIM;omega) (Q1N (Y5 (by omega) (by omega)) (j _ ⟨i+1,by simp,h,by simp [c],fun k f=>?_⟩ (by simp only;omega)))))));rcases Nat.lt_or_ge k i with g|g
  ·rw [Y8l _ _ (by omega)];exact d k g
  ·have:k=ps.length:=by omega
   subst this;rw [Y8k,c]
 ·have h:i=l.length:=by have:=of_decide_eq_false h;omega
  unfold Z0o;exact Z5C ⟨by omega,fun k f=>d k (by omega)⟩
theorem Z6V {F:Nat} (hF:BIG<=F) {t:Tape} (ht:TOk t) {cs:List Crop} (hcs:CropT cs):∃ t' w,Q2t F t cs=some (t',w)/\TOk t' /\ WT w/\w.crops_=cs/\w.most_<=4:=by
 obtain ⟨E,y,i,h,C,B⟩:=Z9 (F:=F) ht (n:=5) (by omega) (by omega);obtain ⟨D,H,k,p,g,u⟩:=Z4i hF h hcs (most:=5) (by omega) (by omega)
 obtain ⟨A,Z,j,f,b,q⟩:=Z6X hF p (most:=3) (by omega) (by omega);obtain ⟨z,d,c,a,r,v⟩:=Z9 (F:=F) f (n:=25) (by omega) (by omega)
 obtain ⟨o,m,e,l,s,x⟩:=Z9 (F:=F) a (n:=5) (by omega) (by omega);refine ⟨o,⟨y,cs,H,Z,d,m⟩,?_,l,⟨by simp only;omega,hcs,g,by simp only;omega,b,by simp only;omega,by simp only;omega,by simp only;omega⟩,rfl,by simp only;omega⟩
 unfold Q2t;exact Q4 i (Q4 k (Q4 j (Q4 c (Q4 e rfl))))
def Y2e:Term:=⟨1,0,0,[]⟩
theorem Y9l (d:Nat):TD (d+1) Y2e:=Y5K (Y5 (by omega) (by omega)) (Y5 (by omega) (by omega))
def exA:List Rect:=[⟨0,0,10,1⟩]
def exZ:List Rect:=[⟨3,0,5,1⟩]
def Z4j:Line:=⟨1,⟨exA⟩,0,1⟩
def exS:Scheme:=⟨0,ByteArray.mk #[115],Y2e,[⟨10,1⟩],0,0,false⟩
def exF:A2_:=⟨1,0,0,9,⟨exZ⟩⟩
def exW:World:=⟨0,[⟨ByteArray.mk #[114,121,101],0,0⟩],[],[exF],0,0⟩
theorem Y6i:Z2Y 1 0=true/\Z2Y 0 0=false:=by decide +kernel
theorem Y9R:crC exW.crops_=0:=by decide +kernel
theorem Y9T:Q9I 3 exS=0:=by
 have a:Q2I (ByteArray.mk #[115])=true:=by decide +kernel
 have b:brB [⟨10,1⟩]=true:=by decide +kernel
 show Q9I 3 ⟨0,ByteArray.mk #[115],Y2e,[⟨10,1⟩],0,0,false⟩=0;unfold Q9I
 rw [show Q8w 3 Y2e=0 from Y0u 2,if_neg (by simp),if_neg (by rw [a];simp),if_neg (by simp),if_neg (by rw [b];simp [Y6i.2])]
theorem Y6j:Val exA:=val_one (r:=⟨0,0,10,1⟩) (by decide)
theorem Y6h:Val exZ:=val_one (r:=⟨3,0,5,1⟩) (by decide)
theorem W0R (u v:Int):inR exA u v=true↔0<=u/\u<10/\0<=v/\v<1:=by
 unfold exA;rw [Q4T]
 constructor
 ·rintro ⟨r,a,h⟩
  rw [List.mem_singleton] at a;subst a
  rw [y6] at h;simp only at h
  omega
 ·intro h
  exact ⟨_,List.mem_singleton.2 rfl,(y6 _ _ _).2 (by simp only;omega)⟩
theorem Y9U:Box (10:Nat) exA:=fun r a=>by
 unfold exA at a;rw [List.mem_singleton] at a
 subst a;decide
theorem TR.of_box {A:List Rect} (hv:Val A) {n:Nat} (hn:n<=15) (hb:Box n A):TR A:=⟨hv,fun b a=>(Y2M b hn fun x y h=>hb.in (a x y h)).1⟩
theorem Y1n:TR exA:=TR.of_box Y6j (by omega) Y9U
theorem Y3j:LB 10 exW.zones_:=by
 refine ⟨⟨by simp [exW],fun f a=>?_,by simp [exW]⟩,fun f a=>?_,by omega⟩
 ·have a:f=exF:=List.mem_singleton.1 a
  subst a;rw [Z5B]
  exact ⟨by decide,by decide,by decide,by decide,by decide,by decide,by decide,by decide,Y6h⟩
 ·have a:f=exF:=List.mem_singleton.1 a
  subst a;intro r b
  have b:r=⟨3,0,5,1⟩:=List.mem_singleton.1 b;subst b;decide
theorem W0Q:EV exW.y_ exW.crops_ exW.history_ exW.zones_ Z4j.c_ Z4j.g_.t_:=
 ⟨Y1n,by decide,by decide,by decide,⟨HL.nil,fun y p i b=>absurd b (Nat.not_lt_zero i)⟩,fun f a=>(List.not_mem_nil a).elim,fun f a=>(List.not_mem_nil a).elim,by decide,⟨Y3j.vl,fun f a=>(Y3j.box f a).up (by omega),by omega⟩⟩
theorem Y9S:Z6b 3 exS.cond_ exW.crops_ Z4j.c_ exW.history_ exW.y_ exW.zones_ exW.day_ Z4j.g_.t_=0:=by
 have d:¬ (exW.y_<0\/100<exW.y_):=by decide
 have b:¬ (exW.day_<0\/36864<exW.day_):=by decide
 have c:(Q7p exW.crops_ Z4j.c_||exW.history_.any fun r=>Q7p exW.crops_ r.c_)=false:=by decide
 have a:Q8w 3 exS.cond_=0:=Y0u 2;unfold Z6b
 rw [if_neg (by rw [a];simp),if_neg (by rw [Y9R];simp),if_neg (by rw [c];simp),if_neg (by rw [show Q9e exW.history_=0 from (Z2V _).2 HL.nil];simp),if_neg d,if_neg (by rw [(Z0P _).2 Y3j.vl];simp),if_neg b,if_pos ((Q0P Z4j.g_.t_).2 Y6j)]
theorem Y1c {F:Nat} (hF:BIG+3<=F):Q9J F=some true:=by
 have q:BIG<=F:=by omega
 have z:=Y3R (n:=10) hF (w:=exW) (x:=Z4j) W0Q (s:=exS) Y9S (by decide) (fun x j=>by
  have j:x=⟨ByteArray.mk #[114,121,101],0,0⟩:=List.mem_singleton.1 j;subst j;decide) Y3j (by decide) (by decide) (by decide) (by decide) ⟨Y9l 2,by show (1:Nat)<=_;omega,by simp [exS]⟩ Y9T (parcel:=⟨exA⟩) Y1n fun u v h=>h
 have b:TIn exA (lnT exW Z4j ⟨exA⟩ exS):=Y7X exW Z4j ⟨exA⟩ exS;have a:lnT exW Z4j ⟨exA⟩ exS=Z4d exA (evS exW.y_ exW.crops_ exW.history_ exW.zones_ exW.day_ Z4j.c_ exA 3 Y2e) (elS exW.zones_ exW.day_ exW.most_ exA):=by
  unfold lnT;rw [if_neg (by rw [show Z2Y Z4j.s_ exS.N_=Z2Y 1 0 from rfl,Y6i.1];simp)];rfl
 have e:evS exW.y_ exW.crops_ exW.history_ exW.zones_ exW.day_ Z4j.c_ exA 3 Y2e=Z8l exA true:=by
  rfl
 have g:Q0F [exF] 0 (zp 0)=exZ:=by decide +kernel
 have m:Q0F [exF] 0 (zp 1)=[]:=by decide +kernel
 have l:Z3I [exF] 0 exA=[]:=by
  unfold Z3I;rw [m]
  exact Y1Z
 have o:Z9v ([]:List Rect)=[]:=by decide +kernel
 have f:Z0T [exF] 0 0 exA=[]:=by
  unfold Z0T;rw [l,o];rfl
 have c:∀ u v,elS exW.zones_ exW.day_ exW.most_ exA u v=(inR exA u v && !inR exZ u v):=fun u v=>by
  show elS [exF] 0 0 exA u v=_;unfold elS
  rw [g,f];show (_ && !(_||false))=_
  rw [Bool.or_false]
 have d:∀ u v,inR exZ u v=true->inR exA u v=true:=fun u v h=>by
  rw [W0R];obtain ⟨r,i,h⟩:=(Q4T _ _ _).1 h
  have i:r=⟨3,0,5,1⟩:=List.mem_singleton.1 i;subst i
  rw [y6] at h;simp only at h
  omega
 have A:(lnT exW Z4j ⟨exA⟩ exS).Y=fun u v=>inR exA u v && !inR exZ u v:=by
  rw [a,e];funext u v
  simp only [Z4d,Z8l,if_true];rw [c]
  cases inR exA u v <;> cases inR exZ u v <;> rfl
 have p:(lnT exW Z4j ⟨exA⟩ exS).N=inR exZ:=by
  rw [a,e];funext u v
  simp only [Z4d,Y8R,Z8l,if_true];rw [c]
  have:=d u v
  cases hA:inR exA u v <;> cases hZ:inR exZ u v <;> simp_all
 have k:area exA=10:=by decide +kernel
 have E:area exZ=2:=by decide +kernel
 have t:area (cn (lnT exW Z4j ⟨exA⟩ exS).N)=2:=by rw [p,Y5u Y6h,E]
 have H:area (cn (lnT exW Z4j ⟨exA⟩ exS).Y)=8:=by
  have C:=Y7r Y1n b fun x y B D=>W0K x y B D
  have G:(lnT exW Z4j ⟨exA⟩ exS).O exA=fun _ _=>false:=by
   funext u v
   unfold TS.O;rw [A,p]
   show ((inR exA u v && !(inR exA u v && !inR exZ u v)) && !inR exZ u v)=false
   cases inR exA u v <;> cases inR exZ u v <;> rfl
  rw [G,Y1Z,t,k] at C;have:area []=0:=rfl
  omega
 unfold Q9J;refine Q4 z ?_
 refine Y2 rfl (Q4 (Z6w q (b.vY Y1n)) (Y2 (by simp only [TS.t3];rw [H];rfl) (Q4 (Z6w q (b.vN Y1n)) ?_)));simp only [TS.t3]
 rw [t];rfl
end
end Go.Ab
end
