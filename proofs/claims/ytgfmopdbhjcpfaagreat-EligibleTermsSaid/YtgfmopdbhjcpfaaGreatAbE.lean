/- Abstract states over the model. -/
import Derived.Test.YtgfmopdbhjcpfaaGreatAbD
import Derived.Test.YtgfmopdbhjcpfaaGreatLwA
import Derived.Test.YtgfmopdbhjcpfaaGreatLwC
import Derived.Test.YtgfmopdbhjcpfaaGreatLwB
set_option linter.unusedVariables false
set_option linter.unusedSimpArgs false
section
namespace Go.Ab
set_option maxRecDepth 20000
noncomputable section
theorem W3a{L:List A2_}{d m:Int}{a:List Rect}{x y:Int}(h:elS L d m a x y=true):inR a x y=true:=by
 unfold elS at h;rw [Bool.and_eq_true] at h
 exact h.1
theorem W2z{L:List A2_}{a:List Rect}(ha:TR a)(d m:Int):Val (cn (elS L d m a)):=ha.sub (Y7i L d m a) fun _ _ h=>W3a h
theorem Z9P{F n:Nat}{L:List A2_}{d:Int}(hF:BIG<=F)(hL:LB n L)(d1:0<=d)(d2:d<=36864){a:Re_}(ht:TR a.t_){m:Int}(m1:0<=m)(m2:m<=268435456):Q6e F a L d m=some (⟨cn (elS L d m a.t_)⟩,0):=by
 have b:=ht.val;have f:=hL.rval d (zp 0)
 have g:=Y3Q hL d m a.t_;have l:=f.1.1
 have i:=g.1.1;have j:=b.1
 unfold Q6e;refine Q2 (Z2I hF hL.vl d1 d2 b m1 m2) ?_
 refine Q7 rfl ?_;refine Q2 (Y4t hF hL d1 d2) ?_
 refine Q7 rfl ?_;refine Q2 (Y4s hF hL d1 d2 b m1 m2) ?_
 refine Q7 rfl ?_;refine Q2 (Q7D hF (by simp only;omega) (by simp only;omega)) ?_
 refine Q2 (Q8P hF (by simp only [List.length_append];omega) (fun r c=>(b.2.2.pos c).1) (fun r c=>?_) (k:=fun u v=>u && !v) rfl (fun u v=>by cases u <;> cases v <;> rfl)) ?_
 .rcases List.mem_append.1 c with h|h
  .exact (f.1.2.2.pos h).1
  .exact (g.1.2.2.pos h).1
 have e:(cn fun x y=>inR a.t_ x y && !inR (cn (inR (V8 L d (zp 0)))++cn (inR (Z1u L d m a.t_))) x y)=cn (elS L d m a.t_):=by
  congr 1
  funext x y
  unfold elS;rw [Z2a,Q2k (W6 _),Q2k (W6 _)]
 show (Q3q F (cn fun x y=>inR a.t_ x y && !inR (cn (inR (V8 L d (zp 0)))++cn (inR (Z1u L d m a.t_))) x y)).bind _=_;rw [e]
 have:=(W2z (L:=L) ht d m).1
 refine Q2 (Z2s F _) ?_;rw [if_neg (by omega)]
theorem Y9o{A:List Rect}(hA:TR A){P:TS}(h:TIn A P)(hd:∀ x y,P.Y x y=true->P.N x y=true->False):area (cn P.Y)+area (cn P.N)+area (cn (P.O A))=area A:=by
 rw [(h.vY hA).area,(h.vN hA).area,(h.vO hA).area,hA.val.area,W5 h.fY,W5 h.fN,W5 h.fO];have e:inR A=fun x y=>(P.Y x y||P.N x y)||P.O A x y:=by
  funext x y
  have:=h.sY x y
  have:=h.sN x y
  unfold TS.O
  cases hA:inR A x y <;> cases hY:P.Y x y <;> cases hN:P.N x y <;> simp_all
 have c:sq (inR A)=sq (fun x y=>P.Y x y||P.N x y)+sq (P.O A):=by
  conv=>lhs;rw [e]
  rw [Z5t,Z5t,Z5t];refine Y7m fun x y b a=>?_
  unfold TS.O at a
  cases hY:P.Y x y <;> cases hN:P.N x y <;> simp_all
 have d:sq (fun x y=>P.Y x y||P.N x y)=sq P.Y+sq P.N:=by
  rw [Z5t,Z5t,Z5t];exact Y7m fun x y b a=>hd x y b a
 rw [c,d]
end
end Go.Ab
end
section
namespace Go.Ab
set_option maxRecDepth 20000
noncomputable section
theorem Z6N{R:Type}{body:(Int->Option R)->Int->Option R}{c:Nat->Option R}{y:Option R}(N:Nat)(p:Nat->Bool)(bad:∀ again (i:Nat),i<N->(∀ j,j<i->p j=false)->p i=true->body again (i:Int)=c i)(good:∀ again (i:Nat) z,i<N->(∀ j,j<i->p j=false)->p i=false->again ((i:Int)+1)=z->body again (i:Int)=z)(stop:(∀ j,j<N->p j=false)->∀ again,body again (N:Int)=y){F:Nat}(hF:N<F):Q9 body F 0=match (List.range N).find? p with|some i=>c i|none=>y:=by
 refine W4 (fun z:Int=>∃ i:Nat,z=i/\i<=N/\∀ j,j<i->p j=false) (fun z=>N-z.toNat) (fun again z e f=>?_) ⟨0,rfl,Nat.zero_le _,fun j h=>absurd h (Nat.not_lt_zero j)⟩ (by simp;omega);obtain ⟨i,rfl,g,a⟩:=e
 rcases Nat.lt_or_ge i N with h|h
 .cases hpi:p i with
  | true=>
   rw [List.find?_range_eq_some.2 ⟨hpi,List.mem_range.2 h,fun j b=>by simp [a j b]⟩];exact bad again i h a hpi
  | false=>
   refine good again i _ h a hpi (f _ ⟨i+1,by omega,h,fun j b=>?_⟩ (by omega))
   by_cases hji:j=i
   .rw [hji];exact hpi
   .exact a j (by omega)
 .have:i=N:=by omega
  subst this;rw [List.find?_eq_none.2 fun x d=>by rw [a x (List.mem_range.1 d)];simp]
  exact stop a again
theorem Y7Q{α:Type}[Emb α](p:α->Bool)(l:List α):Z1k p l<(l.length:Int) /\ -1<=Z1k p l/\(0<=Z1k p l->p (gl l (Z1k p l).toNat)=true/\l.any p=true):=by
 unfold Z1k;split
 .rename_i h
  have a:l.findIdx p<l.length:=List.findIdx_lt_length_of_exists (by simpa using h);refine ⟨by omega,by omega,fun _=>⟨?_,h⟩⟩
  rw [Int.toNat_natCast,y5 a];exact List.findIdx_getElem (w:=a)
 .exact ⟨by omega,by omega,fun h=>by omega⟩
def Y0U(n:Int)(x:Scheme):Bool:=x.N_==n
theorem Z7A{F:Nat}(hF:BIG<=F){l:List Scheme}(hl:l.length<=1000000)(n:Int):Z4i F l n=some (Z1k (Y0U n) l):=by
 have g:=hF;unfold BIG at g
 unfold Z4i;refine (Z6N (c:=fun i=>some (i:Int)) (y:=some (-1)) l.length (fun i=>Y0U n (gl l i)) (fun a i p _ d=>?_) (fun a i z p _ d m=>?_) (fun _ a=>?_) (by omega)).trans ?_
 .show Q2U F l n a (i:Int)=_
  unfold Q2U;exact Z6 (decide_eq_true (by omega)) (Q6 (by omega) (Z6 d rfl))
 .show Q2U F l n a (i:Int)=_
  unfold Q2U;exact Z6 (decide_eq_true (by omega)) (Q6 (by omega) (Q7 d (Q6 (Z7 (by omega) (by omega)) m)))
 .show Q2U F l n a (l.length:Int)=_
  unfold Q2U;exact Q7 (decide_eq_false (by omega)) rfl
 .unfold Z1k
  cases hf:(List.range l.length).find? fun i=>Y0U n (gl l i) with
  | none=>
   have h:=List.find?_eq_none.1 hf;rw [if_neg]
   rw [Bool.not_eq_true];exact Q6E fun j e=>by have:=h j (List.mem_range.2 e);simpa using this
  | some i=>
   obtain ⟨f,b,o⟩:=List.find?_range_eq_some.1 hf;have b:=List.mem_range.1 b
   have k:l.any (Y0U n)=true:=List.any_eq_true.2 ⟨_,V4 b,f⟩;rw [if_pos k,Z4v b (fun j e=>by have:=o j e;simpa using this) f]
def twB(l:List Scheme)(i:Nat):Bool:=(decide (0<i)&&decide ((gl l i).N_<=(gl l (i-1)).N_))||(l.take i).any fun x=>sEq x.n_ (gl l i).n_
def Y9P(l:List Scheme)(s:Scheme)(n:Nat):Bool:=Z3R s.excludes_ n&&(decide (Z1k (Y0U n) l<0) || !Z3R (gl l (Z1k (Y0U n) l).toNat).excludes_ s.N_)
def Y5L(l:List Scheme)(s:Scheme):Bool:= !(List.range 16).any (Y9P l s)
def Y7p(l:List Scheme):Int×Int:=match (List.range l.length).find? fun i=> !Y5L l (gl l i) with
 | some i=>(i,17)
 | none=>(-1,0)
def Y1x(d:Nat)(l:List Scheme)(i:Nat):Bool:=decide (Q9Y d (gl l i)≠0)||twB l i
def Y7o(d:Nat)(l:List Scheme):Int×Int:=if 16<l.length then (0,1) else match (List.range l.length).find? (Y1x d l) with
 | some i=>(i,if Q9Y d (gl l i)≠0 then Q9Y d (gl l i) else 6)
 | none=>Y7p l
theorem Y0j{d:Nat}{s:Scheme}(h:Q9Y d s=0):0<=s.N_/\s.N_<=15/\0<=s.least_/\s.least_<=268435456/\Q1a s.n_=true/\Q7m d s.cond_=0/\brB s.brackets_=true/\0<=s.excludes_/\s.excludes_<65536/\Z3R s.excludes_ s.N_=false:=by
 unfold Q9Y at h;split at h
 .omega
 split at h
 .omega
 split at h
 .rename_i a;exact absurd h a
 split at h
 .omega
 rename_i a f c b
 refine ⟨by omega,by omega,by omega,by omega,by simpa using f,by simpa using c,?_,by omega,by omega,?_⟩
 .cases e:brB s.brackets_ with
  | true=>rfl
  | false=>exact absurd (.inl e) b
 .cases e:Z3R s.excludes_ s.N_ with
  | false=>rfl
  | true=>exact absurd (.inr (.inr (.inr e))) b
theorem Y2o{d F:Nat}(hd:d<=2000000)(hF:BIG+d<=F){l:List Scheme}(hl:∀ s ∈ l,SD d s):Z2v F l=some (Y7o d l):=by
 have E:BIG<=F:=by omega
 have H:=E;unfold BIG at H
 unfold Z2v Y7o
 by_cases h16:16<l.length
 .rw [if_pos h16];exact Z6 (decide_eq_true (by omega)) rfl
 rw [if_neg h16];refine Q7 (decide_eq_false (by omega)) ?_
 have N:∀ a b:ByteArray,sEq a b=sEq a b:=fun _ _=>rfl
 have r:∀ (f:Int->Option (Int×Int)) (i:Nat),i<l.length->∀ {y:Option (Int×Int)},(twB l i=false->f ((i:Int)+1)=y)->Q9 (fun m (z:Int)=>Q1i F l (i:Int) f m z) F (0:Int)=if twB l i=true then some ((i:Int),6) else y:=by
  intro f i p y G;have e:twB l i=(List.range i).any fun k=>sEq (gl l k).n_ (gl l i).n_||(decide (k=i-1)&&decide ((gl l i).N_<=(gl l k).N_)):=by
   unfold twB;rw [Bool.eq_iff_iff,Bool.or_eq_true,Bool.and_eq_true,List.any_eq_true,List.any_eq_true]
   constructor
   .rintro (⟨q,B⟩|⟨x,hx,h⟩)
    .refine ⟨i-1,List.mem_range.2 (by have:=of_decide_eq_true q;omega),?_⟩
     rw [B];simp
    .obtain ⟨k,o,rfl⟩:=List.getElem_of_mem hx
     rw [List.length_take] at o;refine ⟨k,List.mem_range.2 (by omega),?_⟩
     rw [List.getElem_take, <-y5 (by omega)] at h;rw [h];rfl
   .rintro ⟨k,o,h⟩
    have o:=List.mem_range.1 o;rw [Bool.or_eq_true,Bool.and_eq_true] at h
    rcases h with h|⟨q,B⟩
    .exact .inr ⟨gl l k,List.mem_take_iff_getElem.2 ⟨k,by omega,(y5 (by omega)).symm⟩,h⟩
    .have q:=of_decide_eq_true q
     subst q;exact .inl ⟨decide_eq_true (by omega),B⟩
  have C:∀ k,k<i->gl (l.take i) k=gl l k:=fun k o=>by rw [y5 (by simp;omega),y5 (by omega),List.getElem_take]
  have L:((i:Nat):Int).toNat=i:=Int.toNat_natCast i;have t:(l.take ((i:Nat):Int).toNat).length=i:=by simp;omega
  refine (Z6N (c:=fun _=>some ((i:Int),(6:Int))) (y:=y) i (fun k=>sEq (gl l k).n_ (gl l i).n_||(decide (k=i-1)&&decide ((gl l i).N_<=(gl l k).N_))) (fun m k o _ g=>?_) (fun m k z o _ g w=>?_) (fun g m=>?_) (by omega)).trans ?_
  .show Q1i F l (i:Int) f m (k:Int)=_
   unfold Q1i;have k2:Q3r F (i:Int) (k:Int) m true=some ((i:Int),6):=rfl
   refine Z6 (decide_eq_true (by rw [t];omega)) (Q6 (by rw [t];omega) ?_);simp only [Int.toNat_natCast,C k o]
   refine Q4 (fun _=>k2) (fun q=>Q6 (Z7 (by omega) (by omega)) ?_);rw [q,Bool.false_or,Bool.and_eq_true] at g
   refine Z6 (by have:=of_decide_eq_true g.1;simp;omega) ?_;rw [g.2];exact k2
  .show Q1i F l (i:Int) f m (k:Int)=_
   unfold Q1i;have k2:Q3r F (i:Int) (k:Int) m false=z:=Q7 rfl (Q6 (Z7 (by omega) (by omega)) w)
   refine Z6 (decide_eq_true (by rw [t];omega)) (Q6 (by rw [t];omega) ?_);simp only [Int.toNat_natCast,C k o]
   rw [Bool.or_eq_false_iff] at g;refine Q7 g.1 (Q6 (Z7 (by omega) (by omega)) (Q4 (fun q=>?_) (fun _=>k2)))
   have q:k=i-1:=by simp at q;omega
   have:=g.2
   rw [decide_eq_true q,Bool.true_and] at this;rw [this];exact k2
  .show Q1i F l (i:Int) f m (i:Int)=_
   unfold Q1i;refine Q7 (decide_eq_false (by rw [t];omega)) ?_
   have A:twB l i=false:=by rw [e,List.any_eq_false];intro k o;rw [g k (List.mem_range.1 o)];simp
   exact Q6 (Z7 (by omega) (by omega)) (G A)
  .cases hf:(List.range i).find? fun k=>sEq (gl l k).n_ (gl l i).n_||(decide (k=i-1)&&decide ((gl l i).N_<=(gl l k).N_)) with
   | some k=>
    have A:twB l i=true:=by rw [e,List.any_eq_true];have h:=List.find?_range_eq_some.1 hf;exact ⟨k,h.2.1,h.1⟩
    rw [if_pos A]
   | none=>
    have A:twB l i=false:=by rw [e,List.any_eq_false];intro k o;exact List.find?_eq_none.1 hf k o
    rw [if_neg (by simp [A])]
 refine (Z6N (c:=fun i=>some ((i:Int),if Q9Y d (gl l i)≠0 then Q9Y d (gl l i) else 6)) (y:=some (Y7p l)) l.length (Y1x d l) (fun f i p _ g=>?_) (fun f i z p _ g w=>?_) (fun g f=>?_) (by omega)).trans ?_
 .show Q2a F l f (i:Int)=_
  unfold Q2a;refine Z6 (decide_eq_true (by omega)) (Q6 (by omega) (Q2 (Z9c hd hF (hl _ (V4 p))) ?_))
  by_cases v:Q9Y d (gl l i)=0
  .rw [if_neg (by simpa using v)]
   unfold Y1x at g;rw [decide_eq_false (by simpa using v),Bool.false_or] at g
   refine Q7 (by simp [v]) (Q6 (by omega) ((r f i p (y:=none) fun h=>by rw [g] at h;cases h).trans ?_));rw [if_pos g]
  .rw [if_pos v];exact Z6 (by simpa using v) rfl
 .show Q2a F l f (i:Int)=_
  unfold Q2a;unfold Y1x at g
  rw [Bool.or_eq_false_iff] at g;have v:Q9Y d (gl l i)=0:=by simpa using g.1
  refine Z6 (decide_eq_true (by omega)) (Q6 (by omega) (Q2 (Z9c hd hF (hl _ (V4 p))) (Q7 (by simp [v]) (Q6 (by omega) ((r f i p fun _=>w).trans ?_)))));rw [if_neg (by simp [g.2])]
 .show Q2a F l f (l.length:Int)=_
  unfold Q2a Z1G Y7p;refine Q7 (decide_eq_false (by omega)) ?_
  have w:∀ j,j<l.length->0<=(gl l j).N_:=fun j K=>by
   have:=g j K
   unfold Y1x at this;rw [Bool.or_eq_false_iff] at this
   exact (Y0j (by simpa using this.1)).1
  have D:∀ (f:Int->Option (Int×Int)) (i:Nat),i<l.length->∀ {y:Option (Int×Int)},f ((i:Int)+1)=y->Q9 (fun m (z:Int)=>Q1h F l (i:Int) f m z) F (0:Int)=if (List.range 16).any (Y9P l (gl l i))=true then some ((i:Int),17) else y:=by
   intro f i p y G;refine Y7F (c:=some ((i:Int),17)) (y:=y) 16 (Y9P l (gl l i)) (fun m n M g=>?_) (fun m n z M g u=>?_) (fun m=>?_) (by omega)
   .show Q1h F l (i:Int) f m (n:Int)=_
    unfold Q1h;unfold Y9P at g
    rw [Bool.and_eq_true] at g;obtain ⟨q,B⟩:=Y7Q (Y0U (n:Nat)) l
    simp only [Int.toNat_natCast (n:=i)];refine Z6 (decide_eq_true (by omega)) (Q6 (by omega) (Q7 (by rw [Z3Q,g.1];rfl) (Q2 (Z7A E (by omega) _) ?_)))
    refine Q4 (fun _=>rfl) (fun J=>Q6 (by have:=of_decide_eq_false J;omega) (Q6 (w i p) ?_));rw [Z3Q]
    have:=g.2
    rw [J,Bool.false_or] at this;rw [this];rfl
   .show Q1h F l (i:Int) f m (n:Int)=_
    unfold Q1h;unfold Y9P at g
    obtain ⟨q,B⟩:=Y7Q (Y0U (n:Nat)) l;simp only [Int.toNat_natCast (n:=i)]
    have I:Q7J F (n:Int) m=z:=Q6 (Z7 (by omega) (by omega)) u;refine Z6 (decide_eq_true (by omega)) (Q6 (by omega) ?_)
    rw [Z3Q]
    cases hb:Z3R (gl l i).excludes_ n with
    | false=>exact Z6 rfl I
    | true=>
     rw [hb,Bool.true_and,Bool.or_eq_false_iff] at g;refine Q7 rfl (Q2 (Z7A E (by omega) _) (Q7 g.1 (Q6 (by have:=of_decide_eq_false g.1;omega) (Q6 (w i p) ?_))))
     rw [Z3Q,g.2];unfold Q7K;exact Q7 rfl I
   .show Q1h F l (i:Int) f m (16:Int)=_
    unfold Q1h;exact Q7 (by decide) (Q6 (Z7 (by omega) (by omega)) G)
  refine (Z6N (c:=fun i=>some ((i:Int),17)) (y:=some (-1,0)) l.length (fun i=> !Y5L l (gl l i)) (fun f i p _ g=>?_) (fun f i z p _ g u=>?_) (fun g f=>?_) (by omega)).trans ?_
  .show Q1Z F l f (i:Int)=_
   unfold Q1Z;unfold Y5L at g
   rw [Bool.not_not] at g;refine Z6 (decide_eq_true (by omega)) (Q6 (by omega) ((D f i p rfl).trans ?_))
   rw [if_pos g]
  .show Q1Z F l f (i:Int)=_
   unfold Q1Z;unfold Y5L at g
   rw [Bool.not_not] at g;refine Z6 (decide_eq_true (by omega)) (Q6 (by omega) ((D f i p u).trans ?_))
   rw [if_neg (by simp [g])]
  .show Q1Z F l f (l.length:Int)=_
   unfold Q1Z;exact Q7 (decide_eq_false (by omega)) rfl
  .cases (List.range l.length).find? fun i=> !Y5L l (gl l i) <;> rfl
 .cases (List.range l.length).find? (Y1x d l) <;> rfl
end
end Go.Ab
end
section
end
section
namespace Go.Ab
set_option maxRecDepth 20000
noncomputable section
structure GoodL (d:Nat) (l:List Scheme):Prop where
 len:l.length<=16
 one:∀ i,i<l.length->Q9Y d (gl l i)=0
 asc:∀ i,0<i->i<l.length->(gl l (i-1)).N_<(gl l i).N_
 nam:∀ i,i<l.length->((l.take i).any fun x=>sEq x.n_ (gl l i).n_)=false
 mtl:∀ i,i<l.length->Y5L l (gl l i)=true
theorem W0A{d:Nat}{l:List Scheme}(h:GoodL d l):Y7o d l=(-1,0):=by
 obtain ⟨g,b,e,c,f⟩:=h;unfold Y7o
 rw [if_neg (by omega)];rw [List.find?_eq_none.2 fun i a=>by
  have a:=List.mem_range.1 a;unfold Y1x twB
  rw [b i a,c i a]
  by_cases h0:0<i
  .have:=e i h0 a
   rw [decide_eq_false (p:=(gl l i).N_<=(gl l (i-1)).N_) (by omega)];simp
  .rw [decide_eq_false h0];simp]
 show Y7p l=_;unfold Y7p
 rw [List.find?_eq_none.2 fun i a=>by rw [f i (List.mem_range.1 a)];simp]
theorem Y9a{d:Nat}{l:List Scheme}:(Y7o d l).2=0↔GoodL d l:=by
 unfold Y7o;constructor
 .intro h
  by_cases h16:16<l.length
  .rw [if_pos h16] at h;cases h
  rw [if_neg h16] at h
  cases hf:(List.range l.length).find? (Y1x d l) with
  | some i=>
   rw [hf] at h
   exfalso
   revert h
   show ¬ (if Q9Y d (gl l i)≠0 then Q9Y d (gl l i) else 6)=0;split
   .assumption
   .omega
  | none=>
   rw [hf] at h;have b:∀ i,i<l.length->Y1x d l i=false:=fun i a=>by have:=List.find?_eq_none.1 hf i (List.mem_range.2 a);simpa using this
   have h:(Y7p l).2=0:=h;unfold Y7p at h
   cases hg:(List.range l.length).find? fun i=> !Y5L l (gl l i) with
   | some i=>rw [hg] at h;exact absurd h (by show ¬ (17:Int)=0;omega)
   | none=>
    have e:∀ i,i<l.length->Y5L l (gl l i)=true:=fun i a=>by have:=List.find?_eq_none.1 hg i (List.mem_range.2 a);simpa using this
    refine ⟨by omega,fun i a=>?_,fun i c a=>?_,fun i a=>?_,e⟩
    .have:=b i a
     unfold Y1x at this;rw [Bool.or_eq_false_iff] at this
     simpa using this.1
    .have:=b i a
     unfold Y1x twB at this;rw [Bool.or_eq_false_iff,Bool.or_eq_false_iff] at this
     have:=this.2.1
     rw [decide_eq_true c,Bool.true_and,decide_eq_false_iff_not] at this;omega
    .have:=b i a
     unfold Y1x twB at this;rw [Bool.or_eq_false_iff,Bool.or_eq_false_iff] at this
     exact this.2.2
 .intro h
  have:=W0A h
  unfold Y7o at this;rw [this]
end
end Go.Ab
end
section
namespace Go.Ab
set_option maxRecDepth 20000
noncomputable section
end
end Go.Ab
end
section
namespace Go.Ab
set_option maxRecDepth 20000
noncomputable section
end
end Go.Ab
end
section
end
section
namespace Go.Ab
set_option maxRecDepth 20000
noncomputable section
theorem Z7k{F:Nat}(hF:1<=F){n:Int}(h0:0<=n)(h1:n<=9):∃ s,Q4v F n=some s/\s.size<=10:=by
 cases F with
 | zero=>omega
 | succ F=>
  refine ⟨bOf (IntKind.wrap .u8 (48+n)),?_,by unfold bOf;simp⟩;show Q6Q F (Q4v F) n=_
  unfold Q6Q;exact Q7 (decide_eq_false (by omega)) (Z6 (decide_eq_true (by omega)) (Q6 (Z7 (by omega) (by omega)) rfl))
theorem Y4I{k:Int}(h0:0<=k)(h1:k<=10):1<=(1:Int)*2 ^ (min k.toNat (IntKind.bits .i64))/\(1:Int)*2 ^ (min k.toNat (IntKind.bits .i64))<=1024:=by
 have a:k=0\/k=1\/k=2\/k=3\/k=4\/k=5\/k=6\/k=7\/k=8\/k=9\/k=10:=by omega
 rcases a with rfl|rfl|rfl|rfl|rfl|rfl|rfl|rfl|rfl|rfl|rfl <;> decide
theorem Y7C{d:Nat}{a b c:Int}(h1:I64 a)(h2:I64 b):TD (d+1) ⟨a,b,c,[]⟩:=⟨h1,h2,by simp,fun k e=>(List.not_mem_nil e).elim⟩
theorem Q4U:∀ (n:Nat) {F:Nat} (_:n+1<=F) {t:Tape} (_:TOk t) (_:n<=5),∃ t' x,K8 F t (n:Int)=some (t',x)/\TOk t' /\ TD (n+1) x
 | n,0,hF,_,_,_=>by omega
 | n,F+1,hF,t,ht,hn=>by
  show ∃ t' x,Q5M F (K8 F) t (n:Int)=some (t',x)/\_;unfold Q5M
  have k2:∀ (u:Tape×Int) (a b:Int) (v:Tape),TOk v->I64 u.2->I64 a->Ok (K2 F (K8 F) u a b v.l_ v.at_) fun z=>TOk z.1/\TD (n+1) z.2:=fun u a b v B H C=>by
   unfold K2;exact Z6V ⟨B,Y7C H C⟩
  have g:∀ (v:Tape),TOk v->Ok ((V9 F v (1:Int) (8:Int)).bind fun z=>br (z.2==(2:Int)) (Q0F F (K8 F) z (z.2==(2:Int))) (Q0F F (K8 F) z (z.2==(3:Int)))) fun z=>TOk z.1/\TD (n+1) z.2:=fun v B=>by
   obtain ⟨A,o,E,f,Q,R⟩:=U3 (F:=F) B (lo:=1) (hi:=8) (by omega) (by omega) (by omega);have j:I64 o:=Z7 (by omega) (by omega)
   have k1:∀ b,Ok (Q0F F (K8 F) (A,o) b) fun z=>TOk z.1/\TD (n+1) z.2:=fun b=>by
    unfold Q0F;refine Q6x (fun _=>?_) (fun _=>Q6x (fun _=>?_) (fun _=>Q6x (fun _=>?_) (fun _=>Q6x (fun _=>?_) (fun _=>Q6x (fun _=>?_) (fun _=>Q6x (fun _=>?_) (fun _=>?_))))))
    .obtain ⟨e,k,d,c,i,w⟩:=Z5 (F:=F) f (n:=4) (by omega) (by omega)
     exact Q4S d (k2 _ _ _ e c j (Z7 (by omega) (by omega)))
    .obtain ⟨e,k,d,c,i,w⟩:=Z5 (F:=F) f (n:=5) (by omega) (by omega)
     have:=Y4I i (by omega)
     exact Q4S d (Q1K ⟨Z7 (by simp only;omega) (by simp only;omega),i⟩ (k2 _ _ _ e c j (Z7 (by simp only;omega) (by simp only;omega))))
    .obtain ⟨e,k,d,c,i,w⟩:=Z5 (F:=F) f (n:=16) (by omega) (by omega)
     exact Q4S d (k2 _ _ _ e c j (Z7 (by omega) (by omega)))
    .obtain ⟨e,k,d,c,i,w⟩:=U3 (F:=F) f (lo:=2) (hi:=3) (by omega) (by omega) (by omega)
     exact Q4S d (k2 _ _ _ e c j (Z7 (by omega) (by omega)))
    .obtain ⟨e,k,d,c,i,w⟩:=U3 (F:=F) f (lo:=1) (hi:=2) (by omega) (by omega) (by omega)
     obtain ⟨G,m,s,p,I,P⟩:=Z5 (F:=F) c (n:=5) (by omega) (by omega);have:=Y4I I (by omega)
     exact Q4S d (Q4S s (Q1K ⟨Z7 (by simp only;omega) (by simp only;omega),I⟩ (k2 _ _ _ G p j (Z7 (by simp only;omega) (by simp only;omega)))))
    .obtain ⟨e,k,d,c,i,w⟩:=U3 (F:=F) f (lo:=1) (hi:=3) (by omega) (by omega) (by omega)
     exact Q4S d (k2 _ _ _ e c j (Z7 (by omega) (by omega)))
    .exact k2 _ _ _ A f j (Z7 (by omega) (by omega))
   exact Q4S E (Q6x (fun _=>k1 _) (fun _=>k1 _))
  have l:Ok (br (decide ((0:Int)<(n:Int))) ((Q2Y F t (2:Int)).bind fun z=>Q0G F (K8 F) (n:Int) z.2 z.1.l_ z.1.at_) (Q0G F (K8 F) (n:Int) false t.l_ t.at_)) fun z=>TOk z.1/\TD (n+1) z.2:=by
   refine Q6x (fun h=>?_) (fun _=>?_)
   .have h:=of_decide_eq_true h
    obtain ⟨m,rfl⟩:∃ m,n=m+1:=⟨n-1,by omega⟩;obtain ⟨A,b,E,f⟩:=Q8Z (F:=F) ht (n:=2) (by omega) (by omega)
    refine Q4S E ?_;unfold Q0G
    refine Q6x (fun _=>?_) (fun _=>g A f);obtain ⟨e,k,d,c,_,_⟩:=Z5 (F:=F) f (n:=3) (by omega) (by omega)
    refine Q4S d ?_;have J:((m+1:Nat):Int)-1=(m:Int):=by omega
    refine Q6x (fun _=>Q1K (Z7 (by omega) (by omega)) ?_) (fun _=>Q6x (fun _=>Q1K (Z7 (by omega) (by omega)) ?_) (fun _=>Q1K (Z7 (by omega) (by omega)) ?_))
    .rw [J]
     obtain ⟨G,x,s,p,q⟩:=Q4U m (by omega:m+1<=F) c (by omega);exact Q4S s (Q1K q.op (Z6V ⟨p,Z7 (by simp only;omega) (by simp only;omega),Z7 (by simp only;omega) (by simp only;omega),by simp,fun k D=>by rw [List.mem_singleton.1 D];exact q⟩))
    all_goals
     rw [J];obtain ⟨G,x,s,p,q⟩:=Q4U m (by omega:m+1<=F) c (by omega)
     obtain ⟨O,y,M,N,K⟩:=Q4U m (by omega:m+1<=F) p (by omega);refine Q4S s (Q1K (Z7 (by omega) (by omega)) (Q4S M (Q1K q.op (Q1K K.op (Z6V ⟨N,Z7 (by simp only;omega) (by simp only;omega),Z7 (by simp only;omega) (by simp only;omega),by simp,fun k D=>?_⟩)))))
     rcases List.mem_cons.1 D with h|h
     .rw [h];exact q
     .rw [List.mem_singleton.1 h];exact K
   .unfold Q0G
    exact Q6x (fun h=>by cases h) (fun _=>g t ht)
  obtain ⟨r,L,H,C⟩:=l;exact ⟨r.1,r.2,L,H,C⟩
structure ST (s:Scheme):Prop where
 sd:SD 3 s
 num:0<=s.N_/\s.N_<=3
theorem ST.excl{s:Scheme}(h:ST s)(e:Int):ST { s with excludes_:=e }:=⟨⟨h.sd.cond,h.sd.name,h.sd.brl⟩,h.num⟩
theorem Y9r{l:List Scheme}(h:∀ s ∈ l,ST s){i:Nat}{x:Scheme}(hx:ST x):∀ s ∈ l.set i x,ST s:=fun s b=>by
 rcases List.mem_or_eq_of_mem_set b with a|a
 .exact h s a
 .rw [a];exact hx
structure LT (L:List Scheme):Prop where
 st:∀ s ∈ L,ST s
 len:L.length<=3
theorem Y0q{F:Nat}(hF:BIG+3<=F){t:Tape}(ht:TOk t){most:Int}(m0:0<=most)(m1:most<=3):∃ t' L,Q6y F t most=some (t',L)/\TOk t' /\ LT L/\(L=[]\/GoodL 3 L):=by
 have hB:BIG<=F:=by omega
 have X:=hB;unfold BIG at X
 unfold Q6y;obtain ⟨t1,n,e1,o1,J,n1⟩:=Z5 (F:=F) ht (n:=2) (by omega) (by omega)
 obtain ⟨t2,k,e2,o2,V,k1⟩:=Z5 (F:=F) o1 (n:=most+1) (by omega) (by omega)
 suffices h:Ok (Q9 (fun e (z:Int×Int×(List Int)×Int×(List Scheme))=>Q5O F e z.1 z.2.1 z.2.2.1 z.2.2.2.1 z.2.2.2.2) F (n,k,t2.l_,t2.at_,([]:List Scheme))) fun z=>TOk z.1/\LT z.2/\(z.2=[]\/GoodL 3 z.2) by
  obtain ⟨r,hr,h1,Q,K⟩:=h;exact ⟨r.1,r.2,Q2 e1 (Q6 (Z7 (by omega) (by omega)) (Q2 e2 hr)),h1,Q,K⟩
 have a0:∀ (L:List Scheme) (v:Tape),TOk v->LT L->Ok (Q4V F L v.l_ v.at_) fun z=>TOk z.1/\LT z.2/\(z.2=[]\/GoodL 3 z.2):=fun L v f C=>by
  unfold Q4V;refine Q4S (Y2o (d:=3) (by omega) hF fun s I=>(C.st s I).sd) (Q6x (fun _=>?_) (fun h=>?_))
  .exact Z6V ⟨f,⟨fun s I=>(List.not_mem_nil I).elim,by simp⟩,.inl rfl⟩
  .exact Z6V ⟨f,C,.inr (Y9a.1 (by simpa using h))⟩
 have k5:∀ (L:List Scheme) (v:Tape),TOk v->LT L->Ok (Q5N F v.l_ v.at_ L) fun z=>TOk z.1/\LT z.2/\(z.2=[]\/GoodL 3 z.2):=fun L v f C=>by
  have b3:=C.len;unfold Q5N
  refine Z9p (fun z:Int×(List Int)×Int×(List Scheme)=>0<=z.1/\z.1<=L.length/\TOk ⟨z.2.1,z.2.2.1⟩/\LT z.2.2.2/\z.2.2.2.length=L.length) (fun z=>L.length-z.1.toNat) (fun e z E Y=>?_) ⟨by simp,by simp,f,C,rfl⟩ (by simp;omega);obtain ⟨i,a,b,M⟩:=z
  obtain ⟨i0,i1,f,p,o⟩:=E;simp only at i0 i1 f p o
  show Ok (Q9e F L e i a b M) _;unfold Q9e
  refine Q6x (fun h=>?_) (fun _=>a0 M ⟨a,b⟩ f p);have h:=of_decide_eq_true h
  refine Q1K (by omega) ?_;refine Z9p (fun z:Int×(List Int)×Int×(List Scheme)=>0<=z.1/\z.1<=i/\TOk ⟨z.2.1,z.2.2.1⟩/\LT z.2.2.2/\z.2.2.2.length=L.length) (fun z=>i.toNat-z.1.toNat) (fun S z E D=>?_) ⟨by simp,by simpa using i0,f,p,o⟩ (by simp;omega)
  obtain ⟨j,a,b,M⟩:=z;obtain ⟨j0,j1,f,p,o⟩:=E
  simp only at j0 j1 f p o;show Ok (Q9d F i e S j a b M) _
  unfold Q9d;refine Q6x (fun Q=>?_) (fun _=>?_)
  .have Q:=of_decide_eq_true Q
   obtain ⟨P,c,e3,R⟩:=Q8Z (F:=F) f (n:=3) (by omega) (by omega);have k8:∀ (N:List Scheme) (v:Tape),TOk v->LT N->N.length=L.length->Ok (Q3A F j S v.l_ v.at_ N) fun z=>TOk z.1/\LT z.2/\(z.2=[]\/GoodL 3 z.2):=fun N v f Z o=>by
    unfold Q3A;exact Q1K (Z7 (by omega) (by omega)) (D _ ⟨by simp only;omega,by simp only;omega,f,Z,o⟩ (by simp only;omega))
   refine Q4S e3 (Q6x (fun _=>?_) (fun _=>k8 M P R p o));have U:=p.st _ (V4 (l:=M) (i:=j.toNat) (by omega))
   have hi:=p.st _ (V4 (l:=M) (i:=i.toNat) (by omega));have p1:=Y4I U.num.1 (by have:=U.num.2;omega)
   refine Q1K (by omega) (Q1K (by omega) (Q1K ⟨Z7 (by omega) (by omega),U.num.1⟩ (Q1K (by omega) ?_)));have A:∀ s ∈ M.set i.toNat ⟨(gl M i.toNat).N_,(gl M i.toNat).n_,(gl M i.toNat).cond_,(gl M i.toNat).brackets_,(gl M i.toNat).least_,bor .i64 (gl M i.toNat).excludes_ ((1:Int)*2 ^ (min (gl M j.toNat).N_.toNat (IntKind.bits .i64))),(gl M i.toNat).needs_⟩,ST s:=Y9r p.st (hi.excl _)
   generalize Z:M.set i.toNat _=N at A ⊢;have f3:N.length=M.length:=by rw [<-Z];simp
   have H:=A _ (V4 (l:=N) (i:=i.toNat) (by omega));have a5:=A _ (V4 (l:=N) (i:=j.toNat) (by omega))
   have p2:=Y4I H.num.1 (by have:=H.num.2;omega);refine Q1K (by omega) (Q1K (by omega) (Q1K ⟨Z7 (by omega) (by omega),H.num.1⟩ (Q1K (by omega) ?_)))
   exact k8 _ P R ⟨Y9r A (a5.excl _),by simp;omega⟩ (by simp;omega)
  .unfold Q9a
   exact Q1K (Z7 (by omega) (by omega)) (Y _ ⟨by simp only;omega,by simp only;omega,f,p,o⟩ (by simp only;omega))
 refine Z9p (fun z:Int×Int×(List Int)×Int×(List Scheme)=>0<=z.1/\z.1<=5/\0<=z.2.1/\TOk ⟨z.2.2.1,z.2.2.2.1⟩/\(∀ s ∈ z.2.2.2.2,ST s)/\(z.2.2.2.2.length:Int)+z.2.1<=3) (fun z=>z.2.1.toNat) (fun e z E Y=>?_) ⟨by simpa using J,by simp only;omega,by simpa using V,o2,fun s I=>(List.not_mem_nil I).elim,by simp;omega⟩ (by simp only;omega);obtain ⟨n,k,a,b,L⟩:=z
 obtain ⟨J,n1,V,f,C,o⟩:=E;simp only at J n1 V f C o
 show Ok (Q5O F e n k a b L) _;unfold Q5O
 have W:LT L:=⟨C,by omega⟩;have kf:Ok (Q1R F n k a b L e false) fun z=>TOk z.1/\LT z.2/\(z.2=[]\/GoodL 3 z.2):=by
  unfold Q1R;exact Q6x (fun h=>by cases h) (fun _=>k5 L ⟨a,b⟩ f W)
 refine Q6x (fun h=>?_) (fun _=>kf);have h:=of_decide_eq_true h
 by_cases K:n<=3
 rotate_left
 .rw [decide_eq_false K];exact kf
 rw [decide_eq_true K];unfold Q1R
 refine Q6x (fun _=>?_) (fun h=>by cases h);obtain ⟨s,es,I⟩:=Z7k (F:=F) (by omega) J (by omega)
 obtain ⟨P,x,e3,R,hx⟩:=Q4U 2 (by omega:3<=F) f (by omega);obtain ⟨t4,y,e4,o4,y0,y1⟩:=Z5 (F:=F) R (n:=4) (by omega) (by omega)
 obtain ⟨t5,c,e5,o5⟩:=Q8Z (F:=F) o4 (n:=2) (by omega) (by omega);obtain ⟨t6,m,e6,o6,m0,m1⟩:=U3 (F:=F) o5 (lo:=1) (hi:=3) (by omega) (by omega) (by omega)
 have O:ByteArray.size (ByteArray.mk #[115])=1:=rfl;refine Q4S es (Q1K (by rw [O];unfold LIM;omega) (Q4S e3 (Q4S e4 (Q4S e5 (Q4S e6 ?_)))))
 refine Z9p (fun z:Int×Int×(List Int)×Int×(List Bracket)=>0<=z.1/\z.1+40*z.2.1<=120/\0<=z.2.1/\TOk ⟨z.2.2.1,z.2.2.2.1⟩/\(z.2.2.2.2.length:Int)+z.2.1<=3) (fun z=>z.2.1.toNat) (fun S z E D=>?_) ⟨by simp,by simp only;omega,by simp only;omega,o6,by simp;omega⟩ (by simp only;omega);obtain ⟨u,q,a2,b2,B⟩:=z
 obtain ⟨u0,u1,q0,G,T⟩:=E;simp only at u0 u1 q0 G T
 show Ok (Q9f F n k L s (P,x) (t4,y) (t5,c) e S u q a2 b2 B) _;unfold Q9f
 refine Q6x (fun h4=>?_) (fun _=>?_)
 .have h4:=of_decide_eq_true h4
  obtain ⟨t7,w,e7,o7,w0,w1⟩:=U3 (F:=F) G (lo:=1) (hi:=40) (by omega) (by omega) (by omega);obtain ⟨t8,g,e8,o8,g0,g1⟩:=Z5 (F:=F) o7 (n:=3000) (by omega) (by omega)
  exact Q4S e7 (Q1K (Z7 (by simp only;omega) (by simp only;omega)) (Q4S e8 (Q1K (by simp only [List.length_cons,List.length_nil];unfold LIM;omega) (Q1K (Z7 (by omega) (by omega)) (D _ ⟨by simp only;omega,by simp only;omega,by simp only;omega,o8,by simp;omega⟩ (by simp only;omega))))))
 .unfold Q9c
  obtain ⟨t9,w,e9,o9,w0,w1⟩:=U3 (F:=F) G (lo:=1) (hi:=2) (by omega) (by omega) (by omega);refine Q1K (by simp only [List.length_cons,List.length_nil];unfold LIM;omega) (Q4S e9 (Q1K (Z7 (by simp only;omega) (by simp only;omega)) ?_))
  unfold Q9b;refine Q1K (Z7 (by omega) (by omega)) (Y _ ⟨by simp only;omega,by simp only;omega,by simp only;omega,o9,fun s' a3=>?_,by simp;omega⟩ (by simp only;omega))
  rcases List.mem_append.1 a3 with h5|h5
  .exact C s' h5
  .rw [List.mem_singleton.1 h5]
   refine ⟨⟨hx,?_,by simp only;omega⟩,J,K⟩;show ((ByteArray.mk #[115])++s).size<=_
   rw [ByteArray.size_append,O];omega
end
end Go.Ab
end
section
namespace Go.Ab
set_option maxRecDepth 20000
noncomputable section
structure WT (w:World):Prop where
 yr:0<=w.y_/\w.y_<=4
 crops:CropT w.crops_
 his:HisT (w.crops_.length:Nat) w.history_
 hlen:w.history_.length<=5
 zon:LayT w.zones_
 zlen:w.zones_.length<=3
 day:0<=w.day_/\w.day_<=24
 most:0<=w.most_/\w.most_<=300
theorem HisT.few5{K:Int}{H:List Rg_}(h:HisT K H)(hl:H.length<=5):FewR H:=⟨h.hl,fun y p i a=>by
 have:=W1e h y p i (by omega)
 omega⟩
theorem Box.up{n m:Int}{l:List Rect}(h:Box n l)(hm:n<=m):Box m l:=fun r a=>by
 have:=h r a
 omega
theorem WT.lb{w:World}(h:WT w):LB 9 w.zones_:=h.zon.lb
theorem WT.ev{w:World}(h:WT w){A:List Rect}(hA:TR A){c:Int}(hc:0<=c/\c<(w.crops_.length:Nat)):EV w.y_ w.crops_ w.history_ w.zones_ c A:=by
 have b:=h.crops.one c.toNat (by omega);exact ⟨hA,hc,b.2.1,⟨b.2.2.2.1,b.2.2.2.2⟩,h.his.few5 h.hlen,fun f a=>(h.his.box f a).up (by omega),fun f a=>⟨((Q4w f).1 (h.his.hl.one f a)).2.2.1,h.his.crop f a⟩,by have:=h.yr;omega,⟨h.zon.vl,fun f a=>(h.lb.box f a).up (by omega),by omega⟩⟩
theorem WT.chk{w:World}(h:WT w){A:List Rect}(hA:TR A){c:Int}(hc:0<=c/\c<(w.crops_.length:Nat)){e:Nat}{t:Term}(ht:Q7m e t=0):Q8r e t w.crops_ c w.history_ w.y_ w.zones_ w.day_ A=0:=by
 have j:=h.yr;have g:=h.day
 have b:∀ k:Int,0<=k->k<(w.crops_.length:Nat)->Q1o w.crops_ k=false:=fun k i f=>by
  unfold Q1o;rw [decide_eq_false (by omega),decide_eq_false (by omega)];rfl
 have a:(w.history_.any fun r=>Q1o w.crops_ r.c_)=false:=by
  rw [List.any_eq_false];intro r d
  rw [b _ ((Q4w r).1 (h.his.hl.one r d)).2.2.1 (h.his.crop r d)];exact Bool.noConfusion
 unfold Q8r;rw [if_neg (by rw [ht];simp),if_neg (by rw [h.crops.crC];simp),if_neg (by rw [b c hc.1 hc.2,a];simp),if_neg (by rw [(Z3O _).2 h.his.hl];simp),if_neg (by omega),if_neg (by rw [(Z1o _).2 h.zon.vl];simp),if_neg (by omega),if_pos ((Q0Q _).2 hA.val)]
def lnT(w:World)(x:Line)(parcel:Re_)(s:Scheme):TS:=
 if Z3R x.s_ s.N_=false then Z6C x.g_.t_ false
 else Z7l x.g_.t_ (evS w.y_ w.crops_ w.history_ w.zones_ w.day_ x.c_ x.g_.t_ 3 s.cond_) (elS w.zones_ w.day_ w.most_ parcel.t_)
theorem W2w(w:World)(x:Line)(parcel:Re_)(s:Scheme):TIn x.g_.t_ (lnT w x parcel s):=by
 unfold lnT;split
 .exact Y0L _ _
 .exact Y9V (Z4Y _ _) (Y7i _ _ _ _)
theorem W2Q{w:World}{x:Line}{parcel:Re_}{s:Scheme}(u v:Int)(h1:(lnT w x parcel s).Y u v=true)(h2:(lnT w x parcel s).N u v=true):False:=by
 unfold lnT at h1 h2;split at h1
 .cases h1
 .rename_i q
  rw [if_neg q] at h2;simp only [Z7l] at h1 h2
  rw [h1] at h2;simp at h2
theorem W2h{A:List Rect}(h:Val A):(Z6C A false).t3 A=⟨⟨[]⟩,⟨A⟩,⟨[]⟩⟩:=by
 unfold TS.t3;rw [Y8q,Z8B]
 show Truth.mk ⟨cn fun _ _=>false⟩ ⟨cn (inR A)⟩ ⟨[]⟩=_;rw [Z8B,Y3H h]
theorem Y5N{F n:Nat}(hF:BIG+3<=F){w:World}{x:Line}(hE:EV w.y_ w.crops_ w.history_ w.zones_ x.c_ x.g_.t_){s:Scheme}(hk:Q8r 3 s.cond_ w.crops_ x.c_ w.history_ w.y_ w.zones_ w.day_ x.g_.t_=0)(hl:w.history_.length<=1000000)(hn:NmS w.crops_)(hL:LB n w.zones_)(d1:0<=w.day_)(d2:w.day_<=36864)(m1:0<=w.most_)(m2:w.most_<=268435456)(hs:SD 3 s)(h1:Q9Y 3 s=0){parcel:Re_}(hp:TR parcel.t_)(hsub:∀ u v,inR x.g_.t_ u v=true->inR parcel.t_ u v=true):
  Q1M F x parcel s w=some ((lnT w x parcel s).t3 x.g_.t_,0):=by
 have c:BIG<=F:=by omega
 have b:=hE.tr;have d:=Z9P c hL d1 d2 hp m1 m2
 rw [Y0E (e:=3) (by omega) hF hs hl hn (fun _=>hE) d fun _=>W2z hp _ _];have hE:(Q6C 3 s.cond_ x w.y_ w.crops_ w.history_ w.zones_ w.day_).2=0:=by
  unfold Q6C;rw [if_neg (by rw [hk];simp)]
 have a:Y3K x.g_ parcel=true:=(Y8u b.val hp.val).2 hsub;unfold Y9U
 rw [if_neg (by rw [(Q0Q _).2 hp.val];simp),if_neg (by rw [hE];simp),if_neg (by rw [h1];simp),if_neg (by simp),if_neg (by rw [a];simp)];unfold lnT
 by_cases q:Z3R x.s_ s.N_=false
 .rw [if_pos q,if_pos q,W2h b.val]
 .rw [if_neg q,if_neg q]
  show some ((Z7l _ _ (inR (cn (elS w.zones_ w.day_ w.most_ parcel.t_)))).t3 _,(0:Int))=_;rw [W5 (Y7i _ _ _ _)]
theorem Y8O{F:Nat}(hF:BIG+3<=F){w:World}(hw:WT w){x:Line}(hA:TR x.g_.t_)(hc:0<=x.c_/\x.c_<(w.crops_.length:Nat)){s:Scheme}(hs:SD 3 s)(h1:Q9Y 3 s=0){parcel:Re_}(hp:TR parcel.t_)(hsub:∀ u v,inR x.g_.t_ u v=true->inR parcel.t_ u v=true):
  Q1M F x parcel s w=some ((lnT w x parcel s).t3 x.g_.t_,0):=by
 have b:=hw.day;have a:=hw.most
 have c:=hw.hlen;exact Y5N hF (hw.ev hA hc) (hw.chk hA hc (Y0j h1).2.2.2.2.2.1) (by omega) hw.crops.nm hw.lb b.1 (by omega) a.1 (by omega) hs h1 hp hsub
end
end Go.Ab
end
section
namespace Go.Ab
set_option maxRecDepth 20000
noncomputable section
theorem Y2H{F:Nat}{a n:Int}(h0:0<=a)(h1:a<n):Z1Y F a n=some a:=by
 unfold Z1Y;rw [Int.tmod_eq_of_lt h0 h1]
 exact Q7 (decide_eq_false (by omega)) (Q6 (by omega) (Q7 (decide_eq_false (by omega)) rfl))
structure PrT (rs:List Re_) (l:List Line) (ps:List Re_):Prop where
 len:ps.length=l.length
 at_:∀ i,i<l.length->gl ps i=gl rs ((gl l i).p_-1).toNat
theorem Y1t{F:Nat}(hF:BIG<=F){K:Int}{rs:List Re_}(hp:ParT rs){l:List Line}(hl:LinT K rs l)(h3:l.length<=100):∃ ps,Q8i F l rs=some ps/\PrT rs l ps:=by
 unfold BIG at hF;have o:=hp.len
 unfold Q8i
 suffices h:Ok (Q9 (fun b (z:Int×(List Re_))=>Q6T F l rs b z.1 z.2) F ((0:Int),([]:List Re_))) fun ps=>PrT rs l ps by
  obtain ⟨ps,e,n⟩:=h;exact ⟨ps,e,n⟩
 refine Z9p (fun z:Int×List Re_=>∃ i:Nat,z.1=i/\i<=l.length/\z.2.length=i/\∀ k,k<i->gl z.2 k=gl rs ((gl l k).p_-1).toNat) (fun z=>l.length-z.1.toNat) (fun b z j m=>?_) ⟨0,rfl,Nat.zero_le _,rfl,fun k f=>absurd f (Nat.not_lt_zero k)⟩ (by simp;omega);obtain ⟨a,ps⟩:=z
 obtain ⟨i,e,p,c,d⟩:=j;simp only at e c d
 subst e;show Ok (Q6T F l rs b (i:Int) ps) _
 unfold Q6T;refine Q6x (fun h=>?_) (fun h=>?_)
 .have h:i<l.length:=by have:=of_decide_eq_true h;omega
  have q:=(hl.one _ (V4 h)).par;rw [Int.toNat_natCast]
  refine Q1K (by omega) (Q1K (Z7 (by omega) (by omega)) (Q4S (Y2H (by omega) (by omega)) (Q1K (by omega) (Q1K (by simp only [List.length_cons,List.length_nil];unfold LIM;omega) (Q1K (Z7 (by omega) (by omega)) (m _ ⟨i+1,by simp,h,by simp [c],fun k f=>?_⟩ (by simp only;omega)))))));rcases Nat.lt_or_ge k i with g|g
  .rw [W0l _ _ (by omega)];exact d k g
  .have:k=ps.length:=by omega
   subst this;rw [W0k,c]
 .have h:i=l.length:=by have:=of_decide_eq_false h;omega
  unfold Z0z;exact Z6V ⟨by omega,fun k f=>d k (by omega)⟩
theorem Z8n{F:Nat}(hF:BIG<=F){t:Tape}(ht:TOk t){cs:List Crop}(hcs:CropT cs):∃ t' w,Q4j F t cs=some (t',w)/\TOk t' /\ WT w/\w.crops_=cs/\w.most_<=4:=by
 obtain ⟨C,y,q,j,r,u⟩:=Z5 (F:=F) ht (n:=5) (by omega) (by omega);obtain ⟨D,H,h,c,o,v⟩:=Z5i hF j hcs (most:=5) (by omega) (by omega)
 obtain ⟨z,Z,a,k,b,l⟩:=Z8p hF c (most:=3) (by omega) (by omega);obtain ⟨B,d,f,p,s,x⟩:=Z5 (F:=F) k (n:=25) (by omega) (by omega)
 obtain ⟨g,m,e,i,A,E⟩:=Z5 (F:=F) p (n:=5) (by omega) (by omega);refine ⟨g,⟨y,cs,H,Z,d,m⟩,?_,i,⟨by simp only;omega,hcs,o,by simp only;omega,b,by simp only;omega,by simp only;omega,by simp only;omega⟩,rfl,by simp only;omega⟩
 unfold Q4j;exact Q2 q (Q2 h (Q2 a (Q2 f (Q2 e rfl))))
def Y3N:Term:=⟨1,0,0,[]⟩
theorem W1i(d:Nat):TD (d+1) Y3N:=Y7C (Z7 (by omega) (by omega)) (Z7 (by omega) (by omega))
def exA:List Rect:=[⟨0,0,10,1⟩]
def exZ:List Rect:=[⟨3,0,5,1⟩]
def Z5j:Line:=⟨1,⟨exA⟩,0,1⟩
def exS:Scheme:=⟨0,ByteArray.mk #[115],Y3N,[⟨10,1⟩],0,0,false⟩
def exF:A2_:=⟨1,0,0,9,⟨exZ⟩⟩
def exW:World:=⟨0,[⟨ByteArray.mk #[114,121,101],0,0⟩],[],[exF],0,0⟩
theorem Y7Z:Z3R 1 0=true/\Z3R 0 0=false:=by decide +kernel
theorem W1P:crC exW.crops_=0:=by decide +kernel
theorem W1R:Q9Y 3 exS=0:=by
 have a:Q1a (ByteArray.mk #[115])=true:=by decide +kernel
 have b:brB [⟨10,1⟩]=true:=by decide +kernel
 show Q9Y 3 ⟨0,ByteArray.mk #[115],Y3N,[⟨10,1⟩],0,0,false⟩=0;unfold Q9Y
 rw [show Q7m 3 Y3N=0 from Y1V 2,if_neg (by simp),if_neg (by rw [a];simp),if_neg (by simp),if_neg (by rw [b];simp [Y7Z.2])]
theorem Y8a:Val exA:=val_one (r:=⟨0,0,10,1⟩) (by decide)
theorem Y7Y:Val exZ:=val_one (r:=⟨3,0,5,1⟩) (by decide)
theorem W2X(u v:Int):inR exA u v=true↔0<=u/\u<10/\0<=v/\v<1:=by
 unfold exA;rw [Q3j]
 constructor
 .rintro ⟨r,a,h⟩
  rw [List.mem_singleton] at a;subst a
  rw [y6] at h;simp only at h
  omega
 .intro h
  exact ⟨_,List.mem_singleton.2 rfl,(y6 _ _ _).2 (by simp only;omega)⟩
theorem W1S:Box (10:Nat) exA:=fun r a=>by
 unfold exA at a;rw [List.mem_singleton] at a
 subst a;decide
theorem TR.of_box{A:List Rect}(hv:Val A){n:Nat}(hn:n<=15)(hb:Box n A):TR A:=⟨hv,fun b a=>(Y1Q b hn fun x y h=>hb.in (a x y h)).1⟩
theorem Y2R:TR exA:=TR.of_box Y8a (by omega) W1S
theorem Y4U:LB 10 exW.zones_:=by
 refine ⟨⟨by simp [exW],fun f a=>?_,by simp [exW]⟩,fun f a=>?_,by omega⟩
 .have a:f=exF:=List.mem_singleton.1 a
  subst a;rw [Z6U]
  exact ⟨by decide,by decide,by decide,by decide,by decide,by decide,by decide,by decide,Y7Y⟩
 .have a:f=exF:=List.mem_singleton.1 a
  subst a;intro r b
  have b:r=⟨3,0,5,1⟩:=List.mem_singleton.1 b;subst b;decide
theorem W2W:EV exW.y_ exW.crops_ exW.history_ exW.zones_ Z5j.c_ Z5j.g_.t_:=
 ⟨Y2R,by decide,by decide,by decide,⟨HL.nil,fun y p i b=>absurd b (Nat.not_lt_zero i)⟩,fun f a=>(List.not_mem_nil a).elim,fun f a=>(List.not_mem_nil a).elim,by decide,⟨Y4U.vl,fun f a=>(Y4U.box f a).up (by omega),by omega⟩⟩
theorem W1Q:Q8r 3 exS.cond_ exW.crops_ Z5j.c_ exW.history_ exW.y_ exW.zones_ exW.day_ Z5j.g_.t_=0:=by
 have b:¬ (exW.y_<0\/100<exW.y_):=by decide
 have d:¬ (exW.day_<0\/36864<exW.day_):=by decide
 have a:(Q1o exW.crops_ Z5j.c_||exW.history_.any fun r=>Q1o exW.crops_ r.c_)=false:=by decide
 have c:Q7m 3 exS.cond_=0:=Y1V 2;unfold Q8r
 rw [if_neg (by rw [c];simp),if_neg (by rw [W1P];simp),if_neg (by rw [a];simp),if_neg (by rw [show Q7w exW.history_=0 from (Z3O _).2 HL.nil];simp),if_neg b,if_neg (by rw [(Z1o _).2 Y4U.vl];simp),if_neg d,if_pos ((Q0Q Z5j.g_.t_).2 Y8a)]
theorem Y2G{F:Nat}(hF:BIG+3<=F):Z2D F=some true:=by
 have p:BIG<=F:=by omega
 have z:=Y5N (n:=10) hF (w:=exW) (x:=Z5j) W2W (s:=exS) W1Q (by decide) (fun x i=>by
  have i:x=⟨ByteArray.mk #[114,121,101],0,0⟩:=List.mem_singleton.1 i;subst i;decide) Y4U (by decide) (by decide) (by decide) (by decide) ⟨W1i 2,by show (1:Nat)<=_;omega,by simp [exS]⟩ W1R (parcel:=⟨exA⟩) Y2R fun u v h=>h
 have b:TIn exA (lnT exW Z5j ⟨exA⟩ exS):=W2w exW Z5j ⟨exA⟩ exS;have a:lnT exW Z5j ⟨exA⟩ exS=Z7l exA (evS exW.y_ exW.crops_ exW.history_ exW.zones_ exW.day_ Z5j.c_ exA 3 Y3N) (elS exW.zones_ exW.day_ exW.most_ exA):=by
  unfold lnT;rw [if_neg (by rw [show Z3R Z5j.s_ exS.N_=Z3R 1 0 from rfl,Y7Z.1];simp)];rfl
 have e:evS exW.y_ exW.crops_ exW.history_ exW.zones_ exW.day_ Z5j.c_ exA 3 Y3N=Z6C exA true:=by
  rfl
 have g:V8 [exF] 0 (zp 0)=exZ:=by decide +kernel
 have m:V8 [exF] 0 (zp 1)=[]:=by decide +kernel
 have f:Z3i [exF] 0 exA=[]:=by
  unfold Z3i;rw [m]
  exact Z8B
 have k:Z7P ([]:List Rect)=[]:=by decide +kernel
 have l:Z1u [exF] 0 0 exA=[]:=by
  unfold Z1u;rw [f,k];rfl
 have c:∀ u v,elS exW.zones_ exW.day_ exW.most_ exA u v=(inR exA u v && !inR exZ u v):=fun u v=>by
  show elS [exF] 0 0 exA u v=_;unfold elS
  rw [g,l];show (_ && !(_||false))=_
  rw [Bool.or_false]
 have d:∀ u v,inR exZ u v=true->inR exA u v=true:=fun u v h=>by
  rw [W2X];obtain ⟨r,o,h⟩:=(Q3j _ _ _).1 h
  have o:r=⟨3,0,5,1⟩:=List.mem_singleton.1 o;subst o
  rw [y6] at h;simp only at h
  omega
 have D:(lnT exW Z5j ⟨exA⟩ exS).Y=fun u v=>inR exA u v && !inR exZ u v:=by
  rw [a,e];funext u v
  simp only [Z7l,Z6C,if_true];rw [c]
  cases inR exA u v <;> cases inR exZ u v <;> rfl
 have t:(lnT exW Z5j ⟨exA⟩ exS).N=inR exZ:=by
  rw [a,e];funext u v
  simp only [Z7l,Y8q,Z6C,if_true];rw [c]
  have:=d u v
  cases hA:inR exA u v <;> cases hZ:inR exZ u v <;> simp_all
 have j:area exA=10:=by decide +kernel
 have B:area exZ=2:=by decide +kernel
 have q:area (cn (lnT exW Z5j ⟨exA⟩ exS).N)=2:=by rw [t,Y3H Y7Y,B]
 have A:area (cn (lnT exW Z5j ⟨exA⟩ exS).Y)=8:=by
  have E:=Y9o Y2R b fun x y G C=>W2Q x y G C
  have H:(lnT exW Z5j ⟨exA⟩ exS).O exA=fun _ _=>false:=by
   funext u v
   unfold TS.O;rw [D,t]
   show ((inR exA u v && !(inR exA u v && !inR exZ u v)) && !inR exZ u v)=false
   cases inR exA u v <;> cases inR exZ u v <;> rfl
  rw [H,Z8B,q,j] at E;have:area []=0:=rfl
  omega
 unfold Z2D;refine Q2 z ?_
 refine Z6 rfl (Q2 (Z7M p (b.vY Y2R)) (Z6 (by simp only [TS.t3];rw [A];rfl) (Q2 (Z7M p (b.vN Y2R)) ?_)));simp only [TS.t3]
 rw [q];rfl
end
end Go.Ab
end
