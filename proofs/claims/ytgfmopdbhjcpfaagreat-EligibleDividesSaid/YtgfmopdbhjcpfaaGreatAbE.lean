/- Abstract states over the model. -/
import Derived.Test.YtgfmopdbhjcpfaaGreatAbD
import Derived.Test.YtgfmopdbhjcpfaaGreatLwA
import Derived.Test.YtgfmopdbhjcpfaaGreatLwC
import Derived.Test.YtgfmopdbhjcpfaaGreatLwB
set_option linter.unusedVariables false
set_option linter.unusedSimpArgs false
section
namespace Go.Ab
set_option maxRecDepth 20000
noncomputable section
theorem W3k{L:List A2_}{d m:Int}{a:List Rect}{x y:Int}(h:elS L d m a x y=true):inR a x y=true:=by
 unfold elS at h;rw [Bool.and_eq_true] at h
 exact h.1
theorem W0A{L:List A2_}{a:List Rect}(ha:TR a)(d m:Int):Val (cn (elS L d m a)):=ha.sub (Y3f L d m a) fun _ _ h=>W3k h
theorem Z3v{F n:Nat}{L:List A2_}{d:Int}(hF:BIG<=F)(hL:LB n L)(d1:0<=d)(d2:d<=36864){a:Re_}(ht:TR a.t_){m:Int}(m1:0<=m)(m2:m<=268435456):Q1k F a L d m=some (⟨cn (elS L d m a.t_)⟩,0):=by
 have b:=ht.val;have f:=hL.rval d (zp 0)
 have g:=Y4g hL d m a.t_;have l:=f.1.1
 have j:=g.1.1;have i:=b.1
 unfold Q1k;refine Q2 (Q2Y hF hL.vl d1 d2 b m1 m2) ?_
 refine Q5 rfl ?_;refine Q2 (Y4K hF hL d1 d2) ?_
 refine Q5 rfl ?_;refine Q2 (Y4J hF hL d1 d2 b m1 m2) ?_
 refine Q5 rfl ?_;refine Q2 (Q3X hF (by simp only;omega) (by simp only;omega)) ?_
 refine Q2 (Q1W hF (by simp only [List.length_append];omega) (fun r c=>(b.2.2.pos c).1) (fun r c=>?_) (k:=fun u v=>u && !v) rfl (fun u v=>by cases u <;> cases v <;> rfl)) ?_
 .rcases List.mem_append.1 c with h|h
  .exact (f.1.2.2.pos h).1
  .exact (g.1.2.2.pos h).1
 have e:(cn fun x y=>inR a.t_ x y && !inR (cn (inR (W4 L d (zp 0)))++cn (inR (Z1I L d m a.t_))) x y)=cn (elS L d m a.t_):=by
  congr 1
  funext x y
  unfold elS;rw [Q0F,J5 (V3 _),J5 (V3 _)]
 show (Q2i F (cn fun x y=>inR a.t_ x y && !inR (cn (inR (W4 L d (zp 0)))++cn (inR (Z1I L d m a.t_))) x y)).bind _=_;rw [e]
 have:=(W0A (L:=L) ht d m).1
 refine Q2 (Q7M F _) ?_;rw [if_neg (by omega)]
theorem Y5y{A:List Rect}(hA:TR A){P:TS}(h:TIn A P)(hd:∀ x y,P.Y x y=true->P.N x y=true->False):area (cn P.Y)+area (cn P.N)+area (cn (P.O A))=area A:=by
 rw [(h.vY hA).area,(h.vN hA).area,(h.vO hA).area,hA.val.area,Q0J h.fY,Q0J h.fN,Q0J h.fO];have e:inR A=fun x y=>(P.Y x y||P.N x y)||P.O A x y:=by
  funext x y
  have:=h.sY x y
  have:=h.sN x y
  unfold TS.O
  cases hA:inR A x y <;> cases hY:P.Y x y <;> cases hN:P.N x y <;> simp_all
 have c:sq (inR A)=sq (fun x y=>P.Y x y||P.N x y)+sq (P.O A):=by
  conv=>lhs;rw [e]
  rw [Z5F,Z5F,Z5F];refine Y7v fun x y b a=>?_
  unfold TS.O at a
  cases hY:P.Y x y <;> cases hN:P.N x y <;> simp_all
 have d:sq (fun x y=>P.Y x y||P.N x y)=sq P.Y+sq P.N:=by
  rw [Z5F,Z5F,Z5F];exact Y7v fun x y b a=>hd x y b a
 rw [c,d]
end
end Go.Ab
end
section
namespace Go.Ab
set_option maxRecDepth 20000
noncomputable section
theorem Z6W{R:Type}{body:(Int->Option R)->Int->Option R}{c:Nat->Option R}{y:Option R}(N:Nat)(p:Nat->Bool)(bad:∀ again (i:Nat),i<N->(∀ j,j<i->p j=false)->p i=true->body again (i:Int)=c i)(good:∀ again (i:Nat) z,i<N->(∀ j,j<i->p j=false)->p i=false->again ((i:Int)+1)=z->body again (i:Int)=z)(stop:(∀ j,j<N->p j=false)->∀ again,body again (N:Int)=y){F:Nat}(hF:N<F):Z2 body F 0=match (List.range N).find? p with|some i=>c i|none=>y:=by
 refine Y8 (fun z:Int=>∃ i:Nat,z=i/\i<=N/\∀ j,j<i->p j=false) (fun z=>N-z.toNat) (fun again z e d=>?_) ⟨0,rfl,Nat.zero_le _,fun j h=>absurd h (Nat.not_lt_zero j)⟩ (by simp;omega);obtain ⟨i,rfl,g,a⟩:=e
 rcases Nat.lt_or_ge i N with h|h
 .cases hpi:p i with
  | true=>
   rw [List.find?_range_eq_some.2 ⟨hpi,List.mem_range.2 h,fun j b=>by simp [a j b]⟩];exact bad again i h a hpi
  | false=>
   refine good again i _ h a hpi (d _ ⟨i+1,by omega,h,fun j b=>?_⟩ (by omega))
   by_cases hji:j=i
   .rw [hji];exact hpi
   .exact a j (by omega)
 .have:i=N:=by omega
  subst this;rw [List.find?_eq_none.2 fun x f=>by rw [a x (List.mem_range.1 f)];simp]
  exact stop a again
theorem Y8b{α:Type}[Emb α](p:α->Bool)(l:List α):Z1v p l<(l.length:Int) /\ -1<=Z1v p l/\(0<=Z1v p l->p (gl l (Z1v p l).toNat)=true/\l.any p=true):=by
 unfold Z1v;split
 .rename_i h
  have a:l.findIdx p<l.length:=List.findIdx_lt_length_of_exists (by simpa using h);refine ⟨by omega,by omega,fun _=>⟨?_,h⟩⟩
  rw [Int.toNat_natCast,K8 a];exact List.findIdx_getElem (w:=a)
 .exact ⟨by omega,by omega,fun h=>by omega⟩
def Y1e(n:Int)(x:Scheme):Bool:=x.N_==n
theorem Z7P{F:Nat}(hF:BIG<=F){l:List Scheme}(hl:l.length<=1000000)(n:Int):Z4s F l n=some (Z1v (Y1e n) l):=by
 have p:=hF;unfold BIG at p
 unfold Z4s;refine (Z6W (c:=fun i=>some (i:Int)) (y:=some (-1)) l.length (fun i=>Y1e n (gl l i)) (fun a i g _ e=>?_) (fun a i z g _ e o=>?_) (fun _ a=>?_) (by omega)).trans ?_
 .show Q3c F l n a (i:Int)=_
  unfold Q3c;exact Z4 (decide_eq_true (by omega)) (Q7 (by omega) (Z4 e rfl))
 .show Q3c F l n a (i:Int)=_
  unfold Q3c;exact Z4 (decide_eq_true (by omega)) (Q7 (by omega) (Q5 e (Q7 (Z7 (by omega) (by omega)) o)))
 .show Q3c F l n a (l.length:Int)=_
  unfold Q3c;exact Q5 (decide_eq_false (by omega)) rfl
 .unfold Z1v
  cases hf:(List.range l.length).find? fun i=>Y1e n (gl l i) with
  | none=>
   have h:=List.find?_eq_none.1 hf;rw [if_neg]
   rw [Bool.not_eq_true];exact Q6H fun j d=>by have:=h j (List.mem_range.2 d);simpa using this
  | some i=>
   obtain ⟨f,b,k⟩:=List.find?_range_eq_some.1 hf;have b:=List.mem_range.1 b
   have m:l.any (Y1e n)=true:=List.any_eq_true.2 ⟨_,V7 b,f⟩;rw [if_pos m,Z4G b (fun j d=>by have:=k j d;simpa using this) f]
def twB(l:List Scheme)(i:Nat):Bool:=(decide (0<i)&&decide ((gl l i).N_<=(gl l (i-1)).N_))||(l.take i).any fun x=>sEq x.n_ (gl l i).n_
def Y9Y(l:List Scheme)(s:Scheme)(n:Nat):Bool:=Z0K s.excludes_ n&&(decide (Z1v (Y1e n) l<0) || !Z0K (gl l (Z1v (Y1e n) l).toNat).excludes_ s.N_)
def Y5Y(l:List Scheme)(s:Scheme):Bool:= !(List.range 16).any (Y9Y l s)
def Y7z(l:List Scheme):Int×Int:=match (List.range l.length).find? fun i=> !Y5Y l (gl l i) with
 | some i=>(i,17)
 | none=>(-1,0)
def Y1K(d:Nat)(l:List Scheme)(i:Nat):Bool:=decide (Z0c d (gl l i)≠0)||twB l i
def Y7y(d:Nat)(l:List Scheme):Int×Int:=if 16<l.length then (0,1) else match (List.range l.length).find? (Y1K d l) with
 | some i=>(i,if Z0c d (gl l i)≠0 then Z0c d (gl l i) else 6)
 | none=>Y7z l
theorem Y4o{d:Nat}{s:Scheme}(h:Z0c d s=0):0<=s.N_/\s.N_<=15/\0<=s.least_/\s.least_<=268435456/\Q2S s.n_=true/\Q8C d s.cond_=0/\brB s.brackets_=true/\0<=s.excludes_/\s.excludes_<65536/\Z0K s.excludes_ s.N_=false:=by
 unfold Z0c at h;split at h
 .omega
 split at h
 .omega
 split at h
 .rename_i b;exact absurd h b
 split at h
 .omega
 rename_i b f c a
 refine ⟨by omega,by omega,by omega,by omega,by simpa using f,by simpa using c,?_,by omega,by omega,?_⟩
 .cases e:brB s.brackets_ with
  | true=>rfl
  | false=>exact absurd (.inl e) a
 .cases e:Z0K s.excludes_ s.N_ with
  | false=>rfl
  | true=>exact absurd (.inr (.inr (.inr e))) a
theorem Y2B{d F:Nat}(hd:d<=2000000)(hF:BIG+d<=F){l:List Scheme}(hl:∀ s ∈ l,SD d s):Z2K F l=some (Y7y d l):=by
 have H:BIG<=F:=by omega
 have G:=H;unfold BIG at G
 unfold Z2K Y7y
 by_cases h16:16<l.length
 .rw [if_pos h16];exact Z4 (decide_eq_true (by omega)) rfl
 rw [if_neg h16];refine Q5 (decide_eq_false (by omega)) ?_
 have N:∀ a b:ByteArray,sEq a b=sEq a b:=fun _ _=>rfl
 have t:∀ (f:Int->Option (Int×Int)) (i:Nat),i<l.length->∀ {y:Option (Int×Int)},(twB l i=false->f ((i:Int)+1)=y)->Z2 (fun m (z:Int)=>Q1t F l (i:Int) f m z) F (0:Int)=if twB l i=true then some ((i:Int),6) else y:=by
  intro f i p y E;have e:twB l i=(List.range i).any fun k=>sEq (gl l k).n_ (gl l i).n_||(decide (k=i-1)&&decide ((gl l i).N_<=(gl l k).N_)):=by
   unfold twB;rw [Bool.eq_iff_iff,Bool.or_eq_true,Bool.and_eq_true,List.any_eq_true,List.any_eq_true]
   constructor
   .rintro (⟨o,A⟩|⟨x,hx,h⟩)
    .refine ⟨i-1,List.mem_range.2 (by have:=of_decide_eq_true o;omega),?_⟩
     rw [A];simp
    .obtain ⟨k,q,rfl⟩:=List.getElem_of_mem hx
     rw [List.length_take] at q;refine ⟨k,List.mem_range.2 (by omega),?_⟩
     rw [List.getElem_take, <-K8 (by omega)] at h;rw [h];rfl
   .rintro ⟨k,q,h⟩
    have q:=List.mem_range.1 q;rw [Bool.or_eq_true,Bool.and_eq_true] at h
    rcases h with h|⟨o,A⟩
    .exact .inr ⟨gl l k,List.mem_take_iff_getElem.2 ⟨k,by omega,(K8 (by omega)).symm⟩,h⟩
    .have o:=of_decide_eq_true o
     subst o;exact .inl ⟨decide_eq_true (by omega),A⟩
  have B:∀ k,k<i->gl (l.take i) k=gl l k:=fun k q=>by rw [K8 (by simp;omega),K8 (by omega),List.getElem_take]
  have M:((i:Nat):Int).toNat=i:=Int.toNat_natCast i;have r:(l.take ((i:Nat):Int).toNat).length=i:=by simp;omega
  refine (Z6W (c:=fun _=>some ((i:Int),(6:Int))) (y:=y) i (fun k=>sEq (gl l k).n_ (gl l i).n_||(decide (k=i-1)&&decide ((gl l i).N_<=(gl l k).N_))) (fun m k q _ g=>?_) (fun m k z q _ g w=>?_) (fun g m=>?_) (by omega)).trans ?_
  .show Q1t F l (i:Int) f m (k:Int)=_
   unfold Q1t;have k2:Q3z F (i:Int) (k:Int) m true=some ((i:Int),6):=rfl
   refine Z4 (decide_eq_true (by rw [r];omega)) (Q7 (by rw [r];omega) ?_);simp only [Int.toNat_natCast,B k q]
   refine Q6 (fun _=>k2) (fun o=>Q7 (Z7 (by omega) (by omega)) ?_);rw [o,Bool.false_or,Bool.and_eq_true] at g
   refine Z4 (by have:=of_decide_eq_true g.1;simp;omega) ?_;rw [g.2];exact k2
  .show Q1t F l (i:Int) f m (k:Int)=_
   unfold Q1t;have k2:Q3z F (i:Int) (k:Int) m false=z:=Q5 rfl (Q7 (Z7 (by omega) (by omega)) w)
   refine Z4 (decide_eq_true (by rw [r];omega)) (Q7 (by rw [r];omega) ?_);simp only [Int.toNat_natCast,B k q]
   rw [Bool.or_eq_false_iff] at g;refine Q5 g.1 (Q7 (Z7 (by omega) (by omega)) (Q6 (fun o=>?_) (fun _=>k2)))
   have o:k=i-1:=by simp at o;omega
   have:=g.2
   rw [decide_eq_true o,Bool.true_and] at this;rw [this];exact k2
  .show Q1t F l (i:Int) f m (i:Int)=_
   unfold Q1t;refine Q5 (decide_eq_false (by rw [r];omega)) ?_
   have D:twB l i=false:=by rw [e,List.any_eq_false];intro k q;rw [g k (List.mem_range.1 q)];simp
   exact Q7 (Z7 (by omega) (by omega)) (E D)
  .cases hf:(List.range i).find? fun k=>sEq (gl l k).n_ (gl l i).n_||(decide (k=i-1)&&decide ((gl l i).N_<=(gl l k).N_)) with
   | some k=>
    have D:twB l i=true:=by rw [e,List.any_eq_true];have h:=List.find?_range_eq_some.1 hf;exact ⟨k,h.2.1,h.1⟩
    rw [if_pos D]
   | none=>
    have D:twB l i=false:=by rw [e,List.any_eq_false];intro k q;exact List.find?_eq_none.1 hf k q
    rw [if_neg (by simp [D])]
 refine (Z6W (c:=fun i=>some ((i:Int),if Z0c d (gl l i)≠0 then Z0c d (gl l i) else 6)) (y:=some (Y7z l)) l.length (Y1K d l) (fun f i p _ g=>?_) (fun f i z p _ g w=>?_) (fun g f=>?_) (by omega)).trans ?_
 .show Q2l F l f (i:Int)=_
  unfold Q2l;refine Z4 (decide_eq_true (by omega)) (Q7 (by omega) (Q2 (Z9n hd hF (hl _ (V7 p))) ?_))
  by_cases u:Z0c d (gl l i)=0
  .rw [if_neg (by simpa using u)]
   unfold Y1K at g;rw [decide_eq_false (by simpa using u),Bool.false_or] at g
   refine Q5 (by simp [u]) (Q7 (by omega) ((t f i p (y:=none) fun h=>by rw [g] at h;cases h).trans ?_));rw [if_pos g]
  .rw [if_pos u];exact Z4 (by simpa using u) rfl
 .show Q2l F l f (i:Int)=_
  unfold Q2l;unfold Y1K at g
  rw [Bool.or_eq_false_iff] at g;have u:Z0c d (gl l i)=0:=by simpa using g.1
  refine Z4 (decide_eq_true (by omega)) (Q7 (by omega) (Q2 (Z9n hd hF (hl _ (V7 p))) (Q5 (by simp [u]) (Q7 (by omega) ((t f i p fun _=>w).trans ?_)))));rw [if_neg (by simp [g.2])]
 .show Q2l F l f (l.length:Int)=_
  unfold Q2l Z1W Y7z;refine Q5 (decide_eq_false (by omega)) ?_
  have w:∀ j,j<l.length->0<=(gl l j).N_:=fun j L=>by
   have:=g j L
   unfold Y1K at this;rw [Bool.or_eq_false_iff] at this
   exact (Y4o (by simpa using this.1)).1
  have C:∀ (f:Int->Option (Int×Int)) (i:Nat),i<l.length->∀ {y:Option (Int×Int)},f ((i:Int)+1)=y->Z2 (fun m (z:Int)=>Q1s F l (i:Int) f m z) F (0:Int)=if (List.range 16).any (Y9Y l (gl l i))=true then some ((i:Int),17) else y:=by
   intro f i p y E;refine Y7P (c:=some ((i:Int),17)) (y:=y) 16 (Y9Y l (gl l i)) (fun m n K g=>?_) (fun m n z K g v=>?_) (fun m=>?_) (by omega)
   .show Q1s F l (i:Int) f m (n:Int)=_
    unfold Q1s;unfold Y9Y at g
    rw [Bool.and_eq_true] at g;obtain ⟨o,A⟩:=Y8b (Y1e (n:Nat)) l
    simp only [Int.toNat_natCast (n:=i)];refine Z4 (decide_eq_true (by omega)) (Q7 (by omega) (Q5 (by rw [Z2A,g.1];rfl) (Q2 (Z7P H (by omega) _) ?_)))
    refine Q6 (fun _=>rfl) (fun I=>Q7 (by have:=of_decide_eq_false I;omega) (Q7 (w i p) ?_));rw [Z2A]
    have:=g.2
    rw [I,Bool.false_or] at this;rw [this];rfl
   .show Q1s F l (i:Int) f m (n:Int)=_
    unfold Q1s;unfold Y9Y at g
    obtain ⟨o,A⟩:=Y8b (Y1e (n:Nat)) l;simp only [Int.toNat_natCast (n:=i)]
    have J:Q7P F (n:Int) m=z:=Q7 (Z7 (by omega) (by omega)) v;refine Z4 (decide_eq_true (by omega)) (Q7 (by omega) ?_)
    rw [Z2A]
    cases hb:Z0K (gl l i).excludes_ n with
    | false=>exact Z4 rfl J
    | true=>
     rw [hb,Bool.true_and,Bool.or_eq_false_iff] at g;refine Q5 rfl (Q2 (Z7P H (by omega) _) (Q5 g.1 (Q7 (by have:=of_decide_eq_false g.1;omega) (Q7 (w i p) ?_))))
     rw [Z2A,g.2];unfold Q7Q;exact Q5 rfl J
   .show Q1s F l (i:Int) f m (16:Int)=_
    unfold Q1s;exact Q5 (by decide) (Q7 (Z7 (by omega) (by omega)) E)
  refine (Z6W (c:=fun i=>some ((i:Int),17)) (y:=some (-1,0)) l.length (fun i=> !Y5Y l (gl l i)) (fun f i p _ g=>?_) (fun f i z p _ g v=>?_) (fun g f=>?_) (by omega)).trans ?_
  .show Q2k F l f (i:Int)=_
   unfold Q2k;unfold Y5Y at g
   rw [Bool.not_not] at g;refine Z4 (decide_eq_true (by omega)) (Q7 (by omega) ((C f i p rfl).trans ?_))
   rw [if_pos g]
  .show Q2k F l f (i:Int)=_
   unfold Q2k;unfold Y5Y at g
   rw [Bool.not_not] at g;refine Z4 (decide_eq_true (by omega)) (Q7 (by omega) ((C f i p v).trans ?_))
   rw [if_neg (by simp [g])]
  .show Q2k F l f (l.length:Int)=_
   unfold Q2k;exact Q5 (decide_eq_false (by omega)) rfl
  .cases (List.range l.length).find? fun i=> !Y5Y l (gl l i) <;> rfl
 .cases (List.range l.length).find? (Y1K d l) <;> rfl
end
end Go.Ab
end
section
end
section
namespace Go.Ab
set_option maxRecDepth 20000
noncomputable section
structure GoodL (d:Nat) (l:List Scheme):Prop where
 len:l.length<=16
 one:∀ i,i<l.length->Z0c d (gl l i)=0
 asc:∀ i,0<i->i<l.length->(gl l (i-1)).N_<(gl l i).N_
 nam:∀ i,i<l.length->((l.take i).any fun x=>sEq x.n_ (gl l i).n_)=false
 mtl:∀ i,i<l.length->Y5Y l (gl l i)=true
theorem W0N{d:Nat}{l:List Scheme}(h:GoodL d l):Y7y d l=(-1,0):=by
 obtain ⟨g,e,b,f,c⟩:=h;unfold Y7y
 rw [if_neg (by omega)];rw [List.find?_eq_none.2 fun i a=>by
  have a:=List.mem_range.1 a;unfold Y1K twB
  rw [e i a,f i a]
  by_cases h0:0<i
  .have:=b i h0 a
   rw [decide_eq_false (p:=(gl l i).N_<=(gl l (i-1)).N_) (by omega)];simp
  .rw [decide_eq_false h0];simp]
 show Y7z l=_;unfold Y7z
 rw [List.find?_eq_none.2 fun i a=>by rw [c i (List.mem_range.1 a)];simp]
theorem Y9i{d:Nat}{l:List Scheme}:(Y7y d l).2=0↔GoodL d l:=by
 unfold Y7y;constructor
 .intro h
  by_cases h16:16<l.length
  .rw [if_pos h16] at h;cases h
  rw [if_neg h16] at h
  cases hf:(List.range l.length).find? (Y1K d l) with
  | some i=>
   rw [hf] at h
   exfalso
   revert h
   show ¬ (if Z0c d (gl l i)≠0 then Z0c d (gl l i) else 6)=0;split
   .assumption
   .omega
  | none=>
   rw [hf] at h;have b:∀ i,i<l.length->Y1K d l i=false:=fun i a=>by have:=List.find?_eq_none.1 hf i (List.mem_range.2 a);simpa using this
   have h:(Y7z l).2=0:=h;unfold Y7z at h
   cases hg:(List.range l.length).find? fun i=> !Y5Y l (gl l i) with
   | some i=>rw [hg] at h;exact absurd h (by show ¬ (17:Int)=0;omega)
   | none=>
    have e:∀ i,i<l.length->Y5Y l (gl l i)=true:=fun i a=>by have:=List.find?_eq_none.1 hg i (List.mem_range.2 a);simpa using this
    refine ⟨by omega,fun i a=>?_,fun i c a=>?_,fun i a=>?_,e⟩
    .have:=b i a
     unfold Y1K at this;rw [Bool.or_eq_false_iff] at this
     simpa using this.1
    .have:=b i a
     unfold Y1K twB at this;rw [Bool.or_eq_false_iff,Bool.or_eq_false_iff] at this
     have:=this.2.1
     rw [decide_eq_true c,Bool.true_and,decide_eq_false_iff_not] at this;omega
    .have:=b i a
     unfold Y1K twB at this;rw [Bool.or_eq_false_iff,Bool.or_eq_false_iff] at this
     exact this.2.2
 .intro h
  have:=W0N h
  unfold Y7y at this;rw [this]
end
end Go.Ab
end
section
namespace Go.Ab
set_option maxRecDepth 20000
noncomputable section
end
end Go.Ab
end
section
namespace Go.Ab
set_option maxRecDepth 20000
noncomputable section
theorem Y1X{l:List Rect}(h:Val l):0<=area l/\area l<=40000000000:=by
 unfold area;have:=Y0a (l:=l.map ar1) (M:=268435456) (fun x b=>by
  obtain ⟨r,a,rfl⟩:=List.mem_map.1 b;exact Y3w (h.2.1 r a))
 rw [List.length_map] at this;have:=h.1
 omega
end
end Go.Ab
end
section
end
section
namespace Go.Ab
set_option maxRecDepth 20000
noncomputable section
theorem Z7x{F:Nat}(hF:1<=F){n:Int}(h0:0<=n)(h1:n<=9):∃ s,Q4B F n=some s/\s.size<=10:=by
 cases F with
 | zero=>omega
 | succ F=>
  refine ⟨bOf (IntKind.wrap .u8 (48+n)),?_,by unfold bOf;simp⟩;show Q6U F (Q4B F) n=_
  unfold Q6U;exact Q5 (decide_eq_false (by omega)) (Z4 (decide_eq_true (by omega)) (Q7 (Z7 (by omega) (by omega)) rfl))
theorem Y4Y{k:Int}(h0:0<=k)(h1:k<=10):1<=(1:Int)*2 ^ (min k.toNat (IntKind.bits .i64))/\(1:Int)*2 ^ (min k.toNat (IntKind.bits .i64))<=1024:=by
 have a:k=0\/k=1\/k=2\/k=3\/k=4\/k=5\/k=6\/k=7\/k=8\/k=9\/k=10:=by omega
 rcases a with rfl|rfl|rfl|rfl|rfl|rfl|rfl|rfl|rfl|rfl|rfl <;> decide
theorem Y7L{d:Nat}{a b c:Int}(h1:I64 a)(h2:I64 b):TD (d+1) ⟨a,b,c,[]⟩:=⟨h1,h2,by simp,fun k e=>(List.not_mem_nil e).elim⟩
theorem Q5a:∀ (n:Nat) {F:Nat} (_:n+1<=F) {t:Tape} (_:TOk t) (_:n<=5),∃ t' x,G5 F t (n:Int)=some (t',x)/\TOk t' /\ TD (n+1) x
 | n,0,hF,_,_,_=>by omega
 | n,F+1,hF,t,ht,hn=>by
  show ∃ t' x,Q5Y F (G5 F) t (n:Int)=some (t',x)/\_;unfold Q5Y
  have k2:∀ (u:Tape×Int) (a b:Int) (v:Tape),TOk v->I64 u.2->I64 a->Ok (K5 F (G5 F) u a b v.l_ v.at_) fun z=>TOk z.1/\TD (n+1) z.2:=fun u a b v E C D=>by
   unfold K5;exact Z7d ⟨E,Y7L C D⟩
  have g:∀ (v:Tape),TOk v->Ok ((U3 F v (1:Int) (8:Int)).bind fun z=>br (z.2==(2:Int)) (Q0P F (G5 F) z (z.2==(2:Int))) (Q0P F (G5 F) z (z.2==(3:Int)))) fun z=>TOk z.1/\TD (n+1) z.2:=fun v E=>by
   obtain ⟨A,o,G,f,P,Q⟩:=U5 (F:=F) E (lo:=1) (hi:=8) (by omega) (by omega) (by omega);have i:I64 o:=Z7 (by omega) (by omega)
   have k1:∀ b,Ok (Q0P F (G5 F) (A,o) b) fun z=>TOk z.1/\TD (n+1) z.2:=fun b=>by
    unfold Q0P;refine Q2R (fun _=>?_) (fun _=>Q2R (fun _=>?_) (fun _=>Q2R (fun _=>?_) (fun _=>Q2R (fun _=>?_) (fun _=>Q2R (fun _=>?_) (fun _=>Q2R (fun _=>?_) (fun _=>?_))))))
    .obtain ⟨e,k,d,c,j,l⟩:=Z6 (F:=F) f (n:=4) (by omega) (by omega)
     exact Q3W d (k2 _ _ _ e c i (Z7 (by omega) (by omega)))
    .obtain ⟨e,k,d,c,j,l⟩:=Z6 (F:=F) f (n:=5) (by omega) (by omega)
     have:=Y4Y j (by omega)
     exact Q3W d (Q0t ⟨Z7 (by simp only;omega) (by simp only;omega),j⟩ (k2 _ _ _ e c i (Z7 (by simp only;omega) (by simp only;omega))))
    .obtain ⟨e,k,d,c,j,l⟩:=Z6 (F:=F) f (n:=16) (by omega) (by omega)
     exact Q3W d (k2 _ _ _ e c i (Z7 (by omega) (by omega)))
    .obtain ⟨e,k,d,c,j,l⟩:=U5 (F:=F) f (lo:=2) (hi:=3) (by omega) (by omega) (by omega)
     exact Q3W d (k2 _ _ _ e c i (Z7 (by omega) (by omega)))
    .obtain ⟨e,k,d,c,j,l⟩:=U5 (F:=F) f (lo:=1) (hi:=2) (by omega) (by omega) (by omega)
     obtain ⟨B,m,q,s,I,R⟩:=Z6 (F:=F) c (n:=5) (by omega) (by omega);have:=Y4Y I (by omega)
     exact Q3W d (Q3W q (Q0t ⟨Z7 (by simp only;omega) (by simp only;omega),I⟩ (k2 _ _ _ B s i (Z7 (by simp only;omega) (by simp only;omega)))))
    .obtain ⟨e,k,d,c,j,l⟩:=U5 (F:=F) f (lo:=1) (hi:=3) (by omega) (by omega) (by omega)
     exact Q3W d (k2 _ _ _ e c i (Z7 (by omega) (by omega)))
    .exact k2 _ _ _ A f i (Z7 (by omega) (by omega))
   exact Q3W G (Q2R (fun _=>k1 _) (fun _=>k1 _))
  have p:Ok (br (decide ((0:Int)<(n:Int))) ((Q3k F t (2:Int)).bind fun z=>Q0Q F (G5 F) (n:Int) z.2 z.1.l_ z.1.at_) (Q0Q F (G5 F) (n:Int) false t.l_ t.at_)) fun z=>TOk z.1/\TD (n+1) z.2:=by
   refine Q2R (fun h=>?_) (fun _=>?_)
   .have h:=of_decide_eq_true h
    obtain ⟨m,rfl⟩:∃ m,n=m+1:=⟨n-1,by omega⟩;obtain ⟨A,b,G,f⟩:=Q9d (F:=F) ht (n:=2) (by omega) (by omega)
    refine Q3W G ?_;unfold Q0Q
    refine Q2R (fun _=>?_) (fun _=>g A f);obtain ⟨e,k,d,c,_,_⟩:=Z6 (F:=F) f (n:=3) (by omega) (by omega)
    refine Q3W d ?_;have J:((m+1:Nat):Int)-1=(m:Int):=by omega
    refine Q2R (fun _=>Q0t (Z7 (by omega) (by omega)) ?_) (fun _=>Q2R (fun _=>Q0t (Z7 (by omega) (by omega)) ?_) (fun _=>Q0t (Z7 (by omega) (by omega)) ?_))
    .rw [J]
     obtain ⟨B,x,q,s,w⟩:=Q5a m (by omega:m+1<=F) c (by omega);exact Q3W q (Q0t w.op (Z7d ⟨s,Z7 (by simp only;omega) (by simp only;omega),Z7 (by simp only;omega) (by simp only;omega),by simp,fun k H=>by rw [List.mem_singleton.1 H];exact w⟩))
    all_goals
     rw [J];obtain ⟨B,x,q,s,w⟩:=Q5a m (by omega:m+1<=F) c (by omega)
     obtain ⟨O,y,N,M,K⟩:=Q5a m (by omega:m+1<=F) s (by omega);refine Q3W q (Q0t (Z7 (by omega) (by omega)) (Q3W N (Q0t w.op (Q0t K.op (Z7d ⟨M,Z7 (by simp only;omega) (by simp only;omega),Z7 (by simp only;omega) (by simp only;omega),by simp,fun k H=>?_⟩)))))
     rcases List.mem_cons.1 H with h|h
     .rw [h];exact w
     .rw [List.mem_singleton.1 h];exact K
   .unfold Q0Q
    exact Q2R (fun h=>by cases h) (fun _=>g t ht)
  obtain ⟨r,L,C,D⟩:=p;exact ⟨r.1,r.2,L,C,D⟩
structure ST (s:Scheme):Prop where
 sd:SD 3 s
 num:0<=s.N_/\s.N_<=3
theorem ST.excl{s:Scheme}(h:ST s)(e:Int):ST { s with excludes_:=e }:=⟨⟨h.sd.cond,h.sd.name,h.sd.brl⟩,h.num⟩
theorem Y9w{l:List Scheme}(h:∀ s ∈ l,ST s){i:Nat}{x:Scheme}(hx:ST x):∀ s ∈ l.set i x,ST s:=fun s b=>by
 rcases List.mem_or_eq_of_mem_set b with a|a
 .exact h s a
 .rw [a];exact hx
structure LT (L:List Scheme):Prop where
 st:∀ s ∈ L,ST s
 len:L.length<=3
theorem Y0A{F:Nat}(hF:BIG+3<=F){t:Tape}(ht:TOk t){most:Int}(m0:0<=most)(m1:most<=3):∃ t' L,Q6B F t most=some (t',L)/\TOk t' /\ LT L/\(L=[]\/GoodL 3 L):=by
 have hB:BIG<=F:=by omega
 have a5:=hB;unfold BIG at a5
 unfold Q6B;obtain ⟨t1,n,e1,o1,O,n1⟩:=Z6 (F:=F) ht (n:=2) (by omega) (by omega)
 obtain ⟨t2,k,e2,o2,V,k1⟩:=Z6 (F:=F) o1 (n:=most+1) (by omega) (by omega)
 suffices h:Ok (Z2 (fun e (z:Int×Int×(List Int)×Int×(List Scheme))=>Q6a F e z.1 z.2.1 z.2.2.1 z.2.2.2.1 z.2.2.2.2) F (n,k,t2.l_,t2.at_,([]:List Scheme))) fun z=>TOk z.1/\LT z.2/\(z.2=[]\/GoodL 3 z.2) by
  obtain ⟨r,hr,h1,Q,K⟩:=h;exact ⟨r.1,r.2,Q2 e1 (Q7 (Z7 (by omega) (by omega)) (Q2 e2 hr)),h1,Q,K⟩
 have a1:∀ (L:List Scheme) (v:Tape),TOk v->LT L->Ok (Q5b F L v.l_ v.at_) fun z=>TOk z.1/\LT z.2/\(z.2=[]\/GoodL 3 z.2):=fun L v f A=>by
  unfold Q5b;refine Q3W (Y2B (d:=3) (by omega) hF fun s I=>(A.st s I).sd) (Q2R (fun _=>?_) (fun h=>?_))
  .exact Z7d ⟨f,⟨fun s I=>(List.not_mem_nil I).elim,by simp⟩,.inl rfl⟩
  .exact Z7d ⟨f,A,.inr (Y9i.1 (by simpa using h))⟩
 have k5:∀ (L:List Scheme) (v:Tape),TOk v->LT L->Ok (Q5Z F v.l_ v.at_ L) fun z=>TOk z.1/\LT z.2/\(z.2=[]\/GoodL 3 z.2):=fun L v f A=>by
  have b0:=A.len;unfold Q5Z
  refine Z1t (fun z:Int×(List Int)×Int×(List Scheme)=>0<=z.1/\z.1<=L.length/\TOk ⟨z.2.1,z.2.2.1⟩/\LT z.2.2.2/\z.2.2.2.length=L.length) (fun z=>L.length-z.1.toNat) (fun e z H ih=>?_) ⟨by simp,by simp,f,A,rfl⟩ (by simp;omega);obtain ⟨i,a,b,M⟩:=z
  obtain ⟨i0,i1,f,p,o⟩:=H;simp only at i0 i1 f p o
  show Ok (Q9i F L e i a b M) _;unfold Q9i
  refine Q2R (fun h=>?_) (fun _=>a1 M ⟨a,b⟩ f p);have h:=of_decide_eq_true h
  refine Q0t (by omega) ?_;refine Z1t (fun z:Int×(List Int)×Int×(List Scheme)=>0<=z.1/\z.1<=i/\TOk ⟨z.2.1,z.2.2.1⟩/\LT z.2.2.2/\z.2.2.2.length=L.length) (fun z=>i.toNat-z.1.toNat) (fun R z H G=>?_) ⟨by simp,by simpa using i0,f,p,o⟩ (by simp;omega)
  obtain ⟨j,a,b,M⟩:=z;obtain ⟨j0,j1,f,p,o⟩:=H
  simp only at j0 j1 f p o;show Ok (Q9h F i e R j a b M) _
  unfold Q9h;refine Q2R (fun Q=>?_) (fun _=>?_)
  .have Q:=of_decide_eq_true Q
   obtain ⟨P,c,W,S⟩:=Q9d (F:=F) f (n:=3) (by omega) (by omega);have k8:∀ (N:List Scheme) (v:Tape),TOk v->LT N->N.length=L.length->Ok (Q3G F j R v.l_ v.at_ N) fun z=>TOk z.1/\LT z.2/\(z.2=[]\/GoodL 3 z.2):=fun N v f Y o=>by
    unfold Q3G;exact Q0t (Z7 (by omega) (by omega)) (G _ ⟨by simp only;omega,by simp only;omega,f,Y,o⟩ (by simp only;omega))
   refine Q3W W (Q2R (fun _=>?_) (fun _=>k8 M P S p o));have hj:=p.st _ (V7 (l:=M) (i:=j.toNat) (by omega))
   have hi:=p.st _ (V7 (l:=M) (i:=i.toNat) (by omega));have p1:=Y4Y hj.num.1 (by have:=hj.num.2;omega)
   refine Q0t (by omega) (Q0t (by omega) (Q0t ⟨Z7 (by omega) (by omega),hj.num.1⟩ (Q0t (by omega) ?_)));have C:∀ s ∈ M.set i.toNat ⟨(gl M i.toNat).N_,(gl M i.toNat).n_,(gl M i.toNat).cond_,(gl M i.toNat).brackets_,(gl M i.toNat).least_,bor .i64 (gl M i.toNat).excludes_ ((1:Int)*2 ^ (min (gl M j.toNat).N_.toNat (IntKind.bits .i64))),(gl M i.toNat).needs_⟩,ST s:=Y9w p.st (hi.excl _)
   generalize Y:M.set i.toNat _=N at C ⊢;have e0:N.length=M.length:=by rw [<-Y];simp
   have D:=C _ (V7 (l:=N) (i:=i.toNat) (by omega));have U:=C _ (V7 (l:=N) (i:=j.toNat) (by omega))
   have p2:=Y4Y D.num.1 (by have:=D.num.2;omega);refine Q0t (by omega) (Q0t (by omega) (Q0t ⟨Z7 (by omega) (by omega),D.num.1⟩ (Q0t (by omega) ?_)))
   exact k8 _ P S ⟨Y9w C (U.excl _),by simp;omega⟩ (by simp;omega)
  .unfold Q9e
   exact Q0t (Z7 (by omega) (by omega)) (ih _ ⟨by simp only;omega,by simp only;omega,f,p,o⟩ (by simp only;omega))
 refine Z1t (fun z:Int×Int×(List Int)×Int×(List Scheme)=>0<=z.1/\z.1<=5/\0<=z.2.1/\TOk ⟨z.2.2.1,z.2.2.2.1⟩/\(∀ s ∈ z.2.2.2.2,ST s)/\(z.2.2.2.2.length:Int)+z.2.1<=3) (fun z=>z.2.1.toNat) (fun e z H ih=>?_) ⟨by simpa using O,by simp only;omega,by simpa using V,o2,fun s I=>(List.not_mem_nil I).elim,by simp;omega⟩ (by simp only;omega);obtain ⟨n,k,a,b,L⟩:=z
 obtain ⟨O,n1,V,f,A,o⟩:=H;simp only at O n1 V f A o
 show Ok (Q6a F e n k a b L) _;unfold Q6a
 have Z:LT L:=⟨A,by omega⟩;have kf:Ok (Q1Z F n k a b L e false) fun z=>TOk z.1/\LT z.2/\(z.2=[]\/GoodL 3 z.2):=by
  unfold Q1Z;exact Q2R (fun h=>by cases h) (fun _=>k5 L ⟨a,b⟩ f Z)
 refine Q2R (fun h=>?_) (fun _=>kf);have h:=of_decide_eq_true h
 by_cases K:n<=3
 rotate_left
 .rw [decide_eq_false K];exact kf
 rw [decide_eq_true K];unfold Q1Z
 refine Q2R (fun _=>?_) (fun h=>by cases h);obtain ⟨s,es,I⟩:=Z7x (F:=F) (by omega) O (by omega)
 obtain ⟨P,x,W,S,hx⟩:=Q5a 2 (by omega:3<=F) f (by omega);obtain ⟨t4,y,e4,o4,y0,y1⟩:=Z6 (F:=F) S (n:=4) (by omega) (by omega)
 obtain ⟨t5,c,e5,o5⟩:=Q9d (F:=F) o4 (n:=2) (by omega) (by omega);obtain ⟨t6,m,e6,o6,m0,m1⟩:=U5 (F:=F) o5 (lo:=1) (hi:=3) (by omega) (by omega) (by omega)
 have J:ByteArray.size (ByteArray.mk #[115])=1:=rfl;refine Q3W es (Q0t (by rw [J];unfold LIM;omega) (Q3W W (Q3W e4 (Q3W e5 (Q3W e6 ?_)))))
 refine Z1t (fun z:Int×Int×(List Int)×Int×(List Bracket)=>0<=z.1/\z.1+40*z.2.1<=120/\0<=z.2.1/\TOk ⟨z.2.2.1,z.2.2.2.1⟩/\(z.2.2.2.2.length:Int)+z.2.1<=3) (fun z=>z.2.1.toNat) (fun R z H G=>?_) ⟨by simp,by simp only;omega,by simp only;omega,o6,by simp;omega⟩ (by simp only;omega);obtain ⟨u,q,a2,b2,B⟩:=z
 obtain ⟨u0,u1,q0,E,X⟩:=H;simp only at u0 u1 q0 E X
 show Ok (Q9j F n k L s (P,x) (t4,y) (t5,c) e R u q a2 b2 B) _;unfold Q9j
 refine Q2R (fun h4=>?_) (fun _=>?_)
 .have h4:=of_decide_eq_true h4
  obtain ⟨t7,w,e7,o7,w0,w1⟩:=U5 (F:=F) E (lo:=1) (hi:=40) (by omega) (by omega) (by omega);obtain ⟨t8,g,e8,o8,g0,g1⟩:=Z6 (F:=F) o7 (n:=3000) (by omega) (by omega)
  exact Q3W e7 (Q0t (Z7 (by simp only;omega) (by simp only;omega)) (Q3W e8 (Q0t (by simp only [List.length_cons,List.length_nil];unfold LIM;omega) (Q0t (Z7 (by omega) (by omega)) (G _ ⟨by simp only;omega,by simp only;omega,by simp only;omega,o8,by simp;omega⟩ (by simp only;omega))))))
 .unfold Q9g
  obtain ⟨t9,w,e9,o9,w0,w1⟩:=U5 (F:=F) E (lo:=1) (hi:=2) (by omega) (by omega) (by omega);refine Q0t (by simp only [List.length_cons,List.length_nil];unfold LIM;omega) (Q3W e9 (Q0t (Z7 (by simp only;omega) (by simp only;omega)) ?_))
  unfold Q9f;refine Q0t (Z7 (by omega) (by omega)) (ih _ ⟨by simp only;omega,by simp only;omega,by simp only;omega,o9,fun s' a4=>?_,by simp;omega⟩ (by simp only;omega))
  rcases List.mem_append.1 a4 with T|T
  .exact A s' T
  .rw [List.mem_singleton.1 T]
   refine ⟨⟨hx,?_,by simp only;omega⟩,O,K⟩;show ((ByteArray.mk #[115])++s).size<=_
   rw [ByteArray.size_append,J];omega
end
end Go.Ab
end
section
namespace Go.Ab
set_option maxRecDepth 20000
noncomputable section
structure WT (w:World):Prop where
 yr:0<=w.y_/\w.y_<=4
 crops:CropT w.crops_
 his:HisT (w.crops_.length:Nat) w.history_
 hlen:w.history_.length<=5
 zon:LayT w.zones_
 zlen:w.zones_.length<=3
 day:0<=w.day_/\w.day_<=24
 most:0<=w.most_/\w.most_<=300
theorem HisT.few5{K:Int}{H:List Rg_}(h:HisT K H)(hl:H.length<=5):FewR H:=⟨h.hl,fun y p i a=>by
 have:=W1u h y p i (by omega)
 omega⟩
theorem Box.up{n m:Int}{l:List Rect}(h:Box n l)(hm:n<=m):Box m l:=fun r a=>by
 have:=h r a
 omega
theorem WT.lb{w:World}(h:WT w):LB 9 w.zones_:=h.zon.lb
theorem WT.ev{w:World}(h:WT w){A:List Rect}(hA:TR A){c:Int}(hc:0<=c/\c<(w.crops_.length:Nat)):EV w.y_ w.crops_ w.history_ w.zones_ c A:=by
 have b:=h.crops.one c.toNat (by omega);exact ⟨hA,hc,b.2.1,⟨b.2.2.2.1,b.2.2.2.2⟩,h.his.few5 h.hlen,fun f a=>(h.his.box f a).up (by omega),fun f a=>⟨((Q9b f).1 (h.his.hl.one f a)).2.2.1,h.his.crop f a⟩,by have:=h.yr;omega,⟨h.zon.vl,fun f a=>(h.lb.box f a).up (by omega),by omega⟩⟩
theorem WT.chk{w:World}(h:WT w){A:List Rect}(hA:TR A){c:Int}(hc:0<=c/\c<(w.crops_.length:Nat)){e:Nat}{t:Term}(ht:Q8C e t=0):Z7H e t w.crops_ c w.history_ w.y_ w.zones_ w.day_ A=0:=by
 have g:=h.yr;have f:=h.day
 have d:∀ k:Int,0<=k->k<(w.crops_.length:Nat)->Q7C w.crops_ k=false:=fun k j i=>by
  unfold Q7C;rw [decide_eq_false (by omega),decide_eq_false (by omega)];rfl
 have a:(w.history_.any fun r=>Q7C w.crops_ r.c_)=false:=by
  rw [List.any_eq_false];intro r b
  rw [d _ ((Q9b r).1 (h.his.hl.one r b)).2.2.1 (h.his.crop r b)];exact Bool.noConfusion
 unfold Z7H;rw [if_neg (by rw [ht];simp),if_neg (by rw [h.crops.crC];simp),if_neg (by rw [d c hc.1 hc.2,a];simp),if_neg (by rw [(Z4a _).2 h.his.hl];simp),if_neg (by omega),if_neg (by rw [(Q9r _).2 h.zon.vl];simp),if_neg (by omega),if_pos ((Q0M _).2 hA.val)]
def lnT(w:World)(x:Line)(parcel:Re_)(s:Scheme):TS:=
 if Z0K x.s_ s.N_=false then Z9T x.g_.t_ false
 else Z8y x.g_.t_ (evS w.y_ w.crops_ w.history_ w.zones_ w.day_ x.c_ x.g_.t_ 3 s.cond_) (elS w.zones_ w.day_ w.most_ parcel.t_)
theorem W2G(w:World)(x:Line)(parcel:Re_)(s:Scheme):TIn x.g_.t_ (lnT w x parcel s):=by
 unfold lnT;split
 .exact Y0U _ _
 .exact W0e (Y1i _ _) (Y3f _ _ _ _)
theorem W0c{w:World}{x:Line}{parcel:Re_}{s:Scheme}(u v:Int)(h1:(lnT w x parcel s).Y u v=true)(h2:(lnT w x parcel s).N u v=true):False:=by
 unfold lnT at h1 h2;split at h1
 .cases h1
 .rename_i q
  rw [if_neg q] at h2;simp only [Z8y] at h1 h2
  rw [h1] at h2;simp at h2
theorem W2w{A:List Rect}(h:Val A):(Z9T A false).t3 A=⟨⟨[]⟩,⟨A⟩,⟨[]⟩⟩:=by
 unfold TS.t3;rw [Y8z,Y1I]
 show Truth.mk ⟨cn fun _ _=>false⟩ ⟨cn (inR A)⟩ ⟨[]⟩=_;rw [Y1I,Y7w h]
theorem Y6a{F n:Nat}(hF:BIG+3<=F){w:World}{x:Line}(hE:EV w.y_ w.crops_ w.history_ w.zones_ x.c_ x.g_.t_){s:Scheme}(hk:Z7H 3 s.cond_ w.crops_ x.c_ w.history_ w.y_ w.zones_ w.day_ x.g_.t_=0)(hl:w.history_.length<=1000000)(hn:NmS w.crops_)(hL:LB n w.zones_)(d1:0<=w.day_)(d2:w.day_<=36864)(m1:0<=w.most_)(m2:w.most_<=268435456)(hs:SD 3 s)(h1:Z0c 3 s=0){parcel:Re_}(hp:TR parcel.t_)(hsub:∀ u v,inR x.g_.t_ u v=true->inR parcel.t_ u v=true):
  Q1U F x parcel s w=some ((lnT w x parcel s).t3 x.g_.t_,0):=by
 have d:BIG<=F:=by omega
 have b:=hE.tr;have c:=Z3v d hL d1 d2 hp m1 m2
 rw [Y0N (e:=3) (by omega) hF hs hl hn (fun _=>hE) c fun _=>W0A hp _ _];have hE:(Z8h 3 s.cond_ x w.y_ w.crops_ w.history_ w.zones_ w.day_).2=0:=by
  unfold Z8h;rw [if_neg (by rw [hk];simp)]
 have a:Z5y x.g_ parcel=true:=(Z6S b.val hp.val).2 hsub;unfold W0d
 rw [if_neg (by rw [(Q0M _).2 hp.val];simp),if_neg (by rw [hE];simp),if_neg (by rw [h1];simp),if_neg (by simp),if_neg (by rw [a];simp)];unfold lnT
 by_cases q:Z0K x.s_ s.N_=false
 .rw [if_pos q,if_pos q,W2w b.val]
 .rw [if_neg q,if_neg q]
  show some ((Z8y _ _ (inR (cn (elS w.zones_ w.day_ w.most_ parcel.t_)))).t3 _,(0:Int))=_;rw [Q0J (Y3f _ _ _ _)]
theorem Y8X{F:Nat}(hF:BIG+3<=F){w:World}(hw:WT w){x:Line}(hA:TR x.g_.t_)(hc:0<=x.c_/\x.c_<(w.crops_.length:Nat)){s:Scheme}(hs:SD 3 s)(h1:Z0c 3 s=0){parcel:Re_}(hp:TR parcel.t_)(hsub:∀ u v,inR x.g_.t_ u v=true->inR parcel.t_ u v=true):
  Q1U F x parcel s w=some ((lnT w x parcel s).t3 x.g_.t_,0):=by
 have a:=hw.day;have b:=hw.most
 have c:=hw.hlen;exact Y6a hF (hw.ev hA hc) (hw.chk hA hc (Y4o h1).2.2.2.2.2.1) (by omega) hw.crops.nm hw.lb a.1 (by omega) b.1 (by omega) hs h1 hp hsub
end
end Go.Ab
end
section
namespace Go.Ab
set_option maxRecDepth 20000
noncomputable section
theorem Y2X{F:Nat}{a n:Int}(h0:0<=a)(h1:a<n):Z2s F a n=some a:=by
 unfold Z2s;rw [Int.tmod_eq_of_lt h0 h1]
 exact Q5 (decide_eq_false (by omega)) (Q7 (by omega) (Q5 (decide_eq_false (by omega)) rfl))
structure PrT (rs:List Re_) (l:List Line) (ps:List Re_):Prop where
 len:ps.length=l.length
 at_:∀ i,i<l.length->gl ps i=gl rs ((gl l i).p_-1).toNat
theorem Y1F{F:Nat}(hF:BIG<=F){K:Int}{rs:List Re_}(hp:ParT rs){l:List Line}(hl:LinT K rs l)(h3:l.length<=100):∃ ps,Q8q F l rs=some ps/\PrT rs l ps:=by
 unfold BIG at hF;have q:=hp.len
 unfold Q8q
 suffices h:Ok (Z2 (fun b (z:Int×(List Re_))=>Q6X F l rs b z.1 z.2) F ((0:Int),([]:List Re_))) fun ps=>PrT rs l ps by
  obtain ⟨ps,e,n⟩:=h;exact ⟨ps,e,n⟩
 refine Z1t (fun z:Int×List Re_=>∃ i:Nat,z.1=i/\i<=l.length/\z.2.length=i/\∀ k,k<i->gl z.2 k=gl rs ((gl l k).p_-1).toNat) (fun z=>l.length-z.1.toNat) (fun b z j m=>?_) ⟨0,rfl,Nat.zero_le _,rfl,fun k f=>absurd f (Nat.not_lt_zero k)⟩ (by simp;omega);obtain ⟨a,ps⟩:=z
 obtain ⟨i,e,o,c,d⟩:=j;simp only at e c d
 subst e;show Ok (Q6X F l rs b (i:Int) ps) _
 unfold Q6X;refine Q2R (fun h=>?_) (fun h=>?_)
 .have h:i<l.length:=by have:=of_decide_eq_true h;omega
  have p:=(hl.one _ (V7 h)).par;rw [Int.toNat_natCast]
  refine Q0t (by omega) (Q0t (Z7 (by omega) (by omega)) (Q3W (Y2X (by omega) (by omega)) (Q0t (by omega) (Q0t (by simp only [List.length_cons,List.length_nil];unfold LIM;omega) (Q0t (Z7 (by omega) (by omega)) (m _ ⟨i+1,by simp,h,by simp [c],fun k f=>?_⟩ (by simp only;omega)))))));rcases Nat.lt_or_ge k i with g|g
  .rw [W0s _ _ (by omega)];exact d k g
  .have:k=ps.length:=by omega
   subst this;rw [W0r,c]
 .have h:i=l.length:=by have:=of_decide_eq_false h;omega
  unfold Z0G;exact Z7d ⟨by omega,fun k f=>d k (by omega)⟩
theorem Z8A{F:Nat}(hF:BIG<=F){t:Tape}(ht:TOk t){cs:List Crop}(hcs:CropT cs):∃ t' w,Q4q F t cs=some (t',w)/\TOk t' /\ WT w/\w.crops_=cs/\w.most_<=4:=by
 obtain ⟨x,y,k,e,s,C⟩:=Z6 (F:=F) ht (n:=5) (by omega) (by omega);obtain ⟨D,H,j,q,b,u⟩:=Z5r hF e hcs (most:=5) (by omega) (by omega)
 obtain ⟨v,Z,l,o,c,f⟩:=Z8C hF q (most:=3) (by omega) (by omega);obtain ⟨z,d,p,g,r,B⟩:=Z6 (F:=F) o (n:=25) (by omega) (by omega)
 obtain ⟨h,m,i,a,A,E⟩:=Z6 (F:=F) g (n:=5) (by omega) (by omega);refine ⟨h,⟨y,cs,H,Z,d,m⟩,?_,a,⟨by simp only;omega,hcs,b,by simp only;omega,c,by simp only;omega,by simp only;omega,by simp only;omega⟩,rfl,by simp only;omega⟩
 unfold Q4q;exact Q2 k (Q2 j (Q2 l (Q2 p (Q2 i rfl))))
def Y4d:Term:=⟨1,0,0,[]⟩
theorem W1y(d:Nat):TD (d+1) Y4d:=Y7L (Z7 (by omega) (by omega)) (Z7 (by omega) (by omega))
def exA:List Rect:=[⟨0,0,10,1⟩]
def exZ:List Rect:=[⟨3,0,5,1⟩]
def Z5s:Line:=⟨1,⟨exA⟩,0,1⟩
def exS:Scheme:=⟨0,ByteArray.mk #[115],Y4d,[⟨10,1⟩],0,0,false⟩
def exF:A2_:=⟨1,0,0,9,⟨exZ⟩⟩
def exW:World:=⟨0,[⟨ByteArray.mk #[114,121,101],0,0⟩],[],[exF],0,0⟩
theorem Y8l:Z0K 1 0=true/\Z0K 0 0=false:=by decide +kernel
theorem W2h:crC exW.crops_=0:=by decide +kernel
theorem W2j:Z0c 3 exS=0:=by
 have b:Q2S (ByteArray.mk #[115])=true:=by decide +kernel
 have a:brB [⟨10,1⟩]=true:=by decide +kernel
 show Z0c 3 ⟨0,ByteArray.mk #[115],Y4d,[⟨10,1⟩],0,0,false⟩=0;unfold Z0c
 rw [show Q8C 3 Y4d=0 from Y2k 2,if_neg (by simp),if_neg (by rw [b];simp),if_neg (by simp),if_neg (by rw [a];simp [Y8l.2])]
theorem Y8m:Val exA:=val_one (r:=⟨0,0,10,1⟩) (by decide)
theorem Y8k:Val exZ:=val_one (r:=⟨3,0,5,1⟩) (by decide)
theorem W3h(u v:Int):inR exA u v=true↔0<=u/\u<10/\0<=v/\v<1:=by
 unfold exA;rw [J8]
 constructor
 .rintro ⟨r,a,h⟩
  rw [List.mem_singleton] at a;subst a
  rw [J0] at h;simp only at h
  omega
 .intro h
  exact ⟨_,List.mem_singleton.2 rfl,(J0 _ _ _).2 (by simp only;omega)⟩
theorem W2k:Box (10:Nat) exA:=fun r a=>by
 unfold exA at a;rw [List.mem_singleton] at a
 subst a;decide
theorem TR.of_box{A:List Rect}(hv:Val A){n:Nat}(hn:n<=15)(hb:Box n A):TR A:=⟨hv,fun b a=>(Y4M b hn fun x y h=>hb.in (a x y h)).1⟩
theorem Y3i:TR exA:=TR.of_box Y8m (by omega) W2k
theorem Y5l:LB 10 exW.zones_:=by
 refine ⟨⟨by simp [exW],fun f a=>?_,by simp [exW]⟩,fun f a=>?_,by omega⟩
 .have a:f=exF:=List.mem_singleton.1 a
  subst a;rw [Z1z]
  exact ⟨by decide,by decide,by decide,by decide,by decide,by decide,by decide,by decide,Y8k⟩
 .have a:f=exF:=List.mem_singleton.1 a
  subst a;intro r b
  have b:r=⟨3,0,5,1⟩:=List.mem_singleton.1 b;subst b;decide
theorem W3g:EV exW.y_ exW.crops_ exW.history_ exW.zones_ Z5s.c_ Z5s.g_.t_:=
 ⟨Y3i,by decide,by decide,by decide,⟨HL.nil,fun y p i b=>absurd b (Nat.not_lt_zero i)⟩,fun f a=>(List.not_mem_nil a).elim,fun f a=>(List.not_mem_nil a).elim,by decide,⟨Y5l.vl,fun f a=>(Y5l.box f a).up (by omega),by omega⟩⟩
theorem W2i:Z7H 3 exS.cond_ exW.crops_ Z5s.c_ exW.history_ exW.y_ exW.zones_ exW.day_ Z5s.g_.t_=0:=by
 have d:¬ (exW.y_<0\/100<exW.y_):=by decide
 have c:¬ (exW.day_<0\/36864<exW.day_):=by decide
 have a:(Q7C exW.crops_ Z5s.c_||exW.history_.any fun r=>Q7C exW.crops_ r.c_)=false:=by decide
 have b:Q8C 3 exS.cond_=0:=Y2k 2;unfold Z7H
 rw [if_neg (by rw [b];simp),if_neg (by rw [W2h];simp),if_neg (by rw [a];simp),if_neg (by rw [show Q9q exW.history_=0 from (Z4a _).2 HL.nil];simp),if_neg d,if_neg (by rw [(Q9r _).2 Y5l.vl];simp),if_neg c,if_pos ((Q0M Z5s.g_.t_).2 Y8m)]
theorem Y2W{F:Nat}(hF:BIG+3<=F):Z2S F=some true:=by
 have q:BIG<=F:=by omega
 have G:=Y6a (n:=10) hF (w:=exW) (x:=Z5s) W3g (s:=exS) W2i (by decide) (fun x o=>by
  have o:x=⟨ByteArray.mk #[114,121,101],0,0⟩:=List.mem_singleton.1 o;subst o;decide) Y5l (by decide) (by decide) (by decide) (by decide) ⟨W1y 2,by show (1:Nat)<=_;omega,by simp [exS]⟩ W2j (parcel:=⟨exA⟩) Y3i fun u v h=>h
 have b:TIn exA (lnT exW Z5s ⟨exA⟩ exS):=W2G exW Z5s ⟨exA⟩ exS;have a:lnT exW Z5s ⟨exA⟩ exS=Z8y exA (evS exW.y_ exW.crops_ exW.history_ exW.zones_ exW.day_ Z5s.c_ exA 3 Y4d) (elS exW.zones_ exW.day_ exW.most_ exA):=by
  unfold lnT;rw [if_neg (by rw [show Z0K Z5s.s_ exS.N_=Z0K 1 0 from rfl,Y8l.1];simp)];rfl
 have e:evS exW.y_ exW.crops_ exW.history_ exW.zones_ exW.day_ Z5s.c_ exA 3 Y4d=Z9T exA true:=by
  rfl
 have i:W4 [exF] 0 (zp 0)=exZ:=by decide +kernel
 have g:W4 [exF] 0 (zp 1)=[]:=by decide +kernel
 have j:Q1K [exF] 0 exA=[]:=by
  unfold Q1K;rw [g]
  exact Y1I
 have m:Q7w ([]:List Rect)=[]:=by decide +kernel
 have f:Z1I [exF] 0 0 exA=[]:=by
  unfold Z1I;rw [j,m];rfl
 have c:∀ u v,elS exW.zones_ exW.day_ exW.most_ exA u v=(inR exA u v && !inR exZ u v):=fun u v=>by
  show elS [exF] 0 0 exA u v=_;unfold elS
  rw [i,f];show (_ && !(_||false))=_
  rw [Bool.or_false]
 have d:∀ u v,inR exZ u v=true->inR exA u v=true:=fun u v h=>by
  rw [W3h];obtain ⟨r,l,h⟩:=(J8 _ _ _).1 h
  have l:r=⟨3,0,5,1⟩:=List.mem_singleton.1 l;subst l
  rw [J0] at h;simp only at h
  omega
 have D:(lnT exW Z5s ⟨exA⟩ exS).Y=fun u v=>inR exA u v && !inR exZ u v:=by
  rw [a,e];funext u v
  simp only [Z8y,Z9T,if_true];rw [c]
  cases inR exA u v <;> cases inR exZ u v <;> rfl
 have p:(lnT exW Z5s ⟨exA⟩ exS).N=inR exZ:=by
  rw [a,e];funext u v
  simp only [Z8y,Y8z,Z9T,if_true];rw [c]
  have:=d u v
  cases hA:inR exA u v <;> cases hZ:inR exZ u v <;> simp_all
 have k:area exA=10:=by decide +kernel
 have z:area exZ=2:=by decide +kernel
 have t:area (cn (lnT exW Z5s ⟨exA⟩ exS).N)=2:=by rw [p,Y7w Y8k,z]
 have H:area (cn (lnT exW Z5s ⟨exA⟩ exS).Y)=8:=by
  have B:=Y5y Y3i b fun x y A E=>W0c x y A E
  have C:(lnT exW Z5s ⟨exA⟩ exS).O exA=fun _ _=>false:=by
   funext u v
   unfold TS.O;rw [D,p]
   show ((inR exA u v && !(inR exA u v && !inR exZ u v)) && !inR exZ u v)=false
   cases inR exA u v <;> cases inR exZ u v <;> rfl
  rw [C,Y1I,t,k] at B;have:area []=0:=rfl
  omega
 unfold Z2S;refine Q2 G ?_
 refine Z4 rfl (Q2 (Q3e q (b.vY Y3i)) (Z4 (by simp only [TS.t3];rw [H];rfl) (Q2 (Q3e q (b.vN Y3i)) ?_)));simp only [TS.t3]
 rw [t];rfl
end
end Go.Ab
end
