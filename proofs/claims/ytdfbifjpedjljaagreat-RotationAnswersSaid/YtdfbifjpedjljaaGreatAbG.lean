/- Abstract states over the model. -/
import Derived.Test.YtdfbifjpedjljaaGreatLwA
import Derived.Test.YtdfbifjpedjljaaGreatPuB
set_option linter.unusedVariables false
set_option linter.unusedSimpArgs false
section
namespace Go.Ab
set_option maxRecDepth 20000
noncomputable section
end
end Go.Ab
end
section
namespace Go.Ab
set_option maxRecDepth 20000
noncomputable section
theorem K5.half2 {l:List Rect} (hc:K5 l) {x0:Int} {w h:Nat} (hb:∀ r ∈ l,x0≤r.L_∧r.R_≤x0+w∧0≤r.w_∧r.H_≤h):l.length≤h*((w+1) / 2):=by
 obtain ⟨b,hB,rfl⟩:=hc;have hne:∀ c ∈ b,∃ s,s ∈ c.v:=fun c hc=>List.exists_mem_of_ne_nil _ (hB.ne c hc)
 have hmem:∀ c ∈ b,∀ s ∈ c.v,(⟨s.L_,c.lo,s.R_,c.hi⟩:Rect) ∈ flat b:=fun c hc s hs=>List.mem_flatMap.2 ⟨c,hc,List.mem_map.2 ⟨s,hs,rfl⟩⟩
 have h1:(b.length:Int)≤h-0:=hB.runs.len (by omega) fun c hc=>by
  obtain ⟨s,hs⟩:=hne c hc;have:=hb _ (hmem c hc s hs)
  simp only at this;omega
 have h2:∀ c ∈ b,c.v.length≤(w+1) / 2:=fun c hc=>by
  have:=(hB.sp c hc).half (n:=x0+w) (a:=x0) (by omega) fun s hs=>by
   have:=hb _ (hmem c hc s hs)
   simp only at this ⊢;omega
  omega
 have h5:=Z8S h2;have h6:b.length*((w+1) / 2)≤h*((w+1) / 2):=Nat.mul_le_mul_right _ (by omega)
 omega
def PlB (d:Int) (S:Int→Int→Bool):Prop:=∀ u v,S u v=true→d≤u∧u<d+9∧0≤v∧v<9
theorem Y6i {S:Int→Int→Bool} (hf:Fin S) {d:Int} (h0:0≤d∧d≤100) (hb:PlB d S):Val (cn S)∧∀ r ∈ cn S,d≤r.L_∧r.R_≤d+9∧0≤r.w_∧r.H_≤9:=by
 have hc:=K5.cn hf;have hr:∀ r ∈ cn S,d≤r.L_∧r.R_≤d+9∧0≤r.w_∧r.H_≤9:=by
  intro r hr;obtain ⟨h1,h2⟩:=hc.pos hr
  have a:=hb r.L_ r.w_ (by rw [← Q0N hf];exact Z4K hr ((Q1a _ _ _).2 (by omega)));have b:=hb (r.R_-1) (r.H_-1) (by rw [← Q0N hf];exact Z4K hr ((Q1a _ _ _).2 (by omega)))
  omega
 have hl:=hc.half2 (x0:=d) (w:=9) (h:=9) fun r h=>by have:=hr r h;omega
 refine ⟨⟨by omega,fun r h=>?_,hc⟩,hr⟩;obtain ⟨h1,h2⟩:=hc.pos h
 have:=hr r h
 rw [U8];omega
theorem Z3e (F:Nat) (t:Tape) (n m:Int):Q2z F t n m=Q9m F t n m:=rfl
def shR (d:Int) (r:Rect):Rect:=⟨r.L_+d,r.w_,r.R_+d,r.H_⟩
theorem Y3B {α:Type} [Emb α] (l:List α) (i j:Nat) (x:α) (hj:j<l.length):gl (l.set i x) j=if i=j then x else gl l j:=by
 unfold gl;rw [List.getD_eq_getElem?_getD,List.getElem?_set]
 by_cases h:i=j
 ·subst h;rw [if_pos rfl,if_pos rfl,if_pos hj];rfl
 ·rw [if_neg h,if_neg h, ← List.getD_eq_getElem?_getD]
theorem Q9o {α:Type} [Emb α] (l:List α) (i:Nat) (h:i<l.length):gl l i=l[i]:=by
 unfold gl;rw [List.getD_eq_getElem?_getD,List.getElem?_eq_getElem h];rfl
theorem Y5K {α:Type} [Emb α] {l m:List α} (h:l.length=m.length) (hg:∀ i,i<l.length→gl l i=gl m i):l=m:=by
 apply List.ext_getElem h;intro i h1 h2
 have:=hg i h1
 rwa [Q9o l i h1,Q9o m i h2] at this
theorem Y1z {α β:Type} [Emb α] [Emb β] (f:α→β) (l:List α) (i:Nat) (h:i<l.length):gl (l.map f) i=f (gl l i):=by
 rw [Q9o _ i (by simpa using h),Q9o l i h];simp
structure ParT (rs:List Re_):Prop where
 len:1≤rs.length∧rs.length≤3
 one:∀ i,i<rs.length→∃ w h:Int,2≤w∧w≤9∧2≤h∧h≤9∧gl rs i=⟨[⟨10*i,0,10*i+w,h⟩]⟩
theorem ParT.pl {rs:List Re_} (h:ParT rs) {i:Nat} (hi:i<rs.length):PlB (10*i) (inR (gl rs i).t_):=by
 intro u v huv;obtain ⟨w,k,h1,h2,h3,h4,h5⟩:=h.one i hi
 rw [h5,Q5C] at huv;obtain ⟨r,hr,hh⟩:=huv
 rw [List.mem_singleton] at hr;subst hr
 rw [Q1a] at hh;simp only at hh
 omega
theorem ParT.val {rs:List Re_} (h:ParT rs) {i:Nat} (hi:i<rs.length):Val (gl rs i).t_:=by
 obtain ⟨w,k,h1,h2,h3,h4,h5⟩:=h.one i hi;have:=h.len
 rw [h5];exact val_one ((U8 _).2 (by simp only;omega))
structure LinO (K:Int) (rs:List Re_) (x:Line):Prop where
 crop:0≤x.c_∧x.c_<K
 par:1≤x.p_∧x.p_≤rs.length
 sch:1≤x.s_∧x.s_≤15
 val:Val x.g_.t_
 ne:x.g_.t_.length≠0
 sub:∀ u v,inR x.g_.t_ u v=true→inR (gl rs (x.p_-1).toNat).t_ u v=true
def Y5v (a b:Line):Prop:=∀ u v,inR a.g_.t_ u v=true→inR b.g_.t_ u v=true→False
structure LinT (K:Int) (rs:List Re_) (l:List Line):Prop where
 one:∀ x ∈ l,LinO K rs x
 apart:l.Pairwise Y5v
theorem LinT.nil (K:Int) (rs:List Re_):LinT K rs []:=⟨fun x hx=>by simp at hx,.nil⟩
theorem Z3Z {F:Nat} (hF:BIG≤F) {t:Tape} (ht:TOk t) {cs:List Crop} (hcs:1≤cs.length∧cs.length≤100) {most:Int} (m1:0≤most) (m2:most≤10) :
  ∃ t' l ns rs,Q5B F t cs most=some (t',l,ns,rs)∧TOk t' ∧ ParT rs∧LinT (cs.length:Nat) rs l∧(l.length:Int)≤most:=by
 have hF':=hF;unfold BIG at hF
 obtain ⟨t1,c,e1,o1,c1,c2⟩:=Q2V (F:=F) ht (lo:=1) (hi:=3) (by omega) (by omega) (by omega);have lines:∀ (rs:List Re_) (ns:List Int) (tl:List Int) (ta:Int),ParT rs→ns.length=rs.length→TOk ⟨tl,ta⟩→∃ t' l,Q1s F cs most tl ta ns rs=some (t',l,ns,rs)∧TOk t' ∧ LinT (cs.length:Nat) rs l∧(l.length:Int)≤most:=by
  intro rs ns tl ta hp hns hT;have hrl:=hp.len
  obtain ⟨t2,k,e2,o2,k1,k2⟩:=W3 (F:=F) hT (n:=most+1) (by omega) (by omega);have key:∀ (k f:Nat) (t:Tape) (l:List Line),k<f→(l.length:Int)+k≤most→TOk t→LinT (cs.length:Nat) rs l →
    ∃ t' l',Z4 (fun again (z:Int×List Int×Int×List Line)=>K7 F cs ns rs again z.1 z.2.1 z.2.2.1 z.2.2.2) f ((k:Int),t.l_,t.at_,l)=some (t',l',ns,rs)∧TOk t' ∧ LinT (cs.length:Nat) rs l' ∧ (l'.length:Int)≤most:=by
   intro k
   induction k with
   | zero=>
    intro f t l hf hlm ht hl
    cases f with
    | zero=>omega
    | succ f=>exact ⟨⟨t.l_,t.at_⟩,l,rfl,ht,hl,by omega⟩
   | succ k ih=>
    intro f t l hf hlm ht hl
    cases f with
    | zero=>omega
    | succ f=>
     obtain ⟨ta,p,ea,oa,p1,p2⟩:=W3 (F:=F) ht (n:=(ns.length:Nat)) (by omega) (by omega);obtain ⟨tb,a,eb,ob,ha,hne⟩:=Z4J hF' oa (n:=9) (most:=2) (by omega) (by omega) (by omega) (by omega)
     obtain ⟨tc,c,ec,oc,c1,c2⟩:=W3 (F:=F) ob (n:=(cs.length:Nat)) (by omega) (by omega);obtain ⟨td,s,ed,od,s1,s2⟩:=W3 (F:=F) oc (n:=15) (by omega) (by omega)
     have hpr:p.toNat<rs.length:=by omega
     have hal:=ha.val.1
     let S:Nat→Int→Int→Bool:=fun n u v=>(inR (a.t_.map (shR (10*p))) u v&&inR (gl rs p.toNat).t_ u v) && !((l.take n).any fun x=>inR x.g_.t_ u v)
     have hSp:∀ n,PlB (10*p) (S n):=fun n u v h=>by
      have h1:inR (gl rs p.toNat).t_ u v=true:=by
       simp only [S,Bool.and_eq_true] at h;exact h.1.2
      have:=hp.pl hpr u v h1
      omega
     have hS0:S 0=fun u v=>y3 (inR (a.t_.map (shR (10*p))) u v) (inR (gl rs p.toNat).t_ u v) 2:=by
      funext u v
      simp [S,y3]
     have hbx:∀ r ∈ a.t_,0≤r.L_∧r.L_<r.R_∧r.R_≤9∧0≤r.w_∧r.w_<r.H_∧r.H_≤9:=ha.box;have hpv:∀ r ∈ a.t_.map (shR (10*p)),Q0l r=true:=fun r hr=>by
      obtain ⟨q,hq,rfl⟩:=List.mem_map.1 hr;have:=hbx q hq
      rw [U8];simp only [shR]
      omega
     have hfin:∀ n,n≤l.length→Fin (S n):=by
      intro n
      induction n with
      | zero=>intro _;rw [hS0];exact Q6M _ _ 2
      | succ n ihn=>
       intro hn;have h0:=ihn (by omega)
       have e:S (n+1)=fun u v=>y3 (inR (cn (S n)) u v) (inR (gl l n).g_.t_ u v) 3:=by
        funext u v
        rw [Q0N h0];simp only [S,y3]
        rw [J9 (by omega),List.any_append];simp [Bool.and_assoc]
       rw [e];exact Q6M _ _ 3
     have hstep:∀ n,n<l.length→(cn fun u v=>y3 (inR (cn (S n)) u v) (inR (gl l n).g_.t_ u v) 3)=cn (S (n+1)):=fun n hn=>by
      congr 1
      funext u v
      rw [Q0N (hfin n (by omega))];simp only [S,y3]
      rw [J9 hn,List.any_append];simp [Bool.and_assoc]
     have hval:∀ n,n≤l.length→Val (cn (S n)):=fun n hn=>(Y6i (hfin n hn) (by omega) (hSp n)).1
     have rest:∃ t' l',Q1r F cs rs ((k+1:Nat):Int) l (ta,p) (tb,a) (Z4 (fun again (z:Int×List Int×Int×List Line)=>K7 F cs ns rs again z.1 z.2.1 z.2.2.1 z.2.2.2) f) (a.t_.map (shR (10*p)))=some (t',l',ns,rs)∧TOk t' ∧ LinT (cs.length:Nat) rs l' ∧ (l'.length:Int)≤most:=by
      have fin:∃ t' l',Q0w F cs ((k+1:Nat):Int) l (ta,p) (tb,a) (Z4 (fun again (z:Int×List Int×Int×List Line)=>K7 F cs ns rs again z.1 z.2.1 z.2.2.1 z.2.2.2) f) (cn (S l.length))=some (t',l',ns,rs)∧TOk t' ∧ LinT (cs.length:Nat) rs l' ∧ (l'.length:Int)≤most:=by
       have ek:((k+1:Nat):Int)-1=(k:Int):=by omega
       by_cases hz:(cn (S l.length)).length=0
       ·obtain ⟨t2,l2,q1,q2,q3⟩:=ih f tb l (by omega) (by omega) ob hl
        refine ⟨t2,l2,?_,q2,q3⟩;unfold Q0w
        refine Z8 (by simp [hz]) ?_;unfold Q0v
        simp only
        rw [ek];exact Q7 (Z5 (by omega) (by omega)) q1
       ·have hx:LinO (cs.length:Nat) rs ⟨p+1,⟨cn (S l.length)⟩,c,1+s⟩:=by
         refine ⟨⟨c1,c2⟩,by simp only;omega,by simp only;omega,hval _ (Nat.le_refl _),hz,fun u v huv=>?_⟩;have huv:inR (cn (S l.length)) u v=true:=huv
         rw [Q0N (hfin _ (Nat.le_refl _))] at huv;simp only [S,Bool.and_eq_true] at huv
         have e5:(p+1-1:Int)=p:=by omega
         simp only [e5];exact huv.1.2
        have hl2:LinT (cs.length:Nat) rs (l++[⟨p+1,⟨cn (S l.length)⟩,c,1+s⟩]):=by
         refine ⟨fun x h=>?_,?_⟩
         ·rcases List.mem_append.1 h with h|h
          ·exact hl.one x h
          ·rw [List.mem_singleton] at h;subst h;exact hx
         ·rw [List.pairwise_append]
          refine ⟨hl.apart,List.pairwise_singleton _ _,fun x h y hy u v h1 h2=>?_⟩;rw [List.mem_singleton] at hy
          subst hy;have h2:inR (cn (S l.length)) u v=true:=h2
          rw [Q0N (hfin _ (Nat.le_refl _))] at h2;simp only [S,Bool.and_eq_true,Bool.not_eq_true',List.take_length] at h2
          have:=List.any_eq_false.1 h2.2 x h
          exact this h1
        obtain ⟨t2,l2,q1,q2,q3⟩:=ih f td (l++[⟨p+1,⟨cn (S l.length)⟩,c,1+s⟩]) (by omega) (by simp;omega) od hl2;refine ⟨t2,l2,?_,q2,q3⟩
        unfold Q0w;refine Y8 (decide_eq_true (by omega)) ?_
        refine Q7 (Z5 (by simp only;omega) (by simp only;omega)) (Q6 ec (Q6 ed ?_));refine Q7 (Z5 (by simp only;omega) (by simp only;omega)) (Q7 (by simp [LIM];omega) ?_)
        unfold Q0v;simp only
        rw [ek];exact Q7 (Z5 (by omega) (by omega)) q1
      obtain ⟨t2,l2,q1,q2,q3⟩:=fin;refine ⟨t2,l2,?_,q2,q3⟩
      unfold Q1r;refine Q7 (by simp only;omega) ?_
      refine Q6 ((y4 hF' (a:=a.t_.map (shR (10*p))) (b:=(gl rs p.toNat).t_) (how:=2) (by simp;omega) (by have:=(hp.val hpr).1;omega) hpv (hp.val hpr).2.1).trans (congrArg some (congrArg cn hS0.symm))) ?_;refine W2 (fun z:List Rect×Int=>∃ n:Nat,z.2=n∧n≤l.length∧z.1=cn (S n)) (fun z=>l.length-z.2.toNat) (fun again z hz ih2=>?_) ⟨0,rfl,by omega,rfl⟩ (by simp only;omega)
      obtain ⟨V,n0⟩:=z;obtain ⟨n,rfl,hn,rfl⟩:=hz
      simp only at hn ⊢;unfold Q2W
      refine Q8 (fun h=>?_) (fun h=>?_)
      ·have h:n<l.length:=by simpa using h
       refine Q7 (by omega) ?_;simp only [Int.toNat_natCast]
       have hx:=hl.one _ (U7 h);refine Q6 ((y4 hF' (a:=cn (S n)) (b:=(gl l n).g_.t_) (how:=3) (by have:=(hval n hn).1;omega) (by have:=hx.val.1;omega) (hval n hn).2.1 hx.val.2.1).trans (congrArg some (hstep n h))) ?_
       refine Q7 (Z5 (by omega) (by omega)) (ih2 _ ⟨n+1,by simp,h,rfl⟩ (by simp only;omega))
      ·have h:n=l.length:=by
        have:¬ n<l.length:=by simpa using h
        omega
       subst h;exact q1
     obtain ⟨t2,l2,q1,q2,q3⟩:=rest;refine ⟨t2,l2,?_,q2,q3⟩
     show K7 F cs ns rs _ ((k+1:Nat):Int) t.l_ t.at_ l=_;unfold K7
     refine Y8 (by simp) (Q6 ea ?_);rw [Z3e]
     refine Q6 eb ?_;refine W2 (fun z:Int×List Rect=>∃ i:Nat,z.1=i∧i≤a.t_.length∧z.2.length=a.t_.length∧∀ j,j<a.t_.length→gl z.2 j=if j<i then shR (10*p) (gl a.t_ j) else gl a.t_ j) (fun z=>a.t_.length-z.1.toNat) (fun again z hz ih2=>?_)
      ⟨0,rfl,by omega,rfl,fun j _=>by rw [if_neg (by omega)]⟩ (by simp only;omega)
     obtain ⟨i0,V⟩:=z;obtain ⟨i,rfl,hi,hVl,hV⟩:=hz
     simp only at hVl hV ⊢;unfold Q2X
     simp only [Int.toNat_natCast];refine Q8 (fun h=>?_) (fun h=>?_)
     ·have h:i<a.t_.length:=by simpa using h
      have hvi:gl V i=gl a.t_ i:=by rw [hV i h,if_neg (by omega)]
      have hb:=hbx _ (U7 h);have hset:∀ x,gl (V.set i x) i=x:=fun x=>by rw [Y3B V i i x (by omega),if_pos rfl]
      simp only [hvi,hset];refine Q7 (by omega) (Q7 (Z5 (by omega) (by omega)) (Q7 (Z5 (by omega) (by omega)) (Q7 (by omega) (Q7 (Z5 (by omega) (by omega)) (Q7 (Z5 (by omega) (by omega)) (Q7 (by omega) (Q7 (by rw [List.length_set];omega) (Q7 (Z5 (by omega) (by omega)) ?_))))))))
      refine ih2 _ ⟨i+1,by simp,h,by simp [hVl],fun j hj=>?_⟩ (by simp only;omega);rw [Y3B _ i j _ (by simp;omega)]
      by_cases hij:i=j
      ·subst hij
       rw [if_pos rfl,if_pos (by omega)];rfl
      ·rw [if_neg hij,Y3B V i j _ (by omega),if_neg hij,hV j hj]
       by_cases h6:j<i
       ·rw [if_pos h6,if_pos (by omega)]
       ·rw [if_neg h6,if_neg (by omega)]
     ·have h:i=a.t_.length:=by
       have:¬ i<a.t_.length:=by simpa using h
       omega
      have hVe:V=a.t_.map (shR (10*p)):=Y5K (by simp [hVl]) fun j hj=>by
       rw [hV j (by omega),if_pos (by omega),Y1z _ _ _ (by omega)]
      rw [hVe];exact q1
  obtain ⟨t',l,q1,q2,q3,q4⟩:=key k.toNat F t2 [] (by omega) (by simp;omega) o2 (LinT.nil _ _);refine ⟨t',l,?_,q2,q3,q4⟩
  unfold Q1s;refine Q7 (Z5 (by omega) (by omega)) (Q6 e2 ?_)
  have:(k.toNat:Int)=k:=by omega
  rw [this] at q1;exact q1
 have key:∀ (k f:Nat) (t:Tape) (ns:List Int) (rs:List Re_),k<f→TOk t→ns.length=rs.length→rs.length+k=c.toNat→(∀ i,i<rs.length→∃ w h:Int,2≤w∧w≤9∧2≤h∧h≤9∧gl rs i=⟨[⟨10*i,0,10*i+w,h⟩]⟩) →
   ∃ t' l ns' rs',Z4 (fun again (z:Int×List Int×Int×List Int×List Re_)=>K8 F cs most again z.1 z.2.1 z.2.2.1 z.2.2.2.1 z.2.2.2.2) f ((k:Int),t.l_,t.at_,ns,rs)=some (t',l,ns',rs')∧TOk t' ∧ ParT rs' ∧ LinT (cs.length:Nat) rs' l∧(l.length:Int)≤most:=by
  intro k
  induction k with
  | zero=>
   intro f t ns rs hf ht hns hk hrs
   cases f with
   | zero=>omega
   | succ f=>
    have hp:ParT rs:=⟨by omega,hrs⟩;obtain ⟨t',l,q1,q2,q3,q4⟩:=lines rs ns t.l_ t.at_ hp hns ht
    refine ⟨t',l,ns,rs,?_,q2,hp,q3,q4⟩;show K8 F cs most _ 0 t.l_ t.at_ ns rs=_
    unfold K8;exact Z8 rfl q1
  | succ k ih=>
   intro f t ns rs hf ht hns hk hrs
   cases f with
   | zero=>omega
   | succ f=>
    obtain ⟨ta,w,ea,oa,w1,w2⟩:=Q2V (F:=F) ht (lo:=2) (hi:=9) (by omega) (by omega) (by omega);obtain ⟨tb,h,eb,ob,h1,h2⟩:=Q2V (F:=F) oa (lo:=2) (hi:=9) (by omega) (by omega) (by omega)
    obtain ⟨t',l,ns',rs',q1,q2⟩:=ih f tb (ns++[((ns.length:Nat):Int)+1]) (rs++[⟨[⟨10*((ns.length:Nat):Int),0,10*((ns.length:Nat):Int)+w,h⟩]⟩]) (by omega) ob (by simp [hns]) (by simp;omega) (fun i hi=>by
     rcases Nat.lt_or_ge i rs.length with h5|h5
     ·have e:gl (rs++[(⟨[⟨10*((ns.length:Nat):Int),0,10*((ns.length:Nat):Int)+w,h⟩]⟩:Re_)]) i=gl rs i:=by
       unfold gl;rw [List.getD_eq_getElem?_getD,List.getElem?_append_left h5, ← List.getD_eq_getElem?_getD]
      rw [e];exact hrs i h5
     ·have h6:i=rs.length:=by simp at hi;omega
      subst h6;refine ⟨w,h,by omega,by omega,by omega,by omega,?_⟩
      unfold gl;rw [List.getD_eq_getElem?_getD,List.getElem?_append_right (Nat.le_refl _),hns]
      simp)
    refine ⟨t',l,ns',rs',?_,q2⟩;show K8 F cs most _ ((k+1:Nat):Int) t.l_ t.at_ ns rs=_
    unfold K8;have ek:((k+1:Nat):Int)-1=(k:Int):=by omega
    refine Y8 (by simp) (Q7 (Z5 (by omega) (by omega)) (Q7 (by simp [LIM];omega) (Q7 (Z5 (by omega) (by omega)) (Q7 (Z5 (by omega) (by omega)) (Q6 ea (Q7 (Z5 (by omega) (by omega)) (Q6 eb (Q7 (by simp [LIM];omega) (Q7 (Z5 (by omega) (by omega)) ?_)))))))));rw [ek]
    exact q1
 obtain ⟨t',l,ns,rs,q1,q2⟩:=key c.toNat F t1 [] [] (by omega) o1 rfl (by simp) (fun i hi=>by simp at hi);refine ⟨t',l,ns,rs,?_,q2⟩
 unfold Q5B;refine Q6 e1 ?_
 have:(c.toNat:Int)=c:=by omega
 rw [this] at q1;exact q1
end
end Go.Ab
end
section
namespace Go.Ab
set_option maxRecDepth 20000
noncomputable section
theorem Q7y {R:Type} {body:(Int→Option R)→Int→Option R} {c y:Option R} (N:Nat) (p:Nat→Bool)
  (bad:∀ again (i:Nat),i<N→p i=true→body again (i:Int)=c) (good:∀ again (i:Nat) z,i<N→p i=false→again ((i:Int)+1)=z→body again (i:Int)=z)
  (stop:∀ again,body again (N:Int)=y) {F:Nat} (hF:N<F):Z4 body F 0=if (List.range N).any p=true then c else y:=by
 refine W2 (fun z:Int=>∃ i:Nat,z=i∧i≤N∧∀ j,j<i→p j=false) (fun z=>N-z.toNat) (fun again z hz ih=>?_) ⟨0,rfl,Nat.zero_le _,fun j h=>absurd h (Nat.not_lt_zero j)⟩ (by simp;omega);obtain ⟨i,rfl,hi,hp⟩:=hz
 rcases Nat.lt_or_ge i N with h|h
 ·cases hpi:p i with
  | true=>
   rw [if_pos (List.any_eq_true.2 ⟨i,List.mem_range.2 h,hpi⟩)];exact bad again i h hpi
  | false=>
   refine good again i _ h hpi (ih _ ⟨i+1,by omega,h,fun j hj=>?_⟩ (by omega))
   by_cases hji:j=i
   ·rw [hji];exact hpi
   ·exact hp j (by omega)
 ·have:i=N:=by omega
  subst this;rw [if_neg (by rw [Bool.not_eq_true,List.any_eq_false];intro j hj;rw [hp j (List.mem_range.1 hj)];simp)]
  exact stop again
def Q3v (kc K:Int) (l:List Line):Int:=
 if 20<l.length then 1 else if kc≠0 then kc
 else if (List.range l.length).any (fun i=>decide ((gl l i).c_<0)||decide (K≤(gl l i).c_))=true then 13
 else if (List.range l.length).any (fun i=> !Q7X (gl l i).g_.t_)=true then 7
 else if (List.range l.length).any (fun i=>(List.range i).any fun k=>Q0x (gl l i).g_ (gl l k).g_)=true then 11 else 0
theorem Y1y {α:Type} [Emb α] (l:List α) {i k:Nat} (h:k<i):gl (l.take i) k=gl l k:=by
 unfold gl;rw [List.getD_eq_getElem?_getD,List.getElem?_take,if_pos h, ← List.getD_eq_getElem?_getD]
theorem Q6a {F:Nat} (hF:BIG≤F) (l:List Line) {cs:List Crop} {kc:Int} (hc:y5 F cs=some kc):Q1l F l cs=some (Q3v kc (cs.length:Nat) l):=by
 have hF':=hF;unfold BIG at hF
 unfold Q1l Q3v;refine Q8 (fun h=>?_) (fun h=>?_)
 ·rw [if_pos (by have:=of_decide_eq_true h;omega)]
 have hl:l.length≤20:=by have:=of_decide_eq_false h;omega
 rw [if_neg (by omega)];refine Q6 hc (Q8 (fun h1=>?_) (fun h1=>?_))
 ·rw [if_pos (by simpa using h1)]
 rw [if_neg (by simpa using h1)];refine (Q7y (c:=some 13) (y:=some (if (List.range l.length).any (fun i=> !Q7X (gl l i).g_.t_)=true then 7 else if (List.range l.length).any (fun i=>(List.range i).any fun k=>Q0x (gl l i).g_ (gl l k).g_)=true then 11 else 0)) l.length (fun i=>decide ((gl l i).c_<0)||decide ((cs.length:Nat)≤(gl l i).c_)) (fun again i hi hp=>?_) (fun again i z hi hp hz=>?_) (fun again=>?_) (by omega)).trans (by split <;> rfl)
 ·unfold Q3B
  simp only [Int.toNat_natCast];refine Y8 (decide_eq_true (by omega)) (Q7 (by omega) ?_)
  refine Q8 (fun h2=>?_) (fun h2=>?_)
  ·unfold Q0J;exact Y8 rfl rfl
  ·rw [h2,Bool.false_or] at hp
   unfold Q0J;exact Y8 hp rfl
 ·rw [Bool.or_eq_false_iff] at hp
  unfold Q3B;simp only [Int.toNat_natCast]
  refine Y8 (decide_eq_true (by omega)) (Q7 (by omega) ?_);refine Z8 hp.1 ?_
  unfold Q0J;exact Z8 hp.2 (Q7 (Z5 (by omega) (by omega)) hz)
 ·unfold Q3B
  refine Z8 (decide_eq_false (by omega)) ?_;unfold Q6d
  refine (Q7y (c:=some 7) (y:=some (if (List.range l.length).any (fun i=>(List.range i).any fun k=>Q0x (gl l i).g_ (gl l k).g_)=true then 11 else 0)) l.length (fun i=> !Q7X (gl l i).g_.t_) (fun again i hi hp=>?_) (fun again i z hi hp hz=>?_) (fun again=>?_) (by omega)).trans (by split <;> rfl)
  ·unfold Q3A
   simp only [Int.toNat_natCast];refine Y8 (decide_eq_true (by omega)) (Q7 (by omega) (Q6 (Q1z hF' _) ?_))
   exact Y8 hp rfl
  ·unfold Q3A
   simp only [Int.toNat_natCast];refine Y8 (decide_eq_true (by omega)) (Q7 (by omega) (Q6 (Q1z hF' _) ?_))
   exact Z8 hp (Q7 (Z5 (by omega) (by omega)) hz)
  ·unfold Q3A
   refine Z8 (decide_eq_false (by omega)) ?_;unfold Q6c
   have inner:∀ (again:Int→Option Int) (i:Nat),i<l.length→Q3z F l again (i:Int)=if (List.range i).any (fun k=>Q0x (gl l i).g_ (gl l k).g_)=true then some 11 else again ((i:Int)+1):=by
    intro again i hi;unfold Q3z
    refine Y8 (decide_eq_true (by omega)) (Q7 (by omega) (Q7 (by omega) ?_));have hti:(l.take ((i:Int)).toNat).length=i:=by rw [Int.toNat_natCast,List.length_take];omega
    refine Q7y i (fun k=>Q0x (gl l i).g_ (gl l k).g_) (fun again2 k hk hp=>?_) (fun again2 k z hk hp hz=>?_) (fun again2=>?_) (by omega)
    ·unfold Q3y
     rw [hti];simp only [Int.toNat_natCast]
     refine Y8 (decide_eq_true (by omega)) (Q7 (by omega) ?_);rw [Y1y l hk]
     exact Q6 (Q8g hF' _ _) (Y8 hp rfl)
    ·unfold Q3y
     rw [hti];simp only [Int.toNat_natCast]
     refine Y8 (decide_eq_true (by omega)) (Q7 (by omega) ?_);rw [Y1y l hk]
     exact Q6 (Q8g hF' _ _) (Z8 hp (Q7 (Z5 (by omega) (by omega)) hz))
    ·unfold Q3y
     rw [hti];refine Z8 (decide_eq_false (by omega)) ?_
     unfold Q6b;exact Q7 (Z5 (by omega) (by omega)) rfl
   refine (Q7y (c:=some 11) (y:=some 0) l.length (fun i=>(List.range i).any fun k=>Q0x (gl l i).g_ (gl l k).g_) (fun again i hi hp=>?_) (fun again i z hi hp hz=>?_) (fun again=>?_) (by omega)).trans (by split <;> rfl)
   ·rw [inner again i hi,if_pos hp]
   ·rw [inner again i hi,if_neg (by rw [hp];simp)];exact hz
   ·unfold Q3z
    refine Z8 (decide_eq_false (by omega)) rfl
theorem J0 {F:Nat} (hF:BIG≤F) (l:List Line) {cs:List Crop} {kc:Int} (hc:Q0D F cs=some kc):Q1I F l cs=some (Q3v kc (cs.length:Nat) l):=by
 have hF':=hF;unfold BIG at hF
 unfold Q1I Q3v;refine Q8 (fun h=>?_) (fun h=>?_)
 ·rw [if_pos (by have:=of_decide_eq_true h;omega)]
 have hl:l.length≤20:=by have:=of_decide_eq_false h;omega
 rw [if_neg (by omega)];refine Q6 hc (Q8 (fun h1=>?_) (fun h1=>?_))
 ·rw [if_pos (by simpa using h1)]
 rw [if_neg (by simpa using h1)];refine (Q7y (c:=some 13) (y:=some (if (List.range l.length).any (fun i=> !Q7X (gl l i).g_.t_)=true then 7 else if (List.range l.length).any (fun i=>(List.range i).any fun k=>Q0x (gl l i).g_ (gl l k).g_)=true then 11 else 0)) l.length (fun i=>decide ((gl l i).c_<0)||decide ((cs.length:Nat)≤(gl l i).c_)) (fun again i hi hp=>?_) (fun again i z hi hp hz=>?_) (fun again=>?_) (by omega)).trans (by split <;> rfl)
 ·unfold Q6p
  simp only [Int.toNat_natCast];refine Y8 (decide_eq_true (by omega)) (Q7 (by omega) ?_)
  refine Q8 (fun h2=>?_) (fun h2=>?_)
  ·unfold Q2o;exact Y8 rfl rfl
  ·rw [h2,Bool.false_or] at hp
   unfold Q2o;exact Y8 hp rfl
 ·rw [Bool.or_eq_false_iff] at hp
  unfold Q6p;simp only [Int.toNat_natCast]
  refine Y8 (decide_eq_true (by omega)) (Q7 (by omega) ?_);refine Z8 hp.1 ?_
  unfold Q2o;exact Z8 hp.2 (Q7 (Z5 (by omega) (by omega)) hz)
 ·unfold Q6p
  refine Z8 (decide_eq_false (by omega)) ?_;unfold Q8W
  refine (Q7y (c:=some 7) (y:=some (if (List.range l.length).any (fun i=>(List.range i).any fun k=>Q0x (gl l i).g_ (gl l k).g_)=true then 11 else 0)) l.length (fun i=> !Q7X (gl l i).g_.t_) (fun again i hi hp=>?_) (fun again i z hi hp hz=>?_) (fun again=>?_) (by omega)).trans (by split <;> rfl)
  ·unfold Q6o
   simp only [Int.toNat_natCast];refine Y8 (decide_eq_true (by omega)) (Q7 (by omega) (Q6 (Q1q hF' _) ?_))
   exact Y8 hp rfl
  ·unfold Q6o
   simp only [Int.toNat_natCast];refine Y8 (decide_eq_true (by omega)) (Q7 (by omega) (Q6 (Q1q hF' _) ?_))
   exact Z8 hp (Q7 (Z5 (by omega) (by omega)) hz)
  ·unfold Q6o
   refine Z8 (decide_eq_false (by omega)) ?_;unfold Q8V
   have inner:∀ (again:Int→Option Int) (i:Nat),i<l.length→Q6n F l again (i:Int)=if (List.range i).any (fun k=>Q0x (gl l i).g_ (gl l k).g_)=true then some 11 else again ((i:Int)+1):=by
    intro again i hi;unfold Q6n
    refine Y8 (decide_eq_true (by omega)) (Q7 (by omega) ?_);have hti:(l.take ((i:Int)).toNat).length=i:=by rw [Int.toNat_natCast,List.length_take];omega
    refine Q7y i (fun k=>Q0x (gl l i).g_ (gl l k).g_) (fun again2 k hk hp=>?_) (fun again2 k z hk hp hz=>?_) (fun again2=>?_) (by omega)
    ·unfold Q6m
     rw [hti];simp only [Int.toNat_natCast]
     refine Y8 (decide_eq_true (by omega)) (Q7 (by omega) (Q7 (by omega) ?_));exact Q6 (Q9d hF' _ _) (Y8 hp rfl)
    ·unfold Q6m
     rw [hti];simp only [Int.toNat_natCast]
     refine Y8 (decide_eq_true (by omega)) (Q7 (by omega) (Q7 (by omega) ?_));exact Q6 (Q9d hF' _ _) (Z8 hp (Q7 (Z5 (by omega) (by omega)) hz))
    ·unfold Q6m
     rw [hti];refine Z8 (decide_eq_false (by omega)) ?_
     unfold Q8U;exact Q7 (Z5 (by omega) (by omega)) rfl
   refine (Q7y (c:=some 11) (y:=some 0) l.length (fun i=>(List.range i).any fun k=>Q0x (gl l i).g_ (gl l k).g_) (fun again i hi hp=>?_) (fun again i z hi hp hz=>?_) (fun again=>?_) (by omega)).trans (by split <;> rfl)
   ·rw [inner again i hi,if_pos hp]
   ·rw [inner again i hi,if_neg (by rw [hp];simp)];exact hz
   ·unfold Q6n
    refine Z8 (decide_eq_false (by omega)) rfl
structure LG (K:Int) (l:List Line):Prop where
 len:l.length≤20
 crop:∀ x ∈ l,0≤x.c_∧x.c_<K
 val:∀ x ∈ l,Val x.g_.t_
 apart:l.Pairwise Y5v
theorem Q2x {K:Int} {l:List Line}:Q3v 0 K l=0↔LG K l:=by
 unfold Q3v;constructor
 ·intro h
  split at h
  ·cases h
  rename_i h1
  rw [if_neg (by omega)] at h;split at h
  ·cases h
  rename_i h2
  split at h
  ·cases h
  rename_i h3
  split at h
  ·cases h
  rename_i h4
  rw [Bool.not_eq_true,List.any_eq_false] at h2 h3 h4;have hv:∀ x ∈ l,Val x.g_.t_:=fun x hx=>by
   obtain ⟨i,hi,rfl⟩:=List.getElem_of_mem hx;have:=h3 i (List.mem_range.2 hi)
   rw [Q9o l i hi] at this;simpa [Q3I] using this
  refine ⟨by omega,fun x hx=>?_,hv,?_⟩
  ·obtain ⟨i,hi,rfl⟩:=List.getElem_of_mem hx
   have:=h2 i (List.mem_range.2 hi)
   rw [Q9o l i hi,Bool.or_eq_true,decide_eq_true_eq,decide_eq_true_eq] at this;omega
  ·rw [List.pairwise_iff_getElem]
   intro i j hi hj hij;have:=h4 j (List.mem_range.2 hj)
   rw [Bool.not_eq_true,List.any_eq_false] at this;have h5:=this i (List.mem_range.2 hij)
   rw [Q9o l i hi,Q9o l j hj,Bool.not_eq_true] at h5;have h6:=Q9H (hv _ (List.getElem_mem hj)) (hv _ (List.getElem_mem hi)) h5
   exact fun u v p q=>h6 u v q p
 ·intro h
  have:=h.len
  rw [if_neg (by omega),if_neg (by simp),if_neg,if_neg,if_neg]
  ·rw [Bool.not_eq_true,List.any_eq_false]
   intro j hj;have hj:=List.mem_range.1 hj
   rw [Bool.not_eq_true,List.any_eq_false];intro i hi
   have hi:=List.mem_range.1 hi;have hil:i<l.length:=by omega
   rw [Q9o l i hil,Q9o l j hj,Bool.not_eq_true];have:=List.pairwise_iff_getElem.1 h.apart i j hil hj hi
   exact Z5o fun u v p q=>this u v q p
  ·rw [Bool.not_eq_true,List.any_eq_false]
   intro i hi;have hi:=List.mem_range.1 hi
   rw [Q9o l i hi,Q3g (h.val _ (List.getElem_mem hi))];simp
  ·rw [Bool.not_eq_true,List.any_eq_false]
   intro i hi;have hi:=List.mem_range.1 hi
   have:=h.crop _ (List.getElem_mem hi)
   rw [Q9o l i hi,Bool.or_eq_true,decide_eq_true_eq,decide_eq_true_eq];omega
def Z3o (cs:List Crop) (x:Line):Bool:=Q6O .i64 (gl cs x.c_.toNat).m_ 3==0
def K6 (cs:List Crop) (x:Line):Int:=(gl cs x.c_.toNat).f_
def arX (x:Line):Int:=area x.g_.t_
def arL (cs:List Crop) (l:List Line):List Line:=l.filter (Z3o cs)
theorem Z4h {x:Line} (h:Val x.g_.t_):0≤arX x∧arX x≤268435456:=by
 have:=Z9l (inR x.g_.t_)
 unfold arX;rw [h.area];omega
theorem Q9S {F:Nat} (hF:BIG≤F) {a:Re_} (h:Val a.t_):Q3R F a=some (area a.t_):=by
 have h1:=h.1;unfold Q3R
 refine Q6 (Q1z hF _) (Z8 (by rw [Q3g h];rfl) (Q6 (Z2b hF (by omega) h.2.1) rfl))
theorem Q2M {F:Nat} (hF:BIG≤F) {cs:List Crop} {l:List Line} (h:LG (cs.length:Nat) l):Q0k F l cs=some (arL cs l):=by
 unfold BIG at hF;have hl:=h.len
 unfold Q0k;refine W2 (fun z:Int×List Line=>∃ i:Nat,z.1=i∧i≤l.length∧z.2=arL cs (l.take i)) (fun z=>l.length-z.1.toNat) (fun again z hz ih=>?_) ⟨0,rfl,by omega,rfl⟩ (by simp only;omega)
 obtain ⟨i0,V⟩:=z;obtain ⟨i,rfl,hi,rfl⟩:=hz
 simp only
 unfold Q8K;simp only [Int.toNat_natCast]
 refine Q8 (fun h1=>?_) (fun h1=>?_)
 ·have h1:i<l.length:=by simpa using h1
  have hc:=h.crop _ (U7 h1);have hlen:(arL cs (l.take i)).length≤i:=by
   have:=List.length_filter_le (Z3o cs) (l.take i)
   rw [List.length_take] at this;unfold arL;omega
  have hs:arL cs (l.take (i+1))=arL cs (l.take i)++(if Z3o cs (gl l i)=true then [gl l i] else []):=by
   unfold arL;rw [J9 h1,List.filter_append]
   congr 1
   by_cases hb:Z3o cs (gl l i)=true
   ·rw [if_pos hb];simp [hb]
   ·rw [if_neg hb];simp [hb]
  refine Q7 (by omega) (Q7 hc ?_);refine Q8 (fun h2=>?_) (fun h2=>?_)
  ·refine Q7 (by simp [LIM];omega) ?_
   unfold Q1m;refine Q7 (Z5 (by omega) (by omega)) (ih _ ⟨i+1,by simp,h1,?_⟩ (by simp only;omega))
   have:Z3o cs (gl l i)=true:=h2
   rw [hs,if_pos this]
  ·unfold Q1m
   refine Q7 (Z5 (by omega) (by omega)) (ih _ ⟨i+1,by simp,h1,?_⟩ (by simp only;omega));have:Z3o cs (gl l i)=false:=h2
   rw [hs,if_neg (by rw [this];simp),List.append_nil]
 ·have h1:i=l.length:=by
   have:¬ i<l.length:=by simpa using h1
   omega
  subst h1;rw [List.take_length];rfl
def Q5X (cs:List Crop) (f:Int) (A:List Line):Int:=((A.filter fun x=>K6 cs x==f).map arX).sum
def Q8m (cs:List Crop) (A:List Line):List (Int×Int):=A.foldl (fun gs x=>Z1O (K6 cs x) (Q9u (K6 cs x) gs+arX x) gs) []
theorem Z8m (cs:List Crop) (A:List Line) (x:Line):Q8m cs (A++[x])=Z1O (K6 cs x) (Q9u (K6 cs x) (Q8m cs A)+arX x) (Q8m cs A):=by unfold Q8m;rw [List.foldl_append];rfl
theorem Z0f (cs:List Crop) (f:Int) (A:List Line) (x:Line):Q5X cs f (A++[x])=Q5X cs f A+(if K6 cs x=f then arX x else 0):=by
 unfold Q5X;rw [List.filter_append,List.map_append,List.sum_append]
 by_cases h:K6 cs x=f
 ·rw [if_pos h];simp [h]
 ·rw [if_neg h];simp [h]
theorem Y3y {y n:Int} {gs:List (Int×Int)} (hnd:(gs.map (·.1)).Nodup) (e:Int×Int):e ∈ Z1O y n gs↔e=(y,n)∨(e ∈ gs∧e.1≠y):=by
 unfold Z1O;rcases Q8C y gs with ⟨h,q,hq,hqy⟩|⟨h,hno⟩
 ·rw [if_pos h]
  constructor
  ·intro he
   obtain ⟨j,hj,rfl⟩:=List.getElem_of_mem he;rw [List.length_set] at hj
   rw [List.getElem_set]
   by_cases hij:Z0M y gs=j
   ·rw [if_pos hij];exact .inl rfl
   ·rw [if_neg hij]
    refine .inr ⟨List.getElem_mem hj,fun hy=>hij ?_⟩;obtain ⟨hi,hqe⟩:=List.getElem?_eq_some_iff.1 hq
    exact (List.getElem_inj (h₀:=by simpa using hi) (h₁:=by simpa using hj) hnd).1 (by simp [hqe,hqy,hy])
  ·rintro (rfl|⟨he,hy⟩)
   ·exact List.mem_iff_getElem.2 ⟨Z0M y gs,by simpa using h,by simp⟩
   ·obtain ⟨j,hj,rfl⟩:=List.getElem_of_mem he
    refine List.mem_iff_getElem.2 ⟨j,by simpa using hj,?_⟩;rw [List.getElem_set,if_neg]
    intro hij;obtain ⟨hi,hqe⟩:=List.getElem?_eq_some_iff.1 hq
    have hjq:gs[j]=q:=by rw [← hqe];simp only [hij]
    rw [hjq] at hy;exact hy hqy
 ·rw [if_neg (by omega),List.mem_append,List.mem_singleton]
  constructor
  ·rintro (he|rfl)
   ·exact .inr ⟨he,hno e he⟩
   ·exact .inl rfl
  ·rintro (rfl|⟨he,_⟩)
   ·exact .inr rfl
   ·exact .inl he
theorem Y1u {y:Int} {gs:List (Int×Int)} (hnd:(gs.map (·.1)).Nodup) {e:Int×Int} (he:e ∈ gs) (hy:e.1=y):Q9u y gs=e.2:=by
 unfold Q9u;rcases Q8C y gs with ⟨h,q,hq,hqy⟩|⟨h,hno⟩
 ·rw [hq]
  obtain ⟨j,hj,rfl⟩:=List.getElem_of_mem he;obtain ⟨hi,hqe⟩:=List.getElem?_eq_some_iff.1 hq
  have:=(List.getElem_inj (h₀:=by simpa using hi) (h₁:=by simpa using hj) hnd).1 (by simp [hqe,hqy,hy])
  subst this;rw [← hqe]
 ·exact absurd hy (hno e he)
theorem Y1v {y:Int} {gs:List (Int×Int)} (h:∀ e ∈ gs,e.1≠y):Q9u y gs=0:=by
 unfold Q9u;rcases Q8C y gs with ⟨_,q,hq,hqy⟩|⟨hl,_⟩
 ·exact absurd hqy (h q (List.mem_of_getElem? hq))
 ·rw [hl,List.getElem?_eq_none (Nat.le_refl _)]
theorem Z8l (cs:List Crop):∀ (A:List Line) (n:Nat),n≤A.length→((Q8m cs (A.take n)).map (·.1)).Nodup∧(∀ e,e ∈ Q8m cs (A.take n)↔(∃ x ∈ A.take n,K6 cs x=e.1)∧e.2=Q5X cs e.1 (A.take n))∧(Q8m cs (A.take n)).length≤n:=by
 intro A n
 induction n with
 | zero=>intro _;exact ⟨by simp [Q8m],fun e=>by simp [Q8m],by simp [Q8m]⟩
 | succ n ih=>
  intro hn;obtain ⟨h1,h2,h3⟩:=ih (by omega)
  rw [J9 (by omega),Z8m];have hg:Q9u (K6 cs (gl A n)) (Q8m cs (A.take n))=Q5X cs (K6 cs (gl A n)) (A.take n):=by
   by_cases hex:∃ x ∈ A.take n,K6 cs x=K6 cs (gl A n)
   ·exact Y1u h1 ((h2 (K6 cs (gl A n),Q5X cs (K6 cs (gl A n)) (A.take n))).2 ⟨hex,rfl⟩) rfl
   ·rw [Y1v fun e he hy=>hex (by obtain ⟨⟨x,hx,hxe⟩,_⟩:=(h2 e).1 he;exact ⟨x,hx,hxe.trans hy⟩)]
    unfold Q5X;have:(A.take n).filter (fun x=>K6 cs x==K6 cs (gl A n))=[]:=List.filter_eq_nil_iff.2 fun x hx hh=>hex ⟨x,hx,by simpa using hh⟩
    rw [this];rfl
  refine ⟨Z8r h1,fun e=>?_,?_⟩
  ·rw [Y3y h1,hg]
   constructor
   ·rintro (rfl|⟨he,hy⟩)
    ·refine ⟨⟨gl A n,by simp,rfl⟩,?_⟩
     rw [Z0f,if_pos rfl]
    ·obtain ⟨⟨x,hx,hxe⟩,hs⟩:=(h2 e).1 he
     refine ⟨⟨x,List.mem_append_left _ hx,hxe⟩,?_⟩;rw [Z0f,if_neg (fun hh=>hy hh.symm),hs];omega
   ·rintro ⟨⟨x,hx,hxe⟩,hs⟩
    rw [Z0f] at hs
    by_cases hy:K6 cs (gl A n)=e.1
    ·left
     rw [if_pos hy] at hs;rw [hy, ← hs]
    ·right
     rw [if_neg hy] at hs;refine ⟨(h2 e).2 ⟨?_,by omega⟩,fun hh=>hy hh.symm⟩
     rcases List.mem_append.1 hx with hx|hx
     ·exact ⟨x,hx,hxe⟩
     ·rw [List.mem_singleton] at hx;subst hx;exact absurd hxe hy
  ·unfold Z1O
   split
   ·rw [List.length_set];omega
   ·rw [List.length_append];simp;omega
theorem Z8D {cs:List Crop} {f:Int} {A:List Line} (h:∀ x ∈ A,Val x.g_.t_):0≤Q5X cs f A∧Q5X cs f A≤268435456*(A.length:Nat):=by
 unfold Q5X;have key:∀ B:List Line,(∀ x ∈ B,Val x.g_.t_)→0≤(B.map arX).sum∧(B.map arX).sum≤268435456*(B.length:Nat):=by
  intro B
  induction B with
  | nil=>intro _;simp
  | cons x B ih=>
   intro hB;have h1:=ih fun y hy=>hB y (List.mem_cons_of_mem _ hy)
   have h2:=Z4h (hB x List.mem_cons_self);rw [List.map_cons,List.sum_cons,List.length_cons]
   omega
 have h1:=key (A.filter fun x=>K6 cs x==f) fun x hx=>h x (List.mem_filter.1 hx).1
 have h2:=List.length_filter_le (fun x=>K6 cs x==f) A;omega
end
end Go.Ab
end
section
namespace Go.Ab
set_option maxRecDepth 20000
noncomputable section
theorem Y3e {α:Type} {le:α→α→Prop}:∀ {l m:List α},l.Perm m→l.Pairwise le→m.Pairwise le→(∀ a ∈ l,∀ b ∈ l,le a b→le b a→a=b)→l=m
 | [],m,hp,_,_,_=>(List.nil_perm.1 hp).symm
 | a::l,[],hp,_,_,_=>absurd hp.length_eq (by simp)
 | a::l,b::m,hp,h1,h2,ha=>by
  have hab:a=b:=by
   by_cases h:a=b
   ·exact h
   ·have m1:a ∈ m:=by
     have:=hp.mem_iff.1 (List.mem_cons_self (a:=a) (l:=l))
     rcases List.mem_cons.1 this with h5|h5
     ·exact absurd h5 h
     ·exact h5
    have m2:b ∈ l:=by
     have:=hp.mem_iff.2 (List.mem_cons_self (a:=b) (l:=m))
     rcases List.mem_cons.1 this with h5|h5
     ·exact absurd h5.symm h
     ·exact h5
    exact ha a List.mem_cons_self b (List.mem_cons_of_mem _ m2) ((List.pairwise_cons.1 h1).1 b m2) ((List.pairwise_cons.1 h2).1 a m1)
  subst hab;rw [Y3e (List.perm_cons a |>.1 hp) (List.pairwise_cons.1 h1).2 (List.pairwise_cons.1 h2).2 fun x hx y hy=>ha x (List.mem_cons_of_mem _ hx) y (List.mem_cons_of_mem _ hy)]
theorem Y6p {α:Type} {lt:α→α→Prop} (hx:∀ a b,lt a b→lt b a→False):∀ {l m:List α},l.Pairwise lt→m.Pairwise lt→(∀ x,x ∈ l↔x ∈ m)→l=m
 | [],[],_,_,_=>rfl
 | [],b::m,_,_,h=>absurd ((h b).2 List.mem_cons_self) (by simp)
 | a::l,[],_,_,h=>absurd ((h a).1 List.mem_cons_self) (by simp)
 | a::l,b::m,h1,h2,h=>by
  obtain ⟨p1,p2⟩:=List.pairwise_cons.1 h1;obtain ⟨q1,q2⟩:=List.pairwise_cons.1 h2
  have hab:a=b:=by
   rcases List.mem_cons.1 ((h a).1 List.mem_cons_self) with h3|h3
   ·exact h3
   ·rcases List.mem_cons.1 ((h b).2 List.mem_cons_self) with h4|h4
    ·exact h4.symm
    ·exact (hx a b (p1 b h4) (q1 a h3)).elim
  subst hab;congr 1
  refine Y6p hx p2 q2 fun x=>⟨fun hm=>?_,fun hm=>?_⟩
  ·rcases List.mem_cons.1 ((h x).1 (List.mem_cons_of_mem _ hm)) with h3|h3
   ·subst h3;exact (hx x x (p1 x hm) (p1 x hm)).elim
   ·exact h3
  ·rcases List.mem_cons.1 ((h x).2 (List.mem_cons_of_mem _ hm)) with h3|h3
   ·subst h3;exact (hx x x (q1 x hm) (q1 x hm)).elim
   ·exact h3
theorem Z3B {α:Type}:∀ (l:List α) (i:Nat) (h:i<l.length),(l[i]::l.eraseIdx i).Perm l
 | a::l,0,_=>.refl _
 | a::l,i+1,h=>by
  have:=Z3B l i (by simpa using h)
  simp only [List.getElem_cons_succ,List.eraseIdx_cons_succ];exact (List.Perm.swap _ _ _).trans (this.cons a)
abbrev byK (P:List A2_):List A2_:=P.mergeSort fun a b=>decide (a.e0_≤b.e0_)
theorem Q5u (P:List A2_):(byK P).Perm P:=List.mergeSort_perm P _
theorem Z8X (P:List A2_):(byK P).Pairwise fun a b=>a.e0_≤b.e0_:=
 (List.pairwise_mergeSort (le:=fun a b:A2_=>decide (a.e0_≤b.e0_)) (fun a b c h5 h6=>by simp at *;omega) (fun a b=>by simp;omega) P).imp fun h=>by simpa using h
theorem Y1r {P:List A2_} (hnd:(P.map A2_.e0_).Nodup) {a b:A2_} (ha:a ∈ P) (hb:b ∈ P) (h:a.e0_=b.e0_):a=b:=by
 obtain ⟨i,hi,rfl⟩:=List.getElem_of_mem ha;obtain ⟨j,hj,rfl⟩:=List.getElem_of_mem hb
 have:=(List.getElem_inj (h₀:=by simpa using hi) (h₁:=by simpa using hj) hnd).1 (by simpa using h)
 simp only [this]
theorem Y5Q {P:List A2_} (hnd:(P.map A2_.e0_).Nodup):(byK P).Pairwise fun a b=>a.e0_<b.e0_:=by
 have hle:=Z8X P;have hn:((byK P).map A2_.e0_).Nodup:=(((Q5u P).map _).nodup_iff).2 hnd
 rw [List.pairwise_iff_getElem] at hle ⊢;intro i j hi hj hij
 have h1:=hle i j hi hj hij;have h2:(byK P)[i].e0_≠(byK P)[j].e0_:=fun h=>by
  have:=(List.getElem_inj (h₀:=by simpa using hi) (h₁:=by simpa using hj) hn).1 (by simpa using h)
  omega
 omega
theorem Y2t {P Q:List A2_} (hp:P.Perm Q) (hnd:(P.map A2_.e0_).Nodup):byK P=byK Q:=
 Y3e (((Q5u P).trans hp).trans (Q5u Q).symm) (Z8X P) (Z8X Q) fun a ha b hb h1 h2=>Y1r hnd ((Q5u P).mem_iff.1 ha) ((Q5u P).mem_iff.1 hb) (by omega)
def mkP (e:Int×Int):A2_:=⟨e.1,e.2⟩
def K9 (cs:List Crop) (l:List Line):List A2_:=byK ((Q8m cs (arL cs l)).map mkP)
theorem Y3H {F:Nat}:∀ (n f:Nat) (gs:List (Int×Int)) (out:List A2_),gs.length=n→n<f→((out++gs.map mkP).map A2_.e0_).Nodup→(out++gs.map mkP).length≤LIM →
  Z4 (fun again (z:List (Int×Int)×List A2_)=>y8 F again z.1 z.2) f (gs,out)=some (byK (out++gs.map mkP),0):=by
 intro n
 induction n with
 | zero=>
  intro f gs out hg hf hnd hl;obtain rfl:=List.eq_nil_of_length_eq_zero hg
  cases f with
  | zero=>omega
  | succ f=>
   show y8 F _ [] out=_;unfold y8
   rw [Z8k];unfold Q3N
   rw [List.map_nil,List.append_nil] at hnd hl ⊢;exact Q6 (Y2Q hnd hl) rfl
 | succ n ih=>
  intro f gs out hg hf hnd hl
  cases f with
  | zero=>omega
  | succ f=>
   show y8 F _ gs out=_;unfold y8
   refine Z6W (fun h=>by rw [h] at hg;cases hg) fun i hi=>?_
   have hp:(out++[mkP gs[i]]++(gs.eraseIdx i).map mkP).Perm (out++gs.map mkP):=by
    rw [List.append_assoc];refine List.Perm.append_left out ?_
    have:=(Z3B gs i hi).map mkP
    simpa using this
   have hl2:=hp.length_eq;refine Q7 (by simp at hl hl2 ⊢;omega) ?_
   have:=ih f (gs.eraseIdx i) (out++[mkP gs[i]]) (by rw [List.length_eraseIdx_of_lt hi];omega) (by omega) (((hp.map _).nodup_iff).2 hnd) (by omega)
   rw [Y2t hp (((hp.map _).nodup_iff).2 hnd)] at this;exact this
theorem Z4X {K:Int} {cs:List Crop} {l:List Line} (h:LG K l):∀ x ∈ arL cs l,Val x.g_.t_:=fun x hx=>h.val x (List.mem_filter.1 hx).1
theorem Q6Q (cs:List Crop) (l:List Line):(arL cs l).length≤l.length:=List.length_filter_le _ _
theorem Z2O (cs:List Crop) (A:List Line):((Q8m cs A).map (·.1)).Nodup∧(∀ e,e ∈ Q8m cs A↔(∃ x ∈ A,K6 cs x=e.1)∧e.2=Q5X cs e.1 A)∧(Q8m cs A).length≤A.length:=by
 have:=Z8l cs A A.length (Nat.le_refl _)
 rwa [List.take_length] at this
theorem Q3M {F:Nat} (hF:BIG≤F) {l:List Line} {cs:List Crop} {kc:Int} (hc:y5 F cs=some kc) :
  K2 F l cs=some (if Q3v kc (cs.length:Nat) l=0 then (K9 cs l,0) else ([],Q3v kc (cs.length:Nat) l)):=by
 have hF':=hF;unfold BIG at hF
 unfold K2;refine Q6 (Q6a hF' l hc) (Q8 (fun h=>?_) (fun h=>?_))
 ·rw [if_neg (by simpa using h)]
 have h0:Q3v kc (cs.length:Nat) l=0:=by simpa using h
 rw [if_pos h0];have hk:kc=0:=by
  unfold Q3v at h0;split at h0
  ·cases h0
  ·split at h0
   ·exact h0
   ·rename_i hh;simpa using hh
 subst hk;have hg:=Q2x.1 h0
 have hl:=hg.len;refine Q6 (Q2M hF' hg) ?_
 have hA:=Q6Q cs l;refine W2 (fun z:Int×List (Int×Int)=>∃ i:Nat,z.1=i∧i≤(arL cs l).length∧z.2=Q8m cs ((arL cs l).take i)) (fun z=>(arL cs l).length-z.1.toNat) (fun again z hz ih=>?_) ⟨0,rfl,by omega,rfl⟩ (by simp only;omega)
 obtain ⟨i0,gs⟩:=z;obtain ⟨i,rfl,hi,rfl⟩:=hz
 simp only
 unfold Q7P;simp only [Int.toNat_natCast]
 refine Q8 (fun h1=>?_) (fun h1=>?_)
 ·have h1:i<(arL cs l).length:=by simpa using h1
  have hm:gl (arL cs l) i ∈ l:=(List.mem_filter.1 (U7 h1)).1;have hv:=hg.val _ hm
  have hcr:=hg.crop _ hm;have hb:=Z4h hv
  obtain ⟨g1,g2,g3⟩:=Z8l cs (arL cs l) i hi;have hsum:Q9u (K6 cs (gl (arL cs l) i)) (Q8m cs ((arL cs l).take i))=Q5X cs (K6 cs (gl (arL cs l) i)) ((arL cs l).take i):=by
   by_cases hex:∃ x ∈ (arL cs l).take i,K6 cs x=K6 cs (gl (arL cs l) i)
   ·exact Y1u g1 ((g2 (K6 cs (gl (arL cs l) i),Q5X cs (K6 cs (gl (arL cs l) i)) ((arL cs l).take i))).2 ⟨hex,rfl⟩) rfl
   ·rw [Y1v fun e he hy=>hex (by obtain ⟨⟨x,hx,hxe⟩,_⟩:=(g2 e).1 he;exact ⟨x,hx,hxe.trans hy⟩)]
    unfold Q5X;have:((arL cs l).take i).filter (fun x=>K6 cs x==K6 cs (gl (arL cs l) i))=[]:=List.filter_eq_nil_iff.2 fun x hx hh=>hex ⟨x,hx,by simpa using hh⟩
    rw [this];rfl
  have hsb:=Z8D (cs:=cs) (f:=K6 cs (gl (arL cs l) i)) (A:=(arL cs l).take i) fun x hx=>Z4X hg x (List.mem_of_mem_take hx)
  have htl:((arL cs l).take i).length≤20:=by rw [List.length_take];omega
  refine Q7 (by omega) (Q7 hcr (Q6 (Q9S hF' hv) ?_));have hI:I64 (Q9u (K6 cs (gl (arL cs l) i)) (Q8m cs ((arL cs l).take i))+arX (gl (arL cs l) i)):=Z5 (by rw [hsum];omega) (by rw [hsum];omega)
  refine Q7 hI (Q7 (Z5 (by omega) (by omega)) (ih _ ⟨i+1,by simp,h1,?_⟩ (by simp only;omega)));rw [J9 h1,Z8m];rfl
 ·have h1:i=(arL cs l).length:=by
   have:¬ i<(arL cs l).length:=by simpa using h1
   omega
  subst h1;rw [List.take_length]
  obtain ⟨g1,g2,g3⟩:=Z2O cs (arL cs l);unfold Q3O
  have:=Y3H (F:=F) (Q8m cs (arL cs l)).length F (Q8m cs (arL cs l)) [] rfl (by omega) (by simpa [mkP,Function.comp_def] using g1) (by simp [LIM];omega)
  rw [List.nil_append] at this;exact this
theorem Z4Q (cs:List Crop) (l:List Line) (p:A2_):p ∈ K9 cs l↔(∃ x ∈ arL cs l,K6 cs x=p.e0_)∧p.e1_=Q5X cs p.e0_ (arL cs l):=by
 obtain ⟨g1,g2,g3⟩:=Z2O cs (arL cs l);rw [K9,(Q5u _).mem_iff,List.mem_map]
 constructor
 ·rintro ⟨e,he,rfl⟩
  exact (g2 e).1 he
 ·intro h
  exact ⟨(p.e0_,p.e1_),(g2 _).2 h,rfl⟩
theorem Y1C (cs:List Crop) (l:List Line):(((Q8m cs (arL cs l)).map mkP).map A2_.e0_).Nodup:=by
 have:=(Z2O cs (arL cs l)).1
 simpa [mkP,Function.comp_def] using this
theorem Y1D (cs:List Crop) (l:List Line):(K9 cs l).Pairwise fun a b=>a.e0_<b.e0_:=Y5Q (Y1C cs l)
theorem Z4R (cs:List Crop) (l:List Line):(K9 cs l).length≤l.length:=by
 have h1:=(Q5u ((Q8m cs (arL cs l)).map mkP)).length_eq;have h2:=(Z2O cs (arL cs l)).2.2
 have h3:=Q6Q cs l;rw [List.length_map] at h1
 unfold K9;omega
theorem Z8V {K:Int} {cs:List Crop} {l:List Line} (h:LG K l):∀ p ∈ K9 cs l,0≤p.e1_∧p.e1_≤5368709120:=fun p hp=>by
 obtain ⟨_,h2⟩:=(Z4Q cs l p).1 hp;have:=Z8D (cs:=cs) (f:=p.e0_) (Z4X (cs:=cs) h)
 have h3:=Q6Q cs l;have h4:=h.len
 rw [h2];omega
theorem Y4U {cs:List Crop} {l:List Line} {P:List A2_} (h1:P.Pairwise fun a b=>a.e0_<b.e0_) (h2:∀ p,p ∈ P↔(∃ x ∈ arL cs l,K6 cs x=p.e0_)∧p.e1_=Q5X cs p.e0_ (arL cs l)):P=K9 cs l:=
 Y6p (fun a b h h'=>by omega) h1 (Y1D cs l) fun p=>(h2 p).trans (Z4Q cs l p).symm
def Q7Y (P:List A2_):Int:=(P.map A2_.e1_).sum
theorem Z7X (P:List A2_) (p:A2_):Q7Y (P++[p])=Q7Y P+p.e1_:=by unfold Q7Y;simp
theorem Z8C {P:List A2_} (h:∀ p ∈ P,0≤p.e1_∧p.e1_≤5368709120):0≤Q7Y P∧Q7Y P≤5368709120*(P.length:Nat):=by
 induction P with
 | nil=>simp [Q7Y]
 | cons p P ih=>
  have h1:=h p List.mem_cons_self;have h2:=ih fun q hq=>h q (List.mem_cons_of_mem _ hq)
  unfold Q7Y at h2 ⊢;rw [List.map_cons,List.sum_cons,List.length_cons];omega
def Z0G (cs:List Crop) (A:List Line):List Int:=A.foldl (fun xs x=>put xs (K6 cs x)) []
theorem Z8j (cs:List Crop):∀ (A:List Line),Asc (Z0G cs A)∧(∀ f,f ∈ Z0G cs A↔∃ x ∈ A,K6 cs x=f)∧(Z0G cs A).length≤A.length:=by
 intro A;have key:∀ (A:List Line) (xs:List Int),Asc xs→Asc (A.foldl (fun xs x=>put xs (K6 cs x)) xs)∧(∀ f,f ∈ A.foldl (fun xs x=>put xs (K6 cs x)) xs↔f ∈ xs∨∃ x ∈ A,K6 cs x=f)∧(A.foldl (fun xs x=>put xs (K6 cs x)) xs).length≤xs.length+A.length:=by
  intro A
  induction A with
  | nil=>intro xs h;exact ⟨h,fun f=>by simp,by simp⟩
  | cons x A ih=>
   intro xs h;obtain ⟨h1,h2,h3⟩:=ih (put xs (K6 cs x)) (Z8Y h _)
   refine ⟨h1,fun f=>?_,?_⟩
   ·rw [List.foldl_cons,h2,Z6m]
    constructor
    ·rintro ((rfl|h) | ⟨y,hy,hf⟩)
     ·exact .inr ⟨x,List.mem_cons_self,rfl⟩
     ·exact .inl h
     ·exact .inr ⟨y,List.mem_cons_of_mem _ hy,hf⟩
    ·rintro (h|⟨y,hy,hf⟩)
     ·exact .inl (.inr h)
     ·rcases List.mem_cons.1 hy with rfl|hy
      ·exact .inl (.inl hf.symm)
      ·exact .inr ⟨y,hy,hf⟩
   ·have:=Z1i xs (K6 cs x)
    rw [List.foldl_cons,List.length_cons];omega
 obtain ⟨h1,h2,h3⟩:=key A [] .nil;exact ⟨h1,fun f=>by rw [show Z0G cs A=A.foldl (fun xs x=>put xs (K6 cs x)) [] from rfl,h2];simp,by unfold Z0G;simpa using h3⟩
theorem Z4Y (cs:List Crop) {l:List Line} {i:Nat} (h:i<l.length):arL cs (l.take (i+1))=if Z3o cs (gl l i)=true then arL cs (l.take i)++[gl l i] else arL cs (l.take i):=by
 unfold arL;rw [J9 h,List.filter_append]
 by_cases hb:Z3o cs (gl l i)=true
 ·rw [if_pos hb];simp [hb]
 ·rw [if_neg hb];simp [hb]
theorem Q3C {F:Nat} (hF:BIG≤F) {l:List Line} {cs:List Crop} (hg:LG (cs.length:Nat) l):Q0C F l cs=some (K9 cs l,Q7Y (K9 cs l)):=by
 have hF':=hF;unfold BIG at hF
 have hl:=hg.len;obtain ⟨n1,n2,n3⟩:=Z8j cs (arL cs l)
 have hA:=Q6Q cs l;have hlist:(Z0G cs (arL cs l)).map (fun f=>(⟨f,Q5X cs f (arL cs l)⟩:A2_))=K9 cs l:=by
  refine Y4U ?_ fun p=>?_
  ·rw [List.pairwise_map];exact n1
  ·rw [List.mem_map]
   constructor
   ·rintro ⟨f,hf,rfl⟩;exact ⟨(n2 f).1 hf,rfl⟩
   ·rintro ⟨h1,h2⟩
    exact ⟨p.e0_,(n2 _).2 h1,by rw [← h2]⟩
 unfold Q0C;refine W2 (fun z:List Int×Int=>∃ i:Nat,z.2=i∧i≤l.length∧z.1=Z0G cs (arL cs (l.take i))) (fun z=>l.length-z.2.toNat) (fun again z hz ih=>?_) ⟨0,rfl,by omega,rfl⟩ (by simp only;omega)
 obtain ⟨V,i0⟩:=z;obtain ⟨i,rfl,hi,rfl⟩:=hz
 simp only
 unfold Q9D;simp only [Int.toNat_natCast]
 refine Q8 (fun h1=>?_) (fun h1=>?_)
 ·have h1:i<l.length:=by simpa using h1
  have hc:=hg.crop _ (U7 h1);refine Q7 (by omega) ?_
  unfold Q0z;refine Q6 (Q7 hc rfl) ?_
  have hnl:(Z0G cs (arL cs (l.take i))).length≤20:=by
   have h5:=(Z8j cs (arL cs (l.take i))).2.2;have h6:=Q6Q cs (l.take i)
   rw [List.length_take] at h6;omega
  have hs:=Z4Y cs h1;refine Q8 (fun h2=>?_) (fun h2=>?_)
  ·refine Q7 hc (Q6 (Q6z hF' (by omega) _) ?_)
   unfold Q1H;refine Q7 (Z5 (by omega) (by omega)) (ih _ ⟨i+1,by simp,h1,?_⟩ (by simp only;omega))
   have:Z3o cs (gl l i)=true:=h2
   rw [hs,if_pos this];unfold Z0G
   rw [List.foldl_append];rfl
  ·unfold Q1H
   refine Q7 (Z5 (by omega) (by omega)) (ih _ ⟨i+1,by simp,h1,?_⟩ (by simp only;omega));have:Z3o cs (gl l i)=false:=h2
   rw [hs,if_neg (by rw [this];simp)]
 ·have h1:i=l.length:=by
   have:¬ i<l.length:=by simpa using h1
   omega
  subst h1;rw [List.take_length]
  unfold Q6l;have hbd:=Z8V (cs:=cs) hg
  have hfl:=Z4R cs l;have hN:(Z0G cs (arL cs l)).length=(K9 cs l).length:=by rw [← hlist,List.length_map]
  have hgl:∀ j,j<(Z0G cs (arL cs l)).length→gl (K9 cs l) j=⟨gl (Z0G cs (arL cs l)) j,Q5X cs (gl (Z0G cs (arL cs l)) j) (arL cs l)⟩:=fun j hj=>by
   rw [← hlist,Y1z _ _ _ hj]
  refine W2 (fun z:Int×Int×List A2_=>∃ j:Nat,z.2.1=j∧j≤(K9 cs l).length∧z.2.2=(K9 cs l).take j∧z.1=Q7Y ((K9 cs l).take j)) (fun z=>(K9 cs l).length-z.2.1.toNat) (fun again z hz ih2=>?_) ⟨0,rfl,by omega,rfl,rfl⟩ (by simp only;omega);obtain ⟨tot,j0,V⟩:=z
  obtain ⟨j,rfl,hj,rfl,rfl⟩:=hz;simp only
  unfold Q9C;refine Q8 (fun h2=>?_) (fun h2=>?_)
  ·have h2:j<(Z0G cs (arL cs l)).length:=by simpa using h2
   refine Q7 (by omega) ?_;refine W2 (fun z:Int×Int=>∃ k:Nat,z.2=k∧k≤l.length∧z.1=Q5X cs (gl (Z0G cs (arL cs l)) j) (arL cs (l.take k))) (fun z=>l.length-z.2.toNat) (fun again2 z hz ih3=>?_) ⟨0,rfl,by omega,rfl⟩ (by simp only;omega)
   obtain ⟨s,k0⟩:=z;obtain ⟨k,rfl,hk,rfl⟩:=hz
   simp only
   unfold Q9B;simp only [Int.toNat_natCast]
   have hsb:=Z8D (cs:=cs) (f:=gl (Z0G cs (arL cs l)) j) (A:=arL cs (l.take k)) fun x hx=>hg.val x (List.mem_of_mem_take (List.mem_filter.1 hx).1)
   have hsl:(arL cs (l.take k)).length≤20:=by
    have h6:=Q6Q cs (l.take k);rw [List.length_take] at h6
    omega
   refine Q8 (fun h3=>?_) (fun h3=>?_)
   ·have h3:k<l.length:=by simpa using h3
    have hc:=hg.crop _ (U7 h3);have hv:=hg.val _ (U7 h3)
    have hab:=Z4h hv;have hs:=Z4Y cs h3
    refine Q7 (by omega) ?_;unfold Q0z
    refine Q6 (Q7 hc rfl) ?_;have k6:∀ s',s'=Q5X cs (gl (Z0G cs (arL cs l)) j) (arL cs (l.take (k+1)))→Q1F F (k:Int) again2 s'=some (K9 cs l,Q7Y (K9 cs l)):=by
     intro s' hs';unfold Q1F
     exact Q7 (Z5 (by omega) (by omega)) (ih3 _ ⟨k+1,by simp,h3,hs'⟩ (by simp only;omega))
    refine Q8 (fun h4=>?_) (fun h4=>?_)
    ·have h4:Z3o cs (gl l k)=true:=h4
     rw [if_pos h4] at hs;refine Q7 hc ?_
     unfold Q1G;simp only [Int.toNat_natCast]
     refine Q8 (fun h5=>?_) (fun h5=>?_)
     ·have h5:K6 cs (gl l k)=gl (Z0G cs (arL cs l)) j:=by simpa [K6] using h5
      refine Q6 (Z3z hF' hv) (Q7 (Z5 (by unfold arX at hab;omega) (by unfold arX at hab;omega)) (k6 _ ?_));rw [hs,Z0f,if_pos h5];rfl
     ·have h5:¬ K6 cs (gl l k)=gl (Z0G cs (arL cs l)) j:=by simpa [K6] using h5
      refine k6 _ ?_;rw [hs,Z0f,if_neg h5];omega
    ·have h4:Z3o cs (gl l k)=false:=h4
     rw [if_neg (by rw [h4];simp)] at hs;unfold Q1G
     refine Z8 rfl (k6 _ ?_);rw [hs]
   ·have h3:k=l.length:=by
     have:¬ k<l.length:=by simpa using h3
     omega
    subst h3;rw [List.take_length] at hsb ⊢
    unfold Q6k;have h2' : j<(K9 cs l).length:=by omega
    have htb:=Z8C (P:=(K9 cs l).take j) fun p hp=>hbd p (List.mem_of_mem_take hp)
    have htl:((K9 cs l).take j).length≤20:=by rw [List.length_take];omega
    have hA20:(arL cs l).length≤20:=by omega
    refine Q7 (by simp [LIM];omega) (Q7 (Z5 (by omega) (by omega)) ?_);unfold Q6j
    have hgj:=hgl j h2;refine Q7 (Z5 (by omega) (by omega)) (ih2 _ ⟨j+1,by simp,h2',?_,?_⟩ (by simp only;omega))
    ·simp only [Int.toNat_natCast];rw [J9 h2',hgj]
    ·simp only;rw [J9 h2',Z7X,hgj]
  ·have h2:j=(K9 cs l).length:=by
    have:¬ j<(Z0G cs (arL cs l)).length:=by simpa using h2
    omega
   subst h2;rw [List.take_length];rfl
theorem Z4x {F:Nat} (hF:BIG≤F) {l:List Line} {cs:List Crop} {kc:Int} (hc:Q0D F cs=some kc) :
  Q3S F l cs=some (if Q3v kc (cs.length:Nat) l=0 then (K9 cs l,0) else ([],Q3v kc (cs.length:Nat) l)):=by
 unfold Q3S;refine Q6 (J0 hF l hc) (Q8 (fun h=>?_) (fun h=>?_))
 ·rw [if_neg (by simpa using h)]
 have h0:Q3v kc (cs.length:Nat) l=0:=by simpa using h
 rw [if_pos h0];have hk:kc=0:=by
  unfold Q3v at h0;split at h0
  ·cases h0
  ·split at h0
   ·exact h0
   ·rename_i hh;simpa using hh
 subst hk;exact Q6 (Q3C hF (Q2x.1 h0)) rfl
end
end Go.Ab
end
section
namespace Go.Ab
set_option maxRecDepth 20000
noncomputable section
theorem Z6R {F:Nat} (hF:BIG≤F) (s:ByteArray):Q9h F s=some (Q1c s):=by
 unfold BIG at hF;unfold Q9h
 have k0t:Q1c s=false→Q1b F s true=some (Q1c s):=fun h=>by unfold Q1b;rw [h];exact Y8 rfl rfl
 refine Q8 (fun h=>k0t ?_) (fun h=>?_)
 ·have h:=of_decide_eq_true h
  unfold Q1c;rw [decide_eq_false (by omega:¬ 1≤s.size)];rfl
 have h1:1≤s.size:=by have:=of_decide_eq_false h;omega
 refine Q8 (fun h=>k0t ?_) (fun h=>?_)
 ·have h:=of_decide_eq_true h
  unfold Q1c;rw [decide_eq_false (by omega:¬ s.size≤12)];simp
 have h2:s.size≤12:=by have:=of_decide_eq_false h;omega
 have hz:Q1c s=decide (∀ i,i<s.size→(Z1J (sAt s (i:Nat))||(!decide (i=0)&&Z7T (sAt s (i:Nat))))=true):=by
  unfold Q1c;rw [decide_eq_true h1,decide_eq_true h2];simp
 have bad0:Z1J (sAt s (0:Int))=false→Q1c s=false:=fun h=>by
  rw [hz,decide_eq_false_iff_not];intro hall
  have:=hall 0 (by omega)
  rw [show (((0:Nat):Int))=0 from rfl,h] at this;simp at this
 refine Q7 (by omega) (Q8 (fun h=>k0t (bad0 ?_)) (fun h=>?_))
 ·have h:=of_decide_eq_true h
  unfold Z1J;rw [decide_eq_false (by omega)];rfl
 have h3:=of_decide_eq_false h;refine Q7 (by omega) ?_
 by_cases h4:122<sAt s (0:Int)
 ·rw [decide_eq_true h4]
  refine k0t (bad0 ?_);unfold Z1J;rw [decide_eq_false (by omega:¬ sAt s (0:Int)≤122)];simp
 rw [decide_eq_false h4];have hl0:Z1J (sAt s (0:Int))=true:=by
  unfold Z1J;rw [decide_eq_true (by omega),decide_eq_true (by omega)];rfl
 unfold Q1b;refine Z8 rfl ?_
 refine (Q7y (c:=some false) (y:=some true) s.size (fun i=> !(Z1J (sAt s (i:Nat))||Z7T (sAt s (i:Nat)))) (fun again i hi hp=>?_) (fun again i z hi hp hz=>?_) (fun again=>?_) (by omega)).trans ?_
 ·rw [Bool.not_eq_true',Bool.or_eq_false_iff] at hp
  unfold Z1J Z7T at hp;unfold Q7C
  have k2:G3 F (i:Int) again true=some false:=by unfold G3;exact Y8 rfl rfl
  refine Y8 (decide_eq_true (by omega)) (Q7 (by omega) ?_);have dg:gd (0≤(i:Int)∧(i:Int)<((s.size:Nat):Int)) (br (decide (sAt s (i:Nat)<48)) (G3 F (i:Int) again true) (gd (0≤(i:Int)∧(i:Int)<((s.size:Nat):Int)) (G3 F (i:Int) again (decide (57<sAt s (i:Nat))))))=some false:=by
   refine Q7 (by omega) (Q8 (fun _=>k2) (fun h5=>Q7 (by omega) ?_));have h5:=of_decide_eq_false h5
   rw [decide_eq_true (p:=57<sAt s (i:Nat))]
   ·exact k2
   ·have h6:=hp.2
    rw [decide_eq_true (by omega:48≤sAt s (i:Nat)),Bool.true_and,decide_eq_false_iff_not] at h6;omega
  refine Q8 (fun _=>dg) (fun h5=>Q7 (by omega) ?_);refine Y8 ?_ dg
  have h5:=of_decide_eq_false h5;have h6:=hp.1
  rw [decide_eq_true (by omega:97≤sAt s (i:Nat)),Bool.true_and,decide_eq_false_iff_not] at h6;exact decide_eq_true (by omega)
 ·rw [Bool.not_eq_false',Bool.or_eq_true] at hp
  unfold Z1J Z7T at hp;rw [Bool.and_eq_true,Bool.and_eq_true,decide_eq_true_eq,decide_eq_true_eq,decide_eq_true_eq,decide_eq_true_eq] at hp
  unfold Q7C;have k2:G3 F (i:Int) again false=z:=by unfold G3;exact Z8 rfl (Q7 (Z5 (by omega) (by omega)) hz)
  refine Y8 (decide_eq_true (by omega)) (Q7 (by omega) ?_);refine Q8 (fun h5=>?_) (fun h5=>?_)
  ·have h5:=of_decide_eq_true h5
   refine Q7 (by omega) (Z8 (decide_eq_false (by omega)) (Q7 (by omega) ?_));rw [decide_eq_false (p:=57<sAt s (i:Nat)) (by omega)];exact k2
  ·have h5:=of_decide_eq_false h5
   refine Q7 (by omega) (Q8 (fun h6=>?_) (fun h6=>k2));have h6:=of_decide_eq_true h6
   refine Q7 (by omega) (Z8 (decide_eq_false (by omega)) (Q7 (by omega) ?_));rw [decide_eq_false (p:=57<sAt s (i:Nat)) (by omega)];exact k2
 ·unfold Q7C
  exact Z8 (decide_eq_false (by omega)) rfl
 ·rw [hz]
  split
  ·rename_i hh
   congr 1
   symm
   rw [decide_eq_false_iff_not];intro hall
   obtain ⟨i,hi,hp⟩:=List.any_eq_true.1 hh;have:=hall i (List.mem_range.1 hi)
   rw [Bool.not_eq_true',Bool.or_eq_false_iff] at hp;rw [hp.1,hp.2] at this
   simp at this
  ·rename_i hh
   congr 1
   symm
   rw [decide_eq_true_eq];intro i hi
   rw [Bool.not_eq_true,List.any_eq_false] at hh;have:=hh i (List.mem_range.2 hi)
   rw [Bool.not_eq_true,Bool.not_eq_false'] at this
   by_cases h0:i=0
   ·subst h0;rw [show (((0:Nat):Int))=0 from rfl,hl0];rfl
   ·rw [decide_eq_false h0];simpa using this
theorem Z9t {body:(Int→Option Int)→Int→Option Int} (N:Nat) (p:Nat→Int)
  (bad:∀ again (i:Nat),i<N→p i≠0→body again (i:Int)=some (p i)) (good:∀ again (i:Nat) z,i<N→p i=0→again ((i:Int)+1)=z→body again (i:Int)=z)
  (stop:∀ again,body again (N:Int)=some 0) {F:Nat} (hF:N<F):Z4 body F 0=some ((((List.range N).map p).find? fun c=>c != 0).getD 0):=by
 refine W2 (fun z:Int=>∃ i:Nat,z=i∧i≤N∧∀ j,j<i→p j=0) (fun z=>N-z.toNat) (fun again z hz ih=>?_) ⟨0,rfl,Nat.zero_le _,fun j h=>absurd h (Nat.not_lt_zero j)⟩ (by simp;omega);obtain ⟨i,rfl,hi,hp⟩:=hz
 rcases Nat.lt_or_ge i N with h|h
 ·by_cases hpi:p i=0
  ·refine good again i _ h hpi (ih _ ⟨i+1,by omega,h,fun j hj=>?_⟩ (by omega))
   by_cases hji:j=i
   ·rw [hji];exact hpi
   ·exact hp j (by omega)
  ·rw [bad again i h hpi]
   congr 1
   have e:List.range N=List.range i++i::(List.range N).drop (i+1):=by
    have h1:(List.range N).take i=List.range i:=by rw [List.take_range];congr 1;omega
    have h2:=List.take_append_drop i (List.range N);rw [h1,List.drop_eq_getElem_cons (by simpa using h)] at h2
    rw [List.getElem_range] at h2;exact h2.symm
   have h3:(((List.range i).map p).find? fun c=>c != 0)=none:=List.find?_eq_none.2 fun c hc=>by
    obtain ⟨j,hj,rfl⟩:=List.mem_map.1 hc;rw [hp j (List.mem_range.1 hj)];simp
   rw [e,List.map_append,List.find?_append,h3,Option.none_or,List.map_cons,List.find?_cons];have:(p i != 0)=true:=by simpa using hpi
   rw [this];rfl
 ·have:i=N:=by omega
  subst this;rw [stop again]
  congr 1
  have h3:(((List.range i).map p).find? fun c=>c != 0)=none:=List.find?_eq_none.2 fun c hc=>by
   obtain ⟨j,hj,rfl⟩:=List.mem_map.1 hc;rw [hp j (List.mem_range.1 hj)];simp
  rw [h3];rfl
def crE (l:List Crop) (i:Nat):Int:=
 if Q1c (gl l i).n_=false then 5 else if (gl l i).f_<0∨40<(gl l i).f_ then 2 else if (gl l i).m_<0∨31<(gl l i).m_ then 14
 else if 0<i∧(sLt (gl l i).n_ (gl l (i-1)).n_||sEq (gl l i).n_ (gl l (i-1)).n_)=true then 6 else 0
def crC (l:List Crop):Int:=if 40<l.length then 1 else (((List.range l.length).map (crE l)).find? fun c=>c != 0).getD 0
def NmS (l:List Crop):Prop:=∀ x ∈ l,x.n_.size≤4294967296
theorem Y6m {l:List Crop} {i:Nat} (h:Q1c (gl l i).n_=false):crE l i=5:=by unfold crE;rw [if_pos h]
theorem Y6n {l:List Crop} {i:Nat} (h:Q1c (gl l i).n_=true) (h2:(gl l i).f_<0∨40<(gl l i).f_):crE l i=2:=by
 unfold crE;rw [if_neg (by rw [h];simp),if_pos h2]
theorem Y6o {l:List Crop} {i:Nat} (h:Q1c (gl l i).n_=true) (h2:¬ ((gl l i).f_<0∨40<(gl l i).f_)) (h3:(gl l i).m_<0∨31<(gl l i).m_):crE l i=14:=by
 unfold crE;rw [if_neg (by rw [h];simp),if_neg h2,if_pos h3]
theorem Y6l {l:List Crop} {i:Nat} (h:Q1c (gl l i).n_=true) (h2:¬ ((gl l i).f_<0∨40<(gl l i).f_)) (h3:¬ ((gl l i).m_<0∨31<(gl l i).m_))
  (h4:0<i∧(sLt (gl l i).n_ (gl l (i-1)).n_||sEq (gl l i).n_ (gl l (i-1)).n_)=true):crE l i=6:=by
 unfold crE;rw [if_neg (by rw [h];simp),if_neg h2,if_neg h3,if_pos h4]
theorem Y4Y {l:List Crop} {i:Nat} (h:Q1c (gl l i).n_=true) (h2:¬ ((gl l i).f_<0∨40<(gl l i).f_)) (h3:¬ ((gl l i).m_<0∨31<(gl l i).m_))
  (h4:¬ (0<i∧(sLt (gl l i).n_ (gl l (i-1)).n_||sEq (gl l i).n_ (gl l (i-1)).n_)=true)):crE l i=0:=by
 unfold crE;rw [if_neg (by rw [h];simp),if_neg h2,if_neg h3,if_neg h4]
theorem Z2H {F:Nat} (hF:BIG≤F) {l:List Crop} (hn:NmS l):y5 F l=some (crC l):=by
 have hF':=hF;unfold BIG at hF
 unfold y5 crC;refine Q8 (fun h=>?_) (fun h=>?_)
 ·rw [if_pos (by have:=of_decide_eq_true h;omega)]
 have hl:l.length≤40:=by have:=of_decide_eq_false h;omega
 rw [if_neg (by omega)];have main:∀ (again:Int→Option Int) (i:Nat),i<l.length→Q7G F l again (i:Int)=if crE l i=0 then again ((i:Int)+1) else some (crE l i):=by
  intro again i hi;unfold Q7G
  simp only [Int.toNat_natCast];have hs:=hn _ (U7 hi)
  refine Y8 (decide_eq_true (by omega)) (Q7 (by omega) (Q6 (Z7G (by omega) hs) ?_));refine Q8 (fun h1=>?_) (fun h1=>?_)
  ·have h1:Q1c (gl l i).n_=false:=by simpa using h1
   rw [Y6m h1,if_neg (by decide)]
  have h1:Q1c (gl l i).n_=true:=by simpa using h1
  have k1t:(gl l i).f_<0∨40<(gl l i).f_→Q3q F l (i:Int) again true=if crE l i=0 then again ((i:Int)+1) else some (crE l i):=fun h=>by
   rw [Y6n h1 h,if_neg (by decide)];unfold Q3q
   exact Y8 rfl rfl
  refine Q8 (fun h2=>k1t (.inl (of_decide_eq_true h2))) (fun h2=>?_);have h2:=of_decide_eq_false h2
  by_cases h3:40<(gl l i).f_
  ·rw [decide_eq_true h3];exact k1t (.inr h3)
  have hf:¬ ((gl l i).f_<0∨40<(gl l i).f_):=by omega
  rw [decide_eq_false h3];unfold Q3q
  simp only [Int.toNat_natCast];refine Z8 rfl ?_
  have k2t:(gl l i).m_<0∨31<(gl l i).m_→Q3p F l (i:Int) again true=if crE l i=0 then again ((i:Int)+1) else some (crE l i):=fun h=>by
   rw [Y6o h1 hf h,if_neg (by decide)];unfold Q3p
   exact Y8 rfl rfl
  refine Q8 (fun h4=>k2t (.inl (of_decide_eq_true h4))) (fun h4=>?_);have h4:=of_decide_eq_false h4
  by_cases h5:31<(gl l i).m_
  ·rw [decide_eq_true h5];exact k2t (.inr h5)
  have hm:¬ ((gl l i).m_<0∨31<(gl l i).m_):=by omega
  rw [decide_eq_false h5];unfold Q3p
  simp only [Int.toNat_natCast];refine Z8 rfl ?_
  refine Q8 (fun h6=>?_) (fun h6=>?_)
  ·have h6:0<i:=by have:=of_decide_eq_true h6;omega
   have e1:((i:Int)-1).toNat=i-1:=by omega
   refine Q7 (Z5 (by omega) (by omega)) (Q7 (by omega) ?_);rw [e1]
   unfold Q5s;refine Q8 (fun h7=>?_) (fun h7=>?_)
   ·rw [Y6l h1 hf hm ⟨h6,h7⟩,if_neg (by decide)]
   ·rw [Y4Y h1 hf hm (fun hh=>by rw [hh.2] at h7;cases h7),if_pos rfl]
    exact Q7 (Z5 (by omega) (by omega)) rfl
  ·have h6:¬ 0<i:=by have:=of_decide_eq_false h6;omega
   rw [Y4Y h1 hf hm (fun hh=>h6 hh.1),if_pos rfl];unfold Q5s
   exact Z8 rfl (Q7 (Z5 (by omega) (by omega)) rfl)
 refine Z9t l.length (crE l) (fun again i hi hp=>?_) (fun again i z hi hp hz=>?_) (fun again=>?_) (by omega)
 ·rw [main again i hi,if_neg hp]
 ·rw [main again i hi,if_pos hp];exact hz
 ·unfold Q7G
  exact Z8 (decide_eq_false (by omega)) rfl
theorem Z6c {F:Nat} (hF:BIG≤F) (l:List Crop):Q0D F l=some (crC l):=by
 have hF':=hF;unfold BIG at hF
 unfold Q0D crC;refine Q8 (fun h=>?_) (fun h=>?_)
 ·rw [if_pos (by have:=of_decide_eq_true h;omega)]
 have hl:l.length≤40:=by have:=of_decide_eq_false h;omega
 rw [if_neg (by omega)];have one:∀ x:Crop,Z0x F x=some (if Q1c x.n_=false then 5 else if x.f_<0∨40<x.f_ then 2 else if x.m_<0∨31<x.m_ then 14 else 0):=by
  intro x;unfold Z0x
  refine Q6 (Z6R hF' _) ?_;refine Q8 (fun h1=>?_) (fun h1=>?_)
  ·have h1:Q1c x.n_=false:=by simpa using h1
   rw [if_pos h1]
  have h1:Q1c x.n_=true:=by simpa using h1
  rw [if_neg (by rw [h1];simp)];have k0t:x.f_<0∨40<x.f_→Q4G F x true=some (if x.f_<0∨40<x.f_ then 2 else if x.m_<0∨31<x.m_ then 14 else 0):=fun h=>by
   rw [if_pos h];unfold Q4G;exact Y8 rfl rfl
  refine Q8 (fun h2=>k0t (.inl (of_decide_eq_true h2))) (fun h2=>?_);have h2:=of_decide_eq_false h2
  by_cases h3:40<x.f_
  ·rw [decide_eq_true h3];exact k0t (.inr h3)
  rw [decide_eq_false h3,if_neg (by omega)];unfold Q4G
  refine Z8 rfl ?_;have k1t:x.m_<0∨31<x.m_→Q4F F true=some (if x.m_<0∨31<x.m_ then 14 else 0):=fun h=>by
   rw [if_pos h];unfold Q4F;exact Y8 rfl rfl
  refine Q8 (fun h4=>k1t (.inl (of_decide_eq_true h4))) (fun h4=>?_);have h4:=of_decide_eq_false h4
  by_cases h5:31<x.m_
  ·rw [decide_eq_true h5];exact k1t (.inr h5)
  rw [decide_eq_false h5,if_neg (by omega)];unfold Q4F
  exact Z8 rfl rfl
 have main:∀ (again:Int→Option Int) (i:Nat),i<l.length→Q6u F l again (i:Int)=if crE l i=0 then again ((i:Int)+1) else some (crE l i):=by
  intro again i hi;unfold Q6u
  simp only [Int.toNat_natCast];refine Y8 (decide_eq_true (by omega)) (Q7 (by omega) (Q6 (one _) ?_))
  by_cases h0:(if Q1c (gl l i).n_=false then (5:Int) else if (gl l i).f_<0∨40<(gl l i).f_ then 2 else if (gl l i).m_<0∨31<(gl l i).m_ then 14 else 0)=0
  ·have h1:¬ Q1c (gl l i).n_=false:=fun h=>by rw [if_pos h] at h0;cases h0
   rw [if_neg h1] at h0;have h2:¬ ((gl l i).f_<0∨40<(gl l i).f_):=fun h=>by rw [if_pos h] at h0;cases h0
   rw [if_neg h2] at h0;have h3:¬ ((gl l i).m_<0∨31<(gl l i).m_):=fun h=>by rw [if_pos h] at h0;cases h0
   rw [if_neg h3] at h0;have hn1:Q1c (gl l i).n_=true:=by simpa using h1
   rw [if_neg h1,if_neg h2,if_neg h3];refine Z8 rfl ?_
   refine Q8 (fun h6=>?_) (fun h6=>?_)
   ·have h6:0<i:=by have:=of_decide_eq_true h6;omega
    have e1:((i:Int)-1).toNat=i-1:=by omega
    refine Q7 (Z5 (by omega) (by omega)) (Q7 (by omega) ?_);rw [e1]
    unfold Q4d;refine Q8 (fun h7=>?_) (fun h7=>?_)
    ·rw [Y6l hn1 h2 h3 ⟨h6,h7⟩,if_neg (by decide)]
    ·rw [Y4Y hn1 h2 h3 (fun hh=>by rw [hh.2] at h7;cases h7),if_pos rfl]
     exact Q7 (Z5 (by omega) (by omega)) rfl
   ·have h6:¬ 0<i:=by have:=of_decide_eq_false h6;omega
    rw [Y4Y hn1 h2 h3 (fun hh=>h6 hh.1),if_pos rfl];unfold Q4d
    exact Z8 rfl (Q7 (Z5 (by omega) (by omega)) rfl)
  ·have h5:crE l i=if Q1c (gl l i).n_=false then (5:Int) else if (gl l i).f_<0∨40<(gl l i).f_ then 2 else if (gl l i).m_<0∨31<(gl l i).m_ then 14 else 0:=by
    unfold crE;split
    ·rfl
    ·split
     ·rfl
     ·split
      ·rfl
      ·rename_i g1 g2 g3
       rw [if_neg g1,if_neg g2,if_neg g3] at h0;exact absurd rfl h0
   rw [h5,if_neg h0];exact Y8 (by simpa using h0) rfl
 refine Z9t l.length (crE l) (fun again i hi hp=>?_) (fun again i z hi hp hz=>?_) (fun again=>?_) (by omega)
 ·rw [main again i hi,if_neg hp]
 ·rw [main again i hi,if_pos hp];exact hz
 ·unfold Q6u
  exact Z8 (decide_eq_false (by omega)) rfl
theorem CropT.nm {l:List Crop} (h:CropT l):NmS l:=fun x hx=>by
 obtain ⟨i,hi,rfl⟩:=List.getElem_of_mem hx;have h1:=(h.one i hi).1
 have:=h.len
 rw [Q9o l i hi] at h1;rw [h1]
 have:=(Y0S i (by omega)).2
 omega
end
end Go.Ab
end
section
namespace Go.Ab
set_option maxRecDepth 20000
noncomputable section
def fs1 (a:Int×Int) (x:A2_):Int×Int:=if a.1<x.e1_ then (x.e1_,a.1) else (a.1,Q8n a.2 x.e1_)
def fs2 (P:List A2_):Int×Int:=P.foldl fs1 (0,0)
theorem Z7g (P:List A2_) (x:A2_):fs2 (P++[x])=fs1 (fs2 P) x:=by unfold fs2;rw [List.foldl_append];rfl
theorem Y4Q (a b:Int):a≤Q8n a b∧b≤Q8n a b∧(Q8n a b=a∨Q8n a b=b):=by
 unfold Q8n;split <;> omega
theorem Y3F {P:List A2_} (h:∀ p ∈ P,0≤p.e1_∧p.e1_≤5368709120):∀ i,i≤P.length→0≤(fs2 (P.take i)).1∧(fs2 (P.take i)).1≤5368709120∧0≤(fs2 (P.take i)).2∧(fs2 (P.take i)).2≤5368709120:=by
 intro i
 induction i with
 | zero=>intro _;simp [fs2]
 | succ i ih=>
  intro hi;have h1:=ih (by omega)
  have h2:=h _ (U7 (by omega:i<P.length));rw [J9 (by omega),Z7g]
  unfold fs1;have h3:=Y4Q (fs2 (P.take i)).2 (gl P i).e1_
  split
  ·simp only;omega
  ·simp only;omega
def Y5P (small large tot a b n:Int):Bool:=
 decide (tot≤small)||(if tot≤large then decide (2≤n)&&decide (4*a≤3*tot) else decide (3≤n)&&(decide (4*a≤3*tot)&&decide (20*(a+b)≤19*tot)))
def Y0O (small large:Int) (P:List A2_):Bool:=Y5P small large (Q7Y P) (fs2 P).1 (fs2 P).2 (P.length:Nat)
def Z9N (kc:Int) (cs:List Crop) (l:List Line) (small large:Int):Bool×Int:=
 if Q3v kc (cs.length:Nat) l=0 then (if small<0∨large<small∨268435456<large then (false,2) else (Y0O small large (K9 cs l),0)) else (false,Q3v kc (cs.length:Nat) l)
theorem Q9I {kc K:Int} {l:List Line} (h0:Q3v kc K l=0):kc=0:=by
 unfold Q3v at h0;split at h0
 ·cases h0
 ·split at h0
  ·exact h0
  ·rename_i hh;simpa using hh
theorem Q4P {F:Nat} (hF:BIG≤F) {l:List Line} {cs:List Crop} {kc:Int} (hc:y5 F cs=some kc) (small large:Int):J2 F l cs small large=some (Z9N kc cs l small large):=by
 have hF':=hF;unfold BIG at hF
 unfold J2 Z9N;refine Q6 (Q3M hF' hc) ?_
 by_cases h0:Q3v kc (cs.length:Nat) l=0
 ·rw [if_pos h0,if_pos h0]
  have hk:=Q9I h0;subst hk
  have hg:=Q2x.1 h0;have hbd:=Z8V (cs:=cs) hg
  have hfl:=Z4R cs l;have hl:=hg.len
  refine Z8 rfl ?_;have bad:small<0∨large<small∨268435456<large→G8 F small large (K9 cs l,0) true=some (if small<0∨large<small∨268435456<large then (false,2) else (Y0O small large (K9 cs l),0)):=fun h=>by
   rw [if_pos h];unfold G8
   exact Y8 rfl rfl
  refine Q8 (fun h1=>bad (.inl (of_decide_eq_true h1))) (fun h1=>Q8 (fun h2=>bad (.inr (.inl (of_decide_eq_true h2)))) (fun h2=>?_));have h1:=of_decide_eq_false h1
  have h2:=of_decide_eq_false h2
  by_cases h3:268435456<large
  ·rw [decide_eq_true h3];exact bad (.inr (.inr h3))
  rw [decide_eq_false h3,if_neg (by omega)];unfold G8
  refine Z8 rfl ?_;refine W2 (fun z:Int×Int×Int×Int=>∃ i:Nat,z.2.2.2=i∧i≤(K9 cs l).length∧z.1=Q7Y ((K9 cs l).take i)∧(z.2.1,z.2.2.1)=fs2 ((K9 cs l).take i)) (fun z=>(K9 cs l).length-z.2.2.2.toNat) (fun again z hz ih=>?_) ⟨0,rfl,by omega,rfl,rfl⟩ (by simp only;omega)
  obtain ⟨tot,a,b,i0⟩:=z;obtain ⟨i,rfl,hi,rfl,hab⟩:=hz
  simp only at hab ⊢;have ha:a=(fs2 ((K9 cs l).take i)).1:=congrArg Prod.fst hab
  have hb:b=(fs2 ((K9 cs l).take i)).2:=congrArg Prod.snd hab;have fb:=Y3F hbd i hi
  have tb:=Z8C (P:=(K9 cs l).take i) fun p hp=>hbd p (List.mem_of_mem_take hp)
  have tl:((K9 cs l).take i).length≤20:=by rw [List.length_take];omega
  unfold Q8q;simp only [Int.toNat_natCast]
  refine Q8 (fun h4=>?_) (fun h4=>?_)
  ·have h4:i<(K9 cs l).length:=by simpa using h4
   have hp:=hbd _ (U7 h4);have hs:Q7Y ((K9 cs l).take (i+1))=Q7Y ((K9 cs l).take i)+(gl (K9 cs l) i).e1_:=by rw [J9 h4,Z7X]
   have hf:fs2 ((K9 cs l).take (i+1))=fs1 (fs2 ((K9 cs l).take i)) (gl (K9 cs l) i):=by rw [J9 h4,Z7g]
   have k2:∀ a' b',(a',b')=fs2 ((K9 cs l).take (i+1))→Q0Q F (K9 cs l,0) (Q7Y ((K9 cs l).take i)) (i:Int) again a' b'=some (Y0O small large (K9 cs l),0):=fun a' b' hab'=>by
    unfold Q0Q;simp only [Int.toNat_natCast]
    exact Q7 (Z5 (by omega) (by omega)) (ih _ ⟨i+1,by simp,h4,hs.symm,hab'⟩ (by simp only;omega))
   refine Q7 (by omega) (Q7 (Z5 (by omega) (by omega)) ?_);refine Q8 (fun h5=>k2 _ _ ?_) (fun h5=>k2 _ _ ?_)
   ·have h5:=of_decide_eq_true h5
    rw [hf];unfold fs1
    rw [if_pos (by rw [← ha];exact h5), ← ha]
   ·have h5:=of_decide_eq_false h5
    rw [hf];unfold fs1
    rw [if_neg (by rw [← ha];exact h5), ← ha, ← hb]
  ·have h4:i=(K9 cs l).length:=by
    have:¬ i<(K9 cs l).length:=by simpa using h4
    omega
   subst h4;rw [List.take_length] at ha hb fb tb ⊢
   rw [← ha, ← hb] at fb;have hn:((K9 cs l).length:Int)≤20:=by omega
   unfold Q4Q Y0O Y5P;rw [← ha, ← hb]
   refine Q8 (fun h5=>?_) (fun h5=>?_)
   ·rw [h5,Bool.true_or]
   rw [h5,Bool.false_or];refine Q8 (fun h6=>?_) (fun h6=>?_)
   ·have h6:=of_decide_eq_true h6
    rw [if_pos h6];refine Q8 (fun h7=>?_) (fun h7=>?_)
    ·refine Q7 (Z5 (by omega) (by omega)) (Q7 (Z5 (by omega) (by omega)) ?_)
     unfold Q0P;rw [h7,Bool.true_and]
    ·unfold Q0P
     rw [h7,Bool.false_and]
   ·have h6:=of_decide_eq_false h6
    rw [if_neg h6];refine Q8 (fun h7=>?_) (fun h7=>?_)
    ·rw [h7,Bool.true_and]
     refine Q7 (Z5 (by omega) (by omega)) (Q7 (Z5 (by omega) (by omega)) ?_);refine Q8 (fun h8=>?_) (fun h8=>?_)
     ·refine Q7 (Z5 (by omega) (by omega)) (Q7 (Z5 (by omega) (by omega)) (Q7 (Z5 (by omega) (by omega)) ?_))
      unfold G7;rw [h8,Bool.true_and]
     ·unfold G7
      rw [h8,Bool.false_and]
    ·unfold G7
     rw [h7,Bool.false_and]
 ·rw [if_neg h0,if_neg h0]
  exact Y8 (by simpa using h0) rfl
def Q6V (A:List Line):Int:=(A.map arX).sum
theorem Y2K (cs:List Crop) (A:List Line):∀ (P:List A2_),P.Pairwise (fun a b=>a.e0_<b.e0_)→(∀ p ∈ P,p.e1_=Q5X cs p.e0_ A)→(∀ x ∈ A,∃ p ∈ P,p.e0_=K6 cs x)→Q7Y P=Q6V A:=by
 induction A with
 | nil=>
  intro P _ h2 _;have:∀ P:List A2_,(∀ p ∈ P,p.e1_=0)→Q7Y P=0:=by
   intro P
   induction P with
   | nil=>intro _;rfl
   | cons p P ih=>
    intro h;have h1:=h p List.mem_cons_self
    have h5:=ih fun q hq=>h q (List.mem_cons_of_mem _ hq)
    unfold Q7Y at h5 ⊢;rw [List.map_cons,List.sum_cons,h1,h5];rfl
  exact this P fun p hp=>by rw [h2 p hp];rfl
 | cons x A ih=>
  intro P h1 h2 h3
  let P':=P.map fun p=>(⟨p.e0_,Q5X cs p.e0_ A⟩:A2_)
  have h5:Q7Y P'=Q6V A:=by
   refine ih P' ?_ (fun p hp=>?_) (fun y hy=>?_)
   ·rw [List.pairwise_map];exact h1
   ·obtain ⟨q,_,rfl⟩:=List.mem_map.1 hp;rfl
   ·obtain ⟨p,hp,hpe⟩:=h3 y (List.mem_cons_of_mem _ hy)
    exact ⟨_,List.mem_map.2 ⟨p,hp,rfl⟩,hpe⟩
  have hs:∀ f,Q5X cs f (x::A)=(if K6 cs x=f then arX x else 0)+Q5X cs f A:=fun f=>by
   unfold Q5X
   by_cases h:K6 cs x=f
   ·rw [if_pos h,List.filter_cons,if_pos (by simpa using h)];simp
   ·rw [if_neg h,List.filter_cons,if_neg (by simpa using h)];simp
  have key:∀ Q:List A2_,Q.Pairwise (fun a b=>a.e0_<b.e0_)→(∀ p ∈ Q,p.e1_=Q5X cs p.e0_ (x::A))→Q7Y Q=Q7Y (Q.map fun p=>(⟨p.e0_,Q5X cs p.e0_ A⟩:A2_))+(if ∃ p ∈ Q,p.e0_=K6 cs x then arX x else 0):=by
   intro Q
   induction Q with
   | nil=>intro _ _;simp [Q7Y]
   | cons q Q ihq=>
    intro g1 g2;obtain ⟨g3,g4⟩:=List.pairwise_cons.1 g1
    have g5:=ihq g4 fun p hp=>g2 p (List.mem_cons_of_mem _ hp)
    have g6:=g2 q List.mem_cons_self;rw [hs] at g6
    unfold Q7Y at g5 ⊢;rw [List.map_cons,List.sum_cons,List.map_cons,List.map_cons,List.sum_cons,g5,g6]
    by_cases hq:K6 cs x=q.e0_
    ·have m1:∃ p,p ∈ q::Q∧p.e0_=K6 cs x:=⟨q,List.mem_cons_self,hq.symm⟩
     rw [if_pos hq,if_pos m1,if_neg]
     ·simp only;omega
     ·rintro ⟨p,hp,hpe⟩
      have:=g3 p hp
      omega
    ·rw [if_neg hq]
     by_cases hex:∃ p ∈ Q,p.e0_=K6 cs x
     ·have m2:∃ p,p ∈ q::Q∧p.e0_=K6 cs x:=by
       obtain ⟨p,hp,hpe⟩:=hex;exact ⟨p,List.mem_cons_of_mem _ hp,hpe⟩
      rw [if_pos hex,if_pos m2];simp only;omega
     ·rw [if_neg hex,if_neg]
      ·simp only;omega
      ·rintro ⟨p,hp,hpe⟩
       rcases List.mem_cons.1 hp with rfl|hp
       ·exact hq hpe.symm
       ·exact hex ⟨p,hp,hpe⟩
  obtain ⟨p,hp,hpe⟩:=h3 x List.mem_cons_self;have h6:=key P h1 h2
  rw [if_pos ⟨p,hp,hpe⟩] at h6;have h7:Q7Y (P.map fun p=>(⟨p.e0_,Q5X cs p.e0_ A⟩:A2_))=Q6V A:=h5
  unfold Q6V at h7 ⊢;rw [List.map_cons,List.sum_cons]
  omega
theorem Z9g (cs:List Crop) (l:List Line):Q7Y (K9 cs l)=Q6V (arL cs l):=
 Y2K cs (arL cs l) (K9 cs l) (Y1D cs l) (fun p hp=>((Z4Q cs l p).1 hp).2) fun x hx=>⟨⟨K6 cs x,Q5X cs (K6 cs x) (arL cs l)⟩,(Z4Q cs l _).2 ⟨⟨x,hx,rfl⟩,rfl⟩,rfl⟩
theorem Y4x {c:Int} {A:List Line} (h:∀ x ∈ A,0≤arX x∧arX x≤c):0≤Q6V A∧Q6V A≤c*(A.length:Nat):=by
 induction A with
 | nil=>simp [Q6V]
 | cons x A ih=>
  have h1:=h x List.mem_cons_self;have h2:=ih fun y hy=>h y (List.mem_cons_of_mem _ hy)
  unfold Q6V at h2 ⊢;have e:c*((x::A).length:Nat)=c*(A.length:Nat)+c:=by rw [List.length_cons];push_cast;rw [Int.mul_add,Int.mul_one]
  rw [List.map_cons,List.sum_cons,e];omega
theorem Z7F {F:Nat} (hF:BIG≤F):y5 F Q0n=some 0:=by
 rw [Z2H hF (fun x hx=>?_)]
 ·congr 1;decide +kernel
 ·have:∀ x ∈ Q0n,x.n_.size≤4294967296:=by decide +kernel
  exact this x hx
end
end Go.Ab
end
section
namespace Go.Ab
set_option maxRecDepth 20000
noncomputable section
theorem Y1E {cs:List Crop} {l:List Line} {P:List A2_} (h1:P.Pairwise fun a b=>a.e0_<b.e0_) (h2:((Q8m cs (arL cs l)).map mkP).Perm P):K9 cs l=P:=
 Y3e ((Q5u _).trans h2) (Z8X _) (h1.imp fun h=>by omega) fun a ha b hb _ _=>
  Y1r (Y1C cs l) ((Q5u _).mem_iff.1 ha) ((Q5u _).mem_iff.1 hb) (by omega)
theorem Y5Y:Q8m Q0n (arL Q0n Z0J)=[(2,80),(1,20)]:=by decide +kernel
theorem Y5W:Q8m Q0n (arL Q0n Q7S)=[(2,75),(1,25)]:=by decide +kernel
theorem Y6a:K9 Q0n Z0J=[⟨1,20⟩,⟨2,80⟩]:=by
 refine Y1E (by simp) ?_;rw [Y5Y]
 exact List.Perm.swap _ _ _
theorem Y4g:K9 Q0n Q7S=[⟨1,25⟩,⟨2,75⟩]:=by
 refine Y1E (by simp) ?_;rw [Y5W]
 exact List.Perm.swap _ _ _
theorem Y2H {c:Int} (h1:0<c) (h2:c<100):LG 2 [⟨0,⟨[⟨0,0,c,1⟩]⟩,1,0⟩,⟨0,⟨[⟨c,0,100,1⟩]⟩,0,0⟩]:=by
 refine ⟨by simp,fun x hx=>?_,fun x hx=>?_,?_⟩
 ·simp only [List.mem_cons,List.not_mem_nil,or_false] at hx
  rcases hx with rfl|rfl
  ·simp
  ·simp
 ·simp only [List.mem_cons,List.not_mem_nil,or_false] at hx
  rcases hx with rfl|rfl
  ·exact val_one (by rw [U8];simp only;omega)
  ·exact val_one (by rw [U8];simp only;omega)
 ·refine .cons (fun y hy=>?_) (.cons (fun y hy=>by simp at hy) .nil)
  rw [List.mem_singleton] at hy;subst hy
  intro u v g1 g2;rw [Q5C] at g1 g2
  obtain ⟨r,m1,k1⟩:=g1;obtain ⟨q,m2,k2⟩:=g2
  rw [List.mem_singleton] at m1 m2;subst m1 m2
  rw [Q1a] at k1 k2;simp only at k1 k2
  omega
theorem Y5Z:Q3v 0 (Q0n.length:Nat) Z0J=0:=Q2x.2 (Y2H (by omega) (by omega))
theorem Y4f:Q3v 0 (Q0n.length:Nat) Q7S=0:=Q2x.2 (Y2H (by omega) (by omega))
theorem Y6b:Z9N 0 Q0n Z0J 10 200=(false,0):=by
 unfold Z9N;rw [if_pos Y5Z,if_neg (by omega),Y6a]
 rfl
theorem Y5X:Z9N 0 Q0n Q7S 10 200=(true,0):=by
 unfold Z9N;rw [if_pos Y4f,if_neg (by omega),Y4g]
 rfl
theorem Z2h {F:Nat} (hF:BIG≤F) {P:List A2_} (h:P.length≤100):Q2I F P P=some true:=by
 unfold BIG at hF;unfold Q2I
 refine Z8 (by simp) ?_;refine Y5L P.length (fun again i hi ha=>?_) (fun again=>?_) (by omega)
 ·unfold Q8X
  simp only [Int.toNat_natCast];refine Y8 (decide_eq_true (by omega)) (Q7 (by omega) (Q7 (by omega) (Z8 (by simp) (Q7 (Z5 (by omega) (by omega)) ha))))
 ·unfold Q8X
  exact Z8 (decide_eq_false (by omega)) rfl
theorem Z6Z {F:Nat} (hF:BIG≤F):Q7R F=some true:=by
 unfold Q7R;refine Q6 (Q4P hF (Z7F hF) 10 200) (Q6 (Q4P hF (Z7F hF) 10 200) (Q6 (Q3M hF (Z7F hF)) ?_))
 rw [Y6b,Y5X,if_pos Y4f,Y4g];refine Q7 rfl (Q7 rfl (Q7 rfl (Q6 (Z2h hF (by simp)) (Q7 rfl rfl))))
end
end Go.Ab
end
section
namespace Go.Ab
set_option maxRecDepth 20000
noncomputable section
end
end Go.Ab
end
section
namespace Go.Ab
set_option maxRecDepth 20000
noncomputable section
def Y4J (cs:List Crop) (L:List Line) (H:List Rg_) (year m:Int) (u v:Int):Prop:=
 ∃ x ∈ arL cs L,inR x.g_.t_ u v=true∧m-1≤year∧∀ y,year-m+1≤y→y≤year-1→inR (yrs H y fun c=>decide ((gl cs c.toNat).f_=K6 cs x)) u v=true
theorem Z1e (F:Nat) (u v:Bool):Q2d F u v=some (u&&v):=by cases u <;> cases v <;> rfl
theorem Z1Y {F:Nat} (hF:BIG≤F) {cs:List Crop} {L:List Line} {H:List Rg_} (hg:LG (cs.length:Nat) L) (hH:HisT (cs.length:Nat) H) (hl:H.length≤8) {year m:Int} (hy:0≤year∧year≤100) (hm:2≤m∧m≤10) :
  ∃ T,Q0e F L cs H year m=some T∧Box 9 T∧T.length≤900∧area T=sq (inR T)∧∀ u v,inR T u v=true↔Y4J cs L H year m u v:=by
 have hF':=hF;unfold BIG at hF
 unfold Q0e
 by_cases h1:year<m-1
 ·refine ⟨[],Q7 (Z5 (by omega) (by omega)) (Y8 (decide_eq_true h1) rfl),fun r hr=>by simp at hr,by simp,(Y1g).symm,fun u v=>⟨fun h=>by simp [inR] at h,fun ⟨x,_,_,h,_⟩=>by omega⟩⟩
 have hll:=hg.len;have hal:=Q6Q cs L
 have key:∀ (n f i:Nat) (acc:List Rect),(arL cs L).length-i=n→i≤(arL cs L).length→n<f→Box 9 acc→acc.length≤45*i→area acc=sq (inR acc) →
   (∀ u v,inR acc u v=true↔∃ x ∈ (arL cs L).take i,inR x.g_.t_ u v=true∧∀ y,year-m+1≤y→y≤year-1→inR (yrs H y fun c=>decide ((gl cs c.toNat).f_=K6 cs x)) u v=true) →
   ∃ T,Z4 (fun again (z:Int×(List Rect))=>y7 F cs H year m (arL cs L) again z.1 z.2) f ((i:Int),acc)=some T∧Box 9 T∧T.length≤900∧area T=sq (inR T) ∧
    ∀ u v,inR T u v=true↔∃ x ∈ arL cs L,inR x.g_.t_ u v=true∧∀ y,year-m+1≤y→y≤year-1→inR (yrs H y fun c=>decide ((gl cs c.toNat).f_=K6 cs x)) u v=true:=by
  intro n
  induction n with
  | zero=>
   intro f i acc hn hi hf hb hlen har hin;have hi:i=(arL cs L).length:=by omega
   subst hi
   cases f with
   | zero=>omega
   | succ f=>
    rw [List.take_length] at hin;refine ⟨acc,?_,hb,by omega,har,hin⟩
    show y7 F cs H year m (arL cs L) _ _ acc=_;unfold y7
    exact Z8 (decide_eq_false (by omega)) rfl
  | succ n ih=>
   intro f i acc hn hi hf hb hlen har hin
   cases f with
   | zero=>omega
   | succ f=>
    have hi1:i<(arL cs L).length:=by omega
    have hmem:gl (arL cs L) i ∈ L:=(List.mem_filter.1 (U7 hi1)).1;have hcr:=hg.crop _ hmem
    have hv:=hg.val _ hmem;obtain ⟨T,t1,t2,t3,t4⟩:=Z6g hF' hH hl (a:=year-m+1) (b:=year-1) (by omega) (by omega) (by omega) (K6 cs (gl (arL cs L) i))
    have hfin:Fin fun u v=>inR (gl (arL cs L) i).g_.t_ u v&&inR T u v:=Z8U _ _
    have hbox:Box 9 (cn fun u v=>inR (gl (arL cs L) i).g_.t_ u v&&inR T u v):=(K5.cn hfin).box fun u v hh=>by
     rw [Q0N hfin,Bool.and_eq_true] at hh;exact Q9t t2 hh.2
    have h45:=K5.half (K5.cn hfin) (n:=9) hbox;have hdis:∀ u v,inR acc u v=true→(inR (gl (arL cs L) i).g_.t_ u v&&inR T u v)=true→False:=fun u v g1 g2=>by
     obtain ⟨x,hx,hxin,_⟩:=(hin u v).1 g1;rw [Bool.and_eq_true] at g2
     obtain ⟨j,hj,rfl⟩:=List.getElem_of_mem hx;rw [List.length_take] at hj
     rw [List.getElem_take] at hxin;rw [Q9o _ _ hi1] at g2
     exact List.pairwise_iff_getElem.1 (hg.apart.filter (Z3o cs)) j i (show j<(arL cs L).length by omega) hi1 (by omega) u v hxin g2.1
    have hsum:area (acc++cn fun u v=>inR (gl (arL cs L) i).g_.t_ u v&&inR T u v)=sq (inR (acc++cn fun u v=>inR (gl (arL cs L) i).g_.t_ u v&&inR T u v)):=by
     have hvc:=Y2F (n:=9) hfin (by omega) fun u v h=>by
      rw [Bool.and_eq_true] at h;exact Q9t t2 h.2
     have e1:inR (acc++cn fun u v=>inR (gl (arL cs L) i).g_.t_ u v&&inR T u v)=fun u v=>inR acc u v||(inR (gl (arL cs L) i).g_.t_ u v&&inR T u v):=by
      funext u v
      rw [Z4a,Q0N hfin]
     have e2:inR (cn fun u v=>inR (gl (arL cs L) i).g_.t_ u v&&inR T u v)=fun u v=>inR (gl (arL cs L) i).g_.t_ u v&&inR T u v:=by
      funext u v
      rw [Q0N hfin]
     have e3:area (acc++cn fun u v=>inR (gl (arL cs L) i).g_.t_ u v&&inR T u v)=area acc+area (cn fun u v=>inR (gl (arL cs L) i).g_.t_ u v&&inR T u v):=by
      unfold area;rw [List.map_append,List.sum_append]
     rw [e3,har,hvc.1.area,e1,e2,Z3J,Z3J,Z3J];exact (Y3S hdis).symm
    obtain ⟨R,r1,r2⟩:=ih f (i+1) (acc++cn fun u v=>inR (gl (arL cs L) i).g_.t_ u v&&inR T u v) (by omega) (by omega) (by omega)
     (fun r hr=>by rcases List.mem_append.1 hr with h|h;exact hb r h;exact hbox r h) (by rw [List.length_append];omega) hsum (fun u v=>by
      rw [Z4a,Bool.or_eq_true,hin,Q0N hfin,Bool.and_eq_true,t4,J9 hi1];constructor
      ·rintro (⟨x,hx,h⟩|h)
       ·exact ⟨x,List.mem_append.2 (.inl hx),h⟩
       ·exact ⟨_,List.mem_append.2 (.inr (List.mem_singleton.2 rfl)),h⟩
      ·rintro ⟨x,hx,h⟩
       rcases List.mem_append.1 hx with hx|hx
       ·exact .inl ⟨x,hx,h⟩
       ·rw [List.mem_singleton] at hx
        subst hx;exact .inr h)
    refine ⟨R,?_,r2⟩;show y7 F cs H year m (arL cs L) _ (i:Int) acc=_
    unfold y7;simp only [Int.toNat_natCast]
    refine Y8 (decide_eq_true (by omega)) (Q7 (by omega) (Q7 (Z5 (by omega) (by omega)) (Q7 (Z5 (by omega) (by omega)) (Q7 (Z5 (by omega) (by omega)) (Q7 hcr (Q6 t1 ?_))))));refine Q6 (Z0q hF' (k:=fun u v=>u&&v) (by have:=hv.1;omega) (Z4H hv.2.1) (Z4H (Q7U t2)) rfl (Z1e F)) ?_
    exact Q7 (by unfold LIM;omega) (Q7 (Z5 (by omega) (by omega)) r1)
 obtain ⟨T,t1,t2,t3,t5,t4⟩:=key (arL cs L).length F 0 [] (by omega) (by omega) (by omega) (fun r hr=>by simp at hr) (by simp) Y1g.symm (fun u v=>by simp [inR]);refine ⟨T,Q7 (Z5 (by omega) (by omega)) (Z8 (decide_eq_false h1) (Q6 (Q2M hF' hg) t1)),t2,t3,t5,fun u v=>?_⟩
 rw [t4];unfold Y4J
 constructor
 ·rintro ⟨x,hx,h2,h3⟩;exact ⟨x,hx,h2,by omega,h3⟩
 ·rintro ⟨x,hx,h2,_,h3⟩;exact ⟨x,hx,h2,h3⟩
end
end Go.Ab
end
section
namespace Go.Ab
set_option maxRecDepth 20000
noncomputable section
end
end Go.Ab
end
section
namespace Go.Ab
set_option maxRecDepth 20000
noncomputable section
def Z9R (cs:List Crop) (x:Line):Bool:=Q6O .i64 (gl cs x.c_.toNat).m_ 28 != 0
def Z3n (cs:List Crop) (A:List Line):Int:=Q6V (A.filter (Z9R cs))
theorem Z8b (A:List Line) (x:Line):Q6V (A++[x])=Q6V A+arX x:=by unfold Q6V;simp
theorem Z5B (cs:List Crop) (A:List Line) (x:Line):Z3n cs (A++[x])=Z3n cs A+(if Z9R cs x=true then arX x else 0):=by
 unfold Z3n;rw [List.filter_append]
 by_cases h:Z9R cs x=true
 ·rw [if_pos h,List.filter_cons,if_pos h];exact Z8b _ _
 ·rw [if_neg h,List.filter_cons,if_neg h];simp
theorem Z6z {A:List Line} (h:∀ x ∈ A,Val x.g_.t_) (hl:A.length≤20):0≤Q6V A∧Q6V A≤5368709120:=by
 have:=Y4x (c:=268435456) (A:=A) fun x hx=>Z4h (h x hx)
 omega
theorem Y3O (cs:List Crop) {A:List Line} (h:∀ x ∈ A,Val x.g_.t_) (hl:A.length≤20):0≤Z3n cs A∧Z3n cs A≤5368709120:=
 Z6z (fun x hx=>h x (List.mem_filter.1 hx).1) (Nat.le_trans (List.length_filter_le _ _) hl)
theorem Y0G {a b A B:Int} (ha:0≤a∧a≤A) (hb:0≤b∧b≤B):0≤a*b∧a*b≤A*B:=
 ⟨Int.mul_nonneg ha.1 hb.1,Int.mul_le_mul ha.2 hb.2 hb.1 (Int.le_trans ha.1 ha.2)⟩
theorem Z0j {F:Nat} (hF:BIG≤F) {A:List Line} (h:∀ x ∈ A,Val x.g_.t_) (hl:A.length≤20):Q3i F A=some (Q6V A):=by
 have hF':=hF;unfold BIG at hF
 unfold Q3i;refine W2 (fun z:Int×Int=>∃ i:Nat,z.2=i∧i≤A.length∧z.1=Q6V (A.take i)) (fun z=>A.length-z.2.toNat) (fun again z hz ih=>?_) ⟨0,rfl,by omega,rfl⟩ (by simp only;omega)
 obtain ⟨s,i0⟩:=z;obtain ⟨i,rfl,hi,rfl⟩:=hz
 simp only
 unfold Z0l;simp only [Int.toNat_natCast]
 refine Q8 (fun h1=>?_) (fun h1=>?_)
 ·have h1:i<A.length:=by simpa using h1
  have hv:=h _ (U7 h1);have hb:=Z4h hv
  have hs:=Z6z (A:=A.take i) (fun x hx=>h x (List.mem_of_mem_take hx)) (by rw [List.length_take];omega);refine Q7 (by omega) (Q6 (Q9S hF' hv) ?_)
  unfold arX at hb;refine Q7 (Z5 (by omega) (by omega)) (Q7 (Z5 (by omega) (by omega)) (ih _ ⟨i+1,by simp,h1,?_⟩ (by simp only;omega)))
  simp only
  rw [J9 h1,Z8b];rfl
 ·have h1:i=A.length:=by
   have:¬ i<A.length:=by simpa using h1
   omega
  subst h1;rw [List.take_length];rfl
def Y5a (kc:Int) (cs:List Crop) (l:List Line) (s:Int):Bool×Int:=
 if Q3v kc (cs.length:Nat) l=0 then (if s<0∨1000000<s then (false,2) else (decide (s*Q6V (arL cs l)≤Z3n cs (arL cs l)*1000000),0)) else (false,Q3v kc (cs.length:Nat) l)
theorem Z2X {F:Nat} (hF:BIG≤F) {l:List Line} {cs:List Crop} {kc:Int} (hc:y5 F cs=some kc) (s:Int):Q2j F l cs s=some (Y5a kc cs l s):=by
 have hF':=hF;unfold BIG at hF
 unfold Q2j Y5a;refine Q6 (Q6a hF' l hc) ?_
 by_cases h0:Q3v kc (cs.length:Nat) l=0
 ·rw [if_pos h0]
  have hk:=Q9I h0;subst hk
  have hg:=Q2x.1 h0;have hl:=hg.len
  have hAl:=Q6Q cs l;have hAv:∀ x ∈ arL cs l,Val x.g_.t_:=Z4X hg
  refine Z8 (by rw [h0];rfl) ?_;have bad:s<0∨1000000<s→Q0S F l cs s true=some (if s<0∨1000000<s then (false,2) else (decide (s*Q6V (arL cs l)≤Z3n cs (arL cs l)*1000000),0)):=fun h=>by
   rw [if_pos h];rfl
  refine Q8 (fun h1=>bad (.inl (of_decide_eq_true h1))) (fun h1=>?_);have h1:=of_decide_eq_false h1
  by_cases h2:1000000<s
  ·rw [decide_eq_true h2];exact bad (.inr h2)
  rw [decide_eq_false h2,if_neg (by omega)];unfold Q0S
  refine Z8 rfl (Q6 (Q2M hF' hg) ?_);refine W2 (fun z:Int×Int=>∃ i:Nat,z.2=i∧i≤(arL cs l).length∧z.1=Z3n cs ((arL cs l).take i)) (fun z=>(arL cs l).length-z.2.toNat) (fun again z hz ih=>?_) ⟨0,rfl,by omega,rfl⟩ (by simp only;omega)
  obtain ⟨c,i0⟩:=z;obtain ⟨i,rfl,hi,rfl⟩:=hz
  simp only
  unfold Q8r;simp only [Int.toNat_natCast]
  have hsb:=Y3O cs (A:=(arL cs l).take i) (fun x hx=>hAv x (List.mem_of_mem_take hx)) (by rw [List.length_take];omega);refine Q8 (fun h3=>?_) (fun h3=>?_)
  ·have h3:i<(arL cs l).length:=by simpa using h3
   have hm:gl (arL cs l) i ∈ l:=(List.mem_filter.1 (U7 h3)).1;have hv:=hg.val _ hm
   have hb:=Z4h hv;have hs:Z3n cs ((arL cs l).take (i+1))=Z3n cs ((arL cs l).take i)+(if Z9R cs (gl (arL cs l) i)=true then arX (gl (arL cs l) i) else 0):=by rw [J9 h3,Z5B]
   have k2:∀ s',s'=Z3n cs ((arL cs l).take (i+1))→Q0R F (i:Int) again s'=some (decide (s*Q6V (arL cs l)≤Z3n cs (arL cs l)*1000000),0):=fun s' hs'=>by
    unfold Q0R;exact Q7 (Z5 (by omega) (by omega)) (ih _ ⟨i+1,by simp,h3,hs'⟩ (by simp only;omega))
   refine Q7 (by omega) (Q7 (hg.crop _ hm) ?_);refine Q8 (fun h4=>?_) (fun h4=>?_)
   ·have h4:Z9R cs (gl (arL cs l) i)=true:=h4
    refine Q6 (Q9S hF' hv) (Q7 (Z5 (by unfold arX at hb;omega) (by unfold arX at hb;omega)) (k2 _ ?_));rw [hs,if_pos h4];rfl
   ·have h4:Z9R cs (gl (arL cs l) i)=false:=h4
    refine k2 _ ?_;rw [hs,if_neg (by rw [h4];simp)];omega
  ·have h3:i=(arL cs l).length:=by
    have:¬ i<(arL cs l).length:=by simpa using h3
    omega
   subst h3;rw [List.take_length] at hsb ⊢
   unfold Q4R;have hsum:=Z6z hAv (by omega)
   have hp:=Y0G (A:=1000000) (B:=5368709120) (a:=s) (b:=Q6V (arL cs l)) (by omega) hsum;exact Q7 (Z5 (by omega) (by omega)) (Q6 (Z0j hF' hAv (by omega)) (Q7 (Z5 (by omega) (by omega)) rfl))
 ·rw [if_neg h0]
  exact Y8 (by simpa using h0) rfl
end
end Go.Ab
end
section
namespace Go.Ab
set_option maxRecDepth 20000
noncomputable section
theorem Z5h {F:Nat} (hF:BIG≤F) {l:List Line} {cs:List Crop} {kc:Int} (hc:Q0D F cs=some kc) (small large:Int):Q5k F l cs small large=some (Z9N kc cs l small large):=by
 have hF':=hF;unfold BIG at hF
 unfold Q5k Z9N;refine Q6 (J0 hF' l hc) ?_
 by_cases h0:Q3v kc (cs.length:Nat) l=0
 ·rw [if_pos h0]
  have hk:=Q9I h0;subst hk
  have hg:=Q2x.1 h0;have hbd:=Z8V (cs:=cs) hg
  have hfl:=Z4R cs l;have hl:=hg.len
  refine Z8 (by rw [h0];rfl) ?_;have bad:small<0∨large<small∨268435456<large→Q1h F l cs small large true=some (if small<0∨large<small∨268435456<large then (false,2) else (Y0O small large (K9 cs l),0)):=fun h=>by
   rw [if_pos h];rfl
  refine Q8 (fun h1=>bad (.inl (of_decide_eq_true h1))) (fun h1=>Q8 (fun h2=>bad (.inr (.inl (of_decide_eq_true h2)))) (fun h2=>?_));have h1:=of_decide_eq_false h1
  have h2:=of_decide_eq_false h2
  by_cases h3:268435456<large
  ·rw [decide_eq_true h3];exact bad (.inr (.inr h3))
  rw [decide_eq_false h3,if_neg (by omega)];unfold Q1h
  refine Z8 rfl (Q6 (Q3C hF' hg) ?_);have tb0:=Z8C (P:=K9 cs l) hbd
  refine W2 (fun z:Int×Int×Int=>∃ i:Nat,z.2.2=i∧i≤(K9 cs l).length∧(z.1,z.2.1)=fs2 ((K9 cs l).take i)) (fun z=>(K9 cs l).length-z.2.2.toNat) (fun again z hz ih=>?_) ⟨0,rfl,by omega,rfl⟩ (by simp only;omega);obtain ⟨a,b,i0⟩:=z
  obtain ⟨i,rfl,hi,hab⟩:=hz;simp only at hab ⊢
  have ha:a=(fs2 ((K9 cs l).take i)).1:=congrArg Prod.fst hab;have hb:b=(fs2 ((K9 cs l).take i)).2:=congrArg Prod.snd hab
  have fb:=Y3F hbd i hi;unfold Z0s
  simp only [Int.toNat_natCast];refine Q8 (fun h4=>?_) (fun h4=>?_)
  ·have h4:i<(K9 cs l).length:=by simpa using h4
   have hf:fs2 ((K9 cs l).take (i+1))=fs1 (fs2 ((K9 cs l).take i)) (gl (K9 cs l) i):=by rw [J9 h4,Z7g]
   have k2:∀ a' b',(a',b')=fs2 ((K9 cs l).take (i+1))→Q2q F (i:Int) again a' b'=some (Y0O small large (K9 cs l),0):=fun a' b' hab'=>by
    unfold Q2q;exact Q7 (Z5 (by omega) (by omega)) (ih _ ⟨i+1,by simp,h4,hab'⟩ (by simp only;omega))
   refine Q7 (by omega) ?_;refine Q8 (fun h5=>k2 _ _ ?_) (fun h5=>k2 _ _ ?_)
   ·have h5:=of_decide_eq_true h5
    rw [hf];unfold fs1
    rw [if_pos (by rw [← ha];exact h5), ← ha]
   ·have h5:=of_decide_eq_false h5
    rw [hf];unfold fs1
    rw [if_neg (by rw [← ha];exact h5), ← ha, ← hb]
  ·have h4:i=(K9 cs l).length:=by
    have:¬ i<(K9 cs l).length:=by simpa using h4
    omega
   subst h4;rw [List.take_length] at ha hb fb
   rw [← ha, ← hb] at fb;have hn:((K9 cs l).length:Int)≤20:=by omega
   unfold Q7i Y0O Y5P;rw [← ha, ← hb]
   simp only
   refine Q8 (fun h5=>?_) (fun h5=>?_)
   ·rw [h5,Bool.true_or]
   rw [h5,Bool.false_or];refine Q8 (fun h6=>?_) (fun h6=>?_)
   ·have h6:=of_decide_eq_true h6
    rw [if_pos h6];refine Q8 (fun h7=>?_) (fun h7=>?_)
    ·refine Q7 (Z5 (by omega) (by omega)) (Q7 (Z5 (by omega) (by omega)) ?_)
     unfold Q2p;rw [h7,Bool.true_and]
    ·unfold Q2p
     rw [h7,Bool.false_and]
   ·have h6:=of_decide_eq_false h6
    rw [if_neg h6];refine Q8 (fun h7=>?_) (fun h7=>?_)
    ·rw [h7,Bool.true_and]
     refine Q7 (Z5 (by omega) (by omega)) (Q7 (Z5 (by omega) (by omega)) ?_);refine Q8 (fun h8=>?_) (fun h8=>?_)
     ·refine Q7 (Z5 (by omega) (by omega)) (Q7 (Z5 (by omega) (by omega)) (Q7 (Z5 (by omega) (by omega)) ?_))
      unfold Q0s;rw [h8,Bool.true_and]
     ·unfold Q0s
      rw [h8,Bool.false_and]
    ·unfold Q0s
     rw [h7,Bool.false_and]
 ·rw [if_neg h0]
  exact Y8 (by simpa using h0) rfl
theorem Q8h {F:Nat} {K:Int} {cs:List Crop} {l:List Line} (hg:LG K l) (hK:K=(cs.length:Nat)) {x:Line} (hx:x ∈ l):Q0z F x cs=some (Z3o cs x):=by
 have:=hg.crop x hx
 unfold Q0z;exact Q7 (by omega) rfl
theorem Z5i {F:Nat} (hF:BIG≤F) {l:List Line} {cs:List Crop} {kc:Int} (hc:Q0D F cs=some kc) (s:Int):Q5l F l cs s=some (Y5a kc cs l s):=by
 have hF':=hF;unfold BIG at hF
 unfold Q5l Y5a;refine Q6 (J0 hF' l hc) ?_
 by_cases h0:Q3v kc (cs.length:Nat) l=0
 ·rw [if_pos h0]
  have hk:=Q9I h0;subst hk
  have hg:=Q2x.1 h0;have hl:=hg.len
  refine Z8 (by rw [h0];rfl) ?_;have bad:s<0∨1000000<s→Q2t F l cs s true=some (if s<0∨1000000<s then (false,2) else (decide (s*Q6V (arL cs l)≤Z3n cs (arL cs l)*1000000),0)):=fun h=>by
   rw [if_pos h];rfl
  refine Q8 (fun h1=>bad (.inl (of_decide_eq_true h1))) (fun h1=>?_);have h1:=of_decide_eq_false h1
  by_cases h2:1000000<s
  ·rw [decide_eq_true h2];exact bad (.inr h2)
  rw [decide_eq_false h2,if_neg (by omega)];unfold Q2t
  refine Z8 rfl (Q6 (Q3C hF' hg) ?_);rw [Z9g]
  refine W2 (fun z:Int×Int=>∃ i:Nat,z.2=i∧i≤l.length∧z.1=Z3n cs (arL cs (l.take i))) (fun z=>l.length-z.2.toNat) (fun again z hz ih=>?_) ⟨0,rfl,by omega,rfl⟩ (by simp only;omega);obtain ⟨c,i0⟩:=z
  obtain ⟨i,rfl,hi,rfl⟩:=hz;simp only
  unfold Z0t;simp only [Int.toNat_natCast]
  have hli:(arL cs (l.take i)).length≤20:=by
   have:=Q6Q cs (l.take i)
   rw [List.length_take] at this;omega
  have hsb:=Y3O cs (A:=arL cs (l.take i)) (fun x hx=>hg.val x (List.mem_of_mem_take (List.mem_filter.1 hx).1)) hli;refine Q8 (fun h3=>?_) (fun h3=>?_)
  ·have h3:i<l.length:=by simpa using h3
   have hm:=U7 h3;have hv:=hg.val _ hm
   have hb:=Z4h hv;have hsn:=Z4Y cs h3
   have k3:∀ s',s'=Z3n cs (arL cs (l.take (i+1)))→Q2r F (i:Int) again s'=some (decide (s*Q6V (arL cs l)≤Z3n cs (arL cs l)*1000000),0):=fun s' hs'=>by
    unfold Q2r;exact Q7 (Z5 (by omega) (by omega)) (ih _ ⟨i+1,by simp,h3,hs'⟩ (by simp only;omega))
   refine Q7 (by omega) (Q6 (Q8h hg rfl hm) ?_);refine Q8 (fun h4=>?_) (fun h4=>?_)
   ·rw [if_pos h4] at hsn
    refine Q7 (hg.crop _ hm) ?_;unfold Q2s
    simp only [Int.toNat_natCast];refine Q8 (fun h5=>?_) (fun h5=>?_)
    ·have h5:Z9R cs (gl l i)=true:=h5
     refine Q6 (Z3z hF' hv) (Q7 (Z5 (by unfold arX at hb;omega) (by unfold arX at hb;omega)) (k3 _ ?_));rw [hsn,Z5B,if_pos h5];rfl
    ·have h5:Z9R cs (gl l i)=false:=h5
     refine k3 _ ?_;rw [hsn,Z5B,if_neg (by rw [h5];simp)];omega
   ·rw [if_neg (by rw [h4];simp)] at hsn
    unfold Q2s;exact Z8 rfl (k3 _ (by rw [hsn]))
  ·have h3:i=l.length:=by
    have:¬ i<l.length:=by simpa using h3
    omega
   subst h3;rw [List.take_length] at hsb ⊢
   unfold Q7j;have hAv:∀ x ∈ arL cs l,Val x.g_.t_:=Z4X hg
   have hAl:=Q6Q cs l;have hsum:=Z6z hAv (by omega)
   have hp:=Y0G (A:=5368709120) (B:=1000000) (a:=Q6V (arL cs l)) (b:=s) hsum (by omega);refine Q7 (Z5 (by omega) (by omega)) (Q7 (Z5 (by simp only;omega) (by simp only;omega)) ?_)
   simp only [Int.mul_comm s]
 ·rw [if_neg h0]
  exact Y8 (by simpa using h0) rfl
def Z3l (cs:List Crop) (H:List Rg_):Int:=if Q4N H≠0 then Q4N H else if H.any (fun f=>decide (((cs.length:Nat):Int)≤f.c_))=true then 13 else 0
theorem Z9W {H:List Rg_} (h:Q4N H=0):H.length≤200:=((Z0V H).1 h).len
theorem Z4d {F:Nat} (hF:BIG≤F) {cs:List Crop} (hc:y5 F cs=some 0) (H:List Rg_):Q4p F H cs=some (Z3l cs H):=by
 unfold Q4p Z3l;refine Q6 (Z5v hF H) (Q8 (fun h=>?_) (fun h=>?_))
 ·rw [if_pos (by simpa using h)]
 ·have h:Q4N H=0:=by simpa using h
  rw [if_neg (by simp [h])];have hl:=Z9W h
  refine Q6 hc (Z8 rfl (Q6 (Q2G hF (fun f=>decide (((cs.length:Nat):Int)≤f.c_)) (by omega) (fun f _=>rfl)) ?_));refine Q8 (fun h2=>?_) (fun h2=>?_)
  ·rw [if_pos h2]
  ·rw [if_neg (by rw [h2];simp)]
def Z4F (year m:Int):Int:=if year<0∨100<year then 18 else if m<2∨10<m then 2 else 0
theorem Q0r {F:Nat} (hF:BIG≤F) (cs:List Crop) (H:List Rg_) (year m:Int):Q3m F cs H year m=some (if Z3l cs H≠0 then Z3l cs H else Z4F year m):=by
 have hF':=hF;unfold BIG at hF
 unfold Q3m Z3l;refine Q6 (Z2j hF' H) (Q8 (fun h=>?_) (fun h=>?_))
 ·have h:Q4N H≠0:=by simpa using h
  have e:(if Q4N H≠0 then Q4N H else if H.any (fun f=>decide (((cs.length:Nat):Int)≤f.c_))=true then 13 else 0)=Q4N H:=if_pos h;rw [e,if_pos h]
 ·have h:Q4N H=0:=by simpa using h
  have e:(if Q4N H≠0 then Q4N H else if H.any (fun f=>decide (((cs.length:Nat):Int)≤f.c_))=true then 13 else 0)=if H.any (fun f=>decide (((cs.length:Nat):Int)≤f.c_))=true then 13 else 0:=if_neg (by simp [h]);rw [e]
  have hl:=Z9W h;refine (Q7y (c:=some 13) (y:=some (Z4F year m)) H.length (fun i=>decide (((cs.length:Nat):Int)≤(gl H i).c_)) (fun again i hi hp=>?_) (fun again i z hi hp hz=>?_) (fun again=>?_) (by omega)).trans ?_
  ·unfold Q4y
   simp only [Int.toNat_natCast];exact Y8 (decide_eq_true (by omega)) (Q7 (by omega) (Y8 hp rfl))
  ·unfold Q4y
   simp only [Int.toNat_natCast];exact Y8 (decide_eq_true (by omega)) (Q7 (by omega) (Z8 hp (Q7 (Z5 (by omega) (by omega)) hz)))
  ·unfold Q4y
   refine Z8 (decide_eq_false (by omega)) ?_;unfold Q7g Z4F
   have k2t:year<0∨100<year→Q2m F m true=some (if year<0∨100<year then 18 else if m<2∨10<m then 2 else 0):=fun h=>by rw [if_pos h];rfl
   refine Q8 (fun h1=>k2t (.inl (of_decide_eq_true h1))) (fun h1=>?_);have h1:=of_decide_eq_false h1
   by_cases h2:100<year
   ·rw [decide_eq_true h2];exact k2t (.inr h2)
   rw [decide_eq_false h2,if_neg (by omega)];unfold Q2m
   refine Z8 rfl ?_;have k3t:m<2∨10<m→Q4x F true=some (if m<2∨10<m then 2 else 0):=fun h=>by rw [if_pos h];rfl
   refine Q8 (fun h3=>k3t (.inl (of_decide_eq_true h3))) (fun h3=>?_);have h3:=of_decide_eq_false h3
   by_cases h4:10<m
   ·rw [decide_eq_true h4];exact k3t (.inr h4)
   rw [decide_eq_false h4,if_neg (by omega)];rfl
  ·have e:(List.range H.length).any (fun i=>decide (((cs.length:Nat):Int)≤(gl H i).c_))=H.any (fun f=>decide (((cs.length:Nat):Int)≤f.c_)):=by
    rw [Bool.eq_iff_iff,List.any_eq_true,List.any_eq_true];constructor
    ·rintro ⟨i,hi,hp⟩
     exact ⟨_,U7 (List.mem_range.1 hi),hp⟩
    ·rintro ⟨f,hf,hp⟩
     obtain ⟨i,hi,rfl⟩:=List.getElem_of_mem hf;exact ⟨i,List.mem_range.2 hi,by rw [Q9o _ _ hi];exact hp⟩
   rw [e]
   by_cases h5:H.any (fun f=>decide (((cs.length:Nat):Int)≤f.c_))=true
   ·rw [if_pos h5,if_pos h5,if_pos (by decide)]
   ·rw [if_neg h5,if_neg h5,if_neg (by decide)]
def Z0h (kc:Int) (cs:List Crop) (L:List Line) (H:List Rg_) (year m s:Int):Int:=
 if Q3v kc (cs.length:Nat) L≠0 then Q3v kc (cs.length:Nat) L else if Z3l cs H≠0 then Z3l cs H else if Z4F year m≠0 then Z4F year m else if s<0∨1000000<s then 2 else 0
theorem Q9w {F:Nat} (hF:BIG≤F) {cs:List Crop} {kc:Int} (hc:y5 F cs=some kc) (L:List Line) (H:List Rg_) (year m s:Int):Q2g F L cs H year m s=some (Z0h kc cs L H year m s):=by
 unfold Q2g Z0h;refine Q6 (Q6a hF L hc) (Q8 (fun h=>?_) (fun h=>?_))
 ·rw [if_pos (by simpa using h)]
 ·have h:Q3v kc (cs.length:Nat) L=0:=by simpa using h
  rw [if_neg (by simp [h])];have hk:=Q9I h
  subst hk;refine Q6 (Z4d hF hc H) (Q8 (fun h2=>?_) (fun h2=>?_))
  ·rw [if_pos (by simpa using h2)]
  ·have h2:Z3l cs H=0:=by simpa using h2
   rw [if_neg (by simp [h2])];unfold Z4F
   have k0t:year<0∨100<year→Q1D F m s true=some (if (if year<0∨100<year then (18:Int) else if m<2∨10<m then 2 else 0)≠0 then (if year<0∨100<year then (18:Int) else if m<2∨10<m then 2 else 0) else if s<0∨1000000<s then 2 else 0):=fun h=>by
    rw [if_pos h];rfl
   refine Q8 (fun h1=>k0t (.inl (of_decide_eq_true h1))) (fun h1=>?_);have h1:=of_decide_eq_false h1
   by_cases h3:100<year
   ·rw [decide_eq_true h3];exact k0t (.inr h3)
   have hy:¬ (year<0∨100<year):=by omega
   rw [decide_eq_false h3,if_neg hy];unfold Q1D
   refine Z8 rfl ?_;have k1t:m<2∨10<m→Q0d F true=some (if (if m<2∨10<m then (2:Int) else 0)≠0 then (if m<2∨10<m then (2:Int) else 0) else if s<0∨1000000<s then 2 else 0):=fun h=>by rw [if_pos h];rfl
   refine Q8 (fun h4=>k1t (.inl (of_decide_eq_true h4))) (fun h4=>Q8 (fun h5=>k1t (.inr (of_decide_eq_true h5))) (fun h5=>?_));have h4:=of_decide_eq_false h4
   have h5:=of_decide_eq_false h5;have hm:¬ (m<2∨10<m):=by omega
   rw [if_neg hm,if_neg (by decide)];have k1s:s<0∨1000000<s→Q0d F true=some (if s<0∨1000000<s then 2 else 0):=fun h=>by rw [if_pos h];rfl
   refine Q8 (fun h6=>k1s (.inl (of_decide_eq_true h6))) (fun h6=>?_);have h6:=of_decide_eq_false h6
   by_cases h7:1000000<s
   ·rw [decide_eq_true h7];exact k1s (.inr h7)
   rw [decide_eq_false h7,if_neg (by omega)];rfl
end
end Go.Ab
end
section
namespace Go.Ab
set_option maxRecDepth 20000
noncomputable section
theorem Y4q {H:List Rg_} (h:HL H) {y:Int} {p:Int→Bool} {u v:Int} (hy:y<0):inR (yrs H y p) u v=false:=by
 cases hh:inR (yrs H y p) u v with
 | false=>rfl
 | true=>
  obtain ⟨f,hf,hfy,_⟩:=Y5y.1 hh;have:=(Q7s f).1 (h.one f hf)
  omega
theorem HisT.fewR {K:Int} {H:List Rg_} (h:HisT K H) (hl:H.length≤5):FewR H:=⟨h.hl,fun y p i hi=>by
 have:=Y1d h y p i (by omega)
 omega⟩
def Z9j (cs:List Crop) (H:List Rg_) (x:Line) (a b u v:Int):Prop:=
 inR x.g_.t_ u v=true∧∀ y,a≤y→y<b→inR (yrs H y fun c=>decide ((gl cs c.toNat).f_=K6 cs x)) u v=true
theorem Z5g {F:Nat} (hF:BIG≤F) {cs:List Crop} {L:List Line} {H:List Rg_} (hg:LG (cs.length:Nat) L) (hH:HisT (cs.length:Nat) H) (hl:H.length≤5) (hfam:∀ x ∈ L,0≤K6 cs x) {year m:Int} (hy:0≤year∧year≤100) (hm:2≤m∧m≤10) :
  ∃ V,Q1W F L cs H year m=some V∧Box 9 V∧cn (inR V)=V∧∀ u v,inR V u v=true↔Y4J cs L H year m u v:=by
 have hF':=hF;unfold BIG at hF
 have hll:=hg.len;have hfew:=hH.fewR hl
 have hcrop:∀ f ∈ H,f.c_<((cs.length:Nat):Int):=hH.crop;have line:∀ (again0:(List Rect)×Int→Option (List Rect)) (V0:List Rect) (i:Nat),i<L.length→∃ C,(∀ u v,inR C u v=true↔Z9j cs H (gl L i) (year-m+1) year u v)∧C.length≤200∧(∀ r ∈ C,Q0l r=true) ∧
   Z4 (fun again (z:(List Rect)×Int)=>Q0q F L cs H year V0 (i:Int) again0 again z.1 z.2) F ((gl L i).g_.t_,year-m+1)=Q2l F V0 (i:Int) again0 C:=by
  intro again0 V0 i hi;have hmem:=U7 hi
  have hv:=hg.val _ hmem;have hcr:=hg.crop _ hmem
  have hsq:∀ y,Q3n F H cs y (K6 cs (gl L i)) 0=some (cn (inR (yrs H y fun c=>decide ((gl cs c.toNat).f_=K6 cs (gl L i))))):=fun y=>by
   rw [Z5j hF' hfew cs y _ 0 (.inr hcrop)];have:Q6W cs (K6 cs (gl L i)) 0=fun c=>decide ((gl cs c.toNat).f_=K6 cs (gl L i)):=by
    funext c
    unfold Q6W;have:=hfam _ hmem
    rw [decide_eq_false (by omega)];simp
   rw [this]
  have key:∀ (n f:Nat) (C:List Rect) (y:Int),(year-y).toNat=n→n<f→year-m+1≤y→y≤year→(∀ u v,inR C u v=true↔Z9j cs H (gl L i) (year-m+1) y u v)→C.length≤200→(∀ r ∈ C,Q0l r=true) →
    ∃ C',(∀ u v,inR C' u v=true↔Z9j cs H (gl L i) (year-m+1) year u v)∧C'.length≤200∧(∀ r ∈ C',Q0l r=true) ∧
     Z4 (fun again (z:(List Rect)×Int)=>Q0q F L cs H year V0 (i:Int) again0 again z.1 z.2) f (C,y)=Q2l F V0 (i:Int) again0 C':=by
   intro n
   induction n with
   | zero=>
    intro f C y hn hf h1 h2 hin hlen hp;have:y=year:=by omega
    subst this
    cases f with
    | zero=>omega
    | succ f=>
     refine ⟨C,hin,hlen,hp,?_⟩;show Q0q F L cs H y V0 (i:Int) again0 _ C y=_
     unfold Q0q;exact Z8 (decide_eq_false (by omega)) rfl
   | succ n ih=>
    intro f C y hn hf h1 h2 hin hlen hp
    cases f with
    | zero=>omega
    | succ f=>
     have hyb:Box 9 (yrs H y fun c=>decide ((gl cs c.toNat).f_=K6 cs (gl L i))):=Z6i hH;have hcb:=K5.box (K5.cn (Q4M (yrs H y fun c=>decide ((gl cs c.toNat).f_=K6 cs (gl L i))))) (n:=9) fun u v h=>Q9t hyb (by rw [← Q0N (Q4M _)];exact h)
     have hcl:=K5.half (K5.cn (Q4M (yrs H y fun c=>decide ((gl cs c.toNat).f_=K6 cs (gl L i))))) (n:=9) hcb;have hfin:Fin fun u v=>inR C u v&&inR (cn (inR (yrs H y fun c=>decide ((gl cs c.toNat).f_=K6 cs (gl L i))))) u v:=Z8U _ _
     have hbox:Box 9 (cn fun u v=>inR C u v&&inR (cn (inR (yrs H y fun c=>decide ((gl cs c.toNat).f_=K6 cs (gl L i))))) u v):=(K5.cn hfin).box fun u v hh=>by
      rw [Q0N hfin,Bool.and_eq_true] at hh;exact Q9t hcb hh.2
     have h45:=K5.half (K5.cn hfin) (n:=9) hbox;obtain ⟨C',c1,c2,c3,c4⟩:=ih f (cn fun u v=>inR C u v&&inR (cn (inR (yrs H y fun c=>decide ((gl cs c.toNat).f_=K6 cs (gl L i))))) u v) (y+1) (by omega) (by omega) (by omega) (by omega) (fun u v=>by
      rw [Q0N hfin,Bool.and_eq_true,hin,Q0N (Q4M _)];unfold Z9j
      constructor
      ·rintro ⟨⟨g1,g2⟩,g3⟩
       refine ⟨g1,fun y' h3 h4=>?_⟩
       by_cases h5:y'=y
       ·subst h5;exact g3
       ·exact g2 y' h3 (by omega)
      ·rintro ⟨g1,g2⟩
       exact ⟨⟨g1,fun y' h3 h4=>g2 y' h3 (by omega)⟩,g2 y h1 (by omega)⟩) (by omega) (Q7U hbox)
     refine ⟨C',c1,c2,c3,?_⟩;show Q0q F L cs H year V0 (i:Int) again0 _ C y=_
     unfold Q0q;simp only [Int.toNat_natCast]
     refine Y8 (decide_eq_true (by omega)) (Q7 hcr (Q6 (hsq y) (Q6 (y4 hF' (how:=2) (by omega) (by omega) hp (Q7U hcb)) ?_)));exact Q7 (Z5 (by omega) (by omega)) c4
  exact key (year-(year-m+1)).toNat F (gl L i).g_.t_ (year-m+1) rfl (by omega) (by omega) (by omega) (fun u v=>by
   unfold Z9j;exact ⟨fun h=>⟨h,fun y h1 h2=>by omega⟩,fun h=>h.1⟩) (by have:=hv.1;omega) hv.2.1
 unfold Q1W;have key:∀ (n f i:Nat) (V:List Rect),L.length-i=n→i≤L.length→n<f→Box 9 V→cn (inR V)=V→(∀ u v,inR V u v=true↔∃ x ∈ arL cs (L.take i),Z9j cs H x (year-m+1) year u v) →
   ∃ R,Z4 (fun again (z:(List Rect)×Int)=>G4 F L cs H year m again z.1 z.2) f (V,(i:Int))=some R∧Box 9 R∧cn (inR R)=R∧∀ u v,inR R u v=true↔∃ x ∈ arL cs L,Z9j cs H x (year-m+1) year u v:=by
  intro n
  induction n with
  | zero=>
   intro f i V hn hi hf hb hcan hin;have:i=L.length:=by omega
   subst this;rw [List.take_length] at hin
   cases f with
   | zero=>omega
   | succ f=>
    refine ⟨V,?_,hb,hcan,hin⟩;show G4 F L cs H year m _ V _=_
    unfold G4;exact Z8 (decide_eq_false (by omega)) rfl
  | succ n ih=>
   intro f i V hn hi hf hb hcan hin
   cases f with
   | zero=>omega
   | succ f=>
    have hi1:i<L.length:=by omega
    have hmem:=U7 hi1;have hsn:=Z4Y cs hi1
    by_cases ha:Z3o cs (gl L i)=true
    ·rw [if_pos ha] at hsn
     obtain ⟨C,c1,c2,c3,c4⟩:=line (Z4 (fun again (z:(List Rect)×Int)=>G4 F L cs H year m again z.1 z.2) f) V i hi1;have hVl:V.length≤45:=by
      have hcc:K5 V:=by rw [← hcan];exact K5.cn (Q4M V)
      have:=K5.half hcc (n:=9) hb
      omega
     have hfin:Fin fun u v=>y3 (inR V u v) (inR C u v) 1:=Q6M V C 1
     have hor:∀ u v,inR (cn fun u v=>y3 (inR V u v) (inR C u v) 1) u v=(inR V u v||inR C u v):=fun u v=>Q0N hfin u v
     have hbox:Box 9 (cn fun u v=>y3 (inR V u v) (inR C u v) 1):=(K5.cn hfin).box fun u v hh=>by
      rw [hor,Bool.or_eq_true] at hh;rcases hh with hh|hh
      ·exact Q9t hb hh
      ·obtain ⟨_,h2⟩:=(c1 u v).1 hh
       exact Q9t (Z6i hH) (h2 (year-1) (by omega) (by omega))
     obtain ⟨R,r1,r2⟩:=ih f (i+1) (cn fun u v=>y3 (inR V u v) (inR C u v) 1) (by omega) (by omega) (by omega) hbox (by
      congr 1
      funext u v
      rw [hor];rfl) (fun u v=>by
      rw [hor,Bool.or_eq_true,hin,c1,hsn];constructor
      ·rintro (⟨x,hx,h⟩|h)
       ·exact ⟨x,List.mem_append.2 (.inl hx),h⟩
       ·exact ⟨_,List.mem_append.2 (.inr (List.mem_singleton.2 rfl)),h⟩
      ·rintro ⟨x,hx,h⟩
       rcases List.mem_append.1 hx with hx|hx
       ·exact .inl ⟨x,hx,h⟩
       ·rw [List.mem_singleton] at hx
        subst hx;exact .inr h)
     refine ⟨R,?_,r2⟩;show G4 F L cs H year m _ V (i:Int)=_
     unfold G4;simp only [Int.toNat_natCast]
     refine Y8 (decide_eq_true (by omega)) (Q7 (by omega) (Q6 (Q8h hg rfl hmem) (Z8 (by rw [ha];rfl) (Q7 (Z5 (by omega) (by omega)) (Q7 (Z5 (by omega) (by omega)) (c4.trans ?_))))));unfold Q2l
     refine Q6 (y4 hF' (how:=1) (by omega) (by omega) (Q7U hb) c3) ?_;unfold Q2k
     exact Q7 (Z5 (by omega) (by omega)) r1
    ·have ha:Z3o cs (gl L i)=false:=by simpa using ha
     rw [if_neg (by rw [ha];simp)] at hsn;obtain ⟨R,r1,r2⟩:=ih f (i+1) V (by omega) (by omega) (by omega) hb hcan (fun u v=>by rw [hin,hsn])
     refine ⟨R,?_,r2⟩;show G4 F L cs H year m _ V (i:Int)=_
     unfold G4;simp only [Int.toNat_natCast]
     refine Y8 (decide_eq_true (by omega)) (Q7 (by omega) (Q6 (Q8h hg rfl hmem) (Y8 (by rw [ha];rfl) ?_)));unfold Q2k
     exact Q7 (Z5 (by omega) (by omega)) r1
 obtain ⟨R,r1,r2,r3,r4⟩:=key L.length F 0 [] (by omega) (by omega) (by omega) (fun r hr=>by simp at hr) ((Z0W _).1 Z8x) (fun u v=>by simp [inR,arL]);refine ⟨R,r1,r2,r3,fun u v=>?_⟩
 rw [r4];unfold Y4J Z9j
 constructor
 ·rintro ⟨x,hx,h1,h2⟩
  refine ⟨x,hx,h1,?_,fun y h3 h4=>h2 y h3 (by omega)⟩;rcases Int.lt_or_le year (m-1) with h5|h5
  ·have:=h2 (year-m+1) (by omega) (by omega)
   rw [Y4q hH.hl (by omega)] at this;cases this
  ·exact h5
 ·rintro ⟨x,hx,h1,_,h2⟩
  exact ⟨x,hx,h1,fun y h3 h4=>h2 y h3 (by omega)⟩
end
end Go.Ab
end
section
namespace Go.Ab
set_option maxRecDepth 20000
noncomputable section
theorem Y4Z {cs:List Crop} (h:crC cs=0) {i:Nat} (hi:i<cs.length):0≤(gl cs i).f_:=by
 have h0:crE cs i=0:=by
  unfold crC at h;split at h
  ·cases h
  ·by_cases hc:crE cs i=0
   ·exact hc
   ·cases hf:((List.range cs.length).map (crE cs)).find? (fun c=>c != 0) with
    | none=>
     have:=List.find?_eq_none.1 hf _ (List.mem_map.2 ⟨i,List.mem_range.2 hi,rfl⟩)
     simp at this
     exact this
    | some c=>
     rw [hf] at h;have:=List.find?_some hf
     simp at this h
     exact absurd h this
 by_cases hn:Q1c (gl cs i).n_=true
 ·by_cases hf:(gl cs i).f_<0∨40<(gl cs i).f_
  ·rw [Y6n hn hf] at h0;cases h0
  ·omega
 ·rw [Y6m (by simpa using hn)] at h0;cases h0
theorem Z8s {cs:List Crop} {H:List Rg_} (h:Z3l cs H=0) (hb:∀ f ∈ H,Box 9 f.g_.t_):HisT (cs.length:Nat) H:=by
 unfold Z3l at h;split at h
 ·rename_i hh;exact absurd h hh
 ·rename_i hh
  have hh:Q4N H=0:=by simpa using hh
  split at h
  ·cases h
  ·rename_i h2
   refine ⟨(Z0V H).1 hh,hb,fun f hf=>?_⟩;rw [List.any_eq_true] at h2
   rcases Int.lt_or_le f.c_ ((cs.length:Nat):Int) with h3|h3
   ·exact h3
   ·exact absurd ⟨f,hf,decide_eq_true h3⟩ h2
theorem Y1j {F:Nat} (hF:BIG≤F) {cs:List Crop} (hkc:crC cs=0) {L:List Line} {H:List Rg_} (hg:LG (cs.length:Nat) L) (hH:HisT (cs.length:Nat) H) (hl:H.length≤5) {year m:Int} (hy:0≤year∧year≤100) (hm:2≤m∧m≤10) :
  ∃ T V,Q0e F L cs H year m=some T∧Q1W F L cs H year m=some V∧Box 9 T∧T.length≤900∧V=cn (inR T)∧Val V∧area V=area T∧0≤area T∧area T≤268435456:=by
 obtain ⟨T,t1,t2,t3,t4,t5⟩:=Z1Y hF hg hH (by omega) hy hm;have hfam:∀ x ∈ L,0≤K6 cs x:=fun x hx=>by
  have:=hg.crop x hx
  exact Y4Z hkc (by omega)
 obtain ⟨V,v1,v2,v3,v4⟩:=Z5g hF hg hH hl hfam hy hm;have hin:inR V=inR T:=by
  funext u v
  rw [Bool.eq_iff_iff,v4,t5]
 have hVT:V=cn (inR T):=by rw [← hin,v3]
 have hv:=Y2F (n:=9) (Q4M T) (by omega) fun u v h=>Q9t t2 h
 rw [← hVT] at hv;have hs:=Z9l (inR T)
 refine ⟨T,V,t1,v1,t2,t3,hVT,hv.1,?_,by rw [t4];omega,by rw [t4];omega⟩;rw [hv.1.area,t4,hin]
theorem Y5E {F:Nat} (hF:BIG≤F) {cs:List Crop} (hc:y5 F cs=some (crC cs)) (hc2:Q0D F cs=some (crC cs)) (L:List Line) {H:List Rg_} (hb:∀ f ∈ H,Box 9 f.g_.t_) (hl:H.length≤5) (year m s:Int) :
  ∃ r,Q2h F L cs H year m s=some r∧Q5i F L cs H year m s=some r:=by
 have hF':=hF;unfold BIG at hF
 unfold Q2h Q5i;have hst:=Q9w hF' hc L H year m s
 by_cases h1:Q3v (crC cs) (cs.length:Nat) L=0
 ·by_cases h2:Z3l cs H=0
  ·by_cases h3:Z4F year m=0
   ·by_cases h4:s<0∨1000000<s
    ·have e:Z0h (crC cs) cs L H year m s=2:=by
      unfold Z0h;rw [if_neg (by simp [h1]),if_neg (by simp [h2]),if_neg (by simp [h3]),if_pos h4]
     rw [e] at hst;refine ⟨(false,2),Q6 hst (Y8 rfl rfl),Q6 (J0 hF' L hc2) (Z8 (by rw [h1];rfl) (Q6 (Q0r hF' cs H year m) ?_))⟩
     rw [if_neg (by simp [h2]),h3];refine Z8 rfl ?_
     rcases Int.lt_or_le s 0 with h5|h5
     ·exact Y8 (decide_eq_true h5) rfl
     ·refine Z8 (decide_eq_false (by omega)) ?_
      rw [decide_eq_true (by omega:1000000<s)];rfl
    ·have e:Z0h (crC cs) cs L H year m s=0:=by
      unfold Z0h;rw [if_neg (by simp [h1]),if_neg (by simp [h2]),if_neg (by simp [h3]),if_neg h4]
     rw [e] at hst;have hk:=Q9I h1
     rw [hk] at h1;have hg:=Q2x.1 h1
     have hn:0≤year∧year≤100∧2≤m∧m≤10:=by
      unfold Z4F at h3;split at h3
      ·cases h3
      ·split at h3
       ·cases h3
       ·omega
     have hH:=Z8s h2 hb;obtain ⟨T,V,t1,v1,t2,t3,hVT,hV,hVa,hT0,hT1⟩:=Y1j hF' hk hg hH hl (year:=year) (m:=m) (by omega) (by omega)
     have hgl:=hg.len;have hAl:=Q6Q cs L
     have hAv:∀ x ∈ arL cs L,Val x.g_.t_:=Z4X hg;have hsum:=Z6z hAv (by omega)
     have hprod:=Y0G (a:=s) (b:=Q6V (arL cs L)) (A:=1000000) (B:=5368709120) (by omega) hsum;have hprod2:Q6V (arL cs L)*s=s*Q6V (arL cs L):=Int.mul_comm _ _
     refine ⟨(decide (area T*1000000≤s*Q6V (arL cs L)),0),Q6 hst (Z8 rfl (Q6 t1 (Q6 (Z2b hF' (by omega) (Q7U t2)) (Q7 (Z5 (by omega) (by omega)) (Q6 (Q2M hF' hg) (Q6 (Z0j hF' hAv (by omega)) (Q7 (Z5 (by omega) (by omega)) rfl))))))),?_⟩;refine Q6 (J0 hF' L hc2) ?_
     rw [hk,h1];refine Z8 rfl (Q6 (Q0r hF' cs H year m) ?_)
     rw [if_neg (by simp [h2]),h3];refine Z8 rfl (Z8 (decide_eq_false (by omega)) ?_)
     rw [decide_eq_false (by omega:¬ 1000000<s)];unfold Q4z
     have h120:=hV.1;refine Z8 rfl (Q6 (Q3C hF' hg) (Q6 v1 (Q6 (Z3v hF' (by omega) hV.2.1) ?_)))
     rw [hVa,Z9g];simp only
     rw [hprod2];exact Q7 (Z5 (by omega) (by omega)) (Q7 (Z5 (by omega) (by omega)) rfl)
   ·have e:Z0h (crC cs) cs L H year m s=Z4F year m:=by
     unfold Z0h;rw [if_neg (by simp [h1]),if_neg (by simp [h2]),if_pos h3]
    rw [e] at hst;refine ⟨(false,Z4F year m),Q6 hst (Y8 (by simpa using h3) rfl),Q6 (J0 hF' L hc2) (Z8 (by rw [h1];rfl) (Q6 (Q0r hF' cs H year m) ?_))⟩
    rw [if_neg (by simp [h2])];exact Y8 (by simpa using h3) rfl
  ·have e:Z0h (crC cs) cs L H year m s=Z3l cs H:=by
    unfold Z0h;rw [if_neg (by simp [h1]),if_pos h2]
   rw [e] at hst;refine ⟨(false,Z3l cs H),Q6 hst (Y8 (by simpa using h2) rfl),Q6 (J0 hF' L hc2) (Z8 (by rw [h1];rfl) (Q6 (Q0r hF' cs H year m) ?_))⟩
   rw [if_pos h2];exact Y8 (by simpa using h2) rfl
 ·have e:Z0h (crC cs) cs L H year m s=Q3v (crC cs) (cs.length:Nat) L:=by
   unfold Z0h;rw [if_pos h1]
  rw [e] at hst;exact ⟨(false,Q3v (crC cs) (cs.length:Nat) L),Q6 hst (Y8 (by simpa using h1) rfl),Q6 (J0 hF' L hc2) (Y8 (by simpa using h1) rfl)⟩
theorem Y5F {F:Nat} (hF:BIG≤F) {cs:List Crop} (hc:y5 F cs=some (crC cs)) (hc2:Q0D F cs=some (crC cs)) (L:List Line) {H:List Rg_} (hb:∀ f ∈ H,Box 9 f.g_.t_) (hl:H.length≤5) (year m:Int) :
  ∃ T:List Rect,∃ e:Int,Q2i F L cs H year m=some (⟨T⟩,e)∧Q5j F L cs H year m=some (⟨T⟩,e)∧T.length≤LIM:=by
 have hF':=hF;unfold BIG at hF
 unfold Q2i Q5j;have hst:=Q9w hF' hc L H year m 0
 by_cases h1:Q3v (crC cs) (cs.length:Nat) L=0
 ·by_cases h2:Z3l cs H=0
  ·by_cases h3:Z4F year m=0
   ·have e:Z0h (crC cs) cs L H year m 0=0:=by
     unfold Z0h;rw [if_neg (by simp [h1]),if_neg (by simp [h2]),if_neg (by simp [h3]),if_neg (by omega)]
    rw [e] at hst;have hk:=Q9I h1
    rw [hk] at h1;have hg:=Q2x.1 h1
    have hn:0≤year∧year≤100∧2≤m∧m≤10:=by
     unfold Z4F at h3;split at h3
     ·cases h3
     ·split at h3
      ·cases h3
      ·omega
    have hH:=Z8s h2 hb;obtain ⟨T,V,t1,v1,t2,t3,hVT,hV,hVa,hT0,hT1⟩:=Y1j hF' hk hg hH hl (year:=year) (m:=m) (by omega) (by omega)
    have h120:=hV.1;refine ⟨V,0,Q6 hst (Z8 rfl (Q6 t1 (Q6 (Z5f hF' (by omega) (Z4H (Q7U t2))) ?_))),?_,by unfold LIM;omega⟩
    ·rw [← hVT,if_neg (by omega)]
    ·refine Q6 (J0 hF' L hc2) ?_
     rw [hk,h1];refine Z8 rfl (Q6 (Q0r hF' cs H year m) ?_)
     rw [if_neg (by simp [h2]),h3];refine Z8 rfl (Q6 v1 (Q6 (Z2u V) ?_))
     rw [if_neg (by omega)]
   ·have e:Z0h (crC cs) cs L H year m 0=Z4F year m:=by
     unfold Z0h;rw [if_neg (by simp [h1]),if_neg (by simp [h2]),if_pos h3]
    rw [e] at hst;refine ⟨[],Z4F year m,Q6 hst (Y8 (by simpa using h3) rfl),Q6 (J0 hF' L hc2) (Z8 (by rw [h1];rfl) (Q6 (Q0r hF' cs H year m) ?_)),by simp⟩
    rw [if_neg (by simp [h2])];exact Y8 (by simpa using h3) rfl
  ·have e:Z0h (crC cs) cs L H year m 0=Z3l cs H:=by
    unfold Z0h;rw [if_neg (by simp [h1]),if_pos h2]
   rw [e] at hst;refine ⟨[],Z3l cs H,Q6 hst (Y8 (by simpa using h2) rfl),Q6 (J0 hF' L hc2) (Z8 (by rw [h1];rfl) (Q6 (Q0r hF' cs H year m) ?_)),by simp⟩
   rw [if_pos h2];exact Y8 (by simpa using h2) rfl
 ·have e:Z0h (crC cs) cs L H year m 0=Q3v (crC cs) (cs.length:Nat) L:=by
   unfold Z0h;rw [if_pos h1]
  rw [e] at hst;exact ⟨[],Q3v (crC cs) (cs.length:Nat) L,Q6 hst (Y8 (by simpa using h1) rfl),Q6 (J0 hF' L hc2) (Y8 (by simpa using h1) rfl),by simp⟩
end
end Go.Ab
end
section
namespace Go.Ab
set_option maxRecDepth 20000
noncomputable section
section
variable {α β:Type} (g:α→β)
theorem Q4X (b:Bool) (x y:Option α):(br b x y).map g=br b (x.map g) (y.map g):=by cases b <;> rfl
theorem Q6L (p:Prop) [Decidable p] (x:Option α):(gd p x).map g=gd p (x.map g):=by unfold gd;split <;> rfl
theorem Z0d {γ:Type} (x:Option γ) (f:γ→Option α):(x.bind f).map g=x.bind fun z=>(f z).map g:=by cases x <;> rfl
theorem Z1R (x:α):(some x).map g=some (g x):=rfl
theorem Q9j {σ:Type} {bO:(σ→Option β)→σ→Option β} {b:(σ→Option α)→σ→Option α} (hb:∀ aO a,(∀ z,aO z=(a z).map g)→∀ z,bO aO z=(b a z).map g):∀ f z,Z4 bO f z=(Z4 b f z).map g:=by
 intro f
 induction f with
 | zero=>intro z;rfl
 | succ f ih=>intro z;exact hb _ _ ih z
end
abbrev gR (l:List Rg_):List Rg_×Int→List Rg_×List Rg_×Int:=fun r=>(l,r)
section
variable {F:Nat} {l:List Rg_}
theorem RA5 {aO:(List Rect×Int×List Rg_)→_} {a:(List Rect×Int×List Rg_)→_} (h:∀ z,aO z=(a z).map (gR l)) (v:Int) (p:List Rect) (q:List Rg_):Q2v F v aO p q=(Q2Q F v a p q).map (gR l):=by
 unfold Q2v Q2Q;simp only [Q6L,h]
theorem RA4 {aO:(List Rect×Int×List Rg_)→_} {a:(List Rect×Int×List Rg_)→_} (h:∀ z,aO z=(a z).map (gR l)) (l0:List Rg_) (p:List Rect) (v:Int) (q:List Rg_) (s:List Rect):Q3Z F l0 p v q aO s=(Q4B F l0 p v q a s).map (gR l):=by
 unfold Q3Z Q4B;simp only [Q4X,Q6L,RA5 h]
theorem RA3 {aO:(List Rect×Int×List Rg_)→_} {a:(List Rect×Int×List Rg_)→_} (h:∀ z,aO z=(a z).map (gR l)) (l0:List Rg_) (y:Int) (x:Re_) (p:List Rect) (v:Int) (q:List Rg_) (b:Bool):Q4a F l0 y x p v q aO b=(Q4C F l0 y x p v q a b).map (gR l):=by
 unfold Q4a Q4C;simp only [Q4X,Z0d,RA5 h,RA4 h]
theorem Y6C {aO:Int→_} {a:Int→_} (h:∀ z,aO z=(a z).map (gR l)) (V:List Rg_) (i:Int):Q8j F l V aO i=(Q7B F V a i).map (gR l):=by
 unfold Q8j Q7B Q8i Z3s;simp only [Q4X,Q6L,Z1R,h]
theorem Y6r (V:List Rg_):Q3b F l V=(Q3o F V).map (gR l):=by
 unfold Q3b Q3o;rw [Q4X,Q9j (gR l) fun aO a h z=>Y6C h V z]
 rfl
theorem RA9 (y c:Int) (p:List Rect) (V:List Rg_) (i:Int):Q6s F l y c p V i=(Q6q F y c p V i).map (gR l):=by
 unfold Q6s Q6q;simp only [Q6L,Y6r]
theorem RA8 {aO:Int→_} {a:Int→_} (h:∀ z,aO z=(a z).map (gR l)) (y c:Int) (p:List Rect) (V:List Rg_) (i:Int) (b:Bool):Q1p F l y c p V i aO b=(Q1J F y c p V i a b).map (gR l):=by
 unfold Q1p Q1J;simp only [Q4X,Q6L,RA9,h]
theorem RA7 {aO:Int→_} {a:Int→_} (h:∀ z,aO z=(a z).map (gR l)) (y c:Int) (p:List Rect) (V:List Rg_) (i:Int):Q8Z F l y c p V aO i=(Q8z F y c p V a i).map (gR l):=by
 unfold Q8Z Q8z;simp only [Q4X,Q6L,RA8 h]
theorem RA6 (y c:Int) (p:List Rect) (V:List Rg_):Q6t F l y c p V=(Q4A F y c p V).map (gR l):=by
 unfold Q6t Q4A;rw [Q4X,Q9j (gR l) fun aO a h z=>RA7 h y c p V z,Y6r]
theorem RA2 {aO:(List Rect×Int×List Rg_)→_} {a:(List Rect×Int×List Rg_)→_} (h:∀ z,aO z=(a z).map (gR l)) (y c:Int) (x:Re_) (p:List Rect) (v:Int) (q:List Rg_):Q9a F l y c x aO p v q=(Q6r F l y c x a p v q).map (gR l):=by
 unfold Q9a Q6r;simp only [Q4X,Q6L,RA3 h,RA6]
theorem RA1 (y c:Int) (x:Re_) (b:Bool):Q4b F l y c x b=(Q4D F l y c x b).map (gR l):=by
 unfold Q4b Q4D;simp only [Q4X,Z0d,Z1R]
 rw [Q9j (gR l) fun aO a h z=>RA2 h y c x z.1 z.2.1 z.2.2]
theorem RA0 (y c:Int) (x:Re_) (b:Bool):Q4c F l y c x b=(Q4E F l y c x b).map (gR l):=by
 unfold Q4c Q4E;simp only [Q4X,Z1R,RA1]
theorem Z6b (y c:Int) (x:Re_):Q5Q F l y c x=(Z2N F l y c x).map (gR l):=by
 unfold Q5Q Z2N;simp only [Q4X,Z0d,Z1R,RA0]
end
theorem Z6P {F:Nat} (hF:BIG≤F) (l:List Rg_) (y c:Int) (a:Re_):Q5Q F l y c a=some (l,addH l y c a):=by
 rw [Z6b,Z8H hF];rfl
abbrev gC4 (cs:List Crop):Tape×List Line×List Int×List Re_→Tape×List Crop×List Line×List Int×List Re_:=fun r=>(r.1,cs,r.2)
section
variable {F:Nat} {cs:List Crop}
theorem TL7 {aO:(Int×List Int×Int×List Line)→_} {a:(Int×List Int×Int×List Line)→_} (h:∀ z,aO z=(a z).map (gC4 cs)) (v:Int) (p:List Int) (q:Int) (r:List Line):Q0G F v aO p q r=(Q0v F v a p q r).map (gC4 cs):=by
 unfold Q0G Q0v;simp only [Q6L,h]
theorem TL6 {aO:(Int×List Int×Int×List Line)→_} {a:(Int×List Int×Int×List Line)→_} (h:∀ z,aO z=(a z).map (gC4 cs)) (cs0:List Crop) (v:Int) (p:List Line) (q:Tape×Int) (r:Tape×Re_) (s:List Rect):Q1M F cs0 v p q r aO s=(Q0w F cs0 v p q r a s).map (gC4 cs):=by
 unfold Q1M Q0w;simp only [Q4X,Q6L,Z0d,TL7 h]
theorem TL5 {aO:(Int×List Int×Int×List Line)→_} {a:(Int×List Int×Int×List Line)→_} (h:∀ z,aO z=(a z).map (gC4 cs)) {bO:List Rect×Int→_} {b:List Rect×Int→_} (h2:∀ z,bO z=(b z).map (gC4 cs)) (cs0:List Crop) (v:Int) (p:List Line) (q:Tape×Int) (r:Tape×Re_) (s:List Rect) (i:Int):Q4j F cs0 v p q r aO bO s i=(Q2W F cs0 v p q r a b s i).map (gC4 cs):=by
 unfold Q4j Q2W;simp only [Q4X,Q6L,Z0d,TL6 h,h2]
theorem TL4 {aO:(Int×List Int×Int×List Line)→_} {a:(Int×List Int×Int×List Line)→_} (h:∀ z,aO z=(a z).map (gC4 cs)) (cs0:List Crop) (rs:List Re_) (v:Int) (p:List Line) (q:Tape×Int) (r:Tape×Re_) (s:List Rect):Q1N F cs0 rs v p q r aO s=(Q1r F cs0 rs v p q r a s).map (gC4 cs):=by
 unfold Q1N Q1r;simp only [Q6L,Z0d]
 congr 2
 funext z
 exact Q9j (gC4 cs) (fun bO b h2 z=>TL5 h h2 cs0 v p q r z.1 z.2) _ _
theorem TL3 {aO:(Int×List Int×Int×List Line)→_} {a:(Int×List Int×Int×List Line)→_} (h:∀ z,aO z=(a z).map (gC4 cs)) {bO:Int×List Rect→_} {b:Int×List Rect→_} (h2:∀ z,bO z=(b z).map (gC4 cs)) (cs0:List Crop) (rs:List Re_) (v:Int) (p:List Line) (q:Tape×Int) (r:Tape×Re_) (i:Int) (s:List Rect):Q4k F cs0 rs v p q r aO bO i s=(Q2X F cs0 rs v p q r a b i s).map (gC4 cs):=by
 unfold Q4k Q2X;simp only [Q4X,Q6L,TL4 h,h2]
theorem TL2 {aO:(Int×List Int×Int×List Line)→_} {a:(Int×List Int×Int×List Line)→_} (h:∀ z,aO z=(a z).map (gC4 cs)) (ns:List Int) (rs:List Re_) (v:Int) (tl:List Int) (ta:Int) (p:List Line):Q4l F cs ns rs aO v tl ta p=(K7 F cs ns rs a v tl ta p).map (gC4 cs):=by
 unfold Q4l K7 Q4i Q9l;simp only [Q4X,Z0d,Z1R]
 congr 2
 funext z
 congr 1
 funext y
 exact Q9j (gC4 cs) (fun bO b h2 z=>TL3 h h2 cs rs v p _ _ z.1 z.2) _ _
theorem TL1 (m:Int) (tl:List Int) (ta:Int) (ns:List Int) (rs:List Re_):Q1O F cs m tl ta ns rs=(Q1s F cs m tl ta ns rs).map (gC4 cs):=by
 unfold Q1O Q1s;simp only [Q6L,Z0d]
 congr 2
 funext z
 exact Q9j (gC4 cs) (fun bO b h z=>TL2 h ns rs z.1 z.2.1 z.2.2.1 z.2.2.2) _ _
theorem TL0 {aO:(Int×List Int×Int×List Int×List Re_)→_} {a:(Int×List Int×Int×List Int×List Re_)→_} (h:∀ z,aO z=(a z).map (gC4 cs)) (m v:Int) (tl:List Int) (ta:Int) (ns:List Int) (rs:List Re_):Q4m F cs m aO v tl ta ns rs=(K8 F cs m a v tl ta ns rs).map (gC4 cs):=by
 unfold Q4m K8;simp only [Q4X,Q6L,Z0d,TL1,h]
theorem Z1L (t:Tape) (m:Int):Q0L F t cs m=(Q5B F t cs m).map (gC4 cs):=by
 unfold Q0L Q5B;rw [Z0d]
 congr 1
 funext z
 exact Q9j (gC4 cs) (fun bO b h z=>TL0 h m z.1 z.2.1 z.2.2.1 z.2.2.2.1 z.2.2.2.2) _ _
end
theorem Z0L {F:Nat} (hF:BIG≤F) {t:Tape} (ht:TOk t) {cs:List Crop} (hcs:CropT cs) {most:Int} (m1:0≤most) (m2:most≤50):∃ t' l,Q0T F t cs 4 most=some (t',cs,l)∧TOk t' ∧ HisT (cs.length:Nat) l∧(l.length:Int)≤most:=by
 have hF':=hF;unfold BIG at hF
 obtain ⟨l1,l2⟩:=hcs.len;obtain ⟨t1,c,e1,o1,c1,c2⟩:=W3 (F:=F) ht (n:=most+1) (by omega) (by omega)
 have key:∀ (k f:Nat) (t:Tape) (l:List Rg_),k<f→k≤60→(l.length:Int)+k≤most→TOk t→HisT (cs.length:Nat) l→∃ t' l',Z4 (fun again (z:Int×List Int×Int×List Rg_)=>Q0Z F cs 4 again z.1 z.2.1 z.2.2.1 z.2.2.2) f ((k:Int),t.l_,t.at_,l)=some (t',cs,l')∧TOk t' ∧ HisT (cs.length:Nat) l' ∧ (l'.length:Int)≤most:=by
  intro k
  induction k with
  | zero=>
   intro f t l hf _ hlm ht hl
   cases f with
   | zero=>omega
   | succ f=>exact ⟨⟨t.l_,t.at_⟩,l,rfl,ht,hl,by omega⟩
  | succ k ih=>
   intro f t l hf hk60 hlm ht hl
   cases f with
   | zero=>omega
   | succ f=>
    obtain ⟨ta,y,ea,oa,y1,y2⟩:=W3 (F:=F) ht (n:=5) (by omega) (by omega);obtain ⟨tb,c,eb,ob,c1,c2⟩:=W3 (F:=F) oa (n:=(cs.length:Nat)) (by omega) (by omega)
    obtain ⟨tc,a,ec,oc,ha⟩:=Q4T hF' ob (n:=9) (most:=2) (by omega) (by omega) (by omega) (by omega);have hal:=hl.addH_len (y:=y) (c:=c) (by omega) (by omega) ha
    obtain ⟨t2,l2,q1,q2,q3⟩:=ih f tc (addH l y c a).1 (by omega) (by omega) (by omega) oc (hl.addH (by omega) (by omega) c2 ha);refine ⟨t2,l2,?_,q2,q3⟩
    show Q0Z F cs 4 _ ((k+1:Nat):Int) t.l_ t.at_ l=_;unfold Q0Z
    refine Y8 (by simp) ?_;refine Z9 (k:=?_)
    refine Q6 ea (Q6 eb (Q6 ec (Q6 (Z6P hF' _ _ _ _) ?_)));refine Z9 (k:=?_)
    have e3:((k+1:Nat):Int)-1=(k:Int):=by omega
    rw [e3];exact q1
 obtain ⟨t',l,q1,q2,q3⟩:=key c.toNat F t1 [] (by omega) (by omega) (by simp;omega) o1 (HisT.nil _);refine ⟨t',l,?_,q2,q3⟩
 unfold Q0T;refine Z9 (k:=?_)
 refine Q6 e1 ?_;have:(c.toNat:Int)=c:=by omega
 rw [this] at q1;exact q1
end
end Go.Ab
end
section
namespace Go.Ab
set_option maxRecDepth 20000
noncomputable section
theorem Q8L {F:Nat} (hF:BIG≤F) {cs:List Crop} (hn:NmS cs) (L:List Line) {H:List Rg_} (hb:∀ f ∈ H,Box 9 f.g_.t_) (hl:H.length≤5) {a b y ys:Int} :
  Y9 F a b y ys cs L H=some true:=by
 have hF':=hF;unfold BIG at hF
 have hc:=Z2H hF' hn;have hc2:=Z6c hF' cs
 unfold Y9;refine Q6 (Q3M hF' hc) (Q6 (Z4x hF' hc2) ?_)
 have hlen:(if Q3v (crC cs) (cs.length:Nat) L=0 then (K9 cs L,(0:Int)) else ([],Q3v (crC cs) (cs.length:Nat) L)).1.length≤100:=by
  split
  ·rename_i h
   have hk:=Q9I h;rw [hk] at h
   have h1:=(Q2x.1 h).len;have h2:=Z4R cs L
   simp only;omega
  ·simp
 refine Q6 (Z2h hF' hlen) (Z8 rfl ?_);rw [bne_self_eq_false]
 unfold Q0A;obtain ⟨m1,e1,b1⟩:=Q4n (F:=F) a (n:=60) (by omega) (by omega)
 obtain ⟨m2,e2,b2⟩:=Q4n (F:=F) b (n:=60) (by omega) (by omega);obtain ⟨m3,e3,b3⟩:=Q4n (F:=F) a (n:=1000002) (by omega) (by omega)
 obtain ⟨m4,e4,b4⟩:=Q4n (F:=F) y (n:=6) (by omega) (by omega);obtain ⟨m5,e5,b5⟩:=Q4n (F:=F) ys (n:=6) (by omega) (by omega)
 refine Z8 rfl (Q6 e1 (Q6 e1 (Q6 e2 (Q7 (Z5 (by omega) (by omega)) (Q6 e3 (Q7 (Z5 (by omega) (by omega)) ?_))))));refine W2 (fun z:List Rg_×Int=>∃ i:Nat,z=(H,(i:Int))∧i≤3) (fun z=>3-z.2.toNat) (fun again z hz ih=>?_) ⟨0,rfl,by omega⟩ (by simp only;omega)
 obtain ⟨i,rfl,hi⟩:=hz;simp only
 unfold Q5o;simp only [Int.toNat_natCast]
 generalize hXs:([(⟨a,b⟩:A2_),(⟨m1,(m1+m2)⟩:A2_),(⟨(m3-(1:Int)),(5:Int)⟩:A2_)]:List A2_)=Xs;have hXl:Xs.length=3:=by rw [← hXs];rfl
 rw [hXl];refine Q8 (fun h1=>?_) (fun h1=>?_)
 ·have h1:i<3:=by have:=of_decide_eq_true h1;omega
  refine Q7 (by omega) (Q6 (Q4P hF' hc _ _) (Q6 (Z5h hF' hc2 _ _) (Q6 (Z2X hF' hc _) (Q6 (Z5i hF' hc2 _) ?_))));refine Z8 (by simp) (Z8 (by simp) (Z8 (by simp) ?_))
  rw [bne_self_eq_false];unfold J5
  refine Z8 rfl (Q6 e4 (Q6 e5 ?_));refine W2 (fun z:Int=>∃ j:Nat,z=(j:Int)∧j≤2) (fun z=>2-z.toNat) (fun again2 z hz ih2=>?_) ⟨0,rfl,by omega⟩ (by omega)
  obtain ⟨j,rfl,hj⟩:=hz;unfold Q5n
  simp only [Int.toNat_natCast];rw [hXs]
  generalize hYs:([(⟨y,ys⟩:A2_),(⟨m4,m5⟩:A2_)]:List A2_)=Ys;have hYl:Ys.length=2:=by rw [← hYs];rfl
  rw [hYl];refine Q8 (fun h2=>?_) (fun h2=>?_)
  ·have h2:j<2:=by have:=of_decide_eq_true h2;omega
   obtain ⟨r,r1,r2⟩:=Y5E hF' hc hc2 L hb hl (gl Ys j).e0_ (gl Ys j).e1_ (gl Xs i).e0_;obtain ⟨T,e,t1,t2,t3⟩:=Y5F hF' hc hc2 L hb hl (gl Ys j).e0_ (gl Ys j).e1_
   refine Q7 (by omega) (Q6 r1 (Q6 r2 (Q6 t1 (Q6 t2 (Z8 (by simp) (Z8 (by simp) (Q6 (Z7L hF' t3) (Z8 (by simp) ?_))))))));rw [bne_self_eq_false]
   unfold J4;exact Z8 rfl (Q7 (Z5 (by omega) (by omega)) (ih2 _ ⟨j+1,by simp,h2⟩ (by omega)))
  ·have h2:j=2:=by have:=of_decide_eq_false h2;omega
   unfold Q1Y;exact Q7 (Z5 (by omega) (by omega)) (ih _ ⟨i+1,by simp,h1⟩ (by simp only;omega))
 ·unfold Q1X
  exact Q6 (Z6Z hF') rfl
theorem Z0a {F:Nat} (hF:BIG≤F) (a b y ys by_:Int) (l:List Int):Q0m F a b y ys by_ l=some true:=by
 have hF':=hF;unfold BIG at hF
 unfold Q0m;obtain ⟨t,e1,o1⟩:=Z9C F l
 rw [e1];obtain ⟨t2,cs,e2,o2,hcs⟩:=Z2y hF' o1
 have hcl:=hcs.len;obtain ⟨t3,L,ns,rs,e3,o3,hp,hL,hLl⟩:=Z3Z hF' o2 (cs:=cs) ⟨by omega,by omega⟩ (most:=4) (by omega) (by omega)
 have e3' : Q0L F t2 cs 4=some (t3,cs,L,ns,rs):=by rw [Z1L,e3];rfl
 obtain ⟨t4,H,e4,o4,hH,hHl⟩:=Z0L hF' o3 hcs (most:=5) (by omega) (by omega);obtain ⟨t5,n,e5,o5,n1,n2⟩:=W3 (F:=F) o4 (n:=10) (by omega) (by omega)
 refine Q6 rfl (Q6 e2 (Q6 e3' (Q6 e4 (Q6 e5 ?_))));have hn:=hcs.nm
 have hb:=hH.box;have hl:H.length≤5:=by omega
 simp only
 refine Q8 (fun _=>?_) (fun _=>Q8 (fun _=>?_) (fun _=>Q8 (fun _=>?_) (fun _=>Q8 (fun _=>?_) (fun _=>Q8 (fun _=>?_) (fun _=>Q8 (fun _=>?_) (fun _=>Q8L hF' hn L hb hl))))))
 ·refine Q8 (fun h=>?_) (fun _=>Q8L hF' hn L hb hl)
  have h:=of_decide_eq_true h;exact Q7 (by omega) (Q8L hF' hn _ hb hl)
 ·refine Q8 (fun h=>?_) (fun _=>Q8L hF' hn L hb hl)
  have h:=of_decide_eq_true h;obtain ⟨t6,r,e6,_⟩:=Z3f hF' o5 (n:=9) (most:=2) (by omega) (by omega) (by omega) (by omega)
  exact Q6 e6 (Q7 (by omega) (Q8L hF' hn _ hb hl))
 ·exact Q7 (by unfold LIM;omega) (Q8L hF' hn _ hb hl)
 ·refine Q7 (by omega) (Q8L hF' (fun x hx=>?_) _ hb hl)
  rcases List.mem_or_eq_of_mem_set hx with h|h
  ·exact hn x h
  ·rw [h];exact Nat.zero_le _
 ·refine Q8 (fun h=>?_) (fun _=>Q8L hF' hn L hb hl)
  have h:=of_decide_eq_true h;obtain ⟨m,em,bm⟩:=Q4n (F:=F) by_ (n:=50) (by omega) (by omega)
  refine Q6 em (Q7 (Z5 (by omega) (by omega)) (Q7 (by omega) (Q8L hF' hn _ (fun x hx=>?_) (by rw [List.length_set];exact hl))));rcases List.mem_or_eq_of_mem_set hx with h2|h2
  ·exact hb x h2
  ·rw [h2];exact hb (gl H 0) (U7 (l:=H) (i:=0) (by omega))
 ·refine W2 (fun z:List Line=>z.length≤22) (fun z=>22-z.length) (fun again z hz ih=>?_) (by omega) (by omega)
  have k1f:U3 F a b y ys (t4,cs,H) z again false=some true:=by
   unfold U3;exact Z8 rfl (Q8L hF' hn _ hb hl)
  unfold Q5p;refine Q8 (fun h1=>Q8 (fun h2=>Q7 (by decide) ?_) (fun _=>k1f)) (fun _=>k1f)
  have h1:=of_decide_eq_true h1;have h2:=of_decide_eq_true h2
  unfold U3;refine Q8 (fun h3=>?_) (fun _=>Q8L hF' hn _ hb hl)
  exact Q7 (by omega) (Q7 (by simp [LIM];omega) (ih _ (by simp;omega) (by simp;omega)))
end
end Go.Ab
end
