/- Abstract states over the model: every lemma holds of any program of the form that it names. -/
import Derived.Test.YtdfbifjpedjljaaGreatLwA
set_option linter.unusedVariables false
set_option linter.unusedSimpArgs false
section
namespace Go.Ab
set_option maxRecDepth 20000
noncomputable section
theorem Canon.half2 {l:List Rect} (hc:Canon l) {x0:Int} {w h:Nat} (hb : ∀ r ∈ l,x0≤r.left_∧r.right_≤x0+w∧0≤r.low_∧r.high_≤h):l.length≤h*((w+1) / 2):=by
 obtain ⟨b,hB,rfl⟩:=hc
 have hne : ∀ c ∈ b,∃ s,s ∈ c.v:=fun c hc=>List.exists_mem_of_ne_nil _ (hB.ne c hc)
 have hmem : ∀ c ∈ b,∀ s ∈ c.v,(⟨s.left_,c.lo,s.right_,c.hi⟩ : Rect) ∈ flat b:=fun c hc s hs=>List.mem_flatMap.2 ⟨c,hc,List.mem_map.2 ⟨s,hs,rfl⟩⟩
 have h1:(b.length:Int)≤h-0:=hB.runs.len (by omega) fun c hc=>by
  obtain ⟨s,hs⟩:=hne c hc
  have:=hb _ (hmem c hc s hs)
  simp only at this
  omega
 have h2 : ∀ c ∈ b,c.v.length≤(w+1) / 2:=fun c hc=>by
  have:=(hB.sp c hc).half (n:=x0+w) (a:=x0) (by omega) fun s hs=>by
   have:=hb _ (hmem c hc s hs)
   simp only at this ⊢
   omega
  omega
 have h5:=flat_le h2
 have h6:b.length*((w+1) / 2)≤h*((w+1) / 2):=Nat.mul_le_mul_right _ (by omega)
 omega
def PlB (d:Int) (S:Int→Int→Bool):Prop:=∀ u v,S u v=true→d≤u∧u<d+9∧0≤v∧v<9
theorem pl_cn {S:Int→Int→Bool} (hf:Fin S) {d:Int} (h0:0≤d∧d≤100) (hb:PlB d S):Val (cn S)∧∀ r ∈ cn S,d≤r.left_∧r.right_≤d+9∧0≤r.low_∧r.high_≤9:=by
 have hc:=Canon.cn hf
 have hr : ∀ r ∈ cn S,d≤r.left_∧r.right_≤d+9∧0≤r.low_∧r.high_≤9:=by
  intro r hr
  obtain ⟨h1,h2⟩:=hc.pos hr
  have a:=hb r.left_ r.low_ (by rw [← inR_cn hf]; exact inR_mem hr ((has_iff _ _ _).2 (by omega)))
  have b:=hb (r.right_-1) (r.high_-1) (by rw [← inR_cn hf]; exact inR_mem hr ((has_iff _ _ _).2 (by omega)))
  omega
 have hl:=hc.half2 (x0:=d) (w:=9) (h:=9) fun r h=>by have:=hr r h; omega
 refine ⟨⟨by omega,fun r h=>?_,hc⟩,hr⟩
 obtain ⟨h1,h2⟩:=hc.pos h
 have:=hr r h
 rw [propB_iff]; omega
theorem keep_Tape_Land_O_eq (F:Nat) (t:Tape) (n m:Int):keep_Tape_Land_O F t n m=keep_Tape_Land F t n m:=rfl
def shR (d:Int) (r:Rect):Rect:=⟨r.left_+d,r.low_,r.right_+d,r.high_⟩
theorem glset {α:Type} [Emb α] (l:List α) (i j:Nat) (x:α) (hj:j<l.length):gl (l.set i x) j=if i=j then x else gl l j:=by
 unfold gl
 rw [List.getD_eq_getElem?_getD,List.getElem?_set]
 by_cases h:i=j
 ·subst h; rw [if_pos rfl,if_pos rfl,if_pos hj]; rfl
 ·rw [if_neg h,if_neg h, ← List.getD_eq_getElem?_getD]
theorem gl_at {α:Type} [Emb α] (l:List α) (i:Nat) (h:i<l.length):gl l i=l[i]:=by
 unfold gl; rw [List.getD_eq_getElem?_getD,List.getElem?_eq_getElem h]; rfl
theorem gl_ext {α:Type} [Emb α] {l m:List α} (h:l.length=m.length) (hg : ∀ i,i<l.length→gl l i=gl m i):l=m:=by
 apply List.ext_getElem h
 intro i h1 h2
 have:=hg i h1
 rwa [gl_at l i h1,gl_at m i h2] at this
theorem gl_map {α β:Type} [Emb α] [Emb β] (f:α→β) (l:List α) (i:Nat) (h:i<l.length):gl (l.map f) i=f (gl l i):=by
 rw [gl_at _ i (by simpa using h),gl_at l i h]; simp
structure ParT (rs:List Region):Prop where
 len:1≤rs.length∧rs.length≤3
 one : ∀ i,i<rs.length→∃ w h:Int,2≤w∧w≤9∧2≤h∧h≤9∧gl rs i=⟨[⟨10*i,0,10*i+w,h⟩]⟩
theorem ParT.pl {rs:List Region} (h:ParT rs) {i:Nat} (hi:i<rs.length):PlB (10*i) (inR (gl rs i).rects_):=by
 intro u v huv
 obtain ⟨w,k,h1,h2,h3,h4,h5⟩:=h.one i hi
 rw [h5,inR_iff] at huv
 obtain ⟨r,hr,hh⟩:=huv
 rw [List.mem_singleton] at hr
 subst hr
 rw [has_iff] at hh
 simp only at hh
 omega
theorem ParT.val {rs:List Region} (h:ParT rs) {i:Nat} (hi:i<rs.length):Val (gl rs i).rects_:=by
 obtain ⟨w,k,h1,h2,h3,h4,h5⟩:=h.one i hi
 have:=h.len
 rw [h5]
 exact val_one ((propB_iff _).2 (by simp only; omega))
structure LinO (K:Int) (rs:List Region) (x:Line):Prop where
 crop:0≤x.crop_∧x.crop_<K
 par:1≤x.parcel_∧x.parcel_≤rs.length
 sch:1≤x.schemes_∧x.schemes_≤15
 val:Val x.region_.rects_
 ne:x.region_.rects_.length≠0
 sub : ∀ u v,inR x.region_.rects_ u v=true→inR (gl rs (x.parcel_-1).toNat).rects_ u v=true
def Apart (a b:Line):Prop:=∀ u v,inR a.region_.rects_ u v=true→inR b.region_.rects_ u v=true→False
structure LinT (K:Int) (rs:List Region) (l:List Line):Prop where
 one : ∀ x ∈ l,LinO K rs x
 apart:l.Pairwise Apart
theorem LinO.pl {K:Int} {rs:List Region} (hp:ParT rs) {x:Line} (h:LinO K rs x):PlB (10*(x.parcel_-1)) (inR x.region_.rects_):=by
 intro u v huv
 have:=h.par
 have h1:=hp.pl (i:=(x.parcel_-1).toNat) (by omega) u v (h.sub u v huv)
 omega
theorem LinT.nil (K:Int) (rs:List Region):LinT K rs []:=⟨fun x hx=>by simp at hx,.nil⟩
theorem keep_Tape_Lines_ok {F:Nat} (hF:BIG≤F) {t:Tape} (ht:TOk t) {cs:List Crop} (hcs:1≤cs.length∧cs.length≤100) {most:Int} (m1:0≤most) (m2:most≤10) :
  ∃ t' l ns rs,keep_Tape_Lines F t cs most=some (t',l,ns,rs)∧TOk t' ∧ ParT rs∧LinT (cs.length:Nat) rs l∧(l.length:Int)≤most:=by
 have hF' := hF
 unfold BIG at hF
 obtain ⟨t1,c,e1,o1,c1,c2⟩:=keep_Tape_Range_ok (F:=F) ht (lo:=1) (hi:=3) (by omega) (by omega) (by omega)
 have lines : ∀ (rs:List Region) (ns:List Int) (tl:List Int) (ta:Int),ParT rs→ns.length=rs.length→TOk ⟨tl,ta⟩→∃ t' l,keep_Tape_Lines_k1 F cs most tl ta ns rs=some (t',l,ns,rs)∧TOk t' ∧ LinT (cs.length:Nat) rs l∧(l.length:Int)≤most:=by
  intro rs ns tl ta hp hns hT
  have hrl:=hp.len
  obtain ⟨t2,k,e2,o2,k1,k2⟩:=keep_Tape_Next_ok (F:=F) hT (n:=most+1) (by omega) (by omega)
  have key : ∀ (k f:Nat) (t:Tape) (l:List Line),k<f→(l.length:Int)+k≤most→TOk t→LinT (cs.length:Nat) rs l →
    ∃ t' l',loopN (fun again (z:Int×List Int×Int×List Line)=>keep_Tape_Lines_b2 F cs ns rs again z.1 z.2.1 z.2.2.1 z.2.2.2) f ((k:Int),t.l_,t.at_,l)=some (t',l',ns,rs)∧TOk t' ∧ LinT (cs.length:Nat) rs l' ∧ (l'.length:Int)≤most:=by
   intro k
   induction k with
   | zero=>
    intro f t l hf hlm ht hl
    cases f with
    | zero=>omega
    | succ f=>exact ⟨⟨t.l_,t.at_⟩,l,rfl,ht,hl,by omega⟩
   | succ k ih=>
    intro f t l hf hlm ht hl
    cases f with
    | zero=>omega
    | succ f=>
     obtain ⟨ta,p,ea,oa,p1,p2⟩:=keep_Tape_Next_ok (F:=F) ht (n:=(ns.length:Nat)) (by omega) (by omega)
     obtain ⟨tb,a,eb,ob,ha,hne⟩:=keep_Tape_Land_ok hF' oa (n:=9) (most:=2) (by omega) (by omega) (by omega) (by omega)
     obtain ⟨tc,c,ec,oc,c1,c2⟩:=keep_Tape_Next_ok (F:=F) ob (n:=(cs.length:Nat)) (by omega) (by omega)
     obtain ⟨td,s,ed,od,s1,s2⟩:=keep_Tape_Next_ok (F:=F) oc (n:=15) (by omega) (by omega)
     have hpr:p.toNat<rs.length:=by omega
     have hal:=ha.val.1
     let S:Nat→Int→Int→Bool:=fun n u v=>(inR (a.rects_.map (shR (10*p))) u v&&inR (gl rs p.toNat).rects_ u v) && !((l.take n).any fun x=>inR x.region_.rects_ u v)
     have hSp : ∀ n,PlB (10*p) (S n):=fun n u v h=>by
      have h1:inR (gl rs p.toNat).rects_ u v=true:=by
       simp only [S,Bool.and_eq_true] at h; exact h.1.2
      have:=hp.pl hpr u v h1
      omega
     have hS0:S 0=fun u v=>keepB (inR (a.rects_.map (shR (10*p))) u v) (inR (gl rs p.toNat).rects_ u v) 2:=by
      funext u v
      simp [S,keepB]
     have hbx : ∀ r ∈ a.rects_,0≤r.left_∧r.left_<r.right_∧r.right_≤9∧0≤r.low_∧r.low_<r.high_∧r.high_≤9:=ha.box
     have hpv : ∀ r ∈ a.rects_.map (shR (10*p)),propB r=true:=fun r hr=>by
      obtain ⟨q,hq,rfl⟩:=List.mem_map.1 hr
      have:=hbx q hq
      rw [propB_iff]
      simp only [shR]
      omega
     have hfin : ∀ n,n≤l.length→Fin (S n):=by
      intro n
      induction n with
      | zero=>intro _; rw [hS0]; exact fin_comb _ _ 2
      | succ n ihn=>
       intro hn
       have h0:=ihn (by omega)
       have e:S (n+1)=fun u v=>keepB (inR (cn (S n)) u v) (inR (gl l n).region_.rects_ u v) 3:=by
        funext u v
        rw [inR_cn h0]
        simp only [S,keepB]
        rw [take_gl (by omega),List.any_append]
        simp [Bool.and_assoc]
       rw [e]; exact fin_comb _ _ 3
     have hstep : ∀ n,n<l.length→(cn fun u v=>keepB (inR (cn (S n)) u v) (inR (gl l n).region_.rects_ u v) 3)=cn (S (n+1)):=fun n hn=>by
      congr 1
      funext u v
      rw [inR_cn (hfin n (by omega))]
      simp only [S,keepB]
      rw [take_gl hn,List.any_append]
      simp [Bool.and_assoc]
     have hval : ∀ n,n≤l.length→Val (cn (S n)):=fun n hn=>(pl_cn (hfin n hn) (by omega) (hSp n)).1
     have rest : ∃ t' l',keep_Tape_Lines_k4 F cs rs ((k+1:Nat):Int) l (ta,p) (tb,a) (loopN (fun again (z:Int×List Int×Int×List Line)=>keep_Tape_Lines_b2 F cs ns rs again z.1 z.2.1 z.2.2.1 z.2.2.2) f) (a.rects_.map (shR (10*p)))=some (t',l',ns,rs)∧TOk t' ∧ LinT (cs.length:Nat) rs l' ∧ (l'.length:Int)≤most:=by
      have fin : ∃ t' l',keep_Tape_Lines_k6 F cs ((k+1:Nat):Int) l (ta,p) (tb,a) (loopN (fun again (z:Int×List Int×Int×List Line)=>keep_Tape_Lines_b2 F cs ns rs again z.1 z.2.1 z.2.2.1 z.2.2.2) f) (cn (S l.length))=some (t',l',ns,rs)∧TOk t' ∧ LinT (cs.length:Nat) rs l' ∧ (l'.length:Int)≤most:=by
       have ek:((k+1:Nat):Int)-1=(k:Int):=by omega
       by_cases hz:(cn (S l.length)).length=0
       ·obtain ⟨t2,l2,q1,q2,q3⟩:=ih f tb l (by omega) (by omega) ob hl
        refine ⟨t2,l2, ?_,q2,q3⟩
        unfold keep_Tape_Lines_k6
        refine br_ff (by simp [hz]) ?_
        unfold keep_Tape_Lines_k7
        simp only
        rw [ek]
        exact gd_ok (i64_of (by omega) (by omega)) q1
       ·have hx:LinO (cs.length:Nat) rs ⟨p+1,⟨cn (S l.length)⟩,c,1+s⟩:=by
         refine ⟨⟨c1,c2⟩,by simp only; omega,by simp only; omega,hval _ (Nat.le_refl _),hz,fun u v huv=>?_⟩
         have huv:inR (cn (S l.length)) u v=true:=huv
         rw [inR_cn (hfin _ (Nat.le_refl _))] at huv
         simp only [S,Bool.and_eq_true] at huv
         have e5:(p+1-1:Int)=p:=by omega
         simp only [e5]
         exact huv.1.2
        have hl2:LinT (cs.length:Nat) rs (l++[⟨p+1,⟨cn (S l.length)⟩,c,1+s⟩]):=by
         refine ⟨fun x h=>?_, ?_⟩
         ·rcases List.mem_append.1 h with h | h
          ·exact hl.one x h
          ·rw [List.mem_singleton] at h; subst h; exact hx
         ·rw [List.pairwise_append]
          refine ⟨hl.apart,List.pairwise_singleton _ _,fun x h y hy u v h1 h2=>?_⟩
          rw [List.mem_singleton] at hy
          subst hy
          have h2:inR (cn (S l.length)) u v=true:=h2
          rw [inR_cn (hfin _ (Nat.le_refl _))] at h2
          simp only [S,Bool.and_eq_true,Bool.not_eq_true',List.take_length] at h2
          have:=List.any_eq_false.1 h2.2 x h
          exact this h1
        obtain ⟨t2,l2,q1,q2,q3⟩:=ih f td (l++[⟨p+1,⟨cn (S l.length)⟩,c,1+s⟩]) (by omega) (by simp; omega) od hl2
        refine ⟨t2,l2, ?_,q2,q3⟩
        unfold keep_Tape_Lines_k6
        refine br_tt (decide_eq_true (by omega)) ?_
        refine gd_ok (i64_of (by simp only; omega) (by simp only; omega)) (bd_ok ec (bd_ok ed ?_))
        refine gd_ok (i64_of (by simp only; omega) (by simp only; omega)) (gd_ok (by simp [LIM]; omega) ?_)
        unfold keep_Tape_Lines_k7
        simp only
        rw [ek]
        exact gd_ok (i64_of (by omega) (by omega)) q1
      obtain ⟨t2,l2,q1,q2,q3⟩:=fin
      refine ⟨t2,l2, ?_,q2,q3⟩
      unfold keep_Tape_Lines_k4
      refine gd_ok (by simp only; omega) ?_
      refine bd_ok ((ref04_Combine_grid hF' (a:=a.rects_.map (shR (10*p))) (b:=(gl rs p.toNat).rects_) (how:=2) (by simp; omega) (by have:=(hp.val hpr).1; omega) hpv (hp.val hpr).2.1).trans (congrArg some (congrArg cn hS0.symm))) ?_
      refine loopN_ok (fun z:List Rect×Int=>∃ n:Nat,z.2=n∧n≤l.length∧z.1=cn (S n)) (fun z=>l.length-z.2.toNat) (fun again z hz ih2=>?_) ⟨0,rfl,by omega,rfl⟩ (by simp only; omega)
      obtain ⟨V,n0⟩:=z
      obtain ⟨n,rfl,hn,rfl⟩:=hz
      simp only at hn ⊢
      unfold keep_Tape_Lines_b5
      refine br_ok (fun h=>?_) (fun h=>?_)
      ·have h:n<l.length:=by simpa using h
       refine gd_ok (by omega) ?_
       simp only [Int.toNat_natCast]
       have hx:=hl.one _ (gl_mem h)
       refine bd_ok ((ref04_Combine_grid hF' (a:=cn (S n)) (b:=(gl l n).region_.rects_) (how:=3) (by have:=(hval n hn).1; omega) (by have:=hx.val.1; omega) (hval n hn).2.1 hx.val.2.1).trans (congrArg some (hstep n h))) ?_
       refine gd_ok (i64_of (by omega) (by omega)) (ih2 _ ⟨n+1,by simp,h,rfl⟩ (by simp only; omega))
      ·have h:n=l.length:=by
        have : ¬ n<l.length:=by simpa using h
        omega
       subst h
       exact q1
     obtain ⟨t2,l2,q1,q2,q3⟩:=rest
     refine ⟨t2,l2, ?_,q2,q3⟩
     show keep_Tape_Lines_b2 F cs ns rs _ ((k+1:Nat):Int) t.l_ t.at_ l=_
     unfold keep_Tape_Lines_b2
     refine br_tt (by simp) (bd_ok ea ?_)
     rw [keep_Tape_Land_O_eq]
     refine bd_ok eb ?_
     refine loopN_ok (fun z:Int×List Rect=>∃ i:Nat,z.1=i∧i≤a.rects_.length∧z.2.length=a.rects_.length∧∀ j,j<a.rects_.length→gl z.2 j=if j<i then shR (10*p) (gl a.rects_ j) else gl a.rects_ j) (fun z=>a.rects_.length-z.1.toNat) (fun again z hz ih2=>?_)
      ⟨0,rfl,by omega,rfl,fun j _=>by rw [if_neg (by omega)]⟩ (by simp only; omega)
     obtain ⟨i0,V⟩:=z
     obtain ⟨i,rfl,hi,hVl,hV⟩:=hz
     simp only at hVl hV ⊢
     unfold keep_Tape_Lines_b3
     simp only [Int.toNat_natCast]
     refine br_ok (fun h=>?_) (fun h=>?_)
     ·have h:i<a.rects_.length:=by simpa using h
      have hvi:gl V i=gl a.rects_ i:=by rw [hV i h,if_neg (by omega)]
      have hb:=hbx _ (gl_mem h)
      have hset : ∀ x,gl (V.set i x) i=x:=fun x=>by rw [glset V i i x (by omega),if_pos rfl]
      simp only [hvi,hset]
      refine gd_ok (by omega) (gd_ok (i64_of (by omega) (by omega)) (gd_ok (i64_of (by omega) (by omega)) (gd_ok (by omega) (gd_ok (i64_of (by omega) (by omega)) (gd_ok (i64_of (by omega) (by omega)) (gd_ok (by omega) (gd_ok (by rw [List.length_set]; omega) (gd_ok (i64_of (by omega) (by omega)) ?_))))))))
      refine ih2 _ ⟨i+1,by simp,h,by simp [hVl],fun j hj=>?_⟩ (by simp only; omega)
      rw [glset _ i j _ (by simp; omega)]
      by_cases hij:i=j
      ·subst hij
       rw [if_pos rfl,if_pos (by omega)]; rfl
      ·rw [if_neg hij,glset V i j _ (by omega),if_neg hij,hV j hj]
       by_cases h6:j<i
       ·rw [if_pos h6,if_pos (by omega)]
       ·rw [if_neg h6,if_neg (by omega)]
     ·have h:i=a.rects_.length:=by
       have : ¬ i<a.rects_.length:=by simpa using h
       omega
      have hVe:V=a.rects_.map (shR (10*p)):=gl_ext (by simp [hVl]) fun j hj=>by
       rw [hV j (by omega),if_pos (by omega),gl_map _ _ _ (by omega)]
      rw [hVe]; exact q1
  obtain ⟨t',l,q1,q2,q3,q4⟩:=key k.toNat F t2 [] (by omega) (by simp; omega) o2 (LinT.nil _ _)
  refine ⟨t',l, ?_,q2,q3,q4⟩
  unfold keep_Tape_Lines_k1
  refine gd_ok (i64_of (by omega) (by omega)) (bd_ok e2 ?_)
  have:(k.toNat:Int)=k:=by omega
  rw [this] at q1
  exact q1
 have key : ∀ (k f:Nat) (t:Tape) (ns:List Int) (rs:List Region),k<f→TOk t→ns.length=rs.length→rs.length+k=c.toNat→(∀ i,i<rs.length→∃ w h:Int,2≤w∧w≤9∧2≤h∧h≤9∧gl rs i=⟨[⟨10*i,0,10*i+w,h⟩]⟩) →
   ∃ t' l ns' rs',loopN (fun again (z:Int×List Int×Int×List Int×List Region)=>keep_Tape_Lines_b0 F cs most again z.1 z.2.1 z.2.2.1 z.2.2.2.1 z.2.2.2.2) f ((k:Int),t.l_,t.at_,ns,rs)=some (t',l,ns',rs')∧TOk t' ∧ ParT rs' ∧ LinT (cs.length:Nat) rs' l∧(l.length:Int)≤most:=by
  intro k
  induction k with
  | zero=>
   intro f t ns rs hf ht hns hk hrs
   cases f with
   | zero=>omega
   | succ f=>
    have hp:ParT rs:=⟨by omega,hrs⟩
    obtain ⟨t',l,q1,q2,q3,q4⟩:=lines rs ns t.l_ t.at_ hp hns ht
    refine ⟨t',l,ns,rs, ?_,q2,hp,q3,q4⟩
    show keep_Tape_Lines_b0 F cs most _ 0 t.l_ t.at_ ns rs=_
    unfold keep_Tape_Lines_b0
    exact br_ff rfl q1
  | succ k ih=>
   intro f t ns rs hf ht hns hk hrs
   cases f with
   | zero=>omega
   | succ f=>
    obtain ⟨ta,w,ea,oa,w1,w2⟩:=keep_Tape_Range_ok (F:=F) ht (lo:=2) (hi:=9) (by omega) (by omega) (by omega)
    obtain ⟨tb,h,eb,ob,h1,h2⟩:=keep_Tape_Range_ok (F:=F) oa (lo:=2) (hi:=9) (by omega) (by omega) (by omega)
    obtain ⟨t',l,ns',rs',q1,q2⟩:=ih f tb (ns++[((ns.length:Nat):Int)+1]) (rs++[⟨[⟨10*((ns.length:Nat):Int),0,10*((ns.length:Nat):Int)+w,h⟩]⟩]) (by omega) ob (by simp [hns]) (by simp; omega) (fun i hi=>by
     rcases Nat.lt_or_ge i rs.length with h5 | h5
     ·have e:gl (rs++[(⟨[⟨10*((ns.length:Nat):Int),0,10*((ns.length:Nat):Int)+w,h⟩]⟩ : Region)]) i=gl rs i:=by
       unfold gl; rw [List.getD_eq_getElem?_getD,List.getElem?_append_left h5, ← List.getD_eq_getElem?_getD]
      rw [e]; exact hrs i h5
     ·have h6:i=rs.length:=by simp at hi; omega
      subst h6
      refine ⟨w,h,by omega,by omega,by omega,by omega, ?_⟩
      unfold gl
      rw [List.getD_eq_getElem?_getD,List.getElem?_append_right (Nat.le_refl _),hns]
      simp)
    refine ⟨t',l,ns',rs', ?_,q2⟩
    show keep_Tape_Lines_b0 F cs most _ ((k+1:Nat):Int) t.l_ t.at_ ns rs=_
    unfold keep_Tape_Lines_b0
    have ek:((k+1:Nat):Int)-1=(k:Int):=by omega
    refine br_tt (by simp) (gd_ok (i64_of (by omega) (by omega)) (gd_ok (by simp [LIM]; omega) (gd_ok (i64_of (by omega) (by omega)) (gd_ok (i64_of (by omega) (by omega)) (bd_ok ea (gd_ok (i64_of (by omega) (by omega)) (bd_ok eb (gd_ok (by simp [LIM]; omega) (gd_ok (i64_of (by omega) (by omega)) ?_)))))))))
    rw [ek]
    exact q1
 obtain ⟨t',l,ns,rs,q1,q2⟩:=key c.toNat F t1 [] [] (by omega) o1 rfl (by simp) (fun i hi=>by simp at hi)
 refine ⟨t',l,ns,rs, ?_,q2⟩
 unfold keep_Tape_Lines
 refine bd_ok e1 ?_
 have:(c.toNat:Int)=c:=by omega
 rw [this] at q1
 exact q1
end
end Go.Ab
end

section
namespace Go.Ab
set_option maxRecDepth 20000
noncomputable section
theorem scan_ok {R:Type} {body:(Int→Option R)→Int→Option R} {c y:Option R} (N:Nat) (p:Nat→Bool)
  (bad : ∀ again (i:Nat),i<N→p i=true→body again (i:Int)=c) (good : ∀ again (i:Nat) z,i<N→p i=false→again ((i:Int)+1)=z→body again (i:Int)=z)
  (stop : ∀ again,body again (N:Int)=y) {F:Nat} (hF:N<F):loopN body F 0=if (List.range N).any p=true then c else y:=by
 refine loopN_ok (fun z:Int=>∃ i:Nat,z=i∧i≤N∧∀ j,j<i→p j=false) (fun z=>N-z.toNat) (fun again z hz ih=>?_) ⟨0,rfl,Nat.zero_le _,fun j h=>absurd h (Nat.not_lt_zero j)⟩ (by simp; omega)
 obtain ⟨i,rfl,hi,hp⟩:=hz
 rcases Nat.lt_or_ge i N with h | h
 ·cases hpi:p i with
  | true=>
   rw [if_pos (List.any_eq_true.2 ⟨i,List.mem_range.2 h,hpi⟩)]
   exact bad again i h hpi
  | false=>
   refine good again i _ h hpi (ih _ ⟨i+1,by omega,h,fun j hj=>?_⟩ (by omega))
   by_cases hji:j=i
   ·rw [hji]; exact hpi
   ·exact hp j (by omega)
 ·have:i=N:=by omega
  subst this
  rw [if_neg (by rw [Bool.not_eq_true,List.any_eq_false]; intro j hj; rw [hp j (List.mem_range.1 hj)]; simp)]
  exact stop again
def linC (kc K:Int) (l:List Line):Int:=
 if 20<l.length then 1 else if kc≠0 then kc
 else if (List.range l.length).any (fun i=>decide ((gl l i).crop_<0)||decide (K≤(gl l i).crop_))=true then 13
 else if (List.range l.length).any (fun i=> !valB (gl l i).region_.rects_)=true then 7
 else if (List.range l.length).any (fun i=>(List.range i).any fun k=>meetB (gl l i).region_ (gl l k).region_)=true then 11 else 0
theorem gl_take {α:Type} [Emb α] (l:List α) {i k:Nat} (h:k<i):gl (l.take i) k=gl l k:=by
 unfold gl
 rw [List.getD_eq_getElem?_getD,List.getElem?_take,if_pos h, ← List.getD_eq_getElem?_getD]
theorem rotation_check_ok {F:Nat} (hF:BIG≤F) (l:List Line) {cs:List Crop} {kc:Int} (hc:crop_Check F cs=some kc):rotation_check F l cs=some (linC kc (cs.length:Nat) l):=by
 have hF' := hF
 unfold BIG at hF
 unfold rotation_check linC
 refine br_ok (fun h=>?_) (fun h=>?_)
 ·rw [if_pos (by have:=of_decide_eq_true h; omega)]
 have hl:l.length≤20:=by have:=of_decide_eq_false h; omega
 rw [if_neg (by omega)]
 refine bd_ok hc (br_ok (fun h1=>?_) (fun h1=>?_))
 ·rw [if_pos (by simpa using h1)]
 rw [if_neg (by simpa using h1)]
 refine (scan_ok (c:=some 13) (y:=some (if (List.range l.length).any (fun i=> !valB (gl l i).region_.rects_)=true then 7 else if (List.range l.length).any (fun i=>(List.range i).any fun k=>meetB (gl l i).region_ (gl l k).region_)=true then 11 else 0)) l.length (fun i=>decide ((gl l i).crop_<0)||decide ((cs.length:Nat)≤(gl l i).crop_)) (fun again i hi hp=>?_) (fun again i z hi hp hz=>?_) (fun again=>?_) (by omega)).trans (by split <;> rfl)
 ·unfold rotation_check_b0
  simp only [Int.toNat_natCast]
  refine br_tt (decide_eq_true (by omega)) (gd_ok (by omega) ?_)
  refine br_ok (fun h2=>?_) (fun h2=>?_)
  ·unfold rotation_check_k1; exact br_tt rfl rfl
  ·rw [h2,Bool.false_or] at hp
   unfold rotation_check_k1; exact br_tt hp rfl
 ·rw [Bool.or_eq_false_iff] at hp
  unfold rotation_check_b0
  simp only [Int.toNat_natCast]
  refine br_tt (decide_eq_true (by omega)) (gd_ok (by omega) ?_)
  refine br_ff hp.1 ?_
  unfold rotation_check_k1
  exact br_ff hp.2 (gd_ok (i64_of (by omega) (by omega)) hz)
 ·unfold rotation_check_b0
  refine br_ff (decide_eq_false (by omega)) ?_
  unfold rotation_check_k2
  refine (scan_ok (c:=some 7) (y:=some (if (List.range l.length).any (fun i=>(List.range i).any fun k=>meetB (gl l i).region_ (gl l k).region_)=true then 11 else 0)) l.length (fun i=> !valB (gl l i).region_.rects_) (fun again i hi hp=>?_) (fun again i z hi hp hz=>?_) (fun again=>?_) (by omega)).trans (by split <;> rfl)
  ·unfold rotation_check_b3
   simp only [Int.toNat_natCast]
   refine br_tt (decide_eq_true (by omega)) (gd_ok (by omega) (bd_ok (region_Valid_ok hF' _) ?_))
   exact br_tt hp rfl
  ·unfold rotation_check_b3
   simp only [Int.toNat_natCast]
   refine br_tt (decide_eq_true (by omega)) (gd_ok (by omega) (bd_ok (region_Valid_ok hF' _) ?_))
   exact br_ff hp (gd_ok (i64_of (by omega) (by omega)) hz)
  ·unfold rotation_check_b3
   refine br_ff (decide_eq_false (by omega)) ?_
   unfold rotation_check_k4
   have inner : ∀ (again:Int→Option Int) (i:Nat),i<l.length→rotation_check_b5 F l again (i:Int)=if (List.range i).any (fun k=>meetB (gl l i).region_ (gl l k).region_)=true then some 11 else again ((i:Int)+1):=by
    intro again i hi
    unfold rotation_check_b5
    refine br_tt (decide_eq_true (by omega)) (gd_ok (by omega) (gd_ok (by omega) ?_))
    have hti:(l.take ((i:Int)).toNat).length=i:=by rw [Int.toNat_natCast,List.length_take]; omega
    refine scan_ok i (fun k=>meetB (gl l i).region_ (gl l k).region_) (fun again2 k hk hp=>?_) (fun again2 k z hk hp hz=>?_) (fun again2=>?_) (by omega)
    ·unfold rotation_check_b6
     rw [hti]
     simp only [Int.toNat_natCast]
     refine br_tt (decide_eq_true (by omega)) (gd_ok (by omega) ?_)
     rw [gl_take l hk]
     exact bd_ok (region_Meets_ok hF' _ _) (br_tt hp rfl)
    ·unfold rotation_check_b6
     rw [hti]
     simp only [Int.toNat_natCast]
     refine br_tt (decide_eq_true (by omega)) (gd_ok (by omega) ?_)
     rw [gl_take l hk]
     exact bd_ok (region_Meets_ok hF' _ _) (br_ff hp (gd_ok (i64_of (by omega) (by omega)) hz))
    ·unfold rotation_check_b6
     rw [hti]
     refine br_ff (decide_eq_false (by omega)) ?_
     unfold rotation_check_k7
     exact gd_ok (i64_of (by omega) (by omega)) rfl
   refine (scan_ok (c:=some 11) (y:=some 0) l.length (fun i=>(List.range i).any fun k=>meetB (gl l i).region_ (gl l k).region_) (fun again i hi hp=>?_) (fun again i z hi hp hz=>?_) (fun again=>?_) (by omega)).trans (by split <;> rfl)
   ·rw [inner again i hi,if_pos hp]
   ·rw [inner again i hi,if_neg (by rw [hp]; simp)]; exact hz
   ·unfold rotation_check_b5
    refine br_ff (decide_eq_false (by omega)) rfl
structure LG (K:Int) (l:List Line):Prop where
 len:l.length≤20
 crop : ∀ x ∈ l,0≤x.crop_∧x.crop_<K
 val : ∀ x ∈ l,Val x.region_.rects_
 apart:l.Pairwise Apart
theorem Apart.symm {a b:Line} (h:Apart a b):Apart b a:=fun u v h1 h2=>h u v h2 h1
theorem linC_zero {K:Int} {l:List Line}:linC 0 K l=0↔LG K l:=by
 unfold linC
 constructor
 ·intro h
  split at h
  ·cases h
  rename_i h1
  rw [if_neg (by omega)] at h
  split at h
  ·cases h
  rename_i h2
  split at h
  ·cases h
  rename_i h3
  split at h
  ·cases h
  rename_i h4
  rw [Bool.not_eq_true,List.any_eq_false] at h2 h3 h4
  have hv : ∀ x ∈ l,Val x.region_.rects_:=fun x hx=>by
   obtain ⟨i,hi,rfl⟩:=List.getElem_of_mem hx
   have:=h3 i (List.mem_range.2 hi)
   rw [gl_at l i hi] at this
   simpa [valB_iff] using this
  refine ⟨by omega,fun x hx=>?_,hv, ?_⟩
  ·obtain ⟨i,hi,rfl⟩:=List.getElem_of_mem hx
   have:=h2 i (List.mem_range.2 hi)
   rw [gl_at l i hi,Bool.or_eq_true,decide_eq_true_eq,decide_eq_true_eq] at this
   omega
  ·rw [List.pairwise_iff_getElem]
   intro i j hi hj hij
   have:=h4 j (List.mem_range.2 hj)
   rw [Bool.not_eq_true,List.any_eq_false] at this
   have h5:=this i (List.mem_range.2 hij)
   rw [gl_at l i hi,gl_at l j hj,Bool.not_eq_true] at h5
   have h6:=meetB_apart (hv _ (List.getElem_mem hj)) (hv _ (List.getElem_mem hi)) h5
   exact fun u v p q=>h6 u v q p
 ·intro h
  have:=h.len
  rw [if_neg (by omega),if_neg (by simp),if_neg,if_neg,if_neg]
  ·rw [Bool.not_eq_true,List.any_eq_false]
   intro j hj
   have hj:=List.mem_range.1 hj
   rw [Bool.not_eq_true,List.any_eq_false]
   intro i hi
   have hi:=List.mem_range.1 hi
   have hil:i<l.length:=by omega
   rw [gl_at l i hil,gl_at l j hj,Bool.not_eq_true]
   have:=List.pairwise_iff_getElem.1 h.apart i j hil hj hi
   exact meetB_off fun u v p q=>this u v q p
  ·rw [Bool.not_eq_true,List.any_eq_false]
   intro i hi
   have hi:=List.mem_range.1 hi
   rw [gl_at l i hi,valB_true (h.val _ (List.getElem_mem hi))]; simp
  ·rw [Bool.not_eq_true,List.any_eq_false]
   intro i hi
   have hi:=List.mem_range.1 hi
   have:=h.crop _ (List.getElem_mem hi)
   rw [gl_at l i hi,Bool.or_eq_true,decide_eq_true_eq,decide_eq_true_eq]
   omega
theorem LinT.lg {K:Int} {rs:List Region} {l:List Line} (h:LinT K rs l) (hl:l.length≤20):LG K l:=⟨hl,fun x hx=>(h.one x hx).crop,fun x hx=>(h.one x hx).val,h.apart⟩
def arbB (cs:List Crop) (x:Line):Bool:=band .i64 (gl cs x.crop_.toNat).marks_ 3==0
def famX (cs:List Crop) (x:Line):Int:=(gl cs x.crop_.toNat).family_
def arX (x:Line):Int:=area x.region_.rects_
def arL (cs:List Crop) (l:List Line):List Line:=l.filter (arbB cs)
theorem arX_bd {x:Line} (h:Val x.region_.rects_):0≤arX x∧arX x≤268435456:=by
 have:=sq_small (inR x.region_.rects_)
 unfold arX
 rw [h.area]; omega
theorem region_Area_v {F:Nat} (hF:BIG≤F) {a:Region} (h:Val a.rects_):region_Area F a=some (area a.rects_):=by
 have h1:=h.1
 unfold region_Area
 refine bd_ok (region_Valid_ok hF _) (br_ff (by rw [valB_true h]; rfl) (bd_ok (region_Size_ok hF (by omega) h.2.1) rfl))
theorem rotation_arable_ok {F:Nat} (hF:BIG≤F) {cs:List Crop} {l:List Line} (h:LG (cs.length:Nat) l):rotation_arable F l cs=some (arL cs l):=by
 unfold BIG at hF
 have hl:=h.len
 unfold rotation_arable
 refine loopN_ok (fun z:Int×List Line=>∃ i:Nat,z.1=i∧i≤l.length∧z.2=arL cs (l.take i)) (fun z=>l.length-z.1.toNat) (fun again z hz ih=>?_) ⟨0,rfl,by omega,rfl⟩ (by simp only; omega)
 obtain ⟨i0,V⟩:=z
 obtain ⟨i,rfl,hi,rfl⟩:=hz
 simp only
 unfold rotation_arable_b0
 simp only [Int.toNat_natCast]
 refine br_ok (fun h1=>?_) (fun h1=>?_)
 ·have h1:i<l.length:=by simpa using h1
  have hc:=h.crop _ (gl_mem h1)
  have hlen:(arL cs (l.take i)).length≤i:=by
   have:=List.length_filter_le (arbB cs) (l.take i)
   rw [List.length_take] at this
   unfold arL; omega
  have hs:arL cs (l.take (i+1))=arL cs (l.take i)++(if arbB cs (gl l i)=true then [gl l i] else []):=by
   unfold arL
   rw [take_gl h1,List.filter_append]
   congr 1
   by_cases hb:arbB cs (gl l i)=true
   ·rw [if_pos hb]; simp [hb]
   ·rw [if_neg hb]; simp [hb]
  refine gd_ok (by omega) (gd_ok hc ?_)
  refine br_ok (fun h2=>?_) (fun h2=>?_)
  ·refine gd_ok (by simp [LIM]; omega) ?_
   unfold rotation_arable_k1
   refine gd_ok (i64_of (by omega) (by omega)) (ih _ ⟨i+1,by simp,h1, ?_⟩ (by simp only; omega))
   have:arbB cs (gl l i)=true:=h2
   rw [hs,if_pos this]
  ·unfold rotation_arable_k1
   refine gd_ok (i64_of (by omega) (by omega)) (ih _ ⟨i+1,by simp,h1, ?_⟩ (by simp only; omega))
   have:arbB cs (gl l i)=false:=h2
   rw [hs,if_neg (by rw [this]; simp),List.append_nil]
 ·have h1:i=l.length:=by
   have : ¬ i<l.length:=by simpa using h1
   omega
  subst h1
  rw [List.take_length]; rfl
def sumF (cs:List Crop) (f:Int) (A:List Line):Int:=((A.filter fun x=>famX cs x==f).map arX).sum
def mapL (cs:List Crop) (A:List Line):List (Int×Int):=A.foldl (fun gs x=>iPut (famX cs x) (iGet (famX cs x) gs+arX x) gs) []
theorem mapL_snoc (cs:List Crop) (A:List Line) (x:Line):mapL cs (A++[x])=iPut (famX cs x) (iGet (famX cs x) (mapL cs A)+arX x) (mapL cs A):=by unfold mapL; rw [List.foldl_append]; rfl
theorem sumF_snoc (cs:List Crop) (f:Int) (A:List Line) (x:Line):sumF cs f (A++[x])=sumF cs f A+(if famX cs x=f then arX x else 0):=by
 unfold sumF
 rw [List.filter_append,List.map_append,List.sum_append]
 by_cases h:famX cs x=f
 ·rw [if_pos h]; simp [h]
 ·rw [if_neg h]; simp [h]
theorem iPut_mem {y n:Int} {gs:List (Int×Int)} (hnd:(gs.map (·.1)).Nodup) (e:Int×Int):e ∈ iPut y n gs↔e=(y,n)∨(e ∈ gs∧e.1≠y):=by
 unfold iPut
 rcases iIdx_spec y gs with ⟨h,q,hq,hqy⟩|⟨h,hno⟩
 ·rw [if_pos h]
  constructor
  ·intro he
   obtain ⟨j,hj,rfl⟩:=List.getElem_of_mem he
   rw [List.length_set] at hj
   rw [List.getElem_set]
   by_cases hij:iIdx y gs=j
   ·rw [if_pos hij]; exact .inl rfl
   ·rw [if_neg hij]
    refine .inr ⟨List.getElem_mem hj,fun hy=>hij ?_⟩
    obtain ⟨hi,hqe⟩:=List.getElem?_eq_some_iff.1 hq
    exact (List.getElem_inj (h₀:=by simpa using hi) (h₁:=by simpa using hj) hnd).1 (by simp [hqe,hqy,hy])
  ·rintro (rfl | ⟨he,hy⟩)
   ·exact List.mem_iff_getElem.2 ⟨iIdx y gs,by simpa using h,by simp⟩
   ·obtain ⟨j,hj,rfl⟩:=List.getElem_of_mem he
    refine List.mem_iff_getElem.2 ⟨j,by simpa using hj, ?_⟩
    rw [List.getElem_set,if_neg]
    intro hij
    obtain ⟨hi,hqe⟩:=List.getElem?_eq_some_iff.1 hq
    have hjq:gs[j]=q:=by rw [← hqe]; simp only [hij]
    rw [hjq] at hy
    exact hy hqy
 ·rw [if_neg (by omega),List.mem_append,List.mem_singleton]
  constructor
  ·rintro (he | rfl)
   ·exact .inr ⟨he,hno e he⟩
   ·exact .inl rfl
  ·rintro (rfl | ⟨he,_⟩)
   ·exact .inr rfl
   ·exact .inl he
theorem iGet_of {y:Int} {gs:List (Int×Int)} (hnd:(gs.map (·.1)).Nodup) {e:Int×Int} (he:e ∈ gs) (hy:e.1=y):iGet y gs=e.2:=by
 unfold iGet
 rcases iIdx_spec y gs with ⟨h,q,hq,hqy⟩|⟨h,hno⟩
 ·rw [hq]
  obtain ⟨j,hj,rfl⟩:=List.getElem_of_mem he
  obtain ⟨hi,hqe⟩:=List.getElem?_eq_some_iff.1 hq
  have:=(List.getElem_inj (h₀:=by simpa using hi) (h₁:=by simpa using hj) hnd).1 (by simp [hqe,hqy,hy])
  subst this
  rw [← hqe]
 ·exact absurd hy (hno e he)
theorem iGet_no {y:Int} {gs:List (Int×Int)} (h : ∀ e ∈ gs,e.1≠y):iGet y gs=0:=by
 unfold iGet
 rcases iIdx_spec y gs with ⟨_,q,hq,hqy⟩|⟨hl,_⟩
 ·exact absurd hqy (h q (List.mem_of_getElem? hq))
 ·rw [hl,List.getElem?_eq_none (Nat.le_refl _)]
theorem mapL_spec (cs:List Crop) : ∀ (A:List Line) (n:Nat),n≤A.length→((mapL cs (A.take n)).map (·.1)).Nodup∧(∀ e,e ∈ mapL cs (A.take n)↔(∃ x ∈ A.take n,famX cs x=e.1)∧e.2=sumF cs e.1 (A.take n))∧(mapL cs (A.take n)).length≤n:=by
 intro A n
 induction n with
 | zero=>intro _; exact ⟨by simp [mapL],fun e=>by simp [mapL],by simp [mapL]⟩
 | succ n ih=>
  intro hn
  obtain ⟨h1,h2,h3⟩:=ih (by omega)
  rw [take_gl (by omega),mapL_snoc]
  have hg:iGet (famX cs (gl A n)) (mapL cs (A.take n))=sumF cs (famX cs (gl A n)) (A.take n):=by
   by_cases hex : ∃ x ∈ A.take n,famX cs x=famX cs (gl A n)
   ·exact iGet_of h1 ((h2 (famX cs (gl A n),sumF cs (famX cs (gl A n)) (A.take n))).2 ⟨hex,rfl⟩) rfl
   ·rw [iGet_no fun e he hy=>hex (by obtain ⟨⟨x,hx,hxe⟩,_⟩:=(h2 e).1 he; exact ⟨x,hx,hxe.trans hy⟩)]
    unfold sumF
    have:(A.take n).filter (fun x=>famX cs x==famX cs (gl A n))=[]:=List.filter_eq_nil_iff.2 fun x hx hh=>hex ⟨x,hx,by simpa using hh⟩
    rw [this]; rfl
  refine ⟨iPut_keys h1,fun e=>?_, ?_⟩
  ·rw [iPut_mem h1,hg]
   constructor
   ·rintro (rfl | ⟨he,hy⟩)
    ·refine ⟨⟨gl A n,by simp,rfl⟩, ?_⟩
     rw [sumF_snoc,if_pos rfl]
    ·obtain ⟨⟨x,hx,hxe⟩,hs⟩:=(h2 e).1 he
     refine ⟨⟨x,List.mem_append_left _ hx,hxe⟩, ?_⟩
     rw [sumF_snoc,if_neg (fun hh=>hy hh.symm),hs]; omega
   ·rintro ⟨⟨x,hx,hxe⟩,hs⟩
    rw [sumF_snoc] at hs
    by_cases hy:famX cs (gl A n)=e.1
    ·left
     rw [if_pos hy] at hs
     rw [hy, ← hs]
    ·right
     rw [if_neg hy] at hs
     refine ⟨(h2 e).2 ⟨?_,by omega⟩,fun hh=>hy hh.symm⟩
     rcases List.mem_append.1 hx with hx | hx
     ·exact ⟨x,hx,hxe⟩
     ·rw [List.mem_singleton] at hx; subst hx; exact absurd hxe hy
  ·unfold iPut
   split
   ·rw [List.length_set]; omega
   ·rw [List.length_append]; simp; omega
theorem sumF_bd {cs:List Crop} {f:Int} {A:List Line} (h : ∀ x ∈ A,Val x.region_.rects_):0≤sumF cs f A∧sumF cs f A≤268435456*(A.length:Nat):=by
 unfold sumF
 have key : ∀ B:List Line,(∀ x ∈ B,Val x.region_.rects_)→0≤(B.map arX).sum∧(B.map arX).sum≤268435456*(B.length:Nat):=by
  intro B
  induction B with
  | nil=>intro _; simp
  | cons x B ih=>
   intro hB
   have h1:=ih fun y hy=>hB y (List.mem_cons_of_mem _ hy)
   have h2:=arX_bd (hB x List.mem_cons_self)
   rw [List.map_cons,List.sum_cons,List.length_cons]
   omega
 have h1:=key (A.filter fun x=>famX cs x==f) fun x hx=>h x (List.mem_filter.1 hx).1
 have h2:=List.length_filter_le (fun x=>famX cs x==f) A
 omega
end
end Go.Ab
end

section
namespace Go.Ab
set_option maxRecDepth 20000
noncomputable section
theorem permU {α:Type} {le:α→α→Prop} : ∀ {l m:List α},l.Perm m→l.Pairwise le→m.Pairwise le→(∀ a ∈ l,∀ b ∈ l,le a b→le b a→a=b)→l=m
 | [],m,hp,_,_,_=>(List.nil_perm.1 hp).symm
 | a::l,[],hp,_,_,_=>absurd hp.length_eq (by simp)
 | a::l,b::m,hp,h1,h2,ha=>by
  have hab:a=b:=by
   by_cases h:a=b
   ·exact h
   ·have m1:a ∈ m:=by
     have:=hp.mem_iff.1 (List.mem_cons_self (a:=a) (l:=l))
     rcases List.mem_cons.1 this with h5 | h5
     ·exact absurd h5 h
     ·exact h5
    have m2:b ∈ l:=by
     have:=hp.mem_iff.2 (List.mem_cons_self (a:=b) (l:=m))
     rcases List.mem_cons.1 this with h5 | h5
     ·exact absurd h5.symm h
     ·exact h5
    exact ha a List.mem_cons_self b (List.mem_cons_of_mem _ m2) ((List.pairwise_cons.1 h1).1 b m2) ((List.pairwise_cons.1 h2).1 a m1)
  subst hab
  rw [permU (List.perm_cons a |>.1 hp) (List.pairwise_cons.1 h1).2 (List.pairwise_cons.1 h2).2 fun x hx y hy=>ha x (List.mem_cons_of_mem _ hx) y (List.mem_cons_of_mem _ hy)]
theorem ascE {α:Type} {lt:α→α→Prop} (hx : ∀ a b,lt a b→lt b a→False) : ∀ {l m:List α},l.Pairwise lt→m.Pairwise lt→(∀ x,x ∈ l↔x ∈ m)→l=m
 | [],[],_,_,_=>rfl
 | [],b::m,_,_,h=>absurd ((h b).2 List.mem_cons_self) (by simp)
 | a::l,[],_,_,h=>absurd ((h a).1 List.mem_cons_self) (by simp)
 | a::l,b::m,h1,h2,h=>by
  obtain ⟨p1,p2⟩:=List.pairwise_cons.1 h1
  obtain ⟨q1,q2⟩:=List.pairwise_cons.1 h2
  have hab:a=b:=by
   rcases List.mem_cons.1 ((h a).1 List.mem_cons_self) with h3 | h3
   ·exact h3
   ·rcases List.mem_cons.1 ((h b).2 List.mem_cons_self) with h4 | h4
    ·exact h4.symm
    ·exact (hx a b (p1 b h4) (q1 a h3)).elim
  subst hab
  congr 1
  refine ascE hx p2 q2 fun x=>⟨fun hm=>?_,fun hm=>?_⟩
  ·rcases List.mem_cons.1 ((h x).1 (List.mem_cons_of_mem _ hm)) with h3 | h3
   ·subst h3; exact (hx x x (p1 x hm) (p1 x hm)).elim
   ·exact h3
  ·rcases List.mem_cons.1 ((h x).2 (List.mem_cons_of_mem _ hm)) with h3 | h3
   ·subst h3; exact (hx x x (q1 x hm) (q1 x hm)).elim
   ·exact h3
theorem perm_eraseIdx {α:Type} : ∀ (l:List α) (i:Nat) (h:i<l.length),(l[i]::l.eraseIdx i).Perm l
 | a::l,0,_=>.refl _
 | a::l,i+1,h=>by
  have:=perm_eraseIdx l i (by simpa using h)
  simp only [List.getElem_cons_succ,List.eraseIdx_cons_succ]
  exact (List.Perm.swap _ _ _).trans (this.cons a)
abbrev byK (P:List Arr2Int):List Arr2Int:=P.mergeSort fun a b=>decide (a.e0_≤b.e0_)
theorem byK_perm (P:List Arr2Int):(byK P).Perm P:=List.mergeSort_perm P _
theorem byK_le (P:List Arr2Int):(byK P).Pairwise fun a b=>a.e0_≤b.e0_:=
 (List.pairwise_mergeSort (le:=fun a b:Arr2Int=>decide (a.e0_≤b.e0_)) (fun a b c h5 h6=>by simp at *; omega) (fun a b=>by simp; omega) P).imp fun h=>by simpa using h
theorem key_inj {P:List Arr2Int} (hnd:(P.map Arr2Int.e0_).Nodup) {a b:Arr2Int} (ha:a ∈ P) (hb:b ∈ P) (h:a.e0_=b.e0_):a=b:=by
 obtain ⟨i,hi,rfl⟩:=List.getElem_of_mem ha
 obtain ⟨j,hj,rfl⟩:=List.getElem_of_mem hb
 have:=(List.getElem_inj (h₀:=by simpa using hi) (h₁:=by simpa using hj) hnd).1 (by simpa using h)
 simp only [this]
theorem byK_lt {P:List Arr2Int} (hnd:(P.map Arr2Int.e0_).Nodup):(byK P).Pairwise fun a b=>a.e0_<b.e0_:=by
 have hle:=byK_le P
 have hn:((byK P).map Arr2Int.e0_).Nodup:=(((byK_perm P).map _).nodup_iff).2 hnd
 rw [List.pairwise_iff_getElem] at hle ⊢
 intro i j hi hj hij
 have h1:=hle i j hi hj hij
 have h2:(byK P)[i].e0_≠(byK P)[j].e0_:=fun h=>by
  have:=(List.getElem_inj (h₀:=by simpa using hi) (h₁:=by simpa using hj) hn).1 (by simpa using h)
  omega
 omega
theorem byK_congr {P Q:List Arr2Int} (hp:P.Perm Q) (hnd:(P.map Arr2Int.e0_).Nodup):byK P=byK Q:=
 permU (((byK_perm P).trans hp).trans (byK_perm Q).symm) (byK_le P) (byK_le Q) fun a ha b hb h1 h2=>key_inj hnd ((byK_perm P).mem_iff.1 ha) ((byK_perm P).mem_iff.1 hb) (by omega)
def mkP (e:Int×Int):Arr2Int:=⟨e.1,e.2⟩
def famE (cs:List Crop) (l:List Line):List Arr2Int:=byK ((mapL cs (arL cs l)).map mkP)
theorem fam_loop {F:Nat} : ∀ (n f:Nat) (gs:List (Int×Int)) (out:List Arr2Int),gs.length=n→n<f→((out++gs.map mkP).map Arr2Int.e0_).Nodup→(out++gs.map mkP).length≤LIM →
  loopN (fun again (z:List (Int×Int)×List Arr2Int)=>rotation_Families_b2 F again z.1 z.2) f (gs,out)=some (byK (out++gs.map mkP),0):=by
 intro n
 induction n with
 | zero=>
  intro f gs out hg hf hnd hl
  obtain rfl:=List.eq_nil_of_length_eq_zero hg
  cases f with
  | zero=>omega
  | succ f=>
   show rotation_Families_b2 F _ [] out=_
   unfold rotation_Families_b2
   rw [nextM_nil]
   unfold rotation_Families_k3
   rw [List.map_nil,List.append_nil] at hnd hl ⊢
   exact bd_ok (sortK_eq hnd hl) rfl
 | succ n ih=>
  intro f gs out hg hf hnd hl
  cases f with
  | zero=>omega
  | succ f=>
   show rotation_Families_b2 F _ gs out=_
   unfold rotation_Families_b2
   refine nextM_some (fun h=>by rw [h] at hg; cases hg) fun i hi=>?_
   have hp:(out++[mkP gs[i]]++(gs.eraseIdx i).map mkP).Perm (out++gs.map mkP):=by
    rw [List.append_assoc]
    refine List.Perm.append_left out ?_
    have:=(perm_eraseIdx gs i hi).map mkP
    simpa using this
   have hl2:=hp.length_eq
   refine gd_ok (by simp at hl hl2 ⊢; omega) ?_
   have:=ih f (gs.eraseIdx i) (out++[mkP gs[i]]) (by rw [List.length_eraseIdx_of_lt hi]; omega) (by omega) (((hp.map _).nodup_iff).2 hnd) (by omega)
   rw [byK_congr hp (((hp.map _).nodup_iff).2 hnd)] at this
   exact this
theorem arL_val {K:Int} {cs:List Crop} {l:List Line} (h:LG K l) : ∀ x ∈ arL cs l,Val x.region_.rects_:=fun x hx=>h.val x (List.mem_filter.1 hx).1
theorem arL_len (cs:List Crop) (l:List Line):(arL cs l).length≤l.length:=List.length_filter_le _ _
theorem mapL_full (cs:List Crop) (A:List Line):((mapL cs A).map (·.1)).Nodup∧(∀ e,e ∈ mapL cs A↔(∃ x ∈ A,famX cs x=e.1)∧e.2=sumF cs e.1 A)∧(mapL cs A).length≤A.length:=by
 have:=mapL_spec cs A A.length (Nat.le_refl _)
 rwa [List.take_length] at this
theorem rotation_Families_ok {F:Nat} (hF:BIG≤F) {l:List Line} {cs:List Crop} {kc:Int} (hc:crop_Check F cs=some kc) :
  rotation_Families F l cs=some (if linC kc (cs.length:Nat) l=0 then (famE cs l,0) else ([],linC kc (cs.length:Nat) l)):=by
 have hF' := hF
 unfold BIG at hF
 unfold rotation_Families
 refine bd_ok (rotation_check_ok hF' l hc) (br_ok (fun h=>?_) (fun h=>?_))
 ·rw [if_neg (by simpa using h)]
 have h0:linC kc (cs.length:Nat) l=0:=by simpa using h
 rw [if_pos h0]
 have hk:kc=0:=by
  unfold linC at h0
  split at h0
  ·cases h0
  ·split at h0
   ·exact h0
   ·rename_i hh; simpa using hh
 subst hk
 have hg:=linC_zero.1 h0
 have hl:=hg.len
 refine bd_ok (rotation_arable_ok hF' hg) ?_
 have hA:=arL_len cs l
 refine loopN_ok (fun z:Int×List (Int×Int)=>∃ i:Nat,z.1=i∧i≤(arL cs l).length∧z.2=mapL cs ((arL cs l).take i)) (fun z=>(arL cs l).length-z.1.toNat) (fun again z hz ih=>?_) ⟨0,rfl,by omega,rfl⟩ (by simp only; omega)
 obtain ⟨i0,gs⟩:=z
 obtain ⟨i,rfl,hi,rfl⟩:=hz
 simp only
 unfold rotation_Families_b0
 simp only [Int.toNat_natCast]
 refine br_ok (fun h1=>?_) (fun h1=>?_)
 ·have h1:i<(arL cs l).length:=by simpa using h1
  have hm:gl (arL cs l) i ∈ l:=(List.mem_filter.1 (gl_mem h1)).1
  have hv:=hg.val _ hm
  have hcr:=hg.crop _ hm
  have hb:=arX_bd hv
  obtain ⟨g1,g2,g3⟩:=mapL_spec cs (arL cs l) i hi
  have hsum:iGet (famX cs (gl (arL cs l) i)) (mapL cs ((arL cs l).take i))=sumF cs (famX cs (gl (arL cs l) i)) ((arL cs l).take i):=by
   by_cases hex : ∃ x ∈ (arL cs l).take i,famX cs x=famX cs (gl (arL cs l) i)
   ·exact iGet_of g1 ((g2 (famX cs (gl (arL cs l) i),sumF cs (famX cs (gl (arL cs l) i)) ((arL cs l).take i))).2 ⟨hex,rfl⟩) rfl
   ·rw [iGet_no fun e he hy=>hex (by obtain ⟨⟨x,hx,hxe⟩,_⟩:=(g2 e).1 he; exact ⟨x,hx,hxe.trans hy⟩)]
    unfold sumF
    have:((arL cs l).take i).filter (fun x=>famX cs x==famX cs (gl (arL cs l) i))=[]:=List.filter_eq_nil_iff.2 fun x hx hh=>hex ⟨x,hx,by simpa using hh⟩
    rw [this]; rfl
  have hsb:=sumF_bd (cs:=cs) (f:=famX cs (gl (arL cs l) i)) (A:=(arL cs l).take i) fun x hx=>arL_val hg x (List.mem_of_mem_take hx)
  have htl:((arL cs l).take i).length≤20:=by rw [List.length_take]; omega
  refine gd_ok (by omega) (gd_ok hcr (bd_ok (region_Area_v hF' hv) ?_))
  have hI:I64 (iGet (famX cs (gl (arL cs l) i)) (mapL cs ((arL cs l).take i))+arX (gl (arL cs l) i)):=i64_of (by rw [hsum]; omega) (by rw [hsum]; omega)
  refine gd_ok hI (gd_ok (i64_of (by omega) (by omega)) (ih _ ⟨i+1,by simp,h1, ?_⟩ (by simp only; omega)))
  rw [take_gl h1,mapL_snoc]; rfl
 ·have h1:i=(arL cs l).length:=by
   have : ¬ i<(arL cs l).length:=by simpa using h1
   omega
  subst h1
  rw [List.take_length]
  obtain ⟨g1,g2,g3⟩:=mapL_full cs (arL cs l)
  unfold rotation_Families_k1
  have:=fam_loop (F:=F) (mapL cs (arL cs l)).length F (mapL cs (arL cs l)) [] rfl (by omega) (by simpa [mkP,Function.comp_def] using g1) (by simp [LIM]; omega)
  rw [List.nil_append] at this
  exact this
theorem famE_mem (cs:List Crop) (l:List Line) (p:Arr2Int):p ∈ famE cs l↔(∃ x ∈ arL cs l,famX cs x=p.e0_)∧p.e1_=sumF cs p.e0_ (arL cs l):=by
 obtain ⟨g1,g2,g3⟩:=mapL_full cs (arL cs l)
 rw [famE,(byK_perm _).mem_iff,List.mem_map]
 constructor
 ·rintro ⟨e,he,rfl⟩
  exact (g2 e).1 he
 ·intro h
  exact ⟨(p.e0_,p.e1_),(g2 _).2 h,rfl⟩
theorem famE_nd (cs:List Crop) (l:List Line):(((mapL cs (arL cs l)).map mkP).map Arr2Int.e0_).Nodup:=by
 have:=(mapL_full cs (arL cs l)).1
 simpa [mkP,Function.comp_def] using this
theorem famE_lt (cs:List Crop) (l:List Line):(famE cs l).Pairwise fun a b=>a.e0_<b.e0_:=byK_lt (famE_nd cs l)
theorem famE_len (cs:List Crop) (l:List Line):(famE cs l).length≤l.length:=by
 have h1:=(byK_perm ((mapL cs (arL cs l)).map mkP)).length_eq
 have h2:=(mapL_full cs (arL cs l)).2.2
 have h3:=arL_len cs l
 rw [List.length_map] at h1
 unfold famE; omega
theorem famE_bd {K:Int} {cs:List Crop} {l:List Line} (h:LG K l) : ∀ p ∈ famE cs l,0≤p.e1_∧p.e1_≤5368709120:=fun p hp=>by
 obtain ⟨_,h2⟩:=(famE_mem cs l p).1 hp
 have:=sumF_bd (cs:=cs) (f:=p.e0_) (arL_val (cs:=cs) h)
 have h3:=arL_len cs l
 have h4:=h.len
 rw [h2]; omega
theorem famE_eq {cs:List Crop} {l:List Line} {P:List Arr2Int} (h1:P.Pairwise fun a b=>a.e0_<b.e0_) (h2 : ∀ p,p ∈ P↔(∃ x ∈ arL cs l,famX cs x=p.e0_)∧p.e1_=sumF cs p.e0_ (arL cs l)):P=famE cs l:=
 ascE (fun a b h h' => by omega) h1 (famE_lt cs l) fun p=>(h2 p).trans (famE_mem cs l p).symm
def totP (P:List Arr2Int):Int:=(P.map Arr2Int.e1_).sum
theorem totP_snoc (P:List Arr2Int) (p:Arr2Int):totP (P++[p])=totP P+p.e1_:=by unfold totP; simp
theorem totP_bd {P:List Arr2Int} (h : ∀ p ∈ P,0≤p.e1_∧p.e1_≤5368709120):0≤totP P∧totP P≤5368709120*(P.length:Nat):=by
 induction P with
 | nil=>simp [totP]
 | cons p P ih=>
  have h1:=h p List.mem_cons_self
  have h2:=ih fun q hq=>h q (List.mem_cons_of_mem _ hq)
  unfold totP at h2 ⊢
  rw [List.map_cons,List.sum_cons,List.length_cons]; omega
theorem arL_snoc (cs:List Crop) {l:List Line} {i:Nat} (h:i<l.length):arL cs (l.take (i+1))=if arbB cs (gl l i)=true then arL cs (l.take i)++[gl l i] else arL cs (l.take i):=by
 unfold arL
 rw [take_gl h,List.filter_append]
 by_cases hb:arbB cs (gl l i)=true
 ·rw [if_pos hb]; simp [hb]
 ·rw [if_neg hb]; simp [hb]
end
end Go.Ab
end

section
namespace Go.Ab
set_option maxRecDepth 20000
noncomputable section
theorem scanE_ok {body:(Int→Option Int)→Int→Option Int} (N:Nat) (p:Nat→Int)
  (bad : ∀ again (i:Nat),i<N→p i≠0→body again (i:Int)=some (p i)) (good : ∀ again (i:Nat) z,i<N→p i=0→again ((i:Int)+1)=z→body again (i:Int)=z)
  (stop : ∀ again,body again (N:Int)=some 0) {F:Nat} (hF:N<F):loopN body F 0=some ((((List.range N).map p).find? fun c=>c != 0).getD 0):=by
 refine loopN_ok (fun z:Int=>∃ i:Nat,z=i∧i≤N∧∀ j,j<i→p j=0) (fun z=>N-z.toNat) (fun again z hz ih=>?_) ⟨0,rfl,Nat.zero_le _,fun j h=>absurd h (Nat.not_lt_zero j)⟩ (by simp; omega)
 obtain ⟨i,rfl,hi,hp⟩:=hz
 rcases Nat.lt_or_ge i N with h | h
 ·by_cases hpi:p i=0
  ·refine good again i _ h hpi (ih _ ⟨i+1,by omega,h,fun j hj=>?_⟩ (by omega))
   by_cases hji:j=i
   ·rw [hji]; exact hpi
   ·exact hp j (by omega)
  ·rw [bad again i h hpi]
   congr 1
   have e:List.range N=List.range i++i::(List.range N).drop (i+1):=by
    have h1:(List.range N).take i=List.range i:=by rw [List.take_range]; congr 1; omega
    have h2:=List.take_append_drop i (List.range N)
    rw [h1,List.drop_eq_getElem_cons (by simpa using h)] at h2
    rw [List.getElem_range] at h2
    exact h2.symm
   have h3:(((List.range i).map p).find? fun c=>c != 0)=none:=List.find?_eq_none.2 fun c hc=>by
    obtain ⟨j,hj,rfl⟩:=List.mem_map.1 hc
    rw [hp j (List.mem_range.1 hj)]; simp
   rw [e,List.map_append,List.find?_append,h3,Option.none_or,List.map_cons,List.find?_cons]
   have:(p i != 0)=true:=by simpa using hpi
   rw [this]; rfl
 ·have:i=N:=by omega
  subst this
  rw [stop again]
  congr 1
  have h3:(((List.range i).map p).find? fun c=>c != 0)=none:=List.find?_eq_none.2 fun c hc=>by
   obtain ⟨j,hj,rfl⟩:=List.mem_map.1 hc
   rw [hp j (List.mem_range.1 hj)]; simp
  rw [h3]; rfl
def crE (l:List Crop) (i:Nat):Int:=
 if nameB (gl l i).name_=false then 5 else if (gl l i).family_<0∨40<(gl l i).family_ then 2 else if (gl l i).marks_<0∨31<(gl l i).marks_ then 14
 else if 0<i∧(sLt (gl l i).name_ (gl l (i-1)).name_||sEq (gl l i).name_ (gl l (i-1)).name_)=true then 6 else 0
def crC (l:List Crop):Int:=if 40<l.length then 1 else (((List.range l.length).map (crE l)).find? fun c=>c != 0).getD 0
def NmS (l:List Crop):Prop:=∀ x ∈ l,x.name_.size≤4294967296
theorem crE5 {l:List Crop} {i:Nat} (h:nameB (gl l i).name_=false):crE l i=5:=by unfold crE; rw [if_pos h]
theorem crE2 {l:List Crop} {i:Nat} (h:nameB (gl l i).name_=true) (h2:(gl l i).family_<0∨40<(gl l i).family_):crE l i=2:=by
 unfold crE; rw [if_neg (by rw [h]; simp),if_pos h2]
theorem crE14 {l:List Crop} {i:Nat} (h:nameB (gl l i).name_=true) (h2 : ¬ ((gl l i).family_<0∨40<(gl l i).family_)) (h3:(gl l i).marks_<0∨31<(gl l i).marks_):crE l i=14:=by
 unfold crE; rw [if_neg (by rw [h]; simp),if_neg h2,if_pos h3]
theorem crE6 {l:List Crop} {i:Nat} (h:nameB (gl l i).name_=true) (h2 : ¬ ((gl l i).family_<0∨40<(gl l i).family_)) (h3 : ¬ ((gl l i).marks_<0∨31<(gl l i).marks_))
  (h4:0<i∧(sLt (gl l i).name_ (gl l (i-1)).name_||sEq (gl l i).name_ (gl l (i-1)).name_)=true):crE l i=6:=by
 unfold crE; rw [if_neg (by rw [h]; simp),if_neg h2,if_neg h3,if_pos h4]
theorem crE0 {l:List Crop} {i:Nat} (h:nameB (gl l i).name_=true) (h2 : ¬ ((gl l i).family_<0∨40<(gl l i).family_)) (h3 : ¬ ((gl l i).marks_<0∨31<(gl l i).marks_))
  (h4 : ¬ (0<i∧(sLt (gl l i).name_ (gl l (i-1)).name_||sEq (gl l i).name_ (gl l (i-1)).name_)=true)):crE l i=0:=by
 unfold crE; rw [if_neg (by rw [h]; simp),if_neg h2,if_neg h3,if_neg h4]
theorem crop_Check_gen {F:Nat} (hF:BIG≤F) {l:List Crop} (hn:NmS l):crop_Check F l=some (crC l):=by
 have hF' := hF
 unfold BIG at hF
 unfold crop_Check crC
 refine br_ok (fun h=>?_) (fun h=>?_)
 ·rw [if_pos (by have:=of_decide_eq_true h; omega)]
 have hl:l.length≤40:=by have:=of_decide_eq_false h; omega
 rw [if_neg (by omega)]
 have main : ∀ (again:Int→Option Int) (i:Nat),i<l.length→crop_Check_b0 F l again (i:Int)=if crE l i=0 then again ((i:Int)+1) else some (crE l i):=by
  intro again i hi
  unfold crop_Check_b0
  simp only [Int.toNat_natCast]
  have hs:=hn _ (gl_mem hi)
  refine br_tt (decide_eq_true (by omega)) (gd_ok (by omega) (bd_ok (words_Name_ok (by omega) hs) ?_))
  refine br_ok (fun h1=>?_) (fun h1=>?_)
  ·have h1:nameB (gl l i).name_=false:=by simpa using h1
   rw [crE5 h1,if_neg (by decide)]
  have h1:nameB (gl l i).name_=true:=by simpa using h1
  have k1t:(gl l i).family_<0∨40<(gl l i).family_→crop_Check_k1 F l (i:Int) again true=if crE l i=0 then again ((i:Int)+1) else some (crE l i):=fun h=>by
   rw [crE2 h1 h,if_neg (by decide)]
   unfold crop_Check_k1
   exact br_tt rfl rfl
  refine br_ok (fun h2=>k1t (.inl (of_decide_eq_true h2))) (fun h2=>?_)
  have h2:=of_decide_eq_false h2
  by_cases h3:40<(gl l i).family_
  ·rw [decide_eq_true h3]; exact k1t (.inr h3)
  have hf : ¬ ((gl l i).family_<0∨40<(gl l i).family_):=by omega
  rw [decide_eq_false h3]
  unfold crop_Check_k1
  simp only [Int.toNat_natCast]
  refine br_ff rfl ?_
  have k2t:(gl l i).marks_<0∨31<(gl l i).marks_→crop_Check_k2 F l (i:Int) again true=if crE l i=0 then again ((i:Int)+1) else some (crE l i):=fun h=>by
   rw [crE14 h1 hf h,if_neg (by decide)]
   unfold crop_Check_k2
   exact br_tt rfl rfl
  refine br_ok (fun h4=>k2t (.inl (of_decide_eq_true h4))) (fun h4=>?_)
  have h4:=of_decide_eq_false h4
  by_cases h5:31<(gl l i).marks_
  ·rw [decide_eq_true h5]; exact k2t (.inr h5)
  have hm : ¬ ((gl l i).marks_<0∨31<(gl l i).marks_):=by omega
  rw [decide_eq_false h5]
  unfold crop_Check_k2
  simp only [Int.toNat_natCast]
  refine br_ff rfl ?_
  refine br_ok (fun h6=>?_) (fun h6=>?_)
  ·have h6:0<i:=by have:=of_decide_eq_true h6; omega
   have e1:((i:Int)-1).toNat=i-1:=by omega
   refine gd_ok (i64_of (by omega) (by omega)) (gd_ok (by omega) ?_)
   rw [e1]
   unfold crop_Check_k3
   refine br_ok (fun h7=>?_) (fun h7=>?_)
   ·rw [crE6 h1 hf hm ⟨h6,h7⟩,if_neg (by decide)]
   ·rw [crE0 h1 hf hm (fun hh=>by rw [hh.2] at h7; cases h7),if_pos rfl]
    exact gd_ok (i64_of (by omega) (by omega)) rfl
  ·have h6 : ¬ 0<i:=by have:=of_decide_eq_false h6; omega
   rw [crE0 h1 hf hm (fun hh=>h6 hh.1),if_pos rfl]
   unfold crop_Check_k3
   exact br_ff rfl (gd_ok (i64_of (by omega) (by omega)) rfl)
 refine scanE_ok l.length (crE l) (fun again i hi hp=>?_) (fun again i z hi hp hz=>?_) (fun again=>?_) (by omega)
 ·rw [main again i hi,if_neg hp]
 ·rw [main again i hi,if_pos hp]; exact hz
 ·unfold crop_Check_b0
  exact br_ff (decide_eq_false (by omega)) rfl
end
end Go.Ab
end

section
namespace Go.Ab
set_option maxRecDepth 20000
noncomputable section
def fs1 (a:Int×Int) (x:Arr2Int):Int×Int:=if a.1<x.e1_ then (x.e1_,a.1) else (a.1,gmax a.2 x.e1_)
def fs2 (P:List Arr2Int):Int×Int:=P.foldl fs1 (0,0)
theorem fs2_snoc (P:List Arr2Int) (x:Arr2Int):fs2 (P++[x])=fs1 (fs2 P) x:=by unfold fs2; rw [List.foldl_append]; rfl
theorem gmax_bd (a b:Int):a≤gmax a b∧b≤gmax a b∧(gmax a b=a∨gmax a b=b):=by
 unfold gmax
 split <;> omega
theorem fs2_bd {P:List Arr2Int} (h : ∀ p ∈ P,0≤p.e1_∧p.e1_≤5368709120) : ∀ i,i≤P.length→0≤(fs2 (P.take i)).1∧(fs2 (P.take i)).1≤5368709120∧0≤(fs2 (P.take i)).2∧(fs2 (P.take i)).2≤5368709120:=by
 intro i
 induction i with
 | zero=>intro _; simp [fs2]
 | succ i ih=>
  intro hi
  have h1:=ih (by omega)
  have h2:=h _ (gl_mem (by omega:i<P.length))
  rw [take_gl (by omega),fs2_snoc]
  unfold fs1
  have h3:=gmax_bd (fs2 (P.take i)).2 (gl P i).e1_
  split
  ·simp only; omega
  ·simp only; omega
def divB (small large tot a b n:Int):Bool:=
 decide (tot≤small)||(if tot≤large then decide (2≤n)&&decide (4*a≤3*tot) else decide (3≤n)&&(decide (4*a≤3*tot)&&decide (20*(a+b)≤19*tot)))
def divP (small large:Int) (P:List Arr2Int):Bool:=divB small large (totP P) (fs2 P).1 (fs2 P).2 (P.length:Nat)
def divC (kc:Int) (cs:List Crop) (l:List Line) (small large:Int):Bool×Int:=
 if linC kc (cs.length:Nat) l=0 then (if small<0∨large<small∨268435456<large then (false,2) else (divP small large (famE cs l),0)) else (false,linC kc (cs.length:Nat) l)
theorem linC_kc {kc K:Int} {l:List Line} (h0:linC kc K l=0):kc=0:=by
 unfold linC at h0
 split at h0
 ·cases h0
 ·split at h0
  ·exact h0
  ·rename_i hh; simpa using hh
theorem rotation_Diverse_ok {F:Nat} (hF:BIG≤F) {l:List Line} {cs:List Crop} {kc:Int} (hc:crop_Check F cs=some kc) (small large:Int):rotation_Diverse F l cs small large=some (divC kc cs l small large):=by
 have hF' := hF
 unfold BIG at hF
 unfold rotation_Diverse divC
 refine bd_ok (rotation_Families_ok hF' hc) ?_
 by_cases h0:linC kc (cs.length:Nat) l=0
 ·rw [if_pos h0,if_pos h0]
  have hk:=linC_kc h0
  subst hk
  have hg:=linC_zero.1 h0
  have hbd:=famE_bd (cs:=cs) hg
  have hfl:=famE_len cs l
  have hl:=hg.len
  refine br_ff rfl ?_
  have bad:small<0∨large<small∨268435456<large→rotation_Diverse_k0 F small large (famE cs l,0) true=some (if small<0∨large<small∨268435456<large then (false,2) else (divP small large (famE cs l),0)):=fun h=>by
   rw [if_pos h]
   unfold rotation_Diverse_k0
   exact br_tt rfl rfl
  refine br_ok (fun h1=>bad (.inl (of_decide_eq_true h1))) (fun h1=>br_ok (fun h2=>bad (.inr (.inl (of_decide_eq_true h2)))) (fun h2=>?_))
  have h1:=of_decide_eq_false h1
  have h2:=of_decide_eq_false h2
  by_cases h3:268435456<large
  ·rw [decide_eq_true h3]; exact bad (.inr (.inr h3))
  rw [decide_eq_false h3,if_neg (by omega)]
  unfold rotation_Diverse_k0
  refine br_ff rfl ?_
  refine loopN_ok (fun z:Int×Int×Int×Int=>∃ i:Nat,z.2.2.2=i∧i≤(famE cs l).length∧z.1=totP ((famE cs l).take i)∧(z.2.1,z.2.2.1)=fs2 ((famE cs l).take i)) (fun z=>(famE cs l).length-z.2.2.2.toNat) (fun again z hz ih=>?_) ⟨0,rfl,by omega,rfl,rfl⟩ (by simp only; omega)
  obtain ⟨tot,a,b,i0⟩:=z
  obtain ⟨i,rfl,hi,rfl,hab⟩:=hz
  simp only at hab ⊢
  have ha:a=(fs2 ((famE cs l).take i)).1:=congrArg Prod.fst hab
  have hb:b=(fs2 ((famE cs l).take i)).2:=congrArg Prod.snd hab
  have fb:=fs2_bd hbd i hi
  have tb:=totP_bd (P:=(famE cs l).take i) fun p hp=>hbd p (List.mem_of_mem_take hp)
  have tl:((famE cs l).take i).length≤20:=by rw [List.length_take]; omega
  unfold rotation_Diverse_b1
  simp only [Int.toNat_natCast]
  refine br_ok (fun h4=>?_) (fun h4=>?_)
  ·have h4:i<(famE cs l).length:=by simpa using h4
   have hp:=hbd _ (gl_mem h4)
   have hs:totP ((famE cs l).take (i+1))=totP ((famE cs l).take i)+(gl (famE cs l) i).e1_:=by rw [take_gl h4,totP_snoc]
   have hf:fs2 ((famE cs l).take (i+1))=fs1 (fs2 ((famE cs l).take i)) (gl (famE cs l) i):=by rw [take_gl h4,fs2_snoc]
   have k2 : ∀ a' b',(a',b')=fs2 ((famE cs l).take (i+1))→rotation_Diverse_k2 F (famE cs l,0) (totP ((famE cs l).take i)) (i:Int) again a' b' = some (divP small large (famE cs l),0):=fun a' b' hab' => by
    unfold rotation_Diverse_k2
    simp only [Int.toNat_natCast]
    exact gd_ok (i64_of (by omega) (by omega)) (ih _ ⟨i+1,by simp,h4,hs.symm,hab'⟩ (by simp only; omega))
   refine gd_ok (by omega) (gd_ok (i64_of (by omega) (by omega)) ?_)
   refine br_ok (fun h5=>k2 _ _ ?_) (fun h5=>k2 _ _ ?_)
   ·have h5:=of_decide_eq_true h5
    rw [hf]; unfold fs1
    rw [if_pos (by rw [← ha]; exact h5), ← ha]
   ·have h5:=of_decide_eq_false h5
    rw [hf]; unfold fs1
    rw [if_neg (by rw [← ha]; exact h5), ← ha, ← hb]
  ·have h4:i=(famE cs l).length:=by
    have : ¬ i<(famE cs l).length:=by simpa using h4
    omega
   subst h4
   rw [List.take_length] at ha hb fb tb ⊢
   rw [← ha, ← hb] at fb
   have hn:((famE cs l).length:Int)≤20:=by omega
   unfold rotation_Diverse_k3 divP divB
   rw [← ha, ← hb]
   refine br_ok (fun h5=>?_) (fun h5=>?_)
   ·rw [h5,Bool.true_or]
   rw [h5,Bool.false_or]
   refine br_ok (fun h6=>?_) (fun h6=>?_)
   ·have h6:=of_decide_eq_true h6
    rw [if_pos h6]
    refine br_ok (fun h7=>?_) (fun h7=>?_)
    ·refine gd_ok (i64_of (by omega) (by omega)) (gd_ok (i64_of (by omega) (by omega)) ?_)
     unfold rotation_Diverse_k4
     rw [h7,Bool.true_and]
    ·unfold rotation_Diverse_k4
     rw [h7,Bool.false_and]
   ·have h6:=of_decide_eq_false h6
    rw [if_neg h6]
    refine br_ok (fun h7=>?_) (fun h7=>?_)
    ·rw [h7,Bool.true_and]
     refine gd_ok (i64_of (by omega) (by omega)) (gd_ok (i64_of (by omega) (by omega)) ?_)
     refine br_ok (fun h8=>?_) (fun h8=>?_)
     ·refine gd_ok (i64_of (by omega) (by omega)) (gd_ok (i64_of (by omega) (by omega)) (gd_ok (i64_of (by omega) (by omega)) ?_))
      unfold rotation_Diverse_k5
      rw [h8,Bool.true_and]
     ·unfold rotation_Diverse_k5
      rw [h8,Bool.false_and]
    ·unfold rotation_Diverse_k5
     rw [h7,Bool.false_and]
 ·rw [if_neg h0,if_neg h0]
  exact br_tt (by simpa using h0) rfl
def sumA (A:List Line):Int:=(A.map arX).sum
theorem sumA_fam (cs:List Crop) (A:List Line) : ∀ (P:List Arr2Int),P.Pairwise (fun a b=>a.e0_<b.e0_)→(∀ p ∈ P,p.e1_=sumF cs p.e0_ A)→(∀ x ∈ A,∃ p ∈ P,p.e0_=famX cs x)→totP P=sumA A:=by
 induction A with
 | nil=>
  intro P _ h2 _
  have : ∀ P:List Arr2Int,(∀ p ∈ P,p.e1_=0)→totP P=0:=by
   intro P
   induction P with
   | nil=>intro _; rfl
   | cons p P ih=>
    intro h
    have h1:=h p List.mem_cons_self
    have h5:=ih fun q hq=>h q (List.mem_cons_of_mem _ hq)
    unfold totP at h5 ⊢
    rw [List.map_cons,List.sum_cons,h1,h5]; rfl
  exact this P fun p hp=>by rw [h2 p hp]; rfl
 | cons x A ih=>
  intro P h1 h2 h3
  let P' := P.map fun p=>(⟨p.e0_,sumF cs p.e0_ A⟩ : Arr2Int)
  have h5:totP P' = sumA A:=by
   refine ih P' ?_ (fun p hp=>?_) (fun y hy=>?_)
   ·rw [List.pairwise_map]; exact h1
   ·obtain ⟨q,_,rfl⟩:=List.mem_map.1 hp; rfl
   ·obtain ⟨p,hp,hpe⟩:=h3 y (List.mem_cons_of_mem _ hy)
    exact ⟨_,List.mem_map.2 ⟨p,hp,rfl⟩,hpe⟩
  have hs : ∀ f,sumF cs f (x::A)=(if famX cs x=f then arX x else 0)+sumF cs f A:=fun f=>by
   unfold sumF
   by_cases h:famX cs x=f
   ·rw [if_pos h,List.filter_cons,if_pos (by simpa using h)]; simp
   ·rw [if_neg h,List.filter_cons,if_neg (by simpa using h)]; simp
  have key : ∀ Q:List Arr2Int,Q.Pairwise (fun a b=>a.e0_<b.e0_)→(∀ p ∈ Q,p.e1_=sumF cs p.e0_ (x::A))→totP Q=totP (Q.map fun p=>(⟨p.e0_,sumF cs p.e0_ A⟩ : Arr2Int))+(if ∃ p ∈ Q,p.e0_=famX cs x then arX x else 0):=by
   intro Q
   induction Q with
   | nil=>intro _ _; simp [totP]
   | cons q Q ihq=>
    intro g1 g2
    obtain ⟨g3,g4⟩:=List.pairwise_cons.1 g1
    have g5:=ihq g4 fun p hp=>g2 p (List.mem_cons_of_mem _ hp)
    have g6:=g2 q List.mem_cons_self
    rw [hs] at g6
    unfold totP at g5 ⊢
    rw [List.map_cons,List.sum_cons,List.map_cons,List.map_cons,List.sum_cons,g5,g6]
    by_cases hq:famX cs x=q.e0_
    ·have m1 : ∃ p,p ∈ q::Q∧p.e0_=famX cs x:=⟨q,List.mem_cons_self,hq.symm⟩
     rw [if_pos hq,if_pos m1,if_neg]
     ·simp only; omega
     ·rintro ⟨p,hp,hpe⟩
      have:=g3 p hp
      omega
    ·rw [if_neg hq]
     by_cases hex : ∃ p ∈ Q,p.e0_=famX cs x
     ·have m2 : ∃ p,p ∈ q::Q∧p.e0_=famX cs x:=by
       obtain ⟨p,hp,hpe⟩:=hex
       exact ⟨p,List.mem_cons_of_mem _ hp,hpe⟩
      rw [if_pos hex,if_pos m2]; simp only; omega
     ·rw [if_neg hex,if_neg]
      ·simp only; omega
      ·rintro ⟨p,hp,hpe⟩
       rcases List.mem_cons.1 hp with rfl | hp
       ·exact hq hpe.symm
       ·exact hex ⟨p,hp,hpe⟩
  obtain ⟨p,hp,hpe⟩:=h3 x List.mem_cons_self
  have h6:=key P h1 h2
  rw [if_pos ⟨p,hp,hpe⟩] at h6
  have h7:totP (P.map fun p=>(⟨p.e0_,sumF cs p.e0_ A⟩ : Arr2Int))=sumA A:=h5
  unfold sumA at h7 ⊢
  rw [List.map_cons,List.sum_cons]
  omega
theorem totP_fam (cs:List Crop) (l:List Line):totP (famE cs l)=sumA (arL cs l):=
 sumA_fam cs (arL cs l) (famE cs l) (famE_lt cs l) (fun p hp=>((famE_mem cs l p).1 hp).2) fun x hx=>⟨⟨famX cs x,sumF cs (famX cs x) (arL cs l)⟩,(famE_mem cs l _).2 ⟨⟨x,hx,rfl⟩,rfl⟩,rfl⟩
theorem sumA_le {c:Int} {A:List Line} (h : ∀ x ∈ A,0≤arX x∧arX x≤c):0≤sumA A∧sumA A≤c*(A.length:Nat):=by
 induction A with
 | nil=>simp [sumA]
 | cons x A ih=>
  have h1:=h x List.mem_cons_self
  have h2:=ih fun y hy=>h y (List.mem_cons_of_mem _ hy)
  unfold sumA at h2 ⊢
  have e:c*((x::A).length:Nat)=c*(A.length:Nat)+c:=by rw [List.length_cons]; push_cast; rw [Int.mul_add,Int.mul_one]
  rw [List.map_cons,List.sum_cons,e]; omega
theorem sq_pl {d:Int} (hd:0≤d∧d≤100) {S:Int→Int→Bool} (h:PlB d S):0≤sq S∧sq S≤81:=by
 have h0:=(sq_small S).2
 refine ⟨h0, ?_⟩
 have hv:propB ⟨d,0,d+9,9⟩=true:=by rw [propB_iff]; simp only; omega
 have h1:=(val_one hv).area
 have h2:area [(⟨d,0,d+9,9⟩ : Rect)]=81:=by
  unfold area ar1
  simp
  have:d+9-d=9:=by omega
  rw [this]; rfl
 rw [h2] at h1
 rw [h1]
 refine sq_mono fun u v huv=>?_
 obtain ⟨p1,p2,p3,p4⟩:=h u v huv
 exact (inR_iff _ _ _).2 ⟨_,List.mem_singleton.2 rfl,(has_iff _ _ _).2 ⟨p1,p2,p3,p4⟩⟩
theorem LinT.ar {K:Int} {rs:List Region} (hp:ParT rs) {l:List Line} (h:LinT K rs l) : ∀ x ∈ l,0≤arX x∧arX x≤81:=fun x hx=>by
 have ho:=h.one x hx
 have h1:=ho.par
 have h2:=hp.len
 unfold arX
 rw [ho.val.area]
 exact sq_pl (d:=10*(x.parcel_-1)) (by omega) (ho.pl hp)
theorem CA_check {F:Nat} (hF:BIG≤F):crop_Check F law19_CA=some 0:=by
 rw [crop_Check_gen hF (fun x hx=>?_)]
 ·congr 1; decide +kernel
 ·have : ∀ x ∈ law19_CA,x.name_.size≤4294967296:=by decide +kernel
  exact this x hx
end
end Go.Ab
end

section
namespace Go.Ab
set_option maxRecDepth 20000
noncomputable section
theorem famE_is {cs:List Crop} {l:List Line} {P:List Arr2Int} (h1:P.Pairwise fun a b=>a.e0_<b.e0_) (h2:((mapL cs (arL cs l)).map mkP).Perm P):famE cs l=P:=
 permU ((byK_perm _).trans h2) (byK_le _) (h1.imp fun h=>by omega) fun a ha b hb _ _=>
  key_inj (famE_nd cs l) ((byK_perm _).mem_iff.1 ha) ((byK_perm _).mem_iff.1 hb) (by omega)
theorem LA_map:mapL law19_CA (arL law19_CA law19_LA)=[(2,80),(1,20)]:=by decide +kernel
theorem LB_map:mapL law19_CA (arL law19_CA law19_LB)=[(2,75),(1,25)]:=by decide +kernel
theorem LA_fam:famE law19_CA law19_LA=[⟨1,20⟩,⟨2,80⟩]:=by
 refine famE_is (by simp) ?_
 rw [LA_map]
 exact List.Perm.swap _ _ _
theorem LB_fam:famE law19_CA law19_LB=[⟨1,25⟩,⟨2,75⟩]:=by
 refine famE_is (by simp) ?_
 rw [LB_map]
 exact List.Perm.swap _ _ _
theorem two_lg {c:Int} (h1:0<c) (h2:c<100):LG 2 [⟨0,⟨[⟨0,0,c,1⟩]⟩,1,0⟩,⟨0,⟨[⟨c,0,100,1⟩]⟩,0,0⟩]:=by
 refine ⟨by simp,fun x hx=>?_,fun x hx=>?_, ?_⟩
 ·simp only [List.mem_cons,List.not_mem_nil,or_false] at hx
  rcases hx with rfl | rfl
  ·simp
  ·simp
 ·simp only [List.mem_cons,List.not_mem_nil,or_false] at hx
  rcases hx with rfl | rfl
  ·exact val_one (by rw [propB_iff]; simp only; omega)
  ·exact val_one (by rw [propB_iff]; simp only; omega)
 ·refine .cons (fun y hy=>?_) (.cons (fun y hy=>by simp at hy) .nil)
  rw [List.mem_singleton] at hy
  subst hy
  intro u v g1 g2
  rw [inR_iff] at g1 g2
  obtain ⟨r,m1,k1⟩:=g1
  obtain ⟨q,m2,k2⟩:=g2
  rw [List.mem_singleton] at m1 m2
  subst m1 m2
  rw [has_iff] at k1 k2
  simp only at k1 k2
  omega
theorem LA_lin:linC 0 (law19_CA.length:Nat) law19_LA=0:=linC_zero.2 (two_lg (by omega) (by omega))
theorem LB_lin:linC 0 (law19_CA.length:Nat) law19_LB=0:=linC_zero.2 (two_lg (by omega) (by omega))
theorem LA_div:divC 0 law19_CA law19_LA 10 200=(false,0):=by
 unfold divC
 rw [if_pos LA_lin,if_neg (by omega),LA_fam]
 rfl
theorem LB_div:divC 0 law19_CA law19_LB 10 200=(true,0):=by
 unfold divC
 rw [if_pos LB_lin,if_neg (by omega),LB_fam]
 rfl
theorem ref19_Pairs_ok {F:Nat} (hF:BIG≤F) {P:List Arr2Int} (h:P.length≤100):ref19_Pairs F P P=some true:=by
 unfold BIG at hF
 unfold ref19_Pairs
 refine br_ff (by simp) ?_
 refine for_ok P.length (fun again i hi ha=>?_) (fun again=>?_) (by omega)
 ·unfold ref19_Pairs_b0
  simp only [Int.toNat_natCast]
  refine br_tt (decide_eq_true (by omega)) (gd_ok (by omega) (gd_ok (by omega) (br_ff (by simp) (gd_ok (i64_of (by omega) (by omega)) ha))))
 ·unfold ref19_Pairs_b0
  exact br_ff (decide_eq_false (by omega)) rfl
theorem law19_awake_ok {F:Nat} (hF:BIG≤F):law19_awake F=some true:=by
 unfold law19_awake
 refine bd_ok (rotation_Diverse_ok hF (CA_check hF) 10 200) (bd_ok (rotation_Diverse_ok hF (CA_check hF) 10 200) (bd_ok (rotation_Families_ok hF (CA_check hF)) ?_))
 rw [LA_div,LB_div,if_pos LB_lin,LB_fam]
 refine gd_ok rfl (gd_ok rfl (gd_ok rfl (bd_ok (ref19_Pairs_ok hF (by simp)) (gd_ok rfl rfl))))
end
end Go.Ab
end

section
namespace Go.Ab
set_option maxRecDepth 20000
noncomputable section
theorem sumN_oneR {f:Nat→Int} {n i:Nat} (h : ∀ i,i<n→0≤f i) (hi:i<n):f i≤sumN f n:=by
 induction n with
 | zero=>omega
 | succ n ih=>
  have h0:=h n (by omega)
  have h1:=sumN_nonneg (f:=f) (n:=n) fun i hi=>h i (by omega)
  rw [sumN]
  rcases Nat.lt_or_ge i n with hl | hl
  ·have:=ih (fun i hi=>h i (by omega)) hl
   omega
  ·have:i=n:=by omega
   subst this; omega
theorem cnt_posR {N:Nat} {S:Int→Int→Bool} {x y:Int} (hx:0≤x∧x<N) (hy:0≤y∧y<N) (h:S x y=true):0<cnt N S:=by
 have h1:sumN (fun v=>if S ((x.toNat:Nat):Int) v=true then 1 else 0) N≤cnt N S:=
  sumN_oneR (f:=fun x:Nat=>sumN (fun v:Nat=>if S (x:Int) v=true then 1 else 0) N) (fun i _=>sumN_nonneg fun y _=>by split <;> omega) (by omega)
 have h2:(if S ((x.toNat:Nat):Int) ((y.toNat:Nat):Int)=true then (1:Int) else 0)≤sumN (fun v=>if S ((x.toNat:Nat):Int) v=true then 1 else 0) N:=
  sumN_oneR (f:=fun v:Nat=>if S ((x.toNat:Nat):Int) (v:Int)=true then (1:Int) else 0) (fun i _=>by split <;> omega) (by omega)
 rw [Int.toNat_of_nonneg hx.1,Int.toNat_of_nonneg hy.1,if_pos h] at h2
 rw [Int.toNat_of_nonneg hx.1] at h1
 omega
theorem sumF_ge {cs:List Crop} {A:List Line} (h : ∀ x ∈ A,0≤arX x) : ∀ y ∈ A,arX y≤sumF cs (famX cs y) A:=by
 induction A with
 | nil=>intro y hy; simp at hy
 | cons x A ih=>
  have hn : ∀ f,0≤sumF cs f A:=by
   have : ∀ (B:List Line),(∀ x ∈ B,0≤arX x)→0≤(B.map arX).sum:=by
    intro B
    induction B with
    | nil=>intro _; simp
    | cons b B ihB=>
     intro hb
     have h1:=hb b List.mem_cons_self
     have h2:=ihB fun z hz=>hb z (List.mem_cons_of_mem _ hz)
     rw [List.map_cons,List.sum_cons]; omega
   intro f
   exact this _ fun z hz=>h z (List.mem_cons_of_mem _ (List.mem_filter.1 hz).1)
  have hs : ∀ f,sumF cs f (x::A)=(if famX cs x=f then arX x else 0)+sumF cs f A:=fun f=>by
   unfold sumF
   by_cases h:famX cs x=f
   ·rw [if_pos h,List.filter_cons,if_pos (by simpa using h)]; simp
   ·rw [if_neg h,List.filter_cons,if_neg (by simpa using h)]; simp
  intro y hy
  have h0:=h x List.mem_cons_self
  rcases List.mem_cons.1 hy with rfl | hy
  ·rw [hs,if_pos rfl]
   have:=hn (famX cs y)
   omega
  ·have:=ih (fun z hz=>h z (List.mem_cons_of_mem _ hz)) y hy
   rw [hs]
   split <;> omega
theorem arX_pos {x:Line} (h:Val x.region_.rects_) (hn:x.region_.rects_.length≠0):1≤arX x:=by
 unfold arX
 rw [h.area,sq_def]
 obtain ⟨u,v,huv⟩:=val_ne h.2.1 hn
 obtain ⟨r,hr,hh⟩:=inR_iff _ _ _ |>.1 huv
 have h1:=(propB_iff r).1 (h.2.1 r hr)
 have h2:=(has_iff _ _ _).1 hh
 exact cnt_posR (x:=u) (y:=v) (by omega) (by omega) huv
theorem famE_pos {K:Int} {rs:List Region} {cs:List Crop} {l:List Line} (h:LinT K rs l) : ∀ p ∈ famE cs l,1≤p.e1_:=fun p hp=>by
 obtain ⟨⟨x,hx,hxe⟩,h2⟩:=(famE_mem cs l p).1 hp
 have hm : ∀ y ∈ arL cs l,y ∈ l:=fun y hy=>(List.mem_filter.1 hy).1
 have h1:=sumF_ge (cs:=cs) (A:=arL cs l) (fun y hy=>(arX_bd (h.one y (hm y hy)).val).1) x hx
 have h3:=arX_pos (h.one x (hm x hx)).val (h.one x (hm x hx)).ne
 rw [hxe] at h1
 omega
def hB (w:Int):List Rect:=[⟨0,0,w,20⟩]
def bothL (w:Int) (x:Line):Line:=⟨x.parcel_,⟨cn fun u v=>inR x.region_.rects_ u v&&inR (hB w) u v⟩,x.crop_,x.schemes_⟩
def withL (w:Int) (x:Line):Line:=⟨x.parcel_,⟨cn fun u v=>inR x.region_.rects_ u v && !inR (hB w) u v⟩,x.crop_,x.schemes_⟩
def cutL (w:Int) (l:List Line):List Line:=l.flatMap fun x=>[bothL w x,withL w x]
theorem cutL_snoc (w:Int) (l:List Line) (x:Line):cutL w (l++[x])=cutL w l++[bothL w x,withL w x]:=by unfold cutL; simp
theorem cutL_cons (w:Int) (l:List Line) (x:Line):cutL w (x::l)=bothL w x::withL w x::cutL w l:=by unfold cutL; simp
theorem cutL_len (w:Int) (l:List Line):(cutL w l).length=2*l.length:=by
 induction l with
 | nil=>rfl
 | cons x l ih=>rw [cutL_cons,List.length_cons,List.length_cons,List.length_cons,ih]; omega
theorem both_in (w:Int) (x:Line) (u v:Int):inR (bothL w x).region_.rects_ u v=(inR x.region_.rects_ u v&&inR (hB w) u v):=inR_cn (fin_and _ _) u v
theorem with_in (w:Int) (x:Line) (u v:Int):inR (withL w x).region_.rects_ u v=(inR x.region_.rects_ u v && !inR (hB w) u v):=inR_cn (fin_diff _ _) u v
theorem LinO.both {K:Int} {rs:List Region} (hp:ParT rs) {x:Line} (h:LinO K rs x) (w:Int):Val (bothL w x).region_.rects_:=by
 have h1:=h.par
 have h2:=hp.len
 exact (pl_cn (d:=10*(x.parcel_-1)) (fin_and _ _) (by omega) fun u v huv=>by
  rw [Bool.and_eq_true] at huv
  exact h.pl hp u v huv.1).1
theorem LinO.with {K:Int} {rs:List Region} (hp:ParT rs) {x:Line} (h:LinO K rs x) (w:Int):Val (withL w x).region_.rects_:=by
 have h1:=h.par
 have h2:=hp.len
 exact (pl_cn (d:=10*(x.parcel_-1)) (fin_diff _ _) (by omega) fun u v huv=>by
  rw [Bool.and_eq_true] at huv
  exact h.pl hp u v huv.1).1
theorem cut_area {w:Int} {x:Line} (h:Val x.region_.rects_) (h1:Val (bothL w x).region_.rects_) (h2:Val (withL w x).region_.rects_):arX (bothL w x)+arX (withL w x)=arX x:=by
 unfold arX
 rw [h.area,h1.area,h2.area,sq_def,sq_def,sq_def, ← cnt_or fun u v g1 g2=>?_]
 ·congr 1
  funext u v
  rw [both_in,with_in]
  cases inR x.region_.rects_ u v <;> cases inR (hB w) u v <;> rfl
 ·rw [both_in] at g1
  rw [with_in] at g2
  rw [Bool.and_eq_true] at g1 g2
  rw [g1.2] at g2
  simp at g2
theorem cutL_arL (w:Int) (cs:List Crop) (l:List Line):arL cs (cutL w l)=cutL w (arL cs l):=by
 induction l with
 | nil=>rfl
 | cons x l ih=>
  have hb:arbB cs (bothL w x)=arbB cs x:=rfl
  have hw:arbB cs (withL w x)=arbB cs x:=rfl
  unfold arL at ih ⊢
  rw [cutL_cons,List.filter_cons,List.filter_cons,List.filter_cons,hb,hw,ih]
  split
  ·rw [cutL_cons]
  ·rfl
theorem sumF_cons (cs:List Crop) (f:Int) (x:Line) (A:List Line):sumF cs f (x::A)=(if famX cs x=f then arX x else 0)+sumF cs f A:=by
 unfold sumF
 by_cases h:famX cs x=f
 ·rw [if_pos h,List.filter_cons,if_pos (by simpa using h)]; simp
 ·rw [if_neg h,List.filter_cons,if_neg (by simpa using h)]; simp
theorem sumF_cut {w:Int} (cs:List Crop) (f:Int) {A:List Line} (h : ∀ x ∈ A,arX (bothL w x)+arX (withL w x)=arX x):sumF cs f (cutL w A)=sumF cs f A:=by
 induction A with
 | nil=>rfl
 | cons x A ih=>
  have h1:=h x List.mem_cons_self
  have hb:famX cs (bothL w x)=famX cs x:=rfl
  have hw:famX cs (withL w x)=famX cs x:=rfl
  rw [cutL_cons,sumF_cons,sumF_cons,sumF_cons,ih fun y hy=>h y (List.mem_cons_of_mem _ hy),hb,hw]
  split <;> omega
theorem cutL_mem {w:Int} {l:List Line} {y:Line} (h:y ∈ cutL w l) : ∃ x ∈ l,y=bothL w x∨y=withL w x:=by
 unfold cutL at h
 obtain ⟨x,hx,hy⟩:=List.mem_flatMap.1 h
 refine ⟨x,hx, ?_⟩
 simpa using hy
theorem LinT.cut {K:Int} {rs:List Region} (hp:ParT rs) {l:List Line} (h:LinT K rs l) (hl:l.length≤10) (w:Int):LG K (cutL w l):=by
 refine ⟨by rw [cutL_len]; omega,fun y hy=>?_,fun y hy=>?_, ?_⟩
 ·obtain ⟨x,hx,rfl | rfl⟩:=cutL_mem hy
  ·exact (h.one x hx).crop
  ·exact (h.one x hx).crop
 ·obtain ⟨x,hx,rfl | rfl⟩:=cutL_mem hy
  ·exact (h.one x hx).both hp w
  ·exact (h.one x hx).with hp w
 ·unfold cutL
  rw [List.pairwise_flatMap]
  refine ⟨fun x hx=>?_,h.apart.imp fun {a b} hab y hy z hz=>?_⟩
  ·refine .cons (fun y hy=>?_) (.cons (fun y hy=>by simp at hy) .nil)
   rw [List.mem_singleton] at hy
   subst hy
   intro u v g1 g2
   rw [both_in,Bool.and_eq_true] at g1
   rw [with_in,Bool.and_eq_true] at g2
   rw [g1.2] at g2
   simp at g2
  ·intro u v g1 g2
   have e1:inR a.region_.rects_ u v=true:=by
    simp only [List.mem_cons,List.not_mem_nil,or_false] at hy
    rcases hy with rfl | rfl
    ·rw [both_in,Bool.and_eq_true] at g1; exact g1.1
    ·rw [with_in,Bool.and_eq_true] at g1; exact g1.1
   have e2:inR b.region_.rects_ u v=true:=by
    simp only [List.mem_cons,List.not_mem_nil,or_false] at hz
    rcases hz with rfl | rfl
    ·rw [both_in,Bool.and_eq_true] at g2; exact g2.1
    ·rw [with_in,Bool.and_eq_true] at g2; exact g2.1
   exact hab u v e1 e2
theorem famE_cut {K:Int} {rs:List Region} (hp:ParT rs) {cs:List Crop} {l:List Line} (h:LinT K rs l) (w:Int):famE cs (cutL w l)=famE cs l:=by
 refine (famE_eq (famE_lt cs l) fun p=>?_).symm
 have hs:=sumF_cut (w:=w) cs p.e0_ (A:=arL cs l) fun x hx=>by
  have hm:=(List.mem_filter.1 hx).1
  exact cut_area (h.one x hm).val ((h.one x hm).both hp w) ((h.one x hm).with hp w)
 rw [famE_mem,cutL_arL,hs]
 refine and_congr ⟨fun hh=>?_,fun hh=>?_⟩ Iff.rfl
 ·obtain ⟨x,hx,hxe⟩:=hh
  exact ⟨bothL w x,List.mem_flatMap.2 ⟨x,hx,List.mem_cons_self⟩,hxe⟩
 ·obtain ⟨y,hy,hye⟩:=hh
  obtain ⟨x,hx,rfl | rfl⟩:=cutL_mem hy
  ·exact ⟨x,hx,hye⟩
  ·exact ⟨x,hx,hye⟩
theorem ref04_Both_cut {F:Nat} (hF:BIG≤F) {w:Int} (hw:1≤w∧w≤100) {x:Line} (ha:Val x.region_.rects_) (h:Val (bothL w x).region_.rects_):ref04_Both F x.region_ ⟨hB w⟩=some ((bothL w x).region_,0):=by
 unfold ref04_Both
 refine bd_ok (ref04_combine_ok hF ha (b:=⟨hB w⟩) (val_one (by rw [propB_iff]; simp only; omega)) 2) ?_
 exact congrArg (fun z=>some (z.1,z.2)) (lim_val h)
theorem ref04_Without_cut {F:Nat} (hF:BIG≤F) {w:Int} (hw:1≤w∧w≤100) {x:Line} (ha:Val x.region_.rects_) (h:Val (withL w x).region_.rects_):ref04_Without F x.region_ ⟨hB w⟩=some ((withL w x).region_,0):=by
 exact (ref04_Without_ok hF ha (b:=⟨hB w⟩) (val_one (by rw [propB_iff]; simp only; omega))).trans (congrArg some (lim_val h))
theorem law19_RotationFamilies_ok {F:Nat} (hF:BIG≤F) (l:List Int) {c:Int} (hc:0≤c∧c≤255):law19_RotationFamilies F l c=some true:=by
 have hF' := hF
 unfold BIG at hF
 unfold law19_RotationFamilies
 obtain ⟨t,e1,o1⟩:=keep_New_ok F l
 rw [e1]
 obtain ⟨t2,cs,e2,o2,hcs⟩:=keep_Tape_Crops_ok hF' o1
 refine bd_ok rfl (bd_ok e2 ?_)
 have hcl:=hcs.len
 obtain ⟨t3,L,ns,rs,e3,o3,hp,hL,hLl⟩:=keep_Tape_Lines_ok hF' o2 (cs:=cs) ⟨by omega,by omega⟩ (most:=4) (by omega) (by omega)
 have hck:=crop_Check_ok (F:=F) hF' hcs
 have hlg:LG (cs.length:Nat) L:=hL.lg (by omega)
 have hz:=linC_zero.2 hlg
 refine bd_ok e3 (bd_ok (rotation_Families_ok hF' hck) ?_)
 simp only
 rw [if_pos hz]
 have hfl:=famE_len cs L
 have hpos:=famE_pos (cs:=cs) hL
 have hlt:=famE_lt cs L
 have hbd:=famE_bd (cs:=cs) hlg
 have hw:1≤1+c.tmod 30∧1+c.tmod 30≤100:=by have:=Int.tmod_nonneg 30 hc.1; have:=Int.tmod_lt_of_pos c (b:=30) (by omega); omega
 have hcut:=hL.cut hp (by omega) (1+c.tmod 30)
 have hzc:=linC_zero.2 hcut
 have hfe:=famE_cut hp (cs:=cs) hL (1+c.tmod 30)
 have hA : ∀ x ∈ L,0≤arX x∧arX x≤81:=hL.ar hp
 have stop:law19_RotationFamilies_k5 F (t2,cs) (t3,L,ns,rs) (famE cs L,0) (totP (famE cs L)) (sumA (arL cs L)) (cutL (1+c.tmod 30) L)=some true:=by
  unfold law19_RotationFamilies_k5
  refine bd_ok (rotation_Families_ok hF' hck) (bd_ok (rotation_Diverse_ok hF' hck _ _) (bd_ok (rotation_Diverse_ok hF' hck _ _) ?_))
  rw [if_pos hzc,hfe]
  have e1:divC 0 cs (cutL (1+c.tmod 30) L) 10 40=divC 0 cs L 10 40:=by
   unfold divC
   rw [if_pos hzc,if_pos hz,hfe]
  have e2:(divC 0 cs L 10 40).2=0:=by
   unfold divC
   rw [if_pos hz,if_neg (by omega)]
  rw [e1,e2]
  refine br_tt rfl (br_tt rfl (bd_ok (ref19_Pairs_ok hF' (P:=famE cs L) (by omega)) (br_tt rfl (br_tt ?_ (br_tt rfl (br_tt rfl (br_tt (by simp) (bd_ok (law19_awake_ok hF') rfl))))))))
  rw [totP_fam]; simp
 have lines:law19_RotationFamilies_k2 F c (t2,cs) (t3,L,ns,rs) (famE cs L,0) (totP (famE cs L))=some true:=by
  unfold law19_RotationFamilies_k2
  refine loopN_ok (fun z:Int×Int×List Line=>∃ i:Nat,z.2.1=i∧i≤L.length∧z.1=sumA (arL cs (L.take i))∧z.2.2=cutL (1+c.tmod 30) (L.take i)) (fun z=>L.length-z.2.1.toNat) (fun again z hz2 ih=>?_) ⟨0,rfl,by omega,rfl,rfl⟩ (by simp only; omega)
  obtain ⟨s,i0,V⟩:=z
  obtain ⟨i,rfl,hi,rfl,rfl⟩:=hz2
  simp only
  unfold law19_RotationFamilies_b3
  simp only [Int.toNat_natCast]
  refine br_ok (fun h1=>?_) (fun h1=>?_)
  ·have h1:i<L.length:=by simpa using h1
   have hm:=gl_mem h1
   have ho:=hL.one _ hm
   have hcr:=ho.crop
   have hs:=arL_snoc cs h1
   have hAi:=sumA_le (c:=81) (A:=arL cs (L.take i)) fun x hx=>hA x (List.mem_of_mem_take (List.mem_filter.1 hx).1)
   have hAl:=arL_len cs (L.take i)
   have hax:=hA _ hm
   rw [List.length_take] at hAl
   have k4 : ∀ s',s' = sumA (arL cs (L.take (i+1)))→law19_RotationFamilies_k4 F c (t3,L,ns,rs) (i:Int) (cutL (1+c.tmod 30) (L.take i)) again s' = some true:=fun s' hs' => by
    unfold law19_RotationFamilies_k4
    simp only [Int.toNat_natCast]
    refine gd_ok (i64_of (by omega) (by omega)) (gd_ok (by decide) (gd_ok (i64_of (by omega) (by omega)) (bd_ok (ref04_Both_cut hF' hw ho.val (ho.both hp _)) (bd_ok (ref04_Without_cut hF' hw ho.val (ho.with hp _)) ?_))))
    refine gd_ok (by rw [cutL_len,List.length_take]; simp [LIM]; omega) (gd_ok (i64_of (by omega) (by omega)) (ih _ ⟨i+1,by simp,h1,hs', ?_⟩ (by simp only; omega)))
    simp only
    rw [take_gl h1,cutL_snoc]
    rfl
   refine gd_ok (by omega) (gd_ok hcr ?_)
   refine br_ok (fun h2=>?_) (fun h2=>?_)
   ·have h2:arbB cs (gl L i)=true:=h2
    refine bd_ok (ref04_Area_ok hF' ho.val) (gd_ok (i64_of (by unfold arX at hax; omega) (by unfold arX at hax; omega)) (k4 _ ?_))
    rw [hs,if_pos h2]
    unfold sumA
    rw [List.map_append,List.sum_append]
    simp [arX]
   ·have h2:arbB cs (gl L i)=false:=h2
    refine k4 _ ?_
    rw [hs,if_neg (by rw [h2]; simp)]
  ·have h1:i=L.length:=by
    have : ¬ i<L.length:=by simpa using h1
    omega
   subst h1
   rw [List.take_length]
   exact stop
 refine loopN_ok (fun z:Int×Int=>∃ i:Nat,z.2=i∧i≤(famE cs L).length∧z.1=totP ((famE cs L).take i)) (fun z=>(famE cs L).length-z.2.toNat) (fun again z hz2 ih=>?_) ⟨0,rfl,by omega,rfl⟩ (by simp only; omega)
 obtain ⟨s,i0⟩:=z
 obtain ⟨i,rfl,hi,rfl⟩:=hz2
 simp only
 unfold law19_RotationFamilies_b0
 simp only [Int.toNat_natCast]
 refine br_ok (fun h1=>?_) (fun h1=>?_)
 ·have h1:i<(famE cs L).length:=by simpa using h1
  have hpi:=hpos _ (gl_mem h1)
  have hbi:=hbd _ (gl_mem h1)
  have htb:=totP_bd (P:=(famE cs L).take i) fun p hp=>hbd p (List.mem_of_mem_take hp)
  have htl:((famE cs L).take i).length≤20:=by rw [List.length_take]; omega
  have k1:law19_RotationFamilies_k1 F (famE cs L,0) (totP ((famE cs L).take i)) (i:Int) again false=some true:=by
   unfold law19_RotationFamilies_k1
   simp only [Int.toNat_natCast]
   refine br_ff rfl (gd_ok (i64_of (by omega) (by omega)) (gd_ok (i64_of (by omega) (by omega)) (ih _ ⟨i+1,by simp,h1, ?_⟩ (by simp only; omega))))
   simp only
   rw [take_gl h1,totP_snoc]
  have fin:law19_RotationFamilies_k1 F (famE cs L,0) (totP ((famE cs L).take i)) (i:Int) again (decide ((gl (famE cs L) i).e1_≤0))=some true:=by
   rw [decide_eq_false (by omega)]; exact k1
  refine gd_ok (by omega) (br_ok (fun h2=>?_) (fun h2=>fin))
  have h2:=of_decide_eq_true h2
  have e:((i:Int)-1).toNat=i-1:=by omega
  refine gd_ok (i64_of (by omega) (by omega)) (gd_ok (by omega) ?_)
  rw [e]
  have h3:(gl (famE cs L) (i-1)).e0_<(gl (famE cs L) i).e0_:=by
   rw [gl_at _ _ h1,gl_at _ _ (by omega:i-1<(famE cs L).length)]
   exact List.pairwise_iff_getElem.1 hlt _ _ _ _ (by omega)
  exact br_ff (decide_eq_false (by omega)) fin
 ·have h1:i=(famE cs L).length:=by
   have : ¬ i<(famE cs L).length:=by simpa using h1
   omega
  subst h1
  rw [List.take_length]
  exact lines
end
end Go.Ab
end
