/- Abstract states over the model: every lemma holds of any program of the form that it names. -/
import Derived.Test.YtdfbifjpedjljaaGreatLwA
set_option linter.unusedVariables false
set_option linter.unusedSimpArgs false
section
namespace Go.Ab
set_option maxRecDepth 20000
noncomputable section
theorem cropAt_at {l:List Record} (h:HL l) {y u v:Int} {f:Record} (hf:f ∈ l) (hy:f.year_=y) (hin:inR f.region_.rects_ u v=true):cropAt l y u v=f.crop_:=by
 unfold cropAt
 cases hg:l.find? (fun f=>decide (f.year_=y)&&inR f.region_.rects_ u v) with
 | none=>
  have:=List.find?_eq_none.1 hg f hf
  rw [decide_eq_true hy,hin] at this
  exact absurd rfl this
 | some g=>
  have h1:=List.find?_some hg
  have h2:=List.mem_of_find?_eq_some hg
  rw [Bool.and_eq_true,decide_eq_true_eq] at h1
  by_cases hc:g.crop_=f.crop_
  ·exact hc
  ·exact (h.apart h2 hf (by rw [h1.1,hy]) hc u v h1.2 hin).elim
end
end Go.Ab
end

section
namespace Go.Ab
set_option maxRecDepth 20000
noncomputable section
theorem Canon.half2 {l:List Rect} (hc:Canon l) {x0:Int} {w h:Nat} (hb : ∀ r ∈ l,x0≤r.left_∧r.right_≤x0+w∧0≤r.low_∧r.high_≤h):l.length≤h*((w+1) / 2):=by
 obtain ⟨b,hB,rfl⟩:=hc
 have hne : ∀ c ∈ b,∃ s,s ∈ c.v:=fun c hc=>List.exists_mem_of_ne_nil _ (hB.ne c hc)
 have hmem : ∀ c ∈ b,∀ s ∈ c.v,(⟨s.left_,c.lo,s.right_,c.hi⟩ : Rect) ∈ flat b:=fun c hc s hs=>List.mem_flatMap.2 ⟨c,hc,List.mem_map.2 ⟨s,hs,rfl⟩⟩
 have h1:(b.length:Int)≤h-0:=hB.runs.len (by omega) fun c hc=>by
  obtain ⟨s,hs⟩:=hne c hc
  have:=hb _ (hmem c hc s hs)
  simp only at this
  omega
 have h2 : ∀ c ∈ b,c.v.length≤(w+1) / 2:=fun c hc=>by
  have:=(hB.sp c hc).half (n:=x0+w) (a:=x0) (by omega) fun s hs=>by
   have:=hb _ (hmem c hc s hs)
   simp only at this ⊢
   omega
  omega
 have h5:=flat_le h2
 have h6:b.length*((w+1) / 2)≤h*((w+1) / 2):=Nat.mul_le_mul_right _ (by omega)
 omega
def PlB (d:Int) (S:Int→Int→Bool):Prop:=∀ u v,S u v=true→d≤u∧u<d+9∧0≤v∧v<9
theorem pl_cn {S:Int→Int→Bool} (hf:Fin S) {d:Int} (h0:0≤d∧d≤100) (hb:PlB d S):Val (cn S)∧∀ r ∈ cn S,d≤r.left_∧r.right_≤d+9∧0≤r.low_∧r.high_≤9:=by
 have hc:=Canon.cn hf
 have hr : ∀ r ∈ cn S,d≤r.left_∧r.right_≤d+9∧0≤r.low_∧r.high_≤9:=by
  intro r hr
  obtain ⟨h1,h2⟩:=hc.pos hr
  have a:=hb r.left_ r.low_ (by rw [← inR_cn hf]; exact inR_mem hr ((has_iff _ _ _).2 (by omega)))
  have b:=hb (r.right_-1) (r.high_-1) (by rw [← inR_cn hf]; exact inR_mem hr ((has_iff _ _ _).2 (by omega)))
  omega
 have hl:=hc.half2 (x0:=d) (w:=9) (h:=9) fun r h=>by have:=hr r h; omega
 refine ⟨⟨by omega,fun r h=>?_,hc⟩,hr⟩
 obtain ⟨h1,h2⟩:=hc.pos h
 have:=hr r h
 rw [propB_iff]; omega
theorem keep_Tape_Land_O_eq (F:Nat) (t:Tape) (n m:Int):keep_Tape_Land_O F t n m=keep_Tape_Land F t n m:=rfl
def shR (d:Int) (r:Rect):Rect:=⟨r.left_+d,r.low_,r.right_+d,r.high_⟩
theorem glset {α:Type} [Emb α] (l:List α) (i j:Nat) (x:α) (hj:j<l.length):gl (l.set i x) j=if i=j then x else gl l j:=by
 unfold gl
 rw [List.getD_eq_getElem?_getD,List.getElem?_set]
 by_cases h:i=j
 ·subst h; rw [if_pos rfl,if_pos rfl,if_pos hj]; rfl
 ·rw [if_neg h,if_neg h, ← List.getD_eq_getElem?_getD]
theorem gl_at {α:Type} [Emb α] (l:List α) (i:Nat) (h:i<l.length):gl l i=l[i]:=by
 unfold gl; rw [List.getD_eq_getElem?_getD,List.getElem?_eq_getElem h]; rfl
theorem gl_ext {α:Type} [Emb α] {l m:List α} (h:l.length=m.length) (hg : ∀ i,i<l.length→gl l i=gl m i):l=m:=by
 apply List.ext_getElem h
 intro i h1 h2
 have:=hg i h1
 rwa [gl_at l i h1,gl_at m i h2] at this
theorem gl_map {α β:Type} [Emb α] [Emb β] (f:α→β) (l:List α) (i:Nat) (h:i<l.length):gl (l.map f) i=f (gl l i):=by
 rw [gl_at _ i (by simpa using h),gl_at l i h]; simp
structure ParT (rs:List Region):Prop where
 len:1≤rs.length∧rs.length≤3
 one : ∀ i,i<rs.length→∃ w h:Int,2≤w∧w≤9∧2≤h∧h≤9∧gl rs i=⟨[⟨10*i,0,10*i+w,h⟩]⟩
theorem ParT.pl {rs:List Region} (h:ParT rs) {i:Nat} (hi:i<rs.length):PlB (10*i) (inR (gl rs i).rects_):=by
 intro u v huv
 obtain ⟨w,k,h1,h2,h3,h4,h5⟩:=h.one i hi
 rw [h5,inR_iff] at huv
 obtain ⟨r,hr,hh⟩:=huv
 rw [List.mem_singleton] at hr
 subst hr
 rw [has_iff] at hh
 simp only at hh
 omega
theorem ParT.val {rs:List Region} (h:ParT rs) {i:Nat} (hi:i<rs.length):Val (gl rs i).rects_:=by
 obtain ⟨w,k,h1,h2,h3,h4,h5⟩:=h.one i hi
 have:=h.len
 rw [h5]
 exact val_one ((propB_iff _).2 (by simp only; omega))
structure LinO (K:Int) (rs:List Region) (x:Line):Prop where
 crop:0≤x.crop_∧x.crop_<K
 par:1≤x.parcel_∧x.parcel_≤rs.length
 sch:1≤x.schemes_∧x.schemes_≤15
 val:Val x.region_.rects_
 ne:x.region_.rects_.length≠0
 sub : ∀ u v,inR x.region_.rects_ u v=true→inR (gl rs (x.parcel_-1).toNat).rects_ u v=true
def Apart (a b:Line):Prop:=∀ u v,inR a.region_.rects_ u v=true→inR b.region_.rects_ u v=true→False
structure LinT (K:Int) (rs:List Region) (l:List Line):Prop where
 one : ∀ x ∈ l,LinO K rs x
 apart:l.Pairwise Apart
theorem LinO.pl {K:Int} {rs:List Region} (hp:ParT rs) {x:Line} (h:LinO K rs x):PlB (10*(x.parcel_-1)) (inR x.region_.rects_):=by
 intro u v huv
 have:=h.par
 have h1:=hp.pl (i:=(x.parcel_-1).toNat) (by omega) u v (h.sub u v huv)
 omega
theorem LinT.nil (K:Int) (rs:List Region):LinT K rs []:=⟨fun x hx=>by simp at hx,.nil⟩
theorem keep_Tape_Lines_ok {F:Nat} (hF:BIG≤F) {t:Tape} (ht:TOk t) {cs:List Crop} (hcs:1≤cs.length∧cs.length≤100) {most:Int} (m1:0≤most) (m2:most≤10) :
  ∃ t' l ns rs,keep_Tape_Lines F t cs most=some (t',l,ns,rs)∧TOk t' ∧ ParT rs∧LinT (cs.length:Nat) rs l∧(l.length:Int)≤most:=by
 have hF' := hF
 unfold BIG at hF
 obtain ⟨t1,c,e1,o1,c1,c2⟩:=keep_Tape_Range_ok (F:=F) ht (lo:=1) (hi:=3) (by omega) (by omega) (by omega)
 have lines : ∀ (rs:List Region) (ns:List Int) (tl:List Int) (ta:Int),ParT rs→ns.length=rs.length→TOk ⟨tl,ta⟩→∃ t' l,keep_Tape_Lines_k1 F cs most tl ta ns rs=some (t',l,ns,rs)∧TOk t' ∧ LinT (cs.length:Nat) rs l∧(l.length:Int)≤most:=by
  intro rs ns tl ta hp hns hT
  have hrl:=hp.len
  obtain ⟨t2,k,e2,o2,k1,k2⟩:=keep_Tape_Next_ok (F:=F) hT (n:=most+1) (by omega) (by omega)
  have key : ∀ (k f:Nat) (t:Tape) (l:List Line),k<f→(l.length:Int)+k≤most→TOk t→LinT (cs.length:Nat) rs l →
    ∃ t' l',loopN (fun again (z:Int×List Int×Int×List Line)=>keep_Tape_Lines_b2 F cs ns rs again z.1 z.2.1 z.2.2.1 z.2.2.2) f ((k:Int),t.l_,t.at_,l)=some (t',l',ns,rs)∧TOk t' ∧ LinT (cs.length:Nat) rs l' ∧ (l'.length:Int)≤most:=by
   intro k
   induction k with
   | zero=>
    intro f t l hf hlm ht hl
    cases f with
    | zero=>omega
    | succ f=>exact ⟨⟨t.l_,t.at_⟩,l,rfl,ht,hl,by omega⟩
   | succ k ih=>
    intro f t l hf hlm ht hl
    cases f with
    | zero=>omega
    | succ f=>
     obtain ⟨ta,p,ea,oa,p1,p2⟩:=keep_Tape_Next_ok (F:=F) ht (n:=(ns.length:Nat)) (by omega) (by omega)
     obtain ⟨tb,a,eb,ob,ha,hne⟩:=keep_Tape_Land_ok hF' oa (n:=9) (most:=2) (by omega) (by omega) (by omega) (by omega)
     obtain ⟨tc,c,ec,oc,c1,c2⟩:=keep_Tape_Next_ok (F:=F) ob (n:=(cs.length:Nat)) (by omega) (by omega)
     obtain ⟨td,s,ed,od,s1,s2⟩:=keep_Tape_Next_ok (F:=F) oc (n:=15) (by omega) (by omega)
     have hpr:p.toNat<rs.length:=by omega
     have hal:=ha.val.1
     let S:Nat→Int→Int→Bool:=fun n u v=>(inR (a.rects_.map (shR (10*p))) u v&&inR (gl rs p.toNat).rects_ u v) && !((l.take n).any fun x=>inR x.region_.rects_ u v)
     have hSp : ∀ n,PlB (10*p) (S n):=fun n u v h=>by
      have h1:inR (gl rs p.toNat).rects_ u v=true:=by
       simp only [S,Bool.and_eq_true] at h; exact h.1.2
      have:=hp.pl hpr u v h1
      omega
     have hS0:S 0=fun u v=>keepB (inR (a.rects_.map (shR (10*p))) u v) (inR (gl rs p.toNat).rects_ u v) 2:=by
      funext u v
      simp [S,keepB]
     have hbx : ∀ r ∈ a.rects_,0≤r.left_∧r.left_<r.right_∧r.right_≤9∧0≤r.low_∧r.low_<r.high_∧r.high_≤9:=ha.box
     have hpv : ∀ r ∈ a.rects_.map (shR (10*p)),propB r=true:=fun r hr=>by
      obtain ⟨q,hq,rfl⟩:=List.mem_map.1 hr
      have:=hbx q hq
      rw [propB_iff]
      simp only [shR]
      omega
     have hfin : ∀ n,n≤l.length→Fin (S n):=by
      intro n
      induction n with
      | zero=>intro _; rw [hS0]; exact fin_comb _ _ 2
      | succ n ihn=>
       intro hn
       have h0:=ihn (by omega)
       have e:S (n+1)=fun u v=>keepB (inR (cn (S n)) u v) (inR (gl l n).region_.rects_ u v) 3:=by
        funext u v
        rw [inR_cn h0]
        simp only [S,keepB]
        rw [take_gl (by omega),List.any_append]
        simp [Bool.and_assoc]
       rw [e]; exact fin_comb _ _ 3
     have hstep : ∀ n,n<l.length→(cn fun u v=>keepB (inR (cn (S n)) u v) (inR (gl l n).region_.rects_ u v) 3)=cn (S (n+1)):=fun n hn=>by
      congr 1
      funext u v
      rw [inR_cn (hfin n (by omega))]
      simp only [S,keepB]
      rw [take_gl hn,List.any_append]
      simp [Bool.and_assoc]
     have hval : ∀ n,n≤l.length→Val (cn (S n)):=fun n hn=>(pl_cn (hfin n hn) (by omega) (hSp n)).1
     have rest : ∃ t' l',keep_Tape_Lines_k4 F cs rs ((k+1:Nat):Int) l (ta,p) (tb,a) (loopN (fun again (z:Int×List Int×Int×List Line)=>keep_Tape_Lines_b2 F cs ns rs again z.1 z.2.1 z.2.2.1 z.2.2.2) f) (a.rects_.map (shR (10*p)))=some (t',l',ns,rs)∧TOk t' ∧ LinT (cs.length:Nat) rs l' ∧ (l'.length:Int)≤most:=by
      have fin : ∃ t' l',keep_Tape_Lines_k6 F cs ((k+1:Nat):Int) l (ta,p) (tb,a) (loopN (fun again (z:Int×List Int×Int×List Line)=>keep_Tape_Lines_b2 F cs ns rs again z.1 z.2.1 z.2.2.1 z.2.2.2) f) (cn (S l.length))=some (t',l',ns,rs)∧TOk t' ∧ LinT (cs.length:Nat) rs l' ∧ (l'.length:Int)≤most:=by
       have ek:((k+1:Nat):Int)-1=(k:Int):=by omega
       by_cases hz:(cn (S l.length)).length=0
       ·obtain ⟨t2,l2,q1,q2,q3⟩:=ih f tb l (by omega) (by omega) ob hl
        refine ⟨t2,l2, ?_,q2,q3⟩
        unfold keep_Tape_Lines_k6
        refine br_ff (by simp [hz]) ?_
        unfold keep_Tape_Lines_k7
        simp only
        rw [ek]
        exact gd_ok (i64_of (by omega) (by omega)) q1
       ·have hx:LinO (cs.length:Nat) rs ⟨p+1,⟨cn (S l.length)⟩,c,1+s⟩:=by
         refine ⟨⟨c1,c2⟩,by simp only; omega,by simp only; omega,hval _ (Nat.le_refl _),hz,fun u v huv=>?_⟩
         have huv:inR (cn (S l.length)) u v=true:=huv
         rw [inR_cn (hfin _ (Nat.le_refl _))] at huv
         simp only [S,Bool.and_eq_true] at huv
         have e5:(p+1-1:Int)=p:=by omega
         simp only [e5]
         exact huv.1.2
        have hl2:LinT (cs.length:Nat) rs (l++[⟨p+1,⟨cn (S l.length)⟩,c,1+s⟩]):=by
         refine ⟨fun x h=>?_, ?_⟩
         ·rcases List.mem_append.1 h with h | h
          ·exact hl.one x h
          ·rw [List.mem_singleton] at h; subst h; exact hx
         ·rw [List.pairwise_append]
          refine ⟨hl.apart,List.pairwise_singleton _ _,fun x h y hy u v h1 h2=>?_⟩
          rw [List.mem_singleton] at hy
          subst hy
          have h2:inR (cn (S l.length)) u v=true:=h2
          rw [inR_cn (hfin _ (Nat.le_refl _))] at h2
          simp only [S,Bool.and_eq_true,Bool.not_eq_true',List.take_length] at h2
          have:=List.any_eq_false.1 h2.2 x h
          exact this h1
        obtain ⟨t2,l2,q1,q2,q3⟩:=ih f td (l++[⟨p+1,⟨cn (S l.length)⟩,c,1+s⟩]) (by omega) (by simp; omega) od hl2
        refine ⟨t2,l2, ?_,q2,q3⟩
        unfold keep_Tape_Lines_k6
        refine br_tt (decide_eq_true (by omega)) ?_
        refine gd_ok (i64_of (by simp only; omega) (by simp only; omega)) (bd_ok ec (bd_ok ed ?_))
        refine gd_ok (i64_of (by simp only; omega) (by simp only; omega)) (gd_ok (by simp [LIM]; omega) ?_)
        unfold keep_Tape_Lines_k7
        simp only
        rw [ek]
        exact gd_ok (i64_of (by omega) (by omega)) q1
      obtain ⟨t2,l2,q1,q2,q3⟩:=fin
      refine ⟨t2,l2, ?_,q2,q3⟩
      unfold keep_Tape_Lines_k4
      refine gd_ok (by simp only; omega) ?_
      refine bd_ok ((ref04_Combine_grid hF' (a:=a.rects_.map (shR (10*p))) (b:=(gl rs p.toNat).rects_) (how:=2) (by simp; omega) (by have:=(hp.val hpr).1; omega) hpv (hp.val hpr).2.1).trans (congrArg some (congrArg cn hS0.symm))) ?_
      refine loopN_ok (fun z:List Rect×Int=>∃ n:Nat,z.2=n∧n≤l.length∧z.1=cn (S n)) (fun z=>l.length-z.2.toNat) (fun again z hz ih2=>?_) ⟨0,rfl,by omega,rfl⟩ (by simp only; omega)
      obtain ⟨V,n0⟩:=z
      obtain ⟨n,rfl,hn,rfl⟩:=hz
      simp only at hn ⊢
      unfold keep_Tape_Lines_b5
      refine br_ok (fun h=>?_) (fun h=>?_)
      ·have h:n<l.length:=by simpa using h
       refine gd_ok (by omega) ?_
       simp only [Int.toNat_natCast]
       have hx:=hl.one _ (gl_mem h)
       refine bd_ok ((ref04_Combine_grid hF' (a:=cn (S n)) (b:=(gl l n).region_.rects_) (how:=3) (by have:=(hval n hn).1; omega) (by have:=hx.val.1; omega) (hval n hn).2.1 hx.val.2.1).trans (congrArg some (hstep n h))) ?_
       refine gd_ok (i64_of (by omega) (by omega)) (ih2 _ ⟨n+1,by simp,h,rfl⟩ (by simp only; omega))
      ·have h:n=l.length:=by
        have : ¬ n<l.length:=by simpa using h
        omega
       subst h
       exact q1
     obtain ⟨t2,l2,q1,q2,q3⟩:=rest
     refine ⟨t2,l2, ?_,q2,q3⟩
     show keep_Tape_Lines_b2 F cs ns rs _ ((k+1:Nat):Int) t.l_ t.at_ l=_
     unfold keep_Tape_Lines_b2
     refine br_tt (by simp) (bd_ok ea ?_)
     rw [keep_Tape_Land_O_eq]
     refine bd_ok eb ?_
     refine loopN_ok (fun z:Int×List Rect=>∃ i:Nat,z.1=i∧i≤a.rects_.length∧z.2.length=a.rects_.length∧∀ j,j<a.rects_.length→gl z.2 j=if j<i then shR (10*p) (gl a.rects_ j) else gl a.rects_ j) (fun z=>a.rects_.length-z.1.toNat) (fun again z hz ih2=>?_)
      ⟨0,rfl,by omega,rfl,fun j _=>by rw [if_neg (by omega)]⟩ (by simp only; omega)
     obtain ⟨i0,V⟩:=z
     obtain ⟨i,rfl,hi,hVl,hV⟩:=hz
     simp only at hVl hV ⊢
     unfold keep_Tape_Lines_b3
     simp only [Int.toNat_natCast]
     refine br_ok (fun h=>?_) (fun h=>?_)
     ·have h:i<a.rects_.length:=by simpa using h
      have hvi:gl V i=gl a.rects_ i:=by rw [hV i h,if_neg (by omega)]
      have hb:=hbx _ (gl_mem h)
      have hset : ∀ x,gl (V.set i x) i=x:=fun x=>by rw [glset V i i x (by omega),if_pos rfl]
      simp only [hvi,hset]
      refine gd_ok (by omega) (gd_ok (i64_of (by omega) (by omega)) (gd_ok (i64_of (by omega) (by omega)) (gd_ok (by omega) (gd_ok (i64_of (by omega) (by omega)) (gd_ok (i64_of (by omega) (by omega)) (gd_ok (by omega) (gd_ok (by rw [List.length_set]; omega) (gd_ok (i64_of (by omega) (by omega)) ?_))))))))
      refine ih2 _ ⟨i+1,by simp,h,by simp [hVl],fun j hj=>?_⟩ (by simp only; omega)
      rw [glset _ i j _ (by simp; omega)]
      by_cases hij:i=j
      ·subst hij
       rw [if_pos rfl,if_pos (by omega)]; rfl
      ·rw [if_neg hij,glset V i j _ (by omega),if_neg hij,hV j hj]
       by_cases h6:j<i
       ·rw [if_pos h6,if_pos (by omega)]
       ·rw [if_neg h6,if_neg (by omega)]
     ·have h:i=a.rects_.length:=by
       have : ¬ i<a.rects_.length:=by simpa using h
       omega
      have hVe:V=a.rects_.map (shR (10*p)):=gl_ext (by simp [hVl]) fun j hj=>by
       rw [hV j (by omega),if_pos (by omega),gl_map _ _ _ (by omega)]
      rw [hVe]; exact q1
  obtain ⟨t',l,q1,q2,q3,q4⟩:=key k.toNat F t2 [] (by omega) (by simp; omega) o2 (LinT.nil _ _)
  refine ⟨t',l, ?_,q2,q3,q4⟩
  unfold keep_Tape_Lines_k1
  refine gd_ok (i64_of (by omega) (by omega)) (bd_ok e2 ?_)
  have:(k.toNat:Int)=k:=by omega
  rw [this] at q1
  exact q1
 have key : ∀ (k f:Nat) (t:Tape) (ns:List Int) (rs:List Region),k<f→TOk t→ns.length=rs.length→rs.length+k=c.toNat→(∀ i,i<rs.length→∃ w h:Int,2≤w∧w≤9∧2≤h∧h≤9∧gl rs i=⟨[⟨10*i,0,10*i+w,h⟩]⟩) →
   ∃ t' l ns' rs',loopN (fun again (z:Int×List Int×Int×List Int×List Region)=>keep_Tape_Lines_b0 F cs most again z.1 z.2.1 z.2.2.1 z.2.2.2.1 z.2.2.2.2) f ((k:Int),t.l_,t.at_,ns,rs)=some (t',l,ns',rs')∧TOk t' ∧ ParT rs' ∧ LinT (cs.length:Nat) rs' l∧(l.length:Int)≤most:=by
  intro k
  induction k with
  | zero=>
   intro f t ns rs hf ht hns hk hrs
   cases f with
   | zero=>omega
   | succ f=>
    have hp:ParT rs:=⟨by omega,hrs⟩
    obtain ⟨t',l,q1,q2,q3,q4⟩:=lines rs ns t.l_ t.at_ hp hns ht
    refine ⟨t',l,ns,rs, ?_,q2,hp,q3,q4⟩
    show keep_Tape_Lines_b0 F cs most _ 0 t.l_ t.at_ ns rs=_
    unfold keep_Tape_Lines_b0
    exact br_ff rfl q1
  | succ k ih=>
   intro f t ns rs hf ht hns hk hrs
   cases f with
   | zero=>omega
   | succ f=>
    obtain ⟨ta,w,ea,oa,w1,w2⟩:=keep_Tape_Range_ok (F:=F) ht (lo:=2) (hi:=9) (by omega) (by omega) (by omega)
    obtain ⟨tb,h,eb,ob,h1,h2⟩:=keep_Tape_Range_ok (F:=F) oa (lo:=2) (hi:=9) (by omega) (by omega) (by omega)
    obtain ⟨t',l,ns',rs',q1,q2⟩:=ih f tb (ns++[((ns.length:Nat):Int)+1]) (rs++[⟨[⟨10*((ns.length:Nat):Int),0,10*((ns.length:Nat):Int)+w,h⟩]⟩]) (by omega) ob (by simp [hns]) (by simp; omega) (fun i hi=>by
     rcases Nat.lt_or_ge i rs.length with h5 | h5
     ·have e:gl (rs++[(⟨[⟨10*((ns.length:Nat):Int),0,10*((ns.length:Nat):Int)+w,h⟩]⟩ : Region)]) i=gl rs i:=by
       unfold gl; rw [List.getD_eq_getElem?_getD,List.getElem?_append_left h5, ← List.getD_eq_getElem?_getD]
      rw [e]; exact hrs i h5
     ·have h6:i=rs.length:=by simp at hi; omega
      subst h6
      refine ⟨w,h,by omega,by omega,by omega,by omega, ?_⟩
      unfold gl
      rw [List.getD_eq_getElem?_getD,List.getElem?_append_right (Nat.le_refl _),hns]
      simp)
    refine ⟨t',l,ns',rs', ?_,q2⟩
    show keep_Tape_Lines_b0 F cs most _ ((k+1:Nat):Int) t.l_ t.at_ ns rs=_
    unfold keep_Tape_Lines_b0
    have ek:((k+1:Nat):Int)-1=(k:Int):=by omega
    refine br_tt (by simp) (gd_ok (i64_of (by omega) (by omega)) (gd_ok (by simp [LIM]; omega) (gd_ok (i64_of (by omega) (by omega)) (gd_ok (i64_of (by omega) (by omega)) (bd_ok ea (gd_ok (i64_of (by omega) (by omega)) (bd_ok eb (gd_ok (by simp [LIM]; omega) (gd_ok (i64_of (by omega) (by omega)) ?_)))))))))
    rw [ek]
    exact q1
 obtain ⟨t',l,ns,rs,q1,q2⟩:=key c.toNat F t1 [] [] (by omega) o1 rfl (by simp) (fun i hi=>by simp at hi)
 refine ⟨t',l,ns,rs, ?_,q2⟩
 unfold keep_Tape_Lines
 refine bd_ok e1 ?_
 have:(c.toNat:Int)=c:=by omega
 rw [this] at q1
 exact q1
end
end Go.Ab
end

section
namespace Go.Ab
set_option maxRecDepth 20000
noncomputable section
theorem scan_ok {R:Type} {body:(Int→Option R)→Int→Option R} {c y:Option R} (N:Nat) (p:Nat→Bool)
  (bad : ∀ again (i:Nat),i<N→p i=true→body again (i:Int)=c) (good : ∀ again (i:Nat) z,i<N→p i=false→again ((i:Int)+1)=z→body again (i:Int)=z)
  (stop : ∀ again,body again (N:Int)=y) {F:Nat} (hF:N<F):loopN body F 0=if (List.range N).any p=true then c else y:=by
 refine loopN_ok (fun z:Int=>∃ i:Nat,z=i∧i≤N∧∀ j,j<i→p j=false) (fun z=>N-z.toNat) (fun again z hz ih=>?_) ⟨0,rfl,Nat.zero_le _,fun j h=>absurd h (Nat.not_lt_zero j)⟩ (by simp; omega)
 obtain ⟨i,rfl,hi,hp⟩:=hz
 rcases Nat.lt_or_ge i N with h | h
 ·cases hpi:p i with
  | true=>
   rw [if_pos (List.any_eq_true.2 ⟨i,List.mem_range.2 h,hpi⟩)]
   exact bad again i h hpi
  | false=>
   refine good again i _ h hpi (ih _ ⟨i+1,by omega,h,fun j hj=>?_⟩ (by omega))
   by_cases hji:j=i
   ·rw [hji]; exact hpi
   ·exact hp j (by omega)
 ·have:i=N:=by omega
  subst this
  rw [if_neg (by rw [Bool.not_eq_true,List.any_eq_false]; intro j hj; rw [hp j (List.mem_range.1 hj)]; simp)]
  exact stop again
def linC (kc K:Int) (l:List Line):Int:=
 if 20<l.length then 1 else if kc≠0 then kc
 else if (List.range l.length).any (fun i=>decide ((gl l i).crop_<0)||decide (K≤(gl l i).crop_))=true then 13
 else if (List.range l.length).any (fun i=> !valB (gl l i).region_.rects_)=true then 7
 else if (List.range l.length).any (fun i=>(List.range i).any fun k=>meetB (gl l i).region_ (gl l k).region_)=true then 11 else 0
theorem gl_take {α:Type} [Emb α] (l:List α) {i k:Nat} (h:k<i):gl (l.take i) k=gl l k:=by
 unfold gl
 rw [List.getD_eq_getElem?_getD,List.getElem?_take,if_pos h, ← List.getD_eq_getElem?_getD]
theorem rotation_check_ok {F:Nat} (hF:BIG≤F) (l:List Line) {cs:List Crop} {kc:Int} (hc:crop_Check F cs=some kc):rotation_check F l cs=some (linC kc (cs.length:Nat) l):=by
 have hF' := hF
 unfold BIG at hF
 unfold rotation_check linC
 refine br_ok (fun h=>?_) (fun h=>?_)
 ·rw [if_pos (by have:=of_decide_eq_true h; omega)]
 have hl:l.length≤20:=by have:=of_decide_eq_false h; omega
 rw [if_neg (by omega)]
 refine bd_ok hc (br_ok (fun h1=>?_) (fun h1=>?_))
 ·rw [if_pos (by simpa using h1)]
 rw [if_neg (by simpa using h1)]
 refine (scan_ok (c:=some 13) (y:=some (if (List.range l.length).any (fun i=> !valB (gl l i).region_.rects_)=true then 7 else if (List.range l.length).any (fun i=>(List.range i).any fun k=>meetB (gl l i).region_ (gl l k).region_)=true then 11 else 0)) l.length (fun i=>decide ((gl l i).crop_<0)||decide ((cs.length:Nat)≤(gl l i).crop_)) (fun again i hi hp=>?_) (fun again i z hi hp hz=>?_) (fun again=>?_) (by omega)).trans (by split <;> rfl)
 ·unfold rotation_check_b0
  simp only [Int.toNat_natCast]
  refine br_tt (decide_eq_true (by omega)) (gd_ok (by omega) ?_)
  refine br_ok (fun h2=>?_) (fun h2=>?_)
  ·unfold rotation_check_k1; exact br_tt rfl rfl
  ·rw [h2,Bool.false_or] at hp
   unfold rotation_check_k1; exact br_tt hp rfl
 ·rw [Bool.or_eq_false_iff] at hp
  unfold rotation_check_b0
  simp only [Int.toNat_natCast]
  refine br_tt (decide_eq_true (by omega)) (gd_ok (by omega) ?_)
  refine br_ff hp.1 ?_
  unfold rotation_check_k1
  exact br_ff hp.2 (gd_ok (i64_of (by omega) (by omega)) hz)
 ·unfold rotation_check_b0
  refine br_ff (decide_eq_false (by omega)) ?_
  unfold rotation_check_k2
  refine (scan_ok (c:=some 7) (y:=some (if (List.range l.length).any (fun i=>(List.range i).any fun k=>meetB (gl l i).region_ (gl l k).region_)=true then 11 else 0)) l.length (fun i=> !valB (gl l i).region_.rects_) (fun again i hi hp=>?_) (fun again i z hi hp hz=>?_) (fun again=>?_) (by omega)).trans (by split <;> rfl)
  ·unfold rotation_check_b3
   simp only [Int.toNat_natCast]
   refine br_tt (decide_eq_true (by omega)) (gd_ok (by omega) (bd_ok (region_Valid_ok hF' _) ?_))
   exact br_tt hp rfl
  ·unfold rotation_check_b3
   simp only [Int.toNat_natCast]
   refine br_tt (decide_eq_true (by omega)) (gd_ok (by omega) (bd_ok (region_Valid_ok hF' _) ?_))
   exact br_ff hp (gd_ok (i64_of (by omega) (by omega)) hz)
  ·unfold rotation_check_b3
   refine br_ff (decide_eq_false (by omega)) ?_
   unfold rotation_check_k4
   have inner : ∀ (again:Int→Option Int) (i:Nat),i<l.length→rotation_check_b5 F l again (i:Int)=if (List.range i).any (fun k=>meetB (gl l i).region_ (gl l k).region_)=true then some 11 else again ((i:Int)+1):=by
    intro again i hi
    unfold rotation_check_b5
    refine br_tt (decide_eq_true (by omega)) (gd_ok (by omega) (gd_ok (by omega) ?_))
    have hti:(l.take ((i:Int)).toNat).length=i:=by rw [Int.toNat_natCast,List.length_take]; omega
    refine scan_ok i (fun k=>meetB (gl l i).region_ (gl l k).region_) (fun again2 k hk hp=>?_) (fun again2 k z hk hp hz=>?_) (fun again2=>?_) (by omega)
    ·unfold rotation_check_b6
     rw [hti]
     simp only [Int.toNat_natCast]
     refine br_tt (decide_eq_true (by omega)) (gd_ok (by omega) ?_)
     rw [gl_take l hk]
     exact bd_ok (region_Meets_ok hF' _ _) (br_tt hp rfl)
    ·unfold rotation_check_b6
     rw [hti]
     simp only [Int.toNat_natCast]
     refine br_tt (decide_eq_true (by omega)) (gd_ok (by omega) ?_)
     rw [gl_take l hk]
     exact bd_ok (region_Meets_ok hF' _ _) (br_ff hp (gd_ok (i64_of (by omega) (by omega)) hz))
    ·unfold rotation_check_b6
     rw [hti]
     refine br_ff (decide_eq_false (by omega)) ?_
     unfold rotation_check_k7
     exact gd_ok (i64_of (by omega) (by omega)) rfl
   refine (scan_ok (c:=some 11) (y:=some 0) l.length (fun i=>(List.range i).any fun k=>meetB (gl l i).region_ (gl l k).region_) (fun again i hi hp=>?_) (fun again i z hi hp hz=>?_) (fun again=>?_) (by omega)).trans (by split <;> rfl)
   ·rw [inner again i hi,if_pos hp]
   ·rw [inner again i hi,if_neg (by rw [hp]; simp)]; exact hz
   ·unfold rotation_check_b5
    refine br_ff (decide_eq_false (by omega)) rfl
structure LG (K:Int) (l:List Line):Prop where
 len:l.length≤20
 crop : ∀ x ∈ l,0≤x.crop_∧x.crop_<K
 val : ∀ x ∈ l,Val x.region_.rects_
 apart:l.Pairwise Apart
theorem Apart.symm {a b:Line} (h:Apart a b):Apart b a:=fun u v h1 h2=>h u v h2 h1
theorem linC_zero {K:Int} {l:List Line}:linC 0 K l=0↔LG K l:=by
 unfold linC
 constructor
 ·intro h
  split at h
  ·cases h
  rename_i h1
  rw [if_neg (by omega)] at h
  split at h
  ·cases h
  rename_i h2
  split at h
  ·cases h
  rename_i h3
  split at h
  ·cases h
  rename_i h4
  rw [Bool.not_eq_true,List.any_eq_false] at h2 h3 h4
  have hv : ∀ x ∈ l,Val x.region_.rects_:=fun x hx=>by
   obtain ⟨i,hi,rfl⟩:=List.getElem_of_mem hx
   have:=h3 i (List.mem_range.2 hi)
   rw [gl_at l i hi] at this
   simpa [valB_iff] using this
  refine ⟨by omega,fun x hx=>?_,hv, ?_⟩
  ·obtain ⟨i,hi,rfl⟩:=List.getElem_of_mem hx
   have:=h2 i (List.mem_range.2 hi)
   rw [gl_at l i hi,Bool.or_eq_true,decide_eq_true_eq,decide_eq_true_eq] at this
   omega
  ·rw [List.pairwise_iff_getElem]
   intro i j hi hj hij
   have:=h4 j (List.mem_range.2 hj)
   rw [Bool.not_eq_true,List.any_eq_false] at this
   have h5:=this i (List.mem_range.2 hij)
   rw [gl_at l i hi,gl_at l j hj,Bool.not_eq_true] at h5
   have h6:=meetB_apart (hv _ (List.getElem_mem hj)) (hv _ (List.getElem_mem hi)) h5
   exact fun u v p q=>h6 u v q p
 ·intro h
  have:=h.len
  rw [if_neg (by omega),if_neg (by simp),if_neg,if_neg,if_neg]
  ·rw [Bool.not_eq_true,List.any_eq_false]
   intro j hj
   have hj:=List.mem_range.1 hj
   rw [Bool.not_eq_true,List.any_eq_false]
   intro i hi
   have hi:=List.mem_range.1 hi
   have hil:i<l.length:=by omega
   rw [gl_at l i hil,gl_at l j hj,Bool.not_eq_true]
   have:=List.pairwise_iff_getElem.1 h.apart i j hil hj hi
   exact meetB_off fun u v p q=>this u v q p
  ·rw [Bool.not_eq_true,List.any_eq_false]
   intro i hi
   have hi:=List.mem_range.1 hi
   rw [gl_at l i hi,valB_true (h.val _ (List.getElem_mem hi))]; simp
  ·rw [Bool.not_eq_true,List.any_eq_false]
   intro i hi
   have hi:=List.mem_range.1 hi
   have:=h.crop _ (List.getElem_mem hi)
   rw [gl_at l i hi,Bool.or_eq_true,decide_eq_true_eq,decide_eq_true_eq]
   omega
theorem LinT.lg {K:Int} {rs:List Region} {l:List Line} (h:LinT K rs l) (hl:l.length≤20):LG K l:=⟨hl,fun x hx=>(h.one x hx).crop,fun x hx=>(h.one x hx).val,h.apart⟩
def arbB (cs:List Crop) (x:Line):Bool:=band .i64 (gl cs x.crop_.toNat).marks_ 3==0
def famX (cs:List Crop) (x:Line):Int:=(gl cs x.crop_.toNat).family_
def arX (x:Line):Int:=area x.region_.rects_
def arL (cs:List Crop) (l:List Line):List Line:=l.filter (arbB cs)
theorem arX_bd {x:Line} (h:Val x.region_.rects_):0≤arX x∧arX x≤268435456:=by
 have:=sq_small (inR x.region_.rects_)
 unfold arX
 rw [h.area]; omega
theorem region_Area_v {F:Nat} (hF:BIG≤F) {a:Region} (h:Val a.rects_):region_Area F a=some (area a.rects_):=by
 have h1:=h.1
 unfold region_Area
 refine bd_ok (region_Valid_ok hF _) (br_ff (by rw [valB_true h]; rfl) (bd_ok (region_Size_ok hF (by omega) h.2.1) rfl))
theorem rotation_arable_ok {F:Nat} (hF:BIG≤F) {cs:List Crop} {l:List Line} (h:LG (cs.length:Nat) l):rotation_arable F l cs=some (arL cs l):=by
 unfold BIG at hF
 have hl:=h.len
 unfold rotation_arable
 refine loopN_ok (fun z:Int×List Line=>∃ i:Nat,z.1=i∧i≤l.length∧z.2=arL cs (l.take i)) (fun z=>l.length-z.1.toNat) (fun again z hz ih=>?_) ⟨0,rfl,by omega,rfl⟩ (by simp only; omega)
 obtain ⟨i0,V⟩:=z
 obtain ⟨i,rfl,hi,rfl⟩:=hz
 simp only
 unfold rotation_arable_b0
 simp only [Int.toNat_natCast]
 refine br_ok (fun h1=>?_) (fun h1=>?_)
 ·have h1:i<l.length:=by simpa using h1
  have hc:=h.crop _ (gl_mem h1)
  have hlen:(arL cs (l.take i)).length≤i:=by
   have:=List.length_filter_le (arbB cs) (l.take i)
   rw [List.length_take] at this
   unfold arL; omega
  have hs:arL cs (l.take (i+1))=arL cs (l.take i)++(if arbB cs (gl l i)=true then [gl l i] else []):=by
   unfold arL
   rw [take_gl h1,List.filter_append]
   congr 1
   by_cases hb:arbB cs (gl l i)=true
   ·rw [if_pos hb]; simp [hb]
   ·rw [if_neg hb]; simp [hb]
  refine gd_ok (by omega) (gd_ok hc ?_)
  refine br_ok (fun h2=>?_) (fun h2=>?_)
  ·refine gd_ok (by simp [LIM]; omega) ?_
   unfold rotation_arable_k1
   refine gd_ok (i64_of (by omega) (by omega)) (ih _ ⟨i+1,by simp,h1, ?_⟩ (by simp only; omega))
   have:arbB cs (gl l i)=true:=h2
   rw [hs,if_pos this]
  ·unfold rotation_arable_k1
   refine gd_ok (i64_of (by omega) (by omega)) (ih _ ⟨i+1,by simp,h1, ?_⟩ (by simp only; omega))
   have:arbB cs (gl l i)=false:=h2
   rw [hs,if_neg (by rw [this]; simp),List.append_nil]
 ·have h1:i=l.length:=by
   have : ¬ i<l.length:=by simpa using h1
   omega
  subst h1
  rw [List.take_length]; rfl
def sumF (cs:List Crop) (f:Int) (A:List Line):Int:=((A.filter fun x=>famX cs x==f).map arX).sum
def mapL (cs:List Crop) (A:List Line):List (Int×Int):=A.foldl (fun gs x=>iPut (famX cs x) (iGet (famX cs x) gs+arX x) gs) []
theorem mapL_snoc (cs:List Crop) (A:List Line) (x:Line):mapL cs (A++[x])=iPut (famX cs x) (iGet (famX cs x) (mapL cs A)+arX x) (mapL cs A):=by unfold mapL; rw [List.foldl_append]; rfl
theorem sumF_snoc (cs:List Crop) (f:Int) (A:List Line) (x:Line):sumF cs f (A++[x])=sumF cs f A+(if famX cs x=f then arX x else 0):=by
 unfold sumF
 rw [List.filter_append,List.map_append,List.sum_append]
 by_cases h:famX cs x=f
 ·rw [if_pos h]; simp [h]
 ·rw [if_neg h]; simp [h]
theorem iPut_mem {y n:Int} {gs:List (Int×Int)} (hnd:(gs.map (·.1)).Nodup) (e:Int×Int):e ∈ iPut y n gs↔e=(y,n)∨(e ∈ gs∧e.1≠y):=by
 unfold iPut
 rcases iIdx_spec y gs with ⟨h,q,hq,hqy⟩|⟨h,hno⟩
 ·rw [if_pos h]
  constructor
  ·intro he
   obtain ⟨j,hj,rfl⟩:=List.getElem_of_mem he
   rw [List.length_set] at hj
   rw [List.getElem_set]
   by_cases hij:iIdx y gs=j
   ·rw [if_pos hij]; exact .inl rfl
   ·rw [if_neg hij]
    refine .inr ⟨List.getElem_mem hj,fun hy=>hij ?_⟩
    obtain ⟨hi,hqe⟩:=List.getElem?_eq_some_iff.1 hq
    exact (List.getElem_inj (h₀:=by simpa using hi) (h₁:=by simpa using hj) hnd).1 (by simp [hqe,hqy,hy])
  ·rintro (rfl | ⟨he,hy⟩)
   ·exact List.mem_iff_getElem.2 ⟨iIdx y gs,by simpa using h,by simp⟩
   ·obtain ⟨j,hj,rfl⟩:=List.getElem_of_mem he
    refine List.mem_iff_getElem.2 ⟨j,by simpa using hj, ?_⟩
    rw [List.getElem_set,if_neg]
    intro hij
    obtain ⟨hi,hqe⟩:=List.getElem?_eq_some_iff.1 hq
    have hjq:gs[j]=q:=by rw [← hqe]; simp only [hij]
    rw [hjq] at hy
    exact hy hqy
 ·rw [if_neg (by omega),List.mem_append,List.mem_singleton]
  constructor
  ·rintro (he | rfl)
   ·exact .inr ⟨he,hno e he⟩
   ·exact .inl rfl
  ·rintro (rfl | ⟨he,_⟩)
   ·exact .inr rfl
   ·exact .inl he
theorem iGet_of {y:Int} {gs:List (Int×Int)} (hnd:(gs.map (·.1)).Nodup) {e:Int×Int} (he:e ∈ gs) (hy:e.1=y):iGet y gs=e.2:=by
 unfold iGet
 rcases iIdx_spec y gs with ⟨h,q,hq,hqy⟩|⟨h,hno⟩
 ·rw [hq]
  obtain ⟨j,hj,rfl⟩:=List.getElem_of_mem he
  obtain ⟨hi,hqe⟩:=List.getElem?_eq_some_iff.1 hq
  have:=(List.getElem_inj (h₀:=by simpa using hi) (h₁:=by simpa using hj) hnd).1 (by simp [hqe,hqy,hy])
  subst this
  rw [← hqe]
 ·exact absurd hy (hno e he)
theorem iGet_no {y:Int} {gs:List (Int×Int)} (h : ∀ e ∈ gs,e.1≠y):iGet y gs=0:=by
 unfold iGet
 rcases iIdx_spec y gs with ⟨_,q,hq,hqy⟩|⟨hl,_⟩
 ·exact absurd hqy (h q (List.mem_of_getElem? hq))
 ·rw [hl,List.getElem?_eq_none (Nat.le_refl _)]
theorem mapL_spec (cs:List Crop) : ∀ (A:List Line) (n:Nat),n≤A.length→((mapL cs (A.take n)).map (·.1)).Nodup∧(∀ e,e ∈ mapL cs (A.take n)↔(∃ x ∈ A.take n,famX cs x=e.1)∧e.2=sumF cs e.1 (A.take n))∧(mapL cs (A.take n)).length≤n:=by
 intro A n
 induction n with
 | zero=>intro _; exact ⟨by simp [mapL],fun e=>by simp [mapL],by simp [mapL]⟩
 | succ n ih=>
  intro hn
  obtain ⟨h1,h2,h3⟩:=ih (by omega)
  rw [take_gl (by omega),mapL_snoc]
  have hg:iGet (famX cs (gl A n)) (mapL cs (A.take n))=sumF cs (famX cs (gl A n)) (A.take n):=by
   by_cases hex : ∃ x ∈ A.take n,famX cs x=famX cs (gl A n)
   ·exact iGet_of h1 ((h2 (famX cs (gl A n),sumF cs (famX cs (gl A n)) (A.take n))).2 ⟨hex,rfl⟩) rfl
   ·rw [iGet_no fun e he hy=>hex (by obtain ⟨⟨x,hx,hxe⟩,_⟩:=(h2 e).1 he; exact ⟨x,hx,hxe.trans hy⟩)]
    unfold sumF
    have:(A.take n).filter (fun x=>famX cs x==famX cs (gl A n))=[]:=List.filter_eq_nil_iff.2 fun x hx hh=>hex ⟨x,hx,by simpa using hh⟩
    rw [this]; rfl
  refine ⟨iPut_keys h1,fun e=>?_, ?_⟩
  ·rw [iPut_mem h1,hg]
   constructor
   ·rintro (rfl | ⟨he,hy⟩)
    ·refine ⟨⟨gl A n,by simp,rfl⟩, ?_⟩
     rw [sumF_snoc,if_pos rfl]
    ·obtain ⟨⟨x,hx,hxe⟩,hs⟩:=(h2 e).1 he
     refine ⟨⟨x,List.mem_append_left _ hx,hxe⟩, ?_⟩
     rw [sumF_snoc,if_neg (fun hh=>hy hh.symm),hs]; omega
   ·rintro ⟨⟨x,hx,hxe⟩,hs⟩
    rw [sumF_snoc] at hs
    by_cases hy:famX cs (gl A n)=e.1
    ·left
     rw [if_pos hy] at hs
     rw [hy, ← hs]
    ·right
     rw [if_neg hy] at hs
     refine ⟨(h2 e).2 ⟨?_,by omega⟩,fun hh=>hy hh.symm⟩
     rcases List.mem_append.1 hx with hx | hx
     ·exact ⟨x,hx,hxe⟩
     ·rw [List.mem_singleton] at hx; subst hx; exact absurd hxe hy
  ·unfold iPut
   split
   ·rw [List.length_set]; omega
   ·rw [List.length_append]; simp; omega
theorem sumF_bd {cs:List Crop} {f:Int} {A:List Line} (h : ∀ x ∈ A,Val x.region_.rects_):0≤sumF cs f A∧sumF cs f A≤268435456*(A.length:Nat):=by
 unfold sumF
 have key : ∀ B:List Line,(∀ x ∈ B,Val x.region_.rects_)→0≤(B.map arX).sum∧(B.map arX).sum≤268435456*(B.length:Nat):=by
  intro B
  induction B with
  | nil=>intro _; simp
  | cons x B ih=>
   intro hB
   have h1:=ih fun y hy=>hB y (List.mem_cons_of_mem _ hy)
   have h2:=arX_bd (hB x List.mem_cons_self)
   rw [List.map_cons,List.sum_cons,List.length_cons]
   omega
 have h1:=key (A.filter fun x=>famX cs x==f) fun x hx=>h x (List.mem_filter.1 hx).1
 have h2:=List.length_filter_le (fun x=>famX cs x==f) A
 omega
end
end Go.Ab
end

section
namespace Go.Ab
set_option maxRecDepth 20000
noncomputable section
theorem permU {α:Type} {le:α→α→Prop} : ∀ {l m:List α},l.Perm m→l.Pairwise le→m.Pairwise le→(∀ a ∈ l,∀ b ∈ l,le a b→le b a→a=b)→l=m
 | [],m,hp,_,_,_=>(List.nil_perm.1 hp).symm
 | a::l,[],hp,_,_,_=>absurd hp.length_eq (by simp)
 | a::l,b::m,hp,h1,h2,ha=>by
  have hab:a=b:=by
   by_cases h:a=b
   ·exact h
   ·have m1:a ∈ m:=by
     have:=hp.mem_iff.1 (List.mem_cons_self (a:=a) (l:=l))
     rcases List.mem_cons.1 this with h5 | h5
     ·exact absurd h5 h
     ·exact h5
    have m2:b ∈ l:=by
     have:=hp.mem_iff.2 (List.mem_cons_self (a:=b) (l:=m))
     rcases List.mem_cons.1 this with h5 | h5
     ·exact absurd h5.symm h
     ·exact h5
    exact ha a List.mem_cons_self b (List.mem_cons_of_mem _ m2) ((List.pairwise_cons.1 h1).1 b m2) ((List.pairwise_cons.1 h2).1 a m1)
  subst hab
  rw [permU (List.perm_cons a |>.1 hp) (List.pairwise_cons.1 h1).2 (List.pairwise_cons.1 h2).2 fun x hx y hy=>ha x (List.mem_cons_of_mem _ hx) y (List.mem_cons_of_mem _ hy)]
theorem perm_eraseIdx {α:Type} : ∀ (l:List α) (i:Nat) (h:i<l.length),(l[i]::l.eraseIdx i).Perm l
 | a::l,0,_=>.refl _
 | a::l,i+1,h=>by
  have:=perm_eraseIdx l i (by simpa using h)
  simp only [List.getElem_cons_succ,List.eraseIdx_cons_succ]
  exact (List.Perm.swap _ _ _).trans (this.cons a)
abbrev byK (P:List Arr2Int):List Arr2Int:=P.mergeSort fun a b=>decide (a.e0_≤b.e0_)
theorem byK_perm (P:List Arr2Int):(byK P).Perm P:=List.mergeSort_perm P _
theorem byK_le (P:List Arr2Int):(byK P).Pairwise fun a b=>a.e0_≤b.e0_:=
 (List.pairwise_mergeSort (le:=fun a b:Arr2Int=>decide (a.e0_≤b.e0_)) (fun a b c h5 h6=>by simp at *; omega) (fun a b=>by simp; omega) P).imp fun h=>by simpa using h
theorem key_inj {P:List Arr2Int} (hnd:(P.map Arr2Int.e0_).Nodup) {a b:Arr2Int} (ha:a ∈ P) (hb:b ∈ P) (h:a.e0_=b.e0_):a=b:=by
 obtain ⟨i,hi,rfl⟩:=List.getElem_of_mem ha
 obtain ⟨j,hj,rfl⟩:=List.getElem_of_mem hb
 have:=(List.getElem_inj (h₀:=by simpa using hi) (h₁:=by simpa using hj) hnd).1 (by simpa using h)
 simp only [this]
theorem byK_congr {P Q:List Arr2Int} (hp:P.Perm Q) (hnd:(P.map Arr2Int.e0_).Nodup):byK P=byK Q:=
 permU (((byK_perm P).trans hp).trans (byK_perm Q).symm) (byK_le P) (byK_le Q) fun a ha b hb h1 h2=>key_inj hnd ((byK_perm P).mem_iff.1 ha) ((byK_perm P).mem_iff.1 hb) (by omega)
def mkP (e:Int×Int):Arr2Int:=⟨e.1,e.2⟩
def famE (cs:List Crop) (l:List Line):List Arr2Int:=byK ((mapL cs (arL cs l)).map mkP)
theorem fam_loop {F:Nat} : ∀ (n f:Nat) (gs:List (Int×Int)) (out:List Arr2Int),gs.length=n→n<f→((out++gs.map mkP).map Arr2Int.e0_).Nodup→(out++gs.map mkP).length≤LIM →
  loopN (fun again (z:List (Int×Int)×List Arr2Int)=>rotation_Families_b2 F again z.1 z.2) f (gs,out)=some (byK (out++gs.map mkP),0):=by
 intro n
 induction n with
 | zero=>
  intro f gs out hg hf hnd hl
  obtain rfl:=List.eq_nil_of_length_eq_zero hg
  cases f with
  | zero=>omega
  | succ f=>
   show rotation_Families_b2 F _ [] out=_
   unfold rotation_Families_b2
   rw [nextM_nil]
   unfold rotation_Families_k3
   rw [List.map_nil,List.append_nil] at hnd hl ⊢
   exact bd_ok (sortK_eq hnd hl) rfl
 | succ n ih=>
  intro f gs out hg hf hnd hl
  cases f with
  | zero=>omega
  | succ f=>
   show rotation_Families_b2 F _ gs out=_
   unfold rotation_Families_b2
   refine nextM_some (fun h=>by rw [h] at hg; cases hg) fun i hi=>?_
   have hp:(out++[mkP gs[i]]++(gs.eraseIdx i).map mkP).Perm (out++gs.map mkP):=by
    rw [List.append_assoc]
    refine List.Perm.append_left out ?_
    have:=(perm_eraseIdx gs i hi).map mkP
    simpa using this
   have hl2:=hp.length_eq
   refine gd_ok (by simp at hl hl2 ⊢; omega) ?_
   have:=ih f (gs.eraseIdx i) (out++[mkP gs[i]]) (by rw [List.length_eraseIdx_of_lt hi]; omega) (by omega) (((hp.map _).nodup_iff).2 hnd) (by omega)
   rw [byK_congr hp (((hp.map _).nodup_iff).2 hnd)] at this
   exact this
theorem arL_val {K:Int} {cs:List Crop} {l:List Line} (h:LG K l) : ∀ x ∈ arL cs l,Val x.region_.rects_:=fun x hx=>h.val x (List.mem_filter.1 hx).1
theorem arL_len (cs:List Crop) (l:List Line):(arL cs l).length≤l.length:=List.length_filter_le _ _
theorem mapL_full (cs:List Crop) (A:List Line):((mapL cs A).map (·.1)).Nodup∧(∀ e,e ∈ mapL cs A↔(∃ x ∈ A,famX cs x=e.1)∧e.2=sumF cs e.1 A)∧(mapL cs A).length≤A.length:=by
 have:=mapL_spec cs A A.length (Nat.le_refl _)
 rwa [List.take_length] at this
theorem rotation_Families_ok {F:Nat} (hF:BIG≤F) {l:List Line} {cs:List Crop} {kc:Int} (hc:crop_Check F cs=some kc) :
  rotation_Families F l cs=some (if linC kc (cs.length:Nat) l=0 then (famE cs l,0) else ([],linC kc (cs.length:Nat) l)):=by
 have hF' := hF
 unfold BIG at hF
 unfold rotation_Families
 refine bd_ok (rotation_check_ok hF' l hc) (br_ok (fun h=>?_) (fun h=>?_))
 ·rw [if_neg (by simpa using h)]
 have h0:linC kc (cs.length:Nat) l=0:=by simpa using h
 rw [if_pos h0]
 have hk:kc=0:=by
  unfold linC at h0
  split at h0
  ·cases h0
  ·split at h0
   ·exact h0
   ·rename_i hh; simpa using hh
 subst hk
 have hg:=linC_zero.1 h0
 have hl:=hg.len
 refine bd_ok (rotation_arable_ok hF' hg) ?_
 have hA:=arL_len cs l
 refine loopN_ok (fun z:Int×List (Int×Int)=>∃ i:Nat,z.1=i∧i≤(arL cs l).length∧z.2=mapL cs ((arL cs l).take i)) (fun z=>(arL cs l).length-z.1.toNat) (fun again z hz ih=>?_) ⟨0,rfl,by omega,rfl⟩ (by simp only; omega)
 obtain ⟨i0,gs⟩:=z
 obtain ⟨i,rfl,hi,rfl⟩:=hz
 simp only
 unfold rotation_Families_b0
 simp only [Int.toNat_natCast]
 refine br_ok (fun h1=>?_) (fun h1=>?_)
 ·have h1:i<(arL cs l).length:=by simpa using h1
  have hm:gl (arL cs l) i ∈ l:=(List.mem_filter.1 (gl_mem h1)).1
  have hv:=hg.val _ hm
  have hcr:=hg.crop _ hm
  have hb:=arX_bd hv
  obtain ⟨g1,g2,g3⟩:=mapL_spec cs (arL cs l) i hi
  have hsum:iGet (famX cs (gl (arL cs l) i)) (mapL cs ((arL cs l).take i))=sumF cs (famX cs (gl (arL cs l) i)) ((arL cs l).take i):=by
   by_cases hex : ∃ x ∈ (arL cs l).take i,famX cs x=famX cs (gl (arL cs l) i)
   ·exact iGet_of g1 ((g2 (famX cs (gl (arL cs l) i),sumF cs (famX cs (gl (arL cs l) i)) ((arL cs l).take i))).2 ⟨hex,rfl⟩) rfl
   ·rw [iGet_no fun e he hy=>hex (by obtain ⟨⟨x,hx,hxe⟩,_⟩:=(g2 e).1 he; exact ⟨x,hx,hxe.trans hy⟩)]
    unfold sumF
    have:((arL cs l).take i).filter (fun x=>famX cs x==famX cs (gl (arL cs l) i))=[]:=List.filter_eq_nil_iff.2 fun x hx hh=>hex ⟨x,hx,by simpa using hh⟩
    rw [this]; rfl
  have hsb:=sumF_bd (cs:=cs) (f:=famX cs (gl (arL cs l) i)) (A:=(arL cs l).take i) fun x hx=>arL_val hg x (List.mem_of_mem_take hx)
  have htl:((arL cs l).take i).length≤20:=by rw [List.length_take]; omega
  refine gd_ok (by omega) (gd_ok hcr (bd_ok (region_Area_v hF' hv) ?_))
  have hI:I64 (iGet (famX cs (gl (arL cs l) i)) (mapL cs ((arL cs l).take i))+arX (gl (arL cs l) i)):=i64_of (by rw [hsum]; omega) (by rw [hsum]; omega)
  refine gd_ok hI (gd_ok (i64_of (by omega) (by omega)) (ih _ ⟨i+1,by simp,h1, ?_⟩ (by simp only; omega)))
  rw [take_gl h1,mapL_snoc]; rfl
 ·have h1:i=(arL cs l).length:=by
   have : ¬ i<(arL cs l).length:=by simpa using h1
   omega
  subst h1
  rw [List.take_length]
  obtain ⟨g1,g2,g3⟩:=mapL_full cs (arL cs l)
  unfold rotation_Families_k1
  have:=fam_loop (F:=F) (mapL cs (arL cs l)).length F (mapL cs (arL cs l)) [] rfl (by omega) (by simpa [mkP,Function.comp_def] using g1) (by simp [LIM]; omega)
  rw [List.nil_append] at this
  exact this
theorem famE_mem (cs:List Crop) (l:List Line) (p:Arr2Int):p ∈ famE cs l↔(∃ x ∈ arL cs l,famX cs x=p.e0_)∧p.e1_=sumF cs p.e0_ (arL cs l):=by
 obtain ⟨g1,g2,g3⟩:=mapL_full cs (arL cs l)
 rw [famE,(byK_perm _).mem_iff,List.mem_map]
 constructor
 ·rintro ⟨e,he,rfl⟩
  exact (g2 e).1 he
 ·intro h
  exact ⟨(p.e0_,p.e1_),(g2 _).2 h,rfl⟩
theorem famE_nd (cs:List Crop) (l:List Line):(((mapL cs (arL cs l)).map mkP).map Arr2Int.e0_).Nodup:=by
 have:=(mapL_full cs (arL cs l)).1
 simpa [mkP,Function.comp_def] using this
theorem famE_len (cs:List Crop) (l:List Line):(famE cs l).length≤l.length:=by
 have h1:=(byK_perm ((mapL cs (arL cs l)).map mkP)).length_eq
 have h2:=(mapL_full cs (arL cs l)).2.2
 have h3:=arL_len cs l
 rw [List.length_map] at h1
 unfold famE; omega
theorem famE_bd {K:Int} {cs:List Crop} {l:List Line} (h:LG K l) : ∀ p ∈ famE cs l,0≤p.e1_∧p.e1_≤5368709120:=fun p hp=>by
 obtain ⟨_,h2⟩:=(famE_mem cs l p).1 hp
 have:=sumF_bd (cs:=cs) (f:=p.e0_) (arL_val (cs:=cs) h)
 have h3:=arL_len cs l
 have h4:=h.len
 rw [h2]; omega
def totP (P:List Arr2Int):Int:=(P.map Arr2Int.e1_).sum
theorem totP_snoc (P:List Arr2Int) (p:Arr2Int):totP (P++[p])=totP P+p.e1_:=by unfold totP; simp
theorem totP_bd {P:List Arr2Int} (h : ∀ p ∈ P,0≤p.e1_∧p.e1_≤5368709120):0≤totP P∧totP P≤5368709120*(P.length:Nat):=by
 induction P with
 | nil=>simp [totP]
 | cons p P ih=>
  have h1:=h p List.mem_cons_self
  have h2:=ih fun q hq=>h q (List.mem_cons_of_mem _ hq)
  unfold totP at h2 ⊢
  rw [List.map_cons,List.sum_cons,List.length_cons]; omega
end
end Go.Ab
end

section
namespace Go.Ab
set_option maxRecDepth 20000
noncomputable section
theorem scanE_ok {body:(Int→Option Int)→Int→Option Int} (N:Nat) (p:Nat→Int)
  (bad : ∀ again (i:Nat),i<N→p i≠0→body again (i:Int)=some (p i)) (good : ∀ again (i:Nat) z,i<N→p i=0→again ((i:Int)+1)=z→body again (i:Int)=z)
  (stop : ∀ again,body again (N:Int)=some 0) {F:Nat} (hF:N<F):loopN body F 0=some ((((List.range N).map p).find? fun c=>c != 0).getD 0):=by
 refine loopN_ok (fun z:Int=>∃ i:Nat,z=i∧i≤N∧∀ j,j<i→p j=0) (fun z=>N-z.toNat) (fun again z hz ih=>?_) ⟨0,rfl,Nat.zero_le _,fun j h=>absurd h (Nat.not_lt_zero j)⟩ (by simp; omega)
 obtain ⟨i,rfl,hi,hp⟩:=hz
 rcases Nat.lt_or_ge i N with h | h
 ·by_cases hpi:p i=0
  ·refine good again i _ h hpi (ih _ ⟨i+1,by omega,h,fun j hj=>?_⟩ (by omega))
   by_cases hji:j=i
   ·rw [hji]; exact hpi
   ·exact hp j (by omega)
  ·rw [bad again i h hpi]
   congr 1
   have e:List.range N=List.range i++i::(List.range N).drop (i+1):=by
    have h1:(List.range N).take i=List.range i:=by rw [List.take_range]; congr 1; omega
    have h2:=List.take_append_drop i (List.range N)
    rw [h1,List.drop_eq_getElem_cons (by simpa using h)] at h2
    rw [List.getElem_range] at h2
    exact h2.symm
   have h3:(((List.range i).map p).find? fun c=>c != 0)=none:=List.find?_eq_none.2 fun c hc=>by
    obtain ⟨j,hj,rfl⟩:=List.mem_map.1 hc
    rw [hp j (List.mem_range.1 hj)]; simp
   rw [e,List.map_append,List.find?_append,h3,Option.none_or,List.map_cons,List.find?_cons]
   have:(p i != 0)=true:=by simpa using hpi
   rw [this]; rfl
 ·have:i=N:=by omega
  subst this
  rw [stop again]
  congr 1
  have h3:(((List.range i).map p).find? fun c=>c != 0)=none:=List.find?_eq_none.2 fun c hc=>by
   obtain ⟨j,hj,rfl⟩:=List.mem_map.1 hc
   rw [hp j (List.mem_range.1 hj)]; simp
  rw [h3]; rfl
def crE (l:List Crop) (i:Nat):Int:=
 if nameB (gl l i).name_=false then 5 else if (gl l i).family_<0∨40<(gl l i).family_ then 2 else if (gl l i).marks_<0∨31<(gl l i).marks_ then 14
 else if 0<i∧(sLt (gl l i).name_ (gl l (i-1)).name_||sEq (gl l i).name_ (gl l (i-1)).name_)=true then 6 else 0
def crC (l:List Crop):Int:=if 40<l.length then 1 else (((List.range l.length).map (crE l)).find? fun c=>c != 0).getD 0
def NmS (l:List Crop):Prop:=∀ x ∈ l,x.name_.size≤4294967296
theorem crE5 {l:List Crop} {i:Nat} (h:nameB (gl l i).name_=false):crE l i=5:=by unfold crE; rw [if_pos h]
theorem crE2 {l:List Crop} {i:Nat} (h:nameB (gl l i).name_=true) (h2:(gl l i).family_<0∨40<(gl l i).family_):crE l i=2:=by
 unfold crE; rw [if_neg (by rw [h]; simp),if_pos h2]
theorem crE14 {l:List Crop} {i:Nat} (h:nameB (gl l i).name_=true) (h2 : ¬ ((gl l i).family_<0∨40<(gl l i).family_)) (h3:(gl l i).marks_<0∨31<(gl l i).marks_):crE l i=14:=by
 unfold crE; rw [if_neg (by rw [h]; simp),if_neg h2,if_pos h3]
theorem crE6 {l:List Crop} {i:Nat} (h:nameB (gl l i).name_=true) (h2 : ¬ ((gl l i).family_<0∨40<(gl l i).family_)) (h3 : ¬ ((gl l i).marks_<0∨31<(gl l i).marks_))
  (h4:0<i∧(sLt (gl l i).name_ (gl l (i-1)).name_||sEq (gl l i).name_ (gl l (i-1)).name_)=true):crE l i=6:=by
 unfold crE; rw [if_neg (by rw [h]; simp),if_neg h2,if_neg h3,if_pos h4]
theorem crE0 {l:List Crop} {i:Nat} (h:nameB (gl l i).name_=true) (h2 : ¬ ((gl l i).family_<0∨40<(gl l i).family_)) (h3 : ¬ ((gl l i).marks_<0∨31<(gl l i).marks_))
  (h4 : ¬ (0<i∧(sLt (gl l i).name_ (gl l (i-1)).name_||sEq (gl l i).name_ (gl l (i-1)).name_)=true)):crE l i=0:=by
 unfold crE; rw [if_neg (by rw [h]; simp),if_neg h2,if_neg h3,if_neg h4]
theorem crop_Check_gen {F:Nat} (hF:BIG≤F) {l:List Crop} (hn:NmS l):crop_Check F l=some (crC l):=by
 have hF' := hF
 unfold BIG at hF
 unfold crop_Check crC
 refine br_ok (fun h=>?_) (fun h=>?_)
 ·rw [if_pos (by have:=of_decide_eq_true h; omega)]
 have hl:l.length≤40:=by have:=of_decide_eq_false h; omega
 rw [if_neg (by omega)]
 have main : ∀ (again:Int→Option Int) (i:Nat),i<l.length→crop_Check_b0 F l again (i:Int)=if crE l i=0 then again ((i:Int)+1) else some (crE l i):=by
  intro again i hi
  unfold crop_Check_b0
  simp only [Int.toNat_natCast]
  have hs:=hn _ (gl_mem hi)
  refine br_tt (decide_eq_true (by omega)) (gd_ok (by omega) (bd_ok (words_Name_ok (by omega) hs) ?_))
  refine br_ok (fun h1=>?_) (fun h1=>?_)
  ·have h1:nameB (gl l i).name_=false:=by simpa using h1
   rw [crE5 h1,if_neg (by decide)]
  have h1:nameB (gl l i).name_=true:=by simpa using h1
  have k1t:(gl l i).family_<0∨40<(gl l i).family_→crop_Check_k1 F l (i:Int) again true=if crE l i=0 then again ((i:Int)+1) else some (crE l i):=fun h=>by
   rw [crE2 h1 h,if_neg (by decide)]
   unfold crop_Check_k1
   exact br_tt rfl rfl
  refine br_ok (fun h2=>k1t (.inl (of_decide_eq_true h2))) (fun h2=>?_)
  have h2:=of_decide_eq_false h2
  by_cases h3:40<(gl l i).family_
  ·rw [decide_eq_true h3]; exact k1t (.inr h3)
  have hf : ¬ ((gl l i).family_<0∨40<(gl l i).family_):=by omega
  rw [decide_eq_false h3]
  unfold crop_Check_k1
  simp only [Int.toNat_natCast]
  refine br_ff rfl ?_
  have k2t:(gl l i).marks_<0∨31<(gl l i).marks_→crop_Check_k2 F l (i:Int) again true=if crE l i=0 then again ((i:Int)+1) else some (crE l i):=fun h=>by
   rw [crE14 h1 hf h,if_neg (by decide)]
   unfold crop_Check_k2
   exact br_tt rfl rfl
  refine br_ok (fun h4=>k2t (.inl (of_decide_eq_true h4))) (fun h4=>?_)
  have h4:=of_decide_eq_false h4
  by_cases h5:31<(gl l i).marks_
  ·rw [decide_eq_true h5]; exact k2t (.inr h5)
  have hm : ¬ ((gl l i).marks_<0∨31<(gl l i).marks_):=by omega
  rw [decide_eq_false h5]
  unfold crop_Check_k2
  simp only [Int.toNat_natCast]
  refine br_ff rfl ?_
  refine br_ok (fun h6=>?_) (fun h6=>?_)
  ·have h6:0<i:=by have:=of_decide_eq_true h6; omega
   have e1:((i:Int)-1).toNat=i-1:=by omega
   refine gd_ok (i64_of (by omega) (by omega)) (gd_ok (by omega) ?_)
   rw [e1]
   unfold crop_Check_k3
   refine br_ok (fun h7=>?_) (fun h7=>?_)
   ·rw [crE6 h1 hf hm ⟨h6,h7⟩,if_neg (by decide)]
   ·rw [crE0 h1 hf hm (fun hh=>by rw [hh.2] at h7; cases h7),if_pos rfl]
    exact gd_ok (i64_of (by omega) (by omega)) rfl
  ·have h6 : ¬ 0<i:=by have:=of_decide_eq_false h6; omega
   rw [crE0 h1 hf hm (fun hh=>h6 hh.1),if_pos rfl]
   unfold crop_Check_k3
   exact br_ff rfl (gd_ok (i64_of (by omega) (by omega)) rfl)
 refine scanE_ok l.length (crE l) (fun again i hi hp=>?_) (fun again i z hi hp hz=>?_) (fun again=>?_) (by omega)
 ·rw [main again i hi,if_neg hp]
 ·rw [main again i hi,if_pos hp]; exact hz
 ·unfold crop_Check_b0
  exact br_ff (decide_eq_false (by omega)) rfl
end
end Go.Ab
end

section
namespace Go.Ab
set_option maxRecDepth 20000
noncomputable section
def fs1 (a:Int×Int) (x:Arr2Int):Int×Int:=if a.1<x.e1_ then (x.e1_,a.1) else (a.1,gmax a.2 x.e1_)
def fs2 (P:List Arr2Int):Int×Int:=P.foldl fs1 (0,0)
theorem fs2_snoc (P:List Arr2Int) (x:Arr2Int):fs2 (P++[x])=fs1 (fs2 P) x:=by unfold fs2; rw [List.foldl_append]; rfl
theorem gmax_bd (a b:Int):a≤gmax a b∧b≤gmax a b∧(gmax a b=a∨gmax a b=b):=by
 unfold gmax
 split <;> omega
theorem fs2_bd {P:List Arr2Int} (h : ∀ p ∈ P,0≤p.e1_∧p.e1_≤5368709120) : ∀ i,i≤P.length→0≤(fs2 (P.take i)).1∧(fs2 (P.take i)).1≤5368709120∧0≤(fs2 (P.take i)).2∧(fs2 (P.take i)).2≤5368709120:=by
 intro i
 induction i with
 | zero=>intro _; simp [fs2]
 | succ i ih=>
  intro hi
  have h1:=ih (by omega)
  have h2:=h _ (gl_mem (by omega:i<P.length))
  rw [take_gl (by omega),fs2_snoc]
  unfold fs1
  have h3:=gmax_bd (fs2 (P.take i)).2 (gl P i).e1_
  split
  ·simp only; omega
  ·simp only; omega
def divB (small large tot a b n:Int):Bool:=
 decide (tot≤small)||(if tot≤large then decide (2≤n)&&decide (4*a≤3*tot) else decide (3≤n)&&(decide (4*a≤3*tot)&&decide (20*(a+b)≤19*tot)))
def divP (small large:Int) (P:List Arr2Int):Bool:=divB small large (totP P) (fs2 P).1 (fs2 P).2 (P.length:Nat)
def divC (kc:Int) (cs:List Crop) (l:List Line) (small large:Int):Bool×Int:=
 if linC kc (cs.length:Nat) l=0 then (if small<0∨large<small∨268435456<large then (false,2) else (divP small large (famE cs l),0)) else (false,linC kc (cs.length:Nat) l)
theorem linC_kc {kc K:Int} {l:List Line} (h0:linC kc K l=0):kc=0:=by
 unfold linC at h0
 split at h0
 ·cases h0
 ·split at h0
  ·exact h0
  ·rename_i hh; simpa using hh
theorem rotation_Diverse_ok {F:Nat} (hF:BIG≤F) {l:List Line} {cs:List Crop} {kc:Int} (hc:crop_Check F cs=some kc) (small large:Int):rotation_Diverse F l cs small large=some (divC kc cs l small large):=by
 have hF' := hF
 unfold BIG at hF
 unfold rotation_Diverse divC
 refine bd_ok (rotation_Families_ok hF' hc) ?_
 by_cases h0:linC kc (cs.length:Nat) l=0
 ·rw [if_pos h0,if_pos h0]
  have hk:=linC_kc h0
  subst hk
  have hg:=linC_zero.1 h0
  have hbd:=famE_bd (cs:=cs) hg
  have hfl:=famE_len cs l
  have hl:=hg.len
  refine br_ff rfl ?_
  have bad:small<0∨large<small∨268435456<large→rotation_Diverse_k0 F small large (famE cs l,0) true=some (if small<0∨large<small∨268435456<large then (false,2) else (divP small large (famE cs l),0)):=fun h=>by
   rw [if_pos h]
   unfold rotation_Diverse_k0
   exact br_tt rfl rfl
  refine br_ok (fun h1=>bad (.inl (of_decide_eq_true h1))) (fun h1=>br_ok (fun h2=>bad (.inr (.inl (of_decide_eq_true h2)))) (fun h2=>?_))
  have h1:=of_decide_eq_false h1
  have h2:=of_decide_eq_false h2
  by_cases h3:268435456<large
  ·rw [decide_eq_true h3]; exact bad (.inr (.inr h3))
  rw [decide_eq_false h3,if_neg (by omega)]
  unfold rotation_Diverse_k0
  refine br_ff rfl ?_
  refine loopN_ok (fun z:Int×Int×Int×Int=>∃ i:Nat,z.2.2.2=i∧i≤(famE cs l).length∧z.1=totP ((famE cs l).take i)∧(z.2.1,z.2.2.1)=fs2 ((famE cs l).take i)) (fun z=>(famE cs l).length-z.2.2.2.toNat) (fun again z hz ih=>?_) ⟨0,rfl,by omega,rfl,rfl⟩ (by simp only; omega)
  obtain ⟨tot,a,b,i0⟩:=z
  obtain ⟨i,rfl,hi,rfl,hab⟩:=hz
  simp only at hab ⊢
  have ha:a=(fs2 ((famE cs l).take i)).1:=congrArg Prod.fst hab
  have hb:b=(fs2 ((famE cs l).take i)).2:=congrArg Prod.snd hab
  have fb:=fs2_bd hbd i hi
  have tb:=totP_bd (P:=(famE cs l).take i) fun p hp=>hbd p (List.mem_of_mem_take hp)
  have tl:((famE cs l).take i).length≤20:=by rw [List.length_take]; omega
  unfold rotation_Diverse_b1
  simp only [Int.toNat_natCast]
  refine br_ok (fun h4=>?_) (fun h4=>?_)
  ·have h4:i<(famE cs l).length:=by simpa using h4
   have hp:=hbd _ (gl_mem h4)
   have hs:totP ((famE cs l).take (i+1))=totP ((famE cs l).take i)+(gl (famE cs l) i).e1_:=by rw [take_gl h4,totP_snoc]
   have hf:fs2 ((famE cs l).take (i+1))=fs1 (fs2 ((famE cs l).take i)) (gl (famE cs l) i):=by rw [take_gl h4,fs2_snoc]
   have k2 : ∀ a' b',(a',b')=fs2 ((famE cs l).take (i+1))→rotation_Diverse_k2 F (famE cs l,0) (totP ((famE cs l).take i)) (i:Int) again a' b' = some (divP small large (famE cs l),0):=fun a' b' hab' => by
    unfold rotation_Diverse_k2
    simp only [Int.toNat_natCast]
    exact gd_ok (i64_of (by omega) (by omega)) (ih _ ⟨i+1,by simp,h4,hs.symm,hab'⟩ (by simp only; omega))
   refine gd_ok (by omega) (gd_ok (i64_of (by omega) (by omega)) ?_)
   refine br_ok (fun h5=>k2 _ _ ?_) (fun h5=>k2 _ _ ?_)
   ·have h5:=of_decide_eq_true h5
    rw [hf]; unfold fs1
    rw [if_pos (by rw [← ha]; exact h5), ← ha]
   ·have h5:=of_decide_eq_false h5
    rw [hf]; unfold fs1
    rw [if_neg (by rw [← ha]; exact h5), ← ha, ← hb]
  ·have h4:i=(famE cs l).length:=by
    have : ¬ i<(famE cs l).length:=by simpa using h4
    omega
   subst h4
   rw [List.take_length] at ha hb fb tb ⊢
   rw [← ha, ← hb] at fb
   have hn:((famE cs l).length:Int)≤20:=by omega
   unfold rotation_Diverse_k3 divP divB
   rw [← ha, ← hb]
   refine br_ok (fun h5=>?_) (fun h5=>?_)
   ·rw [h5,Bool.true_or]
   rw [h5,Bool.false_or]
   refine br_ok (fun h6=>?_) (fun h6=>?_)
   ·have h6:=of_decide_eq_true h6
    rw [if_pos h6]
    refine br_ok (fun h7=>?_) (fun h7=>?_)
    ·refine gd_ok (i64_of (by omega) (by omega)) (gd_ok (i64_of (by omega) (by omega)) ?_)
     unfold rotation_Diverse_k4
     rw [h7,Bool.true_and]
    ·unfold rotation_Diverse_k4
     rw [h7,Bool.false_and]
   ·have h6:=of_decide_eq_false h6
    rw [if_neg h6]
    refine br_ok (fun h7=>?_) (fun h7=>?_)
    ·rw [h7,Bool.true_and]
     refine gd_ok (i64_of (by omega) (by omega)) (gd_ok (i64_of (by omega) (by omega)) ?_)
     refine br_ok (fun h8=>?_) (fun h8=>?_)
     ·refine gd_ok (i64_of (by omega) (by omega)) (gd_ok (i64_of (by omega) (by omega)) (gd_ok (i64_of (by omega) (by omega)) ?_))
      unfold rotation_Diverse_k5
      rw [h8,Bool.true_and]
     ·unfold rotation_Diverse_k5
      rw [h8,Bool.false_and]
    ·unfold rotation_Diverse_k5
     rw [h7,Bool.false_and]
 ·rw [if_neg h0,if_neg h0]
  exact br_tt (by simpa using h0) rfl
theorem CA_check {F:Nat} (hF:BIG≤F):crop_Check F law19_CA=some 0:=by
 rw [crop_Check_gen hF (fun x hx=>?_)]
 ·congr 1; decide +kernel
 ·have : ∀ x ∈ law19_CA,x.name_.size≤4294967296:=by decide +kernel
  exact this x hx
end
end Go.Ab
end

section
namespace Go.Ab
set_option maxRecDepth 20000
noncomputable section
theorem famE_is {cs:List Crop} {l:List Line} {P:List Arr2Int} (h1:P.Pairwise fun a b=>a.e0_<b.e0_) (h2:((mapL cs (arL cs l)).map mkP).Perm P):famE cs l=P:=
 permU ((byK_perm _).trans h2) (byK_le _) (h1.imp fun h=>by omega) fun a ha b hb _ _=>
  key_inj (famE_nd cs l) ((byK_perm _).mem_iff.1 ha) ((byK_perm _).mem_iff.1 hb) (by omega)
theorem LA_map:mapL law19_CA (arL law19_CA law19_LA)=[(2,80),(1,20)]:=by decide +kernel
theorem LB_map:mapL law19_CA (arL law19_CA law19_LB)=[(2,75),(1,25)]:=by decide +kernel
theorem LA_fam:famE law19_CA law19_LA=[⟨1,20⟩,⟨2,80⟩]:=by
 refine famE_is (by simp) ?_
 rw [LA_map]
 exact List.Perm.swap _ _ _
theorem LB_fam:famE law19_CA law19_LB=[⟨1,25⟩,⟨2,75⟩]:=by
 refine famE_is (by simp) ?_
 rw [LB_map]
 exact List.Perm.swap _ _ _
theorem two_lg {c:Int} (h1:0<c) (h2:c<100):LG 2 [⟨0,⟨[⟨0,0,c,1⟩]⟩,1,0⟩,⟨0,⟨[⟨c,0,100,1⟩]⟩,0,0⟩]:=by
 refine ⟨by simp,fun x hx=>?_,fun x hx=>?_, ?_⟩
 ·simp only [List.mem_cons,List.not_mem_nil,or_false] at hx
  rcases hx with rfl | rfl
  ·simp
  ·simp
 ·simp only [List.mem_cons,List.not_mem_nil,or_false] at hx
  rcases hx with rfl | rfl
  ·exact val_one (by rw [propB_iff]; simp only; omega)
  ·exact val_one (by rw [propB_iff]; simp only; omega)
 ·refine .cons (fun y hy=>?_) (.cons (fun y hy=>by simp at hy) .nil)
  rw [List.mem_singleton] at hy
  subst hy
  intro u v g1 g2
  rw [inR_iff] at g1 g2
  obtain ⟨r,m1,k1⟩:=g1
  obtain ⟨q,m2,k2⟩:=g2
  rw [List.mem_singleton] at m1 m2
  subst m1 m2
  rw [has_iff] at k1 k2
  simp only at k1 k2
  omega
theorem LA_lin:linC 0 (law19_CA.length:Nat) law19_LA=0:=linC_zero.2 (two_lg (by omega) (by omega))
theorem LB_lin:linC 0 (law19_CA.length:Nat) law19_LB=0:=linC_zero.2 (two_lg (by omega) (by omega))
theorem LA_div:divC 0 law19_CA law19_LA 10 200=(false,0):=by
 unfold divC
 rw [if_pos LA_lin,if_neg (by omega),LA_fam]
 rfl
theorem LB_div:divC 0 law19_CA law19_LB 10 200=(true,0):=by
 unfold divC
 rw [if_pos LB_lin,if_neg (by omega),LB_fam]
 rfl
theorem ref19_Pairs_ok {F:Nat} (hF:BIG≤F) {P:List Arr2Int} (h:P.length≤100):ref19_Pairs F P P=some true:=by
 unfold BIG at hF
 unfold ref19_Pairs
 refine br_ff (by simp) ?_
 refine for_ok P.length (fun again i hi ha=>?_) (fun again=>?_) (by omega)
 ·unfold ref19_Pairs_b0
  simp only [Int.toNat_natCast]
  refine br_tt (decide_eq_true (by omega)) (gd_ok (by omega) (gd_ok (by omega) (br_ff (by simp) (gd_ok (i64_of (by omega) (by omega)) ha))))
 ·unfold ref19_Pairs_b0
  exact br_ff (decide_eq_false (by omega)) rfl
theorem law19_awake_ok {F:Nat} (hF:BIG≤F):law19_awake F=some true:=by
 unfold law19_awake
 refine bd_ok (rotation_Diverse_ok hF (CA_check hF) 10 200) (bd_ok (rotation_Diverse_ok hF (CA_check hF) 10 200) (bd_ok (rotation_Families_ok hF (CA_check hF)) ?_))
 rw [LA_div,LB_div,if_pos LB_lin,LB_fam]
 refine gd_ok rfl (gd_ok rfl (gd_ok rfl (bd_ok (ref19_Pairs_ok hF (by simp)) (gd_ok rfl rfl))))
end
end Go.Ab
end

section
namespace Go.Ab
set_option maxRecDepth 20000
noncomputable section
def hB (w:Int):List Rect:=[⟨0,0,w,20⟩]
end
end Go.Ab
end

section
namespace Go.Ab
set_option maxRecDepth 20000
noncomputable section
def repP (cs:List Crop) (L:List Line) (H:List Record) (year m:Int) (u v:Int):Prop:=
 ∃ x ∈ arL cs L,inR x.region_.rects_ u v=true∧m-1≤year∧∀ y,year-m+1≤y→y≤year-1→inR (yrs H y fun c=>decide ((gl cs c.toNat).family_=famX cs x)) u v=true
theorem rotation_repeated_1_ok (F:Nat) (u v:Bool):rotation_repeated_1 F u v=some (u&&v):=by cases u <;> cases v <;> rfl
theorem rotation_repeated_ok {F:Nat} (hF:BIG≤F) {cs:List Crop} {L:List Line} {H:List Record} (hg:LG (cs.length:Nat) L) (hH:HisT (cs.length:Nat) H) (hl:H.length≤8) {year m:Int} (hy:0≤year∧year≤100) (hm:2≤m∧m≤10) :
  ∃ T,rotation_repeated F L cs H year m=some T∧Box 9 T∧T.length≤900∧area T=sq (inR T)∧∀ u v,inR T u v=true↔repP cs L H year m u v:=by
 have hF' := hF
 unfold BIG at hF
 unfold rotation_repeated
 by_cases h1:year<m-1
 ·refine ⟨[],gd_ok (i64_of (by omega) (by omega)) (br_tt (decide_eq_true h1) rfl),fun r hr=>by simp at hr,by simp,(sq_none).symm,fun u v=>⟨fun h=>by simp [inR] at h,fun ⟨x,_,_,h,_⟩=>by omega⟩⟩
 have hll:=hg.len
 have hal:=arL_len cs L
 have key : ∀ (n f i:Nat) (acc:List Rect),(arL cs L).length-i=n→i≤(arL cs L).length→n<f→Box 9 acc→acc.length≤45*i→area acc=sq (inR acc) →
   (∀ u v,inR acc u v=true↔∃ x ∈ (arL cs L).take i,inR x.region_.rects_ u v=true∧∀ y,year-m+1≤y→y≤year-1→inR (yrs H y fun c=>decide ((gl cs c.toNat).family_=famX cs x)) u v=true) →
   ∃ T,loopN (fun again (z:Int×(List Rect))=>rotation_repeated_b0 F cs H year m (arL cs L) again z.1 z.2) f ((i:Int),acc)=some T∧Box 9 T∧T.length≤900∧area T=sq (inR T) ∧
    ∀ u v,inR T u v=true↔∃ x ∈ arL cs L,inR x.region_.rects_ u v=true∧∀ y,year-m+1≤y→y≤year-1→inR (yrs H y fun c=>decide ((gl cs c.toNat).family_=famX cs x)) u v=true:=by
  intro n
  induction n with
  | zero=>
   intro f i acc hn hi hf hb hlen har hin
   have hi:i=(arL cs L).length:=by omega
   subst hi
   cases f with
   | zero=>omega
   | succ f=>
    rw [List.take_length] at hin
    refine ⟨acc, ?_,hb,by omega,har,hin⟩
    show rotation_repeated_b0 F cs H year m (arL cs L) _ _ acc=_
    unfold rotation_repeated_b0
    exact br_ff (decide_eq_false (by omega)) rfl
  | succ n ih=>
   intro f i acc hn hi hf hb hlen har hin
   cases f with
   | zero=>omega
   | succ f=>
    have hi1:i<(arL cs L).length:=by omega
    have hmem:gl (arL cs L) i ∈ L:=(List.mem_filter.1 (gl_mem hi1)).1
    have hcr:=hg.crop _ hmem
    have hv:=hg.val _ hmem
    obtain ⟨T,t1,t2,t3,t4⟩:=history_Kept_ok hF' hH hl (a:=year-m+1) (b:=year-1) (by omega) (by omega) (by omega) (famX cs (gl (arL cs L) i))
    have hfin:Fin fun u v=>inR (gl (arL cs L) i).region_.rects_ u v&&inR T u v:=fin_and _ _
    have hbox:Box 9 (cn fun u v=>inR (gl (arL cs L) i).region_.rects_ u v&&inR T u v):=(Canon.cn hfin).box fun u v hh=>by
     rw [inR_cn hfin,Bool.and_eq_true] at hh
     exact box_of t2 hh.2
    have h45:=Canon.half (Canon.cn hfin) (n:=9) hbox
    have hdis : ∀ u v,inR acc u v=true→(inR (gl (arL cs L) i).region_.rects_ u v&&inR T u v)=true→False:=fun u v g1 g2=>by
     obtain ⟨x,hx,hxin,_⟩:=(hin u v).1 g1
     rw [Bool.and_eq_true] at g2
     obtain ⟨j,hj,rfl⟩:=List.getElem_of_mem hx
     rw [List.length_take] at hj
     rw [List.getElem_take] at hxin
     rw [gl_at _ _ hi1] at g2
     exact List.pairwise_iff_getElem.1 (hg.apart.filter (arbB cs)) j i (show j<(arL cs L).length by omega) hi1 (by omega) u v hxin g2.1
    have hsum:area (acc++cn fun u v=>inR (gl (arL cs L) i).region_.rects_ u v&&inR T u v)=sq (inR (acc++cn fun u v=>inR (gl (arL cs L) i).region_.rects_ u v&&inR T u v)):=by
     have hvc:=val_cn (n:=9) hfin (by omega) fun u v h=>by
      rw [Bool.and_eq_true] at h
      exact box_of t2 h.2
     have e1:inR (acc++cn fun u v=>inR (gl (arL cs L) i).region_.rects_ u v&&inR T u v)=fun u v=>inR acc u v||(inR (gl (arL cs L) i).region_.rects_ u v&&inR T u v):=by
      funext u v
      rw [inR_append,inR_cn hfin]
     have e2:inR (cn fun u v=>inR (gl (arL cs L) i).region_.rects_ u v&&inR T u v)=fun u v=>inR (gl (arL cs L) i).region_.rects_ u v&&inR T u v:=by
      funext u v
      rw [inR_cn hfin]
     have e3:area (acc++cn fun u v=>inR (gl (arL cs L) i).region_.rects_ u v&&inR T u v)=area acc+area (cn fun u v=>inR (gl (arL cs L) i).region_.rects_ u v&&inR T u v):=by
      unfold area
      rw [List.map_append,List.sum_append]
     rw [e3,har,hvc.1.area,e1,e2,sq_def,sq_def,sq_def]
     exact (cnt_or hdis).symm
    obtain ⟨R,r1,r2⟩:=ih f (i+1) (acc++cn fun u v=>inR (gl (arL cs L) i).region_.rects_ u v&&inR T u v) (by omega) (by omega) (by omega)
     (fun r hr=>by rcases List.mem_append.1 hr with h | h; exact hb r h; exact hbox r h) (by rw [List.length_append]; omega) hsum (fun u v=>by
      rw [inR_append,Bool.or_eq_true,hin,inR_cn hfin,Bool.and_eq_true,t4,take_gl hi1]
      constructor
      ·rintro (⟨x,hx,h⟩ | h)
       ·exact ⟨x,List.mem_append.2 (.inl hx),h⟩
       ·exact ⟨_,List.mem_append.2 (.inr (List.mem_singleton.2 rfl)),h⟩
      ·rintro ⟨x,hx,h⟩
       rcases List.mem_append.1 hx with hx | hx
       ·exact .inl ⟨x,hx,h⟩
       ·rw [List.mem_singleton] at hx
        subst hx
        exact .inr h)
    refine ⟨R, ?_,r2⟩
    show rotation_repeated_b0 F cs H year m (arL cs L) _ (i:Int) acc=_
    unfold rotation_repeated_b0
    simp only [Int.toNat_natCast]
    refine br_tt (decide_eq_true (by omega)) (gd_ok (by omega) (gd_ok (i64_of (by omega) (by omega)) (gd_ok (i64_of (by omega) (by omega)) (gd_ok (i64_of (by omega) (by omega)) (gd_ok hcr (bd_ok t1 ?_))))))
    refine bd_ok (region_Choose_ok hF' (k:=fun u v=>u&&v) (by have:=hv.1; omega) (lt_prop hv.2.1) (lt_prop (box_prop t2)) rfl (rotation_repeated_1_ok F)) ?_
    exact gd_ok (by unfold LIM; omega) (gd_ok (i64_of (by omega) (by omega)) r1)
 obtain ⟨T,t1,t2,t3,t5,t4⟩:=key (arL cs L).length F 0 [] (by omega) (by omega) (by omega) (fun r hr=>by simp at hr) (by simp) sq_none.symm (fun u v=>by simp [inR])
 refine ⟨T,gd_ok (i64_of (by omega) (by omega)) (br_ff (decide_eq_false h1) (bd_ok (rotation_arable_ok hF' hg) t1)),t2,t3,t5,fun u v=>?_⟩
 rw [t4]
 unfold repP
 constructor
 ·rintro ⟨x,hx,h2,h3⟩; exact ⟨x,hx,h2,by omega,h3⟩
 ·rintro ⟨x,hx,h2,_,h3⟩; exact ⟨x,hx,h2,h3⟩
theorem rotation_start_t {F:Nat} (hF:BIG≤F) {cs:List Crop} {L:List Line} {H:List Record} (hck:crop_Check F cs=some 0) (hls:history_Listed F H cs=some 0) (hg:LG (cs.length:Nat) L) {year m s:Int} (hy:0≤year∧year≤100) (hm:2≤m∧m≤10) (hs:0≤s∧s≤1000000) :
  rotation_start F L cs H year m s=some 0:=by
 unfold rotation_start
 refine bd_ok (rotation_check_ok hF L hck) ?_
 rw [linC_zero.2 hg]
 refine br_ff rfl (bd_ok hls (br_ff rfl (br_ff (decide_eq_false (by omega)) ?_)))
 rw [decide_eq_false (by omega : ¬ 100<year)]
 unfold rotation_start_k0
 refine br_ff rfl (br_ff (decide_eq_false (by omega)) (br_ff (decide_eq_false (by omega)) (br_ff (decide_eq_false (by omega)) ?_)))
 rw [decide_eq_false (by omega : ¬ 1000000<s)]
 rfl
theorem rotation_Repeats_t {F:Nat} (hF:BIG≤F) {cs:List Crop} {L:List Line} {H:List Record} (hck:crop_Check F cs=some 0) (hls:history_Listed F H cs=some 0) (hg:LG (cs.length:Nat) L) (hH:HisT (cs.length:Nat) H) (hl:H.length≤8) {year m:Int} (hy:0≤year∧year≤100) (hm:2≤m∧m≤10) :
  ∃ T,rotation_Repeats F L cs H year m=some (⟨T⟩,0)∧Val T∧(∀ u v,inR T u v=true↔repP cs L H year m u v)∧∃ U,rotation_repeated F L cs H year m=some U∧Box 9 U∧U.length≤900∧area U=area T:=by
 obtain ⟨T,t1,t2,t3,t5,t4⟩:=rotation_repeated_ok hF hg hH hl hy hm
 have hv:=val_cn (n:=9) (fin_inR T) (by omega) fun u v h=>box_of t2 h
 have h120:=hv.1.1
 refine ⟨cn (inR T), ?_,hv.1,fun u v=>?_,T,t1,t2,t3, ?_⟩
 ·unfold rotation_Repeats
  refine bd_ok (rotation_start_t hF hck hls hg hy hm (by omega)) (br_ff rfl (bd_ok t1 (bd_ok (region_Joined_ok hF (by omega) (lt_prop (box_prop t2))) ?_)))
  rw [if_neg (by omega)]
 ·rw [inR_cn (fin_inR T),t4]
 ·rw [t5,hv.1.area]
  congr 1
  funext u v
  rw [inR_cn (fin_inR T)]
end
end Go.Ab
end

section
namespace Go.Ab
set_option maxRecDepth 20000
noncomputable section
theorem yrs_crop {K:Int} {H:List Record} (h:HisT K H) (cs:List Crop) (k y u v:Int) :
  inR (yrs H y fun c=>decide ((gl cs c.toNat).family_=k)) u v=true↔0≤cropAt H y u v∧(gl cs (cropAt H y u v).toNat).family_=k:=by
 rw [yrs_in]
 constructor
 ·rintro ⟨f,hf,hy,hp,hin⟩
  rw [cropAt_at h.hl hf hy hin]
  exact ⟨h.crop0 hf,of_decide_eq_true hp⟩
 ·rintro ⟨h0,hk⟩
  rcases cropAt_spec h y u v with ⟨h1,_⟩|⟨_,_,f,hf,hy,hin,hc⟩
  ·omega
  ·exact ⟨f,hf,hy,by rw [hc]; exact decide_eq_true hk,hin⟩
theorem cropAt_neg {K:Int} {H:List Record} (h:HisT K H) {y u v:Int} (hy:y<0):cropAt H y u v = -1:=by
 rcases cropAt_spec h y u v with ⟨h1,_⟩|⟨_,_,f,hf,hfy,_⟩
 ·exact h1
 ·have:=(recC_zero f).1 (h.hl.one f hf)
  omega
theorem lg_one {K:Int} {L:List Line} (h:LG K L) {x z:Line} (hx:x ∈ L) (hz:z ∈ L) {u v:Int} (h1:inR x.region_.rects_ u v=true) (h2:inR z.region_.rects_ u v=true):x=z:=by
 obtain ⟨i,hi,rfl⟩:=List.getElem_of_mem hx
 obtain ⟨j,hj,rfl⟩:=List.getElem_of_mem hz
 rcases Nat.lt_trichotomy i j with hij | hij | hij
 ·exact (List.pairwise_iff_getElem.1 h.apart i j hi hj hij u v h1 h2).elim
 ·subst hij; rfl
 ·exact (List.pairwise_iff_getElem.1 h.apart j i hj hi hij u v h2 h1).elim
def stP (cs:List Crop) (H:List Record) (x:Line) (year m u v:Int):Prop:=
 arbB cs x=true∧∀ y,year-m<y→y≤year-1→0≤cropAt H y u v∧(gl cs (cropAt H y u v).toNat).family_=famX cs x
theorem rep_st {K:Int} {cs:List Crop} {L:List Line} {H:List Record} (hg:LG K L) (hH:HisT K H) {x:Line} (hx:x ∈ L) {year m u v:Int} (hm:2≤m) (hin:inR x.region_.rects_ u v=true) :
  repP cs L H year m u v↔stP cs H x year m u v:=by
 unfold repP stP
 constructor
 ·rintro ⟨z,hz,hzin,hmy,h⟩
  obtain rfl:=lg_one hg hx (List.mem_filter.1 hz).1 hin hzin
  exact ⟨(List.mem_filter.1 hz).2,fun y h1 h2=>(yrs_crop hH cs _ y u v).1 (h y (by omega) h2)⟩
 ·rintro ⟨ha,h⟩
  refine ⟨x,List.mem_filter.2 ⟨hx,ha⟩,hin, ?_,fun y h1 h2=>(yrs_crop hH cs _ y u v).2 (h y (by omega) h2)⟩
  rcases Int.lt_or_le year (m-1) with h1 | h1
  ·have h2:=(h (year-m+1) (by omega) (by omega)).1
   rw [cropAt_neg hH (by omega)] at h2
   omega
  ·exact h1
open Classical in
theorem law19_RotationRepeats_ok {F:Nat} (hF:BIG≤F) (l:List Int) {a b:Int} (ha:0≤a∧a≤255) (hb:0≤b∧b≤255):law19_RotationRepeats F l a b=some true:=by
 have hF' := hF
 unfold BIG at hF
 unfold law19_RotationRepeats
 obtain ⟨t,e1,o1⟩:=keep_New_ok F l
 rw [e1]
 obtain ⟨t2,cs,e2,o2,hcs⟩:=keep_Tape_Crops_ok hF' o1
 refine bd_ok rfl (bd_ok e2 ?_)
 have hcl:=hcs.len
 obtain ⟨t3,L,ns,rs,e3,o3,hp,hL,hLl⟩:=keep_Tape_Lines_ok hF' o2 (cs:=cs) ⟨by omega,by omega⟩ (most:=4) (by omega) (by omega)
 have hck:=crop_Check_ok (F:=F) hF' hcs
 obtain ⟨t4,H,e4,o4,hH,hHl⟩:=keep_Tape_History_few hF' o3 hcs (most:=6) (by omega) (by omega)
 refine bd_ok e3 (bd_ok e4 ?_)
 have hls:=history_Listed_ok (F:=F) hF' hcs hH
 have hlg:LG (cs.length:Nat) L:=hL.lg (by omega)
 have hyr:0≤a.tmod 6∧a.tmod 6≤5:=by have:=Int.tmod_nonneg 6 ha.1; have:=Int.tmod_lt_of_pos a (b:=6) (by omega); omega
 have hmr:0≤b.tmod 3∧b.tmod 3≤2:=by have:=Int.tmod_nonneg 3 hb.1; have:=Int.tmod_lt_of_pos b (b:=3) (by omega); omega
 generalize hyear:a.tmod 6=year at hyr ⊢
 generalize hmm:2+b.tmod 3=m at ⊢
 have hm:2≤m∧m≤4:=by omega
 obtain ⟨T,r1,r2,r3,_⟩:=rotation_Repeats_t hF' hck hls hlg hH (by omega) (year:=year) (m:=m) (by omega) (by omega)
 obtain ⟨S,s1,s2,s3,_⟩:=rotation_Repeats_t hF' hck hls hlg hH (by omega) (year:=year) (m:=m+1) (by omega) (by omega)
 simp only
 refine gd_ok (i64_of (by omega) (by omega)) (gd_ok (by decide) (gd_ok (i64_of (by omega) (by omega)) (gd_ok (by decide) (gd_ok (i64_of (by omega) (by omega)) (bd_ok r1 (gd_ok (i64_of (by omega) (by omega)) (bd_ok s1 ?_)))))))
 refine br_ff rfl (br_ff rfl (bd_ok (ref04_Within_ok hF' _ _) ?_))
 have hw:withB ⟨S⟩ ⟨T⟩=true:=(withB_iff s2 r2).2 fun u v h=>by
  obtain ⟨x,hx,h1,h2,h3⟩:=(s3 u v).1 h
  exact (r3 u v).2 ⟨x,hx,h1,by omega,fun y h4 h5=>h3 y (by omega) h5⟩
 rw [hw]
 unfold law19_RotationRepeats_k0
 refine br_ff rfl ?_
 have inner : ∀ (again:Int→Option Bool) (i:Nat),i<L.length→∀ u v:Int,inR (gl L i).region_.rects_ u v=true →
   loopN (fun again4 (z:Bool×Int)=>law19_RotationRepeats_b4 F a b (t2,cs) (t3,L,ns,rs) (t4,H) (⟨T⟩,0) (i:Int) u v again again4 z.1 z.2) F (arbB cs (gl L i),year-1)=law19_RotationRepeats_k8 F v again:=by
  intro again i hi u v hin
  have hmem:=gl_mem hi
  have hcr:=(hL.one _ hmem).crop
  have last : ∀ f:Bool,(f=true↔stP cs H (gl L i) year m u v)→law19_RotationRepeats_k7 F (⟨T⟩,0) u v again f=law19_RotationRepeats_k8 F v again:=fun f hf=>by
   unfold law19_RotationRepeats_k7
   refine bd_ok (ref04_Has_ok hF' _ _ _) (br_ff ?_ rfl)
   have h1:(valB T&&inR T u v)=f:=by
    rw [Bool.eq_iff_iff,hf,Bool.and_eq_true,r3,rep_st hlg hH hmem (by omega) hin]
    exact ⟨fun h=>h.2,fun h=>⟨valB_true r2,h⟩⟩
   simp only [h1]
   simp
  refine loopN_ok (fun z:Bool×Int=>year-m≤z.2∧z.2≤year-1∧(z.1=true→arbB cs (gl L i)=true∧∀ y,z.2<y→y≤year-1→0≤cropAt H y u v∧(gl cs (cropAt H y u v).toNat).family_=famX cs (gl L i))∧(z.1=false→¬ stP cs H (gl L i) year m u v)) (fun z=>(z.2-(year-m)).toNat) (fun again4 z hz ih=>?_) ⟨by simp only; omega,by simp,fun h=>⟨h,fun y h1 h2=>by simp only at h1; omega⟩,fun h hs=>by rw [hs.1] at h; cases h⟩ (by simp only; omega)
  obtain ⟨f,y⟩:=z
  obtain ⟨z1,z2,z3,z4⟩:=hz
  simp only at z1 z2 z3 z4 ih ⊢
  unfold law19_RotationRepeats_b4
  rw [hyear,hmm]
  refine gd_ok (i64_of (by omega) (by omega)) ?_
  refine br_ok (fun h1=>?_) (fun h1=>?_)
  ·have h1:=of_decide_eq_true h1
   unfold law19_RotationRepeats_k5
   refine br_ok (fun h2=>?_) (fun h2=>?_)
   ·obtain ⟨g1,g2⟩:=z3 h2
    have k6 : ∀ f' : Bool,(f' = true↔0≤cropAt H y u v∧(gl cs (cropAt H y u v).toNat).family_=famX cs (gl L i))→law19_RotationRepeats_k6 F y again4 f' = law19_RotationRepeats_k8 F v again:=fun f' hf' => by
     unfold law19_RotationRepeats_k6
     refine gd_ok (i64_of (by omega) (by omega)) (ih _ ⟨by simp only; omega,by simp only; omega,fun h3=>⟨g1,fun y' h4 h5=>?_⟩,fun h3 hs=>?_⟩ (by simp only; omega))
     ·simp only at h3 h4
      by_cases h6:y' = y
      ·subst h6; exact hf'.1 h3
      ·exact g2 y' (by omega) h5
     ·simp only at h3
      have:=hf'.2 (hs.2 y (by omega) (by omega))
      rw [h3] at this; cases this
    refine bd_ok (ref15_At_ok hF' hH.hl _ _ _) ?_
    refine br_ok (fun h3=>?_) (fun h3=>?_)
    ·have h3:=of_decide_eq_true h3
     have hK:cropAt H y u v<((cs.length:Nat):Int):=by
      rcases cropAt_spec hH y u v with ⟨h4,_⟩|⟨_,h4,_⟩
      ·omega
      ·exact h4
     refine gd_ok ⟨h3,hK⟩ (gd_ok hcr (k6 _ ?_))
     simp only [Int.toNat_natCast,beq_iff_eq]
     exact ⟨fun h=>⟨h3,h⟩,fun h=>h.2⟩
    ·have h3:=of_decide_eq_false h3
     exact k6 _ ⟨fun h=>(by cases h),fun h=>absurd h.1 h3⟩
   ·exact last f ⟨fun h=>(by rw [h2] at h; cases h),fun hs=>absurd hs (z4 h2)⟩
  ·have h1:=of_decide_eq_false h1
   unfold law19_RotationRepeats_k5
   refine br_ff rfl (last f ⟨fun h=>?_,fun hs=>?_⟩)
   ·obtain ⟨g1,g2⟩:=z3 h
    exact ⟨g1,fun y' h4 h5=>g2 y' (by omega) h5⟩
   ·cases f with
    | true=>rfl
    | false=>exact absurd hs (z4 rfl)
 refine for_ok L.length (fun again i hi hag=>?_) (fun again=>?_) (by omega)
 ·unfold law19_RotationRepeats_b1
  dsimp only
  refine br_tt (decide_eq_true (by omega)) (gd_ok (by omega) ?_)
  refine loopN_ok (fun z:Int=>0≤z∧z≤10) (fun z=>(10-z).toNat) (fun again2 u hu ih2=>?_) ⟨by omega,by omega⟩ (by omega)
  unfold law19_RotationRepeats_b2
  refine br_ok (fun h1=>?_) (fun h1=>?_)
  ·have h1:=of_decide_eq_true h1
   refine loopN_ok (fun z:Int=>0≤z∧z≤11) (fun z=>(11-z).toNat) (fun again3 v hv ih3=>?_) ⟨by omega,by omega⟩ (by omega)
   unfold law19_RotationRepeats_b3
   simp only [Int.toNat_natCast]
   have k8:v<9→law19_RotationRepeats_k8 F v again3=some true:=fun h2=>by
    unfold law19_RotationRepeats_k8
    exact gd_ok (i64_of (by omega) (by omega)) (ih3 _ ⟨by omega,by omega⟩ (by omega))
   refine br_ok (fun h2=>?_) (fun h2=>?_)
   ·have h2:=of_decide_eq_true h2
    have ho:=hL.one _ (gl_mem hi)
    refine bd_ok (ref04_Has_ok hF' _ _ _) ?_
    rw [valB_true ho.val,Bool.true_and]
    refine br_ok (fun h3=>k8 h2) (fun h3=>?_)
    have h3:inR (gl L i).region_.rects_ u v=true:=by simpa using h3
    refine gd_ok ho.crop ?_
    rw [hyear]
    exact gd_ok (i64_of (by omega) (by omega)) ((inner again3 i hi u v h3).trans (k8 h2))
   ·have h2:=of_decide_eq_false h2
    unfold law19_RotationRepeats_k9
    exact gd_ok (i64_of (by omega) (by omega)) (ih2 _ ⟨by omega,by omega⟩ (by omega))
  ·unfold law19_RotationRepeats_k10
   exact gd_ok (i64_of (by omega) (by omega)) hag
 ·unfold law19_RotationRepeats_b1
  dsimp only
  refine br_ff (decide_eq_false (by omega)) ?_
  unfold law19_RotationRepeats_k11
  exact bd_ok (law19_awake_ok hF') rfl
end
end Go.Ab
end
