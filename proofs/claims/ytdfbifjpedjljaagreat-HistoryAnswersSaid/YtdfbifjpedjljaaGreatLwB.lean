/- What the plain programs compute, up to the law itself: each lemma states its own bounds. -/
import Derived.Test.YtdfbifjpedjljaaGreatLwA
import Derived.Test.YtdfbifjpedjljaaGreatPuB
set_option linter.unusedVariables false
set_option linter.unusedSimpArgs false
section
namespace Go.Ab
set_option maxRecDepth 20000
noncomputable section
def allR (l:List Record):List Rect:=l.flatMap fun f=>f.region_.rects_
def CutS (l:List Record) (S:Int→Int→Bool):Prop:=Grid (cutX (allR l) []) (cuts [allR l]) S
theorem CutS.of_sub {l:List Record} {a:List Rect} (h : ∀ r ∈ a,r ∈ allR l):CutS l (inR a):=by
 have:=Grid.of (xs:=cutX (allR l) []) (ys:=cuts [allR l]) (a:=a) (b:=[]) (cut_asc (allR l) .nil) (cuts_asc [allR l])
  (fun r hr=>⟨(cut_mem (allR l) _ _).2 (.inr ⟨r,h r hr,.inl rfl⟩),(cut_mem (allR l) _ _).2 (.inr ⟨r,h r hr,.inr rfl⟩)⟩) (fun r hr=>by cases hr)
  (fun r hr=>covY_cuts [allR l] (l:=allR l) (by simp) r (h r hr)) (fun r hr=>by cases hr) (k:=fun p q=>p||q) rfl
 have e:(fun x y=>inR a x y||inR [] x y)=inR a:=by funext x y; simp [inR]
 rwa [e] at this
theorem CutS.op {l:List Record} {S T:Int→Int→Bool} (hS:CutS l S) (hT:CutS l T) {k:Bool→Bool→Bool} (hk:k false false=false):CutS l fun u v=>k (S u v) (T u v):=by
 refine ⟨fun y=>⟨(hS.x y).asc,fun i hi t h1 h2=>?_,fun t ht=>?_,fun t ht=>?_⟩,fun x=>⟨(hS.y x).asc,fun i hi t h1 h2=>?_,fun t ht=>?_,fun t ht=>?_⟩⟩
 ·simp only [(hS.x y).gap i hi t h1 h2,(hT.x y).gap i hi t h1 h2]
 ·simp only [(hS.x y).before t ht,(hT.x y).before t ht,hk]
 ·simp only [(hS.x y).after t ht,(hT.x y).after t ht,hk]
 ·simp only [(hS.y x).gap i hi t h1 h2,(hT.y x).gap i hi t h1 h2]
 ·simp only [(hS.y x).before t ht,(hT.y x).before t ht,hk]
 ·simp only [(hS.y x).after t ht,(hT.y x).after t ht,hk]
theorem yrs_all {l:List Record} {y:Int} {p:Int→Bool} : ∀ r ∈ yrs l y p,r ∈ allR l:=by
 intro r hr
 unfold yrs at hr
 obtain ⟨f,hf,hr⟩:=List.mem_flatMap.1 hr
 exact List.mem_flatMap.2 ⟨f,(List.mem_filter.1 hf).1,hr⟩
theorem CutS.yrs {l:List Record} (y:Int) (p:Int→Bool):CutS l (inR (yrs l y p)):=CutS.of_sub yrs_all
structure SmallR (l:List Record):Prop where
 few:FewR l
 tot : ∀ y p,(yrs l y p).length≤420
 cut : ∀ S,CutS l S→(cn S).length≤3200
theorem yrs_sub_len (l:List Record) (y:Int) (p:Int→Bool):(yrs l y p).length≤(allR l).length:=by
 unfold yrs allR
 induction l with
 | nil=>simp
 | cons f l ih=>
  rw [List.filter_cons,List.flatMap_cons,List.length_append]
  split
  ·rw [List.flatMap_cons,List.length_append]; omega
  ·omega
theorem allR_take (l:List Record) (i:Nat):(allR (l.take i)).length≤(allR l).length:=by
 unfold allR
 conv=>rhs; rw [← List.take_append_drop i l]
 rw [List.flatMap_append,List.length_append]
 omega
theorem SmallR.of_few {l:List Record} (h:HL l) (ha:(allR l).length≤40):SmallR l:=by
 refine ⟨⟨h,fun y p i hi=>?_⟩,fun y p=>?_,fun S hS=>?_⟩
 ·have h1:=yrs_sub_len (l.take i) y p
  have h2:=allR_take l i
  omega
 ·have:=yrs_sub_len l y p; omega
 ·have h1:=cutX_small (l:=allR l)
  have h2:=cuts_len [allR l]
  have ht:Go.Ab.tot [allR l]=(allR l).length:=by simp [Go.Ab.tot]
  have h3:=hS.len (N:=40) (by omega)
  have h4:(cuts [allR l]).length*40≤80*40:=Nat.mul_le_mul_right _ (by omega)
  omega
theorem CutS.box {l:List Record} {n:Int} (hb : ∀ r ∈ allR l,0≤r.left_∧r.left_<r.right_∧r.right_≤n∧0≤r.low_∧r.low_<r.high_∧r.high_≤n) {S:Int→Int→Bool} (hS:CutS l S) {u v:Int} (h:S u v=true):0≤u∧u<n∧0≤v∧v<n:=by
 have hx : ∀ c ∈ cutX (allR l) [],0≤c∧c≤n:=fun c hc=>by
  rcases (cut_mem (allR l) _ _).1 hc with h1 | ⟨r,hr,h1⟩
  ·cases h1
  ·have:=hb r hr
   rcases h1 with rfl | rfl <;> omega
 have hy : ∀ c ∈ cuts [allR l],0≤c∧c≤n:=fun c hc=>by
  obtain ⟨a,ha,r,hr,h1⟩:=(mem_cuts _ _).1 hc
  rw [List.mem_singleton] at ha
  subst ha
  have:=hb r hr
  rcases h1 with rfl | rfl <;> omega
 refine ⟨?_, ?_, ?_, ?_⟩
 ·rcases Int.lt_or_le u 0 with h1 | h1
  ·have:=(hS.x v).before u fun c hc=>by have:=hx c hc; omega
   rw [this] at h; cases h
  ·exact h1
 ·rcases Int.lt_or_le u n with h1 | h1
  ·exact h1
  ·have:=(hS.x v).after u fun c hc=>by have:=hx c hc; omega
   rw [this] at h; cases h
 ·rcases Int.lt_or_le v 0 with h1 | h1
  ·have:=(hS.y u).before v fun c hc=>by have:=hy c hc; omega
   rw [this] at h; cases h
  ·exact h1
 ·rcases Int.lt_or_le v n with h1 | h1
  ·exact h1
  ·have:=(hS.y u).after v fun c hc=>by have:=hy c hc; omega
   rw [this] at h; cases h
theorem SmallR.of_box {l:List Record} (h:HL l) (hl:l.length≤8) (hb : ∀ f ∈ l,Box 10 f.region_.rects_) (h46 : ∀ f ∈ l,f.region_.rects_.length≤50) (h7:l.length≤7):SmallR l:=by
 have hlen : ∀ (i:Nat) y p,i≤l.length→(yrs (l.take i) y p).length≤50*i:=by
  intro i y p
  induction i with
  | zero=>intro _; rw [List.take_zero]; exact Nat.le_refl _
  | succ i ih=>
   intro hi
   rw [take_gl (show i<l.length by omega),yrs_snoc,List.length_append]
   have:=ih (by omega)
   have h2:=h46 _ (gl_mem (show i<l.length by omega))
   split
   ·omega
   ·simp only [List.length_nil]; omega
 refine ⟨⟨h,fun y p i hi=>?_⟩,fun y p=>?_,fun S hS=>?_⟩
 ·have:=hlen i y p (by omega); omega
 ·have:=hlen l.length y p (Nat.le_refl _)
  rw [List.take_length] at this
  omega
 ·have hS2:=hS
  have hfin:=grid_fin hS2
  have hbx:Box 10 (cn S):=(Canon.cn hfin).box fun u v hh=>by
   rw [inR_cn hfin] at hh
   refine hS.box (fun r hr=>?_) hh
   obtain ⟨f,hf,hr⟩:=List.mem_flatMap.1 hr
   exact hb f hf r hr
  have:=Canon.half (Canon.cn hfin) (n:=10) hbx
  omega
end
end Go.Ab
end

section
namespace Go.Ab
set_option maxRecDepth 20000
noncomputable section
variable {F:Nat} {l:List Record} {cs:List Crop}
def famB (cs:List Crop) (k c:Int):Bool:=decide ((gl cs c.toNat).family_=k)
theorem yrs_propS (h:SmallR l) {y:Int} {p:Int→Bool} : ∀ r ∈ yrs l y p,propB r=true:=yrs_prop h.few.hl
theorem history_Kept_s (hF:BIG≤F) (h:SmallR l) (hcr : ∀ f ∈ l,f.crop_<((cs.length:Nat):Int)) {a b:Int} (ha:0≤a) (hab:a≤b) (hb:b≤100) (k:Int) :
  ∃ T,history_Kept F l cs a b k=some T∧(∀ r ∈ T,propB r=true)∧T.length≤3200∧∀ u v,inR T u v=true↔∀ y,a≤y→y≤b→inR (yrs l y (famB cs k)) u v=true:=by
 have hF' := hF
 unfold BIG at hF
 have hR : ∀ y,history_Rects F l y (fun y0=>history_Kept_1 F y0 cs k)=some (yrs l y (famB cs k)):=fun y=>history_Rects_ok hF' h.few.hl y _ fun f hf=>by
  unfold history_Kept_1
  exact gd_ok ⟨((recC_zero f).1 (h.few.hl.one f hf)).2.2.1,hcr f hf⟩ (congrArg some (by unfold famB; rw [Bool.eq_iff_iff]; simp))
 have key : ∀ (n f:Nat) (acc:List Rect) (j:Int),b+1-j=n→n<f→a<j→(∀ r ∈ acc,propB r=true)→acc.length≤3200→CutS l (inR acc)→(∀ u v,inR acc u v=true↔∀ y,a≤y→y<j→inR (yrs l y (famB cs k)) u v=true) →
   ∃ T,loopN (fun again (z:(List Rect)×Int)=>history_Kept_b0 F l cs b k again z.1 z.2) f (acc,j)=some T∧(∀ r ∈ T,propB r=true)∧T.length≤3200∧∀ u v,inR T u v=true↔∀ y,a≤y→y≤b→inR (yrs l y (famB cs k)) u v=true:=by
  intro n
  induction n with
  | zero=>
   intro f acc j hj hf haj hp hln hcut hin
   cases f with
   | zero=>omega
   | succ f=>
    refine ⟨acc, ?_,hp,hln,fun u v=>?_⟩
    ·show history_Kept_b0 F l cs b k _ acc j=_
     unfold history_Kept_b0
     exact br_ff (decide_eq_false (by omega)) rfl
    ·rw [hin]
     exact ⟨fun hh y h1 h2=>hh y h1 (by omega),fun hh y h1 h2=>hh y h1 (by omega)⟩
  | succ n ih=>
   intro f acc j hj hf haj hp hln hcut hin
   cases f with
   | zero=>omega
   | succ f=>
    have hyl:=h.tot j (famB cs k)
    have hfin:=fin_and acc (yrs l j (famB cs k))
    have hc2:CutS l fun u v=>inR acc u v&&inR (yrs l j (famB cs k)) u v:=hcut.op (CutS.yrs j (famB cs k)) (k:=fun p q=>p&&q) rfl
    have e:inR (cn fun u v=>inR acc u v&&inR (yrs l j (famB cs k)) u v)=fun u v=>inR acc u v&&inR (yrs l j (famB cs k)) u v:=by
     funext u v; exact inR_cn hfin u v
    obtain ⟨T,t1,t2⟩:=ih f (cn fun u v=>inR acc u v&&inR (yrs l j (famB cs k)) u v) (j+1) (by omega) (by omega) (by omega) (grid_prop (Canon.cn hfin) hp fun u v hh=>by
     rw [e,Bool.and_eq_true] at hh; exact hh.1) (h.cut _ hc2) (by rw [e]; exact hc2) (fun u v=>by
     rw [e,Bool.and_eq_true,hin]
     constructor
     ·rintro ⟨h1,h2⟩ y h3 h4
      rcases Int.lt_or_le y j with h5 | h5
      ·exact h1 y h3 h5
      ·have:y=j:=by omega
       subst this; exact h2
     ·intro hh
      exact ⟨fun y h1 h2=>hh y h1 (by omega),hh j (by omega) (by omega)⟩)
    refine ⟨T, ?_,t2⟩
    show history_Kept_b0 F l cs b k _ acc j=_
    unfold history_Kept_b0
    refine br_tt (decide_eq_true (by omega)) (bd_ok (hR j) ?_)
    refine bd_ok (region_Choose_ok hF' (k:=fun u v=>u&&v) (by omega) (lt_prop hp) (lt_prop (yrs_propS h)) rfl (history_Kept_2_ok F)) ?_
    exact gd_ok (i64_of (by omega) (by omega)) t1
 obtain ⟨T,t1,t2⟩:=key (b-a).toNat F (yrs l a (famB cs k)) (a+1) (by omega) (by omega) (by omega) (yrs_propS h) (by have:=h.tot a (famB cs k); omega) (CutS.yrs a _) (fun u v=>⟨fun hh y h1 h2=>by
  have:y=a:=by omega
  subst this; exact hh,fun hh=>hh a (by omega) (by omega)⟩)
 refine ⟨T, ?_,t2⟩
 unfold history_Kept
 exact bd_ok (hR a) (gd_ok (i64_of (by omega) (by omega)) t1)
def cntF (cs:List Crop) (j:Int):Nat:=cs.countP fun c=>decide (0≤c.family_)&&decide (c.family_<j)
theorem cntF_le (cs:List Crop) (j:Int):cntF cs j≤cs.length:=List.countP_le_length
theorem cntF_mono (cs:List Crop) (j:Int):cntF cs j≤cntF cs (j+1):=List.countP_mono_left fun c _ h=>by
 rw [Bool.and_eq_true,decide_eq_true_eq,decide_eq_true_eq] at h ⊢; omega
theorem cntF_step {cs:List Crop} {j:Int} (h0:0≤j) (h : ∃ c ∈ cs,c.family_=j):cntF cs j+1≤cntF cs (j+1):=by
 obtain ⟨c,hc,hj⟩:=h
 unfold cntF
 induction cs with
 | nil=>cases hc
 | cons d cs ih=>
  rw [List.countP_cons,List.countP_cons]
  rcases List.mem_cons.1 hc with rfl | hc
  ·have h1:(decide (0≤c.family_)&&decide (c.family_<j))=false:=by rw [hj]; simp
   have h2:(decide (0≤c.family_)&&decide (c.family_<j+1))=true:=by rw [hj]; simp; omega
   rw [h1,h2]
   have:=cntF_mono cs j
   unfold cntF at this
   simp; omega
  ·have:=ih hc
   have h3:(if (decide (0≤d.family_)&&decide (d.family_<j))=true then 1 else 0)≤(if (decide (0≤d.family_)&&decide (d.family_<j+1))=true then (1:Nat) else 0):=by
    split
    ·rename_i h4
     rw [if_pos]
     ·exact Nat.le_refl _
     ·rw [Bool.and_eq_true,decide_eq_true_eq,decide_eq_true_eq] at h4 ⊢; omega
    ·exact Nat.zero_le _
   omega
theorem fam_of {y k:Int} (h0:HL l) (hcr : ∀ f ∈ l,f.crop_<((cs.length:Nat):Int)) {u v:Int} (h:inR (yrs l y (famB cs k)) u v=true) : ∃ c ∈ cs,c.family_=k:=by
 obtain ⟨f,hf,_,hp,_⟩:=yrs_in.1 h
 have h1:=((recC_zero f).1 (h0.one f hf)).2.2.1
 have h2:=hcr f hf
 have h3:f.crop_.toNat<cs.length:=by omega
 exact ⟨gl cs f.crop_.toNat,gl_mem h3,of_decide_eq_true hp⟩
theorem history_Same_s (hF:BIG≤F) (h:SmallR l) (hcr : ∀ f ∈ l,f.crop_<((cs.length:Nat):Int)) (hcs:cs.length≤8) {a b:Int} (ha:0≤a) (hab:a≤b) (hb:b≤100) :
  ∃ T,history_Same_k0 F l cs a b false=some (lim (cn (inR T)))∧∀ u v,inR T u v=true↔∃ k,0≤k∧k<41∧∀ y,a≤y→y≤b→inR (yrs l y (famB cs k)) u v=true:=by
 have hF' := hF
 unfold BIG at hF
 have key : ∀ (n f:Nat) (j:Int) (acc:List Rect),41-j=n→n<f→0≤j→(∀ r ∈ acc,propB r=true)→acc.length≤3200*cntF cs j→(∀ u v,inR acc u v=true↔∃ k,0≤k∧k<j∧∀ y,a≤y→y≤b→inR (yrs l y (famB cs k)) u v=true) →
   ∃ T,loopN (fun again (z:Int×(List Rect))=>history_Same_b1 F l cs a b again z.1 z.2) f (j,acc)=some (lim (cn (inR T)))∧∀ u v,inR T u v=true↔∃ k,0≤k∧k<41∧∀ y,a≤y→y≤b→inR (yrs l y (famB cs k)) u v=true:=by
  intro n
  induction n with
  | zero=>
   intro f j acc hj hf h0 hp hln hin
   have hj:j=41:=by omega
   subst hj
   cases f with
   | zero=>omega
   | succ f=>
    refine ⟨acc, ?_,hin⟩
    show history_Same_b1 F l cs a b _ 41 acc=_
    unfold history_Same_b1
    refine br_ff rfl ?_
    unfold history_Same_k2
    have hc8:=cntF_le cs 41
    have hl2:3200*cntF cs 41≤3200*8:=Nat.mul_le_mul_left _ (by omega)
    refine bd_ok (region_Joined_ok hF' (by omega) (lt_prop hp)) ?_
    unfold lim; rfl
  | succ n ih=>
   intro f j acc hj hf h0 hp hln hin
   cases f with
   | zero=>omega
   | succ f=>
    obtain ⟨R,r1,r2,r3,r4⟩:=history_Kept_s hF' h hcr ha hab hb j
    have hlen2:(acc++R).length≤3200*cntF cs (j+1):=by
     rw [List.length_append]
     by_cases hR0:R.length=0
     ·have:=cntF_mono cs j
      have h5:3200*cntF cs j≤3200*cntF cs (j+1):=Nat.mul_le_mul_left _ this
      omega
     ·obtain ⟨u,v,huv⟩:=val_ne r2 hR0
      have h5:=cntF_step h0 (fam_of h.few.hl hcr ((r4 u v).1 huv a (by omega) hab))
      have h6:3200*(cntF cs j+1)≤3200*cntF cs (j+1):=Nat.mul_le_mul_left _ h5
      omega
    have hc8:=cntF_le cs (j+1)
    have hl2:3200*cntF cs (j+1)≤3200*8:=Nat.mul_le_mul_left _ (by omega)
    obtain ⟨T,t1,t2⟩:=ih f (j+1) (acc++R) (by omega) (by omega) (by omega) (fun r hr=>by
     rcases List.mem_append.1 hr with hr | hr
     ·exact hp r hr
     ·exact r2 r hr) hlen2 (fun u v=>by
     rw [inR_app,Bool.or_eq_true,hin,r4]
     constructor
     ·rintro (⟨k,k1,k2,k3⟩ | h1)
      ·exact ⟨k,k1,by omega,k3⟩
      ·exact ⟨j,h0,by omega,h1⟩
     ·rintro ⟨k,k1,k2,k3⟩
      rcases Int.lt_or_le k j with h5 | h5
      ·exact .inl ⟨k,k1,h5,k3⟩
      ·have:k=j:=by omega
       subst this; exact .inr k3)
    refine ⟨T, ?_,t2⟩
    show history_Same_b1 F l cs a b _ j acc=_
    unfold history_Same_b1
    rw [List.length_append] at hlen2
    refine br_tt (decide_eq_true (by omega)) (bd_ok r1 (gd_ok (by simp only [LIM]; omega) (gd_ok (i64_of (by omega) (by omega)) t1)))
 obtain ⟨T,t1,t2⟩:=key 41 F 0 [] rfl (by omega) (by omega) (fun r hr=>(List.not_mem_nil hr).elim) (by simp) (fun u v=>by
  constructor
  ·intro hh; cases hh
  ·rintro ⟨k,k1,k2,_⟩; omega)
 refine ⟨T, ?_,t2⟩
 unfold history_Same_k0
 exact br_ff rfl t1
end
end Go.Ab
end

section
namespace Go.Ab
set_option maxRecDepth 20000
noncomputable section
variable {F:Nat} {l:List Record} {cs:List Crop}
theorem cn_self {L:List Rect} (h:Canon L):cn (inR L)=L:=(canon_iff L).1 h
theorem squares_s (hF:BIG≤F) (h:SmallR l) (hcr : ∀ f ∈ l,f.crop_<((cs.length:Nat):Int)) (y:Int) {k:Int} (hk:0≤k):ref15_Squares F l cs y k 0=some (cn (inR (yrs l y (famB cs k)))):=by
 rw [ref15_Squares_ok hF h.few cs y k 0 (.inr hcr)]
 have e:yrs l y (takeB cs k 0)=yrs l y (famB cs k):=yrs_congr fun f _=>by
  unfold takeB famB
  rw [decide_eq_false (show ¬ k<0 by omega)]; simp
 rw [e]
structure KeptL (l:List Record) (L:List Rect):Prop where
 can:Canon L
 prop : ∀ r ∈ L,propB r=true
 cut:CutS l (inR L)
theorem KeptL.len {L:List Rect} (h:KeptL l L) (hs:SmallR l):L.length≤3200:=by
 have:=hs.cut _ h.cut
 rwa [cn_self h.can] at this
theorem KeptL.yrs (h:SmallR l) (y:Int) (p:Int→Bool):KeptL l (cn (inR (yrs l y p))):=by
 have e:inR (cn (inR (Go.Ab.yrs l y p)))=inR (Go.Ab.yrs l y p):=by funext u v; exact inR_cn (fin_inR _) u v
 exact ⟨Canon.cn (fin_inR _),cn_prop (yrs_propS h),by rw [e]; exact CutS.yrs y p⟩
theorem KeptL.nil:KeptL l []:=⟨canon_nil,fun r hr=>(List.not_mem_nil hr).elim,CutS.of_sub fun r hr=>(List.not_mem_nil hr).elim⟩
theorem kept_comb (hF:BIG≤F) (hs:SmallR l) {A B:List Rect} (hA:KeptL l A) (hB:KeptL l B) {how:Int} (hh:how=1∨how=2) :
  ∃ C,ref04_Combine F A B how=some C∧KeptL l C∧∀ u v,inR C u v=keepB (inR A u v) (inR B u v) how:=by
 have h1:=hA.len hs
 have h2:=hB.len hs
 have hfin:=fin_comb A B how
 have e:inR (cn fun u v=>keepB (inR A u v) (inR B u v) how)=fun u v=>keepB (inR A u v) (inR B u v) how:=by funext u v; exact inR_cn hfin u v
 refine ⟨_,ref04_Combine_grid hF (by omega) (by omega) hA.prop hB.prop,⟨Canon.cn hfin, ?_, ?_⟩,fun u v=>inR_cn hfin u v⟩
 ·refine grid_prop (a:=A++B) (Canon.cn hfin) (fun r hr=>?_) fun u v hin=>?_
  ·rcases List.mem_append.1 hr with hr | hr
   ·exact hA.prop r hr
   ·exact hB.prop r hr
  ·rw [e] at hin
   rw [inR_app]
   rcases hh with rfl | rfl
   ·simpa [keepB] using hin
   ·simp [keepB] at hin; rw [hin.1]; rfl
 ·rw [e]
  rcases hh with rfl | rfl
  ·exact hA.cut.op hB.cut (k:=fun p q=>keepB p q 1) rfl
  ·exact hA.cut.op hB.cut (k:=fun p q=>keepB p q 2) rfl
theorem ref15_Same_b4_ok (hF:BIG≤F) (h:SmallR l) (hcr : ∀ f ∈ l,f.crop_<((cs.length:Nat):Int)) {a b:Int} (ha:0≤a) (hab:a≤b) (hb:b≤100) {fs:List Int} {j:Nat} (hj:j<fs.length) (hk:0≤gl fs j) {acc:List Rect} {ag:List Rect×Int→Option (Region×Int)} {r:Region×Int}
  (hend : ∀ L,KeptL l L→(∀ u v,inR L u v=true↔∀ y,a≤y→y≤b→inR (yrs l y (famB cs (gl fs j))) u v=true)→ref15_Same_k6 F acc j ag L=some r) :
  loopN (fun again (z:(List Rect)×Int)=>ref15_Same_b4 F l cs b fs acc j ag again z.1 z.2) F (cn (inR (yrs l a (famB cs (gl fs j)))),a+1)=some r:=by
 have hF' := hF
 unfold BIG at hF
 refine loopN_ok (fun z:List Rect×Int=>a<z.2∧z.2≤b+1∧KeptL l z.1∧∀ u v,inR z.1 u v=true↔∀ y,a≤y→y<z.2→inR (yrs l y (famB cs (gl fs j))) u v=true) (fun z=>(b+1-z.2).toNat) (fun again z hz ih=>?_) ⟨by simp only; omega,by simp only; omega,KeptL.yrs h _ _,fun u v=>?_⟩ (by simp only; omega)
 ·obtain ⟨L,y⟩:=z
  obtain ⟨w1,w2,w3,w4⟩:=hz
  simp only at w1 w2 w3 w4 ih ⊢
  unfold ref15_Same_b4
  have stop:(y=b+1∨L.length=0)→ref15_Same_k5 F l cs fs acc j L y again ag false=some r:=by
   intro hst
   unfold ref15_Same_k5
   refine br_ff rfl (hend L w3 fun u v=>?_)
   rw [w4]
   rcases hst with hst | hst
   ·exact ⟨fun hh y' h1 h2=>hh y' h1 (by omega),fun hh y' h1 h2=>hh y' h1 (by omega)⟩
   ·constructor
    ·intro hh
     have:=(w4 u v).2 hh
     rw [List.eq_nil_of_length_eq_zero hst] at this; cases this
    ·exact fun hh y' h1 h2=>hh y' h1 (by omega)
  refine br_ok (fun h1=>?_) (fun h1=>?_)
  ·have h1:=of_decide_eq_true h1
   by_cases hL:L.length=0
   ·rw [decide_eq_false (by omega)]
    exact stop (.inr hL)
   ·rw [decide_eq_true (by omega)]
    unfold ref15_Same_k5
    simp only [Int.toNat_natCast]
    refine br_tt rfl (bd_ok (squares_s hF' h hcr y hk) ?_)
    obtain ⟨C,c1,c2,c3⟩:=kept_comb hF' h w3 (KeptL.yrs h y (famB cs (gl fs j))) (how:=2) (.inr rfl)
    refine bd_ok c1 (gd_ok (i64_of (by omega) (by omega)) (ih (C,y+1) ⟨by simp only; omega,by simp only; omega,c2,fun u v=>?_⟩ (by simp only; omega)))
    simp only
    rw [c3,inR_cn (fin_inR _)]
    show (inR L u v&&inR (yrs l y (famB cs (gl fs j))) u v)=true↔_
    rw [Bool.and_eq_true,w4]
    constructor
    ·rintro ⟨h2,h3⟩ y' h4 h5
     rcases Int.lt_or_le y' y with h6 | h6
     ·exact h2 y' h4 h6
     ·have:y' = y:=by omega
      subst this; exact h3
    ·intro hh
     exact ⟨fun y' h2 h3=>hh y' h2 (by omega),hh y (by omega) (by omega)⟩
  ·exact stop (.inl (by have:=of_decide_eq_false h1; omega))
 ·simp only
  rw [inR_cn (fin_inR _)]
  exact ⟨fun hh y h1 h2=>by
   have:y=a:=by omega
   subst this; exact hh,fun hh=>hh a (by omega) (by omega)⟩
theorem ref15_Same_k2_ok (hF:BIG≤F) (h:SmallR l) (hcr : ∀ f ∈ l,f.crop_<((cs.length:Nat):Int)) {a b:Int} (ha:0≤a) (hab:a≤b) (hb:b≤100) {fs:List Int} (hfs : ∀ k ∈ fs,0≤k) (hlen:fs.length≤100) :
  ∃ T,ref15_Same_k2 F l cs a b fs=some (lim T)∧Canon T∧∀ u v,inR T u v=true↔∃ k ∈ fs,∀ y,a≤y→y≤b→inR (yrs l y (famB cs k)) u v=true:=by
 have hF' := hF
 unfold BIG at hF
 have key : ∀ (n f j:Nat) (acc:List Rect),j+n=fs.length→n<f→KeptL l acc→(∀ u v,inR acc u v=true↔∃ k ∈ fs.take j,∀ y,a≤y→y≤b→inR (yrs l y (famB cs k)) u v=true) →
   ∃ T,loopN (fun again (z:(List Rect)×Int)=>ref15_Same_b3 F l cs a b fs again z.1 z.2) f (acc,(j:Int))=some (lim T)∧Canon T∧∀ u v,inR T u v=true↔∃ k ∈ fs,∀ y,a≤y→y≤b→inR (yrs l y (famB cs k)) u v=true:=by
  intro n
  induction n with
  | zero=>
   intro f j acc hj hf hk hin
   cases f with
   | zero=>omega
   | succ f=>
    have hj:j=fs.length:=by omega
    subst hj
    rw [List.take_length] at hin
    refine ⟨acc, ?_,hk.can,hin⟩
    show ref15_Same_b3 F l cs a b fs _ acc _=_
    unfold ref15_Same_b3
    refine br_ff (by simp) ?_
    unfold ref15_Same_k8
    exact bd_ok (bound_lim _) rfl
  | succ n ih=>
   intro f j acc hj hf hk hin
   cases f with
   | zero=>omega
   | succ f=>
    have hjl:j<fs.length:=by omega
    have hk0:=hfs _ (gl_mem hjl)
    have hex : ∃ L,KeptL l L∧∀ u v,inR L u v=true↔∀ y,a≤y→y≤b→inR (yrs l y (famB cs (gl fs j))) u v=true:=by
     obtain ⟨T,_,t2,t3,t4⟩:=history_Kept_s hF' h hcr ha hab hb (gl fs j)
     have e:inR (cn (inR T))=inR T:=by funext u v; exact inR_cn (fin_inR _) u v
     have hcutT : ∀ (m:Nat),∃ Q:Int→Int→Bool,CutS l Q∧∀ u v,Q u v=true↔∀ y,a≤y→y≤a+m→inR (yrs l y (famB cs (gl fs j))) u v=true:=by
      intro m
      induction m with
      | zero=>
       exact ⟨_,CutS.yrs a (famB cs (gl fs j)),fun u v=>⟨fun hh y h1 h2=>by
        have:y=a:=by omega
        subst this; exact hh,fun hh=>hh a (by omega) (by omega)⟩⟩
      | succ m ihm=>
       obtain ⟨Q,q1,q2⟩:=ihm
       refine ⟨_,q1.op (CutS.yrs (a+(m+1:Nat)) (famB cs (gl fs j))) (k:=fun p q=>p&&q) rfl,fun u v=>?_⟩
       rw [Bool.and_eq_true,q2]
       constructor
       ·rintro ⟨h1,h2⟩ y h3 h4
        rcases Int.lt_or_le (a+m) y with h5 | h5
        ·have:y=a+(m+1:Nat):=by omega
         subst this; exact h2
        ·exact h1 y h3 h5
       ·exact fun hh=>⟨fun y h1 h2=>hh y h1 (by omega),hh _ (by omega) (by omega)⟩
     obtain ⟨Q,q1,q2⟩:=hcutT (b-a).toNat
     have eQ:inR T=Q:=by
      funext u v
      rw [Bool.eq_iff_iff,t4,q2]
      exact ⟨fun hh y h1 h2=>hh y h1 (by omega),fun hh y h1 h2=>hh y h1 (by omega)⟩
     exact ⟨cn (inR T),⟨Canon.cn (fin_inR _),cn_prop t2,by rw [e,eQ]; exact q1⟩,fun u v=>by rw [e]; exact t4 u v⟩
    obtain ⟨L0,l1,l2⟩:=hex
    obtain ⟨C,c1,c2,c3⟩:=kept_comb hF' h hk l1 (how:=1) (.inl rfl)
    obtain ⟨T,t1,t2⟩:=ih f (j+1) C (by omega) (by omega) c2 (fun u v=>by
     rw [c3,take_gl hjl]
     show (inR acc u v||inR L0 u v)=true↔_
     rw [Bool.or_eq_true,hin,l2]
     constructor
     ·rintro (⟨k,hk,hh⟩ | hh)
      ·exact ⟨k,List.mem_append_left _ hk,hh⟩
      ·exact ⟨_,List.mem_append_right _ (List.mem_singleton.2 rfl),hh⟩
     ·rintro ⟨k,hk,hh⟩
      rcases List.mem_append.1 hk with hk | hk
      ·exact .inl ⟨k,hk,hh⟩
      ·rw [List.mem_singleton] at hk; subst hk; exact .inr hh)
    refine ⟨T, ?_,t2⟩
    show ref15_Same_b3 F l cs a b fs _ acc (j:Int)=_
    unfold ref15_Same_b3
    simp only [Int.toNat_natCast]
    refine br_tt (by simpa using hjl) (gd_ok (by omega) (bd_ok (squares_s hF' h hcr a hk0) (gd_ok (i64_of (by omega) (by omega)) ?_)))
    refine ref15_Same_b4_ok hF' h hcr ha hab hb hjl hk0 fun L hL hLin=>?_
    have:L=L0:=hL.can.ext l1.can fun u v=>by rw [Bool.eq_iff_iff,hLin,l2]
    subst this
    unfold ref15_Same_k6
    refine bd_ok c1 ?_
    unfold ref15_Same_k7
    exact gd_ok (i64_of (by omega) (by omega)) t1
 obtain ⟨T,t1,t2⟩:=key fs.length F 0 [] (by omega) (by omega) KeptL.nil (fun u v=>by
  constructor
  ·intro hh; cases hh
  ·rintro ⟨k,hk,_⟩; rw [List.take_zero] at hk; cases hk)
 exact ⟨T,t1,t2⟩
end
end Go.Ab
end

section
namespace Go.Ab
set_option maxRecDepth 20000
noncomputable section
variable {F:Nat} {l:List Record} {cs:List Crop}
theorem CropS.fam {k:Int} (hc:CropS k cs) (hk:0≤k∧k≤40) : ∀ c ∈ cs,0≤c.family_∧c.family_≤40:=by
 intro c hm
 obtain ⟨i,hi,rfl⟩:=List.getElem_of_mem hm
 have:=(hc.one i hi).2.2.2
 rw [gl_lt hi] at this
 split at this
 ·omega
 ·omega
theorem same_eq (hF:BIG≤F) {k:Int} (hc:CropS k cs) (hl:HL l→SmallR l) (a b:Int) : ∃ r:Region×Int,history_Same F l cs a b=some r∧ref15_Same F l cs a b=some r∧r.1.rects_.length≤120:=by
 have hF' := hF
 unfold BIG at hF
 by_cases h:lisC k cs l=0
 ·obtain ⟨h0,hk0,hk1,hcr⟩:=lisC_zero h
  have hs:=hl h0
  have hfam:=hc.fam ⟨hk0,hk1⟩
  have hlen:=hc.len
  have put0:history_Same_k0 F l cs a b true=some ((⟨[]⟩ : Region),(18:Int))∧ref15_Same_k0 F l cs a b true=some ((⟨[]⟩ : Region),(18:Int)):=⟨by unfold history_Same_k0; exact br_tt rfl rfl,by unfold ref15_Same_k0; exact br_tt rfl rfl⟩
  have both : ∀ r,history_Same F l cs a b=some r→ref15_Same F l cs a b=some r→r.1.rects_.length≤120→∃ r:Region×Int,history_Same F l cs a b=some r∧ref15_Same F l cs a b=some r∧r.1.rects_.length≤120:=fun r h1 h2 h3=>⟨r,h1,h2,h3⟩
  have hh : ∀ x,(br (decide (a<(0:Int))) (history_Same_k0 F l cs a b true) (br (decide (b<a)) (history_Same_k0 F l cs a b true) (history_Same_k0 F l cs a b (decide ((100:Int)<b)))))=some x→history_Same F l cs a b=some x:=fun x hx=>by
   unfold history_Same
   exact bd_ok (history_Listed_s hF' hc l) (br_ff (by rw [h]; rfl) hx)
  have hr : ∀ x,(br (decide (a<(0:Int))) (ref15_Same_k0 F l cs a b true) (br (decide (b<a)) (ref15_Same_k0 F l cs a b true) (ref15_Same_k0 F l cs a b (decide ((100:Int)<b)))))=some x→ref15_Same F l cs a b=some x:=fun x hx=>by
   unfold ref15_Same
   exact bd_ok (ref15_With_s hF' hc l) (br_ff (by rw [h]; rfl) hx)
  by_cases h1:a<0
  ·exact both _ (hh _ (br_tt (decide_eq_true h1) put0.1)) (hr _ (br_tt (decide_eq_true h1) put0.2)) (by simp)
  by_cases h2:b<a
  ·exact both _ (hh _ (br_ff (decide_eq_false h1) (br_tt (decide_eq_true h2) put0.1))) (hr _ (br_ff (decide_eq_false h1) (br_tt (decide_eq_true h2) put0.2))) (by simp)
  by_cases h3:100<b
  ·exact both _ (hh _ (br_ff (decide_eq_false h1) (br_ff (decide_eq_false h2) (by rw [decide_eq_true h3]; exact put0.1)))) (hr _ (br_ff (decide_eq_false h1) (br_ff (decide_eq_false h2) (by rw [decide_eq_true h3]; exact put0.2)))) (by simp)
  obtain ⟨T,t1,t2⟩:=history_Same_s hF' hs hcr hlen.2 (a:=a) (b:=b) (by omega) (by omega) (by omega)
  have fams : ∀ (n f i:Nat) (fs:List Int),i+n=cs.length→n<f→fs.length≤i→(∀ v,v ∈ fs↔∃ c ∈ cs.take i,c.family_=v) →
    ∃ gs:List Int,(∀ v,v ∈ gs↔∃ c ∈ cs,c.family_=v)∧gs.length≤cs.length∧∀ r,ref15_Same_k2 F l cs a b gs=some r→loopN (fun again (z:(List Int)×Int)=>ref15_Same_b1 F l cs a b again z.1 z.2) f (fs,(i:Int))=some r:=by
   intro n
   induction n with
   | zero=>
    intro f i fs hi hf hfl hv
    cases f with
    | zero=>omega
    | succ f=>
     have hi:i=cs.length:=by omega
     subst hi
     rw [List.take_length] at hv
     refine ⟨fs,hv,hfl,fun r hr2=>?_⟩
     show ref15_Same_b1 F l cs a b _ fs _=_
     unfold ref15_Same_b1
     exact br_ff (by simp) hr2
   | succ n ih=>
    intro f i fs hi hf hfl hv
    cases f with
    | zero=>omega
    | succ f=>
     have hil:i<cs.length:=by omega
     have hpl:=len_put fs (gl cs i).family_
     obtain ⟨gs,g1,g2,g3⟩:=ih f (i+1) (put fs (gl cs i).family_) (by omega) (by omega) (by omega) (fun v=>by
      rw [mem_put,hv,take_gl hil]
      constructor
      ·rintro (rfl | ⟨c,hc2,h4⟩)
       ·exact ⟨_,List.mem_append_right _ (List.mem_singleton.2 rfl),rfl⟩
       ·exact ⟨c,List.mem_append_left _ hc2,h4⟩
      ·rintro ⟨c,hc2,h4⟩
       rcases List.mem_append.1 hc2 with hc2 | hc2
       ·exact .inr ⟨c,hc2,h4⟩
       ·rw [List.mem_singleton] at hc2; subst hc2; exact .inl h4.symm)
     refine ⟨gs,g1,g2,fun r hr2=>?_⟩
     show ref15_Same_b1 F l cs a b _ fs (i:Int)=_
     unfold ref15_Same_b1
     simp only [Int.toNat_natCast]
     refine br_tt (by simpa using hil) (gd_ok (by omega) (bd_ok (ref01_Put_ok hF' (by omega) _) (gd_ok (i64_of (by omega) (by omega)) (g3 r hr2))))
  obtain ⟨gs,g1,g2,g3⟩:=fams cs.length F 0 [] (by omega) (by omega) (by simp) (fun v=>by simp)
  obtain ⟨S,s1,s2,s3⟩:=ref15_Same_k2_ok hF' hs hcr (a:=a) (b:=b) (by omega) (by omega) (by omega) (fs:=gs) (fun v hv=>by
   obtain ⟨c,hc2,h4⟩:=(g1 v).1 hv
   rw [← h4]; exact (hfam c hc2).1) (by omega)
  have e:cn (inR T)=S:=by
   rw [← cn_self s2]
   congr 1
   funext u v
   rw [Bool.eq_iff_iff,t2,s3]
   constructor
   ·rintro ⟨q,q1,q2,q3⟩
    exact ⟨q,(g1 q).2 (fam_of h0 hcr (q3 a (by omega) (by omega))),q3⟩
   ·rintro ⟨q,q1,q3⟩
    obtain ⟨c,hc2,h4⟩:=(g1 q).1 q1
    have:=hfam c hc2
    exact ⟨q,by omega,by omega,q3⟩
  rw [e] at t1
  refine both (lim S) (hh _ (br_ff (decide_eq_false h1) (br_ff (decide_eq_false h2) (by rw [decide_eq_false h3]; exact t1)))) (hr _ (br_ff (decide_eq_false h1) (br_ff (decide_eq_false h2) ?_))) (lim_len _)
  rw [decide_eq_false h3]
  unfold ref15_Same_k0
  exact br_ff rfl (g3 _ s1)
 ·refine ⟨(⟨[]⟩,lisC k cs l), ?_, ?_,by simp⟩
  ·unfold history_Same
   exact bd_ok (history_Listed_s hF' hc l) (br_tt (by simpa using h) rfl)
  ·unfold ref15_Same
   exact bd_ok (ref15_With_s hF' hc l) (br_tt (by simpa using h) rfl)
theorem at_eq (hF:BIG≤F) (l:List Record) (y u v:Int) : ∃ r:Int,history_At F l y u v=some r∧ref15_At F l y u v=some r:=by
 by_cases h:chkH l=0
 ·have h0:=(chkH_zero l).1 h
  exact ⟨_,history_At_ok hF h0 y u v,ref15_At_ok hF h0 y u v⟩
 ·refine ⟨-1, ?_, ?_⟩
  ·unfold history_At
   exact bd_ok (history_Check_ok hF l) (br_tt (by simpa using h) rfl)
  ·unfold ref15_At
   exact bd_ok (ref15_Check_ok hF l) (br_tt (by simpa using h) rfl)
theorem addH_same (hF:BIG≤F) (l:List Record) (y c:Int) (a:Region):ref15_Records F (addH l y c a).1 (addH l y c a).1=some true:=by
 refine ref15_Records_ok hF ?_
 unfold addH
 split
 ·exact HL.nil
 ·rename_i h1
  split
  ·exact HL.nil
  ·rename_i h2
   split
   ·exact HL.nil
   ·rename_i h3
    split
    ·exact HL.nil
    ·rename_i h4
     split
     ·exact HL.nil
     ·rename_i h5
      have h1:chkH l=0:=by simpa using h1
      have h4:valB a.rects_=true:=by simpa using h4
      exact ((chkH_zero l).1 h1).add (by omega) (by omega) ((valB_iff _).1 h4) (by simpa using h5)
end
end Go.Ab
end

section
namespace Go.Ab
set_option maxRecDepth 20000
def Near (n:Int) (l:List Rect):Prop:=∀ q ∈ l,q.left_≤n+1∧q.right_≤n+1∧q.low_≤n+1∧q.high_≤n+1
theorem Near.set {n:Int} {l:List Rect} (h:Near n l) {i:Nat} {q:Rect} (hq:q.left_≤n+1∧q.right_≤n+1∧q.low_≤n+1∧q.high_≤n+1):Near n (l.set i q):=fun r hr=>by
 rcases List.mem_or_eq_of_mem_set hr with h1 | h1
 ·exact h r h1
 ·rw [h1]; exact hq
theorem keep_Tape_Broken_near {F:Nat} (hF:BIG≤F) {t:Tape} (ht:TOk t) {n:Nat} {most:Int} (h1:1≤n) (h2:n≤1000) (m1:0≤most) (m2:most≤100) : ∃ t' r,keep_Tape_Broken F t n most=some (t',r)∧TOk t' ∧ r.rects_.length≤n*((n+1) / 2)+1∧Near n r.rects_:=by
 obtain ⟨t1,a,e1,o1,ha⟩:=keep_Tape_Region_ok hF ht (n:=n) (most:=most) (by omega) (by omega) m1 m2
 have hlen:a.rects_.length≤n*((n+1) / 2):=ha.val.2.2.half ha.box
 have hval:=ha.val.1
 have base:Near n a.rects_:=fun q hq=>by have:=ha.box q hq; omega
 unfold keep_Tape_Broken
 simp only [e1,Option.bind_some]
 by_cases hz:a.rects_.length=0
 ·refine ⟨t1,a, ?_,o1,by omega,base⟩
  refine br_tt (by rw [hz]; rfl) ?_
  rfl
 ·obtain ⟨t2,b,e2,o2⟩:=keep_Tape_One_ok (F:=F) o1 (n:=6) (by omega) (by omega)
  have e0:((a.rects_.length:Int)==0)=false:=by rw [beq_eq_false_iff_ne]; omega
  rw [e0]
  simp only [br,e2,Option.bind_some]
  cases b with
  | false=>exact ⟨t2,a,rfl,o2,by omega,base⟩
  | true=>
   obtain ⟨t3,k,e3,o3,k1,k2⟩:=keep_Tape_Next_ok (F:=F) o2 (n:=(a.rects_.length:Int)) (by omega) (by omega)
   obtain ⟨t4,c,e4,o4,c1,c2⟩:=keep_Tape_Next_ok (F:=F) o3 (n:=5) (by omega) (by omega)
   have hkn:k.toNat<a.rects_.length:=by omega
   have hr:=(propB_iff _).1 (ha.val.2.1 _ (gl_mem hkn))
   have hb:=ha.box _ (gl_mem hkn)
   have hb0:=base _ (gl_mem (show 0<a.rects_.length by omega))
   have main:Ok (keep_Tape_Broken_k0 F (t1,a) (!true) t2.l_ t2.at_) fun z=>TOk z.1∧z.2.rects_.length≤n*((n+1) / 2)+1∧Near n z.2.rects_:=by
    unfold keep_Tape_Broken_k0
    refine ok_br (fun h=>by cases h) (fun _=>?_)
    simp only [List.nil_append,tape_eta]
    refine ok_gd (by simp only [LIM]; omega) ?_
    refine ok_bd e3 ?_
    refine ok_bd e4 ?_
    dsimp only
    refine ok_br (fun _=>?_) (fun _=>ok_br (fun _=>?_) (fun _=>ok_br (fun _=>?_) (fun _=>ok_br (fun _=>?_) (fun _=>?_))))
    ·refine ok_gd (by omega) (ok_gd (i64_of (by omega) (by omega)) (ok_gd (by omega) ?_))
     exact ok_some ⟨o4,by simp only [List.length_set]; omega,base.set (by simp only; omega)⟩
    ·refine ok_gd (by omega) ?_
     exact ok_some ⟨o4,by simp only [List.length_set]; omega,base.set (by simp only; omega)⟩
    ·refine ok_gd (by omega) (ok_gd (by simp only [LIM,List.length_cons,List.length_nil]; omega) ?_)
     refine ok_some ⟨o4,by simp only [List.length_append,List.length_cons,List.length_nil]; omega,fun q hq=>?_⟩
     rcases List.mem_append.1 hq with hq | hq
     ·exact base q hq
     ·rw [List.mem_singleton] at hq; subst hq; omega
    ·refine ok_gd (by omega) (ok_gd (by omega) (ok_gd (by omega) (ok_gd (by simp only [List.length_set]; omega) ?_)))
     refine ok_some ⟨o4,by simp only [List.length_set]; omega, ?_⟩
     exact (base.set (base _ (gl_mem hkn))).set hb0
    ·refine ok_gd (by omega) (ok_gd (by omega) ?_)
     exact ok_some ⟨o4,by simp only [List.length_set]; omega,base.set (by simp only; omega)⟩
   obtain ⟨⟨t',r⟩,g1,g2,g3,g4⟩:=main
   exact ⟨t',r,g1,g2,g3,g4⟩
theorem Near.box {n:Int} {l:List Rect} (h:Near n l) (hv:Val l):Box (n+1) l:=fun r hr=>by
 have h1:=h r hr
 have h2:=(propB_iff r).1 (hv.2.1 r hr)
 omega
end Go.Ab
end

section
namespace Go.Ab
set_option maxRecDepth 20000
noncomputable section
theorem keep_Tape_Crops_O_ok {F:Nat} (hF:BIG≤F) {t:Tape} (ht:TOk t) : ∃ t' l,keep_Tape_Crops_O F t=some (t',l)∧TOk t' ∧ CropT l:=by
 unfold BIG at hF
 obtain ⟨t1,n,e1,o1,n1,n2⟩:=keep_Tape_Range_ok (F:=F) ht (lo:=3) (hi:=8) (by omega) (by omega) (by omega)
 have hct:(cropN.take n.toNat).length=n.toNat:=by rw [List.length_take]; simp [cropN]; omega
 have key : ∀ (k f i:Nat) (t:Tape) (acc:List Crop),i+k=n.toNat→k<f→TOk t→acc.length=i→(∀ j,j<i→(gl acc j).name_=gl cropN j∧0≤(gl acc j).family_∧(gl acc j).family_≤2∧0≤(gl acc j).marks_∧(gl acc j).marks_≤31) →
   ∃ t' l,loopN (fun again (z:Int×(List Int)×Int×(List Crop))=>keep_Tape_Crops_O_b0 F (t1,n) again z.1 z.2.1 z.2.2.1 z.2.2.2) f ((i:Int),t.l_,t.at_,acc)=some (t',l)∧TOk t' ∧ CropT l:=by
  intro k
  induction k with
  | zero=>
   intro f i t acc hik hf ht hl hall
   cases f with
   | zero=>omega
   | succ f=>
    refine ⟨⟨t.l_,t.at_⟩,acc, ?_,ht,⟨by omega,fun j hj=>hall j (by omega)⟩⟩
    show keep_Tape_Crops_O_b0 F (t1,n) _ (i:Int) t.l_ t.at_ acc=_
    unfold keep_Tape_Crops_O_b0
    refine br_ff ?_ rfl
    show decide ((i:Int)<(((cropN.take n.toNat).length:Nat):Int))=false
    rw [hct]; exact decide_eq_false (by omega)
  | succ k ih=>
   intro f i t acc hik hf ht hl hall
   cases f with
   | zero=>omega
   | succ f=>
    obtain ⟨ta,a,ea,oa,a1,a2⟩:=keep_Tape_Next_ok (F:=F) ht (n:=3) (by omega) (by omega)
    obtain ⟨tb,b,eb,ob,b1,b2⟩:=keep_Tape_Next_ok (F:=F) oa (n:=8) (by omega) (by omega)
    have hm : ∀ j,j<8→0≤gl ([0,0,0,2,20,8,1,31]:List Int) j∧gl ([0,0,0,2,20,8,1,31]:List Int) j≤31:=by decide
    have hnm:gl (cropN.take n.toNat) i=gl cropN i:=by simp [gl,List.getD_eq_getElem?_getD,show i<n.toNat from by omega]
    obtain ⟨t',l,q1,q2,q3⟩:=ih f (i+1) tb (acc++[⟨gl (cropN.take n.toNat) i,a,gl ([0,0,0,2,20,8,1,31]:List Int) b.toNat⟩]) (by omega) (by omega) ob (by simp [hl]) (fun j hj=>by
     rcases Nat.lt_or_ge j i with h1 | h1
     ·have e:gl (acc++[(⟨gl (cropN.take n.toNat) i,a,gl ([0,0,0,2,20,8,1,31]:List Int) b.toNat⟩ : Crop)]) j=gl acc j:=by simp [gl,List.getD_eq_getElem?_getD,List.getElem?_append_left (show j<acc.length by omega)]
      rw [e]; exact hall j h1
     ·have:j=acc.length:=by omega
      subst this
      have e:gl (acc++[(⟨gl (cropN.take n.toNat) i,a,gl ([0,0,0,2,20,8,1,31]:List Int) b.toNat⟩ : Crop)]) acc.length=⟨gl (cropN.take n.toNat) i,a,gl ([0,0,0,2,20,8,1,31]:List Int) b.toNat⟩:=by simp [gl,List.getD_eq_getElem?_getD]
      rw [e]
      obtain ⟨m1,m2⟩:=hm b.toNat (by omega)
      refine ⟨by simp only; rw [hnm,hl],a1,by simp only; omega,m1,m2⟩)
    refine ⟨t',l, ?_,q2,q3⟩
    show keep_Tape_Crops_O_b0 F (t1,n) _ (i:Int) t.l_ t.at_ acc=_
    unfold keep_Tape_Crops_O_b0
    refine br_tt ?_ (gd_ok ?_ (bd_ok ea (bd_ok eb (gd_ok ?_ (gd_ok ?_ (gd_ok (i64_of (by omega) (by omega)) ?_))))))
    ·show decide ((i:Int)<(((cropN.take n.toNat).length:Nat):Int))=true
     rw [hct]; exact decide_eq_true (by omega)
    ·show 0≤(i:Int)∧(i:Int)<(((cropN.take n.toNat).length:Nat):Int)
     rw [hct]; omega
    ·simp only [List.length_cons,List.length_nil]; omega
    ·simp only [LIM,List.length_cons,List.length_nil]; omega
    ·exact q1
 obtain ⟨t',l,q1,q2,q3⟩:=key n.toNat F 0 t1 [] (by omega) (by omega) o1 rfl (fun j hj=>absurd hj (Nat.not_lt_zero j))
 refine ⟨t',l, ?_,q2,q3⟩
 unfold keep_Tape_Crops_O
 refine bd_ok e1 (gd_ok ?_ q1)
 simp only [List.length_cons,List.length_nil]; omega
theorem keep_Tape_History_O_few {F:Nat} (hF:BIG≤F) {t:Tape} (ht:TOk t) {cs:List Crop} (hcs:CropT cs) {most:Int} (m1:0≤most) (m2:most≤50) : ∃ t' l,keep_Tape_History_O F t cs 4 most=some (t',cs,l)∧TOk t' ∧ HisT (cs.length:Nat) l∧(l.length:Int)≤most:=by
 have hF' := hF
 unfold BIG at hF
 obtain ⟨l1,l2⟩:=hcs.len
 obtain ⟨t1,c,e1,o1,c1,c2⟩:=keep_Tape_Next_ok (F:=F) ht (n:=most+1) (by omega) (by omega)
 have key : ∀ (k f:Nat) (t:Tape) (l:List Record),k<f→k≤60→(l.length:Int)+k≤most→TOk t→HisT (cs.length:Nat) l→∃ t' l',loopN (fun again (z:List Record×Int×List Int×Int)=>keep_Tape_History_O_b0 F cs 4 again z.1 z.2.1 z.2.2.1 z.2.2.2) f (l,(k:Int),t.l_,t.at_)=some (t',cs,l')∧TOk t' ∧ HisT (cs.length:Nat) l' ∧ (l'.length:Int)≤most:=by
  intro k
  induction k with
  | zero=>
   intro f t l hf _ hlm ht hl
   cases f with
   | zero=>omega
   | succ f=>exact ⟨⟨t.l_,t.at_⟩,l,rfl,ht,hl,by omega⟩
  | succ k ih=>
   intro f t l hf hk60 hlm ht hl
   cases f with
   | zero=>omega
   | succ f=>
    obtain ⟨ta,y,ea,oa,y1,y2⟩:=keep_Tape_Next_ok (F:=F) ht (n:=5) (by omega) (by omega)
    obtain ⟨tb,c,eb,ob,c1,c2⟩:=keep_Tape_Next_ok (F:=F) oa (n:=(cs.length:Nat)) (by omega) (by omega)
    obtain ⟨tc,a,ec,oc,ha⟩:=keep_Tape_Region_ok hF' ob (n:=9) (most:=2) (by omega) (by omega) (by omega) (by omega)
    have hal:=hl.addH_len (y:=y) (c:=c) (by omega) (by omega) ha
    obtain ⟨t2,l2,q1,q2,q3⟩:=ih f tc (addH l y c a).1 (by omega) (by omega) (by omega) oc (hl.addH (by omega) (by omega) c2 ha)
    refine ⟨t2,l2, ?_,q2,q3⟩
    show keep_Tape_History_O_b0 F cs 4 _ l ((k+1:Nat):Int) t.l_ t.at_=_
    unfold keep_Tape_History_O_b0
    refine br_tt (by simp) ?_
    refine gd_G (k:=?_)
    refine bd_ok ea (bd_ok eb (bd_ok ec (bd_ok (ref15_Add_ok hF' _ _ _ _) ?_)))
    refine gd_G (k:=?_)
    have e3:((k+1:Nat):Int)-1=(k:Int):=by omega
    rw [e3]; exact q1
 obtain ⟨t',l,q1,q2,q3⟩:=key c.toNat F t1 [] (by omega) (by omega) (by simp; omega) o1 (HisT.nil _)
 refine ⟨t',l, ?_,q2,q3⟩
 unfold keep_Tape_History_O
 refine gd_G (k:=?_)
 refine bd_ok e1 ?_
 have:(c.toNat:Int)=c:=by omega
 rw [this] at q1
 exact q1
theorem CropT.s {l:List Crop} (h:CropT l):CropS (gl l 0).family_ l:=⟨h.len,fun i hi=>by
 obtain ⟨n1,n2,n3,n4,n5⟩:=h.one i hi
 refine ⟨n1,n4,n5, ?_⟩
 split
 ·rename_i h0; rw [h0]
 ·exact ⟨n2,n3⟩⟩
theorem CropT.set {l:List Crop} (h:CropT l) (k:Int):CropS k (l.set 0 ⟨(gl l 0).name_,k,(gl l 0).marks_⟩):=by
 have hl:=h.len
 refine ⟨by rw [List.length_set]; exact hl,fun i hi=>?_⟩
 rw [List.length_set] at hi
 obtain ⟨n1,n2,n3,n4,n5⟩:=h.one i hi
 rw [gl_set _ _ _ _ (by omega)]
 by_cases h0:i=0
 ·subst h0
  rw [if_pos rfl,if_pos rfl]
  exact ⟨n1,n4,n5,rfl⟩
 ·rw [if_neg (show ¬ 0=i by omega),if_neg h0]
  exact ⟨n1,n4,n5,n2,n3⟩
theorem spoilt_ok {F:Nat} (hF:BIG≤F) {t:Tape} (ht:TOk t) {K:Int} {l:List Record} (h:HisT K l) (hl:l.length≤7) (y:Int) : ∃ t' m,law15_spoilt F t l y=some (t',m)∧TOk t' ∧ (HL m→SmallR m):=by
 have hF' := hF
 unfold BIG at hF
 have small : ∀ m:List Record,m.length≤7→(∀ f ∈ m,f.region_.rects_.length≤46∧Near 9 f.region_.rects_)→HL m→SmallR m:=fun m hm hr hm2=>SmallR.of_box hm2 (by omega) (fun f hf=>(hr f hf).2.box (hm2.val hf)) (fun f hf=>by have:=(hr f hf).1; omega) hm
 have base : ∀ f ∈ l,f.region_.rects_.length≤46∧Near 9 f.region_.rects_:=fun f hf=>by
  have:=Canon.half (h.hl.val hf).2.2 (n:=9) (h.box f hf)
  exact ⟨by omega,fun q hq=>by have:=h.box f hf q hq; omega⟩
 unfold law15_spoilt
 simp only [List.nil_append]
 by_cases hz:l.length=0
 ·refine ⟨t,l,gd_ok (by simp only [LIM]; omega) (br_tt (by rw [hz]; rfl) rfl),ht,small l (by omega) base⟩
 ·obtain ⟨t1,k,e1,o1,k1,k2⟩:=keep_Tape_Next_ok (F:=F) ht (n:=(l.length:Nat)) (by omega) (by omega)
  obtain ⟨t2,c,e2,o2,c1,c2⟩:=keep_Tape_Next_ok (F:=F) o1 (n:=7) (by omega) (by omega)
  have hk:k.toNat<l.length:=by omega
  have hm:=gl_mem hk
  have set_ok : ∀ r:Record,(r.region_.rects_.length≤46∧Near 9 r.region_.rects_)→(HL (l.set k.toNat r)→SmallR (l.set k.toNat r)):=fun r hr=>small _ (by rw [List.length_set]; exact hl) fun f hf=>by
   rcases List.mem_or_eq_of_mem_set hf with h1 | h1
   ·exact base f h1
   ·rw [h1]; exact hr
  have hne:((l.length:Int)==0)=false:=by rw [beq_eq_false_iff_ne]; omega
  have fin : ∀ (m:List Record) (t' : Tape),TOk t' → (HL m→SmallR m)→∀ x,x=law15_spoilt_k0 F m t'.l_ t'.at_→(gd ((0)+(List.length (α:=Record) l)≤LIM) (br ((((l.length:Nat):Int))==(0:Int)) (some (t,l)) x))=some (t',m):=fun m t' _ _ x hx=>by
   rw [hx]
   exact gd_ok (by simp only [LIM]; omega) (br_ff hne rfl)
  by_cases q0:c=0
  ·refine ⟨t2,l.set k.toNat ⟨y,(gl l k.toNat).crop_,(gl l k.toNat).region_⟩,gd_ok (by simp only [LIM]; omega) (br_ff hne (bd_ok e1 (bd_ok e2 (br_tt (by simp [q0]) (gd_ok (by simp only; omega) rfl))))),o2,set_ok _ (base (gl l k.toNat) hm)⟩
  by_cases q1:c=1
  ·obtain ⟨w,ew,w1,w2⟩:=keep_Mod_ok (F:=F) y (n:=45) (by omega) (by omega)
   refine ⟨t2,l.set k.toNat ⟨(gl l k.toNat).year_,w-2,(gl l k.toNat).region_⟩,gd_ok (by simp only [LIM]; omega) (br_ff hne (bd_ok e1 (bd_ok e2 (br_ff (by simp [q1]) (br_tt (by simp [q1]) (bd_ok ew (gd_ok (i64_of (by omega) (by omega)) (gd_ok (by simp only; omega) rfl)))))))),o2,set_ok _ (base (gl l k.toNat) hm)⟩
  by_cases q2:c=2
  ·obtain ⟨t3,r,e3,o3,r1,r2⟩:=keep_Tape_Broken_near hF' o2 (n:=9) (most:=2) (by omega) (by omega) (by omega) (by omega)
   refine ⟨t3,l.set k.toNat ⟨(gl l k.toNat).year_,(gl l k.toNat).crop_,r⟩,gd_ok (by simp only [LIM]; omega) (br_ff hne (bd_ok e1 (bd_ok e2 (br_ff (by simp [q2]) (br_ff (by simp [q2]) (br_tt (by simp [q2]) (bd_ok e3 (gd_ok (by simp only; omega) rfl)))))))),o3,set_ok _ ⟨by simp only; omega,r2⟩⟩
  by_cases q3:c=3
  ·refine ⟨t2,l++[gl l k.toNat],gd_ok (by simp only [LIM]; omega) (br_ff hne (bd_ok e1 (bd_ok e2 (br_ff (by simp [q3]) (br_ff (by simp [q3]) (br_ff (by simp [q3]) (br_tt (by simp [q3]) (gd_ok (by simp only; omega) (gd_ok (by simp only [LIM,List.length_cons,List.length_nil]; omega) rfl))))))))),o2,fun hm2=>?_⟩
   have:=(List.pairwise_append.1 hm2.asc).2.2 _ hm _ (List.mem_singleton.2 rfl)
   exact (ltR_asymm this this).elim
  ·refine ⟨t2,l,gd_ok (by simp only [LIM]; omega) (br_ff hne (bd_ok e1 (bd_ok e2 (br_ff (by simp [q0]) (br_ff (by simp [q1]) (br_ff (by simp [q2]) (br_ff (by simp [q3]) rfl))))))),o2,small l hl base⟩
end
end Go.Ab
end

section
namespace Go.Ab
set_option maxRecDepth 20000
noncomputable section
variable {F:Nat}
theorem same_lim (hF:BIG≤F) {v:Region} (h:v.rects_.length≤120):ref04_Same F v v=some true:=(ref04_Same_ok hF (by simp only [LIM]; omega)).trans (by simp)
theorem ha_k3 (hF:BIG≤F) {x:List Record} (a:Region) (y c u v:Int) {z1:Tape×List Crop×List Record} {z2:Tape×List Record} (hL : ∀ i,i<3→HL (gl [x,z1.2.2,z2.2] i)→SmallR (gl [x,z1.2.2,z2.2] i)) {t:Tape} (ht:TOk t) {k:Int} {cs:List Crop} (hc:CropS k cs) :
  law15_HistoryAnswers_k3 F x a y c u v z1 z2 t.l_ t.at_ cs=some true:=by
 have hF' := hF
 unfold BIG at hF
 obtain ⟨y1,ey1,_,_⟩:=keep_Mod_ok (F:=F) y (n:=104) (by omega) (by omega)
 obtain ⟨c1,ec1,_,_⟩:=keep_Mod_ok (F:=F) c (n:=43) (by omega) (by omega)
 obtain ⟨y2,ey2,_,_⟩:=keep_Mod_ok (F:=F) y (n:=5) (by omega) (by omega)
 obtain ⟨c2,ec2,_,_⟩:=keep_Mod_ok (F:=F) c (n:=8) (by omega) (by omega)
 obtain ⟨y3,ey3,_,_⟩:=keep_Mod_ok (F:=F) y (n:=6) (by omega) (by omega)
 obtain ⟨c3,ec3,_,_⟩:=keep_Mod_ok (F:=F) c (n:=9) (by omega) (by omega)
 obtain ⟨u3,eu3,_,_⟩:=keep_Mod_ok (F:=F) u (n:=9) (by omega) (by omega)
 obtain ⟨v3,ev3,_,_⟩:=keep_Mod_ok (F:=F) v (n:=9) (by omega) (by omega)
 unfold law15_HistoryAnswers_k3
 refine loopN_ok (fun z:List Crop×Int×List Int×Int=>∃ (i:Nat) (t:Tape),z=(cs,(i:Int),t.l_,t.at_)∧TOk t∧i≤3) (fun z=>3-z.2.1.toNat) (fun ag z hz ih=>?_) ⟨0,t,rfl,ht,by omega⟩ (by simp only; omega)
 obtain ⟨i,t,rfl,ht,hi⟩:=hz
 simp only at ih ⊢
 unfold law15_HistoryAnswers_b4
 simp only [Int.toNat_natCast]
 refine br_ok (fun h1=>?_) (fun h1=>?_)
 ·have h1:i<3:=by
   have h2:=of_decide_eq_true h1
   simp only [List.length_cons,List.length_nil] at h2
   omega
  have hLi:=hL i h1
  refine gd_ok (by simp; omega) (bd_ok (history_Check_ok hF' _) (bd_ok (ref15_Check_ok hF' _) (br_ff (by simp) ?_)))
  obtain ⟨t',r,er,ot,_⟩:=keep_Tape_Broken_ok hF' ht (n:=9) (most:=2) (by omega) (by omega) (by omega) (by omega)
  refine bd_ok er ?_
  refine for_ok 2 (fun ag5 j hj ha5=>?_) (fun ag5=>?_) (by omega)
  ·unfold law15_HistoryAnswers_b5
   simp only [Int.toNat_natCast]
   refine br_tt (by simp; omega) (gd_ok (by simp; omega) ?_)
   refine bd_ok ey1 (gd_ok (i64_of (by omega) (by omega)) (bd_ok ec1 (gd_ok (i64_of (by omega) (by omega)) (bd_ok (history_Add_ok hF' _ _ _ _) ?_))))
   refine bd_ok ey1 (gd_ok (i64_of (by omega) (by omega)) (bd_ok ec1 (gd_ok (i64_of (by omega) (by omega)) (bd_ok (ref15_Add_ok hF' _ _ _ _) ?_))))
   refine bd_ok ey2 (bd_ok ec2 (bd_ok (history_Add_ok hF' _ _ _ _) (bd_ok ey2 (bd_ok ec2 (bd_ok (ref15_Add_ok hF' _ _ _ _) ?_)))))
   refine bd_ok (addH_same hF' _ _ _ _) (br_ff rfl (br_ff (by simp) (bd_ok (addH_same hF' _ _ _ _) (br_ff rfl ?_))))
   unfold law15_HistoryAnswers_k6
   exact br_ff (by simp) (gd_ok (i64_of (by omega) (by omega)) ha5)
  ·unfold law15_HistoryAnswers_b5
   refine br_ff (by simp) ?_
   unfold law15_HistoryAnswers_k7
   refine bd_ok ey3 (bd_ok ec3 ?_)
   refine for_ok 2 (fun ag8 j hj ha8=>?_) (fun ag8=>?_) (by omega)
   ·unfold law15_HistoryAnswers_b8
    simp only [Int.toNat_natCast]
    refine br_tt (by simp; omega) (gd_ok (by simp; omega) ?_)
    generalize hP:gl ([(⟨y,c⟩ : Arr2Int),(⟨y3,c3⟩ : Arr2Int)]:List Arr2Int) j=P
    obtain ⟨w1,a1,a2,a3⟩:=where_eq hF' (fun h=>(hLi h).few) P.e0_ P.e1_
    obtain ⟨w2,b1,b2,b3⟩:=known_eq hF' (fun h=>(hLi h).few) P.e0_
    obtain ⟨w3,d1,d2⟩:=at_eq hF' (gl [x,z1.2.2,z2.2] i) P.e0_ u v
    obtain ⟨w4,f1,f2⟩:=at_eq hF' (gl [x,z1.2.2,z2.2] i) P.e0_ u3 v3
    obtain ⟨w5,g1,g2,g3⟩:=family_eq hF' hc (fun h=>(hLi h).few) P.e0_ P.e1_
    obtain ⟨w6,m1,m2,m3⟩:=marked_eq hF' hc (fun h=>(hLi h).few) P.e0_ P.e1_
    obtain ⟨w7,s1,s2,s3⟩:=same_eq hF' hc hLi P.e0_ P.e1_
    refine bd_ok a1 (bd_ok a2 (bd_ok b1 (bd_ok b2 ?_)))
    refine bd_ok (same_lim hF' a3) (br_ff rfl (br_ff (by simp) (bd_ok (same_lim hF' b3) (br_ff rfl (br_ff (by simp) ?_)))))
    refine bd_ok d1 (bd_ok d2 (br_ff (by simp) (bd_ok eu3 (bd_ok ev3 (bd_ok f1 (bd_ok eu3 (bd_ok ev3 (bd_ok f2 ?_))))))))
    unfold law15_HistoryAnswers_k9
    simp only [Int.toNat_natCast]
    rw [hP]
    refine br_ff (by simp) (bd_ok g1 (bd_ok g2 (bd_ok m1 (bd_ok m2 (bd_ok s1 (bd_ok s2 ?_))))))
    refine bd_ok (same_lim hF' g3) (br_ff rfl (br_ff (by simp) (bd_ok (same_lim hF' m3) (br_ff rfl (br_ff (by simp) (bd_ok (same_lim hF' s3) (br_ff rfl ?_)))))))
    unfold law15_HistoryAnswers_k10
    exact br_ff (by simp) (gd_ok (i64_of (by omega) (by omega)) ha8)
   ·unfold law15_HistoryAnswers_b8
    refine br_ff (by simp) ?_
    unfold law15_HistoryAnswers_k11
    exact gd_ok (i64_of (by omega) (by omega)) (ih _ ⟨i+1,t',rfl,ot,h1⟩ (by simp only; omega))
 ·unfold law15_HistoryAnswers_k12
  exact bd_ok (law15_awake_ok hF') rfl
theorem law15_HistoryAnswers_ok (hF:BIG≤F) (x:List Record) (a:Region) (y c u v:Int) (tape:List Int):law15_HistoryAnswers F x a y c u v tape=some true:=by
 have hF' := hF
 unfold BIG at hF
 have main:x.length≤10→(∀ f ∈ x,f.region_.rects_.length≤4)→law15_HistoryAnswers_k2 F x a y c u v tape=some true:=by
  intro h10 h4
  have hx:HL x→SmallR x:=fun h=>SmallR.of_few h (by
   unfold allR
   have : ∀ m:List Record,(∀ f ∈ m,f.region_.rects_.length≤4)→(m.flatMap fun f=>f.region_.rects_).length≤4*m.length:=by
    intro m
    induction m with
    | nil=>intro _; simp
    | cons f m ih=>
     intro hm
     rw [List.flatMap_cons,List.length_append,List.length_cons]
     have h1:=ih fun g hg=>hm g (List.mem_cons_of_mem _ hg)
     have h2:=hm f (by simp)
     omega
   have:=this x h4
   omega)
  obtain ⟨t,e0,o0⟩:=keep_New_ok F tape
  obtain ⟨t1,cs,e1,o1,hc⟩:=keep_Tape_Crops_O_ok hF' o0
  obtain ⟨t2,l,e2,o2,hh,hlen⟩:=keep_Tape_History_O_few hF' o1 hc (most:=7) (by omega) (by omega)
  obtain ⟨t3,m,e3,o3,hm⟩:=spoilt_ok hF' o2 hh (by omega) y
  obtain ⟨t4,b,e4,o4⟩:=keep_Tape_One_ok (F:=F) o3 (n:=6) (by omega) (by omega)
  have hl:HL l→SmallR l:=fun h=>SmallR.of_box h (by omega) (fun f hf r hr=>by have:=hh.box f hf r hr; omega) (fun f hf=>by
   have:=Canon.half (h.val hf).2.2 (n:=9) (hh.box f hf)
   omega) (by omega)
  have hL : ∀ i,i<3→HL (gl [x,l,m] i)→SmallR (gl [x,l,m] i):=by
   intro i hi
   match i,hi with
   | 0,_=>exact hx
   | 1,_=>exact hl
   | 2,_=>exact hm
  unfold law15_HistoryAnswers_k2
  refine bd_ok e0 (bd_ok e1 (bd_ok e2 (bd_ok e3 (bd_ok e4 (br_ok (fun _=>?_) (fun _=>?_))))))
  ·refine gd_ok (by have:=hc.len; simp only; omega) ?_
   exact ha_k3 hF' a y c u v (z1:=(t2,cs,l)) (z2:=(t3,m)) hL o4 (hc.set c)
  ·exact ha_k3 hF' a y c u v (z1:=(t2,cs,l)) (z2:=(t3,m)) hL o4 hc.s
 unfold law15_HistoryAnswers
 have hk0 : ∀ b:Bool,(b=false→x.length≤10)→law15_HistoryAnswers_k0 F x a y c u v tape b=some true:=by
  intro b hb
  unfold law15_HistoryAnswers_k0
  refine br_ok (fun _=>bd_ok (law15_awake_ok hF') rfl) (fun h=>?_)
  have h10:=hb h
  refine loopN_ok (fun z:Int=>∃ i:Nat,z=i∧i≤x.length∧∀ j,j<i→(gl x j).region_.rects_.length≤4) (fun z=>x.length-z.toNat) (fun again z hz ih=>?_) ⟨0,rfl,by omega,fun j hj=>absurd hj (Nat.not_lt_zero j)⟩ (by simp; omega)
  obtain ⟨i,rfl,hi,hj⟩:=hz
  unfold law15_HistoryAnswers_b1
  refine br_ok (fun h2=>?_) (fun h2=>?_)
  ·have h2:i<x.length:=by simpa using h2
   refine gd_G (k:=?_)
   refine br_ok (fun _=>bd_ok (law15_awake_ok hF') rfl) (fun h3=>?_)
   refine gd_G (k:=?_)
   refine ih _ ⟨i+1,by omega,h2,fun j hj2=>?_⟩ (by omega)
   rcases Nat.lt_or_ge j i with h4 | h4
   ·exact hj j h4
   ·have:j=i:=by omega
    subst this
    simp at h3
    omega
  ·have h2 : ¬ i<x.length:=by simpa using h2
   refine main h10 fun f hf=>?_
   obtain ⟨j,hjl,rfl⟩:=List.getElem_of_mem hf
   have:=hj j (by omega)
   rw [gl_lt hjl] at this
   exact this
 refine br_ok (fun h=>?_) (fun h=>?_)
 ·exact hk0 true (fun h=>by cases h)
 ·exact hk0 _ (fun _=>by simp at h; omega)
end
end Go.Ab
end

section
namespace Go.Ab
set_option maxRecDepth 20000
noncomputable section
end
end Go.Ab
end

section
namespace Go.Ab
set_option maxRecDepth 20000
noncomputable section
end
end Go.Ab
end

section
namespace Go.Ab
set_option maxRecDepth 20000
noncomputable section
end
end Go.Ab
end

section
namespace Go.Ab
set_option maxRecDepth 20000
noncomputable section
end
end Go.Ab
end
