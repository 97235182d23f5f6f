/- Abstract states over the model: every lemma holds of any program of the form that it names. -/
import Derived.Test.YtdghfppocejhjaaGreatLwB
import Derived.Test.YtdghfppocejhjaaGreatAbD
import Derived.Test.YtdghfppocejhjaaGreatLwA
set_option linter.unusedVariables false
set_option linter.unusedSimpArgs false
section
namespace Go.Ab
set_option maxRecDepth 20000
noncomputable section
end
end Go.Ab
end

section
namespace Go.Ab
set_option maxRecDepth 20000
noncomputable section
theorem scan_ok {R:Type} {body:(Int→Option R)→Int→Option R} {c y:Option R} (N:Nat) (p:Nat→Bool)
  (bad : ∀ again (i:Nat),i<N→p i=true→body again (i:Int)=c) (good : ∀ again (i:Nat) z,i<N→p i=false→again ((i:Int)+1)=z→body again (i:Int)=z)
  (stop : ∀ again,body again (N:Int)=y) {F:Nat} (hF:N<F):loopN body F 0=if (List.range N).any p=true then c else y:=by
 refine loopN_ok (fun z:Int=>∃ i:Nat,z=i∧i≤N∧∀ j,j<i→p j=false) (fun z=>N-z.toNat) (fun again z hz ih=>?_) ⟨0,rfl,Nat.zero_le _,fun j h=>absurd h (Nat.not_lt_zero j)⟩ (by simp; omega)
 obtain ⟨i,rfl,hi,hp⟩:=hz
 rcases Nat.lt_or_ge i N with h | h
 ·cases hpi:p i with
  | true=>
   rw [if_pos (List.any_eq_true.2 ⟨i,List.mem_range.2 h,hpi⟩)]
   exact bad again i h hpi
  | false=>
   refine good again i _ h hpi (ih _ ⟨i+1,by omega,h,fun j hj=>?_⟩ (by omega))
   by_cases hji:j=i
   ·rw [hji]; exact hpi
   ·exact hp j (by omega)
 ·have:i=N:=by omega
  subst this
  rw [if_neg (by rw [Bool.not_eq_true,List.any_eq_false]; intro j hj; rw [hp j (List.mem_range.1 hj)]; simp)]
  exact stop again
end
end Go.Ab
end

section
namespace Go.Ab
set_option maxRecDepth 20000
noncomputable section
end
end Go.Ab
end

section
namespace Go.Ab
set_option maxRecDepth 20000
noncomputable section
theorem ref02_Name_gen {F:Nat} (hF:BIG≤F) (s:ByteArray):ref02_Name F s=some (nameB s):=by
 unfold BIG at hF
 unfold ref02_Name
 have k0t:nameB s=false→ref02_Name_k0 F s true=some (nameB s):=fun h=>by unfold ref02_Name_k0; rw [h]; exact br_tt rfl rfl
 refine br_ok (fun h=>k0t ?_) (fun h=>?_)
 ·have h:=of_decide_eq_true h
  unfold nameB
  rw [decide_eq_false (by omega : ¬ 1≤s.size)]; rfl
 have h1:1≤s.size:=by have:=of_decide_eq_false h; omega
 refine br_ok (fun h=>k0t ?_) (fun h=>?_)
 ·have h:=of_decide_eq_true h
  unfold nameB
  rw [decide_eq_false (by omega : ¬ s.size≤12)]; simp
 have h2:s.size≤12:=by have:=of_decide_eq_false h; omega
 have hz:nameB s=decide (∀ i,i<s.size→(lowB (sAt s (i:Nat))||(!decide (i=0)&&digB (sAt s (i:Nat))))=true):=by
  unfold nameB
  rw [decide_eq_true h1,decide_eq_true h2]; simp
 have bad0:lowB (sAt s (0:Int))=false→nameB s=false:=fun h=>by
  rw [hz,decide_eq_false_iff_not]
  intro hall
  have:=hall 0 (by omega)
  rw [show (((0:Nat):Int))=0 from rfl,h] at this
  simp at this
 refine gd_ok (by omega) (br_ok (fun h=>k0t (bad0 ?_)) (fun h=>?_))
 ·have h:=of_decide_eq_true h
  unfold lowB; rw [decide_eq_false (by omega)]; rfl
 have h3:=of_decide_eq_false h
 refine gd_ok (by omega) ?_
 by_cases h4:122<sAt s (0:Int)
 ·rw [decide_eq_true h4]
  refine k0t (bad0 ?_)
  unfold lowB; rw [decide_eq_false (by omega : ¬ sAt s (0:Int)≤122)]; simp
 rw [decide_eq_false h4]
 have hl0:lowB (sAt s (0:Int))=true:=by
  unfold lowB; rw [decide_eq_true (by omega),decide_eq_true (by omega)]; rfl
 unfold ref02_Name_k0
 refine br_ff rfl ?_
 refine (scan_ok (c:=some false) (y:=some true) s.size (fun i=> !(lowB (sAt s (i:Nat))||digB (sAt s (i:Nat)))) (fun again i hi hp=>?_) (fun again i z hi hp hz=>?_) (fun again=>?_) (by omega)).trans ?_
 ·rw [Bool.not_eq_true',Bool.or_eq_false_iff] at hp
  unfold lowB digB at hp
  unfold ref02_Name_b1
  have k2:ref02_Name_k2 F (i:Int) again true=some false:=by unfold ref02_Name_k2; exact br_tt rfl rfl
  refine br_tt (decide_eq_true (by omega)) (gd_ok (by omega) ?_)
  have dg:gd (0≤(i:Int)∧(i:Int)<((s.size:Nat):Int)) (br (decide (sAt s (i:Nat)<48)) (ref02_Name_k2 F (i:Int) again true) (gd (0≤(i:Int)∧(i:Int)<((s.size:Nat):Int)) (ref02_Name_k2 F (i:Int) again (decide (57<sAt s (i:Nat))))))=some false:=by
   refine gd_ok (by omega) (br_ok (fun _=>k2) (fun h5=>gd_ok (by omega) ?_))
   have h5:=of_decide_eq_false h5
   rw [decide_eq_true (p:=57<sAt s (i:Nat))]
   ·exact k2
   ·have h6:=hp.2
    rw [decide_eq_true (by omega:48≤sAt s (i:Nat)),Bool.true_and,decide_eq_false_iff_not] at h6
    omega
  refine br_ok (fun _=>dg) (fun h5=>gd_ok (by omega) ?_)
  refine br_tt ?_ dg
  have h5:=of_decide_eq_false h5
  have h6:=hp.1
  rw [decide_eq_true (by omega:97≤sAt s (i:Nat)),Bool.true_and,decide_eq_false_iff_not] at h6
  exact decide_eq_true (by omega)
 ·rw [Bool.not_eq_false',Bool.or_eq_true] at hp
  unfold lowB digB at hp
  rw [Bool.and_eq_true,Bool.and_eq_true,decide_eq_true_eq,decide_eq_true_eq,decide_eq_true_eq,decide_eq_true_eq] at hp
  unfold ref02_Name_b1
  have k2:ref02_Name_k2 F (i:Int) again false=z:=by unfold ref02_Name_k2; exact br_ff rfl (gd_ok (i64_of (by omega) (by omega)) hz)
  refine br_tt (decide_eq_true (by omega)) (gd_ok (by omega) ?_)
  refine br_ok (fun h5=>?_) (fun h5=>?_)
  ·have h5:=of_decide_eq_true h5
   refine gd_ok (by omega) (br_ff (decide_eq_false (by omega)) (gd_ok (by omega) ?_))
   rw [decide_eq_false (p:=57<sAt s (i:Nat)) (by omega)]; exact k2
  ·have h5:=of_decide_eq_false h5
   refine gd_ok (by omega) (br_ok (fun h6=>?_) (fun h6=>k2))
   have h6:=of_decide_eq_true h6
   refine gd_ok (by omega) (br_ff (decide_eq_false (by omega)) (gd_ok (by omega) ?_))
   rw [decide_eq_false (p:=57<sAt s (i:Nat)) (by omega)]; exact k2
 ·unfold ref02_Name_b1
  exact br_ff (decide_eq_false (by omega)) rfl
 ·rw [hz]
  split
  ·rename_i hh
   congr 1
   symm
   rw [decide_eq_false_iff_not]
   intro hall
   obtain ⟨i,hi,hp⟩:=List.any_eq_true.1 hh
   have:=hall i (List.mem_range.1 hi)
   rw [Bool.not_eq_true',Bool.or_eq_false_iff] at hp
   rw [hp.1,hp.2] at this
   simp at this
  ·rename_i hh
   congr 1
   symm
   rw [decide_eq_true_eq]
   intro i hi
   rw [Bool.not_eq_true,List.any_eq_false] at hh
   have:=hh i (List.mem_range.2 hi)
   rw [Bool.not_eq_true,Bool.not_eq_false'] at this
   by_cases h0:i=0
   ·subst h0; rw [show (((0:Nat):Int))=0 from rfl,hl0]; rfl
   ·rw [decide_eq_false h0]; simpa using this
theorem scanE_ok {body:(Int→Option Int)→Int→Option Int} (N:Nat) (p:Nat→Int)
  (bad : ∀ again (i:Nat),i<N→p i≠0→body again (i:Int)=some (p i)) (good : ∀ again (i:Nat) z,i<N→p i=0→again ((i:Int)+1)=z→body again (i:Int)=z)
  (stop : ∀ again,body again (N:Int)=some 0) {F:Nat} (hF:N<F):loopN body F 0=some ((((List.range N).map p).find? fun c=>c != 0).getD 0):=by
 refine loopN_ok (fun z:Int=>∃ i:Nat,z=i∧i≤N∧∀ j,j<i→p j=0) (fun z=>N-z.toNat) (fun again z hz ih=>?_) ⟨0,rfl,Nat.zero_le _,fun j h=>absurd h (Nat.not_lt_zero j)⟩ (by simp; omega)
 obtain ⟨i,rfl,hi,hp⟩:=hz
 rcases Nat.lt_or_ge i N with h | h
 ·by_cases hpi:p i=0
  ·refine good again i _ h hpi (ih _ ⟨i+1,by omega,h,fun j hj=>?_⟩ (by omega))
   by_cases hji:j=i
   ·rw [hji]; exact hpi
   ·exact hp j (by omega)
  ·rw [bad again i h hpi]
   congr 1
   have e:List.range N=List.range i++i::(List.range N).drop (i+1):=by
    have h1:(List.range N).take i=List.range i:=by rw [List.take_range]; congr 1; omega
    have h2:=List.take_append_drop i (List.range N)
    rw [h1,List.drop_eq_getElem_cons (by simpa using h)] at h2
    rw [List.getElem_range] at h2
    exact h2.symm
   have h3:(((List.range i).map p).find? fun c=>c != 0)=none:=List.find?_eq_none.2 fun c hc=>by
    obtain ⟨j,hj,rfl⟩:=List.mem_map.1 hc
    rw [hp j (List.mem_range.1 hj)]; simp
   rw [e,List.map_append,List.find?_append,h3,Option.none_or,List.map_cons,List.find?_cons]
   have:(p i != 0)=true:=by simpa using hpi
   rw [this]; rfl
 ·have:i=N:=by omega
  subst this
  rw [stop again]
  congr 1
  have h3:(((List.range i).map p).find? fun c=>c != 0)=none:=List.find?_eq_none.2 fun c hc=>by
   obtain ⟨j,hj,rfl⟩:=List.mem_map.1 hc
   rw [hp j (List.mem_range.1 hj)]; simp
  rw [h3]; rfl
def crE (l:List Crop) (i:Nat):Int:=
 if nameB (gl l i).name_=false then 5 else if (gl l i).family_<0∨40<(gl l i).family_ then 2 else if (gl l i).marks_<0∨31<(gl l i).marks_ then 14
 else if 0<i∧(sLt (gl l i).name_ (gl l (i-1)).name_||sEq (gl l i).name_ (gl l (i-1)).name_)=true then 6 else 0
def crC (l:List Crop):Int:=if 40<l.length then 1 else (((List.range l.length).map (crE l)).find? fun c=>c != 0).getD 0
def NmS (l:List Crop):Prop:=∀ x ∈ l,x.name_.size≤4294967296
theorem crE5 {l:List Crop} {i:Nat} (h:nameB (gl l i).name_=false):crE l i=5:=by unfold crE; rw [if_pos h]
theorem crE2 {l:List Crop} {i:Nat} (h:nameB (gl l i).name_=true) (h2:(gl l i).family_<0∨40<(gl l i).family_):crE l i=2:=by
 unfold crE; rw [if_neg (by rw [h]; simp),if_pos h2]
theorem crE14 {l:List Crop} {i:Nat} (h:nameB (gl l i).name_=true) (h2 : ¬ ((gl l i).family_<0∨40<(gl l i).family_)) (h3:(gl l i).marks_<0∨31<(gl l i).marks_):crE l i=14:=by
 unfold crE; rw [if_neg (by rw [h]; simp),if_neg h2,if_pos h3]
theorem crE6 {l:List Crop} {i:Nat} (h:nameB (gl l i).name_=true) (h2 : ¬ ((gl l i).family_<0∨40<(gl l i).family_)) (h3 : ¬ ((gl l i).marks_<0∨31<(gl l i).marks_))
  (h4:0<i∧(sLt (gl l i).name_ (gl l (i-1)).name_||sEq (gl l i).name_ (gl l (i-1)).name_)=true):crE l i=6:=by
 unfold crE; rw [if_neg (by rw [h]; simp),if_neg h2,if_neg h3,if_pos h4]
theorem crE0 {l:List Crop} {i:Nat} (h:nameB (gl l i).name_=true) (h2 : ¬ ((gl l i).family_<0∨40<(gl l i).family_)) (h3 : ¬ ((gl l i).marks_<0∨31<(gl l i).marks_))
  (h4 : ¬ (0<i∧(sLt (gl l i).name_ (gl l (i-1)).name_||sEq (gl l i).name_ (gl l (i-1)).name_)=true)):crE l i=0:=by
 unfold crE; rw [if_neg (by rw [h]; simp),if_neg h2,if_neg h3,if_neg h4]
theorem crop_Check_gen {F:Nat} (hF:BIG≤F) {l:List Crop} (hn:NmS l):crop_Check F l=some (crC l):=by
 have hF' := hF
 unfold BIG at hF
 unfold crop_Check crC
 refine br_ok (fun h=>?_) (fun h=>?_)
 ·rw [if_pos (by have:=of_decide_eq_true h; omega)]
 have hl:l.length≤40:=by have:=of_decide_eq_false h; omega
 rw [if_neg (by omega)]
 have main : ∀ (again:Int→Option Int) (i:Nat),i<l.length→crop_Check_b0 F l again (i:Int)=if crE l i=0 then again ((i:Int)+1) else some (crE l i):=by
  intro again i hi
  unfold crop_Check_b0
  simp only [Int.toNat_natCast]
  have hs:=hn _ (gl_mem hi)
  refine br_tt (decide_eq_true (by omega)) (gd_ok (by omega) (bd_ok (words_Name_ok (by omega) hs) ?_))
  refine br_ok (fun h1=>?_) (fun h1=>?_)
  ·have h1:nameB (gl l i).name_=false:=by simpa using h1
   rw [crE5 h1,if_neg (by decide)]
  have h1:nameB (gl l i).name_=true:=by simpa using h1
  have k1t:(gl l i).family_<0∨40<(gl l i).family_→crop_Check_k1 F l (i:Int) again true=if crE l i=0 then again ((i:Int)+1) else some (crE l i):=fun h=>by
   rw [crE2 h1 h,if_neg (by decide)]
   unfold crop_Check_k1
   exact br_tt rfl rfl
  refine br_ok (fun h2=>k1t (.inl (of_decide_eq_true h2))) (fun h2=>?_)
  have h2:=of_decide_eq_false h2
  by_cases h3:40<(gl l i).family_
  ·rw [decide_eq_true h3]; exact k1t (.inr h3)
  have hf : ¬ ((gl l i).family_<0∨40<(gl l i).family_):=by omega
  rw [decide_eq_false h3]
  unfold crop_Check_k1
  simp only [Int.toNat_natCast]
  refine br_ff rfl ?_
  have k2t:(gl l i).marks_<0∨31<(gl l i).marks_→crop_Check_k2 F l (i:Int) again true=if crE l i=0 then again ((i:Int)+1) else some (crE l i):=fun h=>by
   rw [crE14 h1 hf h,if_neg (by decide)]
   unfold crop_Check_k2
   exact br_tt rfl rfl
  refine br_ok (fun h4=>k2t (.inl (of_decide_eq_true h4))) (fun h4=>?_)
  have h4:=of_decide_eq_false h4
  by_cases h5:31<(gl l i).marks_
  ·rw [decide_eq_true h5]; exact k2t (.inr h5)
  have hm : ¬ ((gl l i).marks_<0∨31<(gl l i).marks_):=by omega
  rw [decide_eq_false h5]
  unfold crop_Check_k2
  simp only [Int.toNat_natCast]
  refine br_ff rfl ?_
  refine br_ok (fun h6=>?_) (fun h6=>?_)
  ·have h6:0<i:=by have:=of_decide_eq_true h6; omega
   have e1:((i:Int)-1).toNat=i-1:=by omega
   refine gd_ok (i64_of (by omega) (by omega)) (gd_ok (by omega) ?_)
   rw [e1]
   unfold crop_Check_k3
   refine br_ok (fun h7=>?_) (fun h7=>?_)
   ·rw [crE6 h1 hf hm ⟨h6,h7⟩,if_neg (by decide)]
   ·rw [crE0 h1 hf hm (fun hh=>by rw [hh.2] at h7; cases h7),if_pos rfl]
    exact gd_ok (i64_of (by omega) (by omega)) rfl
  ·have h6 : ¬ 0<i:=by have:=of_decide_eq_false h6; omega
   rw [crE0 h1 hf hm (fun hh=>h6 hh.1),if_pos rfl]
   unfold crop_Check_k3
   exact br_ff rfl (gd_ok (i64_of (by omega) (by omega)) rfl)
 refine scanE_ok l.length (crE l) (fun again i hi hp=>?_) (fun again i z hi hp hz=>?_) (fun again=>?_) (by omega)
 ·rw [main again i hi,if_neg hp]
 ·rw [main again i hi,if_pos hp]; exact hz
 ·unfold crop_Check_b0
  exact br_ff (decide_eq_false (by omega)) rfl
theorem ref12_Check_gen {F:Nat} (hF:BIG≤F) (l:List Crop):ref12_Check F l=some (crC l):=by
 have hF' := hF
 unfold BIG at hF
 unfold ref12_Check crC
 refine br_ok (fun h=>?_) (fun h=>?_)
 ·rw [if_pos (by have:=of_decide_eq_true h; omega)]
 have hl:l.length≤40:=by have:=of_decide_eq_false h; omega
 rw [if_neg (by omega)]
 have one : ∀ x:Crop,ref12_one F x=some (if nameB x.name_=false then 5 else if x.family_<0∨40<x.family_ then 2 else if x.marks_<0∨31<x.marks_ then 14 else 0):=by
  intro x
  unfold ref12_one
  refine bd_ok (ref02_Name_gen hF' _) ?_
  refine br_ok (fun h1=>?_) (fun h1=>?_)
  ·have h1:nameB x.name_=false:=by simpa using h1
   rw [if_pos h1]
  have h1:nameB x.name_=true:=by simpa using h1
  rw [if_neg (by rw [h1]; simp)]
  have k0t:x.family_<0∨40<x.family_→ref12_one_k0 F x true=some (if x.family_<0∨40<x.family_ then 2 else if x.marks_<0∨31<x.marks_ then 14 else 0):=fun h=>by
   rw [if_pos h]; unfold ref12_one_k0; exact br_tt rfl rfl
  refine br_ok (fun h2=>k0t (.inl (of_decide_eq_true h2))) (fun h2=>?_)
  have h2:=of_decide_eq_false h2
  by_cases h3:40<x.family_
  ·rw [decide_eq_true h3]; exact k0t (.inr h3)
  rw [decide_eq_false h3,if_neg (by omega)]
  unfold ref12_one_k0
  refine br_ff rfl ?_
  have k1t:x.marks_<0∨31<x.marks_→ref12_one_k1 F true=some (if x.marks_<0∨31<x.marks_ then 14 else 0):=fun h=>by
   rw [if_pos h]; unfold ref12_one_k1; exact br_tt rfl rfl
  refine br_ok (fun h4=>k1t (.inl (of_decide_eq_true h4))) (fun h4=>?_)
  have h4:=of_decide_eq_false h4
  by_cases h5:31<x.marks_
  ·rw [decide_eq_true h5]; exact k1t (.inr h5)
  rw [decide_eq_false h5,if_neg (by omega)]
  unfold ref12_one_k1
  exact br_ff rfl rfl
 have main : ∀ (again:Int→Option Int) (i:Nat),i<l.length→ref12_Check_b0 F l again (i:Int)=if crE l i=0 then again ((i:Int)+1) else some (crE l i):=by
  intro again i hi
  unfold ref12_Check_b0
  simp only [Int.toNat_natCast]
  refine br_tt (decide_eq_true (by omega)) (gd_ok (by omega) (bd_ok (one _) ?_))
  by_cases h0:(if nameB (gl l i).name_=false then (5:Int) else if (gl l i).family_<0∨40<(gl l i).family_ then 2 else if (gl l i).marks_<0∨31<(gl l i).marks_ then 14 else 0)=0
  ·have h1 : ¬ nameB (gl l i).name_=false:=fun h=>by rw [if_pos h] at h0; cases h0
   rw [if_neg h1] at h0
   have h2 : ¬ ((gl l i).family_<0∨40<(gl l i).family_):=fun h=>by rw [if_pos h] at h0; cases h0
   rw [if_neg h2] at h0
   have h3 : ¬ ((gl l i).marks_<0∨31<(gl l i).marks_):=fun h=>by rw [if_pos h] at h0; cases h0
   rw [if_neg h3] at h0
   have hn1:nameB (gl l i).name_=true:=by simpa using h1
   rw [if_neg h1,if_neg h2,if_neg h3]
   refine br_ff rfl ?_
   refine br_ok (fun h6=>?_) (fun h6=>?_)
   ·have h6:0<i:=by have:=of_decide_eq_true h6; omega
    have e1:((i:Int)-1).toNat=i-1:=by omega
    refine gd_ok (i64_of (by omega) (by omega)) (gd_ok (by omega) ?_)
    rw [e1]
    unfold ref12_Check_k1
    refine br_ok (fun h7=>?_) (fun h7=>?_)
    ·rw [crE6 hn1 h2 h3 ⟨h6,h7⟩,if_neg (by decide)]
    ·rw [crE0 hn1 h2 h3 (fun hh=>by rw [hh.2] at h7; cases h7),if_pos rfl]
     exact gd_ok (i64_of (by omega) (by omega)) rfl
   ·have h6 : ¬ 0<i:=by have:=of_decide_eq_false h6; omega
    rw [crE0 hn1 h2 h3 (fun hh=>h6 hh.1),if_pos rfl]
    unfold ref12_Check_k1
    exact br_ff rfl (gd_ok (i64_of (by omega) (by omega)) rfl)
  ·have h5:crE l i=if nameB (gl l i).name_=false then (5:Int) else if (gl l i).family_<0∨40<(gl l i).family_ then 2 else if (gl l i).marks_<0∨31<(gl l i).marks_ then 14 else 0:=by
    unfold crE
    split
    ·rfl
    ·split
     ·rfl
     ·split
      ·rfl
      ·rename_i g1 g2 g3
       rw [if_neg g1,if_neg g2,if_neg g3] at h0
       exact absurd rfl h0
   rw [h5,if_neg h0]
   exact br_tt (by simpa using h0) rfl
 refine scanE_ok l.length (crE l) (fun again i hi hp=>?_) (fun again i z hi hp hz=>?_) (fun again=>?_) (by omega)
 ·rw [main again i hi,if_neg hp]
 ·rw [main again i hi,if_pos hp]; exact hz
 ·unfold ref12_Check_b0
  exact br_ff (decide_eq_false (by omega)) rfl
end
end Go.Ab
end

section
namespace Go.Ab
set_option maxRecDepth 20000
noncomputable section
def lisG (kc n:Int) (l:List Record):Int:=if chkH l≠0 then chkH l else if kc≠0 then kc else if l.any (fun f=>decide (n≤f.crop_)) then 13 else 0
def yrB (ys:List Int):Bool:=ys.any fun y=>decide (y<0)||decide (100<y)
structure Crk (F:Nat) (cs:List Crop) (kc:Int):Prop where
 p:crop_Check F cs=some kc
 r:ref12_Check F cs=some kc
 n:cs.length≤40
theorem history_Listed_g {F:Nat} (hF:BIG≤F) {kc:Int} {cs:List Crop} (hc:Crk F cs kc) (l:List Record):history_Listed F l cs=some (lisG kc (cs.length:Nat) l):=by
 unfold history_Listed lisG
 refine bd_ok (history_Check_ok hF l) (br_ok (fun h=>?_) (fun h=>?_))
 ·rw [if_pos (by simpa using h)]
 ·have h:chkH l=0:=by simpa using h
  rw [if_neg (by simp [h])]
  refine bd_ok hc.p (br_ok (fun h2=>?_) (fun h2=>?_))
  ·rw [if_pos (by simpa using h2)]
  ·have h2:kc=0:=by simpa using h2
   rw [if_neg (by simp [h2])]
   refine bd_ok (slices_ContainsFunc_Record_ok hF (fun f=>decide (((cs.length:Nat):Int)≤f.crop_)) (by have:=((chkH_zero l).1 h).len; omega) (fun f _=>rfl)) ?_
   refine br_ok (fun h3=>?_) (fun h3=>?_)
   ·rw [if_pos h3]
   ·rw [if_neg (by rw [h3]; simp)]
theorem ref15_With_g {F:Nat} (hF:BIG≤F) {kc:Int} {cs:List Crop} (hc:Crk F cs kc) (l:List Record):ref15_With F l cs=some (lisG kc (cs.length:Nat) l):=by
 have hF' := hF
 unfold BIG at hF
 unfold ref15_With lisG
 refine bd_ok (ref15_Check_ok hF' l) (br_ok (fun h=>?_) (fun h=>?_))
 ·rw [if_pos (by simpa using h)]
 ·have h:chkH l=0:=by simpa using h
  have hlen:=((chkH_zero l).1 h).len
  rw [if_neg (by simp [h])]
  refine bd_ok hc.r (br_ok (fun h2=>?_) (fun h2=>?_))
  ·rw [if_pos (by simpa using h2)]
  ·have h2:kc=0:=by simpa using h2
   rw [if_neg (by simp [h2])]
   refine loopN_ok (fun z:Int=>∃ i:Nat,z=i∧i≤l.length∧∀ j,j<i→decide (((cs.length:Nat):Int)≤(gl l j).crop_)=false) (fun z=>l.length-z.toNat) (fun again z hz ih=>?_) ⟨0,rfl,by omega,fun j hj=>absurd hj (Nat.not_lt_zero j)⟩ (by simp; omega)
   obtain ⟨i,rfl,hi,hp⟩:=hz
   unfold ref15_With_b0
   simp only [Int.toNat_natCast]
   refine br_ok (fun h3=>?_) (fun h3=>?_)
   ·have h3:i<l.length:=by simpa using h3
    refine gd_G (k:=?_)
    refine br_ok (fun h4=>?_) (fun h4=>?_)
    ·rw [if_pos (List.any_eq_true.2 ⟨_,gl_mem h3,h4⟩)]
    ·refine gd_G (k:=?_)
     refine ih _ ⟨i+1,by omega,h3,fun j hj=>?_⟩ (by omega)
     rcases Nat.lt_or_ge j i with h5 | h5
     ·exact hp j h5
     ·have:j=i:=by omega
      subst this; exact h4
   ·have h3:i=l.length:=by
     have : ¬ i<l.length:=by simpa using h3
     omega
    subst h3
    unfold ref15_With_k1
    rw [any_of_before (p:=fun f:Record=>decide (((cs.length:Nat):Int)≤f.crop_)) hp]; rfl
theorem lisG_zero {kc n:Int} {l:List Record} (h:lisG kc n l=0):HL l∧kc=0∧∀ f ∈ l,f.crop_<n:=by
 unfold lisG at h
 by_cases h1:chkH l≠0
 ·rw [if_pos h1] at h; exact absurd h h1
 ·rw [if_neg h1] at h
  have h1:chkH l=0:=Decidable.not_not.1 h1
  by_cases h2:kc≠0
  ·rw [if_pos h2] at h; exact absurd h h2
  ·rw [if_neg h2] at h
   refine ⟨(chkH_zero l).1 h1,Decidable.not_not.1 h2,fun f hf=>?_⟩
   by_cases h3:l.any (fun f=>decide (n≤f.crop_))=true
   ·rw [if_pos h3] at h; omega
   ·have h3:l.any (fun f=>decide (n≤f.crop_))=false:=by simpa using h3
    have:=List.any_eq_false.1 h3 f hf
    simp at this; omega
def begG (e:Int) (ys:List Int):Int:=if e≠0 then e else if yrB ys then 18 else 0
def chkG (e:Int) (ys:List Int) (rs:List Region):Int:=if begG e ys≠0 then begG e ys else if rs.any (fun r=> !valB r.rects_) then 7 else 0
theorem begG_zero {e:Int} {ys:List Int}:begG e ys=0↔e=0∧∀ y ∈ ys,0≤y∧y≤100:=by
 unfold begG
 have hy:yrB ys=false↔∀ y ∈ ys,0≤y∧y≤100:=by
  unfold yrB
  rw [List.any_eq_false]
  constructor
  ·intro h y hy; have:=h y hy; simp at this; omega
  ·intro h y hy; have:=h y hy; simp; omega
 by_cases h:e=0
 ·rw [if_neg (by simp [h])]
  cases h2:yrB ys with
  | true=>rw [h2] at hy; simp [h] at hy ⊢; exact hy
  | false=>rw [h2] at hy; simp [h] at hy ⊢; exact hy
 ·rw [if_pos h]
  exact ⟨fun h2=>absurd h2 h,fun h2=>absurd h2.1 h⟩
theorem records_check_g {F:Nat} (hF:BIG≤F) {kc:Int} {cs:List Crop} (hc:Crk F cs kc) (l:List Record) {rs:List Region} {ys:List Int} (h1:rs.length≤100) (h2:ys.length≤100) :
  grassland_records_check F ⟨l,cs⟩ rs ys=some (chkG (lisG kc (cs.length:Nat) l) ys rs):=by
 unfold grassland_records_check
 refine bd_ok (history_Check_ok hF l) (br_ok (fun h=>?_) (fun h=>?_))
 ·have h:chkH l≠0:=by simpa using h
  have e:lisG kc (cs.length:Nat) l=chkH l:=by unfold lisG; rw [if_pos h]
  have e2:begG (chkH l) ys=chkH l:=by unfold begG; rw [if_pos h]
  unfold chkG
  rw [e,e2,if_pos h]
 ·refine bd_ok (history_Listed_g hF hc l) ?_
  generalize lisG kc (cs.length:Nat) l=e
  refine br_ok (fun h3=>?_) (fun h3=>?_)
  ·have h3:e≠0:=by simpa using h3
   have e2:begG e ys=e:=by unfold begG; rw [if_pos h3]
   unfold chkG
   rw [e2,if_pos h3]
  ·have h3:e=0:=by simpa using h3
   subst h3
   refine bd_ok (slices_ContainsFunc_int_ok hF (fun y=>decide (y<0)||decide (100<y)) (by omega) (fun y _=>by
    unfold grassland_records_check_1
    rw [or_br (grassland_records_check_1_k0 F)]; rfl)) ?_
   have eb:begG 0 ys=if yrB ys then 18 else 0:=by unfold begG; rw [if_neg (by simp)]
   unfold chkG
   rw [eb]
   refine br_ok (fun h4=>?_) (fun h4=>?_)
   ·have h4:yrB ys=true:=h4
    simp [h4]
   ·have h4:yrB ys=false:=h4
    refine bd_ok (slices_ContainsFunc_Region_ok hF (fun r=> !valB r.rects_) (by omega) (fun r _=>by
     unfold grassland_records_check_2
     exact bd_ok (region_Valid_ok hF r) rfl)) ?_
    simp only [h4,Bool.false_eq_true,if_false,ne_eq,not_true_eq_false]
    rw [br_some]
theorem ref20_begin_g {F:Nat} (hF:BIG≤F) {kc:Int} {cs:List Crop} (hc:Crk F cs kc) (l:List Record) {ys:List Int} (h2:ys.length≤100):ref20_begin F l cs ys=some (begG (lisG kc (cs.length:Nat) l) ys):=by
 have hF' := hF
 unfold BIG at hF
 unfold ref20_begin
 refine bd_ok (ref15_With_g hF' hc l) ?_
 generalize lisG kc (cs.length:Nat) l=e
 unfold begG
 refine br_ok (fun h3=>?_) (fun h3=>?_)
 ·rw [if_pos (by simpa using h3)]
 ·rw [if_neg (by simpa using h3)]
  refine loopN_ok (fun z:Int=>∃ i:Nat,z=i∧i≤ys.length∧∀ j,j<i→(decide (gl ys j<0)||decide (100<gl ys j))=false) (fun z=>ys.length-z.toNat) (fun again z hz ih=>?_) ⟨0,rfl,by omega,fun j hj=>absurd hj (Nat.not_lt_zero j)⟩ (by simp; omega)
  obtain ⟨i,rfl,hi,hp⟩:=hz
  unfold ref20_begin_b0
  simp only [Int.toNat_natCast]
  rw [or_br (ref20_begin_k1 F i again)]
  refine br_ok (fun h4=>?_) (fun h4=>?_)
  ·have h4:i<ys.length:=by simpa using h4
   refine gd_ok (by omega) ?_
   unfold ref20_begin_k1
   refine br_ok (fun h5=>?_) (fun h5=>?_)
   ·have hh:yrB ys=true:=List.any_eq_true.2 ⟨_,gl_mem h4,h5⟩
    rw [if_pos hh]
   ·refine gd_ok (i64_of (by omega) (by omega)) (ih _ ⟨i+1,by omega,h4,fun j hj=>?_⟩ (by omega))
    rcases Nat.lt_or_ge j i with h6 | h6
    ·exact hp j h6
    ·have:j=i:=by omega
     subst this; exact h5
  ·have h4:i=ys.length:=by
    have : ¬ i<ys.length:=by simpa using h4
    omega
   subst h4
   unfold ref20_begin_k2
   have:yrB ys=false:=any_of_before (p:=fun y:Int=>decide (y<0)||decide (100<y)) hp
   rw [this]; rfl
def mkB (cs:List Crop) (m c:Int):Bool:=decide (m=0)||(band .i64 (gl cs c.toNat).marks_ m==m)
theorem yrs_cong {l:List Record} {y:Int} {p q:Int→Bool} (h : ∀ f ∈ l,p f.crop_=q f.crop_):yrs l y p=yrs l y q:=by
 unfold yrs
 congr 1
 exact List.filter_congr fun f hf=>by rw [h f hf]
theorem cn_yrs9 {K:Int} {l:List Record} (h:HisT K l) (y:Int) (p:Int→Bool):Box (9:Nat) (cn (inR (yrs l y p)))∧(cn (inR (yrs l y p))).length≤45:=by
 have hb:Box (9:Nat) (cn (inR (yrs l y p))):=(Canon.cn (fin_inR _)).box fun u v hh=>by
  rw [inR_cn (fin_inR _)] at hh
  exact box_of (yrs_box h) hh
 have:=Canon.half (Canon.cn (fin_inR (yrs l y p))) (n:=9) hb
 exact ⟨hb,by omega⟩
theorem HisT.take {K:Int} {l:List Record} (h:HisT K l) (i:Nat) {y:Int} {p:Int→Bool}:(cn (inR (yrs (l.take i) y p))).length≤45:=by
 have hb:Box (9:Nat) (cn (inR (yrs (l.take i) y p))):=(Canon.cn (fin_inR _)).box fun u v hh=>by
  rw [inR_cn (fin_inR _)] at hh
  obtain ⟨f,hf,_,_,hin⟩:=yrs_in.1 hh
  exact box_of (h.box f (List.mem_of_mem_take hf)) hin
 have:=Canon.half (Canon.cn (fin_inR (yrs (l.take i) y p))) (n:=9) hb
 omega
theorem ref15_Squares_g {F:Nat} (hF:BIG≤F) {cs:List Crop} {l:List Record} (h:HisT (cs.length:Nat) l) (y m:Int):ref15_Squares F l cs y (-1) m=some (cn (inR (yrs l y (mkB cs m)))):=by
 have hF' := hF
 unfold BIG at hF
 have hlen:=h.hl.len
 unfold ref15_Squares
 refine loopN_ok (fun z:List Rect×Int=>∃ i:Nat,z=(cn (inR (yrs (l.take i) y (mkB cs m))),(i:Int))∧i≤l.length) (fun z=>l.length-z.2.toNat) (fun again z hz ih=>?_) ⟨0, ?_,by omega⟩ (by simp only; omega)
 ·obtain ⟨i,rfl,hi⟩:=hz
  simp only at ih ⊢
  unfold ref15_Squares_b0
  simp only [Int.toNat_natCast]
  refine br_ok (fun h2=>?_) (fun h2=>?_)
  ·have h2:i<l.length:=by simpa using h2
   have hv:=h.hl.val (gl_mem h2)
   have hr:=(recC_zero _).1 (h.hl.one _ (gl_mem h2))
   have hcr:=h.crop _ (gl_mem h2)
   have e:=yrs_snoc (l.take i) (gl l i) y (mkB cs m)
   rw [← take_gl h2] at e
   have step : ∀ acc,acc=cn (inR (yrs (l.take (i+1)) y (mkB cs m)))→ref15_Squares_k2 F i again acc=some (cn (inR (yrs l y (mkB cs m)))):=by
    rintro acc rfl
    unfold ref15_Squares_k2
    refine gd_G (k:=?_)
    exact ih _ ⟨i+1,rfl,h2⟩ (by simp only; omega)
   have k1 : ∀ b:Bool,b=(decide ((gl l i).year_=y)&&mkB cs m (gl l i).crop_)→ref15_Squares_k1 F l (cn (inR (yrs (l.take i) y (mkB cs m)))) i again b=some (cn (inR (yrs l y (mkB cs m)))):=by
    intro b hb
    unfold ref15_Squares_k1
    simp only [Int.toNat_natCast]
    refine br_ok (fun h3=>?_) (fun h3=>?_)
    ·refine bd_ok (ref04_Combine_small hF' (by have:=h.take i (y:=y) (p:=mkB cs m); have:=hv.1; omega)) (step _ ?_)
     rw [e,if_pos (by rw [← hb,h3])]
     congr 1
     funext u v
     rw [inR_cn (fin_inR _),inR_app]
     simp [keepB]
    ·refine step _ ?_
     rw [e,if_neg (by rw [← hb,h3]; simp),List.append_nil]
   refine gd_G (k:=?_)
   refine br_ok (fun h3=>?_) (fun h3=>?_)
   ·have h3:(gl l i).year_=y:=by simpa using h3
    refine br_tt (by decide) (br_ok (fun h5=>?_) (fun h5=>?_))
    ·have h5:m=0:=by simpa using h5
     refine k1 _ ?_
     unfold mkB
     rw [decide_eq_true h3,decide_eq_true h5]; rfl
    ·have h5:m≠0:=by simpa using h5
     refine gd_ok ⟨hr.2.2.1,hcr⟩ (k1 _ ?_)
     unfold mkB
     rw [decide_eq_true h3,decide_eq_false h5]; rfl
   ·have h3 : ¬ (gl l i).year_=y:=by simpa using h3
    refine k1 _ ?_
    rw [decide_eq_false h3,Bool.false_and]
  ·have h2:i=l.length:=by
    have : ¬ i<l.length:=by simpa using h2
    omega
   subst h2
   unfold ref15_Squares_k3
   rw [List.take_length]
 ·have:cn (inR (yrs (l.take 0) y (mkB cs m)))=[]:=(cn_nil_iff (fin_inR _)).2 fun u v=>by
   simp [yrs,inR]
  rw [this]; rfl
theorem mkB_grass {cs:List Crop} {l:List Record} (h:HisT (cs.length:Nat) l) (y:Int):yrs l y (mkB cs 2)=yrs l y fun c=>hasB cs c 2:=yrs_cong fun f hf=>by
 have hr:=(recC_zero _).1 (h.hl.one _ hf)
 have hc:=h.crop _ hf
 unfold mkB hasB
 rw [decide_eq_true hr.2.2.1,decide_eq_true hc]
 simp
theorem mkB_all (cs:List Crop) (l:List Record) (y:Int):yrs l y (mkB cs 0)=yrs l y fun _=>true:=yrs_cong fun f _=>by unfold mkB; simp
end
end Go.Ab
end

section
namespace Go.Ab
set_option maxRecDepth 20000
noncomputable section
theorem perm_two {F:Nat} (hF:BIG≤F) {cs:List Crop} {l:List Record} (h:HisT (cs.length:Nat) l) (hl:l.length≤50) {y:Int} (hy : -1≤y∧y≤100) :
  ∃ T,grassland_records_permanent F ⟨l,cs⟩ y=some T∧ref20_permanent F l cs y=some (cn (inR T))∧Box 9 T∧T.length≤2250∧∀ u v,inR T u v=true↔4≤y∧∀ k,y-4≤k→k≤y→inR (yrs l k fun c=>hasB cs c 2) u v=true:=by
 have hF' := hF
 unfold BIG at hF
 have hT : ∃ T:List Rect,grassland_records_permanent F ⟨l,cs⟩ y=some T∧Box 9 T∧T.length≤2250∧∀ u v,inR T u v=true↔4≤y∧∀ k,y-4≤k→k≤y→inR (yrs l k fun c=>hasB cs c 2) u v=true:=by
  by_cases h0:y<0
  ·refine ⟨[], ?_,fun r hr=>(List.not_mem_nil hr).elim,by simp,fun u v=>⟨fun hh=>by simp [inR] at hh,fun hh=>by have:=hh.1; omega⟩⟩
   unfold grassland_records_permanent
   exact br_tt (decide_eq_true (by omega)) rfl
  ·exact grassland_permanent_ok hF' h hl cs ⟨by omega,by omega⟩
 obtain ⟨T,t1,t2,t3,t4⟩:=hT
 refine ⟨T,t1, ?_,t2,t3,t4⟩
 unfold ref20_permanent
 by_cases hy4:y<4
 ·refine br_tt (decide_eq_true hy4) ?_
  congr 1
  symm
  refine (cn_nil_iff (fin_inR _)).2 fun u v=>?_
  rw [← Bool.not_eq_true,t4]
  rintro ⟨h1,_⟩; omega
 ·refine br_ff (decide_eq_false hy4) ?_
  have gr : ∀ k,ref20_grass F l cs k=some (cn (inR (yrs l k fun c=>hasB cs c 2))):=fun k=>by
   unfold ref20_grass
   refine bd_ok (ref15_Squares_g hF' h k 2) ?_
   rw [mkB_grass h]
  refine bd_ok (gr y) (gd_ok (i64_of (by omega) (by omega)) ?_)
  refine loopN_ok (fun z:List Rect×Int=>∃ S:Int→Int→Bool,Fin S∧z.1=cn S∧Box (9:Nat) (cn S)∧y-4≤z.2∧z.2≤y∧∀ u v,S u v=true↔(∀ k,y-4≤k→k<z.2→inR (yrs l k fun c=>hasB cs c 2) u v=true)∧inR (yrs l y fun c=>hasB cs c 2) u v=true) (fun z=>(y-z.2).toNat) (fun again z hz ih=>?_) ⟨inR (yrs l y fun c=>hasB cs c 2),fin_inR _,rfl,(cn_yrs9 h _ _).1,by simp only; omega,by simp only; omega,fun u v=>?_⟩ (by simp only; omega)
  ·obtain ⟨z1,j⟩:=z
   obtain ⟨S,hf,e1,hb,j1,j2,hS⟩:=hz
   simp only at e1 j1 j2 hS ih ⊢
   subst e1
   unfold ref20_permanent_b0
   refine br_ok (fun h1=>?_) (fun h1=>?_)
   ·have h1:=of_decide_eq_true h1
    have h45:=Canon.half (Canon.cn hf) (n:=9) hb
    have h45' := (cn_yrs9 h j fun c=>hasB cs c 2).2
    have hfc:=fin_comb (cn S) (cn (inR (yrs l j fun c=>hasB cs c 2))) 2
    refine bd_ok (gr j) (bd_ok (ref04_Combine_small hF' (by omega)) (gd_ok (i64_of (by omega) (by omega)) ?_))
    have hin : ∀ u v,keepB (inR (cn S) u v) (inR (cn (inR (yrs l j fun c=>hasB cs c 2))) u v) 2=true↔S u v=true∧inR (yrs l j fun c=>hasB cs c 2) u v=true:=fun u v=>by
     rw [inR_cn hf,inR_cn (fin_inR _)]
     simp [keepB]
    refine ih _ ⟨_,hfc,rfl,(Canon.cn hfc).box fun u v hh=>?_,by simp only; omega,by simp only; omega,fun u v=>?_⟩ (by simp only; omega)
    ·rw [inR_cn hfc,hin] at hh
     exact box_of hb (by rw [inR_cn hf]; exact hh.1)
    ·rw [hin,hS]
     constructor
     ·rintro ⟨⟨h2,h3⟩,h4⟩
      refine ⟨fun k h5 h6=>?_,h3⟩
      by_cases h7:k<j
      ·exact h2 k h5 h7
      ·have:k=j:=by simp only at h6; omega
       subst this; exact h4
     ·rintro ⟨h2,h3⟩
      exact ⟨⟨fun k h5 h6=>h2 k h5 (by simp only; omega),h3⟩,h2 j j1 (by simp only; omega)⟩
   ·have h1:=of_decide_eq_false h1
    have:j=y:=by omega
    subst this
    unfold ref20_permanent_k1
    congr 2
    funext u v
    rw [Bool.eq_iff_iff,hS,t4]
    constructor
    ·rintro ⟨h2,h3⟩
     refine ⟨by omega,fun k h5 h6=>?_⟩
     by_cases h7:k<j
     ·exact h2 k h5 h7
     ·have:k=j:=by omega
      subst this; exact h3
    ·rintro ⟨_,h2⟩
     exact ⟨fun k h5 h6=>h2 k h5 (by omega),h2 j (by omega) (Int.le_refl _)⟩
  ·simp only
   exact ⟨fun hh=>⟨fun k h5 h6=>by omega,hh⟩,fun hh=>hh.2⟩
theorem bound9 {T:List Rect} (h:Box 9 T):(cn (inR T)).length≤45:=by
 have:=Canon.half (Canon.cn (fin_inR T)) (n:=9) (region_val9 h).2
 omega
section
variable {F:Nat} {kc:Int} {cs:List Crop} {l:List Record}
theorem his_of (hb : ∀ f ∈ l,Box 9 f.region_.rects_) (h:lisG kc (cs.length:Nat) l=0):HisT (cs.length:Nat) l:=by
 obtain ⟨h1,_,h3⟩:=lisG_zero h
 exact ⟨h1,hb,h3⟩
theorem permanent_eq (hF:BIG≤F) (hc:Crk F cs kc) (hb : ∀ f ∈ l,Box 9 f.region_.rects_) (hl:l.length≤50) (y:Int) : ∃ r,grassland_Permanent F l cs y=some r∧ref20_Permanent F l cs y=some r∧r.1.rects_.length≤120:=by
 have hF' := hF
 by_cases hg:begG (lisG kc (cs.length:Nat) l) [y]=0
 ·obtain ⟨h0,hy⟩:=begG_zero.1 hg
  have hy:=hy y (by simp)
  have h:=his_of hb h0
  obtain ⟨T,t1,t2,t3,t4,t5⟩:=perm_two hF' h hl (y:=y) ⟨by omega,hy.2⟩
  have h45:=bound9 t3
  refine ⟨(⟨cn (inR T)⟩,0), ?_, ?_,by simp only; omega⟩
  ·unfold grassland_Permanent
   refine bd_ok (records_check_g hF' hc l (by simp) (by simp)) (br_ff ?_ ?_)
   ·unfold chkG; rw [hg]; rfl
   ·refine bd_ok t1 (bd_ok (region_Joined_ok hF' (by omega) (lt_prop (box_prop t3))) ?_)
    rw [if_neg (by omega)]
  ·unfold ref20_Permanent
   refine bd_ok (ref20_begin_g hF' hc l (by simp)) (br_ff (by rw [hg]; rfl) ?_)
   refine bd_ok t2 (bd_ok (ref04_Bound_ok _) ?_)
   rw [if_neg (by omega)]
 ·refine ⟨(⟨[]⟩,begG (lisG kc (cs.length:Nat) l) [y]), ?_, ?_,by simp⟩
  ·unfold grassland_Permanent
   have e:chkG (lisG kc (cs.length:Nat) l) [y] []=begG (lisG kc (cs.length:Nat) l) [y]:=by unfold chkG; rw [if_pos hg]
   refine bd_ok (records_check_g hF' hc l (by simp) (by simp)) ?_
   rw [e]
   exact br_tt (by simpa using hg) rfl
  ·unfold ref20_Permanent
   exact bd_ok (ref20_begin_g hF' hc l (by simp)) (br_tt (by simpa using hg) rfl)
theorem ploughed_two (hF:BIG≤F) (h:HisT (cs.length:Nat) l) (hl:l.length≤50) {y:Int} (hy:0≤y∧y≤100) :
  ∃ P,grassland_records_ploughed F ⟨l,cs⟩ y=some P∧ref20_ploughed F l cs y=some (cn (inR P))∧Box 9 P∧P.length≤2250:=by
 have hF' := hF
 unfold BIG at hF
 obtain ⟨P,p1,p2,p3,p4⟩:=records_ploughed_ok hF' h hl cs hy
 obtain ⟨T,t1,t2,t3,t4,t5⟩:=perm_two hF' h hl (y:=y-1) ⟨by omega,by omega⟩
 refine ⟨P,p1, ?_,p2,p3⟩
 have h45:=bound9 t3
 have k45:=(cn_yrs9 h y fun _=>true).2
 have g45:=(cn_yrs9 h y fun c=>hasB cs c 2).2
 have hf1:=fin_comb (cn (inR T)) (cn (inR (yrs l y fun _=>true))) 2
 have hb1:Box (9:Nat) (cn fun u v=>keepB (inR (cn (inR T)) u v) (inR (cn (inR (yrs l y fun _=>true))) u v) 2):=(Canon.cn hf1).box fun u v hh=>by
  rw [inR_cn hf1] at hh
  simp [keepB] at hh
  exact box_of (region_val9 t3).2 hh.1
 have h145:=Canon.half (Canon.cn hf1) (n:=9) hb1
 unfold ref20_ploughed
 refine bd_ok (ref15_Squares_g hF' h y 0) ?_
 rw [mkB_all]
 refine gd_ok (i64_of (by omega) (by omega)) (bd_ok t2 (bd_ok (ref04_Combine_small hF' (by omega)) ?_))
 have gr:ref20_grass F l cs y=some (cn (inR (yrs l y fun c=>hasB cs c 2))):=by
  unfold ref20_grass
  refine bd_ok (ref15_Squares_g hF' h y 2) ?_
  rw [mkB_grass h]
 refine bd_ok gr (bd_ok (ref04_Combine_small hF' (by omega)) ?_)
 congr 2
 funext u v
 rw [inR_cn hf1,inR_cn (fin_inR _),inR_cn (fin_inR _),inR_cn (fin_inR _),Bool.eq_iff_iff,p4,yrs_at h y u v fun c=> !hasB cs c 2]
 simp only [keepB]
 have e1:=t5 u v
 have e2:=yrs_at h y u v fun _=>true
 have e3:=yrs_at h y u v fun c=>hasB cs c 2
 generalize inR T u v=a at *
 generalize inR (yrs l y fun _=>true) u v=b at *
 generalize inR (yrs l y fun c=>hasB cs c 2) u v=c at *
 constructor
 ·intro hh
  simp at hh
  obtain ⟨⟨ha,hb⟩,hc⟩:=hh
  subst ha hb hc
  obtain ⟨c1,_⟩:=e2.1 rfl
  refine ⟨e1.1 rfl,c1, ?_⟩
  cases hh:hasB cs (cropAt l y u v) 2 with
  | true=>exact absurd (e3.2 ⟨c1,hh⟩) (by simp)
  | false=>rfl
 ·rintro ⟨h1,h2,h3⟩
  have ha:=e1.2 h1
  have hb:=e2.2 ⟨h2,rfl⟩
  have hc:c=false:=by
   cases hcc:c with
   | true=>
    have:=(e3.1 hcc).2
    rw [this] at h3; cases h3
   | false=>rfl
  subst ha hb hc
  rfl
theorem ploughed_eq (hF:BIG≤F) (hc:Crk F cs kc) (hb : ∀ f ∈ l,Box 9 f.region_.rects_) (hl:l.length≤50) (y:Int) : ∃ r,grassland_Ploughed F l cs y=some r∧ref20_Ploughed F l cs y=some r∧r.1.rects_.length≤120:=by
 have hF' := hF
 by_cases hg:begG (lisG kc (cs.length:Nat) l) [y]=0
 ·obtain ⟨h0,hy⟩:=begG_zero.1 hg
  have hy:=hy y (by simp)
  have h:=his_of hb h0
  obtain ⟨T,t1,t2,t3,t4⟩:=ploughed_two hF' h hl hy
  have h45:=bound9 t3
  refine ⟨(⟨cn (inR T)⟩,0), ?_, ?_,by simp only; omega⟩
  ·unfold grassland_Ploughed
   refine bd_ok (records_check_g hF' hc l (by simp) (by simp)) (br_ff ?_ ?_)
   ·unfold chkG; rw [hg]; rfl
   ·refine bd_ok t1 (bd_ok (region_Joined_ok hF' (by omega) (lt_prop (box_prop t3))) ?_)
    rw [if_neg (by omega)]
  ·unfold ref20_Ploughed
   refine bd_ok (ref20_begin_g hF' hc l (by simp)) (br_ff (by rw [hg]; rfl) ?_)
   refine bd_ok t2 (bd_ok (ref04_Bound_ok _) ?_)
   rw [if_neg (by omega)]
 ·refine ⟨(⟨[]⟩,begG (lisG kc (cs.length:Nat) l) [y]), ?_, ?_,by simp⟩
  ·unfold grassland_Ploughed
   have e:chkG (lisG kc (cs.length:Nat) l) [y] []=begG (lisG kc (cs.length:Nat) l) [y]:=by unfold chkG; rw [if_pos hg]
   refine bd_ok (records_check_g hF' hc l (by simp) (by simp)) ?_
   rw [e]
   exact br_tt (by simpa using hg) rfl
  ·unfold ref20_Ploughed
   exact bd_ok (ref20_begin_g hF' hc l (by simp)) (br_tt (by simpa using hg) rfl)
theorem common_ref (hF:BIG≤F) {T:List Rect} (hT:Box 9 T) {a:Region} (ha:Val a.rects_) : ∃ C,ref04_Combine F (cn (inR T)) a.rects_ 2=some C∧ref04_Size F C=some (sq fun u v=>inR T u v&&inR a.rects_ u v):=by
 have hfin:=fin_comb (cn (inR T)) a.rects_ 2
 have h45:=bound9 hT
 have hv:Val (cn fun u v=>keepB (inR (cn (inR T)) u v) (inR a.rects_ u v) 2)∧Box (9:Nat) (cn fun u v=>keepB (inR (cn (inR T)) u v) (inR a.rects_ u v) 2):=val_cn (n:=9) hfin (by omega) fun u v h=>by
  simp [keepB] at h
  exact box_of (region_val9 hT).2 h.1
 refine ⟨_,ref04_Combine_small hF (by have:=ha.1; omega),(ref04_Size_ok hF (by have:=hv.1.1; omega) hv.1.2.1).trans ?_⟩
 congr 1
 rw [hv.1.area]
 congr 1
 funext u v
 rw [inR_cn hfin,inR_cn (fin_inR _)]
 rfl
theorem ratio_two (hF:BIG≤F) (h:HisT (cs.length:Nat) l) (hl:l.length≤50) {y:Int} (hy:0≤y∧y≤100) {a:Region} (ha:Val a.rects_) :
  ∃ p k,grassland_records_ratio F ⟨l,cs⟩ y a=some (p,k)∧ref20_ratio F l cs y a=some (p,k)∧(0≤p∧p≤3645)∧(0≤k∧k≤3645):=by
 obtain ⟨T,t1,t2,t3,t4,t5⟩:=perm_two hF h hl (y:=y) ⟨by omega,hy.2⟩
 refine ⟨sq fun u v=>inR T u v&&inR a.rects_ u v,sq fun u v=>inR (yrs l y fun _=>true) u v&&inR a.rects_ u v, ?_, ?_,sq_nine (fin_and T a.rects_) fun u v hh=>?_,sq_nine (fin_and _ a.rects_) fun u v hh=>?_⟩
 ·unfold grassland_records_ratio
  exact bd_ok t1 (bd_ok (grassland_common_ok hF t3 t4 ha) (bd_ok (history_Rects_ok hF h.hl y (fun _=>true) (fun f _=>rfl)) (bd_ok (grassland_common_ok hF (yrs_box h) (yrs_some h hl _ _) ha) rfl)))
 ·obtain ⟨C,c1,c2⟩:=common_ref hF t3 ha
  obtain ⟨D,d1,d2⟩:=common_ref hF (yrs_box h (y:=y) (p:=fun _=>true)) ha
  unfold ref20_ratio
  refine bd_ok (ref15_Squares_g hF h y 0) ?_
  rw [mkB_all]
  exact bd_ok t2 (bd_ok c1 (bd_ok c2 (bd_ok d1 (bd_ok d2 rfl))))
 ·rw [Bool.and_eq_true] at hh; exact box_of t3 hh.1
 ·rw [Bool.and_eq_true] at hh; exact box_of (yrs_box h) hh.1
theorem chkG_one {e:Int} {ys:List Int} {a:Region} (h:begG e ys=0):chkG e ys [a]=if valB a.rects_=true then 0 else 7:=by
 unfold chkG
 rw [h,if_neg (by simp)]
 have e1:([a].any fun r=> !valB r.rects_) = !valB a.rects_:=by simp
 rw [e1]
 cases valB a.rects_ <;> simp
theorem ratio_eq (hF:BIG≤F) (hc:Crk F cs kc) (hb : ∀ f ∈ l,Box 9 f.region_.rects_) (hl:l.length≤50) (y:Int) (a:Region) : ∃ r,grassland_Ratio F l cs y a=some r∧ref20_Ratio F l cs y a=some r:=by
 have hF' := hF
 by_cases hg:begG (lisG kc (cs.length:Nat) l) [y]=0
 ·obtain ⟨h0,hy⟩:=begG_zero.1 hg
  have hy:=hy y (by simp)
  have h:=his_of hb h0
  cases hva:valB a.rects_ with
  | false=>
   refine ⟨(0,0,7), ?_, ?_⟩
   ·unfold grassland_Ratio
    refine bd_ok (records_check_g hF' hc l (by simp) (by simp)) ?_
    rw [chkG_one hg,hva]
    exact br_tt rfl rfl
   ·unfold ref20_Ratio
    refine bd_ok (ref20_begin_g hF' hc l (by simp)) (br_ff (by rw [hg]; rfl) (bd_ok (ref04_Valid_ok hF' a) (br_tt (by rw [hva]; rfl) rfl)))
  | true=>
   obtain ⟨p,k,e1,e2,_,_⟩:=ratio_two hF' h hl hy ((valB_iff _).1 hva)
   refine ⟨(p,k,0), ?_, ?_⟩
   ·unfold grassland_Ratio
    refine bd_ok (records_check_g hF' hc l (by simp) (by simp)) ?_
    rw [chkG_one hg,hva]
    exact br_ff rfl (bd_ok e1 rfl)
   ·unfold ref20_Ratio
    refine bd_ok (ref20_begin_g hF' hc l (by simp)) (br_ff (by rw [hg]; rfl) (bd_ok (ref04_Valid_ok hF' a) (br_ff (by rw [hva]; rfl) (bd_ok e2 rfl))))
 ·have e:chkG (lisG kc (cs.length:Nat) l) [y] [a]=begG (lisG kc (cs.length:Nat) l) [y]:=by unfold chkG; rw [if_pos hg]
  refine ⟨(0,0,begG (lisG kc (cs.length:Nat) l) [y]), ?_, ?_⟩
  ·unfold grassland_Ratio
   refine bd_ok (records_check_g hF' hc l (by simp) (by simp)) ?_
   rw [e]
   exact br_tt (by simpa using hg) rfl
  ·unfold ref20_Ratio
   exact bd_ok (ref20_begin_g hF' hc l (by simp)) (br_tt (by simpa using hg) rfl)
theorem ref01_Less_small (F:Nat) {a b c d:Int} (ha:0≤a∧a≤3645000000) (hb:1≤b∧b≤3645) (hc:0≤c∧c≤3645000000) (hd:1≤d∧d≤3645):ref01_Less F a b c d=some (decide (a*d<c*b)):=by
 have pr : ∀ x y:Int,0≤x∧x≤3645000000→1≤y∧y≤3645→ref01_proper F x y=some true:=fun x y hx hy=>by
  unfold ref01_proper
  refine br_tt (decide_eq_true (by omega)) (br_tt (decide_eq_true (by omega)) (br_tt (decide_eq_true (by omega)) ?_))
  unfold ref01_proper_k0
  rw [decide_eq_true (by omega)]
 unfold ref01_Less
 refine bd_ok (pr a b ha hb) (br_ff rfl (bd_ok (pr c d hc hd) ?_))
 unfold ref01_Less_k0
 refine br_ff rfl (br_ff (decide_eq_false (by omega)) ?_)
 unfold ref01_Less_k1
 refine br_ff rfl (br_tt (decide_eq_true ha.1) ?_)
 unfold ref01_Less_k2
 rw [decide_eq_false (show ¬ c<0 by omega)]
 refine br_ff rfl (br_ff (decide_eq_false (by omega)) ?_)
 unfold ref01_Less_k3
 rw [wrap_u64 ha.1 (by omega),wrap_u64 (n:=d) (by omega) (by omega),wrap_u64 hc.1 (by omega),wrap_u64 (n:=b) (by omega) (by omega)]
 refine bd_ok (math_bits_Mul64_ok F ⟨ha.1,by omega⟩ ⟨by omega,by omega⟩) (bd_ok (math_bits_Mul64_ok F ⟨hc.1,by omega⟩ ⟨by omega,by omega⟩) ?_)
 refine br_ff rfl (br_tt rfl rfl)
theorem fallen_eq (hF:BIG≤F) (hc:Crk F cs kc) (hb : ∀ f ∈ l,Box 9 f.region_.rects_) (hl:l.length≤50) (x y:Int) (a:Region) (m:Int) : ∃ r,grassland_Fallen F l cs x y a m=some r∧ref20_Fallen F l cs x y a m=some r:=by
 have hF' := hF
 by_cases hg:begG (lisG kc (cs.length:Nat) l) [x,y]=0
 ·obtain ⟨h0,hy⟩:=begG_zero.1 hg
  have hx:=hy x (by simp)
  have hy:=hy y (by simp)
  have h:=his_of hb h0
  cases hva:valB a.rects_ with
  | false=>
   refine ⟨(false,7), ?_, ?_⟩
   ·unfold grassland_Fallen
    refine bd_ok (records_check_g hF' hc l (by simp) (by simp)) ?_
    rw [chkG_one hg,hva]
    exact br_tt rfl rfl
   ·unfold ref20_Fallen
    refine bd_ok (ref20_begin_g hF' hc l (by simp)) (br_ff (by rw [hg]; rfl) (bd_ok (ref04_Valid_ok hF' a) (br_tt (by rw [hva]; rfl) rfl)))
  | true=>
   have hv:=(valB_iff _).1 hva
   have key : ∃ r,(br (decide (m<0)) (grassland_Fallen_k0 F l cs x y a m true) (grassland_Fallen_k0 F l cs x y a m (decide ((1000000:Int)<m))))=some r∧(br (decide (m<0)) (ref20_Fallen_k0 F l cs x y a m true) (ref20_Fallen_k0 F l cs x y a m (decide ((1000000:Int)<m))))=some r:=by
    rw [or_br (grassland_Fallen_k0 F l cs x y a m),or_br (ref20_Fallen_k0 F l cs x y a m)]
    cases hm:(decide (m<0)||decide ((1000000:Int)<m)) with
    | true=>exact ⟨(false,2),rfl,rfl⟩
    | false=>
     have hm:0≤m∧m≤1000000:=by simp at hm; omega
     obtain ⟨p0,k0,e1,e2,hp0,hk0⟩:=ratio_two hF' h hl hx hv
     obtain ⟨p1,k1,f1,f2,hp1,hk1⟩:=ratio_two hF' h hl hy hv
     obtain ⟨s1,s2,s3,s4⟩:=prod_small hp1 (m:=1000000) (by omega) hk0
     obtain ⟨r1,r2,r3,r4⟩:=prod_small hp0 (m:=1000000-m) (by omega) hk1
     refine ⟨(fallB p0 k0 p1 k1 m,0), ?_, ?_⟩
     ·unfold grassland_Fallen_k0
      refine br_ff rfl (bd_ok e1 (bd_ok f1 ?_))
      have k1_ : ∀ b:Bool,(b=true↔k0=0∨k1=0)→grassland_Fallen_k1 F m (p0,k0) (p1,k1) b=some (fallB p0 k0 p1 k1 m,0):=by
       intro b hb
       unfold grassland_Fallen_k1
       refine br_ok (fun h1=>?_) (fun h1=>?_)
       ·unfold fallB; rw [if_pos (hb.1 h1)]
       ·have hn : ¬ (k0=0∨k1=0):=fun hh=>by rw [hb.2 hh] at h1; cases h1
        simp only
        refine gd_ok (i64_of (by omega) (by omega)) ?_
        have m1:grassland_product F (p1*1000000) k0=some (0,p1*1000000*k0):=by
         unfold grassland_product
         rw [wrap_u64 s1 (by omega),wrap_u64 hk0.1 (by omega)]
         exact bd_ok (math_bits_Mul64_ok F ⟨s1,by omega⟩ ⟨hk0.1,by omega⟩) rfl
        have m2:grassland_product F (p0*(1000000-m)) k1=some (0,p0*(1000000-m)*k1):=by
         unfold grassland_product
         rw [wrap_u64 r1 (by omega),wrap_u64 hk1.1 (by omega)]
         exact bd_ok (math_bits_Mul64_ok F ⟨r1,by omega⟩ ⟨hk1.1,by omega⟩) rfl
        refine bd_ok m1 (gd_ok (i64_of (by omega) (by omega)) (gd_ok (i64_of (by omega) (by omega)) (bd_ok m2 ?_)))
        refine br_ff rfl (br_tt rfl ?_)
        unfold grassland_Fallen_k2 fallB
        rw [if_neg hn]
      refine br_ok (fun h1=>?_) (fun h1=>?_)
      ·have h1:k0=0:=by simpa using h1
       exact k1_ true ⟨fun _=>.inl h1,fun _=>rfl⟩
      ·have h1:k0≠0:=by simpa using h1
       refine k1_ _ ?_
       simp [h1]
     ·unfold ref20_Fallen_k0
      refine br_ff rfl (bd_ok f2 (bd_ok e2 ?_))
      have k1_ : ∀ b:Bool,(b=true↔k0=0∨k1=0)→ref20_Fallen_k1 F m (p1,k1) (p0,k0) b=some (fallB p0 k0 p1 k1 m,0):=by
       intro b hb
       unfold ref20_Fallen_k1
       refine br_ok (fun h1=>?_) (fun h1=>?_)
       ·unfold fallB; rw [if_pos (hb.1 h1)]
       ·have hn : ¬ (k0=0∨k1=0):=fun hh=>by rw [hb.2 hh] at h1; cases h1
        simp only
        refine gd_ok (i64_of (by omega) (by omega)) (gd_ok (i64_of (by omega) (by omega)) (gd_ok (i64_of (by omega) (by omega)) ?_))
        refine bd_ok (ref01_Less_small F ⟨s1,by omega⟩ (by omega) ⟨r1,by omega⟩ (by omega)) ?_
        unfold fallB
        rw [if_neg hn]
      refine br_ok (fun h1=>?_) (fun h1=>?_)
      ·have h1:k1=0:=by simpa using h1
       exact k1_ true ⟨fun _=>.inr h1,fun _=>rfl⟩
      ·have h1:k1≠0:=by simpa using h1
       refine k1_ _ ?_
       simp [h1]
   obtain ⟨r,r1,r2⟩:=key
   refine ⟨r, ?_, ?_⟩
   ·unfold grassland_Fallen
    refine bd_ok (records_check_g hF' hc l (by simp) (by simp)) ?_
    rw [chkG_one hg,hva]
    exact br_ff rfl r1
   ·unfold ref20_Fallen
    refine bd_ok (ref20_begin_g hF' hc l (by simp)) (br_ff (by rw [hg]; rfl) (bd_ok (ref04_Valid_ok hF' a) (br_ff (by rw [hva]; rfl) r2)))
 ·have e:chkG (lisG kc (cs.length:Nat) l) [x,y] [a]=begG (lisG kc (cs.length:Nat) l) [x,y]:=by unfold chkG; rw [if_pos hg]
  refine ⟨(false,begG (lisG kc (cs.length:Nat) l) [x,y]), ?_, ?_⟩
  ·unfold grassland_Fallen
   refine bd_ok (records_check_g hF' hc l (by simp) (by simp)) ?_
   rw [e]
   exact br_tt (by simpa using hg) rfl
  ·unfold ref20_Fallen
   exact bd_ok (ref20_begin_g hF' hc l (by simp)) (br_tt (by simpa using hg) rfl)
end
end
end Go.Ab
end

section
namespace Go.Ab
set_option maxRecDepth 20000
noncomputable section
theorem ref01_divide_ok (F:Nat) {x y z:Int} (hx:0≤x∧x≤1000000) (hy:0≤y∧y≤1000000) (hz:1≤z∧z≤1000000):ref01_divide F x y z=some (x*y / z,x*y % z,true):=by
 have h0:0≤x*y:=Int.mul_nonneg hx.1 hy.1
 have h1:x*y≤1000000*1000000:=Int.mul_le_mul hx.2 hy.2 hy.1 (by omega)
 have q0:0≤x*y / z:=Int.ediv_nonneg h0 (by omega)
 have q1:x*y / z≤x*y:=Int.ediv_le_self _ h0
 have m0:0≤x*y % z:=Int.emod_nonneg _ (by omega)
 have m1:x*y % z<z:=Int.emod_lt_of_pos _ (by omega)
 unfold ref01_divide
 rw [wrap_u64 hx.1 (by omega),wrap_u64 hy.1 (by omega),wrap_u64 (n:=z) (by omega) (by omega)]
 refine bd_ok (math_bits_Mul64_ok F ⟨hx.1,by omega⟩ ⟨hy.1,by omega⟩) ?_
 refine br_ff (decide_eq_false (by simp only; omega)) ?_
 refine bd_ok (a:=(x*y / z,x*y % z)) ?_ ?_
 ·unfold math_bits_Div64
  refine br_ff (by simp; omega) (br_ff (decide_eq_false (by simp only; omega)) (br_tt (by simp) (gd_ok (by omega) (gd_ok (by omega) ?_))))
  simp only
  rw [Int.tdiv_eq_ediv_of_nonneg h0,Int.tmod_eq_emod_of_nonneg h0,wrap_u64 q0 (by omega)]
 ·refine gd_ok (i64_of (by simp only; omega) (by simp only; omega)) (gd_ok (i64_of (by simp only; omega) (by simp only; omega)) ?_)
  simp only
  rw [decide_eq_true (by omega)]
theorem ref01_Part_ok (F:Nat) {s k:Int} (hs:0≤s∧s≤1000000) (hk:0≤k∧k≤1000000):ref01_Part F s k 1000000=some (s*k / 1000000,0):=by
 have h0:0≤s*k:=Int.mul_nonneg hs.1 hk.1
 have h1:s*k≤1000000*1000000:=Int.mul_le_mul hs.2 hk.2 hk.1 (by omega)
 unfold ref01_Part
 refine br_ff (decide_eq_false (by omega)) (br_ff (decide_eq_false (by omega)) (br_ff (decide_eq_false (by omega)) (br_ff (decide_eq_false (by omega)) (br_ff (decide_eq_false (by omega)) ?_))))
 unfold ref01_Part_k0
 refine br_ff (decide_eq_false (by omega)) (bd_ok (ref01_divide_ok F hs hk (by omega)) (br_ff rfl ?_))
 unfold ref01_Part_k1
 exact br_ff (decide_eq_false (by simp only; omega)) rfl
theorem gl_setA {α:Type} [Emb α] {l:List α} {i:Nat} {x:α} (hi:i<l.length) (j:Nat):gl (l.set i x) j=if j=i then x else gl l j:=by
 simp only [gl,List.getD_eq_getElem?_getD,List.getElem?_set]
 by_cases h:i=j
 ·subst h; simp [hi]
 ·rw [if_neg h,if_neg (Ne.symm h)]
theorem lt2_tr {a b c:Int×Int} (h:lt2 a b) (k:lt2 b c):lt2 a c:=by unfold lt2 at *; omega
section
variable {F:Nat} {t:Int} {w o:List Int}
theorem next_best (ho:Ordd t w o) {m p:Nat} (hm:m<o.length) (hp:p<w.length) (hpn:(p:Int) ∉ o.take m) (hmin : ∀ j,j<w.length→(j:Int) ∉ o.take m→j=p∨lt2 (rkey t w.sum w p) (rkey t w.sum w j)):(p:Int)=gl o m:=by
 have hmem:=(ho.mem (x:=gl o m)).1 (gl_mem hm)
 obtain ⟨q,hq⟩ : ∃ q:Nat,gl o m=q:=⟨(gl o m).toNat,by omega⟩
 have hqn:(q:Int) ∉ o.take m:=by rw [← hq]; exact nodup_take ho.nodup hm
 rcases hmin q (by omega) hqn with h | h
 ·rw [hq,h]
 ·exfalso
  have hpo:(p:Int) ∈ o:=ho.mem.2 ⟨by omega,by omega⟩
  obtain ⟨k,hk,e⟩:=List.getElem_of_mem hpo
  have hkm:m≤k:=by
   rcases Nat.lt_or_ge k m with h1 | h1
   ·exact absurd (by rw [← e]; exact List.mem_take_iff_getElem.2 ⟨k,by omega,rfl⟩) hpn
   ·exact h1
  rw [gl_lt hm] at hq
  rcases Nat.eq_or_lt_of_le hkm with h1 | h1
  ·subst h1
   rw [e] at hq
   have:p=q:=by omega
   subst this
   exact lt2_asymm h h
  ·have:=List.pairwise_iff_getElem.1 ho.asc m k hm hk h1
   rw [hq,e] at this
   exact lt2_asymm h this
theorem ref01_Shares_k7_ok (hF:BIG≤F) (hw : ∀ x ∈ w,0≤x) (hl:w.length≤64) (hs:w.sum≤1000000) (hs0:0<w.sum) (ht:0≤t∧t≤1000000) (ho:Ordd t w o) :
  ref01_Shares_k7 F w (leftN t w) (w.map fun x=>t*x / w.sum) (w.map fun x=>t*x % w.sum)=some (shW t w o,0):=by
 have hF' := hF
 unfold BIG at hF
 obtain ⟨n0,n1,_⟩:=leftN_ok (t:=t) hs0
 have hol:=ho.len
 have hin : ∀ x ∈ w,0≤x∧x≤w.sum:=fun x hx=>⟨hw x hx,sum_le hw hx⟩
 unfold ref01_Shares_k7
 simp only [Int.toNat_natCast]
 refine gd_ok (by unfold LIM; omega) ?_
 obtain ⟨L,hL⟩ : ∃ L:Nat,leftN t w=L:=⟨(leftN t w).toNat,by omega⟩
 have hLn:L≤w.length:=by omega
 refine loopN_ok (fun z:Int×List Int×List Bool=>∃ m:Nat,m≤L∧z.1=(L:Int)-m∧z.2.1.length=w.length∧z.2.2.length=w.length∧(∀ j,j<w.length→gl z.2.1 j=t*gl w j / w.sum+if (j:Int) ∈ o.take m then 1 else 0) ∧
  ∀ j,j<w.length→gl z.2.2 j=decide ((j:Int) ∈ o.take m)) (fun z=>z.1.toNat) (fun again z hz ih=>?_) ⟨0,by omega,by simp only; omega,by simp,by simp,fun j hj=>?_,fun j hj=>?_⟩ (by simp only; omega)
 ·obtain ⟨z1,u,g⟩:=z
  obtain ⟨m,hm,h1,hu,hgl,hv,hg⟩:=hz
  simp only at h1 hu hgl hv hg ih ⊢
  subst h1
  unfold ref01_Shares_b8
  refine br_ok (fun hb=>?_) (fun hb=>?_)
  ·have hb:=of_decide_eq_true hb
   have hmo:m<o.length:=by omega
   refine loopN_ok (fun z:Int×Int=>∃ i:Nat,z.2=i∧i≤w.length∧((z.1 = -1∧∀ j,j<i→(j:Int) ∈ o.take m)∨∃ p:Nat,z.1=p∧p<i∧(p:Int) ∉ o.take m∧∀ j,j<i→(j:Int) ∉ o.take m→j=p∨lt2 (rkey t w.sum w p) (rkey t w.sum w j)))
    (fun z=>w.length-z.2.toNat) (fun again2 z hz ih2=>?_) ⟨0,rfl,by omega,.inl ⟨rfl,fun j hj=>by omega⟩⟩ (by simp only; omega)
   obtain ⟨b,zi⟩:=z
   obtain ⟨i,h2,hi,hbest⟩:=hz
   simp only at h2 hbest ih2 ⊢
   subst h2
   unfold ref01_Shares_b9
   simp only [Int.toNat_natCast]
   refine br_ok (fun h3=>?_) (fun h3=>?_)
   ·have h3:i<w.length:=by simpa using h3
    refine gd_ok (by omega) ?_
    rw [hg i h3]
    have k11 : ∀ b' : Int,((b' = -1∧∀ j,j<i+1→(j:Int) ∈ o.take m)∨∃ p:Nat,b' = p∧p<i+1∧(p:Int) ∉ o.take m∧∀ j,j<i+1→(j:Int) ∉ o.take m→j=p∨lt2 (rkey t w.sum w p) (rkey t w.sum w j))→ref01_Shares_k11 F i again2 b' = some (shW t w o,0):=by
     intro b' hb'
     unfold ref01_Shares_k11
     exact gd_ok (i64_of (by omega) (by omega)) (ih2 _ ⟨i+1,by simp,h3,hb'⟩ (by simp only; omega))
    refine br_ok (fun h4=>?_) (fun h4=>?_)
    ·have h4:(i:Int) ∉ o.take m:=by simpa using h4
     have hkI:ref01_Shares_k10 F b i again2 true=ref01_Shares_k11 F i again2 i:=by unfold ref01_Shares_k10; exact br_tt rfl rfl
     have hkB:ref01_Shares_k10 F b i again2 false=ref01_Shares_k11 F i again2 b:=by unfold ref01_Shares_k10; exact br_ff rfl rfl
     rcases hbest with ⟨rfl,hall⟩|⟨p,rfl,hpi,hpn,hmin⟩
     ·refine br_tt (by decide) ?_
      rw [hkI]
      refine k11 _ (.inr ⟨i,rfl,by omega,h4,fun j hj hjn=>?_⟩)
      by_cases hji:j=i
      ·exact .inl hji
      ·exact absurd (hall j (by omega)) hjn
     ·refine br_ff (decide_eq_false (by omega)) ?_
      simp only [Int.toNat_natCast]
      refine gd_ok (by rw [List.length_map]; omega) (gd_ok (by rw [List.length_map]; omega) ?_)
      have g1:gl (w.map fun x=>t*x % w.sum) p=t*gl w p % w.sum:=gl_map_t _ _ (by omega)
      have g2:gl (w.map fun x=>t*x % w.sum) i=t*gl w i % w.sum:=gl_map_t _ _ h3
      simp only [g1,g2]
      have ri:(rkey t w.sum w i)=(-(t*gl w i % w.sum),(i:Int)):=by unfold rkey; rw [Int.toNat_natCast]
      have rp:(rkey t w.sum w p)=(-(t*gl w p % w.sum),(p:Int)):=by unfold rkey; rw [Int.toNat_natCast]
      by_cases hlt:t*gl w p % w.sum<t*gl w i % w.sum
      ·rw [decide_eq_true hlt,hkI]
       refine k11 _ (.inr ⟨i,rfl,by omega,h4,fun j hj hjn=>?_⟩)
       by_cases hji:j=i
       ·exact .inl hji
       ·right
        have hip:lt2 (rkey t w.sum w i) (rkey t w.sum w p):=by rw [ri,rp]; unfold lt2; simp only; omega
        rcases hmin j (by omega) hjn with h5 | h5
        ·rw [h5]; exact hip
        ·exact lt2_tr hip h5
      ·rw [decide_eq_false hlt,hkB]
       refine k11 _ (.inr ⟨p,rfl,by omega,hpn,fun j hj hjn=>?_⟩)
       by_cases hji:j=i
       ·right
        rw [hji,ri,rp]; unfold lt2; simp only; omega
       ·exact hmin j (by omega) hjn
    ·have h4:(i:Int) ∈ o.take m:=by simpa using h4
     have:ref01_Shares_k10 F b i again2 false=ref01_Shares_k11 F i again2 b:=by unfold ref01_Shares_k10; exact br_ff rfl rfl
     rw [this]
     refine k11 _ ?_
     rcases hbest with ⟨h5,hall⟩|⟨p,h5,hpi,hpn,hmin⟩
     ·refine .inl ⟨h5,fun j hj=>?_⟩
      by_cases hji:j=i
      ·rw [hji]; exact h4
      ·exact hall j (by omega)
     ·refine .inr ⟨p,h5,by omega,hpn,fun j hj hjn=>?_⟩
      by_cases hji:j=i
      ·rw [hji] at hjn; exact absurd h4 hjn
      ·exact hmin j (by omega) hjn
   ·have h3:i=w.length:=by
     have : ¬ i<w.length:=by simpa using h3
     omega
    subst h3
    rcases hbest with ⟨_,hall⟩|⟨p,rfl,hpi,hpn,hmin⟩
    ·exfalso
     have hmem:=(ho.mem (x:=gl o m)).1 (gl_mem hmo)
     have:=hall (gl o m).toNat (by omega)
     have e:(((gl o m).toNat:Nat):Int)=gl o m:=by omega
     rw [e] at this
     exact nodup_take ho.nodup hmo this
    ·have hpm:=next_best ho hmo hpi hpn hmin
     have hq:=quo_le ht.1 hs0 (hin _ (gl_mem hpi))
     have hvp:=hv p hpi
     rw [if_neg hpn] at hvp
     unfold ref01_Shares_k12
     simp only [Int.toNat_natCast]
     refine gd_ok (by omega) (gd_ok (by omega) (gd_ok (i64_of (by omega) (by omega)) (gd_ok (by omega) ?_)))
     unfold ref01_Shares_k13
     refine gd_ok (i64_of (by omega) (by omega)) (ih _ ⟨m+1,by omega,by simp only; omega,by simp [hu],by simp [hgl],fun j hj=>?_,fun j hj=>?_⟩ (by simp only; omega))
     ·simp only
      rw [gl_setI (by omega)]
      by_cases hjp:j=p
      ·subst hjp
       rw [if_pos rfl,hvp,if_pos ((mem_take_succ hmo).2 (.inr hpm))]
       omega
      ·rw [if_neg hjp,hv j hj]
       congr 1
       have:((j:Int) ∈ o.take (m+1))↔((j:Int) ∈ o.take m):=by
        rw [mem_take_succ hmo, ← hpm]
        exact ⟨fun h=>h.elim id fun h=>absurd h (by omega),.inl⟩
       simp only [this]
     ·simp only
      rw [gl_setA (by omega)]
      by_cases hjp:j=p
      ·subst hjp
       rw [if_pos rfl,decide_eq_true ((mem_take_succ hmo).2 (.inr hpm))]
      ·rw [if_neg hjp,hg j hj]
       have:((j:Int) ∈ o.take (m+1))↔((j:Int) ∈ o.take m):=by
        rw [mem_take_succ hmo, ← hpm]
        exact ⟨fun h=>h.elim id fun h=>absurd h (by omega),.inl⟩
       simp only [this]
  ·have hb:=of_decide_eq_false hb
   have hmL:m=L:=by omega
   subst hmL
   unfold ref01_Shares_k14 shW
   rw [if_neg (by omega)]
   congr 2
   refine gl_extI (by simp [hu]) fun j hj=>?_
   rw [hv j (by omega),gl_map_r _ _ (by omega),hL,Int.toNat_natCast]
 ·simp only
  rw [gl_map_t _ _ hj]
  simp
 ·simp only [gl,List.getD_eq_getElem?_getD,List.getElem?_replicate]
  rw [if_pos hj]
  rfl
theorem ref01_Shares_ok (hF:BIG≤F) (hw : ∀ x ∈ w,0≤x) (hl:w.length≤64) (hs:w.sum≤1000000) (ht:0≤t∧t≤1000000) (ho:Ordd t w o):ref01_Shares F t w=some (shW t w o,0):=by
 have hF' := hF
 unfold BIG at hF
 have hsn:=sum_nn hw
 have hin : ∀ x ∈ w,0≤x∧x≤w.sum:=fun x hx=>⟨hw x hx,sum_le hw hx⟩
 unfold ref01_Shares
 refine br_ff (decide_eq_false (by omega)) (br_ff (decide_eq_false (by omega)) ?_)
 rw [decide_eq_false (by omega)]
 unfold ref01_Shares_k0
 refine loopN_ok (fun z:Bool×Int=>∃ i:Nat,z=(false,(i:Int))∧i≤w.length) (fun z=>w.length-z.2.toNat) (fun again z hz ih=>?_) ⟨0,rfl,by omega⟩ (by simp only; omega)
 obtain ⟨i,rfl,hi⟩:=hz
 simp only at ih ⊢
 unfold ref01_Shares_b1
 simp only [Int.toNat_natCast]
 refine br_ok (fun hb=>?_) (fun hb=>?_)
 ·have hb:i<w.length:=by simpa using hb
  have hx:=hin _ (gl_mem hb)
  refine gd_ok (by omega) (br_ff rfl (br_ff (decide_eq_false (by omega)) ?_))
  rw [decide_eq_false (by omega)]
  unfold ref01_Shares_k2
  exact gd_ok (i64_of (by omega) (by omega)) (ih _ ⟨i+1,by simp,by omega⟩ (by simp only; omega))
 unfold ref01_Shares_k3
 refine br_ff rfl ?_
 refine loopN_ok (fun z:Int×Int=>∃ i:Nat,z=((w.take i).sum,(i:Int))∧i≤w.length) (fun z=>w.length-z.2.toNat) (fun again z hz ih=>?_) ⟨0,rfl,by omega⟩ (by simp only; omega)
 obtain ⟨i,rfl,hi⟩:=hz
 simp only at ih ⊢
 unfold ref01_Shares_b4
 simp only [Int.toNat_natCast]
 refine br_ok (fun hb=>?_) (fun hb=>?_)
 ·have hb:i<w.length:=by simpa using hb
  have h1:=sum_takeN hw (i+1)
  have h2:=sum_takeN hw i
  rw [take_gl hb,sum_snoc] at h1
  refine gd_ok (by omega) (gd_ok (i64_of (by omega) (by omega)) (gd_ok (i64_of (by omega) (by omega)) ?_))
  exact ih _ ⟨i+1,by rw [take_gl hb,sum_snoc]; simp,by omega⟩ (by simp only; omega)
 have hb:i=w.length:=by
  have : ¬ i<w.length:=by simpa using hb
  omega
 subst hb
 rw [List.take_length]
 unfold ref01_Shares_k5
 simp only [Int.toNat_natCast]
 refine gd_ok (by unfold LIM; omega) (gd_ok (by unfold LIM; omega) (br_ok (fun hb=>?_) (fun hb=>?_)))
 ·have hb:w.sum=0:=by simpa using hb
  unfold shW; rw [if_pos hb]
 ·have hb:w.sum≠0:=by simpa using hb
  have hs0:0<w.sum:=by omega
  refine loopN_ok (fun z:Int×Int×List Int×List Int=>∃ i:Nat,z.2.1=i∧i≤w.length∧z.1=t-((w.take i).map fun x=>t*x / w.sum).sum∧z.2.2.1.length=w.length∧z.2.2.2.length=w.length ∧
   ∀ j,j<i→gl z.2.2.1 j=t*gl w j / w.sum∧gl z.2.2.2 j=t*gl w j % w.sum) (fun z=>w.length-z.2.1.toNat) (fun again z hz ih=>?_) ⟨0,rfl,by omega,by simp,by simp,by simp,fun j hj=>by omega⟩ (by simp only; omega)
  obtain ⟨z1,z2,u,r⟩:=z
  obtain ⟨i,h2,hi,h1,hu,hr,hg⟩:=hz
  simp only at h1 h2 hu hr hg ih ⊢
  subst h2
  unfold ref01_Shares_b6
  simp only [Int.toNat_natCast]
  refine br_ok (fun hb=>?_) (fun hb=>?_)
  ·have hb:i<w.length:=by simpa using hb
   have hx:=hin _ (gl_mem hb)
   have hq:=quo_le ht.1 hs0 hx
   have hqs:=quo_sum ht hs0 (w.take i) fun x hx=>hin x (List.mem_of_mem_take hx)
   rw [List.length_take] at hqs
   refine gd_ok (by omega) (bd_ok (ref01_divide_ok F ht ⟨hx.1,by omega⟩ ⟨by omega,hs⟩) ?_)
   have e1:gl (u.set i (t*gl w i / w.sum)) i=t*gl w i / w.sum:=by rw [gl_setI (by omega),if_pos rfl]
   simp only [e1]
   refine gd_ok (by omega) (gd_ok (by omega) (gd_ok (by rw [List.length_set]; omega) (gd_ok (i64_of (by omega) (by omega)) (gd_ok (i64_of (by omega) (by omega)) ?_))))
   refine ih _ ⟨i+1,by simp,by omega, ?_,by simp [hu],by simp [hr],fun j hj=>?_⟩ (by simp only; omega)
   ·simp only
    rw [take_gl hb,List.map_append,List.map_cons,List.map_nil,sum_snoc,h1]
    omega
   ·simp only
    rw [gl_setI (by omega),gl_setI (by omega)]
    by_cases hji:j=i
    ·subst hji; simp
    ·simp only [if_neg hji]
     exact hg j (by omega)
  ·have hb:i=w.length:=by
    have : ¬ i<w.length:=by simpa using hb
    omega
   subst hb
   have eu:u=w.map fun x=>t*x / w.sum:=gl_extI (by simp [hu]) fun j hj=>by rw [(hg j (by omega)).1,gl_map_t _ _ (by omega)]
   have er:r=w.map fun x=>t*x % w.sum:=gl_extI (by simp [hr]) fun j hj=>by rw [(hg j (by omega)).2,gl_map_t _ _ (by omega)]
   have el:z1=leftN t w:=by rw [h1,List.take_length]; rfl
   rw [eu,er,el]
   exact ref01_Shares_k7_ok hF' hw hl hs hs0 ht ho
end
end
end Go.Ab
end

section
namespace Go.Ab
set_option maxRecDepth 20000
noncomputable section
section
variable {F:Nat} {kc:Int} {cs:List Crop} {l:List Record}
open Classical in
theorem ref_meets_ok (hF:BIG≤F) {y k:Int} {rs:List Region} {X:(List Int)×Int} (h8:rs.length≤8) (hX:ref20_Restore_k5 F l cs y rs k=some X) :
  loopN (fun again (z:Int)=>ref20_Restore_b2 F l cs y rs k again z) F (0:Int)=some (if overB rs then ([],11) else X):=by
 have hF' := hF
 unfold BIG at hF
 refine loopN_ok (fun z:Int=>∃ i:Nat,z=i∧i≤rs.length∧∀ p q,q<p→p<i→meetB (gl rs q) (gl rs p)=false) (fun z=>rs.length-z.toNat) (fun again z hz ih=>?_) ⟨0,rfl,by omega,fun p q h1 h2=>by omega⟩ (by simp; omega)
 obtain ⟨i,rfl,hi,hm⟩:=hz
 unfold ref20_Restore_b2
 refine br_ok (fun h2=>?_) (fun h2=>?_)
 ·have h2:i<rs.length:=by simpa using h2
  refine gd_ok (by omega) ?_
  refine loopN_ok (fun z:Int=>∃ j:Nat,z=j∧j≤i∧∀ q,q<j→meetB (gl rs q) (gl rs i)=false) (fun z=>i-z.toNat) (fun again2 z hz ih2=>?_) ⟨0,rfl,by omega,fun q h1=>by omega⟩ (by simp; omega)
  obtain ⟨j,rfl,hj,hq⟩:=hz
  unfold ref20_Restore_b3
  have hlt:(rs.take (i:Int).toNat).length=i:=by rw [Int.toNat_natCast,List.length_take]; omega
  refine br_ok (fun h3=>?_) (fun h3=>?_)
  ·have h3:=of_decide_eq_true h3
   rw [hlt] at h3
   have h3:j<i:=by omega
   refine gd_ok (by omega) (gd_ok (by omega) (bd_ok (ref04_Meets_ok hF' _ _) ?_))
   simp only [Int.toNat_natCast]
   refine br_ok (fun h4=>?_) (fun h4=>?_)
   ·rw [if_pos]
    exact ⟨i,j,h3,h2,by rw [meetB_comm]; exact h4⟩
   ·refine gd_ok (i64_of (by omega) (by omega)) (ih2 _ ⟨j+1,by omega,h3,fun q h5=>?_⟩ (by omega))
    by_cases h6:q<j
    ·exact hq q h6
    ·have:q=j:=by omega
     subst this
     rw [meetB_comm]; exact h4
  ·have h3:=of_decide_eq_false h3
   rw [hlt] at h3
   have h3:j=i:=by omega
   subst h3
   unfold ref20_Restore_k4
   refine gd_ok (i64_of (by omega) (by omega)) (ih _ ⟨j+1,by omega,h2,fun p q h4 h5=>?_⟩ (by omega))
   by_cases h6:p<j
   ·exact hm p q h4 h6
   ·have:p=j:=by omega
    subst this
    exact hq q h4
 ·have h2:i=rs.length:=by
   have : ¬ i<rs.length:=by simpa using h2
   omega
  subst h2
  rw [if_neg]
  ·exact hX
  ·rintro ⟨p,q,h3,h4,h5⟩
   rw [hm p q h3 h4] at h5; cases h5
theorem ref_valid_ok (hF:BIG≤F) {y k:Int} {rs:List Region} {X:(List Int)×Int} (h8:rs.length≤100) (hX:(rs.any fun r=> !valB r.rects_)=false→ref20_Restore_k1 F l cs y rs k=some X) :
  loopN (fun again (z:Int)=>ref20_Restore_b0 F l cs y rs k again z) F (0:Int)=some (if (rs.any fun r=> !valB r.rects_)=true then ([],7) else X):=by
 have hF' := hF
 unfold BIG at hF
 refine loopN_ok (fun z:Int=>∃ i:Nat,z=i∧i≤rs.length∧∀ j,j<i→(!valB (gl rs j).rects_)=false) (fun z=>rs.length-z.toNat) (fun again z hz ih=>?_) ⟨0,rfl,by omega,fun j hj=>by omega⟩ (by simp; omega)
 obtain ⟨i,rfl,hi,hp⟩:=hz
 unfold ref20_Restore_b0
 simp only [Int.toNat_natCast]
 refine br_ok (fun h2=>?_) (fun h2=>?_)
 ·have h2:i<rs.length:=by simpa using h2
  refine gd_ok (by omega) (bd_ok (ref04_Valid_ok hF' _) (br_ok (fun h3=>?_) (fun h3=>?_)))
  ·rw [if_pos (List.any_eq_true.2 ⟨_,gl_mem h2,h3⟩)]
  ·refine gd_ok (i64_of (by omega) (by omega)) (ih _ ⟨i+1,by omega,h2,fun j hj=>?_⟩ (by omega))
   rcases Nat.lt_or_ge j i with h6 | h6
   ·exact hp j h6
   ·have:j=i:=by omega
    subst this; exact h3
 ·have h2:i=rs.length:=by
   have : ¬ i<rs.length:=by simpa using h2
   omega
  subst h2
  have:=any_of_before (p:=fun r:Region=> !valB r.rects_) hp
  rw [if_neg (by rw [this]; simp)]
  exact hX this
theorem ref_k6_ok (hF:BIG≤F) {y:Int} {P:List Rect} (e:ref20_ploughed F l cs y=some (cn (inR P))) (hb:Box 9 P) {rs:List Region} (h8:rs.length≤8) (hv : ∀ r ∈ rs,Val r.rects_)
  {k:Int} (hk:0≤k∧k≤1000000) {o:List Int} (ho:Ordd ((wts P rs).sum*k / 1000000) (wts P rs) o):ref20_Restore_k6 F l cs y rs k false=some (shW ((wts P rs).sum*k / 1000000) (wts P rs) o,0):=by
 have hF' := hF
 unfold BIG at hF
 obtain ⟨w1,w2,w3,w4⟩:=wts_ok hb rs
 have hp:=part_le w3 hk
 have e8:ref20_Restore_k8 F k (wts P rs).sum (wts P rs)=some (shW ((wts P rs).sum*k / 1000000) (wts P rs) o,0):=by
  unfold ref20_Restore_k8
  exact bd_ok (ref01_Part_ok F ⟨w3,by omega⟩ hk) (bd_ok (ref01_Shares_ok hF' w1 (by omega) (by omega) ⟨hp.1,by omega⟩ ho) rfl)
 unfold ref20_Restore_k6
 refine br_ff rfl ?_
 refine loopN_ok (fun z:Int×Int×List Int=>∃ i:Nat,z=((wts P (rs.take i)).sum,(i:Int),wts P (rs.take i))∧i≤rs.length) (fun z=>rs.length-z.2.1.toNat) (fun again z hz ih=>?_) ⟨0,rfl,by omega⟩ (by simp only; omega)
 obtain ⟨i,rfl,hi⟩:=hz
 simp only at ih ⊢
 unfold ref20_Restore_b7
 simp only [Int.toNat_natCast]
 refine br_ok (fun h2=>?_) (fun h2=>?_)
 ·have h2:i<rs.length:=by simpa using h2
  have ht:=wts_ok hb (rs.take i)
  rw [List.length_take] at ht
  have h1:=wts_one hb (gl rs i)
  obtain ⟨C,c1,c2⟩:=common_ref hF' hb (hv _ (gl_mem h2))
  refine gd_ok (by omega) (bd_ok e (bd_ok c1 (bd_ok c2 ?_)))
  refine gd_ok (by rw [ht.2.1]; simp only [LIM,List.length_cons,List.length_nil]; omega) (gd_ok (i64_of (by omega) (by omega)) (gd_ok (i64_of (by omega) (by omega)) ?_))
  have e1:wts P (rs.take (i+1))=wts P (rs.take i)++[sq fun u v=>inR P u v&&inR (gl rs i).rects_ u v]:=by
   unfold wts
   rw [take_gl h2,List.map_append]; rfl
  exact ih _ ⟨i+1,by rw [e1,sum_snoc]; simp,h2⟩ (by simp only; omega)
 ·have h2:i=rs.length:=by
   have : ¬ i<rs.length:=by simpa using h2
   omega
  subst h2
  rw [List.take_length]
  exact e8
open Classical in
theorem restore_eq (hF:BIG≤F) (hc:Crk F cs kc) (hb : ∀ f ∈ l,Box 9 f.region_.rects_) (hl:l.length≤50) (y:Int) {rs:List Region} (hr:rs.length≤20) (k:Int) :
  ∃ r,grassland_Restore F l cs y rs k=some r∧ref20_Restore F l cs y rs k=some r∧r.1.length≤20:=by
 have hF' := hF
 by_cases hg:begG (lisG kc (cs.length:Nat) l) [y]=0
 ·obtain ⟨h0,hy⟩:=begG_zero.1 hg
  have hy:=hy y (by simp)
  have h:=his_of hb h0
  have eg:chkG (lisG kc (cs.length:Nat) l) [y] rs=if (rs.any fun r=> !valB r.rects_)=true then 7 else 0:=by
   unfold chkG
   rw [hg,if_neg (by simp)]
  cases hva:(rs.any fun r=> !valB r.rects_) with
  | true=>
   refine ⟨([],7), ?_, ?_,by simp⟩
   ·unfold grassland_Restore
    refine bd_ok (records_check_g hF' hc l (by omega) (by simp)) ?_
    rw [eg,hva]
    exact br_tt rfl rfl
   ·unfold ref20_Restore
    refine bd_ok (ref20_begin_g hF' hc l (by simp)) (br_ff (by rw [hg]; rfl) ?_)
    rw [ref_valid_ok hF' (X:=([],7)) (by omega) (fun h1=>by rw [hva] at h1; cases h1),if_pos hva]
  | false=>
   have hv : ∀ r ∈ rs,Val r.rects_:=fun r hr=>by
    have:=List.any_eq_false.1 hva r hr
    exact (valB_iff _).1 (by simpa using this)
   have key : ∃ r:(List Int)×Int,(br (decide ((8:Int)<((List.length rs:Nat):Int))) (some (([]:List Int),(1:Int))) (loopN (fun again (z:Int)=>grassland_Restore_b0 F l cs y rs k again z) F (0:Int)))=some r∧ref20_Restore_k1 F l cs y rs k=some r∧r.1.length≤20:=by
    unfold ref20_Restore_k1
    by_cases h8:rs.length≤8
    ·rw [decide_eq_false (by omega)]
     have inner : ∃ X:(List Int)×Int,grassland_Restore_k1 F l cs y rs k=some X∧ref20_Restore_k5 F l cs y rs k=some X∧X.1.length≤20:=by
      unfold grassland_Restore_k1 ref20_Restore_k5
      rw [or_br (grassland_Restore_k2 F l cs y rs k),or_br (ref20_Restore_k6 F l cs y rs k)]
      cases hm:(decide (k<0)||decide ((1000000:Int)<k)) with
      | true=>exact ⟨([],2),rfl,rfl,by simp⟩
      | false=>
       have hk:0≤k∧k≤1000000:=by simp at hm; omega
       obtain ⟨P,p1,p2,p3,p4⟩:=ploughed_two hF' h hl hy
       obtain ⟨o,ho,e1⟩:=restore_k2_ok hF' p1 p3 p4 h8 hv hk
       refine ⟨_,e1,ref_k6_ok hF' p2 p3 h8 hv hk ho, ?_⟩
       have:(wts P rs).length=rs.length:=(wts_ok p3 rs).2.1
       unfold shW
       split
       ·simp; omega
       ·simp; omega
     obtain ⟨X,x1,x2,x3⟩:=inner
     refine ⟨if overB rs then ([],11) else X,br_ff rfl (restore_b0_ok hF' h8 x1),br_ff rfl (ref_meets_ok hF' h8 x2), ?_⟩
     split
     ·simp
     ·exact x3
    ·rw [decide_eq_true (by omega)]
     exact ⟨([],1),rfl,rfl,by simp⟩
   obtain ⟨r,r1,r2,r3⟩:=key
   refine ⟨r, ?_, ?_,r3⟩
   ·unfold grassland_Restore
    refine bd_ok (records_check_g hF' hc l (by omega) (by simp)) ?_
    rw [eg,hva]
    exact br_ff rfl r1
   ·unfold ref20_Restore
    refine bd_ok (ref20_begin_g hF' hc l (by simp)) (br_ff (by rw [hg]; rfl) ?_)
    rw [ref_valid_ok hF' (by omega) (fun _=>r2),if_neg (by rw [hva]; simp)]
 ·have e:chkG (lisG kc (cs.length:Nat) l) [y] rs=begG (lisG kc (cs.length:Nat) l) [y]:=by unfold chkG; rw [if_pos hg]
  refine ⟨([],begG (lisG kc (cs.length:Nat) l) [y]), ?_, ?_,by simp⟩
  ·unfold grassland_Restore
   refine bd_ok (records_check_g hF' hc l (by omega) (by simp)) ?_
   rw [e]
   exact br_tt (by simpa using hg) rfl
  ·unfold ref20_Restore
   exact bd_ok (ref20_begin_g hF' hc l (by simp)) (br_tt (by simpa using hg) rfl)
end
end
end Go.Ab
end

section
namespace Go.Ab
set_option maxRecDepth 20000
noncomputable section
end
end Go.Ab
end

section
namespace Go.Ab
set_option maxRecDepth 20000
noncomputable section
end
end Go.Ab
end

section
namespace Go.Ab
set_option maxRecDepth 20000
noncomputable section
end
end Go.Ab
end

section
namespace Go.Ab
set_option maxRecDepth 20000
noncomputable section
end
end Go.Ab
end

section
namespace Go.Ab
set_option maxRecDepth 20000
noncomputable section
end
end Go.Ab
end

section
namespace Go.Ab
set_option maxRecDepth 20000
noncomputable section
end
end Go.Ab
end

section
namespace Go.Ab
set_option maxRecDepth 20000
noncomputable section
end
end Go.Ab
end
