/- Abstract states over the model: every lemma holds of any program of the form that it names. -/
import Derived.Test.YtdfbifjpedjljaaGreatLwA
set_option linter.unusedVariables false
set_option linter.unusedSimpArgs false
section
namespace Go.Ab
set_option maxRecDepth 20000
noncomputable section
theorem cropAt_at {l : List Record} (h : HL l) {y u v : Int} {f : Record} (hf : f ∈ l) (hy : f.year_ = y) (hin : inR f.region_.rects_ u v = true) : cropAt l y u v = f.crop_ := by
 unfold cropAt
 cases hg : l.find? (fun f => decide (f.year_ = y) && inR f.region_.rects_ u v) with
 | none =>
  have := List.find?_eq_none.1 hg f hf
  rw [decide_eq_true hy, hin] at this
  exact absurd rfl this
 | some g =>
  have h1 := List.find?_some hg
  have h2 := List.mem_of_find?_eq_some hg
  rw [Bool.and_eq_true, decide_eq_true_eq] at h1
  by_cases hc : g.crop_ = f.crop_
  ·exact hc
  ·exact (h.apart h2 hf (by rw [h1.1, hy]) hc u v h1.2 hin).elim
theorem cropAt_off {l : List Record} {y u v : Int} (hn : ∀ f ∈ l, f.year_ = y → inR f.region_.rects_ u v = false) : cropAt l y u v = -1 := by
 unfold cropAt
 have : l.find? (fun f => decide (f.year_ = y) && inR f.region_.rects_ u v) = none := List.find?_eq_none.2 fun f hf hh => by
  rw [Bool.and_eq_true, decide_eq_true_eq] at hh
  rw [hn f hf hh.1] at hh
  cases hh.2
 rw [this]
theorem cropAt_add {l : List Record} (h : HL l) {y c : Int} (hy : 0 ≤ y ∧ y ≤ 100) (hc : 0 ≤ c ∧ c < 40) {a : List Rect} (ha : Val a) (ht : tooB (addL l y c a) = false) (y' u v : Int) :
  cropAt (addL l y c a) y' u v = if y' = y ∧ inR a u v = true then c else cropAt l y' u v := by
 have hA := h.add hy hc ha ht
 have hne : ∀ {r : List Rect}, inR r u v = true → r.length ≠ 0 := fun hr h0 => by rw [List.eq_nil_of_length_eq_zero h0] at hr; cases hr
 split
 ·rename_i h1
  obtain ⟨rfl, h1⟩ := h1
  have hv : inR (vA l y' c a) u v = true := vA_in.2 (.inl h1)
  exact cropAt_at hA (addL_mem.2 ⟨.inr rfl, hne hv⟩) rfl hv
 ·rename_i h1
  by_cases hex : ∃ f ∈ l, f.year_ = y' ∧ inR f.region_.rects_ u v = true
  ·obtain ⟨f, hf, hfy, hin⟩ := hex
   rw [cropAt_at h hf hfy hin]
   by_cases hk : sameK y c f = true
   ·obtain ⟨k1, k2⟩ := (sameK_iff y c f).1 hk
    have hv : inR (vA l y c a) u v = true := vA_in.2 (.inr ⟨f, (find_same h.asc).2 ⟨hf, k1, k2⟩, hin⟩)
    rw [k2]
    exact cropAt_at hA (addL_mem.2 ⟨.inr rfl, hne hv⟩) (by rw [← hfy, k1]) hv
   ·have hin2 : inR (cutF y a f).region_.rects_ u v = true := by
     by_cases hfy2 : f.year_ = y
     ·rw [cutF_in hfy2, hin, Bool.true_and, Bool.not_eq_true', ← Bool.not_eq_true]
      exact fun hh => h1 ⟨by rw [← hfy, hfy2], hh⟩
     ·unfold cutF; rw [if_neg hfy2]; exact hin
    have := cropAt_at hA (f := cutF y a f) (addL_mem.2 ⟨.inl (rest_mem.2 ⟨f, hf, by simpa using hk, rfl⟩), hne hin2⟩) (by rw [cutF_year, hfy]) hin2
    rw [this, cutF_crop]
  ·have hno : ∀ f ∈ l, f.year_ = y' → inR f.region_.rects_ u v = false := fun f hf hfy => by
    cases hi : inR f.region_.rects_ u v with
    | false => rfl
    | true => exact absurd ⟨f, hf, hfy, hi⟩ hex
   rw [cropAt_off hno]
   refine cropAt_off fun g hg hgy => ?_
   cases hi : inR g.region_.rects_ u v with
   | false => rfl
   | true =>
    exfalso
    obtain ⟨hg, _⟩ := addL_mem.1 hg
    rcases hg with hg | rfl
    ·obtain ⟨f, hf, _, rfl⟩ := rest_mem.1 hg
     have h3 := (cut_in f y a hi).1
     rw [cutF_year] at hgy
     rw [hno f hf hgy] at h3; cases h3
    ·rcases vA_in.1 hi with h3 | ⟨f, hf, h3⟩
     ·exact h1 ⟨hgy.symm, h3⟩
     ·obtain ⟨k1, k2, _⟩ := (find_same h.asc).1 hf
      rw [hno f k1 (by rw [k2]; exact hgy)] at h3; cases h3
theorem Box.wide {n m : Int} {l : List Rect} (h : Box n l) (hm : n ≤ m) : Box m l := fun r hr => by have := h r hr; omega
structure SqI (K : Int) (l : List Record) (W : List Int) : Prop where
 his : HisT K l
 len : W.length = 128
 at_ : ∀ y k : Int, 0 ≤ y → y < 2 → 0 ≤ k → k < 64 → cropAt l y (k.tmod 8) (k.tdiv 8) = W.getD (y.toNat * 64 + k.toNat) 0 - 1
 bd : ∀ i, i < 128 → 0 ≤ W.getD i 0 ∧ W.getD i 0 ≤ 100
theorem law15_HistorySquares_ok {F : Nat} (hF : BIG ≤ F) (tape : List Int) : law15_HistorySquares F tape = some true := by
 have hF' := hF
 unfold BIG at hF
 obtain ⟨t, e0, o0⟩ := keep_New_ok F tape
 obtain ⟨t1, cs, e1, o1, hc⟩ := keep_Tape_Crops_ok hF' o0
 obtain ⟨t2, n, e2, o2, n1, n2⟩ := keep_Tape_Next_ok (F := F) o1 (n := 6) (by omega) (by omega)
 obtain ⟨l1, l2⟩ := hc.len
 unfold law15_HistorySquares
 refine bd_ok e0 (bd_ok e1 (bd_ok e2 ?_))
 dsimp only
 have fin : ∀ (l : List Record) (W : List Int), SqI (cs.length : Nat) l W → law15_HistorySquares_k5 F l W = some true := by
  intro l W hI
  unfold law15_HistorySquares_k5
  refine for_ok 2 (fun again y hy hagain => ?_) (fun again => ?_) (by omega)
  ·unfold law15_HistorySquares_b6
   refine br_tt (decide_eq_true (by omega)) ?_
   refine for_ok 64 (fun again2 k hk ha => ?_) (fun again2 => ?_) (by omega)
   ·unfold law15_HistorySquares_b7
    have hk1 : (0 : Int) ≤ (k : Int).tmod 8 ∧ (k : Int).tmod 8 < 8 := tmod_range (by omega) (by omega)
    have hk2 : (0 : Int) ≤ (k : Int).tdiv 8 ∧ (k : Int).tdiv 8 ≤ k := by rw [Int.tdiv_eq_ediv_of_nonneg (by omega)]; omega
    refine br_tt (decide_eq_true (by omega)) (gd_ok (by omega) (gd_ok ⟨i64_of (by omega) (by omega), by omega⟩ ?_))
    refine bd_ok (history_At_ok hF' hI.his.hl _ _ _) ?_
    have hat := hI.at_ y k (by omega) (by omega) (by omega) (by omega)
    have ei : (0 + ((y : Int)).toNat * 64) + ((k : Int)).toNat * 1 = (y : Int).toNat * 64 + (k : Int).toNat := by omega
    rw [ei]
    have hb := hI.bd ((y : Int).toNat * 64 + (k : Int).toNat) (by omega)
    refine gd_ok (by omega) (gd_ok (by omega) (gd_ok (by rw [hI.len]; omega) (gd_ok (i64_of (by omega) (by omega)) ?_)))
    refine br_ff (by rw [hat]; simp) (gd_ok (i64_of (by omega) (by omega)) ha)
   ·unfold law15_HistorySquares_b7
    refine br_ff (decide_eq_false (by omega)) ?_
    unfold law15_HistorySquares_k8
    exact gd_ok (i64_of (by omega) (by omega)) hagain
  ·unfold law15_HistorySquares_b6
   refine br_ff (decide_eq_false (by omega)) ?_
   unfold law15_HistorySquares_k9
   exact bd_ok (law15_awake_ok hF') rfl
 refine loopN_ok (fun z : List Record × Int × List Int × Int × List Int => ∃ m : Nat, z.2.1 = m ∧ (z.1.length : Int) + m ≤ 6 ∧ TOk ⟨z.2.2.1, z.2.2.2.1⟩ ∧ SqI (cs.length : Nat) z.1 z.2.2.2.2) (fun z => z.2.1.toNat) (fun again z hz ih => ?_)
  ⟨n.toNat, by simp only; omega, by simp only [List.length_nil]; omega, o2, HisT.nil _, by simp, fun y k _ _ _ _ => ?_, fun i hi => ?_⟩ (by simp only; omega)
 ·obtain ⟨l, m, tl, ta, W⟩ := z
  obtain ⟨m, rfl, hlen, hT, hI⟩ := hz
  simp only at hlen hT hI ⊢
  unfold law15_HistorySquares_b0
  refine br_ok (fun hm => ?_) (fun hm => fin l W hI)
  have hm : 0 < m := by have := of_decide_eq_true hm; omega
  obtain ⟨ta1, y, ea, oa, y1, y2⟩ := keep_Tape_Next_ok (F := F) hT (n := 2) (by omega) (by omega)
  obtain ⟨tb, c, eb, ob, c1, c2⟩ := keep_Tape_Next_ok (F := F) oa (n := (cs.length : Nat)) (by omega) (by omega)
  obtain ⟨tc, a, ec, oc, ha⟩ := keep_Tape_Region_ok hF' ob (n := 8) (most := 2) (by omega) (by omega) (by omega) (by omega)
  have hb9 : Box 9 a.rects_ := ha.box.wide (by omega)
  have hroom := hI.his.room (by omega) (y := y) (c := c) ha.val hb9
  have hadd : addH l y c a = (addL l y c a.rects_, 0) := by rw [addH_ok hI.his.hl (by omega) (by omega) ha.val, if_neg (by rw [hroom]; simp)]
  have hN : HisT (cs.length : Nat) (addL l y c a.rects_) := hI.his.add (by omega) (by omega) c2 ha.val hb9 hroom
  refine bd_ok ea (bd_ok eb (bd_ok ec (bd_ok (history_Add_ok hF' _ _ _ _) ?_)))
  rw [hadd]
  refine br_ff rfl (bd_ok (history_Check_ok hF' _) ?_)
  have hchk : (chkH (addL l y c a.rects_) != 0) = false := by rw [(chkH_zero _).2 hN.hl]; rfl
  simp only
  rw [hchk]
  unfold law15_HistorySquares_k1
  refine br_ff rfl ?_
  refine loopN_ok (fun z : Int × List Int => ∃ k : Nat, z.1 = k ∧ k ≤ 64 ∧ z.2.length = 128 ∧ (∀ i, i < 128 → z.2.getD i 0 = if y.toNat * 64 ≤ i ∧ i < y.toNat * 64 + k ∧ inR a.rects_ (((i - y.toNat * 64 : Nat) : Int).tmod 8) (((i - y.toNat * 64 : Nat) : Int).tdiv 8) = true then c + 1 else W.getD i 0)) (fun z => 64 - z.1.toNat) (fun again2 z hz ih2 => ?_)
   ⟨0, rfl, by omega, hI.len, fun i _ => by rw [if_neg (by omega)]⟩ (by simp only; omega)
  obtain ⟨k0, V⟩ := z
  obtain ⟨k, rfl, hk64, hVl, hV⟩ := hz
  simp only at hVl hV ⊢
  unfold law15_HistorySquares_b2
  refine br_ok (fun hk => ?_) (fun hk => ?_)
  ·have hk : k < 64 := by have := of_decide_eq_true hk; omega
   have hk2 : (0 : Int) ≤ (k : Int).tdiv 8 ∧ (k : Int).tdiv 8 ≤ k := by rw [Int.tdiv_eq_ediv_of_nonneg (by omega)]; omega
   refine gd_ok (by omega) (gd_ok ⟨i64_of (by omega) (by omega), by omega⟩ ?_)
   refine bd_ok (ref04_Has_ok hF' _ _ _) ?_
   rw [valB_true ha.val, Bool.true_and]
   have step : ∀ V' : List Int, V'.length = 128 → (∀ i, i < 128 → V'.getD i 0 = if y.toNat * 64 ≤ i ∧ i < y.toNat * 64 + (k + 1) ∧ inR a.rects_ (((i - y.toNat * 64 : Nat) : Int).tmod 8) (((i - y.toNat * 64 : Nat) : Int).tdiv 8) = true then c + 1 else W.getD i 0) →
     law15_HistorySquares_k3 F (k : Int) again2 V' = some true := by
    intro V' h1 h2
    unfold law15_HistorySquares_k3
    refine gd_ok (i64_of (by omega) (by omega)) (ih2 _ ⟨k + 1, by simp, by omega, h1, h2⟩ (by simp only; omega))
   refine br_ok (fun hin => ?_) (fun hin => ?_)
   ·have ei : (0 + y.toNat * 64) + ((k : Int)).toNat * 1 = y.toNat * 64 + k := by omega
    refine gd_ok (i64_of (by simp only; omega) (by simp only; omega)) (gd_ok (by simp only; omega) (gd_ok (by omega) (gd_ok (by rw [hVl]; simp only; omega) ?_)))
    simp only
    rw [ei]
    refine step _ (by rw [List.length_set]; exact hVl) fun i hi => ?_
    rw [List.getD_eq_getElem?_getD, List.getElem?_set]
    by_cases hik : y.toNat * 64 + k = i
    ·rw [if_pos hik, if_pos (by omega)]
     subst hik
     rw [if_pos ⟨by omega, by omega, by rw [Nat.add_sub_cancel_left]; exact hin⟩]; rfl
    ·rw [if_neg hik, ← List.getD_eq_getElem?_getD, hV i hi]
     by_cases h5 : y.toNat * 64 ≤ i ∧ i < y.toNat * 64 + k
     ·by_cases h6 : inR a.rects_ (((i - y.toNat * 64 : Nat) : Int).tmod 8) (((i - y.toNat * 64 : Nat) : Int).tdiv 8) = true
      ·rw [if_pos ⟨h5.1, h5.2, h6⟩, if_pos ⟨h5.1, by omega, h6⟩]
      ·rw [if_neg (fun hh => h6 hh.2.2), if_neg (fun hh => h6 hh.2.2)]
     ·rw [if_neg (fun hh => h5 ⟨hh.1, hh.2.1⟩), if_neg (fun hh => h5 ⟨hh.1, by omega⟩)]
   ·refine step V hVl fun i hi => ?_
    rw [hV i hi]
    by_cases hik : y.toNat * 64 + k = i
    ·subst hik
     rw [if_neg (by omega), if_neg]
     rintro ⟨_, _, h7⟩
     rw [Nat.add_sub_cancel_left, hin] at h7; cases h7
    ·by_cases h5 : y.toNat * 64 ≤ i ∧ i < y.toNat * 64 + k
     ·by_cases h6 : inR a.rects_ (((i - y.toNat * 64 : Nat) : Int).tmod 8) (((i - y.toNat * 64 : Nat) : Int).tdiv 8) = true
      ·rw [if_pos ⟨h5.1, h5.2, h6⟩, if_pos ⟨h5.1, by omega, h6⟩]
      ·rw [if_neg (fun hh => h6 hh.2.2), if_neg (fun hh => h6 hh.2.2)]
     ·rw [if_neg (fun hh => h5 ⟨hh.1, hh.2.1⟩), if_neg (fun hh => h5 ⟨hh.1, by omega⟩)]
  ·have hk : k = 64 := by have := of_decide_eq_false hk; omega
   subst hk
   unfold law15_HistorySquares_k4
   simp only
   refine gd_ok (i64_of (by omega) (by omega)) ?_
   refine ih _ ⟨m - 1, by simp only; omega, ?_, oc, hN, hVl, fun y' k' g1 g2 g3 g4 => ?_, fun i hi => ?_⟩ (by simp only; omega)
   ·have := addL_len l y c a.rects_
    simp only; omega
   ·rw [cropAt_add hI.his.hl (by omega) (by omega) ha.val hroom, hV _ (by omega)]
    by_cases h8 : y' = y
    ·subst h8
     have e9 : ((y'.toNat * 64 + k'.toNat - y'.toNat * 64 : Nat) : Int) = k' := by omega
     rw [e9]
     by_cases h9 : inR a.rects_ (k'.tmod 8) (k'.tdiv 8) = true
     ·rw [if_pos ⟨rfl, h9⟩, if_pos ⟨by omega, by omega, h9⟩]; omega
     ·rw [if_neg (fun hh => h9 hh.2), if_neg (fun hh => h9 hh.2.2)]
      exact hI.at_ y' k' g1 g2 g3 g4
    ·rw [if_neg (fun hh => h8 hh.1), if_neg (by omega)]
     exact hI.at_ y' k' g1 g2 g3 g4
   ·rw [hV i hi]
    have := hI.bd i hi
    split <;> omega
 ·rw [show cropAt [] y (k.tmod 8) (k.tdiv 8) = -1 from rfl]
  rw [List.getD_eq_getElem?_getD, List.getElem?_replicate]
  split <;> rfl
 ·rw [List.getD_eq_getElem?_getD, List.getElem?_replicate, if_pos hi]
  exact ⟨by decide, by decide⟩
end
end Go.Ab
end
