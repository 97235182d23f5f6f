/- What the plain programs compute, up to the law itself: each lemma states its own bounds. -/
import Derived.Test.YtmidmmneigeaaaaGreatLwA
set_option linter.unusedVariables false
set_option linter.unusedSimpArgs false
section
namespace Go.Ab
set_option maxRecDepth 20000
variable {F n : Nat} {L : List Feature} {d : Int}
theorem ref01_Has_ok (hF : BIG ≤ F) {l : List Int} (hl : l.length ≤ 1000000) (v : Int) : ref01_Has F l v = some (decide (v ∈ l)) := by
 unfold BIG at hF
 unfold ref01_Has
 refine loopN_ok (fun z : Int => ∃ i : Nat, z = i ∧ i ≤ l.length ∧ ∀ j, j < i → gl l j ≠ v) (fun z => l.length - z.toNat) (fun again z hz ih => ?_) ⟨0, rfl, Nat.zero_le _, fun j hj => by omega⟩ (by simp; omega)
 obtain ⟨i, rfl, hi, hj⟩ := hz
 unfold ref01_Has_b0
 refine br_ok (fun h => ?_) (fun h => ?_)
 ·have h : i < l.length := by simpa using h
  refine gd_ok (by first | omega | exact i64_of (by omega) (by omega) | (simp only [LIM, BIG, List.length_append, List.length_cons, List.length_nil, List.length_map, List.length_take, List.length_drop, List.length_set] at *; omega)) ?_
  simp only [Int.toNat_natCast]
  refine br_ok (fun h2 => ?_) (fun h2 => ?_)
  ·rw [beq_iff_eq] at h2
   rw [decide_eq_true (h2 ▸ gl_mem h)]
  ·refine gd_ok (by first | omega | exact i64_of (by omega) (by omega) | (simp only [LIM, BIG, List.length_append, List.length_cons, List.length_nil, List.length_map, List.length_take, List.length_drop, List.length_set] at *; omega)) ?_
   refine ih _ ⟨i + 1, by omega, h, fun j hj2 => ?_⟩ (by omega)
   by_cases e : j = i
   ·subst e; simpa using h2
   ·exact hj j (by omega)
 ·have h : ¬ i < l.length := by simpa using h
  unfold ref01_Has_k1
  rw [decide_eq_false fun hm => ?_]
  obtain ⟨j, hjl, e⟩ := List.mem_iff_getElem.1 hm
  exact hj j (by omega) (by rw [gl_lt hjl]; exact e)
theorem region_Has_ok (hF : BIG ≤ F) (a : Region) (x y : Int) : region_Has F a x y = some (valB a.rects_ && inR a.rects_ x y) := by
 unfold region_Has
 refine bd_ok (region_Valid_ok hF a) ?_
 refine br_ok (fun h => ?_) (fun h => by rw [h]; rfl)
 have hv := (valB_iff _).1 h
 have := hv.1
 refine bd_ok (slices_ContainsFunc_Rect_ok hF (fun r => r.has x y) (by omega) fun r _ => ?_) ?_
 ·unfold region_Has_1 region_Has_1_k0 Rect.has
  cases decide (r.left_ ≤ x) <;> cases decide (x < r.right_) <;> cases decide (r.low_ ≤ y) <;> rfl
 ·rw [h]; rfl
def onL (L : List Feature) (d : Int) : List Feature := L.filter fun f => thereB f d
def hasF (x y : Int) (f : Feature) : Bool := inR f.region_.rects_ x y
theorem zone_Zones_ok (hF : BIG ≤ F) (hv : VL L) (d1 : 0 ≤ d) (d2 : d ≤ 36864) (x y : Int) : ∃ r, zone_Zones F L x y d = some (r, 0) ∧ r.length ≤ 60 ∧ ∀ v, v ∈ r ↔ ∃ f ∈ L, (thereB f d = true ∧ inR f.region_.rects_ x y = true) ∧ f.kind_ = v := by
 have hF' := hF
 unfold BIG at hF
 have hlen := hv.len
 have hol : (onL L d).length ≤ 60 := Nat.le_trans (List.length_filter_le _ _) hlen
 have hmem : ∀ f ∈ onL L d, Val f.region_.rects_ := fun f hf => ((oneC_zero f).1 (hv.one f (List.mem_filter.1 hf).1)).2.2.2.2.2.2.2.2
 obtain ⟨r, hr, hr1, hr2, hr3⟩ := sortI_ok (l := ((onL L d).filter (hasF x y)).map Feature.kind_) (by rw [List.length_map]; have := List.length_filter_le (hasF x y) (onL L d); unfold LIM; omega)
 have hrl : r.length ≤ 60 := by
  rw [hr3, List.length_map]
  have := List.length_filter_le (hasF x y) (onL L d)
  omega
 refine ⟨dd r, ?_, Nat.le_trans (dd_len r) hrl, fun v => ?_⟩
 ·unfold zone_Zones
  refine bd_ok (feature_On_ok hF' L d) ?_
  rw [if_neg (by simp [(chkC_zero L).2 hv]), if_neg (by omega)]
  refine br_ff rfl ?_
  show loopN (fun again (z : Int × (List Int)) => zone_Zones_b0 F x y (onL L d, 0) again z.1 z.2) F ((0 : Int), ([] : List Int)) = _
  refine loopN_ok (fun z : Int × List Int => ∃ i : Nat, z = ((i : Int), (((onL L d).take i).filter (hasF x y)).map Feature.kind_) ∧ i ≤ (onL L d).length) (fun z => (onL L d).length - z.1.toNat) (fun again z hz ih => ?_) ⟨0, rfl, Nat.zero_le _⟩ (by simp; omega)
  obtain ⟨i, rfl, hi2⟩ := hz
  simp only at ih ⊢
  unfold zone_Zones_b0
  dsimp only
  refine br_ok (fun h => ?_) (fun h => ?_)
  ·have h : i < (onL L d).length := by simpa using h
   have hnext : ∀ o, o = (((onL L d).take (i + 1)).filter (hasF x y)).map Feature.kind_ → zone_Zones_k1 F (i : Int) again o = some (dd r, 0) := fun o ho => by
    unfold zone_Zones_k1
    refine gd_ok (by first | omega | exact i64_of (by omega) (by omega) | (simp only [LIM, BIG, List.length_append, List.length_cons, List.length_nil, List.length_map, List.length_take, List.length_drop, List.length_set] at *; omega)) ?_
    exact ih _ ⟨i + 1, by rw [ho]; simp, h⟩ (by simp only; omega)
   have hle : ((((onL L d).take i).filter (hasF x y)).map Feature.kind_).length ≤ 60 := by
    rw [List.length_map]
    have h1 := List.length_filter_le (hasF x y) ((onL L d).take i)
    have h2 : ((onL L d).take i).length ≤ (onL L d).length := by rw [List.length_take]; omega
    omega
   refine gd_ok (by first | omega | exact i64_of (by omega) (by omega) | (simp only [LIM, BIG, List.length_append, List.length_cons, List.length_nil, List.length_map, List.length_take, List.length_drop, List.length_set] at *; omega)) ?_
   simp only [Int.toNat_natCast]
   refine bd_ok (region_Has_ok hF' _ x y) ?_
   rw [valB_true (hmem _ (gl_mem h)), Bool.true_and]
   refine br_ok (fun h2 => ?_) (fun h2 => ?_)
   ·refine gd_ok (by simp only [LIM, List.length_cons, List.length_nil]; omega) ?_
    refine hnext _ ?_
    rw [take_gl h, List.filter_append, List.map_append]
    congr 1
    rw [List.filter_cons, if_pos (show hasF x y (gl (onL L d) i) = true from h2)]; rfl
   ·refine hnext _ ?_
    rw [take_gl h, List.filter_append, List.map_append]
    rw [List.filter_cons, if_neg (by show ¬ hasF x y (gl (onL L d) i) = true; unfold hasF; rw [h2]; simp)]
    simp
  ·have h : ¬ i < (onL L d).length := by simpa using h
   rw [List.take_of_length_le (by omega)]
   unfold zone_Zones_k2
   refine bd_ok hr ?_
   exact bd_ok (slices_Compact_int_ok hF' (by unfold LIM; omega)) rfl
 ·rw [mem_dd, hr2, List.mem_map]
  constructor
  ·rintro ⟨f, hf, rfl⟩
   rw [List.mem_filter] at hf
   have h2 := List.mem_filter.1 hf.1
   exact ⟨f, h2.1, ⟨h2.2, hf.2⟩, rfl⟩
  ·rintro ⟨f, hf, ⟨h1, h2⟩, rfl⟩
   exact ⟨f, List.mem_filter.2 ⟨List.mem_filter.2 ⟨hf, h1⟩, h2⟩, rfl⟩
def lessL (L : List Feature) : List Feature := L.filter fun f => decide (f.kind_ < 12)
theorem less_lb (hL : LB n L) : LB n (lessL L) := by
 have hsub : ∀ f ∈ lessL L, f ∈ L := fun f hf => (List.mem_filter.1 hf).1
 exact ⟨⟨Nat.le_trans (List.length_filter_le _ _) hL.vl.len, fun f hf => hL.vl.one f (hsub f hf), hL.vl.asc.filter _⟩, fun f hf => hL.box f (hsub f hf), hL.n15⟩
theorem less_rects (L : List Feature) (d : Int) {w : Int} (hw : w = 0 ∨ w = 1) : rectsP (lessL L) d (zp w) = rectsP L d (zp w) := by
 unfold rectsP lessL
 rw [List.filter_filter]
 congr 1
 refine List.filter_congr fun f _ => ?_
 cases h1 : thereB f d && zp w f.kind_ with
 | false => rfl
 | true =>
  rw [Bool.and_eq_true] at h1
  have h2 := h1.2
  unfold zp zs at h2
  rw [beq_iff_eq] at h2
  have : f.kind_ < 12 := by
   split at h2
   ·omega
   ·split at h2 <;> omega
  rw [decide_eq_true this]; rfl
theorem less_el (L : List Feature) (d m : Int) (a : List Rect) : elS (lessL L) d m a = elS L d m a := by
 have h : softR (lessL L) d a = softR L d a := by unfold softR; rw [less_rects L d (.inr rfl)]
 funext x y
 unfold elS softO
 rw [less_rects L d (.inl rfl), h]
theorem law11_ZoneSquares_ok (hF : BIG ≤ F) (l : List Int) {w1 : Int} (hw1 : 0 ≤ w1 ∧ w1 ≤ 255) : law11_ZoneSquares F l w1 = some true := by
 have hF' := hF
 unfold BIG at hF
 obtain ⟨t, e0, o0⟩ := keep_New_ok F l
 obtain ⟨t1, L, e1, o1, hL, _⟩ := keep_Tape_Layer_ok hF' o0 (most := 5) (by omega) (by omega)
 obtain ⟨t2, a, e2, o2, ha⟩ := keep_Tape_Region_ok hF' o1 (n := 9) (most := 3) (by omega) (by omega) (by omega) (by omega)
 obtain ⟨d1, d2⟩ := tmod_range hw1.1 (n := 45) (by omega)
 have hB := hL.lb
 have hlen := hL.vl.len
 unfold law11_ZoneSquares
 refine bd_ok e0 (bd_ok e1 (bd_ok e2 ?_))
 refine gd_ok (i64_of (by omega) (by omega)) (gd_ok (by omega) ?_)
 generalize hd : w1.tmod 45 = d at *
 have hv := ha.val
 refine loopN_ok (fun z : Int × List Feature => ∃ i : Nat, z = ((i : Int), lessL (L.take i)) ∧ i ≤ L.length) (fun z => L.length - z.1.toNat) (fun again z hz ih => ?_) ⟨0, rfl, Nat.zero_le _⟩ (by simp; omega)
 obtain ⟨i, rfl, hi2⟩ := hz
 simp only at ih ⊢
 unfold law11_ZoneSquares_b0
 dsimp only
 refine br_ok (fun h => ?_) (fun h => ?_)
 ·have h : i < L.length := by simpa using h
  have hnext : ∀ o, o = lessL (L.take (i + 1)) → law11_ZoneSquares_k1 F (i : Int) again o = some true := fun o ho => by
   unfold law11_ZoneSquares_k1
   refine gd_ok (by first | omega | exact i64_of (by omega) (by omega) | (simp only [LIM, BIG, List.length_append, List.length_cons, List.length_nil, List.length_map, List.length_take, List.length_drop, List.length_set] at *; omega)) ?_
   exact ih _ ⟨i + 1, by rw [ho]; simp, h⟩ (by simp only; omega)
  have hle : (lessL (L.take i)).length ≤ 60 := by
   have h1 : (lessL (L.take i)).length ≤ (L.take i).length := List.length_filter_le _ _
   have h2 : (L.take i).length ≤ L.length := by rw [List.length_take]; omega
   omega
  refine gd_ok (by first | omega | exact i64_of (by omega) (by omega) | (simp only [LIM, BIG, List.length_append, List.length_cons, List.length_nil, List.length_map, List.length_take, List.length_drop, List.length_set] at *; omega)) ?_
  simp only [Int.toNat_natCast]
  refine br_ok (fun h2 => ?_) (fun h2 => ?_)
  ·refine gd_ok (by simp only [LIM, List.length_cons, List.length_nil]; omega) ?_
   refine hnext _ ?_
   unfold lessL
   rw [take_gl h, List.filter_append]
   congr 1
   rw [List.filter_cons, if_pos h2]; rfl
  ·refine hnext _ ?_
   unfold lessL
   rw [take_gl h, List.filter_append, List.filter_cons, if_neg (by rw [h2]; simp)]
   simp
 ·have h : ¬ i < L.length := by simpa using h
  rw [List.take_of_length_le (by omega)]
  unfold law11_ZoneSquares_k2
  dsimp only
  rw [hd]
  refine bd_ok (zone_Eligible_ok hF' hB d1 (by omega) hv ha.box (m := 3) (by omega) (by omega)) ?_
  refine bd_ok (zone_Eligible_ok hF' (less_lb hB) d1 (by omega) hv ha.box (m := 3) (by omega) (by omega)) ?_
  rw [less_el]
  have hel := (el_val hB ha.box d 3).1.1
  refine br_ff rfl (br_ff rfl ?_)
  refine bd_ok (ref04_Same_ok hF' (a := ⟨cn (elS L d 3 a.rects_)⟩) (b := ⟨cn (elS L d 3 a.rects_)⟩) (by simp only [LIM]; omega)) ?_
  rw [decide_eq_true rfl]
  unfold law11_ZoneSquares_k3
  refine br_ff rfl ?_
  refine loopN_ok (fun z : Int => 0 ≤ z ∧ z ≤ 12) (fun z => (12 - z).toNat) (fun again4 x hx ih4 => ?_) ⟨by omega, by omega⟩ (by omega)
  unfold law11_ZoneSquares_b4
  refine br_ok (fun hb => ?_) (fun hb => ?_)
  ·rw [decide_eq_true_eq] at hb
   refine loopN_ok (fun z : Int => 0 ≤ z ∧ z ≤ 11) (fun z => (11 - z).toNat) (fun again5 y hy ih5 => ?_) ⟨by omega, by omega⟩ (by omega)
   unfold law11_ZoneSquares_b5
   dsimp only
   rw [hd]
   refine br_ok (fun hb2 => ?_) (fun hb2 => ?_)
   ·rw [decide_eq_true_eq] at hb2
    obtain ⟨r, hr, hr1, hr2⟩ := zone_Zones_ok hF' hL.vl d1 (by omega) x y
    refine bd_ok hr ?_
    refine br_ff rfl ?_
    refine loopN_ok (fun z : Int => 0 ≤ z ∧ z ≤ 16) (fun z => (16 - z).toNat) (fun again6 k hk ih6 => ?_) ⟨by omega, by omega⟩ (by omega)
    unfold law11_ZoneSquares_b6
    dsimp only
    rw [hd]
    refine br_ok (fun hb3 => ?_) (fun hb3 => ?_)
    ·rw [decide_eq_true_eq] at hb3
     refine bd_ok (ref09_Kind_ok hF' hB hk.1 hb3 d1 (by omega)) ?_
     refine br_ff rfl ?_
     refine bd_ok (ref01_Has_ok hF' (by omega) k) ?_
     refine bd_ok (ref04_Has_ok hF' _ x y) ?_
     have hK := (hB.rval d (fun x => x == k)).1
     have e : decide (k ∈ r) = (valB (cn (inR (rectsP L d fun x => x == k))) && inR (cn (inR (rectsP L d fun x => x == k))) x y) := by
      rw [valB_true hK, Bool.true_and, inR_cn (fin_inR _), Bool.eq_iff_iff, decide_eq_true_eq, hr2, inR_rectsP, List.any_eq_true]
      constructor
      ·rintro ⟨f, hf, ⟨h1, h2⟩, h3⟩
       exact ⟨f, hf, by rw [h1, h2, h3]; simp⟩
      ·rintro ⟨f, hf, h1⟩
       simp only [Bool.and_eq_true, beq_iff_eq] at h1
       exact ⟨f, hf, ⟨h1.1.1, h1.2⟩, h1.1.2⟩
     show law11_ZoneSquares_k7 F k again6 (!(decide (k ∈ r) == (valB (cn (inR (rectsP L d fun x => x == k))) && inR (cn (inR (rectsP L d fun x => x == k))) x y))) = _
     rw [← e]
     unfold law11_ZoneSquares_k7
     refine br_ff (by simp) ?_
     refine gd_ok (i64_of (by omega) (by omega)) ?_
     exact ih6 _ ⟨by omega, by omega⟩ (by omega)
    ·unfold law11_ZoneSquares_k8
     refine gd_ok (i64_of (by omega) (by omega)) ?_
     exact ih5 _ ⟨by omega, by omega⟩ (by omega)
   ·unfold law11_ZoneSquares_k9
    refine gd_ok (i64_of (by omega) (by omega)) ?_
    exact ih4 _ ⟨by omega, by omega⟩ (by omega)
  ·unfold law11_ZoneSquares_k10
   exact bd_ok (law11_awake_ok hF') rfl
end Go.Ab
end
