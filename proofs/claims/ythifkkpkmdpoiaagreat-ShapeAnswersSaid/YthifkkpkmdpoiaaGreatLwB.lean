/- What the plain programs compute, up to the law itself: each lemma states its own bounds. -/
import Derived.Test.YthifkkpkmdpoiaaGreatLwA
set_option linter.unusedVariables false
set_option linter.unusedSimpArgs false
section
namespace Go.Ab
set_option maxRecDepth 20000
theorem ref_touch_inner {F : Nat} (hF : BIG ≤ F) {a b : Region} {r : Rect} (hr : Sm r ∧ Pos r) (hb : ∀ s ∈ b.rects_, Sm s ∧ Pos s) (hl : b.rects_.length ≤ 120) {i : Nat} (hgl : gl a.rects_ i = r) {v : Int} (v0 : 0 ≤ v) (v1 : v ≤ 100000000000) {ag : Int × Int → Option (Int × Int)} {y : Option (Int × Int)}
  (hy : ref06_Touch_k3 F i ag (v + (b.rects_.map fun s => com r s).sum) = y) : loopN (fun again (z : Int × Int) => ref06_Touch_b2 F a b i ag again z.1 z.2) F (v, 0) = y := by
 have hF' := hF
 unfold BIG at hF
 have hbd : ∀ j, 0 ≤ ((b.rects_.take j).map fun s => com r s).sum ∧ ((b.rects_.take j).map fun s => com r s).sum ≤ 480000000 := fun j => by
  have := sum_bound (l := (b.rects_.take j).map fun s => com r s) (M := 4000000) (fun x hx => by
   obtain ⟨s, hs, rfl⟩ := List.mem_map.1 hx
   exact com_nonneg hr.1 (hb s (List.mem_of_mem_take hs)).1)
  simp only [List.length_map, List.length_take] at this
  omega
 refine loopN_ok (fun z : Int × Int => ∃ j : Nat, z = (v + ((b.rects_.take j).map fun s => com r s).sum, (j : Int)) ∧ j ≤ b.rects_.length) (fun z => b.rects_.length - z.2.toNat) (fun again z hz ih => ?_) ⟨0, by simp, by omega⟩ (by simp; omega)
 obtain ⟨j, rfl, hj⟩ := hz
 simp only at ih ⊢
 have h1 := hbd j
 have h2 := hbd (j + 1)
 unfold ref06_Touch_b2
 refine br_ok (fun h => ?_) (fun h => ?_)
 ·have h : j < b.rects_.length := by simpa using h
  refine gd_ok (by first | omega | exact i64_of (by omega) (by omega) | (simp only [LIM, BIG, List.length_append, List.length_cons, List.length_nil, List.length_map, List.length_take, List.length_drop, List.length_set] at *; omega)) ?_
  simp only [Int.toNat_natCast]
  rw [hgl]
  refine bd_ok (ref06_touch_ok F hr.1 (hb _ (gl_mem h)).1 hr.2 (hb _ (gl_mem h)).2) ?_
  rw [sum_take h] at h2
  refine gd_ok (i64_of (by omega) (by omega)) ?_
  refine gd_ok (by first | omega | exact i64_of (by omega) (by omega) | (simp only [LIM, BIG, List.length_append, List.length_cons, List.length_nil, List.length_map, List.length_take, List.length_drop, List.length_set] at *; omega)) ?_
  refine ih _ ⟨j + 1, ?_, h⟩ (by simp only; omega)
  rw [sum_take h, ← Int.add_assoc]; rfl
 ·have h : ¬ j < b.rects_.length := by simpa using h
  have : j = b.rects_.length := by omega
  subst this
  rw [List.take_length]
  exact hy
theorem ref06_Touch_ok {F : Nat} (hF : BIG ≤ F) {a b : Region} (ha : Val a.rects_) (hb : Val b.rects_) (hd : AptL a.rects_ b.rects_) : ref06_Touch F a b = some (tch a.rects_ b.rects_, 0) := by
 have hF' := hF
 unfold BIG at hF
 have la := ha.1
 have lb := hb.1
 have hsa : ∀ r ∈ a.rects_, Sm r := fun r hr => sm_prop (ha.2.1 r hr)
 have hsb : ∀ r ∈ b.rects_, Sm r := fun r hr => sm_prop (hb.2.1 r hr)
 unfold ref06_Touch
 refine bd_ok (ref04_Valid_ok hF' a) ?_
 rw [valB_true ha]
 refine br_ff rfl ?_
 refine bd_ok (ref04_Valid_ok hF' b) ?_
 rw [valB_true hb]
 unfold ref06_Touch_k0
 refine br_ff rfl ?_
 refine bd_ok (ref04_Meets_ok hF' a b) ?_
 refine br_ff ?_ ?_
 ·rw [← Bool.not_eq_true]
  intro h
  unfold meetB at h
  rw [valB_true ha, valB_true hb, Bool.true_and, Bool.true_and, ovL_iff ha.2.1 hb.2.1] at h
  obtain ⟨x, y, h1, h2⟩ := h
  exact hd x y h1 h2
 let f : Rect → Int := fun r => (b.rects_.map fun s => com r s).sum
 have hf : ∀ r ∈ a.rects_, 0 ≤ f r ∧ f r ≤ 480000000 := fun r hr => by
  have := sum_bound (l := b.rects_.map fun s => com r s) (M := 4000000) (fun x hx => by
   obtain ⟨s, hs, rfl⟩ := List.mem_map.1 hx
   exact com_nonneg (hsa r hr) (hsb s hs))
  simp only [List.length_map] at this
  have e : f r = (b.rects_.map fun s => com r s).sum := rfl
  omega
 have hbd : ∀ j, 0 ≤ ((a.rects_.take j).map f).sum ∧ ((a.rects_.take j).map f).sum ≤ 57600000000 := fun j => by
  have := sum_bound (l := (a.rects_.take j).map f) (M := 480000000) (fun x hx => by
   obtain ⟨s, hs, rfl⟩ := List.mem_map.1 hx
   exact hf s (List.mem_of_mem_take hs))
  simp only [List.length_map, List.length_take] at this
  omega
 refine loopN_ok (fun z : Int × Int => ∃ j : Nat, z = (((a.rects_.take j).map f).sum, (j : Int)) ∧ j ≤ a.rects_.length) (fun z => a.rects_.length - z.2.toNat) (fun again z hz ih => ?_) ⟨0, by simp, by omega⟩ (by simp; omega)
 obtain ⟨j, rfl, hj⟩ := hz
 simp only at ih ⊢
 have h1 := hbd j
 unfold ref06_Touch_b1
 refine br_ok (fun h => ?_) (fun h => ?_)
 ·have h : j < a.rects_.length := by simpa using h
  refine gd_ok (by first | omega | exact i64_of (by omega) (by omega) | (simp only [LIM, BIG, List.length_append, List.length_cons, List.length_nil, List.length_map, List.length_take, List.length_drop, List.length_set] at *; omega)) ?_
  refine ref_touch_inner hF' ⟨hsa _ (gl_mem h), ha.2.2.pos (gl_mem h)⟩ (fun s hs => ⟨hsb s hs, hb.2.2.pos hs⟩) lb rfl h1.1 (by omega) ?_
  unfold ref06_Touch_k3
  refine gd_ok (by first | omega | exact i64_of (by omega) (by omega) | (simp only [LIM, BIG, List.length_append, List.length_cons, List.length_nil, List.length_map, List.length_take, List.length_drop, List.length_set] at *; omega)) ?_
  refine ih _ ⟨j + 1, ?_, h⟩ (by simp only; omega)
  rw [sum_take h]; rfl
 ·have h : ¬ j < a.rects_.length := by simpa using h
  have : j = a.rects_.length := by omega
  subst this
  rw [List.take_length]
  rfl
theorem touch_eq {F : Nat} (hF : BIG ≤ F) (a b : Region) : ∃ v, shape_Touch F a b = some v ∧ ref06_Touch F a b = some v := by
 by_cases ha : Val a.rects_
 ·by_cases hb : Val b.rects_
  ·by_cases hd : AptL a.rects_ b.rects_
   ·exact ⟨_, shape_Touch_ok hF ha hb hd, ref06_Touch_ok hF ha hb hd⟩
   ·have hm : meetB a b = true := by
     unfold meetB
     rw [valB_true ha, valB_true hb, Bool.true_and, Bool.true_and, ovL_iff ha.2.1 hb.2.1]
     unfold AptL at hd
     exact Classical.byContradiction fun h => hd fun x y h1 h2 => h ⟨x, y, h1, h2⟩
    refine ⟨(0, 11), ?_, ?_⟩
    ·unfold shape_Touch
     refine bd_ok (region_Valid_ok hF a) ?_
     rw [valB_true ha]
     refine br_ff rfl ?_
     refine bd_ok (region_Valid_ok hF b) ?_
     rw [valB_true hb]
     unfold shape_Touch_k0
     refine br_ff rfl ?_
     refine bd_ok (region_Meets_ok hF a b) ?_
     rw [hm]; rfl
    ·unfold ref06_Touch
     refine bd_ok (ref04_Valid_ok hF a) ?_
     rw [valB_true ha]
     refine br_ff rfl ?_
     refine bd_ok (ref04_Valid_ok hF b) ?_
     rw [valB_true hb]
     unfold ref06_Touch_k0
     refine br_ff rfl ?_
     refine bd_ok (ref04_Meets_ok hF a b) ?_
     rw [hm]; rfl
  ·refine ⟨(0, 7), ?_, ?_⟩
   ·unfold shape_Touch
    refine bd_ok (region_Valid_ok hF a) ?_
    rw [valB_true ha]
    refine br_ff rfl ?_
    refine bd_ok (region_Valid_ok hF b) ?_
    rw [valB_false hb]; rfl
   ·unfold ref06_Touch
    refine bd_ok (ref04_Valid_ok hF a) ?_
    rw [valB_true ha]
    refine br_ff rfl ?_
    refine bd_ok (ref04_Valid_ok hF b) ?_
    rw [valB_false hb]; rfl
 ·refine ⟨(0, 7), ?_, ?_⟩
  ·unfold shape_Touch
   refine bd_ok (region_Valid_ok hF a) ?_
   rw [valB_false ha]; rfl
  ·unfold ref06_Touch
   refine bd_ok (ref04_Valid_ok hF a) ?_
   rw [valB_false ha]; rfl
theorem ref06_Bounds_ok {F : Nat} (hF : BIG ≤ F) {a : Region} (hv : Val a.rects_) (hne : a.rects_ ≠ []) : ref06_Bounds F a = some (bnd a.rects_, true) := by
 have hl := hv.1
 have hpos : 0 < a.rects_.length := List.length_pos_iff.2 hne
 have hF' := hF
 unfold BIG at hF
 unfold ref06_Bounds
 refine bd_ok (ref04_Valid_ok hF' a) ?_
 rw [valB_true hv]
 refine br_ff rfl ?_
 unfold ref06_Bounds_k0
 refine br_ff (by simp; exact hne) ?_
 refine gd_ok (by omega) ?_
 refine loopN_ok (fun z : Int × Int × Int × Int × Int => ∃ i : Nat, i ≤ a.rects_.length ∧ z.1 = i ∧ (a.rects_.drop i).foldl bnd1 ⟨z.2.1, z.2.2.1, z.2.2.2.1, z.2.2.2.2⟩ = bnd a.rects_) (fun z => a.rects_.length - z.1.toNat) (fun again z hz ih => ?_) ⟨0, by omega, rfl, rfl⟩ (by simp; omega)
 obtain ⟨zi, z1, z2, z3, z4⟩ := z
 obtain ⟨i, hi, rfl, hb⟩ := hz
 simp only at hb ih ⊢
 unfold ref06_Bounds_b1
 refine br_ok (fun h => ?_) (fun h => ?_)
 ·have h : i < a.rects_.length := by simpa using h
  refine gd_ok (by first | omega | exact i64_of (by omega) (by omega) | (simp only [LIM, BIG, List.length_append, List.length_cons, List.length_nil, List.length_map, List.length_take, List.length_drop, List.length_set] at *; omega)) ?_
  simp only [Int.toNat_natCast]
  refine gd_ok (by first | omega | exact i64_of (by omega) (by omega) | (simp only [LIM, BIG, List.length_append, List.length_cons, List.length_nil, List.length_map, List.length_take, List.length_drop, List.length_set] at *; omega)) ?_
  rw [drop_gl h] at hb
  exact ih _ ⟨i + 1, h, by simp only; omega, hb⟩ (by simp only; omega)
 ·have h : ¬ i < a.rects_.length := by simpa using h
  have : i = a.rects_.length := by omega
  subst this
  rw [List.drop_length] at hb
  unfold ref06_Bounds_k2
  rw [← hb]; rfl
theorem ref06_Bounds_nil {F : Nat} (hF : BIG ≤ F) {a : Region} (h : a.rects_ = []) : ref06_Bounds F a = some (⟨0, 0, 0, 0⟩, false) := by
 unfold ref06_Bounds
 refine bd_ok (ref04_Valid_ok hF a) ?_
 rw [valB_true (by rw [h]; exact Val.nil)]
 refine br_ff rfl ?_
 unfold ref06_Bounds_k0
 exact br_tt (by rw [h]; rfl) rfl
theorem bounds_eq {F : Nat} (hF : BIG ≤ F) (a : Region) : ∃ v, shape_Bounds F a = some v ∧ ref06_Bounds F a = some v := by
 by_cases ha : Val a.rects_
 ·by_cases hn : a.rects_ = []
  ·exact ⟨_, shape_Bounds_nil hF hn, ref06_Bounds_nil hF hn⟩
  ·exact ⟨_, shape_Bounds_ok hF ha hn, ref06_Bounds_ok hF ha hn⟩
 ·refine ⟨(⟨0, 0, 0, 0⟩, false), ?_, ?_⟩
  ·unfold shape_Bounds
   refine bd_ok (region_Valid_ok hF a) ?_
   rw [valB_false ha]; rfl
  ·unfold ref06_Bounds
   refine bd_ok (ref04_Valid_ok hF a) ?_
   rw [valB_false ha]; rfl
theorem lim_len (l : List Rect) : (lim l).1.rects_.length ≤ 120 := by
 unfold lim
 split
 ·simp
 ·simp only; omega
theorem grow_eq {F : Nat} (hF : BIG ≤ F) (a : Region) (k : Int) : ∃ v, shape_Grow F a k = some v ∧ ref06_Grow F a k = some v ∧ v.1.rects_.length ≤ 120 := by
 by_cases ha : Val a.rects_
 ·by_cases hk : 0 ≤ k ∧ k ≤ 64
  ·exact ⟨_, shape_Grow_ok hF ha hk.1 hk.2, ref06_Grow_ok hF ha hk.1 hk.2, lim_len _⟩
  ·refine ⟨(⟨[]⟩, 2), ?_, ?_, by simp⟩
   ·unfold shape_Grow
    refine bd_ok (shape_check_ok hF a k) ?_
    rw [valB_true ha, if_pos rfl, if_pos (by omega)]
    exact br_tt rfl rfl
   ·unfold ref06_Grow
    refine bd_ok (ref04_Valid_ok hF a) ?_
    rw [valB_true ha]
    refine br_ff rfl ?_
    refine br_ok (fun _ => rfl) (fun h => ?_)
    rw [decide_eq_false_iff_not] at h
    rw [show decide ((64 : Int) < k) = true by rw [decide_eq_true_eq]; omega]
    rfl
 ·refine ⟨(⟨[]⟩, 7), ?_, ?_, by simp⟩
  ·unfold shape_Grow
   refine bd_ok (shape_check_ok hF a k) ?_
   rw [valB_false ha, if_neg (by simp)]
   exact br_tt rfl rfl
  ·unfold ref06_Grow
   refine bd_ok (ref04_Valid_ok hF a) ?_
   rw [valB_false ha]; rfl
theorem sm_outs65 {l : List Rect} (hne : l ≠ []) (h : ∀ r ∈ l, propB r = true) {k : Int} (h0 : 0 ≤ k) (h1 : k ≤ 65) : ∀ r ∈ outs l k, Sm r ∧ Pos r := by
 intro r hr
 have hc : Canon (outs l k) := Canon.cn (fin_diff _ _)
 obtain ⟨p1, p2⟩ := hc.pos hr
 have hin : ∀ x y, r.has x y = true → -65 ≤ x ∧ x < 16384 + 65 ∧ -65 ≤ y ∧ y < 16384 + 65 := by
  intro x y hxy
  have := inR_mem hr hxy
  unfold outs at this
  rw [inR_cn (fin_diff _ _)] at this
  simp only [Bool.and_eq_true] at this
  have h2 := this.1
  simp only [inR, List.any_cons, List.any_nil, Bool.or_false, has_iff, wid] at h2
  have hb : 0 ≤ (bnd l).left_ ∧ (bnd l).right_ ≤ 16384 ∧ 0 ≤ (bnd l).low_ ∧ (bnd l).high_ ≤ 16384 := by
   have hpos : 0 < l.length := List.length_pos_iff.2 hne
   refine bnd_go (fun r => 0 ≤ r.left_ ∧ r.right_ ≤ 16384 ∧ 0 ≤ r.low_ ∧ r.high_ ≤ 16384) (fun b r hb hr => ?_) l _ (by have := (propB_iff _).1 (h _ (gl_mem hpos)); omega) (fun r hr => by have := (propB_iff _).1 (h r hr); omega)
   unfold bnd1 gmin gmax
   simp only
   repeat' split
   all_goals omega
  omega
 have a := hin r.left_ r.low_ ((has_iff _ _ _).2 (by omega))
 have b := hin (r.right_ - 1) (r.high_ - 1) ((has_iff _ _ _).2 (by omega))
 refine ⟨?_, p1, p2⟩
 unfold Sm
 omega
theorem comb_len (a b : List Rect) (how : Int) : (cn fun x y => keepB (inR a x y) (inR b x y) how).length ≤ (2 * a.length + 2 * b.length) * (a.length + b.length) := by
 have h1 := cutX_small2 (a := a) (b := b)
 have h2 := cutY_small2 (a := a) (b := b)
 exact Nat.le_trans ((cut_grid a b how).len (N := a.length + b.length) (by omega)) (Nat.mul_le_mul_right _ h2)
theorem outs_len (l : List Rect) (k : Int) : (outs l k).length ≤ (2 + 2 * l.length) * (1 + l.length) := comb_len [wid k (bnd l)] l 3
theorem shrink_set {l : List Rect} (hne : l ≠ []) (h : ∀ r ∈ l, propB r = true) {k m : Int} (h0 : 0 ≤ k) (hkm : k ≤ m) (h1 : m ≤ 65) (x y : Int) : (inR l x y && !inR ((outs l m).map (wid k)) x y) = true ↔ ∀ u v, near k x y u v → inR l u v = true := by
 have hso := sm_outs65 hne h (by omega : 0 ≤ m) h1
 rw [Bool.and_eq_true, Bool.not_eq_true', ← Bool.not_eq_true, inR_wid (fun r hr => (hso r hr).2) h0]
 have hout : ∀ u v, inR (outs l m) u v = true ↔ inR [wid m (bnd l)] u v = true ∧ ¬ inR l u v = true := by
  intro u v
  unfold outs
  rw [inR_cn (fin_diff _ _), Bool.and_eq_true, Bool.not_eq_true', Bool.not_eq_true]
 constructor
 ·rintro ⟨h2, h3⟩ u v hn
  rcases Bool.eq_false_or_eq_true (inR l u v) with h4 | h4
  ·exact h4
  ·refine (h3 ⟨u, v, (hout u v).2 ⟨?_, by rw [h4]; simp⟩, hn⟩).elim
   obtain ⟨r, hr, h5⟩ := (inR_iff _ _ _).1 h2
   have h6 := (bnd_has l (gl l 0)).2 r hr
   have h6 : InB r (bnd l) := h6
   unfold InB at h6
   unfold near at hn
   rw [has_iff] at h5
   simp only [inR, List.any_cons, List.any_nil, Bool.or_false, has_iff, wid]
   omega
 ·intro hall
  refine ⟨hall x y (by unfold near; omega), ?_⟩
  rintro ⟨u, v, h2, h3⟩
  exact ((hout u v).1 h2).2 (hall u v h3)
theorem ref06_Shrink_ok {F : Nat} (hF : BIG ≤ F) {a : Region} (hv : Val a.rects_) (hne : a.rects_ ≠ []) {k : Int} (h0 : 0 ≤ k) (h1 : k ≤ 64) (ho : (outs a.rects_ (k + 1)).length ≤ 15000) : ref06_Shrink F a k = some (lim (shrinkL a.rects_ k)) := by
 have hlen := hv.1
 have hsm : ∀ r ∈ a.rects_, Sm r := fun r hr => sm_prop (hv.2.1 r hr)
 have hso := sm_outs65 hne hv.2.1 (by omega : 0 ≤ k + 1) (by omega)
 unfold ref06_Shrink
 refine bd_ok (ref04_Valid_ok hF a) ?_
 rw [valB_true hv]
 refine br_ff rfl ?_
 refine br_ff (by rw [decide_eq_false_iff_not]; omega) ?_
 rw [show decide ((64 : Int) < k) = false by rw [decide_eq_false_iff_not]; omega]
 unfold ref06_Shrink_k0
 refine br_ff rfl ?_
 refine bd_ok (ref06_Bounds_ok hF hv hne) ?_
 refine br_ff rfl ?_
 refine gd_ok (i64_of (by omega) (by omega)) ?_
 refine bd_ok (ref06_wide_ok hF (by simp) (fun r hr => by rw [List.mem_singleton.1 hr]; exact sm_bnd hne hsm) (by omega) (by omega)) ?_
 refine bd_ok (ref04_Combine_small hF (by simp; omega)) ?_
 show (ref06_wide F (outs a.rects_ (k + 1)) k).bind _ = _
 refine bd_ok (ref06_wide_ok hF (by omega) (fun r hr => (hso r hr).1) h0 (by omega)) ?_
 refine bd_ok (ref04_Combine_small hF (by simp; omega)) ?_
 have e : (cn fun x y => keepB (inR a.rects_ x y) (inR ((outs a.rects_ (k + 1)).map (wid k)) x y) 3) = shrinkL a.rects_ k := by
  unfold shrinkL
  congr 1
  funext x y
  show (inR a.rects_ x y && !inR ((outs a.rects_ (k + 1)).map (wid k)) x y) = _
  have g1 := shrink_set hne hv.2.1 h0 (by omega : k ≤ k + 1) (by omega) x y
  have g2 := shrink_set hne hv.2.1 h0 (by omega : k ≤ k) (by omega) x y
  rw [Bool.eq_iff_iff, g1, g2]
 rw [e]
 exact bd_ok (ref04_Bound_ok _) rfl
theorem shrink_eq {F : Nat} (hF : BIG ≤ F) {a : Region} (hl : Val a.rects_ → a.rects_.length ≤ 60) (k : Int) : ∃ v, shape_Shrink F a k = some v ∧ ref06_Shrink F a k = some v ∧ v.1.rects_.length ≤ 120 := by
 by_cases ha : Val a.rects_
 ·have hl := hl ha
  by_cases hk : 0 ≤ k ∧ k ≤ 64
  ·by_cases hn : a.rects_ = []
   ·refine ⟨_, shape_Shrink_nil hF hn hk.1 hk.2, ?_, by simp⟩
    unfold ref06_Shrink
    refine bd_ok (ref04_Valid_ok hF a) ?_
    rw [valB_true ha]
    refine br_ff rfl ?_
    refine br_ff (by rw [decide_eq_false_iff_not]; omega) ?_
    rw [show decide ((64 : Int) < k) = false by rw [decide_eq_false_iff_not]; omega]
    unfold ref06_Shrink_k0
    refine br_ff rfl ?_
    refine bd_ok (ref06_Bounds_nil hF hn) ?_
    exact br_tt rfl rfl
   ·have hb : ∀ m, (outs a.rects_ m).length ≤ 15000 := fun m => by
     have h1 := outs_len a.rects_ m
     have h2 : (2 + 2 * a.rects_.length) * (1 + a.rects_.length) ≤ 122 * 61 := Nat.mul_le_mul (by omega) (by omega)
     omega
    exact ⟨_, shape_Shrink_ok hF ha hn hk.1 hk.2 (hb _), ref06_Shrink_ok hF ha hn hk.1 hk.2 (hb _), lim_len _⟩
  ·refine ⟨(⟨[]⟩, 2), ?_, ?_, by simp⟩
   ·unfold shape_Shrink
    refine bd_ok (shape_check_ok hF a k) ?_
    rw [valB_true ha, if_pos rfl, if_pos (by omega)]
    exact br_tt rfl rfl
   ·unfold ref06_Shrink
    refine bd_ok (ref04_Valid_ok hF a) ?_
    rw [valB_true ha]
    refine br_ff rfl ?_
    refine br_ok (fun _ => rfl) (fun h => ?_)
    rw [decide_eq_false_iff_not] at h
    rw [show decide ((64 : Int) < k) = true by rw [decide_eq_true_eq]; omega]
    rfl
 ·refine ⟨(⟨[]⟩, 7), ?_, ?_, by simp⟩
  ·unfold shape_Shrink
   refine bd_ok (shape_check_ok hF a k) ?_
   rw [valB_false ha, if_neg (by simp)]
   exact br_tt rfl rfl
  ·unfold ref06_Shrink
   refine bd_ok (ref04_Valid_ok hF a) ?_
   rw [valB_false ha]; rfl
end Go.Ab
end

section
namespace Go.Ab
set_option maxRecDepth 20000
def kr (r : Rect) : Int × Int := (r.low_, r.left_)
theorem lt2_trans {a b c : Int × Int} (h : lt2 a b) (k : lt2 b c) : lt2 a c := by unfold lt2 at *; omega
theorem Canon.sorted {L : List Rect} (h : Canon L) : L.Pairwise fun r s => lt2 (kr r) (kr s) := by
 obtain ⟨B, hB, rfl⟩ := h
 have key : ∀ B : List (Rn (List Span)), Bands B → (flat B).Pairwise fun r s => lt2 (kr r) (kr s) := by
  intro B
  induction B with
  | nil => intro _; exact .nil
  | cons b B ih =>
   intro hB
   rw [flat_cons, List.pairwise_append]
   refine ⟨?_, ih ⟨hB.runs.tail, fun c hc => hB.sp c (by simp [hc]), fun c hc => hB.ne c (by simp [hc])⟩, fun r hr s hs => ?_⟩
   ·unfold flat1
    rw [List.pairwise_map]
    have hs := hB.sp b (by simp)
    refine List.Pairwise.imp_of_mem (fun {s t} h1 h2 h => ?_) hs.ch
    have := hs.pos s h1
    exact .inr ⟨rfl, by show s.left_ < t.left_; omega⟩
   ·unfold flat1 at hr
    obtain ⟨s1, h1, rfl⟩ := List.mem_map.1 hr
    obtain ⟨c, hc, s2, h2, rfl⟩ := flat_mem hs
    have h3 := hB.runs.pos b (by simp)
    have h4 := (hB.runs.head c hc).1
    unfold lt2 kr
    simp only
    omega
 exact key B hB
theorem has_ge {r : Rect} {x y : Int} (h : r.has x y = true) : ¬ lt2 (y, x) (kr r) := by
 rw [has_iff] at h
 unfold lt2 kr
 simp only
 omega
theorem key1_least {p : List Rect} (hp : p ≠ []) (hpos : ∀ r ∈ p, Pos r) {x y : Int} (h : inR p x y = true) : ¬ lt2 (y, x) (key1 (regOf p)) := by
 have hne := (key1_mem hp hpos).2
 have hs := (Canon.cn (fin_inR p)).sorted
 rw [← inR_cn (fin_inR p)] at h
 simp only [regOf] at hne
 obtain ⟨r, hr, h2⟩ := (inR_iff _ _ _).1 h
 have h3 := has_ge h2
 unfold key1 regOf
 simp only
 cases hc : cn (inR p) with
 | nil => exact absurd hc hne
 | cons c l =>
  rw [hc] at hr hs
  have e : gl (c :: l) 0 = c := rfl
  rw [e]
  rcases List.mem_cons.1 hr with rfl | hr
  ·exact h3
  ·have := (List.pairwise_cons.1 hs).1 r hr
   intro h4
   exact h3 (lt2_trans h4 this)
theorem sel_key {R : List Rect} (hc : Canon R) {p : List Int} (hl : Lab R p) {i : Nat} (hi : i < R.length) (hp : gl p i = (i : Int)) : key1 (regOf (sel R p i)) = kr (gl R i) := by
 have hpos : ∀ r ∈ sel R p i, Pos r := fun r hr => by
  obtain ⟨k, hk, _, rfl⟩ := mem_sel.1 hr
  exact hc.pos (gl_mem hk)
 have him : gl R i ∈ sel R p i := mem_sel.2 ⟨i, hi, hp, rfl⟩
 have hne : sel R p i ≠ [] := List.ne_nil_of_mem him
 have hq := hc.pos (gl_mem hi)
 have hsq : inR (sel R p i) (gl R i).left_ (gl R i).low_ = true := inR_mem him ((has_iff _ _ _).2 (by omega))
 have h1 := key1_least hne hpos hsq
 have h2 : ¬ lt2 (key1 (regOf (sel R p i))) (kr (gl R i)) := by
  obtain ⟨r, hr, h3⟩ := (inR_iff _ _ _).1 (key1_mem hne hpos).1
  obtain ⟨k, hk, h4, rfl⟩ := mem_sel.1 hr
  have h5 := has_ge h3
  have h6 := (hl.low k hk).2
  have hs := hc.sorted
  rw [List.pairwise_iff_getElem] at hs
  by_cases e : k = i
  ·subst e; exact h5
  ·have := hs i k hi hk (by omega)
   rw [← gl_lt hi, ← gl_lt hk] at this
   intro h7
   exact h5 (lt2_trans h7 this)
 apply Classical.byContradiction
 intro hne2
 rcases lt2_tri hne2 with h | h
 ·exact h2 h
 ·exact h1 h
theorem sorted_ext {α : Type} {Rl : α → α → Prop} (hi : ∀ a b, Rl a b → ¬ Rl b a) : ∀ {l m : List α}, l.Pairwise Rl → m.Pairwise Rl → (∀ x, x ∈ l ↔ x ∈ m) → l = m
 | [], [], _, _, _ => rfl
 | [], b :: m, _, _, h => by have := (h b).2 (by simp); cases this
 | a :: l, [], _, _, h => by have := (h a).1 (by simp); cases this
 | a :: l, b :: m, h1, h2, h => by
  rw [List.pairwise_cons] at h1 h2
  have e : a = b := by
   rcases List.mem_cons.1 ((h a).1 (by simp)) with e | h3
   ·exact e
   ·rcases List.mem_cons.1 ((h b).2 (by simp)) with e | h4
    ·exact e.symm
    ·exact (hi _ _ (h2.1 a h3) (h1.1 b h4)).elim
  subst e
  rw [sorted_ext hi h1.2 h2.2 fun x => ?_]
  constructor
  ·intro hx
   rcases List.mem_cons.1 ((h x).1 (by simp [hx])) with e | h3
   ·subst e; exact (hi _ _ (h1.1 _ hx) (h1.1 _ hx)).elim
   ·exact h3
  ·intro hx
   rcases List.mem_cons.1 ((h x).2 (by simp [hx])) with e | h3
   ·subst e; exact (hi _ _ (h2.1 _ hx) (h2.1 _ hx)).elim
   ·exact h3
theorem parts_lim {R : List Rect} (hv : Val R) : ∀ p ∈ parts R, (cn (inR p)).length ≤ 120 := fun p hp => by
 have h1 := cn_sub_len hv.2.2 (fun r hr => parts_mem hp hr)
 have h2 := part_len hp
 have := hv.1
 omega
theorem parts_eq {F : Nat} (hF : BIG ≤ F) (a : Region) : ∃ v, shape_Parts F a = some v ∧ ref06_Parts F a = some v ∧ v.1.length ≤ 120 ∧ ∀ r ∈ v.1, r.rects_.length ≤ 120 := by
 by_cases ha : Val a.rects_
 ·obtain ⟨r, h1, h2, h3⟩ := shape_Parts_ok hF ha (parts_lim ha)
  obtain ⟨p, h4, h5, h6⟩ := ref06_Parts_ok hF ha
  have hpos : ∀ r ∈ a.rects_, Pos r := fun r hr => ha.2.2.pos hr
  have f1 := fam_parts ha.2.2.apt hpos
  have f2 := fam_ref ha.2.2.apt hpos h4 h5
  have e : r = (refQ a.rects_ p).map regOf := by
   refine sorted_ext (Rl := fun a b => lt2 (key1 a) (key1 b)) (fun _ _ h => lt2_asymm h) h3 ?_ fun x => ?_
   ·rw [List.pairwise_map]
    unfold refQ
    rw [List.pairwise_map]
    refine List.Pairwise.imp_of_mem ?_ (List.Pairwise.filter _ List.pairwise_lt_range)
    intro i j hi hj hlt
    rw [List.mem_filter, List.mem_range, beq_iff_eq] at hi hj
    rw [sel_key ha.2.2 h4 hi.1 hi.2, sel_key ha.2.2 h4 hj.1 hj.2]
    have hs := ha.2.2.sorted
    rw [List.pairwise_iff_getElem] at hs
    have := hs i j hi.1 hj.1 hlt
    rw [gl_lt hi.1, gl_lt hj.1]
    exact this
   ·rw [h2.mem_iff, List.mem_map, List.mem_map]
    constructor
    ·rintro ⟨q, hq, rfl⟩
     obtain ⟨q', hq', he⟩ := f1.uniq f2 hq
     exact ⟨q', hq', by unfold regOf; rw [he]⟩
    ·rintro ⟨q, hq, rfl⟩
     obtain ⟨q', hq', he⟩ := f2.uniq f1 hq
     exact ⟨q', hq', by unfold regOf; rw [he]⟩
  refine ⟨_, h1, by rw [e]; exact h6, ?_, fun x hx => ?_⟩
  ·have h7 := h2.length_eq
   have h8 := parts_len (l := a.rects_)
   have := ha.1
   rw [List.length_map] at h7
   show r.length ≤ 120
   omega
  ·obtain ⟨q, hq, rfl⟩ := List.mem_map.1 (h2.mem_iff.1 hx)
   exact parts_lim ha q hq
 ·refine ⟨([], 7), ?_, ?_, by simp, fun r hr => (List.not_mem_nil hr).elim⟩
  ·unfold shape_Parts
   refine bd_ok (region_Valid_ok hF a) ?_
   rw [valB_false ha]; rfl
  ·unfold ref06_Parts
   refine bd_ok (ref04_Valid_ok hF a) ?_
   rw [valB_false ha]; rfl
theorem ref04_All_self {F : Nat} (hF : BIG ≤ F) {l : List Region} (hl : l.length ≤ 1000000) (h : ∀ r ∈ l, r.rects_.length ≤ LIM) : ref04_All F l l = some true := by
 have hF' := hF
 unfold BIG at hF
 unfold ref04_All
 refine br_ff (by simp) ?_
 refine for_ok l.length (fun again i hi ih => ?_) (fun again => ?_) (by omega)
 ·unfold ref04_All_b0
  refine br_tt (by simpa using hi) ?_
  refine gd_ok (by first | omega | exact i64_of (by omega) (by omega) | (simp only [LIM, BIG, List.length_append, List.length_cons, List.length_nil, List.length_map, List.length_take, List.length_drop, List.length_set] at *; omega)) ?_
  refine gd_ok (by first | omega | exact i64_of (by omega) (by omega) | (simp only [LIM, BIG, List.length_append, List.length_cons, List.length_nil, List.length_map, List.length_take, List.length_drop, List.length_set] at *; omega)) ?_
  simp only [Int.toNat_natCast]
  refine bd_ok (ref04_Same_ok hF' (h _ (gl_mem hi))) ?_
  refine br_ff (by simp) ?_
  refine gd_ok (by first | omega | exact i64_of (by omega) (by omega) | (simp only [LIM, BIG, List.length_append, List.length_cons, List.length_nil, List.length_map, List.length_take, List.length_drop, List.length_set] at *; omega)) ?_
  exact ih
 ·unfold ref04_All_b0
  refine br_ff (by simp) ?_
  rfl
end Go.Ab
end

section
namespace Go.Ab
set_option maxRecDepth 20000
def fitB (dx dy : Int) (r : Rect) : Bool := decide (0 ≤ r.left_ + dx) && (decide (0 ≤ r.low_ + dy) && (decide (r.right_ + dx ≤ 16384) && decide (r.high_ + dy ≤ 16384)))
theorem fitB_iff (dx dy : Int) (r : Rect) : fitB dx dy r = true ↔ 0 ≤ r.left_ + dx ∧ 0 ≤ r.low_ + dy ∧ r.right_ + dx ≤ 16384 ∧ r.high_ + dy ≤ 16384 := by simp [fitB]
theorem ref06_Move_far {F : Nat} (hF : BIG ≤ F) {a : Region} (hv : Val a.rects_) {dx dy : Int} (h1 : -16384 ≤ dx) (h2 : dx ≤ 16384) (h3 : -16384 ≤ dy) (h4 : dy ≤ 16384) (hp : ¬ ∀ r ∈ a.rects_, fitB dx dy r = true) : ref06_Move F a dx dy = some (⟨[]⟩, 2) := by
 have hl := hv.1
 have hF' := hF
 unfold BIG at hF
 unfold ref06_Move
 refine bd_ok (ref04_Valid_ok hF' a) ?_
 rw [valB_true hv]
 refine br_ff rfl ?_
 refine br_ff (by simp; omega) (br_ff (by simp; omega) (br_ff (by simp; omega) ?_))
 unfold ref06_Move_k0
 refine br_ff (by simp; omega) ?_
 refine loopN_ok (fun z : Int × List Rect => ∃ i : Nat, z.1 = i ∧ i ≤ a.rects_.length ∧ z.2.length = i ∧ ∀ j, j < i → fitB dx dy (gl a.rects_ j) = true) (fun z => a.rects_.length - z.1.toNat) (fun again z hz ih => ?_) ⟨0, rfl, Nat.zero_le _, rfl, fun j hj => by omega⟩ (by simp; omega)
 obtain ⟨ii, l⟩ := z
 obtain ⟨i, rfl, hi, hll, hj⟩ := hz
 simp only at ih hll ⊢
 unfold ref06_Move_b1
 refine br_ok (fun hb => ?_) (fun hb => ?_)
 ·have hi : i < a.rects_.length := by simpa using hb
  have hr := (propB_iff _).1 (hv.2.1 _ (gl_mem hi))
  refine gd_ok (by first | omega | exact i64_of (by omega) (by omega) | (simp only [LIM, BIG, List.length_append, List.length_cons, List.length_nil, List.length_map, List.length_take, List.length_drop, List.length_set] at *; omega)) ?_
  simp only [Int.toNat_natCast]
  refine gd_ok (i64_of (by omega) (by omega)) ?_
  refine gd_ok (i64_of (by omega) (by omega)) ?_
  refine gd_ok (i64_of (by omega) (by omega)) ?_
  refine gd_ok (i64_of (by omega) (by omega)) ?_
  have ht : ref06_Move_k2 F a dx dy (i : Int) l again true = some (⟨[]⟩, 2) := rfl
  refine br_ok (fun _ => ht) (fun g1 => br_ok (fun _ => ht) (fun g2 => br_ok (fun _ => ht) (fun g3 => ?_)))
  rw [decide_eq_false_iff_not] at g1 g2 g3
  unfold ref06_Move_k2
  refine br_ok (fun _ => rfl) (fun g4 => ?_)
  rw [decide_eq_false_iff_not] at g4
  refine gd_ok (by simp [LIM]; omega) ?_
  refine gd_ok (by first | omega | exact i64_of (by omega) (by omega) | (simp only [LIM, BIG, List.length_append, List.length_cons, List.length_nil, List.length_map, List.length_take, List.length_drop, List.length_set] at *; omega)) ?_
  refine ih _ ⟨i + 1, by simp only; omega, hi, by simp [hll], fun j h => ?_⟩ (by simp only; omega)
  by_cases e : j = i
  ·subst e; exact (fitB_iff _ _ _).2 (by omega)
  ·exact hj j (by omega)
 ·have hi : ¬ i < a.rects_.length := by simpa using hb
  refine (hp fun r hr => ?_).elim
  obtain ⟨j, hjl, rfl⟩ := List.mem_iff_getElem.1 hr
  rw [← gl_lt hjl]
  exact hj j (by omega)
theorem shape_Move_far {F : Nat} (hF : BIG ≤ F) {a : Region} (hv : Val a.rects_) {dx dy : Int} (h1 : -16384 ≤ dx) (h2 : dx ≤ 16384) (h3 : -16384 ≤ dy) (h4 : dy ≤ 16384) (hp : ¬ ∀ r ∈ a.rects_, fitB dx dy r = true) : shape_Move F a dx dy = some (⟨[]⟩, 2) := by
 unfold shape_Move
 refine bd_ok (region_Valid_ok hF a) ?_
 rw [valB_true hv]
 refine br_ff rfl ?_
 refine br_ff (by simp; omega) (br_ff (by simp; omega) (br_ff (by simp; omega) ?_))
 unfold shape_Move_k0
 refine br_ff (by simp; omega) ?_
 have hne : a.rects_ ≠ [] := fun e => hp fun r hr => by rw [e] at hr; cases hr
 refine bd_ok (shape_Bounds_ok hF hv hne) ?_
 refine br_tt rfl ?_
 have hpos : 0 < a.rects_.length := List.length_pos_iff.2 hne
 have hb : 0 ≤ (bnd a.rects_).left_ ∧ (bnd a.rects_).right_ ≤ 16384 ∧ 0 ≤ (bnd a.rects_).low_ ∧ (bnd a.rects_).high_ ≤ 16384 := by
  refine bnd_go (fun r => 0 ≤ r.left_ ∧ r.right_ ≤ 16384 ∧ 0 ≤ r.low_ ∧ r.high_ ≤ 16384) (fun b r hb hr => ?_) a.rects_ _ (by have := (propB_iff _).1 (hv.2.1 _ (gl_mem hpos)); omega) (fun r hr => by have := (propB_iff _).1 (hv.2.1 r hr); omega)
  unfold bnd1 gmin gmax
  simp only
  repeat' split
  all_goals omega
 have hps := pos_bnd hne fun r hr => hv.2.2.pos hr
 unfold Pos at hps
 have ht : shape_Move_k1 F a dx dy true = some (⟨[]⟩, 2) := rfl
 dsimp only
 refine gd_ok (i64_of (by omega) (by omega)) ?_
 refine br_ok (fun _ => ht) (fun g1 => ?_)
 refine gd_ok (i64_of (by omega) (by omega)) ?_
 refine br_ok (fun _ => ht) (fun g2 => ?_)
 refine gd_ok (i64_of (by omega) (by omega)) ?_
 refine br_ok (fun _ => ht) (fun g3 => ?_)
 refine gd_ok (i64_of (by omega) (by omega)) ?_
 rw [decide_eq_false_iff_not] at g1 g2 g3
 by_cases g4 : (16384 : Int) < (bnd a.rects_).high_ + dy
 ·rw [show decide ((16384 : Int) < (bnd a.rects_).high_ + dy) = true by rw [decide_eq_true_eq]; exact g4]
  exact ht
 ·refine (hp fun r hr => (fitB_iff _ _ _).2 ?_).elim
  have h6 : InB r (bnd a.rects_) := (bnd_has a.rects_ (gl a.rects_ 0)).2 r hr
  unfold InB at h6
  omega
theorem move_eq {F : Nat} (hF : BIG ≤ F) (a : Region) (dx dy : Int) : ∃ v, shape_Move F a dx dy = some v ∧ ref06_Move F a dx dy = some v ∧ v.1.rects_.length ≤ 120 := by
 by_cases ha : Val a.rects_
 ·by_cases hr : -16384 ≤ dx ∧ dx ≤ 16384 ∧ -16384 ≤ dy ∧ dy ≤ 16384
  ·by_cases hp : ∀ r ∈ a.rects_, fitB dx dy r = true
   ·have hp2 : ∀ r ∈ a.rects_, propB (mvR dx dy r) = true := fun r h => by
     have h1 := (fitB_iff _ _ _).1 (hp r h)
     have h2 := (propB_iff _).1 (ha.2.1 r h)
     rw [propB_iff]
     simp only [mvR]
     omega
    refine ⟨_, shape_Move_ok hF ha hr.1 hr.2.1 hr.2.2.1 hr.2.2.2 hp2, ref06_Move_ok hF ha hr.1 hr.2.1 hr.2.2.1 hr.2.2.2 hp2, ?_⟩
    have := ha.1
    simp only [List.length_map]; omega
   ·exact ⟨_, shape_Move_far hF ha hr.1 hr.2.1 hr.2.2.1 hr.2.2.2 hp, ref06_Move_far hF ha hr.1 hr.2.1 hr.2.2.1 hr.2.2.2 hp, by simp⟩
  ·refine ⟨(⟨[]⟩, 2), ?_, ?_, by simp⟩
   ·unfold shape_Move
    refine bd_ok (region_Valid_ok hF a) ?_
    rw [valB_true ha]
    refine br_ff rfl ?_
    have ht : shape_Move_k0 F a dx dy true = some (⟨[]⟩, 2) := rfl
    refine br_ok (fun _ => ht) (fun g1 => br_ok (fun _ => ht) (fun g2 => br_ok (fun _ => ht) (fun g3 => ?_)))
    rw [decide_eq_false_iff_not] at g1 g2 g3
    rw [show decide ((16384 : Int) < dy) = true by rw [decide_eq_true_eq]; omega]
    exact ht
   ·unfold ref06_Move
    refine bd_ok (ref04_Valid_ok hF a) ?_
    rw [valB_true ha]
    refine br_ff rfl ?_
    have ht : ref06_Move_k0 F a dx dy true = some (⟨[]⟩, 2) := rfl
    refine br_ok (fun _ => ht) (fun g1 => br_ok (fun _ => ht) (fun g2 => br_ok (fun _ => ht) (fun g3 => ?_)))
    rw [decide_eq_false_iff_not] at g1 g2 g3
    rw [show decide ((16384 : Int) < dy) = true by rw [decide_eq_true_eq]; omega]
    exact ht
 ·refine ⟨(⟨[]⟩, 7), ?_, ?_, by simp⟩
  ·unfold shape_Move
   refine bd_ok (region_Valid_ok hF a) ?_
   rw [valB_false ha]; rfl
  ·unfold ref06_Move
   refine bd_ok (ref04_Valid_ok hF a) ?_
   rw [valB_false ha]; rfl
theorem keep_Tape_One_ok {F : Nat} {t : Tape} (ht : TOk t) {n : Int} (h1 : 1 ≤ n) (h2 : n ≤ 1099511627776) : ∃ t' b, keep_Tape_One F t n = some (t', b) ∧ TOk t' := by
 obtain ⟨t1, k, e1, o1, _, _⟩ := keep_Tape_Next_ok (F := F) ht h1 h2
 refine ⟨t1, k == n - 1, ?_, o1⟩
 unfold keep_Tape_One
 refine bd_ok e1 ?_
 refine gd_ok (i64_of (by omega) (by omega)) rfl
theorem tape_eta (t : Tape) : (⟨t.l_, t.at_⟩ : Tape) = t := rfl
theorem keep_Tape_Broken_ok {F : Nat} (hF : BIG ≤ F) {t : Tape} (ht : TOk t) {n : Nat} {most : Int} (h1 : 1 ≤ n) (h2 : n ≤ 1000) (m1 : 0 ≤ most) (m2 : most ≤ 100) : ∃ t' r, keep_Tape_Broken F t n most = some (t', r) ∧ TOk t' ∧ r.rects_.length ≤ n * ((n + 1) / 2) + 1 := by
 obtain ⟨t1, a, e1, o1, ha⟩ := keep_Tape_Region_ok hF ht (n := n) (most := most) (by omega) (by omega) m1 m2
 have hlen : a.rects_.length ≤ n * ((n + 1) / 2) := ha.val.2.2.half ha.box
 have hval := ha.val.1
 unfold keep_Tape_Broken
 simp only [e1, Option.bind_some]
 by_cases hz : a.rects_.length = 0
 ·refine ⟨t1, a, ?_, o1, by omega⟩
  refine br_tt (by rw [hz]; rfl) ?_
  rfl
 ·obtain ⟨t2, b, e2, o2⟩ := keep_Tape_One_ok (F := F) o1 (n := 6) (by omega) (by omega)
  have e0 : ((a.rects_.length : Int) == 0) = false := by rw [beq_eq_false_iff_ne]; omega
  rw [e0]
  simp only [br, e2, Option.bind_some]
  cases b with
  | false => exact ⟨t2, a, rfl, o2, by omega⟩
  | true =>
   obtain ⟨t3, k, e3, o3, k1, k2⟩ := keep_Tape_Next_ok (F := F) o2 (n := (a.rects_.length : Int)) (by omega) (by omega)
   obtain ⟨t4, c, e4, o4, c1, c2⟩ := keep_Tape_Next_ok (F := F) o3 (n := 5) (by omega) (by omega)
   have hkn : k.toNat < a.rects_.length := by omega
   have hr := (propB_iff _).1 (ha.val.2.1 _ (gl_mem hkn))
   have main : Ok (keep_Tape_Broken_k0 F (t1, a) (!true) t2.l_ t2.at_) fun z => TOk z.1 ∧ z.2.rects_.length ≤ n * ((n + 1) / 2) + 1 := by
    unfold keep_Tape_Broken_k0
    refine ok_br (fun h => by cases h) (fun _ => ?_)
    simp only [List.nil_append, tape_eta]
    refine ok_gd (by simp only [LIM]; omega) ?_
    refine ok_bd e3 ?_
    refine ok_bd e4 ?_
    dsimp only
    refine ok_br (fun _ => ?_) (fun _ => ok_br (fun _ => ?_) (fun _ => ok_br (fun _ => ?_) (fun _ => ok_br (fun _ => ?_) (fun _ => ?_))))
    ·refine ok_gd (by omega) (ok_gd (i64_of (by omega) (by omega)) (ok_gd (by omega) ?_))
     exact ok_some ⟨o4, by simp only [List.length_set]; omega⟩
    ·refine ok_gd (by omega) ?_
     exact ok_some ⟨o4, by simp only [List.length_set]; omega⟩
    ·refine ok_gd (by omega) (ok_gd (by simp only [LIM, List.length_cons, List.length_nil]; omega) ?_)
     exact ok_some ⟨o4, by simp only [List.length_append, List.length_cons, List.length_nil]; omega⟩
    ·refine ok_gd (by omega) (ok_gd (by omega) (ok_gd (by omega) (ok_gd (by simp only [List.length_set]; omega) ?_)))
     exact ok_some ⟨o4, by simp only [List.length_set]; omega⟩
    ·refine ok_gd (by omega) (ok_gd (by omega) ?_)
     exact ok_some ⟨o4, by simp only [List.length_set]; omega⟩
   obtain ⟨⟨t', r⟩, g1, g2, g3⟩ := main
   exact ⟨t', r, g1, g2, g3⟩
end Go.Ab
end

section
namespace Go.Ab
set_option maxRecDepth 20000
theorem bne_self (n : Int) : (n != n) = false := by simp
theorem law06_ShapeAnswers_ok {F : Nat} (hF : BIG ≤ F) (a b : Region) (n dx dy : Int) (l : List Int) : law06_ShapeAnswers F a b n dx dy l = some true := by
 have hF' := hF
 unfold BIG at hF
 have hw : law06_ShapeAnswers_k0 F a b n dx dy l true = some true := by
  unfold law06_ShapeAnswers_k0
  refine br_tt rfl ?_
  exact bd_ok (law06_awake_ok hF') rfl
 unfold law06_ShapeAnswers
 refine br_ok (fun _ => hw) (fun ha => ?_)
 rcases Bool.eq_false_or_eq_true (decide ((8 : Int) < ((List.length b.rects_ : Nat) : Int))) with hb | hb
 ·rw [hb]; exact hw
 rw [hb]
 have ha : a.rects_.length ≤ 60 := by rw [decide_eq_false_iff_not] at ha; omega
 unfold law06_ShapeAnswers_k0
 refine br_ff rfl ?_
 obtain ⟨t0, e0, o0⟩ := keep_New_ok F l
 obtain ⟨t1, r1, e1, o1, l1⟩ := keep_Tape_Broken_ok hF' o0 (n := 9) (most := 4) (by omega) (by omega) (by omega) (by omega)
 obtain ⟨t2, r2, e2, o2, l2⟩ := keep_Tape_Region_ok hF' o1 (n := 9) (most := 3) (by omega) (by omega) (by omega) (by omega)
 obtain ⟨t3, r3, e3, o3, l3⟩ := keep_Tape_Region_ok hF' o2 (n := 9) (most := 4) (by omega) (by omega) (by omega) (by omega)
 obtain ⟨t4, r4, e4, o4, l4⟩ := keep_Tape_Broken_ok hF' o3 (n := 12) (most := 2) (by omega) (by omega) (by omega) (by omega)
 refine bd_ok e0 (bd_ok e1 (bd_ok e2 (bd_ok e3 (bd_ok e4 ?_))))
 have h3 : r3.rects_.length ≤ 60 := by
  have := l3.val.2.2.half (n := 9) l3.box
  omega
 have hsmall : ∀ i, i < 3 → (gl ([(⟨a, b⟩ : Arr2Region), (⟨r1, r2⟩ : Arr2Region), (⟨r3, r4⟩ : Arr2Region)] : List Arr2Region) i).e0_.rects_.length ≤ 60 := by
  intro i hi
  rcases i with _ | _ | _ | i
  ·exact ha
  ·show r1.rects_.length ≤ 60; omega
  ·exact h3
  ·omega
 refine for_ok 3 (fun again i hi ih => ?_) (fun again => ?_) (by omega)
 ·unfold law06_ShapeAnswers_b1
  dsimp only
  have hsm := hsmall i hi
  simp only [Int.toNat_natCast, List.length_cons, List.length_nil] at hsm ⊢
  generalize hx : gl ([(⟨a, b⟩ : Arr2Region), (⟨r1, r2⟩ : Arr2Region), (⟨r3, r4⟩ : Arr2Region)] : List Arr2Region) i = x at hsm ⊢
  refine br_tt (by rw [decide_eq_true_eq]; omega) ?_
  refine gd_ok (by omega) ?_
  obtain ⟨v1, p1, p2, p3, p4⟩ := parts_eq hF' x.e0_
  obtain ⟨v2, q1, q2⟩ := touch_eq hF' x.e0_ x.e1_
  obtain ⟨v3, s1, s2⟩ := bounds_eq hF' x.e0_
  refine bd_ok p1 (bd_ok p2 (bd_ok q1 (bd_ok q2 (bd_ok s1 (bd_ok s2 ?_)))))
  refine bd_ok (ref04_All_self hF' (by omega) fun r hr => by have := p4 r hr; simp only [LIM]; omega) ?_
  refine br_ff rfl ?_
  rw [bne_self, bne_self, bne_self]
  refine br_ff rfl (br_ff rfl (br_ff rfl (br_ff (by simp) ?_)))
  rw [beq_self_eq_true]
  unfold law06_ShapeAnswers_k2
  refine br_ff rfl ?_
  obtain ⟨m1, f1, f2, f3⟩ := keep_Mod_ok (F := F) n (n := 4) (by omega) (by omega)
  obtain ⟨m2, g1, g2, g3⟩ := keep_Mod_ok (F := F) n (n := 70) (by omega) (by omega)
  refine bd_ok f1 (bd_ok g1 ?_)
  refine gd_ok (by first | omega | exact i64_of (by omega) (by omega) | (simp only [LIM, BIG, List.length_append, List.length_cons, List.length_nil, List.length_map, List.length_take, List.length_drop, List.length_set] at *; omega)) ?_
  refine for_ok 3 (fun again3 j hj ih3 => ?_) (fun again3 => ?_) (by omega)
  ·unfold law06_ShapeAnswers_b3
   dsimp only
   simp only [Int.toNat_natCast, List.length_cons, List.length_nil, hx]
   generalize gl ([n, m1, m2 - 2] : List Int) j = k
   refine br_tt (by rw [decide_eq_true_eq]; omega) ?_
   refine gd_ok (by omega) ?_
   obtain ⟨u1, c1, c2, c3⟩ := grow_eq hF' x.e0_ k
   obtain ⟨u2, d1, d2, d3⟩ := shrink_eq hF' (fun _ => hsm) k
   refine bd_ok c1 (bd_ok c2 (bd_ok d1 (bd_ok d2 ?_)))
   refine bd_ok (ref04_Same_ok hF' (by simp only [LIM]; omega)) ?_
   rw [bne_self, bne_self]
   refine br_ff (by simp) (br_ff rfl ?_)
   refine bd_ok (ref04_Same_ok hF' (by simp only [LIM]; omega)) ?_
   refine br_ff (by simp) ?_
   unfold law06_ShapeAnswers_k4
   refine br_ff rfl ?_
   refine gd_ok (by first | omega | exact i64_of (by omega) (by omega) | (simp only [LIM, BIG, List.length_append, List.length_cons, List.length_nil, List.length_map, List.length_take, List.length_drop, List.length_set] at *; omega)) ?_
   exact ih3
  ·unfold law06_ShapeAnswers_b3
   refine br_ff rfl ?_
   unfold law06_ShapeAnswers_k5
   obtain ⟨m1, f1, f2, f3⟩ := keep_Mod_ok (F := F) dx (n := 9) (by omega) (by omega)
   obtain ⟨m2, g1, g2, g3⟩ := keep_Mod_ok (F := F) dy (n := 9) (by omega) (by omega)
   obtain ⟨m3, g4, g5, g6⟩ := keep_Mod_ok (F := F) dx (n := 4) (by omega) (by omega)
   refine bd_ok f1 ?_
   refine gd_ok (by first | omega | exact i64_of (by omega) (by omega) | (simp only [LIM, BIG, List.length_append, List.length_cons, List.length_nil, List.length_map, List.length_take, List.length_drop, List.length_set] at *; omega)) ?_
   refine bd_ok g1 ?_
   refine gd_ok (by first | omega | exact i64_of (by omega) (by omega) | (simp only [LIM, BIG, List.length_append, List.length_cons, List.length_nil, List.length_map, List.length_take, List.length_drop, List.length_set] at *; omega)) ?_
   refine bd_ok g4 ?_
   refine gd_ok (by first | omega | exact i64_of (by omega) (by omega) | (simp only [LIM, BIG, List.length_append, List.length_cons, List.length_nil, List.length_map, List.length_take, List.length_drop, List.length_set] at *; omega)) ?_
   refine for_ok 3 (fun again6 j hj ih6 => ?_) (fun again6 => ?_) (by omega)
   ·unfold law06_ShapeAnswers_b6
    dsimp only
    simp only [Int.toNat_natCast, List.length_cons, List.length_nil, hx]
    generalize gl ([(⟨dx, dy⟩ : Arr2Int), (⟨m1 - 3, m2 - 3⟩ : Arr2Int), (⟨16375 + m3, dy⟩ : Arr2Int)] : List Arr2Int) j = k
    refine br_tt (by rw [decide_eq_true_eq]; omega) ?_
    refine gd_ok (by omega) ?_
    obtain ⟨u1, c1, c2, c3⟩ := move_eq hF' x.e0_ k.e0_ k.e1_
    refine bd_ok c1 (bd_ok c2 ?_)
    refine bd_ok (ref04_Same_ok hF' (by simp only [LIM]; omega)) ?_
    rw [bne_self]
    refine br_ff (by simp) ?_
    unfold law06_ShapeAnswers_k7
    refine br_ff rfl ?_
    refine gd_ok (by first | omega | exact i64_of (by omega) (by omega) | (simp only [LIM, BIG, List.length_append, List.length_cons, List.length_nil, List.length_map, List.length_take, List.length_drop, List.length_set] at *; omega)) ?_
    exact ih6
   ·unfold law06_ShapeAnswers_b6
    refine br_ff rfl ?_
    unfold law06_ShapeAnswers_k8
    refine gd_ok (by first | omega | exact i64_of (by omega) (by omega) | (simp only [LIM, BIG, List.length_append, List.length_cons, List.length_nil, List.length_map, List.length_take, List.length_drop, List.length_set] at *; omega)) ?_
    exact ih
 ·unfold law06_ShapeAnswers_b1
  refine br_ff rfl ?_
  unfold law06_ShapeAnswers_k9
  exact bd_ok (law06_awake_ok hF') rfl
end Go.Ab
end
