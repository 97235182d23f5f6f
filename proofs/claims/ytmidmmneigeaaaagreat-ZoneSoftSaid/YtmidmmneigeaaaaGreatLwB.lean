/- What the plain programs compute, up to the law itself: each lemma states its own bounds. -/
import Derived.Test.YtmidmmneigeaaaaGreatPuB
import Derived.Test.YtmidmmneigeaaaaGreatLwA
set_option linter.unusedVariables false
set_option linter.unusedSimpArgs false
section
namespace Go.Ab
set_option maxRecDepth 20000
theorem slices_Concat_Rect_two {F : Nat} (hF : BIG ≤ F) {a b : List Rect} (ha : a.length ≤ 1000000) (hb : b.length ≤ 1000000) : slices_Concat_Rect F [a, b] = some (a ++ b) := by
 unfold BIG at hF
 obtain ⟨m, rfl⟩ : ∃ m, F = m + 3 := ⟨F - 3, by omega⟩
 have g0 : gl [a, b] (0 : Int).toNat = a := rfl
 have g1 : gl [a, b] (1 : Int).toNat = b := rfl
 have k1 : slices_Concat_Rect_k1 (m + 3) [a, b] (((a.length : Nat) : Int) + ((b.length : Nat) : Int)) = some (a ++ b) := by
  unfold slices_Concat_Rect_k1
  refine bd_ok (a := []) (by unfold growN; rw [if_pos (by unfold LIM; omega)]) ?_
  show slices_Concat_Rect_b2 (m + 3) [a, b] _ 0 [] = _
  unfold slices_Concat_Rect_b2
  refine br_tt rfl ?_
  rw [g0]
  refine gd_ok (by first | omega | exact i64_of (by omega) (by omega) | (simp only [LIM, BIG, List.length_append, List.length_cons, List.length_nil, List.length_map, List.length_take, List.length_drop, List.length_set] at *; omega)) ?_
  refine gd_ok (by simp [LIM]; omega) ?_
  refine gd_ok (by first | omega | exact i64_of (by omega) (by omega) | (simp only [LIM, BIG, List.length_append, List.length_cons, List.length_nil, List.length_map, List.length_take, List.length_drop, List.length_set] at *; omega)) ?_
  show slices_Concat_Rect_b2 (m + 3) [a, b] _ 1 ([] ++ a) = _
  unfold slices_Concat_Rect_b2
  refine br_tt rfl ?_
  rw [g1]
  refine gd_ok (by first | omega | exact i64_of (by omega) (by omega) | (simp only [LIM, BIG, List.length_append, List.length_cons, List.length_nil, List.length_map, List.length_take, List.length_drop, List.length_set] at *; omega)) ?_
  refine gd_ok (by simp [LIM]; omega) ?_
  refine gd_ok (by first | omega | exact i64_of (by omega) (by omega) | (simp only [LIM, BIG, List.length_append, List.length_cons, List.length_nil, List.length_map, List.length_take, List.length_drop, List.length_set] at *; omega)) ?_
  show slices_Concat_Rect_b2 (m + 3) [a, b] _ 2 (([] ++ a) ++ b) = _
  unfold slices_Concat_Rect_b2
  refine br_ff rfl ?_
  unfold slices_Concat_Rect_k3
  simp
 show slices_Concat_Rect_b0 (m + 3) [a, b] _ 0 0 = _
 unfold slices_Concat_Rect_b0
 refine br_tt rfl ?_
 rw [g0]
 refine gd_ok (by first | omega | exact i64_of (by omega) (by omega) | (simp only [LIM, BIG, List.length_append, List.length_cons, List.length_nil, List.length_map, List.length_take, List.length_drop, List.length_set] at *; omega)) ?_
 refine gd_ok (by first | omega | exact i64_of (by omega) (by omega) | (simp only [LIM, BIG, List.length_append, List.length_cons, List.length_nil, List.length_map, List.length_take, List.length_drop, List.length_set] at *; omega)) ?_
 refine br_ff (by simp <;> omega) ?_
 refine gd_ok (by first | omega | exact i64_of (by omega) (by omega) | (simp only [LIM, BIG, List.length_append, List.length_cons, List.length_nil, List.length_map, List.length_take, List.length_drop, List.length_set] at *; omega)) ?_
 show slices_Concat_Rect_b0 (m + 3) [a, b] _ (0 + ((a.length : Nat) : Int)) 1 = _
 unfold slices_Concat_Rect_b0
 refine br_tt rfl ?_
 rw [g1]
 refine gd_ok (by first | omega | exact i64_of (by omega) (by omega) | (simp only [LIM, BIG, List.length_append, List.length_cons, List.length_nil, List.length_map, List.length_take, List.length_drop, List.length_set] at *; omega)) ?_
 refine gd_ok (by first | omega | exact i64_of (by omega) (by omega) | (simp only [LIM, BIG, List.length_append, List.length_cons, List.length_nil, List.length_map, List.length_take, List.length_drop, List.length_set] at *; omega)) ?_
 refine br_ff (by simp <;> omega) ?_
 refine gd_ok (by first | omega | exact i64_of (by omega) (by omega) | (simp only [LIM, BIG, List.length_append, List.length_cons, List.length_nil, List.length_map, List.length_take, List.length_drop, List.length_set] at *; omega)) ?_
 show slices_Concat_Rect_b0 (m + 3) [a, b] _ (0 + ((a.length : Nat) : Int) + ((b.length : Nat) : Int)) 2 = _
 unfold slices_Concat_Rect_b0
 refine br_ff rfl ?_
 rw [Int.zero_add]
 exact k1
def zs (k : Int) : Int := if 0 ≤ k ∧ k ≤ 7 then 0 else if 8 ≤ k ∧ k ≤ 11 then 1 else 2
theorem zone_sort_ok (F : Nat) (k : Int) : zone_sort F k = some (zs k) := by
 have t0 : zone_sort_k0 F k true = some 0 := rfl
 have t1 : zone_sort_k1 F true = some 1 := rfl
 have t2 : zone_sort_k1 F false = some 2 := rfl
 have e : ∀ n : Int, (k == n) = decide (k = n) := fun n => by rw [Bool.eq_iff_iff]; simp
 unfold zone_sort
 simp only [e]
 by_cases h : 0 ≤ k ∧ k ≤ 7
 ·have hz : zs k = 0 := by unfold zs; rw [if_pos h]
  rw [hz]
  have key : ∀ {n : Int} {x : Option Int}, (k ≠ n → x = some 0) → br (decide (k = n)) (zone_sort_k0 F k (decide (k = n))) x = some 0 := fun {n x} hx => by
   refine br_ok (fun hb => by rw [hb]; exact t0) (fun hb => hx (by simpa using hb))
  refine key fun a0 => key fun a1 => key fun a2 => key fun a3 => key fun a4 => key fun a5 => key fun a6 => ?_
  rw [show decide (k = 7) = true by rw [decide_eq_true_eq]; omega]
  exact t0
 ·have n0 : ∀ n : Int, 0 ≤ n → n ≤ 7 → decide (k = n) = false := fun n h1 h2 => by rw [decide_eq_false_iff_not]; omega
  rw [n0 0 (by omega) (by omega), n0 1 (by omega) (by omega), n0 2 (by omega) (by omega), n0 3 (by omega) (by omega), n0 4 (by omega) (by omega), n0 5 (by omega) (by omega), n0 6 (by omega) (by omega), n0 7 (by omega) (by omega)]
  simp only [br]
  unfold zone_sort_k0
  simp only [br, e]
  by_cases h2 : 8 ≤ k ∧ k ≤ 11
  ·have hz : zs k = 1 := by unfold zs; rw [if_neg h, if_pos h2]
   rw [hz]
   have key : ∀ {n : Int} {x : Option Int}, (k ≠ n → x = some 1) → br (decide (k = n)) (zone_sort_k1 F (decide (k = n))) x = some 1 := fun {n x} hx => by
    refine br_ok (fun hb => by rw [hb]; exact t1) (fun hb => hx (by simpa using hb))
   refine key fun a0 => key fun a1 => key fun a2 => ?_
   rw [show decide (k = 11) = true by rw [decide_eq_true_eq]; omega]
   exact t1
  ·have hz : zs k = 2 := by unfold zs; rw [if_neg h, if_neg h2]
   rw [hz]
   have n1 : ∀ n : Int, 8 ≤ n → n ≤ 11 → decide (k = n) = false := fun n h1 h2 => by rw [decide_eq_false_iff_not]; omega
   rw [n1 8 (by omega) (by omega), n1 9 (by omega) (by omega), n1 10 (by omega) (by omega), n1 11 (by omega) (by omega)]
   exact t2
def zp (w : Int) (k : Int) : Bool := zs k == w
theorem zone_of_1_ok (F : Nat) (k w : Int) : zone_of_1 F k w = some (zp w k) := by
 unfold zone_of_1
 exact bd_ok (zone_sort_ok F k) rfl
structure LB (n : Nat) (L : List Feature) : Prop where
 vl : VL L
 box : ∀ f ∈ L, Box n f.region_.rects_
 n15 : n ≤ 15
theorem half15 {l : List Rect} (hc : Canon l) {n : Nat} (hb : Box n l) (hn : n ≤ 15) : l.length ≤ 120 := by
 have h1 := hc.half hb
 have h2 : n * ((n + 1) / 2) ≤ 15 * 8 := Nat.mul_le_mul hn (by omega)
 omega
theorem val_cn {S : Int → Int → Bool} (hf : Fin S) {n : Nat} (hn : n ≤ 15) (hb : ∀ x y, S x y = true → 0 ≤ x ∧ x < n ∧ 0 ≤ y ∧ y < n) : Val (cn S) ∧ Box n (cn S) := by
 have h := box_cn (n := (n : Int)) hf hb
 exact ⟨⟨half15 (Canon.cn hf) h hn, h.prop (by omega), Canon.cn hf⟩, h⟩
variable {F n : Nat} {L : List Feature} {d : Int}
theorem LB.rbox (hL : LB n L) (d : Int) (p : Int → Bool) : Box n (rectsP L d p) := fun r hr => by
 obtain ⟨f, hf, hr⟩ := mem_rectsP hr
 exact hL.box f hf r hr
theorem LB.rval (hL : LB n L) (d : Int) (p : Int → Bool) : Val (cn (inR (rectsP L d p))) ∧ Box n (cn (inR (rectsP L d p))) := val_cn (fin_inR _) hL.n15 fun x y h => (hL.rbox d p).in h
theorem zone_of_ok (hF : BIG ≤ F) (hL : LB n L) (d w : Int) : zone_of F L d w = some (⟨cn (inR (rectsP L d (zp w)))⟩, 0) := by
 have hlen := hL.vl.len
 unfold zone_of
 refine bd_ok (feature_Rects_ok hF (by omega) (fun f hf => hL.vl.rlen hf) d (zp w) (fun f _ => zone_of_1_ok F f.kind_ w)) ?_
 have hl := rectsP_len (L := L) (fun f hf => hL.vl.rlen hf) d (zp w)
 refine bd_ok (region_Joined_ok hF (by omega) fun r hr => ?_) ?_
 ·have := hL.rbox d (zp w) r hr
  omega
 ·have := (hL.rval d (zp w)).1.1
  rw [if_neg (by omega)]
theorem zone_check_ok (hF : BIG ≤ F) (hv : VL L) (d1 : 0 ≤ d) (d2 : d ≤ 36864) {a : Region} (ha : Val a.rects_) {m : Int} (m1 : 0 ≤ m) (m2 : m ≤ 268435456) : zone_check F L d m a = some 0 := by
 unfold zone_check
 refine bd_ok (feature_On_ok hF L d) ?_
 rw [if_neg (by simp [(chkC_zero L).2 hv]), if_neg (by omega)]
 refine br_ff rfl ?_
 refine bd_ok (region_Valid_ok hF a) ?_
 rw [valB_true ha]
 refine br_ff rfl ?_
 refine br_ff (by rw [decide_eq_false_iff_not]; omega) ?_
 rw [show decide ((268435456 : Int) < m) = false by rw [decide_eq_false_iff_not]; omega]
 rfl
theorem zone_Hard_ok (hF : BIG ≤ F) (hL : LB n L) (d1 : 0 ≤ d) (d2 : d ≤ 36864) : zone_Hard F L d = some (⟨cn (inR (rectsP L d (zp 0)))⟩, 0) := by
 unfold zone_Hard
 refine bd_ok (zone_check_ok hF hL.vl d1 d2 Val.nil (by omega) (by omega)) ?_
 refine br_ff rfl ?_
 exact bd_ok (zone_of_ok hF hL d 0) rfl
noncomputable def softR (L : List Feature) (d : Int) (a : List Rect) : List Rect := cn fun x y => inR (rectsP L d (zp 1)) x y && inR a x y
noncomputable def softO (L : List Feature) (d m : Int) (a : List Rect) : List Rect := ((parts (softR L d a)).filter fun p => decide (m < area p)).flatten
theorem fin_and (a b : List Rect) : Fin fun x y => inR a x y && inR b x y := fin_comb a b 2
theorem softR_ok (hL : LB n L) (d : Int) (a : List Rect) : Val (softR L d a) ∧ Box n (softR L d a) := val_cn (fin_and _ _) hL.n15 fun x y h => (hL.rbox d (zp 1)).in (Bool.and_eq_true _ _ ▸ h).1
theorem softO_sub {m : Int} {a : List Rect} {r : Rect} (h : r ∈ softO L d m a) : r ∈ softR L d a := by
 obtain ⟨p, hp, hr⟩ := List.mem_flatten.1 h
 exact parts_mem (List.mem_filter.1 hp).1 hr
theorem softO_box (hL : LB n L) (d m : Int) (a : List Rect) : Box n (softO L d m a) := fun r hr => (softR_ok hL d a).2 r (softO_sub hr)
theorem softO_val (hL : LB n L) (d m : Int) (a : List Rect) : Val (cn (inR (softO L d m a))) ∧ Box n (cn (inR (softO L d m a))) := val_cn (fin_inR _) hL.n15 fun x y h => (softO_box hL d m a).in h
theorem flat_filter_len {p : List Rect → Bool} : ∀ Q : List (List Rect), (Q.filter p).flatten.length ≤ Q.flatten.length
 | [] => Nat.le_refl _
 | q :: Q => by
  have := flat_filter_len (p := p) Q
  rw [List.filter_cons, List.flatten_cons, List.length_append]
  split
  ·rw [List.flatten_cons, List.length_append]; omega
  ·omega
theorem zone_Soft_ok (hF : BIG ≤ F) (hL : LB n L) (d1 : 0 ≤ d) (d2 : d ≤ 36864) {a : Region} (ha : Val a.rects_) {m : Int} (m1 : 0 ≤ m) (m2 : m ≤ 268435456) : zone_Soft F L d m a = some (⟨cn (inR (softO L d m a.rects_))⟩, 0) := by
 have hF' := hF
 unfold BIG at hF
 have hR := softR_ok hL d a.rects_
 have hlen := hR.1.1
 have hal := ha.1
 have hs := hL.rval d (zp 1)
 have hsl := hs.1.1
 unfold zone_Soft
 refine bd_ok (zone_check_ok hF' hL.vl d1 d2 ha m1 m2) ?_
 refine br_ff rfl ?_
 refine bd_ok (zone_of_ok hF' hL d 1) ?_
 refine br_ff rfl ?_
 refine bd_ok (region_Choose_ok hF' (by omega) (fun r hr => (hs.1.2.2.pos hr).1) (fun r hr => (ha.2.2.pos hr).1) (k := fun u v => u && v) rfl (fun u v => by cases u <;> cases v <;> rfl)) ?_
 have e : (cn fun x y => inR (cn (inR (rectsP L d (zp 1)))) x y && inR a.rects_ x y) = softR L d a.rects_ := by
  unfold softR
  congr 1
  funext x y
  rw [inR_cn (fin_inR _)]
 rw [e]
 refine br_ff (by rw [decide_eq_false_iff_not]; omega) ?_
 have hpl := (parts_perm (softR L d a.rects_)).length_eq
 refine loopN_ok (fun z : List Rect × List Rect => ∃ (k : Nat) (Q : List (List Rect)), Q ++ partsL k z.1 = parts (softR L d a.rects_) ∧ z.1.length ≤ k ∧ z.1.length ≤ 120 ∧ z.2 = (Q.filter fun p => decide (m < area p)).flatten ∧ ∀ r ∈ z.1, r ∈ softR L d a.rects_) (fun z => z.1.length) (fun again z hz ih => ?_) ⟨_, [], rfl, Nat.le_refl _, hlen, rfl, fun _ h => h⟩ (by simp only; omega)
 obtain ⟨l, out⟩ := z
 obtain ⟨k, Q, h1, h2, h3, rfl, h5⟩ := hz
 simp only at h1 h2 h3 h5 ih ⊢
 have hQl : Q.flatten.length ≤ 120 := by
  have := congrArg (fun q => (List.flatten q).length) h1
  simp only [List.flatten_append, List.length_append] at this
  omega
 have hfl := flat_filter_len (p := fun p => decide (m < area p)) Q
 unfold zone_Soft_b0
 cases l with
 | nil =>
  refine br_ff (by simp) ?_
  unfold zone_Soft_k1
  have e2 : partsL k [] = [] := by cases k <;> rfl
  rw [e2, List.append_nil] at h1
  subst h1
  refine bd_ok (region_Joined_ok hF' (by omega) fun r hr => ?_) ?_
  ·have := softO_box hL d m a.rects_ r hr
   omega
  ·have := (softO_val hL d m a.rects_).1.1
   unfold softO at this
   rw [if_neg (by omega)]; rfl
 | cons b l =>
  refine br_tt (by simp) ?_
  refine bd_ok (shape_Joined_ok hF' (by simp) (by omega) (fun r hr => sm_prop (hR.1.2.1 r (h5 r hr)))) ?_
  cases k with
  | zero => simp at h2
  | succ k =>
  simp only [partsL] at h1
  have hj := joined_ok b l
  have hjp := hj.perm.length_eq
  simp only [List.length_append, List.length_cons, List.length_nil] at hjp h2 h3
  have hq : ∀ r ∈ (joined (b :: l)).1, r ∈ softR L d a.rects_ := fun r hr => h5 r (hj.perm.mem_iff.1 (List.mem_append.2 (.inl hr)))
  have hne : 1 ≤ (joined (b :: l)).1.length := by
   have := hj.lens.1
   exact List.length_pos_iff.2 this
  refine bd_ok (region_Size_ok hF' (by omega) fun r hr => hR.1.2.1 r (hq r hr)) ?_
  have hnext : ∀ o, o = (((Q ++ [(joined (b :: l)).1])).filter fun p => decide (m < area p)).flatten → again ((joined (b :: l)).2, o) = some (⟨cn (inR (softO L d m a.rects_))⟩, 0) := fun o ho => by
   refine ih _ ⟨k, Q ++ [(joined (b :: l)).1], by rw [← h1, List.append_assoc]; rfl, by simp only; omega, by simp only; omega, ho, fun r hr => h5 r (hj.perm.mem_iff.1 (List.mem_append.2 (.inr hr)))⟩ (by simp only [List.length_cons]; omega)
  refine br_ok (fun hb => ?_) (fun hb => ?_)
  ·refine gd_ok (by simp only [LIM]; omega) ?_
   refine hnext _ ?_
   rw [List.filter_append, List.filter_cons, hb]; simp
  ·refine hnext _ ?_
   rw [List.filter_append, List.filter_cons, hb]; simp
noncomputable def elS (L : List Feature) (d m : Int) (a : List Rect) (x y : Int) : Bool := inR a x y && !(inR (rectsP L d (zp 0)) x y || inR (softO L d m a) x y)
theorem fin_el (L : List Feature) (d m : Int) (a : List Rect) : Fin (elS L d m a) := by
 have := fin_diff a (rectsP L d (zp 0) ++ softO L d m a)
 simp only [inR_append] at this
 exact this
theorem el_val {a : List Rect} (hL : LB n L) (ha : Box n a) (d m : Int) : Val (cn (elS L d m a)) ∧ Box n (cn (elS L d m a)) := val_cn (fin_el L d m a) hL.n15 fun x y h => by
 unfold elS at h
 rw [Bool.and_eq_true] at h
 exact ha.in h.1
theorem zone_Eligible_ok (hF : BIG ≤ F) (hL : LB n L) (d1 : 0 ≤ d) (d2 : d ≤ 36864) {a : Region} (ha : Val a.rects_) (hb : Box n a.rects_) {m : Int} (m1 : 0 ≤ m) (m2 : m ≤ 268435456) : zone_Eligible F a L d m = some (⟨cn (elS L d m a.rects_)⟩, 0) := by
 have hh := hL.rval d (zp 0)
 have hs := softO_val hL d m a.rects_
 have l1 := hh.1.1
 have l2 := hs.1.1
 have l3 := ha.1
 unfold zone_Eligible
 refine bd_ok (zone_check_ok hF hL.vl d1 d2 ha m1 m2) ?_
 refine br_ff rfl ?_
 refine bd_ok (zone_Hard_ok hF hL d1 d2) ?_
 refine br_ff rfl ?_
 refine bd_ok (zone_Soft_ok hF hL d1 d2 ha m1 m2) ?_
 refine br_ff rfl ?_
 refine bd_ok (slices_Concat_Rect_two hF (by simp only; omega) (by simp only; omega)) ?_
 refine bd_ok (region_Choose_ok hF (by simp only [List.length_append]; omega) (fun r hr => (ha.2.2.pos hr).1) (fun r hr => ?_) (k := fun u v => u && !v) rfl (fun u v => by cases u <;> cases v <;> rfl)) ?_
 ·rcases List.mem_append.1 hr with h | h
  ·exact (hh.1.2.2.pos h).1
  ·exact (hs.1.2.2.pos h).1
 have e : (cn fun x y => inR a.rects_ x y && !inR (cn (inR (rectsP L d (zp 0))) ++ cn (inR (softO L d m a.rects_))) x y) = cn (elS L d m a.rects_) := by
  congr 1
  funext x y
  unfold elS
  rw [inR_append, inR_cn (fin_inR _), inR_cn (fin_inR _)]
 show (region_Limited F (cn fun x y => inR a.rects_ x y && !inR (cn (inR (rectsP L d (zp 0))) ++ cn (inR (softO L d m a.rects_))) x y)).bind _ = _
 rw [e]
 have := (el_val hL hb d m).1.1
 refine bd_ok (region_Limited_ok F _) ?_
 rw [if_neg (by omega)]
end Go.Ab
end

section
namespace Go.Ab
set_option maxRecDepth 20000
theorem meetB_no {a b : Region} (ha : Val a.rects_) (hb : Val b.rects_) (h : ∀ x y, inR a.rects_ x y = true → inR b.rects_ x y = true → False) : meetB a b = false := by
 rw [← Bool.not_eq_true]
 intro h2
 unfold meetB at h2
 rw [valB_true ha, valB_true hb, Bool.true_and, Bool.true_and, ovL_iff ha.2.1 hb.2.1] at h2
 obtain ⟨x, y, h3, h4⟩ := h2
 exact h x y h3 h4
theorem LayT.lb {L : List Feature} (h : LayT L) : LB 9 L := ⟨h.vl, fun f hf => (h.fea f hf).1.reg.box, by omega⟩
def fEx : Feature := ⟨1, 8, 0, 9, ⟨[⟨3, 3, 5, 5⟩]⟩⟩
theorem lb_ex : LB 10 [fEx] := by
 refine ⟨⟨by simp, fun f hf => ?_, by simp⟩, fun f hf => ?_, by omega⟩
 ·rw [List.mem_singleton] at hf
  subst hf
  rw [oneC_zero]
  have := val_one (r := ⟨3, 3, 5, 5⟩) (by decide)
  refine ⟨by decide, by decide, by decide, by decide, by decide, by decide, by decide, by decide, this⟩
 ·rw [List.mem_singleton] at hf
  subst hf
  intro r hr
  simp only [fEx, List.mem_singleton] at hr
  subst hr
  decide
theorem law11_awake_ok {F : Nat} (hF : BIG ≤ F) : law11_awake F = some true := by
 have hA : Val [(⟨0, 0, 10, 10⟩ : Rect)] := val_one (by decide)
 have hAb : Box (10 : Nat) [(⟨0, 0, 10, 10⟩ : Rect)] := fun r hr => by
  rw [List.mem_singleton] at hr
  subst hr; decide
 have hr0 : rectsP [fEx] 0 (zp 0) = [] := by decide +kernel
 have hr1 : rectsP [fEx] 0 (zp 1) = [⟨3, 3, 5, 5⟩] := by decide +kernel
 have hsub : ∀ x y, inR [(⟨3, 3, 5, 5⟩ : Rect)] x y = true → inR [(⟨0, 0, 10, 10⟩ : Rect)] x y = true := fun x y h => by
  rw [inR_iff] at h ⊢
  obtain ⟨r, hr, h⟩ := h
  rw [List.mem_singleton] at hr
  subst hr
  rw [has_iff] at h
  refine ⟨_, List.mem_singleton.2 rfl, (has_iff _ _ _).2 ?_⟩
  simp only at h ⊢
  omega
 have hsR : softR [fEx] 0 [⟨0, 0, 10, 10⟩] = [⟨3, 3, 5, 5⟩] := by
  unfold softR
  rw [hr1, ← cn_one (r := ⟨3, 3, 5, 5⟩) (by decide)]
  congr 1
  funext x y
  rw [inR_cn (fin_inR _)]
  have := hsub x y
  cases h1 : inR [(⟨3, 3, 5, 5⟩ : Rect)] x y with
  | false => rfl
  | true => rw [this h1]; rfl
 have hp : parts [(⟨3, 3, 5, 5⟩ : Rect)] = [[⟨3, 3, 5, 5⟩]] := by decide +kernel
 have ho4 : softO [fEx] 0 4 [⟨0, 0, 10, 10⟩] = [] := by
  unfold softO
  rw [hsR, hp]; decide +kernel
 have ho3 : softO [fEx] 0 3 [⟨0, 0, 10, 10⟩] = [⟨3, 3, 5, 5⟩] := by
  unfold softO
  rw [hsR, hp]; decide +kernel
 have h4 := zone_Eligible_ok hF lb_ex (d := 0) (by omega) (by omega) (a := ⟨[⟨0, 0, 10, 10⟩]⟩) hA hAb (m := 4) (by omega) (by omega)
 have h3 := zone_Eligible_ok hF lb_ex (d := 0) (by omega) (by omega) (a := ⟨[⟨0, 0, 10, 10⟩]⟩) hA hAb (m := 3) (by omega) (by omega)
 have v4 := (el_val lb_ex hAb 0 4).1
 have v3 := (el_val lb_ex hAb 0 3).1
 have sA : sq (inR [(⟨0, 0, 10, 10⟩ : Rect)]) = 100 := by rw [← hA.area]; decide +kernel
 have sB : sq (inR [(⟨3, 3, 5, 5⟩ : Rect)]) = 4 := by rw [← (val_one (r := ⟨3, 3, 5, 5⟩) (by decide)).area]; decide +kernel
 have a4 : area (cn (elS [fEx] 0 4 [⟨0, 0, 10, 10⟩])) = 100 := by
  rw [v4.area, ← sA]
  congr 1
  funext x y
  rw [inR_cn (fin_el _ _ _ _)]
  unfold elS
  rw [hr0, ho4]
  show (inR [(⟨0, 0, 10, 10⟩ : Rect)] x y && !(false || false)) = _
  simp
 have a3 : area (cn (elS [fEx] 0 3 [⟨0, 0, 10, 10⟩])) = 96 := by
  rw [v3.area]
  have e : inR (cn (elS [fEx] 0 3 [⟨0, 0, 10, 10⟩])) = fun x y => inR [(⟨0, 0, 10, 10⟩ : Rect)] x y && !inR [(⟨3, 3, 5, 5⟩ : Rect)] x y := by
   funext x y
   rw [inR_cn (fin_el _ _ _ _)]
   unfold elS
   rw [hr0, ho3]; rfl
  have e2 : inR [(⟨0, 0, 10, 10⟩ : Rect)] = fun x y => (inR [(⟨0, 0, 10, 10⟩ : Rect)] x y && !inR [(⟨3, 3, 5, 5⟩ : Rect)] x y) || inR [(⟨3, 3, 5, 5⟩ : Rect)] x y := by
   funext x y
   have := hsub x y
   cases h1 : inR [(⟨3, 3, 5, 5⟩ : Rect)] x y with
   | false => simp
   | true => rw [this h1]; rfl
  have s : sq (inR [(⟨0, 0, 10, 10⟩ : Rect)]) = sq (fun x y => inR [(⟨0, 0, 10, 10⟩ : Rect)] x y && !inR [(⟨3, 3, 5, 5⟩ : Rect)] x y) + sq (inR [(⟨3, 3, 5, 5⟩ : Rect)]) := by
   conv => lhs; rw [e2]
   rw [sq_def, sq_def, sq_def]
   refine cnt_or fun x y h1 h2 => ?_
   rw [h2] at h1
   simp at h1
  rw [e]
  omega
 unfold law11_awake
 refine bd_ok h4 (bd_ok h3 ?_)
 refine br_tt rfl ?_
 refine bd_ok (ref04_Area_ok hF (a := ⟨_⟩) v4) ?_
 refine br_tt (by rw [a4]; rfl) ?_
 refine br_tt rfl ?_
 refine bd_ok (ref04_Area_ok hF (a := ⟨_⟩) v3) ?_
 rw [a3]; rfl
variable {F n : Nat} {L : List Feature} {d : Int}
theorem tmod_range {w n : Int} (h0 : 0 ≤ w) (hn : 0 < n) : 0 ≤ w.tmod n ∧ w.tmod n < n := ⟨Int.tmod_nonneg _ h0, Int.tmod_lt_of_pos _ hn⟩
end Go.Ab
end

section
namespace Go.Ab
set_option maxRecDepth 20000
variable {F n : Nat} {L : List Feature} {d : Int}
theorem softO_zero (hL : LB n L) (d : Int) (a : List Rect) (x y : Int) : inR (softO L d 0 a) x y = inR (softR L d a) x y := by
 have hR := softR_ok hL d a
 have h : ∀ p ∈ parts (softR L d a), decide (0 < area p) = true := fun p hp => by
  rw [decide_eq_true_eq]
  have hne := ((parts_ok (softR L d a)).1 p hp).1
  obtain ⟨r, hr⟩ := List.exists_mem_of_ne_nil _ hne
  have hpr : ∀ r ∈ p, propB r = true := fun r hr => hR.1.2.1 r (parts_mem hp hr)
  have h1 : ∀ q : List Rect, (∀ r ∈ q, propB r = true) → 0 ≤ area q := fun q => by
   induction q with
   | nil => intro _; exact Int.le_refl _
   | cons s q ih =>
    intro hq
    have := (ar1_le (hq s (by simp))).1
    have := ih fun r hr => hq r (by simp [hr])
    simp only [area, List.map_cons, List.sum_cons] at this ⊢
    omega
  cases p with
  | nil => exact absurd rfl hne
  | cons s p =>
   have h2 := h1 p fun r hr => hpr r (by simp [hr])
   have h3 := (propB_iff s).1 (hpr s (by simp))
   have h4 : 0 < ar1 s := by
    unfold ar1
    exact Int.mul_pos (by omega) (by omega)
   simp only [area, List.map_cons, List.sum_cons] at h2 ⊢
   omega
 unfold softO
 rw [List.filter_eq_self.2 h]
 exact inR_perm (parts_perm _) x y
theorem fam_area {Q : List Rect} (ha : Q.Pairwise Apt) (hp : ∀ r ∈ Q, propB r = true) {Q' : List Rect} (he : inR Q' = inR Q) (hv : Val (cn (inR Q'))) : area (cn (inR Q')) = area Q := by
 rw [hv.area, area_sq ha hp]
 congr 1
 funext x y
 rw [inR_cn (fin_inR _), he]
theorem part_apt {R p : List Rect} (ha : R.Pairwise Apt) (hp : p ∈ parts R) : p.Pairwise Apt := by
 have h := ((parts_perm R).pairwise_iff fun {a b} h => apt_comm h).2 ha
 rw [List.pairwise_flatten] at h
 exact h.1 p hp
theorem soft_part (hL : LB n L) {d m : Int} {a : List Rect} {p : List Rect} (hp : p ∈ parts (softR L d a)) {x y : Int} (hx : inR p x y = true) : inR (softO L d m a) x y = true ↔ m < area p := by
 have hR := softR_ok hL d a
 have hfam := fam_parts hR.1.2.2.apt fun r hr => hR.1.2.2.pos hr
 constructor
 ·intro h
  obtain ⟨r, hr, h2⟩ := (inR_iff _ _ _).1 h
  obtain ⟨q, hq, hr⟩ := List.mem_flatten.1 hr
  rw [List.mem_filter, decide_eq_true_eq] at hq
  have := hfam.apt hp hq.1 hx (inR_mem hr h2)
  rw [this]; exact hq.2
 ·intro h
  obtain ⟨r, hr, h2⟩ := (inR_iff _ _ _).1 hx
  exact inR_mem (List.mem_flatten.2 ⟨p, List.mem_filter.2 ⟨hp, by rw [decide_eq_true_eq]; exact h⟩, hr⟩) h2
theorem law11_ZoneSoft_ok (hF : BIG ≤ F) (l : List Int) {w1 w2 : Int} (hw1 : 0 ≤ w1 ∧ w1 ≤ 255) (hw2 : 0 ≤ w2 ∧ w2 ≤ 255) : law11_ZoneSoft F l w1 w2 = some true := by
 have hF' := hF
 unfold BIG at hF
 obtain ⟨t, e0, o0⟩ := keep_New_ok F l
 obtain ⟨t1, L, e1, o1, hL, _⟩ := keep_Tape_Layer_ok hF' o0 (most := 5) (by omega) (by omega)
 obtain ⟨t2, a, e2, o2, ha⟩ := keep_Tape_Region_ok hF' o1 (n := 9) (most := 3) (by omega) (by omega) (by omega) (by omega)
 obtain ⟨d1, d2⟩ := tmod_range hw1.1 (n := 45) (by omega)
 obtain ⟨k1, k2⟩ := tmod_range hw2.1 (n := 10) (by omega)
 have hB := hL.lb
 unfold law11_ZoneSoft
 refine bd_ok e0 (bd_ok e1 (bd_ok e2 ?_))
 dsimp only
 generalize hd : w1.tmod 45 = d at *
 generalize hk : w2.tmod 10 = k at *
 have hv := ha.val
 have vs := softO_val hB d k a.rects_
 have v0 := softO_val hB d 0 a.rects_
 have hR := softR_ok hB d a.rects_
 have hA : cn (inR (softO L d 0 a.rects_)) = softR L d a.rects_ := by
  have : inR (softO L d 0 a.rects_) = inR (softR L d a.rects_) := by
   funext x y
   exact softO_zero hB d a.rects_ x y
  rw [this]
  exact hR.1.2.2.eq_cn.symm
 refine gd_ok (i64_of (by omega) (by omega)) (gd_ok (by omega) (gd_ok (i64_of (by omega) (by omega)) (gd_ok (by omega) ?_)))
 refine bd_ok (zone_Soft_ok hF' hB d1 (by omega) hv k1 (by omega)) ?_
 refine bd_ok (zone_Soft_ok hF' hB d1 (by omega) hv (by omega) (by omega)) ?_
 rw [hA]
 obtain ⟨p, g1, g2, g3⟩ := ref06_Parts_ok hF' (a := ⟨softR L d a.rects_⟩) hR.1
 refine bd_ok g3 ?_
 refine br_ff rfl (br_ff rfl (br_ff rfl ?_))
 have f1 : withB ⟨cn (inR (softO L d k a.rects_))⟩ ⟨softR L d a.rects_⟩ = true := (withB_iff (a := ⟨cn (inR (softO L d k a.rects_))⟩) (b := ⟨softR L d a.rects_⟩) vs.1 hR.1).2 fun x y h => by
  simp only at h ⊢
  rw [inR_cn (fin_inR _)] at h
  obtain ⟨r, hr, h2⟩ := (inR_iff _ _ _).1 h
  exact inR_mem (softO_sub hr) h2
 refine bd_ok (ref04_Within_ok hF' _ _) ?_
 rw [f1]
 unfold law11_ZoneSoft_k0
 refine br_ff rfl ?_
 have hpos : ∀ r ∈ softR L d a.rects_, Pos r := fun r hr => hR.1.2.2.pos hr
 have fam1 := fam_parts hR.1.2.2.apt hpos
 have fam2 := fam_ref hR.1.2.2.apt hpos g1 g2
 have hql := refQ_len (R := softR L d a.rects_) (p := p)
 have hrl := hR.1.1
 dsimp only
 have hQl : ((refQ (softR L d a.rects_) p).map regOf).length ≤ 120 := by rw [List.length_map]; omega
 refine for_ok ((refQ (softR L d a.rects_) p).map regOf).length (fun again i hi ih => ?_) (fun again => ?_) (by omega)
 ·unfold law11_ZoneSoft_b1
  dsimp only
  simp only [Int.toNat_natCast, hk]
  refine br_tt (by simpa using hi) ?_
  refine gd_ok (by first | omega | exact i64_of (by omega) (by omega) | (simp only [LIM, BIG, List.length_append, List.length_cons, List.length_nil, List.length_map, List.length_take, List.length_drop, List.length_set] at *; omega)) ?_
  obtain ⟨q, hq, hqe⟩ := List.mem_map.1 (gl_mem hi)
  rw [← hqe]
  obtain ⟨q', hq', he⟩ := fam2.uniq fam1 hq
  have hqv : Val (cn (inR q)) := (val_cn (n := 9) (fin_inR q) (by omega) fun x y h => hR.2.in ((fam2.un x y).2 ⟨q, hq, h⟩)).1
  have hpq : ∀ r ∈ q', propB r = true := fun r hr => hR.1.2.1 r (parts_mem hq' hr)
  have har : area (cn (inR q)) = area q' := fam_area (part_apt hR.1.2.2.apt hq') hpq he hqv
  have hW : withB (regOf q) ⟨cn (inR (softO L d k a.rects_))⟩ = decide (k < area q') := by
   rw [Bool.eq_iff_iff, decide_eq_true_eq, withB_iff (a := regOf q) (b := ⟨cn (inR (softO L d k a.rects_))⟩) hqv vs.1]
   unfold regOf
   simp only
   obtain ⟨x, y, h0⟩ := fam2.ne q hq
   have h0' : inR q' x y = true := by rw [← he]; exact h0
   constructor
   ·intro h
    have := h x y (by rw [inR_cn (fin_inR _)]; exact h0)
    rw [inR_cn (fin_inR _)] at this
    exact (soft_part hB hq' h0').1 this
   ·intro h u v h2
    rw [inR_cn (fin_inR _)] at h2 ⊢
    exact (soft_part hB hq' (by rw [← he]; exact h2)).2 h
  have hM : meetB (regOf q) ⟨cn (inR (softO L d k a.rects_))⟩ = decide (k < area q') := by
   by_cases h : k < area q'
   ·rw [decide_eq_true h]
    unfold meetB
    rw [valB_true (show Val (regOf q).rects_ from hqv), valB_true (show Val (cn (inR (softO L d k a.rects_))) from vs.1), Bool.true_and, Bool.true_and, ovL_iff (show ∀ r ∈ (regOf q).rects_, propB r = true from hqv.2.1) vs.1.2.1]
    obtain ⟨x, y, h0⟩ := fam2.ne q hq
    refine ⟨x, y, ?_, ?_⟩
    ·show inR (cn (inR q)) x y = true
     rw [inR_cn (fin_inR _)]; exact h0
    ·rw [inR_cn (fin_inR _)]
     exact (soft_part hB hq' (by rw [← he]; exact h0)).2 h
   ·rw [decide_eq_false h]
    refine meetB_no (a := regOf q) (b := ⟨cn (inR (softO L d k a.rects_))⟩) hqv vs.1 fun x y h1 h2 => ?_
    have h1 : inR (cn (inR q)) x y = true := h1
    rw [inR_cn (fin_inR _)] at h1 h2
    exact h ((soft_part hB hq' (by rw [← he]; exact h1)).1 h2)
  refine bd_ok (ref04_Within_ok hF' _ _) ?_
  refine bd_ok (ref04_Area_ok hF' (a := regOf q) hqv) ?_
  rw [hW]
  show br (!(decide (k < area q') == decide (k < area (cn (inR q))))) _ _ = _
  rw [har]
  refine br_ff (by simp) ?_
  refine bd_ok (ref04_Meets_ok hF' _ _) ?_
  refine bd_ok (ref04_Within_ok hF' _ _) ?_
  rw [hW, hM]
  unfold law11_ZoneSoft_k2
  refine br_ff (by simp) ?_
  refine gd_ok (by first | omega | exact i64_of (by omega) (by omega) | (simp only [LIM, BIG, List.length_append, List.length_cons, List.length_nil, List.length_map, List.length_take, List.length_drop, List.length_set] at *; omega)) ?_
  exact ih
 ·unfold law11_ZoneSoft_b1
  refine br_ff (by simp) ?_
  unfold law11_ZoneSoft_k3
  exact bd_ok (law11_awake_ok hF') rfl
end Go.Ab
end
