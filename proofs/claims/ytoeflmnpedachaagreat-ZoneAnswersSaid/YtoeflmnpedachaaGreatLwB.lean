/- What the plain programs compute, up to the law itself: each lemma states its own bounds. -/
import Derived.Test.YtoeflmnpedachaaGreatLwA
set_option linter.unusedVariables false
set_option linter.unusedSimpArgs false
section
namespace Go.Ab
set_option maxRecDepth 20000
structure LF6 (L : List Feature) : Prop where
 vl : VL L
 tot : ∀ (M : List Feature) d p, (∃ i, M = L.take i) → (rectsP M d p).length ≤ 300
variable {F : Nat} {L : List Feature} {d : Int}
theorem asc_len : ∀ {l : List Int}, Asc l → ∀ {lo hi : Int}, (∀ v ∈ l, lo ≤ v ∧ v ≤ hi) → lo ≤ hi + 1 → (l.length : Int) ≤ hi + 1 - lo
 | [], _, lo, hi, _, h => by simp; omega
 | a :: l, h, lo, hi, hb, h2 => by
  have h3 := List.pairwise_cons.1 h
  have h4 := hb a (by simp)
  have := asc_len (l := l) h3.2 (lo := a + 1) (hi := hi) (fun v hv => by have := h3.1 v hv; have := hb v (by simp [hv]); omega) (by omega)
  rw [List.length_cons]; omega
theorem ref04_Combine_grid (hF : BIG ≤ F) {a b : List Rect} {how : Int} (ha : a.length ≤ 200000) (hb : b.length ≤ 200000) (pa : ∀ r ∈ a, propB r = true) (pb : ∀ r ∈ b, propB r = true) : ref04_Combine F a b how = some (cn fun x y => keepB (inR a x y) (inR b x y) how) := by
 refine ref04_Combine_ok hF ha hb ?_ ?_
 ·have := asc_len (cut_asc b (cut_asc a (f := Rect.left_) (g := Rect.right_) .nil)) (lo := 0) (hi := 16384) (fun v hv => by
   rcases (cut_mem b _ _).1 hv with h | ⟨r, hr, h⟩
   ·rcases (cut_mem a _ _).1 h with h | ⟨r, hr, h⟩
    ·cases h
    ·have h : v = r.left_ ∨ v = r.right_ := h
     have := (propB_iff r).1 (pa r hr); omega
   ·have h : v = r.left_ ∨ v = r.right_ := h
    have := (propB_iff r).1 (pb r hr); omega) (by omega)
  unfold cutX
  omega
 ·have := asc_len (cut_asc b (cut_asc a (f := Rect.low_) (g := Rect.high_) .nil)) (lo := 0) (hi := 16384) (fun v hv => by
   rcases (cut_mem b _ _).1 hv with h | ⟨r, hr, h⟩
   ·rcases (cut_mem a _ _).1 h with h | ⟨r, hr, h⟩
    ·cases h
    ·have h : v = r.low_ ∨ v = r.high_ := h
     have := (propB_iff r).1 (pa r hr); omega
   ·have h : v = r.low_ ∨ v = r.high_ := h
    have := (propB_iff r).1 (pb r hr); omega) (by omega)
  unfold cutY
  omega
theorem grid_prop {l : List Rect} (hc : Canon l) {a : List Rect} (ha : ∀ r ∈ a, propB r = true) (hs : ∀ x y, inR l x y = true → inR a x y = true) : ∀ r ∈ l, propB r = true := by
 have hb : Box (16384 : Int) l := hc.box fun x y h => by
  obtain ⟨r, hr, h2⟩ := (inR_iff _ _ _).1 (hs x y h)
  have := (propB_iff r).1 (ha r hr)
  rw [has_iff] at h2
  omega
 exact hb.prop (by omega)
theorem LF6.all (h : LF6 L) (d : Int) (p : Int → Bool) : (rectsP L d p).length ≤ 300 := h.tot L d p ⟨L.length, by simp⟩
theorem LF6.prop (h : VL L) (d : Int) (p : Int → Bool) : ∀ r ∈ rectsP L d p, propB r = true := fun r hr => by
 obtain ⟨f, hf, hr⟩ := mem_rectsP hr
 exact ((oneC_zero f).1 (h.one f hf)).2.2.2.2.2.2.2.2.2.1 r hr
theorem zp_btw0 : zp 0 = btw 0 7 := by
 funext k
 unfold zp zs btw
 rw [Bool.eq_iff_iff]
 simp only [beq_iff_eq, Bool.and_eq_true, decide_eq_true_eq]
 split
 ·simpa
 ·split <;> simp <;> omega
theorem zp_btw1 : zp 1 = btw 8 11 := by
 funext k
 unfold zp zs btw
 rw [Bool.eq_iff_iff]
 simp only [beq_iff_eq, Bool.and_eq_true, decide_eq_true_eq]
 split
 ·simp; omega
 ·split <;> simp <;> omega
theorem ref09_Squares_few (hF : BIG ≤ F) (hL : LF6 L) (lo hi d : Int) : ref09_Squares F L lo hi d = some (cn (inR (rectsP L d (btw lo hi)))) := by
 have hF' := hF
 unfold BIG at hF
 have hlen := hL.vl.len
 have hsm : ∀ i, (cn (inR (rectsP (L.take i) d (btw lo hi)))).length ≤ 180000 := fun i => by
  have h1 := hL.tot (L.take i) d (btw lo hi) ⟨i, rfl⟩
  have h2 := cn_rects_len (rectsP (L.take i) d (btw lo hi))
  have h3 : 2 * (rectsP (L.take i) d (btw lo hi)).length * (rectsP (L.take i) d (btw lo hi)).length ≤ (2 * 300) * 300 := Nat.mul_le_mul (by omega) (by omega)
  omega
 unfold ref09_Squares
 refine loopN_ok (fun z : List Rect × Int => ∃ i : Nat, z = (cn (inR (rectsP (L.take i) d (btw lo hi))), (i : Int)) ∧ i ≤ L.length) (fun z => L.length - z.2.toNat) (fun again z hz ih => ?_) ⟨0, ?_, Nat.zero_le _⟩ (by simp; omega)
 ·obtain ⟨i, rfl, hi2⟩ := hz
  simp only at ih ⊢
  unfold ref09_Squares_b0
  refine br_ok (fun h => ?_) (fun h => ?_)
  ·have h : i < L.length := by simpa using h
   have hrl := hL.vl.rlen (gl_mem h)
   have e : rectsP (L.take (i + 1)) d (btw lo hi) = rectsP (L.take i) d (btw lo hi) ++ (if (thereB (gl L i) d && btw lo hi (gl L i).kind_) = true then (gl L i).region_.rects_ else []) := by
    rw [take_gl h, rectsP_append, rectsP_cons]
    congr 1
    rw [show rectsP [] d (btw lo hi) = [] from rfl, List.append_nil]
   have hk : ∀ b, b = (thereB (gl L i) d && btw lo hi (gl L i).kind_) → ref09_Squares_k1 F L (cn (inR (rectsP (L.take i) d (btw lo hi)))) (i : Int) again b = some (cn (inR (rectsP L d (btw lo hi)))) := fun b hb => by
    have hnext : ∀ o, o = cn (inR (rectsP (L.take (i + 1)) d (btw lo hi))) → ref09_Squares_k2 F (i : Int) again o = some (cn (inR (rectsP L d (btw lo hi)))) := fun o ho => by
     unfold ref09_Squares_k2
     refine gd_G (k := ?_)
     exact ih _ ⟨i + 1, by rw [ho]; simp, h⟩ (by simp only; omega)
    unfold ref09_Squares_k1
    refine br_ok (fun h2 => ?_) (fun h2 => ?_)
    ·simp only [Int.toNat_natCast]
     have := hsm i
     refine bd_ok (ref04_Combine_grid hF' (by omega) (by omega) (grid_prop (a := rectsP L d (btw lo hi)) (Canon.cn (fin_inR _)) (LF6.prop hL.vl d (btw lo hi)) fun x y h => ?_) ((oneC_zero _).1 (hL.vl.one _ (gl_mem h))).2.2.2.2.2.2.2.2.2.1) ?_
     ·rw [inR_cn (fin_inR _)] at h
      obtain ⟨r, hr, h3⟩ := (inR_iff _ _ _).1 h
      refine inR_mem ?_ h3
      unfold rectsP at hr ⊢
      obtain ⟨f, hf, hr⟩ := List.mem_flatMap.1 hr
      rw [List.mem_filter] at hf
      exact List.mem_flatMap.2 ⟨f, List.mem_filter.2 ⟨List.mem_of_mem_take hf.1, hf.2⟩, hr⟩
     refine hnext _ ?_
     rw [e, ← hb, h2, if_pos rfl]
     congr 1
     funext x y
     rw [inR_append, inR_cn (fin_inR _)]; rfl
    ·refine hnext _ ?_
     rw [e, ← hb, h2, if_neg (by simp), List.append_nil]
   refine gd_G (k := ?_)
   simp only [Int.toNat_natCast]
   refine bd_ok (ref09_there_ok F _ d) ?_
   refine br_ok (fun h1 => br_ok (fun h2 => hk _ ?_) (fun h2 => hk _ ?_)) (fun h1 => hk _ ?_)
   ·rw [h1]; unfold btw; rw [h2]; rfl
   ·rw [h1]; unfold btw; rw [h2]; rfl
   ·rw [h1]; rfl
  ·have h : ¬ i < L.length := by simpa using h
   unfold ref09_Squares_k3
   rw [List.take_of_length_le (by omega)]
 ·have e2 : rectsP (L.take 0) d (btw lo hi) = [] := rfl
  rw [e2, (cn_nil_iff (fin_inR [])).2 fun x y => rfl]; rfl
theorem zone_of_few (hF : BIG ≤ F) (hL : LF6 L) (d w : Int) : zone_of F L d w = some (lim (cn (inR (rectsP L d (zp w))))) := by
 have hlen := hL.vl.len
 unfold zone_of
 refine bd_ok (feature_Rects_ok hF (by omega) (fun f hf => hL.vl.rlen hf) d (zp w) (fun f _ => zone_of_1_ok F f.kind_ w)) ?_
 have hl := hL.all d (zp w)
 refine bd_ok (region_Joined_ok hF (by omega) fun r hr => ?_) rfl
 have := (propB_iff r).1 (LF6.prop hL.vl d (zp w) r hr)
 omega
noncomputable def bgn (L : List Feature) (d : Int) : Int := if chkC L ≠ 0 then chkC L else if d < 0 ∨ 36864 < d then 9 else 0
theorem ref11_begin_ok (hF : BIG ≤ F) (L : List Feature) (d : Int) : ref11_begin F L d = some (bgn L d) := by
 unfold ref11_begin bgn
 refine bd_ok (ref09_Check_ok hF L) ?_
 by_cases h : chkC L = 0
 ·rw [h, if_neg (by simp)]
  refine br_ff rfl ?_
  by_cases h1 : d < 0
  ·rw [if_pos (.inl h1)]
   exact br_tt (by simpa using h1) rfl
  ·refine br_ff (by simpa using h1) ?_
   by_cases h2 : 36864 < d
   ·rw [if_pos (.inr h2), decide_eq_true h2]; rfl
   ·rw [if_neg (by omega), decide_eq_false h2]; rfl
 ·rw [if_pos h]
  exact br_tt (by simpa using h) rfl
theorem bgn_zero {L : List Feature} {d : Int} (h : bgn L d = 0) : VL L ∧ 0 ≤ d ∧ d ≤ 36864 := by
 unfold bgn at h
 by_cases h1 : chkC L = 0
 ·rw [if_neg (by simp [h1])] at h
  refine ⟨(chkC_zero L).1 h1, ?_⟩
  split at h
  ·cases h
  ·omega
 ·rw [if_pos h1] at h; exact absurd h h1
noncomputable def chz (L : List Feature) (d m : Int) (a : Region) : Int := if bgn L d ≠ 0 then bgn L d else if valB a.rects_ = false then 7 else if m < 0 ∨ 268435456 < m then 2 else 0
theorem zone_check_all (hF : BIG ≤ F) (L : List Feature) (d m : Int) (a : Region) : zone_check F L d m a = some (chz L d m a) := by
 unfold zone_check chz
 refine bd_ok (feature_On_ok hF L d) ?_
 have e : (if chkC L ≠ 0 then (([] : List Feature), chkC L) else if d < 0 ∨ 36864 < d then ([], 9) else (L.filter fun f => thereB f d, 0)).2 = bgn L d := by
  unfold bgn
  split
  ·rfl
  ·split <;> rfl
 rw [e]
 by_cases h : bgn L d = 0
 ·rw [h, if_neg (by simp)]
  refine br_ff rfl ?_
  refine bd_ok (region_Valid_ok hF a) ?_
  cases hv : valB a.rects_ with
  | false => rfl
  | true =>
   rw [if_neg (by simp)]
   refine br_ff rfl ?_
   by_cases h1 : m < 0
   ·rw [if_pos (.inl h1)]
    exact br_tt (by simpa using h1) rfl
   ·refine br_ff (by simpa using h1) ?_
    by_cases h2 : 268435456 < m
    ·rw [if_pos (.inr h2), decide_eq_true h2]; rfl
    ·rw [if_neg (by omega), decide_eq_false h2]; rfl
 ·rw [if_pos h]
  exact br_tt (by simpa using h) rfl
theorem hard_eq (hF : BIG ≤ F) (hL : VL L → LF6 L) (d : Int) : ∃ v, zone_Hard F L d = some v ∧ ref11_Hard F L d = some v ∧ v.1.rects_.length ≤ 120 ∧ (bgn L d = 0 → v = lim (cn (inR (rectsP L d (zp 0))))) := by
 by_cases h : bgn L d = 0
 ·obtain ⟨hv, d1, d2⟩ := bgn_zero h
  refine ⟨lim (cn (inR (rectsP L d (zp 0)))), ?_, ?_, lim_len _, fun _ => rfl⟩
  ·unfold zone_Hard
   refine bd_ok (zone_check_ok hF hv d1 d2 Val.nil (by omega) (by omega)) ?_
   refine br_ff rfl ?_
   exact bd_ok (zone_of_few hF (hL hv) d 0) rfl
  ·unfold ref11_Hard
   refine bd_ok (ref11_begin_ok hF L d) ?_
   rw [h]
   refine br_ff rfl ?_
   refine bd_ok (ref09_Squares_few hF (hL hv) 0 7 d) ?_
   rw [← zp_btw0]
   exact bd_ok (ref04_Bound_ok _) rfl
 ·refine ⟨(⟨[]⟩, bgn L d), ?_, ?_, by simp, fun h2 => absurd h2 h⟩
  ·unfold zone_Hard
   refine bd_ok (zone_check_all hF L d 0 ⟨[]⟩) ?_
   unfold chz
   rw [if_pos h]
   exact br_tt (by simpa using h) rfl
  ·unfold ref11_Hard
   refine bd_ok (ref11_begin_ok hF L d) ?_
   exact br_tt (by simpa using h) rfl
end Go.Ab
end

section
namespace Go.Ab
set_option maxRecDepth 20000
variable {F : Nat} {L : List Feature} {d : Int}
theorem lim_or (l : List Rect) : (lim l = (⟨[]⟩, 1) ∧ 120 < l.length) ∨ (lim l = (⟨l⟩, 0) ∧ l.length ≤ 120) := by
 unfold lim
 by_cases h : 120 < l.length
 ·rw [if_pos h]; exact .inl ⟨rfl, h⟩
 ·rw [if_neg h]; exact .inr ⟨rfl, by omega⟩
theorem ref09_Kind_few (hF : BIG ≤ F) (hL : LF6 L) {k : Int} (h1 : 0 ≤ k) (h2 : k ≤ 15) (d1 : 0 ≤ d) (d2 : d ≤ 36864) : ref09_Kind F L k d = some (lim (cn (inR (rectsP L d fun x => x == k)))) := by
 unfold ref09_Kind
 refine bd_ok (ref09_Check_ok hF L) ?_
 rw [(chkC_zero L).2 hL.vl]
 refine br_ff rfl ?_
 refine br_ff (by rw [decide_eq_false_iff_not]; omega) ?_
 rw [show decide ((36864 : Int) < d) = false by rw [decide_eq_false_iff_not]; omega]
 unfold ref09_Kind_k0
 refine br_ff rfl ?_
 refine br_ff (by rw [decide_eq_false_iff_not]; omega) ?_
 rw [show decide ((15 : Int) < k) = false by rw [decide_eq_false_iff_not]; omega]
 unfold ref09_Kind_k1
 refine br_ff rfl ?_
 refine bd_ok (ref09_Squares_few hF hL k k d) ?_
 rw [btw_one]
 exact bd_ok (ref04_Bound_ok _) rfl
theorem buffer_eq (hF : BIG ≤ F) (hL : VL L → LF6 L) (k d m : Int) : ∃ v, zone_Buffer F L k d m = some v ∧ ref11_Buffer F L k d m = some v ∧ v.1.rects_.length ≤ 120 := by
 have e : (if chkC L ≠ 0 then (([] : List Feature), chkC L) else if d < 0 ∨ 36864 < d then ([], 9) else (L.filter fun f => thereB f d, 0)).2 = bgn L d := by
  unfold bgn
  split
  ·rfl
  ·split <;> rfl
 by_cases h : bgn L d = 0
 ·obtain ⟨hv, d1, d2⟩ := bgn_zero h
  have hz : ∀ X Y : Option (Region × Int), X = Y → zone_Buffer F L k d m = X → ref11_Buffer F L k d m = Y → True := fun _ _ _ _ _ => trivial
  by_cases hk : 0 ≤ k ∧ k ≤ 15
  ·have tk : decide (k < (0 : Int)) = false := by rw [decide_eq_false_iff_not]; omega
   have tk2 : decide ((15 : Int) < k) = false := by rw [decide_eq_false_iff_not]; omega
   by_cases hm : 0 ≤ m ∧ m ≤ 64
   ·have tm : decide (m < (0 : Int)) = false := by rw [decide_eq_false_iff_not]; omega
    have tm2 : decide ((64 : Int) < m) = false := by rw [decide_eq_false_iff_not]; omega
    have a1 : ∀ u, zone_Buffer_k1 F L k d m false = some u → zone_Buffer F L k d m = some u := fun u hu => by
     unfold zone_Buffer
     refine bd_ok (feature_On_ok hF L d) ?_
     rw [e, h, tk, tk2]
     refine br_ff rfl (br_ff rfl ?_)
     unfold zone_Buffer_k0
     rw [tm, tm2]
     exact br_ff rfl (br_ff rfl hu)
    have a2 : ∀ u, ref11_Buffer_k1 F L k d m false = some u → ref11_Buffer F L k d m = some u := fun u hu => by
     unfold ref11_Buffer
     refine bd_ok (ref11_begin_ok hF L d) ?_
     rw [h, tk, tk2]
     refine br_ff rfl (br_ff rfl ?_)
     unfold ref11_Buffer_k0
     rw [tm, tm2]
     exact br_ff rfl (br_ff rfl hu)
    have f1 : feature_Kind F L k d = some (lim (cn (inR (rectsP L d fun x => x == k)))) := feature_Kind_ok hF hv hk.1 hk.2 d1 d2
    have f2 := ref09_Kind_few hF (hL hv) hk.1 hk.2 d1 d2
    rcases lim_or (cn (inR (rectsP L d fun x => x == k))) with ⟨hl, _⟩ | ⟨hl, _⟩
    ·rw [hl] at f1 f2
     refine ⟨(⟨[]⟩, 1), a1 _ ?_, a2 _ ?_, by simp⟩
     ·unfold zone_Buffer_k1
      exact br_ff rfl (bd_ok f1 (br_tt rfl rfl))
     ·unfold ref11_Buffer_k1
      exact br_ff rfl (bd_ok f2 (br_tt rfl rfl))
    ·rw [hl] at f1 f2
     obtain ⟨u, c1, c2, c3⟩ := grow_eq hF ⟨cn (inR (rectsP L d fun x => x == k))⟩ m
     refine ⟨u, a1 _ ?_, a2 _ ?_, c3⟩
     ·unfold zone_Buffer_k1
      exact br_ff rfl (bd_ok f1 (br_ff rfl (bd_ok c1 rfl)))
     ·unfold ref11_Buffer_k1
      exact br_ff rfl (bd_ok f2 (br_ff rfl (bd_ok c2 rfl)))
   ·refine ⟨(⟨[]⟩, 2), ?_, ?_, by simp⟩
    ·unfold zone_Buffer
     refine bd_ok (feature_On_ok hF L d) ?_
     rw [e, h, tk, tk2]
     refine br_ff rfl (br_ff rfl ?_)
     unfold zone_Buffer_k0
     refine br_ff rfl (br_ok (fun _ => rfl) (fun h2 => ?_))
     rw [decide_eq_false_iff_not] at h2
     rw [show decide ((64 : Int) < m) = true by rw [decide_eq_true_eq]; omega]; rfl
    ·unfold ref11_Buffer
     refine bd_ok (ref11_begin_ok hF L d) ?_
     rw [h, tk, tk2]
     refine br_ff rfl (br_ff rfl ?_)
     unfold ref11_Buffer_k0
     refine br_ff rfl (br_ok (fun _ => rfl) (fun h2 => ?_))
     rw [decide_eq_false_iff_not] at h2
     rw [show decide ((64 : Int) < m) = true by rw [decide_eq_true_eq]; omega]; rfl
  ·refine ⟨(⟨[]⟩, 14), ?_, ?_, by simp⟩
   ·unfold zone_Buffer
    refine bd_ok (feature_On_ok hF L d) ?_
    rw [e, h]
    refine br_ff rfl (br_ok (fun _ => rfl) (fun h2 => ?_))
    rw [decide_eq_false_iff_not] at h2
    rw [show decide ((15 : Int) < k) = true by rw [decide_eq_true_eq]; omega]; rfl
   ·unfold ref11_Buffer
    refine bd_ok (ref11_begin_ok hF L d) ?_
    rw [h]
    refine br_ff rfl (br_ok (fun _ => rfl) (fun h2 => ?_))
    rw [decide_eq_false_iff_not] at h2
    rw [show decide ((15 : Int) < k) = true by rw [decide_eq_true_eq]; omega]; rfl
 ·refine ⟨(⟨[]⟩, bgn L d), ?_, ?_, by simp⟩
  ·unfold zone_Buffer
   refine bd_ok (feature_On_ok hF L d) ?_
   rw [e]
   exact br_tt (by simpa using h) rfl
  ·unfold ref11_Buffer
   refine bd_ok (ref11_begin_ok hF L d) ?_
   exact br_tt (by simpa using h) rfl
end Go.Ab
end

section
namespace Go.Ab
set_option maxRecDepth 20000
variable {F : Nat} {L : List Feature} {d : Int}
theorem grid_val {l : List Rect} (hc : Canon l) (hl : l.length ≤ 120) {a : List Rect} (ha : ∀ r ∈ a, propB r = true) (hs : ∀ x y, inR l x y = true → inR a x y = true) : Val l := by
 have hb : Box (16384 : Int) l := hc.box fun x y h => by
  obtain ⟨r, hr, h2⟩ := (inR_iff _ _ _).1 (hs x y h)
  have := (propB_iff r).1 (ha r hr)
  rw [has_iff] at h2
  omega
 exact ⟨hl, hb.prop (by omega), hc⟩
theorem softR_val {a : List Rect} (ha : Val a) (hl : (softR L d a).length ≤ 120) : Val (softR L d a) := grid_val (Canon.cn (fin_and _ _)) hl ha.2.1 fun x y h => by
 unfold softR at h
 rw [inR_cn (fin_and _ _), Bool.and_eq_true] at h
 exact h.2
theorem zone_Soft_few (hF : BIG ≤ F) (hL : LF6 L) (d1 : 0 ≤ d) (d2 : d ≤ 36864) {a : Region} (ha : Val a.rects_) {m : Int} (m1 : 0 ≤ m) (m2 : m ≤ 268435456) (hK : (cn (inR (rectsP L d (zp 1)))).length ≤ 120) (hRl : (softR L d a.rects_).length ≤ 120) : zone_Soft F L d m a = some (lim (cn (inR (softO L d m a.rects_)))) := by
 have hF' := hF
 unfold BIG at hF
 have hR : Val (softR L d a.rects_) ∧ True := ⟨softR_val ha hRl, trivial⟩
 have hlen := hR.1.1
 have hal := ha.1
 have hs := Canon.cn (fin_inR (rectsP L d (zp 1)))
 unfold zone_Soft
 refine bd_ok (zone_check_ok hF' hL.vl d1 d2 ha m1 m2) ?_
 refine br_ff rfl ?_
 refine bd_ok (zone_of_few hF' hL d 1) ?_
 have hlim : lim (cn (inR (rectsP L d (zp 1)))) = (⟨cn (inR (rectsP L d (zp 1)))⟩, 0) := by unfold lim; rw [if_neg (by omega)]
 rw [hlim]
 refine br_ff rfl ?_
 refine bd_ok (region_Choose_ok hF' (by omega) (fun r hr => (hs.pos hr).1) (fun r hr => (ha.2.2.pos hr).1) (k := fun u v => u && v) rfl (fun u v => by cases u <;> cases v <;> rfl)) ?_
 have e : (cn fun x y => inR (cn (inR (rectsP L d (zp 1)))) x y && inR a.rects_ x y) = softR L d a.rects_ := by
  unfold softR
  congr 1
  funext x y
  rw [inR_cn (fin_inR _)]
 rw [e]
 refine br_ff (by rw [decide_eq_false_iff_not]; omega) ?_
 have hpl := (parts_perm (softR L d a.rects_)).length_eq
 refine loopN_ok (fun z : List Rect × List Rect => ∃ (k : Nat) (Q : List (List Rect)), Q ++ partsL k z.1 = parts (softR L d a.rects_) ∧ z.1.length ≤ k ∧ z.1.length ≤ 120 ∧ z.2 = (Q.filter fun p => decide (m < area p)).flatten ∧ ∀ r ∈ z.1, r ∈ softR L d a.rects_) (fun z => z.1.length) (fun again z hz ih => ?_) ⟨_, [], rfl, Nat.le_refl _, hlen, rfl, fun _ h => h⟩ (by simp only; omega)
 obtain ⟨l, out⟩ := z
 obtain ⟨k, Q, h1, h2, h3, rfl, h5⟩ := hz
 simp only at h1 h2 h3 h5 ih ⊢
 have hQl : Q.flatten.length ≤ 120 := by
  have := congrArg (fun q => (List.flatten q).length) h1
  simp only [List.flatten_append, List.length_append] at this
  omega
 have hfl := flat_filter_len (p := fun p => decide (m < area p)) Q
 unfold zone_Soft_b0
 cases l with
 | nil =>
  refine br_ff (by simp) ?_
  unfold zone_Soft_k1
  have e2 : partsL k [] = [] := by cases k <;> rfl
  rw [e2, List.append_nil] at h1
  subst h1
  refine bd_ok (region_Joined_ok hF' (by omega) fun r hr => ?_) ?_
  ·have := (propB_iff r).1 (hR.1.2.1 r (softO_sub hr))
   omega
  ·rfl
 | cons b l =>
  refine br_tt (by simp) ?_
  refine bd_ok (shape_Joined_ok hF' (by simp) (by omega) (fun r hr => sm_prop (hR.1.2.1 r (h5 r hr)))) ?_
  cases k with
  | zero => simp at h2
  | succ k =>
  simp only [partsL] at h1
  have hj := joined_ok b l
  have hjp := hj.perm.length_eq
  simp only [List.length_append, List.length_cons, List.length_nil] at hjp h2 h3
  have hq : ∀ r ∈ (joined (b :: l)).1, r ∈ softR L d a.rects_ := fun r hr => h5 r (hj.perm.mem_iff.1 (List.mem_append.2 (.inl hr)))
  have hne : 1 ≤ (joined (b :: l)).1.length := by
   have := hj.lens.1
   exact List.length_pos_iff.2 this
  refine bd_ok (region_Size_ok hF' (by omega) fun r hr => hR.1.2.1 r (hq r hr)) ?_
  have hnext : ∀ o, o = (((Q ++ [(joined (b :: l)).1])).filter fun p => decide (m < area p)).flatten → again ((joined (b :: l)).2, o) = some (lim (cn (inR (softO L d m a.rects_)))) := fun o ho => by
   refine ih _ ⟨k, Q ++ [(joined (b :: l)).1], by rw [← h1, List.append_assoc]; rfl, by simp only; omega, by simp only; omega, ho, fun r hr => h5 r (hj.perm.mem_iff.1 (List.mem_append.2 (.inr hr)))⟩ (by simp only [List.length_cons]; omega)
  refine br_ok (fun hb => ?_) (fun hb => ?_)
  ·refine gd_ok (by simp only [LIM]; omega) ?_
   refine hnext _ ?_
   rw [List.filter_append, List.filter_cons, hb]; simp
  ·refine hnext _ ?_
   rw [List.filter_append, List.filter_cons, hb]; simp
theorem flat_len : ∀ (Q : List (List Rect)) (k : Nat), (∀ q ∈ Q, q.length ≤ k) → Q.flatten.length ≤ Q.length * k
 | [], _, _ => by simp
 | q :: Q, k, h => by
  have h1 := flat_len Q k fun p hp => h p (by simp [hp])
  have h2 := h q (by simp)
  rw [List.flatten_cons, List.length_append, List.length_cons, Nat.add_mul]
  omega
noncomputable def refO (R : List Rect) (p : List Int) (m : Int) : List Rect := ((refQ R p).filter fun q => decide (m < area (cn (inR q)))).flatten
theorem refO_in {R : List Rect} (hR : Val R) {p : List Int} (hl : Lab R p) (hs : Stab R p) (m : Int) : inR (refO R p m) = inR (((parts R).filter fun q => decide (m < area q)).flatten) := by
 have hpos : ∀ r ∈ R, Pos r := fun r hr => hR.2.2.pos hr
 have f1 := fam_parts hR.2.2.apt hpos
 have f2 := fam_ref hR.2.2.apt hpos hl hs
 have har : ∀ q ∈ refQ R p, ∀ q' ∈ parts R, inR q = inR q' → area (cn (inR q)) = area q' := fun q hq q' hq' he => by
  have hv : Val (cn (inR q)) := by
   refine grid_val (Canon.cn (fin_inR q)) ?_ (fun r hr => hR.2.1 r hr) fun x y h => ?_
   ·rw [he]; exact parts_lim hR q' hq'
   ·rw [inR_cn (fin_inR q)] at h
    exact (f2.un x y).2 ⟨q, hq, h⟩
  exact fam_area (part_apt hR.2.2.apt hq') (fun r hr => hR.2.1 r (parts_mem hq' hr)) he hv
 funext x y
 unfold refO
 rw [Bool.eq_iff_iff, inR_flatten, inR_flatten, List.any_eq_true, List.any_eq_true]
 constructor
 ·rintro ⟨q, hq, h⟩
  rw [List.mem_filter, decide_eq_true_eq] at hq
  obtain ⟨q', hq', he⟩ := f2.uniq f1 hq.1
  refine ⟨q', List.mem_filter.2 ⟨hq', ?_⟩, by rw [← he]; exact h⟩
  rw [decide_eq_true_eq, ← har q hq.1 q' hq' he]; exact hq.2
 ·rintro ⟨q', hq', h⟩
  rw [List.mem_filter, decide_eq_true_eq] at hq'
  obtain ⟨q, hq, he⟩ := f1.uniq f2 hq'.1
  refine ⟨q, List.mem_filter.2 ⟨hq, ?_⟩, by rw [← he]; exact h⟩
  rw [decide_eq_true_eq, har q hq q' hq'.1 he.symm]; exact hq'.2
theorem ref11_Soft_k1_ok (hF : BIG ≤ F) {R : List Rect} (hR : Val R) (m : Int) : ref11_Soft_k1 F m R false = some (lim (cn (inR (((parts R).filter fun q => decide (m < area q)).flatten)))) := by
 have hF' := hF
 unfold BIG at hF
 have hrl := hR.1
 obtain ⟨p, h1, h2, h3⟩ := ref06_Parts_ok hF' (a := ⟨R⟩) hR
 have hql := refQ_len (R := R) (p := p)
 rw [← refO_in hR h1 h2 m]
 unfold ref11_Soft_k1
 refine br_ff rfl ?_
 refine bd_ok h3 ?_
 have hsel : ∀ q ∈ refQ R p, (∀ r ∈ q, r ∈ R) ∧ q.length ≤ 120 := fun q hq => by
  unfold refQ at hq
  obtain ⟨i, hi, rfl⟩ := List.mem_map.1 hq
  refine ⟨fun r hr => ?_, Nat.le_trans sel_len hrl⟩
  obtain ⟨k, hk, _, rfl⟩ := mem_sel.1 hr
  exact gl_mem hk
 have hval : ∀ q ∈ refQ R p, Val (cn (inR q)) := fun q hq => by
  have := cn_sub_len hR.2.2 (hsel q hq).1
  have h5 := (hsel q hq).2
  refine grid_val (Canon.cn (fin_inR q)) (by omega) hR.2.1 fun x y h => ?_
  rw [inR_cn (fin_inR q)] at h
  obtain ⟨r, hr, h6⟩ := (inR_iff _ _ _).1 h
  exact inR_mem ((hsel q hq).1 r hr) h6
 let X : Nat → List Rect := fun i => (((refQ R p).take i).filter fun q => decide (m < area (cn (inR q)))).flatten
 have hXl : ∀ i, (cn (inR (X i))).length ≤ 14400 := fun i => by
  have hm : ∀ q ∈ ((refQ R p).take i).filter (fun q => decide (m < area (cn (inR q)))), q ∈ refQ R p := fun q hq => List.mem_of_mem_take (List.mem_filter.1 hq).1
  have g1 := flat_len _ 120 fun q hq => (hsel q (hm q hq)).2
  have g2 : (((refQ R p).take i).filter (fun q => decide (m < area (cn (inR q))))).length ≤ 120 := by
   have g3 := List.length_filter_le (fun q => decide (m < area (cn (inR q)))) ((refQ R p).take i)
   rw [List.length_take] at g3
   omega
  have g4 := cn_sub_len (p := X i) hR.2.2 fun r hr => by
   obtain ⟨q, hq, hr⟩ := List.mem_flatten.1 hr
   exact (hsel q (hm q hq)).1 r hr
  have g5 := Nat.mul_le_mul_right 120 g2
  show _ ≤ _
  have g6 : (X i).length ≤ (((refQ R p).take i).filter (fun q => decide (m < area (cn (inR q))))).length * 120 := g1
  omega
 refine loopN_ok (fun z : List Rect × Int => ∃ i : Nat, z = (cn (inR (X i)), (i : Int)) ∧ i ≤ (refQ R p).length) (fun z => (refQ R p).length - z.2.toNat) (fun again z hz ih => ?_) ⟨0, ?_, Nat.zero_le _⟩ (by simp; omega)
 ·obtain ⟨i, rfl, hi2⟩ := hz
  simp only at ih ⊢
  unfold ref11_Soft_b2
  dsimp only
  refine br_ok (fun h => ?_) (fun h => ?_)
  ·have h : i < (refQ R p).length := by simpa using h
   have hgl : gl ((refQ R p).map regOf) i = regOf ((refQ R p)[i]) := by
    rw [gl_lt (by rw [List.length_map]; exact h), List.getElem_map]
   have hqm : (refQ R p)[i] ∈ refQ R p := List.getElem_mem h
   have hv := hval _ hqm
   have hX1 : X (i + 1) = X i ++ (if m < area (cn (inR ((refQ R p)[i]))) then (refQ R p)[i] else []) := by
    show (((refQ R p).take (i + 1)).filter _).flatten = _
    rw [List.take_succ_eq_append_getElem h, List.filter_append, List.flatten_append, List.filter_cons]
    congr 1
    split
    ·rename_i g; rw [if_pos (by simpa using g)]; simp
    ·rename_i g; rw [if_neg (by simpa using g)]; rfl
   have hnext : ∀ o, o = cn (inR (X (i + 1))) → ref11_Soft_k3 F (i : Int) again o = some (lim (cn (inR (refO R p m)))) := fun o ho => by
    unfold ref11_Soft_k3
    refine gd_G (k := ?_)
    exact ih _ ⟨i + 1, by rw [ho]; simp, h⟩ (by simp only; omega)
   refine gd_ok (by simp only [List.length_map]; omega) ?_
   simp only [Int.toNat_natCast, hgl]
   refine bd_ok (ref04_Area_ok hF' (a := regOf ((refQ R p)[i])) hv) ?_
   have e : area (regOf ((refQ R p)[i])).rects_ = area (cn (inR ((refQ R p)[i]))) := rfl
   rw [e]
   refine br_ok (fun g => ?_) (fun g => ?_)
   ·rw [decide_eq_true_eq] at g
    have l1 := hXl i
    have l2 : (regOf ((refQ R p)[i])).rects_.length ≤ 120 := hv.1
    refine bd_ok (ref04_Combine_small hF' (by omega)) ?_
    refine hnext _ ?_
    rw [hX1, if_pos g]
    congr 1
    funext x y
    rw [inR_append, inR_cn (fin_inR _)]
    show (inR (X i) x y || inR (cn (inR ((refQ R p)[i]))) x y) = _
    rw [inR_cn (fin_inR _)]
   ·rw [decide_eq_false_iff_not] at g
    refine hnext _ ?_
    rw [hX1, if_neg g, List.append_nil]
  ·have h : ¬ i < (refQ R p).length := by simpa using h
   have e : X i = refO R p m := by
    show (((refQ R p).take i).filter _).flatten = _
    rw [List.take_of_length_le (by omega)]; rfl
   rw [e]
   unfold ref11_Soft_k4
   exact bd_ok (ref04_Bound_ok _) rfl
 ·have e2 : X 0 = [] := rfl
  rw [e2, (cn_nil_iff (fin_inR [])).2 fun x y => rfl]; rfl
end Go.Ab
end

section
namespace Go.Ab
set_option maxRecDepth 20000
variable {F : Nat} {L : List Feature} {d : Int}
theorem chz_zero {m : Int} {a : Region} (h : chz L d m a = 0) : bgn L d = 0 ∧ Val a.rects_ ∧ 0 ≤ m ∧ m ≤ 268435456 := by
 unfold chz at h
 by_cases h1 : bgn L d = 0
 ·rw [if_neg (by simp [h1])] at h
  cases hv : valB a.rects_ with
  | false => rw [if_pos hv] at h; cases h
  | true =>
   rw [if_neg (by simp [hv])] at h
   refine ⟨h1, (valB_iff _).1 hv, ?_⟩
   split at h
   ·cases h
   ·omega
 ·rw [if_pos h1] at h; exact absurd h h1
theorem lim_grid {l : List Rect} (hc : Canon l) {a : List Rect} (ha : ∀ r ∈ a, propB r = true) (hs : ∀ x y, inR l x y = true → inR a x y = true) : ∀ r ∈ (lim l).1.rects_, propB r = true := by
 unfold lim
 split
 ·exact fun r hr => (List.not_mem_nil hr).elim
 ·exact grid_prop hc ha hs
theorem lim_canon {l : List Rect} (h : Canon l) : Canon (lim l).1.rects_ := by
 unfold lim
 split
 ·exact canon_nil
 ·exact h
theorem ref11_Soft_chk (hF : BIG ≤ F) (m : Int) (a : Region) (h : chz L d m a ≠ 0) : ref11_Soft F L d m a = some (⟨[]⟩, chz L d m a) := by
 unfold ref11_Soft
 refine bd_ok (ref11_begin_ok hF L d) ?_
 unfold chz at h ⊢
 by_cases h1 : bgn L d = 0
 ·rw [if_neg (by simp [h1])] at h ⊢
  rw [h1]
  refine br_ff rfl ?_
  refine bd_ok (ref04_Valid_ok hF a) ?_
  cases hv : valB a.rects_ with
  | false => rfl
  | true =>
   rw [if_neg (by simp [hv])] at h ⊢
   refine br_ff rfl ?_
   by_cases h2 : m < 0
   ·rw [if_pos (.inl h2)]
    exact br_tt (by simpa using h2) rfl
   ·refine br_ff (by simpa using h2) ?_
    by_cases h3 : 268435456 < m
    ·rw [if_pos (.inr h3), decide_eq_true h3]; rfl
    ·rw [if_neg (by omega)] at h; exact absurd rfl h
 ·rw [if_pos h1]
  exact br_tt (by simpa using h1) rfl
theorem ref11_Eligible_chk (hF : BIG ≤ F) (m : Int) (a : Region) (h : chz L d m a ≠ 0) : ref11_Eligible F a L d m = some (⟨[]⟩, chz L d m a) := by
 unfold ref11_Eligible
 refine bd_ok (ref11_begin_ok hF L d) ?_
 unfold chz at h ⊢
 by_cases h1 : bgn L d = 0
 ·rw [if_neg (by simp [h1])] at h ⊢
  rw [h1]
  refine br_ff rfl ?_
  refine bd_ok (ref04_Valid_ok hF a) ?_
  cases hv : valB a.rects_ with
  | false => rfl
  | true =>
   rw [if_neg (by simp [hv])] at h ⊢
   refine br_ff rfl ?_
   by_cases h2 : m < 0
   ·rw [if_pos (.inl h2)]
    exact br_tt (by simpa using h2) rfl
   ·refine br_ff (by simpa using h2) ?_
    by_cases h3 : 268435456 < m
    ·rw [if_pos (.inr h3), decide_eq_true h3]; rfl
    ·rw [if_neg (by omega)] at h; exact absurd rfl h
 ·rw [if_pos h1]
  exact br_tt (by simpa using h1) rfl
theorem soft_eq (hF : BIG ≤ F) (hL : VL L → LF6 L) (d m : Int) (a : Region) : ∃ v, zone_Soft F L d m a = some v ∧ ref11_Soft F L d m a = some v ∧ v.1.rects_.length ≤ 120 ∧ Canon v.1.rects_ ∧ ∀ r ∈ v.1.rects_, propB r = true := by
 by_cases h : chz L d m a = 0
 ·obtain ⟨hb, hv, m1, m2⟩ := chz_zero h
  obtain ⟨hvl, d1, d2⟩ := bgn_zero hb
  have hl6 := hL hvl
  have hal := hv.1
  have hKl : (cn (inR (rectsP L d (zp 1)))).length ≤ 180000 := by
   have h1 := hl6.all d (zp 1)
   have h2 := cn_rects_len (rectsP L d (zp 1))
   have h3 : 2 * (rectsP L d (zp 1)).length * (rectsP L d (zp 1)).length ≤ (2 * 300) * 300 := Nat.mul_le_mul (by omega) (by omega)
   omega
  have eR : (cn fun x y => keepB (inR (cn (inR (rectsP L d (zp 1)))) x y) (inR a.rects_ x y) 2) = softR L d a.rects_ := by
   unfold softR
   congr 1
   funext x y
   rw [inR_cn (fin_inR _)]; rfl
  have href : ∀ v, br (decide ((120 : Int) < ((List.length (cn (inR (rectsP L d (zp 1)))) : Nat) : Int))) (ref11_Soft_k1 F m (softR L d a.rects_) true) (ref11_Soft_k1 F m (softR L d a.rects_) (decide ((120 : Int) < ((List.length (softR L d a.rects_) : Nat) : Int)))) = some v → ref11_Soft F L d m a = some v := fun v hh => by
   unfold ref11_Soft
   refine bd_ok (ref11_begin_ok hF L d) ?_
   rw [hb]
   refine br_ff rfl ?_
   refine bd_ok (ref04_Valid_ok hF a) ?_
   rw [valB_true hv]
   refine br_ff rfl ?_
   refine br_ff (by rw [decide_eq_false_iff_not]; omega) ?_
   rw [show decide ((268435456 : Int) < m) = false by rw [decide_eq_false_iff_not]; omega]
   unfold ref11_Soft_k0
   refine br_ff rfl ?_
   refine bd_ok (ref09_Squares_few hF hl6 8 11 d) ?_
   rw [← zp_btw1]
   refine bd_ok (ref04_Combine_grid hF (by omega) (by omega) (grid_prop (Canon.cn (fin_inR _)) (LF6.prop hvl d (zp 1)) fun x y h => by rwa [inR_cn (fin_inR _)] at h) hv.2.1) ?_
   rw [eR]
   exact hh
  have hzone : ∀ v, (br ((lim (cn (inR (rectsP L d (zp 1))))).2 != (0 : Int)) (some ((⟨[]⟩ : Region), (lim (cn (inR (rectsP L d (zp 1))))).2)) ((region_Choose F (lim (cn (inR (rectsP L d (zp 1))))).1.rects_ a.rects_ (fun y0 y1 => zone_Soft_1 F y0 y1)).bind fun z1717 =>
    br (decide ((120 : Int) < ((List.length z1717 : Nat) : Int))) (some ((⟨[]⟩ : Region), (1 : Int))) (loopN (fun again (z : (List Rect) × (List Rect)) => zone_Soft_b0 F m again z.1 z.2) F (z1717, ([] : List Rect))))) = some v → zone_Soft F L d m a = some v := fun v hh => by
   unfold zone_Soft
   refine bd_ok (zone_check_ok hF hvl d1 d2 hv m1 m2) ?_
   refine br_ff rfl ?_
   exact bd_ok (zone_of_few hF hl6 d 1) hh
  by_cases hK : (cn (inR (rectsP L d (zp 1)))).length ≤ 120
  ·by_cases hR : (softR L d a.rects_).length ≤ 120
   ·refine ⟨_, zone_Soft_few hF hl6 d1 d2 hv m1 m2 hK hR, href _ ?_, lim_len _, lim_canon (Canon.cn (fin_inR _)), ?_⟩
    rotate_left
    ·exact lim_grid (Canon.cn (fin_inR _)) hv.2.1 fun x y h => by
      rw [inR_cn (fin_inR _)] at h
      obtain ⟨r, hr, h2⟩ := (inR_iff _ _ _).1 h
      have h3 := inR_mem (softO_sub hr) h2
      unfold softR at h3
      rw [inR_cn (fin_and _ _), Bool.and_eq_true] at h3
      exact h3.2
    refine br_ff (by rw [decide_eq_false_iff_not]; omega) ?_
    rw [show decide ((120 : Int) < ((List.length (softR L d a.rects_) : Nat) : Int)) = false by rw [decide_eq_false_iff_not]; omega]
    exact ref11_Soft_k1_ok hF (softR_val hv hR) m
   ·refine ⟨(⟨[]⟩, 1), hzone _ ?_, href _ ?_, by simp, canon_nil, fun r hr => (List.not_mem_nil hr).elim⟩
    ·have hlim : lim (cn (inR (rectsP L d (zp 1)))) = (⟨cn (inR (rectsP L d (zp 1)))⟩, 0) := by unfold lim; rw [if_neg (by omega)]
     rw [hlim]
     refine br_ff rfl ?_
     refine bd_ok (region_Choose_ok hF (by omega) (fun r hr => ((Canon.cn (fin_inR _)).pos hr).1) (fun r hr => (hv.2.2.pos hr).1) (k := fun u v => u && v) rfl (fun u v => by cases u <;> cases v <;> rfl)) ?_
     refine br_tt ?_ rfl
     rw [decide_eq_true_eq]
     have e2 : (cn fun x y => inR (cn (inR (rectsP L d (zp 1)))) x y && inR a.rects_ x y) = softR L d a.rects_ := eR
     show (120 : Int) < (((cn fun x y => inR (cn (inR (rectsP L d (zp 1)))) x y && inR a.rects_ x y).length : Nat) : Int)
     rw [e2]; omega
    ·refine br_ff (by rw [decide_eq_false_iff_not]; omega) ?_
     rw [show decide ((120 : Int) < ((List.length (softR L d a.rects_) : Nat) : Int)) = true by rw [decide_eq_true_eq]; omega]; rfl
  ·refine ⟨(⟨[]⟩, 1), hzone _ ?_, href _ ?_, by simp, canon_nil, fun r hr => (List.not_mem_nil hr).elim⟩
   ·have hlim : lim (cn (inR (rectsP L d (zp 1)))) = (⟨[]⟩, 1) := by unfold lim; rw [if_pos (by omega)]
    rw [hlim]
    exact br_tt rfl rfl
   ·exact br_tt (by rw [decide_eq_true_eq]; omega) rfl
 ·refine ⟨(⟨[]⟩, chz L d m a), ?_, ref11_Soft_chk hF m a h, by simp, canon_nil, fun r hr => (List.not_mem_nil hr).elim⟩
  unfold zone_Soft
  refine bd_ok (zone_check_all hF L d m a) ?_
  exact br_tt (by simpa using h) rfl
theorem eligible_eq (hF : BIG ≤ F) (hL : VL L → LF6 L) (d m : Int) (a : Region) : ∃ v, zone_Eligible F a L d m = some v ∧ ref11_Eligible F a L d m = some v ∧ v.1.rects_.length ≤ 120 := by
 by_cases h : chz L d m a = 0
 ·obtain ⟨hb, hv, m1, m2⟩ := chz_zero h
  obtain ⟨hvl, d1, d2⟩ := bgn_zero hb
  have hal := hv.1
  obtain ⟨v1, p1, p2, p3, p4⟩ := hard_eq hF hL d
  have hc1 : Canon v1.1.rects_ := by rw [p4 hb]; exact lim_canon (Canon.cn (fin_inR _))
  obtain ⟨v2, q1, q2, q3, q4, q5⟩ := soft_eq hF hL d m a
  have hz : ∀ v, (br (v1.2 != (0 : Int)) (some ((⟨[]⟩ : Region), v1.2)) ((zone_Soft F L d m a).bind fun z1790 =>
    br (z1790.2 != (0 : Int)) (some ((⟨[]⟩ : Region), z1790.2)) ((slices_Concat_Rect F ([v1.1.rects_, z1790.1.rects_] : List (List Rect))).bind fun z1793 =>
    (region_Choose F a.rects_ z1793 (fun y0 y1 => zone_Eligible_1 F y0 y1)).bind fun z1795 =>
    (region_Limited F z1795).bind fun z1797 =>
    some (z1797.1, z1797.2)))) = some v → zone_Eligible F a L d m = some v := fun v hh => by
   unfold zone_Eligible
   refine bd_ok (zone_check_ok hF hvl d1 d2 hv m1 m2) ?_
   refine br_ff rfl ?_
   exact bd_ok p1 hh
  have hr : ∀ v, (br (v1.2 != (0 : Int)) (some ((⟨[]⟩ : Region), v1.2)) ((ref11_Soft F L d m a).bind fun z2946 =>
    br (z2946.2 != (0 : Int)) (some ((⟨[]⟩ : Region), z2946.2)) ((ref04_Combine F a.rects_ v1.1.rects_ (3 : Int)).bind fun z2949 =>
    (ref04_Combine F z2949 z2946.1.rects_ (3 : Int)).bind fun z2951 =>
    (ref04_Bound F z2951).bind fun z2953 =>
    some (z2953.1, z2953.2)))) = some v → ref11_Eligible F a L d m = some v := fun v hh => by
   unfold ref11_Eligible
   refine bd_ok (ref11_begin_ok hF L d) ?_
   rw [hb]
   refine br_ff rfl ?_
   refine bd_ok (ref04_Valid_ok hF a) ?_
   rw [valB_true hv]
   refine br_ff rfl ?_
   refine br_ff (by rw [decide_eq_false_iff_not]; omega) ?_
   rw [show decide ((268435456 : Int) < m) = false by rw [decide_eq_false_iff_not]; omega]
   unfold ref11_Eligible_k0
   refine br_ff rfl ?_
   exact bd_ok p2 hh
  by_cases e1 : v1.2 = 0
  ·by_cases e2 : v2.2 = 0
   ·have hset : (cn fun x y => keepB (inR (cn fun x y => keepB (inR a.rects_ x y) (inR v1.1.rects_ x y) 3) x y) (inR v2.1.rects_ x y) 3) = cn fun x y => inR a.rects_ x y && !inR (v1.1.rects_ ++ v2.1.rects_) x y := by
     congr 1
     funext x y
     rw [inR_cn (fin_comb _ _ _), inR_append]
     show ((inR a.rects_ x y && !inR v1.1.rects_ x y) && !inR v2.1.rects_ x y) = _
     cases inR a.rects_ x y <;> cases inR v1.1.rects_ x y <;> cases inR v2.1.rects_ x y <;> rfl
    refine ⟨lim (cn fun x y => inR a.rects_ x y && !inR (v1.1.rects_ ++ v2.1.rects_) x y), hz _ ?_, hr _ ?_, lim_len _⟩
    ·refine br_ff (by rw [e1]; rfl) ?_
     refine bd_ok q1 ?_
     refine br_ff (by rw [e2]; rfl) ?_
     refine bd_ok (slices_Concat_Rect_two hF (by omega) (by omega)) ?_
     refine bd_ok (region_Choose_ok hF (by simp only [List.length_append]; omega) (fun r hr => (hv.2.2.pos hr).1) (fun r hr => ?_) (k := fun u v => u && !v) rfl (fun u v => by cases u <;> cases v <;> rfl)) ?_
     ·rcases List.mem_append.1 hr with h | h
      ·exact (hc1.pos h).1
      ·exact (q4.pos h).1
     ·exact bd_ok (region_Limited_ok F _) rfl
    ·refine br_ff (by rw [e1]; rfl) ?_
     refine bd_ok q2 ?_
     refine br_ff (by rw [e2]; rfl) ?_
     refine bd_ok (ref04_Combine_small hF (by omega)) ?_
     have hcl := comb_len a.rects_ v1.1.rects_ 3
     have hcl2 : (2 * a.rects_.length + 2 * v1.1.rects_.length) * (a.rects_.length + v1.1.rects_.length) ≤ 480 * 240 := Nat.mul_le_mul (by omega) (by omega)
     have hs2 : ∀ r ∈ v2.1.rects_, propB r = true := q5
     refine bd_ok (ref04_Combine_grid hF (by omega) (by omega) (grid_prop (Canon.cn (fin_comb _ _ _)) hv.2.1 fun x y h => ?_) hs2) ?_
     ·rw [inR_cn (fin_comb _ _ _)] at h
      simp only [keepB] at h
      simp at h
      exact h.1
     rw [hset]
     exact bd_ok (ref04_Bound_ok _) rfl
   ·refine ⟨(⟨[]⟩, v2.2), hz _ ?_, hr _ ?_, by simp⟩
    ·exact br_ff (by rw [e1]; rfl) (bd_ok q1 (br_tt (by simpa using e2) rfl))
    ·exact br_ff (by rw [e1]; rfl) (bd_ok q2 (br_tt (by simpa using e2) rfl))
  ·refine ⟨(⟨[]⟩, v1.2), hz _ ?_, hr _ ?_, by simp⟩
   ·exact br_tt (by simpa using e1) rfl
   ·exact br_tt (by simpa using e1) rfl
 ·refine ⟨(⟨[]⟩, chz L d m a), ?_, ref11_Eligible_chk hF m a h, by simp⟩
  unfold zone_Eligible
  refine bd_ok (zone_check_all hF L d m a) ?_
  exact br_tt (by simpa using h) rfl
end Go.Ab
end

section
namespace Go.Ab
set_option maxRecDepth 20000
variable {F : Nat} {L : List Feature} {d : Int}
def inZ (d x y : Int) (f : Feature) : Bool := thereB f d && inR f.region_.rects_ x y
def putL (L : List Feature) (d x y : Int) : List Int := ((L.filter (inZ d x y)).map Feature.kind_).foldl put []
theorem ref11_Zones_ok (hF : BIG ≤ F) (hv : VL L) (d1 : 0 ≤ d) (d2 : d ≤ 36864) (x y : Int) : ref11_Zones F L x y d = some (putL L d x y, 0) := by
 have hF' := hF
 unfold BIG at hF
 have hlen := hv.len
 have hb : bgn L d = 0 := by
  unfold bgn
  rw [if_neg (by simp [(chkC_zero L).2 hv]), if_neg (by omega)]
 have hpl : ∀ (l acc : List Int), (l.foldl put acc).length ≤ acc.length + l.length := by
  intro l
  induction l with
  | nil => intro acc; simp
  | cons a l ih =>
   intro acc
   have h1 := ih (put acc a)
   have h2 := len_put acc a
   rw [List.foldl_cons, List.length_cons]
   omega
 unfold ref11_Zones
 refine bd_ok (ref11_begin_ok hF' L d) ?_
 rw [hb]
 refine br_ff rfl ?_
 refine loopN_ok (fun z : List Int × Int => ∃ i : Nat, z = (putL (L.take i) d x y, (i : Int)) ∧ i ≤ L.length) (fun z => L.length - z.2.toNat) (fun again z hz ih => ?_) ⟨0, rfl, Nat.zero_le _⟩ (by simp; omega)
 obtain ⟨i, rfl, hi2⟩ := hz
 simp only at ih ⊢
 unfold ref11_Zones_b0
 refine br_ok (fun h => ?_) (fun h => ?_)
 ·have h : i < L.length := by simpa using h
  have hval : Val (gl L i).region_.rects_ := ((oneC_zero _).1 (hv.one _ (gl_mem h))).2.2.2.2.2.2.2.2
  have hk : ∀ b, b = inZ d x y (gl L i) → ref11_Zones_k1 F L (putL (L.take i) d x y) (i : Int) again b = some (putL L d x y, 0) := fun b hb => by
   have hnext : ∀ o, o = putL (L.take (i + 1)) d x y → ref11_Zones_k2 F (i : Int) again o = some (putL L d x y, 0) := fun o ho => by
    unfold ref11_Zones_k2
    refine gd_G (k := ?_)
    exact ih _ ⟨i + 1, by rw [ho]; simp, h⟩ (by simp only; omega)
   unfold ref11_Zones_k1
   refine br_ok (fun h2 => ?_) (fun h2 => ?_)
   ·simp only [Int.toNat_natCast]
    have g1 := hpl (((L.take i).filter (inZ d x y)).map Feature.kind_) []
    have g2 := List.length_filter_le (inZ d x y) (L.take i)
    rw [List.length_map] at g1
    rw [List.length_take] at g2
    simp only [List.length_nil] at g1
    refine bd_ok (ref01_Put_ok hF' (by show (putL (L.take i) d x y).length ≤ _; unfold putL; omega) _) ?_
    refine hnext _ ?_
    unfold putL
    rw [take_gl h, List.filter_append, List.map_append, List.foldl_append, List.filter_cons, if_pos (by rw [← hb]; exact h2)]
    rfl
   ·refine hnext _ ?_
    unfold putL
    rw [take_gl h, List.filter_append, List.filter_cons, if_neg (by rw [← hb, h2]; simp)]
    simp
  refine gd_G (k := ?_)
  simp only [Int.toNat_natCast]
  refine br_ok (fun h1 => br_ok (fun h2 => ?_) (fun h2 => hk _ ?_)) (fun h1 => hk _ ?_)
  ·refine bd_ok (ref04_Has_ok hF' _ x y) ?_
   refine hk _ ?_
   unfold inZ thereB
   rw [h1, h2, valB_true hval]; rfl
  ·unfold inZ thereB; rw [h1, h2]; rfl
  ·unfold inZ thereB; rw [h1]; rfl
 ·have h : ¬ i < L.length := by simpa using h
  unfold ref11_Zones_k3
  rw [List.take_of_length_le (by omega)]
theorem putL_spec (L : List Feature) (d x y : Int) : Asc (putL L d x y) ∧ ∀ v, v ∈ putL L d x y ↔ ∃ f ∈ L, (thereB f d = true ∧ inR f.region_.rects_ x y = true) ∧ f.kind_ = v := by
 have key : ∀ (l acc : List Int), Asc acc → Asc (l.foldl put acc) ∧ ∀ v, v ∈ l.foldl put acc ↔ v ∈ l ∨ v ∈ acc := by
  intro l
  induction l with
  | nil => intro acc h; exact ⟨h, fun v => by simp⟩
  | cons a l ih =>
   intro acc h
   obtain ⟨h1, h2⟩ := ih (put acc a) (asc_put h a)
   refine ⟨h1, fun v => ?_⟩
   rw [List.foldl_cons, h2, mem_put, List.mem_cons]
   constructor
   ·rintro (h | h | h)
    ·exact .inl (.inr h)
    ·exact .inl (.inl h)
    ·exact .inr h
   ·rintro ((h | h) | h)
    ·exact .inr (.inl h)
    ·exact .inl h
    ·exact .inr (.inr h)
 obtain ⟨h1, h2⟩ := key ((L.filter (inZ d x y)).map Feature.kind_) [] .nil
 refine ⟨h1, fun v => ?_⟩
 show v ∈ ((L.filter (inZ d x y)).map Feature.kind_).foldl put [] ↔ _
 rw [h2, List.mem_map]
 constructor
 ·rintro (⟨f, hf, rfl⟩ | h)
  ·rw [List.mem_filter] at hf
   unfold inZ at hf
   rw [Bool.and_eq_true] at hf
   exact ⟨f, hf.1, hf.2, rfl⟩
  ·cases h
 ·rintro ⟨f, hf, h, rfl⟩
  exact .inl ⟨f, List.mem_filter.2 ⟨hf, by unfold inZ; rw [h.1, h.2]; rfl⟩, rfl⟩
theorem zones_eq (hF : BIG ≤ F) (L : List Feature) (x y d : Int) : ∃ v, zone_Zones F L x y d = some v ∧ ref11_Zones F L x y d = some v ∧ v.1.length ≤ 60 := by
 by_cases h : bgn L d = 0
 ·obtain ⟨hv, d1, d2⟩ := bgn_zero h
  obtain ⟨r, h1, h2, h3, h4⟩ := zone_Zones_ok hF hv d1 d2 x y
  have hp := putL_spec L d x y
  have e : r = putL L d x y := sorted_ext (Rl := (· < ·)) (fun a b h k => by omega) h4 hp.1 fun v => (h3 v).trans (hp.2 v).symm
  refine ⟨(r, 0), h1, ?_, h2⟩
  rw [e]
  exact ref11_Zones_ok hF hv d1 d2 x y
 ·refine ⟨([], bgn L d), ?_, ?_, by simp⟩
  ·unfold zone_Zones
   refine bd_ok (feature_On_ok hF L d) ?_
   have e : (if chkC L ≠ 0 then (([] : List Feature), chkC L) else if d < 0 ∨ 36864 < d then ([], 9) else (L.filter fun f => thereB f d, 0)).2 = bgn L d := by
    unfold bgn
    split
    ·rfl
    ·split <;> rfl
   rw [e]
   exact br_tt (by simpa using h) rfl
  ·unfold ref11_Zones
   refine bd_ok (ref11_begin_ok hF L d) ?_
   exact br_tt (by simpa using h) rfl
end Go.Ab
end

section
namespace Go.Ab
set_option maxRecDepth 20000
theorem rectsP_lenk {k : Nat} : ∀ {L : List Feature}, (∀ f ∈ L, f.region_.rects_.length ≤ k) → ∀ (d : Int) (p : Int → Bool), (rectsP L d p).length ≤ L.length * k
 | [], _, _, _ => Nat.zero_le _
 | f :: L, h, d, p => by
  have h1 := rectsP_lenk (L := L) (fun g hg => h g (by simp [hg])) d p
  have h2 := h f (by simp)
  rw [rectsP_cons, List.length_append, List.length_cons, Nat.add_mul]
  split
  ·omega
  ·simp only [List.length_nil]; omega
theorem lf6_of {L : List Feature} {k : Nat} (hv : VL L) (h : ∀ f ∈ L, f.region_.rects_.length ≤ k) (hk : L.length * k ≤ 300) : LF6 L := by
 refine ⟨hv, fun M d p hM => ?_⟩
 obtain ⟨i, rfl⟩ := hM
 have h1 := rectsP_lenk (L := L.take i) (fun f hf => h f (List.mem_of_mem_take hf)) d p
 have h2 : (L.take i).length * k ≤ L.length * k := Nat.mul_le_mul_right _ (by rw [List.length_take]; omega)
 omega
end Go.Ab
end

section
namespace Go.Ab
set_option maxRecDepth 20000
variable {F : Nat}
theorem same_self (hF : BIG ≤ F) {v : Region} (h : v.rects_.length ≤ 120) : ref04_Same F v v = some true := (ref04_Same_ok hF (by simp only [LIM]; omega)).trans (by simp)
theorem ints_self (hF : BIG ≤ F) {l : List Int} (h : l.length ≤ 60) : ref01_Ints F l l = some true := by
 unfold BIG at hF
 unfold ref01_Ints
 refine br_ff (by simp) ?_
 refine for_ok l.length (fun ag i hi hag => ?_) (fun ag => ?_) (by omega)
 ·unfold ref01_Ints_b0
  refine br_tt (by simp; omega) ?_
  refine gd_G (k := ?_)
  refine gd_G (k := ?_)
  refine br_ff (by simp) ?_
  refine gd_G (k := ?_)
  exact hag
 ·unfold ref01_Ints_b0
  exact br_ff (by simp) rfl
theorem ref09_Add_O_ok {F : Nat} (hF : BIG ≤ F) (l : List Feature) (f : Feature) : ref09_Add_O F l f = some (l, addC l f) := by
 have hF' := hF
 unfold BIG at hF
 unfold ref09_Add_O addC
 refine bd_ok (ref09_Check_ok hF' l) ?_
 by_cases h : chkC l = 0
 ·refine br_ff (by simp [h]) ?_
  rw [if_neg (by simp [h])]
  refine bd_ok (ref09_one_ok hF' f) ?_
  by_cases h1 : oneC f = 0
  ·refine br_ff (by simp [h1]) ?_
   rw [if_neg (by simp [h1])]
   have hv := (chkC_zero l).1 h
   have hlen := hv.len
   obtain ⟨a, b, c⟩ := lessN_spec hv.asc f.number_
   unfold insF
   generalize lessN l f.number_ = k at *
   refine loopN_ok (fun z : Int => ∃ i : Nat, z = i ∧ i ≤ k) (fun z => l.length - z.toNat) (fun again z hz ih => ?_) ⟨0, rfl, by omega⟩ (by simp; omega)
   obtain ⟨i, rfl, hi⟩ := hz
   have hk2 : i = k → ref09_Add_O_k2 F l f (i : Int) = some (l, if k < l.length ∧ (gl l k).number_ = f.number_ then ([], 6) else if l.length = 60 then ([], 1) else (l.take k ++ [f] ++ l.drop k, 0)) := by
    rintro rfl
    unfold ref09_Add_O_k2
    have hk3 : ∀ b : Bool, (b = true ↔ i < l.length ∧ (gl l i).number_ = f.number_) → ref09_Add_O_k3 F l f (i : Int) b = some (l, if i < l.length ∧ (gl l i).number_ = f.number_ then ([], 6) else if l.length = 60 then ([], 1) else (l.take i ++ [f] ++ l.drop i, 0)) := by
     intro b hb
     unfold ref09_Add_O_k3
     refine br_ok (fun h => by rw [if_pos (hb.1 h)]) (fun h => ?_)
     rw [if_neg fun hh => by rw [hb.2 hh] at h; cases h]
     refine br_ok (fun h => ?_) (fun h => ?_)
     ·have h : l.length = 60 := by simp at h; omega
      rw [if_pos h]
     ·have h : l.length ≠ 60 := by simp at h; omega
      rw [if_neg h]
      simp only [Int.toNat_natCast]
      refine gd_G (k := ?_)
      refine gd_G (k := ?_)
      refine gd_G (k := ?_)
      refine gd_G (k := ?_)
      refine gd_G (k := ?_)
      refine gd_G (k := ?_)
      refine gd_G (k := ?_)
      simp [List.take_of_length_le]
    refine br_ok (fun h2 => ?_) (fun h2 => ?_)
    ·have h2 : i < l.length := by simpa using h2
     refine gd_G (k := ?_)
     exact hk3 _ (by simp [h2])
    ·have h2 : ¬ i < l.length := by simpa using h2
     exact hk3 _ (by simp [h2])
   unfold ref09_Add_O_b0
   refine br_ok (fun h2 => ?_) (fun h2 => ?_)
   ·have h2 : i < l.length := by simpa using h2
    refine gd_G (k := ?_)
    unfold ref09_Add_O_k1
    simp only [Int.toNat_natCast]
    refine br_ok (fun h3 => ?_) (fun h3 => ?_)
    ·have h3 : (gl l i).number_ < f.number_ := by simpa using h3
     refine gd_G (k := ?_)
     refine ih _ ⟨i + 1, by omega, ?_⟩ (by omega)
     rcases Nat.lt_or_ge i k with h4 | h4
     ·exact h4
     ·have := c i h4 h2; omega
    ·have h3 : ¬ (gl l i).number_ < f.number_ := by simpa using h3
     refine hk2 ?_
     rcases Nat.lt_or_ge i k with h4 | h4
     ·exact absurd (b i h4) h3
     ·omega
   ·have h2 : ¬ i < l.length := by simpa using h2
    unfold ref09_Add_O_k1
    exact br_ff rfl (hk2 (by omega))
  ·refine br_tt (by simpa using h1) ?_
   rw [if_pos h1]
 ·refine br_tt (by simpa using h) ?_
  rw [if_pos h]
theorem keep_Tape_Layer_O_ok {F : Nat} (hF : BIG ≤ F) {t : Tape} (ht : TOk t) {most : Int} (m1 : 0 ≤ most) (m2 : most ≤ 50) : ∃ t' l, keep_Tape_Layer_O F t most = some (t', l) ∧ TOk t' ∧ LayT l ∧ (l.length : Int) ≤ most := by
 have hF' := hF
 unfold BIG at hF
 obtain ⟨t1, c, e1, o1, c1, c2⟩ := keep_Tape_Next_ok (F := F) ht (n := most + 1) (by omega) (by omega)
 have key : ∀ (k f : Nat) (t : Tape) (l : List Feature), k < f → TOk t → LayT l → (l.length : Int) + k ≤ most → ∃ t' l', loopN (fun again (z : Int × List Int × Int × List Feature) => keep_Tape_Layer_O_b0 F again z.1 z.2.1 z.2.2.1 z.2.2.2) f ((k : Int), t.l_, t.at_, l) = some (t', l') ∧ TOk t' ∧ LayT l' ∧ (l'.length : Int) ≤ most := by
  intro k
  induction k with
  | zero =>
   intro f t l hf ht hl hk
   cases f with
   | zero => omega
   | succ f => exact ⟨⟨t.l_, t.at_⟩, l, rfl, ht, hl, by omega⟩
  | succ k ih =>
   intro f t l hf ht hl hk
   cases f with
   | zero => omega
   | succ f =>
    obtain ⟨ta, n, ea, oa, n1, n2⟩ := keep_Tape_Range_ok (F := F) ht (lo := 1) (hi := 12) (by omega) (by omega) (by omega)
    obtain ⟨tb, g, eb, ob, hg, hgn⟩ := keep_Tape_Feature_ok hF' oa n
    have hg1 := hg.one (by omega) (by omega)
    have hz := (chkC_zero l).2 hl.vl
    have e3 : ((k + 1 : Nat) : Int) - 1 = (k : Int) := by omega
    by_cases hadd : (addC l g).2 = 0
    ·have hlay : LayT (addC l g).1 ∧ (addC l g).1.length = l.length + 1 := by
      unfold addC at hadd ⊢
      rw [if_neg (by simp [hz]), if_neg (by simp [hg1])] at hadd ⊢
      by_cases q1 : lessN l g.number_ < l.length ∧ (gl l (lessN l g.number_)).number_ = g.number_
      ·rw [if_pos q1] at hadd; cases hadd
      ·rw [if_neg q1] at hadd ⊢
       by_cases q2 : l.length = 60
       ·rw [if_pos q2] at hadd; cases hadd
       ·rw [if_neg q2]
        refine ⟨⟨insF_VL hl.vl hg1 q1 q2, fun x hx => ?_⟩, ?_⟩
        ·rcases insF_mem.1 hx with rfl | hx
         ·exact ⟨hg, by omega, by omega⟩
         ·exact hl.fea x hx
        ·have := (lessN_spec hl.vl.asc g.number_).1
         simp [insF]; omega
     obtain ⟨t2, l2, q1, q2, q3, q4⟩ := ih f tb (addC l g).1 (by omega) ob hlay.1 (by omega)
     refine ⟨t2, l2, ?_, q2, q3, q4⟩
     show keep_Tape_Layer_O_b0 F _ ((k + 1 : Nat) : Int) t.l_ t.at_ l = _
     unfold keep_Tape_Layer_O_b0
     refine br_tt (by simp) ?_
     refine bd_ok ea (bd_ok eb (bd_ok (ref09_Add_O_ok hF' l g) ?_))
     refine br_tt (by simpa using hadd) ?_
     unfold keep_Tape_Layer_O_k1
     refine gd_G (k := ?_)
     rw [e3]; exact q1
    ·obtain ⟨t2, l2, q1, q2, q3, q4⟩ := ih f tb l (by omega) ob hl (by omega)
     refine ⟨t2, l2, ?_, q2, q3, q4⟩
     show keep_Tape_Layer_O_b0 F _ ((k + 1 : Nat) : Int) t.l_ t.at_ l = _
     unfold keep_Tape_Layer_O_b0
     refine br_tt (by simp) ?_
     refine bd_ok ea (bd_ok eb (bd_ok (ref09_Add_O_ok hF' l g) ?_))
     refine br_ff (by simpa using hadd) ?_
     unfold keep_Tape_Layer_O_k1
     refine gd_G (k := ?_)
     rw [e3]; exact q1
 obtain ⟨t', l, q1, q2, q3, q4⟩ := key c.toNat F t1 [] (by omega) o1 ⟨⟨by simp, fun f hf => (List.not_mem_nil hf).elim, .nil⟩, fun f hf => (List.not_mem_nil hf).elim⟩ (by simp; omega)
 refine ⟨t', l, ?_, q2, q3, q4⟩
 unfold keep_Tape_Layer_O
 refine gd_G (k := ?_)
 refine bd_ok e1 ?_
 have : (c.toNat : Int) = c := by omega
 rw [this] at q1
 exact q1
theorem za_k4 (hF : BIG ≤ F) {x mine : List Feature} (hL : ∀ i, i < 2 → VL (gl [x, mine] i) → LF6 (gl [x, mine] i)) (a : Region) (d m k p q : Int) {t : Tape} (ht : TOk t) : law11_ZoneAnswers_k4 F x a d m k p q t.l_ t.at_ mine = some true := by
 have hF' := hF
 unfold BIG at hF
 obtain ⟨t2, r, e2, o2, hr⟩ := keep_Tape_Broken_ok hF' ht (n := 9) (most := 3) (by omega) (by omega) (by omega) (by omega)
 obtain ⟨d', ed, d1, d2⟩ := keep_Mod_ok (F := F) d (n := 45) (by omega) (by omega)
 obtain ⟨m', em, m1, m2⟩ := keep_Mod_ok (F := F) m (n := 12) (by omega) (by omega)
 obtain ⟨k', ek, k1, k2⟩ := keep_Mod_ok (F := F) k (n := 18) (by omega) (by omega)
 obtain ⟨p', ep, p1, p2⟩ := keep_Mod_ok (F := F) p (n := 10) (by omega) (by omega)
 obtain ⟨q', eq, q1, q2⟩ := keep_Mod_ok (F := F) q (n := 10) (by omega) (by omega)
 unfold law11_ZoneAnswers_k4
 refine bd_ok e2 ?_
 refine for_ok 2 (fun ag i hi hag => ?_) (fun ag => ?_) (by omega)
 ·unfold law11_ZoneAnswers_b5
  refine br_tt (by simp; omega) ?_
  refine gd_G (k := ?_)
  refine bd_ok ed ?_
  have hLi := hL i hi
  refine for_ok 2 (fun ag2 j hj hag2 => ?_) (fun ag2 => ?_) (by omega)
  ·unfold law11_ZoneAnswers_b6
   refine br_tt (by simp; omega) ?_
   refine gd_G (k := ?_)
   simp only [Int.toNat_natCast]
   obtain ⟨v, e3, e4, h5, _⟩ := hard_eq hF' hLi (gl [d, d'] j)
   refine bd_ok e3 (bd_ok e4 (bd_ok (same_self hF' h5) ?_))
   refine br_ff rfl ?_
   unfold law11_ZoneAnswers_k7
   refine br_ff (by simp) ?_
   refine bd_ok em ?_
   refine gd_G (k := ?_)
   refine for_ok 2 (fun ag3 l hl hag3 => ?_) (fun ag3 => ?_) (by omega)
   ·unfold law11_ZoneAnswers_b8
    refine br_tt (by simp; omega) ?_
    refine gd_G (k := ?_)
    refine for_ok 2 (fun ag4 n hn hag4 => ?_) (fun ag4 => ?_) (by omega)
    ·unfold law11_ZoneAnswers_b9
     refine br_tt (by simp; omega) ?_
     refine gd_G (k := ?_)
     simp only [Int.toNat_natCast]
     obtain ⟨v, e3, e4, h5, _, _⟩ := soft_eq hF' hLi (gl [d, d'] j) (gl [m, m' - 1] l) (gl [a, r] n)
     obtain ⟨u, e6, e7, h8⟩ := eligible_eq hF' hLi (gl [d, d'] j) (gl [m, m' - 1] l) (gl [a, r] n)
     refine bd_ok e3 (bd_ok e4 (bd_ok e6 (bd_ok e7 (bd_ok (same_self hF' h5) ?_))))
     refine br_ff rfl (br_ff (by simp) (bd_ok (same_self hF' h8) (br_ff rfl ?_)))
     unfold law11_ZoneAnswers_k10
     refine br_ff (by simp) ?_
     refine gd_G (k := ?_)
     exact hag4
    ·unfold law11_ZoneAnswers_b9
     refine br_ff (by simp) ?_
     unfold law11_ZoneAnswers_k11
     simp only [Int.toNat_natCast]
     refine bd_ok ek ?_
     refine gd_G (k := ?_)
     obtain ⟨v, e3, e4, h5⟩ := buffer_eq hF' hLi (k' - 1) (gl [d, d'] j) (gl [m, m' - 1] l)
     refine bd_ok e3 (bd_ok ek ?_)
     refine gd_G (k := ?_)
     refine bd_ok e4 (bd_ok (same_self hF' h5) (br_ff rfl ?_))
     unfold law11_ZoneAnswers_k12
     refine br_ff (by simp) ?_
     unfold law11_ZoneAnswers_k13
     refine gd_G (k := ?_)
     exact hag3
   ·unfold law11_ZoneAnswers_b8
    refine br_ff (by simp) ?_
    unfold law11_ZoneAnswers_k14
    refine bd_ok ep (bd_ok eq ?_)
    refine for_ok 2 (fun ag4 n hn hag4 => ?_) (fun ag4 => ?_) (by omega)
    ·unfold law11_ZoneAnswers_b15
     refine br_tt (by simp; omega) ?_
     refine gd_G (k := ?_)
     simp only [Int.toNat_natCast]
     obtain ⟨v, e3, e4, h5⟩ := zones_eq hF' (gl [x, mine] i) (gl [(⟨p, q⟩ : Arr2Int), ⟨p', q'⟩] n).e0_ (gl [(⟨p, q⟩ : Arr2Int), ⟨p', q'⟩] n).e1_ (gl [d, d'] j)
     refine bd_ok e3 (bd_ok e4 (bd_ok (ints_self hF' h5) ?_))
     refine br_ff rfl ?_
     unfold law11_ZoneAnswers_k16
     refine br_ff (by simp) ?_
     refine gd_G (k := ?_)
     exact hag4
    ·unfold law11_ZoneAnswers_b15
     refine br_ff (by simp) ?_
     unfold law11_ZoneAnswers_k17
     refine gd_G (k := ?_)
     exact hag2
  ·unfold law11_ZoneAnswers_b6
   refine br_ff (by simp) ?_
   unfold law11_ZoneAnswers_k18
   refine gd_G (k := ?_)
   exact hag
 ·unfold law11_ZoneAnswers_b5
  refine br_ff (by simp) ?_
  unfold law11_ZoneAnswers_k19
  exact bd_ok (law11_awake_ok hF') rfl
theorem RegT.few {a : Region} (h : RegT 9 a) : a.rects_.length ≤ 46 := by
 have := Canon.half h.val.2.2 (n := 9) h.box
 omega
theorem za_k2 (hF : BIG ≤ F) {x : List Feature} (h8 : x.length ≤ 8) (h5 : ∀ f ∈ x, f.region_.rects_.length ≤ 5) (a : Region) (d m k p q : Int) (l : List Int) : law11_ZoneAnswers_k2 F x a d m k p q l = some true := by
 obtain ⟨t, e0, o0⟩ := keep_New_ok F l
 obtain ⟨t1, L, e1, o1, hL, hlen⟩ := keep_Tape_Layer_O_ok hF o0 (most := 5) (by omega) (by omega)
 have hx : VL x → LF6 x := fun hv => lf6_of hv h5 (by omega)
 have hf : ∀ f ∈ L, f.region_.rects_.length ≤ 46 := fun f hf => (hL.fea f hf).1.reg.few
 have hk : ∀ {M : List Feature}, M.length = L.length → (∀ f ∈ M, f.region_.rects_.length ≤ 46) → ∀ i, i < 2 → VL (gl [x, M] i) → LF6 (gl [x, M] i) := by
  intro M hM hr i hi
  match i, hi with
  | 0, _ => exact hx
  | 1, _ =>
   show VL M → LF6 M
   exact fun hv => lf6_of hv hr (by omega)
 unfold law11_ZoneAnswers_k2
 refine bd_ok e0 (bd_ok e1 ?_)
 refine br_ok (fun h => ?_) (fun _ => ?_)
 ·obtain ⟨t2, b, e2, o2⟩ := keep_Tape_One_ok (F := F) o1 (n := 6) (by omega) (by omega)
  refine bd_ok e2 ?_
  unfold law11_ZoneAnswers_k3
  refine br_ok (fun _ => ?_) (fun _ => za_k4 hF (hk rfl hf) a d m k p q o2)
  obtain ⟨t3, r, e3, o3, hr⟩ := keep_Tape_Broken_ok hF o2 (n := 9) (most := 2) (by omega) (by omega) (by omega) (by omega)
  refine bd_ok e3 ?_
  have h : 0 < L.length := by simpa using h
  refine gd_G (k := ?_)
  refine za_k4 hF (hk (by simp) fun f hf' => ?_) a d m k p q o3
  rcases List.mem_or_eq_of_mem_set hf' with h1 | h1
  ·exact hf f h1
  ·rw [h1]; exact hr
 ·unfold law11_ZoneAnswers_k3
  exact br_ff rfl (za_k4 hF (hk rfl hf) a d m k p q o1)
theorem law11_ZoneAnswers_ok (hF : BIG ≤ F) (x : List Feature) (a : Region) (d m k p q : Int) (l : List Int) : law11_ZoneAnswers F x a d m k p q l = some true := by
 have hF' := hF
 unfold BIG at hF
 unfold law11_ZoneAnswers
 have hk0 : ∀ b : Bool, (b = false → x.length ≤ 8) → law11_ZoneAnswers_k0 F x a d m k p q l b = some true := by
  intro b hb
  unfold law11_ZoneAnswers_k0
  refine br_ok (fun _ => bd_ok (law11_awake_ok hF') rfl) (fun h => ?_)
  have h8 := hb h
  refine loopN_ok (fun z : Int => ∃ i : Nat, z = i ∧ i ≤ x.length ∧ ∀ j, j < i → (gl x j).region_.rects_.length ≤ 5) (fun z => x.length - z.toNat) (fun again z hz ih => ?_) ⟨0, rfl, by omega, fun j hj => absurd hj (Nat.not_lt_zero j)⟩ (by simp; omega)
  obtain ⟨i, rfl, hi, hj⟩ := hz
  unfold law11_ZoneAnswers_b1
  refine br_ok (fun h2 => ?_) (fun h2 => ?_)
  ·have h2 : i < x.length := by simpa using h2
   refine gd_G (k := ?_)
   refine br_ok (fun _ => bd_ok (law11_awake_ok hF') rfl) (fun h3 => ?_)
   refine gd_G (k := ?_)
   refine ih _ ⟨i + 1, by omega, h2, fun j hj2 => ?_⟩ (by omega)
   rcases Nat.lt_or_ge j i with h4 | h4
   ·exact hj j h4
   ·have : j = i := by omega
    subst this
    simp at h3
    omega
  ·have h2 : ¬ i < x.length := by simpa using h2
   refine za_k2 hF' h8 (fun f hf => ?_) a d m k p q l
   obtain ⟨j, hjl, rfl⟩ := List.getElem_of_mem hf
   have := hj j (by omega)
   rw [gl_lt hjl] at this
   exact this
 refine br_ok (fun h => ?_) (fun h => ?_)
 ·exact hk0 true (fun h => by cases h)
 ·exact hk0 _ (fun _ => by simp at h; omega)
end Go.Ab
end
