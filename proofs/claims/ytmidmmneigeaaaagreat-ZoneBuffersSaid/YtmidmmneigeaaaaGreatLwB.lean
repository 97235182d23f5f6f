/- What the plain programs compute, up to the law itself: each lemma states its own bounds. -/
import Derived.Test.YtmidmmneigeaaaaGreatLwA
set_option linter.unusedVariables false
set_option linter.unusedSimpArgs false
section
namespace Go.Ab
set_option maxRecDepth 20000
variable {F n : Nat} {L : List Feature} {d : Int}
theorem ref09_there_ok (F : Nat) (f : Feature) (d : Int) : ref09_there F f d = some (thereB f d) := by
 unfold ref09_there thereB
 cases decide (f.from_ ≤ d) <;> rfl
def btw (lo hi : Int) (k : Int) : Bool := decide (lo ≤ k) && decide (k ≤ hi)
theorem rectsP_append (A B : List Feature) (d : Int) (p : Int → Bool) : rectsP (A ++ B) d p = rectsP A d p ++ rectsP B d p := by simp [rectsP]
theorem btw_one (k : Int) : btw k k = fun x => x == k := by
 funext x
 unfold btw
 rw [Bool.eq_iff_iff]
 simp
 omega
theorem ref09_Squares_ok (hF : BIG ≤ F) (hL : LB n L) (lo hi d : Int) : ref09_Squares F L lo hi d = some (cn (inR (rectsP L d (btw lo hi)))) := by
 have hF' := hF
 unfold BIG at hF
 have hlen := hL.vl.len
 have hsm : ∀ i, (cn (inR (rectsP (L.take i) d (btw lo hi)))).length ≤ 120 := fun i => by
  refine half15 (Canon.cn (fin_inR _)) (box_cn (n := (n : Int)) (fin_inR _) fun x y h => ?_) hL.n15
  have hb : Box n (rectsP (L.take i) d (btw lo hi)) := fun r hr => by
   obtain ⟨f, hf, hr⟩ := mem_rectsP hr
   exact hL.box f (List.mem_of_mem_take hf) r hr
  exact hb.in h
 unfold ref09_Squares
 refine loopN_ok (fun z : List Rect × Int => ∃ i : Nat, z = (cn (inR (rectsP (L.take i) d (btw lo hi))), (i : Int)) ∧ i ≤ L.length) (fun z => L.length - z.2.toNat) (fun again z hz ih => ?_) ⟨0, ?_, Nat.zero_le _⟩ (by simp; omega)
 ·obtain ⟨i, rfl, hi2⟩ := hz
  simp only at ih ⊢
  unfold ref09_Squares_b0
  refine br_ok (fun h => ?_) (fun h => ?_)
  ·have h : i < L.length := by simpa using h
   have hrl := hL.vl.rlen (gl_mem h)
   have e : rectsP (L.take (i + 1)) d (btw lo hi) = rectsP (L.take i) d (btw lo hi) ++ (if (thereB (gl L i) d && btw lo hi (gl L i).kind_) = true then (gl L i).region_.rects_ else []) := by
    rw [take_gl h, rectsP_append, rectsP_cons]
    congr 1
    rw [show rectsP [] d (btw lo hi) = [] from rfl, List.append_nil]
   have hk : ∀ b, b = (thereB (gl L i) d && btw lo hi (gl L i).kind_) → ref09_Squares_k1 F L (cn (inR (rectsP (L.take i) d (btw lo hi)))) (i : Int) again b = some (cn (inR (rectsP L d (btw lo hi)))) := fun b hb => by
    have hnext : ∀ o, o = cn (inR (rectsP (L.take (i + 1)) d (btw lo hi))) → ref09_Squares_k2 F (i : Int) again o = some (cn (inR (rectsP L d (btw lo hi)))) := fun o ho => by
     unfold ref09_Squares_k2
     refine gd_ok (by first | omega | exact i64_of (by omega) (by omega) | (simp only [LIM, BIG, List.length_append, List.length_cons, List.length_nil, List.length_map, List.length_take, List.length_drop, List.length_set] at *; omega)) ?_
     exact ih _ ⟨i + 1, by rw [ho]; simp, h⟩ (by simp only; omega)
    unfold ref09_Squares_k1
    refine br_ok (fun h2 => ?_) (fun h2 => ?_)
    ·simp only [Int.toNat_natCast]
     have := hsm i
     refine bd_ok (ref04_Combine_small hF' (by omega)) ?_
     refine hnext _ ?_
     rw [e, ← hb, h2, if_pos rfl]
     congr 1
     funext x y
     rw [inR_append, inR_cn (fin_inR _)]; rfl
    ·refine hnext _ ?_
     rw [e, ← hb, h2, if_neg (by simp), List.append_nil]
   refine gd_ok (by first | omega | exact i64_of (by omega) (by omega) | (simp only [LIM, BIG, List.length_append, List.length_cons, List.length_nil, List.length_map, List.length_take, List.length_drop, List.length_set] at *; omega)) ?_
   simp only [Int.toNat_natCast]
   refine bd_ok (ref09_there_ok F _ d) ?_
   refine br_ok (fun h1 => br_ok (fun h2 => hk _ ?_) (fun h2 => hk _ ?_)) (fun h1 => hk _ ?_)
   ·rw [h1]; unfold btw; rw [h2]; rfl
   ·rw [h1]; unfold btw; rw [h2]; rfl
   ·rw [h1]; rfl
  ·have h : ¬ i < L.length := by simpa using h
   unfold ref09_Squares_k3
   rw [List.take_of_length_le (by omega)]
 ·have e2 : rectsP (L.take 0) d (btw lo hi) = [] := rfl
  rw [e2, (cn_nil_iff (fin_inR [])).2 fun x y => rfl]; rfl
theorem ref09_Kind_ok (hF : BIG ≤ F) (hL : LB n L) {k : Int} (h1 : 0 ≤ k) (h2 : k ≤ 15) (d1 : 0 ≤ d) (d2 : d ≤ 36864) : ref09_Kind F L k d = some (⟨cn (inR (rectsP L d fun x => x == k))⟩, 0) := by
 unfold ref09_Kind
 refine bd_ok (ref09_Check_ok hF L) ?_
 rw [(chkC_zero L).2 hL.vl]
 refine br_ff rfl ?_
 refine br_ff (by rw [decide_eq_false_iff_not]; omega) ?_
 rw [show decide ((36864 : Int) < d) = false by rw [decide_eq_false_iff_not]; omega]
 unfold ref09_Kind_k0
 refine br_ff rfl ?_
 refine br_ff (by rw [decide_eq_false_iff_not]; omega) ?_
 rw [show decide ((15 : Int) < k) = false by rw [decide_eq_false_iff_not]; omega]
 unfold ref09_Kind_k1
 refine br_ff rfl ?_
 refine bd_ok (ref09_Squares_ok hF hL k k d) ?_
 rw [btw_one]
 refine bd_ok (ref04_Bound_ok _) ?_
 have := (hL.rval d (fun x => x == k)).1.1
 rw [if_neg (by omega)]
theorem grown_val {K : List Rect} (hK : Val K) {m : Nat} (hb : Box m K) {k : Int} (h0 : 0 ≤ k) (hm : (m : Int) + k ≤ 15) : Val (cn (inR (growL K k))) ∧ Box (15 : Nat) (cn (inR (growL K k))) :=
 val_cn (n := 15) (fin_inR _) (by omega) fun x y h => by
  rw [inR_growL (fun r hr => hK.2.2.pos hr) h0] at h
  obtain ⟨hg, u, v, h1, h2⟩ := h
  have := hb.in h1
  unfold onGrid at hg
  unfold near at h2
  omega
theorem zone_Buffer_ok (hF : BIG ≤ F) (hL : LB n L) {k : Int} (h1 : 0 ≤ k) (h2 : k ≤ 15) (d1 : 0 ≤ d) (d2 : d ≤ 36864) {m : Int} (m1 : 0 ≤ m) (m2 : (n : Int) + m ≤ 15) : zone_Buffer F L k d m = some (⟨cn (inR (growL (cn (inR (rectsP L d fun x => x == k))) m))⟩, 0) := by
 have hK := hL.rval d (fun x => x == k)
 have hKl := hK.1.1
 unfold zone_Buffer
 refine bd_ok (feature_On_ok hF L d) ?_
 rw [if_neg (by simp [(chkC_zero L).2 hL.vl]), if_neg (by omega)]
 refine br_ff rfl ?_
 refine br_ff (by rw [decide_eq_false_iff_not]; omega) ?_
 rw [show decide ((15 : Int) < k) = false by rw [decide_eq_false_iff_not]; omega]
 unfold zone_Buffer_k0
 refine br_ff rfl ?_
 refine br_ff (by rw [decide_eq_false_iff_not]; omega) ?_
 rw [show decide ((64 : Int) < m) = false by rw [decide_eq_false_iff_not]; omega]
 unfold zone_Buffer_k1
 refine br_ff rfl ?_
 refine bd_ok (feature_Kind_ok hF hL.vl h1 h2 d1 d2) ?_
 rw [if_neg (by omega)]
 refine br_ff rfl ?_
 refine bd_ok (shape_Grow_ok hF (a := ⟨cn (inR (rectsP L d fun x => x == k))⟩) hK.1 m1 (by omega)) ?_
 rw [lim_val (grown_val hK.1 hK.2 m1 m2).1]
theorem growL_zero {K : List Rect} (hK : Val K) : cn (inR (growL K 0)) = K := by
 have : inR (growL K 0) = inR K := by
  funext x y
  rw [Bool.eq_iff_iff, inR_growL (fun r hr => hK.2.2.pos hr) (by omega)]
  constructor
  ·rintro ⟨_, u, v, h1, h2⟩
   unfold near at h2
   rw [show x = u by omega, show y = v by omega]; exact h1
  ·intro h
   refine ⟨?_, x, y, h, by unfold near; omega⟩
   obtain ⟨r, hr, h2⟩ := (inR_iff _ _ _).1 h
   have := (propB_iff r).1 (hK.2.1 r hr)
   rw [has_iff] at h2
   unfold onGrid; omega
 rw [this]
 exact hK.2.2.eq_cn.symm
theorem growL_mono {K : List Rect} (hK : Val K) {k m : Int} (h0 : 0 ≤ k) (hkm : k ≤ m) {x y : Int} (h : inR (growL K k) x y = true) : inR (growL K m) x y = true := by
 rw [inR_growL (fun r hr => hK.2.2.pos hr) h0] at h
 rw [inR_growL (fun r hr => hK.2.2.pos hr) (by omega)]
 obtain ⟨hg, u, v, h1, h2⟩ := h
 exact ⟨hg, u, v, h1, by unfold near at *; omega⟩
theorem law11_ZoneBuffers_ok (hF : BIG ≤ F) (l : List Int) {w1 w2 w3 : Int} (hw1 : 0 ≤ w1 ∧ w1 ≤ 255) (hw2 : 0 ≤ w2 ∧ w2 ≤ 255) (hw3 : 0 ≤ w3 ∧ w3 ≤ 255) : law11_ZoneBuffers F l w1 w2 w3 = some true := by
 obtain ⟨t, e0, o0⟩ := keep_New_ok F l
 obtain ⟨t1, L, e1, o1, hL, _⟩ := keep_Tape_Layer_ok hF o0 (most := 4) (by omega) (by omega)
 obtain ⟨k1, k2⟩ := tmod_range hw1.1 (n := 16) (by omega)
 obtain ⟨d1, d2⟩ := tmod_range hw2.1 (n := 45) (by omega)
 obtain ⟨j1, j2⟩ := tmod_range hw3.1 (n := 6) (by omega)
 have hB := hL.lb
 unfold law11_ZoneBuffers
 refine bd_ok e0 (bd_ok e1 ?_)
 dsimp only
 generalize w1.tmod 16 = k at *
 generalize w2.tmod 45 = d at *
 generalize w3.tmod 6 = j at *
 have hK := hB.rval d (fun x => x == k)
 refine gd_ok (i64_of (by omega) (by omega)) (gd_ok (by omega) (gd_ok (i64_of (by omega) (by omega)) (gd_ok (by omega) (gd_ok (i64_of (by omega) (by omega)) (gd_ok (by omega) ?_)))))
 refine bd_ok (zone_Buffer_ok hF hB k1 (by omega) d1 (by omega) (m := 0) (by omega) (by omega)) ?_
 refine bd_ok (zone_Buffer_ok hF hB k1 (by omega) d1 (by omega) (m := j) (by omega) (by omega)) ?_
 refine gd_ok (i64_of (by omega) (by omega)) ?_
 refine bd_ok (zone_Buffer_ok hF hB k1 (by omega) d1 (by omega) (m := j + 1) (by omega) (by omega)) ?_
 refine bd_ok (ref09_Kind_ok hF hB k1 (by omega) d1 (by omega)) ?_
 generalize hKe : cn (inR (rectsP L d fun x => x == k)) = K at hK ⊢
 refine bd_ok (ref06_Grow_ok hF (a := ⟨K⟩) hK.1 j1 (by omega)) ?_
 have v0 := grown_val hK.1 hK.2 (k := 0) (by omega) (by omega)
 have v1 := grown_val hK.1 hK.2 (k := j) (by omega) (by omega)
 have v2 := grown_val hK.1 hK.2 (k := j + 1) (by omega) (by omega)
 show (br _ _ _ : Option Bool) = _
 rw [lim_val v1.1]
 refine br_tt rfl (br_tt rfl (br_tt rfl (br_tt rfl (br_tt rfl ?_))))
 have hl := hK.1.1
 have hl1 := v1.1.1
 refine bd_ok (ref04_Same_ok hF (a := ⟨cn (inR (growL K 0))⟩) (b := ⟨K⟩) (by simp only [LIM]; omega)) ?_
 refine br_tt (by rw [decide_eq_true_eq]; exact growL_zero hK.1) ?_
 refine bd_ok (ref04_Same_ok hF (a := ⟨cn (inR (growL K j))⟩) (b := ⟨cn (inR (growL K j))⟩) (by simp only [LIM]; omega)) ?_
 refine br_tt (by simp) ?_
 have f1 : withB ⟨cn (inR (growL K 0))⟩ ⟨cn (inR (growL K j))⟩ = true := (withB_iff (a := ⟨cn (inR (growL K 0))⟩) (b := ⟨cn (inR (growL K j))⟩) v0.1 v1.1).2 fun x y h => by
  simp only at h ⊢
  rw [inR_cn (fin_inR _)] at h ⊢
  exact growL_mono hK.1 (by omega) j1 h
 have f2 : withB ⟨cn (inR (growL K j))⟩ ⟨cn (inR (growL K (j + 1)))⟩ = true := (withB_iff (a := ⟨cn (inR (growL K j))⟩) (b := ⟨cn (inR (growL K (j + 1)))⟩) v1.1 v2.1).2 fun x y h => by
  simp only at h ⊢
  rw [inR_cn (fin_inR _)] at h ⊢
  exact growL_mono hK.1 j1 (by omega) h
 refine bd_ok (ref04_Within_ok hF _ _) (br_tt f1 ?_)
 refine bd_ok (ref04_Within_ok hF _ _) (br_tt f2 ?_)
 exact bd_ok (law11_awake_ok hF) rfl
end Go.Ab
end
