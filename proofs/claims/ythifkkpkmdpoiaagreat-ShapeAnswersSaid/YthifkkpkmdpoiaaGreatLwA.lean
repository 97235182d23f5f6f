/- What the plain programs compute, up to the law itself: each lemma states its own bounds. -/
import Derived.Test.YthifkkpkmdpoiaaGreatPuB
set_option linter.unusedVariables false
set_option linter.unusedSimpArgs false
section
namespace Go.Ab
def put : List Int → Int → List Int
 | [], n => [n]
 | a :: l, n => if a < n then a :: put l n else if a = n then a :: l else n :: a :: l
theorem put_at (n : Int) (l : List Int) (i : Nat) (h : i < l.length) (hlt : gl l i < n) : put (l.drop i) n = gl l i :: put (l.drop (i + 1)) n := by
 rw [drop_gl h, put, if_pos hlt]
theorem ref01_Put_ok {F : Nat} (hF : BIG ≤ F) {l : List Int} (hl : l.length ≤ 1048576) (n : Int) : ref01_Put F l n = some (put l n) := by
 unfold BIG at hF
 unfold ref01_Put
 refine loopN_ok (fun z : Int => ∃ i : Nat, z = i ∧ i ≤ l.length ∧ put l n = l.take i ++ put (l.drop i) n) (fun z => l.length - z.toNat) (fun again z hz ih => ?_) ⟨0, rfl, by simp, by simp⟩ (by simp; omega)
 obtain ⟨i, rfl, hi, hp⟩ := hz
 have k2 : (∀ h : i < l.length, n ≤ gl l i) → ref01_Put_k2 F l n (i : Int) = some (put l n) := by
  intro hge
  unfold ref01_Put_k2
  refine br_ok (fun h => ?_) (fun h => ?_)
  ·have h : i < l.length := by simpa using h
   have hge := hge h
   refine gd_ok (by first | omega | exact i64_of (by omega) (by omega) | (simp only [LIM, BIG, List.length_append, List.length_cons, List.length_nil, List.length_map, List.length_take, List.length_drop, List.length_set] at *; omega)) ?_
   unfold ref01_Put_k3
   rw [drop_gl h, put] at hp
   refine br_ok (fun h2 => ?_) (fun h2 => ?_)
   ·have h2 : gl l i = n := by simpa using h2
    rw [hp, if_neg (by omega), if_pos h2, ← drop_gl h, List.take_append_drop]
   ·have h2 : gl l i ≠ n := by simpa using h2
    repeat (refine gd_ok (by first | omega | exact i64_of (by omega) (by omega) | (simp only [LIM, BIG, List.length_append, List.length_cons, List.length_nil, List.length_map, List.length_take, List.length_drop, List.length_set] at *; omega)) ?_)
    rw [hp, if_neg (by omega), if_neg h2, ← drop_gl h]
    simp
  ·have h : ¬ i < l.length := by simpa using h
   unfold ref01_Put_k3
   refine br_ff rfl ?_
   repeat (refine gd_ok (by first | omega | exact i64_of (by omega) (by omega) | (simp only [LIM, BIG, List.length_append, List.length_cons, List.length_nil, List.length_map, List.length_take, List.length_drop, List.length_set] at *; omega)) ?_)
   have : i = l.length := by omega
   subst this
   simp [put] at hp
   simp [hp]
 unfold ref01_Put_b0
 refine br_ok (fun h => ?_) (fun h => ?_)
 ·have h : i < l.length := by simpa using h
  refine gd_ok (by first | omega | exact i64_of (by omega) (by omega) | (simp only [LIM, BIG, List.length_append, List.length_cons, List.length_nil, List.length_map, List.length_take, List.length_drop, List.length_set] at *; omega)) ?_
  unfold ref01_Put_k1
  refine br_ok (fun h2 => ?_) (fun h2 => ?_)
  ·have h2 : gl l i < n := by simpa using h2
   refine gd_ok (by first | omega | exact i64_of (by omega) (by omega) | (simp only [LIM, BIG, List.length_append, List.length_cons, List.length_nil, List.length_map, List.length_take, List.length_drop, List.length_set] at *; omega)) ?_
   refine ih _ ⟨i + 1, by omega, h, ?_⟩ (by omega)
   rw [hp, put_at n l i h h2, take_gl h, List.append_assoc]; rfl
  ·exact k2 fun _ => by simpa using h2
 ·unfold ref01_Put_k1
  exact br_ff rfl (k2 fun h' => absurd h' (by simpa using h))
end Go.Ab
end

section
namespace Go.Ab
def propB (r : Rect) : Bool := decide (0 ≤ r.left_) && (decide (r.left_ < r.right_) && (decide (r.right_ ≤ 16384) && (decide (0 ≤ r.low_) && (decide (r.low_ < r.high_) && decide (r.high_ ≤ 16384)))))
theorem propB_iff (r : Rect) : propB r = true ↔ 0 ≤ r.left_ ∧ r.left_ < r.right_ ∧ r.right_ ≤ 16384 ∧ 0 ≤ r.low_ ∧ r.low_ < r.high_ ∧ r.high_ ≤ 16384 := by simp [propB]
theorem ref04_proper_ok (F : Nat) (r : Rect) : ref04_proper F r = some (propB r) := by
 unfold ref04_proper
 rw [and_br (ref04_proper_k0 F), and_br (ref04_proper_k0 F), and_br (ref04_proper_k0 F), and_br (ref04_proper_k0 F), and_br (ref04_proper_k0 F)]
 rfl
def keepB (a b : Bool) (how : Int) : Bool := if how = 1 then a || b else if how = 2 then a && b else a && !b
theorem ref04_keep_ok (F : Nat) (a b : Bool) (how : Int) : ref04_keep F a b how = some (keepB a b how) := by
 unfold ref04_keep keepB
 rw [br_ite, br_ite]
 by_cases h1 : how = 1
 ·subst h1; cases a <;> cases b <;> rfl
 ·by_cases h2 : how = 2
  ·subst h2; cases a <;> cases b <;> rfl
  ·have e1 : (how == 1) = false := by simpa using h1
   have e2 : (how == 2) = false := by simpa using h2
   rw [e1, e2, if_neg h1, if_neg h2]
   cases a <;> cases b <;> rfl
theorem ref04_inside_ok {F : Nat} (hF : BIG ≤ F) {l : List Rect} (hl : l.length ≤ LIM) (x y : Int) : ref04_inside F l x y = some (inR l x y) := by
 unfold BIG at hF; unfold LIM at hl
 unfold ref04_inside
 refine range_ok (l := l) (fun m => some (inR m x y)) (fun again i hi ha => ?_) (fun again => ?_) (by omega)
 ·unfold ref04_inside_b0
  refine br_tt (lt_dec hi) ?_
  refine gd_ok (by first | omega | exact i64_of (by omega) (by omega) | (simp only [LIM, BIG, List.length_append, List.length_cons, List.length_nil, List.length_map, List.length_take, List.length_drop, List.length_set] at *; omega)) ?_
  rw [and_br (ref04_inside_k1 F i again), and_br (ref04_inside_k1 F i again), and_br (ref04_inside_k1 F i again)]
  unfold ref04_inside_k1
  have e : inR (gl l i :: l.drop (i + 1)) x y = ((gl l i).has x y || inR (l.drop (i + 1)) x y) := rfl
  rw [e]
  have e2 : (decide ((gl l i).left_ ≤ x) && (decide (x < (gl l i).right_) && (decide ((gl l i).low_ ≤ y) && decide (y < (gl l i).high_)))) = (gl l i).has x y := by
   simp only [Rect.has, Bool.and_assoc]
  show br (decide ((gl l i).left_ ≤ x) && (decide (x < (gl l i).right_) && (decide ((gl l i).low_ ≤ y) && decide (y < (gl l i).high_)))) _ _ = _
  rw [e2]
  refine br_ok (fun h => by rw [h]; rfl) (fun h => ?_)
  refine gd_ok (by first | omega | exact i64_of (by omega) (by omega) | (simp only [LIM, BIG, List.length_append, List.length_cons, List.length_nil, List.length_map, List.length_take, List.length_drop, List.length_set] at *; omega)) ?_
  rw [ha, h, Bool.false_or]
 ·unfold ref04_inside_b0
  exact br_ff (not_lt_dec _) rfl
def sameX : List Rect → List Rect → Bool
 | [], [] => true
 | a :: l, b :: m => (a.left_ == b.left_ && a.right_ == b.right_) && sameX l m
 | _, _ => false
theorem sameX_len : ∀ {l m : List Rect}, sameX l m = true → l.length = m.length
 | [], [], _ => rfl
 | [], _ :: _, h => by cases h
 | _ :: _, [], h => by cases h
 | a :: l, b :: m, h => by
  simp only [sameX, Bool.and_eq_true] at h
  simp [sameX_len h.2]
theorem sameX_spec : ∀ (l m : List Rect), l.length = m.length → ∀ i, i ≤ l.length → sameX (l.drop i) (m.drop i) = if h : i < l.length then (((gl l i).left_ == (gl m i).left_ && (gl l i).right_ == (gl m i).right_) && sameX (l.drop (i + 1)) (m.drop (i + 1))) else true := by
 intro l m h i hi
 split
 ·rename_i h2
  rw [drop_gl h2, drop_gl (l := m) (by omega)]; rfl
 ·have : i = l.length := by omega
  rw [List.drop_of_length_le (by omega), List.drop_of_length_le (by omega)]; rfl
theorem ref04_same_ok {F : Nat} (hF : BIG ≤ F) {l m : List Rect} (hl : l.length ≤ LIM) : ref04_same F l m = some (sameX l m) := by
 unfold BIG at hF; unfold LIM at hl
 unfold ref04_same
 refine br_ok (fun h => ?_) (fun h => ?_)
 ·have h : l.length ≠ m.length := by simp at h; omega
  cases hs : sameX l m with
  | false => rfl
  | true => exact absurd (sameX_len hs) h
 ·have h : l.length = m.length := by simp at h; omega
  refine loopN_ok (fun z : Int => ∃ i : Nat, z = i ∧ i ≤ l.length ∧ sameX l m = sameX (l.drop i) (m.drop i)) (fun z => l.length - z.toNat) (fun again z hz ih => ?_) ⟨0, rfl, by simp, by simp⟩ (by simp; omega)
  obtain ⟨i, rfl, hi, he⟩ := hz
  rw [sameX_spec l m h i hi] at he
  unfold ref04_same_b0
  refine br_ok (fun h2 => ?_) (fun h2 => ?_)
  ·have h2 : i < l.length := by simpa using h2
   rw [dif_pos h2] at he
   refine gd_ok (by first | omega | exact i64_of (by omega) (by omega) | (simp only [LIM, BIG, List.length_append, List.length_cons, List.length_nil, List.length_map, List.length_take, List.length_drop, List.length_set] at *; omega)) ?_
   refine gd_ok (by first | omega | exact i64_of (by omega) (by omega) | (simp only [LIM, BIG, List.length_append, List.length_cons, List.length_nil, List.length_map, List.length_take, List.length_drop, List.length_set] at *; omega)) ?_
   have h3 : i < m.length := by omega
   refine br_ok (fun hb => ?_) (fun hb => ?_)
   ·unfold ref04_same_k1
    refine br_tt rfl ?_
    have hb : (gl l i).left_ ≠ (gl m i).left_ := by simpa using hb
    have e : ((gl l i).left_ == (gl m i).left_) = false := by simpa using hb
    rw [he, e]; rfl
   ·repeat (refine gd_ok (by first | omega | exact i64_of (by omega) (by omega) | (simp only [LIM, BIG, List.length_append, List.length_cons, List.length_nil, List.length_map, List.length_take, List.length_drop, List.length_set] at *; omega)) ?_)
    have hb : (gl l i).left_ = (gl m i).left_ := by simpa using hb
    have e : ((gl l i).left_ == (gl m i).left_) = true := by simpa using hb
    rw [e, Bool.true_and] at he
    unfold ref04_same_k1
    refine br_ok (fun hc => ?_) (fun hc => ?_)
    ·have hc : (gl l i).right_ ≠ (gl m i).right_ := by simpa using hc
     have e : ((gl l i).right_ == (gl m i).right_) = false := by simpa using hc
     rw [he, e]; rfl
    ·have hc : (gl l i).right_ = (gl m i).right_ := by simpa using hc
     have e : ((gl l i).right_ == (gl m i).right_) = true := by simpa using hc
     rw [e, Bool.true_and] at he
     refine gd_ok (by first | omega | exact i64_of (by omega) (by omega) | (simp only [LIM, BIG, List.length_append, List.length_cons, List.length_nil, List.length_map, List.length_take, List.length_drop, List.length_set] at *; omega)) ?_
     exact ih _ ⟨i + 1, by omega, h2, he⟩ (by omega)
  ·have h2 : ¬ i < l.length := by simpa using h2
   rw [dif_neg h2] at he
   rw [he]; rfl
end Go.Ab
end

section
namespace Go.Ab
set_option maxRecDepth 20000
theorem mem_put (l : List Int) (n v : Int) : v ∈ put l n ↔ v = n ∨ v ∈ l := by
 induction l with
 | nil => simp [put]
 | cons a l ih =>
  unfold put
  split
  ·rw [List.mem_cons, ih, List.mem_cons]
   constructor
   ·rintro (h | h | h); exact .inr (.inl h); exact .inl h; exact .inr (.inr h)
   ·rintro (h | h | h); exact .inr (.inl h); exact .inl h; exact .inr (.inr h)
  ·split
   ·rename_i h; subst h
    rw [List.mem_cons]
    constructor
    ·intro h; exact .inr h
    ·rintro (h | h); exact .inl h; exact h
   ·rw [List.mem_cons]
theorem asc_put {l : List Int} (h : Asc l) (n : Int) : Asc (put l n) := by
 induction l with
 | nil => exact List.pairwise_singleton _ _
 | cons a l ih =>
  obtain ⟨h1, h2⟩ := List.pairwise_cons.1 h
  unfold put
  split
  ·rename_i hlt
   refine List.pairwise_cons.2 ⟨fun v hv => ?_, ih h2⟩
   rcases (mem_put l n v).1 hv with rfl | hv
   ·exact hlt
   ·exact h1 v hv
  ·split
   ·exact h
   ·refine List.pairwise_cons.2 ⟨fun v hv => ?_, h⟩
    rcases List.mem_cons.1 hv with rfl | hv
    ·omega
    ·have := h1 v hv; omega
theorem len_put (l : List Int) (n : Int) : (put l n).length ≤ l.length + 1 := by
 induction l with
 | nil => simp [put]
 | cons a l ih =>
  unfold put
  split
  ·simp; omega
  ·split <;> simp
def cutX (l : List Rect) (xs : List Int) : List Int := l.foldl (fun xs r => put (put xs r.left_) r.right_) xs
def cutY (l : List Rect) (ys : List Int) : List Int := l.foldl (fun ys r => put (put ys r.low_) r.high_) ys
theorem cut_asc {f g : Rect → Int} (l : List Rect) : ∀ {xs : List Int}, Asc xs → Asc (l.foldl (fun xs r => put (put xs (f r)) (g r)) xs) := by
 induction l with
 | nil => intro xs h; exact h
 | cons r l ih => intro xs h; exact ih (asc_put (asc_put h _) _)
theorem cut_mem {f g : Rect → Int} (l : List Rect) : ∀ (xs : List Int) (v : Int), v ∈ l.foldl (fun xs r => put (put xs (f r)) (g r)) xs ↔ v ∈ xs ∨ ∃ r ∈ l, v = f r ∨ v = g r := by
 induction l with
 | nil => intro xs v; simp
 | cons r l ih =>
  intro xs v
  rw [List.foldl_cons, ih, mem_put, mem_put]
  constructor
  ·rintro ((h | h | h) | ⟨q, hq, h⟩)
   ·exact .inr ⟨r, by simp, .inr h⟩
   ·exact .inr ⟨r, by simp, .inl h⟩
   ·exact .inl h
   ·exact .inr ⟨q, by simp [hq], h⟩
  ·rintro (h | ⟨q, hq, h⟩)
   ·exact .inl (.inr (.inr h))
   ·rcases List.mem_cons.1 hq with rfl | hq
    ·rcases h with h | h
     ·exact .inl (.inr (.inl h))
     ·exact .inl (.inl h)
    ·exact .inr ⟨q, hq, h⟩
theorem cut_len {f g : Rect → Int} (l : List Rect) : ∀ (xs : List Int), (l.foldl (fun xs r => put (put xs (f r)) (g r)) xs).length ≤ xs.length + 2 * l.length := by
 induction l with
 | nil => intro xs; simp
 | cons r l ih =>
  intro xs
  have h1 := ih (put (put xs (f r)) (g r))
  have h2 := len_put (put xs (f r)) (g r)
  have h3 := len_put xs (f r)
  simp only [List.foldl_cons, List.length_cons]
  omega
section
variable {F : Nat}
theorem comb_b1 (hF : BIG ≤ F) {a b l : List Rect} {v : Int} (hv : 0 ≤ v ∧ v ≤ 1) (hl : gl [a, b] v.toNat = l) {ag : (List Int × List Int × Int) → Option (List Rect)} {y : Option (List Rect)} {xs ys : List Int} (hx : xs.length + 2 * l.length ≤ 1000000) (hy : ys.length + 2 * l.length ≤ 1000000)
  (h : ag (cutX l xs, cutY l ys, v + 1) = y) : loopN (fun again (z : List Int × List Int × Int) => ref04_Combine_b1 F a b v ag again z.1 z.2.1 z.2.2) F (xs, ys, 0) = y := by
 have hF' := hF
 unfold BIG at hF
 refine loopN_ok (fun z : List Int × List Int × Int => ∃ j : Nat, z.2.2 = j ∧ j ≤ l.length ∧ cutX (l.drop j) z.1 = cutX l xs ∧ cutY (l.drop j) z.2.1 = cutY l ys ∧ z.1.length + 2 * (l.length - j) ≤ 1000000 ∧ z.2.1.length + 2 * (l.length - j) ≤ 1000000)
  (fun z => l.length - z.2.2.toNat) (fun again z hz ih => ?_) ⟨0, rfl, by omega, by simp, by simp, by simpa using hx, by simpa using hy⟩ (by simp; omega)
 obtain ⟨x1, y1, j1⟩ := z
 obtain ⟨j, hj, hjl, e1, e2, b1, b2⟩ := hz
 simp only at hj e1 e2 b1 b2
 subst hj
 unfold ref04_Combine_b1
 simp only [hl, Int.toNat_natCast]
 refine br_ok (fun hlt => ?_) (fun hlt => ?_)
 ·have hlt : j < l.length := by simpa using hlt
  refine gd_ok (by first | omega | exact i64_of (by omega) (by omega) | (simp only [LIM, BIG, List.length_append, List.length_cons, List.length_nil, List.length_map, List.length_take, List.length_drop, List.length_set] at *; omega)) ?_
  have l1 := len_put x1 (gl l j).left_
  have l2 := len_put (put x1 (gl l j).left_) (gl l j).right_
  have l3 := len_put y1 (gl l j).low_
  have l4 := len_put (put y1 (gl l j).low_) (gl l j).high_
  refine bd_ok (ref01_Put_ok hF' (by omega) _) ?_
  refine bd_ok (ref01_Put_ok hF' (by omega) _) ?_
  refine bd_ok (ref01_Put_ok hF' (by omega) _) ?_
  refine bd_ok (ref01_Put_ok hF' (by omega) _) ?_
  refine gd_ok (by first | omega | exact i64_of (by omega) (by omega) | (simp only [LIM, BIG, List.length_append, List.length_cons, List.length_nil, List.length_map, List.length_take, List.length_drop, List.length_set] at *; omega)) ?_
  refine ih _ ⟨j + 1, rfl, by omega, ?_, ?_, by simp only; omega, by simp only; omega⟩ (by simp only; omega)
  ·rw [← e1, drop_gl hlt]; rfl
  ·rw [← e2, drop_gl hlt]; rfl
 ·have hlt : ¬ j < l.length := by simpa using hlt
  have : j = l.length := by omega
  subst this
  rw [List.drop_length] at e1 e2
  unfold ref04_Combine_k2
  refine gd_ok (by first | omega | exact i64_of (by omega) (by omega) | (simp only [LIM, BIG, List.length_append, List.length_cons, List.length_nil, List.length_map, List.length_take, List.length_drop, List.length_set] at *; omega)) ?_
  have e1 : x1 = cutX l xs := e1
  have e2 : y1 = cutY l ys := e2
  rw [e1, e2]; exact h
theorem flat1_nil (lo hi : Int) : flat1 ⟨lo, hi, []⟩ = [] := rfl
theorem flat1_app (lo hi : Int) (l : List Span) (s : Span) : flat1 ⟨lo, hi, l ++ [s]⟩ = flat1 ⟨lo, hi, l⟩ ++ [⟨s.left_, lo, s.right_, hi⟩] := by simp [flat1]
theorem flat1_len (b : Rn (List Span)) : (flat1 b).length = b.v.length := by simp [flat1]
theorem gl_last {α : Type} [Emb α] (l : List α) (x : α) {n : Nat} (h : n = l.length) : gl (l ++ [x]) n = x := by subst h; simp [gl, List.getD_eq_getElem?_getD]
theorem set_last {α : Type} (l : List α) (x y : α) {n : Nat} (h : n = l.length) : (l ++ [x]).set n y = l ++ [y] := by subst h; simp
theorem comb_k6t (hF : BIG ≤ F) {xs ys : List Int} {i k : Nat} {m : List Rect} {r : Rect} {ag : (Int × List Rect) → Option (List Rect)} {y : Option (List Rect)} (hk : k + 1 < xs.length) (hx : xs.length ≤ 65536) (hm : m.length ≤ 65536)
  (h : ag ((k : Int) + 1, m ++ [⟨r.left_, r.low_, gl xs (k + 1), r.high_⟩]) = y) : ref04_Combine_k6 F xs ys i k (m ++ [r]) ag true = y := by
 unfold BIG at hF
 unfold ref04_Combine_k6
 refine br_tt rfl ?_
 have hl : (m ++ [r]).length = m.length + 1 := by simp
 simp only [hl]
 have e1 : (((m.length + 1 : Nat) : Int) - 1).toNat = m.length := by omega
 have e2 : ((k : Int) + 1).toNat = k + 1 := by omega
 rw [e1, gl_last _ _ rfl, set_last _ _ _ rfl, e2]
 repeat (refine gd_ok (by first | omega | exact i64_of (by omega) (by omega) | (simp only [LIM, BIG, List.length_append, List.length_cons, List.length_nil, List.length_map, List.length_take, List.length_drop, List.length_set] at *; omega)) ?_)
 exact h
theorem comb_k6f (hF : BIG ≤ F) {xs ys : List Int} {i k : Nat} {m : List Rect} {ag : (Int × List Rect) → Option (List Rect)} {y : Option (List Rect)} (hk : k + 1 < xs.length) (hi : i + 1 < ys.length) (hx : xs.length ≤ 65536) (hy : ys.length ≤ 65536) (hm : m.length ≤ 65536)
  (h : ag ((k : Int) + 1, m ++ [⟨gl xs k, gl ys i, gl xs (k + 1), gl ys (i + 1)⟩]) = y) : ref04_Combine_k6 F xs ys i k m ag false = y := by
 unfold BIG at hF
 unfold ref04_Combine_k6
 refine br_ff rfl ?_
 have e2 : ((k : Int) + 1).toNat = k + 1 := by omega
 have e3 : ((i : Int) + 1).toNat = i + 1 := by omega
 rw [e2, e3]
 simp only [Int.toNat_natCast]
 repeat (refine gd_ok (by first | omega | exact i64_of (by omega) (by omega) | (simp only [LIM, BIG, List.length_append, List.length_cons, List.length_nil, List.length_map, List.length_take, List.length_drop, List.length_set] at *; omega)) ?_)
 exact h
theorem comb_b5 (hF : BIG ≤ F) {a b : List Rect} {how : Int} {xs ys : List Int} {i : Nat} (hi : i + 1 < ys.length) (hx : xs.length ≤ 65536) (hy : ys.length ≤ 65536) (ha : a.length ≤ LIM) (hb : b.length ≤ LIM)
  (hst : Step false xs fun x => keepB (inR a x (gl ys i)) (inR b x (gl ys i)) how) {out last : List Rect} {ag : (Int × List Rect × List Rect) → Option (List Rect)} {y : Option (List Rect)}
  (h : ∀ l : List Span, SpOk l → (∀ x, inS l x = keepB (inR a x (gl ys i)) (inR b x (gl ys i)) how) → l.length ≤ 65536 → ref04_Combine_k8 F ys i out last ag (flat1 ⟨gl ys i, gl ys (i + 1), l⟩) = y) :
  loopN (fun again (z : Int × List Rect) => ref04_Combine_b5 F a b how xs ys i out last ag again z.1 z.2) F (0, []) = y := by
 have hF' := hF
 unfold BIG at hF
 refine loopN_ok (fun z : Int × List Rect => ∃ (k : Nat) (l : List Span), z = ((k : Int), flat1 ⟨gl ys i, gl ys (i + 1), l⟩) ∧ l.length ≤ k ∧ (k + 1 ≤ xs.length ∨ k = 0) ∧ (0 < xs.length → Bst false (fun x => keepB (inR a x (gl ys i)) (inR b x (gl ys i)) how) (l.map Span.rn) (gl xs k)))
  (fun z => xs.length - z.1.toNat) (fun again z hz ih => ?_) ⟨0, [], rfl, Nat.le_refl _, .inr rfl, fun h0 => hst.start h0⟩ (by simp; omega)
 obtain ⟨k, l, rfl, hl, hk, hB⟩ := hz
 simp only at ih ⊢
 unfold ref04_Combine_b5
 refine gd_ok (by first | omega | exact i64_of (by omega) (by omega) | (simp only [LIM, BIG, List.length_append, List.length_cons, List.length_nil, List.length_map, List.length_take, List.length_drop, List.length_set] at *; omega)) ?_
 refine br_ok (fun hlt => ?_) (fun hlt => ?_)
 ·have hlt : k + 1 < xs.length := by simp at hlt; omega
  have hB := hB (by omega)
  have hxk := hst.asc.at_lt (show k < k + 1 by omega) hlt
  simp only [Int.toNat_natCast]
  repeat (refine gd_ok (by first | omega | exact i64_of (by omega) (by omega) | (simp only [LIM, BIG, List.length_append, List.length_cons, List.length_nil, List.length_map, List.length_take, List.length_drop, List.length_set] at *; omega)) ?_)
  refine bd_ok (ref04_inside_ok hF' ha _ _) ?_
  repeat (refine gd_ok (by first | omega | exact i64_of (by omega) (by omega) | (simp only [LIM, BIG, List.length_append, List.length_cons, List.length_nil, List.length_map, List.length_take, List.length_drop, List.length_set] at *; omega)) ?_)
  refine bd_ok (ref04_inside_ok hF' hb _ _) ?_
  refine bd_ok (ref04_keep_ok _ _ _ _) ?_
  have hgap := hst.gap k hlt
  refine br_ok (fun hf => ?_) (fun hf => ?_)
  ·have hf : keepB (inR a (gl xs k) (gl ys i)) (inR b (gl xs k) (gl ys i)) how = false := by simpa using hf
   unfold ref04_Combine_k7
   refine gd_ok (by first | omega | exact i64_of (by omega) (by omega) | (simp only [LIM, BIG, List.length_append, List.length_cons, List.length_nil, List.length_map, List.length_take, List.length_drop, List.length_set] at *; omega)) ?_
   exact ih _ ⟨k + 1, l, rfl, by omega, .inl (by omega), fun _ => hB.skip (by omega) fun t h1 h2 => (hgap t h1 h2).trans hf⟩ (by simp only; omega)
  ·have hf : keepB (inR a (gl xs k) (gl ys i)) (inR b (gl xs k) (gl ys i)) how = true := by simpa using hf
   have hadd : (∀ s, l.getLast? = some s → s.right_ ≠ gl xs k) → ref04_Combine_k6 F xs ys i k (flat1 ⟨gl ys i, gl ys (i + 1), l⟩) again false = y := by
    intro hla
    refine comb_k6f hF' hlt hi hx hy (by rw [flat1_len]; simp only; omega) (ih _ ⟨k + 1, l ++ [⟨gl xs k, gl xs (k + 1)⟩], by rw [flat1_app]; rfl, by simp; omega, .inl (by omega), fun _ => ?_⟩ (by simp only; omega))
    have := hB.add hxk hgap (fun q hq he => by
     rw [List.getLast?_map] at hq
     cases hs : l.getLast? with
     | none => rw [hs] at hq; cases hq
     | some s => rw [hs] at hq; cases hq; exact absurd he (hla s hs))
    simp only [hf] at this
    rw [List.map_append]; exact this
   rcases List.eq_nil_or_concat l with rfl | ⟨l', s, hls⟩
   ·refine br_ff (by simp [flat1_nil]) ?_
    exact hadd fun s hs => by simp at hs
   ·rw [List.concat_eq_append] at hls
    subst hls
    rw [flat1_app] at hadd ⊢
    have hlen : (flat1 ⟨gl ys i, gl ys (i + 1), l'⟩ ++ [(⟨s.left_, gl ys i, s.right_, gl ys (i + 1)⟩ : Rect)]).length = l'.length + 1 := by simp [flat1_len]
    have hll : l'.length + 1 ≤ k := by simpa using hl
    simp only [hlen]
    have e1 : (((l'.length + 1 : Nat) : Int) - 1).toNat = l'.length := by omega
    rw [e1, gl_last _ _ (by rw [flat1_len])]
    refine br_tt (by simp) ?_
    repeat (refine gd_ok (by first | omega | exact i64_of (by omega) (by omega) | (simp only [LIM, BIG, List.length_append, List.length_cons, List.length_nil, List.length_map, List.length_take, List.length_drop, List.length_set] at *; omega)) ?_)
    by_cases hs : s.right_ = gl xs k
    ·have e2 : (s.right_ == gl xs k) = true := by simpa using hs
     simp only [e2]
     refine comb_k6t hF' hlt hx (by rw [flat1_len]; simp only; omega) (ih _ ⟨k + 1, l' ++ [⟨s.left_, gl xs (k + 1)⟩], by rw [flat1_app]; rfl, by simp only [List.length_append, List.length_cons, List.length_nil]; omega, .inl (by omega), fun _ => ?_⟩ (by simp only; omega))
     rw [List.map_append] at hB
     have := hB.grow (a := s.rn) hs hxk fun t h1 h2 => (hgap t h1 h2).trans hf
     rw [List.map_append]; exact this
    ·have e2 : (s.right_ == gl xs k) = false := by simpa using hs
     simp only [e2]
     exact hadd fun q hq => by simp at hq; subst hq; exact hs
 ·have hlt : ¬ k + 1 < xs.length := by simp at hlt; omega
  by_cases h0 : xs.length = 0
  ·have : k = 0 := by omega
   subst this
   have : l = [] := List.eq_nil_of_length_eq_zero (by omega)
   subst this
   exact h [] .nil (fun x => (hst.empty h0 x).symm) (by simp)
  ·have hB := hB (by omega)
   exact h l (.of_runs hB.runs) (fun x => by rw [inS_atR]; exact hst.done (by omega) hB x) (by omega)
theorem gl_mid {α : Type} [Emb α] (l m : List α) (x : α) {n : Nat} (h : n = l.length) : gl (l ++ x :: m) n = x := by subst h; simp [gl, List.getD_eq_getElem?_getD]
theorem set_mid {α : Type} (l m : List α) (x y : α) {n : Nat} (h : n = l.length) : (l ++ x :: m).set n y = l ++ y :: m := by subst h; simp
theorem comb_b10 (hF : BIG ≤ F) {ys : List Int} {i : Nat} (hi : i + 1 < ys.length) (hy : ys.length ≤ 65536) {out : List Rect} {lo hi' : Int} {l : List Span} (hl : l.length ≤ 65536) {ag : (Int × List Rect × List Rect) → Option (List Rect)} {y : Option (List Rect)}
  (h : ag ((i : Int) + 1, out, flat1 ⟨lo, gl ys (i + 1), l⟩) = y) :
  loopN (fun again (z : Int × List Rect) => ref04_Combine_b10 F ys i out (flat1 ⟨lo, hi', l⟩) ag again z.1 z.2) F (0, flat1 ⟨lo, hi', l⟩) = y := by
 unfold BIG at hF
 refine loopN_ok (fun z : Int × List Rect => ∃ j : Nat, z = ((j : Int), flat1 ⟨lo, gl ys (i + 1), l.take j⟩ ++ flat1 ⟨lo, hi', l.drop j⟩) ∧ j ≤ l.length) (fun z => l.length - z.1.toNat) (fun again z hz ih => ?_) ⟨0, by simp [flat1], by omega⟩ (by simp; omega)
 obtain ⟨j, rfl, hj⟩ := hz
 simp only at ih ⊢
 have e2 : ((i : Int) + 1).toNat = i + 1 := by omega
 unfold ref04_Combine_b10
 rw [flat1_len]
 simp only
 refine br_ok (fun hlt => ?_) (fun hlt => ?_)
 ·have hlt : j < l.length := by simpa using hlt
  refine gd_ok (by first | omega | exact i64_of (by omega) (by omega) | (simp only [LIM, BIG, List.length_append, List.length_cons, List.length_nil, List.length_map, List.length_take, List.length_drop, List.length_set] at *; omega)) ?_
  refine gd_ok (by first | omega | exact i64_of (by omega) (by omega) | (simp only [LIM, BIG, List.length_append, List.length_cons, List.length_nil, List.length_map, List.length_take, List.length_drop, List.length_set] at *; omega)) ?_
  have hd : l.drop j = l[j] :: l.drop (j + 1) := List.drop_eq_getElem_cons hlt
  have hlen : (flat1 ⟨lo, gl ys (i + 1), l.take j⟩ ++ flat1 ⟨lo, hi', l.drop j⟩).length = l.length := by
   rw [List.length_append, flat1_len, flat1_len]; simp; omega
  refine gd_ok (by rw [hlen]; omega) ?_
  refine gd_ok (by first | omega | exact i64_of (by omega) (by omega) | (simp only [LIM, BIG, List.length_append, List.length_cons, List.length_nil, List.length_map, List.length_take, List.length_drop, List.length_set] at *; omega)) ?_
  rw [e2]
  simp only [Int.toNat_natCast]
  have e3 : flat1 ⟨lo, hi', l.drop j⟩ = (⟨(l[j]).left_, lo, (l[j]).right_, hi'⟩ : Rect) :: flat1 ⟨lo, hi', l.drop (j + 1)⟩ := by rw [hd]; rfl
  have e4 : j = (flat1 ⟨lo, gl ys (i + 1), l.take j⟩).length := by rw [flat1_len]; simp; omega
  rw [e3, gl_mid _ _ _ e4, set_mid _ _ _ _ e4]
  refine ih _ ⟨j + 1, ?_, hlt⟩ (by simp only; omega)
  rw [List.take_succ_eq_append_getElem hlt, flat1_app]
  simp
 ·have hlt : ¬ j < l.length := by simpa using hlt
  have : j = l.length := by omega
  subst this
  unfold ref04_Combine_k11 ref04_Combine_k13
  refine gd_ok (by first | omega | exact i64_of (by omega) (by omega) | (simp only [LIM, BIG, List.length_append, List.length_cons, List.length_nil, List.length_map, List.length_take, List.length_drop, List.length_set] at *; omega)) ?_
  rw [List.take_length, List.drop_length, flat1_nil, List.append_nil]
  exact h
structure RowSt (rowf : Int → List Span) (c : Int) (n : Nat) (out last : List Rect) : Prop where
 ex : ∃ acc, Bst [] rowf acc c ∧ (∀ r ∈ acc, r.v ≠ []) ∧ ((last = [] ∧ out = flat acc ∧ ∀ r ∈ acc, r.hi < c) ∨ ∃ acc' b, acc = acc' ++ [b] ∧ b.hi = c ∧ last = flat1 b ∧ out = flat acc' ∧ b.v.length ≤ 65536)
 len : out.length + last.length ≤ n * 65536
theorem flat_app (a b : List (Rn (List Span))) : flat (a ++ b) = flat a ++ flat b := by simp [flat]
theorem flat_one (b : Rn (List Span)) : flat [b] = flat1 b := by simp [flat]
theorem sameX_flat1 (lo hi lo' hi' : Int) : ∀ (l m : List Span), sameX (flat1 ⟨lo, hi, l⟩) (flat1 ⟨lo', hi', m⟩) = decide (l = m)
 | [], [] => rfl
 | [], b :: m => rfl
 | a :: l, [] => rfl
 | a :: l, b :: m => by
  have ih := sameX_flat1 lo hi lo' hi' l m
  have e1 : flat1 ⟨lo, hi, a :: l⟩ = (⟨a.left_, lo, a.right_, hi⟩ : Rect) :: flat1 ⟨lo, hi, l⟩ := rfl
  have e2 : flat1 ⟨lo', hi', b :: m⟩ = (⟨b.left_, lo', b.right_, hi'⟩ : Rect) :: flat1 ⟨lo', hi', m⟩ := rfl
  rw [e1, e2, sameX, ih]
  cases a; cases b
  rw [Bool.eq_iff_iff]
  constructor
  ·intro h
   rw [Bool.and_eq_true, Bool.and_eq_true] at h
   obtain ⟨⟨h1, h2⟩, h3⟩ := h
   have h1 := eq_of_beq h1
   have h2 := eq_of_beq h2
   have h3 := of_decide_eq_true h3
   simp only at h1 h2
   rw [h1, h2, h3]; exact decide_eq_true rfl
  ·intro h
   have h := of_decide_eq_true h
   injection h with h1 h2
   injection h1 with h3 h4
   subst h2; subst h3; subst h4
   rw [Bool.and_eq_true, Bool.and_eq_true]
   exact ⟨⟨beq_self_eq_true _, beq_self_eq_true _⟩, decide_eq_true rfl⟩
theorem comb_k8 (hF : BIG ≤ F) {ys : List Int} {i : Nat} (hi : i + 1 < ys.length) (hy : ys.length ≤ 65536) {rowf : Int → List Span} (hst : Step [] ys rowf) {out last : List Rect} (hR : RowSt rowf (gl ys i) i out last)
  {ag : (Int × List Rect × List Rect) → Option (List Rect)} {y : Option (List Rect)} (hlen : (rowf (gl ys i)).length ≤ 65536)
  (h : ∀ out' last', RowSt rowf (gl ys (i + 1)) (i + 1) out' last' → ag ((i : Int) + 1, out', last') = y) :
  ref04_Combine_k8 F ys i out last ag (flat1 ⟨gl ys i, gl ys (i + 1), rowf (gl ys i)⟩) = y := by
 have hF' := hF
 unfold BIG at hF
 obtain ⟨⟨acc, hB, hne, hcase⟩, hol⟩ := hR
 have hyk := hst.asc.at_lt (show i < i + 1 by omega) hi
 have hgap := hst.gap i hi
 have hi64 : i * 65536 ≤ 65536 * 65536 := Nat.mul_le_mul_right _ (by omega)
 generalize hv : rowf (gl ys i) = v at *
 have push : (∀ a, acc.getLast? = some a → a.hi = gl ys i → a.v ≠ v) → flat acc = out ++ last → ref04_Combine_k12 F i out last (flat1 ⟨gl ys i, gl ys (i + 1), v⟩) ag = y := by
  intro hla hfl
  unfold ref04_Combine_k12 ref04_Combine_k13
  refine gd_ok (by first | omega | exact i64_of (by omega) (by omega) | (simp only [LIM, BIG, List.length_append, List.length_cons, List.length_nil, List.length_map, List.length_take, List.length_drop, List.length_set] at *; omega)) ?_
  refine gd_ok (by first | omega | exact i64_of (by omega) (by omega) | (simp only [LIM, BIG, List.length_append, List.length_cons, List.length_nil, List.length_map, List.length_take, List.length_drop, List.length_set] at *; omega)) ?_
  refine h _ _ ⟨?_, ?_⟩
  ·by_cases hv0 : v = []
   ·subst hv0
    exact ⟨acc, hB.skip (by omega) fun t h1 h2 => hgap t h1 h2, hne, .inl ⟨flat1_nil _ _, hfl.symm, fun r hr => by have := hB.le r hr; omega⟩⟩
   ·refine ⟨acc ++ [⟨gl ys i, gl ys (i + 1), v⟩], ?_, fun r hr => ?_, .inr ⟨acc, _, rfl, rfl, rfl, hfl.symm, hlen⟩⟩
    ·have := hB.add hyk (fun t h1 h2 => (hgap t h1 h2).trans hv.symm) (fun a ha he => by rw [hv]; exact hla a ha he)
     rw [hv] at this; exact this
    ·rcases List.mem_append.1 hr with hr | hr
     ·exact hne r hr
     ·rw [List.mem_singleton.1 hr]; exact hv0
  ·rw [List.length_append, flat1_len, Nat.add_mul]; simp only; omega
 unfold ref04_Combine_k8
 rcases hcase with ⟨rfl, rfl, hhi⟩ | ⟨acc', b, rfl, hbh, rfl, rfl, hbl⟩
 ·refine br_ff rfl ?_
  unfold ref04_Combine_k9
  refine br_ff rfl ?_
  exact push (fun a ha he => by have := hhi a (List.mem_of_getLast? ha); omega) (by simp)
 ·have hb0 : b.v ≠ [] := hne b (by simp)
  have hb1 : 0 < b.v.length := by
   cases hh : b.v with
   | nil => exact absurd hh hb0
   | cons _ _ => simp
  have e1 : flat1 b = flat1 ⟨b.lo, b.hi, b.v⟩ := rfl
  refine br_tt (by rw [flat1_len]; simpa using hb1) ?_
  refine bd_ok (ref04_same_ok hF' (by rw [flat1_len]; unfold LIM; omega)) ?_
  rw [e1, sameX_flat1]
  refine br_ok (fun hs => ?_) (fun hs => ?_)
  ·have hs : b.v = v := of_decide_eq_true hs
   refine gd_ok (by rw [flat1_len]; simp only; omega) ?_
   refine gd_ok (by first | omega | exact i64_of (by omega) (by omega) | (simp only [LIM, BIG, List.length_append, List.length_cons, List.length_nil, List.length_map, List.length_take, List.length_drop, List.length_set] at *; omega)) ?_
   have e2 : ((gl (flat1 ⟨b.lo, b.hi, b.v⟩) (0 : Int).toNat).high_ == gl ys (i : Int).toNat) = true := by
    have : gl (flat1 ⟨b.lo, b.hi, b.v⟩) (0 : Int).toNat = (⟨(b.v[0]).left_, b.lo, (b.v[0]).right_, b.hi⟩ : Rect) := by
     have : 0 < (flat1 ⟨b.lo, b.hi, b.v⟩).length := by rw [flat1_len]; exact hb1
     show gl (flat1 ⟨b.lo, b.hi, b.v⟩) 0 = _
     rw [gl_lt this]; simp [flat1]
    rw [this]; simpa using hbh
   rw [e2]
   unfold ref04_Combine_k9
   refine br_tt rfl ?_
   refine comb_b10 hF' hi hy hbl ?_
   have hg := hB.grow hbh hyk fun t h1 h2 => (hgap t h1 h2).trans hs.symm
   refine h _ _ ⟨⟨acc' ++ [⟨b.lo, gl ys (i + 1), b.v⟩], hg, fun r hr => ?_, .inr ⟨acc', _, rfl, rfl, rfl, rfl, hbl⟩⟩, ?_⟩
   ·rcases List.mem_append.1 hr with hr | hr
    ·exact hne r (by simp [hr])
    ·rw [List.mem_singleton.1 hr]; exact hb0
   ·rw [flat1_len] at hol ⊢; rw [Nat.add_mul]; exact Nat.le_trans hol (Nat.le_add_right _ _)
  ·have hs : b.v ≠ v := of_decide_eq_false hs
   unfold ref04_Combine_k9
   refine br_ff rfl ?_
   exact push (fun a ha he => by rw [List.getLast?_append] at ha; simp at ha; subst ha; exact hs) (by rw [flat_app, flat_one])
theorem comb_k3 (hF : BIG ≤ F) {a b : List Rect} {how : Int} {xs ys : List Int} (hx : xs.length ≤ 65536) (hy : ys.length ≤ 65536) (ha : a.length ≤ LIM) (hb : b.length ≤ LIM)
  (hG : Grid xs ys fun x y => keepB (inR a x y) (inR b x y) how) : ref04_Combine_k3 F a b how xs ys = some (cn fun x y => keepB (inR a x y) (inR b x y) how) := by
 have hF' := hF
 unfold BIG at hF
 unfold ref04_Combine_k3
 have hst := hG.step
 have hrows := hG.rows
 refine loopN_ok (fun z : Int × List Rect × List Rect => ∃ (i : Nat), z.1 = (i : Int) ∧ ((ys.length = 0 ∧ i = 0 ∧ z.2.1 = [] ∧ z.2.2 = []) ∨ (i + 1 ≤ ys.length ∧ RowSt (fun y => spn fun x => keepB (inR a x y) (inR b x y) how) (gl ys i) i z.2.1 z.2.2)))
  (fun z => ys.length - z.1.toNat) (fun again z hz ih => ?_) ⟨0, rfl, ?_⟩ (by simp; omega)
 ·obtain ⟨z1, out, last⟩ := z
  obtain ⟨i, hi, hcase⟩ := hz
  simp only at hi hcase ih ⊢
  subst hi
  unfold ref04_Combine_b4
  refine gd_ok (by first | omega | exact i64_of (by omega) (by omega) | (simp only [LIM, BIG, List.length_append, List.length_cons, List.length_nil, List.length_map, List.length_take, List.length_drop, List.length_set] at *; omega)) ?_
  rcases hcase with ⟨h0, rfl, rfl, rfl⟩ | ⟨hi, hR⟩
  ·refine br_ff (by simp [h0]) ?_
   unfold ref04_Combine_k14
   refine gd_ok (by first | omega | exact i64_of (by omega) (by omega) | (simp only [LIM, BIG, List.length_append, List.length_cons, List.length_nil, List.length_map, List.length_take, List.length_drop, List.length_set] at *; omega)) ?_
   have := Step.cn hrows hst .nil (fun t => (hst.empty h0 t).symm) (fun b hb => by cases hb)
   rw [this.1]; rfl
  ·refine br_ok (fun hlt => ?_) (fun hlt => ?_)
   ·have hlt : i + 1 < ys.length := by simp at hlt; omega
    refine comb_b5 hF' hlt hx hy ha hb (hG.x _) fun l hl hf hll => ?_
    have e1 : spn (fun x => keepB (inR a x (gl ys i)) (inR b x (gl ys i)) how) = l := spn_eq hl hf
    have := comb_k8 hF' hlt hy hst hR (ag := again) (y := some (cn fun x y => keepB (inR a x y) (inR b x y) how)) (by rw [e1]; exact hll) fun out' last' hR' => ih _ ⟨i + 1, rfl, .inr ⟨by omega, hR'⟩⟩ (by simp only; omega)
    rw [e1] at this
    exact this
   ·have hlt : ¬ i + 1 < ys.length := by simp at hlt; omega
    unfold ref04_Combine_k14
    obtain ⟨⟨acc, hB, hne, hc⟩, hlen⟩ := hR
    have hi64 : i * 65536 ≤ 65536 * 65536 := Nat.mul_le_mul_right _ (by omega)
    refine gd_ok (by first | omega | exact i64_of (by omega) (by omega) | (simp only [LIM, BIG, List.length_append, List.length_cons, List.length_nil, List.length_map, List.length_take, List.length_drop, List.length_set] at *; omega)) ?_
    have := Step.cn hrows hst hB.runs (fun t => hst.done (by omega) hB t) hne
    rw [this.1]
    rcases hc with ⟨rfl, rfl, _⟩ | ⟨acc', b', rfl, _, rfl, rfl, _⟩
    ·simp
    ·rw [flat_app, flat_one]
 ·by_cases h0 : ys.length = 0
  ·exact .inl ⟨h0, rfl, rfl, rfl⟩
  ·exact .inr ⟨by omega, ⟨⟨[], hst.start (by omega), fun r hr => (by cases hr), .inl ⟨rfl, rfl, fun r hr => (by cases hr)⟩⟩, by simp⟩⟩
theorem cut_grid (a b : List Rect) (how : Int) : Grid (cutX b (cutX a [])) (cutY b (cutY a [])) fun x y => keepB (inR a x y) (inR b x y) how :=
 Grid.of (cut_asc b (cut_asc a .nil)) (cut_asc b (cut_asc a .nil))
  (fun r hr => ⟨(cut_mem b _ _).2 (.inl ((cut_mem a _ _).2 (.inr ⟨r, hr, .inl rfl⟩))), (cut_mem b _ _).2 (.inl ((cut_mem a _ _).2 (.inr ⟨r, hr, .inr rfl⟩)))⟩)
  (fun r hr => ⟨(cut_mem b _ _).2 (.inr ⟨r, hr, .inl rfl⟩), (cut_mem b _ _).2 (.inr ⟨r, hr, .inr rfl⟩)⟩)
  (fun r hr => ⟨(cut_mem b _ _).2 (.inl ((cut_mem a _ _).2 (.inr ⟨r, hr, .inl rfl⟩))), (cut_mem b _ _).2 (.inl ((cut_mem a _ _).2 (.inr ⟨r, hr, .inr rfl⟩)))⟩)
  (fun r hr => ⟨(cut_mem b _ _).2 (.inr ⟨r, hr, .inl rfl⟩), (cut_mem b _ _).2 (.inr ⟨r, hr, .inr rfl⟩)⟩)
  (k := fun p q => keepB p q how) (by show keepB false false how = false; unfold keepB; split; rfl; split <;> rfl)
theorem ref04_Combine_ok (hF : BIG ≤ F) {a b : List Rect} {how : Int} (ha : a.length ≤ 200000) (hb : b.length ≤ 200000) (hx : (cutX b (cutX a [])).length ≤ 65536) (hy : (cutY b (cutY a [])).length ≤ 65536) :
  ref04_Combine F a b how = some (cn fun x y => keepB (inR a x y) (inR b x y) how) := by
 have hF' := hF
 unfold BIG at hF
 have hG := cut_grid a b how
 have k3 := comb_k3 hF' hx hy (by unfold LIM; omega) (by unfold LIM; omega) hG
 have la := cut_len (f := Rect.left_) (g := Rect.right_) a []
 have lb := cut_len (f := Rect.low_) (g := Rect.high_) a []
 have s2 : ∀ again : (List Int × List Int × Int) → Option (List Rect), ref04_Combine_b0 F a b how again (cutX b (cutX a [])) (cutY b (cutY a [])) 2 = some (cn fun x y => keepB (inR a x y) (inR b x y) how) := fun again => by
  unfold ref04_Combine_b0
  exact br_ff rfl k3
 have lX : (cutX a []).length ≤ 2 * a.length := by have := la; simpa [cutX] using this
 have lY : (cutY a []).length ≤ 2 * a.length := by have := lb; simpa [cutY] using this
 unfold ref04_Combine
 refine loopN_ok (fun z : List Int × List Int × Int => z = ([], [], 0) ∨ z = (cutX a [], cutY a [], 1) ∨ z = (cutX b (cutX a []), cutY b (cutY a []), 2)) (fun z => 2 - z.2.2.toNat) (fun again z hz ih => ?_) (.inl rfl) (by simp; omega)
 rcases hz with rfl | rfl | rfl
 ·simp only
  unfold ref04_Combine_b0
  refine br_tt rfl ?_
  refine gd_ok (by first | omega | exact i64_of (by omega) (by omega) | (simp only [LIM, BIG, List.length_append, List.length_cons, List.length_nil, List.length_map, List.length_take, List.length_drop, List.length_set] at *; omega)) ?_
  refine comb_b1 hF' (l := a) (by omega) rfl (by simp; omega) (by simp; omega) ?_
  exact ih _ (.inr (.inl rfl)) (by simp)
 ·simp only
  unfold ref04_Combine_b0
  refine br_tt rfl ?_
  refine gd_ok (by first | omega | exact i64_of (by omega) (by omega) | (simp only [LIM, BIG, List.length_append, List.length_cons, List.length_nil, List.length_map, List.length_take, List.length_drop, List.length_set] at *; omega)) ?_
  refine comb_b1 hF' (l := b) (by omega) rfl (xs := cutX a []) (ys := cutY a []) (by omega) (by omega) ?_
  exact ih _ (.inr (.inr rfl)) (by simp)
 ·exact s2 again
end
end Go.Ab
end

section
namespace Go.Ab
set_option maxRecDepth 20000
theorem grid_fin {xs ys : List Int} {S : Int → Int → Bool} (h : Grid xs ys S) : Fin S := by
 have hst := h.step
 by_cases h0 : ys.length = 0
 ·exact (Step.cn h.rows hst .nil (fun t => (hst.empty h0 t).symm) (fun b hb => by cases hb)).2
 ·have key : ∀ i, i + 1 ≤ ys.length → ∃ acc, Bst [] (fun y => spn fun x => S x y) acc (gl ys i) ∧ ∀ r ∈ acc, r.v ≠ [] := by
   intro i
   induction i with
   | zero => intro _; exact ⟨[], hst.start (by omega), fun r hr => by cases hr⟩
   | succ i ih =>
    intro hi
    obtain ⟨acc, hB, hne⟩ := ih (by omega)
    have hlt := hst.asc.at_lt (show i < i + 1 by omega) (by omega)
    have hgap := hst.gap i (by omega)
    by_cases hv : spn (fun x => S x (gl ys i)) = []
    ·exact ⟨acc, hB.skip (by omega) fun t h1 h2 => (hgap t h1 h2).trans hv, hne⟩
    ·rcases List.eq_nil_or_concat acc with rfl | ⟨acc', b, hacc⟩
     ·refine ⟨_, hB.add hlt hgap (fun a ha => by simp at ha), fun r hr => ?_⟩
      simp at hr; rw [hr]; exact hv
     ·rw [List.concat_eq_append] at hacc
      subst hacc
      by_cases hm : b.hi = gl ys i ∧ b.v = spn fun x => S x (gl ys i)
      ·refine ⟨_, hB.grow hm.1 hlt fun t h1 h2 => (hgap t h1 h2).trans hm.2.symm, fun r hr => ?_⟩
       rcases List.mem_append.1 hr with hr | hr
       ·exact hne r (by simp [hr])
       ·rw [List.mem_singleton.1 hr]; exact hne b (by simp)
      ·refine ⟨_, hB.add hlt hgap (fun a ha he hav => ?_), fun r hr => ?_⟩
       ·simp at ha; subst ha; exact hm ⟨he, hav⟩
       ·rcases List.mem_append.1 hr with hr | hr
        ·exact hne r hr
        ·rw [List.mem_singleton.1 hr]; exact hv
  obtain ⟨acc, hB, hne⟩ := key (ys.length - 1) (by omega)
  exact (Step.cn h.rows hst hB.runs (fun t => hst.done (by omega) hB t) hne).2
theorem fin_comb (a b : List Rect) (how : Int) : Fin fun x y => keepB (inR a x y) (inR b x y) how := grid_fin (cut_grid a b how)
theorem or_nil (l : List Rect) : (fun x y => keepB (inR l x y) (inR [] x y) 1) = inR l := by
 funext x y; simp [keepB, inR]
theorem fin_inR (l : List Rect) : Fin (inR l) := by have := fin_comb l [] 1; rwa [or_nil] at this
theorem canon_iff (l : List Rect) : Canon l ↔ cn (inR l) = l := ⟨fun h => h.eq_cn.symm, fun h => by rw [← h]; exact Canon.cn (fin_inR l)⟩
theorem cutX_small {l : List Rect} : (cutX l []).length ≤ 2 * l.length := by have := cut_len (f := Rect.left_) (g := Rect.right_) l []; simpa [cutX] using this
theorem cutY_small {l : List Rect} : (cutY l []).length ≤ 2 * l.length := by have := cut_len (f := Rect.low_) (g := Rect.high_) l []; simpa [cutY] using this
theorem cutX_small2 {a b : List Rect} : (cutX b (cutX a [])).length ≤ 2 * a.length + 2 * b.length := by
 have h1 := cut_len (f := Rect.left_) (g := Rect.right_) b (cutX a [])
 have h2 := cutX_small (l := a)
 have h1 : (cutX b (cutX a [])).length ≤ (cutX a []).length + 2 * b.length := h1
 omega
theorem cutY_small2 {a b : List Rect} : (cutY b (cutY a [])).length ≤ 2 * a.length + 2 * b.length := by
 have h1 := cut_len (f := Rect.low_) (g := Rect.high_) b (cutY a [])
 have h2 := cutY_small (l := a)
 have h1 : (cutY b (cutY a [])).length ≤ (cutY a []).length + 2 * b.length := h1
 omega
theorem ref04_Combine_small {F : Nat} (hF : BIG ≤ F) {a b : List Rect} {how : Int} (h : a.length + b.length ≤ 32768) : ref04_Combine F a b how = some (cn fun x y => keepB (inR a x y) (inR b x y) how) :=
 ref04_Combine_ok hF (by omega) (by omega) (by have := cutX_small2 (a := a) (b := b); omega) (by have := cutY_small2 (a := a) (b := b); omega)
theorem ref04_Combine_one {F : Nat} (hF : BIG ≤ F) {l : List Rect} (h : l.length ≤ 32768) : ref04_Combine F l [] 1 = some (cn (inR l)) := by
 rw [ref04_Combine_small hF (by simpa using h), or_nil]
theorem list_eq_spec {α : Type} [Emb α] [DecidableEq α] (l m : List α) (h : l.length = m.length) (i : Nat) (hi : i < l.length) : decide (l.drop i = m.drop i) = (decide (gl l i = gl m i) && decide (l.drop (i + 1) = m.drop (i + 1))) := by
 rw [drop_gl hi, drop_gl (l := m) (by omega)]
 rw [Bool.eq_iff_iff, Bool.and_eq_true, decide_eq_true_iff, decide_eq_true_iff, decide_eq_true_iff, List.cons.injEq]
theorem rect_eq (r s : Rect) : ((r.left_ == s.left_) && ((r.low_ == s.low_) && ((r.right_ == s.right_) && ((r.high_ == s.high_) && true)))) = decide (r = s) := by
 cases r; cases s
 rw [Bool.eq_iff_iff, decide_eq_true_iff]
 simp
theorem ref04_Rects_ok {F : Nat} (hF : BIG ≤ F) {l m : List Rect} (hm : m.length ≤ LIM) : ref04_Rects F l m = some (decide (l = m)) := by
 unfold BIG at hF; unfold LIM at hm
 unfold ref04_Rects
 refine br_ok (fun h => ?_) (fun h => ?_)
 ·have h : l.length ≠ m.length := by simp at h; omega
  rw [decide_eq_false fun e => h (by rw [e])]
 ·have h : l.length = m.length := by simp at h; omega
  refine loopN_ok (fun z : Int => ∃ i : Nat, z = i ∧ i ≤ l.length ∧ decide (l = m) = decide (l.drop i = m.drop i)) (fun z => l.length - z.toNat) (fun again z hz ih => ?_) ⟨0, rfl, by omega, by simp⟩ (by simp; omega)
  obtain ⟨i, rfl, hi, he⟩ := hz
  unfold ref04_Rects_b0
  refine br_ok (fun h2 => ?_) (fun h2 => ?_)
  ·have h2 : i < l.length := by simpa using h2
   rw [list_eq_spec l m h i h2] at he
   refine gd_ok (by first | omega | exact i64_of (by omega) (by omega) | (simp only [LIM, BIG, List.length_append, List.length_cons, List.length_nil, List.length_map, List.length_take, List.length_drop, List.length_set] at *; omega)) ?_
   refine gd_ok (by first | omega | exact i64_of (by omega) (by omega) | (simp only [LIM, BIG, List.length_append, List.length_cons, List.length_nil, List.length_map, List.length_take, List.length_drop, List.length_set] at *; omega)) ?_
   rw [rect_eq]
   refine br_ok (fun hb => ?_) (fun hb => ?_)
   ·have hb : decide (gl l i = gl m i) = false := by simpa using hb
    rw [he, hb]; rfl
   ·have hb : decide (gl l i = gl m i) = true := by simpa using hb
    rw [hb, Bool.true_and] at he
    refine gd_ok (by first | omega | exact i64_of (by omega) (by omega) | (simp only [LIM, BIG, List.length_append, List.length_cons, List.length_nil, List.length_map, List.length_take, List.length_drop, List.length_set] at *; omega)) ?_
    exact ih _ ⟨i + 1, by omega, h2, he⟩ (by omega)
  ·have h2 : ¬ i < l.length := by simpa using h2
   have : i = l.length := by omega
   rw [he, List.drop_of_length_le (by omega), List.drop_of_length_le (by omega), decide_eq_true rfl]; rfl
def Val (l : List Rect) : Prop := l.length ≤ 120 ∧ (∀ r ∈ l, propB r = true) ∧ Canon l
open Classical in
noncomputable def valB (l : List Rect) : Bool := decide (Val l)
theorem valB_iff (l : List Rect) : valB l = true ↔ Val l := by unfold valB; exact @decide_eq_true_iff (Val l) (Classical.propDecidable _)
theorem valB_false {l : List Rect} (h : ¬ Val l) : valB l = false := by rw [← Bool.not_eq_true, valB_iff]; exact h
theorem valB_true {l : List Rect} (h : Val l) : valB l = true := (valB_iff l).2 h
theorem all_drop {α : Type} [Emb α] {l : List α} {p : α → Prop} {i : Nat} (h : i < l.length) : (∀ x ∈ l.drop i, p x) ↔ p (gl l i) ∧ ∀ x ∈ l.drop (i + 1), p x := by rw [drop_gl h]; simp
theorem ref04_Valid_ok {F : Nat} (hF : BIG ≤ F) (a : Region) : ref04_Valid F a = some (valB a.rects_) := by
 have hF' := hF
 unfold BIG at hF
 obtain ⟨l⟩ := a
 simp only
 unfold ref04_Valid
 refine br_ok (fun h => ?_) (fun h => ?_)
 ·have h : 120 < l.length := by simp at h; omega
  rw [valB_false fun hv => by have := hv.1; omega]
 ·have h : l.length ≤ 120 := by simp at h; omega
  refine loopN_ok (fun z : Int => ∃ i : Nat, z = i ∧ i ≤ l.length ∧ ((∀ r ∈ l, propB r = true) ↔ ∀ r ∈ l.drop i, propB r = true)) (fun z => l.length - z.toNat) (fun again z hz ih => ?_) ⟨0, rfl, by omega, by simp⟩ (by simp; omega)
  obtain ⟨i, rfl, hi, he⟩ := hz
  unfold ref04_Valid_b0
  simp only
  refine br_ok (fun h2 => ?_) (fun h2 => ?_)
  ·have h2 : i < l.length := by simpa using h2
   rw [all_drop (p := fun r => propB r = true) h2] at he
   refine gd_ok (by first | omega | exact i64_of (by omega) (by omega) | (simp only [LIM, BIG, List.length_append, List.length_cons, List.length_nil, List.length_map, List.length_take, List.length_drop, List.length_set] at *; omega)) ?_
   refine bd_ok (ref04_proper_ok _ _) ?_
   refine br_ok (fun hb => ?_) (fun hb => ?_)
   ·have hb : propB (gl l i) = false := by simpa using hb
    rw [valB_false fun hv => by have := (he.1 hv.2.1).1; rw [hb] at this; cases this]
   ·have hb : propB (gl l i) = true := by simpa using hb
    refine gd_ok (by first | omega | exact i64_of (by omega) (by omega) | (simp only [LIM, BIG, List.length_append, List.length_cons, List.length_nil, List.length_map, List.length_take, List.length_drop, List.length_set] at *; omega)) ?_
    exact ih _ ⟨i + 1, by omega, h2, he.trans ⟨fun h => h.2, fun h => ⟨hb, h⟩⟩⟩ (by omega)
  ·have h2 : ¬ i < l.length := by simpa using h2
   rw [List.drop_of_length_le (by omega)] at he
   unfold ref04_Valid_k1
   refine bd_ok (ref04_Combine_one hF' (by simp only; omega)) ?_
   refine bd_ok (ref04_Rects_ok hF' (by unfold LIM; simp only; omega)) ?_
   simp only
   by_cases hc : cn (inR l) = l
   ·rw [decide_eq_true hc, valB_true ⟨h, he.2 (by simp), (canon_iff l).2 hc⟩]
   ·rw [decide_eq_false hc, valB_false fun hv => hc ((canon_iff l).1 hv.2.2)]
theorem ref04_Bound_ok {F : Nat} (l : List Rect) : ref04_Bound F l = some (if 120 < l.length then (⟨[]⟩, 1) else (⟨l⟩, 0)) := by
 unfold ref04_Bound
 refine br_ok (fun h => ?_) (fun h => ?_)
 ·have h : 120 < l.length := by simp at h; omega
  rw [if_pos h]
 ·have h : ¬ 120 < l.length := by simp at h; omega
  rw [if_neg h]
theorem ref04_Of_ok {F : Nat} (hF : BIG ≤ F) {l : List Rect} (hl : l.length ≤ 120) (hp : ∀ r ∈ l, propB r = true) : ref04_Of F l = some (if 120 < (cn (inR l)).length then (⟨[]⟩, 1) else (⟨cn (inR l)⟩, 0)) := by
 have hF' := hF
 unfold BIG at hF
 unfold ref04_Of
 refine br_ff (by simp; omega) ?_
 refine loopN_ok (fun z : Int => ∃ i : Nat, z = i ∧ i ≤ l.length) (fun z => l.length - z.toNat) (fun again z hz ih => ?_) ⟨0, rfl, by omega⟩ (by simp; omega)
 obtain ⟨i, rfl, hi⟩ := hz
 unfold ref04_Of_b0
 refine br_ok (fun h2 => ?_) (fun h2 => ?_)
 ·have h2 : i < l.length := by simpa using h2
  refine gd_ok (by first | omega | exact i64_of (by omega) (by omega) | (simp only [LIM, BIG, List.length_append, List.length_cons, List.length_nil, List.length_map, List.length_take, List.length_drop, List.length_set] at *; omega)) ?_
  refine bd_ok (ref04_proper_ok _ _) ?_
  refine br_ff (by rw [Int.toNat_natCast, hp _ (gl_mem h2)]; rfl) ?_
  refine gd_ok (by first | omega | exact i64_of (by omega) (by omega) | (simp only [LIM, BIG, List.length_append, List.length_cons, List.length_nil, List.length_map, List.length_take, List.length_drop, List.length_set] at *; omega)) ?_
  exact ih _ ⟨i + 1, by omega, h2⟩ (by omega)
 ·unfold ref04_Of_k1
  refine bd_ok (ref04_Combine_one hF' (by omega)) ?_
  refine bd_ok (ref04_Bound_ok _) ?_
  rfl
end Go.Ab
end

section
namespace Go.Ab
set_option maxRecDepth 20000
open Go.Sort
def Srt (l : List Int) : Prop := l.Pairwise (· ≤ ·)
theorem sortI_ok {l : List Int} (hl : l.length ≤ LIM) : ∃ r, sortI l = some r ∧ Srt r ∧ (∀ v, v ∈ r ↔ v ∈ l) ∧ r.length = l.length := by
 refine ⟨l.mergeSort fun x y => decide (x ≤ y), by unfold sortI; rw [if_pos hl], ?_, fun v => List.mem_mergeSort, List.length_mergeSort l⟩
 have := List.pairwise_mergeSort (le := fun x y : Int => decide (x ≤ y)) (fun a b c h1 h2 => by simp at *; omega) (fun a b => by simp; omega) l
 exact this.imp fun h => by simpa using h
def dd : List Int → List Int
 | [] => []
 | [a] => [a]
 | a :: b :: l => if a = b then dd (b :: l) else a :: dd (b :: l)
theorem dd_snoc (l : List Int) (x : Int) : dd (l ++ [x]) = if l.getLast? = some x then dd l else dd l ++ [x] := by
 match l with
 | [] => simp [dd]
 | [a] => by_cases h : a = x <;> simp [dd, h]
 | a :: b :: l =>
  have ih := dd_snoc (b :: l) x
  have e : (a :: b :: l).getLast? = (b :: l).getLast? := by simp [List.getLast?_cons]
  rw [e]
  by_cases h : a = b
  ·simp only [List.cons_append, dd, h, if_true] at ih ⊢
   exact ih
  ·simp only [List.cons_append, dd, h, if_false] at ih ⊢
   rw [ih]
   split <;> rfl
theorem mem_dd (l : List Int) (v : Int) : v ∈ dd l ↔ v ∈ l := by
 match l with
 | [] => simp [dd]
 | [a] => simp [dd]
 | a :: b :: l =>
  have ih := mem_dd (b :: l) v
  unfold dd
  split
  ·rename_i h; subst h; rw [ih]; simp
  ·rw [List.mem_cons, ih, List.mem_cons (a := v) (b := a)]
theorem dd_asc (l : List Int) (h : Srt l) : Asc (dd l) := by
 match l with
 | [] => exact .nil
 | [a] => exact List.pairwise_singleton _ _
 | a :: b :: l =>
  obtain ⟨h1, h2⟩ := List.pairwise_cons.1 h
  have ih := dd_asc (b :: l) h2
  unfold dd
  split
  ·exact ih
  ·rename_i hne
   refine List.pairwise_cons.2 ⟨fun v hv => ?_, ih⟩
   rw [mem_dd] at hv
   have := h1 b (by simp)
   rcases List.mem_cons.1 hv with rfl | hv
   ·omega
   ·have := (List.pairwise_cons.1 h2).1 v hv; omega
theorem dd_len (l : List Int) : (dd l).length ≤ l.length := by
 match l with
 | [] => simp [dd]
 | [a] => simp [dd]
 | a :: b :: l =>
  have ih := dd_len (b :: l)
  unfold dd
  split
  ·simp at ih ⊢; omega
  ·simp at ih ⊢; omega
theorem last_take {l : List Int} {i : Nat} (h : i < l.length) : (l.take (i + 1)).getLast? = some (gl l i) := by rw [take_gl h]; simp
theorem gl_set {α : Type} [Emb α] (l : List α) (i j : Nat) (x : α) (h : i < l.length) : gl (l.set i x) j = if i = j then x else gl l j := by
 simp only [gl, List.getD_eq_getElem?_getD, List.getElem?_set]
 by_cases hij : i = j
 ·subst hij; simp [h]
 ·simp [hij]
theorem take_set_lt {α : Type} (l : List α) (i n : Nat) (x : α) (h : n ≤ i) : (l.set i x).take n = l.take n := by
 apply List.ext_getElem?
 intro j
 simp only [List.getElem?_take, List.getElem?_set]
 split
 ·rw [if_neg (by omega)]
 ·rfl
theorem take_clr {α : Type} [Emb α] (l : List α) (k n : Nat) (h : k ≤ l.length) : (clr l (0 + k) n).take k = l.take k := by
 apply List.ext_getElem?
 intro j
 simp only [List.getElem?_take, clr]
 split
 ·rename_i hj
  have : j < l.length := by omega
  simp only [List.getElem?_map, List.getElem?_range this, Option.map_some]
  rw [if_neg (by omega), gl_lt this, List.getElem?_eq_getElem this]
 ·rfl
theorem clr_len {α : Type} [Emb α] (l : List α) (lo n : Nat) : (clr l lo n).length = l.length := by simp [clr]
theorem slices_Compact_int_ok {F : Nat} (hF : BIG ≤ F) {l : List Int} (hl : l.length ≤ LIM) : slices_Compact_int F l = some (dd l) := by
 have hF' := hF
 unfold BIG at hF; unfold LIM at hl
 unfold slices_Compact_int
 refine br_ok (fun h => ?_) (fun h => ?_)
 ·have h : l.length < 2 := by simp at h; omega
  match l, h with
  | [], _ => rfl
  | [a], _ => rfl
 ·have h : 2 ≤ l.length := by simp at h; omega
  refine loopN_ok (fun z : Int => ∃ k : Nat, z = k ∧ 1 ≤ k ∧ k ≤ l.length ∧ dd (l.take k) = l.take k) (fun z => l.length - z.toNat) (fun again z hz ih => ?_) ⟨1, rfl, by omega, by omega, ?_⟩ (by simp; omega)
  ·obtain ⟨k, rfl, hk1, hk, hd⟩ := hz
   unfold slices_Compact_int_b0
   refine br_ok (fun h2 => ?_) (fun h2 => ?_)
   ·have h2 : k < l.length := by simpa using h2
    refine gd_ok (by first | omega | exact i64_of (by omega) (by omega) | (simp only [LIM, BIG, List.length_append, List.length_cons, List.length_nil, List.length_map, List.length_take, List.length_drop, List.length_set] at *; omega)) ?_
    refine gd_ok (by first | omega | exact i64_of (by omega) (by omega) | (simp only [LIM, BIG, List.length_append, List.length_cons, List.length_nil, List.length_map, List.length_take, List.length_drop, List.length_set] at *; omega)) ?_
    refine gd_ok (by first | omega | exact i64_of (by omega) (by omega) | (simp only [LIM, BIG, List.length_append, List.length_cons, List.length_nil, List.length_map, List.length_take, List.length_drop, List.length_set] at *; omega)) ?_
    have e1 : ((k : Int) - 1).toNat = k - 1 := by omega
    rw [e1]
    simp only [Int.toNat_natCast]
    have hlast : (l.take k).getLast? = some (gl l (k - 1)) := by
     have := last_take (l := l) (i := k - 1) (by omega)
     rwa [show k - 1 + 1 = k from by omega] at this
    refine br_ok (fun hb => ?_) (fun hb => ?_)
    ·have hb : gl l k = gl l (k - 1) := by simpa using hb
     refine gd_ok (by first | omega | exact i64_of (by omega) (by omega) | (simp only [LIM, BIG, List.length_append, List.length_cons, List.length_nil, List.length_map, List.length_take, List.length_drop, List.length_set] at *; omega)) ?_
     have hd1 : dd (l.take (k + 1)) = l.take k := by rw [take_gl h2, dd_snoc, hlast, if_pos (by rw [hb]), hd]
     refine loopN_ok (fun z : Int × Int × List Int => ∃ (q r : Nat) (cur : List Int), z = ((q : Int), (r : Int), cur) ∧ 1 ≤ r ∧ k + r ≤ l.length ∧ q + 1 ≤ k + r ∧ 1 ≤ q ∧ cur.length = l.length ∧ (∀ j, q ≤ j → gl cur j = gl l j) ∧ cur.take q = dd (l.take (k + r)))
      (fun z => l.length - z.2.1.toNat) (fun again2 z hz ih2 => ?_) ⟨k, 1, l, rfl, by omega, by omega, by omega, by omega, rfl, fun _ _ => rfl, hd1.symm⟩ (by simp only; omega)
     obtain ⟨q, r, cur, rfl, hr, hkr, hqr, hq1, hcl, hcj, hct⟩ := hz
     simp only at ih2 ⊢
     unfold slices_Compact_int_b1
     simp only [Int.toNat_natCast, Nat.zero_add]
     refine br_ok (fun h3 => ?_) (fun h3 => ?_)
     ·have h3 : r < l.length - k := by simp at h3; omega
      refine gd_ok (by first | omega | exact i64_of (by omega) (by omega) | (simp only [LIM, BIG, List.length_append, List.length_cons, List.length_nil, List.length_map, List.length_take, List.length_drop, List.length_set] at *; omega)) ?_
      refine gd_ok (by first | omega | exact i64_of (by omega) (by omega) | (simp only [LIM, BIG, List.length_append, List.length_cons, List.length_nil, List.length_map, List.length_take, List.length_drop, List.length_set] at *; omega)) ?_
      refine gd_ok (by first | omega | exact i64_of (by omega) (by omega) | (simp only [LIM, BIG, List.length_append, List.length_cons, List.length_nil, List.length_map, List.length_take, List.length_drop, List.length_set] at *; omega)) ?_
      refine gd_ok (by first | omega | exact i64_of (by omega) (by omega) | (simp only [LIM, BIG, List.length_append, List.length_cons, List.length_nil, List.length_map, List.length_take, List.length_drop, List.length_set] at *; omega)) ?_
      have e2 : ((r : Int) - 1).toNat = r - 1 := by omega
      rw [e2]
      refine gd_ok (by first | omega | exact i64_of (by omega) (by omega) | (simp only [LIM, BIG, List.length_append, List.length_cons, List.length_nil, List.length_map, List.length_take, List.length_drop, List.length_set] at *; omega)) ?_
      rw [hcj (k + r) (by omega), hcj (k + (r - 1)) (by omega)]
      have hl2 : (l.take (k + r)).getLast? = some (gl l (k + (r - 1))) := by
       have := last_take (l := l) (i := k + (r - 1)) (by omega)
       rwa [show k + (r - 1) + 1 = k + r from by omega] at this
      have hdn : dd (l.take (k + r + 1)) = if gl l (k + (r - 1)) = gl l (k + r) then dd (l.take (k + r)) else dd (l.take (k + r)) ++ [gl l (k + r)] := by
       rw [take_gl (by omega), dd_snoc, hl2]; simp
      refine br_ok (fun hne => ?_) (fun hne => ?_)
      ·have hne : gl l (k + r) ≠ gl l (k + (r - 1)) := by simpa using hne
       repeat (refine gd_ok (by first | omega | exact i64_of (by omega) (by omega) | (simp only [LIM, BIG, List.length_append, List.length_cons, List.length_nil, List.length_map, List.length_take, List.length_drop, List.length_set] at *; omega)) ?_)
       refine ih2 _ ⟨q + 1, r + 1, cur.set q (gl l (k + r)), rfl, by omega, by omega, by omega, by omega, by simp [hcl], fun j hj => ?_, ?_⟩ (by simp only; omega)
       ·rw [gl_set _ _ _ _ (by omega), if_neg (by omega)]; exact hcj j (by omega)
       ·rw [show k + (r + 1) = k + r + 1 from rfl, hdn, if_neg (fun e => hne e.symm), ← hct, take_gl (by simp; omega), take_set_lt _ _ _ _ (Nat.le_refl _), gl_set _ _ _ _ (by omega), if_pos rfl]
      ·have hne : gl l (k + r) = gl l (k + (r - 1)) := by simpa using hne
       unfold slices_Compact_int_k2
       refine gd_ok (by first | omega | exact i64_of (by omega) (by omega) | (simp only [LIM, BIG, List.length_append, List.length_cons, List.length_nil, List.length_map, List.length_take, List.length_drop, List.length_set] at *; omega)) ?_
       refine ih2 _ ⟨q, r + 1, cur, rfl, by omega, by omega, by omega, by omega, hcl, hcj, ?_⟩ (by simp only; omega)
       rw [show k + (r + 1) = k + r + 1 from rfl, hdn, if_pos hne.symm, hct]
     ·have h3 : ¬ r < l.length - k := by simp at h3; omega
      unfold slices_Compact_int_k3
      simp only [Int.toNat_natCast, clr_len]
      refine gd_ok (by first | omega | exact i64_of (by omega) (by omega) | (simp only [LIM, BIG, List.length_append, List.length_cons, List.length_nil, List.length_map, List.length_take, List.length_drop, List.length_set] at *; omega)) ?_
      refine gd_ok (by first | omega | exact i64_of (by omega) (by omega) | (simp only [LIM, BIG, List.length_append, List.length_cons, List.length_nil, List.length_map, List.length_take, List.length_drop, List.length_set] at *; omega)) ?_
      rw [take_clr _ _ _ (by omega), hct, List.take_of_length_le (by omega)]
    ·have hb : gl l k ≠ gl l (k - 1) := by simpa using hb
     unfold slices_Compact_int_k4
     refine gd_ok (by first | omega | exact i64_of (by omega) (by omega) | (simp only [LIM, BIG, List.length_append, List.length_cons, List.length_nil, List.length_map, List.length_take, List.length_drop, List.length_set] at *; omega)) ?_
     refine ih _ ⟨k + 1, by omega, by omega, h2, ?_⟩ (by omega)
     rw [take_gl h2, dd_snoc, hlast, if_neg (fun e => hb (by simpa using e.symm)), hd]
   ·have h2 : ¬ k < l.length := by simpa using h2
    have : k = l.length := by omega
    subst this
    rw [List.take_length] at hd
    unfold slices_Compact_int_k5
    rw [hd]
  ·match l, h with
   | a :: b :: l, _ => rfl
end Go.Ab
end

section
namespace Go.Ab
set_option maxRecDepth 20000
open Go.Sort
def lows (l : List Rect) : List Int := l.flatMap fun r => [r.low_, r.high_]
def lowss (ls : List (List Rect)) : List Int := ls.flatMap lows
def cuts (ls : List (List Rect)) : List Int := dd ((lowss ls).mergeSort fun x y => decide (x ≤ y))
theorem srt_sort (l : List Int) : Srt (l.mergeSort fun x y => decide (x ≤ y)) := by
 have := List.pairwise_mergeSort (le := fun x y : Int => decide (x ≤ y)) (fun a b c h1 h2 => by simp at *; omega) (fun a b => by simp; omega) l
 exact this.imp fun h => by simpa using h
theorem cuts_asc (ls : List (List Rect)) : Asc (cuts ls) := dd_asc _ (srt_sort _)
theorem mem_cuts (ls : List (List Rect)) (v : Int) : v ∈ cuts ls ↔ ∃ l ∈ ls, ∃ r ∈ l, v = r.low_ ∨ v = r.high_ := by
 unfold cuts
 rw [mem_dd, List.mem_mergeSort]
 simp [lowss, lows]
theorem lows_len (l : List Rect) : (lows l).length = 2 * l.length := by
 induction l with
 | nil => rfl
 | cons r l ih =>
  have : (lows (r :: l)).length = 2 + (lows l).length := by simp [lows]; omega
  rw [this, ih, List.length_cons]; omega
def tot (ls : List (List Rect)) : Nat := (ls.map List.length).sum
theorem lowss_len (ls : List (List Rect)) : (lowss ls).length = 2 * tot ls := by
 induction ls with
 | nil => rfl
 | cons l ls ih =>
  have : (lowss (l :: ls)).length = (lows l).length + (lowss ls).length := by simp [lowss]
  rw [this, ih, lows_len]; simp [tot]; omega
theorem cuts_len (ls : List (List Rect)) : (cuts ls).length ≤ 2 * tot ls := by
 unfold cuts
 have := dd_len ((lowss ls).mergeSort fun x y => decide (x ≤ y))
 rw [List.length_mergeSort, lowss_len] at this
 exact this
theorem region_Cuts_ok {F : Nat} (hF : BIG ≤ F) {ls : List (List Rect)} (h : tot ls ≤ 1000000000) (hn : ls.length ≤ 1000000) : region_Cuts F ls = some (cuts ls) := by
 have hF' := hF
 unfold BIG at hF
 unfold region_Cuts
 refine (range_st (l := ls) (σ := List Int) (fun rest acc => acc.length + 2 * tot rest ≤ 2000000000) (fun rest acc => some (dd ((acc ++ lowss rest).mergeSort fun x y => decide (x ≤ y))))
  (fun again i acc hi hI ih => ?_) (fun again acc hI => ?_) (by omega) (by simp; omega)).trans rfl
 ·unfold region_Cuts_b0
  refine br_tt (lt_dec hi) ?_
  refine gd_ok (by first | omega | exact i64_of (by omega) (by omega) | (simp only [LIM, BIG, List.length_append, List.length_cons, List.length_nil, List.length_map, List.length_take, List.length_drop, List.length_set] at *; omega)) ?_
  simp only [Int.toNat_natCast]
  generalize hl : gl ls i = l at *
  have ht : tot (l :: ls.drop (i + 1)) = l.length + tot (ls.drop (i + 1)) := by simp [tot]
  rw [ht] at hI
  refine (range_st (l := l) (σ := List Int) (fun rest acc => acc.length + 2 * rest.length + 2 * tot (ls.drop (i + 1)) ≤ 2000000000) (fun rest acc => some (dd ((acc ++ lows rest ++ lowss (ls.drop (i + 1))).mergeSort fun x y => decide (x ≤ y))))
   (fun again2 j acc hj hI ih2 => ?_) (fun again2 acc hI => ?_) (by omega) (by omega)).trans ?_
  ·simp only
   unfold region_Cuts_b1
   simp only [Int.toNat_natCast, hl]
   refine br_tt (lt_dec hj) ?_
   simp only [List.length_cons] at hI
   refine gd_ok (by first | omega | exact i64_of (by omega) (by omega) | (simp only [LIM, BIG, List.length_append, List.length_cons, List.length_nil, List.length_map, List.length_take, List.length_drop, List.length_set] at *; omega)) ?_
   refine gd_ok (by first | omega | exact i64_of (by omega) (by omega) | (simp only [LIM, BIG, List.length_append, List.length_cons, List.length_nil, List.length_map, List.length_take, List.length_drop, List.length_set] at *; omega)) ?_
   refine gd_ok (by first | omega | exact i64_of (by omega) (by omega) | (simp only [LIM, BIG, List.length_append, List.length_cons, List.length_nil, List.length_map, List.length_take, List.length_drop, List.length_set] at *; omega)) ?_
   rw [ih2 _ (by simp only [List.length_append, List.length_cons, List.length_nil]; omega)]
   simp [lows]
  ·simp only
   unfold region_Cuts_b1
   simp only [Int.toNat_natCast, hl]
   refine br_ff (not_lt_dec _) ?_
   unfold region_Cuts_k2
   refine gd_ok (by first | omega | exact i64_of (by omega) (by omega) | (simp only [LIM, BIG, List.length_append, List.length_cons, List.length_nil, List.length_map, List.length_take, List.length_drop, List.length_set] at *; omega)) ?_
   rw [ih _ (by simp only [List.length_nil] at hI; omega)]
   simp [lows]
  ·simp [lowss]
 ·simp only
  unfold region_Cuts_b0
  refine br_ff (not_lt_dec _) ?_
  unfold region_Cuts_k3
  have hI : acc.length ≤ 2000000000 := by simp [tot] at hI; omega
  have hs : sortI acc = some (acc.mergeSort fun x y => decide (x ≤ y)) := by unfold sortI; rw [if_pos (by unfold LIM; omega)]
  refine bd_ok hs ?_
  refine bd_ok (slices_Compact_int_ok hF' (by rw [List.length_mergeSort]; unfold LIM; omega)) ?_
  simp [lowss]
theorem cmp_Compare_int_ok (F : Nat) (a b : Int) : cmp_Compare_int F a b = some (if a < b then -1 else if b < a then 1 else 0) := by
 unfold cmp_Compare_int cmp_isNaN_int
 refine bd_ok rfl (bd_ok rfl ?_)
 refine br_ff (by simp) (br_ff (by simp) ?_)
 refine br_ok (fun h => ?_) (fun h => ?_)
 ·have h : a < b := by simpa using h
  rw [if_pos h]
 ·have h : ¬ a < b := by simpa using h
  rw [if_neg h]
  refine br_ok (fun h => ?_) (fun h => ?_)
  ·have h : b < a := by simpa using h
   rw [if_pos h]
  ·have h : ¬ b < a := by simpa using h
   rw [if_neg h]
def cfL (a b : Span) : Int := if a.left_ < b.left_ then -1 else if b.left_ < a.left_ then 1 else 0
theorem ltC_cfL (a b : Span) : ltC cfL a b = decide (a.left_ < b.left_) := by
 unfold ltC cfL
 by_cases h : a.left_ < b.left_
 ·simp [h]
 ·by_cases h2 : b.left_ < a.left_ <;> simp [h, h2]
theorem swoL : SWO (ltC cfL) where
 irrefl x := by rw [ltC_cfL]; simp
 trans x y z h1 h2 := by rw [ltC_cfL] at *; simp at *; omega
 ntrans x y z h1 h2 := by rw [ltC_cfL] at *; simp at *; omega
theorem pdqL_spec {α : Type} [Emb α] (cf : α → α → Int) (hO : SWO (ltC cf)) (l : List α) : (pdqL cf l).Perm l ∧ (pdqL cf l).Pairwise fun a b => ltC cf b a = false := by
 letI inst : Inhabited α := ⟨Emb.d⟩
 have h := pdq_sorts (ltC cf) hO l.toArray 0 l.length (Lib.bitLen l.length) true true (Nat.zero_le _) (by simp) (.inl rfl)
 have hsz : (pdq (ltC cf) l.toArray 0 l.length (Lib.bitLen l.length) true true).size = l.length := by simpa using h.1.1
 constructor
 ·have := h.1.2.2
  simp only [List.extract_toArray, List.extract_eq_take_drop, Nat.sub_zero, List.drop_zero, List.take_length] at this
  have e : ((pdq (ltC cf) l.toArray 0 l.length (Lib.bitLen l.length) true true).extract 0 l.length).toList = pdqL cf l := by
   unfold pdqL
   generalize pdq (ltC cf) l.toArray 0 l.length (Lib.bitLen l.length) true true = d at hsz
   rw [← hsz]; simp
  rw [e] at this
  exact this
 ·rw [List.pairwise_iff_getElem]
  intro i j hi hj hij
  have hi' : i < (pdq (ltC cf) l.toArray 0 l.length (Lib.bitLen l.length) true true).size := by simpa [pdqL] using hi
  have hj' : j < (pdq (ltC cf) l.toArray 0 l.length (Lib.bitLen l.length) true true).size := by simpa [pdqL] using hj
  have := h.2 i j (Nat.zero_le _) hij (by omega)
  rw [getElem!_pos _ j hj', getElem!_pos _ i hi'] at this
  simpa [pdqL] using this
def flt (l : List Rect) (y : Int) : List Span := (l.filter fun r => decide (r.low_ ≤ y) && decide (y < r.high_)).map fun r => ⟨r.left_, r.right_⟩
theorem flt_cons (r : Rect) (l : List Rect) (y : Int) : flt (r :: l) y = if (decide (r.low_ ≤ y) && decide (y < r.high_)) = true then ⟨r.left_, r.right_⟩ :: flt l y else flt l y := by
 unfold flt
 rw [List.filter_cons]
 split <;> rfl
theorem inS_flt (l : List Rect) (x y : Int) : inS (flt l y) x = inR l x y := by
 induction l with
 | nil => rfl
 | cons r l ih =>
  have e : inR (r :: l) x y = (r.has x y || inR l x y) := rfl
  rw [flt_cons, e, ← ih]
  split
  ·rename_i h
   simp only [Bool.and_eq_true, decide_eq_true_eq] at h
   simp [inS, Span.has, Rect.has, h.1, h.2]
  ·rename_i h
   have : r.has x y = false := has_ff (by simp at h; omega)
   rw [this, Bool.false_or]
theorem flt_len (l : List Rect) (y : Int) : (flt l y).length ≤ l.length := by
 unfold flt; rw [List.length_map]; exact List.length_filter_le _ _
theorem flt_pos {l : List Rect} (h : ∀ r ∈ l, r.left_ < r.right_) (y : Int) : ∀ s ∈ flt l y, s.left_ < s.right_ := by
 intro s hs
 obtain ⟨r, hr, rfl⟩ := List.mem_map.1 hs
 exact h r (List.mem_filter.1 hr).1
theorem inS_app (l m : List Span) (x : Int) : inS (l ++ m) x = (inS l x || inS m x) := by simp [inS]
theorem inS_perm {l m : List Span} (h : l.Perm m) (x : Int) : inS l x = inS m x := by
 rw [Bool.eq_iff_iff]
 simp only [inS, List.any_eq_true]
 constructor
 ·rintro ⟨s, hs, h2⟩; exact ⟨s, h.mem_iff.1 hs, h2⟩
 ·rintro ⟨s, hs, h2⟩; exact ⟨s, h.mem_iff.2 hs, h2⟩
theorem gmax_eq (a b : Int) : gmax a b = if a < b then b else a := rfl
theorem row_sweep {F : Nat} (hF : BIG ≤ F) {S : List Span} (hl : S.length ≤ 1000000000) (hpos : ∀ s ∈ S, s.left_ < s.right_) (hs : S.Pairwise fun a b => a.left_ ≤ b.left_) :
  loopN (fun again (z : Int × List Span) => region_Row_b4 F S again z.1 z.2) F (0, []) = some (spn fun x => inS S x) := by
 unfold BIG at hF
 refine loopN_ok (fun z : Int × List Span => ∃ (i : Nat) (out : List Span), z = ((i : Int), out) ∧ i ≤ S.length ∧ out.length ≤ i ∧ SpOk out ∧ (∀ x, inS out x = inS (S.take i) x) ∧ ∀ o ∈ out, ∀ j, i ≤ j → j < S.length → o.left_ ≤ (gl S j).left_)
  (fun z => S.length - z.1.toNat) (fun again z hz ih => ?_) ⟨0, [], rfl, by omega, Nat.le_refl _, .nil, fun x => by simp, fun o ho => by cases ho⟩ (by simp only; omega)
 obtain ⟨i, out, rfl, hi, hol, hsp, hin, hle⟩ := hz
 simp only at ih ⊢
 unfold region_Row_b4
 refine br_ok (fun h => ?_) (fun h => ?_)
 ·have h : i < S.length := by simpa using h
  refine gd_ok (by first | omega | exact i64_of (by omega) (by omega) | (simp only [LIM, BIG, List.length_append, List.length_cons, List.length_nil, List.length_map, List.length_take, List.length_drop, List.length_set] at *; omega)) ?_
  simp only [Int.toNat_natCast]
  have hp := hpos _ (gl_mem h)
  have hnext : ∀ j, i + 1 ≤ j → j < S.length → (gl S i).left_ ≤ (gl S j).left_ := by
   intro j hj hjl
   rw [gl_lt h, gl_lt hjl]
   exact List.pairwise_iff_getElem.1 hs i j h hjl (by omega)
  have hin' : ∀ x, inS (S.take (i + 1)) x = (inS out x || (gl S i).has x) := by
   intro x
   rw [take_gl h, inS_app, hin]; simp [inS]
  have hadd : (∀ o, out.getLast? = some o → o.right_ < (gl S i).left_) → region_Row_k5 F S i out again false = some (spn fun x => inS S x) := by
   intro hlast
   unfold region_Row_k5
   refine br_ff rfl ?_
   refine gd_ok (by first | omega | exact i64_of (by omega) (by omega) | (simp only [LIM, BIG, List.length_append, List.length_cons, List.length_nil, List.length_map, List.length_take, List.length_drop, List.length_set] at *; omega)) ?_
   unfold region_Row_k6
   refine gd_ok (by first | omega | exact i64_of (by omega) (by omega) | (simp only [LIM, BIG, List.length_append, List.length_cons, List.length_nil, List.length_map, List.length_take, List.length_drop, List.length_set] at *; omega)) ?_
   simp only [Int.toNat_natCast]
   refine ih _ ⟨i + 1, out ++ [gl S i], rfl, h, by simp; omega, ⟨fun s hs => ?_, ?_⟩, fun x => ?_, fun o ho j hj hjl => ?_⟩ (by simp only; omega)
   ·rcases List.mem_append.1 hs with hs | hs
    ·exact hsp.pos s hs
    ·rw [List.mem_singleton.1 hs]; exact hp
   ·refine List.pairwise_append.2 ⟨hsp.ch, List.pairwise_singleton _ _, fun o ho b hb => ?_⟩
    rw [List.mem_singleton.1 hb]
    rcases List.eq_nil_or_concat out with h0 | ⟨o', e, he⟩
    ·rw [h0] at ho; cases ho
    ·rw [List.concat_eq_append] at he
     subst he
     have h1 := hlast e (by simp)
     rcases List.mem_append.1 ho with ho | ho
     ·have h2 := (List.pairwise_append.1 hsp.ch).2.2 o ho e (by simp)
      have h3 := hsp.pos e (by simp)
      omega
     ·rw [List.mem_singleton.1 ho]; exact h1
   ·rw [hin', inS_app]; simp [inS]
   ·rcases List.mem_append.1 ho with ho | ho
    ·exact hle o ho j (by omega) hjl
    ·rw [List.mem_singleton.1 ho]; exact hnext j hj hjl
  rcases List.eq_nil_or_concat out with h0 | ⟨o', e, he⟩
  ·subst h0
   refine br_ff rfl ?_
   exact hadd fun o ho => by simp at ho
  ·rw [List.concat_eq_append] at he
   subst he
   have hlen : (o' ++ [e]).length = o'.length + 1 := by simp
   have e1 : (((o'.length + 1 : Nat) : Int) - 1).toNat = o'.length := by omega
   rw [hlen] at hol ⊢
   refine br_tt (by simp) ?_
   refine gd_ok (by first | omega | exact i64_of (by omega) (by omega) | (simp only [LIM, BIG, List.length_append, List.length_cons, List.length_nil, List.length_map, List.length_take, List.length_drop, List.length_set] at *; omega)) ?_
   refine gd_ok (by first | omega | exact i64_of (by omega) (by omega) | (simp only [LIM, BIG, List.length_append, List.length_cons, List.length_nil, List.length_map, List.length_take, List.length_drop, List.length_set] at *; omega)) ?_
   rw [e1, gl_last _ _ rfl]
   by_cases hc : (gl S i).left_ ≤ e.right_
   ·have e2 : decide ((gl S i).left_ ≤ e.right_) = true := by simpa using hc
    rw [e2]
    unfold region_Row_k5
    refine br_tt rfl ?_
    simp only [hlen]
    refine gd_ok (by first | omega | exact i64_of (by omega) (by omega) | (simp only [LIM, BIG, List.length_append, List.length_cons, List.length_nil, List.length_map, List.length_take, List.length_drop, List.length_set] at *; omega)) ?_
    refine gd_ok (by first | omega | exact i64_of (by omega) (by omega) | (simp only [LIM, BIG, List.length_append, List.length_cons, List.length_nil, List.length_map, List.length_take, List.length_drop, List.length_set] at *; omega)) ?_
    refine gd_ok (by first | omega | exact i64_of (by omega) (by omega) | (simp only [LIM, BIG, List.length_append, List.length_cons, List.length_nil, List.length_map, List.length_take, List.length_drop, List.length_set] at *; omega)) ?_
    refine gd_ok (by first | omega | exact i64_of (by omega) (by omega) | (simp only [LIM, BIG, List.length_append, List.length_cons, List.length_nil, List.length_map, List.length_take, List.length_drop, List.length_set] at *; omega)) ?_
    rw [e1, gl_last _ _ rfl, set_last _ _ _ rfl]
    unfold region_Row_k6
    refine gd_ok (by first | omega | exact i64_of (by omega) (by omega) | (simp only [LIM, BIG, List.length_append, List.length_cons, List.length_nil, List.length_map, List.length_take, List.length_drop, List.length_set] at *; omega)) ?_
    simp only [Int.toNat_natCast]
    have hel : e.left_ ≤ (gl S i).left_ := hle e (by simp) i (Nat.le_refl _) h
    have hep := hsp.pos e (by simp)
    have hmx : e.right_ ≤ gmax e.right_ (gl S i).right_ ∧ (gl S i).right_ ≤ gmax e.right_ (gl S i).right_ ∧ (gmax e.right_ (gl S i).right_ = e.right_ ∨ gmax e.right_ (gl S i).right_ = (gl S i).right_) := by
     rw [gmax_eq]; split <;> omega
    refine ih _ ⟨i + 1, o' ++ [⟨e.left_, gmax e.right_ (gl S i).right_⟩], rfl, h, by simp; omega, ⟨fun s hs => ?_, ?_⟩, fun x => ?_, fun o ho j hj hjl => ?_⟩ (by simp only; omega)
    ·rcases List.mem_append.1 hs with hs | hs
     ·exact hsp.pos s (by simp [hs])
     ·rw [List.mem_singleton.1 hs]; simp only; omega
    ·obtain ⟨q1, _, q3⟩ := List.pairwise_append.1 hsp.ch
     refine List.pairwise_append.2 ⟨q1, List.pairwise_singleton _ _, fun o ho b hb => ?_⟩
     rw [List.mem_singleton.1 hb]
     exact q3 o ho e (by simp)
    ·rw [hin', inS_app, inS_app, Bool.or_assoc]
     congr 1
     have e3 : ∀ (s : Span) x, inS [s] x = s.has x := fun s x => by simp [inS]
     rw [e3, e3, Bool.eq_iff_iff]
     simp only [Span.has, Bool.or_eq_true, Bool.and_eq_true, decide_eq_true_eq]
     omega
    ·rcases List.mem_append.1 ho with ho | ho
     ·exact hle o (by simp [ho]) j (by omega) hjl
     ·rw [List.mem_singleton.1 ho]; exact hle e (by simp) j (by omega) hjl
   ·have e2 : decide ((gl S i).left_ ≤ e.right_) = false := by simpa using hc
    rw [e2]
    exact hadd fun o ho => by simp at ho; subst ho; omega
 ·have h : ¬ i < S.length := by simpa using h
  have : i = S.length := by omega
  subst this
  unfold region_Row_k7
  rw [spn_eq hsp fun x => by rw [hin, List.take_length]]
theorem region_Row_ok {F : Nat} (hF : BIG ≤ F) {l : List Rect} (hl : l.length ≤ 1000000000) (hpos : ∀ r ∈ l, r.left_ < r.right_) (y : Int) : region_Row F l y = some (spn fun x => inR l x y) := by
 have hF' := hF
 unfold BIG at hF
 unfold region_Row
 have hk3 : ∀ acc : List Span, acc = flt l y → region_Row_k3 F acc = some (spn fun x => inR l x y) := by
  rintro acc rfl
  unfold region_Row_k3
  have hfl := flt_len l y
  have hso : sortF (flt l y) (fun y0 y1 => region_Row_1 F y0 y1) = some (pdqL cfL (flt l y)) :=
   sortF_eq cfL (by unfold LIM; omega) swoL fun a b => by unfold region_Row_1; rw [cmp_Compare_int_ok]; rfl
  refine bd_ok hso ?_
  obtain ⟨hp, hs⟩ := pdqL_spec cfL swoL (flt l y)
  have e : (fun x => inR l x y) = fun x => inS (pdqL cfL (flt l y)) x := by funext x; rw [inS_perm hp, inS_flt]
  rw [e]
  refine row_sweep hF' (by rw [hp.length_eq]; omega) (fun s hs => flt_pos hpos y s (hp.mem_iff.1 hs)) (hs.imp fun {a b} h => ?_)
  rw [ltC_cfL] at h; simp at h; exact h
 refine (range_st (l := l) (σ := List Span) (fun rest acc => acc.length + rest.length ≤ 1000000000 ∧ acc ++ flt rest y = flt l y) (fun rest acc => some (spn fun x => inR l x y))
  (fun again i acc hi hI ih => ?_) (fun again acc hI => ?_) (by omega) ⟨by simp; omega, rfl⟩)
 ·simp only
  unfold region_Row_b0
  refine br_tt (lt_dec hi) ?_
  refine gd_ok (by first | omega | exact i64_of (by omega) (by omega) | (simp only [LIM, BIG, List.length_append, List.length_cons, List.length_nil, List.length_map, List.length_take, List.length_drop, List.length_set] at *; omega)) ?_
  rw [and_br (region_Row_k1 F l i acc again)]
  simp only [Int.toNat_natCast]
  rw [flt_cons] at hI
  simp only [List.length_cons] at hI
  unfold region_Row_k1
  refine br_ok (fun h => ?_) (fun h => ?_)
  ·rw [if_pos h] at hI
   refine gd_ok (by first | omega | exact i64_of (by omega) (by omega) | (simp only [LIM, BIG, List.length_append, List.length_cons, List.length_nil, List.length_map, List.length_take, List.length_drop, List.length_set] at *; omega)) ?_
   unfold region_Row_k2
   refine gd_ok (by first | omega | exact i64_of (by omega) (by omega) | (simp only [LIM, BIG, List.length_append, List.length_cons, List.length_nil, List.length_map, List.length_take, List.length_drop, List.length_set] at *; omega)) ?_
   simp only [Int.toNat_natCast]
   exact ih _ ⟨by simp only [List.length_append, List.length_cons, List.length_nil]; omega, by rw [← hI.2]; simp⟩
  ·rw [h] at hI
   unfold region_Row_k2
   refine gd_ok (by first | omega | exact i64_of (by omega) (by omega) | (simp only [LIM, BIG, List.length_append, List.length_cons, List.length_nil, List.length_map, List.length_take, List.length_drop, List.length_set] at *; omega)) ?_
   exact ih _ ⟨by omega, by simpa using hI.2⟩
 ·simp only
  unfold region_Row_b0
  refine br_ff (not_lt_dec _) ?_
  exact hk3 acc (by have := hI.2; simpa [flt] using this)
end Go.Ab
end

section
namespace Go.Ab
set_option maxRecDepth 20000
theorem span_eq (r s : Span) : ((r.left_ == s.left_) && ((r.right_ == s.right_) && true)) = decide (r = s) := by
 cases r; cases s
 rw [Bool.eq_iff_iff, decide_eq_true_iff]
 simp
theorem slices_Equal_Span_ok {F : Nat} (hF : BIG ≤ F) {l m : List Span} (hm : m.length ≤ LIM) : slices_Equal_Span F l m = some (decide (l = m)) := by
 unfold BIG at hF; unfold LIM at hm
 unfold slices_Equal_Span
 refine br_ok (fun h => ?_) (fun h => ?_)
 ·have h : l.length ≠ m.length := by simp at h; omega
  rw [decide_eq_false fun e => h (by rw [e])]
 ·have h : l.length = m.length := by simp at h; omega
  refine loopN_ok (fun z : Int => ∃ i : Nat, z = i ∧ i ≤ l.length ∧ decide (l = m) = decide (l.drop i = m.drop i)) (fun z => l.length - z.toNat) (fun again z hz ih => ?_) ⟨0, rfl, by omega, by simp⟩ (by simp; omega)
  obtain ⟨i, rfl, hi, he⟩ := hz
  unfold slices_Equal_Span_b0
  refine br_ok (fun h2 => ?_) (fun h2 => ?_)
  ·have h2 : i < l.length := by simpa using h2
   rw [list_eq_spec l m h i h2] at he
   refine gd_ok (by first | omega | exact i64_of (by omega) (by omega) | (simp only [LIM, BIG, List.length_append, List.length_cons, List.length_nil, List.length_map, List.length_take, List.length_drop, List.length_set] at *; omega)) ?_
   refine gd_ok (by first | omega | exact i64_of (by omega) (by omega) | (simp only [LIM, BIG, List.length_append, List.length_cons, List.length_nil, List.length_map, List.length_take, List.length_drop, List.length_set] at *; omega)) ?_
   rw [span_eq]
   refine br_ok (fun hb => ?_) (fun hb => ?_)
   ·have hb : decide (gl l i = gl m i) = false := by simpa using hb
    rw [he, hb]; rfl
   ·have hb : decide (gl l i = gl m i) = true := by simpa using hb
    rw [hb, Bool.true_and] at he
    refine gd_ok (by first | omega | exact i64_of (by omega) (by omega) | (simp only [LIM, BIG, List.length_append, List.length_cons, List.length_nil, List.length_map, List.length_take, List.length_drop, List.length_set] at *; omega)) ?_
    exact ih _ ⟨i + 1, by omega, h2, he⟩ (by omega)
  ·have h2 : ¬ i < l.length := by simpa using h2
   have : i = l.length := by omega
   rw [he, List.drop_of_length_le (by omega), List.drop_of_length_le (by omega), decide_eq_true rfl]; rfl
theorem slices_Equal_Rect_ok {F : Nat} (hF : BIG ≤ F) {l m : List Rect} (hm : m.length ≤ LIM) : slices_Equal_Rect F l m = some (decide (l = m)) := by
 unfold BIG at hF; unfold LIM at hm
 unfold slices_Equal_Rect
 refine br_ok (fun h => ?_) (fun h => ?_)
 ·have h : l.length ≠ m.length := by simp at h; omega
  rw [decide_eq_false fun e => h (by rw [e])]
 ·have h : l.length = m.length := by simp at h; omega
  refine loopN_ok (fun z : Int => ∃ i : Nat, z = i ∧ i ≤ l.length ∧ decide (l = m) = decide (l.drop i = m.drop i)) (fun z => l.length - z.toNat) (fun again z hz ih => ?_) ⟨0, rfl, by omega, by simp⟩ (by simp; omega)
  obtain ⟨i, rfl, hi, he⟩ := hz
  unfold slices_Equal_Rect_b0
  refine br_ok (fun h2 => ?_) (fun h2 => ?_)
  ·have h2 : i < l.length := by simpa using h2
   rw [list_eq_spec l m h i h2] at he
   refine gd_ok (by first | omega | exact i64_of (by omega) (by omega) | (simp only [LIM, BIG, List.length_append, List.length_cons, List.length_nil, List.length_map, List.length_take, List.length_drop, List.length_set] at *; omega)) ?_
   refine gd_ok (by first | omega | exact i64_of (by omega) (by omega) | (simp only [LIM, BIG, List.length_append, List.length_cons, List.length_nil, List.length_map, List.length_take, List.length_drop, List.length_set] at *; omega)) ?_
   rw [rect_eq]
   refine br_ok (fun hb => ?_) (fun hb => ?_)
   ·have hb : decide (gl l i = gl m i) = false := by simpa using hb
    rw [he, hb]; rfl
   ·have hb : decide (gl l i = gl m i) = true := by simpa using hb
    rw [hb, Bool.true_and] at he
    refine gd_ok (by first | omega | exact i64_of (by omega) (by omega) | (simp only [LIM, BIG, List.length_append, List.length_cons, List.length_nil, List.length_map, List.length_take, List.length_drop, List.length_set] at *; omega)) ?_
    exact ih _ ⟨i + 1, by omega, h2, he⟩ (by omega)
  ·have h2 : ¬ i < l.length := by simpa using h2
   have : i = l.length := by omega
   rw [he, List.drop_of_length_le (by omega), List.drop_of_length_le (by omega), decide_eq_true rfl]; rfl
def Band.rn (b : Band) : Rn (List Span) := ⟨b.low_, b.high_, b.spans_⟩
def fl (l : List Band) : List Rect := flat (l.map Band.rn)
theorem fl_cons (b : Band) (l : List Band) : fl (b :: l) = flat1 b.rn ++ fl l := rfl
theorem fl_len (l : List Band) (N : Nat) (h : ∀ b ∈ l, b.spans_.length ≤ N) : (fl l).length ≤ l.length * N := by
 induction l with
 | nil => simp [fl, flat]
 | cons b l ih =>
  have h1 := ih fun c hc => h c (by simp [hc])
  have h2 := h b (by simp)
  rw [fl_cons, List.length_append, flat1_len, List.length_cons, Nat.add_mul]
  simp only [Band.rn]
  omega
theorem region_rects_ok {F : Nat} (hF : BIG ≤ F) {l : List Band} (hl : l.length ≤ 1000000000) (hn : (fl l).length ≤ LIM) (hs : ∀ b ∈ l, b.spans_.length ≤ 1000000000) : region_rects F l = some (fl l) := by
 unfold BIG at hF; unfold LIM at hn
 unfold region_rects
 refine (range_st (l := l) (σ := List Rect) (fun rest acc => acc.length + (fl rest).length ≤ 4294967296) (fun rest acc => some (acc ++ fl rest)) (fun again i acc hi hI ih => ?_) (fun again acc hI => ?_) (by omega) (by simp; omega)).trans (by simp)
 ·unfold region_rects_b0
  refine br_tt (lt_dec hi) ?_
  refine gd_ok (by first | omega | exact i64_of (by omega) (by omega) | (simp only [LIM, BIG, List.length_append, List.length_cons, List.length_nil, List.length_map, List.length_take, List.length_drop, List.length_set] at *; omega)) ?_
  simp only [Int.toNat_natCast]
  have hsp := hs _ (gl_mem hi)
  rw [fl_cons, List.length_append, flat1_len] at hI
  rw [fl_cons]
  generalize hb : gl l i = b at hI hsp ⊢
  have hI : acc.length + (b.spans_.length + (fl (l.drop (i + 1))).length) ≤ 4294967296 := hI
  refine (range_st (l := b.spans_) (σ := List Rect) (fun rest acc => acc.length + rest.length + (fl (l.drop (i + 1))).length ≤ 4294967296) (fun rest acc => some (acc ++ (rest.map (fun s => (⟨s.left_, b.low_, s.right_, b.high_⟩ : Rect)) ++ fl (l.drop (i + 1)))))
   (fun again2 j acc hj hI ih2 => ?_) (fun again2 acc hI => ?_) (by omega) (by omega)).trans rfl
  ·unfold region_rects_b1
   simp only [Int.toNat_natCast, hb]
   refine br_tt (lt_dec hj) ?_
   simp only [List.length_cons] at hI
   refine gd_ok (by first | omega | exact i64_of (by omega) (by omega) | (simp only [LIM, BIG, List.length_append, List.length_cons, List.length_nil, List.length_map, List.length_take, List.length_drop, List.length_set] at *; omega)) ?_
   refine gd_ok (by first | omega | exact i64_of (by omega) (by omega) | (simp only [LIM, BIG, List.length_append, List.length_cons, List.length_nil, List.length_map, List.length_take, List.length_drop, List.length_set] at *; omega)) ?_
   refine gd_ok (by first | omega | exact i64_of (by omega) (by omega) | (simp only [LIM, BIG, List.length_append, List.length_cons, List.length_nil, List.length_map, List.length_take, List.length_drop, List.length_set] at *; omega)) ?_
   rw [ih2 _ (by simp only [List.length_append, List.length_cons, List.length_nil]; omega)]
   simp
  ·unfold region_rects_b1
   simp only [Int.toNat_natCast, hb]
   refine br_ff (not_lt_dec _) ?_
   unfold region_rects_k2
   refine gd_ok (by first | omega | exact i64_of (by omega) (by omega) | (simp only [LIM, BIG, List.length_append, List.length_cons, List.length_nil, List.length_map, List.length_take, List.length_drop, List.length_set] at *; omega)) ?_
   rw [ih _ (by simpa using hI)]
   simp
 ·unfold region_rects_b0
  refine br_ff (not_lt_dec _) ?_
  simp [region_rects_k3, fl, flat]
theorem region_Build_ok {F : Nat} (hF : BIG ≤ F) {cs : List Int} {row : Int → Option (List Span)} {S : Int → Int → Bool} (hS : RowsOk S) (hst : Step [] cs fun y => spn fun x => S x y) (hc : cs.length ≤ 65536)
  (hrow : ∀ y, row y = some (spn fun x => S x y)) (hlen : ∀ y, (spn fun x => S x y).length ≤ 65536) : region_Build F cs row = some (cn S) := by
 have hF' := hF
 unfold BIG at hF
 unfold region_Build
 have fin : ∀ bands : List Band, Runs (bands.map Band.rn) → (∀ t, atR [] (bands.map Band.rn) t = spn fun x => S x t) → bands.length ≤ cs.length → (∀ b ∈ bands, b.spans_.length ≤ 65536) → region_Build_k3 F bands = some (cn S) := by
  intro bands hR hv hbl hbs
  unfold region_Build_k3
  have h1 := fl_len bands 65536 hbs
  have h2 : bands.length * 65536 ≤ 65536 * 65536 := Nat.mul_le_mul_right _ (by omega)
  refine bd_ok (region_rects_ok hF' (by omega) (by unfold LIM; omega) (fun b hb => by have := hbs b hb; omega)) ?_
  have hcn := (Step.cn hS hst (acc := (bands.map Band.rn).filter fun r => !r.v.isEmpty) (hR.filter _) (fun t => by
   rw [hR.atR_filter _ (fun r _ hr => by simpa using hr)]; exact hv t) (fun b hb => by
   have := (List.mem_filter.1 hb).2
   intro he; rw [he] at this; simp at this)).1
  rw [hcn]
  congr 1
  have : ∀ l : List (Rn (List Span)), flat l = flat (l.filter fun r => !r.v.isEmpty) := by
   intro l
   induction l with
   | nil => rfl
   | cons a l ih =>
    rw [List.filter_cons]
    have e : flat (a :: l) = flat1 a ++ flat l := rfl
    cases hv : a.v with
    | nil =>
     have : flat1 a = [] := by simp [flat1, hv]
     rw [e, this, List.nil_append, ih]; simp
    | cons s v =>
     simp only [List.isEmpty_cons, Bool.not_false, if_true]
     have e2 : flat (a :: l.filter fun r => !r.v.isEmpty) = flat1 a ++ flat (l.filter fun r => !r.v.isEmpty) := rfl
     rw [e, e2, ← ih]
  exact this _
 refine loopN_ok (fun z : Int × List Band => ∃ (i : Nat) (bands : List Band), z = ((i : Int) + 1, bands) ∧ bands.length ≤ i ∧ (∀ b ∈ bands, b.spans_.length ≤ 65536) ∧ ((cs.length = 0 ∧ i = 0) ∨ (i + 1 ≤ cs.length ∧ Bst [] (fun y => spn fun x => S x y) (bands.map Band.rn) (gl cs i))))
  (fun z => cs.length + 1 - z.1.toNat) (fun again z hz ih => ?_) ⟨0, [], rfl, Nat.le_refl _, fun b hb => (List.not_mem_nil hb).elim, ?_⟩ (by simp; omega)
 ·obtain ⟨i, bands, rfl, hbl, hbs, hcase⟩ := hz
  simp only at ih ⊢
  unfold region_Build_b0
  rcases hcase with ⟨h0, rfl⟩ | ⟨hi, hB⟩
  ·have hb0 : bands = [] := List.eq_nil_of_length_eq_zero (by omega)
   subst hb0
   refine br_ff (by simp; omega) ?_
   exact fin [] .nil (fun t => (hst.empty h0 t).symm) (by simp) (fun b hb => by cases hb)
  ·refine br_ok (fun hlt => ?_) (fun hlt => ?_)
   ·have hlt : i + 1 < cs.length := by simp at hlt; omega
    have hyk := hst.asc.at_lt (show i < i + 1 by omega) hlt
    have hgap := hst.gap i hlt
    have e1 : ((i : Int) + 1 - 1).toNat = i := by omega
    have e2 : ((i : Int) + 1).toNat = i + 1 := by omega
    rw [e1]
    refine gd_ok (by first | omega | exact i64_of (by omega) (by omega) | (simp only [LIM, BIG, List.length_append, List.length_cons, List.length_nil, List.length_map, List.length_take, List.length_drop, List.length_set] at *; omega)) ?_
    refine gd_ok (by first | omega | exact i64_of (by omega) (by omega) | (simp only [LIM, BIG, List.length_append, List.length_cons, List.length_nil, List.length_map, List.length_take, List.length_drop, List.length_set] at *; omega)) ?_
    refine gd_ok (by first | omega | exact i64_of (by omega) (by omega) | (simp only [LIM, BIG, List.length_append, List.length_cons, List.length_nil, List.length_map, List.length_take, List.length_drop, List.length_set] at *; omega)) ?_
    refine gd_ok (by first | omega | exact i64_of (by omega) (by omega) | (simp only [LIM, BIG, List.length_append, List.length_cons, List.length_nil, List.length_map, List.length_take, List.length_drop, List.length_set] at *; omega)) ?_
    refine gd_ok (by first | omega | exact i64_of (by omega) (by omega) | (simp only [LIM, BIG, List.length_append, List.length_cons, List.length_nil, List.length_map, List.length_take, List.length_drop, List.length_set] at *; omega)) ?_
    refine bd_ok (hrow _) ?_
    generalize hv : (spn fun x => S x (gl cs i)) = v at *
    have hvl : v.length ≤ 65536 := by rw [← hv]; exact hlen _
    have hnew : (∀ q, (bands.map Band.rn).getLast? = some q → q.hi = gl cs i → q.v ≠ v) → region_Build_k1 F cs ((i : Int) + 1) bands v again false = some (cn S) := by
     intro hq
     unfold region_Build_k1
     refine br_ff rfl ?_
     rw [e1, e2]
     refine gd_ok (by first | omega | exact i64_of (by omega) (by omega) | (simp only [LIM, BIG, List.length_append, List.length_cons, List.length_nil, List.length_map, List.length_take, List.length_drop, List.length_set] at *; omega)) ?_
     unfold region_Build_k2
     refine gd_ok (by first | omega | exact i64_of (by omega) (by omega) | (simp only [LIM, BIG, List.length_append, List.length_cons, List.length_nil, List.length_map, List.length_take, List.length_drop, List.length_set] at *; omega)) ?_
     refine ih _ ⟨i + 1, bands ++ [⟨gl cs i, gl cs (i + 1), v⟩], by simp, by simp; omega, fun b hb => ?_, .inr ⟨by omega, ?_⟩⟩ (by simp only; omega)
     ·rcases List.mem_append.1 hb with hb | hb
      ·exact hbs b hb
      ·rw [List.mem_singleton.1 hb]; exact hvl
     ·rw [List.map_append]
      have := hB.add hyk (fun t h1 h2 => (hgap t h1 h2).trans hv.symm) (fun a ha he => by rw [hv]; exact hq a ha he)
      rw [hv] at this
      exact this
    rcases List.eq_nil_or_concat bands with h0 | ⟨b', e, he⟩
    ·subst h0
     refine br_ff rfl ?_
     exact hnew fun q hq => by simp at hq
    ·rw [List.concat_eq_append] at he
     subst he
     have hlen2 : (b' ++ [e]).length = b'.length + 1 := by simp
     have e3 : (((b'.length + 1 : Nat) : Int) - 1).toNat = b'.length := by omega
     rw [hlen2] at hbl ⊢
     have hgle : gl (b' ++ [e]) b'.length = e := gl_last _ _ rfl
     refine br_tt (by simp) ?_
     refine gd_ok (by first | omega | exact i64_of (by omega) (by omega) | (simp only [LIM, BIG, List.length_append, List.length_cons, List.length_nil, List.length_map, List.length_take, List.length_drop, List.length_set] at *; omega)) ?_
     refine gd_ok (by first | omega | exact i64_of (by omega) (by omega) | (simp only [LIM, BIG, List.length_append, List.length_cons, List.length_nil, List.length_map, List.length_take, List.length_drop, List.length_set] at *; omega)) ?_
     rw [e3, hgle]
     by_cases hh : e.high_ = gl cs i
     ·refine br_tt (by simpa using hh) ?_
      refine gd_ok (by first | omega | exact i64_of (by omega) (by omega) | (simp only [LIM, BIG, List.length_append, List.length_cons, List.length_nil, List.length_map, List.length_take, List.length_drop, List.length_set] at *; omega)) ?_
      refine gd_ok (by first | omega | exact i64_of (by omega) (by omega) | (simp only [LIM, BIG, List.length_append, List.length_cons, List.length_nil, List.length_map, List.length_take, List.length_drop, List.length_set] at *; omega)) ?_
      refine bd_ok (slices_Equal_Span_ok hF' (by unfold LIM; omega)) ?_
      by_cases hvv : e.spans_ = v
      ·rw [decide_eq_true hvv]
       unfold region_Build_k1
       refine br_tt rfl ?_
       simp only [hlen2]
       refine gd_ok (by first | omega | exact i64_of (by omega) (by omega) | (simp only [LIM, BIG, List.length_append, List.length_cons, List.length_nil, List.length_map, List.length_take, List.length_drop, List.length_set] at *; omega)) ?_
       refine gd_ok (by first | omega | exact i64_of (by omega) (by omega) | (simp only [LIM, BIG, List.length_append, List.length_cons, List.length_nil, List.length_map, List.length_take, List.length_drop, List.length_set] at *; omega)) ?_
       rw [e3, hgle, set_last _ _ _ rfl, e2]
       unfold region_Build_k2
       refine gd_ok (by first | omega | exact i64_of (by omega) (by omega) | (simp only [LIM, BIG, List.length_append, List.length_cons, List.length_nil, List.length_map, List.length_take, List.length_drop, List.length_set] at *; omega)) ?_
       refine ih _ ⟨i + 1, b' ++ [⟨e.low_, gl cs (i + 1), e.spans_⟩], by simp, by simp; omega, fun b hb => ?_, .inr ⟨by omega, ?_⟩⟩ (by simp only; omega)
       ·rcases List.mem_append.1 hb with hb | hb
        ·exact hbs b (by simp [hb])
        ·rw [List.mem_singleton.1 hb]; exact hbs e (by simp)
       ·rw [List.map_append] at hB ⊢
        exact hB.grow (a := e.rn) hh hyk fun t h1 h2 => (hgap t h1 h2).trans hvv.symm
      ·rw [decide_eq_false hvv]
       exact hnew fun q hq _ => by rw [List.map_append] at hq; simp at hq; subst hq; exact hvv
     ·refine br_ff (by simpa using hh) ?_
      exact hnew fun q hq hqh => by rw [List.map_append] at hq; simp at hq; subst hq; exact absurd hqh hh
   ·have hlt : ¬ i + 1 < cs.length := by simp at hlt; omega
    exact fin bands hB.runs (fun t => hst.done (by omega) hB t) (by omega) hbs
 ·by_cases h0 : cs.length = 0
  ·exact .inl ⟨h0, rfl⟩
  ·exact .inr ⟨by omega, hst.start (by omega)⟩
theorem covY_cuts (ls : List (List Rect)) {l : List Rect} (h : l ∈ ls) : CovY (cuts ls) l := fun r hr => ⟨(mem_cuts ls _).2 ⟨l, h, r, hr, .inl rfl⟩, (mem_cuts ls _).2 ⟨l, h, r, hr, .inr rfl⟩⟩
theorem one_grid (l : List Rect) {ls : List (List Rect)} (h : l ∈ ls) : Grid (cutX l []) (cuts ls) (inR l) := by
 have := Grid.of (xs := cutX l []) (ys := cuts ls) (a := l) (b := []) (cut_asc l .nil) (cuts_asc ls)
  (fun r hr => ⟨(cut_mem l _ _).2 (.inr ⟨r, hr, .inl rfl⟩), (cut_mem l _ _).2 (.inr ⟨r, hr, .inr rfl⟩)⟩) (fun r hr => by cases hr) (covY_cuts ls h) (fun r hr => by cases hr) (k := fun p q => p || q) rfl
 have e : (fun x y => inR l x y || inR [] x y) = inR l := by funext x y; simp [inR]
 rwa [e] at this
theorem region_canonical_ok {F : Nat} (hF : BIG ≤ F) {l : List Rect} (hl : l.length ≤ 32768) (hpos : ∀ r ∈ l, r.left_ < r.right_) : region_canonical F l = some (cn (inR l)) := by
 unfold region_canonical
 have hG := one_grid l (ls := [l]) (by simp)
 have ht : tot [l] = l.length := by simp [tot]
 have hcl := cuts_len [l]
 refine bd_ok (region_Cuts_ok hF (by omega) (by simp)) ?_
 refine bd_ok (region_Build_ok hF hG.rows hG.step (by omega) (fun y => ?_) (fun y => ?_)) rfl
 ·unfold region_canonical_1
  exact bd_ok (region_Row_ok hF (by omega) hpos y) rfl
 ·have := (hG.x y).spn_len
  have h2 := cutX_small (l := l)
  omega
theorem slices_IndexFunc_Rect_ok {F : Nat} (hF : BIG ≤ F) {l : List Rect} {q : Rect → Option Bool} (p : Rect → Bool) (hl : l.length ≤ 1000000000) (hq : ∀ r ∈ l, q r = some (p r)) : ∃ i : Int, slices_IndexFunc_Rect F l q = some i ∧ (0 ≤ i ↔ l.any p = true) := by
 unfold BIG at hF
 have key : ∀ (n i : Nat), i ≤ l.length → l.length - i < n → ∃ r : Int, loopN (fun again (z : Int) => slices_IndexFunc_Rect_b0 F l q again z) n (i : Int) = some r ∧ (0 ≤ r ↔ (l.drop i).any p = true) := by
  intro n
  induction n with
  | zero => intro i _ h; omega
  | succ n ih =>
   intro i hi hn
   have hu : loopN (fun again (z : Int) => slices_IndexFunc_Rect_b0 F l q again z) (n + 1) (i : Int) = slices_IndexFunc_Rect_b0 F l q (loopN (fun again (z : Int) => slices_IndexFunc_Rect_b0 F l q again z) n) (i : Int) := rfl
   rw [hu]
   by_cases h : i < l.length
   ·rw [any_drop h]
    by_cases hp : p (gl l i) = true
    ·refine ⟨i, ?_, by rw [hp]; simp⟩
     unfold slices_IndexFunc_Rect_b0
     refine br_tt (lt_dec h) ?_
     refine gd_ok (by first | omega | exact i64_of (by omega) (by omega) | (simp only [LIM, BIG, List.length_append, List.length_cons, List.length_nil, List.length_map, List.length_take, List.length_drop, List.length_set] at *; omega)) ?_
     exact bd_ok (hq _ (gl_mem h)) (br_tt hp rfl)
    ·have hp : p (gl l i) = false := by simpa using hp
     obtain ⟨r, hr, hr2⟩ := ih (i + 1) h (by omega)
     refine ⟨r, ?_, by rw [hr2, hp]; simp⟩
     unfold slices_IndexFunc_Rect_b0
     refine br_tt (lt_dec h) ?_
     refine gd_ok (by first | omega | exact i64_of (by omega) (by omega) | (simp only [LIM, BIG, List.length_append, List.length_cons, List.length_nil, List.length_map, List.length_take, List.length_drop, List.length_set] at *; omega)) ?_
     refine bd_ok (hq _ (gl_mem h)) (br_ff hp ?_)
     refine gd_ok (by first | omega | exact i64_of (by omega) (by omega) | (simp only [LIM, BIG, List.length_append, List.length_cons, List.length_nil, List.length_map, List.length_take, List.length_drop, List.length_set] at *; omega)) ?_
     exact hr
   ·have : i = l.length := by omega
    subst this
    refine ⟨-1, ?_, by simp⟩
    unfold slices_IndexFunc_Rect_b0
    exact br_ff (not_lt_dec _) rfl
 obtain ⟨r, h1, h2⟩ := key F 0 (Nat.zero_le _) (by omega)
 exact ⟨r, h1, by simpa using h2⟩
theorem slices_ContainsFunc_Rect_ok {F : Nat} (hF : BIG ≤ F) {l : List Rect} {q : Rect → Option Bool} (p : Rect → Bool) (hl : l.length ≤ 1000000000) (hq : ∀ r ∈ l, q r = some (p r)) : slices_ContainsFunc_Rect F l q = some (l.any p) := by
 obtain ⟨i, h1, h2⟩ := slices_IndexFunc_Rect_ok hF p hl hq
 unfold slices_ContainsFunc_Rect
 refine bd_ok h1 ?_
 congr 1
 rw [Bool.eq_iff_iff, ← h2, decide_eq_true_iff]
theorem region_proper_ok (F : Nat) (r : Rect) : region_proper F r = some (propB r) := by
 unfold region_proper
 rw [and_br (region_proper_k0 F), and_br (region_proper_k0 F), and_br (region_proper_k0 F), and_br (region_proper_k0 F), and_br (region_proper_k0 F)]
 rfl
theorem region_Valid_ok {F : Nat} (hF : BIG ≤ F) (a : Region) : region_Valid F a = some (valB a.rects_) := by
 obtain ⟨l⟩ := a
 simp only
 unfold region_Valid
 have hF' := hF
 unfold BIG at hF
 refine br_ok (fun h => ?_) (fun h => ?_)
 ·have h : 120 < l.length := by simp at h; omega
  rw [valB_false fun hv => by have := hv.1; omega]; rfl
 ·have h : l.length ≤ 120 := by simp at h; omega
  refine bd_ok (slices_ContainsFunc_Rect_ok hF' (fun r => !propB r) (by simp only; omega) (fun r _ => by unfold region_Valid_1; rw [region_proper_ok]; rfl)) ?_
  unfold region_Valid_k0
  refine br_ok (fun hb => ?_) (fun hb => ?_)
  ·rw [valB_false fun hv => ?_]
   simp only [List.any_eq_true] at hb
   obtain ⟨r, hr, h2⟩ := hb
   rw [hv.2.1 r hr] at h2; cases h2
  ·have hp : ∀ r ∈ l, propB r = true := by
    intro r hr
    have := List.any_eq_false.1 hb r hr
    simpa using this
   refine bd_ok (region_canonical_ok hF' (by simp only; omega) (fun r hr => ((propB_iff r).1 (hp r hr)).2.1)) ?_
   refine bd_ok (slices_Equal_Rect_ok hF' (by unfold LIM; simp only; omega)) ?_
   simp only
   by_cases hc : cn (inR l) = l
   ·rw [decide_eq_true hc, valB_true ⟨h, hp, (canon_iff l).2 hc⟩]
   ·rw [decide_eq_false hc, valB_false fun hv => hc ((canon_iff l).1 hv.2.2)]
end Go.Ab
end

section
namespace Go.Ab
set_option maxRecDepth 20000
def idxI {α : Type} (p : α → Bool) (l : List α) : Int := if l.any p then (l.findIdx p : Int) else -1
theorem findIdx_go {α : Type} [Emb α] {l : List α} {p : α → Bool} {i : Nat} (h : i < l.length) (hb : ∀ j, j < i → p (gl l j) = false) (hi : p (gl l i) = true) : l.findIdx p = i := by
 induction l generalizing i with
 | nil => simp at h
 | cons a l ih =>
  rw [List.findIdx_cons]
  cases i with
  | zero =>
   have : p a = true := hi
   rw [this]; rfl
  | succ i =>
   have h0 : p a = false := hb 0 (by omega)
   rw [h0]
   have := ih (i := i) (by simpa using h) (fun j hj => hb (j + 1) (by omega)) hi
   simp [this]
theorem any_of_before {α : Type} [Emb α] {l : List α} {p : α → Bool} (h : ∀ j, j < l.length → p (gl l j) = false) : l.any p = false := by
 rw [List.any_eq_false]
 intro x hx
 obtain ⟨j, hj, rfl⟩ := List.getElem_of_mem hx
 have := h j hj
 rw [gl_lt hj] at this
 simpa using this
end Go.Ab
end

section
namespace Go.Ab
set_option maxRecDepth 20000
noncomputable def oneC (f : Feature) : Int :=
 if f.number_ < 1 ∨ 1073741824 < f.number_ then 2 else if f.kind_ < 0 ∨ 15 < f.kind_ then 14 else if f.from_ < 0 ∨ f.until_ ≤ f.from_ ∨ 36865 < f.until_ then 9
 else if f.region_.rects_.length = 0 ∨ valB f.region_.rects_ = false then 7 else 0
theorem oneC_zero (f : Feature) : oneC f = 0 ↔ 1 ≤ f.number_ ∧ f.number_ ≤ 1073741824 ∧ 0 ≤ f.kind_ ∧ f.kind_ ≤ 15 ∧ 0 ≤ f.from_ ∧ f.from_ < f.until_ ∧ f.until_ ≤ 36865 ∧ f.region_.rects_.length ≠ 0 ∧ Val f.region_.rects_ := by
 unfold oneC
 rw [← valB_iff]
 by_cases h1 : f.number_ < 1 ∨ 1073741824 < f.number_
 ·rw [if_pos h1]; simp; omega
 ·rw [if_neg h1]
  by_cases h2 : f.kind_ < 0 ∨ 15 < f.kind_
  ·rw [if_pos h2]; simp; omega
  ·rw [if_neg h2]
   by_cases h3 : f.from_ < 0 ∨ f.until_ ≤ f.from_ ∨ 36865 < f.until_
   ·rw [if_pos h3]; simp; omega
   ·rw [if_neg h3]
    by_cases h4 : f.region_.rects_.length = 0 ∨ valB f.region_.rects_ = false
    ·rw [if_pos h4]
     constructor
     ·intro h; cases h
     ·rintro ⟨_, _, _, _, _, _, _, h5, h6⟩
      rcases h4 with h4 | h4
      ·exact absurd h4 h5
      ·rw [h6] at h4; cases h4
    ·rw [if_neg h4]
     refine ⟨fun _ => ?_, fun _ => rfl⟩
     have h5 : f.region_.rects_.length ≠ 0 := fun h => h4 (.inl h)
     have h6 : valB f.region_.rects_ = true := by
      cases hv : valB f.region_.rects_ with
      | true => rfl
      | false => exact absurd (.inr hv) h4
     refine ⟨by omega, by omega, by omega, by omega, by omega, by omega, by omega, h5, h6⟩
theorem ref04_Same_ok {F : Nat} (hF : BIG ≤ F) {a b : Region} (h : b.rects_.length ≤ LIM) : ref04_Same F a b = some (decide (a.rects_ = b.rects_)) := by
 unfold ref04_Same
 exact bd_ok (ref04_Rects_ok hF h) rfl
end Go.Ab
end

section
namespace Go.Ab
set_option maxRecDepth 20000
structure TOk (t : Tape) : Prop where
 at_ : 0 ≤ t.at_
 len : t.l_.length ≤ 400
theorem keep_Mod_ok {F : Nat} (a : Int) {n : Int} (h1 : 1 ≤ n) (h2 : n ≤ 1099511627776) : ∃ k, keep_Mod F a n = some k ∧ 0 ≤ k ∧ k < n := by
 have b1 := Int.tmod_lt_of_pos a (show 0 < n by omega)
 have b2 := Int.lt_tmod_of_pos a (show 0 < n by omega)
 unfold keep_Mod
 generalize a.tmod n = m at *
 by_cases h : m < 0
 ·refine ⟨m + n, ?_, by omega, by omega⟩
  refine br_ff (by simp; omega) ?_
  refine gd_ok (by first | omega | exact i64_of (by omega) (by omega) | (simp only [LIM, BIG, List.length_append, List.length_cons, List.length_nil, List.length_map, List.length_take, List.length_drop, List.length_set] at *; omega)) ?_
  refine br_tt (by simpa using h) ?_
  refine gd_ok (by first | omega | exact i64_of (by omega) (by omega) | (simp only [LIM, BIG, List.length_append, List.length_cons, List.length_nil, List.length_map, List.length_take, List.length_drop, List.length_set] at *; omega)) ?_
  rfl
 ·refine ⟨m, ?_, by omega, by omega⟩
  refine br_ff (by simp; omega) ?_
  refine gd_ok (by first | omega | exact i64_of (by omega) (by omega) | (simp only [LIM, BIG, List.length_append, List.length_cons, List.length_nil, List.length_map, List.length_take, List.length_drop, List.length_set] at *; omega)) ?_
  exact br_ff (by simpa using h) rfl
theorem keep_Tape_Next_ok {F : Nat} {t : Tape} (ht : TOk t) {n : Int} (h1 : 1 ≤ n) (h2 : n ≤ 1099511627776) : ∃ t' k, keep_Tape_Next F t n = some (t', k) ∧ TOk t' ∧ 0 ≤ k ∧ k < n := by
 obtain ⟨a, b⟩ := ht
 unfold keep_Tape_Next
 by_cases h : (t.l_.length : Int) ≤ t.at_
 ·exact ⟨t, 0, br_tt (by simpa using h) rfl, ⟨a, b⟩, by omega, by omega⟩
 ·obtain ⟨k, hk, k1, k2⟩ := keep_Mod_ok (F := F) (gl t.l_ ((t.at_ + 1) - 1).toNat) h1 h2
  refine ⟨⟨t.l_, t.at_ + 1⟩, k, ?_, ⟨by simp only; omega, b⟩, k1, k2⟩
  refine br_ff (by simpa using h) ?_
  refine gd_ok (by first | omega | exact i64_of (by omega) (by omega) | (simp only [LIM, BIG, List.length_append, List.length_cons, List.length_nil, List.length_map, List.length_take, List.length_drop, List.length_set] at *; omega)) ?_
  refine gd_ok (by first | omega | exact i64_of (by omega) (by omega) | (simp only [LIM, BIG, List.length_append, List.length_cons, List.length_nil, List.length_map, List.length_take, List.length_drop, List.length_set] at *; omega)) ?_
  refine gd_ok (by first | omega | exact i64_of (by omega) (by omega) | (simp only [LIM, BIG, List.length_append, List.length_cons, List.length_nil, List.length_map, List.length_take, List.length_drop, List.length_set] at *; omega)) ?_
  exact bd_ok hk rfl
def Box (n : Int) (l : List Rect) : Prop := ∀ r ∈ l, 0 ≤ r.left_ ∧ r.left_ < r.right_ ∧ r.right_ ≤ n ∧ 0 ≤ r.low_ ∧ r.low_ < r.high_ ∧ r.high_ ≤ n
theorem Box.prop {n : Int} {l : List Rect} (h : Box n l) (hn : n ≤ 16384) : ∀ r ∈ l, propB r = true := fun r hr => (propB_iff r).2 (by have := h r hr; omega)
theorem Box.in {n : Int} {l : List Rect} (h : Box n l) {x y : Int} (hx : inR l x y = true) : 0 ≤ x ∧ x < n ∧ 0 ≤ y ∧ y < n := by
 obtain ⟨r, hr, h2⟩ := List.any_eq_true.1 hx
 rw [has_iff] at h2
 have := h r hr
 omega
theorem flat_mem {l : List (Rn (List Span))} {r : Rect} (h : r ∈ flat l) : ∃ b ∈ l, ∃ s ∈ b.v, r = ⟨s.left_, b.lo, s.right_, b.hi⟩ := by
 obtain ⟨b, hb, h2⟩ := List.mem_flatMap.1 h
 obtain ⟨s, hs, rfl⟩ := List.mem_map.1 h2
 exact ⟨b, hb, s, hs, rfl⟩
theorem Canon.pos {l : List Rect} (h : Canon l) {r : Rect} (hr : r ∈ l) : r.left_ < r.right_ ∧ r.low_ < r.high_ := by
 obtain ⟨b, hb, rfl⟩ := h
 obtain ⟨c, hc, s, hs, rfl⟩ := flat_mem hr
 exact ⟨(hb.sp c hc).pos s hs, hb.runs.pos c hc⟩
theorem inR_mem {l : List Rect} {r : Rect} (hr : r ∈ l) {x y : Int} (h : r.has x y = true) : inR l x y = true := List.any_eq_true.2 ⟨r, hr, h⟩
theorem Canon.box {l : List Rect} (h : Canon l) {n : Int} (hn : ∀ x y, inR l x y = true → 0 ≤ x ∧ x < n ∧ 0 ≤ y ∧ y < n) : Box n l := by
 intro r hr
 obtain ⟨h1, h2⟩ := h.pos hr
 have a := hn r.left_ r.low_ (inR_mem hr ((has_iff _ _ _).2 (by omega)))
 have b := hn (r.right_ - 1) (r.high_ - 1) (inR_mem hr ((has_iff _ _ _).2 (by omega)))
 omega
theorem box_cn {S : Int → Int → Bool} (hf : Fin S) {n : Int} (hn : ∀ x y, S x y = true → 0 ≤ x ∧ x < n ∧ 0 ≤ y ∧ y < n) : Box n (cn S) :=
 (Canon.cn hf).box fun x y h => hn x y (by rwa [inR_cn hf] at h)
theorem canon_nil : Canon [] := ⟨[], ⟨.nil, fun b hb => (List.not_mem_nil hb).elim, fun b hb => (List.not_mem_nil hb).elim⟩, rfl⟩
theorem canon_one {r : Rect} (h1 : r.left_ < r.right_) (h2 : r.low_ < r.high_) : Canon [r] :=
 ⟨[⟨r.low_, r.high_, [⟨r.left_, r.right_⟩]⟩], ⟨⟨fun b hb => by rw [List.mem_singleton.1 hb]; exact h2, List.pairwise_singleton _ _⟩, fun b hb => by
  rw [List.mem_singleton.1 hb]
  exact ⟨fun s hs => by rw [List.mem_singleton.1 hs]; exact h1, List.pairwise_singleton _ _⟩, fun b hb => by rw [List.mem_singleton.1 hb]; simp⟩, rfl⟩
theorem box_nil (n : Int) : Box n [] := fun r hr => (List.not_mem_nil hr).elim
theorem Val.nil : Val [] := ⟨by simp, fun r hr => (List.not_mem_nil hr).elim, canon_nil⟩
theorem keep_Tape_Rect_ok {F : Nat} {t : Tape} (ht : TOk t) {n : Int} (h1 : 1 ≤ n) (h2 : n ≤ 16384) : ∃ t' r, keep_Tape_Rect F t n = some (t', r) ∧ TOk t' ∧ Box n [r] := by
 obtain ⟨t1, x, e1, o1, x1, x2⟩ := keep_Tape_Next_ok (F := F) ht (n := n) (by omega) (by omega)
 obtain ⟨t2, y, e2, o2, y1, y2⟩ := keep_Tape_Next_ok (F := F) o1 (n := n) (by omega) (by omega)
 obtain ⟨t3, u, e3, o3, u1, u2⟩ := keep_Tape_Next_ok (F := F) o2 (n := n - x) (by omega) (by omega)
 obtain ⟨t4, v, e4, o4, v1, v2⟩ := keep_Tape_Next_ok (F := F) o3 (n := n - y) (by omega) (by omega)
 refine ⟨t4, ⟨x, y, (x + 1) + u, (y + 1) + v⟩, ?_, o4, fun r hr => ?_⟩
 ·unfold keep_Tape_Rect
  refine bd_ok e1 ?_
  refine bd_ok e2 ?_
  simp only
  refine gd_ok (by first | omega | exact i64_of (by omega) (by omega) | (simp only [LIM, BIG, List.length_append, List.length_cons, List.length_nil, List.length_map, List.length_take, List.length_drop, List.length_set] at *; omega)) ?_
  refine gd_ok (by first | omega | exact i64_of (by omega) (by omega) | (simp only [LIM, BIG, List.length_append, List.length_cons, List.length_nil, List.length_map, List.length_take, List.length_drop, List.length_set] at *; omega)) ?_
  refine bd_ok e3 ?_
  simp only
  refine gd_ok (by first | omega | exact i64_of (by omega) (by omega) | (simp only [LIM, BIG, List.length_append, List.length_cons, List.length_nil, List.length_map, List.length_take, List.length_drop, List.length_set] at *; omega)) ?_
  refine gd_ok (by first | omega | exact i64_of (by omega) (by omega) | (simp only [LIM, BIG, List.length_append, List.length_cons, List.length_nil, List.length_map, List.length_take, List.length_drop, List.length_set] at *; omega)) ?_
  refine gd_ok (by first | omega | exact i64_of (by omega) (by omega) | (simp only [LIM, BIG, List.length_append, List.length_cons, List.length_nil, List.length_map, List.length_take, List.length_drop, List.length_set] at *; omega)) ?_
  refine bd_ok e4 ?_
  simp only
  refine gd_ok (by first | omega | exact i64_of (by omega) (by omega) | (simp only [LIM, BIG, List.length_append, List.length_cons, List.length_nil, List.length_map, List.length_take, List.length_drop, List.length_set] at *; omega)) ?_
  rfl
 ·rw [List.mem_singleton.1 hr]
  simp only
  omega
structure RegT (n : Int) (a : Region) : Prop where
 box : Box n a.rects_
 val : Val a.rects_
theorem keep_Tape_Region_ok {F : Nat} (hF : BIG ≤ F) {t : Tape} (ht : TOk t) {n most : Int} (h1 : 1 ≤ n) (h2 : n ≤ 16384) (m1 : 0 ≤ most) (m2 : most ≤ 100) : ∃ t' a, keep_Tape_Region F t n most = some (t', a) ∧ TOk t' ∧ RegT n a := by
 have hF' := hF
 unfold BIG at hF
 obtain ⟨t1, c, e1, o1, c1, c2⟩ := keep_Tape_Next_ok (F := F) ht (n := most + 1) (by omega) (by omega)
 have key : ∀ (k f : Nat) (t : Tape) (l : List Rect), k < f → TOk t → Box n l → l.length + k ≤ 100 → ∃ t' a, loopN (fun again (z : Int × List Int × Int × List Rect) => keep_Tape_Region_b0 F n again z.1 z.2.1 z.2.2.1 z.2.2.2) f ((k : Int), t.l_, t.at_, l) = some (t', a) ∧ TOk t' ∧ RegT n a := by
  intro k
  induction k with
  | zero =>
   intro f t l hf ht hl hk
   cases f with
   | zero => omega
   | succ f =>
    have hof := ref04_Of_ok hF' (l := l) (by omega) (hl.prop h2)
    refine ⟨⟨t.l_, t.at_⟩, (if 120 < (cn (inR l)).length then ((⟨[]⟩ : Region), (1 : Int)) else (⟨cn (inR l)⟩, 0)).1, ?_, ht, ?_⟩
    ·show keep_Tape_Region_b0 F n _ 0 t.l_ t.at_ l = _
     unfold keep_Tape_Region_b0
     refine br_ff rfl ?_
     unfold keep_Tape_Region_k1
     exact bd_ok hof rfl
    ·split
     ·exact ⟨box_nil _, Val.nil⟩
     ·rename_i hlen
      have hb : Box n (cn (inR l)) := box_cn (fin_inR l) fun x y h => hl.in h
      exact ⟨hb, by simp only; omega, hb.prop h2, Canon.cn (fin_inR l)⟩
  | succ k ih =>
   intro f t l hf ht hl hk
   cases f with
   | zero => omega
   | succ f =>
    obtain ⟨t', r, er, ho, hr⟩ := keep_Tape_Rect_ok (F := F) ht h1 h2
    obtain ⟨t2, a, ea, ha, hb⟩ := ih f t' (l ++ [r]) (by omega) ho (fun q hq => by
     rcases List.mem_append.1 hq with hq | hq
     ·exact hl q hq
     ·exact hr q hq) (by simp; omega)
    refine ⟨t2, a, ?_, ha, hb⟩
    show keep_Tape_Region_b0 F n _ ((k + 1 : Nat) : Int) t.l_ t.at_ l = _
    unfold keep_Tape_Region_b0
    refine br_tt (by simp) ?_
    refine bd_ok er ?_
    refine gd_ok (by first | omega | exact i64_of (by omega) (by omega) | (simp only [LIM, BIG, List.length_append, List.length_cons, List.length_nil, List.length_map, List.length_take, List.length_drop, List.length_set] at *; omega)) ?_
    refine gd_ok (by first | omega | exact i64_of (by omega) (by omega) | (simp only [LIM, BIG, List.length_append, List.length_cons, List.length_nil, List.length_map, List.length_take, List.length_drop, List.length_set] at *; omega)) ?_
    have : ((k + 1 : Nat) : Int) - 1 = (k : Int) := by omega
    rw [this]
    exact ea
 obtain ⟨t', a, ea, ha, hb⟩ := key c.toNat F t1 [] (by omega) o1 (box_nil _) (by simp; omega)
 refine ⟨t', a, ?_, ha, hb⟩
 unfold keep_Tape_Region
 refine gd_ok (by first | omega | exact i64_of (by omega) (by omega) | (simp only [LIM, BIG, List.length_append, List.length_cons, List.length_nil, List.length_map, List.length_take, List.length_drop, List.length_set] at *; omega)) ?_
 refine bd_ok e1 ?_
 have : (c.toNat : Int) = c := by omega
 rw [this] at ea
 exact ea
structure FeaT (f : Feature) : Prop where
 kind : 0 ≤ f.kind_ ∧ f.kind_ ≤ 15
 from_ : 0 ≤ f.from_ ∧ f.from_ < 20
 until_ : f.from_ < f.until_ ∧ f.until_ ≤ f.from_ + 30
 reg : RegT 9 f.region_
 ne : f.region_.rects_.length ≠ 0
theorem FeaT.one {f : Feature} (h : FeaT f) (h1 : 1 ≤ f.number_) (h2 : f.number_ ≤ 1073741824) : oneC f = 0 :=
 (oneC_zero f).2 ⟨h1, h2, h.kind.1, h.kind.2, h.from_.1, h.until_.1, by have := h.from_; have := h.until_; omega, h.ne, h.reg.val⟩
theorem keep_New_ok (F : Nat) (l : List Int) : ∃ t, keep_New F l = some t ∧ TOk t := by
 unfold keep_New
 have h : gmin ((l.length : Nat) : Int) 400 = ((min l.length 400 : Nat) : Int) := by unfold gmin; split <;> omega
 rw [h]
 refine ⟨⟨l.take (min l.length 400), 0⟩, ?_, by simp only; omega, by simp; omega⟩
 refine gd_ok (by first | omega | exact i64_of (by omega) (by omega) | (simp only [LIM, BIG, List.length_append, List.length_cons, List.length_nil, List.length_map, List.length_take, List.length_drop, List.length_set] at *; omega)) ?_
 simp
end Go.Ab
end

section
namespace Go.Ab
set_option maxRecDepth 20000
end Go.Ab
end

section
namespace Go.Ab
set_option maxRecDepth 20000
theorem for_ok {R : Type} {body : (Int → Option R) → Int → Option R} {y : Option R} (N : Nat)
  (step : ∀ again (i : Nat), i < N → again ((i : Int) + 1) = y → body again (i : Int) = y) (stop : ∀ again, body again (N : Int) = y) {F : Nat} (hF : N < F) : loopN body F 0 = y := by
 refine loopN_ok (fun z : Int => ∃ i : Nat, z = i ∧ i ≤ N) (fun z => N - z.toNat) (fun again z hz ih => ?_) ⟨0, rfl, Nat.zero_le _⟩ (by simp; omega)
 obtain ⟨i, rfl, hi⟩ := hz
 rcases Nat.lt_or_ge i N with h | h
 ·exact step again i h (ih _ ⟨i + 1, by omega, h⟩ (by omega))
 ·have : i = N := by omega
  subst this; exact stop again
theorem Runs.len {α : Type} {l : List (Rn α)} (h : Runs l) {n : Int} : ∀ {a : Int}, a ≤ n → (∀ r ∈ l, a ≤ r.lo ∧ r.hi ≤ n) → (l.length : Int) ≤ n - a := by
 induction l with
 | nil => intro a ha _; simp; omega
 | cons r l ih =>
  intro a ha hb
  have h1 := hb r (by simp)
  have h2 := h.pos r (by simp)
  have := ih h.tail (a := r.hi) (by omega) fun q hq => ⟨(h.head q hq).1, (hb q (by simp [hq])).2⟩
  rw [List.length_cons]
  omega
theorem Canon.len {l : List Rect} (hc : Canon l) {n : Nat} (hb : Box n l) : l.length ≤ n * n := by
 obtain ⟨b, hB, rfl⟩ := hc
 have hne : ∀ c ∈ b, ∃ s, s ∈ c.v := fun c hc => List.exists_mem_of_ne_nil _ (hB.ne c hc)
 have hmem : ∀ c ∈ b, ∀ s ∈ c.v, (⟨s.left_, c.lo, s.right_, c.hi⟩ : Rect) ∈ flat b := fun c hc s hs => List.mem_flatMap.2 ⟨c, hc, List.mem_map.2 ⟨s, hs, rfl⟩⟩
 have h1 : (b.length : Int) ≤ n - 0 := hB.runs.len (by omega) fun c hc => by
  obtain ⟨s, hs⟩ := hne c hc
  have := hb _ (hmem c hc s hs)
  simp only at this
  omega
 have h2 : ∀ c ∈ b, c.v.length ≤ n := fun c hc => by
  have := (hB.sp c hc).runs.len (n := n) (a := 0) (by omega) fun r hr => by
   obtain ⟨s, hs, rfl⟩ := List.mem_map.1 hr
   have := hb _ (hmem c hc s hs)
   simp only [Span.rn] at this ⊢
   omega
  simp at this
  omega
 have h3 : ∀ b : List (Rn (List Span)), (∀ c ∈ b, c.v.length ≤ n) → (flat b).length ≤ b.length * n := by
  intro b hb
  induction b with
  | nil => simp [flat]
  | cons c b ih =>
   have e : flat (c :: b) = flat1 c ++ flat b := rfl
   have := ih fun d hd => hb d (by simp [hd])
   have h4 := hb c (by simp)
   rw [e, List.length_append, flat1_len, List.length_cons, Nat.add_mul]
   omega
 have h5 := h3 b h2
 have h6 : b.length * n ≤ n * n := Nat.mul_le_mul_right _ (by omega)
 omega
theorem cn_nil_iff {S : Int → Int → Bool} (h : Fin S) : cn S = [] ↔ ∀ x y, S x y = false := by
 constructor
 ·intro e x y
  rw [← inR_cn h, e]; rfl
 ·intro e
  exact cn_eq (l := []) ⟨.nil, fun b hb => (List.not_mem_nil hb).elim, fun b hb => (List.not_mem_nil hb).elim⟩ fun x y => (e x y).symm
def ovB (r s : Rect) : Bool := decide (r.left_ < s.right_) && (decide (s.left_ < r.right_) && (decide (r.low_ < s.high_) && decide (s.low_ < r.high_)))
theorem region_overlap_ok (F : Nat) (r s : Rect) : region_overlap F r s = some (ovB r s) := by
 unfold region_overlap
 rw [and_br (region_overlap_k0 F), and_br (region_overlap_k0 F), and_br (region_overlap_k0 F)]
 rfl
def ovL (a b : List Rect) : Bool := a.any fun r => b.any fun s => ovB r s
theorem ovB_iff {r s : Rect} (hr : propB r = true) (hs : propB s = true) : ovB r s = true ↔ ∃ x y, r.has x y = true ∧ s.has x y = true := by
 rw [propB_iff] at hr hs
 simp only [has_iff]
 constructor
 ·intro h
  simp only [ovB, Bool.and_eq_true, decide_eq_true_eq] at h
  refine ⟨max r.left_ s.left_, max r.low_ s.low_, ?_⟩
  omega
 ·rintro ⟨x, y, h⟩
  simp only [ovB, Bool.and_eq_true, decide_eq_true_eq]
  omega
theorem inR_iff (l : List Rect) (x y : Int) : inR l x y = true ↔ ∃ r ∈ l, r.has x y = true := by unfold inR; rw [List.any_eq_true]
theorem ovL_iff {a b : List Rect} (ha : ∀ r ∈ a, propB r = true) (hb : ∀ r ∈ b, propB r = true) : ovL a b = true ↔ ∃ x y, inR a x y = true ∧ inR b x y = true := by
 simp only [ovL, List.any_eq_true, inR_iff]
 constructor
 ·rintro ⟨r, hr, s, hs, h⟩
  obtain ⟨x, y, h1, h2⟩ := (ovB_iff (ha r hr) (hb s hs)).1 h
  exact ⟨x, y, ⟨r, hr, h1⟩, ⟨s, hs, h2⟩⟩
 ·rintro ⟨x, y, ⟨r, hr, h1⟩, ⟨s, hs, h2⟩⟩
  exact ⟨r, hr, s, hs, (ovB_iff (ha r hr) (hb s hs)).2 ⟨x, y, h1, h2⟩⟩
noncomputable def meetB (a b : Region) : Bool := valB a.rects_ && (valB b.rects_ && ovL a.rects_ b.rects_)
theorem region_Meets_ok {F : Nat} (hF : BIG ≤ F) (a b : Region) : region_Meets F a b = some (meetB a b) := by
 unfold region_Meets meetB
 refine bd_ok (region_Valid_ok hF a) ?_
 refine br_ok (fun h => ?_) (fun h => by rw [h]; rfl)
 refine bd_ok (region_Valid_ok hF b) ?_
 refine br_ok (fun h2 => ?_) (fun h2 => by rw [h, h2]; rfl)
 have hv := ((valB_iff _).1 h).1
 have hv2 := ((valB_iff _).1 h2).1
 refine bd_ok (slices_ContainsFunc_Rect_ok hF (fun r => b.rects_.any fun s => ovB r s) (by omega) fun r _ => ?_) ?_
 ·unfold region_Meets_1
  refine bd_ok (slices_ContainsFunc_Rect_ok hF (fun s => ovB r s) (by omega) fun s _ => ?_) rfl
  unfold region_Meets_1_1
  rw [region_overlap_ok]; rfl
 ·rw [h, h2]; rfl
theorem ref04_Meets_ok {F : Nat} (hF : BIG ≤ F) (a b : Region) : ref04_Meets F a b = some (meetB a b) := by
 unfold ref04_Meets meetB
 refine bd_ok (ref04_Valid_ok hF a) ?_
 refine br_ok (fun h => ?_) (fun h => by rw [h]; rfl)
 refine bd_ok (ref04_Valid_ok hF b) ?_
 refine br_ok (fun h2 => ?_) (fun h2 => by rw [h, h2]; rfl)
 have hv := (valB_iff _).1 h
 have hv2 := (valB_iff _).1 h2
 have l1 := hv.1
 have l2 := hv2.1
 refine bd_ok (ref04_Combine_small hF (by omega)) ?_
 unfold ref04_Meets_k0
 rw [h, h2]
 show some _ = some (ovL a.rects_ b.rects_)
 congr 1
 rw [Bool.eq_iff_iff, decide_eq_true_iff, ovL_iff hv.2.1 hv2.2.1]
 have hn := cn_nil_iff (fin_comb a.rects_ b.rects_ 2)
 have e : ∀ x y, keepB (inR a.rects_ x y) (inR b.rects_ x y) 2 = true ↔ inR a.rects_ x y = true ∧ inR b.rects_ x y = true := fun x y => by simp [keepB]
 constructor
 ·intro h0
  refine Classical.byContradiction fun hh => ?_
  have : cn (fun x y => keepB (inR a.rects_ x y) (inR b.rects_ x y) 2) = [] := hn.2 fun x y => by
   rw [← Bool.not_eq_true, e]
   exact fun hq => hh ⟨x, y, hq⟩
  rw [this] at h0
  simp at h0
 ·rintro ⟨x, y, hq⟩
  rcases Nat.eq_zero_or_pos (cn fun x y => keepB (inR a.rects_ x y) (inR b.rects_ x y) 2).length with h0 | h0
  ·have := hn.1 (List.eq_nil_of_length_eq_zero h0) x y
   rw [(e x y).2 hq] at this
   cases this
  ·omega
theorem region_Limited_ok (F : Nat) (l : List Rect) : region_Limited F l = some (if 120 < l.length then (⟨[]⟩, 1) else (⟨l⟩, 0)) := by
 unfold region_Limited
 refine br_ok (fun h => ?_) (fun h => ?_)
 ·have h : 120 < l.length := by simp at h; omega
  rw [if_pos h]
 ·have h : ¬ 120 < l.length := by simp at h; omega
  rw [if_neg h]
end Go.Ab
end

section
namespace Go.Ab
set_option maxRecDepth 20000
theorem slices_Concat_Span_two {F : Nat} (hF : BIG ≤ F) {a b : List Span} (ha : a.length ≤ 1000000) (hb : b.length ≤ 1000000) : slices_Concat_Span F [a, b] = some (a ++ b) := by
 unfold BIG at hF
 obtain ⟨m, rfl⟩ : ∃ m, F = m + 3 := ⟨F - 3, by omega⟩
 have g0 : gl [a, b] (0 : Int).toNat = a := rfl
 have g1 : gl [a, b] (1 : Int).toNat = b := rfl
 have k1 : slices_Concat_Span_k1 (m + 3) [a, b] (((a.length : Nat) : Int) + ((b.length : Nat) : Int)) = some (a ++ b) := by
  unfold slices_Concat_Span_k1
  refine bd_ok (a := []) (by unfold growN; rw [if_pos (by unfold LIM; omega)]) ?_
  show slices_Concat_Span_b2 (m + 3) [a, b] _ 0 [] = _
  unfold slices_Concat_Span_b2
  refine br_tt rfl ?_
  rw [g0]
  refine gd_ok (by first | omega | exact i64_of (by omega) (by omega) | (simp only [LIM, BIG, List.length_append, List.length_cons, List.length_nil, List.length_map, List.length_take, List.length_drop, List.length_set] at *; omega)) ?_
  refine gd_ok (by simp [LIM]; omega) ?_
  refine gd_ok (by first | omega | exact i64_of (by omega) (by omega) | (simp only [LIM, BIG, List.length_append, List.length_cons, List.length_nil, List.length_map, List.length_take, List.length_drop, List.length_set] at *; omega)) ?_
  show slices_Concat_Span_b2 (m + 3) [a, b] _ 1 ([] ++ a) = _
  unfold slices_Concat_Span_b2
  refine br_tt rfl ?_
  rw [g1]
  refine gd_ok (by first | omega | exact i64_of (by omega) (by omega) | (simp only [LIM, BIG, List.length_append, List.length_cons, List.length_nil, List.length_map, List.length_take, List.length_drop, List.length_set] at *; omega)) ?_
  refine gd_ok (by simp [LIM]; omega) ?_
  refine gd_ok (by first | omega | exact i64_of (by omega) (by omega) | (simp only [LIM, BIG, List.length_append, List.length_cons, List.length_nil, List.length_map, List.length_take, List.length_drop, List.length_set] at *; omega)) ?_
  show slices_Concat_Span_b2 (m + 3) [a, b] _ 2 (([] ++ a) ++ b) = _
  unfold slices_Concat_Span_b2
  refine br_ff rfl ?_
  unfold slices_Concat_Span_k3
  simp
 show slices_Concat_Span_b0 (m + 3) [a, b] _ 0 0 = _
 unfold slices_Concat_Span_b0
 refine br_tt rfl ?_
 rw [g0]
 refine gd_ok (by first | omega | exact i64_of (by omega) (by omega) | (simp only [LIM, BIG, List.length_append, List.length_cons, List.length_nil, List.length_map, List.length_take, List.length_drop, List.length_set] at *; omega)) ?_
 refine gd_ok (by first | omega | exact i64_of (by omega) (by omega) | (simp only [LIM, BIG, List.length_append, List.length_cons, List.length_nil, List.length_map, List.length_take, List.length_drop, List.length_set] at *; omega)) ?_
 refine br_ff (by simp <;> omega) ?_
 refine gd_ok (by first | omega | exact i64_of (by omega) (by omega) | (simp only [LIM, BIG, List.length_append, List.length_cons, List.length_nil, List.length_map, List.length_take, List.length_drop, List.length_set] at *; omega)) ?_
 show slices_Concat_Span_b0 (m + 3) [a, b] _ (0 + ((a.length : Nat) : Int)) 1 = _
 unfold slices_Concat_Span_b0
 refine br_tt rfl ?_
 rw [g1]
 refine gd_ok (by first | omega | exact i64_of (by omega) (by omega) | (simp only [LIM, BIG, List.length_append, List.length_cons, List.length_nil, List.length_map, List.length_take, List.length_drop, List.length_set] at *; omega)) ?_
 refine gd_ok (by first | omega | exact i64_of (by omega) (by omega) | (simp only [LIM, BIG, List.length_append, List.length_cons, List.length_nil, List.length_map, List.length_take, List.length_drop, List.length_set] at *; omega)) ?_
 refine br_ff (by simp <;> omega) ?_
 refine gd_ok (by first | omega | exact i64_of (by omega) (by omega) | (simp only [LIM, BIG, List.length_append, List.length_cons, List.length_nil, List.length_map, List.length_take, List.length_drop, List.length_set] at *; omega)) ?_
 show slices_Concat_Span_b0 (m + 3) [a, b] _ (0 + ((a.length : Nat) : Int) + ((b.length : Nat) : Int)) 2 = _
 unfold slices_Concat_Span_b0
 refine br_ff rfl ?_
 rw [Int.zero_add]
 exact k1
theorem region_inside_ok {F : Nat} (hF : BIG ≤ F) {l : List Span} (hl : l.length ≤ 1000000) (x : Int) : region_inside F l x = some (inS l x) := by
 unfold BIG at hF
 have hIdx : ∃ i : Int, slices_IndexFunc_Span F l (fun y0 => region_inside_1 F y0 x) = some i ∧ (0 ≤ i ↔ inS l x = true) := by
  have hq : ∀ s : Span, region_inside_1 F s x = some (s.has x) := fun s => by
   unfold region_inside_1
   rw [and_br (region_inside_1_k0 F)]; rfl
  have key : ∀ (n i : Nat), i ≤ l.length → l.length - i < n → ∃ r : Int, loopN (fun again (z : Int) => slices_IndexFunc_Span_b0 F l (fun y0 => region_inside_1 F y0 x) again z) n (i : Int) = some r ∧ (0 ≤ r ↔ inS (l.drop i) x = true) := by
   intro n
   induction n with
   | zero => intro i _ h; omega
   | succ n ih =>
    intro i hi hn
    show ∃ r : Int, slices_IndexFunc_Span_b0 F l (fun y0 => region_inside_1 F y0 x) (loopN (fun again (z : Int) => slices_IndexFunc_Span_b0 F l (fun y0 => region_inside_1 F y0 x) again z) n) (i : Int) = some r ∧ _
    by_cases h : i < l.length
    ·have e : inS (l.drop i) x = ((gl l i).has x || inS (l.drop (i + 1)) x) := any_drop h fun s => s.has x
     rw [e]
     by_cases hp : (gl l i).has x = true
     ·refine ⟨i, ?_, by rw [hp]; simp⟩
      unfold slices_IndexFunc_Span_b0
      refine br_tt (lt_dec h) ?_
      refine gd_ok (by first | omega | exact i64_of (by omega) (by omega) | (simp only [LIM, BIG, List.length_append, List.length_cons, List.length_nil, List.length_map, List.length_take, List.length_drop, List.length_set] at *; omega)) ?_
      exact bd_ok (hq _) (br_tt hp rfl)
     ·have hp : (gl l i).has x = false := by simpa using hp
      obtain ⟨r, hr, hr2⟩ := ih (i + 1) h (by omega)
      refine ⟨r, ?_, by rw [hr2, hp]; simp⟩
      unfold slices_IndexFunc_Span_b0
      refine br_tt (lt_dec h) ?_
      refine gd_ok (by first | omega | exact i64_of (by omega) (by omega) | (simp only [LIM, BIG, List.length_append, List.length_cons, List.length_nil, List.length_map, List.length_take, List.length_drop, List.length_set] at *; omega)) ?_
      refine bd_ok (hq _) (br_ff hp ?_)
      refine gd_ok (by first | omega | exact i64_of (by omega) (by omega) | (simp only [LIM, BIG, List.length_append, List.length_cons, List.length_nil, List.length_map, List.length_take, List.length_drop, List.length_set] at *; omega)) ?_
      exact hr
    ·have : i = l.length := by omega
     subst this
     refine ⟨-1, ?_, by simp [inS]⟩
     unfold slices_IndexFunc_Span_b0
     exact br_ff (not_lt_dec _) rfl
  obtain ⟨r, h1, h2⟩ := key F 0 (Nat.zero_le _) (by omega)
  exact ⟨r, h1, by simpa using h2⟩
 obtain ⟨i, h1, h2⟩ := hIdx
 unfold region_inside slices_ContainsFunc_Span
 refine bd_ok (bd_ok h1 rfl) ?_
 congr 1
 rw [Bool.eq_iff_iff, ← h2, decide_eq_true_iff]
theorem merge_b2 {F : Nat} (hF : BIG ≤ F) {a b : List Span} (ha : a.length ≤ 1000000) (hb : b.length ≤ 1000000) {es : List Int} {f : Int → Bool} {k : Bool → Bool → Bool} {q : Bool → Bool → Option Bool} (hq : ∀ u v, q u v = some (k u v))
  (hst : Step false es f) (hf : ∀ x, f x = k (inS a x) (inS b x)) (hes : es.length ≤ 8000000) : loopN (fun again (z : Int × List Span) => region_merge_b2 F a b q es again z.1 z.2) F ((1 : Int), ([] : List Span)) = some (spn f) := by
 have hF' := hF
 unfold BIG at hF
 by_cases h0 : es.length = 0
 ·obtain ⟨m, rfl⟩ : ∃ m, F = m + 1 := ⟨F - 1, by omega⟩
  show region_merge_b2 (m + 1) a b q es _ 1 [] = _
  unfold region_merge_b2 region_merge_k5
  refine br_ff (by simp [h0]) ?_
  rw [spn_false (hst.empty h0)]
 ·refine loopN_ok (fun z : Int × List Span => ∃ (i : Nat) (out : List Span), z = (((i + 1 : Nat) : Int), out) ∧ i + 1 ≤ es.length ∧ Bst false f (out.map Span.rn) (gl es i) ∧ out.length ≤ i) (fun z => es.length - z.1.toNat) (fun again z hz ih => ?_) ⟨0, [], rfl, by omega, hst.start (by omega), by simp⟩ (by simp; omega)
  obtain ⟨i, out, rfl, hi, hl, hll⟩ := hz
  simp only
  unfold region_merge_b2
  refine br_ok (fun h => ?_) (fun h => ?_)
  ·have h : i + 1 < es.length := by simp at h; omega
   have e1 : (((i + 1 : Nat) : Int) - 1).toNat = i := by omega
   have e2 : ((i + 1 : Nat) : Int).toNat = i + 1 := by omega
   have hlt := hst.asc.at_lt (show i < i + 1 by omega) h
   refine gd_ok (by first | omega | exact i64_of (by omega) (by omega) | (simp only [LIM, BIG, List.length_append, List.length_cons, List.length_nil, List.length_map, List.length_take, List.length_drop, List.length_set] at *; omega)) ?_
   refine gd_ok (by first | omega | exact i64_of (by omega) (by omega) | (simp only [LIM, BIG, List.length_append, List.length_cons, List.length_nil, List.length_map, List.length_take, List.length_drop, List.length_set] at *; omega)) ?_
   rw [e1]
   refine bd_ok (region_inside_ok hF' ha _) ?_
   refine bd_ok (region_inside_ok hF' hb _) ?_
   refine bd_ok (hq _ _) ?_
   rw [← hf]
   have next : ∀ out' : List Span, Bst false f (out'.map Span.rn) (gl es (i + 1)) → out'.length ≤ i + 1 → region_merge_k4 F ((i + 1 : Nat) : Int) again out' = some (spn f) := by
    intro out' h1 h2
    unfold region_merge_k4
    refine gd_ok (by first | omega | exact i64_of (by omega) (by omega) | (simp only [LIM, BIG, List.length_append, List.length_cons, List.length_nil, List.length_map, List.length_take, List.length_drop, List.length_set] at *; omega)) ?_
    exact ih _ ⟨i + 1, out', by simp, h, h1, h2⟩ (by simp; omega)
   cases hfe : f (gl es i) with
   | false =>
    refine br_tt rfl ?_
    exact next out (hl.skip (by omega) fun t h1 h2 => (hst.gap i h t h1 h2).trans hfe) (by omega)
   | true =>
    refine br_ff rfl ?_
    rcases List.eq_nil_or_concat out with rfl | ⟨l', s, hls⟩
    ·refine br_ff rfl ?_
     unfold region_merge_k3
     refine br_ff rfl ?_
     rw [e1, e2]
     refine gd_ok (by first | omega | exact i64_of (by omega) (by omega) | (simp only [LIM, BIG, List.length_append, List.length_cons, List.length_nil, List.length_map, List.length_take, List.length_drop, List.length_set] at *; omega)) ?_
     refine gd_ok (by simp [LIM]) ?_
     refine next _ ?_ (by simp)
     have := hl.add hlt (hst.gap i h) (fun a ha => by simp at ha)
     rw [hfe] at this; exact this
    ·rw [List.concat_eq_append] at hls
     subst hls
     have el : (((l' ++ [s]).length : Nat) : Int) - 1 = ((l'.length : Nat) : Int) := by simp
     have el2 : (((l'.length : Nat) : Int)).toNat = l'.length := by omega
     refine br_tt (by simp <;> omega) ?_
     rw [el, el2]
     refine gd_ok (by first | omega | exact i64_of (by omega) (by omega) | (simp only [LIM, BIG, List.length_append, List.length_cons, List.length_nil, List.length_map, List.length_take, List.length_drop, List.length_set] at *; omega)) ?_
     refine gd_ok (by simp <;> omega) ?_
     rw [gl_last l' s rfl]
     unfold region_merge_k3
     by_cases hs : s.right_ = gl es i
     ·refine br_tt (by simp [hs]) ?_
      rw [el, el2, e2]
      refine gd_ok (by first | omega | exact i64_of (by omega) (by omega) | (simp only [LIM, BIG, List.length_append, List.length_cons, List.length_nil, List.length_map, List.length_take, List.length_drop, List.length_set] at *; omega)) ?_
      refine gd_ok (by first | omega | exact i64_of (by omega) (by omega) | (simp only [LIM, BIG, List.length_append, List.length_cons, List.length_nil, List.length_map, List.length_take, List.length_drop, List.length_set] at *; omega)) ?_
      refine gd_ok (by simp <;> omega) ?_
      rw [gl_last l' s rfl, set_last l' s _ rfl]
      refine next _ ?_ (by simp at hll ⊢; omega)
      rw [List.map_append] at hl
      have := hl.grow (a := s.rn) hs hlt fun t h1 h2 => (hst.gap i h t h1 h2).trans hfe
      rw [List.map_append]; exact this
     ·refine br_ff (by simpa using hs) ?_
      rw [e1, e2]
      refine gd_ok (by first | omega | exact i64_of (by omega) (by omega) | (simp only [LIM, BIG, List.length_append, List.length_cons, List.length_nil, List.length_map, List.length_take, List.length_drop, List.length_set] at *; omega)) ?_
      refine gd_ok (by simp [LIM] at hll ⊢; omega) ?_
      refine next _ ?_ (by simp at hll ⊢; omega)
      have := hl.add hlt (hst.gap i h) (fun a ha he => by
       rw [List.map_append] at ha
       simp at ha
       subst ha
       exact absurd he hs)
      rw [hfe] at this
      rw [List.map_append]; exact this
  ·have h : i + 1 = es.length := by simp at h; omega
   unfold region_merge_k5
   congr 1
   refine (spn_eq (.of_runs hl.runs) fun x => ?_).symm
   rw [inS_atR]; exact hst.done h hl x
def edges (l : List Span) : List Int := l.flatMap fun s => [s.left_, s.right_]
theorem edges_len (l : List Span) : (edges l).length = 2 * l.length := by
 induction l with
 | nil => rfl
 | cons s l ih => unfold edges at ih ⊢; rw [List.flatMap_cons, List.length_append, ih]; simp; omega
theorem inS_gap {l : List Span} {c : List Int} (hc : Asc c) (hm : ∀ s ∈ l, s.left_ ∈ c ∧ s.right_ ∈ c) {i : Nat} (hi : i + 1 < c.length) {t : Int} (h1 : gl c i ≤ t) (h2 : t < gl c (i + 1)) : inS l t = inS l (gl c i) := by
 unfold inS
 induction l with
 | nil => rfl
 | cons s l ih =>
  rw [List.any_cons, List.any_cons, ih fun q hq => hm q (by simp [hq])]
  congr 1
  obtain ⟨g1, g2⟩ := hm s (by simp)
  have e1 := hc.gap hi h1 h2 g1
  have e2 := hc.gap hi h1 h2 g2
  unfold Span.has
  have d1 : decide (s.left_ ≤ t) = decide (s.left_ ≤ gl c i) := by simp only [e1]
  have d2 : decide (t < s.right_) = decide (gl c i < s.right_) := by rw [decide_eq_decide]; omega
  rw [d1, d2]
theorem inS_ff {l : List Span} {t : Int} (h : ∀ s ∈ l, ¬ (s.left_ ≤ t ∧ t < s.right_)) : inS l t = false := by
 unfold inS
 rw [List.any_eq_false]
 intro s hs
 have := h s hs
 simp only [Span.has, Bool.and_eq_true, decide_eq_true_eq]
 exact this
theorem region_merge_ok {F : Nat} (hF : BIG ≤ F) {a b : List Span} (ha : a.length ≤ 1000000) (hb : b.length ≤ 1000000) {k : Bool → Bool → Bool} (hk : k false false = false) {q : Bool → Bool → Option Bool} (hq : ∀ u v, q u v = some (k u v)) :
  region_merge F a b q = some (spn fun x => k (inS a x) (inS b x)) := by
 have hF' := hF
 unfold BIG at hF
 unfold region_merge
 refine bd_ok (slices_Concat_Span_two hF' ha hb) ?_
 have hab : (a ++ b).length ≤ 2000000 := by rw [List.length_append]; omega
 refine range_st (l := a ++ b) (I := fun l s => s ++ edges l = edges (a ++ b)) (fun _ _ => some (spn fun x => k (inS a x) (inS b x))) (fun again i s hi hI ih => ?_) (fun again s hI => ?_) (by omega) rfl
 ·have hel := edges_len (a ++ b)
  have hsl : s.length + 2 ≤ (edges (a ++ b)).length := by
   rw [← hI, List.length_append, edges_len]; simp; omega
  unfold region_merge_b0
  refine br_tt (lt_dec hi) ?_
  refine gd_ok (by first | omega | exact i64_of (by omega) (by omega) | (simp only [LIM, BIG, List.length_append, List.length_cons, List.length_nil, List.length_map, List.length_take, List.length_drop, List.length_set] at *; omega)) ?_
  simp only [Int.toNat_natCast]
  refine gd_ok (by simp [LIM]; omega) ?_
  refine gd_ok (by first | omega | exact i64_of (by omega) (by omega) | (simp only [LIM, BIG, List.length_append, List.length_cons, List.length_nil, List.length_map, List.length_take, List.length_drop, List.length_set] at *; omega)) ?_
  refine ih _ ?_
  rw [← hI, List.append_assoc]; rfl
 ·have hs : s = edges (a ++ b) := by rw [← hI]; simp [edges]
  show region_merge_b0 F a b q (a ++ b) again (((a ++ b).length : Nat) : Int) s = _
  unfold region_merge_b0
  refine br_ff (not_lt_dec _) ?_
  unfold region_merge_k1
  have hel := edges_len (a ++ b)
  obtain ⟨r, er, hr1, hr2, hr3⟩ := sortI_ok (l := s) (by rw [hs]; unfold LIM; omega)
  refine bd_ok er ?_
  have hrl : r.length ≤ 4000000 := by rw [hr3, hs]; omega
  refine bd_ok (slices_Compact_int_ok hF' (by unfold LIM; omega)) ?_
  have hdl := dd_len r
  have hasc := dd_asc r hr1
  have hmem : ∀ l, l = a ∨ l = b → ∀ s ∈ l, s.left_ ∈ dd r ∧ s.right_ ∈ dd r := by
   intro l hl q hql
   have : q ∈ a ++ b := by rcases hl with rfl | rfl <;> simp [hql]
   have h2 : ∀ v, v ∈ [q.left_, q.right_] → v ∈ dd r := fun v hv => (mem_dd r v).2 ((hr2 v).2 (by rw [hs]; exact List.mem_flatMap.2 ⟨q, this, hv⟩))
   exact ⟨h2 _ (by simp), h2 _ (by simp)⟩
  refine merge_b2 hF' ha hb hq (f := fun x => k (inS a x) (inS b x)) ⟨hasc, fun i hi t h1 h2 => ?_, fun t ht => ?_, fun t ht => ?_⟩ (fun _ => rfl) (by omega)
  ·simp only [inS_gap hasc (hmem a (.inl rfl)) hi h1 h2, inS_gap hasc (hmem b (.inr rfl)) hi h1 h2]
  ·have e : ∀ l, l = a ∨ l = b → inS l t = false := fun l hl => inS_ff fun q hq => by have := ht _ (hmem l hl q hq).1; omega
   simp only [e a (.inl rfl), e b (.inr rfl), hk]
  ·have e : ∀ l, l = a ∨ l = b → inS l t = false := fun l hl => inS_ff fun q hq => by have := ht _ (hmem l hl q hq).2; omega
   simp only [e a (.inl rfl), e b (.inr rfl), hk]
theorem region_Choose_ok {F : Nat} (hF : BIG ≤ F) {a b : List Rect} (hl : a.length + b.length ≤ 16000) (ha : ∀ r ∈ a, r.left_ < r.right_) (hb : ∀ r ∈ b, r.left_ < r.right_) {k : Bool → Bool → Bool} (hk : k false false = false) {q : Bool → Bool → Option Bool} (hq : ∀ u v, q u v = some (k u v)) :
  region_Choose F a b q = some (cn fun x y => k (inR a x y) (inR b x y)) := by
 unfold region_Choose
 have hG : Grid (cutX b (cutX a [])) (cuts [a, b]) fun x y => k (inR a x y) (inR b x y) :=
  Grid.of (cut_asc b (cut_asc a .nil)) (cuts_asc _) (fun r hr => ⟨(cut_mem b _ _).2 (.inl ((cut_mem a _ _).2 (.inr ⟨r, hr, .inl rfl⟩))), (cut_mem b _ _).2 (.inl ((cut_mem a _ _).2 (.inr ⟨r, hr, .inr rfl⟩)))⟩)
   (fun r hr => ⟨(cut_mem b _ _).2 (.inr ⟨r, hr, .inl rfl⟩), (cut_mem b _ _).2 (.inr ⟨r, hr, .inr rfl⟩)⟩) (covY_cuts _ (by simp)) (covY_cuts _ (by simp)) hk
 have hA := one_grid a (ls := [a, b]) (by simp)
 have hB := one_grid b (ls := [a, b]) (by simp)
 have ht : tot [a, b] = a.length + b.length := by simp [tot]
 have hcl := cuts_len [a, b]
 have cx := cutX_small2 (a := a) (b := b)
 refine bd_ok (region_Cuts_ok hF (by omega) (by simp)) ?_
 refine bd_ok (region_Build_ok hF hG.rows hG.step (by omega) (fun y => ?_) (fun y => ?_)) rfl
 ·unfold region_Choose_1
  have la := (hA.x y).spn_len
  have lb := (hB.x y).spn_len
  have ca := cutX_small (l := a)
  have cb := cutX_small (l := b)
  refine bd_ok (region_Row_ok hF (by omega) ha y) ?_
  refine bd_ok (region_Row_ok hF (by omega) hb y) ?_
  refine bd_ok (region_merge_ok hF (by omega) (by omega) hk hq) ?_
  congr 2
  funext x
  rw [(hA.rows.sp y).2 x, (hB.rows.sp y).2 x]
 ·have := (hG.x y).spn_len
  omega
end Go.Ab
end

section
namespace Go.Ab
set_option maxRecDepth 20000
def Sm (r : Rect) : Prop := -1000000 ≤ r.left_ ∧ r.left_ ≤ 1000000 ∧ -1000000 ≤ r.low_ ∧ r.low_ ≤ 1000000 ∧ -1000000 ≤ r.right_ ∧ r.right_ ≤ 1000000 ∧ -1000000 ≤ r.high_ ∧ r.high_ ≤ 1000000
theorem sm_prop {r : Rect} (h : propB r = true) : Sm r := by
 rw [propB_iff] at h; unfold Sm; omega
def lapY (a b : Rect) : Int := gmax 0 (gmin a.high_ b.high_ - gmax a.low_ b.low_)
def lapX (a b : Rect) : Int := gmax 0 (gmin a.right_ b.right_ - gmax a.left_ b.left_)
def sideX (a b : Rect) : Bool := a.right_ == b.left_ || b.right_ == a.left_
def sideY (a b : Rect) : Bool := a.high_ == b.low_ || b.high_ == a.low_
def com (a b : Rect) : Int := (if sideX a b = true then lapY a b else 0) + (if sideY a b = true then lapX a b else 0)
theorem lapY_le {a b : Rect} (ha : Sm a) (hb : Sm b) : 0 ≤ lapY a b ∧ lapY a b ≤ 2000000 ∧ -2000000 ≤ gmin a.high_ b.high_ - gmax a.low_ b.low_ ∧ gmin a.high_ b.high_ - gmax a.low_ b.low_ ≤ 2000000 := by
 unfold Sm at ha hb
 unfold lapY gmax gmin
 repeat' split
 all_goals omega
theorem lapX_le {a b : Rect} (ha : Sm a) (hb : Sm b) : 0 ≤ lapX a b ∧ lapX a b ≤ 2000000 ∧ -2000000 ≤ gmin a.right_ b.right_ - gmax a.left_ b.left_ ∧ gmin a.right_ b.right_ - gmax a.left_ b.left_ ≤ 2000000 := by
 unfold Sm at ha hb
 unfold lapX gmax gmin
 repeat' split
 all_goals omega
theorem common_k2 {F : Nat} {a b : Rect} (ha : Sm a) (hb : Sm b) {v : Int} (h1 : 0 ≤ v) (h2 : v ≤ 2000000) (c : Bool) : shape_common_k2 F a b v c = some (v + if c = true then lapX a b else 0) := by
 obtain ⟨g1, g2, g3, g4⟩ := lapX_le ha hb
 unfold shape_common_k2
 cases c with
 | true =>
  refine br_tt rfl ?_
  refine gd_ok (i64_of (by omega) (by omega)) ?_
  show gd (I64 (v + lapX a b)) _ = _
  refine gd_ok (i64_of (by omega) (by omega)) ?_
  rfl
 | false =>
  refine br_ff rfl ?_
  show some v = some (v + 0)
  rw [Int.add_zero]
theorem common_k1 {F : Nat} {a b : Rect} (ha : Sm a) (hb : Sm b) {v : Int} (h1 : 0 ≤ v) (h2 : v ≤ 2000000) : shape_common_k1 F a b v = some (v + if sideY a b = true then lapX a b else 0) := by
 unfold shape_common_k1
 rw [common_k2 ha hb h1 h2, common_k2 ha hb h1 h2]
 unfold sideY
 cases a.high_ == b.low_ <;> rfl
theorem common_k0 {F : Nat} {a b : Rect} (ha : Sm a) (hb : Sm b) (c : Bool) : shape_common_k0 F a b c = some ((if c = true then lapY a b else 0) + if sideY a b = true then lapX a b else 0) := by
 obtain ⟨g1, g2, g3, g4⟩ := lapY_le ha hb
 unfold shape_common_k0
 cases c with
 | true =>
  refine br_tt rfl ?_
  refine gd_ok (i64_of (by omega) (by omega)) ?_
  show gd (I64 (0 + lapY a b)) _ = _
  refine gd_ok (i64_of (by omega) (by omega)) ?_
  show shape_common_k1 F a b (0 + lapY a b) = _
  rw [common_k1 ha hb (by omega) (by omega)]
  simp
 | false =>
  refine br_ff rfl ?_
  rw [common_k1 ha hb (by omega) (by omega)]
  rfl
theorem shape_common_ok (F : Nat) {a b : Rect} (ha : Sm a) (hb : Sm b) : shape_common F a b = some (com a b) := by
 unfold shape_common
 rw [common_k0 ha hb, common_k0 ha hb]
 unfold com sideX
 cases a.right_ == b.left_ <;> rfl
theorem com_nonneg {a b : Rect} (ha : Sm a) (hb : Sm b) : 0 ≤ com a b ∧ com a b ≤ 4000000 := by
 have := lapY_le ha hb
 have := lapX_le ha hb
 unfold com
 split <;> split <;> omega
def nearB (a b : Rect) : Bool := decide (0 < com a b)
theorem shape_Joined_1_ok {F : Nat} {q : List Rect} {r : Rect} {i : Nat} (hi : i < q.length) (hl : q.length ≤ 1000000) (hq : ∀ s ∈ q, Sm s) (hr : Sm r) :
  shape_Joined_1 F r q i = some (if nearB (gl q i) r = true then q ++ [r] else q, nearB (gl q i) r) := by
 unfold shape_Joined_1
 refine gd_ok (by omega) ?_
 simp only [Int.toNat_natCast]
 refine bd_ok (shape_common_ok F (hq _ (gl_mem hi)) hr) ?_
 show shape_Joined_1_k0 F r q (nearB (gl q i) r) = _
 unfold shape_Joined_1_k0
 cases nearB (gl q i) r with
 | true =>
  refine br_tt rfl ?_
  refine gd_ok (by simp [LIM]; omega) rfl
 | false => exact br_ff rfl rfl
theorem index_J {F : Nat} (hF : BIG ≤ F) {l q : List Rect} {k : Nat} (hk : k < q.length) (hl : l.length ≤ 900000) (hql : q.length ≤ 900000) (hq : ∀ s ∈ q, Sm s) (hr : ∀ r ∈ l, Sm r) :
  slices_IndexFunc_Rect_J F l q k = some (l, if l.any (nearB (gl q k)) = true then q ++ [gl l (l.findIdx (nearB (gl q k)))] else q, idxI (nearB (gl q k)) l) := by
 unfold BIG at hF
 unfold slices_IndexFunc_Rect_J
 refine loopN_ok (fun z : Int × List Rect => ∃ i : Nat, z = ((i : Int), q) ∧ i ≤ l.length ∧ ∀ j, j < i → nearB (gl q k) (gl l j) = false) (fun z => l.length - z.1.toNat) (fun again z hz ih => ?_) ⟨0, rfl, by omega, fun j hj => by omega⟩ (by simp; omega)
 obtain ⟨i, rfl, hi, hb⟩ := hz
 simp only at ih ⊢
 unfold slices_IndexFunc_Rect_J_b0
 refine br_ok (fun h => ?_) (fun h => ?_)
 ·have h : i < l.length := by simpa using h
  refine gd_ok (by first | omega | exact i64_of (by omega) (by omega) | (simp only [LIM, BIG, List.length_append, List.length_cons, List.length_nil, List.length_map, List.length_take, List.length_drop, List.length_set] at *; omega)) ?_
  simp only [Int.toNat_natCast]
  refine bd_ok (shape_Joined_1_ok hk (by omega) hq (hr _ (gl_mem h))) ?_
  simp only
  refine br_ok (fun hp => ?_) (fun hp => ?_)
  ·have ha : l.any (nearB (gl q k)) = true := List.any_eq_true.2 ⟨_, gl_mem h, hp⟩
   rw [if_pos hp, idxI, if_pos ha, if_pos ha, findIdx_go h hb hp]
  ·rw [hp, if_neg (by simp)]
   refine gd_ok (by first | omega | exact i64_of (by omega) (by omega) | (simp only [LIM, BIG, List.length_append, List.length_cons, List.length_nil, List.length_map, List.length_take, List.length_drop, List.length_set] at *; omega)) ?_
   refine ih _ ⟨i + 1, rfl, h, fun j hj => ?_⟩ (by simp only; omega)
   rcases Nat.lt_or_ge j i with h1 | h1
   ·exact hb j h1
   ·have : j = i := by omega
    subst this; exact hp
 ·have h : ¬ i < l.length := by simpa using h
  have : i = l.length := by omega
  subst this
  have ha := any_of_before hb
  rw [idxI, ha]; rfl
theorem delete_J {F : Nat} (hF : BIG ≤ F) {l q : List Rect} {k : Nat} (hk : k < q.length) (hl : l.length + q.length ≤ 900000) (hq : ∀ s ∈ q, Sm s) (hr : ∀ r ∈ l, Sm r) :
  slices_DeleteFunc_Rect_J F l q k = some (q ++ l.filter (nearB (gl q k)), l.filter fun r => !nearB (gl q k) r) := by
 have hF' := hF
 unfold BIG at hF
 unfold slices_DeleteFunc_Rect_J
 refine bd_ok (index_J hF' hk (by omega) (by omega) hq hr) ?_
 generalize hp : nearB (gl q k) = p
 simp only
 by_cases ha : l.any p = true
 ·obtain ⟨x, hx, hpx⟩ := List.any_eq_true.1 ha
  have hlt : l.findIdx p < l.length := List.findIdx_lt_length_of_exists ⟨x, hx, hpx⟩
  have hpi : p (gl l (l.findIdx p)) = true := by rw [gl_lt hlt]; exact List.findIdx_getElem (w := hlt)
  have hbf : ∀ j, j < l.findIdx p → p (gl l j) = false := by
   intro j hj
   rw [gl_lt (by omega)]
   simpa using List.not_of_lt_findIdx hj
  rw [idxI, if_pos ha, if_pos ha]
  refine br_ff (by simp) ?_
  refine gd_ok (by first | omega | exact i64_of (by omega) (by omega) | (simp only [LIM, BIG, List.length_append, List.length_cons, List.length_nil, List.length_map, List.length_take, List.length_drop, List.length_set] at *; omega)) ?_
  generalize l.findIdx p = i0 at *
  have e1 : (l.take i0).filter (fun r => !p r) = l.take i0 := by
   rw [List.filter_eq_self]
   intro x hx
   obtain ⟨j, hj, rfl⟩ := List.getElem_of_mem hx
   have hj' : j < i0 := by simp at hj; omega
   have := hbf j hj'
   rw [gl_lt (by omega)] at this
   simp [this]
  have e2 : (l.take i0).filter p = [] := by
   rw [List.filter_eq_nil_iff]
   intro x hx
   obtain ⟨j, hj, rfl⟩ := List.getElem_of_mem hx
   have hj' : j < i0 := by simp at hj; omega
   have := hbf j hj'
   rw [gl_lt (by omega)] at this
   simp [this]
  have h0 : (l.take (i0 + 1)).filter (fun r => !p r) = l.take i0 := by
   rw [take_gl hlt, List.filter_append, e1]; simp [hpi]
  have h00 : (l.take (i0 + 1)).filter p = [gl l i0] := by
   rw [take_gl hlt, List.filter_append, e2]; simp [hpi]
  refine loopN_ok (fun z : Int × Int × List Rect × List Rect => ∃ (i j : Nat) (cur : List Rect), z = ((i : Int), (j : Int), cur, q ++ (l.take j).filter p) ∧ i < j ∧ j ≤ l.length ∧ cur.length = l.length ∧ (∀ m, j ≤ m → gl cur m = gl l m) ∧ cur.take i = (l.take j).filter fun r => !p r)
   (fun z => l.length - z.2.1.toNat) (fun again z hz ih => ?_) ⟨i0, i0 + 1, l, by rw [h00]; rfl, by omega, by omega, rfl, fun _ _ => rfl, h0.symm⟩ (by simp only; omega)
  obtain ⟨i, j, cur, rfl, hij, hj, hcl, hcm, hct⟩ := hz
  simp only at ih ⊢
  unfold slices_DeleteFunc_Rect_J_b0
  rw [hcl]
  have hfl : ((l.take j).filter p).length ≤ j := by
   have := List.length_filter_le p (l.take j)
   simp at this; omega
  have hgk : gl (q ++ (l.take j).filter p) k = gl q k := by simp [gl, List.getD_eq_getElem?_getD, List.getElem?_append, hk]
  refine br_ok (fun h => ?_) (fun h => ?_)
  ·have h : j < l.length := by simpa using h
   refine gd_ok (by first | omega | exact i64_of (by omega) (by omega) | (simp only [LIM, BIG, List.length_append, List.length_cons, List.length_nil, List.length_map, List.length_take, List.length_drop, List.length_set] at *; omega)) ?_
   simp only [Int.toNat_natCast]
   rw [hcm j (Nat.le_refl _)]
   refine bd_ok (shape_Joined_1_ok (by simp; omega) (by simp; omega) (fun s hs => ?_) (hr _ (gl_mem h))) ?_
   ·rcases List.mem_append.1 hs with hs | hs
    ·exact hq s hs
    ·exact hr s (List.mem_of_mem_take (List.mem_filter.1 hs).1)
   rw [hgk, hp]
   have hdn : (l.take (j + 1)).filter (fun r => !p r) = (l.take j).filter (fun r => !p r) ++ (if p (gl l j) = true then [] else [gl l j]) := by
    rw [take_gl h, List.filter_append]
    by_cases hp : p (gl l j) = true
    ·rw [if_pos hp]; simp [hp]
    ·rw [if_neg hp]; simp [hp]
   have hup : (l.take (j + 1)).filter p = (l.take j).filter p ++ (if p (gl l j) = true then [gl l j] else []) := by
    rw [take_gl h, List.filter_append]
    by_cases hp : p (gl l j) = true
    ·rw [if_pos hp]; simp [hp]
    ·rw [if_neg hp]; simp [hp]
   simp only
   refine br_ok (fun hp => ?_) (fun hp => ?_)
   ·have hp : p (gl l j) = false := by simpa using hp
    refine gd_ok (by first | omega | exact i64_of (by omega) (by omega) | (simp only [LIM, BIG, List.length_append, List.length_cons, List.length_nil, List.length_map, List.length_take, List.length_drop, List.length_set] at *; omega)) ?_
    refine gd_ok (by first | omega | exact i64_of (by omega) (by omega) | (simp only [LIM, BIG, List.length_append, List.length_cons, List.length_nil, List.length_map, List.length_take, List.length_drop, List.length_set] at *; omega)) ?_
    unfold slices_DeleteFunc_Rect_J_k1
    refine gd_ok (by first | omega | exact i64_of (by omega) (by omega) | (simp only [LIM, BIG, List.length_append, List.length_cons, List.length_nil, List.length_map, List.length_take, List.length_drop, List.length_set] at *; omega)) ?_
    rw [hp, if_neg (by simp)]
    refine ih _ ⟨i + 1, j + 1, cur.set i (gl l j), ?_, by omega, by omega, by simp [hcl], fun m hm => ?_, ?_⟩ (by simp only; omega)
    ·rw [hup, hp, if_neg (by simp), List.append_nil]; rfl
    ·rw [gl_set _ _ _ _ (by omega), if_neg (by omega)]; exact hcm m (by omega)
    ·rw [hdn, if_neg (by rw [hp]; simp), ← hct, take_gl (by simp; omega), take_set_lt _ _ _ _ (Nat.le_refl _), gl_set _ _ _ _ (by omega), if_pos rfl]
   ·have hp : p (gl l j) = true := by simpa using hp
    unfold slices_DeleteFunc_Rect_J_k1
    refine gd_ok (by first | omega | exact i64_of (by omega) (by omega) | (simp only [LIM, BIG, List.length_append, List.length_cons, List.length_nil, List.length_map, List.length_take, List.length_drop, List.length_set] at *; omega)) ?_
    rw [hp, if_pos rfl]
    refine ih _ ⟨i, j + 1, cur, ?_, by omega, by omega, hcl, fun m hm => hcm m (by omega), ?_⟩ (by simp only; omega)
    ·rw [hup, hp, if_pos rfl, ← List.append_assoc]; rfl
    ·rw [hdn, if_pos hp, List.append_nil, hct]
  ·have h : ¬ j < l.length := by simpa using h
   have hj2 : j = l.length := by omega
   unfold slices_DeleteFunc_Rect_J_k2
   simp only [Int.toNat_natCast, clr_len, hcl]
   refine gd_ok (by first | omega | exact i64_of (by omega) (by omega) | (simp only [LIM, BIG, List.length_append, List.length_cons, List.length_nil, List.length_map, List.length_take, List.length_drop, List.length_set] at *; omega)) ?_
   refine gd_ok (by first | omega | exact i64_of (by omega) (by omega) | (simp only [LIM, BIG, List.length_append, List.length_cons, List.length_nil, List.length_map, List.length_take, List.length_drop, List.length_set] at *; omega)) ?_
   rw [take_clr _ _ _ (by omega), hct, List.take_of_length_le (by omega)]
 ·have ha : l.any p = false := by simpa using ha
  rw [idxI, ha]
  refine br_tt rfl ?_
  have e1 : l.filter p = [] := by
   rw [List.filter_eq_nil_iff]
   intro x hx
   have := List.any_eq_false.1 ha x hx
   simpa using this
  have e2 : l.filter (fun r => !p r) = l := by
   rw [List.filter_eq_self]
   intro x hx
   have := List.any_eq_false.1 ha x hx
   simpa using this
  rw [e1, e2]; simp
def jn : Nat → List Rect → Nat → List Rect → List Rect × List Rect
 | 0, q, _, rest => (q, rest)
 | n + 1, q, k, rest => if k < q.length then jn n (q ++ rest.filter (nearB (gl q k))) (k + 1) (rest.filter fun r => !nearB (gl q k) r) else (q, rest)
def joined : List Rect → List Rect × List Rect
 | [] => ([], [])
 | a :: l => jn (l.length + 2) [a] 0 l
theorem filter_both {α : Type} (p : α → Bool) (l : List α) : (l.filter p).length + (l.filter fun r => !p r).length = l.length := by
 induction l with
 | nil => rfl
 | cons a l ih => by_cases h : p a = true <;> simp [h] <;> omega
theorem Clone_O_ok {F : Nat} {l : List Rect} (h : l.length ≤ LIM) : slices_Clone_Rect_O F l = some l := by
 unfold slices_Clone_Rect_O
 cases h : l with
 | nil =>
  show gdc _ _ = _
  unfold gdc
  exact @gd_ok _ _ (Classical.propDecidable _) _ _ rfl rfl
 | cons a l' =>
  have : (a :: l').length = l'.length + 1 := rfl
  show (gd _ _) = _
  rw [← h]
  refine gd_ok (by first | omega | exact i64_of (by omega) (by omega) | (simp only [LIM, BIG, List.length_append, List.length_cons, List.length_nil, List.length_map, List.length_take, List.length_drop, List.length_set] at *; omega)) ?_
  simp
theorem shape_Joined_ok {F : Nat} (hF : BIG ≤ F) {l : List Rect} (hne : l ≠ []) (hl : l.length ≤ 400000) (hs : ∀ r ∈ l, Sm r) : shape_Joined F l = some (joined l) := by
 have hF' := hF
 unfold BIG at hF
 cases l with
 | nil => exact absurd rfl hne
 | cons a l =>
  simp only [List.length_cons] at hl
  unfold shape_Joined
  refine gd_ok (by simp only [List.length_cons]; omega) ?_
  refine gd_ok (by simp only [List.length_cons]; omega) ?_
  have e1 : (1 : Int).toNat = 1 := rfl
  rw [e1]
  refine bd_ok (Clone_O_ok (by simp [LIM]; omega)) ?_
  simp only [List.drop_succ_cons, List.drop_zero, List.take_succ_cons, List.take_zero]
  refine loopN_ok (fun z : List Rect × Int × List Rect => ∃ (n k : Nat) (q rest : List Rect), z = (rest, (k : Int), q) ∧ k ≤ q.length ∧ q.length + rest.length = l.length + 1 ∧ (∀ r ∈ q ++ rest, Sm r) ∧ l.length + 2 ≤ n + k ∧ jn n q k rest = joined (a :: l))
   (fun z => l.length + 2 - z.2.1.toNat) (fun again z hz ih => ?_) ⟨l.length + 2, 0, [a], l, rfl, by simp, by simp; omega, fun r hr => hs r (by simpa using hr), by omega, rfl⟩ (by simp; omega)
  obtain ⟨n, k, q, rest, rfl, hk, hlen, hsm, hn, hj⟩ := hz
  simp only at ih ⊢
  unfold shape_Joined_b0 shape_Joined_k1
  cases n with
  | zero => omega
  | succ n =>
  rw [jn] at hj
  refine br_ok (fun h => ?_) (fun h => ?_)
  ·have h : k < q.length := by simpa using h
   rw [if_pos h] at hj
   refine bd_ok (delete_J hF' h (by omega) (fun s hs => hsm s (by simp [hs])) (fun s hs => hsm s (by simp [hs]))) ?_
   refine gd_ok (by first | omega | exact i64_of (by omega) (by omega) | (simp only [LIM, BIG, List.length_append, List.length_cons, List.length_nil, List.length_map, List.length_take, List.length_drop, List.length_set] at *; omega)) ?_
   have hb := filter_both (nearB (gl q k)) rest
   refine ih _ ⟨n, k + 1, _, _, rfl, by simp; omega, by simp; omega, fun r hr => hsm r ?_, by omega, hj⟩ (by simp only; omega)
   simp only [List.mem_append, List.mem_filter] at hr ⊢
   rcases hr with (hr | hr) | hr
   ·exact .inl hr
   ·exact .inr hr.1
   ·exact .inr hr.1
  ·have h : ¬ k < q.length := by simpa using h
   rw [if_neg h] at hj
   unfold shape_Joined_k2
   rw [hj]
end Go.Ab
end

section
namespace Go.Ab
set_option maxRecDepth 20000
def adj (x y x' y' : Int) : Prop := (x = x' ∧ (y' = y + 1 ∨ y = y' + 1)) ∨ (y = y' ∧ (x' = x + 1 ∨ x = x' + 1))
def Conn (S : Int → Int → Bool) : Prop := ∀ P : Int → Int → Prop, (∃ x y, S x y = true ∧ P x y) → (∀ x y x' y', S x y = true → S x' y' = true → adj x y x' y' → P x y → P x' y') → ∀ x y, S x y = true → P x y
theorem line {Q : Int → Prop} {a b : Int} (hs : ∀ t, a ≤ t → t + 1 < b → (Q t ↔ Q (t + 1))) {t0 : Int} (h1 : a ≤ t0) (h2 : t0 < b) (hq : Q t0) : ∀ t, a ≤ t → t < b → Q t := by
 have up : ∀ (n : Nat), t0 + n < b → Q (t0 + n) := by
  intro n
  induction n with
  | zero => intro _; simpa using hq
  | succ n ih =>
   intro h
   have e : t0 + ((n + 1 : Nat) : Int) = t0 + n + 1 := by omega
   rw [e]
   exact (hs (t0 + n) (by omega) (by omega)).1 (ih (by omega))
 have dn : ∀ (n : Nat), a ≤ t0 - n → Q (t0 - n) := by
  intro n
  induction n with
  | zero => intro _; simpa using hq
  | succ n ih =>
   intro h
   have := ih (by omega)
   have e : t0 - (n : Int) = t0 - ((n + 1 : Nat) : Int) + 1 := by omega
   rw [e] at this
   exact (hs _ h (by omega)).2 this
 intro t g1 g2
 rcases Int.le_total t0 t with h | h
 ·have e : t = t0 + ((t - t0).toNat : Int) := by omega
  rw [e]; exact up _ (by omega)
 ·have e : t = t0 - ((t0 - t).toNat : Int) := by omega
  rw [e]; exact dn _ (by omega)
theorem rect_conn {S : Int → Int → Bool} {P : Int → Int → Prop} (hc : ∀ x y x' y', S x y = true → S x' y' = true → adj x y x' y' → P x y → P x' y') {r : Rect} (hr : ∀ x y, r.has x y = true → S x y = true) {x0 y0 : Int} (h0 : r.has x0 y0 = true) (hp : P x0 y0) :
  ∀ x y, r.has x y = true → P x y := by
 have key : ∀ x y, r.left_ ≤ x → x < r.right_ → r.low_ ≤ y → y < r.high_ → S x y = true := fun x y a b c d => hr x y ((has_iff r x y).2 ⟨a, b, c, d⟩)
 rw [has_iff] at h0
 have hx := line (Q := fun x => P x y0) (a := r.left_) (b := r.right_) (fun t a b => ⟨hc t y0 (t + 1) y0 (key _ _ (by omega) (by omega) (by omega) (by omega)) (key _ _ (by omega) (by omega) (by omega) (by omega)) (.inr ⟨rfl, .inl rfl⟩),
  hc (t + 1) y0 t y0 (key _ _ (by omega) (by omega) (by omega) (by omega)) (key _ _ (by omega) (by omega) (by omega) (by omega)) (.inr ⟨rfl, .inr rfl⟩)⟩) h0.1 h0.2.1 hp
 intro x y h
 rw [has_iff] at h
 have := line (Q := fun y => P x y) (a := r.low_) (b := r.high_) (fun t a b => ⟨hc x t x (t + 1) (key _ _ (by omega) (by omega) (by omega) (by omega)) (key _ _ (by omega) (by omega) (by omega) (by omega)) (.inl ⟨rfl, .inl rfl⟩),
  hc x (t + 1) x t (key _ _ (by omega) (by omega) (by omega) (by omega)) (key _ _ (by omega) (by omega) (by omega) (by omega)) (.inl ⟨rfl, .inr rfl⟩)⟩) h0.2.2.1 h0.2.2.2 (hx x h.1 h.2.1)
 exact this y h.2.2.1 h.2.2.2
def Pos (r : Rect) : Prop := r.left_ < r.right_ ∧ r.low_ < r.high_
theorem near_adj {r s : Rect} (h : nearB r s = true) (hr : Pos r) (hs : Pos s) : ∃ x y x' y', r.has x y = true ∧ s.has x' y' = true ∧ adj x y x' y' := by
 unfold nearB com at h
 have h := of_decide_eq_true h
 unfold Pos at hr hs
 simp only [has_iff]
 by_cases c1 : sideX r s = true ∧ 0 < lapY r s
 ·obtain ⟨a1, a2⟩ := c1
  have l1 : ∃ y, r.low_ ≤ y ∧ y < r.high_ ∧ s.low_ ≤ y ∧ y < s.high_ := by
   unfold lapY gmax gmin at a2
   refine ⟨if r.low_ < s.low_ then s.low_ else r.low_, ?_⟩
   split <;> ((repeat' split at a2) <;> omega)
  obtain ⟨y, y1, y2, y3, y4⟩ := l1
  unfold sideX at a1
  simp only [Bool.or_eq_true, beq_iff_eq] at a1
  rcases a1 with a1 | a1
  ·exact ⟨r.right_ - 1, y, s.left_, y, by omega, by omega, .inr ⟨rfl, .inl (by omega)⟩⟩
  ·exact ⟨r.left_, y, s.right_ - 1, y, by omega, by omega, .inr ⟨rfl, .inr (by omega)⟩⟩
 ·have c2 : sideY r s = true ∧ 0 < lapX r s := by
   by_cases b1 : sideX r s = true
   ·have : ¬ 0 < lapY r s := fun hh => c1 ⟨b1, hh⟩
    rw [if_pos b1] at h
    by_cases b2 : sideY r s = true
    ·rw [if_pos b2] at h; exact ⟨b2, by omega⟩
    ·rw [if_neg b2] at h; omega
   ·rw [if_neg b1] at h
    by_cases b2 : sideY r s = true
    ·rw [if_pos b2] at h; exact ⟨b2, by omega⟩
    ·rw [if_neg b2] at h; omega
  obtain ⟨a1, a2⟩ := c2
  have l1 : ∃ x, r.left_ ≤ x ∧ x < r.right_ ∧ s.left_ ≤ x ∧ x < s.right_ := by
   unfold lapX gmax gmin at a2
   refine ⟨if r.left_ < s.left_ then s.left_ else r.left_, ?_⟩
   split <;> ((repeat' split at a2) <;> omega)
  obtain ⟨x, x1, x2, x3, x4⟩ := l1
  unfold sideY at a1
  simp only [Bool.or_eq_true, beq_iff_eq] at a1
  rcases a1 with a1 | a1
  ·exact ⟨x, r.high_ - 1, x, s.low_, by omega, by omega, .inl ⟨rfl, .inl (by omega)⟩⟩
  ·exact ⟨x, r.low_, x, s.high_ - 1, by omega, by omega, .inl ⟨rfl, .inr (by omega)⟩⟩
def Apt (r s : Rect) : Prop := ∀ x y, r.has x y = true → s.has x y = true → False
theorem lap0 (r s : Rect) : 0 ≤ lapX r s ∧ 0 ≤ lapY r s := by
 unfold lapX lapY gmax
 constructor <;> split <;> omega
theorem adj_near {r s : Rect} (hd : Apt r s) {x y x' y' : Int} (h1 : r.has x y = true) (h2 : s.has x' y' = true) (ha : adj x y x' y') : nearB r s = true := by
 obtain ⟨l1, l2⟩ := lap0 r s
 rw [has_iff] at h1 h2
 have hno : ∀ u v, r.left_ ≤ u → u < r.right_ → r.low_ ≤ v → v < r.high_ → s.left_ ≤ u → u < s.right_ → s.low_ ≤ v → v < s.high_ → False := fun u v a b c d e f g k => hd u v ((has_iff _ _ _).2 ⟨a, b, c, d⟩) ((has_iff _ _ _).2 ⟨e, f, g, k⟩)
 unfold nearB com
 rw [decide_eq_true_eq]
 rcases ha with ⟨rfl, ha⟩ | ⟨rfl, ha⟩
 ·have hlap : 0 < lapX r s := by
   unfold lapX gmax gmin
   repeat' split
   all_goals omega
  have hsd : sideY r s = true := by
   unfold sideY
   simp only [Bool.or_eq_true, beq_iff_eq]
   rcases ha with rfl | rfl
   ·left
    rcases Int.lt_or_le (y + 1) r.high_ with g | g
    ·exact (hno x (y + 1) (by omega) (by omega) (by omega) g (by omega) (by omega) (by omega) (by omega)).elim
    ·rcases Int.lt_or_le s.low_ (y + 1) with k | k
     ·exact (hno x y (by omega) (by omega) (by omega) (by omega) (by omega) (by omega) (by omega) (by omega)).elim
     ·omega
   ·right
    rcases Int.lt_or_le (y' + 1) s.high_ with g | g
    ·exact (hno x (y' + 1) (by omega) (by omega) (by omega) (by omega) (by omega) (by omega) (by omega) (by omega)).elim
    ·rcases Int.lt_or_le r.low_ (y' + 1) with k | k
     ·exact (hno x y' (by omega) (by omega) (by omega) (by omega) (by omega) (by omega) (by omega) (by omega)).elim
     ·omega
  rw [if_pos hsd]
  split <;> omega
 ·have hlap : 0 < lapY r s := by
   unfold lapY gmax gmin
   repeat' split
   all_goals omega
  have hsd : sideX r s = true := by
   unfold sideX
   simp only [Bool.or_eq_true, beq_iff_eq]
   rcases ha with rfl | rfl
   ·left
    rcases Int.lt_or_le (x + 1) r.right_ with g | g
    ·exact (hno (x + 1) y (by omega) (by omega) (by omega) (by omega) (by omega) (by omega) (by omega) (by omega)).elim
    ·rcases Int.lt_or_le s.left_ (x + 1) with k | k
     ·exact (hno x y (by omega) (by omega) (by omega) (by omega) (by omega) (by omega) (by omega) (by omega)).elim
     ·omega
   ·right
    rcases Int.lt_or_le (x' + 1) s.right_ with g | g
    ·exact (hno (x' + 1) y (by omega) (by omega) (by omega) (by omega) (by omega) (by omega) (by omega) (by omega)).elim
    ·rcases Int.lt_or_le r.left_ (x' + 1) with k | k
     ·exact (hno x' y (by omega) (by omega) (by omega) (by omega) (by omega) (by omega) (by omega) (by omega)).elim
     ·omega
  rw [if_pos hsd]
  split <;> omega
theorem near_comm (r s : Rect) : nearB r s = nearB s r := by
 have e1 : sideX r s = sideX s r := by unfold sideX; rw [Bool.or_comm]
 have e2 : sideY r s = sideY s r := by unfold sideY; rw [Bool.or_comm]
 have gm : ∀ a b : Int, gmin a b = gmin b a := fun a b => by unfold gmin; split <;> split <;> omega
 have gx : ∀ a b : Int, gmax a b = gmax b a := fun a b => by unfold gmax; split <;> split <;> omega
 have e3 : lapX r s = lapX s r := by unfold lapX; rw [gm r.right_, gx r.left_]
 have e4 : lapY r s = lapY s r := by unfold lapY; rw [gm r.high_, gx r.low_]
 unfold nearB com
 rw [e1, e2, e3, e4]
def Chain (q : List Rect) : Prop := ∀ i, 0 < i → i < q.length → ∃ j, j < i ∧ nearB (gl q j) (gl q i) = true
theorem Chain.conn {q : List Rect} (h : Chain q) (hp : ∀ r ∈ q, Pos r) : Conn (inR q) := by
 intro P ⟨x0, y0, h0, p0⟩ hc
 have hin : ∀ i, i < q.length → ∀ x y, (gl q i).has x y = true → inR q x y = true := fun i hi x y hh => inR_mem (gl_mem hi) hh
 have step : ∀ i j, i < q.length → j < q.length → nearB (gl q i) (gl q j) = true → (∀ x y, (gl q i).has x y = true → P x y) → ∀ x y, (gl q j).has x y = true → P x y := by
  intro i j hi hj hn hP
  obtain ⟨x, y, x', y', a1, a2, a3⟩ := near_adj hn (hp _ (gl_mem hi)) (hp _ (gl_mem hj))
  exact rect_conn hc (hin j hj) a2 (hc x y x' y' (hin i hi x y a1) (hin j hj x' y' a2) a3 (hP x y a1))
 obtain ⟨r, hr, hrx⟩ := (inR_iff q x0 y0).1 h0
 obtain ⟨i0, hi0, rfl⟩ := List.getElem_of_mem hr
 rw [← gl_lt hi0] at hrx
 have down : ∀ i, i < q.length → (∀ x y, (gl q i).has x y = true → P x y) → ∀ x y, (gl q 0).has x y = true → P x y := by
  intro i
  induction i using Nat.strongRecOn with
  | _ i ih =>
   intro hi hP
   rcases Nat.eq_zero_or_pos i with h1 | h1
   ·subst h1; exact hP
   ·obtain ⟨j, hj, hn⟩ := h i h1 hi
    exact ih j hj (by omega) (step i j hi (by omega) (by rw [near_comm]; exact hn) hP)
 have first := down i0 hi0 (rect_conn hc (hin i0 hi0) hrx p0)
 have up : ∀ i, i < q.length → ∀ x y, (gl q i).has x y = true → P x y := by
  intro i
  induction i using Nat.strongRecOn with
  | _ i ih =>
   intro hi
   rcases Nat.eq_zero_or_pos i with h1 | h1
   ·subst h1; exact first
   ·obtain ⟨j, hj, hn⟩ := h i h1 hi
    exact step j i (by omega) hi hn (ih j hj (by omega))
 intro x y hxy
 obtain ⟨r, hr, hrx⟩ := (inR_iff q x y).1 hxy
 obtain ⟨i, hi, rfl⟩ := List.getElem_of_mem hr
 rw [← gl_lt hi] at hrx
 exact up i hi x y hrx
structure JnOk (q rest q' rest' : List Rect) : Prop where
 perm : (q' ++ rest').Perm (q ++ rest)
 chain : Chain q'
 pre : q <+: q'
 apart : ∀ r ∈ q', ∀ s ∈ rest', nearB r s = false
theorem perm_filters {α : Type} (p : α → Bool) (l : List α) : (l.filter p ++ l.filter fun r => !p r).Perm l := List.filter_append_perm p l
theorem jn_ok : ∀ (n : Nat) (q : List Rect) (k : Nat) (rest : List Rect), q.length + rest.length < n + k → k ≤ q.length → Chain q → (∀ i, i < k → ∀ s ∈ rest, nearB (gl q i) s = false) → JnOk q rest (jn n q k rest).1 (jn n q k rest).2 := by
 intro n
 induction n with
 | zero => intro q k rest h1 h2; omega
 | succ n ih =>
  intro q k rest h1 h2 hc ha
  rw [jn]
  by_cases hk : k < q.length
  ·rw [if_pos hk]
   have hb := filter_both (nearB (gl q k)) rest
   have hg : ∀ i, i < q.length → gl (q ++ rest.filter (nearB (gl q k))) i = gl q i := fun i hi => by simp [gl, List.getD_eq_getElem?_getD, List.getElem?_append, hi]
   have h := ih (q ++ rest.filter (nearB (gl q k))) (k + 1) (rest.filter fun r => !nearB (gl q k) r) (by simp; omega) (by simp; omega) (fun i hi hil => ?_) (fun i hi s hs => ?_)
   ·refine ⟨h.perm.trans ?_, h.chain, ?_, h.apart⟩
    ·rw [List.append_assoc]
     exact (perm_filters _ rest).append_left q
    ·exact (List.prefix_append _ _).trans h.pre
   ·by_cases hiq : i < q.length
    ·obtain ⟨j, hj, hn⟩ := hc i hi hiq
     exact ⟨j, hj, by rw [hg i hiq, hg j (by omega)]; exact hn⟩
    ·refine ⟨k, by omega, ?_⟩
     rw [hg k hk]
     have hm : gl (q ++ rest.filter (nearB (gl q k))) i ∈ rest.filter (nearB (gl q k)) := by
      have hil' : i - q.length < (rest.filter (nearB (gl q k))).length := by simp at hil; omega
      have : gl (q ++ rest.filter (nearB (gl q k))) i = gl (rest.filter (nearB (gl q k))) (i - q.length) := by
       simp [gl, List.getD_eq_getElem?_getD, List.getElem?_append, hiq]
      rw [this]; exact gl_mem hil'
     exact (List.mem_filter.1 hm).2
   ·have hs' := List.mem_filter.1 hs
    rcases Nat.lt_or_ge i k with h3 | h3
    ·rw [hg i (by omega)]; exact ha i h3 s hs'.1
    ·have : i = k := by omega
     subst this
     rw [hg i hk]; simpa using hs'.2
  ·rw [if_neg hk]
   refine ⟨List.Perm.refl _, hc, List.prefix_refl _, fun r hr s hs => ?_⟩
   obtain ⟨i, hi, rfl⟩ := List.getElem_of_mem hr
   have := ha i (by simp only at hi; omega) s hs
   rwa [gl_lt hi] at this
theorem joined_ok (a : Rect) (l : List Rect) : JnOk [a] l (joined (a :: l)).1 (joined (a :: l)).2 :=
 jn_ok (l.length + 2) [a] 0 l (by simp; omega) (by simp) (fun i hi hl => by simp at hl; omega) (fun i hi => by omega)
def partsL : Nat → List Rect → List (List Rect)
 | 0, _ => []
 | _ + 1, [] => []
 | n + 1, a :: l => (joined (a :: l)).1 :: partsL n (joined (a :: l)).2
def parts (l : List Rect) : List (List Rect) := partsL l.length l
theorem JnOk.lens {a : Rect} {l q r : List Rect} (h : JnOk [a] l q r) : q ≠ [] ∧ r.length ≤ l.length := by
 have h1 := h.perm.length_eq
 simp at h1
 obtain ⟨t, ht⟩ := h.pre
 have : 1 ≤ q.length := by rw [← ht]; simp
 exact ⟨fun hh => by rw [hh] at this; simp at this, by omega⟩
theorem partsL_perm : ∀ (n : Nat) (l : List Rect), l.length ≤ n → (partsL n l).flatten.Perm l := by
 intro n
 induction n with
 | zero => intro l hl; have : l = [] := List.eq_nil_of_length_eq_zero (by omega); subst this; exact List.Perm.refl _
 | succ n ih =>
  intro l hl
  cases l with
  | nil => exact List.Perm.refl _
  | cons a l =>
   have h := joined_ok a l
   have := h.lens.2
   simp only [partsL, List.flatten_cons]
   simp only [List.length_cons] at hl
   exact ((ih _ (by omega)).append_left _).trans h.perm
theorem partsL_ok : ∀ (n : Nat) (l : List Rect), l.length ≤ n → (∀ p ∈ partsL n l, p ≠ [] ∧ Chain p) ∧ (partsL n l).Pairwise fun p p' => ∀ r ∈ p, ∀ s ∈ p', nearB r s = false := by
 intro n
 induction n with
 | zero => intro l hl; exact ⟨fun p hp => by simp [partsL] at hp, .nil⟩
 | succ n ih =>
  intro l hl
  cases l with
  | nil => exact ⟨fun p hp => by simp [partsL] at hp, .nil⟩
  | cons a l =>
   have h := joined_ok a l
   have h2 := h.lens
   simp only [List.length_cons] at hl
   obtain ⟨g1, g2⟩ := ih (joined (a :: l)).2 (by omega)
   have hp := partsL_perm n (joined (a :: l)).2 (by omega)
   simp only [partsL]
   refine ⟨fun p hp => ?_, List.pairwise_cons.2 ⟨fun p' hp' r hr s hs => ?_, g2⟩⟩
   ·rcases List.mem_cons.1 hp with rfl | hp
    ·exact ⟨h2.1, h.chain⟩
    ·exact g1 p hp
   ·exact h.apart r hr s (hp.mem_iff.1 (List.mem_flatten.2 ⟨p', hp', hs⟩))
theorem parts_perm (l : List Rect) : (parts l).flatten.Perm l := partsL_perm _ l (Nat.le_refl _)
theorem parts_ok (l : List Rect) : (∀ p ∈ parts l, p ≠ [] ∧ Chain p) ∧ (parts l).Pairwise fun p p' => ∀ r ∈ p, ∀ s ∈ p', nearB r s = false := partsL_ok _ l (Nat.le_refl _)
end Go.Ab
end

section
namespace Go.Ab
set_option maxRecDepth 20000
def cmp2 (a b : Int × Int) : Int := if a.1 < b.1 then -1 else if b.1 < a.1 then 1 else if a.2 < b.2 then -1 else if b.2 < a.2 then 1 else 0
def lt2 (a b : Int × Int) : Prop := a.1 < b.1 ∨ (a.1 = b.1 ∧ a.2 < b.2)
theorem cmp2_lt {a b : Int × Int} : cmp2 a b < 0 ↔ lt2 a b := by
 unfold cmp2 lt2
 repeat' split
 all_goals omega
theorem cmp2_ge {a b : Int × Int} : 0 ≤ cmp2 a b ↔ ¬ lt2 a b := by rw [← cmp2_lt]; omega
theorem lt2_asymm {a b : Int × Int} (h : lt2 a b) : ¬ lt2 b a := by unfold lt2 at *; omega
theorem lt2_tri {a b : Int × Int} (h : a ≠ b) : lt2 a b ∨ lt2 b a := by
 unfold lt2
 have : a.1 ≠ b.1 ∨ a.2 ≠ b.2 := by
  rcases Int.decEq a.1 b.1 with h1 | h1
  ·exact .inl h1
  ·right; intro h2; exact h (Prod.ext h1 h2)
 omega
def le2 (a b : Int × Int) : Bool := decide (a.1 < b.1) || (decide (a.1 = b.1) && decide (a.2 ≤ b.2))
theorem le2_iff (a b : Int × Int) : le2 a b = true ↔ ¬ lt2 b a := by
 unfold le2 lt2
 simp only [Bool.or_eq_true, Bool.and_eq_true, decide_eq_true_eq]
 omega
theorem sortG_key {α : Type} {x : List α} {q : α → α → Option Int} (k : α → Int × Int) (hl : x.length ≤ LIM) (hq : ∀ a ∈ x, ∀ b ∈ x, q a b = some (cmp2 (k a) (k b))) (hd : x.Pairwise fun a b => k a ≠ k b) :
  ∃ r, sortG x q = some r ∧ r.Perm x ∧ r.Pairwise fun a b => lt2 (k a) (k b) := by
 let r := x.mergeSort fun a b => le2 (k a) (k b)
 have hp : r.Perm x := List.mergeSort_perm x _
 have hs : r.Pairwise fun a b => le2 (k a) (k b) = true := List.pairwise_mergeSort (le := fun a b => le2 (k a) (k b)) (fun a b c h1 h2 => by rw [le2_iff] at *; unfold lt2 at *; omega) (fun a b => by
  rw [Bool.or_eq_true, le2_iff, le2_iff]; unfold lt2; omega) x
 have hd' : r.Pairwise fun a b => k a ≠ k b := (hp.pairwise_iff fun {a b} h => Ne.symm h).2 hd
 have hlt : r.Pairwise fun a b => lt2 (k a) (k b) := (hs.and hd').imp fun h => by
  rcases lt2_tri h.2 with h1 | h1
  ·exact h1
  ·exact absurd h1 ((le2_iff _ _).1 h.1)
 have hmem : ∀ a, a ∈ r → a ∈ x := fun a ha => hp.mem_iff.1 ha
 refine ⟨r, sortG_eq hl ⟨hp, ?_, fun a ha => ?_⟩, hp, hlt⟩
 ·rw [List.pairwise_iff_getElem] at hlt ⊢
  intro i j hi hj hij
  have h1 := hlt i j hi hj hij
  refine ⟨⟨_, hq _ (hmem _ (List.getElem_mem hi)) _ (hmem _ (List.getElem_mem hj)), cmp2_lt.2 h1⟩, ⟨_, hq _ (hmem _ (List.getElem_mem hj)) _ (hmem _ (List.getElem_mem hi)), cmp2_ge.2 (lt2_asymm h1)⟩⟩
 ·exact ⟨_, hq _ (hmem a ha) _ (hmem a ha), cmp2_ge.2 fun h => lt2_asymm h h⟩
theorem Canon.apt {l : List Rect} (h : Canon l) : l.Pairwise Apt := by
 obtain ⟨b, hb, rfl⟩ := h
 unfold flat
 rw [List.pairwise_flatMap]
 refine ⟨fun c hc => ?_, ?_⟩
 ·unfold flat1
  rw [List.pairwise_map]
  refine (hb.sp c hc).ch.imp fun h x y h1 h2 => ?_
  rw [has_iff] at h1 h2
  simp only at h1 h2
  omega
 ·refine hb.runs.ch.imp fun h r hr s hs x y h1 h2 => ?_
  obtain ⟨u, _, rfl⟩ := List.mem_map.1 hr
  obtain ⟨v, _, rfl⟩ := List.mem_map.1 hs
  rw [has_iff] at h1 h2
  simp only at h1 h2
  have := h.1
  omega
theorem apt_comm {r s : Rect} (h : Apt r s) : Apt s r := fun x y h1 h2 => h x y h2 h1
def AptL (a b : List Rect) : Prop := ∀ x y, inR a x y = true → inR b x y = true → False
def FarL (a b : List Rect) : Prop := ∀ x y x' y', inR a x y = true → inR b x' y' = true → ¬ adj x y x' y'
theorem adj_comm {x y x' y' : Int} (h : adj x y x' y') : adj x' y' x y := by unfold adj at *; omega
theorem parts_apt {l : List Rect} (hl : l.Pairwise Apt) : (parts l).Pairwise fun p p' => AptL p p' ∧ FarL p p' := by
 have h1 : (parts l).flatten.Pairwise Apt := ((parts_perm l).pairwise_iff fun {a b} h => apt_comm h).2 hl
 rw [List.pairwise_flatten] at h1
 refine (h1.2.and (parts_ok l).2).imp fun {p p'} h => ⟨fun x y h2 h3 => ?_, fun x y x' y' h2 h3 h4 => ?_⟩
 ·obtain ⟨r, hr, hr2⟩ := (inR_iff _ _ _).1 h2
  obtain ⟨s, hs, hs2⟩ := (inR_iff _ _ _).1 h3
  exact h.1 r hr s hs x y hr2 hs2
 ·obtain ⟨r, hr, hr2⟩ := (inR_iff _ _ _).1 h2
  obtain ⟨s, hs, hs2⟩ := (inR_iff _ _ _).1 h3
  have := adj_near (h.1 r hr s hs) hr2 hs2 h4
  rw [h.2 r hr s hs] at this; cases this
theorem inR_perm {l m : List Rect} (h : l.Perm m) (x y : Int) : inR l x y = inR m x y := by
 rw [Bool.eq_iff_iff, inR_iff, inR_iff]
 exact ⟨fun ⟨r, hr, h2⟩ => ⟨r, h.mem_iff.1 hr, h2⟩, fun ⟨r, hr, h2⟩ => ⟨r, h.mem_iff.2 hr, h2⟩⟩
theorem inR_flatten (L : List (List Rect)) (x y : Int) : inR L.flatten x y = L.any fun p => inR p x y := by
 induction L with
 | nil => rfl
 | cons p L ih => rw [List.flatten_cons, inR_append, ih]; rfl
theorem parts_mem {l p : List Rect} (hp : p ∈ parts l) {r : Rect} (hr : r ∈ p) : r ∈ l := (parts_perm l).mem_iff.1 (List.mem_flatten.2 ⟨p, hp, hr⟩)
theorem parts_len {l : List Rect} : (parts l).length ≤ l.length := by
 have h1 := (parts_perm l).length_eq
 rw [List.length_flatten] at h1
 have : ∀ L : List (List Rect), (∀ p ∈ L, p ≠ []) → L.length ≤ (L.map List.length).sum := by
  intro L
  induction L with
  | nil => simp
  | cons p L ih =>
   intro h
   have := ih fun q hq => h q (by simp [hq])
   have h2 : p.length ≠ 0 := fun h3 => h p (by simp) (List.eq_nil_of_length_eq_zero h3)
   simp only [List.length_cons, List.map_cons, List.sum_cons]
   omega
 have := this (parts l) fun p hp => ((parts_ok l).1 p hp).1
 omega
theorem part_len {l p : List Rect} (hp : p ∈ parts l) : p.length ≤ l.length := by
 have h1 := (parts_perm l).length_eq
 rw [← h1]
 exact (List.sublist_flatten_of_mem hp).length_le
noncomputable def regOf (p : List Rect) : Region := ⟨cn (inR p)⟩
def key1 (a : Region) : Int × Int := ((gl a.rects_ 0).low_, (gl a.rects_ 0).left_)
theorem cmp_Or_two (F : Nat) (hF : BIG ≤ F) (u v : Int) : cmp_Or_int F [u, v] = some (if u ≠ 0 then u else v) := by
 unfold BIG at hF
 obtain ⟨F, rfl⟩ : ∃ G, F = G + 3 := ⟨F - 3, by omega⟩
 unfold cmp_Or_int
 show cmp_Or_int_b0 _ [u, v] _ 0 = _
 unfold cmp_Or_int_b0
 refine br_tt (by simp) ?_
 refine gd_ok (by simp) ?_
 have e0 : gl [u, v] (0 : Int).toNat = u := rfl
 rw [e0]
 by_cases hu : u = 0
 ·subst hu
  refine br_ff (by simp) ?_
  refine gd_ok (i64_of (by omega) (by omega)) ?_
  rw [if_neg (by simp)]
  show cmp_Or_int_b0 _ [0, v] _ (0 + 1) = _
  unfold cmp_Or_int_b0
  refine br_tt (by simp) ?_
  refine gd_ok (by simp) ?_
  have e1 : gl [0, v] ((0 : Int) + 1).toNat = v := rfl
  rw [e1]
  by_cases hv : v = 0
  ·subst hv
   refine br_ff (by simp) ?_
   refine gd_ok (i64_of (by omega) (by omega)) ?_
   show cmp_Or_int_b0 _ [0, 0] _ (0 + 1 + 1) = _
   unfold cmp_Or_int_b0
   exact br_ff (by simp) rfl
  ·exact br_tt (by simpa using hv) rfl
 ·rw [if_pos hu]
  exact br_tt (by simpa using hu) rfl
theorem shape_Parts_1_ok {F : Nat} (hF : BIG ≤ F) {a b : Region} (ha : a.rects_ ≠ []) (hb : b.rects_ ≠ []) : shape_Parts_1 F a b = some (cmp2 (key1 a) (key1 b)) := by
 have ha : 0 < a.rects_.length := List.length_pos_iff.2 ha
 have hb : 0 < b.rects_.length := List.length_pos_iff.2 hb
 unfold shape_Parts_1
 refine gd_ok (by omega) ?_
 refine gd_ok (by omega) ?_
 refine bd_ok (cmp_Compare_int_ok F _ _) ?_
 refine gd_ok (by omega) ?_
 refine gd_ok (by omega) ?_
 refine bd_ok (cmp_Compare_int_ok F _ _) ?_
 refine bd_ok (cmp_Or_two F hF _ _) ?_
 congr 1
 unfold cmp2 key1
 simp only [Int.toNat_zero]
 repeat' split
 all_goals first | rfl | omega
theorem region_Of_ok {F : Nat} (hF : BIG ≤ F) {l : List Rect} (hl : l.length ≤ 120) (hp : ∀ r ∈ l, propB r = true) : region_Of F l = some (if 120 < (cn (inR l)).length then (⟨[]⟩, 1) else (⟨cn (inR l)⟩, 0)) := by
 unfold region_Of
 refine br_ff (by simp; omega) ?_
 refine bd_ok (slices_ContainsFunc_Rect_ok hF (fun r => !propB r) (by omega) (fun r _ => by unfold region_Of_1; rw [region_proper_ok]; rfl)) ?_
 refine br_ff ?_ ?_
 ·rw [List.any_eq_false]
  intro r hr
  rw [hp r hr]; simp
 ·refine bd_ok (region_canonical_ok hF (by omega) (fun r hr => ((propB_iff r).1 (hp r hr)).2.1)) ?_
  refine bd_ok (region_Limited_ok F _) ?_
  rfl
theorem key1_mem {p : List Rect} (hp : p ≠ []) (hpos : ∀ r ∈ p, Pos r) : inR p (key1 (regOf p)).2 (key1 (regOf p)).1 = true ∧ (regOf p).rects_ ≠ [] := by
 have hne : cn (inR p) ≠ [] := by
  intro h
  rw [cn_nil_iff (fin_inR p)] at h
  cases p with
  | nil => exact hp rfl
  | cons r p =>
   have hr := hpos r (by simp)
   have := h r.left_ r.low_
   rw [inR_mem (r := r) (by simp) ((has_iff _ _ _).2 ⟨Int.le_refl _, hr.1, Int.le_refl _, hr.2⟩)] at this
   cases this
 refine ⟨?_, hne⟩
 have hm : gl (cn (inR p)) 0 ∈ cn (inR p) := gl_mem (List.length_pos_iff.2 hne)
 have h2 := (Canon.cn (fin_inR p)).pos hm
 rw [← inR_cn (fin_inR p)]
 exact inR_mem hm ((has_iff _ _ _).2 ⟨Int.le_refl _, h2.1, Int.le_refl _, h2.2⟩)
theorem shape_Parts_ok {F : Nat} (hF : BIG ≤ F) {a : Region} (hv : Val a.rects_) (hs : ∀ p ∈ parts a.rects_, (cn (inR p)).length ≤ 120) :
  ∃ r, shape_Parts F a = some (r, 0) ∧ r.Perm ((parts a.rects_).map regOf) ∧ r.Pairwise fun a b => lt2 (key1 a) (key1 b) := by
 have hF' := hF
 unfold BIG at hF
 have hpos : ∀ r ∈ a.rects_, Pos r := fun r hr => hv.2.2.pos hr
 have hlen := hv.1
 have happ := parts_apt hv.2.2.apt
 have hkd : ((parts a.rects_).map regOf).Pairwise fun a b => key1 a ≠ key1 b := by
  rw [List.pairwise_map, List.pairwise_iff_getElem]
  rw [List.pairwise_iff_getElem] at happ
  intro i j hi hj hij he
  have h1 := (key1_mem ((parts_ok _).1 _ (List.getElem_mem hi)).1 fun r hr => hpos r (parts_mem (List.getElem_mem hi) hr)).1
  have h2 := (key1_mem ((parts_ok _).1 _ (List.getElem_mem hj)).1 fun r hr => hpos r (parts_mem (List.getElem_mem hj) hr)).1
  rw [← he] at h2
  exact (happ i j hi hj hij).1 _ _ h1 h2
 have hpl := parts_len (l := a.rects_)
 obtain ⟨r, hr, hr1, hr2⟩ := sortG_key (q := fun y0 y1 => shape_Parts_1 F y0 y1) key1 (x := (parts a.rects_).map regOf) (by simp [LIM]; omega) (fun x hx y hy => by
  obtain ⟨p, hp, rfl⟩ := List.mem_map.1 hx
  obtain ⟨p', hp', rfl⟩ := List.mem_map.1 hy
  exact shape_Parts_1_ok hF' (key1_mem ((parts_ok _).1 _ hp).1 fun r hr => hpos r (parts_mem hp hr)).2 (key1_mem ((parts_ok _).1 _ hp').1 fun r hr => hpos r (parts_mem hp' hr)).2) hkd
 refine ⟨r, ?_, hr1, hr2⟩
 unfold shape_Parts
 refine bd_ok (region_Valid_ok hF' a) ?_
 rw [valB_true hv]
 refine br_ff rfl ?_
 refine loopN_ok (fun z : List Rect × List Region => ∃ (n : Nat) (done : List Region), z.2 = done ∧ z.1.length ≤ n ∧ z.1.length ≤ 120 ∧ done.length + z.1.length ≤ 120 ∧ done ++ (partsL n z.1).map regOf = (parts a.rects_).map regOf ∧ (∀ r ∈ z.1, r ∈ a.rects_)) (fun z => z.1.length) (fun again z hz ih => ?_) ⟨a.rects_.length, [], rfl, Nat.le_refl _, by omega, by simp; omega, rfl, fun _ h => h⟩ (by simp only; omega)
 obtain ⟨l, done'⟩ := z
 obtain ⟨n, done, rfl, h1, h2, h3, h4, h5⟩ := hz
 simp only at h1 h2 h3 h4 h5 ih ⊢
 unfold shape_Parts_b0
 cases l with
 | nil =>
  refine br_ff (by simp) ?_
  unfold shape_Parts_k1
  have e : (partsL n []).map regOf = [] := by cases n <;> rfl
  rw [e, List.append_nil] at h4
  rw [h4]
  exact bd_ok hr rfl
 | cons b l =>
  refine br_tt (by simp) ?_
  refine bd_ok (shape_Joined_ok hF' (by simp) (by omega) (fun r hr => sm_prop (hv.2.1 r (h5 r hr)))) ?_
  cases n with
  | zero => simp at h1
  | succ n =>
  simp only [partsL, List.map_cons] at h4
  have hj := joined_ok b l
  have hjl := hj.lens
  have hjp := hj.perm.length_eq
  simp only [List.length_append, List.length_cons, List.length_nil] at hjp h1 h2 h3
  have hmem : (joined (b :: l)).1 ∈ parts a.rects_ ∨ True := .inr trivial
  have hq : ∀ r ∈ (joined (b :: l)).1, r ∈ a.rects_ := fun r hr => h5 r (hj.perm.mem_iff.1 (List.mem_append.2 (.inl hr)))
  have hin : regOf (joined (b :: l)).1 ∈ (parts a.rects_).map regOf := by rw [← h4]; simp
  obtain ⟨p, hp, hpe⟩ := List.mem_map.1 hin
  have hcl : (cn (inR (joined (b :: l)).1)).length ≤ 120 := by
   have := hs p hp
   have e : (regOf p).rects_ = (regOf (joined (b :: l)).1).rects_ := by rw [hpe]
   simp only [regOf] at e
   rw [← e]; exact this
  refine bd_ok (region_Of_ok hF' (by omega) fun r hr => hv.2.1 r (hq r hr)) ?_
  rw [if_neg (by omega)]
  refine br_ff (by simp) ?_
  refine gd_ok (by simp [LIM]; omega) ?_
  have hne : 1 ≤ (joined (b :: l)).1.length := by
   have := hjl.1
   rcases Nat.eq_zero_or_pos (joined (b :: l)).1.length with h | h
   ·exact absurd (List.eq_nil_of_length_eq_zero h) this
   ·exact h
  refine ih _ ⟨n, _, rfl, ?_, ?_, ?_, ?_, fun r hr => ?_⟩ ?_
  ·simp only; omega
  ·simp only; omega
  ·simp only [List.length_append, List.length_cons, List.length_nil]; omega
  ·simp only
   rw [List.append_assoc]; exact h4
  ·exact h5 r (hj.perm.mem_iff.1 (List.mem_append.2 (.inr hr)))
  ·simp only [List.length_cons]; omega
end Go.Ab
end

section
namespace Go.Ab
set_option maxRecDepth 20000
def wid (k : Int) (r : Rect) : Rect := ⟨r.left_ - k, r.low_ - k, r.right_ + k, r.high_ + k⟩
def clipR (r : Rect) : Rect := ⟨gmax 0 r.left_, gmax 0 r.low_, gmin 16384 r.right_, gmin 16384 r.high_⟩
theorem shape_wider_ok {F : Nat} (hF : BIG ≤ F) {l : List Rect} (hl : l.length ≤ 1000000) (hs : ∀ r ∈ l, Sm r) {k : Int} (h0 : 0 ≤ k) (h1 : k ≤ 64) : shape_wider F l k = some (l.map (wid k)) := by
 unfold BIG at hF
 unfold shape_wider
 refine range_st (l := l) (I := fun m s => s ++ m.map (wid k) = l.map (wid k)) (fun _ _ => some (l.map (wid k))) (fun again i s hi hI ih => ?_) (fun again s hI => ?_) (by omega) rfl
 ·have hr := hs _ (gl_mem hi)
  unfold Sm at hr
  have hsl : s.length ≤ l.length := by
   have := congrArg List.length hI
   simp at this; omega
  unfold shape_wider_b0
  refine br_tt (lt_dec hi) ?_
  refine gd_ok (by first | omega | exact i64_of (by omega) (by omega) | (simp only [LIM, BIG, List.length_append, List.length_cons, List.length_nil, List.length_map, List.length_take, List.length_drop, List.length_set] at *; omega)) ?_
  simp only [Int.toNat_natCast]
  refine gd_ok (i64_of (by omega) (by omega)) ?_
  refine gd_ok (i64_of (by omega) (by omega)) ?_
  refine gd_ok (i64_of (by omega) (by omega)) ?_
  refine gd_ok (i64_of (by omega) (by omega)) ?_
  refine gd_ok (by simp [LIM]; omega) ?_
  refine gd_ok (by first | omega | exact i64_of (by omega) (by omega) | (simp only [LIM, BIG, List.length_append, List.length_cons, List.length_nil, List.length_map, List.length_take, List.length_drop, List.length_set] at *; omega)) ?_
  refine ih _ ?_
  rw [← hI, List.append_assoc]; rfl
 ·show shape_wider_b0 F l k again ((l.length : Nat) : Int) s = _
  unfold shape_wider_b0
  refine br_ff (not_lt_dec _) ?_
  unfold shape_wider_k1
  simpa using hI
theorem grow_loop {F : Nat} (hF : BIG ≤ F) {l : List Rect} (hl : l.length ≤ 1000000) {y : Option (Region × Int)} (hk : shape_Grow_k1 F (l.map clipR) = y) :
  loopN (fun again (z : Int × (List Rect)) => shape_Grow_b0 F l again z.1 z.2) F ((0 : Int), l) = y := by
 unfold BIG at hF
 refine range_st (l := l) (I := fun m s => ∃ i, m = l.drop i ∧ i ≤ l.length ∧ s = (l.take i).map clipR ++ l.drop i) (fun _ _ => y) (fun again i s hi hI ih => ?_) (fun again s hI => ?_) (by omega) ⟨0, by simp⟩
 ·obtain ⟨j, hj, hjl, rfl⟩ := hI
  have hij : j = i := by
   have := congrArg List.length hj
   simp at this; omega
  subst hij
  have hlen : ((l.take j).map clipR).length = j := by simp; omega
  have hs : ((l.take j).map clipR ++ l.drop j) = (l.take j).map clipR ++ gl l j :: l.drop (j + 1) := by rw [drop_gl hi]
  rw [hs]
  unfold shape_Grow_b0
  refine br_tt (lt_dec hi) ?_
  refine gd_ok (by simp; omega) ?_
  refine gd_ok (by simp; omega) ?_
  simp only [Int.toNat_natCast]
  refine gd_ok (by first | omega | exact i64_of (by omega) (by omega) | (simp only [LIM, BIG, List.length_append, List.length_cons, List.length_nil, List.length_map, List.length_take, List.length_drop, List.length_set] at *; omega)) ?_
  rw [gl_mid _ _ _ hlen.symm, set_mid _ _ _ _ hlen.symm]
  refine ih _ ⟨j + 1, rfl, hi, ?_⟩
  rw [take_gl hi, List.map_append, List.append_assoc]; rfl
 ·obtain ⟨j, hj, hjl, rfl⟩ := hI
  have hij : j = l.length := by
   have := congrArg List.length hj
   simp at this; omega
  subst hij
  show shape_Grow_b0 F l again ((l.length : Nat) : Int) _ = _
  unfold shape_Grow_b0
  refine br_ff (not_lt_dec _) ?_
  simpa using hk
theorem shape_check_ok {F : Nat} (hF : BIG ≤ F) (a : Region) (k : Int) : shape_check F a k = some (if valB a.rects_ = true then (if k < 0 ∨ 64 < k then 2 else 0) else 7) := by
 unfold shape_check
 refine bd_ok (region_Valid_ok hF a) ?_
 cases valB a.rects_ with
 | false => rfl
 | true =>
  refine br_ff rfl ?_
  rw [if_pos rfl]
  have e : ∀ c, shape_check_k0 F c = some (if c = true then 2 else 0) := fun c => by cases c <;> rfl
  refine br_ok (fun h => ?_) (fun h => ?_)
  ·rw [e, if_pos rfl, if_pos (.inl (by simpa using h))]
  ·have h : ¬ k < 0 := by simpa using h
   rw [e]
   by_cases h2 : 64 < k
   ·rw [if_pos (by simpa using h2), if_pos (.inr h2)]
   ·rw [if_neg (by simpa using h2), if_neg (by omega)]
theorem clip_prop {r : Rect} (h : propB r = true) {k : Int} (h0 : 0 ≤ k) (h1 : k ≤ 64) : propB (clipR (wid k r)) = true := by
 rw [propB_iff] at h ⊢
 simp only [clipR, wid, gmax, gmin]
 repeat' split
 all_goals omega
def growL (l : List Rect) (k : Int) : List Rect := l.map fun r => clipR (wid k r)
noncomputable def lim (l : List Rect) : Region × Int := if 120 < l.length then (⟨[]⟩, 1) else (⟨l⟩, 0)
theorem shape_Grow_ok {F : Nat} (hF : BIG ≤ F) {a : Region} (hv : Val a.rects_) {k : Int} (h0 : 0 ≤ k) (h1 : k ≤ 64) : shape_Grow F a k = some (lim (cn (inR (growL a.rects_ k)))) := by
 have hlen := hv.1
 unfold shape_Grow
 refine bd_ok (shape_check_ok hF a k) ?_
 rw [valB_true hv, if_pos rfl, if_neg (by omega)]
 refine br_ff rfl ?_
 refine bd_ok (shape_wider_ok hF (by omega) (fun r hr => sm_prop (hv.2.1 r hr)) h0 h1) ?_
 refine grow_loop hF (by simp; omega) ?_
 unfold shape_Grow_k1
 have e : (a.rects_.map (wid k)).map clipR = growL a.rects_ k := by rw [List.map_map]; rfl
 rw [e]
 refine bd_ok (region_Of_ok hF (by unfold growL; simp; omega) (fun r hr => ?_)) rfl
 obtain ⟨s, hs, rfl⟩ := List.mem_map.1 hr
 exact clip_prop (hv.2.1 s hs) h0 h1
def near (k x y u v : Int) : Prop := x - k ≤ u ∧ u ≤ x + k ∧ y - k ≤ v ∧ v ≤ y + k
theorem has_wid {r : Rect} (hp : Pos r) {k : Int} (h0 : 0 ≤ k) (x y : Int) : (wid k r).has x y = true ↔ ∃ u v, r.has u v = true ∧ near k x y u v := by
 unfold Pos at hp
 unfold near
 simp only [has_iff, wid]
 constructor
 ·intro h
  refine ⟨if x < r.left_ then r.left_ else if r.right_ ≤ x then r.right_ - 1 else x, if y < r.low_ then r.low_ else if r.high_ ≤ y then r.high_ - 1 else y, ?_⟩
  repeat' split
  all_goals omega
 ·rintro ⟨u, v, h1, h2⟩
  omega
theorem inR_wid {l : List Rect} (hp : ∀ r ∈ l, Pos r) {k : Int} (h0 : 0 ≤ k) (x y : Int) : inR (l.map (wid k)) x y = true ↔ ∃ u v, inR l u v = true ∧ near k x y u v := by
 rw [inR_iff]
 constructor
 ·rintro ⟨r, hr, h⟩
  obtain ⟨s, hs, rfl⟩ := List.mem_map.1 hr
  obtain ⟨u, v, h1, h2⟩ := (has_wid (hp s hs) h0 x y).1 h
  exact ⟨u, v, inR_mem hs h1, h2⟩
 ·rintro ⟨u, v, h1, h2⟩
  obtain ⟨s, hs, h3⟩ := (inR_iff _ _ _).1 h1
  exact ⟨_, List.mem_map_of_mem hs, (has_wid (hp s hs) h0 x y).2 ⟨u, v, h3, h2⟩⟩
def onGrid (x y : Int) : Prop := 0 ≤ x ∧ x < 16384 ∧ 0 ≤ y ∧ y < 16384
theorem has_clip (r : Rect) (x y : Int) : (clipR r).has x y = true ↔ r.has x y = true ∧ onGrid x y := by
 unfold onGrid
 simp only [has_iff, clipR, gmax, gmin]
 repeat' split
 all_goals omega
theorem inR_growL {l : List Rect} (hp : ∀ r ∈ l, Pos r) {k : Int} (h0 : 0 ≤ k) (x y : Int) : inR (growL l k) x y = true ↔ onGrid x y ∧ ∃ u v, inR l u v = true ∧ near k x y u v := by
 rw [← inR_wid hp h0, inR_iff, inR_iff]
 constructor
 ·rintro ⟨r, hr, h⟩
  obtain ⟨s, hs, rfl⟩ := List.mem_map.1 hr
  rw [has_clip] at h
  exact ⟨h.2, _, List.mem_map_of_mem hs, h.1⟩
 ·rintro ⟨hg, r, hr, h⟩
  obtain ⟨s, hs, rfl⟩ := List.mem_map.1 hr
  exact ⟨_, List.mem_map_of_mem (f := fun r => clipR (wid k r)) hs, (has_clip _ _ _).2 ⟨h, hg⟩⟩
def bnd1 (b r : Rect) : Rect := ⟨gmin b.left_ r.left_, gmin b.low_ r.low_, gmax b.right_ r.right_, gmax b.high_ r.high_⟩
def bnd (l : List Rect) : Rect := l.foldl bnd1 (gl l 0)
theorem bnd_go (P : Rect → Prop) (hP : ∀ b r, P b → P r → P (bnd1 b r)) : ∀ (l : List Rect) (b : Rect), P b → (∀ r ∈ l, P r) → P (l.foldl bnd1 b) := by
 intro l
 induction l with
 | nil => intro b hb _; exact hb
 | cons a l ih => intro b hb h; exact ih _ (hP b a hb (h a (by simp))) fun r hr => h r (by simp [hr])
def InB (r b : Rect) : Prop := b.left_ ≤ r.left_ ∧ b.low_ ≤ r.low_ ∧ r.right_ ≤ b.right_ ∧ r.high_ ≤ b.high_
theorem bnd_has : ∀ (l : List Rect) (b : Rect), InB b (l.foldl bnd1 b) ∧ ∀ r ∈ l, InB r (l.foldl bnd1 b) := by
 intro l
 induction l with
 | nil => intro b; exact ⟨⟨Int.le_refl _, Int.le_refl _, Int.le_refl _, Int.le_refl _⟩, fun r hr => (List.not_mem_nil hr).elim⟩
 | cons a l ih =>
  intro b
  obtain ⟨h1, h2⟩ := ih (bnd1 b a)
  have g : InB b (bnd1 b a) ∧ InB a (bnd1 b a) := by
   unfold InB bnd1 gmin gmax
   simp only
   constructor <;> (repeat' split) <;> omega
  have tr : ∀ {x y z}, InB x y → InB y z → InB x z := fun h k => by unfold InB at *; omega
  exact ⟨tr g.1 h1, fun r hr => by
   rcases List.mem_cons.1 hr with rfl | hr
   ·exact tr g.2 h1
   ·exact h2 r hr⟩
theorem shape_Bounds_ok {F : Nat} (hF : BIG ≤ F) {a : Region} (hv : Val a.rects_) (hne : a.rects_ ≠ []) : shape_Bounds F a = some (bnd a.rects_, true) := by
 have hl := hv.1
 have hpos : 0 < a.rects_.length := List.length_pos_iff.2 hne
 have hF' := hF
 unfold BIG at hF
 unfold shape_Bounds
 refine bd_ok (region_Valid_ok hF' a) ?_
 rw [valB_true hv]
 refine br_ff rfl ?_
 unfold shape_Bounds_k0
 refine br_ff (by simp; exact hne) ?_
 refine gd_ok (by omega) ?_
 refine loopN_ok (fun z : Int × Int × Int × Int × Int => ∃ i : Nat, i ≤ a.rects_.length ∧ z.1 = i ∧ (a.rects_.drop i).foldl bnd1 ⟨z.2.1, z.2.2.1, z.2.2.2.1, z.2.2.2.2⟩ = bnd a.rects_) (fun z => a.rects_.length - z.1.toNat) (fun again z hz ih => ?_) ⟨0, by omega, rfl, rfl⟩ (by simp; omega)
 obtain ⟨zi, z1, z2, z3, z4⟩ := z
 obtain ⟨i, hi, rfl, hb⟩ := hz
 simp only at hb ih ⊢
 unfold shape_Bounds_b1
 refine br_ok (fun h => ?_) (fun h => ?_)
 ·have h : i < a.rects_.length := by simpa using h
  refine gd_ok (by first | omega | exact i64_of (by omega) (by omega) | (simp only [LIM, BIG, List.length_append, List.length_cons, List.length_nil, List.length_map, List.length_take, List.length_drop, List.length_set] at *; omega)) ?_
  simp only [Int.toNat_natCast]
  refine gd_ok (by first | omega | exact i64_of (by omega) (by omega) | (simp only [LIM, BIG, List.length_append, List.length_cons, List.length_nil, List.length_map, List.length_take, List.length_drop, List.length_set] at *; omega)) ?_
  rw [drop_gl h] at hb
  exact ih _ ⟨i + 1, h, by simp only; omega, hb⟩ (by simp only; omega)
 ·have h : ¬ i < a.rects_.length := by simpa using h
  have : i = a.rects_.length := by omega
  subst this
  rw [List.drop_length] at hb
  unfold shape_Bounds_k2
  rw [← hb]; rfl
theorem shape_Bounds_nil {F : Nat} (hF : BIG ≤ F) {a : Region} (h : a.rects_ = []) : shape_Bounds F a = some (⟨0, 0, 0, 0⟩, false) := by
 unfold shape_Bounds
 refine bd_ok (region_Valid_ok hF a) ?_
 rw [valB_true (by rw [h]; exact Val.nil)]
 refine br_ff rfl ?_
 unfold shape_Bounds_k0
 exact br_tt (by rw [h]; rfl) rfl
noncomputable def outs (l : List Rect) (k : Int) : List Rect := cn fun x y => inR [wid k (bnd l)] x y && !inR l x y
noncomputable def shrinkL (l : List Rect) (k : Int) : List Rect := cn fun x y => inR l x y && !inR ((outs l k).map (wid k)) x y
theorem fin_diff (a b : List Rect) : Fin fun x y => inR a x y && !inR b x y := fin_comb a b 3
theorem Shrink_1_ok (F : Nat) (u v : Bool) : shape_Shrink_1 F u v = some (u && !v) := by cases u <;> cases v <;> rfl
theorem sm_bnd {l : List Rect} (hne : l ≠ []) (h : ∀ r ∈ l, Sm r) : Sm (bnd l) := by
 have hpos : 0 < l.length := List.length_pos_iff.2 hne
 refine bnd_go Sm (fun b r hb hr => ?_) l _ (h _ (gl_mem hpos)) h
 unfold Sm at *
 unfold bnd1 gmin gmax
 simp only
 repeat' split
 all_goals omega
theorem pos_bnd {l : List Rect} (hne : l ≠ []) (h : ∀ r ∈ l, Pos r) : Pos (bnd l) := by
 have hpos : 0 < l.length := List.length_pos_iff.2 hne
 refine bnd_go Pos (fun b r hb hr => ?_) l _ (h _ (gl_mem hpos)) h
 unfold Pos at *
 unfold bnd1 gmin gmax
 simp only
 repeat' split
 all_goals omega
theorem sm_outs {l : List Rect} (hne : l ≠ []) (h : ∀ r ∈ l, propB r = true) {k : Int} (h0 : 0 ≤ k) (h1 : k ≤ 64) : ∀ r ∈ outs l k, Sm r ∧ Pos r := by
 intro r hr
 have hc : Canon (outs l k) := Canon.cn (fin_diff _ _)
 obtain ⟨p1, p2⟩ := hc.pos hr
 have hin : ∀ x y, r.has x y = true → -64 ≤ x ∧ x < 16384 + 64 ∧ -64 ≤ y ∧ y < 16384 + 64 := by
  intro x y hxy
  have := inR_mem hr hxy
  unfold outs at this
  rw [inR_cn (fin_diff _ _)] at this
  simp only [Bool.and_eq_true] at this
  have h2 := this.1
  simp only [inR, List.any_cons, List.any_nil, Bool.or_false, has_iff, wid] at h2
  have hb : 0 ≤ (bnd l).left_ ∧ (bnd l).right_ ≤ 16384 ∧ 0 ≤ (bnd l).low_ ∧ (bnd l).high_ ≤ 16384 := by
   have hpos : 0 < l.length := List.length_pos_iff.2 hne
   refine bnd_go (fun r => 0 ≤ r.left_ ∧ r.right_ ≤ 16384 ∧ 0 ≤ r.low_ ∧ r.high_ ≤ 16384) (fun b r hb hr => ?_) l _ (by have := (propB_iff _).1 (h _ (gl_mem hpos)); omega) (fun r hr => by have := (propB_iff _).1 (h r hr); omega)
   unfold bnd1 gmin gmax
   simp only
   repeat' split
   all_goals omega
  omega
 have a := hin r.left_ r.low_ ((has_iff _ _ _).2 (by omega))
 have b := hin (r.right_ - 1) (r.high_ - 1) ((has_iff _ _ _).2 (by omega))
 refine ⟨?_, p1, p2⟩
 unfold Sm
 omega
theorem shape_Shrink_ok {F : Nat} (hF : BIG ≤ F) {a : Region} (hv : Val a.rects_) (hne : a.rects_ ≠ []) {k : Int} (h0 : 0 ≤ k) (h1 : k ≤ 64) (ho : (outs a.rects_ k).length ≤ 15000) : shape_Shrink F a k = some (lim (shrinkL a.rects_ k)) := by
 have hlen := hv.1
 unfold shape_Shrink
 refine bd_ok (shape_check_ok hF a k) ?_
 rw [valB_true hv, if_pos rfl, if_neg (by omega)]
 refine br_ff rfl ?_
 refine bd_ok (shape_Bounds_ok hF hv hne) ?_
 refine br_ff rfl ?_
 have hsm : ∀ r ∈ a.rects_, Sm r := fun r hr => sm_prop (hv.2.1 r hr)
 have hpp : ∀ r ∈ a.rects_, Pos r := fun r hr => hv.2.2.pos hr
 refine bd_ok (shape_wider_ok hF (by simp) (fun r hr => by rw [List.mem_singleton.1 hr]; exact sm_bnd hne hsm) h0 h1) ?_
 have hb := pos_bnd hne hpp
 have hso := sm_outs hne hv.2.1 h0 h1
 refine bd_ok (region_Choose_ok hF (by simp; omega) (fun r hr => ?_) (fun r hr => (hpp r hr).1) (k := fun u v => u && !v) rfl (Shrink_1_ok F)) ?_
 ·obtain ⟨s, hs, rfl⟩ := List.mem_map.1 hr
  rw [List.mem_singleton.1 hs]
  unfold Pos at hb
  simp only [wid]; omega
 show (shape_wider F (outs a.rects_ k) k).bind _ = _
 refine bd_ok (shape_wider_ok hF (by omega) (fun r hr => (hso r hr).1) h0 h1) ?_
 refine bd_ok (region_Choose_ok hF (by simp; omega) (fun r hr => (hpp r hr).1) (fun r hr => ?_) (k := fun u v => u && !v) rfl (Shrink_1_ok F)) ?_
 ·obtain ⟨s, hs, rfl⟩ := List.mem_map.1 hr
  have := (hso s hs).2.1
  simp only [wid]; omega
 show (region_Limited F (shrinkL a.rects_ k)).bind _ = _
 exact bd_ok (region_Limited_ok F _) rfl
theorem shape_Shrink_nil {F : Nat} (hF : BIG ≤ F) {a : Region} (h : a.rects_ = []) {k : Int} (h0 : 0 ≤ k) (h1 : k ≤ 64) : shape_Shrink F a k = some (⟨[]⟩, 0) := by
 unfold shape_Shrink
 refine bd_ok (shape_check_ok hF a k) ?_
 rw [valB_true (by rw [h]; exact Val.nil), if_pos rfl, if_neg (by omega)]
 refine br_ff rfl ?_
 refine bd_ok (shape_Bounds_nil hF h) ?_
 exact br_tt rfl rfl
end Go.Ab
end

section
namespace Go.Ab
set_option maxRecDepth 20000
theorem parts_ex : parts [⟨0, 0, 1, 1⟩, ⟨1, 1, 2, 2⟩] = [[⟨0, 0, 1, 1⟩], [⟨1, 1, 2, 2⟩]] := by decide +kernel
theorem val_one {r : Rect} (h : propB r = true) : Val [r] := by
 have h2 := (propB_iff r).1 h
 exact ⟨by simp, fun s hs => by rw [List.mem_singleton.1 hs]; exact h, canon_one (by omega) (by omega)⟩
theorem cn_one {r : Rect} (h : propB r = true) : cn (inR [r]) = [r] := (canon_iff _).1 (val_one h).2.2
theorem val_ex : Val [⟨0, 0, 1, 1⟩, ⟨1, 1, 2, 2⟩] := by
 refine ⟨by simp, fun r hr => ?_, ⟨[⟨0, 1, [⟨0, 1⟩]⟩, ⟨1, 2, [⟨1, 2⟩]⟩], ⟨⟨fun b hb => ?_, ?_⟩, fun b hb => ?_, fun b hb => ?_⟩, rfl⟩⟩
 ·simp only [List.mem_cons, List.not_mem_nil, or_false] at hr
  rcases hr with rfl | rfl <;> decide
 ·simp only [List.mem_cons, List.not_mem_nil, or_false] at hb
  rcases hb with rfl | rfl <;> decide
 ·rw [List.pairwise_cons]
  exact ⟨fun b hb => by rw [List.mem_singleton.1 hb]; exact ⟨by decide, fun _ => by decide⟩, List.pairwise_singleton _ _⟩
 ·simp only [List.mem_cons, List.not_mem_nil, or_false] at hb
  rcases hb with rfl | rfl <;> exact ⟨fun s hs => by rw [List.mem_singleton.1 hs]; decide, List.pairwise_singleton _ _⟩
 ·simp only [List.mem_cons, List.not_mem_nil, or_false] at hb
  rcases hb with rfl | rfl <;> simp
theorem law06_awake_ok {F : Nat} (hF : BIG ≤ F) : law06_awake F = some true := by
 have p1 : propB ⟨0, 0, 1, 1⟩ = true := by decide
 have p2 : propB ⟨1, 1, 2, 2⟩ = true := by decide
 obtain ⟨r, h1, h2, _⟩ := shape_Parts_ok hF (a := ⟨[⟨0, 0, 1, 1⟩, ⟨1, 1, 2, 2⟩]⟩) val_ex (fun p hp => by
  simp only [parts_ex, List.mem_cons, List.not_mem_nil, or_false] at hp
  rcases hp with rfl | rfl
  ·rw [cn_one p1]; simp
  ·rw [cn_one p2]; simp)
 have hl : r.length = 2 := by
  have := h2.length_eq
  simp only [parts_ex] at this
  simpa using this
 unfold law06_awake
 refine bd_ok h1 ?_
 refine bd_ok (shape_Grow_ok hF (a := ⟨[⟨5, 5, 6, 6⟩]⟩) (val_one (by decide)) (k := 1) (by omega) (by omega)) ?_
 have e : growL [⟨5, 5, 6, 6⟩] 1 = [⟨4, 4, 7, 7⟩] := by decide
 have e2 : lim (cn (inR (growL [⟨5, 5, 6, 6⟩] 1))) = (⟨[⟨4, 4, 7, 7⟩]⟩, 0) := by
  rw [e, cn_one (by decide)]; rfl
 simp only [e2]
 refine br_tt rfl ?_
 refine br_tt (by rw [hl]; rfl) ?_
 refine br_tt rfl ?_
 refine bd_ok (ref04_Rects_ok hF (by simp [LIM])) ?_
 rfl
section
variable {F : Nat} {a : Region} {z1 : Tape × Region} {x1 k : Int} {x y : Int}
end
end Go.Ab
end

section
namespace Go.Ab
set_option maxRecDepth 20000
theorem Step.spansH {xs : List Int} {f : Int → Bool} (h : Step false xs f) : ∃ l, SpOk l ∧ (∀ x, inS l x = f x) ∧ 2 * l.length ≤ xs.length := by
 by_cases h0 : xs.length = 0
 ·exact ⟨[], .nil, fun x => (h.empty h0 x).symm, by simp⟩
 ·have key : ∀ i, i + 1 ≤ xs.length → ∃ l : List Span, Bst false f (l.map Span.rn) (gl xs i) ∧ 2 * l.length ≤ i + 1 ∧ ((∀ s, l.getLast? = some s → s.right_ ≠ gl xs i) → 2 * l.length ≤ i) := by
   intro i
   induction i with
   | zero => intro hi; exact ⟨[], h.start (by omega), by simp, by simp⟩
   | succ i ih =>
    intro hi
    obtain ⟨l, hl, hll, hlm⟩ := ih (by omega)
    have hlt := h.asc.at_lt (show i < i + 1 by omega) (by omega)
    cases hf : f (gl xs i) with
    | false => exact ⟨l, hl.skip (by omega) fun t h1 h2 => (h.gap i (by omega) t h1 h2).trans hf, by omega, fun _ => by omega⟩
    | true =>
     rcases List.eq_nil_or_concat l with rfl | ⟨l', s, hls⟩
     ·refine ⟨[⟨gl xs i, gl xs (i + 1)⟩], ?_, by simp, fun hh => absurd rfl (hh ⟨gl xs i, gl xs (i + 1)⟩ rfl)⟩
      have := hl.add hlt (h.gap i (by omega)) (fun a ha => by simp at ha)
      rw [hf] at this; exact this
     ·rw [List.concat_eq_append] at hls
      subst hls
      by_cases hs : s.right_ = gl xs i
      ·refine ⟨l' ++ [⟨s.left_, gl xs (i + 1)⟩], ?_, by simp at hll ⊢; omega, fun hh => absurd rfl (hh ⟨s.left_, gl xs (i + 1)⟩ (by simp))⟩
       rw [List.map_append] at hl
       have := hl.grow (a := s.rn) hs hlt fun t h1 h2 => (h.gap i (by omega) t h1 h2).trans hf
       rw [List.map_append]; exact this
      ·have hlm := hlm fun s' hs' => by simp at hs'; rw [← hs']; exact hs
       refine ⟨(l' ++ [s]) ++ [⟨gl xs i, gl xs (i + 1)⟩], ?_, by simp at hlm ⊢; omega, fun hh => absurd rfl (hh ⟨gl xs i, gl xs (i + 1)⟩ (by simp))⟩
       have := hl.add hlt (h.gap i (by omega)) (fun a ha he => by
        rw [List.map_append] at ha
        simp at ha
        subst ha
        exact absurd he hs)
       rw [hf] at this
       rw [List.map_append]; exact this
  obtain ⟨l, hl, hll, _⟩ := key (xs.length - 1) (by omega)
  refine ⟨l, .of_runs hl.runs, fun x => ?_, by omega⟩
  rw [inS_atR]; exact h.done (by omega) hl x
theorem Step.spn_half {xs : List Int} {f : Int → Bool} (h : Step false xs f) : 2 * (spn f).length ≤ xs.length := by
 obtain ⟨l, h1, h2, h3⟩ := h.spansH; rw [spn_eq h1 h2]; exact h3
open Classical in
theorem Step.runsL {α : Type} {d : α} {c : List Int} {f : Int → α} (h : Step d c f) : ∃ acc : List (Rn α), Runs acc ∧ (∀ t, atR d acc t = f t) ∧ (∀ b ∈ acc, b.v ≠ d) ∧ acc.length ≤ c.length := by
 by_cases h0 : c.length = 0
 ·exact ⟨[], .nil, fun x => (h.empty h0 x).symm, fun b hb => (List.not_mem_nil hb).elim, by simp⟩
 ·have key : ∀ i, i + 1 ≤ c.length → ∃ l : List (Rn α), Bst d f l (gl c i) ∧ (∀ b ∈ l, b.v ≠ d) ∧ l.length ≤ i := by
   intro i
   induction i with
   | zero => intro hi; exact ⟨[], h.start (by omega), fun b hb => (List.not_mem_nil hb).elim, by simp⟩
   | succ i ih =>
    intro hi
    obtain ⟨l, hl, hlv, hll⟩ := ih (by omega)
    have hlt := h.asc.at_lt (show i < i + 1 by omega) (by omega)
    by_cases hf : f (gl c i) = d
    ·exact ⟨l, hl.skip (by omega) fun t h1 h2 => (h.gap i (by omega) t h1 h2).trans hf, hlv, by omega⟩
    ·by_cases hs : ∃ a, l.getLast? = some a ∧ a.hi = gl c i ∧ a.v = f (gl c i)
     ·obtain ⟨a, ha, h1, h2⟩ := hs
      obtain ⟨l', rfl⟩ := List.getLast?_eq_some_iff.1 ha
      refine ⟨l' ++ [{ a with hi := gl c (i + 1) }], hl.grow h1 hlt fun t g1 g2 => (h.gap i (by omega) t g1 g2).trans h2.symm, fun b hb => ?_, by simp at hll ⊢; omega⟩
      rcases List.mem_append.1 hb with hb | hb
      ·exact hlv b (by simp [hb])
      ·rw [List.mem_singleton.1 hb]; exact hlv a (by simp)
     ·refine ⟨l ++ [⟨gl c i, gl c (i + 1), f (gl c i)⟩], hl.add hlt (h.gap i (by omega)) (fun a ha he hv => hs ⟨a, ha, he, hv⟩), fun b hb => ?_, by simp at hll ⊢; omega⟩
      rcases List.mem_append.1 hb with hb | hb
      ·exact hlv b hb
      ·rw [List.mem_singleton.1 hb]; exact hf
  obtain ⟨l, hl, hlv, hll⟩ := key (c.length - 1) (by omega)
  exact ⟨l, hl.runs, fun x => h.done (by omega) hl x, hlv, by omega⟩
theorem atR_lo {α : Type} {d : α} {b : Rn α} : ∀ {l : List (Rn α)}, Runs l → b ∈ l → atR d l b.lo = b.v := by
 intro l
 induction l with
 | nil => intro _ hb; cases hb
 | cons a l ih =>
  intro hl hb
  rcases List.mem_cons.1 hb with rfl | hb
  ·have := hl.pos b (by simp)
   rw [atR, if_pos ⟨by omega, this⟩]
  ·have h1 := (hl.head b hb).1
   rw [atR, if_neg (by omega)]; exact ih hl.tail hb
theorem flat_le {B : List (Rn (List Span))} {N : Nat} (h : ∀ b ∈ B, b.v.length ≤ N) : (flat B).length ≤ B.length * N := by
 induction B with
 | nil => simp [flat]
 | cons c B ih =>
  have e : flat (c :: B) = flat1 c ++ flat B := rfl
  have := ih fun d hd => h d (by simp [hd])
  have h4 := h c (by simp)
  rw [e, List.length_append, flat1_len, List.length_cons, Nat.add_mul]
  omega
theorem Grid.len {xs ys : List Int} {S : Int → Int → Bool} (h : Grid xs ys S) {N : Nat} (hN : xs.length ≤ 2 * N + 1) : (cn S).length ≤ ys.length * N := by
 obtain ⟨acc, h1, h2, h3, h4⟩ := h.step.runsL
 rw [(Step.cn h.rows h.step h1 h2 h3).1]
 refine Nat.le_trans (flat_le (N := N) fun b hb => ?_) (Nat.mul_le_mul_right _ h4)
 have := atR_lo (d := []) h1 hb
 rw [h2] at this
 have h5 := (h.x b.lo).spn_half
 rw [← this]
 omega
def mvR (dx dy : Int) (r : Rect) : Rect := ⟨r.left_ + dx, r.low_ + dy, r.right_ + dx, r.high_ + dy⟩
theorem ref06_Move_ok {F : Nat} (hF : BIG ≤ F) {a : Region} (hv : Val a.rects_) {dx dy : Int} (h1 : -16384 ≤ dx) (h2 : dx ≤ 16384) (h3 : -16384 ≤ dy) (h4 : dy ≤ 16384) (hp : ∀ r ∈ a.rects_, propB (mvR dx dy r) = true) : ref06_Move F a dx dy = some (⟨a.rects_.map (mvR dx dy)⟩, 0) := by
 have hl := hv.1
 have hF' := hF
 unfold BIG at hF
 unfold ref06_Move
 refine bd_ok (ref04_Valid_ok hF' a) ?_
 rw [valB_true hv]
 refine br_ff rfl ?_
 refine br_ff (by simp; omega) (br_ff (by simp; omega) (br_ff (by simp; omega) ?_))
 unfold ref06_Move_k0
 refine br_ff (by simp; omega) ?_
 refine range_st (l := a.rects_) (I := fun m s => s ++ m.map (mvR dx dy) = a.rects_.map (mvR dx dy)) (fun _ _ => some ((⟨a.rects_.map (mvR dx dy)⟩ : Region), (0 : Int))) (fun again i s hi hI ih => ?_) (fun again s hI => ?_) (by omega) rfl
 ·have hr := hp _ (gl_mem hi)
  rw [propB_iff] at hr
  simp only [mvR] at hr
  have hsl : s.length ≤ a.rects_.length := by
   have := congrArg List.length hI
   simp at this; omega
  unfold ref06_Move_b1
  refine br_tt (lt_dec hi) ?_
  refine gd_ok (by first | omega | exact i64_of (by omega) (by omega) | (simp only [LIM, BIG, List.length_append, List.length_cons, List.length_nil, List.length_map, List.length_take, List.length_drop, List.length_set] at *; omega)) ?_
  simp only [Int.toNat_natCast]
  refine gd_ok (i64_of (by omega) (by omega)) ?_
  refine gd_ok (i64_of (by omega) (by omega)) ?_
  refine gd_ok (i64_of (by omega) (by omega)) ?_
  refine gd_ok (i64_of (by omega) (by omega)) ?_
  refine br_ff (by simp; omega) (br_ff (by simp; omega) (br_ff (by simp; omega) ?_))
  unfold ref06_Move_k2
  refine br_ff (by simp; omega) ?_
  simp only [Int.toNat_natCast]
  refine gd_ok (by simp [LIM]; omega) ?_
  refine gd_ok (by first | omega | exact i64_of (by omega) (by omega) | (simp only [LIM, BIG, List.length_append, List.length_cons, List.length_nil, List.length_map, List.length_take, List.length_drop, List.length_set] at *; omega)) ?_
  refine ih _ ?_
  rw [← hI, List.append_assoc]; rfl
 ·show ref06_Move_b1 F a dx dy again ((a.rects_.length : Nat) : Int) s = _
  unfold ref06_Move_b1
  refine br_ff (not_lt_dec _) ?_
  unfold ref06_Move_k3
  have : s = a.rects_.map (mvR dx dy) := by simpa using hI
  rw [this]
end Go.Ab
end

section
namespace Go.Ab
set_option maxRecDepth 20000
def tch (a b : List Rect) : Int := (a.map fun r => (b.map fun s => com r s).sum).sum
theorem sum_bound {l : List Int} {M : Int} (h : ∀ x ∈ l, 0 ≤ x ∧ x ≤ M) : 0 ≤ l.sum ∧ l.sum ≤ M * l.length := by
 induction l with
 | nil => simp
 | cons x l ih =>
  have h1 := h x (by simp)
  have h2 := ih fun y hy => h y (by simp [hy])
  simp only [List.sum_cons, List.length_cons]
  have e : M * ((l.length + 1 : Nat) : Int) = M * l.length + M := by rw [Int.natCast_add, Int.mul_add]; simp
  omega
theorem sum_take {f : Rect → Int} {l : List Rect} {j : Nat} (h : j < l.length) : ((l.take (j + 1)).map f).sum = ((l.take j).map f).sum + f (gl l j) := by
 rw [take_gl h, List.map_append, List.sum_append]; simp
theorem touch_inner {F : Nat} (hF : BIG ≤ F) {a b : Region} {r : Rect} (hr : Sm r) (hb : ∀ s ∈ b.rects_, Sm s) (hl : b.rects_.length ≤ 120) {i : Nat} (hgl : gl a.rects_ i = r) {v : Int} (v0 : 0 ≤ v) (v1 : v ≤ 100000000000) {ag : Int × Int → Option (Int × Int)} {y : Option (Int × Int)}
  (hy : shape_Touch_k3 F i ag (v + (b.rects_.map fun s => com r s).sum) = y) : loopN (fun again (z : Int × Int) => shape_Touch_b2 F a b i ag again z.1 z.2) F (v, 0) = y := by
 have hF' := hF
 unfold BIG at hF
 have hbd : ∀ j, 0 ≤ ((b.rects_.take j).map fun s => com r s).sum ∧ ((b.rects_.take j).map fun s => com r s).sum ≤ 480000000 := fun j => by
  have := sum_bound (l := (b.rects_.take j).map fun s => com r s) (M := 4000000) (fun x hx => by
   obtain ⟨s, hs, rfl⟩ := List.mem_map.1 hx
   exact com_nonneg hr (hb s (List.mem_of_mem_take hs)))
  simp only [List.length_map, List.length_take] at this
  omega
 refine loopN_ok (fun z : Int × Int => ∃ j : Nat, z = (v + ((b.rects_.take j).map fun s => com r s).sum, (j : Int)) ∧ j ≤ b.rects_.length) (fun z => b.rects_.length - z.2.toNat) (fun again z hz ih => ?_) ⟨0, by simp, by omega⟩ (by simp; omega)
 obtain ⟨j, rfl, hj⟩ := hz
 simp only at ih ⊢
 have h1 := hbd j
 have h2 := hbd (j + 1)
 unfold shape_Touch_b2
 refine br_ok (fun h => ?_) (fun h => ?_)
 ·have h : j < b.rects_.length := by simpa using h
  refine gd_ok (by first | omega | exact i64_of (by omega) (by omega) | (simp only [LIM, BIG, List.length_append, List.length_cons, List.length_nil, List.length_map, List.length_take, List.length_drop, List.length_set] at *; omega)) ?_
  simp only [Int.toNat_natCast]
  rw [hgl]
  refine bd_ok (shape_common_ok F hr (hb _ (gl_mem h))) ?_
  rw [sum_take h] at h2
  refine gd_ok (i64_of (by omega) (by omega)) ?_
  refine gd_ok (by first | omega | exact i64_of (by omega) (by omega) | (simp only [LIM, BIG, List.length_append, List.length_cons, List.length_nil, List.length_map, List.length_take, List.length_drop, List.length_set] at *; omega)) ?_
  refine ih _ ⟨j + 1, ?_, h⟩ (by simp only; omega)
  rw [sum_take h, ← Int.add_assoc]; rfl
 ·have h : ¬ j < b.rects_.length := by simpa using h
  have : j = b.rects_.length := by omega
  subst this
  rw [List.take_length]
  exact hy
theorem shape_Touch_ok {F : Nat} (hF : BIG ≤ F) {a b : Region} (ha : Val a.rects_) (hb : Val b.rects_) (hd : AptL a.rects_ b.rects_) : shape_Touch F a b = some (tch a.rects_ b.rects_, 0) := by
 have hF' := hF
 unfold BIG at hF
 have la := ha.1
 have lb := hb.1
 have hsa : ∀ r ∈ a.rects_, Sm r := fun r hr => sm_prop (ha.2.1 r hr)
 have hsb : ∀ r ∈ b.rects_, Sm r := fun r hr => sm_prop (hb.2.1 r hr)
 unfold shape_Touch
 refine bd_ok (region_Valid_ok hF' a) ?_
 rw [valB_true ha]
 refine br_ff rfl ?_
 refine bd_ok (region_Valid_ok hF' b) ?_
 rw [valB_true hb]
 unfold shape_Touch_k0
 refine br_ff rfl ?_
 refine bd_ok (region_Meets_ok hF' a b) ?_
 refine br_ff ?_ ?_
 ·rw [← Bool.not_eq_true]
  intro h
  unfold meetB at h
  rw [valB_true ha, valB_true hb, Bool.true_and, Bool.true_and, ovL_iff ha.2.1 hb.2.1] at h
  obtain ⟨x, y, h1, h2⟩ := h
  exact hd x y h1 h2
 let f : Rect → Int := fun r => (b.rects_.map fun s => com r s).sum
 have hf : ∀ r ∈ a.rects_, 0 ≤ f r ∧ f r ≤ 480000000 := fun r hr => by
  have := sum_bound (l := b.rects_.map fun s => com r s) (M := 4000000) (fun x hx => by
   obtain ⟨s, hs, rfl⟩ := List.mem_map.1 hx
   exact com_nonneg (hsa r hr) (hsb s hs))
  simp only [List.length_map] at this
  have e : f r = (b.rects_.map fun s => com r s).sum := rfl
  omega
 have hbd : ∀ j, 0 ≤ ((a.rects_.take j).map f).sum ∧ ((a.rects_.take j).map f).sum ≤ 57600000000 := fun j => by
  have := sum_bound (l := (a.rects_.take j).map f) (M := 480000000) (fun x hx => by
   obtain ⟨s, hs, rfl⟩ := List.mem_map.1 hx
   exact hf s (List.mem_of_mem_take hs))
  simp only [List.length_map, List.length_take] at this
  omega
 refine loopN_ok (fun z : Int × Int => ∃ j : Nat, z = (((a.rects_.take j).map f).sum, (j : Int)) ∧ j ≤ a.rects_.length) (fun z => a.rects_.length - z.2.toNat) (fun again z hz ih => ?_) ⟨0, by simp, by omega⟩ (by simp; omega)
 obtain ⟨j, rfl, hj⟩ := hz
 simp only at ih ⊢
 have h1 := hbd j
 unfold shape_Touch_b1
 refine br_ok (fun h => ?_) (fun h => ?_)
 ·have h : j < a.rects_.length := by simpa using h
  refine gd_ok (by first | omega | exact i64_of (by omega) (by omega) | (simp only [LIM, BIG, List.length_append, List.length_cons, List.length_nil, List.length_map, List.length_take, List.length_drop, List.length_set] at *; omega)) ?_
  refine touch_inner hF' (hsa _ (gl_mem h)) hsb lb rfl h1.1 (by omega) ?_
  unfold shape_Touch_k3
  refine gd_ok (by first | omega | exact i64_of (by omega) (by omega) | (simp only [LIM, BIG, List.length_append, List.length_cons, List.length_nil, List.length_map, List.length_take, List.length_drop, List.length_set] at *; omega)) ?_
  refine ih _ ⟨j + 1, ?_, h⟩ (by simp only; omega)
  rw [sum_take h]; rfl
 ·have h : ¬ j < a.rects_.length := by simpa using h
  have : j = a.rects_.length := by omega
  subst this
  rw [List.take_length]
  rfl
theorem shape_Move_ok {F : Nat} (hF : BIG ≤ F) {a : Region} (hv : Val a.rects_) {dx dy : Int} (h1 : -16384 ≤ dx) (h2 : dx ≤ 16384) (h3 : -16384 ≤ dy) (h4 : dy ≤ 16384) (hp : ∀ r ∈ a.rects_, propB (mvR dx dy r) = true) : shape_Move F a dx dy = some (⟨a.rects_.map (mvR dx dy)⟩, 0) := by
 have hl := hv.1
 have hF' := hF
 unfold BIG at hF
 have hpp : ∀ r ∈ a.rects_, 0 ≤ r.left_ + dx ∧ r.right_ + dx ≤ 16384 ∧ 0 ≤ r.low_ + dy ∧ r.high_ + dy ≤ 16384 ∧ -100000 ≤ r.right_ ∧ r.left_ ≤ 100000 ∧ -100000 ≤ r.high_ ∧ r.low_ ≤ 100000 := fun r hr => by
  have g := hp r hr
  have g2 := hv.2.1 r hr
  rw [propB_iff] at g g2
  simp only [mvR] at g
  omega
 have key : shape_Move_k1 F a dx dy false = some ((⟨a.rects_.map (mvR dx dy)⟩ : Region), (0 : Int)) := by
  unfold shape_Move_k1
  refine br_ff rfl ?_
  refine range_st (l := a.rects_) (I := fun m s => s ++ m.map (mvR dx dy) = a.rects_.map (mvR dx dy)) (fun _ _ => some ((⟨a.rects_.map (mvR dx dy)⟩ : Region), (0 : Int))) (fun again i s hi hI ih => ?_) (fun again s hI => ?_) (by omega) rfl
  ·have hr := hp _ (gl_mem hi)
   have hr2 := hv.2.1 _ (gl_mem hi)
   rw [propB_iff] at hr hr2
   simp only [mvR] at hr
   have hsl : s.length ≤ a.rects_.length := by
    have := congrArg List.length hI
    simp at this; omega
   unfold shape_Move_b2
   refine br_tt (lt_dec hi) ?_
   refine gd_ok (by first | omega | exact i64_of (by omega) (by omega) | (simp only [LIM, BIG, List.length_append, List.length_cons, List.length_nil, List.length_map, List.length_take, List.length_drop, List.length_set] at *; omega)) ?_
   simp only [Int.toNat_natCast]
   refine gd_ok (i64_of (by omega) (by omega)) ?_
   refine gd_ok (i64_of (by omega) (by omega)) ?_
   refine gd_ok (i64_of (by omega) (by omega)) ?_
   refine gd_ok (i64_of (by omega) (by omega)) ?_
   refine gd_ok (by simp [LIM]; omega) ?_
   refine gd_ok (by first | omega | exact i64_of (by omega) (by omega) | (simp only [LIM, BIG, List.length_append, List.length_cons, List.length_nil, List.length_map, List.length_take, List.length_drop, List.length_set] at *; omega)) ?_
   refine ih _ ?_
   rw [← hI, List.append_assoc]; rfl
  ·show shape_Move_b2 F a dx dy again ((a.rects_.length : Nat) : Int) s = _
   unfold shape_Move_b2
   refine br_ff (not_lt_dec _) ?_
   unfold shape_Move_k3
   have : s = a.rects_.map (mvR dx dy) := by simpa using hI
   rw [this]
 unfold shape_Move
 refine bd_ok (region_Valid_ok hF' a) ?_
 rw [valB_true hv]
 refine br_ff rfl ?_
 refine br_ff (by simp; omega) (br_ff (by simp; omega) (br_ff (by simp; omega) ?_))
 unfold shape_Move_k0
 refine br_ff (by simp; omega) ?_
 by_cases hne : a.rects_ = []
 ·refine bd_ok (shape_Bounds_nil hF' hne) ?_
  exact br_ff rfl key
 ·refine bd_ok (shape_Bounds_ok hF' hv hne) ?_
  have hpos : 0 < a.rects_.length := List.length_pos_iff.2 hne
  have hb := bnd_go (fun r => 0 ≤ r.left_ + dx ∧ r.right_ + dx ≤ 16384 ∧ 0 ≤ r.low_ + dy ∧ r.high_ + dy ≤ 16384 ∧ -100000 ≤ r.right_ ∧ r.left_ ≤ 100000 ∧ -100000 ≤ r.high_ ∧ r.low_ ≤ 100000) (fun b r hb hr => by
   unfold bnd1 gmin gmax
   simp only
   repeat' split
   all_goals omega) a.rects_ (gl a.rects_ 0) (hpp _ (gl_mem hpos)) hpp
  have hb : 0 ≤ (bnd a.rects_).left_ + dx ∧ (bnd a.rects_).right_ + dx ≤ 16384 ∧ 0 ≤ (bnd a.rects_).low_ + dy ∧ (bnd a.rects_).high_ + dy ≤ 16384 ∧ -100000 ≤ (bnd a.rects_).right_ ∧ (bnd a.rects_).left_ ≤ 100000 ∧ -100000 ≤ (bnd a.rects_).high_ ∧ (bnd a.rects_).low_ ≤ 100000 := hb
  refine br_tt rfl ?_
  dsimp only
  refine gd_ok (i64_of (by omega) (by omega)) ?_
  refine br_ff (by simp; omega) ?_
  refine gd_ok (i64_of (by omega) (by omega)) ?_
  refine br_ff (by simp; omega) ?_
  refine gd_ok (i64_of (by omega) (by omega)) ?_
  refine br_ff (by simp; omega) ?_
  refine gd_ok (i64_of (by omega) (by omega)) ?_
  have e : decide ((16384 : Int) < (bnd a.rects_).high_ + dy) = false := by simp; omega
  simp only [e]
  exact key
end Go.Ab
end

section
namespace Go.Ab
set_option maxRecDepth 20000
end Go.Ab
end

section
namespace Go.Ab
set_option maxRecDepth 20000
theorem SpOk.half {n : Int} : ∀ {l : List Span}, SpOk l → ∀ {a : Int}, a ≤ n + 1 → (∀ s ∈ l, a ≤ s.left_ ∧ s.right_ ≤ n) → 2 * (l.length : Int) ≤ n + 1 - a
 | [], _, a, ha, _ => by simp; omega
 | s :: l, h, a, ha, hb => by
  have h1 := hb s (by simp)
  have h2 := h.pos s (by simp)
  have ht : SpOk l := ⟨fun q hq => h.pos q (by simp [hq]), (List.pairwise_cons.1 h.ch).2⟩
  have := SpOk.half (n := n) ht (a := s.right_ + 1) (by omega) fun q hq => ⟨by have := (List.pairwise_cons.1 h.ch).1 q hq; omega, (hb q (by simp [hq])).2⟩
  rw [List.length_cons]
  omega
theorem Canon.half {l : List Rect} (hc : Canon l) {n : Nat} (hb : Box n l) : l.length ≤ n * ((n + 1) / 2) := by
 obtain ⟨b, hB, rfl⟩ := hc
 have hne : ∀ c ∈ b, ∃ s, s ∈ c.v := fun c hc => List.exists_mem_of_ne_nil _ (hB.ne c hc)
 have hmem : ∀ c ∈ b, ∀ s ∈ c.v, (⟨s.left_, c.lo, s.right_, c.hi⟩ : Rect) ∈ flat b := fun c hc s hs => List.mem_flatMap.2 ⟨c, hc, List.mem_map.2 ⟨s, hs, rfl⟩⟩
 have h1 : (b.length : Int) ≤ n - 0 := hB.runs.len (by omega) fun c hc => by
  obtain ⟨s, hs⟩ := hne c hc
  have := hb _ (hmem c hc s hs)
  simp only at this
  omega
 have h2 : ∀ c ∈ b, c.v.length ≤ (n + 1) / 2 := fun c hc => by
  have := (hB.sp c hc).half (n := n) (a := 0) (by omega) fun s hs => by
   have := hb _ (hmem c hc s hs)
   simp only at this ⊢
   omega
  omega
 have h5 := flat_le h2
 have h6 : b.length * ((n + 1) / 2) ≤ n * ((n + 1) / 2) := Nat.mul_le_mul_right _ (by omega)
 omega
end Go.Ab
end

section
namespace Go.Ab
set_option maxRecDepth 20000
def Ok {R : Type} (x : Option R) (G : R → Prop) : Prop := ∃ r, x = some r ∧ G r
theorem ok_some {R : Type} {r : R} {G : R → Prop} (h : G r) : Ok (some r) G := ⟨r, rfl, h⟩
theorem ok_gd {R : Type} {p : Prop} [Decidable p] {x : Option R} {G : R → Prop} (h : p) (k : Ok x G) : Ok (gd p x) G := by unfold gd; rw [if_pos h]; exact k
theorem ok_bd {α R : Type} {x : Option α} {f : α → Option R} {a : α} {G : R → Prop} (h : x = some a) (k : Ok (f a) G) : Ok (x.bind f) G := by rw [h]; exact k
theorem ok_br {R : Type} {b : Bool} {x y : Option R} {G : R → Prop} (ht : b = true → Ok x G) (hf : b = false → Ok y G) : Ok (br b x y) G := by cases b; exact hf rfl; exact ht rfl
theorem ok_loop {σ R : Type} {body : (σ → Option R) → σ → Option R} {G : R → Prop} (I : σ → Prop) (μ : σ → Nat)
  (round : ∀ again z, I z → (∀ z', I z' → μ z' < μ z → Ok (again z') G) → Ok (body again z) G) : ∀ {n : Nat} {z : σ}, I z → μ z < n → Ok (loopN body n z) G := by
 intro n
 induction n with
 | zero => intro z _ h; omega
 | succ n ih =>
  intro z hz h
  exact round _ z hz fun z' h1 h2 => ih h1 (by omega)
theorem ref06_touch_ok (F : Nat) {a b : Rect} (ha : Sm a) (hb : Sm b) (pa : Pos a) (pb : Pos b) : ref06_touch F a b = some (com a b) := by
 have h1 := lapX_le ha hb
 have h2 := lapY_le ha hb
 unfold Pos at pa pb
 have e : sideX a b = true → lapX a b = 0 := fun h => by
  unfold sideX at h
  unfold lapX gmax gmin at *
  rw [Bool.or_eq_true, beq_iff_eq, beq_iff_eq] at h
  repeat' split
  all_goals omega
 have k1 : ∀ c, ref06_touch_k1 F a b c = some (if c = true then lapX a b else 0) := fun c => by
  unfold ref06_touch_k1
  refine br_ok (fun h => ?_) (fun h => ?_)
  ·subst h; exact gd_ok (i64_of (by omega) (by omega)) rfl
  ·subst h; rfl
 have k0 : ∀ c, ref06_touch_k0 F a b c = some (if c = true then lapY a b else if sideY a b = true then lapX a b else 0) := fun c => by
  unfold ref06_touch_k0
  refine br_ok (fun h => ?_) (fun h => ?_)
  ·subst h; exact gd_ok (i64_of (by omega) (by omega)) rfl
  ·subst h
   unfold sideY
   refine br_ok (fun h => ?_) (fun h => ?_)
   ·rw [k1, h]; rfl
   ·rw [k1, h]; rfl
 unfold ref06_touch com
 cases hs : sideX a b with
 | true =>
  rw [e hs]
  unfold sideX at hs
  refine br_ok (fun h => ?_) (fun h => ?_)
  ·rw [k0]; simp
  ·rw [h, Bool.false_or] at hs
   rw [k0, hs]; simp
 | false =>
  unfold sideX at hs
  refine br_ok (fun h => ?_) (fun h => ?_)
  ·rw [h] at hs; cases hs
  ·rw [h, Bool.false_or] at hs
   rw [k0, hs]; simp
section
variable (R : List Rect)
def nr (i k : Nat) : Bool := nearB (gl R i) (gl R k)
def Cl (C : Nat → Prop) : Prop := ∀ i k, i < R.length → k < R.length → nr R i k = true → (C i ↔ C k)
structure Lab (p : List Int) : Prop where
 len : p.length = R.length
 low : ∀ i, i < R.length → 0 ≤ gl p i ∧ gl p i ≤ (i : Int)
 con : ∀ C, Cl R C → ∀ i, i < R.length → (C i ↔ C (gl p i).toNat)
def mu (p : List Int) : Nat := (p.map Int.toNat).sum
structure SI (P : List Int) (i k : Nat) (g : Bool) (p : List Int) : Prop where
 lab : Lab R p
 le : mu p ≤ mu P
 lt : g = true → mu p < mu P
 eq : g = false → p = P ∧ ∀ i' k', i' < R.length → k' < R.length → (i' < i ∨ (i' = i ∧ k' < k)) → ¬ (gl P k' < gl P i' ∧ nr R i' k' = true)
end
theorem sum_set_lt : ∀ {p : List Int} {i : Nat} {v : Int}, i < p.length → 0 ≤ v → v < gl p i → mu (p.set i v) < mu p
 | a :: p, 0, v, _, h0, h => by
  have h : v < a := h
  simp only [mu, List.set_cons_zero, List.map_cons, List.sum_cons]; omega
 | a :: p, i + 1, v, hi, h0, h => by
  have := sum_set_lt (p := p) (i := i) (v := v) (by simpa using hi) h0 h
  simp only [mu] at this
  simp only [mu, List.set_cons_succ, List.map_cons, List.sum_cons]; omega
theorem gl_set_int {p : List Int} {i k : Nat} {v : Int} (hi : i < p.length) : gl (p.set i v) k = if k = i then v else gl p k := by
 unfold gl
 rw [List.getD_eq_getElem?_getD, List.getD_eq_getElem?_getD, List.getElem?_set]
 by_cases h : i = k
 ·subst h; simp [hi]
 ·rw [if_neg h, if_neg (Ne.symm h)]
theorem SI.step {R : List Rect} {P : List Int} {i k : Nat} {g : Bool} {p : List Int} (h : SI R P i k g p) (hi : i < R.length) (hk : k < R.length) (h1 : gl p k < gl p i) (h2 : nr R i k = true) : SI R P i (k + 1) true (p.set i (gl p k)) := by
 have hlt : mu (p.set i (gl p k)) < mu p := sum_set_lt (by rw [h.lab.len]; exact hi) (h.lab.low k hk).1 h1
 have hle := h.le
 refine ⟨⟨by rw [List.length_set, h.lab.len], fun j hj => ?_, fun C hC j hj => ?_⟩, by omega, fun _ => by omega, fun e => by cases e⟩
 ·rw [gl_set_int (by rw [h.lab.len]; exact hi)]
  have a1 := h.lab.low k hk
  have a2 := h.lab.low i hi
  have a3 := h.lab.low j hj
  split
  ·rename_i e; subst e; omega
  ·exact a3
 ·rw [gl_set_int (by rw [h.lab.len]; exact hi)]
  split
  ·rename_i e
   subst e
   rw [hC j k hi hk h2]
   exact h.lab.con C hC k hk
  ·exact h.lab.con C hC j hj
theorem SI.skip {R : List Rect} {P : List Int} {i k : Nat} {g : Bool} {p : List Int} (h : SI R P i k g p) (hn : ¬ (gl p k < gl p i ∧ nr R i k = true)) : SI R P i (k + 1) g p := by
 refine ⟨h.lab, h.le, h.lt, fun e => ?_⟩
 obtain ⟨e1, e2⟩ := h.eq e
 refine ⟨e1, fun i' k' a b c => ?_⟩
 by_cases d : i' = i ∧ k' = k
 ·obtain ⟨rfl, rfl⟩ := d
  rw [e1] at hn; exact hn
 ·exact e2 i' k' a b (by omega)
theorem SI.next {R : List Rect} {P : List Int} {i : Nat} {g : Bool} {p : List Int} (h : SI R P i R.length g p) : SI R P (i + 1) 0 g p :=
 ⟨h.lab, h.le, h.lt, fun e => ⟨(h.eq e).1, fun i' k' a b c => (h.eq e).2 i' k' a b (by omega)⟩⟩
variable {F : Nat} {a : Region}
theorem refParts_b4 (hF : BIG ≤ F) (hv : Val a.rects_) {P : List Int} {i : Nat} (hi : i < a.rects_.length) {Gd : (List Region) × Int → Prop} {q : List Int} (hq : q.length = a.rects_.length) {ag : (Bool × Int × List Int) → Option ((List Region) × Int)}
  (hc : ∀ g p, SI a.rects_ P (i + 1) 0 g p → Ok (ag (g, ((i + 1 : Nat) : Int), p)) Gd) {g : Bool} {p : List Int} (h : SI a.rects_ P i 0 g p) :
  Ok (loopN (fun again (z : Bool × Int × (List Int)) => ref06_Parts_b4 F a (i : Int) q ag again z.1 z.2.1 z.2.2) F (g, (0 : Int), p)) Gd := by
 unfold BIG at hF
 have hlen := hv.1
 refine ok_loop (fun z : Bool × Int × List Int => ∃ k : Nat, z.2.1 = k ∧ k ≤ a.rects_.length ∧ SI a.rects_ P i k z.1 z.2.2) (fun z => a.rects_.length - z.2.1.toNat) (fun again z hz ih => ?_) ⟨0, rfl, Nat.zero_le _, h⟩ (by simp; omega)
 obtain ⟨g, kk, p⟩ := z
 obtain ⟨k, rfl, hk, h⟩ := hz
 simp only at ih h ⊢
 have hpl := h.lab.len
 have e1 : ((k : Int) + 1) = ((k + 1 : Nat) : Int) := by omega
 have e2 : ((i : Int) + 1) = ((i + 1 : Nat) : Int) := by omega
 unfold ref06_Parts_b4
 refine ok_br (fun hb => ?_) (fun hb => ?_)
 ·have hk : k < a.rects_.length := by rw [decide_eq_true_eq, hq] at hb; omega
  have hsk : ∀ g p, SI a.rects_ P i (k + 1) g p → Ok (ref06_Parts_k6 F (k : Int) again g p) Gd := fun g p h => by
   unfold ref06_Parts_k6
   refine ok_gd (i64_of (by omega) (by omega)) ?_
   rw [e1]
   exact ih (g, ((k + 1 : Nat) : Int), p) ⟨k + 1, rfl, hk, h⟩ (by simp only [Int.toNat_natCast]; omega)
  refine ok_gd (by omega) (ok_gd (by omega) ?_)
  simp only [Int.toNat_natCast]
  refine ok_br (fun hb1 => ?_) (fun hb1 => ?_)
  ·refine ok_gd (by omega) (ok_gd (by omega) ?_)
   have mi := gl_mem hi
   have mk := gl_mem hk
   refine ok_bd (ref06_touch_ok F (sm_prop (hv.2.1 _ mi)) (sm_prop (hv.2.1 _ mk)) (hv.2.2.pos mi) (hv.2.2.pos mk)) ?_
   unfold ref06_Parts_k5
   refine ok_br (fun hb2 => ?_) (fun hb2 => ?_)
   ·refine ok_gd (by omega) (ok_gd (by omega) ?_)
    simp only [Int.toNat_natCast]
    exact hsk _ _ (h.step hi hk (by simpa using hb1) hb2)
   ·refine hsk _ _ (h.skip fun hn => ?_)
    have h2 := hn.2
    unfold nr nearB at h2
    rw [hb2] at h2; cases h2
  ·unfold ref06_Parts_k5
   refine ok_br (fun hb2 => by cases hb2) (fun _ => ?_)
   exact hsk _ _ (h.skip fun hn => by rw [decide_eq_false_iff_not] at hb1; exact hb1 hn.1)
 ·unfold ref06_Parts_k7
  have hk : k = a.rects_.length := by rw [decide_eq_false_iff_not, hq] at hb; omega
  subst hk
  refine ok_gd (i64_of (by omega) (by omega)) ?_
  rw [e2]
  exact hc g p h.next
def Stab (R : List Rect) (p : List Int) : Prop := ∀ i k, i < R.length → k < R.length → nr R i k = true → gl p i = gl p k
theorem refParts_b2 (hF : BIG ≤ F) (hv : Val a.rects_) {Gd : (List Region) × Int → Prop} (hc : ∀ p, Lab a.rects_ p → Stab a.rects_ p → Ok (ref06_Parts_k8 F a p) Gd) {p : List Int} (hp : Lab a.rects_ p) : Ok (ref06_Parts_k1 F a p) Gd := by
 have hF' := hF
 unfold BIG at hF
 have hlen := hv.1
 have hmu : mu p ≤ 200 * 200 := by
  have : ∀ (l : List Int), (∀ x ∈ l, x.toNat ≤ 200) → mu l ≤ 200 * l.length := by
   intro l hl
   induction l with
   | nil => simp [mu]
   | cons x l ih =>
    have h1 := ih fun y hy => hl y (by simp [hy])
    have h2 := hl x (by simp)
    simp only [mu, List.map_cons, List.sum_cons, List.length_cons] at h1 ⊢
    omega
  have h1 := this p fun x hx => by
   obtain ⟨i, hi, rfl⟩ := List.mem_iff_getElem.1 hx
   have := hp.low i (by rw [← hp.len]; exact hi)
   rw [gl_lt hi] at this
   have := hp.len
   omega
  have := hp.len
  omega
 unfold ref06_Parts_k1
 refine ok_loop (fun z : Bool × List Int => Lab a.rects_ z.2 ∧ (z.1 = false → Stab a.rects_ z.2)) (fun z => 2 * mu z.2 + if z.1 = true then 1 else 0) (fun again z hz ih => ?_) ⟨hp, fun e => by cases e⟩ (by simp only [if_true]; omega)
 obtain ⟨g, p⟩ := z
 obtain ⟨h1, h2⟩ := hz
 simp only at ih h1 h2 ⊢
 unfold ref06_Parts_b2
 refine ok_br (fun hb => ?_) (fun hb => hc p h1 (h2 hb))
 subst hb
 have hpl := h1.len
 refine ok_loop (fun z : Bool × Int × List Int => ∃ i : Nat, z.2.1 = i ∧ i ≤ a.rects_.length ∧ SI a.rects_ p i 0 z.1 z.2.2) (fun z => a.rects_.length - z.2.1.toNat) (fun again3 z hz ih3 => ?_) ⟨0, rfl, Nat.zero_le _, ⟨h1, Nat.le_refl _, (fun e => by cases e), fun _ => ⟨rfl, fun i' k' _ _ c => by omega⟩⟩⟩ (by simp; omega)
 obtain ⟨g, ii, q⟩ := z
 obtain ⟨i, rfl, hi, h⟩ := hz
 simp only at ih3 h ⊢
 unfold ref06_Parts_b3
 refine ok_br (fun hb => ?_) (fun hb => ?_)
 ·have hi : i < a.rects_.length := by rw [decide_eq_true_eq] at hb; omega
  exact refParts_b4 hF' hv hi h.lab.len (fun g q hq => ih3 (g, ((i + 1 : Nat) : Int), q) ⟨i + 1, rfl, hi, hq⟩ (by simp only [Int.toNat_natCast]; omega)) h
 ·have hi : i = a.rects_.length := by rw [decide_eq_false_iff_not] at hb; omega
  refine ih (g, q) ⟨h.lab, fun e => ?_⟩ ?_
  ·obtain ⟨e1, e2⟩ := h.eq e
   simp only at e1 ⊢
   subst e1
   intro i' k' a1 a2 a3
   have n1 := e2 i' k' a1 a2 (by omega)
   have n2 := e2 k' i' a2 a1 (by omega)
   have a4 : nr a.rects_ k' i' = true := by unfold nr at a3 ⊢; rw [near_comm]; exact a3
   have b1 : ¬ gl q k' < gl q i' := fun c => n1 ⟨c, a3⟩
   have b2 : ¬ gl q i' < gl q k' := fun c => n2 ⟨c, a4⟩
   omega
  ·cases g with
   | true => have := h.lt rfl; simp only [if_true]; omega
   | false => have := h.le; simp; omega
end Go.Ab
end

section
namespace Go.Ab
set_option maxRecDepth 20000
def sel (R : List Rect) (p : List Int) (i : Nat) : List Rect := ((List.range R.length).filter fun k => gl p k == (i : Int)).map (gl R)
def refQ (R : List Rect) (p : List Int) : List (List Rect) := ((List.range R.length).filter fun i => gl p i == (i : Int)).map (sel R p)
theorem filt_len {P : Nat → Bool} (n : Nat) : ((List.range n).filter P).length ≤ n := by
 have := List.length_filter_le P (List.range n)
 rwa [List.length_range] at this
theorem range_filt {α : Type} {P : Nat → Bool} {f : Nat → α} (k : Nat) : ((List.range (k + 1)).filter P).map f = ((List.range k).filter P).map f ++ if P k = true then [f k] else [] := by
 rw [List.range_succ, List.filter_append, List.map_append]
 congr 1
 rw [List.filter_cons]
 split <;> simp
theorem refParts_k8 {F : Nat} (hF : BIG ≤ F) {a : Region} (hv : Val a.rects_) {p : List Int} (hp : Lab a.rects_ p) : ref06_Parts_k8 F a p = some ((refQ a.rects_ p).map regOf, 0) := by
 have hF' := hF
 unfold BIG at hF
 have hlen := hv.1
 have hpl := hp.len
 unfold ref06_Parts_k8
 refine loopN_ok (fun z : Int × List Region => ∃ i : Nat, z.1 = i ∧ i ≤ a.rects_.length ∧ z.2 = (((List.range i).filter fun i => gl p i == (i : Int)).map fun i => regOf (sel a.rects_ p i))) (fun z => a.rects_.length - z.1.toNat) (fun again z hz ih => ?_) ⟨0, rfl, Nat.zero_le _, rfl⟩ (by simp; omega)
 obtain ⟨ii, out⟩ := z
 obtain ⟨i, rfl, hi, rfl⟩ := hz
 simp only at ih ⊢
 have hol : ((((List.range i).filter fun i => gl p i == (i : Int)).map fun i => regOf (sel a.rects_ p i))).length ≤ i := by rw [List.length_map]; exact filt_len i
 unfold ref06_Parts_b9
 refine br_ok (fun hb => ?_) (fun hb => ?_)
 ·have hi : i < a.rects_.length := by rw [decide_eq_true_eq] at hb; omega
  have e1 : ((i : Int) + 1) = ((i + 1 : Nat) : Int) := by omega
  refine gd_ok (by omega) ?_
  simp only [Int.toNat_natCast]
  have hk13 : ∀ v, v = (((List.range (i + 1)).filter fun i => gl p i == (i : Int)).map fun i => regOf (sel a.rects_ p i)) → ref06_Parts_k13 F (i : Int) again v = some ((refQ a.rects_ p).map regOf, 0) := fun v hv => by
   unfold ref06_Parts_k13
   refine gd_ok (i64_of (by omega) (by omega)) ?_
   rw [e1]
   exact ih (((i + 1 : Nat) : Int), v) ⟨i + 1, rfl, hi, hv⟩ (by simp only [Int.toNat_natCast]; omega)
  refine br_ok (fun hb1 => ?_) (fun hb1 => ?_)
  ·refine hk13 _ ?_
   rw [range_filt, if_neg, List.append_nil]
   rw [bne_iff_ne] at hb1
   rw [beq_iff_eq]; exact hb1
  ·have hfix : (gl p i == (i : Int)) = true := by
    rw [beq_iff_eq]
    simpa using hb1
   refine loopN_ok (fun z : Int × List Rect => ∃ k : Nat, z.1 = k ∧ k ≤ a.rects_.length ∧ z.2 = (((List.range k).filter fun k => gl p k == (i : Int)).map (gl a.rects_))) (fun z => a.rects_.length - z.1.toNat) (fun again2 z hz ih2 => ?_) ⟨0, rfl, Nat.zero_le _, rfl⟩ (by simp; omega)
   obtain ⟨kk, l⟩ := z
   obtain ⟨k, rfl, hk, rfl⟩ := hz
   simp only at ih2 ⊢
   have hll : ((((List.range k).filter fun k => gl p k == (i : Int)).map (gl a.rects_))).length ≤ k := by rw [List.length_map]; exact filt_len k
   have e2 : ((k : Int) + 1) = ((k + 1 : Nat) : Int) := by omega
   unfold ref06_Parts_b10
   refine br_ok (fun hb => ?_) (fun hb => ?_)
   ·have hk : k < a.rects_.length := by rw [decide_eq_true_eq] at hb; omega
    have hk11 : ∀ v, v = (((List.range (k + 1)).filter fun k => gl p k == (i : Int)).map (gl a.rects_)) → ref06_Parts_k11 F (k : Int) again2 v = some ((refQ a.rects_ p).map regOf, 0) := fun v hv => by
     unfold ref06_Parts_k11
     refine gd_ok (i64_of (by omega) (by omega)) ?_
     rw [e2]
     exact ih2 (((k + 1 : Nat) : Int), v) ⟨k + 1, rfl, hk, hv⟩ (by simp only [Int.toNat_natCast]; omega)
    refine gd_ok (by omega) ?_
    simp only [Int.toNat_natCast]
    refine br_ok (fun hb2 => ?_) (fun hb2 => ?_)
    ·refine gd_ok (by omega) (gd_ok (by simp only [LIM, List.length_cons, List.length_nil]; omega) ?_)
     refine hk11 _ ?_
     rw [range_filt, if_pos hb2]
    ·refine hk11 _ ?_
     rw [range_filt, if_neg (by rw [hb2]; simp), List.append_nil]
   ·have hk : k = a.rects_.length := by rw [decide_eq_false_iff_not] at hb; omega
    subst hk
    unfold ref06_Parts_k12
    refine bd_ok (ref04_Combine_one hF' (by omega)) ?_
    refine gd_ok (by simp only [LIM, List.length_cons, List.length_nil]; omega) ?_
    refine hk13 _ ?_
    rw [range_filt, if_pos hfix]
    rfl
 ·have hi : i = a.rects_.length := by rw [decide_eq_false_iff_not] at hb; omega
  subst hi
  unfold ref06_Parts_k14 refQ
  rw [List.map_map]; rfl
theorem ref06_Parts_ok {F : Nat} (hF : BIG ≤ F) {a : Region} (hv : Val a.rects_) : ∃ p, Lab a.rects_ p ∧ Stab a.rects_ p ∧ ref06_Parts F a = some ((refQ a.rects_ p).map regOf, 0) := by
 have hF' := hF
 unfold BIG at hF
 have hlen := hv.1
 have hmain : Ok (ref06_Parts F a) fun r => ∃ p, Lab a.rects_ p ∧ Stab a.rects_ p ∧ r = ((refQ a.rects_ p).map regOf, 0) := by
  unfold ref06_Parts
  refine ok_bd (ref04_Valid_ok hF' a) ?_
  rw [valB_true hv]
  refine ok_br (fun h => by cases h) (fun _ => ?_)
  refine ok_gd (by simp only [LIM]; omega) ?_
  simp only [Int.toNat_natCast]
  refine ok_loop (fun z : Int × List Int => ∃ i : Nat, z.1 = i ∧ i ≤ a.rects_.length ∧ z.2.length = a.rects_.length ∧ ∀ j, j < i → gl z.2 j = j) (fun z => a.rects_.length - z.1.toNat) (fun again z hz ih => ?_) ⟨0, rfl, Nat.zero_le _, by simp, fun j hj => by omega⟩ (by simp; omega)
  obtain ⟨ii, q⟩ := z
  obtain ⟨i, rfl, hi, hq, hj⟩ := hz
  simp only at ih hq hj ⊢
  have e1 : ((i : Int) + 1) = ((i + 1 : Nat) : Int) := by omega
  unfold ref06_Parts_b0
  refine ok_br (fun hb => ?_) (fun hb => ?_)
  ·have hi : i < a.rects_.length := by simpa using hb
   refine ok_gd (by omega) (ok_gd (i64_of (by omega) (by omega)) ?_)
   rw [e1]
   simp only [Int.toNat_natCast]
   refine ih (((i + 1 : Nat) : Int), q.set i (i : Int)) ⟨i + 1, rfl, hi, by simpa using hq, fun j h => ?_⟩ (by simp only [Int.toNat_natCast]; omega)
   simp only
   rw [gl_set_int (by omega)]
   split
   ·rename_i e; rw [e]
   ·exact hj j (by omega)
  ·have hi : i = a.rects_.length := by
    have : ¬ (i < a.rects_.length) := by simpa using hb
    omega
   subst hi
   refine refParts_b2 hF' hv (fun p h1 h2 => ⟨_, refParts_k8 hF' hv h1, p, h1, h2, rfl⟩) ⟨hq, fun i hi => by rw [hj i hi]; omega, fun C hC i hi => by rw [hj i hi]; simp⟩
 obtain ⟨r, h1, p, h2, h3, rfl⟩ := hmain
 exact ⟨p, h2, h3, h1⟩
structure Fam (S : Int → Int → Bool) (Q : List (List Rect)) : Prop where
 un : ∀ x y, S x y = true ↔ ∃ q ∈ Q, inR q x y = true
 ne : ∀ q ∈ Q, ∃ x y, inR q x y = true
 cn : ∀ q ∈ Q, Conn (inR q)
 far : Q.Pairwise fun a b => AptL a b ∧ FarL a b
theorem pair_or {α : Type} {Rl : α → α → Prop} {l : List α} (h : l.Pairwise Rl) {a b : α} (ha : a ∈ l) (hb : b ∈ l) : a = b ∨ Rl a b ∨ Rl b a := by
 induction l with
 | nil => cases ha
 | cons c l ih =>
  rw [List.pairwise_cons] at h
  rcases List.mem_cons.1 ha with e | ha2 <;> rcases List.mem_cons.1 hb with e' | hb2
  ·exact .inl (e.trans e'.symm)
  ·subst e; exact .inr (.inl (h.1 _ hb2))
  ·subst e'; exact .inr (.inr (h.1 _ ha2))
  ·exact ih h.2 ha2 hb2
theorem Fam.apt {S : Int → Int → Bool} {Q : List (List Rect)} (h : Fam S Q) {a b : List Rect} (ha : a ∈ Q) (hb : b ∈ Q) {x y : Int} (h1 : inR a x y = true) (h2 : inR b x y = true) : a = b := by
 rcases pair_or h.far ha hb with e | e | e
 ·exact e
 ·exact (e.1 x y h1 h2).elim
 ·exact (e.1 x y h2 h1).elim
theorem Fam.sub {S : Int → Int → Bool} {Q Q' : List (List Rect)} (h : Fam S Q) (h' : Fam S Q') {q q' : List Rect} (hq : q ∈ Q) (hq' : q' ∈ Q') {x y : Int} (h1 : inR q x y = true) (h2 : inR q' x y = true) : ∀ u v, inR q u v = true → inR q' u v = true := by
 refine h.cn q hq (fun u v => inR q' u v = true) ⟨x, y, h1, h2⟩ fun u v u' v' a1 a2 a3 a4 => ?_
 obtain ⟨q2, b1, b2⟩ := (h'.un u' v').1 ((h.un u' v').2 ⟨q, hq, a2⟩)
 rcases pair_or h'.far hq' b1 with e | e | e
 ·rw [e]; exact b2
 ·exact (e.2 _ _ _ _ a4 b2 a3).elim
 ·exact (e.2 _ _ _ _ b2 a4 (adj_comm a3)).elim
theorem Fam.uniq {S : Int → Int → Bool} {Q Q' : List (List Rect)} (h : Fam S Q) (h' : Fam S Q') {q : List Rect} (hq : q ∈ Q) : ∃ q' ∈ Q', inR q = inR q' := by
 obtain ⟨x, y, h1⟩ := h.ne q hq
 obtain ⟨q', b1, b2⟩ := (h'.un x y).1 ((h.un x y).2 ⟨q, hq, h1⟩)
 refine ⟨q', b1, ?_⟩
 funext u v
 have e1 := h.sub h' hq b1 h1 b2 u v
 have e2 := h'.sub h b1 hq b2 h1 u v
 cases c : inR q u v <;> cases d : inR q' u v <;> simp_all
theorem fam_parts {R : List Rect} (ha : R.Pairwise Apt) (hp : ∀ r ∈ R, Pos r) : Fam (inR R) (parts R) := by
 refine ⟨fun x y => ?_, fun q hq => ?_, fun q hq => ((parts_ok R).1 q hq).2.conn fun r hr => hp r (parts_mem hq hr), parts_apt ha⟩
 ·rw [← inR_perm (parts_perm R), inR_flatten, List.any_eq_true]
 ·obtain ⟨r, hr⟩ := List.exists_mem_of_ne_nil _ ((parts_ok R).1 q hq).1
  have := hp r (parts_mem hq hr)
  unfold Pos at this
  exact ⟨r.left_, r.low_, inR_mem hr ((has_iff _ _ _).2 (by omega))⟩
theorem mem_sel {R : List Rect} {p : List Int} {i : Nat} {r : Rect} : r ∈ sel R p i ↔ ∃ k, k < R.length ∧ gl p k = (i : Int) ∧ gl R k = r := by
 unfold sel
 rw [List.mem_map]
 constructor
 ·rintro ⟨k, hk, rfl⟩
  rw [List.mem_filter, List.mem_range, beq_iff_eq] at hk
  exact ⟨k, hk.1, hk.2, rfl⟩
 ·rintro ⟨k, h1, h2, rfl⟩
  exact ⟨k, by rw [List.mem_filter, List.mem_range, beq_iff_eq]; exact ⟨h1, h2⟩, rfl⟩
theorem fam_ref {R : List Rect} (ha : R.Pairwise Apt) (hp : ∀ r ∈ R, Pos r) {p : List Int} (hl : Lab R p) (hs : Stab R p) : Fam (inR R) (refQ R p) := by
 have hcl : ∀ i : Int, Cl R (fun k => gl p k = i) := fun i j k hj hk hn => by
  show gl p j = i ↔ gl p k = i
  rw [hs j k hj hk hn]
 have hrep : ∀ k, k < R.length → (gl p k).toNat < R.length ∧ gl p (gl p k).toNat = gl p k := fun k hk => by
  have := hl.low k hk
  exact ⟨by omega, (hl.con _ (hcl (gl p k)) k hk).1 rfl⟩
 have hmem : ∀ q, q ∈ refQ R p ↔ ∃ i, i < R.length ∧ gl p i = (i : Int) ∧ sel R p i = q := fun q => by
  unfold refQ
  rw [List.mem_map]
  constructor
  ·rintro ⟨i, hi, rfl⟩
   rw [List.mem_filter, List.mem_range, beq_iff_eq] at hi
   exact ⟨i, hi.1, hi.2, rfl⟩
  ·rintro ⟨i, h1, h2, rfl⟩
   exact ⟨i, by rw [List.mem_filter, List.mem_range, beq_iff_eq]; exact ⟨h1, h2⟩, rfl⟩
 have hpos : ∀ k, k < R.length → Pos (gl R k) := fun k hk => hp _ (gl_mem hk)
 have hapt : ∀ j k, j < R.length → k < R.length → j ≠ k → Apt (gl R j) (gl R k) := fun j k hj hk hne => by
  rw [List.pairwise_iff_getElem] at ha
  rw [gl_lt hj, gl_lt hk]
  rcases Nat.lt_or_ge j k with h | h
  ·exact ha j k hj hk h
  ·exact apt_comm (ha k j hk hj (by omega))
 refine ⟨fun x y => ?_, fun q hq => ?_, fun q hq => ?_, ?_⟩
 ·constructor
  ·intro h
   obtain ⟨r, hr, h2⟩ := (inR_iff _ _ _).1 h
   obtain ⟨k, hk, rfl⟩ := List.mem_iff_getElem.1 hr
   have h3 := hrep k hk
   have h4 := hl.low k hk
   refine ⟨sel R p (gl p k).toNat, (hmem _).2 ⟨_, h3.1, by rw [h3.2]; omega, rfl⟩, (inR_iff _ _ _).2 ⟨R[k], mem_sel.2 ⟨k, hk, by omega, gl_lt hk⟩, h2⟩⟩
  ·rintro ⟨q, hq, h⟩
   obtain ⟨i, hi, h1, rfl⟩ := (hmem q).1 hq
   obtain ⟨r, hr, h2⟩ := (inR_iff _ _ _).1 h
   obtain ⟨k, hk, h3, rfl⟩ := mem_sel.1 hr
   exact inR_mem (gl_mem hk) h2
 ·obtain ⟨i, hi, h1, rfl⟩ := (hmem q).1 hq
  have := hpos i hi
  unfold Pos at this
  exact ⟨(gl R i).left_, (gl R i).low_, inR_mem (mem_sel.2 ⟨i, hi, h1, rfl⟩) ((has_iff _ _ _).2 (by omega))⟩
 ·obtain ⟨i, hi, h1, rfl⟩ := (hmem q).1 hq
  intro P hex hc
  obtain ⟨x0, y0, h2, h3⟩ := hex
  obtain ⟨r, hr, h4⟩ := (inR_iff _ _ _).1 h2
  obtain ⟨k0, hk0, h5, rfl⟩ := mem_sel.1 hr
  have hin : ∀ k, k < R.length → gl p k = (i : Int) → ∀ x y, (gl R k).has x y = true → inR (sel R p i) x y = true := fun k hk e x y h => inR_mem (mem_sel.2 ⟨k, hk, e, rfl⟩) h
  have hC : Cl R (fun k => gl p k = (i : Int) → ∀ x y, (gl R k).has x y = true → P x y) := by
   have one : ∀ j k, j < R.length → k < R.length → nr R j k = true → (gl p j = (i : Int) → ∀ x y, (gl R j).has x y = true → P x y) → (gl p k = (i : Int) → ∀ x y, (gl R k).has x y = true → P x y) := fun j k hj hk hn hcj e => by
    have ej : gl p j = (i : Int) := by rw [hs j k hj hk hn]; exact e
    obtain ⟨x, y, x', y', b1, b2, b3⟩ := near_adj hn (hpos j hj) (hpos k hk)
    exact rect_conn (S := inR (sel R p i)) hc (hin k hk e) b2 (hc _ _ _ _ (hin j hj ej _ _ b1) (hin k hk e _ _ b2) b3 (hcj ej _ _ b1))
   intro j k hj hk hn
   exact ⟨one j k hj hk hn, one k j hk hj (by unfold nr at hn ⊢; rw [near_comm]; exact hn)⟩
  have hk0C : gl p k0 = (i : Int) → ∀ x y, (gl R k0).has x y = true → P x y := fun e => rect_conn (S := inR (sel R p i)) hc (hin k0 hk0 e) h4 h3
  have hiC := (hl.con _ hC k0 hk0).1 hk0C
  rw [h5, Int.toNat_natCast] at hiC
  intro x y hxy
  obtain ⟨r, hr, h6⟩ := (inR_iff _ _ _).1 hxy
  obtain ⟨k, hk, h7, rfl⟩ := mem_sel.1 hr
  have hkC := (hl.con _ hC k hk).2
  rw [h7, Int.toNat_natCast] at hkC
  exact hkC hiC rfl x y h6
 ·unfold refQ
  rw [List.pairwise_map]
  refine List.Pairwise.imp_of_mem ?_ (List.Pairwise.filter _ List.nodup_range)
  intro i j hi hj hne
  have key : ∀ x y x' y', inR (sel R p i) x y = true → inR (sel R p j) x' y' = true → (x = x' ∧ y = y') ∨ adj x y x' y' → False := fun x y x' y' a1 a2 a3 => by
   obtain ⟨r, hr, b1⟩ := (inR_iff _ _ _).1 a1
   obtain ⟨k, hk, b2, rfl⟩ := mem_sel.1 hr
   obtain ⟨s, hs', b3⟩ := (inR_iff _ _ _).1 a2
   obtain ⟨m, hm, b4, rfl⟩ := mem_sel.1 hs'
   have hkm : k ≠ m := fun e => by subst e; rw [b2] at b4; exact hne (by omega)
   rcases a3 with ⟨rfl, rfl⟩ | a3
   ·exact hapt k m hk hm hkm _ _ b1 b3
   ·have := hs k m hk hm (adj_near (hapt k m hk hm hkm) b1 b3 a3)
    rw [b2, b4] at this
    exact hne (by omega)
  exact ⟨fun x y h1 h2 => key _ _ _ _ h1 h2 (.inl ⟨rfl, rfl⟩), fun x y x' y' h1 h2 h3 => key _ _ _ _ h1 h2 (.inr h3)⟩
end Go.Ab
end

section
namespace Go.Ab
set_option maxRecDepth 20000
theorem ref06_wide_ok {F : Nat} (hF : BIG ≤ F) {l : List Rect} (hl : l.length ≤ 1000000) (hs : ∀ r ∈ l, Sm r) {k : Int} (h0 : 0 ≤ k) (h1 : k ≤ 65) : ref06_wide F l k = some (l.map (wid k)) := by
 unfold BIG at hF
 unfold ref06_wide
 refine range_st (l := l) (I := fun m s => s ++ m.map (wid k) = l.map (wid k)) (fun _ _ => some (l.map (wid k))) (fun again i s hi hI ih => ?_) (fun again s hI => ?_) (by omega) rfl
 ·have hr := hs _ (gl_mem hi)
  unfold Sm at hr
  have hsl : s.length ≤ l.length := by
   have := congrArg List.length hI
   simp at this; omega
  unfold ref06_wide_b0
  refine br_tt (lt_dec hi) ?_
  refine gd_ok (by first | omega | exact i64_of (by omega) (by omega) | (simp only [LIM, BIG, List.length_append, List.length_cons, List.length_nil, List.length_map, List.length_take, List.length_drop, List.length_set] at *; omega)) ?_
  simp only [Int.toNat_natCast]
  refine gd_ok (i64_of (by omega) (by omega)) ?_
  refine gd_ok (i64_of (by omega) (by omega)) ?_
  refine gd_ok (i64_of (by omega) (by omega)) ?_
  refine gd_ok (i64_of (by omega) (by omega)) ?_
  refine gd_ok (by simp [LIM]; omega) ?_
  refine gd_ok (by first | omega | exact i64_of (by omega) (by omega) | (simp only [LIM, BIG, List.length_append, List.length_cons, List.length_nil, List.length_map, List.length_take, List.length_drop, List.length_set] at *; omega)) ?_
  refine ih _ ?_
  rw [← hI, List.append_assoc]; rfl
 ·show ref06_wide_b0 F l k again ((l.length : Nat) : Int) s = _
  unfold ref06_wide_b0
  refine br_ff (not_lt_dec _) ?_
  unfold ref06_wide_k1
  simpa using hI
theorem ref06_Grow_ok {F : Nat} (hF : BIG ≤ F) {a : Region} (hv : Val a.rects_) {k : Int} (h0 : 0 ≤ k) (h1 : k ≤ 64) : ref06_Grow F a k = some (lim (cn (inR (growL a.rects_ k)))) := by
 have hlen := hv.1
 unfold ref06_Grow
 refine bd_ok (ref04_Valid_ok hF a) ?_
 rw [valB_true hv]
 refine br_ff rfl ?_
 have key : ref06_Grow_k0 F a k false = some (lim (cn (inR (growL a.rects_ k)))) := by
  unfold ref06_Grow_k0
  refine br_ff rfl ?_
  refine bd_ok (ref06_wide_ok hF (by omega) (fun r hr => sm_prop (hv.2.1 r hr)) h0 (by omega)) ?_
  unfold ref06_grid
  refine bd_ok rfl ?_
  refine bd_ok (ref04_Combine_small hF (by simp; omega)) ?_
  refine bd_ok (ref04_Bound_ok _) ?_
  have e : (fun x y => keepB (inR (a.rects_.map (wid k)) x y) (inR [(⟨0, 0, 16384, 16384⟩ : Rect)] x y) 2) = inR (growL a.rects_ k) := by
   funext x y
   have h2 := inR_growL (fun r hr => hv.2.2.pos hr) h0 x y
   rw [← inR_wid (fun r hr => hv.2.2.pos hr) h0] at h2
   have h3 : inR [(⟨0, 0, 16384, 16384⟩ : Rect)] x y = true ↔ onGrid x y := by
    rw [inR_iff]
    unfold onGrid
    constructor
    ·rintro ⟨r, hr, h⟩
     rw [List.mem_singleton] at hr
     subst hr
     rw [has_iff] at h; exact h
    ·intro h
     exact ⟨_, List.mem_singleton.2 rfl, (has_iff _ _ _).2 h⟩
   unfold keepB
   cases c1 : inR (a.rects_.map (wid k)) x y <;> cases c2 : inR [(⟨0, 0, 16384, 16384⟩ : Rect)] x y <;> cases c3 : inR (growL a.rects_ k) x y <;> simp_all
  rw [e]; rfl
 refine br_ff (by rw [decide_eq_false_iff_not]; omega) ?_
 rw [show decide ((64 : Int) < k) = false by rw [decide_eq_false_iff_not]; omega]
 exact key
end Go.Ab
end

section
namespace Go.Ab
set_option maxRecDepth 20000
structure WB (l : List (Rn (List Span))) : Prop where
 pos : ∀ b ∈ l, b.lo < b.hi
 ord : l.Pairwise fun b c => b.hi ≤ c.lo
 sp : ∀ b ∈ l, SpOk b.v
theorem flat_cons (b : Rn (List Span)) (l : List (Rn (List Span))) : flat (b :: l) = flat1 b ++ flat l := rfl
theorem squeeze : ∀ {l : List (Rn (List Span))}, WB l → ∃ m, Bands m ∧ (∀ x y, inR (flat m) x y = inR (flat l) x y) ∧ (flat m).length ≤ (flat l).length ∧ ∀ N, (∀ b ∈ l, N ≤ b.lo) → ∀ c ∈ m, N ≤ c.lo
 | [], _ => ⟨[], ⟨.nil, (fun b hb => (List.not_mem_nil hb).elim), (fun b hb => (List.not_mem_nil hb).elim)⟩, fun _ _ => rfl, Nat.le_refl _, fun _ _ c hc => (List.not_mem_nil hc).elim⟩
 | b :: l, h => by
  obtain ⟨m, h1, h2, h3, h4⟩ := squeeze (l := l) ⟨fun c hc => h.pos c (by simp [hc]), (List.pairwise_cons.1 h.ord).2, fun c hc => h.sp c (by simp [hc])⟩
  have hbl := (List.pairwise_cons.1 h.ord).1
  have hm := h4 b.hi hbl
  have hp := h.pos b (by simp)
  by_cases hv : b.v = []
  ·have e : flat1 b = [] := by unfold flat1; rw [hv]; rfl
   refine ⟨m, h1, fun x y => by rw [flat_cons, e, h2]; rfl, by rw [flat_cons, e]; exact h3, fun N hN c hc => ?_⟩
   have := hm c hc
   have := hN b (by simp)
   omega
  ·cases m with
   | nil =>
    refine ⟨[b], ⟨⟨?_, by simp⟩, ?_, ?_⟩, fun x y => ?_, ?_, ?_⟩
    ·intro c hc; rw [List.mem_singleton] at hc; subst hc; exact hp
    ·intro c hc; rw [List.mem_singleton] at hc; subst hc; exact h.sp _ (by simp)
    ·intro c hc; rw [List.mem_singleton] at hc; subst hc; exact hv
    ·rw [flat_cons, flat_cons, inR_append, inR_append, h2]
    ·rw [flat_cons, flat_cons, List.length_append, List.length_append]; omega
    ·intro N hN c hc; rw [List.mem_singleton] at hc; subst hc; exact hN _ (by simp)
   | cons c m =>
    have hcb := hm c (by simp)
    have hcp := h1.runs.pos c (by simp)
    have hcm := h1.runs.head
    by_cases hj : c.lo = b.hi ∧ c.v = b.v
    ·refine ⟨⟨b.lo, c.hi, b.v⟩ :: m, ⟨⟨?_, List.pairwise_cons.2 ⟨?_, (List.pairwise_cons.1 h1.runs.ch).2⟩⟩, ?_, ?_⟩, fun x y => ?_, ?_, ?_⟩
     ·intro d hd
      rcases List.mem_cons.1 hd with rfl | hd
      ·show b.lo < c.hi; omega
      ·exact h1.runs.pos d (by simp [hd])
     ·intro d hd
      have := hcm d hd
      unfold Rn.R at this ⊢
      rw [hj.2] at this; exact this
     ·intro d hd
      rcases List.mem_cons.1 hd with rfl | hd
      ·exact h.sp b (by simp)
      ·exact h1.sp d (by simp [hd])
     ·intro d hd
      rcases List.mem_cons.1 hd with rfl | hd
      ·exact hv
      ·exact h1.ne d (by simp [hd])
     ·rw [flat_cons, flat_cons, inR_append, inR_append, ← h2, flat_cons, inR_append, ← Bool.or_assoc]
      congr 1
      rw [inR_flat1, inR_flat1, inR_flat1, hj.2]
      by_cases a1 : b.lo ≤ y <;> by_cases a2 : y < c.hi <;> by_cases a3 : c.lo ≤ y <;> by_cases a4 : y < b.hi <;> simp [a1, a2, a3, a4] <;> omega
     ·rw [flat_cons, List.length_append] at h3
      rw [flat_cons, flat_cons, List.length_append, List.length_append]
      have e : (flat1 ⟨b.lo, c.hi, b.v⟩).length = (flat1 b).length := by unfold flat1; rw [List.length_map, List.length_map]
      rw [e]; omega
     ·intro N hN d hd
      have h5 := hN b (by simp)
      rcases List.mem_cons.1 hd with rfl | hd
      ·exact h5
      ·have := hm d (by simp [hd]); omega
    ·refine ⟨b :: c :: m, ⟨⟨?_, List.pairwise_cons.2 ⟨?_, h1.runs.ch⟩⟩, ?_, ?_⟩, fun x y => ?_, ?_, ?_⟩
     ·intro d hd
      rcases List.mem_cons.1 hd with rfl | hd
      ·exact hp
      ·exact h1.runs.pos d hd
     ·intro d hd
      unfold Rn.R
      rcases List.mem_cons.1 hd with rfl | hd
      ·exact ⟨hcb, fun e1 e2 => hj ⟨e1.symm, e2.symm⟩⟩
      ·have := (hcm d hd).1
       exact ⟨by omega, fun e1 => by omega⟩
     ·intro d hd
      rcases List.mem_cons.1 hd with rfl | hd
      ·exact h.sp _ (by simp)
      ·exact h1.sp d hd
     ·intro d hd
      rcases List.mem_cons.1 hd with rfl | hd
      ·exact hv
      ·exact h1.ne d hd
     ·rw [flat_cons, flat_cons (l := l), inR_append, inR_append, h2]
     ·rw [flat_cons, flat_cons (l := l), List.length_append, List.length_append]; omega
     ·intro N hN d hd
      have h5 := hN b (by simp)
      rcases List.mem_cons.1 hd with rfl | hd
      ·exact h5
      ·have := hm d hd; omega
theorem nodup_len {α : Type} [DecidableEq α] : ∀ {q p : List α}, q.Nodup → (∀ r ∈ q, r ∈ p) → q.length ≤ p.length
 | [], _, _, _ => Nat.zero_le _
 | a :: q, p, h, hs => by
  have ha : a ∈ p := hs a (by simp)
  have h2 := List.nodup_cons.1 h
  have := nodup_len (q := q) (p := p.erase a) h2.2 fun r hr => (List.mem_erase_of_ne (fun e => by subst e; exact h2.1 hr)).2 (hs r (by simp [hr]))
  rw [List.length_erase_of_mem ha] at this
  have := List.length_pos_of_mem ha
  rw [List.length_cons]; omega
theorem cn_sub_len {R p : List Rect} (hR : Canon R) (hp : ∀ r ∈ p, r ∈ R) : (cn (inR p)).length ≤ p.length := by
 have hapt := hR.apt
 have hpos : ∀ r ∈ R, Pos r := fun r hr => hR.pos hr
 have hnd : R.Nodup := by
  refine List.Pairwise.imp_of_mem (fun {a b} ha _ h e => ?_) hapt
  subst e
  have := hpos a ha
  unfold Pos at this
  have hh : a.has a.left_ a.low_ = true := (has_iff _ _ _).2 (by omega)
  exact h _ _ hh hh
 obtain ⟨B, hB, rfl⟩ := hR
 let P : Rn (List Span) → Span → Bool := fun b s => decide ((⟨s.left_, b.lo, s.right_, b.hi⟩ : Rect) ∈ p)
 have hW : WB (B.map fun b => ⟨b.lo, b.hi, b.v.filter (P b)⟩) := by
  refine ⟨fun c hc => ?_, ?_, fun c hc => ?_⟩
  ·obtain ⟨b, hb, rfl⟩ := List.mem_map.1 hc
   exact hB.runs.pos b hb
  ·rw [List.pairwise_map]
   exact hB.runs.ch.imp fun h => h.1
  ·obtain ⟨b, hb, rfl⟩ := List.mem_map.1 hc
   have := hB.sp b hb
   exact ⟨fun s hs => this.pos s (List.mem_filter.1 hs).1, this.ch.filter _⟩
 obtain ⟨m, h1, h2, h3, -⟩ := squeeze hW
 have e : ∀ B : List (Rn (List Span)), flat (B.map fun b => ⟨b.lo, b.hi, b.v.filter (P b)⟩) = (flat B).filter fun r => decide (r ∈ p) := by
  intro B
  induction B with
  | nil => rfl
  | cons b B ih =>
   rw [List.map_cons, flat_cons, flat_cons, List.filter_append, ih]
   congr 1
   unfold flat1
   rw [List.filter_map]; rfl
 rw [e] at h2 h3
 have hcn : cn (inR p) = flat m := by
  refine cn_eq h1 fun x y => ?_
  rw [← h1.runs.inR_flat, h2]
  have : inR ((flat B).filter fun r => decide (r ∈ p)) x y = true ↔ inR p x y = true := by
   rw [inR_iff, inR_iff]
   constructor
   ·rintro ⟨r, hr, h⟩
    rw [List.mem_filter, decide_eq_true_eq] at hr
    exact ⟨r, hr.2, h⟩
   ·rintro ⟨r, hr, h⟩
    exact ⟨r, by rw [List.mem_filter, decide_eq_true_eq]; exact ⟨hp r hr, hr⟩, h⟩
  cases c : inR ((flat B).filter fun r => decide (r ∈ p)) x y <;> cases d : inR p x y <;> simp_all
 rw [hcn]
 refine Nat.le_trans h3 (nodup_len (hnd.filter _) fun r hr => ?_)
 rw [List.mem_filter, decide_eq_true_eq] at hr
 exact hr.2
end Go.Ab
end
