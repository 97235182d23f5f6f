/- What the plain programs compute, up to the law itself: each lemma states its own bounds. -/
import Derived.Test.YthifkkpkmdpoiaaPuB
import Derived.Test.YthifkkpkmdpoiaaAbC
set_option linter.unusedVariables false
set_option linter.unusedSimpArgs false
section
namespace Go.Ab
def put : List Int → Int → List Int
 | [], n => [n]
 | a :: l, n => if a < n then a :: put l n else if a = n then a :: l else n :: a :: l
theorem put_at (n : Int) (l : List Int) (i : Nat) (h : i < l.length) (hlt : gl l i < n) : put (l.drop i) n = gl l i :: put (l.drop (i + 1)) n := by
 rw [drop_gl h, put, if_pos hlt]
theorem ref01_Put_ok {F : Nat} (hF : BIG ≤ F) {l : List Int} (hl : l.length ≤ 1048576) (n : Int) : ref01_Put F l n = some (put l n) := by
 unfold BIG at hF
 unfold ref01_Put
 refine loopN_ok (fun z : Int => ∃ i : Nat, z = i ∧ i ≤ l.length ∧ put l n = l.take i ++ put (l.drop i) n) (fun z => l.length - z.toNat) (fun again z hz ih => ?_) ⟨0, rfl, by simp, by simp⟩ (by simp; omega)
 obtain ⟨i, rfl, hi, hp⟩ := hz
 have k2 : (∀ h : i < l.length, n ≤ gl l i) → ref01_Put_k2 F l n (i : Int) = some (put l n) := by
  intro hge
  unfold ref01_Put_k2
  refine br_ok (fun h => ?_) (fun h => ?_)
  ·have h : i < l.length := by simpa using h
   have hge := hge h
   refine gd_ok (by first | omega | exact i64_of (by omega) (by omega) | (simp only [LIM, BIG, List.length_append, List.length_cons, List.length_nil, List.length_map, List.length_take, List.length_drop, List.length_set] at *; omega)) ?_
   unfold ref01_Put_k3
   rw [drop_gl h, put] at hp
   refine br_ok (fun h2 => ?_) (fun h2 => ?_)
   ·have h2 : gl l i = n := by simpa using h2
    rw [hp, if_neg (by omega), if_pos h2, ← drop_gl h, List.take_append_drop]
   ·have h2 : gl l i ≠ n := by simpa using h2
    repeat (refine gd_ok (by first | omega | exact i64_of (by omega) (by omega) | (simp only [LIM, BIG, List.length_append, List.length_cons, List.length_nil, List.length_map, List.length_take, List.length_drop, List.length_set] at *; omega)) ?_)
    rw [hp, if_neg (by omega), if_neg h2, ← drop_gl h]
    simp
  ·have h : ¬ i < l.length := by simpa using h
   unfold ref01_Put_k3
   refine br_ff rfl ?_
   repeat (refine gd_ok (by first | omega | exact i64_of (by omega) (by omega) | (simp only [LIM, BIG, List.length_append, List.length_cons, List.length_nil, List.length_map, List.length_take, List.length_drop, List.length_set] at *; omega)) ?_)
   have : i = l.length := by omega
   subst this
   simp [put] at hp
   simp [hp]
 unfold ref01_Put_b0
 refine br_ok (fun h => ?_) (fun h => ?_)
 ·have h : i < l.length := by simpa using h
  refine gd_ok (by first | omega | exact i64_of (by omega) (by omega) | (simp only [LIM, BIG, List.length_append, List.length_cons, List.length_nil, List.length_map, List.length_take, List.length_drop, List.length_set] at *; omega)) ?_
  unfold ref01_Put_k1
  refine br_ok (fun h2 => ?_) (fun h2 => ?_)
  ·have h2 : gl l i < n := by simpa using h2
   refine gd_ok (by first | omega | exact i64_of (by omega) (by omega) | (simp only [LIM, BIG, List.length_append, List.length_cons, List.length_nil, List.length_map, List.length_take, List.length_drop, List.length_set] at *; omega)) ?_
   refine ih _ ⟨i + 1, by omega, h, ?_⟩ (by omega)
   rw [hp, put_at n l i h h2, take_gl h, List.append_assoc]; rfl
  ·exact k2 fun _ => by simpa using h2
 ·unfold ref01_Put_k1
  exact br_ff rfl (k2 fun h' => absurd h' (by simpa using h))
end Go.Ab
end

section
namespace Go.Ab
def propB (r : Rect) : Bool := decide (0 ≤ r.left_) && (decide (r.left_ < r.right_) && (decide (r.right_ ≤ 16384) && (decide (0 ≤ r.low_) && (decide (r.low_ < r.high_) && decide (r.high_ ≤ 16384)))))
theorem propB_iff (r : Rect) : propB r = true ↔ 0 ≤ r.left_ ∧ r.left_ < r.right_ ∧ r.right_ ≤ 16384 ∧ 0 ≤ r.low_ ∧ r.low_ < r.high_ ∧ r.high_ ≤ 16384 := by simp [propB]
theorem ref04_proper_ok (F : Nat) (r : Rect) : ref04_proper F r = some (propB r) := by
 unfold ref04_proper
 rw [and_br (ref04_proper_k0 F), and_br (ref04_proper_k0 F), and_br (ref04_proper_k0 F), and_br (ref04_proper_k0 F), and_br (ref04_proper_k0 F)]
 rfl
def keepB (a b : Bool) (how : Int) : Bool := if how = 1 then a || b else if how = 2 then a && b else a && !b
theorem ref04_keep_ok (F : Nat) (a b : Bool) (how : Int) : ref04_keep F a b how = some (keepB a b how) := by
 unfold ref04_keep keepB
 rw [br_ite, br_ite]
 by_cases h1 : how = 1
 ·subst h1; cases a <;> cases b <;> rfl
 ·by_cases h2 : how = 2
  ·subst h2; cases a <;> cases b <;> rfl
  ·have e1 : (how == 1) = false := by simpa using h1
   have e2 : (how == 2) = false := by simpa using h2
   rw [e1, e2, if_neg h1, if_neg h2]
   cases a <;> cases b <;> rfl
theorem ref04_inside_ok {F : Nat} (hF : BIG ≤ F) {l : List Rect} (hl : l.length ≤ LIM) (x y : Int) : ref04_inside F l x y = some (inR l x y) := by
 unfold BIG at hF; unfold LIM at hl
 unfold ref04_inside
 refine range_ok (l := l) (fun m => some (inR m x y)) (fun again i hi ha => ?_) (fun again => ?_) (by omega)
 ·unfold ref04_inside_b0
  refine br_tt (lt_dec hi) ?_
  refine gd_ok (by first | omega | exact i64_of (by omega) (by omega) | (simp only [LIM, BIG, List.length_append, List.length_cons, List.length_nil, List.length_map, List.length_take, List.length_drop, List.length_set] at *; omega)) ?_
  rw [and_br (ref04_inside_k1 F i again), and_br (ref04_inside_k1 F i again), and_br (ref04_inside_k1 F i again)]
  unfold ref04_inside_k1
  have e : inR (gl l i :: l.drop (i + 1)) x y = ((gl l i).has x y || inR (l.drop (i + 1)) x y) := rfl
  rw [e]
  have e2 : (decide ((gl l i).left_ ≤ x) && (decide (x < (gl l i).right_) && (decide ((gl l i).low_ ≤ y) && decide (y < (gl l i).high_)))) = (gl l i).has x y := by
   simp only [Rect.has, Bool.and_assoc]
  show br (decide ((gl l i).left_ ≤ x) && (decide (x < (gl l i).right_) && (decide ((gl l i).low_ ≤ y) && decide (y < (gl l i).high_)))) _ _ = _
  rw [e2]
  refine br_ok (fun h => by rw [h]; rfl) (fun h => ?_)
  refine gd_ok (by first | omega | exact i64_of (by omega) (by omega) | (simp only [LIM, BIG, List.length_append, List.length_cons, List.length_nil, List.length_map, List.length_take, List.length_drop, List.length_set] at *; omega)) ?_
  rw [ha, h, Bool.false_or]
 ·unfold ref04_inside_b0
  exact br_ff (not_lt_dec _) rfl
def sameX : List Rect → List Rect → Bool
 | [], [] => true
 | a :: l, b :: m => (a.left_ == b.left_ && a.right_ == b.right_) && sameX l m
 | _, _ => false
theorem sameX_len : ∀ {l m : List Rect}, sameX l m = true → l.length = m.length
 | [], [], _ => rfl
 | [], _ :: _, h => by cases h
 | _ :: _, [], h => by cases h
 | a :: l, b :: m, h => by
  simp only [sameX, Bool.and_eq_true] at h
  simp [sameX_len h.2]
theorem sameX_spec : ∀ (l m : List Rect), l.length = m.length → ∀ i, i ≤ l.length → sameX (l.drop i) (m.drop i) = if h : i < l.length then (((gl l i).left_ == (gl m i).left_ && (gl l i).right_ == (gl m i).right_) && sameX (l.drop (i + 1)) (m.drop (i + 1))) else true := by
 intro l m h i hi
 split
 ·rename_i h2
  rw [drop_gl h2, drop_gl (l := m) (by omega)]; rfl
 ·have : i = l.length := by omega
  rw [List.drop_of_length_le (by omega), List.drop_of_length_le (by omega)]; rfl
theorem ref04_same_ok {F : Nat} (hF : BIG ≤ F) {l m : List Rect} (hl : l.length ≤ LIM) : ref04_same F l m = some (sameX l m) := by
 unfold BIG at hF; unfold LIM at hl
 unfold ref04_same
 refine br_ok (fun h => ?_) (fun h => ?_)
 ·have h : l.length ≠ m.length := by simp at h; omega
  cases hs : sameX l m with
  | false => rfl
  | true => exact absurd (sameX_len hs) h
 ·have h : l.length = m.length := by simp at h; omega
  refine loopN_ok (fun z : Int => ∃ i : Nat, z = i ∧ i ≤ l.length ∧ sameX l m = sameX (l.drop i) (m.drop i)) (fun z => l.length - z.toNat) (fun again z hz ih => ?_) ⟨0, rfl, by simp, by simp⟩ (by simp; omega)
  obtain ⟨i, rfl, hi, he⟩ := hz
  rw [sameX_spec l m h i hi] at he
  unfold ref04_same_b0
  refine br_ok (fun h2 => ?_) (fun h2 => ?_)
  ·have h2 : i < l.length := by simpa using h2
   rw [dif_pos h2] at he
   refine gd_ok (by first | omega | exact i64_of (by omega) (by omega) | (simp only [LIM, BIG, List.length_append, List.length_cons, List.length_nil, List.length_map, List.length_take, List.length_drop, List.length_set] at *; omega)) ?_
   refine gd_ok (by first | omega | exact i64_of (by omega) (by omega) | (simp only [LIM, BIG, List.length_append, List.length_cons, List.length_nil, List.length_map, List.length_take, List.length_drop, List.length_set] at *; omega)) ?_
   have h3 : i < m.length := by omega
   refine br_ok (fun hb => ?_) (fun hb => ?_)
   ·unfold ref04_same_k1
    refine br_tt rfl ?_
    have hb : (gl l i).left_ ≠ (gl m i).left_ := by simpa using hb
    have e : ((gl l i).left_ == (gl m i).left_) = false := by simpa using hb
    rw [he, e]; rfl
   ·repeat (refine gd_ok (by first | omega | exact i64_of (by omega) (by omega) | (simp only [LIM, BIG, List.length_append, List.length_cons, List.length_nil, List.length_map, List.length_take, List.length_drop, List.length_set] at *; omega)) ?_)
    have hb : (gl l i).left_ = (gl m i).left_ := by simpa using hb
    have e : ((gl l i).left_ == (gl m i).left_) = true := by simpa using hb
    rw [e, Bool.true_and] at he
    unfold ref04_same_k1
    refine br_ok (fun hc => ?_) (fun hc => ?_)
    ·have hc : (gl l i).right_ ≠ (gl m i).right_ := by simpa using hc
     have e : ((gl l i).right_ == (gl m i).right_) = false := by simpa using hc
     rw [he, e]; rfl
    ·have hc : (gl l i).right_ = (gl m i).right_ := by simpa using hc
     have e : ((gl l i).right_ == (gl m i).right_) = true := by simpa using hc
     rw [e, Bool.true_and] at he
     refine gd_ok (by first | omega | exact i64_of (by omega) (by omega) | (simp only [LIM, BIG, List.length_append, List.length_cons, List.length_nil, List.length_map, List.length_take, List.length_drop, List.length_set] at *; omega)) ?_
     exact ih _ ⟨i + 1, by omega, h2, he⟩ (by omega)
  ·have h2 : ¬ i < l.length := by simpa using h2
   rw [dif_neg h2] at he
   rw [he]; rfl
end Go.Ab
end

section
namespace Go.Ab
set_option maxRecDepth 20000
theorem mem_put (l : List Int) (n v : Int) : v ∈ put l n ↔ v = n ∨ v ∈ l := by
 induction l with
 | nil => simp [put]
 | cons a l ih =>
  unfold put
  split
  ·rw [List.mem_cons, ih, List.mem_cons]
   constructor
   ·rintro (h | h | h); exact .inr (.inl h); exact .inl h; exact .inr (.inr h)
   ·rintro (h | h | h); exact .inr (.inl h); exact .inl h; exact .inr (.inr h)
  ·split
   ·rename_i h; subst h
    rw [List.mem_cons]
    constructor
    ·intro h; exact .inr h
    ·rintro (h | h); exact .inl h; exact h
   ·rw [List.mem_cons]
theorem asc_put {l : List Int} (h : Asc l) (n : Int) : Asc (put l n) := by
 induction l with
 | nil => exact List.pairwise_singleton _ _
 | cons a l ih =>
  obtain ⟨h1, h2⟩ := List.pairwise_cons.1 h
  unfold put
  split
  ·rename_i hlt
   refine List.pairwise_cons.2 ⟨fun v hv => ?_, ih h2⟩
   rcases (mem_put l n v).1 hv with rfl | hv
   ·exact hlt
   ·exact h1 v hv
  ·split
   ·exact h
   ·refine List.pairwise_cons.2 ⟨fun v hv => ?_, h⟩
    rcases List.mem_cons.1 hv with rfl | hv
    ·omega
    ·have := h1 v hv; omega
theorem len_put (l : List Int) (n : Int) : (put l n).length ≤ l.length + 1 := by
 induction l with
 | nil => simp [put]
 | cons a l ih =>
  unfold put
  split
  ·simp; omega
  ·split <;> simp
def cutX (l : List Rect) (xs : List Int) : List Int := l.foldl (fun xs r => put (put xs r.left_) r.right_) xs
def cutY (l : List Rect) (ys : List Int) : List Int := l.foldl (fun ys r => put (put ys r.low_) r.high_) ys
theorem cut_asc {f g : Rect → Int} (l : List Rect) : ∀ {xs : List Int}, Asc xs → Asc (l.foldl (fun xs r => put (put xs (f r)) (g r)) xs) := by
 induction l with
 | nil => intro xs h; exact h
 | cons r l ih => intro xs h; exact ih (asc_put (asc_put h _) _)
theorem cut_mem {f g : Rect → Int} (l : List Rect) : ∀ (xs : List Int) (v : Int), v ∈ l.foldl (fun xs r => put (put xs (f r)) (g r)) xs ↔ v ∈ xs ∨ ∃ r ∈ l, v = f r ∨ v = g r := by
 induction l with
 | nil => intro xs v; simp
 | cons r l ih =>
  intro xs v
  rw [List.foldl_cons, ih, mem_put, mem_put]
  constructor
  ·rintro ((h | h | h) | ⟨q, hq, h⟩)
   ·exact .inr ⟨r, by simp, .inr h⟩
   ·exact .inr ⟨r, by simp, .inl h⟩
   ·exact .inl h
   ·exact .inr ⟨q, by simp [hq], h⟩
  ·rintro (h | ⟨q, hq, h⟩)
   ·exact .inl (.inr (.inr h))
   ·rcases List.mem_cons.1 hq with rfl | hq
    ·rcases h with h | h
     ·exact .inl (.inr (.inl h))
     ·exact .inl (.inl h)
    ·exact .inr ⟨q, hq, h⟩
theorem cut_len {f g : Rect → Int} (l : List Rect) : ∀ (xs : List Int), (l.foldl (fun xs r => put (put xs (f r)) (g r)) xs).length ≤ xs.length + 2 * l.length := by
 induction l with
 | nil => intro xs; simp
 | cons r l ih =>
  intro xs
  have h1 := ih (put (put xs (f r)) (g r))
  have h2 := len_put (put xs (f r)) (g r)
  have h3 := len_put xs (f r)
  simp only [List.foldl_cons, List.length_cons]
  omega
section
variable {F : Nat}
theorem comb_b1 (hF : BIG ≤ F) {a b l : List Rect} {v : Int} (hv : 0 ≤ v ∧ v ≤ 1) (hl : gl [a, b] v.toNat = l) {ag : (List Int × List Int × Int) → Option (List Rect)} {y : Option (List Rect)} {xs ys : List Int} (hx : xs.length + 2 * l.length ≤ 1000000) (hy : ys.length + 2 * l.length ≤ 1000000)
  (h : ag (cutX l xs, cutY l ys, v + 1) = y) : loopN (fun again (z : List Int × List Int × Int) => ref04_Combine_b1 F a b v ag again z.1 z.2.1 z.2.2) F (xs, ys, 0) = y := by
 have hF' := hF
 unfold BIG at hF
 refine loopN_ok (fun z : List Int × List Int × Int => ∃ j : Nat, z.2.2 = j ∧ j ≤ l.length ∧ cutX (l.drop j) z.1 = cutX l xs ∧ cutY (l.drop j) z.2.1 = cutY l ys ∧ z.1.length + 2 * (l.length - j) ≤ 1000000 ∧ z.2.1.length + 2 * (l.length - j) ≤ 1000000)
  (fun z => l.length - z.2.2.toNat) (fun again z hz ih => ?_) ⟨0, rfl, by omega, by simp, by simp, by simpa using hx, by simpa using hy⟩ (by simp; omega)
 obtain ⟨x1, y1, j1⟩ := z
 obtain ⟨j, hj, hjl, e1, e2, b1, b2⟩ := hz
 simp only at hj e1 e2 b1 b2
 subst hj
 unfold ref04_Combine_b1
 simp only [hl, Int.toNat_natCast]
 refine br_ok (fun hlt => ?_) (fun hlt => ?_)
 ·have hlt : j < l.length := by simpa using hlt
  refine gd_ok (by first | omega | exact i64_of (by omega) (by omega) | (simp only [LIM, BIG, List.length_append, List.length_cons, List.length_nil, List.length_map, List.length_take, List.length_drop, List.length_set] at *; omega)) ?_
  have l1 := len_put x1 (gl l j).left_
  have l2 := len_put (put x1 (gl l j).left_) (gl l j).right_
  have l3 := len_put y1 (gl l j).low_
  have l4 := len_put (put y1 (gl l j).low_) (gl l j).high_
  refine bd_ok (ref01_Put_ok hF' (by omega) _) ?_
  refine bd_ok (ref01_Put_ok hF' (by omega) _) ?_
  refine bd_ok (ref01_Put_ok hF' (by omega) _) ?_
  refine bd_ok (ref01_Put_ok hF' (by omega) _) ?_
  refine gd_ok (by first | omega | exact i64_of (by omega) (by omega) | (simp only [LIM, BIG, List.length_append, List.length_cons, List.length_nil, List.length_map, List.length_take, List.length_drop, List.length_set] at *; omega)) ?_
  refine ih _ ⟨j + 1, rfl, by omega, ?_, ?_, by simp only; omega, by simp only; omega⟩ (by simp only; omega)
  ·rw [← e1, drop_gl hlt]; rfl
  ·rw [← e2, drop_gl hlt]; rfl
 ·have hlt : ¬ j < l.length := by simpa using hlt
  have : j = l.length := by omega
  subst this
  rw [List.drop_length] at e1 e2
  unfold ref04_Combine_k2
  refine gd_ok (by first | omega | exact i64_of (by omega) (by omega) | (simp only [LIM, BIG, List.length_append, List.length_cons, List.length_nil, List.length_map, List.length_take, List.length_drop, List.length_set] at *; omega)) ?_
  have e1 : x1 = cutX l xs := e1
  have e2 : y1 = cutY l ys := e2
  rw [e1, e2]; exact h
theorem flat1_nil (lo hi : Int) : flat1 ⟨lo, hi, []⟩ = [] := rfl
theorem flat1_app (lo hi : Int) (l : List Span) (s : Span) : flat1 ⟨lo, hi, l ++ [s]⟩ = flat1 ⟨lo, hi, l⟩ ++ [⟨s.left_, lo, s.right_, hi⟩] := by simp [flat1]
theorem flat1_len (b : Rn (List Span)) : (flat1 b).length = b.v.length := by simp [flat1]
theorem gl_last {α : Type} [Emb α] (l : List α) (x : α) {n : Nat} (h : n = l.length) : gl (l ++ [x]) n = x := by subst h; simp [gl, List.getD_eq_getElem?_getD]
theorem set_last {α : Type} (l : List α) (x y : α) {n : Nat} (h : n = l.length) : (l ++ [x]).set n y = l ++ [y] := by subst h; simp
theorem comb_k6t (hF : BIG ≤ F) {xs ys : List Int} {i k : Nat} {m : List Rect} {r : Rect} {ag : (Int × List Rect) → Option (List Rect)} {y : Option (List Rect)} (hk : k + 1 < xs.length) (hx : xs.length ≤ 65536) (hm : m.length ≤ 65536)
  (h : ag ((k : Int) + 1, m ++ [⟨r.left_, r.low_, gl xs (k + 1), r.high_⟩]) = y) : ref04_Combine_k6 F xs ys i k (m ++ [r]) ag true = y := by
 unfold BIG at hF
 unfold ref04_Combine_k6
 refine br_tt rfl ?_
 have hl : (m ++ [r]).length = m.length + 1 := by simp
 simp only [hl]
 have e1 : (((m.length + 1 : Nat) : Int) - 1).toNat = m.length := by omega
 have e2 : ((k : Int) + 1).toNat = k + 1 := by omega
 rw [e1, gl_last _ _ rfl, set_last _ _ _ rfl, e2]
 repeat (refine gd_ok (by first | omega | exact i64_of (by omega) (by omega) | (simp only [LIM, BIG, List.length_append, List.length_cons, List.length_nil, List.length_map, List.length_take, List.length_drop, List.length_set] at *; omega)) ?_)
 exact h
theorem comb_k6f (hF : BIG ≤ F) {xs ys : List Int} {i k : Nat} {m : List Rect} {ag : (Int × List Rect) → Option (List Rect)} {y : Option (List Rect)} (hk : k + 1 < xs.length) (hi : i + 1 < ys.length) (hx : xs.length ≤ 65536) (hy : ys.length ≤ 65536) (hm : m.length ≤ 65536)
  (h : ag ((k : Int) + 1, m ++ [⟨gl xs k, gl ys i, gl xs (k + 1), gl ys (i + 1)⟩]) = y) : ref04_Combine_k6 F xs ys i k m ag false = y := by
 unfold BIG at hF
 unfold ref04_Combine_k6
 refine br_ff rfl ?_
 have e2 : ((k : Int) + 1).toNat = k + 1 := by omega
 have e3 : ((i : Int) + 1).toNat = i + 1 := by omega
 rw [e2, e3]
 simp only [Int.toNat_natCast]
 repeat (refine gd_ok (by first | omega | exact i64_of (by omega) (by omega) | (simp only [LIM, BIG, List.length_append, List.length_cons, List.length_nil, List.length_map, List.length_take, List.length_drop, List.length_set] at *; omega)) ?_)
 exact h
theorem comb_b5 (hF : BIG ≤ F) {a b : List Rect} {how : Int} {xs ys : List Int} {i : Nat} (hi : i + 1 < ys.length) (hx : xs.length ≤ 65536) (hy : ys.length ≤ 65536) (ha : a.length ≤ LIM) (hb : b.length ≤ LIM)
  (hst : Step false xs fun x => keepB (inR a x (gl ys i)) (inR b x (gl ys i)) how) {out last : List Rect} {ag : (Int × List Rect × List Rect) → Option (List Rect)} {y : Option (List Rect)}
  (h : ∀ l : List Span, SpOk l → (∀ x, inS l x = keepB (inR a x (gl ys i)) (inR b x (gl ys i)) how) → l.length ≤ 65536 → ref04_Combine_k8 F ys i out last ag (flat1 ⟨gl ys i, gl ys (i + 1), l⟩) = y) :
  loopN (fun again (z : Int × List Rect) => ref04_Combine_b5 F a b how xs ys i out last ag again z.1 z.2) F (0, []) = y := by
 have hF' := hF
 unfold BIG at hF
 refine loopN_ok (fun z : Int × List Rect => ∃ (k : Nat) (l : List Span), z = ((k : Int), flat1 ⟨gl ys i, gl ys (i + 1), l⟩) ∧ l.length ≤ k ∧ (k + 1 ≤ xs.length ∨ k = 0) ∧ (0 < xs.length → Bst false (fun x => keepB (inR a x (gl ys i)) (inR b x (gl ys i)) how) (l.map Span.rn) (gl xs k)))
  (fun z => xs.length - z.1.toNat) (fun again z hz ih => ?_) ⟨0, [], rfl, Nat.le_refl _, .inr rfl, fun h0 => hst.start h0⟩ (by simp; omega)
 obtain ⟨k, l, rfl, hl, hk, hB⟩ := hz
 simp only at ih ⊢
 unfold ref04_Combine_b5
 refine gd_ok (by first | omega | exact i64_of (by omega) (by omega) | (simp only [LIM, BIG, List.length_append, List.length_cons, List.length_nil, List.length_map, List.length_take, List.length_drop, List.length_set] at *; omega)) ?_
 refine br_ok (fun hlt => ?_) (fun hlt => ?_)
 ·have hlt : k + 1 < xs.length := by simp at hlt; omega
  have hB := hB (by omega)
  have hxk := hst.asc.at_lt (show k < k + 1 by omega) hlt
  simp only [Int.toNat_natCast]
  repeat (refine gd_ok (by first | omega | exact i64_of (by omega) (by omega) | (simp only [LIM, BIG, List.length_append, List.length_cons, List.length_nil, List.length_map, List.length_take, List.length_drop, List.length_set] at *; omega)) ?_)
  refine bd_ok (ref04_inside_ok hF' ha _ _) ?_
  repeat (refine gd_ok (by first | omega | exact i64_of (by omega) (by omega) | (simp only [LIM, BIG, List.length_append, List.length_cons, List.length_nil, List.length_map, List.length_take, List.length_drop, List.length_set] at *; omega)) ?_)
  refine bd_ok (ref04_inside_ok hF' hb _ _) ?_
  refine bd_ok (ref04_keep_ok _ _ _ _) ?_
  have hgap := hst.gap k hlt
  refine br_ok (fun hf => ?_) (fun hf => ?_)
  ·have hf : keepB (inR a (gl xs k) (gl ys i)) (inR b (gl xs k) (gl ys i)) how = false := by simpa using hf
   unfold ref04_Combine_k7
   refine gd_ok (by first | omega | exact i64_of (by omega) (by omega) | (simp only [LIM, BIG, List.length_append, List.length_cons, List.length_nil, List.length_map, List.length_take, List.length_drop, List.length_set] at *; omega)) ?_
   exact ih _ ⟨k + 1, l, rfl, by omega, .inl (by omega), fun _ => hB.skip (by omega) fun t h1 h2 => (hgap t h1 h2).trans hf⟩ (by simp only; omega)
  ·have hf : keepB (inR a (gl xs k) (gl ys i)) (inR b (gl xs k) (gl ys i)) how = true := by simpa using hf
   have hadd : (∀ s, l.getLast? = some s → s.right_ ≠ gl xs k) → ref04_Combine_k6 F xs ys i k (flat1 ⟨gl ys i, gl ys (i + 1), l⟩) again false = y := by
    intro hla
    refine comb_k6f hF' hlt hi hx hy (by rw [flat1_len]; simp only; omega) (ih _ ⟨k + 1, l ++ [⟨gl xs k, gl xs (k + 1)⟩], by rw [flat1_app]; rfl, by simp; omega, .inl (by omega), fun _ => ?_⟩ (by simp only; omega))
    have := hB.add hxk hgap (fun q hq he => by
     rw [List.getLast?_map] at hq
     cases hs : l.getLast? with
     | none => rw [hs] at hq; cases hq
     | some s => rw [hs] at hq; cases hq; exact absurd he (hla s hs))
    simp only [hf] at this
    rw [List.map_append]; exact this
   rcases List.eq_nil_or_concat l with rfl | ⟨l', s, hls⟩
   ·refine br_ff (by simp [flat1_nil]) ?_
    exact hadd fun s hs => by simp at hs
   ·rw [List.concat_eq_append] at hls
    subst hls
    rw [flat1_app] at hadd ⊢
    have hlen : (flat1 ⟨gl ys i, gl ys (i + 1), l'⟩ ++ [(⟨s.left_, gl ys i, s.right_, gl ys (i + 1)⟩ : Rect)]).length = l'.length + 1 := by simp [flat1_len]
    have hll : l'.length + 1 ≤ k := by simpa using hl
    simp only [hlen]
    have e1 : (((l'.length + 1 : Nat) : Int) - 1).toNat = l'.length := by omega
    rw [e1, gl_last _ _ (by rw [flat1_len])]
    refine br_tt (by simp) ?_
    repeat (refine gd_ok (by first | omega | exact i64_of (by omega) (by omega) | (simp only [LIM, BIG, List.length_append, List.length_cons, List.length_nil, List.length_map, List.length_take, List.length_drop, List.length_set] at *; omega)) ?_)
    by_cases hs : s.right_ = gl xs k
    ·have e2 : (s.right_ == gl xs k) = true := by simpa using hs
     simp only [e2]
     refine comb_k6t hF' hlt hx (by rw [flat1_len]; simp only; omega) (ih _ ⟨k + 1, l' ++ [⟨s.left_, gl xs (k + 1)⟩], by rw [flat1_app]; rfl, by simp only [List.length_append, List.length_cons, List.length_nil]; omega, .inl (by omega), fun _ => ?_⟩ (by simp only; omega))
     rw [List.map_append] at hB
     have := hB.grow (a := s.rn) hs hxk fun t h1 h2 => (hgap t h1 h2).trans hf
     rw [List.map_append]; exact this
    ·have e2 : (s.right_ == gl xs k) = false := by simpa using hs
     simp only [e2]
     exact hadd fun q hq => by simp at hq; subst hq; exact hs
 ·have hlt : ¬ k + 1 < xs.length := by simp at hlt; omega
  by_cases h0 : xs.length = 0
  ·have : k = 0 := by omega
   subst this
   have : l = [] := List.eq_nil_of_length_eq_zero (by omega)
   subst this
   exact h [] .nil (fun x => (hst.empty h0 x).symm) (by simp)
  ·have hB := hB (by omega)
   exact h l (.of_runs hB.runs) (fun x => by rw [inS_atR]; exact hst.done (by omega) hB x) (by omega)
theorem gl_mid {α : Type} [Emb α] (l m : List α) (x : α) {n : Nat} (h : n = l.length) : gl (l ++ x :: m) n = x := by subst h; simp [gl, List.getD_eq_getElem?_getD]
theorem set_mid {α : Type} (l m : List α) (x y : α) {n : Nat} (h : n = l.length) : (l ++ x :: m).set n y = l ++ y :: m := by subst h; simp
theorem comb_b10 (hF : BIG ≤ F) {ys : List Int} {i : Nat} (hi : i + 1 < ys.length) (hy : ys.length ≤ 65536) {out : List Rect} {lo hi' : Int} {l : List Span} (hl : l.length ≤ 65536) {ag : (Int × List Rect × List Rect) → Option (List Rect)} {y : Option (List Rect)}
  (h : ag ((i : Int) + 1, out, flat1 ⟨lo, gl ys (i + 1), l⟩) = y) :
  loopN (fun again (z : Int × List Rect) => ref04_Combine_b10 F ys i out (flat1 ⟨lo, hi', l⟩) ag again z.1 z.2) F (0, flat1 ⟨lo, hi', l⟩) = y := by
 unfold BIG at hF
 refine loopN_ok (fun z : Int × List Rect => ∃ j : Nat, z = ((j : Int), flat1 ⟨lo, gl ys (i + 1), l.take j⟩ ++ flat1 ⟨lo, hi', l.drop j⟩) ∧ j ≤ l.length) (fun z => l.length - z.1.toNat) (fun again z hz ih => ?_) ⟨0, by simp [flat1], by omega⟩ (by simp; omega)
 obtain ⟨j, rfl, hj⟩ := hz
 simp only at ih ⊢
 have e2 : ((i : Int) + 1).toNat = i + 1 := by omega
 unfold ref04_Combine_b10
 rw [flat1_len]
 simp only
 refine br_ok (fun hlt => ?_) (fun hlt => ?_)
 ·have hlt : j < l.length := by simpa using hlt
  refine gd_ok (by first | omega | exact i64_of (by omega) (by omega) | (simp only [LIM, BIG, List.length_append, List.length_cons, List.length_nil, List.length_map, List.length_take, List.length_drop, List.length_set] at *; omega)) ?_
  refine gd_ok (by first | omega | exact i64_of (by omega) (by omega) | (simp only [LIM, BIG, List.length_append, List.length_cons, List.length_nil, List.length_map, List.length_take, List.length_drop, List.length_set] at *; omega)) ?_
  have hd : l.drop j = l[j] :: l.drop (j + 1) := List.drop_eq_getElem_cons hlt
  have hlen : (flat1 ⟨lo, gl ys (i + 1), l.take j⟩ ++ flat1 ⟨lo, hi', l.drop j⟩).length = l.length := by
   rw [List.length_append, flat1_len, flat1_len]; simp; omega
  refine gd_ok (by rw [hlen]; omega) ?_
  refine gd_ok (by first | omega | exact i64_of (by omega) (by omega) | (simp only [LIM, BIG, List.length_append, List.length_cons, List.length_nil, List.length_map, List.length_take, List.length_drop, List.length_set] at *; omega)) ?_
  rw [e2]
  simp only [Int.toNat_natCast]
  have e3 : flat1 ⟨lo, hi', l.drop j⟩ = (⟨(l[j]).left_, lo, (l[j]).right_, hi'⟩ : Rect) :: flat1 ⟨lo, hi', l.drop (j + 1)⟩ := by rw [hd]; rfl
  have e4 : j = (flat1 ⟨lo, gl ys (i + 1), l.take j⟩).length := by rw [flat1_len]; simp; omega
  rw [e3, gl_mid _ _ _ e4, set_mid _ _ _ _ e4]
  refine ih _ ⟨j + 1, ?_, hlt⟩ (by simp only; omega)
  rw [List.take_succ_eq_append_getElem hlt, flat1_app]
  simp
 ·have hlt : ¬ j < l.length := by simpa using hlt
  have : j = l.length := by omega
  subst this
  unfold ref04_Combine_k11 ref04_Combine_k13
  refine gd_ok (by first | omega | exact i64_of (by omega) (by omega) | (simp only [LIM, BIG, List.length_append, List.length_cons, List.length_nil, List.length_map, List.length_take, List.length_drop, List.length_set] at *; omega)) ?_
  rw [List.take_length, List.drop_length, flat1_nil, List.append_nil]
  exact h
structure RowSt (rowf : Int → List Span) (c : Int) (n : Nat) (out last : List Rect) : Prop where
 ex : ∃ acc, Bst [] rowf acc c ∧ (∀ r ∈ acc, r.v ≠ []) ∧ ((last = [] ∧ out = flat acc ∧ ∀ r ∈ acc, r.hi < c) ∨ ∃ acc' b, acc = acc' ++ [b] ∧ b.hi = c ∧ last = flat1 b ∧ out = flat acc' ∧ b.v.length ≤ 65536)
 len : out.length + last.length ≤ n * 65536
theorem flat_app (a b : List (Rn (List Span))) : flat (a ++ b) = flat a ++ flat b := by simp [flat]
theorem flat_one (b : Rn (List Span)) : flat [b] = flat1 b := by simp [flat]
theorem sameX_flat1 (lo hi lo' hi' : Int) : ∀ (l m : List Span), sameX (flat1 ⟨lo, hi, l⟩) (flat1 ⟨lo', hi', m⟩) = decide (l = m)
 | [], [] => rfl
 | [], b :: m => rfl
 | a :: l, [] => rfl
 | a :: l, b :: m => by
  have ih := sameX_flat1 lo hi lo' hi' l m
  have e1 : flat1 ⟨lo, hi, a :: l⟩ = (⟨a.left_, lo, a.right_, hi⟩ : Rect) :: flat1 ⟨lo, hi, l⟩ := rfl
  have e2 : flat1 ⟨lo', hi', b :: m⟩ = (⟨b.left_, lo', b.right_, hi'⟩ : Rect) :: flat1 ⟨lo', hi', m⟩ := rfl
  rw [e1, e2, sameX, ih]
  cases a; cases b
  rw [Bool.eq_iff_iff]
  constructor
  ·intro h
   rw [Bool.and_eq_true, Bool.and_eq_true] at h
   obtain ⟨⟨h1, h2⟩, h3⟩ := h
   have h1 := eq_of_beq h1
   have h2 := eq_of_beq h2
   have h3 := of_decide_eq_true h3
   simp only at h1 h2
   rw [h1, h2, h3]; exact decide_eq_true rfl
  ·intro h
   have h := of_decide_eq_true h
   injection h with h1 h2
   injection h1 with h3 h4
   subst h2; subst h3; subst h4
   rw [Bool.and_eq_true, Bool.and_eq_true]
   exact ⟨⟨beq_self_eq_true _, beq_self_eq_true _⟩, decide_eq_true rfl⟩
theorem comb_k8 (hF : BIG ≤ F) {ys : List Int} {i : Nat} (hi : i + 1 < ys.length) (hy : ys.length ≤ 65536) {rowf : Int → List Span} (hst : Step [] ys rowf) {out last : List Rect} (hR : RowSt rowf (gl ys i) i out last)
  {ag : (Int × List Rect × List Rect) → Option (List Rect)} {y : Option (List Rect)} (hlen : (rowf (gl ys i)).length ≤ 65536)
  (h : ∀ out' last', RowSt rowf (gl ys (i + 1)) (i + 1) out' last' → ag ((i : Int) + 1, out', last') = y) :
  ref04_Combine_k8 F ys i out last ag (flat1 ⟨gl ys i, gl ys (i + 1), rowf (gl ys i)⟩) = y := by
 have hF' := hF
 unfold BIG at hF
 obtain ⟨⟨acc, hB, hne, hcase⟩, hol⟩ := hR
 have hyk := hst.asc.at_lt (show i < i + 1 by omega) hi
 have hgap := hst.gap i hi
 have hi64 : i * 65536 ≤ 65536 * 65536 := Nat.mul_le_mul_right _ (by omega)
 generalize hv : rowf (gl ys i) = v at *
 have push : (∀ a, acc.getLast? = some a → a.hi = gl ys i → a.v ≠ v) → flat acc = out ++ last → ref04_Combine_k12 F i out last (flat1 ⟨gl ys i, gl ys (i + 1), v⟩) ag = y := by
  intro hla hfl
  unfold ref04_Combine_k12 ref04_Combine_k13
  refine gd_ok (by first | omega | exact i64_of (by omega) (by omega) | (simp only [LIM, BIG, List.length_append, List.length_cons, List.length_nil, List.length_map, List.length_take, List.length_drop, List.length_set] at *; omega)) ?_
  refine gd_ok (by first | omega | exact i64_of (by omega) (by omega) | (simp only [LIM, BIG, List.length_append, List.length_cons, List.length_nil, List.length_map, List.length_take, List.length_drop, List.length_set] at *; omega)) ?_
  refine h _ _ ⟨?_, ?_⟩
  ·by_cases hv0 : v = []
   ·subst hv0
    exact ⟨acc, hB.skip (by omega) fun t h1 h2 => hgap t h1 h2, hne, .inl ⟨flat1_nil _ _, hfl.symm, fun r hr => by have := hB.le r hr; omega⟩⟩
   ·refine ⟨acc ++ [⟨gl ys i, gl ys (i + 1), v⟩], ?_, fun r hr => ?_, .inr ⟨acc, _, rfl, rfl, rfl, hfl.symm, hlen⟩⟩
    ·have := hB.add hyk (fun t h1 h2 => (hgap t h1 h2).trans hv.symm) (fun a ha he => by rw [hv]; exact hla a ha he)
     rw [hv] at this; exact this
    ·rcases List.mem_append.1 hr with hr | hr
     ·exact hne r hr
     ·rw [List.mem_singleton.1 hr]; exact hv0
  ·rw [List.length_append, flat1_len, Nat.add_mul]; simp only; omega
 unfold ref04_Combine_k8
 rcases hcase with ⟨rfl, rfl, hhi⟩ | ⟨acc', b, rfl, hbh, rfl, rfl, hbl⟩
 ·refine br_ff rfl ?_
  unfold ref04_Combine_k9
  refine br_ff rfl ?_
  exact push (fun a ha he => by have := hhi a (List.mem_of_getLast? ha); omega) (by simp)
 ·have hb0 : b.v ≠ [] := hne b (by simp)
  have hb1 : 0 < b.v.length := by
   cases hh : b.v with
   | nil => exact absurd hh hb0
   | cons _ _ => simp
  have e1 : flat1 b = flat1 ⟨b.lo, b.hi, b.v⟩ := rfl
  refine br_tt (by rw [flat1_len]; simpa using hb1) ?_
  refine bd_ok (ref04_same_ok hF' (by rw [flat1_len]; unfold LIM; omega)) ?_
  rw [e1, sameX_flat1]
  refine br_ok (fun hs => ?_) (fun hs => ?_)
  ·have hs : b.v = v := of_decide_eq_true hs
   refine gd_ok (by rw [flat1_len]; simp only; omega) ?_
   refine gd_ok (by first | omega | exact i64_of (by omega) (by omega) | (simp only [LIM, BIG, List.length_append, List.length_cons, List.length_nil, List.length_map, List.length_take, List.length_drop, List.length_set] at *; omega)) ?_
   have e2 : ((gl (flat1 ⟨b.lo, b.hi, b.v⟩) (0 : Int).toNat).high_ == gl ys (i : Int).toNat) = true := by
    have : gl (flat1 ⟨b.lo, b.hi, b.v⟩) (0 : Int).toNat = (⟨(b.v[0]).left_, b.lo, (b.v[0]).right_, b.hi⟩ : Rect) := by
     have : 0 < (flat1 ⟨b.lo, b.hi, b.v⟩).length := by rw [flat1_len]; exact hb1
     show gl (flat1 ⟨b.lo, b.hi, b.v⟩) 0 = _
     rw [gl_lt this]; simp [flat1]
    rw [this]; simpa using hbh
   rw [e2]
   unfold ref04_Combine_k9
   refine br_tt rfl ?_
   refine comb_b10 hF' hi hy hbl ?_
   have hg := hB.grow hbh hyk fun t h1 h2 => (hgap t h1 h2).trans hs.symm
   refine h _ _ ⟨⟨acc' ++ [⟨b.lo, gl ys (i + 1), b.v⟩], hg, fun r hr => ?_, .inr ⟨acc', _, rfl, rfl, rfl, rfl, hbl⟩⟩, ?_⟩
   ·rcases List.mem_append.1 hr with hr | hr
    ·exact hne r (by simp [hr])
    ·rw [List.mem_singleton.1 hr]; exact hb0
   ·rw [flat1_len] at hol ⊢; rw [Nat.add_mul]; exact Nat.le_trans hol (Nat.le_add_right _ _)
  ·have hs : b.v ≠ v := of_decide_eq_false hs
   unfold ref04_Combine_k9
   refine br_ff rfl ?_
   exact push (fun a ha he => by rw [List.getLast?_append] at ha; simp at ha; subst ha; exact hs) (by rw [flat_app, flat_one])
theorem comb_k3 (hF : BIG ≤ F) {a b : List Rect} {how : Int} {xs ys : List Int} (hx : xs.length ≤ 65536) (hy : ys.length ≤ 65536) (ha : a.length ≤ LIM) (hb : b.length ≤ LIM)
  (hG : Grid xs ys fun x y => keepB (inR a x y) (inR b x y) how) : ref04_Combine_k3 F a b how xs ys = some (cn fun x y => keepB (inR a x y) (inR b x y) how) := by
 have hF' := hF
 unfold BIG at hF
 unfold ref04_Combine_k3
 have hst := hG.step
 have hrows := hG.rows
 refine loopN_ok (fun z : Int × List Rect × List Rect => ∃ (i : Nat), z.1 = (i : Int) ∧ ((ys.length = 0 ∧ i = 0 ∧ z.2.1 = [] ∧ z.2.2 = []) ∨ (i + 1 ≤ ys.length ∧ RowSt (fun y => spn fun x => keepB (inR a x y) (inR b x y) how) (gl ys i) i z.2.1 z.2.2)))
  (fun z => ys.length - z.1.toNat) (fun again z hz ih => ?_) ⟨0, rfl, ?_⟩ (by simp; omega)
 ·obtain ⟨z1, out, last⟩ := z
  obtain ⟨i, hi, hcase⟩ := hz
  simp only at hi hcase ih ⊢
  subst hi
  unfold ref04_Combine_b4
  refine gd_ok (by first | omega | exact i64_of (by omega) (by omega) | (simp only [LIM, BIG, List.length_append, List.length_cons, List.length_nil, List.length_map, List.length_take, List.length_drop, List.length_set] at *; omega)) ?_
  rcases hcase with ⟨h0, rfl, rfl, rfl⟩ | ⟨hi, hR⟩
  ·refine br_ff (by simp [h0]) ?_
   unfold ref04_Combine_k14
   refine gd_ok (by first | omega | exact i64_of (by omega) (by omega) | (simp only [LIM, BIG, List.length_append, List.length_cons, List.length_nil, List.length_map, List.length_take, List.length_drop, List.length_set] at *; omega)) ?_
   have := Step.cn hrows hst .nil (fun t => (hst.empty h0 t).symm) (fun b hb => by cases hb)
   rw [this.1]; rfl
  ·refine br_ok (fun hlt => ?_) (fun hlt => ?_)
   ·have hlt : i + 1 < ys.length := by simp at hlt; omega
    refine comb_b5 hF' hlt hx hy ha hb (hG.x _) fun l hl hf hll => ?_
    have e1 : spn (fun x => keepB (inR a x (gl ys i)) (inR b x (gl ys i)) how) = l := spn_eq hl hf
    have := comb_k8 hF' hlt hy hst hR (ag := again) (y := some (cn fun x y => keepB (inR a x y) (inR b x y) how)) (by rw [e1]; exact hll) fun out' last' hR' => ih _ ⟨i + 1, rfl, .inr ⟨by omega, hR'⟩⟩ (by simp only; omega)
    rw [e1] at this
    exact this
   ·have hlt : ¬ i + 1 < ys.length := by simp at hlt; omega
    unfold ref04_Combine_k14
    obtain ⟨⟨acc, hB, hne, hc⟩, hlen⟩ := hR
    have hi64 : i * 65536 ≤ 65536 * 65536 := Nat.mul_le_mul_right _ (by omega)
    refine gd_ok (by first | omega | exact i64_of (by omega) (by omega) | (simp only [LIM, BIG, List.length_append, List.length_cons, List.length_nil, List.length_map, List.length_take, List.length_drop, List.length_set] at *; omega)) ?_
    have := Step.cn hrows hst hB.runs (fun t => hst.done (by omega) hB t) hne
    rw [this.1]
    rcases hc with ⟨rfl, rfl, _⟩ | ⟨acc', b', rfl, _, rfl, rfl, _⟩
    ·simp
    ·rw [flat_app, flat_one]
 ·by_cases h0 : ys.length = 0
  ·exact .inl ⟨h0, rfl, rfl, rfl⟩
  ·exact .inr ⟨by omega, ⟨⟨[], hst.start (by omega), fun r hr => (by cases hr), .inl ⟨rfl, rfl, fun r hr => (by cases hr)⟩⟩, by simp⟩⟩
theorem cut_grid (a b : List Rect) (how : Int) : Grid (cutX b (cutX a [])) (cutY b (cutY a [])) fun x y => keepB (inR a x y) (inR b x y) how :=
 Grid.of (cut_asc b (cut_asc a .nil)) (cut_asc b (cut_asc a .nil))
  (fun r hr => ⟨(cut_mem b _ _).2 (.inl ((cut_mem a _ _).2 (.inr ⟨r, hr, .inl rfl⟩))), (cut_mem b _ _).2 (.inl ((cut_mem a _ _).2 (.inr ⟨r, hr, .inr rfl⟩)))⟩)
  (fun r hr => ⟨(cut_mem b _ _).2 (.inr ⟨r, hr, .inl rfl⟩), (cut_mem b _ _).2 (.inr ⟨r, hr, .inr rfl⟩)⟩)
  (fun r hr => ⟨(cut_mem b _ _).2 (.inl ((cut_mem a _ _).2 (.inr ⟨r, hr, .inl rfl⟩))), (cut_mem b _ _).2 (.inl ((cut_mem a _ _).2 (.inr ⟨r, hr, .inr rfl⟩)))⟩)
  (fun r hr => ⟨(cut_mem b _ _).2 (.inr ⟨r, hr, .inl rfl⟩), (cut_mem b _ _).2 (.inr ⟨r, hr, .inr rfl⟩)⟩)
  (k := fun p q => keepB p q how) (by show keepB false false how = false; unfold keepB; split; rfl; split <;> rfl)
theorem ref04_Combine_ok (hF : BIG ≤ F) {a b : List Rect} {how : Int} (ha : a.length ≤ 200000) (hb : b.length ≤ 200000) (hx : (cutX b (cutX a [])).length ≤ 65536) (hy : (cutY b (cutY a [])).length ≤ 65536) :
  ref04_Combine F a b how = some (cn fun x y => keepB (inR a x y) (inR b x y) how) := by
 have hF' := hF
 unfold BIG at hF
 have hG := cut_grid a b how
 have k3 := comb_k3 hF' hx hy (by unfold LIM; omega) (by unfold LIM; omega) hG
 have la := cut_len (f := Rect.left_) (g := Rect.right_) a []
 have lb := cut_len (f := Rect.low_) (g := Rect.high_) a []
 have s2 : ∀ again : (List Int × List Int × Int) → Option (List Rect), ref04_Combine_b0 F a b how again (cutX b (cutX a [])) (cutY b (cutY a [])) 2 = some (cn fun x y => keepB (inR a x y) (inR b x y) how) := fun again => by
  unfold ref04_Combine_b0
  exact br_ff rfl k3
 have lX : (cutX a []).length ≤ 2 * a.length := by have := la; simpa [cutX] using this
 have lY : (cutY a []).length ≤ 2 * a.length := by have := lb; simpa [cutY] using this
 unfold ref04_Combine
 refine loopN_ok (fun z : List Int × List Int × Int => z = ([], [], 0) ∨ z = (cutX a [], cutY a [], 1) ∨ z = (cutX b (cutX a []), cutY b (cutY a []), 2)) (fun z => 2 - z.2.2.toNat) (fun again z hz ih => ?_) (.inl rfl) (by simp; omega)
 rcases hz with rfl | rfl | rfl
 ·simp only
  unfold ref04_Combine_b0
  refine br_tt rfl ?_
  refine gd_ok (by first | omega | exact i64_of (by omega) (by omega) | (simp only [LIM, BIG, List.length_append, List.length_cons, List.length_nil, List.length_map, List.length_take, List.length_drop, List.length_set] at *; omega)) ?_
  refine comb_b1 hF' (l := a) (by omega) rfl (by simp; omega) (by simp; omega) ?_
  exact ih _ (.inr (.inl rfl)) (by simp)
 ·simp only
  unfold ref04_Combine_b0
  refine br_tt rfl ?_
  refine gd_ok (by first | omega | exact i64_of (by omega) (by omega) | (simp only [LIM, BIG, List.length_append, List.length_cons, List.length_nil, List.length_map, List.length_take, List.length_drop, List.length_set] at *; omega)) ?_
  refine comb_b1 hF' (l := b) (by omega) rfl (xs := cutX a []) (ys := cutY a []) (by omega) (by omega) ?_
  exact ih _ (.inr (.inr rfl)) (by simp)
 ·exact s2 again
end
end Go.Ab
end

section
namespace Go.Ab
set_option maxRecDepth 20000
theorem grid_fin {xs ys : List Int} {S : Int → Int → Bool} (h : Grid xs ys S) : Fin S := by
 have hst := h.step
 by_cases h0 : ys.length = 0
 ·exact (Step.cn h.rows hst .nil (fun t => (hst.empty h0 t).symm) (fun b hb => by cases hb)).2
 ·have key : ∀ i, i + 1 ≤ ys.length → ∃ acc, Bst [] (fun y => spn fun x => S x y) acc (gl ys i) ∧ ∀ r ∈ acc, r.v ≠ [] := by
   intro i
   induction i with
   | zero => intro _; exact ⟨[], hst.start (by omega), fun r hr => by cases hr⟩
   | succ i ih =>
    intro hi
    obtain ⟨acc, hB, hne⟩ := ih (by omega)
    have hlt := hst.asc.at_lt (show i < i + 1 by omega) (by omega)
    have hgap := hst.gap i (by omega)
    by_cases hv : spn (fun x => S x (gl ys i)) = []
    ·exact ⟨acc, hB.skip (by omega) fun t h1 h2 => (hgap t h1 h2).trans hv, hne⟩
    ·rcases List.eq_nil_or_concat acc with rfl | ⟨acc', b, hacc⟩
     ·refine ⟨_, hB.add hlt hgap (fun a ha => by simp at ha), fun r hr => ?_⟩
      simp at hr; rw [hr]; exact hv
     ·rw [List.concat_eq_append] at hacc
      subst hacc
      by_cases hm : b.hi = gl ys i ∧ b.v = spn fun x => S x (gl ys i)
      ·refine ⟨_, hB.grow hm.1 hlt fun t h1 h2 => (hgap t h1 h2).trans hm.2.symm, fun r hr => ?_⟩
       rcases List.mem_append.1 hr with hr | hr
       ·exact hne r (by simp [hr])
       ·rw [List.mem_singleton.1 hr]; exact hne b (by simp)
      ·refine ⟨_, hB.add hlt hgap (fun a ha he hav => ?_), fun r hr => ?_⟩
       ·simp at ha; subst ha; exact hm ⟨he, hav⟩
       ·rcases List.mem_append.1 hr with hr | hr
        ·exact hne r hr
        ·rw [List.mem_singleton.1 hr]; exact hv
  obtain ⟨acc, hB, hne⟩ := key (ys.length - 1) (by omega)
  exact (Step.cn h.rows hst hB.runs (fun t => hst.done (by omega) hB t) hne).2
theorem fin_comb (a b : List Rect) (how : Int) : Fin fun x y => keepB (inR a x y) (inR b x y) how := grid_fin (cut_grid a b how)
theorem or_nil (l : List Rect) : (fun x y => keepB (inR l x y) (inR [] x y) 1) = inR l := by
 funext x y; simp [keepB, inR]
theorem fin_inR (l : List Rect) : Fin (inR l) := by have := fin_comb l [] 1; rwa [or_nil] at this
theorem canon_iff (l : List Rect) : Canon l ↔ cn (inR l) = l := ⟨fun h => h.eq_cn.symm, fun h => by rw [← h]; exact Canon.cn (fin_inR l)⟩
theorem cutX_small {l : List Rect} : (cutX l []).length ≤ 2 * l.length := by have := cut_len (f := Rect.left_) (g := Rect.right_) l []; simpa [cutX] using this
theorem cutY_small {l : List Rect} : (cutY l []).length ≤ 2 * l.length := by have := cut_len (f := Rect.low_) (g := Rect.high_) l []; simpa [cutY] using this
theorem cutX_small2 {a b : List Rect} : (cutX b (cutX a [])).length ≤ 2 * a.length + 2 * b.length := by
 have h1 := cut_len (f := Rect.left_) (g := Rect.right_) b (cutX a [])
 have h2 := cutX_small (l := a)
 have h1 : (cutX b (cutX a [])).length ≤ (cutX a []).length + 2 * b.length := h1
 omega
theorem cutY_small2 {a b : List Rect} : (cutY b (cutY a [])).length ≤ 2 * a.length + 2 * b.length := by
 have h1 := cut_len (f := Rect.low_) (g := Rect.high_) b (cutY a [])
 have h2 := cutY_small (l := a)
 have h1 : (cutY b (cutY a [])).length ≤ (cutY a []).length + 2 * b.length := h1
 omega
theorem ref04_Combine_small {F : Nat} (hF : BIG ≤ F) {a b : List Rect} {how : Int} (h : a.length + b.length ≤ 32768) : ref04_Combine F a b how = some (cn fun x y => keepB (inR a x y) (inR b x y) how) :=
 ref04_Combine_ok hF (by omega) (by omega) (by have := cutX_small2 (a := a) (b := b); omega) (by have := cutY_small2 (a := a) (b := b); omega)
theorem ref04_Combine_one {F : Nat} (hF : BIG ≤ F) {l : List Rect} (h : l.length ≤ 32768) : ref04_Combine F l [] 1 = some (cn (inR l)) := by
 rw [ref04_Combine_small hF (by simpa using h), or_nil]
theorem list_eq_spec {α : Type} [Emb α] [DecidableEq α] (l m : List α) (h : l.length = m.length) (i : Nat) (hi : i < l.length) : decide (l.drop i = m.drop i) = (decide (gl l i = gl m i) && decide (l.drop (i + 1) = m.drop (i + 1))) := by
 rw [drop_gl hi, drop_gl (l := m) (by omega)]
 rw [Bool.eq_iff_iff, Bool.and_eq_true, decide_eq_true_iff, decide_eq_true_iff, decide_eq_true_iff, List.cons.injEq]
theorem rect_eq (r s : Rect) : ((r.left_ == s.left_) && ((r.low_ == s.low_) && ((r.right_ == s.right_) && ((r.high_ == s.high_) && true)))) = decide (r = s) := by
 cases r; cases s
 rw [Bool.eq_iff_iff, decide_eq_true_iff]
 simp
theorem ref04_Rects_ok {F : Nat} (hF : BIG ≤ F) {l m : List Rect} (hm : m.length ≤ LIM) : ref04_Rects F l m = some (decide (l = m)) := by
 unfold BIG at hF; unfold LIM at hm
 unfold ref04_Rects
 refine br_ok (fun h => ?_) (fun h => ?_)
 ·have h : l.length ≠ m.length := by simp at h; omega
  rw [decide_eq_false fun e => h (by rw [e])]
 ·have h : l.length = m.length := by simp at h; omega
  refine loopN_ok (fun z : Int => ∃ i : Nat, z = i ∧ i ≤ l.length ∧ decide (l = m) = decide (l.drop i = m.drop i)) (fun z => l.length - z.toNat) (fun again z hz ih => ?_) ⟨0, rfl, by omega, by simp⟩ (by simp; omega)
  obtain ⟨i, rfl, hi, he⟩ := hz
  unfold ref04_Rects_b0
  refine br_ok (fun h2 => ?_) (fun h2 => ?_)
  ·have h2 : i < l.length := by simpa using h2
   rw [list_eq_spec l m h i h2] at he
   refine gd_ok (by first | omega | exact i64_of (by omega) (by omega) | (simp only [LIM, BIG, List.length_append, List.length_cons, List.length_nil, List.length_map, List.length_take, List.length_drop, List.length_set] at *; omega)) ?_
   refine gd_ok (by first | omega | exact i64_of (by omega) (by omega) | (simp only [LIM, BIG, List.length_append, List.length_cons, List.length_nil, List.length_map, List.length_take, List.length_drop, List.length_set] at *; omega)) ?_
   rw [rect_eq]
   refine br_ok (fun hb => ?_) (fun hb => ?_)
   ·have hb : decide (gl l i = gl m i) = false := by simpa using hb
    rw [he, hb]; rfl
   ·have hb : decide (gl l i = gl m i) = true := by simpa using hb
    rw [hb, Bool.true_and] at he
    refine gd_ok (by first | omega | exact i64_of (by omega) (by omega) | (simp only [LIM, BIG, List.length_append, List.length_cons, List.length_nil, List.length_map, List.length_take, List.length_drop, List.length_set] at *; omega)) ?_
    exact ih _ ⟨i + 1, by omega, h2, he⟩ (by omega)
  ·have h2 : ¬ i < l.length := by simpa using h2
   have : i = l.length := by omega
   rw [he, List.drop_of_length_le (by omega), List.drop_of_length_le (by omega), decide_eq_true rfl]; rfl
def Val (l : List Rect) : Prop := l.length ≤ 120 ∧ (∀ r ∈ l, propB r = true) ∧ Canon l
open Classical in
noncomputable def valB (l : List Rect) : Bool := decide (Val l)
theorem valB_iff (l : List Rect) : valB l = true ↔ Val l := by unfold valB; exact @decide_eq_true_iff (Val l) (Classical.propDecidable _)
theorem valB_false {l : List Rect} (h : ¬ Val l) : valB l = false := by rw [← Bool.not_eq_true, valB_iff]; exact h
theorem valB_true {l : List Rect} (h : Val l) : valB l = true := (valB_iff l).2 h
theorem all_drop {α : Type} [Emb α] {l : List α} {p : α → Prop} {i : Nat} (h : i < l.length) : (∀ x ∈ l.drop i, p x) ↔ p (gl l i) ∧ ∀ x ∈ l.drop (i + 1), p x := by rw [drop_gl h]; simp
theorem ref04_Valid_ok {F : Nat} (hF : BIG ≤ F) (a : Region) : ref04_Valid F a = some (valB a.rects_) := by
 have hF' := hF
 unfold BIG at hF
 obtain ⟨l⟩ := a
 simp only
 unfold ref04_Valid
 refine br_ok (fun h => ?_) (fun h => ?_)
 ·have h : 120 < l.length := by simp at h; omega
  rw [valB_false fun hv => by have := hv.1; omega]
 ·have h : l.length ≤ 120 := by simp at h; omega
  refine loopN_ok (fun z : Int => ∃ i : Nat, z = i ∧ i ≤ l.length ∧ ((∀ r ∈ l, propB r = true) ↔ ∀ r ∈ l.drop i, propB r = true)) (fun z => l.length - z.toNat) (fun again z hz ih => ?_) ⟨0, rfl, by omega, by simp⟩ (by simp; omega)
  obtain ⟨i, rfl, hi, he⟩ := hz
  unfold ref04_Valid_b0
  simp only
  refine br_ok (fun h2 => ?_) (fun h2 => ?_)
  ·have h2 : i < l.length := by simpa using h2
   rw [all_drop (p := fun r => propB r = true) h2] at he
   refine gd_ok (by first | omega | exact i64_of (by omega) (by omega) | (simp only [LIM, BIG, List.length_append, List.length_cons, List.length_nil, List.length_map, List.length_take, List.length_drop, List.length_set] at *; omega)) ?_
   refine bd_ok (ref04_proper_ok _ _) ?_
   refine br_ok (fun hb => ?_) (fun hb => ?_)
   ·have hb : propB (gl l i) = false := by simpa using hb
    rw [valB_false fun hv => by have := (he.1 hv.2.1).1; rw [hb] at this; cases this]
   ·have hb : propB (gl l i) = true := by simpa using hb
    refine gd_ok (by first | omega | exact i64_of (by omega) (by omega) | (simp only [LIM, BIG, List.length_append, List.length_cons, List.length_nil, List.length_map, List.length_take, List.length_drop, List.length_set] at *; omega)) ?_
    exact ih _ ⟨i + 1, by omega, h2, he.trans ⟨fun h => h.2, fun h => ⟨hb, h⟩⟩⟩ (by omega)
  ·have h2 : ¬ i < l.length := by simpa using h2
   rw [List.drop_of_length_le (by omega)] at he
   unfold ref04_Valid_k1
   refine bd_ok (ref04_Combine_one hF' (by simp only; omega)) ?_
   refine bd_ok (ref04_Rects_ok hF' (by unfold LIM; simp only; omega)) ?_
   simp only
   by_cases hc : cn (inR l) = l
   ·rw [decide_eq_true hc, valB_true ⟨h, he.2 (by simp), (canon_iff l).2 hc⟩]
   ·rw [decide_eq_false hc, valB_false fun hv => hc ((canon_iff l).1 hv.2.2)]
theorem ref04_Bound_ok {F : Nat} (l : List Rect) : ref04_Bound F l = some (if 120 < l.length then (⟨[]⟩, 1) else (⟨l⟩, 0)) := by
 unfold ref04_Bound
 refine br_ok (fun h => ?_) (fun h => ?_)
 ·have h : 120 < l.length := by simp at h; omega
  rw [if_pos h]
 ·have h : ¬ 120 < l.length := by simp at h; omega
  rw [if_neg h]
theorem ref04_Of_ok {F : Nat} (hF : BIG ≤ F) {l : List Rect} (hl : l.length ≤ 120) (hp : ∀ r ∈ l, propB r = true) : ref04_Of F l = some (if 120 < (cn (inR l)).length then (⟨[]⟩, 1) else (⟨cn (inR l)⟩, 0)) := by
 have hF' := hF
 unfold BIG at hF
 unfold ref04_Of
 refine br_ff (by simp; omega) ?_
 refine loopN_ok (fun z : Int => ∃ i : Nat, z = i ∧ i ≤ l.length) (fun z => l.length - z.toNat) (fun again z hz ih => ?_) ⟨0, rfl, by omega⟩ (by simp; omega)
 obtain ⟨i, rfl, hi⟩ := hz
 unfold ref04_Of_b0
 refine br_ok (fun h2 => ?_) (fun h2 => ?_)
 ·have h2 : i < l.length := by simpa using h2
  refine gd_ok (by first | omega | exact i64_of (by omega) (by omega) | (simp only [LIM, BIG, List.length_append, List.length_cons, List.length_nil, List.length_map, List.length_take, List.length_drop, List.length_set] at *; omega)) ?_
  refine bd_ok (ref04_proper_ok _ _) ?_
  refine br_ff (by rw [Int.toNat_natCast, hp _ (gl_mem h2)]; rfl) ?_
  refine gd_ok (by first | omega | exact i64_of (by omega) (by omega) | (simp only [LIM, BIG, List.length_append, List.length_cons, List.length_nil, List.length_map, List.length_take, List.length_drop, List.length_set] at *; omega)) ?_
  exact ih _ ⟨i + 1, by omega, h2⟩ (by omega)
 ·unfold ref04_Of_k1
  refine bd_ok (ref04_Combine_one hF' (by omega)) ?_
  refine bd_ok (ref04_Bound_ok _) ?_
  rfl
end Go.Ab
end

section
namespace Go.Ab
set_option maxRecDepth 20000
open Go.Sort
def Srt (l : List Int) : Prop := l.Pairwise (· ≤ ·)
def dd : List Int → List Int
 | [] => []
 | [a] => [a]
 | a :: b :: l => if a = b then dd (b :: l) else a :: dd (b :: l)
theorem dd_snoc (l : List Int) (x : Int) : dd (l ++ [x]) = if l.getLast? = some x then dd l else dd l ++ [x] := by
 match l with
 | [] => simp [dd]
 | [a] => by_cases h : a = x <;> simp [dd, h]
 | a :: b :: l =>
  have ih := dd_snoc (b :: l) x
  have e : (a :: b :: l).getLast? = (b :: l).getLast? := by simp [List.getLast?_cons]
  rw [e]
  by_cases h : a = b
  ·simp only [List.cons_append, dd, h, if_true] at ih ⊢
   exact ih
  ·simp only [List.cons_append, dd, h, if_false] at ih ⊢
   rw [ih]
   split <;> rfl
theorem mem_dd (l : List Int) (v : Int) : v ∈ dd l ↔ v ∈ l := by
 match l with
 | [] => simp [dd]
 | [a] => simp [dd]
 | a :: b :: l =>
  have ih := mem_dd (b :: l) v
  unfold dd
  split
  ·rename_i h; subst h; rw [ih]; simp
  ·rw [List.mem_cons, ih, List.mem_cons (a := v) (b := a)]
theorem dd_asc (l : List Int) (h : Srt l) : Asc (dd l) := by
 match l with
 | [] => exact .nil
 | [a] => exact List.pairwise_singleton _ _
 | a :: b :: l =>
  obtain ⟨h1, h2⟩ := List.pairwise_cons.1 h
  have ih := dd_asc (b :: l) h2
  unfold dd
  split
  ·exact ih
  ·rename_i hne
   refine List.pairwise_cons.2 ⟨fun v hv => ?_, ih⟩
   rw [mem_dd] at hv
   have := h1 b (by simp)
   rcases List.mem_cons.1 hv with rfl | hv
   ·omega
   ·have := (List.pairwise_cons.1 h2).1 v hv; omega
theorem dd_len (l : List Int) : (dd l).length ≤ l.length := by
 match l with
 | [] => simp [dd]
 | [a] => simp [dd]
 | a :: b :: l =>
  have ih := dd_len (b :: l)
  unfold dd
  split
  ·simp at ih ⊢; omega
  ·simp at ih ⊢; omega
theorem last_take {l : List Int} {i : Nat} (h : i < l.length) : (l.take (i + 1)).getLast? = some (gl l i) := by rw [take_gl h]; simp
theorem gl_set {α : Type} [Emb α] (l : List α) (i j : Nat) (x : α) (h : i < l.length) : gl (l.set i x) j = if i = j then x else gl l j := by
 simp only [gl, List.getD_eq_getElem?_getD, List.getElem?_set]
 by_cases hij : i = j
 ·subst hij; simp [h]
 ·simp [hij]
theorem take_set_lt {α : Type} (l : List α) (i n : Nat) (x : α) (h : n ≤ i) : (l.set i x).take n = l.take n := by
 apply List.ext_getElem?
 intro j
 simp only [List.getElem?_take, List.getElem?_set]
 split
 ·rw [if_neg (by omega)]
 ·rfl
theorem take_clr {α : Type} [Emb α] (l : List α) (k n : Nat) (h : k ≤ l.length) : (clr l (0 + k) n).take k = l.take k := by
 apply List.ext_getElem?
 intro j
 simp only [List.getElem?_take, clr]
 split
 ·rename_i hj
  have : j < l.length := by omega
  simp only [List.getElem?_map, List.getElem?_range this, Option.map_some]
  rw [if_neg (by omega), gl_lt this, List.getElem?_eq_getElem this]
 ·rfl
theorem clr_len {α : Type} [Emb α] (l : List α) (lo n : Nat) : (clr l lo n).length = l.length := by simp [clr]
theorem slices_Compact_int_ok {F : Nat} (hF : BIG ≤ F) {l : List Int} (hl : l.length ≤ LIM) : slices_Compact_int F l = some (dd l) := by
 have hF' := hF
 unfold BIG at hF; unfold LIM at hl
 unfold slices_Compact_int
 refine br_ok (fun h => ?_) (fun h => ?_)
 ·have h : l.length < 2 := by simp at h; omega
  match l, h with
  | [], _ => rfl
  | [a], _ => rfl
 ·have h : 2 ≤ l.length := by simp at h; omega
  refine loopN_ok (fun z : Int => ∃ k : Nat, z = k ∧ 1 ≤ k ∧ k ≤ l.length ∧ dd (l.take k) = l.take k) (fun z => l.length - z.toNat) (fun again z hz ih => ?_) ⟨1, rfl, by omega, by omega, ?_⟩ (by simp; omega)
  ·obtain ⟨k, rfl, hk1, hk, hd⟩ := hz
   unfold slices_Compact_int_b0
   refine br_ok (fun h2 => ?_) (fun h2 => ?_)
   ·have h2 : k < l.length := by simpa using h2
    refine gd_ok (by first | omega | exact i64_of (by omega) (by omega) | (simp only [LIM, BIG, List.length_append, List.length_cons, List.length_nil, List.length_map, List.length_take, List.length_drop, List.length_set] at *; omega)) ?_
    refine gd_ok (by first | omega | exact i64_of (by omega) (by omega) | (simp only [LIM, BIG, List.length_append, List.length_cons, List.length_nil, List.length_map, List.length_take, List.length_drop, List.length_set] at *; omega)) ?_
    refine gd_ok (by first | omega | exact i64_of (by omega) (by omega) | (simp only [LIM, BIG, List.length_append, List.length_cons, List.length_nil, List.length_map, List.length_take, List.length_drop, List.length_set] at *; omega)) ?_
    have e1 : ((k : Int) - 1).toNat = k - 1 := by omega
    rw [e1]
    simp only [Int.toNat_natCast]
    have hlast : (l.take k).getLast? = some (gl l (k - 1)) := by
     have := last_take (l := l) (i := k - 1) (by omega)
     rwa [show k - 1 + 1 = k from by omega] at this
    refine br_ok (fun hb => ?_) (fun hb => ?_)
    ·have hb : gl l k = gl l (k - 1) := by simpa using hb
     refine gd_ok (by first | omega | exact i64_of (by omega) (by omega) | (simp only [LIM, BIG, List.length_append, List.length_cons, List.length_nil, List.length_map, List.length_take, List.length_drop, List.length_set] at *; omega)) ?_
     have hd1 : dd (l.take (k + 1)) = l.take k := by rw [take_gl h2, dd_snoc, hlast, if_pos (by rw [hb]), hd]
     refine loopN_ok (fun z : Int × Int × List Int => ∃ (q r : Nat) (cur : List Int), z = ((q : Int), (r : Int), cur) ∧ 1 ≤ r ∧ k + r ≤ l.length ∧ q + 1 ≤ k + r ∧ 1 ≤ q ∧ cur.length = l.length ∧ (∀ j, q ≤ j → gl cur j = gl l j) ∧ cur.take q = dd (l.take (k + r)))
      (fun z => l.length - z.2.1.toNat) (fun again2 z hz ih2 => ?_) ⟨k, 1, l, rfl, by omega, by omega, by omega, by omega, rfl, fun _ _ => rfl, hd1.symm⟩ (by simp only; omega)
     obtain ⟨q, r, cur, rfl, hr, hkr, hqr, hq1, hcl, hcj, hct⟩ := hz
     simp only at ih2 ⊢
     unfold slices_Compact_int_b1
     simp only [Int.toNat_natCast, Nat.zero_add]
     refine br_ok (fun h3 => ?_) (fun h3 => ?_)
     ·have h3 : r < l.length - k := by simp at h3; omega
      refine gd_ok (by first | omega | exact i64_of (by omega) (by omega) | (simp only [LIM, BIG, List.length_append, List.length_cons, List.length_nil, List.length_map, List.length_take, List.length_drop, List.length_set] at *; omega)) ?_
      refine gd_ok (by first | omega | exact i64_of (by omega) (by omega) | (simp only [LIM, BIG, List.length_append, List.length_cons, List.length_nil, List.length_map, List.length_take, List.length_drop, List.length_set] at *; omega)) ?_
      refine gd_ok (by first | omega | exact i64_of (by omega) (by omega) | (simp only [LIM, BIG, List.length_append, List.length_cons, List.length_nil, List.length_map, List.length_take, List.length_drop, List.length_set] at *; omega)) ?_
      refine gd_ok (by first | omega | exact i64_of (by omega) (by omega) | (simp only [LIM, BIG, List.length_append, List.length_cons, List.length_nil, List.length_map, List.length_take, List.length_drop, List.length_set] at *; omega)) ?_
      have e2 : ((r : Int) - 1).toNat = r - 1 := by omega
      rw [e2]
      refine gd_ok (by first | omega | exact i64_of (by omega) (by omega) | (simp only [LIM, BIG, List.length_append, List.length_cons, List.length_nil, List.length_map, List.length_take, List.length_drop, List.length_set] at *; omega)) ?_
      rw [hcj (k + r) (by omega), hcj (k + (r - 1)) (by omega)]
      have hl2 : (l.take (k + r)).getLast? = some (gl l (k + (r - 1))) := by
       have := last_take (l := l) (i := k + (r - 1)) (by omega)
       rwa [show k + (r - 1) + 1 = k + r from by omega] at this
      have hdn : dd (l.take (k + r + 1)) = if gl l (k + (r - 1)) = gl l (k + r) then dd (l.take (k + r)) else dd (l.take (k + r)) ++ [gl l (k + r)] := by
       rw [take_gl (by omega), dd_snoc, hl2]; simp
      refine br_ok (fun hne => ?_) (fun hne => ?_)
      ·have hne : gl l (k + r) ≠ gl l (k + (r - 1)) := by simpa using hne
       repeat (refine gd_ok (by first | omega | exact i64_of (by omega) (by omega) | (simp only [LIM, BIG, List.length_append, List.length_cons, List.length_nil, List.length_map, List.length_take, List.length_drop, List.length_set] at *; omega)) ?_)
       refine ih2 _ ⟨q + 1, r + 1, cur.set q (gl l (k + r)), rfl, by omega, by omega, by omega, by omega, by simp [hcl], fun j hj => ?_, ?_⟩ (by simp only; omega)
       ·rw [gl_set _ _ _ _ (by omega), if_neg (by omega)]; exact hcj j (by omega)
       ·rw [show k + (r + 1) = k + r + 1 from rfl, hdn, if_neg (fun e => hne e.symm), ← hct, take_gl (by simp; omega), take_set_lt _ _ _ _ (Nat.le_refl _), gl_set _ _ _ _ (by omega), if_pos rfl]
      ·have hne : gl l (k + r) = gl l (k + (r - 1)) := by simpa using hne
       unfold slices_Compact_int_k2
       refine gd_ok (by first | omega | exact i64_of (by omega) (by omega) | (simp only [LIM, BIG, List.length_append, List.length_cons, List.length_nil, List.length_map, List.length_take, List.length_drop, List.length_set] at *; omega)) ?_
       refine ih2 _ ⟨q, r + 1, cur, rfl, by omega, by omega, by omega, by omega, hcl, hcj, ?_⟩ (by simp only; omega)
       rw [show k + (r + 1) = k + r + 1 from rfl, hdn, if_pos hne.symm, hct]
     ·have h3 : ¬ r < l.length - k := by simp at h3; omega
      unfold slices_Compact_int_k3
      simp only [Int.toNat_natCast, clr_len]
      refine gd_ok (by first | omega | exact i64_of (by omega) (by omega) | (simp only [LIM, BIG, List.length_append, List.length_cons, List.length_nil, List.length_map, List.length_take, List.length_drop, List.length_set] at *; omega)) ?_
      refine gd_ok (by first | omega | exact i64_of (by omega) (by omega) | (simp only [LIM, BIG, List.length_append, List.length_cons, List.length_nil, List.length_map, List.length_take, List.length_drop, List.length_set] at *; omega)) ?_
      rw [take_clr _ _ _ (by omega), hct, List.take_of_length_le (by omega)]
    ·have hb : gl l k ≠ gl l (k - 1) := by simpa using hb
     unfold slices_Compact_int_k4
     refine gd_ok (by first | omega | exact i64_of (by omega) (by omega) | (simp only [LIM, BIG, List.length_append, List.length_cons, List.length_nil, List.length_map, List.length_take, List.length_drop, List.length_set] at *; omega)) ?_
     refine ih _ ⟨k + 1, by omega, by omega, h2, ?_⟩ (by omega)
     rw [take_gl h2, dd_snoc, hlast, if_neg (fun e => hb (by simpa using e.symm)), hd]
   ·have h2 : ¬ k < l.length := by simpa using h2
    have : k = l.length := by omega
    subst this
    rw [List.take_length] at hd
    unfold slices_Compact_int_k5
    rw [hd]
  ·match l, h with
   | a :: b :: l, _ => rfl
end Go.Ab
end

section
namespace Go.Ab
set_option maxRecDepth 20000
open Go.Sort
def lows (l : List Rect) : List Int := l.flatMap fun r => [r.low_, r.high_]
def lowss (ls : List (List Rect)) : List Int := ls.flatMap lows
def cuts (ls : List (List Rect)) : List Int := dd ((lowss ls).mergeSort fun x y => decide (x ≤ y))
theorem srt_sort (l : List Int) : Srt (l.mergeSort fun x y => decide (x ≤ y)) := by
 have := List.pairwise_mergeSort (le := fun x y : Int => decide (x ≤ y)) (fun a b c h1 h2 => by simp at *; omega) (fun a b => by simp; omega) l
 exact this.imp fun h => by simpa using h
theorem cuts_asc (ls : List (List Rect)) : Asc (cuts ls) := dd_asc _ (srt_sort _)
theorem mem_cuts (ls : List (List Rect)) (v : Int) : v ∈ cuts ls ↔ ∃ l ∈ ls, ∃ r ∈ l, v = r.low_ ∨ v = r.high_ := by
 unfold cuts
 rw [mem_dd, List.mem_mergeSort]
 simp [lowss, lows]
theorem lows_len (l : List Rect) : (lows l).length = 2 * l.length := by
 induction l with
 | nil => rfl
 | cons r l ih =>
  have : (lows (r :: l)).length = 2 + (lows l).length := by simp [lows]; omega
  rw [this, ih, List.length_cons]; omega
def tot (ls : List (List Rect)) : Nat := (ls.map List.length).sum
theorem lowss_len (ls : List (List Rect)) : (lowss ls).length = 2 * tot ls := by
 induction ls with
 | nil => rfl
 | cons l ls ih =>
  have : (lowss (l :: ls)).length = (lows l).length + (lowss ls).length := by simp [lowss]
  rw [this, ih, lows_len]; simp [tot]; omega
theorem cuts_len (ls : List (List Rect)) : (cuts ls).length ≤ 2 * tot ls := by
 unfold cuts
 have := dd_len ((lowss ls).mergeSort fun x y => decide (x ≤ y))
 rw [List.length_mergeSort, lowss_len] at this
 exact this
theorem region_Cuts_ok {F : Nat} (hF : BIG ≤ F) {ls : List (List Rect)} (h : tot ls ≤ 1000000000) (hn : ls.length ≤ 1000000) : region_Cuts F ls = some (cuts ls) := by
 have hF' := hF
 unfold BIG at hF
 unfold region_Cuts
 refine (range_st (l := ls) (σ := List Int) (fun rest acc => acc.length + 2 * tot rest ≤ 2000000000) (fun rest acc => some (dd ((acc ++ lowss rest).mergeSort fun x y => decide (x ≤ y))))
  (fun again i acc hi hI ih => ?_) (fun again acc hI => ?_) (by omega) (by simp; omega)).trans rfl
 ·unfold region_Cuts_b0
  refine br_tt (lt_dec hi) ?_
  refine gd_ok (by first | omega | exact i64_of (by omega) (by omega) | (simp only [LIM, BIG, List.length_append, List.length_cons, List.length_nil, List.length_map, List.length_take, List.length_drop, List.length_set] at *; omega)) ?_
  simp only [Int.toNat_natCast]
  generalize hl : gl ls i = l at *
  have ht : tot (l :: ls.drop (i + 1)) = l.length + tot (ls.drop (i + 1)) := by simp [tot]
  rw [ht] at hI
  refine (range_st (l := l) (σ := List Int) (fun rest acc => acc.length + 2 * rest.length + 2 * tot (ls.drop (i + 1)) ≤ 2000000000) (fun rest acc => some (dd ((acc ++ lows rest ++ lowss (ls.drop (i + 1))).mergeSort fun x y => decide (x ≤ y))))
   (fun again2 j acc hj hI ih2 => ?_) (fun again2 acc hI => ?_) (by omega) (by omega)).trans ?_
  ·simp only
   unfold region_Cuts_b1
   simp only [Int.toNat_natCast, hl]
   refine br_tt (lt_dec hj) ?_
   simp only [List.length_cons] at hI
   refine gd_ok (by first | omega | exact i64_of (by omega) (by omega) | (simp only [LIM, BIG, List.length_append, List.length_cons, List.length_nil, List.length_map, List.length_take, List.length_drop, List.length_set] at *; omega)) ?_
   refine gd_ok (by first | omega | exact i64_of (by omega) (by omega) | (simp only [LIM, BIG, List.length_append, List.length_cons, List.length_nil, List.length_map, List.length_take, List.length_drop, List.length_set] at *; omega)) ?_
   refine gd_ok (by first | omega | exact i64_of (by omega) (by omega) | (simp only [LIM, BIG, List.length_append, List.length_cons, List.length_nil, List.length_map, List.length_take, List.length_drop, List.length_set] at *; omega)) ?_
   rw [ih2 _ (by simp only [List.length_append, List.length_cons, List.length_nil]; omega)]
   simp [lows]
  ·simp only
   unfold region_Cuts_b1
   simp only [Int.toNat_natCast, hl]
   refine br_ff (not_lt_dec _) ?_
   unfold region_Cuts_k2
   refine gd_ok (by first | omega | exact i64_of (by omega) (by omega) | (simp only [LIM, BIG, List.length_append, List.length_cons, List.length_nil, List.length_map, List.length_take, List.length_drop, List.length_set] at *; omega)) ?_
   rw [ih _ (by simp only [List.length_nil] at hI; omega)]
   simp [lows]
  ·simp [lowss]
 ·simp only
  unfold region_Cuts_b0
  refine br_ff (not_lt_dec _) ?_
  unfold region_Cuts_k3
  have hI : acc.length ≤ 2000000000 := by simp [tot] at hI; omega
  have hs : sortI acc = some (acc.mergeSort fun x y => decide (x ≤ y)) := by unfold sortI; rw [if_pos (by unfold LIM; omega)]
  refine bd_ok hs ?_
  refine bd_ok (slices_Compact_int_ok hF' (by rw [List.length_mergeSort]; unfold LIM; omega)) ?_
  simp [lowss]
theorem cmp_Compare_int_ok (F : Nat) (a b : Int) : cmp_Compare_int F a b = some (if a < b then -1 else if b < a then 1 else 0) := by
 unfold cmp_Compare_int cmp_isNaN_int
 refine bd_ok rfl (bd_ok rfl ?_)
 refine br_ff (by simp) (br_ff (by simp) ?_)
 refine br_ok (fun h => ?_) (fun h => ?_)
 ·have h : a < b := by simpa using h
  rw [if_pos h]
 ·have h : ¬ a < b := by simpa using h
  rw [if_neg h]
  refine br_ok (fun h => ?_) (fun h => ?_)
  ·have h : b < a := by simpa using h
   rw [if_pos h]
  ·have h : ¬ b < a := by simpa using h
   rw [if_neg h]
def cfL (a b : Span) : Int := if a.left_ < b.left_ then -1 else if b.left_ < a.left_ then 1 else 0
theorem ltC_cfL (a b : Span) : ltC cfL a b = decide (a.left_ < b.left_) := by
 unfold ltC cfL
 by_cases h : a.left_ < b.left_
 ·simp [h]
 ·by_cases h2 : b.left_ < a.left_ <;> simp [h, h2]
theorem swoL : SWO (ltC cfL) where
 irrefl x := by rw [ltC_cfL]; simp
 trans x y z h1 h2 := by rw [ltC_cfL] at *; simp at *; omega
 ntrans x y z h1 h2 := by rw [ltC_cfL] at *; simp at *; omega
theorem pdqL_spec {α : Type} [Emb α] (cf : α → α → Int) (hO : SWO (ltC cf)) (l : List α) : (pdqL cf l).Perm l ∧ (pdqL cf l).Pairwise fun a b => ltC cf b a = false := by
 letI inst : Inhabited α := ⟨Emb.d⟩
 have h := pdq_sorts (ltC cf) hO l.toArray 0 l.length (Lib.bitLen l.length) true true (Nat.zero_le _) (by simp) (.inl rfl)
 have hsz : (pdq (ltC cf) l.toArray 0 l.length (Lib.bitLen l.length) true true).size = l.length := by simpa using h.1.1
 constructor
 ·have := h.1.2.2
  simp only [List.extract_toArray, List.extract_eq_take_drop, Nat.sub_zero, List.drop_zero, List.take_length] at this
  have e : ((pdq (ltC cf) l.toArray 0 l.length (Lib.bitLen l.length) true true).extract 0 l.length).toList = pdqL cf l := by
   unfold pdqL
   generalize pdq (ltC cf) l.toArray 0 l.length (Lib.bitLen l.length) true true = d at hsz
   rw [← hsz]; simp
  rw [e] at this
  exact this
 ·rw [List.pairwise_iff_getElem]
  intro i j hi hj hij
  have hi' : i < (pdq (ltC cf) l.toArray 0 l.length (Lib.bitLen l.length) true true).size := by simpa [pdqL] using hi
  have hj' : j < (pdq (ltC cf) l.toArray 0 l.length (Lib.bitLen l.length) true true).size := by simpa [pdqL] using hj
  have := h.2 i j (Nat.zero_le _) hij (by omega)
  rw [getElem!_pos _ j hj', getElem!_pos _ i hi'] at this
  simpa [pdqL] using this
def flt (l : List Rect) (y : Int) : List Span := (l.filter fun r => decide (r.low_ ≤ y) && decide (y < r.high_)).map fun r => ⟨r.left_, r.right_⟩
theorem flt_cons (r : Rect) (l : List Rect) (y : Int) : flt (r :: l) y = if (decide (r.low_ ≤ y) && decide (y < r.high_)) = true then ⟨r.left_, r.right_⟩ :: flt l y else flt l y := by
 unfold flt
 rw [List.filter_cons]
 split <;> rfl
theorem inS_flt (l : List Rect) (x y : Int) : inS (flt l y) x = inR l x y := by
 induction l with
 | nil => rfl
 | cons r l ih =>
  have e : inR (r :: l) x y = (r.has x y || inR l x y) := rfl
  rw [flt_cons, e, ← ih]
  split
  ·rename_i h
   simp only [Bool.and_eq_true, decide_eq_true_eq] at h
   simp [inS, Span.has, Rect.has, h.1, h.2]
  ·rename_i h
   have : r.has x y = false := has_ff (by simp at h; omega)
   rw [this, Bool.false_or]
theorem flt_len (l : List Rect) (y : Int) : (flt l y).length ≤ l.length := by
 unfold flt; rw [List.length_map]; exact List.length_filter_le _ _
theorem flt_pos {l : List Rect} (h : ∀ r ∈ l, r.left_ < r.right_) (y : Int) : ∀ s ∈ flt l y, s.left_ < s.right_ := by
 intro s hs
 obtain ⟨r, hr, rfl⟩ := List.mem_map.1 hs
 exact h r (List.mem_filter.1 hr).1
theorem inS_app (l m : List Span) (x : Int) : inS (l ++ m) x = (inS l x || inS m x) := by simp [inS]
theorem inS_perm {l m : List Span} (h : l.Perm m) (x : Int) : inS l x = inS m x := by
 rw [Bool.eq_iff_iff]
 simp only [inS, List.any_eq_true]
 constructor
 ·rintro ⟨s, hs, h2⟩; exact ⟨s, h.mem_iff.1 hs, h2⟩
 ·rintro ⟨s, hs, h2⟩; exact ⟨s, h.mem_iff.2 hs, h2⟩
theorem gmax_eq (a b : Int) : gmax a b = if a < b then b else a := rfl
theorem row_sweep {F : Nat} (hF : BIG ≤ F) {S : List Span} (hl : S.length ≤ 1000000000) (hpos : ∀ s ∈ S, s.left_ < s.right_) (hs : S.Pairwise fun a b => a.left_ ≤ b.left_) :
  loopN (fun again (z : Int × List Span) => region_Row_b4 F S again z.1 z.2) F (0, []) = some (spn fun x => inS S x) := by
 unfold BIG at hF
 refine loopN_ok (fun z : Int × List Span => ∃ (i : Nat) (out : List Span), z = ((i : Int), out) ∧ i ≤ S.length ∧ out.length ≤ i ∧ SpOk out ∧ (∀ x, inS out x = inS (S.take i) x) ∧ ∀ o ∈ out, ∀ j, i ≤ j → j < S.length → o.left_ ≤ (gl S j).left_)
  (fun z => S.length - z.1.toNat) (fun again z hz ih => ?_) ⟨0, [], rfl, by omega, Nat.le_refl _, .nil, fun x => by simp, fun o ho => by cases ho⟩ (by simp only; omega)
 obtain ⟨i, out, rfl, hi, hol, hsp, hin, hle⟩ := hz
 simp only at ih ⊢
 unfold region_Row_b4
 refine br_ok (fun h => ?_) (fun h => ?_)
 ·have h : i < S.length := by simpa using h
  refine gd_ok (by first | omega | exact i64_of (by omega) (by omega) | (simp only [LIM, BIG, List.length_append, List.length_cons, List.length_nil, List.length_map, List.length_take, List.length_drop, List.length_set] at *; omega)) ?_
  simp only [Int.toNat_natCast]
  have hp := hpos _ (gl_mem h)
  have hnext : ∀ j, i + 1 ≤ j → j < S.length → (gl S i).left_ ≤ (gl S j).left_ := by
   intro j hj hjl
   rw [gl_lt h, gl_lt hjl]
   exact List.pairwise_iff_getElem.1 hs i j h hjl (by omega)
  have hin' : ∀ x, inS (S.take (i + 1)) x = (inS out x || (gl S i).has x) := by
   intro x
   rw [take_gl h, inS_app, hin]; simp [inS]
  have hadd : (∀ o, out.getLast? = some o → o.right_ < (gl S i).left_) → region_Row_k5 F S i out again false = some (spn fun x => inS S x) := by
   intro hlast
   unfold region_Row_k5
   refine br_ff rfl ?_
   refine gd_ok (by first | omega | exact i64_of (by omega) (by omega) | (simp only [LIM, BIG, List.length_append, List.length_cons, List.length_nil, List.length_map, List.length_take, List.length_drop, List.length_set] at *; omega)) ?_
   unfold region_Row_k6
   refine gd_ok (by first | omega | exact i64_of (by omega) (by omega) | (simp only [LIM, BIG, List.length_append, List.length_cons, List.length_nil, List.length_map, List.length_take, List.length_drop, List.length_set] at *; omega)) ?_
   simp only [Int.toNat_natCast]
   refine ih _ ⟨i + 1, out ++ [gl S i], rfl, h, by simp; omega, ⟨fun s hs => ?_, ?_⟩, fun x => ?_, fun o ho j hj hjl => ?_⟩ (by simp only; omega)
   ·rcases List.mem_append.1 hs with hs | hs
    ·exact hsp.pos s hs
    ·rw [List.mem_singleton.1 hs]; exact hp
   ·refine List.pairwise_append.2 ⟨hsp.ch, List.pairwise_singleton _ _, fun o ho b hb => ?_⟩
    rw [List.mem_singleton.1 hb]
    rcases List.eq_nil_or_concat out with h0 | ⟨o', e, he⟩
    ·rw [h0] at ho; cases ho
    ·rw [List.concat_eq_append] at he
     subst he
     have h1 := hlast e (by simp)
     rcases List.mem_append.1 ho with ho | ho
     ·have h2 := (List.pairwise_append.1 hsp.ch).2.2 o ho e (by simp)
      have h3 := hsp.pos e (by simp)
      omega
     ·rw [List.mem_singleton.1 ho]; exact h1
   ·rw [hin', inS_app]; simp [inS]
   ·rcases List.mem_append.1 ho with ho | ho
    ·exact hle o ho j (by omega) hjl
    ·rw [List.mem_singleton.1 ho]; exact hnext j hj hjl
  rcases List.eq_nil_or_concat out with h0 | ⟨o', e, he⟩
  ·subst h0
   refine br_ff rfl ?_
   exact hadd fun o ho => by simp at ho
  ·rw [List.concat_eq_append] at he
   subst he
   have hlen : (o' ++ [e]).length = o'.length + 1 := by simp
   have e1 : (((o'.length + 1 : Nat) : Int) - 1).toNat = o'.length := by omega
   rw [hlen] at hol ⊢
   refine br_tt (by simp) ?_
   refine gd_ok (by first | omega | exact i64_of (by omega) (by omega) | (simp only [LIM, BIG, List.length_append, List.length_cons, List.length_nil, List.length_map, List.length_take, List.length_drop, List.length_set] at *; omega)) ?_
   refine gd_ok (by first | omega | exact i64_of (by omega) (by omega) | (simp only [LIM, BIG, List.length_append, List.length_cons, List.length_nil, List.length_map, List.length_take, List.length_drop, List.length_set] at *; omega)) ?_
   rw [e1, gl_last _ _ rfl]
   by_cases hc : (gl S i).left_ ≤ e.right_
   ·have e2 : decide ((gl S i).left_ ≤ e.right_) = true := by simpa using hc
    rw [e2]
    unfold region_Row_k5
    refine br_tt rfl ?_
    simp only [hlen]
    refine gd_ok (by first | omega | exact i64_of (by omega) (by omega) | (simp only [LIM, BIG, List.length_append, List.length_cons, List.length_nil, List.length_map, List.length_take, List.length_drop, List.length_set] at *; omega)) ?_
    refine gd_ok (by first | omega | exact i64_of (by omega) (by omega) | (simp only [LIM, BIG, List.length_append, List.length_cons, List.length_nil, List.length_map, List.length_take, List.length_drop, List.length_set] at *; omega)) ?_
    refine gd_ok (by first | omega | exact i64_of (by omega) (by omega) | (simp only [LIM, BIG, List.length_append, List.length_cons, List.length_nil, List.length_map, List.length_take, List.length_drop, List.length_set] at *; omega)) ?_
    refine gd_ok (by first | omega | exact i64_of (by omega) (by omega) | (simp only [LIM, BIG, List.length_append, List.length_cons, List.length_nil, List.length_map, List.length_take, List.length_drop, List.length_set] at *; omega)) ?_
    rw [e1, gl_last _ _ rfl, set_last _ _ _ rfl]
    unfold region_Row_k6
    refine gd_ok (by first | omega | exact i64_of (by omega) (by omega) | (simp only [LIM, BIG, List.length_append, List.length_cons, List.length_nil, List.length_map, List.length_take, List.length_drop, List.length_set] at *; omega)) ?_
    simp only [Int.toNat_natCast]
    have hel : e.left_ ≤ (gl S i).left_ := hle e (by simp) i (Nat.le_refl _) h
    have hep := hsp.pos e (by simp)
    have hmx : e.right_ ≤ gmax e.right_ (gl S i).right_ ∧ (gl S i).right_ ≤ gmax e.right_ (gl S i).right_ ∧ (gmax e.right_ (gl S i).right_ = e.right_ ∨ gmax e.right_ (gl S i).right_ = (gl S i).right_) := by
     rw [gmax_eq]; split <;> omega
    refine ih _ ⟨i + 1, o' ++ [⟨e.left_, gmax e.right_ (gl S i).right_⟩], rfl, h, by simp; omega, ⟨fun s hs => ?_, ?_⟩, fun x => ?_, fun o ho j hj hjl => ?_⟩ (by simp only; omega)
    ·rcases List.mem_append.1 hs with hs | hs
     ·exact hsp.pos s (by simp [hs])
     ·rw [List.mem_singleton.1 hs]; simp only; omega
    ·obtain ⟨q1, _, q3⟩ := List.pairwise_append.1 hsp.ch
     refine List.pairwise_append.2 ⟨q1, List.pairwise_singleton _ _, fun o ho b hb => ?_⟩
     rw [List.mem_singleton.1 hb]
     exact q3 o ho e (by simp)
    ·rw [hin', inS_app, inS_app, Bool.or_assoc]
     congr 1
     have e3 : ∀ (s : Span) x, inS [s] x = s.has x := fun s x => by simp [inS]
     rw [e3, e3, Bool.eq_iff_iff]
     simp only [Span.has, Bool.or_eq_true, Bool.and_eq_true, decide_eq_true_eq]
     omega
    ·rcases List.mem_append.1 ho with ho | ho
     ·exact hle o (by simp [ho]) j (by omega) hjl
     ·rw [List.mem_singleton.1 ho]; exact hle e (by simp) j (by omega) hjl
   ·have e2 : decide ((gl S i).left_ ≤ e.right_) = false := by simpa using hc
    rw [e2]
    exact hadd fun o ho => by simp at ho; subst ho; omega
 ·have h : ¬ i < S.length := by simpa using h
  have : i = S.length := by omega
  subst this
  unfold region_Row_k7
  rw [spn_eq hsp fun x => by rw [hin, List.take_length]]
theorem region_Row_ok {F : Nat} (hF : BIG ≤ F) {l : List Rect} (hl : l.length ≤ 1000000000) (hpos : ∀ r ∈ l, r.left_ < r.right_) (y : Int) : region_Row F l y = some (spn fun x => inR l x y) := by
 have hF' := hF
 unfold BIG at hF
 unfold region_Row
 have hk3 : ∀ acc : List Span, acc = flt l y → region_Row_k3 F acc = some (spn fun x => inR l x y) := by
  rintro acc rfl
  unfold region_Row_k3
  have hfl := flt_len l y
  have hso : sortF (flt l y) (fun y0 y1 => region_Row_1 F y0 y1) = some (pdqL cfL (flt l y)) :=
   sortF_eq cfL (by unfold LIM; omega) swoL fun a b => by unfold region_Row_1; rw [cmp_Compare_int_ok]; rfl
  refine bd_ok hso ?_
  obtain ⟨hp, hs⟩ := pdqL_spec cfL swoL (flt l y)
  have e : (fun x => inR l x y) = fun x => inS (pdqL cfL (flt l y)) x := by funext x; rw [inS_perm hp, inS_flt]
  rw [e]
  refine row_sweep hF' (by rw [hp.length_eq]; omega) (fun s hs => flt_pos hpos y s (hp.mem_iff.1 hs)) (hs.imp fun {a b} h => ?_)
  rw [ltC_cfL] at h; simp at h; exact h
 refine (range_st (l := l) (σ := List Span) (fun rest acc => acc.length + rest.length ≤ 1000000000 ∧ acc ++ flt rest y = flt l y) (fun rest acc => some (spn fun x => inR l x y))
  (fun again i acc hi hI ih => ?_) (fun again acc hI => ?_) (by omega) ⟨by simp; omega, rfl⟩)
 ·simp only
  unfold region_Row_b0
  refine br_tt (lt_dec hi) ?_
  refine gd_ok (by first | omega | exact i64_of (by omega) (by omega) | (simp only [LIM, BIG, List.length_append, List.length_cons, List.length_nil, List.length_map, List.length_take, List.length_drop, List.length_set] at *; omega)) ?_
  rw [and_br (region_Row_k1 F l i acc again)]
  simp only [Int.toNat_natCast]
  rw [flt_cons] at hI
  simp only [List.length_cons] at hI
  unfold region_Row_k1
  refine br_ok (fun h => ?_) (fun h => ?_)
  ·rw [if_pos h] at hI
   refine gd_ok (by first | omega | exact i64_of (by omega) (by omega) | (simp only [LIM, BIG, List.length_append, List.length_cons, List.length_nil, List.length_map, List.length_take, List.length_drop, List.length_set] at *; omega)) ?_
   unfold region_Row_k2
   refine gd_ok (by first | omega | exact i64_of (by omega) (by omega) | (simp only [LIM, BIG, List.length_append, List.length_cons, List.length_nil, List.length_map, List.length_take, List.length_drop, List.length_set] at *; omega)) ?_
   simp only [Int.toNat_natCast]
   exact ih _ ⟨by simp only [List.length_append, List.length_cons, List.length_nil]; omega, by rw [← hI.2]; simp⟩
  ·rw [h] at hI
   unfold region_Row_k2
   refine gd_ok (by first | omega | exact i64_of (by omega) (by omega) | (simp only [LIM, BIG, List.length_append, List.length_cons, List.length_nil, List.length_map, List.length_take, List.length_drop, List.length_set] at *; omega)) ?_
   exact ih _ ⟨by omega, by simpa using hI.2⟩
 ·simp only
  unfold region_Row_b0
  refine br_ff (not_lt_dec _) ?_
  exact hk3 acc (by have := hI.2; simpa [flt] using this)
end Go.Ab
end

section
namespace Go.Ab
set_option maxRecDepth 20000
theorem span_eq (r s : Span) : ((r.left_ == s.left_) && ((r.right_ == s.right_) && true)) = decide (r = s) := by
 cases r; cases s
 rw [Bool.eq_iff_iff, decide_eq_true_iff]
 simp
theorem slices_Equal_Span_ok {F : Nat} (hF : BIG ≤ F) {l m : List Span} (hm : m.length ≤ LIM) : slices_Equal_Span F l m = some (decide (l = m)) := by
 unfold BIG at hF; unfold LIM at hm
 unfold slices_Equal_Span
 refine br_ok (fun h => ?_) (fun h => ?_)
 ·have h : l.length ≠ m.length := by simp at h; omega
  rw [decide_eq_false fun e => h (by rw [e])]
 ·have h : l.length = m.length := by simp at h; omega
  refine loopN_ok (fun z : Int => ∃ i : Nat, z = i ∧ i ≤ l.length ∧ decide (l = m) = decide (l.drop i = m.drop i)) (fun z => l.length - z.toNat) (fun again z hz ih => ?_) ⟨0, rfl, by omega, by simp⟩ (by simp; omega)
  obtain ⟨i, rfl, hi, he⟩ := hz
  unfold slices_Equal_Span_b0
  refine br_ok (fun h2 => ?_) (fun h2 => ?_)
  ·have h2 : i < l.length := by simpa using h2
   rw [list_eq_spec l m h i h2] at he
   refine gd_ok (by first | omega | exact i64_of (by omega) (by omega) | (simp only [LIM, BIG, List.length_append, List.length_cons, List.length_nil, List.length_map, List.length_take, List.length_drop, List.length_set] at *; omega)) ?_
   refine gd_ok (by first | omega | exact i64_of (by omega) (by omega) | (simp only [LIM, BIG, List.length_append, List.length_cons, List.length_nil, List.length_map, List.length_take, List.length_drop, List.length_set] at *; omega)) ?_
   rw [span_eq]
   refine br_ok (fun hb => ?_) (fun hb => ?_)
   ·have hb : decide (gl l i = gl m i) = false := by simpa using hb
    rw [he, hb]; rfl
   ·have hb : decide (gl l i = gl m i) = true := by simpa using hb
    rw [hb, Bool.true_and] at he
    refine gd_ok (by first | omega | exact i64_of (by omega) (by omega) | (simp only [LIM, BIG, List.length_append, List.length_cons, List.length_nil, List.length_map, List.length_take, List.length_drop, List.length_set] at *; omega)) ?_
    exact ih _ ⟨i + 1, by omega, h2, he⟩ (by omega)
  ·have h2 : ¬ i < l.length := by simpa using h2
   have : i = l.length := by omega
   rw [he, List.drop_of_length_le (by omega), List.drop_of_length_le (by omega), decide_eq_true rfl]; rfl
theorem slices_Equal_Rect_ok {F : Nat} (hF : BIG ≤ F) {l m : List Rect} (hm : m.length ≤ LIM) : slices_Equal_Rect F l m = some (decide (l = m)) := by
 unfold BIG at hF; unfold LIM at hm
 unfold slices_Equal_Rect
 refine br_ok (fun h => ?_) (fun h => ?_)
 ·have h : l.length ≠ m.length := by simp at h; omega
  rw [decide_eq_false fun e => h (by rw [e])]
 ·have h : l.length = m.length := by simp at h; omega
  refine loopN_ok (fun z : Int => ∃ i : Nat, z = i ∧ i ≤ l.length ∧ decide (l = m) = decide (l.drop i = m.drop i)) (fun z => l.length - z.toNat) (fun again z hz ih => ?_) ⟨0, rfl, by omega, by simp⟩ (by simp; omega)
  obtain ⟨i, rfl, hi, he⟩ := hz
  unfold slices_Equal_Rect_b0
  refine br_ok (fun h2 => ?_) (fun h2 => ?_)
  ·have h2 : i < l.length := by simpa using h2
   rw [list_eq_spec l m h i h2] at he
   refine gd_ok (by first | omega | exact i64_of (by omega) (by omega) | (simp only [LIM, BIG, List.length_append, List.length_cons, List.length_nil, List.length_map, List.length_take, List.length_drop, List.length_set] at *; omega)) ?_
   refine gd_ok (by first | omega | exact i64_of (by omega) (by omega) | (simp only [LIM, BIG, List.length_append, List.length_cons, List.length_nil, List.length_map, List.length_take, List.length_drop, List.length_set] at *; omega)) ?_
   rw [rect_eq]
   refine br_ok (fun hb => ?_) (fun hb => ?_)
   ·have hb : decide (gl l i = gl m i) = false := by simpa using hb
    rw [he, hb]; rfl
   ·have hb : decide (gl l i = gl m i) = true := by simpa using hb
    rw [hb, Bool.true_and] at he
    refine gd_ok (by first | omega | exact i64_of (by omega) (by omega) | (simp only [LIM, BIG, List.length_append, List.length_cons, List.length_nil, List.length_map, List.length_take, List.length_drop, List.length_set] at *; omega)) ?_
    exact ih _ ⟨i + 1, by omega, h2, he⟩ (by omega)
  ·have h2 : ¬ i < l.length := by simpa using h2
   have : i = l.length := by omega
   rw [he, List.drop_of_length_le (by omega), List.drop_of_length_le (by omega), decide_eq_true rfl]; rfl
def Band.rn (b : Band) : Rn (List Span) := ⟨b.low_, b.high_, b.spans_⟩
def fl (l : List Band) : List Rect := flat (l.map Band.rn)
theorem fl_cons (b : Band) (l : List Band) : fl (b :: l) = flat1 b.rn ++ fl l := rfl
theorem fl_len (l : List Band) (N : Nat) (h : ∀ b ∈ l, b.spans_.length ≤ N) : (fl l).length ≤ l.length * N := by
 induction l with
 | nil => simp [fl, flat]
 | cons b l ih =>
  have h1 := ih fun c hc => h c (by simp [hc])
  have h2 := h b (by simp)
  rw [fl_cons, List.length_append, flat1_len, List.length_cons, Nat.add_mul]
  simp only [Band.rn]
  omega
theorem region_rects_ok {F : Nat} (hF : BIG ≤ F) {l : List Band} (hl : l.length ≤ 1000000000) (hn : (fl l).length ≤ LIM) (hs : ∀ b ∈ l, b.spans_.length ≤ 1000000000) : region_rects F l = some (fl l) := by
 unfold BIG at hF; unfold LIM at hn
 unfold region_rects
 refine (range_st (l := l) (σ := List Rect) (fun rest acc => acc.length + (fl rest).length ≤ 4294967296) (fun rest acc => some (acc ++ fl rest)) (fun again i acc hi hI ih => ?_) (fun again acc hI => ?_) (by omega) (by simp; omega)).trans (by simp)
 ·unfold region_rects_b0
  refine br_tt (lt_dec hi) ?_
  refine gd_ok (by first | omega | exact i64_of (by omega) (by omega) | (simp only [LIM, BIG, List.length_append, List.length_cons, List.length_nil, List.length_map, List.length_take, List.length_drop, List.length_set] at *; omega)) ?_
  simp only [Int.toNat_natCast]
  have hsp := hs _ (gl_mem hi)
  rw [fl_cons, List.length_append, flat1_len] at hI
  rw [fl_cons]
  generalize hb : gl l i = b at hI hsp ⊢
  have hI : acc.length + (b.spans_.length + (fl (l.drop (i + 1))).length) ≤ 4294967296 := hI
  refine (range_st (l := b.spans_) (σ := List Rect) (fun rest acc => acc.length + rest.length + (fl (l.drop (i + 1))).length ≤ 4294967296) (fun rest acc => some (acc ++ (rest.map (fun s => (⟨s.left_, b.low_, s.right_, b.high_⟩ : Rect)) ++ fl (l.drop (i + 1)))))
   (fun again2 j acc hj hI ih2 => ?_) (fun again2 acc hI => ?_) (by omega) (by omega)).trans rfl
  ·unfold region_rects_b1
   simp only [Int.toNat_natCast, hb]
   refine br_tt (lt_dec hj) ?_
   simp only [List.length_cons] at hI
   refine gd_ok (by first | omega | exact i64_of (by omega) (by omega) | (simp only [LIM, BIG, List.length_append, List.length_cons, List.length_nil, List.length_map, List.length_take, List.length_drop, List.length_set] at *; omega)) ?_
   refine gd_ok (by first | omega | exact i64_of (by omega) (by omega) | (simp only [LIM, BIG, List.length_append, List.length_cons, List.length_nil, List.length_map, List.length_take, List.length_drop, List.length_set] at *; omega)) ?_
   refine gd_ok (by first | omega | exact i64_of (by omega) (by omega) | (simp only [LIM, BIG, List.length_append, List.length_cons, List.length_nil, List.length_map, List.length_take, List.length_drop, List.length_set] at *; omega)) ?_
   rw [ih2 _ (by simp only [List.length_append, List.length_cons, List.length_nil]; omega)]
   simp
  ·unfold region_rects_b1
   simp only [Int.toNat_natCast, hb]
   refine br_ff (not_lt_dec _) ?_
   unfold region_rects_k2
   refine gd_ok (by first | omega | exact i64_of (by omega) (by omega) | (simp only [LIM, BIG, List.length_append, List.length_cons, List.length_nil, List.length_map, List.length_take, List.length_drop, List.length_set] at *; omega)) ?_
   rw [ih _ (by simpa using hI)]
   simp
 ·unfold region_rects_b0
  refine br_ff (not_lt_dec _) ?_
  simp [region_rects_k3, fl, flat]
theorem region_Build_ok {F : Nat} (hF : BIG ≤ F) {cs : List Int} {row : Int → Option (List Span)} {S : Int → Int → Bool} (hS : RowsOk S) (hst : Step [] cs fun y => spn fun x => S x y) (hc : cs.length ≤ 65536)
  (hrow : ∀ y, row y = some (spn fun x => S x y)) (hlen : ∀ y, (spn fun x => S x y).length ≤ 65536) : region_Build F cs row = some (cn S) := by
 have hF' := hF
 unfold BIG at hF
 unfold region_Build
 have fin : ∀ bands : List Band, Runs (bands.map Band.rn) → (∀ t, atR [] (bands.map Band.rn) t = spn fun x => S x t) → bands.length ≤ cs.length → (∀ b ∈ bands, b.spans_.length ≤ 65536) → region_Build_k3 F bands = some (cn S) := by
  intro bands hR hv hbl hbs
  unfold region_Build_k3
  have h1 := fl_len bands 65536 hbs
  have h2 : bands.length * 65536 ≤ 65536 * 65536 := Nat.mul_le_mul_right _ (by omega)
  refine bd_ok (region_rects_ok hF' (by omega) (by unfold LIM; omega) (fun b hb => by have := hbs b hb; omega)) ?_
  have hcn := (Step.cn hS hst (acc := (bands.map Band.rn).filter fun r => !r.v.isEmpty) (hR.filter _) (fun t => by
   rw [hR.atR_filter _ (fun r _ hr => by simpa using hr)]; exact hv t) (fun b hb => by
   have := (List.mem_filter.1 hb).2
   intro he; rw [he] at this; simp at this)).1
  rw [hcn]
  congr 1
  have : ∀ l : List (Rn (List Span)), flat l = flat (l.filter fun r => !r.v.isEmpty) := by
   intro l
   induction l with
   | nil => rfl
   | cons a l ih =>
    rw [List.filter_cons]
    have e : flat (a :: l) = flat1 a ++ flat l := rfl
    cases hv : a.v with
    | nil =>
     have : flat1 a = [] := by simp [flat1, hv]
     rw [e, this, List.nil_append, ih]; simp
    | cons s v =>
     simp only [List.isEmpty_cons, Bool.not_false, if_true]
     have e2 : flat (a :: l.filter fun r => !r.v.isEmpty) = flat1 a ++ flat (l.filter fun r => !r.v.isEmpty) := rfl
     rw [e, e2, ← ih]
  exact this _
 refine loopN_ok (fun z : Int × List Band => ∃ (i : Nat) (bands : List Band), z = ((i : Int) + 1, bands) ∧ bands.length ≤ i ∧ (∀ b ∈ bands, b.spans_.length ≤ 65536) ∧ ((cs.length = 0 ∧ i = 0) ∨ (i + 1 ≤ cs.length ∧ Bst [] (fun y => spn fun x => S x y) (bands.map Band.rn) (gl cs i))))
  (fun z => cs.length + 1 - z.1.toNat) (fun again z hz ih => ?_) ⟨0, [], rfl, Nat.le_refl _, fun b hb => (List.not_mem_nil hb).elim, ?_⟩ (by simp; omega)
 ·obtain ⟨i, bands, rfl, hbl, hbs, hcase⟩ := hz
  simp only at ih ⊢
  unfold region_Build_b0
  rcases hcase with ⟨h0, rfl⟩ | ⟨hi, hB⟩
  ·have hb0 : bands = [] := List.eq_nil_of_length_eq_zero (by omega)
   subst hb0
   refine br_ff (by simp; omega) ?_
   exact fin [] .nil (fun t => (hst.empty h0 t).symm) (by simp) (fun b hb => by cases hb)
  ·refine br_ok (fun hlt => ?_) (fun hlt => ?_)
   ·have hlt : i + 1 < cs.length := by simp at hlt; omega
    have hyk := hst.asc.at_lt (show i < i + 1 by omega) hlt
    have hgap := hst.gap i hlt
    have e1 : ((i : Int) + 1 - 1).toNat = i := by omega
    have e2 : ((i : Int) + 1).toNat = i + 1 := by omega
    rw [e1]
    refine gd_ok (by first | omega | exact i64_of (by omega) (by omega) | (simp only [LIM, BIG, List.length_append, List.length_cons, List.length_nil, List.length_map, List.length_take, List.length_drop, List.length_set] at *; omega)) ?_
    refine gd_ok (by first | omega | exact i64_of (by omega) (by omega) | (simp only [LIM, BIG, List.length_append, List.length_cons, List.length_nil, List.length_map, List.length_take, List.length_drop, List.length_set] at *; omega)) ?_
    refine gd_ok (by first | omega | exact i64_of (by omega) (by omega) | (simp only [LIM, BIG, List.length_append, List.length_cons, List.length_nil, List.length_map, List.length_take, List.length_drop, List.length_set] at *; omega)) ?_
    refine gd_ok (by first | omega | exact i64_of (by omega) (by omega) | (simp only [LIM, BIG, List.length_append, List.length_cons, List.length_nil, List.length_map, List.length_take, List.length_drop, List.length_set] at *; omega)) ?_
    refine gd_ok (by first | omega | exact i64_of (by omega) (by omega) | (simp only [LIM, BIG, List.length_append, List.length_cons, List.length_nil, List.length_map, List.length_take, List.length_drop, List.length_set] at *; omega)) ?_
    refine bd_ok (hrow _) ?_
    generalize hv : (spn fun x => S x (gl cs i)) = v at *
    have hvl : v.length ≤ 65536 := by rw [← hv]; exact hlen _
    have hnew : (∀ q, (bands.map Band.rn).getLast? = some q → q.hi = gl cs i → q.v ≠ v) → region_Build_k1 F cs ((i : Int) + 1) bands v again false = some (cn S) := by
     intro hq
     unfold region_Build_k1
     refine br_ff rfl ?_
     rw [e1, e2]
     refine gd_ok (by first | omega | exact i64_of (by omega) (by omega) | (simp only [LIM, BIG, List.length_append, List.length_cons, List.length_nil, List.length_map, List.length_take, List.length_drop, List.length_set] at *; omega)) ?_
     unfold region_Build_k2
     refine gd_ok (by first | omega | exact i64_of (by omega) (by omega) | (simp only [LIM, BIG, List.length_append, List.length_cons, List.length_nil, List.length_map, List.length_take, List.length_drop, List.length_set] at *; omega)) ?_
     refine ih _ ⟨i + 1, bands ++ [⟨gl cs i, gl cs (i + 1), v⟩], by simp, by simp; omega, fun b hb => ?_, .inr ⟨by omega, ?_⟩⟩ (by simp only; omega)
     ·rcases List.mem_append.1 hb with hb | hb
      ·exact hbs b hb
      ·rw [List.mem_singleton.1 hb]; exact hvl
     ·rw [List.map_append]
      have := hB.add hyk (fun t h1 h2 => (hgap t h1 h2).trans hv.symm) (fun a ha he => by rw [hv]; exact hq a ha he)
      rw [hv] at this
      exact this
    rcases List.eq_nil_or_concat bands with h0 | ⟨b', e, he⟩
    ·subst h0
     refine br_ff rfl ?_
     exact hnew fun q hq => by simp at hq
    ·rw [List.concat_eq_append] at he
     subst he
     have hlen2 : (b' ++ [e]).length = b'.length + 1 := by simp
     have e3 : (((b'.length + 1 : Nat) : Int) - 1).toNat = b'.length := by omega
     rw [hlen2] at hbl ⊢
     have hgle : gl (b' ++ [e]) b'.length = e := gl_last _ _ rfl
     refine br_tt (by simp) ?_
     refine gd_ok (by first | omega | exact i64_of (by omega) (by omega) | (simp only [LIM, BIG, List.length_append, List.length_cons, List.length_nil, List.length_map, List.length_take, List.length_drop, List.length_set] at *; omega)) ?_
     refine gd_ok (by first | omega | exact i64_of (by omega) (by omega) | (simp only [LIM, BIG, List.length_append, List.length_cons, List.length_nil, List.length_map, List.length_take, List.length_drop, List.length_set] at *; omega)) ?_
     rw [e3, hgle]
     by_cases hh : e.high_ = gl cs i
     ·refine br_tt (by simpa using hh) ?_
      refine gd_ok (by first | omega | exact i64_of (by omega) (by omega) | (simp only [LIM, BIG, List.length_append, List.length_cons, List.length_nil, List.length_map, List.length_take, List.length_drop, List.length_set] at *; omega)) ?_
      refine gd_ok (by first | omega | exact i64_of (by omega) (by omega) | (simp only [LIM, BIG, List.length_append, List.length_cons, List.length_nil, List.length_map, List.length_take, List.length_drop, List.length_set] at *; omega)) ?_
      refine bd_ok (slices_Equal_Span_ok hF' (by unfold LIM; omega)) ?_
      by_cases hvv : e.spans_ = v
      ·rw [decide_eq_true hvv]
       unfold region_Build_k1
       refine br_tt rfl ?_
       simp only [hlen2]
       refine gd_ok (by first | omega | exact i64_of (by omega) (by omega) | (simp only [LIM, BIG, List.length_append, List.length_cons, List.length_nil, List.length_map, List.length_take, List.length_drop, List.length_set] at *; omega)) ?_
       refine gd_ok (by first | omega | exact i64_of (by omega) (by omega) | (simp only [LIM, BIG, List.length_append, List.length_cons, List.length_nil, List.length_map, List.length_take, List.length_drop, List.length_set] at *; omega)) ?_
       rw [e3, hgle, set_last _ _ _ rfl, e2]
       unfold region_Build_k2
       refine gd_ok (by first | omega | exact i64_of (by omega) (by omega) | (simp only [LIM, BIG, List.length_append, List.length_cons, List.length_nil, List.length_map, List.length_take, List.length_drop, List.length_set] at *; omega)) ?_
       refine ih _ ⟨i + 1, b' ++ [⟨e.low_, gl cs (i + 1), e.spans_⟩], by simp, by simp; omega, fun b hb => ?_, .inr ⟨by omega, ?_⟩⟩ (by simp only; omega)
       ·rcases List.mem_append.1 hb with hb | hb
        ·exact hbs b (by simp [hb])
        ·rw [List.mem_singleton.1 hb]; exact hbs e (by simp)
       ·rw [List.map_append] at hB ⊢
        exact hB.grow (a := e.rn) hh hyk fun t h1 h2 => (hgap t h1 h2).trans hvv.symm
      ·rw [decide_eq_false hvv]
       exact hnew fun q hq _ => by rw [List.map_append] at hq; simp at hq; subst hq; exact hvv
     ·refine br_ff (by simpa using hh) ?_
      exact hnew fun q hq hqh => by rw [List.map_append] at hq; simp at hq; subst hq; exact absurd hqh hh
   ·have hlt : ¬ i + 1 < cs.length := by simp at hlt; omega
    exact fin bands hB.runs (fun t => hst.done (by omega) hB t) (by omega) hbs
 ·by_cases h0 : cs.length = 0
  ·exact .inl ⟨h0, rfl⟩
  ·exact .inr ⟨by omega, hst.start (by omega)⟩
theorem covY_cuts (ls : List (List Rect)) {l : List Rect} (h : l ∈ ls) : CovY (cuts ls) l := fun r hr => ⟨(mem_cuts ls _).2 ⟨l, h, r, hr, .inl rfl⟩, (mem_cuts ls _).2 ⟨l, h, r, hr, .inr rfl⟩⟩
theorem one_grid (l : List Rect) {ls : List (List Rect)} (h : l ∈ ls) : Grid (cutX l []) (cuts ls) (inR l) := by
 have := Grid.of (xs := cutX l []) (ys := cuts ls) (a := l) (b := []) (cut_asc l .nil) (cuts_asc ls)
  (fun r hr => ⟨(cut_mem l _ _).2 (.inr ⟨r, hr, .inl rfl⟩), (cut_mem l _ _).2 (.inr ⟨r, hr, .inr rfl⟩)⟩) (fun r hr => by cases hr) (covY_cuts ls h) (fun r hr => by cases hr) (k := fun p q => p || q) rfl
 have e : (fun x y => inR l x y || inR [] x y) = inR l := by funext x y; simp [inR]
 rwa [e] at this
theorem region_canonical_ok {F : Nat} (hF : BIG ≤ F) {l : List Rect} (hl : l.length ≤ 32768) (hpos : ∀ r ∈ l, r.left_ < r.right_) : region_canonical F l = some (cn (inR l)) := by
 unfold region_canonical
 have hG := one_grid l (ls := [l]) (by simp)
 have ht : tot [l] = l.length := by simp [tot]
 have hcl := cuts_len [l]
 refine bd_ok (region_Cuts_ok hF (by omega) (by simp)) ?_
 refine bd_ok (region_Build_ok hF hG.rows hG.step (by omega) (fun y => ?_) (fun y => ?_)) rfl
 ·unfold region_canonical_1
  exact bd_ok (region_Row_ok hF (by omega) hpos y) rfl
 ·have := (hG.x y).spn_len
  have h2 := cutX_small (l := l)
  omega
theorem slices_IndexFunc_Rect_ok {F : Nat} (hF : BIG ≤ F) {l : List Rect} {q : Rect → Option Bool} (p : Rect → Bool) (hl : l.length ≤ 1000000000) (hq : ∀ r ∈ l, q r = some (p r)) : ∃ i : Int, slices_IndexFunc_Rect F l q = some i ∧ (0 ≤ i ↔ l.any p = true) := by
 unfold BIG at hF
 have key : ∀ (n i : Nat), i ≤ l.length → l.length - i < n → ∃ r : Int, loopN (fun again (z : Int) => slices_IndexFunc_Rect_b0 F l q again z) n (i : Int) = some r ∧ (0 ≤ r ↔ (l.drop i).any p = true) := by
  intro n
  induction n with
  | zero => intro i _ h; omega
  | succ n ih =>
   intro i hi hn
   have hu : loopN (fun again (z : Int) => slices_IndexFunc_Rect_b0 F l q again z) (n + 1) (i : Int) = slices_IndexFunc_Rect_b0 F l q (loopN (fun again (z : Int) => slices_IndexFunc_Rect_b0 F l q again z) n) (i : Int) := rfl
   rw [hu]
   by_cases h : i < l.length
   ·rw [any_drop h]
    by_cases hp : p (gl l i) = true
    ·refine ⟨i, ?_, by rw [hp]; simp⟩
     unfold slices_IndexFunc_Rect_b0
     refine br_tt (lt_dec h) ?_
     refine gd_ok (by first | omega | exact i64_of (by omega) (by omega) | (simp only [LIM, BIG, List.length_append, List.length_cons, List.length_nil, List.length_map, List.length_take, List.length_drop, List.length_set] at *; omega)) ?_
     exact bd_ok (hq _ (gl_mem h)) (br_tt hp rfl)
    ·have hp : p (gl l i) = false := by simpa using hp
     obtain ⟨r, hr, hr2⟩ := ih (i + 1) h (by omega)
     refine ⟨r, ?_, by rw [hr2, hp]; simp⟩
     unfold slices_IndexFunc_Rect_b0
     refine br_tt (lt_dec h) ?_
     refine gd_ok (by first | omega | exact i64_of (by omega) (by omega) | (simp only [LIM, BIG, List.length_append, List.length_cons, List.length_nil, List.length_map, List.length_take, List.length_drop, List.length_set] at *; omega)) ?_
     refine bd_ok (hq _ (gl_mem h)) (br_ff hp ?_)
     refine gd_ok (by first | omega | exact i64_of (by omega) (by omega) | (simp only [LIM, BIG, List.length_append, List.length_cons, List.length_nil, List.length_map, List.length_take, List.length_drop, List.length_set] at *; omega)) ?_
     exact hr
   ·have : i = l.length := by omega
    subst this
    refine ⟨-1, ?_, by simp⟩
    unfold slices_IndexFunc_Rect_b0
    exact br_ff (not_lt_dec _) rfl
 obtain ⟨r, h1, h2⟩ := key F 0 (Nat.zero_le _) (by omega)
 exact ⟨r, h1, by simpa using h2⟩
theorem slices_ContainsFunc_Rect_ok {F : Nat} (hF : BIG ≤ F) {l : List Rect} {q : Rect → Option Bool} (p : Rect → Bool) (hl : l.length ≤ 1000000000) (hq : ∀ r ∈ l, q r = some (p r)) : slices_ContainsFunc_Rect F l q = some (l.any p) := by
 obtain ⟨i, h1, h2⟩ := slices_IndexFunc_Rect_ok hF p hl hq
 unfold slices_ContainsFunc_Rect
 refine bd_ok h1 ?_
 congr 1
 rw [Bool.eq_iff_iff, ← h2, decide_eq_true_iff]
theorem region_proper_ok (F : Nat) (r : Rect) : region_proper F r = some (propB r) := by
 unfold region_proper
 rw [and_br (region_proper_k0 F), and_br (region_proper_k0 F), and_br (region_proper_k0 F), and_br (region_proper_k0 F), and_br (region_proper_k0 F)]
 rfl
theorem region_Valid_ok {F : Nat} (hF : BIG ≤ F) (a : Region) : region_Valid F a = some (valB a.rects_) := by
 obtain ⟨l⟩ := a
 simp only
 unfold region_Valid
 have hF' := hF
 unfold BIG at hF
 refine br_ok (fun h => ?_) (fun h => ?_)
 ·have h : 120 < l.length := by simp at h; omega
  rw [valB_false fun hv => by have := hv.1; omega]; rfl
 ·have h : l.length ≤ 120 := by simp at h; omega
  refine bd_ok (slices_ContainsFunc_Rect_ok hF' (fun r => !propB r) (by simp only; omega) (fun r _ => by unfold region_Valid_1; rw [region_proper_ok]; rfl)) ?_
  unfold region_Valid_k0
  refine br_ok (fun hb => ?_) (fun hb => ?_)
  ·rw [valB_false fun hv => ?_]
   simp only [List.any_eq_true] at hb
   obtain ⟨r, hr, h2⟩ := hb
   rw [hv.2.1 r hr] at h2; cases h2
  ·have hp : ∀ r ∈ l, propB r = true := by
    intro r hr
    have := List.any_eq_false.1 hb r hr
    simpa using this
   refine bd_ok (region_canonical_ok hF' (by simp only; omega) (fun r hr => ((propB_iff r).1 (hp r hr)).2.1)) ?_
   refine bd_ok (slices_Equal_Rect_ok hF' (by unfold LIM; simp only; omega)) ?_
   simp only
   by_cases hc : cn (inR l) = l
   ·rw [decide_eq_true hc, valB_true ⟨h, hp, (canon_iff l).2 hc⟩]
   ·rw [decide_eq_false hc, valB_false fun hv => hc ((canon_iff l).1 hv.2.2)]
end Go.Ab
end

section
namespace Go.Ab
set_option maxRecDepth 20000
def idxI {α : Type} (p : α → Bool) (l : List α) : Int := if l.any p then (l.findIdx p : Int) else -1
theorem findIdx_go {α : Type} [Emb α] {l : List α} {p : α → Bool} {i : Nat} (h : i < l.length) (hb : ∀ j, j < i → p (gl l j) = false) (hi : p (gl l i) = true) : l.findIdx p = i := by
 induction l generalizing i with
 | nil => simp at h
 | cons a l ih =>
  rw [List.findIdx_cons]
  cases i with
  | zero =>
   have : p a = true := hi
   rw [this]; rfl
  | succ i =>
   have h0 : p a = false := hb 0 (by omega)
   rw [h0]
   have := ih (i := i) (by simpa using h) (fun j hj => hb (j + 1) (by omega)) hi
   simp [this]
theorem any_of_before {α : Type} [Emb α] {l : List α} {p : α → Bool} (h : ∀ j, j < l.length → p (gl l j) = false) : l.any p = false := by
 rw [List.any_eq_false]
 intro x hx
 obtain ⟨j, hj, rfl⟩ := List.getElem_of_mem hx
 have := h j hj
 rw [gl_lt hj] at this
 simpa using this
theorem slices_IndexFunc_Feature_ok {F : Nat} (hF : BIG ≤ F) {l : List Feature} {q : Feature → Option Bool} (p : Feature → Bool) (hl : l.length ≤ 1000000000) (hq : ∀ r ∈ l, q r = some (p r)) : slices_IndexFunc_Feature F l q = some (idxI p l) := by
 unfold BIG at hF
 unfold slices_IndexFunc_Feature
 refine loopN_ok (fun z : Int => ∃ i : Nat, z = i ∧ i ≤ l.length ∧ ∀ j, j < i → p (gl l j) = false) (fun z => l.length - z.toNat) (fun again z hz ih => ?_) ⟨0, rfl, by omega, fun j hj => by omega⟩ (by simp; omega)
 obtain ⟨i, rfl, hi, hb⟩ := hz
 unfold slices_IndexFunc_Feature_b0
 refine br_ok (fun h => ?_) (fun h => ?_)
 ·have h : i < l.length := by simpa using h
  refine gd_ok (by first | omega | exact i64_of (by omega) (by omega) | (simp only [LIM, BIG, List.length_append, List.length_cons, List.length_nil, List.length_map, List.length_take, List.length_drop, List.length_set] at *; omega)) ?_
  refine bd_ok (hq _ (gl_mem h)) ?_
  simp only [Int.toNat_natCast]
  refine br_ok (fun hp => ?_) (fun hp => ?_)
  ·have ha : l.any p = true := List.any_eq_true.2 ⟨_, gl_mem h, hp⟩
   rw [idxI, if_pos ha, findIdx_go h hb hp]
  ·refine gd_ok (by first | omega | exact i64_of (by omega) (by omega) | (simp only [LIM, BIG, List.length_append, List.length_cons, List.length_nil, List.length_map, List.length_take, List.length_drop, List.length_set] at *; omega)) ?_
   refine ih _ ⟨i + 1, by omega, h, fun j hj => ?_⟩ (by omega)
   rcases Nat.lt_or_ge j i with h1 | h1
   ·exact hb j h1
   ·have : j = i := by omega
    subst this; exact hp
 ·have h : ¬ i < l.length := by simpa using h
  have : i = l.length := by omega
  subst this
  have ha := any_of_before hb
  rw [idxI, ha]; rfl
theorem slices_DeleteFunc_Feature_ok {F : Nat} (hF : BIG ≤ F) {l : List Feature} {q : Feature → Option Bool} (p : Feature → Bool) (hl : l.length ≤ 1000000000) (hq : ∀ r ∈ l, q r = some (p r)) : slices_DeleteFunc_Feature F l q = some (l.filter fun r => !p r) := by
 have hF' := hF
 unfold BIG at hF
 unfold slices_DeleteFunc_Feature
 refine bd_ok (slices_IndexFunc_Feature_ok hF' p hl hq) ?_
 by_cases ha : l.any p = true
 ·obtain ⟨x, hx, hpx⟩ := List.any_eq_true.1 ha
  have hlt : l.findIdx p < l.length := List.findIdx_lt_length_of_exists ⟨x, hx, hpx⟩
  have hpi : p (gl l (l.findIdx p)) = true := by rw [gl_lt hlt]; exact List.findIdx_getElem (w := hlt)
  have hbf : ∀ j, j < l.findIdx p → p (gl l j) = false := by
   intro j hj
   rw [gl_lt (by omega)]
   simpa using List.not_of_lt_findIdx hj
  rw [idxI, if_pos ha]
  refine br_ff (by simp) ?_
  refine gd_ok (by first | omega | exact i64_of (by omega) (by omega) | (simp only [LIM, BIG, List.length_append, List.length_cons, List.length_nil, List.length_map, List.length_take, List.length_drop, List.length_set] at *; omega)) ?_
  generalize l.findIdx p = i0 at *
  have h0 : (l.take (i0 + 1)).filter (fun r => !p r) = l.take i0 := by
   rw [take_gl hlt, List.filter_append]
   have e1 : (l.take i0).filter (fun r => !p r) = l.take i0 := by
    rw [List.filter_eq_self]
    intro x hx
    obtain ⟨j, hj, rfl⟩ := List.getElem_of_mem hx
    have hj' : j < i0 := by simp at hj; omega
    have := hbf j hj'
    rw [gl_lt (by omega)] at this
    simp [this]
   rw [e1]; simp [hpi]
  refine loopN_ok (fun z : Int × Int × List Feature => ∃ (i j : Nat) (cur : List Feature), z = ((i : Int), (j : Int), cur) ∧ i < j ∧ j ≤ l.length ∧ cur.length = l.length ∧ (∀ m, j ≤ m → gl cur m = gl l m) ∧ cur.take i = (l.take j).filter fun r => !p r)
   (fun z => l.length - z.2.1.toNat) (fun again z hz ih => ?_) ⟨i0, i0 + 1, l, rfl, by omega, by omega, rfl, fun _ _ => rfl, h0.symm⟩ (by simp only; omega)
  obtain ⟨i, j, cur, rfl, hij, hj, hcl, hcm, hct⟩ := hz
  simp only at ih ⊢
  unfold slices_DeleteFunc_Feature_b0
  rw [hcl]
  refine br_ok (fun h => ?_) (fun h => ?_)
  ·have h : j < l.length := by simpa using h
   refine gd_ok (by first | omega | exact i64_of (by omega) (by omega) | (simp only [LIM, BIG, List.length_append, List.length_cons, List.length_nil, List.length_map, List.length_take, List.length_drop, List.length_set] at *; omega)) ?_
   simp only [Int.toNat_natCast]
   rw [hcm j (Nat.le_refl _)]
   refine bd_ok (hq _ (gl_mem h)) ?_
   have hdn : (l.take (j + 1)).filter (fun r => !p r) = (l.take j).filter (fun r => !p r) ++ (if p (gl l j) = true then [] else [gl l j]) := by
    rw [take_gl h, List.filter_append]
    by_cases hp : p (gl l j) = true
    ·rw [if_pos hp]; simp [hp]
    ·rw [if_neg hp]; simp [hp]
   refine br_ok (fun hp => ?_) (fun hp => ?_)
   ·have hp : p (gl l j) = false := by simpa using hp
    refine gd_ok (by first | omega | exact i64_of (by omega) (by omega) | (simp only [LIM, BIG, List.length_append, List.length_cons, List.length_nil, List.length_map, List.length_take, List.length_drop, List.length_set] at *; omega)) ?_
    refine gd_ok (by first | omega | exact i64_of (by omega) (by omega) | (simp only [LIM, BIG, List.length_append, List.length_cons, List.length_nil, List.length_map, List.length_take, List.length_drop, List.length_set] at *; omega)) ?_
    unfold slices_DeleteFunc_Feature_k1
    refine gd_ok (by first | omega | exact i64_of (by omega) (by omega) | (simp only [LIM, BIG, List.length_append, List.length_cons, List.length_nil, List.length_map, List.length_take, List.length_drop, List.length_set] at *; omega)) ?_
    refine ih _ ⟨i + 1, j + 1, cur.set i (gl l j), rfl, by omega, by omega, by simp [hcl], fun m hm => ?_, ?_⟩ (by simp only; omega)
    ·rw [gl_set _ _ _ _ (by omega), if_neg (by omega)]; exact hcm m (by omega)
    ·rw [hdn, if_neg (by rw [hp]; simp), ← hct, take_gl (by simp; omega), take_set_lt _ _ _ _ (Nat.le_refl _), gl_set _ _ _ _ (by omega), if_pos rfl]
   ·have hp : p (gl l j) = true := by simpa using hp
    unfold slices_DeleteFunc_Feature_k1
    refine gd_ok (by first | omega | exact i64_of (by omega) (by omega) | (simp only [LIM, BIG, List.length_append, List.length_cons, List.length_nil, List.length_map, List.length_take, List.length_drop, List.length_set] at *; omega)) ?_
    refine ih _ ⟨i, j + 1, cur, rfl, by omega, by omega, hcl, fun m hm => hcm m (by omega), ?_⟩ (by simp only; omega)
    rw [hdn, if_pos hp, List.append_nil, hct]
  ·have h : ¬ j < l.length := by simpa using h
   unfold slices_DeleteFunc_Feature_k2
   simp only [Int.toNat_natCast, clr_len, hcl]
   refine gd_ok (by first | omega | exact i64_of (by omega) (by omega) | (simp only [LIM, BIG, List.length_append, List.length_cons, List.length_nil, List.length_map, List.length_take, List.length_drop, List.length_set] at *; omega)) ?_
   refine gd_ok (by first | omega | exact i64_of (by omega) (by omega) | (simp only [LIM, BIG, List.length_append, List.length_cons, List.length_nil, List.length_map, List.length_take, List.length_drop, List.length_set] at *; omega)) ?_
   rw [take_clr _ _ _ (by omega), hct, List.take_of_length_le (by omega)]
 ·have ha : l.any p = false := by simpa using ha
  rw [idxI, ha]
  refine br_tt rfl ?_
  congr 1
  symm
  rw [List.filter_eq_self]
  intro x hx
  have := List.any_eq_false.1 ha x hx
  simpa using this
theorem slices_Delete_Feature_one {F : Nat} {l : List Feature} {i : Nat} (h : i < l.length) : slices_Delete_Feature F l (i : Int) ((i : Int) + 1) = some (l.eraseIdx i) := by
 unfold slices_Delete_Feature
 have e1 : ((i : Int) + 1).toNat = i + 1 := by omega
 have ml : ∀ a b c, (mvl l a b c).length = l.length := fun a b c => by simp [mvl]
 simp only [Int.toNat_natCast, e1, clr_len, ml, Nat.zero_add]
 refine gd_ok (by first | omega | exact i64_of (by omega) (by omega) | (simp only [LIM, BIG, List.length_append, List.length_cons, List.length_nil, List.length_map, List.length_take, List.length_drop, List.length_set] at *; omega)) ?_
 refine br_ff (by simp; omega) ?_
 refine gd_ok (by first | omega | exact i64_of (by omega) (by omega) | (simp only [LIM, BIG, List.length_append, List.length_cons, List.length_nil, List.length_map, List.length_take, List.length_drop, List.length_set] at *; omega)) ?_
 refine gd_ok (by first | omega | exact i64_of (by omega) (by omega) | (simp only [LIM, BIG, List.length_append, List.length_cons, List.length_nil, List.length_map, List.length_take, List.length_drop, List.length_set] at *; omega)) ?_
 refine gd_ok (by first | omega | exact i64_of (by omega) (by omega) | (simp only [LIM, BIG, List.length_append, List.length_cons, List.length_nil, List.length_map, List.length_take, List.length_drop, List.length_set] at *; omega)) ?_
 refine gd_ok (by first | omega | exact i64_of (by omega) (by omega) | (simp only [LIM, BIG, List.length_append, List.length_cons, List.length_nil, List.length_map, List.length_take, List.length_drop, List.length_set] at *; omega)) ?_
 refine gd_ok (by first | omega | exact i64_of (by omega) (by omega) | (simp only [LIM, BIG, List.length_append, List.length_cons, List.length_nil, List.length_map, List.length_take, List.length_drop, List.length_set] at *; omega)) ?_
 congr 1
 have e2 : i + (l.length - (i + 1)) = l.length - 1 := by omega
 rw [e2]
 have := take_clr (mvl l i (i + 1) (l.length - (i + 1))) (l.length - 1) (l.length - (l.length - 1)) (by rw [ml]; omega)
 rw [Nat.zero_add] at this
 rw [this]
 apply List.ext_getElem?
 intro j
 rw [List.getElem?_take, List.getElem?_eraseIdx]
 by_cases hj : j < l.length - 1
 ·rw [if_pos hj]
  have hj2 : j < l.length := by omega
  simp only [mvl, List.getElem?_map, List.getElem?_range hj2, Option.map_some]
  by_cases hji : j < i
  ·rw [if_pos hji, if_neg (by omega), gl_lt hj2, List.getElem?_eq_getElem hj2]
  ·rw [if_neg hji, if_pos (by omega)]
   have e3 : i + 1 + (j - i) = j + 1 := by omega
   rw [e3, gl_lt (by omega), List.getElem?_eq_getElem (by omega)]
 ·rw [if_neg hj]
  split
  ·rename_i h2
   exact absurd h2 (by omega)
  ·rw [List.getElem?_eq_none (by omega)]
theorem slices_Clone_Rect_ok {F : Nat} {l : List Rect} (hl : l.length ≤ LIM) : slices_Clone_Rect F l = some l := by
 unfold slices_Clone_Rect
 cases h : l with
 | nil =>
  show gdc _ _ = _
  unfold gdc
  exact @gd_ok _ _ (Classical.propDecidable _) _ _ rfl rfl
 | cons a l' =>
  have : (a :: l').length = l'.length + 1 := rfl
  show (gd _ _) = _
  rw [← h]
  refine gd_ok (by first | omega | exact i64_of (by omega) (by omega) | (simp only [LIM, BIG, List.length_append, List.length_cons, List.length_nil, List.length_map, List.length_take, List.length_drop, List.length_set] at *; omega)) ?_
  simp
theorem mid_eq {s : Int} (h0 : 0 ≤ s) (h1 : s ≤ 4000000000000) : (IntKind.wrap .u64 s).fdiv (2 ^ (min ((1 : Int)).toNat (IntKind.bits .u64))) = s / 2 := by
 have e1 : IntKind.wrap .u64 s = s := by
  simp [IntKind.wrap, IntKind.bits, IntKind.signed]; omega
 have e2 : (min ((1 : Int)).toNat (IntKind.bits .u64)) = 1 := by decide
 rw [e1, e2]
 show s.fdiv 2 = s / 2
 rw [Int.fdiv_eq_ediv_of_nonneg _ (by omega)]
theorem slices_BinarySearchFunc_Feature_ok {F : Nat} (hF : BIG ≤ F) {l : List Feature} {x : Feature} {q : Feature → Feature → Option Int} (c : Feature → Int) (hl : l.length ≤ 1000000000) (hq : ∀ r ∈ l, q r x = some (c r)) {at_ : Nat} (hat : at_ ≤ l.length)
  (h1 : ∀ j, j < at_ → c (gl l j) < 0) (h2 : ∀ j, at_ ≤ j → j < l.length → 0 ≤ c (gl l j)) :
  slices_BinarySearchFunc_Feature F l x q = some ((at_ : Int), decide (at_ < l.length) && (c (gl l at_) == 0)) := by
 unfold BIG at hF
 unfold slices_BinarySearchFunc_Feature
 refine loopN_ok (fun z : Int × Int => ∃ i j : Nat, z = ((i : Int), (j : Int)) ∧ i ≤ at_ ∧ at_ ≤ j ∧ j ≤ l.length) (fun z => (z.2 - z.1).toNat) (fun again z hz ih => ?_) ⟨0, l.length, rfl, by omega, by omega, by omega⟩ (by simp; omega)
 obtain ⟨i, j, rfl, hi, hj, hjl⟩ := hz
 simp only at ih ⊢
 unfold slices_BinarySearchFunc_Feature_b0
 rw [mid_eq (by omega) (by omega)]
 refine br_ok (fun h => ?_) (fun h => ?_)
 ·have h : i < j := by simpa using h
  have e : ((i : Int) + (j : Int)) / 2 = (((i + j) / 2 : Nat) : Int) := by omega
  rw [e]
  have hm : (i + j) / 2 < j := by omega
  have hm2 : i ≤ (i + j) / 2 := by omega
  generalize (i + j) / 2 = m at *
  refine gd_ok (by first | omega | exact i64_of (by omega) (by omega) | (simp only [LIM, BIG, List.length_append, List.length_cons, List.length_nil, List.length_map, List.length_take, List.length_drop, List.length_set] at *; omega)) ?_
  refine gd_ok (by first | omega | exact i64_of (by omega) (by omega) | (simp only [LIM, BIG, List.length_append, List.length_cons, List.length_nil, List.length_map, List.length_take, List.length_drop, List.length_set] at *; omega)) ?_
  refine gd_ok (by first | omega | exact i64_of (by omega) (by omega) | (simp only [LIM, BIG, List.length_append, List.length_cons, List.length_nil, List.length_map, List.length_take, List.length_drop, List.length_set] at *; omega)) ?_
  refine gd_ok (by first | omega | exact i64_of (by omega) (by omega) | (simp only [LIM, BIG, List.length_append, List.length_cons, List.length_nil, List.length_map, List.length_take, List.length_drop, List.length_set] at *; omega)) ?_
  simp only [Int.toNat_natCast]
  refine bd_ok (hq _ (gl_mem (by omega))) ?_
  refine br_ok (fun hc => ?_) (fun hc => ?_)
  ·have hc : c (gl l m) < 0 := by simpa using hc
   refine gd_ok (by first | omega | exact i64_of (by omega) (by omega) | (simp only [LIM, BIG, List.length_append, List.length_cons, List.length_nil, List.length_map, List.length_take, List.length_drop, List.length_set] at *; omega)) ?_
   refine ih _ ⟨m + 1, j, rfl, ?_, hj, hjl⟩ (by simp only; omega)
   rcases Nat.lt_or_ge m at_ with h3 | h3
   ·exact h3
   ·have := h2 m h3 (by omega); omega
  ·have hc : ¬ c (gl l m) < 0 := by simpa using hc
   refine ih _ ⟨i, m, rfl, hi, ?_, by omega⟩ (by simp only; omega)
   rcases Nat.lt_or_ge m at_ with h3 | h3
   ·exact absurd (h1 m h3) hc
   ·exact h3
 ·have h : ¬ i < j := by simpa using h
  have : i = at_ := by omega
  subst this
  unfold slices_BinarySearchFunc_Feature_k1 slices_BinarySearchFunc_Feature_k2
  refine br_ok (fun h => ?_) (fun h => ?_)
  ·have h : i < l.length := by simpa using h
   refine gd_ok (by first | omega | exact i64_of (by omega) (by omega) | (simp only [LIM, BIG, List.length_append, List.length_cons, List.length_nil, List.length_map, List.length_take, List.length_drop, List.length_set] at *; omega)) ?_
   simp only [Int.toNat_natCast]
   refine bd_ok (hq _ (gl_mem h)) ?_
   rw [decide_eq_true h]; rfl
  ·have h : ¬ i < l.length := by simpa using h
   rw [decide_eq_false h]; rfl
end Go.Ab
end

section
namespace Go.Ab
set_option maxRecDepth 20000
noncomputable def oneC (f : Feature) : Int :=
 if f.number_ < 1 ∨ 1073741824 < f.number_ then 2 else if f.kind_ < 0 ∨ 15 < f.kind_ then 14 else if f.from_ < 0 ∨ f.until_ ≤ f.from_ ∨ 36865 < f.until_ then 9
 else if f.region_.rects_.length = 0 ∨ valB f.region_.rects_ = false then 7 else 0
theorem ref09_one_ok {F : Nat} (hF : BIG ≤ F) (f : Feature) : ref09_one F f = some (oneC f) := by
 have h3 : ∀ b : Bool, (b = true ↔ f.region_.rects_.length = 0 ∨ valB f.region_.rects_ = false) → ref09_one_k3 F b = some (if f.region_.rects_.length = 0 ∨ valB f.region_.rects_ = false then 7 else 0) := by
  intro b hb
  unfold ref09_one_k3
  refine br_ok (fun h => by rw [if_pos (hb.1 h)]) (fun h => by rw [if_neg fun hh => by rw [hb.2 hh] at h; cases h])
 have h2 : ∀ b : Bool, (b = true ↔ f.from_ < 0 ∨ f.until_ ≤ f.from_ ∨ 36865 < f.until_) → ref09_one_k2 F f b = some (if f.from_ < 0 ∨ f.until_ ≤ f.from_ ∨ 36865 < f.until_ then 9 else if f.region_.rects_.length = 0 ∨ valB f.region_.rects_ = false then 7 else 0) := by
  intro b hb
  unfold ref09_one_k2
  refine br_ok (fun h => by rw [if_pos (hb.1 h)]) (fun h => ?_)
  rw [if_neg fun hh => by rw [hb.2 hh] at h; cases h]
  refine bd_ok (ref04_Valid_ok hF _) ?_
  rw [or_br (ref09_one_k3 F)]
  exact h3 _ (by simp [or_comm])
 have h1 : ∀ b : Bool, (b = true ↔ f.kind_ < 0 ∨ 15 < f.kind_) → ref09_one_k1 F f b = some (if f.kind_ < 0 ∨ 15 < f.kind_ then 14 else if f.from_ < 0 ∨ f.until_ ≤ f.from_ ∨ 36865 < f.until_ then 9 else if f.region_.rects_.length = 0 ∨ valB f.region_.rects_ = false then 7 else 0) := by
  intro b hb
  unfold ref09_one_k1
  refine br_ok (fun h => by rw [if_pos (hb.1 h)]) (fun h => ?_)
  rw [if_neg fun hh => by rw [hb.2 hh] at h; cases h]
  rw [or_br (ref09_one_k2 F f), or_br (ref09_one_k2 F f)]
  exact h2 _ (by simp)
 unfold ref09_one ref09_one_k0 oneC
 rw [or_br (fun b => br b (some (2 : Int)) (br (decide (f.kind_ < (0 : Int))) (ref09_one_k1 F f true) (ref09_one_k1 F f (decide ((15 : Int) < f.kind_)))))]
 refine br_ok (fun h => by rw [if_pos (by simpa using h)]) (fun h => ?_)
 rw [if_neg (by simpa using h), or_br (ref09_one_k1 F f)]
 exact h1 _ (by simp)
theorem feature_single_ok {F : Nat} (hF : BIG ≤ F) (f : Feature) : feature_single F f = some (oneC f) := by
 have h3 : ∀ b : Bool, (b = true ↔ f.region_.rects_.length = 0 ∨ valB f.region_.rects_ = false) → feature_single_k3 F b = some (if f.region_.rects_.length = 0 ∨ valB f.region_.rects_ = false then 7 else 0) := by
  intro b hb
  unfold feature_single_k3
  refine br_ok (fun h => by rw [if_pos (hb.1 h)]) (fun h => by rw [if_neg fun hh => by rw [hb.2 hh] at h; cases h])
 have h2 : ∀ b : Bool, (b = true ↔ f.from_ < 0 ∨ f.until_ ≤ f.from_ ∨ 36865 < f.until_) → feature_single_k2 F f b = some (if f.from_ < 0 ∨ f.until_ ≤ f.from_ ∨ 36865 < f.until_ then 9 else if f.region_.rects_.length = 0 ∨ valB f.region_.rects_ = false then 7 else 0) := by
  intro b hb
  unfold feature_single_k2
  refine br_ok (fun h => by rw [if_pos (hb.1 h)]) (fun h => ?_)
  rw [if_neg fun hh => by rw [hb.2 hh] at h; cases h]
  refine br_ok (fun h0 => ?_) (fun h0 => ?_)
  ·have h0 : f.region_.rects_.length = 0 := by simp at h0; simp [h0]
   exact h3 _ (by simp [h0])
  ·have h0 : f.region_.rects_.length ≠ 0 := by simp at h0; simpa using h0
   exact bd_ok (region_Valid_ok hF _) (h3 _ (by simp [h0]))
 have h1 : ∀ b : Bool, (b = true ↔ f.kind_ < 0 ∨ 15 < f.kind_) → feature_single_k1 F f b = some (if f.kind_ < 0 ∨ 15 < f.kind_ then 14 else if f.from_ < 0 ∨ f.until_ ≤ f.from_ ∨ 36865 < f.until_ then 9 else if f.region_.rects_.length = 0 ∨ valB f.region_.rects_ = false then 7 else 0) := by
  intro b hb
  unfold feature_single_k1
  refine br_ok (fun h => by rw [if_pos (hb.1 h)]) (fun h => ?_)
  rw [if_neg fun hh => by rw [hb.2 hh] at h; cases h]
  rw [or_br (feature_single_k2 F f), or_br (feature_single_k2 F f)]
  exact h2 _ (by simp)
 unfold feature_single feature_single_k0 oneC
 rw [or_br (fun b => br b (some (2 : Int)) (br (decide (f.kind_ < (0 : Int))) (feature_single_k1 F f true) (feature_single_k1 F f (decide ((15 : Int) < f.kind_)))))]
 refine br_ok (fun h => by rw [if_pos (by simpa using h)]) (fun h => ?_)
 rw [if_neg (by simpa using h), or_br (feature_single_k1 F f)]
 exact h1 _ (by simp)
noncomputable def chkGo : Option Int → List Feature → Int
 | _, [] => 0
 | p, f :: l => if oneC f ≠ 0 then oneC f else if p.any (fun n => decide (f.number_ ≤ n)) then 3 else chkGo (some f.number_) l
noncomputable def chkC (l : List Feature) : Int := if 60 < l.length then 1 else chkGo none l
def prevN (l : List Feature) (i : Nat) : Option Int := if i = 0 then none else some (gl l (i - 1)).number_
theorem prevN_succ (l : List Feature) (i : Nat) : prevN l (i + 1) = some (gl l i).number_ := by simp [prevN]
theorem ref09_Check_ok {F : Nat} (hF : BIG ≤ F) (l : List Feature) : ref09_Check F l = some (chkC l) := by
 have hF' := hF
 unfold BIG at hF
 unfold ref09_Check chkC
 refine br_ok (fun h => ?_) (fun h => ?_)
 ·have h : 60 < l.length := by simp at h; omega
  rw [if_pos h]
 ·have h : ¬ 60 < l.length := by simp at h; omega
  rw [if_neg h]
  refine loopN_ok (fun z : Int => ∃ i : Nat, z = i ∧ i ≤ l.length ∧ chkGo none l = chkGo (prevN l i) (l.drop i)) (fun z => l.length - z.toNat) (fun again z hz ih => ?_) ⟨0, rfl, by omega, rfl⟩ (by simp; omega)
  obtain ⟨i, rfl, hi, he⟩ := hz
  unfold ref09_Check_b0
  refine br_ok (fun h2 => ?_) (fun h2 => ?_)
  ·have h2 : i < l.length := by simpa using h2
   rw [drop_gl h2, chkGo] at he
   refine gd_ok (by first | omega | exact i64_of (by omega) (by omega) | (simp only [LIM, BIG, List.length_append, List.length_cons, List.length_nil, List.length_map, List.length_take, List.length_drop, List.length_set] at *; omega)) ?_
   simp only [Int.toNat_natCast]
   refine bd_ok (ref09_one_ok hF' _) ?_
   refine br_ok (fun hb => ?_) (fun hb => ?_)
   ·have hb : oneC (gl l i) ≠ 0 := by simpa using hb
    rw [he, if_pos hb]
   ·have hb : oneC (gl l i) = 0 := by simpa using hb
    rw [if_neg (by simp [hb])] at he
    have hk : ∀ b : Bool, b = (prevN l i).any (fun n => decide ((gl l i).number_ ≤ n)) → ref09_Check_k1 F i again b = some (chkGo none l) := by
     intro b hbb
     unfold ref09_Check_k1
     refine br_ok (fun h3 => ?_) (fun h3 => ?_)
     ·rw [he, if_pos (hbb ▸ h3)]
     ·rw [if_neg (by rw [← hbb, h3]; simp)] at he
      refine gd_ok (by first | omega | exact i64_of (by omega) (by omega) | (simp only [LIM, BIG, List.length_append, List.length_cons, List.length_nil, List.length_map, List.length_take, List.length_drop, List.length_set] at *; omega)) ?_
      refine ih _ ⟨i + 1, by omega, h2, ?_⟩ (by omega)
      rw [he, prevN_succ]
    refine br_ok (fun h0 => ?_) (fun h0 => ?_)
    ·have h0 : 0 < i := by simpa using h0
     refine gd_ok (by first | omega | exact i64_of (by omega) (by omega) | (simp only [LIM, BIG, List.length_append, List.length_cons, List.length_nil, List.length_map, List.length_take, List.length_drop, List.length_set] at *; omega)) ?_
     refine gd_ok (by first | omega | exact i64_of (by omega) (by omega) | (simp only [LIM, BIG, List.length_append, List.length_cons, List.length_nil, List.length_map, List.length_take, List.length_drop, List.length_set] at *; omega)) ?_
     have e1 : ((i : Int) - 1).toNat = i - 1 := by omega
     rw [e1]
     exact hk _ (by simp [prevN, show i ≠ 0 from by omega])
    ·have h0 : i = 0 := by simp at h0; omega
     exact hk _ (by simp [prevN, h0])
  ·have h2 : ¬ i < l.length := by simpa using h2
   rw [List.drop_of_length_le (by omega)] at he
   rw [he]; rfl
theorem feature_Check_ok {F : Nat} (hF : BIG ≤ F) (l : List Feature) : feature_Check F l = some (chkC l) := by
 have hF' := hF
 unfold BIG at hF
 unfold feature_Check chkC
 refine br_ok (fun h => ?_) (fun h => ?_)
 ·have h : 60 < l.length := by simp at h; omega
  rw [if_pos h]
 ·have h : ¬ 60 < l.length := by simp at h; omega
  rw [if_neg h]
  refine loopN_ok (fun z : Int => ∃ i : Nat, z = i ∧ i ≤ l.length ∧ chkGo none l = chkGo (prevN l i) (l.drop i)) (fun z => l.length - z.toNat) (fun again z hz ih => ?_) ⟨0, rfl, by omega, rfl⟩ (by simp; omega)
  obtain ⟨i, rfl, hi, he⟩ := hz
  unfold feature_Check_b0
  refine br_ok (fun h2 => ?_) (fun h2 => ?_)
  ·have h2 : i < l.length := by simpa using h2
   rw [drop_gl h2, chkGo] at he
   refine gd_ok (by first | omega | exact i64_of (by omega) (by omega) | (simp only [LIM, BIG, List.length_append, List.length_cons, List.length_nil, List.length_map, List.length_take, List.length_drop, List.length_set] at *; omega)) ?_
   simp only [Int.toNat_natCast]
   refine bd_ok (feature_single_ok hF' _) ?_
   refine br_ok (fun hb => ?_) (fun hb => ?_)
   ·have hb : oneC (gl l i) ≠ 0 := by simpa using hb
    rw [he, if_pos hb]
   ·have hb : oneC (gl l i) = 0 := by simpa using hb
    rw [if_neg (by simp [hb])] at he
    have hk : ∀ b : Bool, b = (prevN l i).any (fun n => decide ((gl l i).number_ ≤ n)) → feature_Check_k1 F i again b = some (chkGo none l) := by
     intro b hbb
     unfold feature_Check_k1
     refine br_ok (fun h3 => ?_) (fun h3 => ?_)
     ·rw [he, if_pos (hbb ▸ h3)]
     ·rw [if_neg (by rw [← hbb, h3]; simp)] at he
      refine gd_ok (by first | omega | exact i64_of (by omega) (by omega) | (simp only [LIM, BIG, List.length_append, List.length_cons, List.length_nil, List.length_map, List.length_take, List.length_drop, List.length_set] at *; omega)) ?_
      refine ih _ ⟨i + 1, by omega, h2, ?_⟩ (by omega)
      rw [he, prevN_succ]
    refine br_ok (fun h0 => ?_) (fun h0 => ?_)
    ·have h0 : 0 < i := by simpa using h0
     refine gd_ok (by first | omega | exact i64_of (by omega) (by omega) | (simp only [LIM, BIG, List.length_append, List.length_cons, List.length_nil, List.length_map, List.length_take, List.length_drop, List.length_set] at *; omega)) ?_
     refine gd_ok (by first | omega | exact i64_of (by omega) (by omega) | (simp only [LIM, BIG, List.length_append, List.length_cons, List.length_nil, List.length_map, List.length_take, List.length_drop, List.length_set] at *; omega)) ?_
     have e1 : ((i : Int) - 1).toNat = i - 1 := by omega
     rw [e1]
     exact hk _ (by simp [prevN, show i ≠ 0 from by omega])
    ·have h0 : i = 0 := by simp at h0; omega
     exact hk _ (by simp [prevN, h0])
  ·have h2 : ¬ i < l.length := by simpa using h2
   rw [List.drop_of_length_le (by omega)] at he
   rw [he]; rfl
structure VL (l : List Feature) : Prop where
 len : l.length ≤ 60
 one : ∀ f ∈ l, oneC f = 0
 asc : l.Pairwise fun f g => f.number_ < g.number_
theorem chkGo_zero : ∀ (l : List Feature) (p : Option Int), chkGo p l = 0 ↔ (∀ f ∈ l, oneC f = 0) ∧ l.Pairwise (fun f g => f.number_ < g.number_) ∧ ∀ n, p = some n → ∀ f ∈ l, n < f.number_
 | [], p => by simp [chkGo]
 | f :: l, p => by
  have ih := chkGo_zero l (some f.number_)
  unfold chkGo
  by_cases h1 : oneC f = 0
  ·rw [if_neg (by simp [h1])]
   by_cases h2 : p.any (fun n => decide (f.number_ ≤ n)) = true
   ·rw [if_pos h2]
    constructor
    ·intro h; cases h
    ·rintro ⟨_, _, h⟩
     cases p with
     | none => simp at h2
     | some n =>
      have h2 : f.number_ ≤ n := by simpa using h2
      have := h n rfl f (by simp)
      omega
   ·rw [if_neg h2, ih]
    constructor
    ·rintro ⟨a, b, c⟩
     refine ⟨fun g hg => ?_, List.pairwise_cons.2 ⟨fun g hg => c _ rfl g hg, b⟩, fun n hn g hg => ?_⟩
     ·rcases List.mem_cons.1 hg with rfl | hg
      ·exact h1
      ·exact a g hg
     ·subst hn
      have h2 : n < f.number_ := by simpa using h2
      rcases List.mem_cons.1 hg with rfl | hg
      ·exact h2
      ·have := c _ rfl g hg; omega
    ·rintro ⟨a, b, c⟩
     obtain ⟨b1, b2⟩ := List.pairwise_cons.1 b
     exact ⟨fun g hg => a g (by simp [hg]), b2, fun n hn g hg => by cases hn; exact b1 g hg⟩
  ·rw [if_pos h1]
   constructor
   ·intro h; exact absurd h h1
   ·rintro ⟨a, _, _⟩; exact absurd (a f (by simp)) h1
theorem chkC_zero (l : List Feature) : chkC l = 0 ↔ VL l := by
 unfold chkC
 by_cases h : 60 < l.length
 ·rw [if_pos h]
  exact ⟨fun h => (by cases h), fun hv => by have := hv.len; omega⟩
 ·rw [if_neg h, chkGo_zero]
  exact ⟨fun ⟨a, b, _⟩ => ⟨by omega, a, b⟩, fun hv => ⟨hv.one, hv.asc, fun n hn => by cases hn⟩⟩
theorem oneC_zero (f : Feature) : oneC f = 0 ↔ 1 ≤ f.number_ ∧ f.number_ ≤ 1073741824 ∧ 0 ≤ f.kind_ ∧ f.kind_ ≤ 15 ∧ 0 ≤ f.from_ ∧ f.from_ < f.until_ ∧ f.until_ ≤ 36865 ∧ f.region_.rects_.length ≠ 0 ∧ Val f.region_.rects_ := by
 unfold oneC
 rw [← valB_iff]
 by_cases h1 : f.number_ < 1 ∨ 1073741824 < f.number_
 ·rw [if_pos h1]; simp; omega
 ·rw [if_neg h1]
  by_cases h2 : f.kind_ < 0 ∨ 15 < f.kind_
  ·rw [if_pos h2]; simp; omega
  ·rw [if_neg h2]
   by_cases h3 : f.from_ < 0 ∨ f.until_ ≤ f.from_ ∨ 36865 < f.until_
   ·rw [if_pos h3]; simp; omega
   ·rw [if_neg h3]
    by_cases h4 : f.region_.rects_.length = 0 ∨ valB f.region_.rects_ = false
    ·rw [if_pos h4]
     constructor
     ·intro h; cases h
     ·rintro ⟨_, _, _, _, _, _, _, h5, h6⟩
      rcases h4 with h4 | h4
      ·exact absurd h4 h5
      ·rw [h6] at h4; cases h4
    ·rw [if_neg h4]
     refine ⟨fun _ => ?_, fun _ => rfl⟩
     have h5 : f.region_.rects_.length ≠ 0 := fun h => h4 (.inl h)
     have h6 : valB f.region_.rects_ = true := by
      cases hv : valB f.region_.rects_ with
      | true => rfl
      | false => exact absurd (.inr hv) h4
     refine ⟨by omega, by omega, by omega, by omega, by omega, by omega, by omega, h5, h6⟩
theorem feature_copied_ok {F : Nat} {f : Feature} (h : f.region_.rects_.length ≤ LIM) : feature_copied F f = some f := by
 unfold feature_copied
 exact bd_ok (slices_Clone_Rect_ok h) rfl
theorem VL.rlen {l : List Feature} (h : VL l) {f : Feature} (hf : f ∈ l) : f.region_.rects_.length ≤ 120 := ((oneC_zero f).1 (h.one f hf)).2.2.2.2.2.2.2.2.1
theorem feature_all_ok {F : Nat} (hF : BIG ≤ F) {l : List Feature} (h : VL l) : feature_all F l = some l := by
 unfold BIG at hF
 have hlen := h.len
 unfold feature_all
 refine loopN_ok (fun z : Int × List Feature => ∃ i : Nat, z = ((i : Int), l.take i) ∧ i ≤ l.length) (fun z => l.length - z.1.toNat) (fun again z hz ih => ?_) ⟨0, rfl, by omega⟩ (by simp only; omega)
 obtain ⟨i, rfl, hi⟩ := hz
 simp only at ih ⊢
 unfold feature_all_b0
 refine br_ok (fun h2 => ?_) (fun h2 => ?_)
 ·have h2 : i < l.length := by simpa using h2
  refine gd_ok (by first | omega | exact i64_of (by omega) (by omega) | (simp only [LIM, BIG, List.length_append, List.length_cons, List.length_nil, List.length_map, List.length_take, List.length_drop, List.length_set] at *; omega)) ?_
  simp only [Int.toNat_natCast]
  refine bd_ok (feature_copied_ok (by have := h.rlen (gl_mem h2); unfold LIM; omega)) ?_
  refine gd_ok (by first | omega | exact i64_of (by omega) (by omega) | (simp only [LIM, BIG, List.length_append, List.length_cons, List.length_nil, List.length_map, List.length_take, List.length_drop, List.length_set] at *; omega)) ?_
  refine gd_ok (by first | omega | exact i64_of (by omega) (by omega) | (simp only [LIM, BIG, List.length_append, List.length_cons, List.length_nil, List.length_map, List.length_take, List.length_drop, List.length_set] at *; omega)) ?_
  exact ih _ ⟨i + 1, by rw [take_gl h2]; rfl, h2⟩ (by simp only; omega)
 ·have h2 : ¬ i < l.length := by simpa using h2
  unfold feature_all_k1
  rw [List.take_of_length_le (by omega)]
def thereB (f : Feature) (d : Int) : Bool := decide (f.from_ ≤ d) && decide (d < f.until_)
theorem feature_there_ok (F : Nat) (f : Feature) (d : Int) : feature_there F f d = some (thereB f d) := by
 unfold feature_there
 rw [and_br (feature_there_k0 F)]; rfl
theorem feature_right_ok {F : Nat} (hF : BIG ≤ F) (l : List Feature) (d : Int) : feature_right F l d = some (if chkC l ≠ 0 then chkC l else if d < 0 ∨ 36864 < d then 9 else 0) := by
 unfold feature_right
 refine bd_ok (feature_Check_ok hF l) ?_
 refine br_ok (fun h => ?_) (fun h => ?_)
 ·have h : chkC l ≠ 0 := by simpa using h
  rw [if_pos h]
 ·have h : chkC l = 0 := by simpa using h
  rw [if_neg (by simp [h]), or_br (feature_right_k0 F)]
  unfold feature_right_k0
  refine br_ok (fun h => ?_) (fun h => ?_)
  ·rw [if_pos (by simpa using h)]
  ·rw [if_neg (by simpa using h)]
theorem feature_On_ok {F : Nat} (hF : BIG ≤ F) (l : List Feature) (d : Int) : feature_On F l d = some (if chkC l ≠ 0 then ([], chkC l) else if d < 0 ∨ 36864 < d then ([], 9) else (l.filter fun f => thereB f d, 0)) := by
 unfold feature_On
 refine bd_ok (feature_right_ok hF l d) ?_
 by_cases h : chkC l = 0
 ·simp only [h, ne_eq, not_true_eq_false, if_false]
  by_cases h2 : d < 0 ∨ 36864 < d
  ·simp only [h2, if_true]
   exact br_tt rfl rfl
  ·simp only [h2, if_false]
   refine br_ff rfl ?_
   have hv := (chkC_zero l).1 h
   refine bd_ok (feature_all_ok hF hv) ?_
   have hlen := hv.len
   refine bd_ok (slices_DeleteFunc_Feature_ok hF (fun f => !thereB f d) (by omega) (fun f _ => by unfold feature_On_1; rw [feature_there_ok]; rfl)) ?_
   simp
 ·have e : (if chkC l ≠ 0 then chkC l else if d < 0 ∨ 36864 < d then 9 else 0) = chkC l := if_pos h
  rw [e, if_pos h]
  refine br_tt (by simpa using h) rfl
theorem feature_compare_ok (F : Nat) (f g : Feature) : feature_compare F f g = some (if f.number_ < g.number_ then -1 else if g.number_ < f.number_ then 1 else 0) := by
 unfold feature_compare
 rw [cmp_Compare_int_ok]; rfl
def lessN (l : List Feature) (n : Int) : Nat := l.countP fun f => decide (f.number_ < n)
theorem lessN_spec {l : List Feature} (h : l.Pairwise fun f g => f.number_ < g.number_) (n : Int) : lessN l n ≤ l.length ∧ (∀ j, j < lessN l n → (gl l j).number_ < n) ∧ ∀ j, lessN l n ≤ j → j < l.length → n ≤ (gl l j).number_ := by
 induction l with
 | nil => exact ⟨Nat.le_refl _, fun j hj => by simp [lessN] at hj, fun j _ hj => by simp at hj⟩
 | cons f l ih =>
  obtain ⟨h1, h2⟩ := List.pairwise_cons.1 h
  obtain ⟨a, b, c⟩ := ih h2
  by_cases hf : f.number_ < n
  ·have e : lessN (f :: l) n = lessN l n + 1 := by simp [lessN, hf]
   rw [e]
   refine ⟨by simp; exact a, fun j hj => ?_, fun j hj hjl => ?_⟩
   ·cases j with
    | zero => exact hf
    | succ j => exact b j (by omega)
   ·cases j with
    | zero => omega
    | succ j => exact c j (by omega) (by simpa using hjl)
  ·have hz : lessN l n = 0 := by
    unfold lessN
    rw [List.countP_eq_zero]
    intro g hg
    have := h1 g hg
    simp; omega
   have e : lessN (f :: l) n = 0 := by
    have : lessN (f :: l) n = lessN l n := by simp [lessN, hf]
    rw [this, hz]
   rw [e]
   refine ⟨Nat.zero_le _, fun j hj => by omega, fun j _ hjl => ?_⟩
   cases j with
   | zero => show n ≤ f.number_; omega
   | succ j => exact c j (by omega) (by simpa using hjl)
noncomputable def endC (l : List Feature) (n d : Int) : List Feature × Int :=
 if chkC l ≠ 0 then ([], chkC l) else if ¬ (lessN l n < l.length ∧ (gl l (lessN l n)).number_ = n) then ([], 10) else if thereB (gl l (lessN l n)) d = false then ([], 9)
 else if (gl l (lessN l n)).from_ = d then (l.eraseIdx (lessN l n), 0) else (l.set (lessN l n) { gl l (lessN l n) with until_ := d }, 0)
theorem feature_End_ok {F : Nat} (hF : BIG ≤ F) (l : List Feature) (n d : Int) : feature_End F l n d = some (endC l n d) := by
 have hF' := hF
 unfold BIG at hF
 unfold feature_End endC
 refine bd_ok (feature_Check_ok hF' l) ?_
 by_cases h : chkC l = 0
 ·rw [h]
  refine br_ff rfl ?_
  simp only [ne_eq, not_true_eq_false, if_false]
  have hv := (chkC_zero l).1 h
  have hlen := hv.len
  obtain ⟨a, b, c⟩ := lessN_spec hv.asc n
  generalize lessN l n = k at *
  refine bd_ok (slices_BinarySearchFunc_Feature_ok hF' (x := ⟨n, 0, 0, 0, ⟨[]⟩⟩) (fun f => if f.number_ < n then -1 else if n < f.number_ then 1 else 0) (by omega) (fun f _ => feature_compare_ok F f _) a (fun j hj => by simp [b j hj]) (fun j hj hjl => by
   have := c j hj hjl
   simp only [show ¬ (gl l j).number_ < n from by omega, if_false]
   split <;> omega)) ?_
  simp only
  by_cases hk : k < l.length ∧ (gl l k).number_ = n
  ·have e1 : (decide (k < l.length) && ((if (gl l k).number_ < n then (-1 : Int) else if n < (gl l k).number_ then 1 else 0) == 0)) = true := by
    simp [hk.1, hk.2]
   rw [e1]
   refine br_ff rfl ?_
   simp only [Int.toNat_natCast]
   have hk1 := hk.1
   refine gd_ok (by first | omega | exact i64_of (by omega) (by omega) | (simp only [LIM, BIG, List.length_append, List.length_cons, List.length_nil, List.length_map, List.length_take, List.length_drop, List.length_set] at *; omega)) ?_
   refine bd_ok (feature_there_ok _ _ _) ?_
   rw [if_neg (by simp [hk])]
   cases ht : thereB (gl l k) d with
   | false =>
    refine br_tt rfl ?_
    rw [if_pos rfl]
   | true =>
    refine br_ff rfl ?_
    rw [if_neg (by simp)]
    refine bd_ok (feature_all_ok hF' hv) ?_
    refine gd_ok (by first | omega | exact i64_of (by omega) (by omega) | (simp only [LIM, BIG, List.length_append, List.length_cons, List.length_nil, List.length_map, List.length_take, List.length_drop, List.length_set] at *; omega)) ?_
    by_cases hf : (gl l k).from_ = d
    ·refine br_tt (by simpa using hf) ?_
     rw [if_pos hf]
     refine gd_ok (by first | omega | exact i64_of (by omega) (by omega) | (simp only [LIM, BIG, List.length_append, List.length_cons, List.length_nil, List.length_map, List.length_take, List.length_drop, List.length_set] at *; omega)) ?_
     exact bd_ok (slices_Delete_Feature_one hk1) rfl
    ·refine br_ff (by simpa using hf) ?_
     rw [if_neg hf]
     refine gd_ok (by first | omega | exact i64_of (by omega) (by omega) | (simp only [LIM, BIG, List.length_append, List.length_cons, List.length_nil, List.length_map, List.length_take, List.length_drop, List.length_set] at *; omega)) ?_
     rfl
  ·have e1 : (decide (k < l.length) && ((if (gl l k).number_ < n then (-1 : Int) else if n < (gl l k).number_ then 1 else 0) == 0)) = false := by
    by_cases hk1 : k < l.length
    ·have := c k (Nat.le_refl _) hk1
     have h3 : (gl l k).number_ ≠ n := fun e => hk ⟨hk1, e⟩
     have h4 : ¬ (gl l k).number_ < n := by omega
     have h5 : n < (gl l k).number_ := by omega
     simp [hk1, h4, h5]
    ·simp [hk1]
   rw [e1, if_pos hk]
   exact br_tt rfl rfl
 ·rw [if_pos h]
  exact br_tt (by simpa using h) rfl
theorem ref04_Same_ok {F : Nat} (hF : BIG ≤ F) {a b : Region} (h : b.rects_.length ≤ LIM) : ref04_Same F a b = some (decide (a.rects_ = b.rects_)) := by
 unfold ref04_Same
 exact bd_ok (ref04_Rects_ok hF h) rfl
theorem feature_eq (f g : Feature) : decide (f = g) = (decide (f.number_ = g.number_) && (decide (f.kind_ = g.kind_) && (decide (f.from_ = g.from_) && (decide (f.until_ = g.until_) && decide (f.region_.rects_ = g.region_.rects_))))) := by
 obtain ⟨a, b, c, d, ⟨e⟩⟩ := f
 obtain ⟨a', b', c', d', ⟨e'⟩⟩ := g
 rw [Bool.eq_iff_iff, decide_eq_true_iff]
 simp only [Bool.and_eq_true, decide_eq_true_iff, Feature.mk.injEq, Region.mk.injEq]
theorem ne_dec (a b : Int) : (a != b) = !decide (a = b) := by
 rw [Bool.eq_iff_iff]; simp
theorem ref09_Same_ok {F : Nat} (hF : BIG ≤ F) {l m : List Feature} (hm : m.length ≤ LIM) (hr : ∀ f ∈ m, f.region_.rects_.length ≤ LIM) : ref09_Same F l m = some (decide (l = m)) := by
 have hF' := hF
 unfold BIG at hF; unfold LIM at hm
 unfold ref09_Same
 refine br_ok (fun h => ?_) (fun h => ?_)
 ·have h : l.length ≠ m.length := by simp at h; omega
  rw [decide_eq_false fun e => h (by rw [e])]
 ·have h : l.length = m.length := by simp at h; omega
  refine loopN_ok (fun z : Int => ∃ i : Nat, z = i ∧ i ≤ l.length ∧ decide (l = m) = decide (l.drop i = m.drop i)) (fun z => l.length - z.toNat) (fun again z hz ih => ?_) ⟨0, rfl, by omega, by simp⟩ (by simp; omega)
  obtain ⟨i, rfl, hi, he⟩ := hz
  unfold ref09_Same_b0
  refine br_ok (fun h2 => ?_) (fun h2 => ?_)
  ·have h2 : i < l.length := by simpa using h2
   have h3 : i < m.length := by omega
   rw [list_eq_spec l m h i h2, feature_eq] at he
   simp only [ne_dec, Int.toNat_natCast]
   have hk1 : ∀ b : Bool, b = (!(decide ((gl l i).number_ = (gl m i).number_) && (decide ((gl l i).kind_ = (gl m i).kind_) && (decide ((gl l i).from_ = (gl m i).from_) && (decide ((gl l i).until_ = (gl m i).until_) && decide ((gl l i).region_.rects_ = (gl m i).region_.rects_)))))) →
     ref09_Same_k1 F i again b = some (decide (l = m)) := by
    intro b hb
    unfold ref09_Same_k1
    refine br_ok (fun hc => ?_) (fun hc => ?_)
    ·rw [hc] at hb
     have hb : (decide ((gl l i).number_ = (gl m i).number_) && (decide ((gl l i).kind_ = (gl m i).kind_) && (decide ((gl l i).from_ = (gl m i).from_) && (decide ((gl l i).until_ = (gl m i).until_) && decide ((gl l i).region_.rects_ = (gl m i).region_.rects_))))) = false := by
      cases hx : (decide ((gl l i).number_ = (gl m i).number_) && (decide ((gl l i).kind_ = (gl m i).kind_) && (decide ((gl l i).from_ = (gl m i).from_) && (decide ((gl l i).until_ = (gl m i).until_) && decide ((gl l i).region_.rects_ = (gl m i).region_.rects_))))) with
      | false => rfl
      | true => rw [hx] at hb; cases hb
     rw [he, hb]; rfl
    ·rw [hc] at hb
     have hb : (decide ((gl l i).number_ = (gl m i).number_) && (decide ((gl l i).kind_ = (gl m i).kind_) && (decide ((gl l i).from_ = (gl m i).from_) && (decide ((gl l i).until_ = (gl m i).until_) && decide ((gl l i).region_.rects_ = (gl m i).region_.rects_))))) = true := by
      cases hx : (decide ((gl l i).number_ = (gl m i).number_) && (decide ((gl l i).kind_ = (gl m i).kind_) && (decide ((gl l i).from_ = (gl m i).from_) && (decide ((gl l i).until_ = (gl m i).until_) && decide ((gl l i).region_.rects_ = (gl m i).region_.rects_))))) with
      | true => rfl
      | false => rw [hx] at hb; cases hb
     rw [hb, Bool.true_and] at he
     refine gd_ok (by first | omega | exact i64_of (by omega) (by omega) | (simp only [LIM, BIG, List.length_append, List.length_cons, List.length_nil, List.length_map, List.length_take, List.length_drop, List.length_set] at *; omega)) ?_
     exact ih _ ⟨i + 1, by omega, h2, he⟩ (by omega)
   refine gd_ok (by first | omega | exact i64_of (by omega) (by omega) | (simp only [LIM, BIG, List.length_append, List.length_cons, List.length_nil, List.length_map, List.length_take, List.length_drop, List.length_set] at *; omega)) ?_
   refine gd_ok (by first | omega | exact i64_of (by omega) (by omega) | (simp only [LIM, BIG, List.length_append, List.length_cons, List.length_nil, List.length_map, List.length_take, List.length_drop, List.length_set] at *; omega)) ?_
   refine br_ok (fun hb => hk1 _ ?_) (fun hb => ?_)
   ·have hb : decide ((gl l i).number_ = (gl m i).number_) = false := by simpa using hb
    rw [hb]; rfl
   have n1 : decide ((gl l i).number_ = (gl m i).number_) = true := by simpa using hb
   refine gd_ok (by first | omega | exact i64_of (by omega) (by omega) | (simp only [LIM, BIG, List.length_append, List.length_cons, List.length_nil, List.length_map, List.length_take, List.length_drop, List.length_set] at *; omega)) ?_
   refine gd_ok (by first | omega | exact i64_of (by omega) (by omega) | (simp only [LIM, BIG, List.length_append, List.length_cons, List.length_nil, List.length_map, List.length_take, List.length_drop, List.length_set] at *; omega)) ?_
   refine br_ok (fun hb => hk1 _ ?_) (fun hb => ?_)
   ·have hb : decide ((gl l i).kind_ = (gl m i).kind_) = false := by simpa using hb
    rw [n1, hb]; rfl
   have n2 : decide ((gl l i).kind_ = (gl m i).kind_) = true := by simpa using hb
   refine gd_ok (by first | omega | exact i64_of (by omega) (by omega) | (simp only [LIM, BIG, List.length_append, List.length_cons, List.length_nil, List.length_map, List.length_take, List.length_drop, List.length_set] at *; omega)) ?_
   refine gd_ok (by first | omega | exact i64_of (by omega) (by omega) | (simp only [LIM, BIG, List.length_append, List.length_cons, List.length_nil, List.length_map, List.length_take, List.length_drop, List.length_set] at *; omega)) ?_
   refine br_ok (fun hb => hk1 _ ?_) (fun hb => ?_)
   ·have hb : decide ((gl l i).from_ = (gl m i).from_) = false := by simpa using hb
    rw [n1, n2, hb]; rfl
   have n3 : decide ((gl l i).from_ = (gl m i).from_) = true := by simpa using hb
   refine gd_ok (by first | omega | exact i64_of (by omega) (by omega) | (simp only [LIM, BIG, List.length_append, List.length_cons, List.length_nil, List.length_map, List.length_take, List.length_drop, List.length_set] at *; omega)) ?_
   refine gd_ok (by first | omega | exact i64_of (by omega) (by omega) | (simp only [LIM, BIG, List.length_append, List.length_cons, List.length_nil, List.length_map, List.length_take, List.length_drop, List.length_set] at *; omega)) ?_
   refine br_ok (fun hb => hk1 _ ?_) (fun hb => ?_)
   ·have hb : decide ((gl l i).until_ = (gl m i).until_) = false := by simpa using hb
    rw [n1, n2, n3, hb]; rfl
   have n4 : decide ((gl l i).until_ = (gl m i).until_) = true := by simpa using hb
   refine gd_ok (by first | omega | exact i64_of (by omega) (by omega) | (simp only [LIM, BIG, List.length_append, List.length_cons, List.length_nil, List.length_map, List.length_take, List.length_drop, List.length_set] at *; omega)) ?_
   refine gd_ok (by first | omega | exact i64_of (by omega) (by omega) | (simp only [LIM, BIG, List.length_append, List.length_cons, List.length_nil, List.length_map, List.length_take, List.length_drop, List.length_set] at *; omega)) ?_
   refine bd_ok (ref04_Same_ok hF' (hr _ (gl_mem h3))) ?_
   exact hk1 _ (by rw [n1, n2, n3, n4]; rfl)
  ·have h2 : ¬ i < l.length := by simpa using h2
   rw [he, List.drop_of_length_le (by omega), List.drop_of_length_le (by omega), decide_eq_true rfl]; rfl
end Go.Ab
end

section
namespace Go.Ab
set_option maxRecDepth 20000
structure TOk (t : Tape) : Prop where
 at_ : 0 ≤ t.at_
 len : t.l_.length ≤ 400
theorem keep_Mod_ok {F : Nat} (a : Int) {n : Int} (h1 : 1 ≤ n) (h2 : n ≤ 1099511627776) : ∃ k, keep_Mod F a n = some k ∧ 0 ≤ k ∧ k < n := by
 have b1 := Int.tmod_lt_of_pos a (show 0 < n by omega)
 have b2 := Int.lt_tmod_of_pos a (show 0 < n by omega)
 unfold keep_Mod
 generalize a.tmod n = m at *
 by_cases h : m < 0
 ·refine ⟨m + n, ?_, by omega, by omega⟩
  refine br_ff (by simp; omega) ?_
  refine gd_ok (by first | omega | exact i64_of (by omega) (by omega) | (simp only [LIM, BIG, List.length_append, List.length_cons, List.length_nil, List.length_map, List.length_take, List.length_drop, List.length_set] at *; omega)) ?_
  refine br_tt (by simpa using h) ?_
  refine gd_ok (by first | omega | exact i64_of (by omega) (by omega) | (simp only [LIM, BIG, List.length_append, List.length_cons, List.length_nil, List.length_map, List.length_take, List.length_drop, List.length_set] at *; omega)) ?_
  rfl
 ·refine ⟨m, ?_, by omega, by omega⟩
  refine br_ff (by simp; omega) ?_
  refine gd_ok (by first | omega | exact i64_of (by omega) (by omega) | (simp only [LIM, BIG, List.length_append, List.length_cons, List.length_nil, List.length_map, List.length_take, List.length_drop, List.length_set] at *; omega)) ?_
  exact br_ff (by simpa using h) rfl
theorem keep_Tape_Next_ok {F : Nat} {t : Tape} (ht : TOk t) {n : Int} (h1 : 1 ≤ n) (h2 : n ≤ 1099511627776) : ∃ t' k, keep_Tape_Next F t n = some (t', k) ∧ TOk t' ∧ 0 ≤ k ∧ k < n := by
 obtain ⟨a, b⟩ := ht
 unfold keep_Tape_Next
 by_cases h : (t.l_.length : Int) ≤ t.at_
 ·exact ⟨t, 0, br_tt (by simpa using h) rfl, ⟨a, b⟩, by omega, by omega⟩
 ·obtain ⟨k, hk, k1, k2⟩ := keep_Mod_ok (F := F) (gl t.l_ ((t.at_ + 1) - 1).toNat) h1 h2
  refine ⟨⟨t.l_, t.at_ + 1⟩, k, ?_, ⟨by simp only; omega, b⟩, k1, k2⟩
  refine br_ff (by simpa using h) ?_
  refine gd_ok (by first | omega | exact i64_of (by omega) (by omega) | (simp only [LIM, BIG, List.length_append, List.length_cons, List.length_nil, List.length_map, List.length_take, List.length_drop, List.length_set] at *; omega)) ?_
  refine gd_ok (by first | omega | exact i64_of (by omega) (by omega) | (simp only [LIM, BIG, List.length_append, List.length_cons, List.length_nil, List.length_map, List.length_take, List.length_drop, List.length_set] at *; omega)) ?_
  refine gd_ok (by first | omega | exact i64_of (by omega) (by omega) | (simp only [LIM, BIG, List.length_append, List.length_cons, List.length_nil, List.length_map, List.length_take, List.length_drop, List.length_set] at *; omega)) ?_
  exact bd_ok hk rfl
theorem keep_Tape_Range_ok {F : Nat} {t : Tape} (ht : TOk t) {lo hi : Int} (h1 : lo ≤ hi) (h0 : -1099511627 ≤ lo) (h2 : hi ≤ 1099511627) : ∃ t' k, keep_Tape_Range F t lo hi = some (t', k) ∧ TOk t' ∧ lo ≤ k ∧ k ≤ hi := by
 obtain ⟨t', k, hk, a, b, c⟩ := keep_Tape_Next_ok (F := F) ht (n := (hi - lo) + 1) (by omega) (by omega)
 refine ⟨t', lo + k, ?_, a, by omega, by omega⟩
 unfold keep_Tape_Range
 refine gd_ok (by first | omega | exact i64_of (by omega) (by omega) | (simp only [LIM, BIG, List.length_append, List.length_cons, List.length_nil, List.length_map, List.length_take, List.length_drop, List.length_set] at *; omega)) ?_
 refine gd_ok (by first | omega | exact i64_of (by omega) (by omega) | (simp only [LIM, BIG, List.length_append, List.length_cons, List.length_nil, List.length_map, List.length_take, List.length_drop, List.length_set] at *; omega)) ?_
 refine bd_ok hk ?_
 refine gd_ok (by first | omega | exact i64_of (by omega) (by omega) | (simp only [LIM, BIG, List.length_append, List.length_cons, List.length_nil, List.length_map, List.length_take, List.length_drop, List.length_set] at *; omega)) ?_
 rfl
def Box (n : Int) (l : List Rect) : Prop := ∀ r ∈ l, 0 ≤ r.left_ ∧ r.left_ < r.right_ ∧ r.right_ ≤ n ∧ 0 ≤ r.low_ ∧ r.low_ < r.high_ ∧ r.high_ ≤ n
theorem Box.prop {n : Int} {l : List Rect} (h : Box n l) (hn : n ≤ 16384) : ∀ r ∈ l, propB r = true := fun r hr => (propB_iff r).2 (by have := h r hr; omega)
theorem Box.in {n : Int} {l : List Rect} (h : Box n l) {x y : Int} (hx : inR l x y = true) : 0 ≤ x ∧ x < n ∧ 0 ≤ y ∧ y < n := by
 obtain ⟨r, hr, h2⟩ := List.any_eq_true.1 hx
 rw [has_iff] at h2
 have := h r hr
 omega
theorem flat_mem {l : List (Rn (List Span))} {r : Rect} (h : r ∈ flat l) : ∃ b ∈ l, ∃ s ∈ b.v, r = ⟨s.left_, b.lo, s.right_, b.hi⟩ := by
 obtain ⟨b, hb, h2⟩ := List.mem_flatMap.1 h
 obtain ⟨s, hs, rfl⟩ := List.mem_map.1 h2
 exact ⟨b, hb, s, hs, rfl⟩
theorem Canon.pos {l : List Rect} (h : Canon l) {r : Rect} (hr : r ∈ l) : r.left_ < r.right_ ∧ r.low_ < r.high_ := by
 obtain ⟨b, hb, rfl⟩ := h
 obtain ⟨c, hc, s, hs, rfl⟩ := flat_mem hr
 exact ⟨(hb.sp c hc).pos s hs, hb.runs.pos c hc⟩
theorem inR_mem {l : List Rect} {r : Rect} (hr : r ∈ l) {x y : Int} (h : r.has x y = true) : inR l x y = true := List.any_eq_true.2 ⟨r, hr, h⟩
theorem Canon.box {l : List Rect} (h : Canon l) {n : Int} (hn : ∀ x y, inR l x y = true → 0 ≤ x ∧ x < n ∧ 0 ≤ y ∧ y < n) : Box n l := by
 intro r hr
 obtain ⟨h1, h2⟩ := h.pos hr
 have a := hn r.left_ r.low_ (inR_mem hr ((has_iff _ _ _).2 (by omega)))
 have b := hn (r.right_ - 1) (r.high_ - 1) (inR_mem hr ((has_iff _ _ _).2 (by omega)))
 omega
theorem box_cn {S : Int → Int → Bool} (hf : Fin S) {n : Int} (hn : ∀ x y, S x y = true → 0 ≤ x ∧ x < n ∧ 0 ≤ y ∧ y < n) : Box n (cn S) :=
 (Canon.cn hf).box fun x y h => hn x y (by rwa [inR_cn hf] at h)
theorem canon_nil : Canon [] := ⟨[], ⟨.nil, fun b hb => (List.not_mem_nil hb).elim, fun b hb => (List.not_mem_nil hb).elim⟩, rfl⟩
theorem canon_one {r : Rect} (h1 : r.left_ < r.right_) (h2 : r.low_ < r.high_) : Canon [r] :=
 ⟨[⟨r.low_, r.high_, [⟨r.left_, r.right_⟩]⟩], ⟨⟨fun b hb => by rw [List.mem_singleton.1 hb]; exact h2, List.pairwise_singleton _ _⟩, fun b hb => by
  rw [List.mem_singleton.1 hb]
  exact ⟨fun s hs => by rw [List.mem_singleton.1 hs]; exact h1, List.pairwise_singleton _ _⟩, fun b hb => by rw [List.mem_singleton.1 hb]; simp⟩, rfl⟩
theorem box_nil (n : Int) : Box n [] := fun r hr => (List.not_mem_nil hr).elim
theorem Val.nil : Val [] := ⟨by simp, fun r hr => (List.not_mem_nil hr).elim, canon_nil⟩
theorem keep_Tape_Rect_ok {F : Nat} {t : Tape} (ht : TOk t) {n : Int} (h1 : 1 ≤ n) (h2 : n ≤ 16384) : ∃ t' r, keep_Tape_Rect F t n = some (t', r) ∧ TOk t' ∧ Box n [r] := by
 obtain ⟨t1, x, e1, o1, x1, x2⟩ := keep_Tape_Next_ok (F := F) ht (n := n) (by omega) (by omega)
 obtain ⟨t2, y, e2, o2, y1, y2⟩ := keep_Tape_Next_ok (F := F) o1 (n := n) (by omega) (by omega)
 obtain ⟨t3, u, e3, o3, u1, u2⟩ := keep_Tape_Next_ok (F := F) o2 (n := n - x) (by omega) (by omega)
 obtain ⟨t4, v, e4, o4, v1, v2⟩ := keep_Tape_Next_ok (F := F) o3 (n := n - y) (by omega) (by omega)
 refine ⟨t4, ⟨x, y, (x + 1) + u, (y + 1) + v⟩, ?_, o4, fun r hr => ?_⟩
 ·unfold keep_Tape_Rect
  refine bd_ok e1 ?_
  refine bd_ok e2 ?_
  simp only
  refine gd_ok (by first | omega | exact i64_of (by omega) (by omega) | (simp only [LIM, BIG, List.length_append, List.length_cons, List.length_nil, List.length_map, List.length_take, List.length_drop, List.length_set] at *; omega)) ?_
  refine gd_ok (by first | omega | exact i64_of (by omega) (by omega) | (simp only [LIM, BIG, List.length_append, List.length_cons, List.length_nil, List.length_map, List.length_take, List.length_drop, List.length_set] at *; omega)) ?_
  refine bd_ok e3 ?_
  simp only
  refine gd_ok (by first | omega | exact i64_of (by omega) (by omega) | (simp only [LIM, BIG, List.length_append, List.length_cons, List.length_nil, List.length_map, List.length_take, List.length_drop, List.length_set] at *; omega)) ?_
  refine gd_ok (by first | omega | exact i64_of (by omega) (by omega) | (simp only [LIM, BIG, List.length_append, List.length_cons, List.length_nil, List.length_map, List.length_take, List.length_drop, List.length_set] at *; omega)) ?_
  refine gd_ok (by first | omega | exact i64_of (by omega) (by omega) | (simp only [LIM, BIG, List.length_append, List.length_cons, List.length_nil, List.length_map, List.length_take, List.length_drop, List.length_set] at *; omega)) ?_
  refine bd_ok e4 ?_
  simp only
  refine gd_ok (by first | omega | exact i64_of (by omega) (by omega) | (simp only [LIM, BIG, List.length_append, List.length_cons, List.length_nil, List.length_map, List.length_take, List.length_drop, List.length_set] at *; omega)) ?_
  rfl
 ·rw [List.mem_singleton.1 hr]
  simp only
  omega
structure RegT (n : Int) (a : Region) : Prop where
 box : Box n a.rects_
 val : Val a.rects_
theorem keep_Tape_Region_ok {F : Nat} (hF : BIG ≤ F) {t : Tape} (ht : TOk t) {n most : Int} (h1 : 1 ≤ n) (h2 : n ≤ 16384) (m1 : 0 ≤ most) (m2 : most ≤ 100) : ∃ t' a, keep_Tape_Region F t n most = some (t', a) ∧ TOk t' ∧ RegT n a := by
 have hF' := hF
 unfold BIG at hF
 obtain ⟨t1, c, e1, o1, c1, c2⟩ := keep_Tape_Next_ok (F := F) ht (n := most + 1) (by omega) (by omega)
 have key : ∀ (k f : Nat) (t : Tape) (l : List Rect), k < f → TOk t → Box n l → l.length + k ≤ 100 → ∃ t' a, loopN (fun again (z : Int × List Int × Int × List Rect) => keep_Tape_Region_b0 F n again z.1 z.2.1 z.2.2.1 z.2.2.2) f ((k : Int), t.l_, t.at_, l) = some (t', a) ∧ TOk t' ∧ RegT n a := by
  intro k
  induction k with
  | zero =>
   intro f t l hf ht hl hk
   cases f with
   | zero => omega
   | succ f =>
    have hof := ref04_Of_ok hF' (l := l) (by omega) (hl.prop h2)
    refine ⟨⟨t.l_, t.at_⟩, (if 120 < (cn (inR l)).length then ((⟨[]⟩ : Region), (1 : Int)) else (⟨cn (inR l)⟩, 0)).1, ?_, ht, ?_⟩
    ·show keep_Tape_Region_b0 F n _ 0 t.l_ t.at_ l = _
     unfold keep_Tape_Region_b0
     refine br_ff rfl ?_
     unfold keep_Tape_Region_k1
     exact bd_ok hof rfl
    ·split
     ·exact ⟨box_nil _, Val.nil⟩
     ·rename_i hlen
      have hb : Box n (cn (inR l)) := box_cn (fin_inR l) fun x y h => hl.in h
      exact ⟨hb, by simp only; omega, hb.prop h2, Canon.cn (fin_inR l)⟩
  | succ k ih =>
   intro f t l hf ht hl hk
   cases f with
   | zero => omega
   | succ f =>
    obtain ⟨t', r, er, ho, hr⟩ := keep_Tape_Rect_ok (F := F) ht h1 h2
    obtain ⟨t2, a, ea, ha, hb⟩ := ih f t' (l ++ [r]) (by omega) ho (fun q hq => by
     rcases List.mem_append.1 hq with hq | hq
     ·exact hl q hq
     ·exact hr q hq) (by simp; omega)
    refine ⟨t2, a, ?_, ha, hb⟩
    show keep_Tape_Region_b0 F n _ ((k + 1 : Nat) : Int) t.l_ t.at_ l = _
    unfold keep_Tape_Region_b0
    refine br_tt (by simp) ?_
    refine bd_ok er ?_
    refine gd_ok (by first | omega | exact i64_of (by omega) (by omega) | (simp only [LIM, BIG, List.length_append, List.length_cons, List.length_nil, List.length_map, List.length_take, List.length_drop, List.length_set] at *; omega)) ?_
    refine gd_ok (by first | omega | exact i64_of (by omega) (by omega) | (simp only [LIM, BIG, List.length_append, List.length_cons, List.length_nil, List.length_map, List.length_take, List.length_drop, List.length_set] at *; omega)) ?_
    have : ((k + 1 : Nat) : Int) - 1 = (k : Int) := by omega
    rw [this]
    exact ea
 obtain ⟨t', a, ea, ha, hb⟩ := key c.toNat F t1 [] (by omega) o1 (box_nil _) (by simp; omega)
 refine ⟨t', a, ?_, ha, hb⟩
 unfold keep_Tape_Region
 refine gd_ok (by first | omega | exact i64_of (by omega) (by omega) | (simp only [LIM, BIG, List.length_append, List.length_cons, List.length_nil, List.length_map, List.length_take, List.length_drop, List.length_set] at *; omega)) ?_
 refine bd_ok e1 ?_
 have : (c.toNat : Int) = c := by omega
 rw [this] at ea
 exact ea
theorem keep_Tape_Land_ok {F : Nat} (hF : BIG ≤ F) {t : Tape} (ht : TOk t) {n most : Int} (h1 : 1 ≤ n) (h2 : n ≤ 16384) (m1 : 0 ≤ most) (m2 : most ≤ 100) : ∃ t' a, keep_Tape_Land F t n most = some (t', a) ∧ TOk t' ∧ RegT n a ∧ a.rects_.length ≠ 0 := by
 obtain ⟨t1, a, e1, o1, ha⟩ := keep_Tape_Region_ok hF ht h1 h2 m1 m2
 unfold keep_Tape_Land
 by_cases h : a.rects_.length = 0
 ·obtain ⟨t2, r, e2, o2, hr⟩ := keep_Tape_Rect_ok (F := F) o1 h1 h2
  have hr0 := hr r (by simp)
  refine ⟨⟨t2.l_, t2.at_⟩, ⟨[r]⟩, ?_, o2, ⟨hr, by simp, hr.prop h2, canon_one (by omega) (by omega)⟩, by simp⟩
  refine bd_ok e1 ?_
  refine br_tt (by simp only [h]; rfl) ?_
  exact bd_ok e2 rfl
 ·refine ⟨⟨t1.l_, t1.at_⟩, ⟨a.rects_⟩, ?_, o1, ha, h⟩
  refine bd_ok e1 ?_
  exact br_ff (by simpa using h) rfl
structure FeaT (f : Feature) : Prop where
 kind : 0 ≤ f.kind_ ∧ f.kind_ ≤ 15
 from_ : 0 ≤ f.from_ ∧ f.from_ < 20
 until_ : f.from_ < f.until_ ∧ f.until_ ≤ f.from_ + 30
 reg : RegT 9 f.region_
 ne : f.region_.rects_.length ≠ 0
theorem keep_Tape_Feature_ok {F : Nat} (hF : BIG ≤ F) {t : Tape} (ht : TOk t) (n : Int) : ∃ t' f, keep_Tape_Feature F t n = some (t', f) ∧ TOk t' ∧ FeaT f ∧ f.number_ = n := by
 obtain ⟨t1, a, e1, o1, a1, a2⟩ := keep_Tape_Next_ok (F := F) ht (n := 20) (by omega) (by omega)
 obtain ⟨t2, b, e2, o2, b1, b2⟩ := keep_Tape_Next_ok (F := F) o1 (n := 16) (by omega) (by omega)
 obtain ⟨t3, c, e3, o3, c1, c2⟩ := keep_Tape_Range_ok (F := F) o2 (lo := 1) (hi := 30) (by omega) (by omega) (by omega)
 obtain ⟨t4, r, e4, o4, hr, hne⟩ := keep_Tape_Land_ok hF o3 (n := 9) (most := 2) (by omega) (by omega) (by omega) (by omega)
 refine ⟨t4, ⟨n, b, a, a + c, r⟩, ?_, o4, ⟨by simp only; omega, by simp only; omega, by simp only; omega, hr, hne⟩, rfl⟩
 unfold keep_Tape_Feature
 refine bd_ok e1 ?_
 refine bd_ok e2 ?_
 refine bd_ok e3 ?_
 simp only
 refine gd_ok (by first | omega | exact i64_of (by omega) (by omega) | (simp only [LIM, BIG, List.length_append, List.length_cons, List.length_nil, List.length_map, List.length_take, List.length_drop, List.length_set] at *; omega)) ?_
 exact bd_ok e4 rfl
theorem FeaT.one {f : Feature} (h : FeaT f) (h1 : 1 ≤ f.number_) (h2 : f.number_ ≤ 1073741824) : oneC f = 0 :=
 (oneC_zero f).2 ⟨h1, h2, h.kind.1, h.kind.2, h.from_.1, h.until_.1, by have := h.from_; have := h.until_; omega, h.ne, h.reg.val⟩
def insF (l : List Feature) (f : Feature) : List Feature := l.take (lessN l f.number_) ++ [f] ++ l.drop (lessN l f.number_)
noncomputable def addC (l : List Feature) (f : Feature) : List Feature × Int :=
 if chkC l ≠ 0 then ([], chkC l) else if oneC f ≠ 0 then ([], oneC f) else if lessN l f.number_ < l.length ∧ (gl l (lessN l f.number_)).number_ = f.number_ then ([], 6)
 else if l.length = 60 then ([], 1) else (insF l f, 0)
theorem ref09_Add_ok {F : Nat} (hF : BIG ≤ F) (l : List Feature) (f : Feature) : ref09_Add F l f = some (addC l f) := by
 have hF' := hF
 unfold BIG at hF
 unfold ref09_Add addC
 refine bd_ok (ref09_Check_ok hF' l) ?_
 by_cases h : chkC l = 0
 ·refine br_ff (by simp [h]) ?_
  rw [if_neg (by simp [h])]
  refine bd_ok (ref09_one_ok hF' f) ?_
  by_cases h1 : oneC f = 0
  ·refine br_ff (by simp [h1]) ?_
   rw [if_neg (by simp [h1])]
   have hv := (chkC_zero l).1 h
   have hlen := hv.len
   obtain ⟨a, b, c⟩ := lessN_spec hv.asc f.number_
   unfold insF
   generalize lessN l f.number_ = k at *
   refine loopN_ok (fun z : Int => ∃ i : Nat, z = i ∧ i ≤ k) (fun z => l.length - z.toNat) (fun again z hz ih => ?_) ⟨0, rfl, by omega⟩ (by simp; omega)
   obtain ⟨i, rfl, hi⟩ := hz
   have hk2 : i = k → ref09_Add_k2 F l f (i : Int) = some (if k < l.length ∧ (gl l k).number_ = f.number_ then ([], 6) else if l.length = 60 then ([], 1) else (l.take k ++ [f] ++ l.drop k, 0)) := by
    rintro rfl
    unfold ref09_Add_k2
    have hk3 : ∀ b : Bool, (b = true ↔ i < l.length ∧ (gl l i).number_ = f.number_) → ref09_Add_k3 F l f (i : Int) b = some (if i < l.length ∧ (gl l i).number_ = f.number_ then ([], 6) else if l.length = 60 then ([], 1) else (l.take i ++ [f] ++ l.drop i, 0)) := by
     intro b hb
     unfold ref09_Add_k3
     refine br_ok (fun h => by rw [if_pos (hb.1 h)]) (fun h => ?_)
     rw [if_neg fun hh => by rw [hb.2 hh] at h; cases h]
     refine br_ok (fun h => ?_) (fun h => ?_)
     ·have h : l.length = 60 := by simp at h; omega
      rw [if_pos h]
     ·have h : l.length ≠ 60 := by simp at h; omega
      rw [if_neg h]
      simp only [Int.toNat_natCast]
      refine gd_ok (by first | omega | exact i64_of (by omega) (by omega) | (simp only [LIM, BIG, List.length_append, List.length_cons, List.length_nil, List.length_map, List.length_take, List.length_drop, List.length_set] at *; omega)) ?_
      refine gd_ok (by first | omega | exact i64_of (by omega) (by omega) | (simp only [LIM, BIG, List.length_append, List.length_cons, List.length_nil, List.length_map, List.length_take, List.length_drop, List.length_set] at *; omega)) ?_
      refine gd_ok (by first | omega | exact i64_of (by omega) (by omega) | (simp only [LIM, BIG, List.length_append, List.length_cons, List.length_nil, List.length_map, List.length_take, List.length_drop, List.length_set] at *; omega)) ?_
      refine gd_ok (by first | omega | exact i64_of (by omega) (by omega) | (simp only [LIM, BIG, List.length_append, List.length_cons, List.length_nil, List.length_map, List.length_take, List.length_drop, List.length_set] at *; omega)) ?_
      refine gd_ok (by first | omega | exact i64_of (by omega) (by omega) | (simp only [LIM, BIG, List.length_append, List.length_cons, List.length_nil, List.length_map, List.length_take, List.length_drop, List.length_set] at *; omega)) ?_
      simp
    refine br_ok (fun h2 => ?_) (fun h2 => ?_)
    ·have h2 : i < l.length := by simpa using h2
     refine gd_ok (by first | omega | exact i64_of (by omega) (by omega) | (simp only [LIM, BIG, List.length_append, List.length_cons, List.length_nil, List.length_map, List.length_take, List.length_drop, List.length_set] at *; omega)) ?_
     exact hk3 _ (by simp [h2])
    ·have h2 : ¬ i < l.length := by simpa using h2
     exact hk3 _ (by simp [h2])
   unfold ref09_Add_b0
   refine br_ok (fun h2 => ?_) (fun h2 => ?_)
   ·have h2 : i < l.length := by simpa using h2
    refine gd_ok (by first | omega | exact i64_of (by omega) (by omega) | (simp only [LIM, BIG, List.length_append, List.length_cons, List.length_nil, List.length_map, List.length_take, List.length_drop, List.length_set] at *; omega)) ?_
    unfold ref09_Add_k1
    simp only [Int.toNat_natCast]
    refine br_ok (fun h3 => ?_) (fun h3 => ?_)
    ·have h3 : (gl l i).number_ < f.number_ := by simpa using h3
     refine gd_ok (by first | omega | exact i64_of (by omega) (by omega) | (simp only [LIM, BIG, List.length_append, List.length_cons, List.length_nil, List.length_map, List.length_take, List.length_drop, List.length_set] at *; omega)) ?_
     refine ih _ ⟨i + 1, by omega, ?_⟩ (by omega)
     rcases Nat.lt_or_ge i k with h4 | h4
     ·exact h4
     ·have := c i h4 h2; omega
    ·have h3 : ¬ (gl l i).number_ < f.number_ := by simpa using h3
     refine hk2 ?_
     rcases Nat.lt_or_ge i k with h4 | h4
     ·exact absurd (b i h4) h3
     ·omega
   ·have h2 : ¬ i < l.length := by simpa using h2
    unfold ref09_Add_k1
    exact br_ff rfl (hk2 (by omega))
  ·refine br_tt (by simpa using h1) ?_
   rw [if_pos h1]
 ·refine br_tt (by simpa using h) ?_
  rw [if_pos h]
theorem insF_mem {l : List Feature} {f g : Feature} : g ∈ insF l f ↔ g = f ∨ g ∈ l := by
 unfold insF
 constructor
 ·intro h
  rcases List.mem_append.1 h with h | h
  ·rcases List.mem_append.1 h with h | h
   ·exact .inr (List.mem_of_mem_take h)
   ·exact .inl (List.mem_singleton.1 h)
  ·exact .inr (List.mem_of_mem_drop h)
 ·rintro (rfl | h)
  ·simp
  ·rw [← List.take_append_drop (lessN l f.number_) l] at h
   rcases List.mem_append.1 h with h | h
   ·simp [h]
   ·simp [h]
theorem insF_VL {l : List Feature} {f : Feature} (hl : VL l) (hf : oneC f = 0) (hn : ¬ (lessN l f.number_ < l.length ∧ (gl l (lessN l f.number_)).number_ = f.number_)) (h60 : l.length ≠ 60) : VL (insF l f) := by
 obtain ⟨a, b, c⟩ := lessN_spec hl.asc f.number_
 have hlen := hl.len
 refine ⟨by simp [insF]; omega, fun g hg => ?_, ?_⟩
 ·rcases insF_mem.1 hg with rfl | hg
  ·exact hf
  ·exact hl.one g hg
 ·unfold insF
  generalize lessN l f.number_ = k at *
  have h1 : ∀ g ∈ l.take k, g.number_ < f.number_ := by
   intro g hg
   obtain ⟨j, hj, rfl⟩ := List.getElem_of_mem hg
   have hj' : j < k := by simp at hj; omega
   have := b j hj'
   rw [gl_lt (by omega)] at this
   simpa using this
  have h2 : ∀ g ∈ l.drop k, f.number_ < g.number_ := by
   intro g hg
   obtain ⟨j, hj, rfl⟩ := List.getElem_of_mem hg
   have hj' : k + j < l.length := by simp at hj; omega
   have h3 := c (k + j) (by omega) hj'
   rw [gl_lt hj'] at h3
   have h4 : (l[k + j]).number_ ≠ f.number_ := by
    intro e
    rcases Nat.eq_zero_or_pos j with rfl | hp
    ·exact hn ⟨by omega, by rw [gl_lt (by omega)]; exact e⟩
    ·have h5 := c k (Nat.le_refl _) (by omega)
     rw [gl_lt (by omega)] at h5
     have h6 := List.pairwise_iff_getElem.1 hl.asc k (k + j) (by omega) hj' (by omega)
     omega
   simp only [List.getElem_drop]
   omega
  have hp := hl.asc
  rw [← List.take_append_drop k l, List.pairwise_append] at hp
  obtain ⟨p1, p2, p3⟩ := hp
  rw [List.append_assoc, List.pairwise_append]
  refine ⟨p1, List.pairwise_cons.2 ⟨h2, p2⟩, fun x hx y hy => ?_⟩
  rcases List.mem_append.1 hy with hy | hy
  ·rw [List.mem_singleton.1 hy]; exact h1 x hx
  ·exact p3 x hx y hy
structure LayT (l : List Feature) : Prop where
 vl : VL l
 fea : ∀ f ∈ l, FeaT f ∧ 1 ≤ f.number_ ∧ f.number_ ≤ 12
theorem keep_Tape_Layer_ok {F : Nat} (hF : BIG ≤ F) {t : Tape} (ht : TOk t) {most : Int} (m1 : 0 ≤ most) (m2 : most ≤ 50) : ∃ t' l, keep_Tape_Layer F t most = some (t', l) ∧ TOk t' ∧ LayT l ∧ (l.length : Int) ≤ most := by
 have hF' := hF
 unfold BIG at hF
 obtain ⟨t1, c, e1, o1, c1, c2⟩ := keep_Tape_Next_ok (F := F) ht (n := most + 1) (by omega) (by omega)
 have key : ∀ (k f : Nat) (t : Tape) (l : List Feature), k < f → TOk t → LayT l → (l.length : Int) + k ≤ most → ∃ t' l', loopN (fun again (z : List Feature × Int × List Int × Int) => keep_Tape_Layer_b0 F again z.1 z.2.1 z.2.2.1 z.2.2.2) f (l, (k : Int), t.l_, t.at_) = some (t', l') ∧ TOk t' ∧ LayT l' ∧ (l'.length : Int) ≤ most := by
  intro k
  induction k with
  | zero =>
   intro f t l hf ht hl hk
   cases f with
   | zero => omega
   | succ f => exact ⟨⟨t.l_, t.at_⟩, l, rfl, ht, hl, by omega⟩
  | succ k ih =>
   intro f t l hf ht hl hk
   cases f with
   | zero => omega
   | succ f =>
    obtain ⟨ta, n, ea, oa, n1, n2⟩ := keep_Tape_Range_ok (F := F) ht (lo := 1) (hi := 12) (by omega) (by omega) (by omega)
    obtain ⟨tb, g, eb, ob, hg, hgn⟩ := keep_Tape_Feature_ok hF' oa n
    have hg1 := hg.one (by omega) (by omega)
    have hz := (chkC_zero l).2 hl.vl
    have e3 : ((k + 1 : Nat) : Int) - 1 = (k : Int) := by omega
    by_cases hadd : (addC l g).2 = 0
    ·have hlay : LayT (addC l g).1 ∧ (addC l g).1.length = l.length + 1 := by
      unfold addC at hadd ⊢
      rw [if_neg (by simp [hz]), if_neg (by simp [hg1])] at hadd ⊢
      by_cases q1 : lessN l g.number_ < l.length ∧ (gl l (lessN l g.number_)).number_ = g.number_
      ·rw [if_pos q1] at hadd; cases hadd
      ·rw [if_neg q1] at hadd ⊢
       by_cases q2 : l.length = 60
       ·rw [if_pos q2] at hadd; cases hadd
       ·rw [if_neg q2]
        refine ⟨⟨insF_VL hl.vl hg1 q1 q2, fun x hx => ?_⟩, ?_⟩
        ·rcases insF_mem.1 hx with rfl | hx
         ·exact ⟨hg, by omega, by omega⟩
         ·exact hl.fea x hx
        ·have := (lessN_spec hl.vl.asc g.number_).1
         simp [insF]; omega
     obtain ⟨t2, l2, q1, q2, q3, q4⟩ := ih f tb (addC l g).1 (by omega) ob hlay.1 (by omega)
     refine ⟨t2, l2, ?_, q2, q3, q4⟩
     show keep_Tape_Layer_b0 F _ l ((k + 1 : Nat) : Int) t.l_ t.at_ = _
     unfold keep_Tape_Layer_b0
     refine br_tt (by simp) ?_
     refine bd_ok ea (bd_ok eb (bd_ok (ref09_Add_ok hF' l g) ?_))
     refine br_tt (by simpa using hadd) ?_
     unfold keep_Tape_Layer_k1
     refine gd_ok (by first | omega | exact i64_of (by omega) (by omega) | (simp only [LIM, BIG, List.length_append, List.length_cons, List.length_nil, List.length_map, List.length_take, List.length_drop, List.length_set] at *; omega)) ?_
     rw [e3]; exact q1
    ·obtain ⟨t2, l2, q1, q2, q3, q4⟩ := ih f tb l (by omega) ob hl (by omega)
     refine ⟨t2, l2, ?_, q2, q3, q4⟩
     show keep_Tape_Layer_b0 F _ l ((k + 1 : Nat) : Int) t.l_ t.at_ = _
     unfold keep_Tape_Layer_b0
     refine br_tt (by simp) ?_
     refine bd_ok ea (bd_ok eb (bd_ok (ref09_Add_ok hF' l g) ?_))
     refine br_ff (by simpa using hadd) ?_
     unfold keep_Tape_Layer_k1
     refine gd_ok (by first | omega | exact i64_of (by omega) (by omega) | (simp only [LIM, BIG, List.length_append, List.length_cons, List.length_nil, List.length_map, List.length_take, List.length_drop, List.length_set] at *; omega)) ?_
     rw [e3]; exact q1
 obtain ⟨t', l, q1, q2, q3, q4⟩ := key c.toNat F t1 [] (by omega) o1 ⟨⟨by simp, fun f hf => (List.not_mem_nil hf).elim, .nil⟩, fun f hf => (List.not_mem_nil hf).elim⟩ (by simp; omega)
 refine ⟨t', l, ?_, q2, q3, q4⟩
 unfold keep_Tape_Layer
 refine gd_ok (by first | omega | exact i64_of (by omega) (by omega) | (simp only [LIM, BIG, List.length_append, List.length_cons, List.length_nil, List.length_map, List.length_take, List.length_drop, List.length_set] at *; omega)) ?_
 refine bd_ok e1 ?_
 have : (c.toNat : Int) = c := by omega
 rw [this] at q1
 exact q1
theorem keep_New_ok (F : Nat) (l : List Int) : ∃ t, keep_New F l = some t ∧ TOk t := by
 unfold keep_New
 have h : gmin ((l.length : Nat) : Int) 400 = ((min l.length 400 : Nat) : Int) := by unfold gmin; split <;> omega
 rw [h]
 refine ⟨⟨l.take (min l.length 400), 0⟩, ?_, by simp only; omega, by simp; omega⟩
 refine gd_ok (by first | omega | exact i64_of (by omega) (by omega) | (simp only [LIM, BIG, List.length_append, List.length_cons, List.length_nil, List.length_map, List.length_take, List.length_drop, List.length_set] at *; omega)) ?_
 simp
end Go.Ab
end

section
namespace Go.Ab
set_option maxRecDepth 20000
def ex9 (u : Int) : Feature := ⟨1, 0, 5, u, ⟨[⟨0, 0, 1, 1⟩]⟩⟩
theorem VL_ex9 {u : Int} (h : 5 < u) (h2 : u ≤ 36865) : VL [ex9 u] := by
 have hb : Box 1 [(⟨0, 0, 1, 1⟩ : Rect)] := fun r hr => by rw [List.mem_singleton.1 hr]; decide
 refine ⟨by simp, fun f hf => ?_, List.pairwise_singleton _ _⟩
 rw [List.mem_singleton.1 hf, oneC_zero]
 refine ⟨by simp [ex9], by simp [ex9], by simp [ex9], by simp [ex9], by simp [ex9], h, h2, by simp [ex9], by simp [ex9], hb.prop (by decide), canon_one (by decide) (by decide)⟩
theorem On_ex9 {F : Nat} (hF : BIG ≤ F) {u d : Int} (h : 5 < u) (h2 : u ≤ 36865) (hd : 5 ≤ d) (hd2 : d ≤ 36864) : feature_On F [ex9 u] d = some (if d < u then [ex9 u] else [], 0) := by
 rw [feature_On_ok hF, (chkC_zero _).2 (VL_ex9 h h2)]
 rw [if_neg (by simp), if_neg (by omega)]
 congr 2
 have e : thereB (ex9 u) d = decide (d < u) := by
  unfold thereB
  have : (ex9 u).from_ ≤ d := hd
  rw [decide_eq_true this]; rfl
 rw [List.filter_cons, e, List.filter_nil]
 by_cases hh : d < u
 ·rw [decide_eq_true hh, if_pos hh]; rfl
 ·rw [decide_eq_false hh, if_neg hh]; rfl
theorem law09_awake_ok {F : Nat} (hF : BIG ≤ F) : law09_awake F = some true := by
 have hF' := hF
 unfold BIG at hF
 have hend : feature_End F [ex9 10] 1 7 = some ([ex9 7], 0) := by
  rw [feature_End_ok hF']
  unfold endC
  rw [(chkC_zero _).2 (VL_ex9 (by decide) (by decide))]
  have e0 : lessN [ex9 10] 1 = 0 := by decide
  rw [if_neg (by simp), e0, if_neg (by simp [gl, ex9]), if_neg (by decide), if_neg (by decide)]
  rfl
 unfold law09_awake
 refine bd_ok (On_ex9 hF' (u := 10) (d := 9) (by decide) (by decide) (by decide) (by decide)) ?_
 refine bd_ok (On_ex9 hF' (u := 10) (d := 10) (by decide) (by decide) (by decide) (by decide)) ?_
 refine bd_ok hend ?_
 refine bd_ok (On_ex9 hF' (u := 7) (d := 7) (by decide) (by decide) (by decide) (by decide)) ?_
 refine br_tt rfl (br_tt rfl (br_tt rfl (br_tt rfl (br_tt rfl (br_tt rfl (br_tt rfl (br_tt rfl ?_)))))))
 refine gd_ok (by decide) ?_
 rfl
end Go.Ab
end

section
namespace Go.Ab
set_option maxRecDepth 20000
variable {F : Nat}
theorem ref01_Has_ok (hF : BIG ≤ F) {l : List Int} (hl : l.length ≤ 1000000) (v : Int) : ref01_Has F l v = some (decide (v ∈ l)) := by
 unfold BIG at hF
 unfold ref01_Has
 refine loopN_ok (fun z : Int => ∃ i : Nat, z = i ∧ i ≤ l.length ∧ ∀ j, j < i → gl l j ≠ v) (fun z => l.length - z.toNat) (fun again z hz ih => ?_) ⟨0, rfl, Nat.zero_le _, fun j hj => by omega⟩ (by simp; omega)
 obtain ⟨i, rfl, hi, hj⟩ := hz
 unfold ref01_Has_b0
 refine br_ok (fun h => ?_) (fun h => ?_)
 ·have h : i < l.length := by simpa using h
  refine gd_ok (by first | omega | exact i64_of (by omega) (by omega) | (simp only [LIM, BIG, List.length_append, List.length_cons, List.length_nil, List.length_map, List.length_take, List.length_drop, List.length_set] at *; omega)) ?_
  simp only [Int.toNat_natCast]
  refine br_ok (fun h2 => ?_) (fun h2 => ?_)
  ·rw [beq_iff_eq] at h2
   rw [decide_eq_true (h2 ▸ gl_mem h)]
  ·refine gd_ok (by first | omega | exact i64_of (by omega) (by omega) | (simp only [LIM, BIG, List.length_append, List.length_cons, List.length_nil, List.length_map, List.length_take, List.length_drop, List.length_set] at *; omega)) ?_
   refine ih _ ⟨i + 1, by omega, h, fun j hj2 => ?_⟩ (by omega)
   by_cases e : j = i
   ·subst e; simpa using h2
   ·exact hj j (by omega)
 ·have h : ¬ i < l.length := by simpa using h
  unfold ref01_Has_k1
  rw [decide_eq_false fun hm => ?_]
  obtain ⟨j, hjl, e⟩ := List.mem_iff_getElem.1 hm
  exact hj j (by omega) (by rw [gl_lt hjl]; exact e)
end Go.Ab
end

section
namespace Go.Ab
set_option maxRecDepth 20000
open Go.Maps Go.ChangeMaps
theorem keys_put (es : List (Lit × DataW Unit)) (hes : ∀ p ∈ es, ∃ x, p.1 = .int .i64 x) (k : Int) (d : DataW Unit) (v : Int) : v ∈ intKeys (.map (putKey (.int .i64 k) d es)) ↔ v = k ∨ v ∈ intKeys (.map es) := by
 unfold intKeys putKey
 simp only [List.mem_map, mem_insert_iff, List.mem_filter]
 constructor
 ·rintro ⟨p, rfl | ⟨hp, _⟩, rfl⟩
  ·exact .inl rfl
  ·exact .inr ⟨p, hp, rfl⟩
 ·rintro (rfl | ⟨p, hp, rfl⟩)
  ·exact ⟨_, .inl rfl, rfl⟩
  ·obtain ⟨x, hx⟩ := hes p hp
   by_cases h : x = k
   ·subst h; exact ⟨_, .inl rfl, by rw [hx]⟩
   ·exact ⟨p, .inr ⟨hp, by rw [notKey, hx]; simp [Lit.sameKey, h]⟩, rfl⟩
theorem keys_put_len (es : List (Lit × DataW Unit)) (k : Lit) (d : DataW Unit) : (putKey k d es).length ≤ es.length + 1 := by
 unfold putKey
 rw [length_insert]
 have := List.length_filter_le (notKey k) es
 omega
theorem mapD_go : ∀ (ks : List Int) (es : List (Lit × DataW Unit)), (∀ p ∈ es, ∃ x, p.1 = .int .i64 x) →
  ∃ es' : List (Lit × DataW Unit), ks.foldl (fun (D : DataW Unit) k => D.put (.int .i64 k) (.lit (.bool true))) (DataW.map es) = DataW.map es' ∧ (∀ v, v ∈ intKeys (.map es') ↔ v ∈ ks ∨ v ∈ intKeys (.map es)) ∧ es'.length ≤ es.length + ks.length
 | [], es, _ => ⟨es, rfl, by simp, by simp⟩
 | k :: ks, es, h => by
  have h' : ∀ p ∈ putKey (.int .i64 k) (.lit (.bool true)) es, ∃ x, p.1 = .int .i64 x := fun p hp => by
   unfold putKey at hp
   rcases mem_insert_iff.1 hp with rfl | hp
   ·exact ⟨_, rfl⟩
   ·exact h p (List.mem_filter.1 hp).1
  obtain ⟨es', h1, h2, h3⟩ := mapD_go ks (putKey (.int .i64 k) (.lit (.bool true)) es) h'
  refine ⟨es', by rw [List.foldl_cons, DataW.put_eq]; exact h1, fun v => ?_, ?_⟩
  ·rw [h2, keys_put es h, List.mem_cons]
   constructor
   ·rintro (h | h | h)
    ·exact .inl (.inr h)
    ·exact .inl (.inl h)
    ·exact .inr h
   ·rintro ((h | h) | h)
    ·exact .inr (.inl h)
    ·exact .inl h
    ·exact .inr (.inr h)
  ·have := keys_put_len es (.int .i64 k) (.lit (.bool true))
   rw [List.length_cons]
   omega
theorem mapD_keys (ks : List Int) : (∀ v, v ∈ intKeys (mapD ks) ↔ v ∈ ks) ∧ (intKeys (mapD ks)).length ≤ ks.length := by
 obtain ⟨es, h1, h2, h3⟩ := mapD_go ks [] (by simp)
 have e : mapD ks = .map es := h1
 rw [e]
 refine ⟨fun v => by rw [h2]; simp [intKeys], ?_⟩
 unfold intKeys
 rw [List.length_map]
 simpa using h3
theorem keysM_ok {ks : List Int} (h : ks.length ≤ LIM) : ∃ r, keysM ks = some r ∧ (r.Pairwise fun x y => x ≤ y) ∧ (∀ v, v ∈ r ↔ v ∈ ks) ∧ r.length ≤ ks.length := by
 obtain ⟨hk, hkl⟩ := mapD_keys ks
 refine ⟨_, if_pos h, ?_, fun v => ?_, by rw [List.length_mergeSort]; exact hkl⟩
 ·have := List.pairwise_mergeSort (le := fun x y : Int => decide (x ≤ y)) (fun a b c h1 h2 => by simp at *; omega) (fun a b => by simp; omega) (intKeys (mapD ks))
  exact this.imp fun h => by simpa using h
 ·rw [List.mem_mergeSort]; exact hk v
def daysC (L : List Feature) : List Int := L.flatMap fun f => if f.until_ ≤ 36864 then [f.from_, f.until_] else [f.from_]
theorem daysC_len (L : List Feature) : (daysC L).length ≤ 2 * L.length := by
 unfold daysC
 induction L with
 | nil => simp
 | cons a L ih => rw [List.flatMap_cons, List.length_append, List.length_cons]; split <;> simp only [List.length_cons, List.length_nil] <;> omega
theorem feature_Changes_ok {F : Nat} (hF : BIG ≤ F) {L : List Feature} (hv : VL L) : ∃ r, feature_Changes F L = some (r, 0) ∧ (r.Pairwise fun x y => x ≤ y) ∧ (∀ v, v ∈ r ↔ v ∈ daysC L) ∧ r.length ≤ 120 := by
 have hF' := hF
 unfold BIG at hF
 have hl := hv.len
 have hdl := daysC_len L
 obtain ⟨r, hr, hs, hm, hrl⟩ := keysM_ok (ks := daysC L) (by unfold LIM; omega)
 refine ⟨r, ?_, hs, hm, by omega⟩
 unfold feature_Changes
 refine bd_ok (feature_Check_ok hF' L) ?_
 rw [(chkC_zero L).2 hv]
 refine br_ff rfl ?_
 unfold feature_Changes_b0 feature_Changes_k1
 refine range_st (l := L) (σ := List Int) (fun rest acc => acc ++ daysC rest = daysC L ∧ acc.length + 2 * rest.length ≤ 2 * L.length ∧ ∀ f ∈ rest, f ∈ L) (fun rest acc => some (r, 0)) (fun again i acc hi hI ih => ?_) (fun again acc hI => ?_) (by omega) ⟨rfl, by simp, fun f h => h⟩
 ·obtain ⟨h1, h2, h3⟩ := hI
  obtain ⟨q1, q2, q3, q4, q5, q6, q7, q8, q9⟩ := (oneC_zero _).1 (hv.one _ (h3 _ (List.mem_cons_self ..)))
  simp only [List.length_cons] at h2
  simp only
  refine br_tt (lt_dec hi) ?_
  simp only [Int.toNat_natCast]
  refine gd_ok (by omega) ?_
  refine gd_ok ⟨by unfold LIM; omega, i64_of (by omega) (by omega)⟩ ?_
  have e : daysC (gl L i :: L.drop (i + 1)) = (if (gl L i).until_ ≤ 36864 then [(gl L i).from_, (gl L i).until_] else [(gl L i).from_]) ++ daysC (L.drop (i + 1)) := rfl
  rw [e] at h1
  refine br_ok (fun h => ?_) (fun h => ?_)
  ·have h : (gl L i).until_ ≤ 36864 := by simpa using h
   rw [if_pos h] at h1
   refine gd_ok ⟨by unfold LIM; simp only [List.length_append, List.length_cons, List.length_nil]; omega, i64_of (by omega) (by omega)⟩ ?_
   refine gd_ok (by first | omega | exact i64_of (by omega) (by omega) | (simp only [LIM, BIG, List.length_append, List.length_cons, List.length_nil, List.length_map, List.length_take, List.length_drop, List.length_set] at *; omega)) ?_
   exact ih _ ⟨by rw [← h1]; simp, by simp only [List.length_append, List.length_cons, List.length_nil]; omega, fun f hf => h3 f (List.mem_cons_of_mem _ hf)⟩
  ·have h : ¬ (gl L i).until_ ≤ 36864 := by simpa using h
   rw [if_neg h] at h1
   refine gd_ok (by first | omega | exact i64_of (by omega) (by omega) | (simp only [LIM, BIG, List.length_append, List.length_cons, List.length_nil, List.length_map, List.length_take, List.length_drop, List.length_set] at *; omega)) ?_
   exact ih _ ⟨by rw [← h1]; simp, by simp only [List.length_append, List.length_cons, List.length_nil]; omega, fun f hf => h3 f (List.mem_cons_of_mem _ hf)⟩
 ·obtain ⟨h1, _, _⟩ := hI
  simp only
  refine br_ff (not_lt_dec _) ?_
  unfold feature_Changes_k2
  have : acc = daysC L := by simpa [daysC] using h1
  rw [this]
  exact bd_ok hr rfl
theorem onDays {L : List Feature} {d : Int} (hd : d ≤ 36864) (h : d ∉ daysC L) : (L.filter fun f => thereB f d) = L.filter fun f => thereB f (d - 1) := by
 refine List.filter_congr fun f hf => ?_
 have h1 : f.from_ ≠ d ∧ f.until_ ≠ d := by
  constructor
  ·intro e
   refine h (List.mem_flatMap.2 ⟨f, hf, ?_⟩)
   split <;> simp [e]
  ·intro e
   refine h (List.mem_flatMap.2 ⟨f, hf, ?_⟩)
   rw [if_pos (by omega)]
   simp [e]
 unfold thereB
 have e1 : decide (f.from_ ≤ d) = decide (f.from_ ≤ d - 1) := by
  by_cases h : f.from_ ≤ d
  ·rw [decide_eq_true h, decide_eq_true (by omega)]
  ·rw [decide_eq_false h, decide_eq_false (by omega)]
 have e2 : decide (d < f.until_) = decide (d - 1 < f.until_) := by
  by_cases h : d < f.until_
  ·rw [decide_eq_true h, decide_eq_true (by omega)]
  ·rw [decide_eq_false h, decide_eq_false (by omega)]
 rw [e1, e2]
theorem law09_FeatureDays_ok {F : Nat} (hF : BIG ≤ F) (l : List Int) : law09_FeatureDays F l = some true := by
 have hF' := hF
 unfold BIG at hF
 obtain ⟨t, et, ht⟩ := keep_New_ok F l
 obtain ⟨t2, L, eL, ht2, hL, hlen⟩ := keep_Tape_Layer_ok hF' ht (most := 4) (by omega) (by omega)
 have hv := hL.vl
 have hLl := hv.len
 obtain ⟨r, er, _, hm, hrl⟩ := feature_Changes_ok hF' hv
 unfold law09_FeatureDays
 refine bd_ok et (bd_ok eL ?_)
 simp only
 refine bd_ok er ?_
 refine br_ff rfl ?_
 have hLz := (chkC_zero L).2 hv
 unfold law09_FeatureDays_b0 law09_FeatureDays_k8
 refine loopN_ok (fun z : List Feature × Int => 0 ≤ z.2 ∧ z.2 ≤ 55 ∧ (0 < z.2 → z.1 = L.filter fun f => thereB f (z.2 - 1))) (fun z => (55 - z.2).toNat) (fun again z hz ih => ?_) ⟨by simp, by simp, fun h => by simp at h⟩ (by simp; omega)
 obtain ⟨bef, d⟩ := z
 obtain ⟨d1, d2, d3⟩ := hz
 simp only at d1 d2 d3
 simp only
 refine br_ok (fun h => ?_) (fun h => bd_ok (law09_awake_ok hF') rfl)
 have h : d < 55 := by simpa using h
 have on1 := feature_On_ok hF' L d
 rw [hLz, if_neg (by simp), if_neg (by omega)] at on1
 refine bd_ok on1 ?_
 simp only
 refine br_ff rfl ?_
 have hal : (L.filter fun f => thereB f d).length ≤ L.length := List.length_filter_le _ _
 have inner : loopN (fun again1 (z : Int × Int) => law09_FeatureDays_b2 F (t2, L) d (L.filter (fun f => thereB f d), 0) again again1 z.1 z.2) F ((0 : Int), (0 : Int)) = some true := by
  unfold law09_FeatureDays_b2 law09_FeatureDays_k3 law09_FeatureDays_k4 law09_FeatureDays_k5 law09_FeatureDays_k6 law09_FeatureDays_k7
  generalize hA : (L.filter fun f => thereB f d) = A at *
  refine loopN_ok (fun z : Int × Int => ∃ i n : Nat, z = ((n : Int), (i : Int)) ∧ i ≤ L.length ∧ n ≤ A.length ∧ A = A.take n ++ (L.drop i).filter fun f => thereB f d) (fun z => L.length - z.2.toNat) (fun again1 z hz ih1 => ?_) ⟨0, 0, rfl, by omega, by omega, by simp [hA]⟩ (by simp; omega)
  obtain ⟨i, n, rfl, hi, hn, hsp⟩ := hz
  simp only
  refine br_ok (fun h => ?_) (fun h => ?_)
  ·have h : i < L.length := by simpa using h
   refine gd_ok (by omega) ?_
   simp only [Int.toNat_natCast]
   have hdr : L.drop i = gl L i :: L.drop (i + 1) := by rw [gl_lt h]; exact List.drop_eq_getElem_cons h
   rw [hdr, List.filter_cons] at hsp
   by_cases hth : thereB (gl L i) d = true
   ·rw [if_pos hth] at hsp
    have hth' := hth
    unfold thereB at hth'
    rw [Bool.and_eq_true] at hth'
    rw [hth'.1, hth'.2]
    refine br_tt rfl (br_tt rfl ?_)
    have hnl : n < A.length := by
     have := congrArg List.length hsp
     rw [List.length_append, List.length_take, List.length_cons] at this
     omega
    have hgn : gl A n = gl L i := by
     have h1 : A[n]? = some (gl L i) := by
      rw [hsp, List.getElem?_append_right (by rw [List.length_take]; omega), List.length_take, Nat.min_eq_left (by omega), Nat.sub_self]
      rfl
     rw [gl_lt hnl]
     rw [List.getElem?_eq_getElem hnl] at h1
     exact Option.some.inj h1
    refine br_ff (by simp; omega) ?_
    refine gd_ok (by omega) ?_
    rw [hgn]
    refine br_ff (by simp) ?_
    refine gd_ok (i64_of (by omega) (by omega)) (gd_ok (i64_of (by omega) (by omega)) ?_)
    refine ih1 _ ⟨i + 1, n + 1, by simp, h, by omega, ?_⟩ (by simp; omega)
    rw [List.take_add_one, List.getElem?_eq_getElem hnl, ← gl_lt hnl, hgn]
    simpa using hsp
   ·rw [if_neg hth] at hsp
    have fin : (gd (I64 ((i : Int) + 1)) <| again1 ((n : Int), ((i : Int) + 1))) = some true := by
     refine gd_ok (i64_of (by omega) (by omega)) ?_
     exact ih1 _ ⟨i + 1, n, by simp, h, by omega, hsp⟩ (by simp; omega)
    refine br_ok (fun h1 => ?_) (fun h1 => br_ff rfl fin)
    refine br_ff ?_ fin
    have : thereB (gl L i) d = false := by simpa using hth
    unfold thereB at this
    rw [h1, Bool.true_and] at this
    exact this
  ·have h : ¬ i < L.length := by simpa using h
   have hl : L.drop i = [] := List.drop_eq_nil_of_le (by omega)
   rw [hl, List.filter_nil, List.append_nil] at hsp
   have hnl : n = A.length := by
    have := congrArg List.length hsp
    rw [List.length_take] at this
    omega
   subst hnl
   refine br_ff (by simp) ?_
   refine gd_ok (by first | omega | exact i64_of (by omega) (by omega) | (simp only [LIM, BIG, List.length_append, List.length_cons, List.length_nil, List.length_map, List.length_take, List.length_drop, List.length_set] at *; omega)) ?_
   exact ih _ ⟨by simp; omega, by simp; omega, fun _ => by simp [← hA]⟩ (by simp; omega)
 have go : ∀ b, b = false → law09_FeatureDays_k1 F (t2, L) d (L.filter (fun f => thereB f d), 0) again b = some true := fun b hb => by
  subst hb
  unfold law09_FeatureDays_k1
  exact br_ff rfl inner
 refine br_ok (fun h0 => ?_) (fun h0 => go _ rfl)
 have h0 : 0 < d := by simpa using h0
 refine bd_ok (ref01_Has_ok hF' (by omega) d) ?_
 refine br_ok (fun hh => ?_) (fun hh => go _ rfl)
 have hh : d ∉ r := by simpa using hh
 have hb := d3 h0
 subst hb
 rw [← onDays (by omega) (fun hx => hh ((hm d).2 hx))]
 refine bd_ok (ref09_Same_ok hF' (by unfold LIM; omega) (fun f hf => by have := hv.rlen (List.mem_filter.1 hf).1; unfold LIM; omega)) ?_
 exact go _ (by simp)
end Go.Ab
end
