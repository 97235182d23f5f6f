/- The code that the statement reaches as plain programs, and what they compute: no condition on the program. -/
set_option linter.unusedVariables false
set_option linter.unusedSimpArgs false
section
namespace Go.Ab
structure Rn (α : Type) where
 lo : Int
 hi : Int
 v : α
def Rn.R {α : Type} (a b : Rn α) : Prop := a.hi ≤ b.lo ∧ (a.hi = b.lo → a.v ≠ b.v)
structure Runs {α : Type} (l : List (Rn α)) : Prop where
 pos : ∀ r ∈ l, r.lo < r.hi
 ch : l.Pairwise Rn.R
def atR {α : Type} (d : α) : List (Rn α) → Int → α
 | [], _ => d
 | r :: l, t => if r.lo ≤ t ∧ t < r.hi then r.v else atR d l t
section
variable {α : Type} {d : α}
theorem atR_out {l : List (Rn α)} {t : Int} (h : ∀ r ∈ l, ¬ (r.lo ≤ t ∧ t < r.hi)) : atR d l t = d := by
 induction l with
 | nil => rfl
 | cons r l ih =>
  rw [atR, if_neg (h r (by simp)), ih fun q hq => h q (by simp [hq])]
theorem atR_append {l m : List (Rn α)} {t : Int} : atR d (l ++ m) t = if ∃ r ∈ l, r.lo ≤ t ∧ t < r.hi then atR d l t else atR d m t := by
 induction l with
 | nil => simp
 | cons r l ih =>
  rw [List.cons_append, atR, atR]
  by_cases h : r.lo ≤ t ∧ t < r.hi
  ·rw [if_pos h, if_pos ⟨r, by simp, h⟩, if_pos h]
  ·rw [if_neg h, ih, if_neg h]
   have e : (∃ q ∈ r :: l, q.lo ≤ t ∧ t < q.hi) ↔ ∃ q ∈ l, q.lo ≤ t ∧ t < q.hi := by
    constructor
    ·rintro ⟨q, hq, hh⟩
     rcases List.mem_cons.1 hq with rfl | hq
     ·exact absurd hh h
     ·exact ⟨q, hq, hh⟩
    ·rintro ⟨q, hq, hh⟩; exact ⟨q, by simp [hq], hh⟩
   simp only [e]
theorem Runs.tail {a : Rn α} {l : List (Rn α)} (h : Runs (a :: l)) : Runs l := ⟨fun r hr => h.pos r (by simp [hr]), (List.pairwise_cons.1 h.ch).2⟩
theorem Runs.head {a : Rn α} {l : List (Rn α)} (h : Runs (a :: l)) : ∀ r ∈ l, a.R r := (List.pairwise_cons.1 h.ch).1
theorem Runs.nil : Runs ([] : List (Rn α)) := ⟨fun r hr => by simp at hr, .nil⟩
theorem atR_next {a : Rn α} (hd : a.v ≠ d) : ∀ {l : List (Rn α)}, (∀ r ∈ l, a.R r) → atR d l a.hi ≠ a.v := by
 intro l
 induction l with
 | nil => intro _ h; exact hd h.symm
 | cons r l ih =>
  intro h
  rw [atR]
  split
  ·rename_i hr
   obtain ⟨h1, h2⟩ := h r (by simp)
   exact fun e => h2 (by omega) e.symm
  ·exact ih fun q hq => h q (by simp [hq])
theorem Runs.unique {l : List (Rn α)} : ∀ {m : List (Rn α)}, Runs l → Runs m → (∀ r ∈ l, r.v ≠ d) → (∀ r ∈ m, r.v ≠ d) → (∀ t, atR d l t = atR d m t) → l = m := by
 have before : ∀ {a : Rn α} {l : List (Rn α)}, Runs (a :: l) → ∀ t, t < a.hi → atR d l t = d := fun {a l} h t ht => atR_out fun r hr => by have := (h.head r hr).1; omega
 have before' : ∀ {a : Rn α} {l : List (Rn α)}, Runs (a :: l) → ∀ t, t < a.lo → atR d (a :: l) t = d := fun {a l} h t ht => by
  rw [atR, if_neg (by omega)]; exact before h t (by have := h.pos a (by simp); omega)
 have first : ∀ {a : Rn α} {l : List (Rn α)}, Runs (a :: l) → atR d (a :: l) a.lo = a.v := fun {a l} h => by
  have := h.pos a (by simp)
  rw [atR, if_pos ⟨by omega, this⟩]
 induction l with
 | nil =>
  intro m hl hm dl dm h
  cases m with
  | nil => rfl
  | cons b m =>
   have := h b.lo
   rw [first hm] at this
   exact absurd this.symm (dm b (by simp))
 | cons a l ih =>
  intro m hl hm dl dm h
  cases m with
  | nil =>
   have := h a.lo
   rw [first hl] at this
   exact absurd this (dl a (by simp))
  | cons b m =>
   have ha := dl a (by simp)
   have hb := dm b (by simp)
   have e1 : a.lo = b.lo := by
    rcases Int.lt_trichotomy a.lo b.lo with hlt | he | hlt
    ·have := h a.lo
     rw [first hl, before' hm _ hlt] at this
     exact absurd this ha
    ·exact he
    ·have := h b.lo
     rw [first hm, before' hl _ hlt] at this
     exact absurd this.symm hb
   have e2 : a.v = b.v := by
    have := h a.lo
    rw [first hl, e1, first hm] at this
    exact this
   have pa := hl.pos a (by simp)
   have pb := hm.pos b (by simp)
   have e3 : a.hi = b.hi := by
    rcases Int.lt_trichotomy a.hi b.hi with hlt | he | hlt
    ·have := h a.hi
     rw [atR, if_neg (by omega), atR, if_pos ⟨by omega, hlt⟩, ← e2] at this
     exact absurd this (atR_next ha hl.head)
    ·exact he
    ·have := h b.hi
     rw [atR, if_pos ⟨by omega, hlt⟩, atR, if_neg (by omega), e2] at this
     exact absurd this.symm (atR_next hb hm.head)
   have e : a = b := by cases a; cases b; simp_all
   subst e
   congr 1
   refine ih hl.tail hm.tail (fun r hr => dl r (by simp [hr])) (fun r hr => dm r (by simp [hr])) fun t => ?_
   by_cases ht : t < a.hi
   ·rw [before hl t ht, before hm t ht]
   ·have := h t
    rw [atR, if_neg (by omega), atR, if_neg (by omega)] at this
    exact this
theorem Runs.filter {l : List (Rn α)} (h : Runs l) (p : Rn α → Bool) : Runs (l.filter p) := ⟨fun r hr => h.pos r (List.mem_filter.1 hr).1, h.ch.filter p⟩
theorem Runs.atR_filter {l : List (Rn α)} (h : Runs l) (p : Rn α → Bool) (hp : ∀ r ∈ l, p r = false → r.v = d) (t : Int) : atR d (l.filter p) t = atR d l t := by
 induction l with
 | nil => rfl
 | cons a l ih =>
  have ih := ih h.tail fun r hr => hp r (by simp [hr])
  rw [List.filter_cons]
  split
  ·rw [atR, atR, ih]
  ·rename_i hpa
   rw [ih, atR]
   split
   ·rename_i ht
    rw [hp a (by simp) (by simpa using hpa)]
    exact atR_out fun r hr => by have := (h.head r hr).1; omega
   ·rfl
structure Bst (d : α) (f : Int → α) (acc : List (Rn α)) (c : Int) : Prop where
 runs : Runs acc
 le : ∀ r ∈ acc, r.hi ≤ c
 val : ∀ t, t < c → atR d acc t = f t
theorem Bst.out {f : Int → α} {acc : List (Rn α)} {c : Int} (h : Bst d f acc c) (t : Int) (ht : c ≤ t) : atR d acc t = d := atR_out fun r hr => by have := h.le r hr; omega
theorem Bst.start {f : Int → α} {c : Int} (h : ∀ t, t < c → f t = d) : Bst d f [] c := ⟨.nil, fun r hr => by simp at hr, fun t ht => (h t ht).symm⟩
theorem Bst.skip {f : Int → α} {acc : List (Rn α)} {c c1 : Int} (h : Bst d f acc c) (hc : c ≤ c1) (hf : ∀ t, c ≤ t → t < c1 → f t = d) : Bst d f acc c1 :=
 ⟨h.runs, fun r hr => by have := h.le r hr; omega, fun t ht => by
  by_cases h1 : t < c
  ·exact h.val t h1
  ·rw [h.out t (by omega), hf t (by omega) ht]⟩
theorem Bst.add {f : Int → α} {acc : List (Rn α)} {c c1 : Int} (h : Bst d f acc c) (hc : c < c1) (hf : ∀ t, c ≤ t → t < c1 → f t = f c) (hl : ∀ a, acc.getLast? = some a → a.hi = c → a.v ≠ f c) :
  Bst d f (acc ++ [⟨c, c1, f c⟩]) c1 := by
 refine ⟨⟨fun r hr => ?_, ?_⟩, fun r hr => ?_, fun t ht => ?_⟩
 ·rcases List.mem_append.1 hr with hr | hr
  ·exact h.runs.pos r hr
  ·rw [List.mem_singleton.1 hr]; exact hc
 ·refine List.pairwise_append.2 ⟨h.runs.ch, List.pairwise_singleton _ _, fun a ha b hb => ?_⟩
  rw [List.mem_singleton.1 hb]
  refine ⟨h.le a ha, fun he => ?_⟩
  refine hl a ?_ he
  obtain ⟨s, e, rfl⟩ := List.append_of_mem ha
  cases e with
  | nil => simp
  | cons q e =>
   have h1 := h.runs.ch
   rw [List.pairwise_append] at h1
   have h2 := (List.pairwise_cons.1 h1.2.1).1 q (by simp)
   have h3 := h.runs.pos q (by simp)
   have h4 := h.le q (by simp)
   have h5 := h2.1
   have he' : a.hi = c := he
   omega
 ·rcases List.mem_append.1 hr with hr | hr
  ·have := h.le r hr; omega
  ·rw [List.mem_singleton.1 hr]; exact Int.le_refl _
 ·rw [atR_append]
  by_cases h1 : t < c
  ·split
   ·exact h.val t h1
   ·rename_i hn
    have e := h.val t h1
    rw [atR_out fun r hr hh => hn ⟨r, hr, hh⟩] at e
    rw [atR, if_neg (by simp only; omega), atR, e]
  ·rw [if_neg, atR, if_pos ⟨by simp only; omega, ht⟩, hf t (by omega) ht]
   rintro ⟨r, hr, hh⟩
   have := h.le r hr; omega
theorem Bst.grow {f : Int → α} {s : List (Rn α)} {a : Rn α} {c c1 : Int} (h : Bst d f (s ++ [a]) c) (ha : a.hi = c) (hc : c < c1) (hf : ∀ t, c ≤ t → t < c1 → f t = a.v) :
  Bst d f (s ++ [⟨a.lo, c1, a.v⟩]) c1 := by
 have hp := h.runs.pos a (by simp)
 obtain ⟨q1, _, q3⟩ := List.pairwise_append.1 h.runs.ch
 refine ⟨⟨fun r hr => ?_, ?_⟩, fun r hr => ?_, fun t ht => ?_⟩
 ·rcases List.mem_append.1 hr with hr | hr
  ·exact h.runs.pos r (by simp [hr])
  ·rw [List.mem_singleton.1 hr]; simp only; omega
 ·refine List.pairwise_append.2 ⟨q1, List.pairwise_singleton _ _, fun b hb e he => ?_⟩
  rw [List.mem_singleton.1 he]
  exact q3 b hb a (by simp)
 ·rcases List.mem_append.1 hr with hr | hr
  ·have := h.le r (by simp [hr]); omega
  ·rw [List.mem_singleton.1 hr]; exact Int.le_refl _
 ·by_cases h1 : t < c
  ·have := h.val t h1
   rw [atR_append] at this ⊢
   split
   ·rename_i hh; rwa [if_pos hh] at this
   ·rename_i hh
    rw [if_neg hh] at this
    rw [← this, atR, atR]
    have : (a.lo ≤ t ∧ t < c1) ↔ (a.lo ≤ t ∧ t < a.hi) := by omega
    simp only [this, atR]
  ·rw [atR_append, if_neg, atR, if_pos ⟨by simp only; omega, ht⟩, hf t (by omega) ht]
   rintro ⟨r, hr, hh⟩
   have := h.le r (by simp [hr]); omega
end
structure Span where
 left_ : Int
 right_ : Int
 deriving DecidableEq
def Span.rn (s : Span) : Rn Bool := ⟨s.left_, s.right_, true⟩
def Span.has (s : Span) (x : Int) : Bool := decide (s.left_ ≤ x) && decide (x < s.right_)
def inS (l : List Span) (x : Int) : Bool := l.any fun s => s.has x
structure SpOk (l : List Span) : Prop where
 pos : ∀ s ∈ l, s.left_ < s.right_
 ch : l.Pairwise fun a b => a.right_ < b.left_
theorem inS_atR (l : List Span) (x : Int) : inS l x = atR false (l.map Span.rn) x := by
 induction l with
 | nil => rfl
 | cons s l ih =>
  rw [List.map_cons, atR, ← ih]
  simp only [inS, List.any_cons, Span.has, Span.rn]
  by_cases h : s.left_ ≤ x ∧ x < s.right_
  ·simp [h.1, h.2]
  ·by_cases h1 : s.left_ ≤ x
   ·have : ¬ x < s.right_ := fun h2 => h ⟨h1, h2⟩
    simp [this]
   ·simp [h1]
theorem SpOk.runs {l : List Span} (h : SpOk l) : Runs (l.map Span.rn) := by
 refine ⟨fun r hr => ?_, ?_⟩
 ·obtain ⟨s, hs, rfl⟩ := List.mem_map.1 hr
  exact h.pos s hs
 ·rw [List.pairwise_map]
  exact h.ch.imp fun {a b} hab => ⟨by show a.right_ ≤ b.left_; omega, fun e => by have e' : a.right_ = b.left_ := e; omega⟩
theorem SpOk.of_runs {l : List Span} (h : Runs (l.map Span.rn)) : SpOk l := by
 refine ⟨fun s hs => h.pos s.rn (List.mem_map.2 ⟨s, hs, rfl⟩), ?_⟩
 have := h.ch
 rw [List.pairwise_map] at this
 refine this.imp fun {a b} hab => ?_
 have h1 : a.right_ ≤ b.left_ := hab.1
 rcases Int.lt_or_lt_of_ne (fun e : a.right_ = b.left_ => hab.2 e rfl) with h2 | h2
 ·exact h2
 ·omega
theorem Span.rn_inj {a b : Span} (h : a.rn = b.rn) : a = b := by
 cases a; cases b; simp only [Span.rn, Rn.mk.injEq] at h; simp [h.1, h.2.1]
theorem SpOk.unique {l m : List Span} (hl : SpOk l) (hm : SpOk m) (h : ∀ x, inS l x = inS m x) : l = m := by
 have := Runs.unique (d := false) hl.runs hm.runs (fun r hr => by obtain ⟨s, _, rfl⟩ := List.mem_map.1 hr; simp [Span.rn]) (fun r hr => by obtain ⟨s, _, rfl⟩ := List.mem_map.1 hr; simp [Span.rn])
  fun t => by rw [← inS_atR, ← inS_atR, h]
 exact (List.map_inj_right fun a b e => Span.rn_inj e).1 this
structure Rect where
 left_ : Int
 low_ : Int
 right_ : Int
 high_ : Int
 deriving DecidableEq
def Rect.has (r : Rect) (x y : Int) : Bool := decide (r.left_ ≤ x) && decide (x < r.right_) && decide (r.low_ ≤ y) && decide (y < r.high_)
def inR (l : List Rect) (x y : Int) : Bool := l.any fun r => r.has x y
structure Bands (l : List (Rn (List Span))) : Prop where
 runs : Runs l
 sp : ∀ b ∈ l, SpOk b.v
 ne : ∀ b ∈ l, b.v ≠ []
def flat1 (b : Rn (List Span)) : List Rect := b.v.map fun s => ⟨s.left_, b.lo, s.right_, b.hi⟩
def flat (l : List (Rn (List Span))) : List Rect := l.flatMap flat1
theorem inR_append (l m : List Rect) (x y : Int) : inR (l ++ m) x y = (inR l x y || inR m x y) := by simp [inR]
theorem inR_flat1 (b : Rn (List Span)) (x y : Int) : inR (flat1 b) x y = ((decide (b.lo ≤ y) && decide (y < b.hi)) && inS b.v x) := by
 unfold inR flat1 inS
 rw [List.any_map]
 induction b.v with
 | nil => simp
 | cons s l ih =>
  rw [List.any_cons, List.any_cons, ih]
  simp only [Function.comp, Rect.has, Span.has]
  cases decide (b.lo ≤ y) <;> cases decide (y < b.hi) <;> simp
theorem Runs.inR_flat {l : List (Rn (List Span))} (h : Runs l) (x y : Int) : inR (flat l) x y = inS (atR [] l y) x := by
 induction l with
 | nil => rfl
 | cons b l ih =>
  have e : flat (b :: l) = flat1 b ++ flat l := rfl
  rw [e, inR_append, inR_flat1, ih h.tail, atR]
  by_cases hy : b.lo ≤ y ∧ y < b.hi
  ·rw [if_pos hy, atR_out fun r hr => by have := (h.head r hr).1; omega]
   simp [hy.1, hy.2, inS]
  ·rw [if_neg hy]
   have : (decide (b.lo ≤ y) && decide (y < b.hi)) = false := by simpa using hy
   simp [this]
theorem SpOk.at {l : List (Rn (List Span))} (h : ∀ b ∈ l, SpOk b.v) (y : Int) : SpOk (atR [] l y) := by
 induction l with
 | nil => exact ⟨fun s hs => by simp [atR] at hs, .nil⟩
 | cons b l ih =>
  rw [atR]
  split
  ·exact h b (by simp)
  ·exact ih fun b hb => h b (by simp [hb])
theorem Bands.unique {l m : List (Rn (List Span))} (hl : Bands l) (hm : Bands m) (h : ∀ x y, inS (atR [] l y) x = inS (atR [] m y) x) : l = m :=
 Runs.unique (d := []) hl.runs hm.runs hl.ne hm.ne fun y => SpOk.unique (SpOk.at hl.sp y) (SpOk.at hm.sp y) fun x => h x y
def Fin (S : Int → Int → Bool) : Prop := ∃ l, Bands l ∧ ∀ x y, inS (atR [] l y) x = S x y
open Classical in
noncomputable def cn (S : Int → Int → Bool) : List Rect := if h : Fin S then flat h.choose else []
theorem cn_eq {S : Int → Int → Bool} {l : List (Rn (List Span))} (hl : Bands l) (h : ∀ x y, inS (atR [] l y) x = S x y) : cn S = flat l := by
 have hf : Fin S := ⟨l, hl, h⟩
 unfold cn
 rw [dif_pos hf]
 have := hf.choose_spec
 rw [this.1.unique hl fun x y => (this.2 x y).trans (h x y).symm]
theorem inR_cn {S : Int → Int → Bool} (h : Fin S) (x y : Int) : inR (cn S) x y = S x y := by
 obtain ⟨l, hl, hS⟩ := h
 rw [cn_eq hl hS, hl.runs.inR_flat, hS]
theorem cn_bands {S : Int → Int → Bool} (h : Fin S) : ∃ l, Bands l ∧ cn S = flat l ∧ ∀ x y, inS (atR [] l y) x = S x y := by
 obtain ⟨l, hl, hS⟩ := h
 exact ⟨l, hl, cn_eq hl hS, hS⟩
def Canon (l : List Rect) : Prop := ∃ b, Bands b ∧ l = flat b
theorem Canon.eq_cn {l : List Rect} (h : Canon l) : l = cn (inR l) := by
 obtain ⟨b, hb, rfl⟩ := h
 exact (cn_eq hb fun x y => (hb.runs.inR_flat x y).symm).symm
theorem Canon.fin {l : List Rect} (h : Canon l) : Fin (inR l) := by
 obtain ⟨b, hb, rfl⟩ := h
 exact ⟨b, hb, fun x y => (hb.runs.inR_flat x y).symm⟩
theorem Canon.cn {S : Int → Int → Bool} (h : Fin S) : Canon (cn S) := by
 obtain ⟨l, hl, e, _⟩ := cn_bands h
 exact ⟨l, hl, e⟩
theorem Canon.unique {l m : List Rect} (hl : Canon l) (hm : Canon m) (h : ∀ x y, inR l x y = inR m x y) : l = m := by
 rw [hl.eq_cn, hm.eq_cn]; congr 1; funext x y; exact h x y
end Go.Ab
end
