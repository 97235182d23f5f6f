/- Abstract states over the model: every lemma holds of any program of the form that it names. -/
import Derived.Test.YthifkkpkmdpoiaaGreatAbB
import Derived.Test.YthifkkpkmdpoiaaGreatPuA
import Derived.Sort.AssemblyPlain
import Derived.Lib.BitFns
import Derived.Shelf.SortM.Plain
import Derived.Shelf.SortM.SortNone
import Derived.Shelf.SlSortCmp.WholeK
import Derived.Shelf.SlSortCmp.NoneTotal
import Derived.WalkKit
import Derived.ProofKit
import Derived.OpenShut
import Derived.Carry
import Derived.ChangeSame
import Derived.ChangeSlices
import Derived.Laws.Small
import Derived.Laws.Entries
import Derived.Shelf.Spec.SlicesGrow
import Derived.Deep.Slices
import Derived.ChangeArms
set_option linter.unusedVariables false
set_option linter.unusedSimpArgs false
section
namespace Go.Ab
section
variable {α : Type} [Emb α]
def clr (l : List α) (lo n : Nat) : List α := (List.range l.length).map fun i => if lo ≤ i ∧ i < lo + n then Emb.d else gl l i
theorem Is.of_gl {f : Nat → List DVal} {N : Nat} (l : List α) (h : l.length = N) (hf : ∀ i, i < N → f i = Emb.cells (gl l i)) : Is N f l := by
 subst h
 refine ⟨rfl, fun i hi => ?_⟩
 rw [hf i hi]; rfl
theorem gl_map_range (N : Nat) (f : Nat → α) (i : Nat) (h : i < N) : gl ((List.range N).map f) i = f i := by simp [gl, List.getD_eq_getElem?_getD, h]
theorem Is.clr {l : List α} (lo n : Nat) {zd : List DVal} (hz : zd = Emb.cells (Emb.d : α)) : Is l.length (fun i => if lo ≤ i ∧ i < lo + n then (fun _ => zd) (i - lo) else LF l i) (clr l lo n) := by
 refine Is.of_gl _ (by simp [Go.Ab.clr]) fun i hi => ?_
 rw [Go.Ab.clr, gl_map_range _ _ _ hi]
 by_cases h : lo ≤ i ∧ i < lo + n
 ·rw [if_pos h, if_pos h, hz]
 ·rw [if_neg h, if_neg h]; rfl
end
end Go.Ab
end

section
namespace Go.Ab
open Go.Sort
def sortI (l : List Int) : Option (List Int) := if l.length ≤ LIM then some (l.mergeSort fun x y => decide (x ≤ y)) else none
theorem sortI_some {l r : List Int} (h : sortI l = some r) : l.length ≤ LIM ∧ r = l.mergeSort fun x y => decide (x ≤ y) := by
 unfold sortI at h
 split at h
 ·cases h; exact ⟨‹_›, rfl⟩
 ·cases h
def ltC {α : Type} (cf : α → α → Int) (x y : α) : Bool := decide (cf x y < 0)
section
variable {α : Type} [Emb α]
def pdqL (cf : α → α → Int) (l : List α) : List α := (@pdq α ⟨Emb.d⟩ (ltC cf) l.toArray 0 l.length (Lib.bitLen l.length) true true).toList
open Classical in
noncomputable def sortF (l : List α) (q : α → α → Option Int) : Option (List α) :=
 if h : l.length ≤ LIM ∧ ∃ cf : α → α → Int, SWO (ltC cf) ∧ ∀ x y, q x y = some (cf x y) then some (pdqL h.2.choose l) else none
theorem sortF_eq {l : List α} {q : α → α → Option Int} (cf : α → α → Int) (hl : l.length ≤ LIM) (hO : SWO (ltC cf)) (hq : ∀ x y, q x y = some (cf x y)) : sortF l q = some (pdqL cf l) := by
 have h : l.length ≤ LIM ∧ ∃ cf : α → α → Int, SWO (ltC cf) ∧ ∀ x y, q x y = some (cf x y) := ⟨hl, cf, hO, hq⟩
 unfold sortF
 rw [dif_pos h]
 have e : h.2.choose = cf := by
  funext x y
  have := (h.2.choose_spec.2 x y).symm.trans (hq x y)
  exact Option.some.inj this
 rw [e]
theorem sortF_some {l r : List α} {q : α → α → Option Int} (h : sortF l q = some r) : l.length ≤ LIM ∧ ∃ cf : α → α → Int, SWO (ltC cf) ∧ (∀ x y, q x y = some (cf x y)) ∧ r = pdqL cf l := by
 unfold sortF at h
 split at h
 ·rename_i hh
  cases h
  exact ⟨hh.1, hh.2.choose, hh.2.choose_spec.1, hh.2.choose_spec.2, rfl⟩
 ·cases h
end
section
variable {α : Type}
def LtQ (q : α → α → Option Int) (a b : α) : Prop := ∃ z, q a b = some z ∧ z < 0
def GeQ (q : α → α → Option Int) (a b : α) : Prop := ∃ z, q a b = some z ∧ 0 ≤ z
structure SortedQ (q : α → α → Option Int) (x r : List α) : Prop where
 perm : r.Perm x
 asc : r.Pairwise fun a b => LtQ q a b ∧ GeQ q b a
 self : ∀ a ∈ r, GeQ q a a
theorem LtQ.not {q : α → α → Option Int} {a b : α} (h : LtQ q a b) (k : GeQ q a b) : False := by
 obtain ⟨z, e, h⟩ := h
 obtain ⟨z', e', h'⟩ := k
 rw [e] at e'; cases e'; omega
theorem asc_uniq {q : α → α → Option Int} : ∀ {r r' : List α}, r.Perm r' → (r.Pairwise fun a b => LtQ q a b ∧ GeQ q b a) → (r'.Pairwise fun a b => LtQ q a b ∧ GeQ q b a) → r = r' := by
 intro r
 induction r with
 | nil => intro r' hp _ _; exact (List.Perm.nil_eq hp)
 | cons a t ih =>
  intro r' hp h1 h2
  cases r' with
  | nil => exact absurd hp.length_eq (by simp)
  | cons b t' =>
   rw [List.pairwise_cons] at h1 h2
   have hab : a = b := by
    rcases List.mem_cons.1 (hp.mem_iff.1 List.mem_cons_self) with h3 | h3
    ·exact h3
    ·rcases List.mem_cons.1 (hp.mem_iff.2 List.mem_cons_self) with h4 | h4
     ·exact h4.symm
     ·exact ((h1.1 b h4).1.not (h2.1 a h3).2).elim
   subst hab
   rw [ih ((List.perm_cons a).1 hp) h1.2 h2.2]
theorem SortedQ.uniq {q : α → α → Option Int} {x r r' : List α} (h : SortedQ q x r) (h' : SortedQ q x r') : r = r' := asc_uniq (h.perm.trans h'.perm.symm) h.asc h'.asc
open Classical in
noncomputable def sortG (x : List α) (q : α → α → Option Int) : Option (List α) := if h : x.length ≤ LIM ∧ ∃ r, SortedQ q x r then some h.2.choose else none
theorem sortG_eq {x r : List α} {q : α → α → Option Int} (hl : x.length ≤ LIM) (h : SortedQ q x r) : sortG x q = some r := by
 have hh : x.length ≤ LIM ∧ ∃ r, SortedQ q x r := ⟨hl, r, h⟩
 unfold sortG
 rw [dif_pos hh, hh.2.choose_spec.uniq h]
theorem sortG_some {x r : List α} {q : α → α → Option Int} (h : sortG x q = some r) : x.length ≤ LIM ∧ SortedQ q x r := by
 unfold sortG at h
 split at h
 ·rename_i hh; cases h; exact ⟨hh.1, hh.2.choose_spec⟩
 ·cases h
theorem SortedQ.at {q : α → α → Option Int} {x r : List α} (h : SortedQ q x r) (i j : Nat) (hi : i < r.length) (hj : j < r.length) : (i < j → LtQ q r[i] r[j]) ∧ (j ≤ i → GeQ q r[i] r[j]) := by
 have hp := List.pairwise_iff_getElem.1 h.asc
 refine ⟨fun hij => (hp i j hi hj hij).1, fun hij => ?_⟩
 rcases Nat.lt_or_ge j i with h1 | h1
 ·exact (hp j i hj hi h1).2
 ·have : i = j := by omega
  subst this
  exact h.self _ (List.getElem_mem hi)
end
def growN {α : Type} (n : Int) : Option (List α) := if 0 ≤ n ∧ n ≤ LIM then some [] else none
end Go.Ab
end

section
namespace Go.Ab
open Go.Sort Go.Proofs Go.Shelf
theorem putRow_heap {α : Type} [Inhabited α] (enc : α → Value) (w : World) (b off n : Nat) (d : Array α) (os : Array Go.Obj) {c : Array Value} {e : TypeId} {fz : Nat × Nat} (hb : w.heap[b]? = some (.cells c e fz)) :
  (grow (putRow enc (Go.Sort.ahead w n) b off d) os).heap[b]? = some (.cells (putCells enc off d c) e fz) := by
 have hlt : b < w.heap.size := lt_of_heap hb
 unfold grow
 rw [Array.getElem?_append]
 rw [if_pos (by simpa using hlt)]
 unfold putRow mapBlock
 simp only [Array.getElem?_modify, if_true]
 show Option.map _ (w.heap[b]?) = _
 rw [hb]
 rfl
theorem putRow_stp {α : Type} [Inhabited α] (enc : α → Value) (w : World) (b off n : Nat) (d : Array α) (os : Array Go.Obj) : Stp (fun x => x = b) w (grow (putRow enc (Go.Sort.ahead w n) b off d) os) := by
 refine ⟨rfl, rfl, rfl, by simp [Go.Sort.ahead], fun x hx hn => ?_, Nat.le_add_right _ _⟩
 unfold grow
 rw [Array.getElem?_append]
 rw [if_pos (by simpa [Go.Sort.ahead] using hx)]
 unfold putRow mapBlock
 simp only [Array.getElem?_modify]
 rw [if_neg (Ne.symm hn)]
 rfl
theorem size_putCells' {α : Type} [Inhabited α] (enc : α → Value) (off : Nat) (d : Array α) (c : Array Value) : (putCells enc off d c).size = c.size := by simp [putCells]
theorem getD_putCells {α : Type} [Inhabited α] (enc : α → Value) (d : Array α) (c : Array Value) (j : Nat) (hj : j < d.size) (hs : d.size ≤ c.size) : (putCells enc 0 d c).getD j undef = enc d[j]! := by
 have hc : j < c.size := by omega
 simp [putCells, hc, hj]
theorem LF_int (l : List Int) (i : Nat) : LF l i = [.int .i64 (l.getD i 0)] := rfl
theorem behind_one {w w' : World} {X : Nat → Prop} {η : Nat → Value} {α : Type} [Emb α] {l r : List α} {b n cap : Nat} {c' : Array Value} {e : TypeId} (hη : η 0 = .slice (some ⟨b, 0, none⟩) n cap) (h0 : 0 < cap)
  (hstp : Stp (fun x => x = b) w w') (hh : w'.heap[b]? = some (.cells c' e (0, 0))) (hs : c'.size = cap * Emb.es α) (hr : r.length = n) (hn : n ≤ cap) (hm : cap ≤ maxLen)
  (hd : ∀ i j, i < n → j < Emb.es α → DRep w' X (c'.getD (i * Emb.es α + j) undef) ((LF r i).getD j .any)) (hX : ∀ x, X x → x < w.heap.size) (hXb : X b) :
  Behind (callCtx [(0, AO l)] w X η) .any [(0, AO r)] (.tuple #[]) η w' := by
 subst hr
 have hblk : ∀ x, x ∈ blks (η 0) ↔ x = b := by intro x; rw [hη]; simp [blks]; omega
 have hown : ∀ i o, ls [(0, AO (α := α) r)] i = some o → i = 0 ∧ o = AO r := by
  intro i o hi
  rw [ls_cons] at hi
  by_cases h : i = 0
  ·rw [if_pos h] at hi; cases hi; exact ⟨h, rfl⟩
  ·rw [if_neg h] at hi; cases hi
 have hM : ∀ x, x = b → (callCtx [(0, AO (α := α) l)] w X η).M x := by
  rintro x rfl
  exact ⟨0, AO l, by rw [ls_cons, if_pos rfl], rfl, (hblk _).2 rfl⟩
 have hXS : ∀ x, XS (callCtx [(0, AO (α := α) l)] w X η) (ls [(0, AO (α := α) r)]) η x → X x := by
  rintro x (⟨hx, _⟩ | ⟨i, o, hi, hib⟩)
  ·exact hx
  ·obtain ⟨rfl, _⟩ := hown i o hi
   rw [(hblk x).1 hib]; exact hXb
 refine ⟨hstp.mono fun x _ hx => hM x hx, .any _, fun i o hi => ?_, fun i j x hi hj _ _ => ?_, fun i o x hi hb => ?_, fun i v hi => ?_⟩
 ·obtain ⟨rfl, rfl⟩ := hown i o hi
  rw [hη]
  refine .arr b _ cap _ c' e _ hh hs hn hm h0 (Is.refl r).len fun i j hi hj => ?_
  exact (hd i j hi hj).mono fun x _ hx => ⟨rfl, fun hx' => hx (hXS x hx')⟩
 ·obtain ⟨oi, hi⟩ := Option.ne_none_iff_exists'.1 hi
  obtain ⟨oj, hj⟩ := Option.ne_none_iff_exists'.1 hj
  rw [(hown i oi hi).1, (hown j oj hj).1]
 ·obtain ⟨rfl, rfl⟩ := hown i o hi
  exact .inr (.inl (hM x ((hblk x).1 hb)))
 ·change (if ((List.lookup i [(0, AO (α := α) l)]).isSome = true) then some (η i) else none) = some v at hi
  split at hi
  ·cases hi; rfl
  ·cases hi
theorem behind_none {w : World} {X : Nat → Prop} {η : Nat → Value} {α : Type} [Emb α] {l : List α} {ad : Option Addr} (hη : η 0 = .slice ad 0 0) (hX : ∀ x, X x → x < w.heap.size) :
  Behind (callCtx [(0, AO l)] w X η) .any [(0, AO ([] : List α))] (.tuple #[]) η w := by
 have hblk : ∀ x, x ∉ blks (η 0) := by intro x; rw [hη]; cases ad <;> simp [blks]
 have hown : ∀ i o, ls [(0, AO ([] : List α))] i = some o → i = 0 ∧ o = AO ([] : List α) := by
  intro i o hi
  rw [ls_cons] at hi
  by_cases h : i = 0
  ·rw [if_pos h] at hi; cases hi; exact ⟨h, rfl⟩
  ·rw [if_neg h] at hi; cases hi
 refine ⟨Stp.refl _ _, .any _, fun i o hi => ?_, fun i j x hi hj _ _ => ?_, fun i o x hi hb => ?_, fun i v hi => ?_⟩
 ·obtain ⟨rfl, rfl⟩ := hown i o hi
  rw [hη]; exact .nil _ _ _
 ·obtain ⟨oi, hi⟩ := Option.ne_none_iff_exists'.1 hi
  obtain ⟨oj, hj⟩ := Option.ne_none_iff_exists'.1 hj
  rw [(hown i oi hi).1, (hown j oj hj).1]
 ·obtain ⟨rfl, rfl⟩ := hown i o hi
  exact absurd hb (hblk x)
 ·change (if ((List.lookup i [(0, AO (α := α) l)]).isSome = true) then some (η i) else none) = some v at hi
  split at hi
  ·cases hi; rfl
  ·cases hi
theorem vs_one {vs : Array Value} (h : vs.size = 1) : vs = #[vs.getD 0 undef] := by
 apply Array.ext
 ·simpa using h
 ·intro i h1 h2
  have : i = 0 := by omega
  subst this
  simp [h1]
theorem vs_two {vs : Array Value} (h : vs.size = 2) : vs = #[vs.getD 0 undef, vs.getD 1 undef] := by
 apply Array.ext
 ·simpa using h
 ·intro i h1 h2
  have : i = 0 ∨ i = 1 := by omega
  rcases this with rfl | rfl <;> simp [h1]
theorem sortI_FSpec {P : Program} {ρ : Ren} (Ly : SlLaysM.n5 P ρ) {x r : List Int} (h : sortI x = some r) : FSpec P (ρ.f 5) [.v (.c (.own 0))] [(0, AO (α := Int) x)] .any [(0, AO (α := Int) r)] := by
 obtain ⟨hl, rfl⟩ := sortI_some h
 intro w X η vs hX hown hobj hds hlen hargs
 have hlen : vs.size = 1 := hlen
 have hv0 : vs.getD 0 undef = η 0 := own_inv (C := callCtx [(0, AO (α := Int) x)] w X η) (s := ls [(0, AO (α := Int) x)]) (by have := hargs 0 (by simp); rw [own_ext hown]; exact this)
 rw [vs_one hlen, hv0]
 have ho := hobj 0 (AO x) (by rw [ls_cons, if_pos rfl])
 have hXb : ∀ b, b ∈ blks (η 0) → X b := fun b hb => hown b ⟨0, _, by rw [ls_cons, if_pos rfl], hb⟩
 generalize hu : η 0 = u at ho
 unfold AO at ho
 generalize hn : x.length = n at ho
 cases ho with
 | nil ad =>
  have hx : x = [] := List.eq_nil_of_length_eq_zero hn
  refine (AnyM.slices_Sort_int_none Ly ad 0 w).mono fun e w' hh => ?_
  obtain ⟨he, hw⟩ := hh
  refine ⟨_, η, he, ?_⟩
  rw [hw]
  have hb := behind_none (w := w) (X := X) (l := x) hu hX
  subst hx
  simpa using hb
 | arr b _ cap _ c e _ h1 h2 h3 h4 h5 h6 h7 =>
  have hes : Emb.es Int = 1 := rfl
  rename_i n
  have hcell : ∀ j, j < n → c.getD j undef = .int .i64 (x.getD j 0) := by
   intro j hj
   have := h7 j 0 hj (by rw [hes]; omega)
   rw [hes, Nat.mul_one, Nat.add_zero, LF_int] at this
   have h0 : DRep w X (c.getD j undef) (.int .i64 (x.getD j 0)) := this
   generalize c.getD j undef = u at h0
   cases h0; rfl
  have hsz : c.size = cap := by rw [h2, hes, Nat.mul_one]
  have hH : Holds (Value.int .i64) w b 0 x.toArray := by
   intro j hj
   have hj' : j < n := by simpa [hn] using hj
   have hjx : j < x.length := by omega
   have hjc : j < c.size := by omega
   refine ⟨?_, by simp [World.frozen?, h1]⟩
   have := hcell j hj'
   simp only [Nat.zero_add, World.cell?, h1, Option.isSome_none, Bool.false_eq_true, if_false]
   simp only [hjc, Array.getD, dite_true] at this
   rw [Array.getElem?_eq_getElem hjc]
   congr 1
   refine Eq.trans this ?_
   simp [hjx]
  rw [← hn]
  refine ((AnyM.slices_Sort_int Ly b 0 cap x w hH (lt_of_heap h1) (by simp only [LIM] at hl; omega)).mono fun e' w' hh => ?_)
  ·obtain ⟨rfl, q, os, hw⟩ := hh
   subst hw
   refine ⟨_, η, rfl, ?_⟩
   have hlen2 : (x.mergeSort fun x y => decide (x ≤ y)).length = n := by rw [List.length_mergeSort]; exact hn
   refine behind_one (c' := putCells (Value.int .i64) 0 (x.mergeSort fun x y => decide (x ≤ y)).toArray c) (e := e) (b := b) (n := n) (cap := cap) hu h5 (putRow_stp _ _ _ _ _ _ _) (putRow_heap _ _ _ _ _ _ _ h1) (by rw [size_putCells']; exact h2) hlen2 h3 h4 (fun i j hi hj => ?_) hX (hXb b (by rw [hu]; simp [blks]; omega))
   have hj0 : j = 0 := by rw [hes] at hj; omega
   subst hj0
   rw [hes, Nat.mul_one, Nat.add_zero, getD_putCells _ _ _ _ (by simpa [hlen2] using hi) (by simp only [List.size_toArray, hlen2]; omega), LF_int]
   have : i < (x.mergeSort fun x y => decide (x ≤ y)).length := by omega
   have e2 : (x.mergeSort fun x y => decide (x ≤ y)).toArray[i]! = (x.mergeSort fun x y => decide (x ≤ y)).getD i 0 := by
    simp [List.getD_eq_getElem?_getD, this]
   rw [e2]
   exact .int _ _
end Go.Ab
end

section
namespace Go.Ab
open Go.Sort Go.Proofs Go.Shelf
def DVal.lit : DVal → Bool
 | .int _ _ => true
 | .bool _ => true
 | .str _ => true
 | _ => false
def DVal.val : DVal → Value
 | .int k n => .int k n
 | .bool b => .bool b
 | .str s => .string s
 | _ => undef
theorem DRep.lit {w : World} {X : Nat → Prop} {v : Value} {d : DVal} (h : DRep w X v d) (hd : d.lit = true) : v = d.val := by
 cases h <;> first | rfl | cases hd
theorem DVal.rep (w : World) (X : Nat → Prop) {d : DVal} (hd : d.lit = true) : DRep w X d.val d := by
 cases d with
 | int k n => exact .int k n
 | bool b => exact .bool b
 | str s => exact .str s
 | _ => cases hd
theorem DVal.val_one {d : DVal} (hd : d.lit = true) : d.val.oneCell' = true := by
 cases d <;> first | rfl | cases hd
theorem stp_grow {w w' : World} (h : Stp (fun _ => False) w w') : ∃ q os, w' = grow (w.drewN q) os := by
 refine ⟨w'.drawn - w.drawn, w'.heap.extract w.heap.size w'.heap.size, ?_⟩
 have hh : w'.heap = w.heap ++ w'.heap.extract w.heap.size w'.heap.size := by
  apply Array.ext_getElem?
  intro k
  rw [Array.getElem?_append]
  split
  ·rename_i hk; exact h.block k hk fun hf => hf
  ·rename_i hk
   rw [Array.getElem?_extract]
   have hs := h.size
   by_cases h2 : k < w'.heap.size
   ·rw [if_pos (by omega)]; congr 1; omega
   ·rw [if_neg (by omega), Array.getElem?_eq_none (by omega)]
 have hd := h.dr
 have e1 : w' = ⟨w'.heap, w'.tape, w'.drawn, w'.os, w'.output⟩ := rfl
 rw [e1, h.tape, h.os, h.output]
 unfold grow World.drewN
 congr 1
 simp only
 omega
theorem getD_lt {β : Type} (l : List β) (j : Nat) (h : j < l.length) (d : β) : l.getD j d = l[j] := by
 rw [List.getD_eq_getElem?_getD, List.getElem?_eq_getElem h]; rfl
theorem getD_bang {β : Type} [Inhabited β] (l : List β) (j : Nat) (h : j < l.length) (d : β) : l.getD j d = l[j]! := by
 rw [getD_lt l j h d, getElem!_pos l j h]
theorem getD_map_lt (l : List DVal) (j : Nat) (h : j < l.length) : (l.map DVal.val).getD j undef = (l[j]).val := by
 rw [getD_lt _ j (by simpa using h)]; simp
theorem sortF_FSpec {α : Type} [Emb α] {P : Program} {L : Lay} (hL : LOk P L) {ρ : Ren} (Ly : SlLaysF0.n6 P ρ) (hlit : ∀ x : α, (Emb.cells x).all DVal.lit = true) {te : TI} (hte : L (ρ.t 24) = some te) (hagg : te.kind.agg = true) (hsz : te.size = Emb.es α)
  (F : (α → α → Option Int) → List AVal → AVal → Prop) (hF : ∀ q x y z, q x y = some z → F q [.v (.g ((Emb.cells x).map .d)), .v (.g ((Emb.cells y).map .d))] (vi z)) {x r : List α} {q : α → α → Option Int} (h : sortF x q = some r) :
  FSpec P (ρ.f 6) [.v (.c (.own 0)), vclo P (F q)] [(0, AO (α := α) x)] .any [(0, AO (α := α) r)] := by
 obtain ⟨hl, cf, hO, hq, rfl⟩ := sortF_some h
 obtain ⟨ti, td, tz, hti⟩ := hL _ _ hte
 letI inst : Inhabited α := ⟨Emb.d⟩
 let enc : α → List Value := fun x => (Emb.cells x).map DVal.val
 have hk : ∀ x, (enc x).length = Emb.es α := fun x => by simp [enc, Emb.len]
 have h1 : ∀ x, ∀ v ∈ enc x, v.oneCell' = true := by
  intro x v hv
  obtain ⟨d, hd, rfl⟩ := List.mem_map.1 hv
  exact DVal.val_one (List.all_eq_true.1 (hlit x) d hd)
 intro w X η vs hX hown hobj hds hlen hargs
 have hlen : vs.size = 2 := hlen
 have hv0 : vs.getD 0 undef = η 0 := own_inv (C := callCtx [(0, AO (α := α) x)] w X η) (s := ls [(0, AO (α := α) x)]) (by have := hargs 0 (by simp); rw [own_ext hown]; exact this)
 have hv1 : CloOK P (F q) w (Own (ls [(0, AO (α := α) x)]) η) X (vs.getD 1 undef) := by
  have := hargs 1 (by simp)
  change ARep w X η _ (vs.getD 1 undef) (vclo P (F q)) at this
  generalize vs.getD 1 undef = u at this
  cases this with | v _ _ hh => cases hh with | c _ _ hh => cases hh with | sem _ _ hh _ => exact hh
 rw [vs_two hlen, hv0]
 have ho := hobj 0 (AO x) (by rw [ls_cons, if_pos rfl])
 have hXb : ∀ b, b ∈ blks (η 0) → X b := fun b hb => hown b ⟨0, _, by rw [ls_cons, if_pos rfl], hb⟩
 generalize hu : η 0 = u at ho
 have hplen : (pdqL cf x).length = x.length := by
  have := (pdq_sorts (ltC cf) hO x.toArray 0 x.length (Lib.bitLen x.length) true true (Nat.zero_le _) (by simp) (.inl rfl)).1.1
  unfold pdqL
  simpa using this
 unfold AO at ho
 generalize hn : x.length = n at ho
 cases ho with
 | nil ad =>
  have hx : x = [] := List.eq_nil_of_length_eq_zero hn
  refine (AnyF.slices_SortFunc_none Ly ad 0 _ w).mono fun e w' hh => ?_
  obtain ⟨he, hw⟩ := hh
  refine ⟨_, η, he, ?_⟩
  rw [hw]
  have hb := behind_none (w := w) (X := X) (l := x) hu hX
  have hp : pdqL cf x = [] := List.eq_nil_of_length_eq_zero (by rw [hplen, hn])
  rw [hp]; exact hb
 | arr b _ cap _ c e _ g1 g2 g3 g4 g5 g6 g7 =>
  rename_i n
  obtain ⟨fid, caps, hfv, hcall, hclo⟩ := hv1
  rw [hfv]
  have hdel : ∀ i, i < n → (LF x i) = Emb.cells (x.getD i Emb.d) := fun i _ => rfl
  have hcell : ∀ i j, i < n → j < Emb.es α → c.getD (i * Emb.es α + j) undef = (enc (x.getD i Emb.d)).getD j undef := by
   intro i j hi hj
   have h0 := g7 i j hi hj
   have hj' : j < (Emb.cells (x.getD i Emb.d)).length := by rw [Emb.len]; exact hj
   have e1 : (LF x i).getD j .any = (Emb.cells (x.getD i Emb.d))[j] := getD_lt _ _ hj' _
   rw [e1] at h0
   have h2 := h0.lit (List.all_eq_true.1 (hlit _) _ (List.getElem_mem hj'))
   rw [h2]
   exact (getD_map_lt _ _ hj').symm
  have hflat : ∀ t, t < n * Emb.es α → c.getD t undef = (flatK enc (Emb.es α) x.toArray)[t]! := by
   intro t ht
   have hpos : 0 < Emb.es α := by
    rcases Nat.eq_zero_or_pos (Emb.es α) with hz | hz
    ·rw [hz, Nat.mul_zero] at ht; omega
    ·exact hz
   have p1 : t / Emb.es α < n := Nat.div_lt_of_lt_mul (by rw [Nat.mul_comm]; exact ht)
   have p2 : t % Emb.es α < Emb.es α := Nat.mod_lt _ hpos
   have := hcell _ _ p1 p2
   rw [show t / Emb.es α * Emb.es α + t % Emb.es α = t from by rw [Nat.mul_comm]; exact Nat.div_add_mod t _] at this
   rw [this, get_flatK _ _ _ _ (by simpa [hn] using ht)]
   have e2 : x.toArray[t / Emb.es α]! = x.getD (t / Emb.es α) Emb.d := by
    have : t / Emb.es α < x.length := by omega
    simp [List.getD_eq_getElem?_getD, this]
   rw [e2]
   have : t % Emb.es α < (enc (x.getD (t / Emb.es α) Emb.d)).length := by rw [hk]; exact p2
   exact getD_bang _ _ this _
  have hH : HoldsK enc (Emb.es α) w b 0 x.toArray := by
   intro t ht
   have ht' : t < n * Emb.es α := by simpa [hn] using ht
   have htc : t < c.size := by
    have : n * Emb.es α ≤ cap * Emb.es α := Nat.mul_le_mul_right _ g3
    omega
   refine ⟨?_, by simp [World.frozen?, g1]⟩
   have := hflat t ht'
   simp only [Nat.zero_add, World.cell?, g1, Option.isSome_none, Bool.false_eq_true, if_false, id]
   rw [Array.getElem?_eq_getElem htc]
   congr 1
   rw [← this]; simp [htc]
  have hblk : b ∈ blks (η 0) := by rw [hu]; simp [blks]; omega
  have hcmp : CmpLays P fid caps enc (Emb.es α) cf b 0 x.toArray.size w := by
   intro m os dk hdk u v
   have hst := putRow_stp id w b 0 m (flatK enc (Emb.es α) dk) os
   have hrep : ∀ (w1 : World) (z : α) η C, ARep w1 X η C (.agg (enc z).toArray) (.v (.g ((Emb.cells z).map .d))) := by
    intro w1 z η' C'
    refine .v _ _ (.g _ _ ⟨by simp [enc], fun j hj => ?_⟩)
    have hj' : j < (Emb.cells z).length := by simpa using hj
    have e1 : (enc z).toArray.getD j undef = ((Emb.cells z)[j]).val := by
     have : (enc z).toArray.getD j undef = (enc z).getD j undef := by simp [List.getD_eq_getElem?_getD]
     rw [this]; exact getD_map_lt _ _ hj'
    have e2 : ((Emb.cells z).map CV.d).getD j (.d .any) = .d ((Emb.cells z)[j]) := by rw [getD_lt _ j (by simpa using hj')]; simp
    rw [e1, e2]
    exact .d _ _ (DVal.rep _ _ (List.all_eq_true.1 (hlit z) _ (List.getElem_mem hj')))
   refine (hclo (grow (putRow id (Go.Sort.ahead w m) b 0 (flatK enc (Emb.es α) dk)) os) X #[.agg (enc u).toArray, .agg (enc v).toArray] _ _ (hF q u v (cf u v) (hq u v)) hst.size (fun y hy hD => hst.block y hy fun e => hD ?_)
    (fun y hy => Nat.lt_of_lt_of_le (hX y hy) hst.size) (fun y _ _ => Iff.rfl) rfl (fun j hj η C => ?_)).mono fun e2 w2 hh => ?_
   ·rw [e]; exact ⟨0, _, by rw [ls_cons, if_pos rfl], hblk⟩
   ·have : j = 0 ∨ j = 1 := by simp at hj; omega
    rcases this with rfl | rfl
    ·exact hrep _ _ _ _
    ·exact hrep _ _ _ _
   ·obtain ⟨v', he, hs2, hr⟩ := hh
    have hr' := hr η (callCtx [] w X η)
    have e3 : v' = .int .i64 (cf u v) := by
     cases hr' with | v _ _ hh => cases hh with | c _ _ hh => cases hh with | d _ _ hh => cases hh; rfl
    obtain ⟨qq, os', hw'⟩ := stp_grow hs2
    exact ⟨by rw [he, e3], qq, os', hw'⟩
  rw [← hn]
  have hmain := AnyQ.slices_SortFunc_eq Ly (Emb.es α) (fun w => by rw [run_isAgg hti w, hagg]) (fun w => by rw [run_sizeOf hti, hsz]) enc hk h1 cf hO fid caps b 0 cap x.toArray w hcall hcmp hH (lt_of_heap g1) (by simp only [List.size_toArray]; simp only [LIM] at hl; omega)
  refine hmain.mono fun e' w' hh => ?_
  obtain ⟨he, nn, os, hw⟩ := hh
  refine ⟨_, η, he, ?_⟩
  have hw2 : w' = grow (putRow id (Go.Sort.ahead w nn) b 0 (flatK enc (Emb.es α) (pdqL cf x).toArray)) os := hw
  rw [hw2]
  refine behind_one (c' := putCells id 0 (flatK enc (Emb.es α) (pdqL cf x).toArray) c) (e := e) (b := b) (n := n) (cap := cap) hu g5 (putRow_stp _ _ _ _ _ _ _) (putRow_heap _ _ _ _ _ _ _ g1) (by rw [size_putCells']; exact g2) (by rw [hplen, hn]) g3 g4 (fun i j hi hj => ?_) hX (hXb b hblk)
  have hlt : i * Emb.es α + j < n * Emb.es α := by
   have : (i + 1) * Emb.es α ≤ n * Emb.es α := Nat.mul_le_mul_right _ hi
   rw [Nat.add_mul, Nat.one_mul] at this; omega
  have hsz2 : (flatK enc (Emb.es α) (pdqL cf x).toArray).size = n * Emb.es α := by simp [hplen, hn]
  rw [getD_putCells _ _ _ _ (by rw [hsz2]; exact hlt) (by rw [hsz2, g2]; exact Nat.mul_le_mul_right _ g3)]
  rw [get_flatK _ _ _ _ (by simpa [hplen, hn] using hlt)]
  have d1 : (i * Emb.es α + j) / Emb.es α = i := by
   rw [Nat.add_comm, Nat.add_mul_div_right _ _ (by omega), Nat.div_eq_of_lt hj, Nat.zero_add]
  have d2 : (i * Emb.es α + j) % Emb.es α = j := by rw [Nat.add_comm, Nat.add_mul_mod_self_right, Nat.mod_eq_of_lt hj]
  rw [d1, d2]
  have e4 : (pdqL cf x).toArray[i]! = (pdqL cf x).getD i Emb.d := by
   have : i < (pdqL cf x).length := by omega
   simp [List.getD_eq_getElem?_getD, this]
  rw [e4]
  have hj' : j < (Emb.cells ((pdqL cf x).getD i Emb.d)).length := by rw [Emb.len]; exact hj
  have e5 : (enc ((pdqL cf x).getD i Emb.d))[j]! = ((Emb.cells ((pdqL cf x).getD i Emb.d))[j]).val := by
   rw [← getD_bang (enc ((pdqL cf x).getD i Emb.d)) j (by rw [hk]; exact hj) undef]; exact getD_map_lt _ _ hj'
  have e6 : (LF (pdqL cf x) i).getD j .any = (Emb.cells ((pdqL cf x).getD i Emb.d))[j] := getD_lt _ _ hj' _
  rw [e5, e6]
  exact DVal.rep _ _ (List.all_eq_true.1 (hlit _) _ (List.getElem_mem hj'))
end Go.Ab
end

section
namespace Go.Ab
open Go.ChangeShapes Go.WideShapes Go.ChangeAt Go.RowKit
theorem cell_inv {w : World} {a : Addr} {v : Value} (h : w.cell? a = some v) : a.spot = none ∧ ∃ c e fz, w.heap[a.block]? = some (.cells c e fz) ∧ a.off < c.size ∧ c.getD a.off undef = v := by
 unfold World.cell? at h
 split at h
 ·rename_i c e fz hb
  split at h
  ·cases h
  ·rename_i hs
   obtain ⟨h1, h2⟩ := Array.getElem?_eq_some_iff.1 h
   exact ⟨by simpa using hs, c, e, fz, hb, h1, by simp [h1, h2]⟩
 ·cases h
theorem add_lit' (b o i : Nat) : (⟨b, o, none⟩ : Addr).add i = ⟨b, o + i, none⟩ := add_lit b o i
theorem drep_ints {w : World} {a : Addr} {len cap : Nat} {zs : List Int} (hl : len ≤ cap) (hz : len ≤ zs.length) (hc : ∀ i, i < zs.length → w.cell? (a.add i) = some (.int .i64 (zs.getD i 0))) :
  DRep w (fun _ => False) (.slice (some a) len cap) (DL (α := Int) (zs.take len)) := by
 have hn : (zs.take len).length = len := by simp; omega
 unfold DL
 rw [hn]
 by_cases h0 : len = 0
 ·subst h0; exact .nil _ _ _
 ·have hs : a.spot = none := by
   have := (cell_inv (hc 0 (by omega))).1
   cases hsp : a.spot with
   | none => rfl
   | some s => simp [Addr.add, hsp] at this
  obtain ⟨b, off, sp⟩ := a
  simp only at hs
  subst hs
  have hc' : ∀ i, i < zs.length → ∃ c e fz, w.heap[b]? = some (.cells c e fz) ∧ off + i < c.size ∧ c.getD (off + i) undef = .int .i64 (zs.getD i 0) := by
   intro i hi
   have := hc i hi
   rw [add_lit'] at this
   exact (cell_inv this).2
  obtain ⟨c, e, fz, hb, _, _⟩ := hc' 0 (by omega)
  have hc2 : ∀ i, i < zs.length → off + i < c.size ∧ c.getD (off + i) undef = .int .i64 (zs.getD i 0) := by
   intro i hi
   obtain ⟨c', e', fz', hb', h1, h2⟩ := hc' i hi
   rw [hb] at hb'; cases hb'
   exact ⟨h1, h2⟩
  refine .lst b off len cap c e fz _ 1 (fun h => h) hb hl (by have := (hc2 (len - 1) (by omega)).1; omega) (fun i _ => rfl) fun i j hi hj => ?_
  have : j = 0 := by omega
  subst this
  rw [Nat.mul_one, Nat.add_zero, (hc2 i (by omega)).2]
  have e1 : ((LF (zs.take len) i).getD 0 .any) = .int .i64 ((zs.take len).getD i 0) := rfl
  rw [e1]
  have e2 : (zs.take len).getD i 0 = zs.getD i 0 := by simp [List.getD_eq_getElem?_getD, List.getElem?_take, hi]
  rw [e2]
  exact .int _ _
theorem open_intsD {H : Type} {enc : TypeId × Value → H} {P : Program} {W : World} {t e : TypeId} {v : Value} {d : DataW H} {ps : List MemPlace} (ht : P.underlying t = some (.slice e)) (he : P.underlying e = some (.int .i64)) (hc : P.cellsOf e = 1) {r : Reach} {b0 : Nat}
  (hv : Value.okWide P W r b0 t v) (hd : DataW.Trod enc P W 0 (fun _ => true) true t v d ps) : ∃ l : List Int, DRep W (fun _ => False) v (DL l) ∧ ∀ n ∈ l, (Lit.int .i64 n).wf = true := by
 obtain ⟨fuel, hf⟩ := hd
 obtain ⟨a0, len, cap, rfl⟩ := okWide_slice ht hv
 rcases open_ints ht he hc hf with ⟨hcs, hx⟩ | ⟨a, len', cap', zs, hcs, hb, hl, hm, hz, hx, hcell, hwz⟩
 ·simp [Value.cells] at hcs
  obtain ⟨rfl, rfl, rfl⟩ := hcs
  exact ⟨[], .nil _ _ _, fun n hn => by cases hn⟩
 ·simp [Value.cells] at hcs
  obtain ⟨rfl, rfl, rfl⟩ := hcs
  simp only [if_true] at hz
  exact ⟨zs.take len, drep_ints hl (by omega) hcell, fun n hn => hwz n (List.mem_of_mem_take hn)⟩
theorem trodAll_later {H : Type} {enc : TypeId × Value → H} {P : Program} (hl : laidOutB P = true) {W W' : World} (hb : Below W.heap.size W W') : ∀ {ts : List TypeId} {vs : List Value} {ds : List (DataW H)} {ps : List MemPlace},
  ts.all (fun t => P.readableRec t && decide (t < P.types.size)) = true → DataW.TrodAll enc P W 0 (fun _ => true) true ts vs ds ps → (∀ x ∈ ps, x.block < W.heap.size) → ∀ sp : Nat → Bool, (∀ x ∈ ps, sp x.block = true) → DataW.TrodAll enc P W' 0 sp true ts vs ds ps
 | [], [], [], _, _, h, _, _, _ => h
 | t :: ts, v :: vs, d :: ds, ps, hr, ⟨p, q, h1, h2, e⟩, hlt, sp, hs => by
  simp only [List.all_cons, Bool.and_eq_true, decide_eq_true_eq] at hr
  subst e
  exact ⟨p, q, WideElems.Trod_stays hl hr.1.1 hr.1.2 h1 (fun x hx => hb.same (hlt x (List.mem_append_left _ hx))) (fun x hx => hs x (List.mem_append_left _ hx)),
   trodAll_later hl hb hr.2 h2 (fun x hx => hlt x (List.mem_append_right _ hx)) sp (fun x hx => hs x (List.mem_append_right _ hx)), rfl⟩
theorem post_true {H : Type} {enc : TypeId × Value → H} {P : Program} (hl : laidOutB P = true) {fn : Func} {s : ChangeSpec} {W W' : World} {args : Array Value} {ds gs : List (DataW H)} {before : List MemPlace} {apart fresh handsOn again : Bool}
  (hW : DataW.Whole enc P fn.params.toList s.vars apart W args.toList ds gs before) (hv : s.vars = []) (hs : s.fn H (ds ++ gs) = { results := [.lit (.bool true)], args := ds }) (hr : fn.params.toList.all (fun t => P.readableRec t && decide (t < P.types.size)) = true)
  {t : TypeId} (hres : fn.resultTypes = #[t]) (ht : P.underlying t = some .bool) (hstp : Stp (fun _ => False) W W') : s.post enc P fn apart fresh handsOn again W args (.bool true) W' := by
 have hb : Below W.heap.size W W' := hstp.below _ (Nat.le_refl _) fun _ _ h => h
 have hlt := hW.lt
 have hW' := hW
 obtain ⟨p, q, hA, hV, he, hfz, hnd⟩ := hW
 rw [hv] at hV
 obtain ⟨rfl, rfl⟩ := trodVars_none hV
 rw [List.append_nil] at he
 subst he
 have hok : ∀ (j : Nat) (t' : TypeId) (r : Value), fn.resultTypes[j]? = some t' → ((Value.bool true).resultList fn.resultTypes.size)[j]? = some r → Value.okWide P W' .any 0 t' r := ok_one hres rfl (okWide_bool_mk ht _)
 have hold : ∀ x ∈ before, (fun b => decide (b < W.heap.size)) x.block = true := fun x hx => by simpa using hlt x hx
 have harg : ∀ sp : Nat → Bool, (∀ x ∈ before, sp x.block = true) → DataW.TrodAll enc P W' 0 sp true fn.params.toList args.toList (s.fn H (ds ++ [])).args before := fun sp hsp => by
  rw [hs]; exact trodAll_later hl hb hr hA hlt sp hsp
 have hout : ∀ (b : Nat) (sp : Nat → Bool) (hd : Bool), DataW.TrodAll enc P W' b sp hd fn.resultTypes.toList ((Value.bool true).resultList fn.resultTypes.size) (s.fn H (ds ++ [])).results [] := fun b sp hd => by
  rw [hs, hres]; exact trodAll_cons_mk (shut_bool ht _) trodAll_mk0
 have hvar : ∀ sp : Nat → Bool, DataW.TrodVars enc P W' sp s.vars (s.fn H (ds ++ [])).vars [] := fun sp => by
  rw [hs, hv]; exact rfl
 refine ⟨ds, _, before, [], before, [], hW', hout _ _ _, harg _ hold, hvar _, World.keptBut_mono (fun x hx => ⟨hx, by simpa using hx⟩) (hb.frame (· ∈ before)), fun _ => ⟨hok, ?_⟩⟩
 obtain ⟨_, _, _, _, _, hz, hn⟩ := hW'
 refine ⟨_, _, ([] ++ before) ++ [], ⟨[] ++ before, [], trodAll_append (harg _ fun _ _ => rfl) (hout _ _ _), hvar _, rfl, fun b off hx => ?_, fun ha => ?_⟩, fun x hx _ => ?_⟩
 ·have hin : MemPlace.cell b off ∈ before := by simpa using hx
  rw [hb.frozen (hlt _ hin)]
  exact hz b off hin
 ·simpa using hn ha
 ·simpa using hx
end Go.Ab
end

section
namespace Go.Ab
section
variable {P : Program} {C : Ctx} {nt : Nat} {L : Lay} {ops : Array Oper} {ds : List Dir} {e : Env} {s : Sto}
theorem KAt.eqb {k : Nat} {t : TypeId} (ht : P.underlying t = some .bool) (q : Bool) {a b : Bool} (hk : dirAt ds k = sE (vb (if q then a == b else !(a == b)))) (hop : eqOpB (opAt ops.toList k) t = some q) (hb : eqB ops nt (arunE L ops ops.toList ds e s k) (opAt ops.toList k) = true)
  (hx : aev (arunE L ops ops.toList ds e s k) (eqX (opAt ops.toList k)) = vb a) (hy : aev (arunE L ops ops.toList ds e s k) (eqY (opAt ops.toList k)) = vb b) : KAt P C nt L ops ds e s k := by
 unfold KAt
 rw [hk]
 simp only [eqB, Bool.and_eq_true] at hb
 obtain ⟨⟨⟨b1, b2⟩, b3⟩, b4⟩ := hb
 obtain ⟨t', hop'⟩ := eqOpB_ok hop
 refine stT_pure rfl b3 (by simpa using b4) fun R η e0 s0 ac w hrd hc => ?_
 have h1 := (aev_ok hc (eqX (opAt ops.toList k))).1
 rw [aev_agree hrd b1, hx] at h1
 have h2 := (aev_ok hc (eqY (opAt ops.toList k))).1
 rw [aev_agree hrd b2, hy] at h2
 have e1 := bool_inv h1
 have e2 := bool_inv h2
 refine ⟨.bool (if q then a == b else !(a == b)), ?_, bool_rep _ _⟩
 cases q with
 | true =>
  simp only [if_true] at hop' ⊢
  have hg : (eqGuard .eql t (eqX (opAt ops.toList k)) (eqY (opAt ops.toList k)) (.bool a) (.bool b)).run P w = .ok () w := rfl
  simp only [execOp, hop', Sem.run_bind, e1, e2, hg, Result.andThen_ok, run_eql_bool w t a b ht, Sem.run_pure]
 | false =>
  simp only [Bool.false_eq_true, if_false] at hop' ⊢
  have hg : (eqGuard .neq t (eqX (opAt ops.toList k)) (eqY (opAt ops.toList k)) (.bool a) (.bool b)).run P w = .ok () w := rfl
  simp only [execOp, hop', Sem.run_bind, e1, e2, hg, Result.andThen_ok, run_neq_bool w t a b ht, Sem.run_pure]
end
end Go.Ab
end

section
namespace Go.Ab
def ci (n : Int) : CV := .d (.int .i64 n)
def gC {α : Type} [Emb α] (x : α) : List CV := (Emb.cells x).map .d
def gE {α : Type} [Emb α] (x : α) : AVal := .v (.g (gC x))
def ss (n : Nat) : List Dir := List.replicate n .s
section
variable {P : Program} {C : Ctx} {nt : Nat} {L : Lay} {pins : List Nat} {E : List (Nat × AVal)} {S : List (Nat × Obj)} {Q : Exit → Act → World → Prop}
theorem AW.g (Fm : Fr P L C pins) {id : Nat} {ops : Array Oper} {draw : Bool} (ds : List Dir) (c : (Nat → Prop) → Prop) (E' : List (Nat × AVal)) (S' : List (Nat × Obj)) (hc : c (KAt P C nt L ops ds (lk E) (ls S)))
  (h : (chkB L pins nt ops draw ds E S [] S', arunC P C nt L ops ops.toList ds (lk E) (ls S), E'.map (fun p => endE ops.toList (arunF L ops ops.toList ds (lk E) (ls S)) (lk E) p.1), S'.map (fun p => endS (arunF L ops ops.toList ds (lk E) (ls S)) (ls S) (rhoL [] p.1)))
   = (true, c (KAt P C nt L ops ds (lk E) (ls S)), E'.map (fun p => p.2.ren (rhoL [])), S'.map (fun p => some (p.2.ren (rhoL [])))))
  (k : Kn C nt E' S' (Q .normal)) : AW P C nt (.region id ops draw) E S Q :=
 AW.regc Fm ds [] c E' S' hc (congrArg (·.1) h) (congrArg (·.2.1) h) (congrArg (·.2.2.1) h) (congrArg (·.2.2.2) h) k
theorem AW.sg (Fm : Fr P L C pins) {id : Nat} {ops : Array Oper} {draw : Bool} {y : Code} (ds : List Dir) (c : (Nat → Prop) → Prop) (E' : List (Nat × AVal)) (S' : List (Nat × Obj)) (hc : c (KAt P C nt L ops ds (lk E) (ls S)))
  (h : (chkB L pins nt ops draw ds E S [] S', arunC P C nt L ops ops.toList ds (lk E) (ls S), E'.map (fun p => endE ops.toList (arunF L ops ops.toList ds (lk E) (ls S)) (lk E) p.1), S'.map (fun p => endS (arunF L ops ops.toList ds (lk E) (ls S)) (ls S) (rhoL [] p.1)))
   = (true, c (KAt P C nt L ops ds (lk E) (ls S)), E'.map (fun p => p.2.ren (rhoL [])), S'.map (fun p => some (p.2.ren (rhoL [])))))
  (k : AW P C nt y E' S' Q) : AW P C nt (.seq (.region id ops draw) y) E S Q :=
 AW.seq (AW.g Fm ds c E' S' hc h k)
theorem AW.g0 (Fm : Fr P L C pins) {id : Nat} {ops : Array Oper} {draw : Bool} (n : Nat) (E' : List (Nat × AVal)) (S' : List (Nat × Obj))
  (h : (chkB L pins nt ops draw (ss n) E S [] S', arunC P C nt L ops ops.toList (ss n) (lk E) (ls S), E'.map (fun p => endE ops.toList (arunF L ops ops.toList (ss n) (lk E) (ls S)) (lk E) p.1), S'.map (fun p => endS (arunF L ops ops.toList (ss n) (lk E) (ls S)) (ls S) (rhoL [] p.1)))
   = (true, True, E'.map (fun p => p.2.ren (rhoL [])), S'.map (fun p => some (p.2.ren (rhoL [])))))
  (k : Kn C nt E' S' (Q .normal)) : AW P C nt (.region id ops draw) E S Q := AW.g Fm (ss n) (fun _ => True) E' S' True.intro h k
theorem AW.sg0 (Fm : Fr P L C pins) {id : Nat} {ops : Array Oper} {draw : Bool} {y : Code} (n : Nat) (E' : List (Nat × AVal)) (S' : List (Nat × Obj))
  (h : (chkB L pins nt ops draw (ss n) E S [] S', arunC P C nt L ops ops.toList (ss n) (lk E) (ls S), E'.map (fun p => endE ops.toList (arunF L ops ops.toList (ss n) (lk E) (ls S)) (lk E) p.1), S'.map (fun p => endS (arunF L ops ops.toList (ss n) (lk E) (ls S)) (ls S) (rhoL [] p.1)))
   = (true, True, E'.map (fun p => p.2.ren (rhoL [])), S'.map (fun p => some (p.2.ren (rhoL [])))))
  (k : AW P C nt y E' S' Q) : AW P C nt (.seq (.region id ops draw) y) E S Q := AW.seq (AW.g0 Fm n E' S' h k)
variable {K : Act → World → Prop}
theorem Kn.r (Fm : Fr P L C pins) (E' : List (Nat × AVal)) (S' : List (Nat × Obj))
  (hq : (pins.all (fun i => rhoL [] i == i), E'.map (fun p => lk E p.1), S'.map (fun p => ls S (rhoL [] p.1)), nodupB (S'.map fun p => rhoL [] p.1)) = (true, E'.map (fun p => p.2.ren (rhoL [])), S'.map (fun p => some (p.2.ren (rhoL []))), true)) (h : Kn C nt E' S' K) : Kn C nt E S K :=
 Kn.re Fm [] E' S' (congrArg (·.1) hq) (congrArg (·.2.1) hq) (congrArg (·.2.2.1) hq) (congrArg (·.2.2.2) hq) h
theorem Kn.dn (Fm : Fr P L C pins) {fn : Func} {r : AVal} {S' : List (Nat × Obj)} (hq : (resA L (lk E) (ls S) fn.results.toList, S'.map (fun p => ls S p.1)) = (some r, S'.map (fun p => some p.2))) : Kn C nt E S (retQ P fn C r S' .ret) :=
 Kn.done Fm (congrArg (·.1) hq) (congrArg (·.2) hq)
end
section
variable {P : Program} {C : Ctx} {nt : Nat} {L : Lay} {ops : Array Oper} {ds : List Dir} {e : Env} {s : Sto}
theorem KAt.cl {k : Nat} {f : Nat} {args : List AVal} {Si : List (Nat × Obj)} {r : AVal} {So : List (Nat × Obj)} (hspec : FSpec P f args Si r So) (hcall : ∀ args w, (callFunc f args).run P w = .ok (.enter f args) w) (m : List (Nat × Nat))
  (hk : dirAt ds k = cE m [] r Si So) (hq : (Go.Ab.callB ops nt (arunE L ops ops.toList ds e s k) (opAt ops.toList k) f m r Si So, Si.map (fun p => arunS L ops ops.toList ds e s k (rhoL m p.1)),
   (Go.Ab.callXs (opAt ops.toList k)).toList.all (rdOk (tmpsOf (opAt ops.toList k) ++ guardTmp ops (opAt ops.toList k))) && args.all AVal.noSem, (Go.Ab.callXs (opAt ops.toList k)).toList.map (aev (arunE L ops ops.toList ds e s k)))
   = (true, Si.map (fun p => some (p.2.ren (rhoL m))), true, args.map (AVal.ren (rhoL m)))) : KAt P C nt L ops ds e s k :=
 KAt.call hspec hcall m hk (congrArg (·.1) hq) (congrArg (·.2.1) hq) (congrArg (·.2.2.1) hq) (congrArg (·.2.2.2) hq)
end
end Go.Ab
end

section
namespace Go.Ab
open Go.Proofs Go.Shelf
theorem growN_FSpec {α : Type} [Emb α] {P : Program} {L : Lay} (hL : LOk P L) {ρ : Ren} (Ly : Lays8.n4 P ρ) {te : TI} (hte : L (ρ.t 25) = some te) (hsz : te.size = Emb.es α) (hpos : 0 < te.size) (hby : te.bytes ≤ 8192) (hzl : te.zero.length = te.size)
  {n : Int} {r : List α} (h : growN n = some r) : FSpec P (ρ.f 4) [.v (.c (.fl 0 fun _ => [])), vi n] [] (.v (.c (.own 100))) [(100, AO (α := α) r)] := by
 unfold growN at h
 split at h
 case isFalse => cases h
 rename_i hn
 cases h
 obtain ⟨i0, d0, z0, hti⟩ := hL _ _ hte
 intro w X η vs hX hown hobj hds hlen hargs
 have hlen : vs.size = 2 := hlen
 have hv0 : ∃ ad, vs.getD 0 undef = .slice ad 0 0 := by
  have := hargs 0 (by simp)
  change ARep w X η _ (vs.getD 0 undef) (.v (.c (.fl 0 fun _ => []))) at this
  generalize vs.getD 0 undef = u at this
  cases this with | v _ _ hh => cases hh with | c _ _ hh => cases hh with | fl a _ _ _ => exact ⟨a, rfl⟩
 have hv1 : vs.getD 1 undef = .int .i64 n := by
  have := hargs 1 (by simp)
  change ARep w X η _ (vs.getD 1 undef) (.v (.c (.d (.int .i64 n)))) at this
  generalize vs.getD 1 undef = u at this
  cases this with | v _ _ hh => cases hh with | c _ _ hh => cases hh with | d _ _ hh => cases hh; rfl
 obtain ⟨ad, hv0⟩ := hv0
 rw [vs_two hlen, hv0, hv1]
 obtain ⟨m, rfl⟩ : ∃ m : Nat, n = m := ⟨n.toNat, by omega⟩
 have hm : m ≤ LIM := by omega
 have hnone : ∀ i o, ls [(100, AO (α := α) [])] i = some o → i = 100 ∧ o = AO (α := α) [] := by
  intro i o hi
  rw [ls_cons] at hi
  by_cases h : i = 100
  ·rw [if_pos h] at hi; cases hi; exact ⟨h, rfl⟩
  ·rw [if_neg h] at hi; cases hi
 rcases Nat.eq_zero_or_pos m with h0 | h0
 ·subst h0
  refine (Any8.slices_Grow_room Ly ad 0 0 0 w (Nat.le_refl _) (by omega) (by omega) (Nat.le_refl _)).mono fun e w' hh => ?_
  obtain ⟨he, hw⟩ := hh
  refine ⟨_, fun _ => .slice ad 0 0, he, ?_⟩
  rw [hw]
  have hblk : ∀ x, x ∉ blks (.slice ad 0 0) := by intro x; cases ad <;> simp [blks]
  refine ⟨Stp.refl _ _, .v _ _ (.c _ _ (.own _ _ rfl rfl)), fun i o hi => ?_, fun i j x hi hj hb _ => absurd hb (hblk x), fun i o x hi hb => absurd hb (hblk x), fun i v hi => ?_⟩
  ·obtain ⟨rfl, rfl⟩ := hnone i o hi
   exact .nil _ _ _
  ·change (if ((List.lookup i ([] : List (Nat × Obj))).isSome = true) then some (η i) else none) = some v at hi
   cases hi
 ·have hbig : (0 + m) * i0.bytes ≤ 140737488355328 := by
   have h1 : (0 + m) * i0.bytes ≤ 4294967296 * 8192 := Nat.mul_le_mul (by simp only [LIM] at hm; omega) (by rw [hti.bytes]; exact hby)
   omega
  refine (Any8.slices_Grow_grow Ly i0 z0 hti.info hti.zero (by rw [hti.size]; exact hpos) ad 0 0 m [] w (Nat.le_refl _) (by omega) hbig (by simp only [LIM] at hm; omega) (by simp) (fun _ => rfl) (fun _ _ _ _ hj => by simp at hj)).mono fun e w' hh => ?_
  obtain ⟨he, hw⟩ := hh
  have hG : m ≤ grownCap w (0 + m) 0 (ρ.t 25) := by have := grownCap_ge w (0 + m) 0 (ρ.t 25); omega
  have hG2 := grownCap_le_maxLen w (0 + m) 0 (ρ.t 25) (by simp only [LIM] at hm; simp only [maxLen]; omega)
  generalize grownCap w (0 + m) 0 (ρ.t 25) = G at *
  refine ⟨_, fun _ => .slice (some ⟨w.heap.size, 0, none⟩) 0 G, he, ?_⟩
  rw [hw]
  have hzs : z0.cells.size = i0.size := by rw [(hti.zrep w (fun _ => False) η (callCtx [] w X η)).1, hzl, hti.size]
  refine ⟨(Stp.drew _ _).trans (Stp.alloc _ _ _), .v _ _ (.c _ _ (.own _ _ rfl rfl)), fun i o hi => ?_, fun i j x hi hj _ _ => ?_, fun i o x hi hb => ?_, fun i v hi => ?_⟩
  ·obtain ⟨rfl, rfl⟩ := hnone i o hi
   refine .arr w.heap.size 0 G _ (([] : List Value).toArray ++ Builtin.zeroCells z0.cells (0 + m - 0) ++ Builtin.zeroCells z0.cells (G - (0 + m))) (ρ.t 25) _ (heap_alloc_new w.drew _) ?_ (Nat.zero_le _) hG2 (by omega) (fun i hi => absurd hi (Nat.not_lt_zero i)) fun i j hi => absurd hi (Nat.not_lt_zero i)
   rw [Array.size_append, Array.size_append, size_zeroCells, size_zeroCells, hzs, hti.size, ← hsz]
   have e1 : (([] : List Value).toArray).size = 0 := rfl
   rw [e1, Nat.zero_add, ← Nat.add_mul]
   congr 1
   omega
  ·obtain ⟨oi, hi⟩ := Option.ne_none_iff_exists'.1 hi
   obtain ⟨oj, hj⟩ := Option.ne_none_iff_exists'.1 hj
   rw [(hnone i oi hi).1, (hnone j oj hj).1]
  ·have : x = w.heap.size := by
    have hb : x ∈ blks (.slice (some ⟨w.heap.size, 0, none⟩) 0 G) := hb
    simp [blks] at hb
    exact hb.2
   subst this
   exact .inr (.inr (Nat.le_refl _))
  ·change (if ((List.lookup i ([] : List (Nat × Obj))).isSome = true) then some (η i) else none) = some v at hi
   cases hi
end Go.Ab
end

section
namespace Go.Ab
def Port (P : Program) (x : CV) : Prop := x.closed = true ∨ ∃ F, x = .sem (CloOK P F)
section
variable {w : World} {X : Nat → Prop} {η η' : Nat → Value} {C C' : Ctx} {P : Program}
theorem CsRep.port {vs : Array Value} {cs : List CV} (h : CsRep w X η C vs cs) (H : ∀ F v, CloOK P F C.w0 C.D C.X v → CloOK P F C'.w0 C'.D C'.X v) (hx : ∀ x ∈ cs, Port P x) : CsRep w X η' C' vs cs := by
 refine ⟨h.1, fun j hj => ?_⟩
 have hr := h.2 j hj
 rcases hx _ (getD_mem (d := .d .any) hj) with hp | ⟨F, hp⟩
 ·simp only [CV.closed, Bool.and_eq_true, List.isEmpty_iff] at hp
  exact (hr.mono (fun b _ hX => ⟨rfl, hX⟩) (fun i hi => by rw [hp.1] at hi; cases hi)).ctx hp.2
 ·rw [hp] at hr ⊢
  generalize vs.getD j undef = u at hr ⊢
  cases hr with | sem _ _ g1 g2 => exact .sem _ _ (H F _ g1) g2
end
section
variable {P : Program} {C : Ctx} {nt : Nat} {e : Env} {s : Sto}
theorem ArgT.cloP {f : Nat} (hcall : ∀ args w, (callFunc f args).run P w = .ok (.enter f args) w) {F : List AVal → AVal → Prop} {cs : List (List CV)} (hspec : ∀ args r, F args r → FSpec P f (args ++ capA cs) (capS cs) r (capS cs)) (hres : ∀ args r, F args r → r.closed = true)
  {Si : List (Nat × Obj)} {m : Nat → Nat} {rd ids : List Nat} {x : Operand} (hx : rdOk rd x = true) {cids : List Nat} (hv : aev e x = .v (.c (.clo f cids))) (hlen : cids.length = cs.length) (hnd : nodupB cids = true) (hbox : ∀ k, k < cs.length → ∃ ro, s (cids.getD k 0) = some (.box ro (cs.getD k [])))
  (hcl : ∀ c ∈ cs, ∀ x ∈ c, Port P x) (hsi : ∀ p ∈ Si, ∃ o1, s (m p.1) = some o1) (hin : ∀ p ∈ Si, m p.1 ∈ ids) (hcin : ∀ i ∈ cids, i ∈ ids) (hapart : ∀ p ∈ Si, m p.1 ∉ cids) : ArgT C nt e s Si m rd ids x (vclo P F) := by
 intro R η e0 s0 a w hrd hids hc
 have hfv := (aev_ok hc x).1
 rw [aev_agree hrd hx, hv] at hfv
 have hfe := clo_inv hfv
 refine .v _ _ (.c _ _ (.sem _ _ ⟨f, _, hfe, hcall, ?_⟩ (by rw [hfe]; rfl)))
 intro w1 X1 vs args r hF hsz hblk hX1 hXX hvs hargs
 have hsz' : w.heap.size ≤ w1.heap.size := hsz
 have hgetid : ∀ k, k < cs.length → cids.getD k 0 ∈ cids := fun k hk => getD_mem (by omega)
 have hobj : ∀ k, k < cs.length → ∃ ro, s0 (cids.getD k 0) = some (.box ro (cs.getD k [])) := by
  intro k hk
  obtain ⟨ro, h1⟩ := hbox k hk
  exact ⟨ro, by rw [hids _ (hcin _ (hgetid k hk))]; exact h1⟩
 have hblkOf : ∀ k, k < cs.length → ∃ b c' e', η (cids.getD k 0) = .pointer (some ⟨b, 0, none⟩) ∧ w.heap[b]? = some (.cells c' e' (0, 0)) ∧ CsRep w (XS C s0 η) η C c' (cs.getD k []) := by
  intro k hk
  obtain ⟨ro, h1⟩ := hobj k hk
  have := hc.st _ _ h1
  generalize η (cids.getD k 0) = u at this
  cases this with
  | box b _ c' e' _ hb hcs => exact ⟨b, c', e', rfl, hb, hcs⟩
 have hnotD : ∀ k, k < cs.length → ∀ b, b ∈ blks (η (cids.getD k 0)) → ¬ Own (ls Si) (fun i => η (m i)) b := by
  rintro k hk b hb ⟨i, o', hi, hib⟩
  obtain ⟨ro, h1⟩ := hobj k hk
  obtain ⟨o1, h2⟩ := hsi _ (ls_mem hi)
  have h2' : s0 (m i) = some o1 := by rw [hids _ (hin _ (ls_mem hi))]; exact h2
  have := hc.ds _ _ b (by rw [h1]; simp) (by rw [h2']; simp) hb hib
  exact hapart _ (ls_mem hi) (this ▸ hgetid k hk)
 have hDX : ∀ b, Own (ls Si) (fun i => η (m i)) b → XS C s0 η b := by
  rintro b ⟨i, o', hi, hib⟩
  obtain ⟨o1, h2⟩ := hsi _ (ls_mem hi)
  exact .inr ⟨m i, o1, by rw [hids _ (hin _ (ls_mem hi))]; exact h2, hib⟩
 have hk : Kept w w1 (XS C s0 η) X1 := by
  intro b hb hX
  have hnD : ¬ Own (ls Si) (fun i => η (m i)) b := fun ho => hX (hDX b ho)
  exact ⟨hblk b hb hnD, fun hx => hX ((hXX b hb hnD).1 hx)⟩
 have hpos : ∀ k o, ls (capS cs) k = some o → k < cs.length ∧ o = .box true (cs.getD k []) := by
  intro k o hk
  rw [capS_ls] at hk
  rcases Nat.lt_or_ge k cs.length with h1 | h1
  ·rw [List.getElem?_eq_getElem h1] at hk
   cases hk
   exact ⟨h1, by rw [List.getD_eq_getElem?_getD, List.getElem?_eq_getElem h1]; rfl⟩
  ·rw [List.getElem?_eq_none h1] at hk; cases hk
 have hownC : ∀ b, Own (ls (capS cs)) (fun k => η (cids.getD k 0)) b → X1 b := by
  rintro b ⟨k, o', hko, hkb⟩
  obtain ⟨hk1, _⟩ := hpos k o' hko
  obtain ⟨ro, h1⟩ := hobj k hk1
  have hlt : b < w.heap.size := (hc.st _ _ h1).lt hkb
  exact (hXX b hlt (hnotD k hk1 b hkb)).2 (.inr ⟨_, _, h1, hkb⟩)
 have hport : ∀ F' v, CloOK P F' C.w0 C.D C.X v → CloOK P F' w1 (Own (ls (capS cs)) fun k => η (cids.getD k 0)) X1 v := by
  rintro F' v ⟨g, gc, g1, g2, g3⟩
  refine ⟨g, gc, g1, g2, fun w2 X2 us avs q hq s1 s2 s3 s4 s5 s6 => ?_⟩
  have hnS : ∀ b, b < C.w0.heap.size → ¬ C.D b → ¬ Own (ls Si) (fun i => η (m i)) b := by
   rintro b hb hD ⟨i, o', hi, hib⟩
   obtain ⟨o1, h1⟩ := hsi _ (ls_mem hi)
   rcases hc.ow (m i) o1 b (by rw [hids _ (hin _ (ls_mem hi))]; exact h1) hib with ⟨_, h1⟩ | h1 | h1
   ·exact hD h1
   ·exact hD (hc.ok.md b h1)
   ·omega
  have hnC : ∀ b, b < C.w0.heap.size → ¬ C.D b → ¬ Own (ls (capS cs)) (fun k => η (cids.getD k 0)) b := by
   rintro b hb hD ⟨k, o', hko, hkb⟩
   obtain ⟨hk1, _⟩ := hpos k o' hko
   obtain ⟨ro, h1⟩ := hobj k hk1
   rcases hc.ow _ _ b h1 hkb with ⟨_, h1⟩ | h1 | h1
   ·exact hD h1
   ·exact hD (hc.ok.md b h1)
   ·omega
  refine g3 w2 X2 us avs q hq (Nat.le_trans hc.fr.size (Nat.le_trans hsz' s1)) (fun b hb hD => ?_) s3 (fun b hb hD => ?_) s5 s6
  ·have hbw : b < w.heap.size := Nat.lt_of_lt_of_le hb hc.fr.size
   exact ((s2 b (Nat.lt_of_lt_of_le hbw hsz') (hnC b hb hD)).trans (hblk b hbw (hnS b hb hD))).trans (hc.fr.block b hb fun hM => hD (hc.ok.md b hM))
  ·have hbw : b < w.heap.size := Nat.lt_of_lt_of_le hb hc.fr.size
   rw [s4 b (Nat.lt_of_lt_of_le hbw hsz') (hnC b hb hD), hXX b hbw (hnS b hb hD)]
   constructor
   ·rintro (⟨hx, _⟩ | ⟨i, o', hi, hib⟩)
    ·exact hx
    ·rcases hc.ow i o' b hi hib with ⟨_, h1⟩ | h1 | h1
     ·exact absurd h1 hD
     ·exact absurd (hc.ok.md b h1) hD
     ·omega
   ·exact fun hx => .inl ⟨hx, hD⟩
 have hsp := hspec args r hF w1 X1 (fun k => η (cids.getD k 0)) (vs ++ (cids.map η).toArray) hX1 hownC
  (fun k o hko => by
   obtain ⟨hk1, rfl⟩ := hpos k o hko
   obtain ⟨b, c', e', h1, h2, h3⟩ := hblkOf k hk1
   have hnb := hnotD k hk1 b (by rw [h1]; simp [blks])
   show ORep w1 X1 _ _ (η (cids.getD k 0)) _
   rw [h1]
   have hcc : ∀ x ∈ cs.getD k [], Port P x := hcl _ (getD_mem (d := []) hk1)
   exact .box b true c' e' _ ((hblk b (lt_of_heap h2) hnb).trans h2) ((h3.mono (η' := η) hk (fun _ _ => rfl)).port hport hcc))
  (fun i j b hi hj hbi hbj => by
   obtain ⟨oi, hi⟩ := Option.ne_none_iff_exists'.1 hi
   obtain ⟨oj, hj⟩ := Option.ne_none_iff_exists'.1 hj
   obtain ⟨hi1, _⟩ := hpos i oi hi
   obtain ⟨hj1, _⟩ := hpos j oj hj
   obtain ⟨r1, h1⟩ := hobj i hi1
   obtain ⟨r2, h2⟩ := hobj j hj1
   have hij := hc.ds _ _ b (by rw [h1]; simp) (by rw [h2]; simp) hbi hbj
   have hn := nodupB_ok hnd
   have hi2 : i < cids.length := by omega
   have hj2 : j < cids.length := by omega
   rw [List.getD_eq_getElem?_getD, List.getD_eq_getElem?_getD, List.getElem?_eq_getElem hi2, List.getElem?_eq_getElem hj2] at hij
   exact (List.getElem_inj hn).1 (by simpa using hij))
  (by simp [hvs, capA, hlen])
  (fun j hj => by
   rw [List.length_append] at hj
   by_cases hja : j < args.length
   ·have e1 : (vs ++ (cids.map η).toArray).getD j undef = vs.getD j undef := by
     have : j < vs.size := by omega
     simp [Array.getD_eq_getD_getElem?, Array.getElem?_append, this]
    have e2 : (args ++ capA cs).getD j .any = args.getD j .any := by simp [List.getD_eq_getElem?_getD, List.getElem?_append, hja]
    rw [e1, e2]
    exact hargs j hja _ _
   ·have hk1 : j - args.length < cs.length := by simp [capA] at hj; omega
    obtain ⟨b, c', e', h1, h2, h3⟩ := hblkOf _ hk1
    have e1 : (vs ++ (cids.map η).toArray).getD j undef = η (cids.getD (j - args.length) 0) := by
     have g1 : ¬ j < vs.size := by omega
     have g2 : j - vs.size < cids.length := by omega
     have g3 : j - args.length < cids.length := by omega
     have : j - vs.size = j - args.length := by omega
     simp [Array.getD_eq_getD_getElem?, Array.getElem?_append, g1, List.getD_eq_getElem?_getD, this, g3]
    have e2 : (args ++ capA cs).getD j .any = .v (.c (.ptr (j - args.length) 0)) := by
     simp [List.getD_eq_getElem?_getD, List.getElem?_append, hja, capA, hk1]
    rw [e1, e2, h1]
    exact .v _ _ (.c _ _ (.ptr b _ 0 h1)))
 refine hsp.mono fun en w' hh => ?_
 obtain ⟨v, η', rfl, hb⟩ := hh
 refine ⟨v, rfl, hb.stp.mono fun b _ hM => ?_, fun η2 C2 => ?_⟩
 ·obtain ⟨i, o', hi, hro, _⟩ := hM
  obtain ⟨_, rfl⟩ := hpos i o' hi
  cases hro
 ·have hX : ∀ b, XS (callCtx (capS cs) w1 X1 fun k => η (cids.getD k 0)) (ls (capS cs)) η' b ↔ X1 b := by
   have hpin : ∀ i o', ls (capS cs) i = some o' → η' i = η (cids.getD i 0) := by
    intro i o' hi
    refine hb.pn i _ ?_
    unfold ls at hi
    simp [callCtx, hi]
   intro b
   constructor
   ·rintro (⟨hx, _⟩ | ⟨i, o', hi, hib⟩)
    ·exact hx
    ·rw [hpin i o' hi] at hib
     exact hownC b ⟨i, o', hi, hib⟩
   ·intro hx
    rcases Classical.em (Own (ls (capS cs)) (fun k => η (cids.getD k 0)) b) with ho | ho
    ·obtain ⟨i, o', hi, hib⟩ := ho
     exact .inr ⟨i, o', hi, by rw [hpin i o' hi]; exact hib⟩
    ·exact .inl ⟨hx, ho⟩
  exact (hb.res.mono (η' := η') (fun b _ hx => ⟨rfl, fun hx' => hx ((hX b).2 hx')⟩) (fun _ _ => rfl)).free (hres args r hF)
def portB (P : Program) : List CV → Prop
 | [] => True
 | c :: cs => Port P c ∧ portB P cs
def portBB (P : Program) : List (List CV) → Prop
 | [] => True
 | c :: cs => portB P c ∧ portBB P cs
theorem portB_ok {cs : List CV} (h : portB P cs) : ∀ x ∈ cs, Port P x := by
 induction cs with
 | nil => intro x hx; cases hx
 | cons c cs ih =>
  intro x hx
  rcases List.mem_cons.1 hx with rfl | hx
  ·exact h.1
  ·exact ih h.2 x hx
theorem portBB_ok {cs : List (List CV)} (h : portBB P cs) : ∀ c ∈ cs, ∀ x ∈ c, Port P x := by
 induction cs with
 | nil => intro x hx; cases hx
 | cons c cs ih =>
  intro x hx
  rcases List.mem_cons.1 hx with rfl | hx
  ·exact portB_ok h.1
  ·exact ih h.2 x hx
theorem ArgT.cloXP {f : Nat} (hcall : ∀ args w, (callFunc f args).run P w = .ok (.enter f args) w) {F : List AVal → AVal → Prop} (cs : List (List CV)) (hspec : ∀ args r, F args r → FSpec P f (args ++ capA cs) (capS cs) r (capS cs)) (hres : ∀ args r, F args r → r.closed = true)
  {Si : List (Nat × Obj)} {m : Nat → Nat} {rd ids : List Nat} {x : Operand} (hx : rdOk rd x = true) (cids : List Nat) (hv : aev e x = .v (.c (.clo f cids))) (hnd : (nodupB cids && cids.all (fun i => ids.contains i)) = true) (hp : portBB P cs) (hbox : boxB s cids cs)
  (hsi : siB s Si m ids cids = true) : ArgT C nt e s Si m rd ids x (vclo P F) := by
 simp only [Bool.and_eq_true] at hnd
 obtain ⟨g1, g2⟩ := boxB_ok hbox
 exact ArgT.cloP hcall hspec hres hx hv g1 hnd.1 g2 (portBB_ok hp) (siB_ok hsi).1 (siB_ok hsi).2.1 (fun i hi => by simpa using List.all_eq_true.1 hnd.2 i hi) (siB_ok hsi).2.2
end
end Go.Ab
end

section
namespace Go.Ab
section
variable {P : Program} {C : Ctx} {nt : Nat} {L : Lay} {pins : List Nat} {K : Act → World → Prop}
theorem Kn.own0 (Fm : Fr P L C pins) {E : List (Nat × AVal)} {S0 : List (Nat × Obj)} {i k es j : Nat} {cs : List CV} {f f' : Nat → List DVal} (hp : pins.contains k = false)
  (hfr : ((E.flatMap fun p => p.2.refs) ++ (((i, Obj.box false cs) :: S0).flatMap fun p => p.1 :: p.2.refs)).contains k = false) (hj : j < cs.length) (hc0 : cs.getD j (.d .any) = .fl 0 f)
  (hk : Kn C nt E ((k, .arr es 0 f') :: (i, .box false (cs.set j (.own k))) :: S0) K) : Kn C nt E ((i, .box false cs) :: S0) K := by
 intro R η a w hc
 have hsi : ls ((i, Obj.box false cs) :: S0) i = some (.box false cs) := by rw [ls_cons, if_pos rfl]
 have hst := hc.st i _ hsi
 obtain ⟨b0, c', e', hη0, hb0, hcs⟩ : ∃ b c' e', η i = .pointer (some ⟨b, 0, none⟩) ∧ w.heap[b]? = some (.cells c' e' (0, 0)) ∧ CsRep w (XS C (ls ((i, Obj.box false cs) :: S0)) η) η C c' cs := by
  generalize η i = u at hst
  cases hst with | box b _ c' e' _ hb h => exact ⟨b, c', e', rfl, hb, h⟩
 obtain ⟨ad, hv⟩ : ∃ ad, c'.getD j undef = .slice ad 0 0 := by
  have := hcs.2 j hj
  rw [hc0] at this
  generalize c'.getD j undef = u at this
  cases this with | fl ad _ _ _ => exact ⟨ad, rfl⟩
 have hpin : C.pin k = none := by
  rcases hq : C.pin k with _ | u
  ·rfl
  ·have := Fm.pin k (by rw [hq]; simp)
   rw [List.contains_iff_mem.2 this] at hp; cases hp
 have hnk : ∀ x ∈ (E.flatMap fun p => p.2.refs) ++ (((i, Obj.box false cs) :: S0).flatMap fun p => p.1 :: p.2.refs), x ≠ k := by
  intro x hx he
  subst he
  rw [List.contains_iff_mem.2 hx] at hfr; cases hfr
 have hS : ∀ x o, ls ((i, Obj.box false cs) :: S0) x = some o → x ≠ k ∧ ∀ y ∈ o.refs, y ≠ k := by
  intro x o hx
  have hm := ls_mem hx
  exact ⟨hnk x (List.mem_append.2 (.inr (List.mem_flatMap.2 ⟨_, hm, by simp⟩))), fun y hy => hnk y (List.mem_append.2 (.inr (List.mem_flatMap.2 ⟨_, hm, by simp [hy]⟩)))⟩
 have hik : i ≠ k := (hS i _ hsi).1
 have hE : ∀ u x, x ∈ (lk E u).refs → x ≠ k := by
  intro u x hx
  rcases lk_mem (E := E) (t := u) with h0 | h0
  ·rw [h0] at hx; cases hx
  ·exact hnk x (List.mem_append.2 (.inl (List.mem_flatMap.2 ⟨_, h0, hx⟩)))
 let η' : Nat → Value := fun x => if x = k then .slice ad 0 0 else η x
 have hη' : ∀ x, x ≠ k → η' x = η x := fun x hx => by show (if x = k then Value.slice ad 0 0 else η x) = _; rw [if_neg hx]
 have hηk : η' k = .slice ad 0 0 := by show (if k = k then Value.slice ad 0 0 else η k) = _; rw [if_pos rfl]
 have hblk : ∀ b, b ∉ blks (η' k) := by intro b; rw [hηk]; cases ad <;> simp [blks]
 have hnew : ∀ x o, ls ((k, Obj.arr es 0 f') :: (i, .box false (cs.set j (.own k))) :: S0) x = some o → (x = k ∧ o = .arr es 0 f') ∨ (x = i ∧ o = .box false (cs.set j (.own k))) ∨ (x ≠ k ∧ x ≠ i ∧ ls ((i, Obj.box false cs) :: S0) x = some o) := by
  intro x o hx
  rw [ls_cons] at hx
  by_cases h1 : x = k
  ·rw [if_pos h1] at hx; cases hx; exact .inl ⟨h1, rfl⟩
  ·rw [if_neg h1, ls_cons] at hx
   by_cases h2 : x = i
   ·rw [if_pos h2] at hx; cases hx; exact .inr (.inl ⟨h2, rfl⟩)
   ·rw [if_neg h2] at hx
    exact .inr (.inr ⟨h1, h2, by rw [ls_cons, if_neg h2]; exact hx⟩)
 have hold : ∀ x o, ls ((k, Obj.arr es 0 f') :: (i, .box false (cs.set j (.own k))) :: S0) x = some o → x ≠ k → ∃ o', ls ((i, Obj.box false cs) :: S0) x = some o' ∧ o'.ro = o.ro := by
  intro x o hx hxk
  rcases hnew x o hx with ⟨h1, _⟩ | ⟨h1, h2⟩ | ⟨_, _, h3⟩
  ·exact absurd h1 hxk
  ·subst h1; subst h2; exact ⟨_, hsi, rfl⟩
  ·exact ⟨o, h3, rfl⟩
 have hown : ∀ b, Own (ls ((k, Obj.arr es 0 f') :: (i, .box false (cs.set j (.own k))) :: S0)) η' b → Own (ls ((i, Obj.box false cs) :: S0)) η b := by
  rintro b ⟨x, o, hx, hxb⟩
  by_cases hxk : x = k
  ·subst hxk; exact absurd hxb (hblk b)
  ·obtain ⟨o', h1, _⟩ := hold x o hx hxk
   exact ⟨x, o', h1, by rw [← hη' x hxk]; exact hxb⟩
 have hX : Kept w w (XS C (ls ((i, Obj.box false cs) :: S0)) η) (XS C (ls ((k, Obj.arr es 0 f') :: (i, .box false (cs.set j (.own k))) :: S0)) η') := by
  intro b hb hn
  refine ⟨rfl, fun hx => ?_⟩
  rcases hx with hx | hx
  ·exact hn (.inl hx)
  ·exact hn (.inr (hown b hx))
 refine hk (fun x => R x ∨ x = k) η' a w ⟨hc.ok, hc.df, hc.sz, fun u => (hc.ev u).mono hX fun x hx => hη' x (hE u x hx), fun u x hx => .inl (hc.er u x hx), fun x o hx => ?_, fun x o hx => ?_, fun x y b hx hy hxb hyb => ?_, fun x o b hx hb => ?_, hc.fr, fun x u hx => ?_⟩
 ·rcases hnew x o hx with ⟨rfl, rfl⟩ | ⟨rfl, rfl⟩ | ⟨h1, h2, h3⟩
  ·rw [hηk]; exact .nil _ _ _
  ·rw [hη' x hik, hη0]
   refine .box b0 false c' e' _ hb0 ⟨by rw [hcs.1]; simp, fun q hq => ?_⟩
   have hq' : q < cs.length := by simpa using hq
   by_cases hqj : q = j
   ·subst hqj
    have : (cs.set q (.own k)).getD q (.d .any) = .own k := by simp [List.getD_eq_getElem?_getD, hq']
    rw [this, hv]
    exact .own _ _ hηk.symm rfl
   ·have : (cs.set j (.own k)).getD q (.d .any) = cs.getD q (.d .any) := by
     simp [List.getD_eq_getElem?_getD, List.getElem?_set, Ne.symm hqj]
    rw [this]
    refine (hcs.2 q hq').mono hX fun y hy => hη' y ((hS x _ hsi).2 y ?_)
    exact List.mem_flatMap.2 ⟨_, getD_mem hq', hy⟩
  ·rw [hη' x h1]
   exact (hc.st x o h3).mono hX (fun y hy => hη' y ((hS x o h3).2 y hy)) fun _ _ => rfl
 ·rcases hnew x o hx with ⟨rfl, rfl⟩ | ⟨rfl, rfl⟩ | ⟨h1, h2, h3⟩
  ·exact ⟨.inr rfl, by simp [Obj.refs]⟩
  ·have := hc.sr x _ hsi
   refine ⟨.inl this.1, fun y hy => ?_⟩
   obtain ⟨z, hz, hyz⟩ := List.mem_flatMap.1 hy
   rcases List.mem_or_eq_of_mem_set hz with h4 | h4
   ·exact .inl (this.2 y (List.mem_flatMap.2 ⟨z, h4, hyz⟩))
   ·subst h4
    exact .inr (by simpa [CV.refs] using hyz)
  ·have := hc.sr x o h3
   exact ⟨.inl this.1, fun y hy => .inl (this.2 y hy)⟩
 ·obtain ⟨ox, hx⟩ := Option.ne_none_iff_exists'.1 hx
  obtain ⟨oy, hy⟩ := Option.ne_none_iff_exists'.1 hy
  by_cases hxk : x = k
  ·subst hxk; exact absurd hxb (hblk b)
  ·by_cases hyk : y = k
   ·subst hyk; exact absurd hyb (hblk b)
   ·obtain ⟨o1, h1, _⟩ := hold x ox hx hxk
    obtain ⟨o2, h2, _⟩ := hold y oy hy hyk
    rw [hη' x hxk] at hxb
    rw [hη' y hyk] at hyb
    exact hc.ds x y b (by rw [h1]; simp) (by rw [h2]; simp) hxb hyb
 ·by_cases hxk : x = k
  ·subst hxk; exact absurd hb (hblk b)
  ·obtain ⟨o', h1, h2⟩ := hold x o hx hxk
   rw [hη' x hxk] at hb
   rw [← h2]
   exact hc.ow x o' b h1 hb
 ·have hxk : x ≠ k := by intro h; subst h; rw [hpin] at hx; cases hx
  have := hc.pn x u hx
  exact ⟨by rw [hη' x hxk]; exact this.1, .inl this.2⟩
end
end Go.Ab
end

section
namespace Go.Ab
theorem FSpec.list {α : Type} [Emb α] {P : Program} {f : Nat} {args : List AVal} {r : List α} (h : FSpec P f args [] (.v (.c (.own 100))) [(100, AO r)]) : FSpec P f args [] (AL r) [] := by
 intro w X η vs hX hown hobj hds hlen hargs
 refine (h w X η vs hX hown hobj hds hlen hargs).mono fun e w' hh => ?_
 obtain ⟨v, η', he, hb⟩ := hh
 refine ⟨v, η', he, ?_⟩
 have hls : ∀ i o, ls ([] : List (Nat × Obj)) i = some o → False := fun i o hi => by cases hi
 have ho := hb.objs 100 (AO r) (by rw [ls_cons, if_pos rfl])
 have hv : v = η' 100 := by
  have := hb.res
  cases this with | v _ _ hh => cases hh with | c _ _ hh => cases hh with | own _ _ h1 _ => exact h1
 have hnX : ∀ b, b ∈ blks (η' 100) → ¬ XS (callCtx [] w X η) (ls []) η' b := by
  intro b hbk hx
  have hbig : w.heap.size ≤ b := by
   rcases hb.ow 100 (AO r) b (by rw [ls_cons, if_pos rfl]) hbk with ⟨h1, _⟩ | ⟨i, o, hi, _⟩ | h1
   ·cases h1
   ·exact (hls i o hi).elim
   ·exact h1
  rcases hx with ⟨h1, _⟩ | ⟨i, o, hi, _⟩
  ·have := hX b h1
   omega
  ·exact (hls i o hi).elim
 have hsub : ∀ b, ¬ XS (callCtx [] w X η) (ls [(100, AO r)]) η' b → ¬ XS (callCtx [] w X η) (ls []) η' b := by
  intro b h1 h2
  rcases h2 with h2 | ⟨i, o, hi, _⟩
  ·exact h1 (.inl h2)
  ·exact (hls i o hi).elim
 refine ⟨hb.stp, ?_, fun i o hi => (hls i o hi).elim, fun i j b hi => ?_, fun i o b hi => (hls i o hi).elim, hb.pn⟩
 ·rw [hv]
  refine .v _ _ (.c _ _ (.d _ _ ?_))
  show DRep _ _ _ (.lst r.length (LF r))
  unfold AO at ho
  generalize η' 100 = u at ho hnX
  generalize hn : r.length = n at ho
  cases ho with
  | nil ad => exact .nil _ _ _
  | arr b n cap es c e f h1 h2 h3 h4 h5 h6 h7 =>
   refine .lst b 0 n cap c e _ _ _ (hnX b (by simp [blks]; omega)) h1 h3 ?_ h6 fun i j hi hj => ?_
   ·rw [h2, Nat.zero_add]; exact Nat.mul_le_mul_right _ h3
   ·rw [Nat.zero_add]
    exact (h7 i j hi hj).mono fun b _ hb => ⟨rfl, hsub b (by unfold AO; rw [hn]; exact hb)⟩
 ·exact absurd rfl hi
end Go.Ab
end

section
namespace Go.Ab
def apP (es n : Nat) (f : Nat → List DVal) (w : World) (X : Nat → Prop) (u : Value) : Prop :=
 (∃ ad, u = .tuple #[.slice ad n n] ∧ DRep w X (.slice ad n n) (.lst n f)) ∨ ∀ η C, ORep w X η C u (.arr es n f)
def AP {α : Type} [Emb α] (l : List α) : Obj := .ext (apP (Emb.es α) l.length (LF l))
theorem arr_free {w : World} {X : Nat → Prop} {η : Nat → Value} {C : Ctx} {v : Value} {es n : Nat} {f : Nat → List DVal} (h : ORep w X η C v (.arr es n f)) (η' : Nat → Value) (C' : Ctx) : ORep w X η' C' v (.arr es n f) := by
 cases h with
 | nil ad => exact .nil ad _ _
 | arr b _ cap _ c e _ h1 h2 h3 h4 h5 h6 h7 => exact .arr b _ cap _ c e _ h1 h2 h3 h4 h5 h6 h7
theorem apP_stab (es n : Nat) (f : Nat → List DVal) (u : Value) : PStab (apP es n f) u := by
 intro w w' X X' hk hb h
 rcases h with ⟨ad, e, hd⟩ | h
 ·exact .inl ⟨ad, e, hd.mono hk⟩
 ·exact .inr fun η C => (h η C).mono (η' := η) hk (fun _ _ => rfl) hb
theorem CLe.ap (k : Nat) : CLe (.own k) (.ap k) := ⟨fun w X η C v hv => by cases hv with | own _ _ h h1 => exact .ap _ _ (.inl h.symm) h1, fun i hi => hi⟩
theorem OLe.ap (es n : Nat) (f : Nat → List DVal) : OLe (.arr es n f) (.ext (apP es n f)) :=
 ⟨fun w X η C v hv => .ext _ _ (.inr fun η' C' => arr_free hv η' C') (apP_stab es n f v) fun b hb => hv.lt hb, rfl, fun i hi => by cases hi⟩
def sbC (k : Nat) (y : CV) : CV → CV
 | .ap i => if i = k then y else .ap i
 | x => x
def TV.sb (k : Nat) (y : CV) : TV → TV
 | .c x => .c (sbC k y x)
 | .g xs => .g (xs.map (sbC k y))
def AVal.sb (k : Nat) (y : CV) : AVal → AVal
 | .any => .any
 | .v x => .v (x.sb k y)
 | .t xs => .t (xs.map (TV.sb k y))
def Obj.sb (k : Nat) (y : CV) : Obj → Obj
 | .box ro cs => .box ro (cs.map (sbC k y))
 | o => o
section
variable {w : World} {X X' : Nat → Prop} {η : Nat → Value} {C : Ctx} {k : Nat} {y : CV}
theorem CRep.sb {v : Value} {x : CV} (h : CRep w X η C v x) (hX : ∀ b, ¬ X b → ¬ X' b) (hk : ∀ v, CRep w X η C v (.ap k) → CRep w X' η C v y) : CRep w X' η C v (sbC k y x) := by
 have hm : Kept w w X X' := fun b _ hb => ⟨rfl, hX b hb⟩
 cases x with
 | ap i =>
  simp only [sbC]
  split
  ·rename_i hi; subst hi; exact hk v h
  ·exact h.mono hm fun _ _ => rfl
 | _ => exact h.mono hm fun _ _ => rfl
theorem CsRep.sb {vs : Array Value} {cs : List CV} (h : CsRep w X η C vs cs) (hX : ∀ b, ¬ X b → ¬ X' b) (hk : ∀ v, CRep w X η C v (.ap k) → CRep w X' η C v y) : CsRep w X' η C vs (cs.map (sbC k y)) := by
 refine ⟨by simpa using h.1, fun j hj => ?_⟩
 have hj' : j < cs.length := by simpa using hj
 have := (h.2 j hj').sb hX hk
 rw [List.getD_eq_getElem?_getD, List.getElem?_map, List.getElem?_eq_getElem hj']
 rw [List.getD_eq_getElem?_getD, List.getElem?_eq_getElem hj'] at this
 exact this
theorem TRep.sb {v : Value} {x : TV} (h : TRep w X η C v x) (hX : ∀ b, ¬ X b → ¬ X' b) (hk : ∀ v, CRep w X η C v (.ap k) → CRep w X' η C v y) : TRep w X' η C v (x.sb k y) := by
 cases h with
 | c _ _ h => exact .c _ _ (h.sb hX hk)
 | g _ _ h => exact .g _ _ (h.sb hX hk)
theorem ARep.sb {v : Value} {x : AVal} (h : ARep w X η C v x) (hX : ∀ b, ¬ X b → ¬ X' b) (hk : ∀ v, CRep w X η C v (.ap k) → CRep w X' η C v y) : ARep w X' η C v (x.sb k y) := by
 cases h with
 | any => exact .any v
 | v _ _ h => exact .v _ _ (h.sb hX hk)
 | t us xs h1 h2 =>
  refine .t us _ (by simpa using h1) fun j hj => ?_
  have hj' : j < xs.length := by simpa using hj
  have := (h2 j hj').sb hX hk
  rw [List.getD_eq_getElem?_getD, List.getElem?_map, List.getElem?_eq_getElem hj']
  rw [List.getD_eq_getElem?_getD, List.getElem?_eq_getElem hj'] at this
  exact this
theorem ORep.sb {v : Value} {o : Obj} (h : ORep w X η C v o) (hX : ∀ b, ¬ X b → ¬ X' b) (hk : ∀ v, CRep w X η C v (.ap k) → CRep w X' η C v y) : ORep w X' η C v (o.sb k y) := by
 cases o with
 | box ro cs => cases h with | box b _ c e _ h1 h2 => exact .box b ro c e _ h1 (h2.sb hX hk)
 | arr es n f => exact h.mono (fun b _ hb => ⟨rfl, hX b hb⟩) (fun _ _ => rfl) fun _ _ => rfl
 | ext p => exact h.mono (fun b _ hb => ⟨rfl, hX b hb⟩) (fun _ _ => rfl) fun _ _ => rfl
theorem CV.sb_refs (hy : ∀ i ∈ y.refs, i = k) (x : CV) : ∀ j ∈ (sbC k y x).refs, j ∈ x.refs := by
 cases x <;> simp only [sbC] <;> try exact fun j hj => hj
 split
 ·rename_i hi; intro j hj; rw [hy j hj, hi]; simp [CV.refs]
 ·exact fun j hj => hj
theorem TV.sb_refs (hy : ∀ i ∈ y.refs, i = k) (x : TV) : ∀ j ∈ (x.sb k y).refs, j ∈ x.refs := by
 cases x with
 | c x => exact CV.sb_refs hy x
 | g xs => exact refs_sub_flat (CV.sb_refs hy)
theorem AVal.sb_refs (hy : ∀ i ∈ y.refs, i = k) (x : AVal) : ∀ j ∈ (x.sb k y).refs, j ∈ x.refs := by
 cases x with
 | any => exact fun j hj => hj
 | v x => exact TV.sb_refs hy x
 | t xs => exact refs_sub_flat (TV.sb_refs hy)
theorem Obj.sb_refs (hy : ∀ i ∈ y.refs, i = k) (o : Obj) : ∀ j ∈ (o.sb k y).refs, j ∈ o.refs := by
 cases o with
 | box ro cs => exact refs_sub_flat (CV.sb_refs hy)
 | arr es n f => exact fun j hj => hj
 | ext p => exact fun j hj => hj
theorem Obj.sb_ro (o : Obj) : (o.sb k y).ro = o.ro := by cases o <;> rfl
end
section
variable {P : Program} {C : Ctx} {nt : Nat} {L : Lay} {pins : List Nat} {K : Act → World → Prop} {E : List (Nat × AVal)} {S : List (Nat × Obj)}
theorem Conc.sb {R : Nat → Prop} {η : Nat → Value} {a : Act} {w : World} {S0 : List (Nat × Obj)} {k : Nat} {y : CV} (hc : Conc C nt R η (lk E) (ls S0) a w) (s' : Sto) (hy : ∀ i ∈ y.refs, i = k)
  (hs : ∀ i o', s' i = some o' → ∃ o, ls S0 i = some o ∧ (o' = o.sb k y ∨ (o'.refs = [] ∧ o'.ro = o.ro ∧ ORep w (XS C s' η) η C (η i) o')))
  (hrep : ∀ v, CRep w (XS C (ls S0) η) η C v (.ap k) → CRep w (XS C s' η) η C v y) : Conc C nt R η (lk (E.map fun p => (p.1, p.2.sb k y))) s' a w := by
 have hX : ∀ b, ¬ XS C (ls S0) η b → ¬ XS C s' η b := by
  intro b hb hx
  rcases hx with hx | ⟨i, o', hi, hib⟩
  ·exact hb (.inl hx)
  ·obtain ⟨o, ho, _⟩ := hs i o' hi
   exact hb (.inr ⟨i, o, ho, hib⟩)
 have hne : ∀ i, s' i ≠ none → ls S0 i ≠ none := by
  intro i hi
  obtain ⟨o', hi⟩ := Option.ne_none_iff_exists'.1 hi
  obtain ⟨o, ho, _⟩ := hs i o' hi
  rw [ho]; simp
 refine ⟨hc.ok, hc.df, hc.sz, fun t => ?_, fun t i hi => ?_, fun i o' hi => ?_, fun i o' hi => ?_, fun i j b hi hj => hc.ds i j b (hne i hi) (hne j hj), fun i o' b hi hb => ?_, hc.fr, hc.pn⟩
 ·rw [lk_map (g := AVal.sb k y) rfl]; exact (hc.ev t).sb hX hrep
 ·rw [lk_map (g := AVal.sb k y) rfl] at hi; exact hc.er t i (AVal.sb_refs hy _ i hi)
 ·obtain ⟨o, ho, h | ⟨_, _, h⟩⟩ := hs i o' hi
  ·rw [h]; exact (hc.st i o ho).sb hX hrep
  ·exact h
 ·obtain ⟨o, ho, h | ⟨h, _, _⟩⟩ := hs i o' hi
  ·have := hc.sr i o ho
   exact ⟨this.1, fun j hj => this.2 j (by rw [h] at hj; exact Obj.sb_refs hy o j hj)⟩
  ·exact ⟨(hc.sr i o ho).1, fun j hj => by rw [h] at hj; cases hj⟩
 ·obtain ⟨o, ho, h | ⟨_, h, _⟩⟩ := hs i o' hi
  ·have := hc.ow i o b ho hb
   rw [h, Obj.sb_ro]; exact this
  ·have := hc.ow i o b ho hb
   rw [h]; exact this
theorem Kn.ap_split {k es n : Nat} {f : Nat → List DVal} (hk : (S.map (·.1)).contains k = false)
  (h1 : Kn C nt (E.map fun p => (p.1, p.2.sb k (.own k))) ((k, .arr es n f) :: S.map fun p => (p.1, p.2.sb k (.own k))) K)
  (h2 : Kn C nt (E.map fun p => (p.1, p.2.sb k (.fl n f))) (S.map fun p => (p.1, p.2.sb k (.fl n f))) K) : Kn C nt E ((k, .ext (apP es n f)) :: S) K := by
 intro R η a w hc
 have hks : ls ((k, .ext (apP es n f)) :: S) k = some (.ext (apP es n f)) := by rw [ls_cons, if_pos rfl]
 have hkS : ls S k = none := by
  cases ho : ls S k with
  | none => rfl
  | some o =>
   have : k ∈ S.map (·.1) := List.mem_map.2 ⟨_, ls_mem ho, rfl⟩
   rw [List.contains_iff_mem.2 this] at hk
   cases hk
 have hsub : ∀ i o, ls S i = some o → ls ((k, .ext (apP es n f)) :: S) i = some o := by
  intro i o hi
  have hne : i ≠ k := by intro h; rw [h, hkS] at hi; cases hi
  rw [ls_cons, if_neg hne]; exact hi
 have hst := hc.st k _ hks
 have hap : apP es n f w (XS C (ls ((k, .ext (apP es n f)) :: S)) η) (η k) := by
  generalize η k = u at hst
  cases hst with | ext _ _ h _ _ => exact h
 rcases hap with ⟨ad, e, hd⟩ | ho
 ·refine h2 R η a w (hc.sb _ (by simp [CV.refs]) (fun i o' hi => ?_) fun v hv => ?_)
  ·rw [ls_map] at hi
   cases ho : ls S i with
   | none => rw [ho] at hi; cases hi
   | some o => rw [ho] at hi; cases hi; exact ⟨o, hsub i o ho, .inl rfl⟩
  ·have hX : ∀ b, ¬ XS C (ls ((k, .ext (apP es n f)) :: S)) η b → ¬ XS C (ls (S.map fun p => (p.1, p.2.sb k (.fl n f)))) η b := by
    intro b hb hx
    rcases hx with hx | ⟨i, o', hi, hib⟩
    ·exact hb (.inl hx)
    ·rw [ls_map] at hi
     cases ho : ls S i with
     | none => rw [ho] at hi; cases hi
     | some o => exact hb (.inr ⟨i, o, hsub i o ho, hib⟩)
   cases hv with | ap _ _ hv h1 =>
   rw [e] at hv
   rcases hv with rfl | hv | ⟨l, hv⟩
   ·cases h1
   ·cases hv; exact .fl _ _ _ (hd.mono fun b _ hb => ⟨rfl, hX b hb⟩)
   ·cases hv
 ·have hX : ∀ b, ¬ XS C (ls ((k, .ext (apP es n f)) :: S)) η b → ¬ XS C (ls ((k, .arr es n f) :: S.map fun p => (p.1, p.2.sb k (.own k)))) η b := by
   intro b hb hx
   rcases hx with hx | ⟨i, o', hi, hib⟩
   ·exact hb (.inl hx)
   ·rw [ls_cons] at hi
    split at hi
    ·rename_i hik; subst hik; exact hb (.inr ⟨i, _, hks, hib⟩)
    ·rw [ls_map] at hi
     cases ho : ls S i with
     | none => rw [ho] at hi; cases hi
     | some o => exact hb (.inr ⟨i, o, hsub i o ho, hib⟩)
  refine h1 R η a w (hc.sb _ (by simp [CV.refs]) (fun i o' hi => ?_) fun v hv => ?_)
  ·rw [ls_cons] at hi
   split at hi
   ·rename_i hik
    cases hi
    subst hik
    exact ⟨_, hks, .inr ⟨rfl, rfl, (ho η C).mono (fun b _ hb => ⟨rfl, hX b hb⟩) (fun _ _ => rfl) fun _ _ => rfl⟩⟩
   ·rw [ls_map] at hi
    cases ho' : ls S i with
    | none => rw [ho'] at hi; cases hi
    | some o => rw [ho'] at hi; cases hi; exact ⟨o, hsub i o ho', .inl rfl⟩
  ·cases hv with | ap _ _ hv h1 =>
   have := ho η C
   rcases hv with hv | hv | ⟨l, hv⟩
   ·exact .own _ _ hv.symm h1
   ·rw [hv] at this; cases this
   ·rw [hv] at this; cases this
theorem Kn.ap0 (Fm : Fr P L C pins) {S0 : List (Nat × Obj)} {ro : Bool} {i k es n j : Nat} {cs : List CV} {f : Nat → List DVal} (hp : pins.contains k = false)
  (hfr : ((E.flatMap fun p => p.2.refs) ++ (((i, Obj.box ro cs) :: S0).flatMap fun p => p.1 :: p.2.refs)).contains k = false) (hj : j < cs.length) (hc0 : cs.getD j (.d .any) = .fl n f)
  (hk : Kn C nt E ((k, .ext (apP es n f)) :: (i, .box ro (cs.set j (.ap k))) :: S0) K) : Kn C nt E ((i, .box ro cs) :: S0) K := by
 intro R η a w hc
 have hsi : ls ((i, Obj.box ro cs) :: S0) i = some (.box ro cs) := by rw [ls_cons, if_pos rfl]
 have hst := hc.st i _ hsi
 obtain ⟨b0, c', e', hη0, hb0, hcs⟩ : ∃ b c' e', η i = .pointer (some ⟨b, 0, none⟩) ∧ w.heap[b]? = some (.cells c' e' (0, 0)) ∧ CsRep w (XS C (ls ((i, Obj.box ro cs) :: S0)) η) η C c' cs := by
  generalize η i = u at hst
  cases hst with | box b _ c' e' _ hb h => exact ⟨b, c', e', rfl, hb, h⟩
 obtain ⟨ad, hv, hdr⟩ : ∃ ad, c'.getD j undef = .slice ad n n ∧ DRep w (XS C (ls ((i, Obj.box ro cs) :: S0)) η) (.slice ad n n) (.lst n f) := by
  have := hcs.2 j hj
  rw [hc0] at this
  generalize c'.getD j undef = u at this
  cases this with | fl ad _ _ h => exact ⟨ad, rfl, h⟩
 have hpin : C.pin k = none := by
  rcases hq : C.pin k with _ | u
  ·rfl
  ·have := Fm.pin k (by rw [hq]; simp)
   rw [List.contains_iff_mem.2 this] at hp; cases hp
 have hnk : ∀ x ∈ (E.flatMap fun p => p.2.refs) ++ (((i, Obj.box ro cs) :: S0).flatMap fun p => p.1 :: p.2.refs), x ≠ k := by
  intro x hx he
  subst he
  rw [List.contains_iff_mem.2 hx] at hfr; cases hfr
 have hS : ∀ x o, ls ((i, Obj.box ro cs) :: S0) x = some o → x ≠ k ∧ ∀ y ∈ o.refs, y ≠ k := by
  intro x o hx
  have hm := ls_mem hx
  exact ⟨hnk x (List.mem_append.2 (.inr (List.mem_flatMap.2 ⟨_, hm, by simp⟩))), fun y hy => hnk y (List.mem_append.2 (.inr (List.mem_flatMap.2 ⟨_, hm, by simp [hy]⟩)))⟩
 have hik : i ≠ k := (hS i _ hsi).1
 have hE : ∀ u x, x ∈ (lk E u).refs → x ≠ k := by
  intro u x hx
  rcases lk_mem (E := E) (t := u) with h0 | h0
  ·rw [h0] at hx; cases hx
  ·exact hnk x (List.mem_append.2 (.inl (List.mem_flatMap.2 ⟨_, h0, hx⟩)))
 let η' : Nat → Value := fun x => if x = k then .tuple #[.slice ad n n] else η x
 have hη' : ∀ x, x ≠ k → η' x = η x := fun x hx => by show (if x = k then Value.tuple #[.slice ad n n] else η x) = _; rw [if_neg hx]
 have hηk : η' k = .tuple #[.slice ad n n] := by show (if k = k then Value.tuple #[.slice ad n n] else η k) = _; rw [if_pos rfl]
 have hblk : ∀ b, b ∉ blks (η' k) := by intro b; rw [hηk]; simp [blks]
 have hnew : ∀ x o, ls ((k, Obj.ext (apP es n f)) :: (i, .box ro (cs.set j (.ap k))) :: S0) x = some o → (x = k ∧ o = .ext (apP es n f)) ∨ (x = i ∧ o = .box ro (cs.set j (.ap k))) ∨ (x ≠ k ∧ x ≠ i ∧ ls ((i, Obj.box ro cs) :: S0) x = some o) := by
  intro x o hx
  rw [ls_cons] at hx
  by_cases h1 : x = k
  ·rw [if_pos h1] at hx; cases hx; exact .inl ⟨h1, rfl⟩
  ·rw [if_neg h1, ls_cons] at hx
   by_cases h2 : x = i
   ·rw [if_pos h2] at hx; cases hx; exact .inr (.inl ⟨h2, rfl⟩)
   ·rw [if_neg h2] at hx
    exact .inr (.inr ⟨h1, h2, by rw [ls_cons, if_neg h2]; exact hx⟩)
 have hold : ∀ x o, ls ((k, Obj.ext (apP es n f)) :: (i, .box ro (cs.set j (.ap k))) :: S0) x = some o → x ≠ k → ∃ o', ls ((i, Obj.box ro cs) :: S0) x = some o' ∧ o'.ro = o.ro := by
  intro x o hx hxk
  rcases hnew x o hx with ⟨h1, _⟩ | ⟨h1, h2⟩ | ⟨_, _, h3⟩
  ·exact absurd h1 hxk
  ·subst h1; subst h2; exact ⟨_, hsi, rfl⟩
  ·exact ⟨o, h3, rfl⟩
 have hown : ∀ b, Own (ls ((k, Obj.ext (apP es n f)) :: (i, .box ro (cs.set j (.ap k))) :: S0)) η' b → Own (ls ((i, Obj.box ro cs) :: S0)) η b := by
  rintro b ⟨x, o, hx, hxb⟩
  by_cases hxk : x = k
  ·subst hxk; exact absurd hxb (hblk b)
  ·obtain ⟨o', h1, _⟩ := hold x o hx hxk
   exact ⟨x, o', h1, by rw [← hη' x hxk]; exact hxb⟩
 have hX : Kept w w (XS C (ls ((i, Obj.box ro cs) :: S0)) η) (XS C (ls ((k, Obj.ext (apP es n f)) :: (i, .box ro (cs.set j (.ap k))) :: S0)) η') := by
  intro b hb hn
  refine ⟨rfl, fun hx => ?_⟩
  rcases hx with hx | hx
  ·exact hn (.inl hx)
  ·exact hn (.inr (hown b hx))
 refine hk (fun x => R x ∨ x = k) η' a w ⟨hc.ok, hc.df, hc.sz, fun u => (hc.ev u).mono hX fun x hx => hη' x (hE u x hx), fun u x hx => .inl (hc.er u x hx), fun x o hx => ?_, fun x o hx => ?_, fun x y b hx hy hxb hyb => ?_, fun x o b hx hb => ?_, hc.fr, fun x u hx => ?_⟩
 ·rcases hnew x o hx with ⟨rfl, rfl⟩ | ⟨rfl, rfl⟩ | ⟨h1, h2, h3⟩
  ·refine .ext _ _ ?_ (apP_stab es n f _) (fun b hb => absurd hb (hblk b))
   rw [hηk]
   exact .inl ⟨ad, rfl, hdr.mono hX⟩
  ·rw [hη' x hik, hη0]
   refine .box b0 ro c' e' _ hb0 ⟨by rw [hcs.1]; simp, fun q hq => ?_⟩
   have hq' : q < cs.length := by simpa using hq
   by_cases hqj : q = j
   ·subst hqj
    have : (cs.set q (.ap k)).getD q (.d .any) = .ap k := by simp [List.getD_eq_getElem?_getD, hq']
    rw [this, hv]
    exact .ap _ _ (.inr (.inl hηk)) rfl
   ·have : (cs.set j (.ap k)).getD q (.d .any) = cs.getD q (.d .any) := by
     simp [List.getD_eq_getElem?_getD, List.getElem?_set, Ne.symm hqj]
    rw [this]
    refine (hcs.2 q hq').mono hX fun y hy => hη' y ((hS x _ hsi).2 y ?_)
    exact List.mem_flatMap.2 ⟨_, getD_mem hq', hy⟩
  ·rw [hη' x h1]
   exact (hc.st x o h3).mono hX (fun y hy => hη' y ((hS x o h3).2 y hy)) fun _ _ => rfl
 ·rcases hnew x o hx with ⟨rfl, rfl⟩ | ⟨rfl, rfl⟩ | ⟨h1, h2, h3⟩
  ·exact ⟨.inr rfl, by simp [Obj.refs]⟩
  ·have := hc.sr x _ hsi
   refine ⟨.inl this.1, fun y hy => ?_⟩
   obtain ⟨z, hz, hyz⟩ := List.mem_flatMap.1 hy
   rcases List.mem_or_eq_of_mem_set hz with h4 | h4
   ·exact .inl (this.2 y (List.mem_flatMap.2 ⟨z, h4, hyz⟩))
   ·subst h4
    exact .inr (by simpa [CV.refs] using hyz)
  ·have := hc.sr x o h3
   exact ⟨.inl this.1, fun y hy => .inl (this.2 y hy)⟩
 ·obtain ⟨ox, hx⟩ := Option.ne_none_iff_exists'.1 hx
  obtain ⟨oy, hy⟩ := Option.ne_none_iff_exists'.1 hy
  by_cases hxk : x = k
  ·subst hxk; exact absurd hxb (hblk b)
  ·by_cases hyk : y = k
   ·subst hyk; exact absurd hyb (hblk b)
   ·obtain ⟨o1, h1, _⟩ := hold x ox hx hxk
    obtain ⟨o2, h2, _⟩ := hold y oy hy hyk
    rw [hη' x hxk] at hxb
    rw [hη' y hyk] at hyb
    exact hc.ds x y b (by rw [h1]; simp) (by rw [h2]; simp) hxb hyb
 ·by_cases hxk : x = k
  ·subst hxk; exact absurd hb (hblk b)
  ·obtain ⟨o', h1, h2⟩ := hold x o hx hxk
   rw [hη' x hxk] at hb
   rw [← h2]
   exact hc.ow x o' b h1 hb
 ·have hxk : x ≠ k := by intro h; subst h; rw [hpin] at hx; cases hx
  have := hc.pn x u hx
  exact ⟨by rw [hη' x hxk]; exact this.1, .inl this.2⟩
end
end Go.Ab
end

section
namespace Go.Ab
section
variable {P : Program} {C : Ctx} {nt : Nat} {L : Lay} {ops : Array Oper} {ds : List Dir} {e : Env} {s : Sto}
def capP (caps : List Nat) : List AVal := caps.map fun c => .v (.c (.ptr c 0))
theorem stT_callC {f : Nat} (hcall : ∀ args w, (callFunc f args).run P w = .ok (.enter f args) w) {o : Oper} {fx : Operand} {xs : Array Operand} {tys : Array TypeId} (hop : o.op = .call { callee := .value fx, args := xs, argTypes := tys })
  {args : List AVal} {Si : List (Nat × Obj)} {r : AVal} {So : List (Nat × Obj)} {m : Nat → Nat} {caps : List Nat} (hfx : aev e fx = .v (.c (.clo f (caps.map m)))) (hrf : rdOk (tmpsOf o ++ guardTmp ops o) fx = true)
  (hspec : FSpec P f (args ++ capP caps) Si r So) (hbox : ∀ c ∈ caps, ∃ ro cs, ls Si c = some (.box ro cs)) (hlen : xs.size = args.length) (extra : List Nat)
  (hargs : ∀ j, j < args.length → ArgT C nt e s Si m (tmpsOf o ++ guardTmp ops o) (idsOf e o ++ (Si.map (fun p => m p.1) ++ extra)) (xs.toList.getD j (.const undef)) (args.getD j .any))
  (hsi : ∀ p ∈ Si, ∃ o1, s (m p.1) = some o1 ∧ OLe o1 (p.2.ren m)) (hchk : callChk m r Si So = true) (hdo : dstOk nt o = true) (hg : gval ops e o = some true) : StT P C nt ops o (callEff ops o e m extra r Si So) e s := by
 intro R η e0 s0 a w hrd hids hfr hc K Q hK
 have hw := wanted_of (e := e) hc (fun t ht => hrd t (List.mem_append.2 (.inr ht))) hg
 rw [if_pos hw]
 have hfv := (aev_ok hc fx).1
 rw [aev_agree hrd hrf, hfx] at hfv
 have hfv' := clo_inv hfv
 have hex := exec_call (w := w) hop hfv' hcall
 have hsi0 : ∀ p ∈ Si, ∃ o1, s0 (m p.1) = some o1 ∧ OLe o1 (p.2.ren m) := by
  intro p hp
  rw [hids (m p.1) (List.mem_append.2 (.inr (List.mem_append.2 (.inl (List.mem_map.2 ⟨p, hp, rfl⟩)))))]
  exact hsi p hp
 simp only [callChk, Bool.and_eq_true] at hchk
 have hchk' := hchk
 obtain ⟨⟨⟨⟨⟨⟨⟨⟨⟨c1, c2⟩, c3⟩, c4⟩, c5⟩, c6⟩, c7⟩, c8⟩, c9⟩, c10⟩ := hchk
 have hXlt : ∀ b, XS C s0 η b → b < w.heap.size := by
  rintro b (⟨hx, _⟩ | hx)
  ·exact Nat.lt_of_lt_of_le (hc.ok.lt b hx) hc.fr.size
  ·exact hc.lt hx
 have hsem : ∀ i o', ls Si i = some o' → o'.noSem = true := fun i o' hi => List.all_eq_true.1 c7 _ (ls_mem hi)
 have hobj : ∀ i o', ls Si i = some o' → ORep w (XS C s0 η) (fun i => η (m i)) (callCtx Si w (XS C s0 η) fun i => η (m i)) (η (m i)) o' := fun i o' hi => by
  obtain ⟨o1, h1, hle⟩ := hsi0 _ (ls_mem hi)
  exact (ORep.unren (hle.1 _ _ _ _ _ (hc.st _ o1 h1))).ctx (hsem i o' hi)
 have hsp := hspec w (XS C s0 η) (fun i => η (m i)) (xs.map a.eval ++ ((caps.map m).map η).toArray) hXlt
  (fun b ⟨i, o', hi, hib⟩ => by obtain ⟨o1, h1, _⟩ := hsi0 _ (ls_mem hi); exact .inr ⟨m i, o1, h1, hib⟩)
  hobj
  (fun i j b hi hj hbi hbj => by
   obtain ⟨oi, hi⟩ := Option.ne_none_iff_exists'.1 hi
   obtain ⟨oj, hj⟩ := Option.ne_none_iff_exists'.1 hj
   obtain ⟨o1, h1, _⟩ := hsi0 _ (ls_mem hi)
   obtain ⟨o2, h2, _⟩ := hsi0 _ (ls_mem hj)
   have hmij : m i = m j := hc.ds _ _ b (by rw [h1]; simp) (by rw [h2]; simp) hbi hbj
   have n3 := nodupB_ok c3
   rw [List.nodup_append] at n3
   exact inj_of (ρ := m) n3.2.1 (by rw [hi]; simp) (by rw [hj]; simp) hmij)
  (by simp [hlen, capP])
  (fun j hj => by
   rw [List.length_append] at hj
   by_cases hja : j < args.length
   ·have hj' : j < xs.size := by omega
    have e1 : (xs.map a.eval ++ ((caps.map m).map η).toArray).getD j undef = a.eval (xs.toList.getD j (.const undef)) := by
     simp [List.getD_eq_getElem?_getD, hj', Array.getD_eq_getD_getElem?, Array.getElem?_append]
    have e2 : (args ++ capP caps).getD j .any = args.getD j .any := by simp [List.getD_eq_getElem?_getD, List.getElem?_append, hja]
    rw [e1, e2]
    exact hargs j hja R η e0 s0 a w hrd hids hc
   ·have hk1 : j - args.length < caps.length := by simp [capP] at hj; omega
    have g1 : ¬ j < xs.size := by omega
    have g2 : j - xs.size = j - args.length := by omega
    have e1 : (xs.map a.eval ++ ((caps.map m).map η).toArray).getD j undef = η (m (caps.getD (j - args.length) 0)) := by
     simp [Array.getD_eq_getD_getElem?, Array.getElem?_append, g1, g2, hk1, List.getD_eq_getElem?_getD]
    have e2 : (args ++ capP caps).getD j .any = .v (.c (.ptr (caps.getD (j - args.length) 0) 0)) := by
     simp [List.getD_eq_getElem?_getD, List.getElem?_append, hja, capP, hk1]
    rw [e1, e2]
    obtain ⟨ro, cs, hb⟩ := hbox _ (getD_mem (d := 0) hk1)
    have := hobj _ _ hb
    generalize hu : η (m (caps.getD (j - args.length) 0)) = u at this
    cases this with | box b _ c e' _ _ _ => exact .v _ _ (.c _ _ (.ptr b _ 0 hu)))
 unfold Oper.wp
 rw [hex]
 show Calls P f _ w _
 refine hsp.mono fun en w' hh => ?_
 obtain ⟨v, η', rfl, hb⟩ := hh
 have hchk2 : callChk m r Si So = true := by simp only [callChk, Bool.and_eq_true]; exact hchk'
 obtain ⟨η1, hc1⟩ := hc.call (dst_lt hdo) hchk2 hsi0 hfr hb
 exact hK η1 _ w' hc1
def isCloL (f : Nat) (ids : List Nat) : AVal → Bool
 | .v (.c (.clo g is)) => g == f && is == ids
 | _ => false
theorem isCloL_ok {f : Nat} {ids : List Nat} {x : AVal} (h : isCloL f ids x = true) : x = .v (.c (.clo f ids)) := by
 unfold isCloL at h
 split at h
 ·rename_i g is; simp at h; rw [h.1, h.2]
 ·cases h
def boxesB (Si : List (Nat × Obj)) (caps : List Nat) : Bool := caps.all fun c => match ls Si c with | some (.box _ _) => true | _ => false
theorem boxesB_ok {Si : List (Nat × Obj)} {caps : List Nat} (h : boxesB Si caps = true) : ∀ c ∈ caps, ∃ ro cs, ls Si c = some (.box ro cs) := by
 intro c hc
 have := List.all_eq_true.1 h c hc
 split at this
 ·rename_i ro cs h1; exact ⟨ro, cs, h1⟩
 ·cases this
def callCB (ops : Array Oper) (nt : Nat) (e : Env) (o : Oper) (f : Nat) (m : List (Nat × Nat)) (caps : List Nat) (r : AVal) (Si So : List (Nat × Obj)) : Bool :=
 isCall o && isCloL f (caps.map (rhoL m)) (aev e (callX o)) && rdOk (tmpsOf o ++ guardTmp ops o) (callX o) && callChk (rhoL m) r Si So && dstOk nt o && (gval ops e o == some true) && boxesB Si caps
theorem KAt.clC {k : Nat} {f : Nat} {args : List AVal} {Si : List (Nat × Obj)} {r : AVal} {So : List (Nat × Obj)} {caps : List Nat} (hspec : FSpec P f (args ++ capP caps) Si r So) (hcall : ∀ args w, (callFunc f args).run P w = .ok (.enter f args) w) (m : List (Nat × Nat))
  (hk : dirAt ds k = cE m [] r Si So) (hq : (callCB ops nt (arunE L ops ops.toList ds e s k) (opAt ops.toList k) f m caps r Si So, Si.map (fun p => arunS L ops ops.toList ds e s k (rhoL m p.1)),
   (Go.Ab.callXs (opAt ops.toList k)).toList.all (rdOk (tmpsOf (opAt ops.toList k) ++ guardTmp ops (opAt ops.toList k))) && args.all AVal.noSem, (Go.Ab.callXs (opAt ops.toList k)).toList.map (aev (arunE L ops ops.toList ds e s k)))
   = (true, Si.map (fun p => some (p.2.ren (rhoL m))), true, args.map (AVal.ren (rhoL m)))) : KAt P C nt L ops ds e s k := by
 unfold KAt
 rw [hk]
 have hb := congrArg (·.1) hq
 have hsi := congrArg (·.2.1) hq
 have hrd := congrArg (·.2.2.1) hq
 have hargs := congrArg (·.2.2.2) hq
 simp only at hb hsi hrd hargs
 simp only [callCB, Bool.and_eq_true] at hb
 obtain ⟨⟨⟨⟨⟨⟨b1, b2⟩, b3⟩, b4⟩, b5⟩, b6⟩, b7⟩ := hb
 obtain ⟨tys, hop⟩ := isCall_ok b1
 rw [Bool.and_eq_true] at hrd
 obtain ⟨g1, g2⟩ := (ArgsT.plains (C := C) (nt := nt) (s := arunS L ops ops.toList ds e s k) (Si := Si) (ids := idsOf (arunE L ops ops.toList ds e s k) (opAt ops.toList k) ++ (Si.map (fun p => rhoL m p.1) ++ [])) hrd.1 hrd.2 hargs).spec
 exact stT_callC hcall hop (isCloL_ok b2) b3 hspec (boxesB_ok b7) (by simpa using g1) [] (fun j hj => g2 j hj) (fun p hp => ⟨_, forall_of_map hsi p hp, OLe.refl _⟩) b4 b5 (by simpa using b6)
end
end Go.Ab
end

section
namespace Go.Ab
open Go.Sort Go.Proofs Go.Shelf
theorem swo_pos {κ : Type} {lt : κ → κ → Bool} (pos : κ → Nat) (h : ∀ i j, lt i j = true ↔ pos i < pos j) : SWO lt := by
 have h' : ∀ i j, lt i j = false ↔ pos j ≤ pos i := by
  intro i j
  have := h i j
  cases hh : lt i j with
  | true => rw [hh] at this; simp at this ⊢; omega
  | false => rw [hh] at this; simp at this ⊢; omega
 refine ⟨fun x => (h' x x).2 (Nat.le_refl _), fun x y z h1 h2 => ?_, fun x y z h1 h2 => ?_⟩
 ·rw [h] at h1 h2 ⊢; omega
 ·rw [h'] at h1 h2 ⊢; omega
section
variable {α : Type} [Emb α]
theorem sortG_FSpec {P : Program} {L : Lay} (hL : LOk P L) {ρ : Ren} (Ly : SlLaysF0.n6 P ρ) {te : TI} (hte : L (ρ.t 24) = some te) (hagg : te.kind.agg = true) (hsz : te.size = Emb.es α)
  (F : (α → α → Option Int) → List AVal → AVal → Prop) (hF : ∀ q x y z, q x y = some z → F q [.v (.g ((Emb.cells x).map .d)), .v (.g ((Emb.cells y).map .d))] (vi z)) {x r : List α} {q : α → α → Option Int} (h : sortG x q = some r) :
  FSpec P (ρ.f 6) [.v (.c (.own 0)), vclo P (F q)] [(0, AO (α := α) x)] .any [(0, AO (α := α) r)] := by
 obtain ⟨hl, hsq⟩ := sortG_some h
 obtain ⟨ti, td, tz, hti⟩ := hL _ _ hte
 have hrl : r.length = x.length := hsq.perm.length_eq
 intro w X η vs hX hown hobj hds hlen hargs
 have hlen : vs.size = 2 := hlen
 have hv0 : vs.getD 0 undef = η 0 := own_inv (C := callCtx [(0, AO (α := α) x)] w X η) (s := ls [(0, AO (α := α) x)]) (by have := hargs 0 (by simp); rw [own_ext hown]; exact this)
 have hv1 : CloOK P (F q) w (Own (ls [(0, AO (α := α) x)]) η) X (vs.getD 1 undef) := by
  have := hargs 1 (by simp)
  change ARep w X η _ (vs.getD 1 undef) (vclo P (F q)) at this
  generalize vs.getD 1 undef = u at this
  cases this with | v _ _ hh => cases hh with | c _ _ hh => cases hh with | sem _ _ hh _ => exact hh
 rw [vs_two hlen, hv0]
 have ho := hobj 0 (AO x) (by rw [ls_cons, if_pos rfl])
 have hXb : ∀ b, b ∈ blks (η 0) → X b := fun b hb => hown b ⟨0, _, by rw [ls_cons, if_pos rfl], hb⟩
 generalize hu : η 0 = u at ho
 unfold AO at ho
 generalize hn : x.length = n at ho
 cases ho with
 | nil ad =>
  have hx : x = [] := List.eq_nil_of_length_eq_zero hn
  refine (AnyF.slices_SortFunc_none Ly ad 0 _ w).mono fun e w' hh => ?_
  obtain ⟨he, hw⟩ := hh
  refine ⟨_, η, he, ?_⟩
  rw [hw]
  have hb := behind_none (w := w) (X := X) (l := x) hu hX
  have hp : r = [] := List.eq_nil_of_length_eq_zero (by rw [hrl, hn])
  rw [hp]; exact hb
 | arr b _ cap _ c e _ g1 g2 g3 g4 g5 g6 g7 =>
  rename_i n
  have hblk : b ∈ blks (η 0) := by rw [hu]; simp [blks]; omega
  rcases Nat.eq_zero_or_pos n with hn0 | hn0
  ·subst hn0
   refine (AnyF.slices_SortFunc_none Ly (some ⟨b, 0, none⟩) cap _ w).mono fun e' w' hh => ?_
   obtain ⟨he, hw⟩ := hh
   refine ⟨_, η, he, ?_⟩
   rw [hw]
   exact behind_one (c' := c) (e := e) (b := b) (n := 0) (cap := cap) hu g5 (Stp.refl _ _) g1 g2 (by rw [hrl, hn]) g3 g4 (fun i j hi => absurd hi (Nat.not_lt_zero i)) hX (hXb b hblk)
  obtain ⟨fid, caps, hfv, hcall, hclo⟩ := hv1
  rw [hfv]
  letI inst : Inhabited (_root_.Fin n) := ⟨⟨0, hn0⟩⟩
  let at_ : _root_.Fin n → α := fun i => x[i.val]'(by omega)
  have hatm : ∀ i, at_ i ∈ r := fun i => hsq.perm.mem_iff.2 (List.getElem_mem _)
  have hpos : ∀ i, ∃ s, ∃ hs : s < r.length, r[s] = at_ i := fun i => by
   obtain ⟨s, hs, e⟩ := List.getElem_of_mem (hatm i); exact ⟨s, hs, e⟩
  let pos : _root_.Fin n → Nat := fun i => (hpos i).choose
  have hpl : ∀ i, pos i < r.length := fun i => (hpos i).choose_spec.choose
  have hpe : ∀ i, r[pos i]'(hpl i) = at_ i := fun i => (hpos i).choose_spec.choose_spec
  have htri : ∀ i j, (pos i < pos j → LtQ q (at_ i) (at_ j)) ∧ (pos j ≤ pos i → GeQ q (at_ i) (at_ j)) := fun i j => by
   have := hsq.at (pos i) (pos j) (hpl i) (hpl j)
   rw [hpe, hpe] at this; exact this
  let cf : _root_.Fin n → _root_.Fin n → Int := fun i j => (q (at_ i) (at_ j)).getD 0
  have hq : ∀ i j, q (at_ i) (at_ j) = some (cf i j) := by
   intro i j
   rcases Nat.lt_or_ge (pos i) (pos j) with h1 | h1
   ·obtain ⟨z, e, _⟩ := (htri i j).1 h1; show _ = some ((q (at_ i) (at_ j)).getD 0); rw [e]; rfl
   ·obtain ⟨z, e, _⟩ := (htri i j).2 h1; show _ = some ((q (at_ i) (at_ j)).getD 0); rw [e]; rfl
  have hlt : ∀ i j, ltC cf i j = true ↔ pos i < pos j := by
   intro i j
   unfold ltC
   rw [decide_eq_true_eq]
   rcases Nat.lt_or_ge (pos i) (pos j) with h1 | h1
   ·obtain ⟨z, e, hz⟩ := (htri i j).1 h1
    have := (hq i j).symm.trans e
    have : cf i j = z := Option.some.inj this
    omega
   ·obtain ⟨z, e, hz⟩ := (htri i j).2 h1
    have := (hq i j).symm.trans e
    have : cf i j = z := Option.some.inj this
    omega
  have hO : SWO (ltC cf) := swo_pos pos hlt
  have hrnd : r.Nodup := hsq.asc.imp_of_mem fun {a b} ha _ hh e => by subst e; exact hh.1.not (hsq.self a ha)
  have hxnd : x.Nodup := hsq.perm.nodup_iff.1 hrnd
  have hatinj : ∀ i j, at_ i = at_ j → i = j := fun i j e => by
   have : i.val = j.val := (List.getElem_inj hxnd).1 e
   exact _root_.Fin.ext this
  have hposinj : ∀ i j, pos i = pos j → i = j := fun i j e => by
   apply hatinj
   rw [← hpe i, ← hpe j]
   simp only [e]
  let d : Array (_root_.Fin n) := (List.finRange n).toArray
  have hd : d.size = n := by simp [d]
  have hdat : ∀ i (hi : i < n), d[i]! = ⟨i, hi⟩ := fun i hi => by
   rw [getElem!_pos d i (by rw [hd]; exact hi)]; simp [d]
  obtain ⟨⟨hp1, _, hp2⟩, hp3⟩ := pdq_sorts (ltC cf) hO d 0 d.size (Lib.bitLen d.size) true true (Nat.zero_le _) (Nat.le_refl _) (.inl rfl)
  generalize hpd : pdq (ltC cf) d 0 d.size (Lib.bitLen d.size) true true = p at hp1 hp2 hp3
  have hp1 : p.size = n := hp1.trans hd
  have hperm : p.toList.Perm (List.finRange n) := by
   have : (p.extract 0 d.size).toList.Perm (d.extract 0 d.size).toList := hp2
   have e1 : p.extract 0 d.size = p := by rw [hd.trans hp1.symm]; exact Array.extract_size
   rw [e1, Array.extract_size] at this
   exact this
  have hmapx : (List.finRange n).map at_ = x := by
   apply List.ext_getElem
   ·simp [hn]
   ·intro i h1 h2; simp [at_]
  have hrp : r = p.toList.map at_ := by
   refine hsq.uniq ⟨hmapx ▸ hperm.map at_, ?_, fun a ha => ?_⟩
   ·rw [List.pairwise_map, List.pairwise_iff_getElem]
    intro i j hi hj hij
    have hi' : i < p.size := by simpa using hi
    have hj' : j < p.size := by simpa using hj
    have h5 : ltC cf p[j]! p[i]! = false := hp3 i j (Nat.zero_le _) hij (by rw [hd, ← hp1]; exact hj')
    rw [getElem!_pos p i hi', getElem!_pos p j hj'] at h5
    have h6 : ¬ pos p[j] < pos p[i] := fun hh => by rw [(hlt _ _).2 hh] at h5; cases h5
    have hnd : p.toList.Nodup := hperm.nodup_iff.2 (List.nodup_finRange n)
    have h7 : pos p[i] ≠ pos p[j] := fun hh => by
     have h8 := hposinj _ _ hh
     have := (List.getElem_inj (i := i) (j := j) (h₀ := hi) (h₁ := hj) hnd).1 (by simpa using h8)
     omega
    have h8 : pos p[i] < pos p[j] := by omega
    simp only [Array.getElem_toList]
    exact ⟨(htri _ _).1 h8, (htri _ _).2 (by omega)⟩
   ·obtain ⟨i, _, rfl⟩ := List.mem_map.1 ha
    exact (htri i i).2 (Nat.le_refl _)
  let es := Emb.es α
  let enc : _root_.Fin n → List Value := fun i => (List.range es).map fun j => c.getD (i.val * es + j) undef
  have hk : ∀ i, (enc i).length = es := fun i => by simp [enc]
  have hat : ∀ i : _root_.Fin n, (LF x i.val) = Emb.cells (at_ i) := fun i => by
   show Emb.cells (x.getD i.val Emb.d) = _
   rw [getD_lt x i.val (by omega)]
  have hrep0 : ∀ i : _root_.Fin n, ∀ j, j < es → DRep w X (c.getD (i.val * es + j) undef) ((Emb.cells (at_ i)).getD j .any) := fun i j hj => by
   have := g7 i.val j i.isLt hj
   rw [hat] at this; exact this
  have h1 : ∀ i, ∀ v ∈ enc i, v.oneCell' = true := by
   intro i v hv
   obtain ⟨j, hj, rfl⟩ := List.mem_map.1 hv
   exact (hrep0 i j (List.mem_range.1 hj)).one
  have hencj : ∀ i j, j < es → (enc i)[j]! = c.getD (i.val * es + j) undef := by
   intro i j hj
   rw [getElem!_pos (enc i) j (by rw [hk]; exact hj)]
   simp [enc]
  have hH : HoldsK enc es w b 0 d := by
   intro t ht
   have ht' : t < n * es := by have h5 := ht; simp only [size_flatK, hd] at h5; exact h5
   have htc : t < c.size := by rw [g2]; exact Nat.lt_of_lt_of_le ht' (Nat.mul_le_mul_right _ g3)
   refine ⟨?_, by simp [World.frozen?, g1]⟩
   have hpos : 0 < es := by
    rcases Nat.eq_zero_or_pos es with hz | hz
    ·rw [hz, Nat.mul_zero] at ht'; omega
    ·exact hz
   have p1 : t / es < n := Nat.div_lt_of_lt_mul (by rw [Nat.mul_comm]; exact ht')
   have p2 : t % es < es := Nat.mod_lt _ hpos
   have hflat : (flatK enc es d)[t]! = c.getD t undef := by
    rw [get_flatK _ _ _ _ (by rw [hd]; exact ht'), hdat _ p1, hencj _ _ p2]
    show c.getD (t / es * es + t % es) undef = _
    rw [show t / es * es + t % es = t from by rw [Nat.mul_comm]; exact Nat.div_add_mod t _]
   simp only [Nat.zero_add, World.cell?, g1, Option.isSome_none, Bool.false_eq_true, if_false, id]
   rw [Array.getElem?_eq_getElem htc]
   congr 1
   rw [hflat]; simp [htc]
  have hcmp : CmpLays P fid caps enc es cf b 0 d.size w := by
   intro m os dk hdk u v
   have hst := putRow_stp id w b 0 m (flatK enc es dk) os
   have hrep : ∀ (w1 : World) (hs : Stp (fun y => y = b) w w1) (z : _root_.Fin n) η C, ARep w1 X η C (.agg (enc z).toArray) (.v (.g ((Emb.cells (at_ z)).map .d))) := by
    intro w1 hs z η' C'
    refine .v _ _ (.g _ _ ⟨by simp [enc, Emb.len, es], fun j hj => ?_⟩)
    have hj' : j < (Emb.cells (at_ z)).length := by simpa using hj
    have hj2 : j < es := by rw [Emb.len] at hj'; exact hj'
    have e1 : (enc z).toArray.getD j undef = c.getD (z.val * es + j) undef := by simp [enc, hj2]
    have e2 : ((Emb.cells (at_ z)).map CV.d).getD j (.d .any) = .d ((Emb.cells (at_ z)).getD j .any) := by rw [getD_lt _ j (by simpa using hj'), getD_lt _ j hj']; simp
    rw [e1, e2]
    exact .d _ _ ((hrep0 z j hj2).mono fun y hy hn => ⟨hs.block y hy fun e => hn (by rw [e]; exact hXb b hblk), hn⟩)
   refine (hclo (grow (putRow id (Go.Sort.ahead w m) b 0 (flatK enc es dk)) os) X #[.agg (enc u).toArray, .agg (enc v).toArray] _ _ (hF q (at_ u) (at_ v) (cf u v) (hq u v)) hst.size (fun y hy hD => hst.block y hy fun e => hD ?_)
    (fun y hy => Nat.lt_of_lt_of_le (hX y hy) hst.size) (fun y _ _ => Iff.rfl) rfl (fun j hj η C => ?_)).mono fun e2 w2 hh => ?_
   ·rw [e]; exact ⟨0, _, by rw [ls_cons, if_pos rfl], hblk⟩
   ·have : j = 0 ∨ j = 1 := by simp at hj; omega
    rcases this with rfl | rfl
    ·exact hrep _ hst _ _ _
    ·exact hrep _ hst _ _ _
   ·obtain ⟨v', he, hs2, hr⟩ := hh
    have hr' := hr η (callCtx [] w X η)
    have e3 : v' = .int .i64 (cf u v) := by
     cases hr' with | v _ _ hh => cases hh with | c _ _ hh => cases hh with | d _ _ hh => cases hh; rfl
    obtain ⟨qq, os', hw'⟩ := stp_grow hs2
    exact ⟨by rw [he, e3], qq, os', hw'⟩
  have hmain := AnyQ.slices_SortFunc_eq Ly es (fun w => by rw [run_isAgg hti w, hagg]) (fun w => by rw [run_sizeOf hti, hsz]) enc hk h1 cf hO fid caps b 0 cap d w hcall hcmp hH (lt_of_heap g1) (by rw [hd]; simp only [LIM] at hl; omega)
  rw [hd] at hmain
  refine hmain.mono fun e' w' hh => ?_
  obtain ⟨he, nn, os, hw⟩ := hh
  refine ⟨_, η, he, ?_⟩
  have hpp : pdq (ltOf cf) d 0 n (Lib.bitLen n) true true = p := by rw [← hpd, hd]; rfl
  rw [hpp] at hw
  have hw2 : w' = grow (putRow id (Go.Sort.ahead w nn) b 0 (flatK enc es p)) os := hw
  rw [hw2]
  have hst := putRow_stp id w b 0 nn (flatK enc es p) os
  refine behind_one (c' := putCells id 0 (flatK enc es p) c) (e := e) (b := b) (n := n) (cap := cap) hu g5 hst (putRow_heap _ _ _ _ _ _ _ g1) (by rw [size_putCells']; exact g2) (by rw [hrl, hn]) g3 g4 (fun i j hi hj => ?_) hX (hXb b hblk)
  have hlt2 : i * es + j < n * es := by
   have : (i + 1) * es ≤ n * es := Nat.mul_le_mul_right _ hi
   rw [Nat.add_mul, Nat.one_mul] at this; have : j < es := hj; omega
  have hsz2 : (flatK enc es p).size = n * es := by simp [hp1]
  rw [getD_putCells _ _ _ _ (by rw [hsz2]; exact hlt2) (by rw [hsz2, g2]; exact Nat.mul_le_mul_right _ g3)]
  rw [get_flatK _ _ _ _ (by rw [hp1]; exact hlt2)]
  have d1 : (i * es + j) / es = i := by
   rw [Nat.add_comm, Nat.add_mul_div_right _ _ (by have : j < es := hj; omega), Nat.div_eq_of_lt hj, Nat.zero_add]
  have d2 : (i * es + j) % es = j := by rw [Nat.add_comm, Nat.add_mul_mod_self_right, Nat.mod_eq_of_lt hj]
  rw [d1, d2, hencj _ _ hj]
  have e6 : LF r i = Emb.cells (at_ p[i]!) := by
   show Emb.cells (r.getD i Emb.d) = _
   rw [getD_lt r i (by rw [hrl, hn]; exact hi)]
   congr 1
   have hi' : i < p.size := by rw [hp1]; exact hi
   rw [getElem!_pos p i hi']
   have : r[i]'(by rw [hrl, hn]; exact hi) = (p.toList.map at_)[i]'(by simpa using hi') := by simp only [hrp]
   rw [this]; simp
  show DRep _ X (c.getD _ undef) _
  rw [e6]
  exact (hrep0 _ j hj).mono fun y hy hn => ⟨hst.block y hy fun e => hn (by rw [e]; exact hXb b hblk), hn⟩
end
end Go.Ab
end

section
namespace Go.Ab
theorem Is.repl {α : Type} [Emb α] (n : Nat) (x : α) : Is n (fun _ => Emb.cells x) (List.replicate n x) :=
 ⟨by simp, fun i hi => by simp [LF, List.getD_eq_getElem?_getD, List.getElem?_replicate, hi]⟩
section
variable {P : Program} {C : Ctx} {nt : Nat} {L : Lay} {R : Nat → Prop} {η : Nat → Value} {e : Env} {s : Sto} {a : Act} {w : World}
theorem Snd.upd_le {o : Oper} {x : AVal} {id : Nat} {ob ob' : Obj} {c : Prop} (h : Snd P C nt R η e s a w o { v := x, upd := some (id, ob), cond := c }) (hle : OLe ob ob') : Snd P C nt R η e s a w o { v := x, upd := some (id, ob'), cond := c } := by
 obtain ⟨v, w', h1, h2⟩ := h
 refine ⟨v, w', h1, ?_⟩
 have hsto : ∀ q i, SR.sto { v := x, upd := some (id, q), cond := c } o.dst s i = if i = id then some q else s i := by
  intro q i
  unfold SR.sto
  simp
 have h3 := h2.conv (R' := SR.rng { v := x, upd := some (id, ob'), cond := c } o.dst R) (e' := SR.env { v := x, upd := some (id, ob'), cond := c } o.dst e) (s' := SR.sto { v := x, upd := some (id, ob'), cond := c } o.dst s) (fun i => i)
  (fun t => by rw [AVal.ren_id]; exact ALe.refl _) (fun i o' hi => by
   rw [Obj.ren_id]
   rw [hsto] at hi ⊢
   split at hi
   ·rename_i hi'; cases hi; exact ⟨ob, by rw [if_pos hi'], hle⟩
   ·rename_i hi'; exact ⟨o', by rw [if_neg hi']; exact hi, OLe.refl _⟩) (fun i j _ _ h => h) (fun t i hi => h2.er t i hi) (fun i o' hi => by
   rw [hsto] at hi
   split at hi
   ·rename_i hi'
    cases hi
    have := h2.sr i ob (by rw [hsto, if_pos hi'])
    exact ⟨this.1, fun j hj => this.2 j (hle.2.2 j hj)⟩
   ·rename_i hi'
    exact h2.sr i o' (by rw [hsto, if_neg hi']; exact hi)) (fun i hi => ⟨rfl, by
   obtain ⟨v, hv⟩ := Option.ne_none_iff_exists'.1 hi
   exact (h2.pn i v hv).2⟩)
 exact h3
variable {ops : Array Oper} {ds : List Dir} {k : Nat}
theorem KAt.upd (hL : LOk P L) {id : Nat} {ob ob' : Obj} {c : Prop} (hk : dirAt ds k = rE { v := .any, upd := some (id, ob') })
  (hdo : (dstOk nt (opAt ops.toList k) && (gval ops (arunE L ops ops.toList ds e s k) (opAt ops.toList k) == some true)) = true)
  (hr : aop1 L false (arunE L ops ops.toList ds e s k) (arunS L ops ops.toList ds e s k) (opAt ops.toList k) = some { v := .any, upd := some (id, ob), cond := c }) (hc : c) (hle : OLe ob ob') : KAt P C nt L ops ds e s k := by
 unfold KAt
 rw [hk]
 simp only [Bool.and_eq_true, beq_iff_eq] at hdo
 have hd2 : ∀ t x y, (opAt ops.toList k).op = .store t x y → (opAt ops.toList k).dst = none := by
  intro t x y hop
  have := hdo.1
  simp only [dstOk, hop, Bool.and_eq_true] at this
  simpa using this.2
 refine stT_snd hdo.1 hdo.2 fun R η e0 s0 a w he hss hn hcc => ?_
 have hr0 := (aop1_local (L := L) (e := arunE L ops ops.toList ds e s k) (s := arunS L ops ops.toList ds e s k) false (opAt ops.toList k) he hss).trans hr
 exact (aop1_ok hL hcc false _ (fun x hx => dst_lt hdo.1 x hx) hr0 hc (fun d hd hn => absurd rfl hn) hd2).upd_le hle
theorem KAt.fappend (hL : LOk P L) {te : TI} {t : TypeId} (hT : slT L t te) {x y : Operand} {d n m : Nat} {f g : Nat → List DVal}
  (hk : dirAt ds k = rE { v := .v (.c (.own d)), new := some (.arr te.size (n + m) (appF n f g)) }) (hop : (opAt ops.toList k).op = .call { callee := .builtin .append, args := #[x, y], argTypes := #[t, t] })
  (hdo : (dstOk nt (opAt ops.toList k) && (gval ops (arunE L ops ops.toList ds e s k) (opAt ops.toList k) == some true) && (opAt ops.toList k).dst == some d && Nat.ble te.bytes 8192 && te.zero.length == te.size) = true)
  (hx : aev (arunE L ops ops.toList ds e s k) x = .v (.c (.fl n f))) (hy : asL (arunS L ops ops.toList ds e s k) (aev (arunE L ops ops.toList ds e s k) y) = some (m, g)) (hm : 0 < m)
  (hlim : n + m ≤ LIM) (hgl : ∀ j, j < m → (g j).length = te.size) (hfl : ∀ j, j < n → (f j).length = te.size) : KAt P C nt L ops ds e s k := by
 unfold KAt
 rw [hk]
 simp only [Bool.and_eq_true, beq_iff_eq] at hdo
 obtain ⟨⟨⟨⟨h1, h2⟩, h3⟩, h4⟩, h5⟩ := hdo
 obtain ⟨ti, el, ht, hkd, hte⟩ := hT
 refine stT_snd h1 h2 fun R η e0 s0 a w he hss hn hcc => ?_
 have ho : x ∈ (opAt ops.toList k).op.operands.toList := by rw [hop]; simp [Op.operands, Call.operands]
 have ho2 : y ∈ (opAt ops.toList k).op.operands.toList := by rw [hop]; simp [Op.operands, Call.operands]
 have hx0 : asApp s0 te.size m (aev e0 x) = some ([], n, f, ∀ j, j < n → (f j).length = te.size) := by
  rw [he x ho, hx]
  simp only [asApp]
  rw [if_pos (.inr hm)]
 have hy0 : asL s0 (aev e0 y) = some (m, g) := by rw [he y ho2, asL_local (hss y ho2)]; exact hy
 exact snd_append hL hcc h3 (dst_lt h1 d h3) (hn d h3 (by simp)) hop ht hkd hte hy0 hx0 hfl (Nat.le_of_ble_eq_true h4) h5 hlim hgl
end
end Go.Ab
end

section
namespace Go.Ab
open Go.ChangeShapes Go.WideShapes Go.ChangeAt Go.RowKit
def Cel {α : Type} [Emb α] (w : World) (cs : List Value) (y : α) : Prop := cs.length = Emb.es α ∧ ∀ j, j < Emb.es α → DRep w (fun _ => False) (cs.getD j undef) ((Emb.cells y).getD j .any)
def OpT (P : Program) (t : TypeId) (α : Type) [Emb α] : Prop :=
 ∀ {H : Type} {enc : TypeId × Value → H} {w : World} {fuel : Nat} {cs : List Value} {x : DataW H × List MemPlace}, DataW.trod enc P w 0 (fun _ => true) true fuel t cs = some x → ∃ y : α, Cel w cs y
theorem opT_int {P : Program} {t : TypeId} (ht : P.underlying t = some (.int .i64)) : OpT P t Int := fun h => by
 obtain ⟨n, rfl, _, _⟩ := DataW.trod_int ht h
 refine ⟨n, rfl, fun j hj => ?_⟩
 have : j = 0 := by have : j < 1 := hj; omega
 subst this
 exact .int _ _
theorem open_row {P : Program} {t e : TypeId} {α : Type} [Emb α] (ht : P.underlying t = some (.slice e)) (O : OpT P e α) (hc : P.cellsOf e = Emb.es α) (hpos : 0 < Emb.es α)
  {H : Type} {enc : TypeId × Value → H} {w : World} {fuel : Nat} {cs : List Value} {x : DataW H × List MemPlace} (h : DataW.trod enc P w 0 (fun _ => true) true fuel t cs = some x) : ∃ v, cs = [v] ∧ ∃ l : List α, DRep w (fun _ => False) v (DL l) := by
 rcases Go.Deep.open_slice ht h with ⟨rfl, _⟩ | ⟨a, len, cap, m, n, D, Pl, rfl, _, hl, _, hm, _, hel⟩
 ·exact ⟨_, rfl, [], .nil _ _ _⟩
 ·have hm : m = cap := by rw [hm]; rfl
  subst hm
  have hal : ∀ i, i < len → ∃ y : α, ∀ j, j < Emb.es α → ∃ v, w.cell? (a.add (i * Emb.es α + j)) = some v ∧ DRep w (fun _ => False) v ((Emb.cells y).getD j .any) := fun i hi => by
   obtain ⟨cs', h1, h2⟩ := hel i (by omega)
   obtain ⟨y, h3, h4⟩ := O h2
   refine ⟨y, fun j hj => ?_⟩
   obtain ⟨_, g1, g2⟩ := World.cells?_some h1
   have h5 := g2 j (by rw [hc]; exact hj)
   rw [Go.Deep.add_add, hc] at h5
   have h6 : cs'[j]? = some (cs'.getD j undef) := by
    rw [List.getD_eq_getElem?_getD, List.getElem?_eq_getElem (by omega)]; rfl
   exact ⟨_, h5.trans h6, h4 j hj⟩
  haveI : Inhabited α := ⟨Emb.d⟩
  obtain ⟨f, hf⟩ := Go.Deep.choose_lt hal
  refine ⟨_, rfl, (List.range len).map f, ?_⟩
  have hll : ((List.range len).map f).length = len := by simp
  unfold DL
  rw [hll]
  by_cases h0 : len = 0
  ·subst h0; exact .nil _ _ _
  have hs : a.spot = none := by
   obtain ⟨v, h1, _⟩ := hf 0 (by omega) 0 hpos
   have := (cell_inv h1).1
   cases hsp : a.spot with
   | none => rfl
   | some s => simp [Addr.add, hsp] at this
  obtain ⟨b, off, sp⟩ := a
  simp only at hs
  subst hs
  have hc' : ∀ i j, i < len → j < Emb.es α → ∃ c e fz v, w.heap[b]? = some (.cells c e fz) ∧ off + (i * Emb.es α + j) < c.size ∧ c.getD (off + (i * Emb.es α + j)) undef = v ∧ DRep w (fun _ => False) v ((Emb.cells (f i)).getD j .any) := by
   intro i j hi hj
   obtain ⟨v, h1, h2⟩ := hf i hi j hj
   rw [add_lit'] at h1
   obtain ⟨_, c, e, fz, g1, g2, g3⟩ := cell_inv h1
   exact ⟨c, e, fz, v, g1, g2, g3, h2⟩
  obtain ⟨c, e, fz, _, hb, _, _, _⟩ := hc' 0 0 (by omega) hpos
  have hc2 : ∀ i j, i < len → j < Emb.es α → off + (i * Emb.es α + j) < c.size ∧ DRep w (fun _ => False) (c.getD (off + (i * Emb.es α + j)) undef) ((Emb.cells (f i)).getD j .any) := by
   intro i j hi hj
   obtain ⟨c', e', fz', v, hb', h1, h2, h3⟩ := hc' i j hi hj
   rw [hb] at hb'; cases hb'
   exact ⟨h1, h2 ▸ h3⟩
  have hfi : ∀ i, i < len → LF ((List.range len).map f) i = Emb.cells (f i) := fun i hi => by
   unfold LF
   rw [List.getD_eq_getElem?_getD, List.getElem?_map, List.getElem?_range hi]; rfl
  refine .lst b off len m c e fz _ (Emb.es α) (fun h => h) hb hl ?_ (fun i hi => by rw [hfi i hi]; exact Emb.len _) fun i j hi hj => ?_
  ·have := (hc2 (len - 1) (Emb.es α - 1) (by omega) (by omega)).1
   have e1 : len * Emb.es α = (len - 1) * Emb.es α + Emb.es α := by
    conv => lhs; rw [show len = (len - 1) + 1 by omega]
    rw [Nat.add_mul, Nat.one_mul]
   omega
  ·rw [hfi i hi]; exact (hc2 i j hi hj).2
theorem trod_field {P : Program} {t : TypeId} {fs : Array Field} {H : Type} {enc : TypeId × Value → H} {w : World} {fuel : Nat} {cs : List Value} {x : DataW H × List MemPlace} (ht : P.underlying t = some (.struct fs)) (h : DataW.trod enc P w 0 (fun _ => true) true fuel t cs = some x) :
  cs.length = P.cellsOf t ∧ ∀ (i : Nat) (f : Field), fs[i]? = some f → ∃ n y, DataW.trod enc P w 0 (fun _ => true) true n f.type ((cs.drop f.offset).take (P.cellsOf f.type)) = some y := by
 obtain ⟨xs, n, _, rfl, hl, hlen, hf⟩ := DataW.trod_struct ht h
 refine ⟨hl, fun i f hi => ?_⟩
 have h1 := hf i f hi
 have : i < xs.length := by
  rw [hlen]
  exact (Array.getElem?_eq_some_iff.1 hi).1
 rw [List.getElem?_eq_getElem this] at h1
 exact ⟨n, _, h1⟩
theorem trod_fld {P : Program} {fs : Array Field} {H : Type} {enc : TypeId × Value → H} {w : World} {cs : List Value}
  (hf : ∀ (i : Nat) (f : Field), fs[i]? = some f → ∃ n y, DataW.trod enc P w 0 (fun _ => true) true n f.type ((cs.drop f.offset).take (P.cellsOf f.type)) = some y)
  (i : Nat) (f : Field) (hi : fs[i]? = some f) {t o k : Nat} (h1 : f.type = t) (h2 : f.offset = o) (h3 : P.cellsOf t = k) : ∃ n y, DataW.trod enc P w 0 (fun _ => true) true n t ((cs.drop o).take k) = some y := by
 obtain ⟨n, y, h⟩ := hf i f hi
 rw [h1, h2, h3] at h
 exact ⟨n, y, h⟩
theorem opT_get {cs : List Value} {o : Nat} {v : Value} (h : (cs.drop o).take 1 = [v]) : cs.getD o undef = v := by
 have h1 : ((cs.drop o).take 1)[0]? = some v := by rw [h]; rfl
 rw [List.getElem?_take, if_pos (by omega), List.getElem?_drop, Nat.add_zero] at h1
 rw [List.getD_eq_getElem?_getD, h1]; rfl
theorem getD_sub {cs : List Value} {o k j : Nat} (hj : j < k) : ((cs.drop o).take k).getD j undef = cs.getD (o + j) undef := by
 rw [List.getD_eq_getElem?_getD, List.getElem?_take, if_pos hj, List.getElem?_drop, ← List.getD_eq_getElem?_getD]
theorem Cel.at {α : Type} [Emb α] {w : World} {cs : List Value} {o k : Nat} {y : α} (h : Cel w ((cs.drop o).take k) y) {j : Nat} (hj : j < Emb.es α) (hk : j < k) : DRep w (fun _ => False) (cs.getD (o + j) undef) ((Emb.cells y).getD j .any) := by
 have := h.2 j hj
 rwa [getD_sub hk] at this
theorem cel_rep {α : Type} [Emb α] {w : World} {c : Array Value} {y : α} {η : Nat → Value} {C : Ctx} (h : Cel w c.toList y) : TRep w (fun _ => False) η C (.agg c) (.g ((Emb.cells y).map .d)) := by
 refine .g _ _ ⟨?_, fun j hj => ?_⟩
 ·rw [List.length_map, Emb.len, ← h.1]; simp
 ·rw [List.length_map, Emb.len] at hj
  have h1 := h.2 j hj
  have e1 : c.getD j undef = c.toList.getD j undef := by
   rw [Array.getD_eq_getD_getElem?, List.getD_eq_getElem?_getD, Array.getElem?_toList]
  have e2 : ((Emb.cells y).map CV.d).getD j (.d .any) = .d ((Emb.cells y).getD j .any) := by
   rw [List.getD_eq_getElem?_getD, List.getElem?_map, List.getD_eq_getElem?_getD, List.getElem?_eq_getElem (by rw [Emb.len]; exact hj)]; rfl
  rw [e1, e2]
  exact .d _ _ h1
theorem open_structD {P : Program} {t : TypeId} {fs : Array Field} {α : Type} [Emb α] (ht : P.underlying t = some (.struct fs)) (O : OpT P t α) {H : Type} {enc : TypeId × Value → H} {W : World} {v : Value} {d : DataW H} {ps : List MemPlace} {r : Reach} {b0 : Nat}
  (hv : Value.okWide P W r b0 t v) (hd : DataW.Trod enc P W 0 (fun _ => true) true t v d ps) : ∃ (c : Array Value) (y : α), v = .agg c ∧ Cel W c.toList y := by
 obtain ⟨fuel, hf⟩ := hd
 obtain ⟨c, rfl, _⟩ := okWide_struct ht hv
 obtain ⟨y, hy⟩ := O hf
 exact ⟨c, y, rfl, hy⟩
end Go.Ab
end

section
namespace Go.Ab
@[reducible] def ow (n : Nat) : AVal := .v (.c (.own n))
@[reducible] def pt (n : Nat) : AVal := .v (.c (.ptr n 0))
@[reducible] def bx (l : List CV) : Obj := .box false l
section
variable {P : Program} {C : Ctx} {nt : Nat} {L : Lay} {pins : List Nat} {E : List (Nat × AVal)} {S : List (Nat × Obj)} {Q : Exit → Act → World → Prop}
theorem AW.G (Fm : Fr P L C pins) {id : Nat} {ops : Array Oper} {draw : Bool} (ds : List Dir) (c : (Nat → Prop) → Prop) (E' : List (Nat × AVal)) (S' : List (Nat × Obj)) (hc : c (KAt P C nt L ops ds (lk E) (ls S))) (k : Kn C nt E' S' (Q .normal))
  (h : (chkB L pins nt ops draw ds E S [] S', arunC P C nt L ops ops.toList ds (lk E) (ls S), E'.map (fun p => endE ops.toList (arunF L ops ops.toList ds (lk E) (ls S)) (lk E) p.1), S'.map (fun p => endS (arunF L ops ops.toList ds (lk E) (ls S)) (ls S) (rhoL [] p.1)))
   = (true, c (KAt P C nt L ops ds (lk E) (ls S)), E'.map (fun p => p.2.ren (rhoL [])), S'.map (fun p => some (p.2.ren (rhoL [])))) := by kernel_rfl) : AW P C nt (.region id ops draw) E S Q := AW.g Fm ds c E' S' hc h k
theorem AW.SG (Fm : Fr P L C pins) {id : Nat} {ops : Array Oper} {draw : Bool} {y : Code} (ds : List Dir) (c : (Nat → Prop) → Prop) (E' : List (Nat × AVal)) (S' : List (Nat × Obj)) (hc : c (KAt P C nt L ops ds (lk E) (ls S))) (k : AW P C nt y E' S' Q)
  (h : (chkB L pins nt ops draw ds E S [] S', arunC P C nt L ops ops.toList ds (lk E) (ls S), E'.map (fun p => endE ops.toList (arunF L ops ops.toList ds (lk E) (ls S)) (lk E) p.1), S'.map (fun p => endS (arunF L ops ops.toList ds (lk E) (ls S)) (ls S) (rhoL [] p.1)))
   = (true, c (KAt P C nt L ops ds (lk E) (ls S)), E'.map (fun p => p.2.ren (rhoL [])), S'.map (fun p => some (p.2.ren (rhoL [])))) := by kernel_rfl) : AW P C nt (.seq (.region id ops draw) y) E S Q := AW.sg Fm ds c E' S' hc h k
theorem AW.G0 (Fm : Fr P L C pins) {id : Nat} {ops : Array Oper} {draw : Bool} (n : Nat) (E' : List (Nat × AVal)) (S' : List (Nat × Obj)) (k : Kn C nt E' S' (Q .normal))
  (h : (chkB L pins nt ops draw (ss n) E S [] S', arunC P C nt L ops ops.toList (ss n) (lk E) (ls S), E'.map (fun p => endE ops.toList (arunF L ops ops.toList (ss n) (lk E) (ls S)) (lk E) p.1), S'.map (fun p => endS (arunF L ops ops.toList (ss n) (lk E) (ls S)) (ls S) (rhoL [] p.1)))
   = (true, True, E'.map (fun p => p.2.ren (rhoL [])), S'.map (fun p => some (p.2.ren (rhoL [])))) := by kernel_rfl) : AW P C nt (.region id ops draw) E S Q := AW.g0 Fm n E' S' h k
theorem AW.SG0 (Fm : Fr P L C pins) {id : Nat} {ops : Array Oper} {draw : Bool} {y : Code} (n : Nat) (E' : List (Nat × AVal)) (S' : List (Nat × Obj)) (k : AW P C nt y E' S' Q)
  (h : (chkB L pins nt ops draw (ss n) E S [] S', arunC P C nt L ops ops.toList (ss n) (lk E) (ls S), E'.map (fun p => endE ops.toList (arunF L ops ops.toList (ss n) (lk E) (ls S)) (lk E) p.1), S'.map (fun p => endS (arunF L ops ops.toList (ss n) (lk E) (ls S)) (ls S) (rhoL [] p.1)))
   = (true, True, E'.map (fun p => p.2.ren (rhoL [])), S'.map (fun p => some (p.2.ren (rhoL [])))) := by kernel_rfl) : AW P C nt (.seq (.region id ops draw) y) E S Q := AW.sg0 Fm n E' S' h k
variable {K : Act → World → Prop}
theorem Kn.R (Fm : Fr P L C pins) {E' : List (Nat × AVal)} {S' : List (Nat × Obj)} (h : Kn C nt E' S' K)
  (hq : (pins.all (fun i => rhoL [] i == i), E'.map (fun p => lk E p.1), S'.map (fun p => ls S (rhoL [] p.1)), nodupB (S'.map fun p => rhoL [] p.1)) = (true, E'.map (fun p => p.2.ren (rhoL [])), S'.map (fun p => some (p.2.ren (rhoL []))), true) := by kernel_rfl) : Kn C nt E S K := Kn.r Fm E' S' hq h
theorem Kn.RE (Fm : Fr P L C pins) (ρ : List (Nat × Nat)) {E' : List (Nat × AVal)} {S' : List (Nat × Obj)} (h : Kn C nt E' S' K) (hp : pins.all (fun i => rhoL ρ i == i) = true := by kernel_rfl) (hE : E'.map (fun p => lk E p.1) = E'.map (fun p => p.2.ren (rhoL ρ)) := by kernel_rfl)
  (hS : S'.map (fun p => ls S (rhoL ρ p.1)) = S'.map (fun p => some (p.2.ren (rhoL ρ))) := by kernel_rfl) (hinj : nodupB (S'.map fun p => rhoL ρ p.1) = true := by kernel_rfl) : Kn C nt E S K := Kn.re Fm ρ E' S' hp hE hS hinj h
theorem Kn.D (Fm : Fr P L C pins) {fn : Func} {r : AVal} {S' : List (Nat × Obj)} (hq : (resA L (lk E) (ls S) fn.results.toList, S'.map (fun p => ls S p.1)) = (some r, S'.map (fun p => some p.2)) := by kernel_rfl) : Kn C nt E S (retQ P fn C r S' .ret) := Kn.dn Fm hq
end
section
variable {P : Program} {C : Ctx} {nt : Nat} {L : Lay} {ops : Array Oper} {ds : List Dir} {e : Env} {s : Sto}
theorem KAt.CC {k : Nat} {f : Nat} {args : List AVal} {Si : List (Nat × Obj)} {r : AVal} {So : List (Nat × Obj)} (hspec : FSpec P f args Si r So) (hcall : ∀ args w, (callFunc f args).run P w = .ok (.enter f args) w) (m : List (Nat × Nat))
  (hk : dirAt ds k = cE m [] r Si So := by rfl) (hq : (Go.Ab.callB ops nt (arunE L ops ops.toList ds e s k) (opAt ops.toList k) f m r Si So, Si.map (fun p => arunS L ops ops.toList ds e s k (rhoL m p.1)),
   (Go.Ab.callXs (opAt ops.toList k)).toList.all (rdOk (tmpsOf (opAt ops.toList k) ++ guardTmp ops (opAt ops.toList k))) && args.all AVal.noSem, (Go.Ab.callXs (opAt ops.toList k)).toList.map (aev (arunE L ops ops.toList ds e s k)))
   = (true, Si.map (fun p => some (p.2.ren (rhoL m))), true, args.map (AVal.ren (rhoL m))) := by kernel_rfl) : KAt P C nt L ops ds e s k := KAt.cl hspec hcall m hk hq
end
section
variable {C : Ctx} {nt : Nat} {e : Env} {s : Sto}
theorem ArgT.p {Si : List (Nat × Obj)} {m : Nat → Nat} {rd ids : List Nat} {x : Operand} {y : AVal} (hx : rdOk rd x = true := by kernel_rfl) (hle : aev e x = y.ren m := by kernel_rfl) (hs : y.noSem = true := by kernel_rfl) : ArgT C nt e s Si m rd ids x y := ArgT.plain hx (ALe.of_eq hle) hs
end
end Go.Ab
end
