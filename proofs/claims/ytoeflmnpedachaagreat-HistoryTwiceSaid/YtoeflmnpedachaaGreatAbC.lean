/- Abstract states over the model: every lemma holds of any program of the form that it names. -/
import Derived.Test.YtoeflmnpedachaaGreatAbB
import Derived.Test.YtoeflmnpedachaaGreatPuA
import Derived.Sort.AssemblyPlain
import Derived.Lib.BitFns
import Derived.Shelf.SortM.Plain
import Derived.Shelf.SortM.SortNone
import Derived.Shelf.SlSortCmp.WholeK
import Derived.Shelf.SlSortCmp.NoneTotal
import Derived.WalkKit
import Derived.ProofKit
import Derived.OpenShut
import Derived.Carry
import Derived.ChangeSame
import Derived.ChangeSlices
import Derived.Laws.Small
import Derived.Laws.Entries
import Derived.Shelf.Spec.SlicesGrow
import Derived.Deep.Slices
import Derived.ChangeArms
import Derived.Maps.Own
import Derived.Lib.SlKeysI
import Derived.Shelf.SlIterI.Nil
import Derived.Maps.RangeRun
import Derived.Laws.IdiomRangeMap
set_option linter.unusedVariables false
set_option linter.unusedSimpArgs false
section
namespace Go.Ab
section
variable {α : Type} [Emb α]
def clr (l : List α) (lo n : Nat) : List α := (List.range l.length).map fun i => if lo ≤ i ∧ i < lo + n then Emb.d else gl l i
theorem Is.of_gl {f : Nat → List DVal} {N : Nat} (l : List α) (h : l.length = N) (hf : ∀ i, i < N → f i = Emb.cells (gl l i)) : Is N f l := by
 subst h
 refine ⟨rfl, fun i hi => ?_⟩
 rw [hf i hi]; rfl
theorem gl_map_range (N : Nat) (f : Nat → α) (i : Nat) (h : i < N) : gl ((List.range N).map f) i = f i := by simp [gl, List.getD_eq_getElem?_getD, h]
theorem Is.clr {l : List α} (lo n : Nat) {zd : List DVal} (hz : zd = Emb.cells (Emb.d : α)) : Is l.length (fun i => if lo ≤ i ∧ i < lo + n then (fun _ => zd) (i - lo) else LF l i) (clr l lo n) := by
 refine Is.of_gl _ (by simp [Go.Ab.clr]) fun i hi => ?_
 rw [Go.Ab.clr, gl_map_range _ _ _ hi]
 by_cases h : lo ≤ i ∧ i < lo + n
 ·rw [if_pos h, if_pos h, hz]
 ·rw [if_neg h, if_neg h]; rfl
end
end Go.Ab
end

section
namespace Go.Ab
open Go.Sort
def sortI (l : List Int) : Option (List Int) := if l.length ≤ LIM then some (l.mergeSort fun x y => decide (x ≤ y)) else none
theorem sortI_some {l r : List Int} (h : sortI l = some r) : l.length ≤ LIM ∧ r = l.mergeSort fun x y => decide (x ≤ y) := by
 unfold sortI at h
 split at h
 ·cases h; exact ⟨‹_›, rfl⟩
 ·cases h
def ltC {α : Type} (cf : α → α → Int) (x y : α) : Bool := decide (cf x y < 0)
section
variable {α : Type} [Emb α]
def pdqL (cf : α → α → Int) (l : List α) : List α := (@pdq α ⟨Emb.d⟩ (ltC cf) l.toArray 0 l.length (Lib.bitLen l.length) true true).toList
open Classical in
noncomputable def sortF (l : List α) (q : α → α → Option Int) : Option (List α) :=
 if h : l.length ≤ LIM ∧ ∃ cf : α → α → Int, SWO (ltC cf) ∧ ∀ x y, q x y = some (cf x y) then some (pdqL h.2.choose l) else none
theorem sortF_eq {l : List α} {q : α → α → Option Int} (cf : α → α → Int) (hl : l.length ≤ LIM) (hO : SWO (ltC cf)) (hq : ∀ x y, q x y = some (cf x y)) : sortF l q = some (pdqL cf l) := by
 have h : l.length ≤ LIM ∧ ∃ cf : α → α → Int, SWO (ltC cf) ∧ ∀ x y, q x y = some (cf x y) := ⟨hl, cf, hO, hq⟩
 unfold sortF
 rw [dif_pos h]
 have e : h.2.choose = cf := by
  funext x y
  have := (h.2.choose_spec.2 x y).symm.trans (hq x y)
  exact Option.some.inj this
 rw [e]
theorem sortF_some {l r : List α} {q : α → α → Option Int} (h : sortF l q = some r) : l.length ≤ LIM ∧ ∃ cf : α → α → Int, SWO (ltC cf) ∧ (∀ x y, q x y = some (cf x y)) ∧ r = pdqL cf l := by
 unfold sortF at h
 split at h
 ·rename_i hh
  cases h
  exact ⟨hh.1, hh.2.choose, hh.2.choose_spec.1, hh.2.choose_spec.2, rfl⟩
 ·cases h
end
section
variable {α : Type}
def LtQ (q : α → α → Option Int) (a b : α) : Prop := ∃ z, q a b = some z ∧ z < 0
def GeQ (q : α → α → Option Int) (a b : α) : Prop := ∃ z, q a b = some z ∧ 0 ≤ z
structure SortedQ (q : α → α → Option Int) (x r : List α) : Prop where
 perm : r.Perm x
 asc : r.Pairwise fun a b => LtQ q a b ∧ GeQ q b a
 self : ∀ a ∈ r, GeQ q a a
theorem LtQ.not {q : α → α → Option Int} {a b : α} (h : LtQ q a b) (k : GeQ q a b) : False := by
 obtain ⟨z, e, h⟩ := h
 obtain ⟨z', e', h'⟩ := k
 rw [e] at e'; cases e'; omega
theorem asc_uniq {q : α → α → Option Int} : ∀ {r r' : List α}, r.Perm r' → (r.Pairwise fun a b => LtQ q a b ∧ GeQ q b a) → (r'.Pairwise fun a b => LtQ q a b ∧ GeQ q b a) → r = r' := by
 intro r
 induction r with
 | nil => intro r' hp _ _; exact (List.Perm.nil_eq hp)
 | cons a t ih =>
  intro r' hp h1 h2
  cases r' with
  | nil => exact absurd hp.length_eq (by simp)
  | cons b t' =>
   rw [List.pairwise_cons] at h1 h2
   have hab : a = b := by
    rcases List.mem_cons.1 (hp.mem_iff.1 List.mem_cons_self) with h3 | h3
    ·exact h3
    ·rcases List.mem_cons.1 (hp.mem_iff.2 List.mem_cons_self) with h4 | h4
     ·exact h4.symm
     ·exact ((h1.1 b h4).1.not (h2.1 a h3).2).elim
   subst hab
   rw [ih ((List.perm_cons a).1 hp) h1.2 h2.2]
theorem SortedQ.uniq {q : α → α → Option Int} {x r r' : List α} (h : SortedQ q x r) (h' : SortedQ q x r') : r = r' := asc_uniq (h.perm.trans h'.perm.symm) h.asc h'.asc
open Classical in
noncomputable def sortG (x : List α) (q : α → α → Option Int) : Option (List α) := if h : x.length ≤ LIM ∧ ∃ r, SortedQ q x r then some h.2.choose else none
theorem sortG_eq {x r : List α} {q : α → α → Option Int} (hl : x.length ≤ LIM) (h : SortedQ q x r) : sortG x q = some r := by
 have hh : x.length ≤ LIM ∧ ∃ r, SortedQ q x r := ⟨hl, r, h⟩
 unfold sortG
 rw [dif_pos hh, hh.2.choose_spec.uniq h]
theorem sortG_some {x r : List α} {q : α → α → Option Int} (h : sortG x q = some r) : x.length ≤ LIM ∧ SortedQ q x r := by
 unfold sortG at h
 split at h
 ·rename_i hh; cases h; exact ⟨hh.1, hh.2.choose_spec⟩
 ·cases h
theorem SortedQ.at {q : α → α → Option Int} {x r : List α} (h : SortedQ q x r) (i j : Nat) (hi : i < r.length) (hj : j < r.length) : (i < j → LtQ q r[i] r[j]) ∧ (j ≤ i → GeQ q r[i] r[j]) := by
 have hp := List.pairwise_iff_getElem.1 h.asc
 refine ⟨fun hij => (hp i j hi hj hij).1, fun hij => ?_⟩
 rcases Nat.lt_or_ge j i with h1 | h1
 ·exact (hp j i hj hi h1).2
 ·have : i = j := by omega
  subst this
  exact h.self _ (List.getElem_mem hi)
end
def growN {α : Type} (n : Int) : Option (List α) := if 0 ≤ n ∧ n ≤ LIM then some [] else none
end Go.Ab
end

section
namespace Go.Ab
open Go.Sort Go.Proofs Go.Shelf
theorem putRow_heap {α : Type} [Inhabited α] (enc : α → Value) (w : World) (b off n : Nat) (d : Array α) (os : Array Go.Obj) {c : Array Value} {e : TypeId} {fz : Nat × Nat} (hb : w.heap[b]? = some (.cells c e fz)) :
  (grow (putRow enc (Go.Sort.ahead w n) b off d) os).heap[b]? = some (.cells (putCells enc off d c) e fz) := by
 have hlt : b < w.heap.size := lt_of_heap hb
 unfold grow
 rw [Array.getElem?_append]
 rw [if_pos (by simpa using hlt)]
 unfold putRow mapBlock
 simp only [Array.getElem?_modify, if_true]
 show Option.map _ (w.heap[b]?) = _
 rw [hb]
 rfl
theorem putRow_stp {α : Type} [Inhabited α] (enc : α → Value) (w : World) (b off n : Nat) (d : Array α) (os : Array Go.Obj) : Stp (fun x => x = b) w (grow (putRow enc (Go.Sort.ahead w n) b off d) os) := by
 refine ⟨rfl, rfl, rfl, by simp [Go.Sort.ahead], fun x hx hn => ?_, Nat.le_add_right _ _⟩
 unfold grow
 rw [Array.getElem?_append]
 rw [if_pos (by simpa [Go.Sort.ahead] using hx)]
 unfold putRow mapBlock
 simp only [Array.getElem?_modify]
 rw [if_neg (Ne.symm hn)]
 rfl
theorem size_putCells' {α : Type} [Inhabited α] (enc : α → Value) (off : Nat) (d : Array α) (c : Array Value) : (putCells enc off d c).size = c.size := by simp [putCells]
theorem getD_putCells {α : Type} [Inhabited α] (enc : α → Value) (d : Array α) (c : Array Value) (j : Nat) (hj : j < d.size) (hs : d.size ≤ c.size) : (putCells enc 0 d c).getD j undef = enc d[j]! := by
 have hc : j < c.size := by omega
 simp [putCells, hc, hj]
theorem LF_int (l : List Int) (i : Nat) : LF l i = [.int .i64 (l.getD i 0)] := rfl
theorem behind_one {w w' : World} {X : Nat → Prop} {η : Nat → Value} {α : Type} [Emb α] {l r : List α} {b n cap : Nat} {c' : Array Value} {e : TypeId} (hη : η 0 = .slice (some ⟨b, 0, none⟩) n cap) (h0 : 0 < cap)
  (hstp : Stp (fun x => x = b) w w') (hh : w'.heap[b]? = some (.cells c' e (0, 0))) (hs : c'.size = cap * Emb.es α) (hr : r.length = n) (hn : n ≤ cap) (hm : cap ≤ maxLen)
  (hd : ∀ i j, i < n → j < Emb.es α → DRep w' X (c'.getD (i * Emb.es α + j) undef) ((LF r i).getD j .any)) (hX : ∀ x, X x → x < w.heap.size) (hXb : X b) :
  Behind (callCtx [(0, AO l)] w X η) .any [(0, AO r)] (.tuple #[]) η w' := by
 subst hr
 have hblk : ∀ x, x ∈ blks (η 0) ↔ x = b := by intro x; rw [hη]; simp [blks]; omega
 have hown : ∀ i o, ls [(0, AO (α := α) r)] i = some o → i = 0 ∧ o = AO r := by
  intro i o hi
  rw [ls_cons] at hi
  by_cases h : i = 0
  ·rw [if_pos h] at hi; cases hi; exact ⟨h, rfl⟩
  ·rw [if_neg h] at hi; cases hi
 have hM : ∀ x, x = b → (callCtx [(0, AO (α := α) l)] w X η).M x := by
  rintro x rfl
  exact ⟨0, AO l, by rw [ls_cons, if_pos rfl], rfl, (hblk _).2 rfl⟩
 have hXS : ∀ x, XS (callCtx [(0, AO (α := α) l)] w X η) (ls [(0, AO (α := α) r)]) η x → X x := by
  rintro x (⟨hx, _⟩ | ⟨i, o, hi, hib⟩)
  ·exact hx
  ·obtain ⟨rfl, _⟩ := hown i o hi
   rw [(hblk x).1 hib]; exact hXb
 refine ⟨hstp.mono fun x _ hx => hM x hx, .any _, fun i o hi => ?_, fun i j x hi hj _ _ => ?_, fun i o x hi hb => ?_, fun i v hi => ?_⟩
 ·obtain ⟨rfl, rfl⟩ := hown i o hi
  rw [hη]
  refine .arr b _ cap _ c' e _ hh hs hn hm h0 (Is.refl r).len fun i j hi hj => ?_
  exact (hd i j hi hj).mono fun x _ hx => ⟨rfl, fun hx' => hx (hXS x hx')⟩
 ·obtain ⟨oi, hi⟩ := Option.ne_none_iff_exists'.1 hi
  obtain ⟨oj, hj⟩ := Option.ne_none_iff_exists'.1 hj
  rw [(hown i oi hi).1, (hown j oj hj).1]
 ·obtain ⟨rfl, rfl⟩ := hown i o hi
  exact .inr (.inl (hM x ((hblk x).1 hb)))
 ·change (if ((List.lookup i [(0, AO (α := α) l)]).isSome = true) then some (η i) else none) = some v at hi
  split at hi
  ·cases hi; rfl
  ·cases hi
theorem behind_none {w : World} {X : Nat → Prop} {η : Nat → Value} {α : Type} [Emb α] {l : List α} {ad : Option Addr} (hη : η 0 = .slice ad 0 0) (hX : ∀ x, X x → x < w.heap.size) :
  Behind (callCtx [(0, AO l)] w X η) .any [(0, AO ([] : List α))] (.tuple #[]) η w := by
 have hblk : ∀ x, x ∉ blks (η 0) := by intro x; rw [hη]; cases ad <;> simp [blks]
 have hown : ∀ i o, ls [(0, AO ([] : List α))] i = some o → i = 0 ∧ o = AO ([] : List α) := by
  intro i o hi
  rw [ls_cons] at hi
  by_cases h : i = 0
  ·rw [if_pos h] at hi; cases hi; exact ⟨h, rfl⟩
  ·rw [if_neg h] at hi; cases hi
 refine ⟨Stp.refl _ _, .any _, fun i o hi => ?_, fun i j x hi hj _ _ => ?_, fun i o x hi hb => ?_, fun i v hi => ?_⟩
 ·obtain ⟨rfl, rfl⟩ := hown i o hi
  rw [hη]; exact .nil _ _ _
 ·obtain ⟨oi, hi⟩ := Option.ne_none_iff_exists'.1 hi
  obtain ⟨oj, hj⟩ := Option.ne_none_iff_exists'.1 hj
  rw [(hown i oi hi).1, (hown j oj hj).1]
 ·obtain ⟨rfl, rfl⟩ := hown i o hi
  exact absurd hb (hblk x)
 ·change (if ((List.lookup i [(0, AO (α := α) l)]).isSome = true) then some (η i) else none) = some v at hi
  split at hi
  ·cases hi; rfl
  ·cases hi
theorem vs_one {vs : Array Value} (h : vs.size = 1) : vs = #[vs.getD 0 undef] := by
 apply Array.ext
 ·simpa using h
 ·intro i h1 h2
  have : i = 0 := by omega
  subst this
  simp [h1]
theorem vs_two {vs : Array Value} (h : vs.size = 2) : vs = #[vs.getD 0 undef, vs.getD 1 undef] := by
 apply Array.ext
 ·simpa using h
 ·intro i h1 h2
  have : i = 0 ∨ i = 1 := by omega
  rcases this with rfl | rfl <;> simp [h1]
theorem sortI_FSpec {P : Program} {ρ : Ren} (Ly : SlLaysM.n5 P ρ) {x r : List Int} (h : sortI x = some r) : FSpec P (ρ.f 5) [.v (.c (.own 0))] [(0, AO (α := Int) x)] .any [(0, AO (α := Int) r)] := by
 obtain ⟨hl, rfl⟩ := sortI_some h
 intro w X η vs hX hown hobj hds hlen hargs
 have hlen : vs.size = 1 := hlen
 have hv0 : vs.getD 0 undef = η 0 := own_inv (C := callCtx [(0, AO (α := Int) x)] w X η) (s := ls [(0, AO (α := Int) x)]) (by have := hargs 0 (by simp); rw [own_ext hown]; exact this)
 rw [vs_one hlen, hv0]
 have ho := hobj 0 (AO x) (by rw [ls_cons, if_pos rfl])
 have hXb : ∀ b, b ∈ blks (η 0) → X b := fun b hb => hown b ⟨0, _, by rw [ls_cons, if_pos rfl], hb⟩
 generalize hu : η 0 = u at ho
 unfold AO at ho
 generalize hn : x.length = n at ho
 cases ho with
 | nil ad =>
  have hx : x = [] := List.eq_nil_of_length_eq_zero hn
  refine (AnyM.slices_Sort_int_none Ly ad 0 w).mono fun e w' hh => ?_
  obtain ⟨he, hw⟩ := hh
  refine ⟨_, η, he, ?_⟩
  rw [hw]
  have hb := behind_none (w := w) (X := X) (l := x) hu hX
  subst hx
  simpa using hb
 | arr b _ cap _ c e _ h1 h2 h3 h4 h5 h6 h7 =>
  have hes : Emb.es Int = 1 := rfl
  rename_i n
  have hcell : ∀ j, j < n → c.getD j undef = .int .i64 (x.getD j 0) := by
   intro j hj
   have := h7 j 0 hj (by rw [hes]; omega)
   rw [hes, Nat.mul_one, Nat.add_zero, LF_int] at this
   have h0 : DRep w X (c.getD j undef) (.int .i64 (x.getD j 0)) := this
   generalize c.getD j undef = u at h0
   cases h0; rfl
  have hsz : c.size = cap := by rw [h2, hes, Nat.mul_one]
  have hH : Holds (Value.int .i64) w b 0 x.toArray := by
   intro j hj
   have hj' : j < n := by simpa [hn] using hj
   have hjx : j < x.length := by omega
   have hjc : j < c.size := by omega
   refine ⟨?_, by simp [World.frozen?, h1]⟩
   have := hcell j hj'
   simp only [Nat.zero_add, World.cell?, h1, Option.isSome_none, Bool.false_eq_true, if_false]
   simp only [hjc, Array.getD, dite_true] at this
   rw [Array.getElem?_eq_getElem hjc]
   congr 1
   refine Eq.trans this ?_
   simp [hjx]
  rw [← hn]
  refine ((AnyM.slices_Sort_int Ly b 0 cap x w hH (lt_of_heap h1) (by simp only [LIM] at hl; omega)).mono fun e' w' hh => ?_)
  ·obtain ⟨rfl, q, os, hw⟩ := hh
   subst hw
   refine ⟨_, η, rfl, ?_⟩
   have hlen2 : (x.mergeSort fun x y => decide (x ≤ y)).length = n := by rw [List.length_mergeSort]; exact hn
   refine behind_one (c' := putCells (Value.int .i64) 0 (x.mergeSort fun x y => decide (x ≤ y)).toArray c) (e := e) (b := b) (n := n) (cap := cap) hu h5 (putRow_stp _ _ _ _ _ _ _) (putRow_heap _ _ _ _ _ _ _ h1) (by rw [size_putCells']; exact h2) hlen2 h3 h4 (fun i j hi hj => ?_) hX (hXb b (by rw [hu]; simp [blks]; omega))
   have hj0 : j = 0 := by rw [hes] at hj; omega
   subst hj0
   rw [hes, Nat.mul_one, Nat.add_zero, getD_putCells _ _ _ _ (by simpa [hlen2] using hi) (by simp only [List.size_toArray, hlen2]; omega), LF_int]
   have : i < (x.mergeSort fun x y => decide (x ≤ y)).length := by omega
   have e2 : (x.mergeSort fun x y => decide (x ≤ y)).toArray[i]! = (x.mergeSort fun x y => decide (x ≤ y)).getD i 0 := by
    simp [List.getD_eq_getElem?_getD, this]
   rw [e2]
   exact .int _ _
end Go.Ab
end

section
namespace Go.Ab
open Go.Sort Go.Proofs Go.Shelf
def DVal.lit : DVal → Bool
 | .int _ _ => true
 | .bool _ => true
 | .str _ => true
 | _ => false
def DVal.val : DVal → Value
 | .int k n => .int k n
 | .bool b => .bool b
 | .str s => .string s
 | _ => undef
theorem DRep.lit {w : World} {X : Nat → Prop} {v : Value} {d : DVal} (h : DRep w X v d) (hd : d.lit = true) : v = d.val := by
 cases h <;> first | rfl | cases hd
theorem DVal.rep (w : World) (X : Nat → Prop) {d : DVal} (hd : d.lit = true) : DRep w X d.val d := by
 cases d with
 | int k n => exact .int k n
 | bool b => exact .bool b
 | str s => exact .str s
 | _ => cases hd
theorem DVal.val_one {d : DVal} (hd : d.lit = true) : d.val.oneCell' = true := by
 cases d <;> first | rfl | cases hd
theorem stp_grow {w w' : World} (h : Stp (fun _ => False) w w') : ∃ q os, w' = grow (w.drewN q) os := by
 refine ⟨w'.drawn - w.drawn, w'.heap.extract w.heap.size w'.heap.size, ?_⟩
 have hh : w'.heap = w.heap ++ w'.heap.extract w.heap.size w'.heap.size := by
  apply Array.ext_getElem?
  intro k
  rw [Array.getElem?_append]
  split
  ·rename_i hk; exact h.block k hk fun hf => hf
  ·rename_i hk
   rw [Array.getElem?_extract]
   have hs := h.size
   by_cases h2 : k < w'.heap.size
   ·rw [if_pos (by omega)]; congr 1; omega
   ·rw [if_neg (by omega), Array.getElem?_eq_none (by omega)]
 have hd := h.dr
 have e1 : w' = ⟨w'.heap, w'.tape, w'.drawn, w'.os, w'.output⟩ := rfl
 rw [e1, h.tape, h.os, h.output]
 unfold grow World.drewN
 congr 1
 simp only
 omega
theorem getD_lt {β : Type} (l : List β) (j : Nat) (h : j < l.length) (d : β) : l.getD j d = l[j] := by
 rw [List.getD_eq_getElem?_getD, List.getElem?_eq_getElem h]; rfl
theorem getD_bang {β : Type} [Inhabited β] (l : List β) (j : Nat) (h : j < l.length) (d : β) : l.getD j d = l[j]! := by
 rw [getD_lt l j h d, getElem!_pos l j h]
theorem getD_map_lt (l : List DVal) (j : Nat) (h : j < l.length) : (l.map DVal.val).getD j undef = (l[j]).val := by
 rw [getD_lt _ j (by simpa using h)]; simp
theorem sortF_FSpec {α : Type} [Emb α] {P : Program} {L : Lay} (hL : LOk P L) {ρ : Ren} (Ly : SlLaysF0.n6 P ρ) (hlit : ∀ x : α, (Emb.cells x).all DVal.lit = true) {te : TI} (hte : L (ρ.t 24) = some te) (hagg : te.kind.agg = true) (hsz : te.size = Emb.es α)
  (F : (α → α → Option Int) → List AVal → AVal → Prop) (hF : ∀ q x y z, q x y = some z → F q [.v (.g ((Emb.cells x).map .d)), .v (.g ((Emb.cells y).map .d))] (vi z)) {x r : List α} {q : α → α → Option Int} (h : sortF x q = some r) :
  FSpec P (ρ.f 6) [.v (.c (.own 0)), vclo P (F q)] [(0, AO (α := α) x)] .any [(0, AO (α := α) r)] := by
 obtain ⟨hl, cf, hO, hq, rfl⟩ := sortF_some h
 obtain ⟨ti, td, tz, hti⟩ := hL _ _ hte
 letI inst : Inhabited α := ⟨Emb.d⟩
 let enc : α → List Value := fun x => (Emb.cells x).map DVal.val
 have hk : ∀ x, (enc x).length = Emb.es α := fun x => by simp [enc, Emb.len]
 have h1 : ∀ x, ∀ v ∈ enc x, v.oneCell' = true := by
  intro x v hv
  obtain ⟨d, hd, rfl⟩ := List.mem_map.1 hv
  exact DVal.val_one (List.all_eq_true.1 (hlit x) d hd)
 intro w X η vs hX hown hobj hds hlen hargs
 have hlen : vs.size = 2 := hlen
 have hv0 : vs.getD 0 undef = η 0 := own_inv (C := callCtx [(0, AO (α := α) x)] w X η) (s := ls [(0, AO (α := α) x)]) (by have := hargs 0 (by simp); rw [own_ext hown]; exact this)
 have hv1 : CloOK P (F q) w (Own (ls [(0, AO (α := α) x)]) η) X (vs.getD 1 undef) := by
  have := hargs 1 (by simp)
  change ARep w X η _ (vs.getD 1 undef) (vclo P (F q)) at this
  generalize vs.getD 1 undef = u at this
  cases this with | v _ _ hh => cases hh with | c _ _ hh => cases hh with | sem _ _ hh _ => exact hh
 rw [vs_two hlen, hv0]
 have ho := hobj 0 (AO x) (by rw [ls_cons, if_pos rfl])
 have hXb : ∀ b, b ∈ blks (η 0) → X b := fun b hb => hown b ⟨0, _, by rw [ls_cons, if_pos rfl], hb⟩
 generalize hu : η 0 = u at ho
 have hplen : (pdqL cf x).length = x.length := by
  have := (pdq_sorts (ltC cf) hO x.toArray 0 x.length (Lib.bitLen x.length) true true (Nat.zero_le _) (by simp) (.inl rfl)).1.1
  unfold pdqL
  simpa using this
 unfold AO at ho
 generalize hn : x.length = n at ho
 cases ho with
 | nil ad =>
  have hx : x = [] := List.eq_nil_of_length_eq_zero hn
  refine (AnyF.slices_SortFunc_none Ly ad 0 _ w).mono fun e w' hh => ?_
  obtain ⟨he, hw⟩ := hh
  refine ⟨_, η, he, ?_⟩
  rw [hw]
  have hb := behind_none (w := w) (X := X) (l := x) hu hX
  have hp : pdqL cf x = [] := List.eq_nil_of_length_eq_zero (by rw [hplen, hn])
  rw [hp]; exact hb
 | arr b _ cap _ c e _ g1 g2 g3 g4 g5 g6 g7 =>
  rename_i n
  obtain ⟨fid, caps, hfv, hcall, hclo⟩ := hv1
  rw [hfv]
  have hdel : ∀ i, i < n → (LF x i) = Emb.cells (x.getD i Emb.d) := fun i _ => rfl
  have hcell : ∀ i j, i < n → j < Emb.es α → c.getD (i * Emb.es α + j) undef = (enc (x.getD i Emb.d)).getD j undef := by
   intro i j hi hj
   have h0 := g7 i j hi hj
   have hj' : j < (Emb.cells (x.getD i Emb.d)).length := by rw [Emb.len]; exact hj
   have e1 : (LF x i).getD j .any = (Emb.cells (x.getD i Emb.d))[j] := getD_lt _ _ hj' _
   rw [e1] at h0
   have h2 := h0.lit (List.all_eq_true.1 (hlit _) _ (List.getElem_mem hj'))
   rw [h2]
   exact (getD_map_lt _ _ hj').symm
  have hflat : ∀ t, t < n * Emb.es α → c.getD t undef = (flatK enc (Emb.es α) x.toArray)[t]! := by
   intro t ht
   have hpos : 0 < Emb.es α := by
    rcases Nat.eq_zero_or_pos (Emb.es α) with hz | hz
    ·rw [hz, Nat.mul_zero] at ht; omega
    ·exact hz
   have p1 : t / Emb.es α < n := Nat.div_lt_of_lt_mul (by rw [Nat.mul_comm]; exact ht)
   have p2 : t % Emb.es α < Emb.es α := Nat.mod_lt _ hpos
   have := hcell _ _ p1 p2
   rw [show t / Emb.es α * Emb.es α + t % Emb.es α = t from by rw [Nat.mul_comm]; exact Nat.div_add_mod t _] at this
   rw [this, get_flatK _ _ _ _ (by simpa [hn] using ht)]
   have e2 : x.toArray[t / Emb.es α]! = x.getD (t / Emb.es α) Emb.d := by
    have : t / Emb.es α < x.length := by omega
    simp [List.getD_eq_getElem?_getD, this]
   rw [e2]
   have : t % Emb.es α < (enc (x.getD (t / Emb.es α) Emb.d)).length := by rw [hk]; exact p2
   exact getD_bang _ _ this _
  have hH : HoldsK enc (Emb.es α) w b 0 x.toArray := by
   intro t ht
   have ht' : t < n * Emb.es α := by simpa [hn] using ht
   have htc : t < c.size := by
    have : n * Emb.es α ≤ cap * Emb.es α := Nat.mul_le_mul_right _ g3
    omega
   refine ⟨?_, by simp [World.frozen?, g1]⟩
   have := hflat t ht'
   simp only [Nat.zero_add, World.cell?, g1, Option.isSome_none, Bool.false_eq_true, if_false, id]
   rw [Array.getElem?_eq_getElem htc]
   congr 1
   rw [← this]; simp [htc]
  have hblk : b ∈ blks (η 0) := by rw [hu]; simp [blks]; omega
  have hcmp : CmpLays P fid caps enc (Emb.es α) cf b 0 x.toArray.size w := by
   intro m os dk hdk u v
   have hst := putRow_stp id w b 0 m (flatK enc (Emb.es α) dk) os
   have hrep : ∀ (w1 : World) (z : α) η C, ARep w1 X η C (.agg (enc z).toArray) (.v (.g ((Emb.cells z).map .d))) := by
    intro w1 z η' C'
    refine .v _ _ (.g _ _ ⟨by simp [enc], fun j hj => ?_⟩)
    have hj' : j < (Emb.cells z).length := by simpa using hj
    have e1 : (enc z).toArray.getD j undef = ((Emb.cells z)[j]).val := by
     have : (enc z).toArray.getD j undef = (enc z).getD j undef := by simp [List.getD_eq_getElem?_getD]
     rw [this]; exact getD_map_lt _ _ hj'
    have e2 : ((Emb.cells z).map CV.d).getD j (.d .any) = .d ((Emb.cells z)[j]) := by rw [getD_lt _ j (by simpa using hj')]; simp
    rw [e1, e2]
    exact .d _ _ (DVal.rep _ _ (List.all_eq_true.1 (hlit z) _ (List.getElem_mem hj')))
   refine (hclo (grow (putRow id (Go.Sort.ahead w m) b 0 (flatK enc (Emb.es α) dk)) os) X #[.agg (enc u).toArray, .agg (enc v).toArray] _ _ (hF q u v (cf u v) (hq u v)) hst.size (fun y hy hD => hst.block y hy fun e => hD ?_)
    (fun y hy => Nat.lt_of_lt_of_le (hX y hy) hst.size) (fun y _ _ => Iff.rfl) rfl (fun j hj η C => ?_)).mono fun e2 w2 hh => ?_
   ·rw [e]; exact ⟨0, _, by rw [ls_cons, if_pos rfl], hblk⟩
   ·have : j = 0 ∨ j = 1 := by simp at hj; omega
    rcases this with rfl | rfl
    ·exact hrep _ _ _ _
    ·exact hrep _ _ _ _
   ·obtain ⟨v', he, hs2, hr⟩ := hh
    have hr' := hr η (callCtx [] w X η)
    have e3 : v' = .int .i64 (cf u v) := by
     cases hr' with | v _ _ hh => cases hh with | c _ _ hh => cases hh with | d _ _ hh => cases hh; rfl
    obtain ⟨qq, os', hw'⟩ := stp_grow hs2
    exact ⟨by rw [he, e3], qq, os', hw'⟩
  rw [← hn]
  have hmain := AnyQ.slices_SortFunc_eq Ly (Emb.es α) (fun w => by rw [run_isAgg hti w, hagg]) (fun w => by rw [run_sizeOf hti, hsz]) enc hk h1 cf hO fid caps b 0 cap x.toArray w hcall hcmp hH (lt_of_heap g1) (by simp only [List.size_toArray]; simp only [LIM] at hl; omega)
  refine hmain.mono fun e' w' hh => ?_
  obtain ⟨he, nn, os, hw⟩ := hh
  refine ⟨_, η, he, ?_⟩
  have hw2 : w' = grow (putRow id (Go.Sort.ahead w nn) b 0 (flatK enc (Emb.es α) (pdqL cf x).toArray)) os := hw
  rw [hw2]
  refine behind_one (c' := putCells id 0 (flatK enc (Emb.es α) (pdqL cf x).toArray) c) (e := e) (b := b) (n := n) (cap := cap) hu g5 (putRow_stp _ _ _ _ _ _ _) (putRow_heap _ _ _ _ _ _ _ g1) (by rw [size_putCells']; exact g2) (by rw [hplen, hn]) g3 g4 (fun i j hi hj => ?_) hX (hXb b hblk)
  have hlt : i * Emb.es α + j < n * Emb.es α := by
   have : (i + 1) * Emb.es α ≤ n * Emb.es α := Nat.mul_le_mul_right _ hi
   rw [Nat.add_mul, Nat.one_mul] at this; omega
  have hsz2 : (flatK enc (Emb.es α) (pdqL cf x).toArray).size = n * Emb.es α := by simp [hplen, hn]
  rw [getD_putCells _ _ _ _ (by rw [hsz2]; exact hlt) (by rw [hsz2, g2]; exact Nat.mul_le_mul_right _ g3)]
  rw [get_flatK _ _ _ _ (by simpa [hplen, hn] using hlt)]
  have d1 : (i * Emb.es α + j) / Emb.es α = i := by
   rw [Nat.add_comm, Nat.add_mul_div_right _ _ (by omega), Nat.div_eq_of_lt hj, Nat.zero_add]
  have d2 : (i * Emb.es α + j) % Emb.es α = j := by rw [Nat.add_comm, Nat.add_mul_mod_self_right, Nat.mod_eq_of_lt hj]
  rw [d1, d2]
  have e4 : (pdqL cf x).toArray[i]! = (pdqL cf x).getD i Emb.d := by
   have : i < (pdqL cf x).length := by omega
   simp [List.getD_eq_getElem?_getD, this]
  rw [e4]
  have hj' : j < (Emb.cells ((pdqL cf x).getD i Emb.d)).length := by rw [Emb.len]; exact hj
  have e5 : (enc ((pdqL cf x).getD i Emb.d))[j]! = ((Emb.cells ((pdqL cf x).getD i Emb.d))[j]).val := by
   rw [← getD_bang (enc ((pdqL cf x).getD i Emb.d)) j (by rw [hk]; exact hj) undef]; exact getD_map_lt _ _ hj'
  have e6 : (LF (pdqL cf x) i).getD j .any = (Emb.cells ((pdqL cf x).getD i Emb.d))[j] := getD_lt _ _ hj' _
  rw [e5, e6]
  exact DVal.rep _ _ (List.all_eq_true.1 (hlit _) _ (List.getElem_mem hj'))
end Go.Ab
end

section
namespace Go.Ab
open Go.ChangeShapes Go.WideShapes Go.ChangeAt Go.RowKit
theorem cell_inv {w : World} {a : Addr} {v : Value} (h : w.cell? a = some v) : a.spot = none ∧ ∃ c e fz, w.heap[a.block]? = some (.cells c e fz) ∧ a.off < c.size ∧ c.getD a.off undef = v := by
 unfold World.cell? at h
 split at h
 ·rename_i c e fz hb
  split at h
  ·cases h
  ·rename_i hs
   obtain ⟨h1, h2⟩ := Array.getElem?_eq_some_iff.1 h
   exact ⟨by simpa using hs, c, e, fz, hb, h1, by simp [h1, h2]⟩
 ·cases h
theorem add_lit' (b o i : Nat) : (⟨b, o, none⟩ : Addr).add i = ⟨b, o + i, none⟩ := add_lit b o i
theorem drep_ints {w : World} {a : Addr} {len cap : Nat} {zs : List Int} (hl : len ≤ cap) (hz : len ≤ zs.length) (hc : ∀ i, i < zs.length → w.cell? (a.add i) = some (.int .i64 (zs.getD i 0))) :
  DRep w (fun _ => False) (.slice (some a) len cap) (DL (α := Int) (zs.take len)) := by
 have hn : (zs.take len).length = len := by simp; omega
 unfold DL
 rw [hn]
 by_cases h0 : len = 0
 ·subst h0; exact .nil _ _ _
 ·have hs : a.spot = none := by
   have := (cell_inv (hc 0 (by omega))).1
   cases hsp : a.spot with
   | none => rfl
   | some s => simp [Addr.add, hsp] at this
  obtain ⟨b, off, sp⟩ := a
  simp only at hs
  subst hs
  have hc' : ∀ i, i < zs.length → ∃ c e fz, w.heap[b]? = some (.cells c e fz) ∧ off + i < c.size ∧ c.getD (off + i) undef = .int .i64 (zs.getD i 0) := by
   intro i hi
   have := hc i hi
   rw [add_lit'] at this
   exact (cell_inv this).2
  obtain ⟨c, e, fz, hb, _, _⟩ := hc' 0 (by omega)
  have hc2 : ∀ i, i < zs.length → off + i < c.size ∧ c.getD (off + i) undef = .int .i64 (zs.getD i 0) := by
   intro i hi
   obtain ⟨c', e', fz', hb', h1, h2⟩ := hc' i hi
   rw [hb] at hb'; cases hb'
   exact ⟨h1, h2⟩
  refine .lst b off len cap c e fz _ 1 (fun h => h) hb hl (by have := (hc2 (len - 1) (by omega)).1; omega) (fun i _ => rfl) fun i j hi hj => ?_
  have : j = 0 := by omega
  subst this
  rw [Nat.mul_one, Nat.add_zero, (hc2 i (by omega)).2]
  have e1 : ((LF (zs.take len) i).getD 0 .any) = .int .i64 ((zs.take len).getD i 0) := rfl
  rw [e1]
  have e2 : (zs.take len).getD i 0 = zs.getD i 0 := by simp [List.getD_eq_getElem?_getD, List.getElem?_take, hi]
  rw [e2]
  exact .int _ _
theorem open_intsD {H : Type} {enc : TypeId × Value → H} {P : Program} {W : World} {t e : TypeId} {v : Value} {d : DataW H} {ps : List MemPlace} (ht : P.underlying t = some (.slice e)) (he : P.underlying e = some (.int .i64)) (hc : P.cellsOf e = 1) {r : Reach} {b0 : Nat}
  (hv : Value.okWide P W r b0 t v) (hd : DataW.Trod enc P W 0 (fun _ => true) true t v d ps) : ∃ l : List Int, DRep W (fun _ => False) v (DL l) ∧ ∀ n ∈ l, (Lit.int .i64 n).wf = true := by
 obtain ⟨fuel, hf⟩ := hd
 obtain ⟨a0, len, cap, rfl⟩ := okWide_slice ht hv
 rcases open_ints ht he hc hf with ⟨hcs, hx⟩ | ⟨a, len', cap', zs, hcs, hb, hl, hm, hz, hx, hcell, hwz⟩
 ·simp [Value.cells] at hcs
  obtain ⟨rfl, rfl, rfl⟩ := hcs
  exact ⟨[], .nil _ _ _, fun n hn => by cases hn⟩
 ·simp [Value.cells] at hcs
  obtain ⟨rfl, rfl, rfl⟩ := hcs
  simp only [if_true] at hz
  exact ⟨zs.take len, drep_ints hl (by omega) hcell, fun n hn => hwz n (List.mem_of_mem_take hn)⟩
theorem trodAll_later {H : Type} {enc : TypeId × Value → H} {P : Program} (hl : laidOutB P = true) {W W' : World} (hb : Below W.heap.size W W') : ∀ {ts : List TypeId} {vs : List Value} {ds : List (DataW H)} {ps : List MemPlace},
  ts.all (fun t => P.readableRec t && decide (t < P.types.size)) = true → DataW.TrodAll enc P W 0 (fun _ => true) true ts vs ds ps → (∀ x ∈ ps, x.block < W.heap.size) → ∀ sp : Nat → Bool, (∀ x ∈ ps, sp x.block = true) → DataW.TrodAll enc P W' 0 sp true ts vs ds ps
 | [], [], [], _, _, h, _, _, _ => h
 | t :: ts, v :: vs, d :: ds, ps, hr, ⟨p, q, h1, h2, e⟩, hlt, sp, hs => by
  simp only [List.all_cons, Bool.and_eq_true, decide_eq_true_eq] at hr
  subst e
  exact ⟨p, q, WideElems.Trod_stays hl hr.1.1 hr.1.2 h1 (fun x hx => hb.same (hlt x (List.mem_append_left _ hx))) (fun x hx => hs x (List.mem_append_left _ hx)),
   trodAll_later hl hb hr.2 h2 (fun x hx => hlt x (List.mem_append_right _ hx)) sp (fun x hx => hs x (List.mem_append_right _ hx)), rfl⟩
theorem post_trueB {H : Type} {enc : TypeId × Value → H} {P : Program} (hl : laidOutB P = true) {fn : Func} {s : ChangeSpec} {W W' : World} {args : Array Value} {ds gs : List (DataW H)} {before : List MemPlace} {apart fresh handsOn again : Bool}
  (hW : DataW.Whole enc P fn.params.toList s.vars apart W args.toList ds gs before) (hv : s.vars = []) (hs : s.fn H (ds ++ gs) = { results := [.lit (.bool true)], args := ds }) (hr : fn.params.toList.all (fun t => P.readableRec t && decide (t < P.types.size)) = true)
  {t : TypeId} (hres : fn.resultTypes = #[t]) (ht : P.underlying t = some .bool) (hb : Below W.heap.size W W') : s.post enc P fn apart fresh handsOn again W args (.bool true) W' := by
 have hlt := hW.lt
 have hW' := hW
 obtain ⟨p, q, hA, hV, he, hfz, hnd⟩ := hW
 rw [hv] at hV
 obtain ⟨rfl, rfl⟩ := trodVars_none hV
 rw [List.append_nil] at he
 subst he
 have hok : ∀ (j : Nat) (t' : TypeId) (r : Value), fn.resultTypes[j]? = some t' → ((Value.bool true).resultList fn.resultTypes.size)[j]? = some r → Value.okWide P W' .any 0 t' r := ok_one hres rfl (okWide_bool_mk ht _)
 have hold : ∀ x ∈ before, (fun b => decide (b < W.heap.size)) x.block = true := fun x hx => by simpa using hlt x hx
 have harg : ∀ sp : Nat → Bool, (∀ x ∈ before, sp x.block = true) → DataW.TrodAll enc P W' 0 sp true fn.params.toList args.toList (s.fn H (ds ++ [])).args before := fun sp hsp => by
  rw [hs]; exact trodAll_later hl hb hr hA hlt sp hsp
 have hout : ∀ (b : Nat) (sp : Nat → Bool) (hd : Bool), DataW.TrodAll enc P W' b sp hd fn.resultTypes.toList ((Value.bool true).resultList fn.resultTypes.size) (s.fn H (ds ++ [])).results [] := fun b sp hd => by
  rw [hs, hres]; exact trodAll_cons_mk (shut_bool ht _) trodAll_mk0
 have hvar : ∀ sp : Nat → Bool, DataW.TrodVars enc P W' sp s.vars (s.fn H (ds ++ [])).vars [] := fun sp => by
  rw [hs, hv]; exact rfl
 refine ⟨ds, _, before, [], before, [], hW', hout _ _ _, harg _ hold, hvar _, World.keptBut_mono (fun x hx => ⟨hx, by simpa using hx⟩) (hb.frame (· ∈ before)), fun _ => ⟨hok, ?_⟩⟩
 obtain ⟨_, _, _, _, _, hz, hn⟩ := hW'
 refine ⟨_, _, ([] ++ before) ++ [], ⟨[] ++ before, [], trodAll_append (harg _ fun _ _ => rfl) (hout _ _ _), hvar _, rfl, fun b off hx => ?_, fun ha => ?_⟩, fun x hx _ => ?_⟩
 ·have hin : MemPlace.cell b off ∈ before := by simpa using hx
  rw [hb.frozen (hlt _ hin)]
  exact hz b off hin
 ·simpa using hn ha
 ·simpa using hx
theorem post_true {H : Type} {enc : TypeId × Value → H} {P : Program} (hl : laidOutB P = true) {fn : Func} {s : ChangeSpec} {W W' : World} {args : Array Value} {ds gs : List (DataW H)} {before : List MemPlace} {apart fresh handsOn again : Bool}
  (hW : DataW.Whole enc P fn.params.toList s.vars apart W args.toList ds gs before) (hv : s.vars = []) (hs : s.fn H (ds ++ gs) = { results := [.lit (.bool true)], args := ds }) (hr : fn.params.toList.all (fun t => P.readableRec t && decide (t < P.types.size)) = true)
  {t : TypeId} (hres : fn.resultTypes = #[t]) (ht : P.underlying t = some .bool) (hstp : Stp (fun _ => False) W W') : s.post enc P fn apart fresh handsOn again W args (.bool true) W' :=
 post_trueB hl hW hv hs hr hres ht (hstp.below _ (Nat.le_refl _) fun _ _ h => h)
end Go.Ab
end

section
namespace Go.Ab
section
variable {P : Program} {C : Ctx} {nt : Nat} {L : Lay} {ops : Array Oper} {ds : List Dir} {e : Env} {s : Sto}
end
end Go.Ab
end

section
namespace Go.Ab
def ci (n : Int) : CV := .d (.int .i64 n)
def gC {α : Type} [Emb α] (x : α) : List CV := (Emb.cells x).map .d
def gE {α : Type} [Emb α] (x : α) : AVal := .v (.g (gC x))
def ss (n : Nat) : List Dir := List.replicate n .s
section
variable {P : Program} {C : Ctx} {nt : Nat} {L : Lay} {pins : List Nat} {E : List (Nat × AVal)} {S : List (Nat × Obj)} {Q : Exit → Act → World → Prop}
theorem AW.g (Fm : Fr P L C pins) {id : Nat} {ops : Array Oper} {draw : Bool} (ds : List Dir) (c : (Nat → Prop) → Prop) (E' : List (Nat × AVal)) (S' : List (Nat × Obj)) (hc : c (KAt P C nt L ops ds (lk E) (ls S)))
  (h : (chkB L pins nt ops draw ds E S [] S', arunC P C nt L ops ops.toList ds (lk E) (ls S), E'.map (fun p => endE ops.toList (arunF L ops ops.toList ds (lk E) (ls S)) (lk E) p.1), S'.map (fun p => endS (arunF L ops ops.toList ds (lk E) (ls S)) (ls S) (rhoL [] p.1)))
   = (true, c (KAt P C nt L ops ds (lk E) (ls S)), E'.map (fun p => p.2.ren (rhoL [])), S'.map (fun p => some (p.2.ren (rhoL [])))))
  (k : Kn C nt E' S' (Q .normal)) : AW P C nt (.region id ops draw) E S Q :=
 AW.regc Fm ds [] c E' S' hc (congrArg (·.1) h) (congrArg (·.2.1) h) (congrArg (·.2.2.1) h) (congrArg (·.2.2.2) h) k
theorem AW.sg (Fm : Fr P L C pins) {id : Nat} {ops : Array Oper} {draw : Bool} {y : Code} (ds : List Dir) (c : (Nat → Prop) → Prop) (E' : List (Nat × AVal)) (S' : List (Nat × Obj)) (hc : c (KAt P C nt L ops ds (lk E) (ls S)))
  (h : (chkB L pins nt ops draw ds E S [] S', arunC P C nt L ops ops.toList ds (lk E) (ls S), E'.map (fun p => endE ops.toList (arunF L ops ops.toList ds (lk E) (ls S)) (lk E) p.1), S'.map (fun p => endS (arunF L ops ops.toList ds (lk E) (ls S)) (ls S) (rhoL [] p.1)))
   = (true, c (KAt P C nt L ops ds (lk E) (ls S)), E'.map (fun p => p.2.ren (rhoL [])), S'.map (fun p => some (p.2.ren (rhoL [])))))
  (k : AW P C nt y E' S' Q) : AW P C nt (.seq (.region id ops draw) y) E S Q :=
 AW.seq (AW.g Fm ds c E' S' hc h k)
theorem AW.g0 (Fm : Fr P L C pins) {id : Nat} {ops : Array Oper} {draw : Bool} (n : Nat) (E' : List (Nat × AVal)) (S' : List (Nat × Obj))
  (h : (chkB L pins nt ops draw (ss n) E S [] S', arunC P C nt L ops ops.toList (ss n) (lk E) (ls S), E'.map (fun p => endE ops.toList (arunF L ops ops.toList (ss n) (lk E) (ls S)) (lk E) p.1), S'.map (fun p => endS (arunF L ops ops.toList (ss n) (lk E) (ls S)) (ls S) (rhoL [] p.1)))
   = (true, True, E'.map (fun p => p.2.ren (rhoL [])), S'.map (fun p => some (p.2.ren (rhoL [])))))
  (k : Kn C nt E' S' (Q .normal)) : AW P C nt (.region id ops draw) E S Q := AW.g Fm (ss n) (fun _ => True) E' S' True.intro h k
theorem AW.sg0 (Fm : Fr P L C pins) {id : Nat} {ops : Array Oper} {draw : Bool} {y : Code} (n : Nat) (E' : List (Nat × AVal)) (S' : List (Nat × Obj))
  (h : (chkB L pins nt ops draw (ss n) E S [] S', arunC P C nt L ops ops.toList (ss n) (lk E) (ls S), E'.map (fun p => endE ops.toList (arunF L ops ops.toList (ss n) (lk E) (ls S)) (lk E) p.1), S'.map (fun p => endS (arunF L ops ops.toList (ss n) (lk E) (ls S)) (ls S) (rhoL [] p.1)))
   = (true, True, E'.map (fun p => p.2.ren (rhoL [])), S'.map (fun p => some (p.2.ren (rhoL [])))))
  (k : AW P C nt y E' S' Q) : AW P C nt (.seq (.region id ops draw) y) E S Q := AW.seq (AW.g0 Fm n E' S' h k)
variable {K : Act → World → Prop}
theorem Kn.r (Fm : Fr P L C pins) (E' : List (Nat × AVal)) (S' : List (Nat × Obj))
  (hq : (pins.all (fun i => rhoL [] i == i), E'.map (fun p => lk E p.1), S'.map (fun p => ls S (rhoL [] p.1)), nodupB (S'.map fun p => rhoL [] p.1)) = (true, E'.map (fun p => p.2.ren (rhoL [])), S'.map (fun p => some (p.2.ren (rhoL []))), true)) (h : Kn C nt E' S' K) : Kn C nt E S K :=
 Kn.re Fm [] E' S' (congrArg (·.1) hq) (congrArg (·.2.1) hq) (congrArg (·.2.2.1) hq) (congrArg (·.2.2.2) hq) h
theorem Kn.dn (Fm : Fr P L C pins) {fn : Func} {r : AVal} {S' : List (Nat × Obj)} (hq : (resA L (lk E) (ls S) fn.results.toList, S'.map (fun p => ls S p.1)) = (some r, S'.map (fun p => some p.2))) : Kn C nt E S (retQ P fn C r S' .ret) :=
 Kn.done Fm (congrArg (·.1) hq) (congrArg (·.2) hq)
end
section
variable {P : Program} {C : Ctx} {nt : Nat} {L : Lay} {ops : Array Oper} {ds : List Dir} {e : Env} {s : Sto}
theorem KAt.cl {k : Nat} {f : Nat} {args : List AVal} {Si : List (Nat × Obj)} {r : AVal} {So : List (Nat × Obj)} (hspec : FSpec P f args Si r So) (hcall : ∀ args w, (callFunc f args).run P w = .ok (.enter f args) w) (m : List (Nat × Nat))
  (hk : dirAt ds k = cE m [] r Si So) (hq : (Go.Ab.callB ops nt (arunE L ops ops.toList ds e s k) (opAt ops.toList k) f m r Si So, Si.map (fun p => arunS L ops ops.toList ds e s k (rhoL m p.1)),
   (Go.Ab.callXs (opAt ops.toList k)).toList.all (rdOk (tmpsOf (opAt ops.toList k) ++ guardTmp ops (opAt ops.toList k))) && args.all AVal.noSem, (Go.Ab.callXs (opAt ops.toList k)).toList.map (aev (arunE L ops ops.toList ds e s k)))
   = (true, Si.map (fun p => some (p.2.ren (rhoL m))), true, args.map (AVal.ren (rhoL m)))) : KAt P C nt L ops ds e s k :=
 KAt.call hspec hcall m hk (congrArg (·.1) hq) (congrArg (·.2.1) hq) (congrArg (·.2.2.1) hq) (congrArg (·.2.2.2) hq)
end
end Go.Ab
end

section
namespace Go.Ab
open Go.Proofs Go.Shelf
theorem growN_FSpec {α : Type} [Emb α] {P : Program} {L : Lay} (hL : LOk P L) {ρ : Ren} (Ly : Lays8.n4 P ρ) {te : TI} (hte : L (ρ.t 25) = some te) (hsz : te.size = Emb.es α) (hpos : 0 < te.size) (hby : te.bytes ≤ 8192) (hzl : te.zero.length = te.size)
  {n : Int} {r : List α} (h : growN n = some r) : FSpec P (ρ.f 4) [.v (.c (.fl 0 fun _ => [])), vi n] [] (.v (.c (.own 100))) [(100, AO (α := α) r)] := by
 unfold growN at h
 split at h
 case isFalse => cases h
 rename_i hn
 cases h
 obtain ⟨i0, d0, z0, hti⟩ := hL _ _ hte
 intro w X η vs hX hown hobj hds hlen hargs
 have hlen : vs.size = 2 := hlen
 have hv0 : ∃ ad, vs.getD 0 undef = .slice ad 0 0 := by
  have := hargs 0 (by simp)
  change ARep w X η _ (vs.getD 0 undef) (.v (.c (.fl 0 fun _ => []))) at this
  generalize vs.getD 0 undef = u at this
  cases this with | v _ _ hh => cases hh with | c _ _ hh => cases hh with | fl a _ _ _ => exact ⟨a, rfl⟩
 have hv1 : vs.getD 1 undef = .int .i64 n := by
  have := hargs 1 (by simp)
  change ARep w X η _ (vs.getD 1 undef) (.v (.c (.d (.int .i64 n)))) at this
  generalize vs.getD 1 undef = u at this
  cases this with | v _ _ hh => cases hh with | c _ _ hh => cases hh with | d _ _ hh => cases hh; rfl
 obtain ⟨ad, hv0⟩ := hv0
 rw [vs_two hlen, hv0, hv1]
 obtain ⟨m, rfl⟩ : ∃ m : Nat, n = m := ⟨n.toNat, by omega⟩
 have hm : m ≤ LIM := by omega
 have hnone : ∀ i o, ls [(100, AO (α := α) [])] i = some o → i = 100 ∧ o = AO (α := α) [] := by
  intro i o hi
  rw [ls_cons] at hi
  by_cases h : i = 100
  ·rw [if_pos h] at hi; cases hi; exact ⟨h, rfl⟩
  ·rw [if_neg h] at hi; cases hi
 rcases Nat.eq_zero_or_pos m with h0 | h0
 ·subst h0
  refine (Any8.slices_Grow_room Ly ad 0 0 0 w (Nat.le_refl _) (by omega) (by omega) (Nat.le_refl _)).mono fun e w' hh => ?_
  obtain ⟨he, hw⟩ := hh
  refine ⟨_, fun _ => .slice ad 0 0, he, ?_⟩
  rw [hw]
  have hblk : ∀ x, x ∉ blks (.slice ad 0 0) := by intro x; cases ad <;> simp [blks]
  refine ⟨Stp.refl _ _, .v _ _ (.c _ _ (.own _ _ rfl rfl)), fun i o hi => ?_, fun i j x hi hj hb _ => absurd hb (hblk x), fun i o x hi hb => absurd hb (hblk x), fun i v hi => ?_⟩
  ·obtain ⟨rfl, rfl⟩ := hnone i o hi
   exact .nil _ _ _
  ·change (if ((List.lookup i ([] : List (Nat × Obj))).isSome = true) then some (η i) else none) = some v at hi
   cases hi
 ·have hbig : (0 + m) * i0.bytes ≤ 140737488355328 := by
   have h1 : (0 + m) * i0.bytes ≤ 4294967296 * 8192 := Nat.mul_le_mul (by simp only [LIM] at hm; omega) (by rw [hti.bytes]; exact hby)
   omega
  refine (Any8.slices_Grow_grow Ly i0 z0 hti.info hti.zero (by rw [hti.size]; exact hpos) ad 0 0 m [] w (Nat.le_refl _) (by omega) hbig (by simp only [LIM] at hm; omega) (by simp) (fun _ => rfl) (fun _ _ _ _ hj => by simp at hj)).mono fun e w' hh => ?_
  obtain ⟨he, hw⟩ := hh
  have hG : m ≤ grownCap w (0 + m) 0 (ρ.t 25) := by have := grownCap_ge w (0 + m) 0 (ρ.t 25); omega
  have hG2 := grownCap_le_maxLen w (0 + m) 0 (ρ.t 25) (by simp only [LIM] at hm; simp only [maxLen]; omega)
  generalize grownCap w (0 + m) 0 (ρ.t 25) = G at *
  refine ⟨_, fun _ => .slice (some ⟨w.heap.size, 0, none⟩) 0 G, he, ?_⟩
  rw [hw]
  have hzs : z0.cells.size = i0.size := by rw [(hti.zrep w (fun _ => False) η (callCtx [] w X η)).1, hzl, hti.size]
  refine ⟨(Stp.drew _ _).trans (Stp.alloc _ _ _), .v _ _ (.c _ _ (.own _ _ rfl rfl)), fun i o hi => ?_, fun i j x hi hj _ _ => ?_, fun i o x hi hb => ?_, fun i v hi => ?_⟩
  ·obtain ⟨rfl, rfl⟩ := hnone i o hi
   refine .arr w.heap.size 0 G _ (([] : List Value).toArray ++ Builtin.zeroCells z0.cells (0 + m - 0) ++ Builtin.zeroCells z0.cells (G - (0 + m))) (ρ.t 25) _ (heap_alloc_new w.drew _) ?_ (Nat.zero_le _) hG2 (by omega) (fun i hi => absurd hi (Nat.not_lt_zero i)) fun i j hi => absurd hi (Nat.not_lt_zero i)
   rw [Array.size_append, Array.size_append, size_zeroCells, size_zeroCells, hzs, hti.size, ← hsz]
   have e1 : (([] : List Value).toArray).size = 0 := rfl
   rw [e1, Nat.zero_add, ← Nat.add_mul]
   congr 1
   omega
  ·obtain ⟨oi, hi⟩ := Option.ne_none_iff_exists'.1 hi
   obtain ⟨oj, hj⟩ := Option.ne_none_iff_exists'.1 hj
   rw [(hnone i oi hi).1, (hnone j oj hj).1]
  ·have : x = w.heap.size := by
    have hb : x ∈ blks (.slice (some ⟨w.heap.size, 0, none⟩) 0 G) := hb
    simp [blks] at hb
    exact hb.2
   subst this
   exact .inr (.inr (Nat.le_refl _))
  ·change (if ((List.lookup i ([] : List (Nat × Obj))).isSome = true) then some (η i) else none) = some v at hi
   cases hi
end Go.Ab
end

section
namespace Go.Ab
def Port (P : Program) (x : CV) : Prop := x.closed = true ∨ ∃ F, x = .sem (CloOK P F)
section
variable {w : World} {X : Nat → Prop} {η η' : Nat → Value} {C C' : Ctx} {P : Program}
theorem CsRep.port {vs : Array Value} {cs : List CV} (h : CsRep w X η C vs cs) (H : ∀ F v, CloOK P F C.w0 C.D C.X v → CloOK P F C'.w0 C'.D C'.X v) (hx : ∀ x ∈ cs, Port P x) : CsRep w X η' C' vs cs := by
 refine ⟨h.1, fun j hj => ?_⟩
 have hr := h.2 j hj
 rcases hx _ (getD_mem (d := .d .any) hj) with hp | ⟨F, hp⟩
 ·simp only [CV.closed, Bool.and_eq_true, List.isEmpty_iff] at hp
  exact (hr.mono (fun b _ hX => ⟨rfl, hX⟩) (fun i hi => by rw [hp.1] at hi; cases hi)).ctx hp.2
 ·rw [hp] at hr ⊢
  generalize vs.getD j undef = u at hr ⊢
  cases hr with | sem _ _ g1 g2 => exact .sem _ _ (H F _ g1) g2
end
section
variable {P : Program} {C : Ctx} {nt : Nat} {e : Env} {s : Sto}
theorem ArgT.cloP {f : Nat} (hcall : ∀ args w, (callFunc f args).run P w = .ok (.enter f args) w) {F : List AVal → AVal → Prop} {cs : List (List CV)} (hspec : ∀ args r, F args r → FSpec P f (args ++ capA cs) (capS cs) r (capS cs)) (hres : ∀ args r, F args r → r.closed = true)
  {Si : List (Nat × Obj)} {m : Nat → Nat} {rd ids : List Nat} {x : Operand} (hx : rdOk rd x = true) {cids : List Nat} (hv : aev e x = .v (.c (.clo f cids))) (hlen : cids.length = cs.length) (hnd : nodupB cids = true) (hbox : ∀ k, k < cs.length → ∃ ro, s (cids.getD k 0) = some (.box ro (cs.getD k [])))
  (hcl : ∀ c ∈ cs, ∀ x ∈ c, Port P x) (hsi : ∀ p ∈ Si, ∃ o1, s (m p.1) = some o1) (hin : ∀ p ∈ Si, m p.1 ∈ ids) (hcin : ∀ i ∈ cids, i ∈ ids) (hapart : ∀ p ∈ Si, m p.1 ∉ cids) : ArgT C nt e s Si m rd ids x (vclo P F) := by
 intro R η e0 s0 a w hrd hids hc
 have hfv := (aev_ok hc x).1
 rw [aev_agree hrd hx, hv] at hfv
 have hfe := clo_inv hfv
 refine .v _ _ (.c _ _ (.sem _ _ ⟨f, _, hfe, hcall, ?_⟩ (by rw [hfe]; rfl)))
 intro w1 X1 vs args r hF hsz hblk hX1 hXX hvs hargs
 have hsz' : w.heap.size ≤ w1.heap.size := hsz
 have hgetid : ∀ k, k < cs.length → cids.getD k 0 ∈ cids := fun k hk => getD_mem (by omega)
 have hobj : ∀ k, k < cs.length → ∃ ro, s0 (cids.getD k 0) = some (.box ro (cs.getD k [])) := by
  intro k hk
  obtain ⟨ro, h1⟩ := hbox k hk
  exact ⟨ro, by rw [hids _ (hcin _ (hgetid k hk))]; exact h1⟩
 have hblkOf : ∀ k, k < cs.length → ∃ b c' e', η (cids.getD k 0) = .pointer (some ⟨b, 0, none⟩) ∧ w.heap[b]? = some (.cells c' e' (0, 0)) ∧ CsRep w (XS C s0 η) η C c' (cs.getD k []) := by
  intro k hk
  obtain ⟨ro, h1⟩ := hobj k hk
  have := hc.st _ _ h1
  generalize η (cids.getD k 0) = u at this
  cases this with
  | box b _ c' e' _ hb hcs => exact ⟨b, c', e', rfl, hb, hcs⟩
 have hnotD : ∀ k, k < cs.length → ∀ b, b ∈ blks (η (cids.getD k 0)) → ¬ Own (ls Si) (fun i => η (m i)) b := by
  rintro k hk b hb ⟨i, o', hi, hib⟩
  obtain ⟨ro, h1⟩ := hobj k hk
  obtain ⟨o1, h2⟩ := hsi _ (ls_mem hi)
  have h2' : s0 (m i) = some o1 := by rw [hids _ (hin _ (ls_mem hi))]; exact h2
  have := hc.ds _ _ b (by rw [h1]; simp) (by rw [h2']; simp) hb hib
  exact hapart _ (ls_mem hi) (this ▸ hgetid k hk)
 have hDX : ∀ b, Own (ls Si) (fun i => η (m i)) b → XS C s0 η b := by
  rintro b ⟨i, o', hi, hib⟩
  obtain ⟨o1, h2⟩ := hsi _ (ls_mem hi)
  exact .inr ⟨m i, o1, by rw [hids _ (hin _ (ls_mem hi))]; exact h2, hib⟩
 have hk : Kept w w1 (XS C s0 η) X1 := by
  intro b hb hX
  have hnD : ¬ Own (ls Si) (fun i => η (m i)) b := fun ho => hX (hDX b ho)
  exact ⟨hblk b hb hnD, fun hx => hX ((hXX b hb hnD).1 hx)⟩
 have hpos : ∀ k o, ls (capS cs) k = some o → k < cs.length ∧ o = .box true (cs.getD k []) := by
  intro k o hk
  rw [capS_ls] at hk
  rcases Nat.lt_or_ge k cs.length with h1 | h1
  ·rw [List.getElem?_eq_getElem h1] at hk
   cases hk
   exact ⟨h1, by rw [List.getD_eq_getElem?_getD, List.getElem?_eq_getElem h1]; rfl⟩
  ·rw [List.getElem?_eq_none h1] at hk; cases hk
 have hownC : ∀ b, Own (ls (capS cs)) (fun k => η (cids.getD k 0)) b → X1 b := by
  rintro b ⟨k, o', hko, hkb⟩
  obtain ⟨hk1, _⟩ := hpos k o' hko
  obtain ⟨ro, h1⟩ := hobj k hk1
  have hlt : b < w.heap.size := (hc.st _ _ h1).lt hkb
  exact (hXX b hlt (hnotD k hk1 b hkb)).2 (.inr ⟨_, _, h1, hkb⟩)
 have hport : ∀ F' v, CloOK P F' C.w0 C.D C.X v → CloOK P F' w1 (Own (ls (capS cs)) fun k => η (cids.getD k 0)) X1 v := by
  rintro F' v ⟨g, gc, g1, g2, g3⟩
  refine ⟨g, gc, g1, g2, fun w2 X2 us avs q hq s1 s2 s3 s4 s5 s6 => ?_⟩
  have hnS : ∀ b, b < C.w0.heap.size → ¬ C.D b → ¬ Own (ls Si) (fun i => η (m i)) b := by
   rintro b hb hD ⟨i, o', hi, hib⟩
   obtain ⟨o1, h1⟩ := hsi _ (ls_mem hi)
   rcases hc.ow (m i) o1 b (by rw [hids _ (hin _ (ls_mem hi))]; exact h1) hib with ⟨_, h1⟩ | h1 | h1
   ·exact hD h1
   ·exact hD (hc.ok.md b h1)
   ·omega
  have hnC : ∀ b, b < C.w0.heap.size → ¬ C.D b → ¬ Own (ls (capS cs)) (fun k => η (cids.getD k 0)) b := by
   rintro b hb hD ⟨k, o', hko, hkb⟩
   obtain ⟨hk1, _⟩ := hpos k o' hko
   obtain ⟨ro, h1⟩ := hobj k hk1
   rcases hc.ow _ _ b h1 hkb with ⟨_, h1⟩ | h1 | h1
   ·exact hD h1
   ·exact hD (hc.ok.md b h1)
   ·omega
  refine g3 w2 X2 us avs q hq (Nat.le_trans hc.fr.size (Nat.le_trans hsz' s1)) (fun b hb hD => ?_) s3 (fun b hb hD => ?_) s5 s6
  ·have hbw : b < w.heap.size := Nat.lt_of_lt_of_le hb hc.fr.size
   exact ((s2 b (Nat.lt_of_lt_of_le hbw hsz') (hnC b hb hD)).trans (hblk b hbw (hnS b hb hD))).trans (hc.fr.block b hb fun hM => hD (hc.ok.md b hM))
  ·have hbw : b < w.heap.size := Nat.lt_of_lt_of_le hb hc.fr.size
   rw [s4 b (Nat.lt_of_lt_of_le hbw hsz') (hnC b hb hD), hXX b hbw (hnS b hb hD)]
   constructor
   ·rintro (⟨hx, _⟩ | ⟨i, o', hi, hib⟩)
    ·exact hx
    ·rcases hc.ow i o' b hi hib with ⟨_, h1⟩ | h1 | h1
     ·exact absurd h1 hD
     ·exact absurd (hc.ok.md b h1) hD
     ·omega
   ·exact fun hx => .inl ⟨hx, hD⟩
 have hsp := hspec args r hF w1 X1 (fun k => η (cids.getD k 0)) (vs ++ (cids.map η).toArray) hX1 hownC
  (fun k o hko => by
   obtain ⟨hk1, rfl⟩ := hpos k o hko
   obtain ⟨b, c', e', h1, h2, h3⟩ := hblkOf k hk1
   have hnb := hnotD k hk1 b (by rw [h1]; simp [blks])
   show ORep w1 X1 _ _ (η (cids.getD k 0)) _
   rw [h1]
   have hcc : ∀ x ∈ cs.getD k [], Port P x := hcl _ (getD_mem (d := []) hk1)
   exact .box b true c' e' _ ((hblk b (lt_of_heap h2) hnb).trans h2) ((h3.mono (η' := η) hk (fun _ _ => rfl)).port hport hcc))
  (fun i j b hi hj hbi hbj => by
   obtain ⟨oi, hi⟩ := Option.ne_none_iff_exists'.1 hi
   obtain ⟨oj, hj⟩ := Option.ne_none_iff_exists'.1 hj
   obtain ⟨hi1, _⟩ := hpos i oi hi
   obtain ⟨hj1, _⟩ := hpos j oj hj
   obtain ⟨r1, h1⟩ := hobj i hi1
   obtain ⟨r2, h2⟩ := hobj j hj1
   have hij := hc.ds _ _ b (by rw [h1]; simp) (by rw [h2]; simp) hbi hbj
   have hn := nodupB_ok hnd
   have hi2 : i < cids.length := by omega
   have hj2 : j < cids.length := by omega
   rw [List.getD_eq_getElem?_getD, List.getD_eq_getElem?_getD, List.getElem?_eq_getElem hi2, List.getElem?_eq_getElem hj2] at hij
   exact (List.getElem_inj hn).1 (by simpa using hij))
  (by simp [hvs, capA, hlen])
  (fun j hj => by
   rw [List.length_append] at hj
   by_cases hja : j < args.length
   ·have e1 : (vs ++ (cids.map η).toArray).getD j undef = vs.getD j undef := by
     have : j < vs.size := by omega
     simp [Array.getD_eq_getD_getElem?, Array.getElem?_append, this]
    have e2 : (args ++ capA cs).getD j .any = args.getD j .any := by simp [List.getD_eq_getElem?_getD, List.getElem?_append, hja]
    rw [e1, e2]
    exact hargs j hja _ _
   ·have hk1 : j - args.length < cs.length := by simp [capA] at hj; omega
    obtain ⟨b, c', e', h1, h2, h3⟩ := hblkOf _ hk1
    have e1 : (vs ++ (cids.map η).toArray).getD j undef = η (cids.getD (j - args.length) 0) := by
     have g1 : ¬ j < vs.size := by omega
     have g2 : j - vs.size < cids.length := by omega
     have g3 : j - args.length < cids.length := by omega
     have : j - vs.size = j - args.length := by omega
     simp [Array.getD_eq_getD_getElem?, Array.getElem?_append, g1, List.getD_eq_getElem?_getD, this, g3]
    have e2 : (args ++ capA cs).getD j .any = .v (.c (.ptr (j - args.length) 0)) := by
     simp [List.getD_eq_getElem?_getD, List.getElem?_append, hja, capA, hk1]
    rw [e1, e2, h1]
    exact .v _ _ (.c _ _ (.ptr b _ 0 h1)))
 refine hsp.mono fun en w' hh => ?_
 obtain ⟨v, η', rfl, hb⟩ := hh
 refine ⟨v, rfl, hb.stp.mono fun b _ hM => ?_, fun η2 C2 => ?_⟩
 ·obtain ⟨i, o', hi, hro, _⟩ := hM
  obtain ⟨_, rfl⟩ := hpos i o' hi
  cases hro
 ·have hX : ∀ b, XS (callCtx (capS cs) w1 X1 fun k => η (cids.getD k 0)) (ls (capS cs)) η' b ↔ X1 b := by
   have hpin : ∀ i o', ls (capS cs) i = some o' → η' i = η (cids.getD i 0) := by
    intro i o' hi
    refine hb.pn i _ ?_
    unfold ls at hi
    simp [callCtx, hi]
   intro b
   constructor
   ·rintro (⟨hx, _⟩ | ⟨i, o', hi, hib⟩)
    ·exact hx
    ·rw [hpin i o' hi] at hib
     exact hownC b ⟨i, o', hi, hib⟩
   ·intro hx
    rcases Classical.em (Own (ls (capS cs)) (fun k => η (cids.getD k 0)) b) with ho | ho
    ·obtain ⟨i, o', hi, hib⟩ := ho
     exact .inr ⟨i, o', hi, by rw [hpin i o' hi]; exact hib⟩
    ·exact .inl ⟨hx, ho⟩
  exact (hb.res.mono (η' := η') (fun b _ hx => ⟨rfl, fun hx' => hx ((hX b).2 hx')⟩) (fun _ _ => rfl)).free (hres args r hF)
def portB (P : Program) : List CV → Prop
 | [] => True
 | c :: cs => Port P c ∧ portB P cs
def portBB (P : Program) : List (List CV) → Prop
 | [] => True
 | c :: cs => portB P c ∧ portBB P cs
theorem portB_ok {cs : List CV} (h : portB P cs) : ∀ x ∈ cs, Port P x := by
 induction cs with
 | nil => intro x hx; cases hx
 | cons c cs ih =>
  intro x hx
  rcases List.mem_cons.1 hx with rfl | hx
  ·exact h.1
  ·exact ih h.2 x hx
theorem portBB_ok {cs : List (List CV)} (h : portBB P cs) : ∀ c ∈ cs, ∀ x ∈ c, Port P x := by
 induction cs with
 | nil => intro x hx; cases hx
 | cons c cs ih =>
  intro x hx
  rcases List.mem_cons.1 hx with rfl | hx
  ·exact portB_ok h.1
  ·exact ih h.2 x hx
theorem ArgT.cloXP {f : Nat} (hcall : ∀ args w, (callFunc f args).run P w = .ok (.enter f args) w) {F : List AVal → AVal → Prop} (cs : List (List CV)) (hspec : ∀ args r, F args r → FSpec P f (args ++ capA cs) (capS cs) r (capS cs)) (hres : ∀ args r, F args r → r.closed = true)
  {Si : List (Nat × Obj)} {m : Nat → Nat} {rd ids : List Nat} {x : Operand} (hx : rdOk rd x = true) (cids : List Nat) (hv : aev e x = .v (.c (.clo f cids))) (hnd : (nodupB cids && cids.all (fun i => ids.contains i)) = true) (hp : portBB P cs) (hbox : boxB s cids cs)
  (hsi : siB s Si m ids cids = true) : ArgT C nt e s Si m rd ids x (vclo P F) := by
 simp only [Bool.and_eq_true] at hnd
 obtain ⟨g1, g2⟩ := boxB_ok hbox
 exact ArgT.cloP hcall hspec hres hx hv g1 hnd.1 g2 (portBB_ok hp) (siB_ok hsi).1 (siB_ok hsi).2.1 (fun i hi => by simpa using List.all_eq_true.1 hnd.2 i hi) (siB_ok hsi).2.2
end
end Go.Ab
end

section
namespace Go.Ab
section
variable {P : Program} {C : Ctx} {nt : Nat} {L : Lay} {pins : List Nat} {K : Act → World → Prop}
end
end Go.Ab
end

section
namespace Go.Ab
end Go.Ab
end

section
namespace Go.Ab
def apP (es n : Nat) (f : Nat → List DVal) (w : World) (X : Nat → Prop) (u : Value) : Prop :=
 (∃ ad, u = .tuple #[.slice ad n n] ∧ DRep w X (.slice ad n n) (.lst n f)) ∨ ∀ η C, ORep w X η C u (.arr es n f)
theorem arr_free {w : World} {X : Nat → Prop} {η : Nat → Value} {C : Ctx} {v : Value} {es n : Nat} {f : Nat → List DVal} (h : ORep w X η C v (.arr es n f)) (η' : Nat → Value) (C' : Ctx) : ORep w X η' C' v (.arr es n f) := by
 cases h with
 | nil ad => exact .nil ad _ _
 | arr b _ cap _ c e _ h1 h2 h3 h4 h5 h6 h7 => exact .arr b _ cap _ c e _ h1 h2 h3 h4 h5 h6 h7
theorem apP_stab (es n : Nat) (f : Nat → List DVal) (u : Value) : PStab (apP es n f) u := by
 intro w w' X X' hk hb h
 rcases h with ⟨ad, e, hd⟩ | h
 ·exact .inl ⟨ad, e, hd.mono hk⟩
 ·exact .inr fun η C => (h η C).mono (η' := η) hk (fun _ _ => rfl) hb
theorem CLe.ap (k : Nat) : CLe (.own k) (.ap k) := ⟨fun w X η C v hv => by cases hv with | own _ _ h h1 => exact .ap _ _ (.inl h.symm) h1, fun i hi => hi⟩
theorem OLe.ap (es n : Nat) (f : Nat → List DVal) : OLe (.arr es n f) (.ext (apP es n f)) :=
 ⟨fun w X η C v hv => .ext _ _ (.inr fun η' C' => arr_free hv η' C') (apP_stab es n f v) fun b hb => hv.lt hb, rfl, fun i hi => by cases hi⟩
section
variable {w : World} {X X' : Nat → Prop} {η : Nat → Value} {C : Ctx} {k : Nat} {y : CV}
end
section
variable {P : Program} {C : Ctx} {nt : Nat} {L : Lay} {pins : List Nat} {K : Act → World → Prop} {E : List (Nat × AVal)} {S : List (Nat × Obj)}
end
end Go.Ab
end

section
namespace Go.Ab
section
variable {P : Program} {C : Ctx} {nt : Nat} {L : Lay} {ops : Array Oper} {ds : List Dir} {e : Env} {s : Sto}
end
end Go.Ab
end

section
namespace Go.Ab
open Go.Sort Go.Proofs Go.Shelf
theorem swo_pos {κ : Type} {lt : κ → κ → Bool} (pos : κ → Nat) (h : ∀ i j, lt i j = true ↔ pos i < pos j) : SWO lt := by
 have h' : ∀ i j, lt i j = false ↔ pos j ≤ pos i := by
  intro i j
  have := h i j
  cases hh : lt i j with
  | true => rw [hh] at this; simp at this ⊢; omega
  | false => rw [hh] at this; simp at this ⊢; omega
 refine ⟨fun x => (h' x x).2 (Nat.le_refl _), fun x y z h1 h2 => ?_, fun x y z h1 h2 => ?_⟩
 ·rw [h] at h1 h2 ⊢; omega
 ·rw [h'] at h1 h2 ⊢; omega
section
variable {α : Type} [Emb α]
theorem sortG_FSpec {P : Program} {L : Lay} (hL : LOk P L) {ρ : Ren} (Ly : SlLaysF0.n6 P ρ) {te : TI} (hte : L (ρ.t 24) = some te) (hagg : te.kind.agg = true) (hsz : te.size = Emb.es α)
  (F : (α → α → Option Int) → List AVal → AVal → Prop) (hF : ∀ q x y z, q x y = some z → F q [.v (.g ((Emb.cells x).map .d)), .v (.g ((Emb.cells y).map .d))] (vi z)) {x r : List α} {q : α → α → Option Int} (h : sortG x q = some r) :
  FSpec P (ρ.f 6) [.v (.c (.own 0)), vclo P (F q)] [(0, AO (α := α) x)] .any [(0, AO (α := α) r)] := by
 obtain ⟨hl, hsq⟩ := sortG_some h
 obtain ⟨ti, td, tz, hti⟩ := hL _ _ hte
 have hrl : r.length = x.length := hsq.perm.length_eq
 intro w X η vs hX hown hobj hds hlen hargs
 have hlen : vs.size = 2 := hlen
 have hv0 : vs.getD 0 undef = η 0 := own_inv (C := callCtx [(0, AO (α := α) x)] w X η) (s := ls [(0, AO (α := α) x)]) (by have := hargs 0 (by simp); rw [own_ext hown]; exact this)
 have hv1 : CloOK P (F q) w (Own (ls [(0, AO (α := α) x)]) η) X (vs.getD 1 undef) := by
  have := hargs 1 (by simp)
  change ARep w X η _ (vs.getD 1 undef) (vclo P (F q)) at this
  generalize vs.getD 1 undef = u at this
  cases this with | v _ _ hh => cases hh with | c _ _ hh => cases hh with | sem _ _ hh _ => exact hh
 rw [vs_two hlen, hv0]
 have ho := hobj 0 (AO x) (by rw [ls_cons, if_pos rfl])
 have hXb : ∀ b, b ∈ blks (η 0) → X b := fun b hb => hown b ⟨0, _, by rw [ls_cons, if_pos rfl], hb⟩
 generalize hu : η 0 = u at ho
 unfold AO at ho
 generalize hn : x.length = n at ho
 cases ho with
 | nil ad =>
  have hx : x = [] := List.eq_nil_of_length_eq_zero hn
  refine (AnyF.slices_SortFunc_none Ly ad 0 _ w).mono fun e w' hh => ?_
  obtain ⟨he, hw⟩ := hh
  refine ⟨_, η, he, ?_⟩
  rw [hw]
  have hb := behind_none (w := w) (X := X) (l := x) hu hX
  have hp : r = [] := List.eq_nil_of_length_eq_zero (by rw [hrl, hn])
  rw [hp]; exact hb
 | arr b _ cap _ c e _ g1 g2 g3 g4 g5 g6 g7 =>
  rename_i n
  have hblk : b ∈ blks (η 0) := by rw [hu]; simp [blks]; omega
  rcases Nat.eq_zero_or_pos n with hn0 | hn0
  ·subst hn0
   refine (AnyF.slices_SortFunc_none Ly (some ⟨b, 0, none⟩) cap _ w).mono fun e' w' hh => ?_
   obtain ⟨he, hw⟩ := hh
   refine ⟨_, η, he, ?_⟩
   rw [hw]
   exact behind_one (c' := c) (e := e) (b := b) (n := 0) (cap := cap) hu g5 (Stp.refl _ _) g1 g2 (by rw [hrl, hn]) g3 g4 (fun i j hi => absurd hi (Nat.not_lt_zero i)) hX (hXb b hblk)
  obtain ⟨fid, caps, hfv, hcall, hclo⟩ := hv1
  rw [hfv]
  letI inst : Inhabited (_root_.Fin n) := ⟨⟨0, hn0⟩⟩
  let at_ : _root_.Fin n → α := fun i => x[i.val]'(by omega)
  have hatm : ∀ i, at_ i ∈ r := fun i => hsq.perm.mem_iff.2 (List.getElem_mem _)
  have hpos : ∀ i, ∃ s, ∃ hs : s < r.length, r[s] = at_ i := fun i => by
   obtain ⟨s, hs, e⟩ := List.getElem_of_mem (hatm i); exact ⟨s, hs, e⟩
  let pos : _root_.Fin n → Nat := fun i => (hpos i).choose
  have hpl : ∀ i, pos i < r.length := fun i => (hpos i).choose_spec.choose
  have hpe : ∀ i, r[pos i]'(hpl i) = at_ i := fun i => (hpos i).choose_spec.choose_spec
  have htri : ∀ i j, (pos i < pos j → LtQ q (at_ i) (at_ j)) ∧ (pos j ≤ pos i → GeQ q (at_ i) (at_ j)) := fun i j => by
   have := hsq.at (pos i) (pos j) (hpl i) (hpl j)
   rw [hpe, hpe] at this; exact this
  let cf : _root_.Fin n → _root_.Fin n → Int := fun i j => (q (at_ i) (at_ j)).getD 0
  have hq : ∀ i j, q (at_ i) (at_ j) = some (cf i j) := by
   intro i j
   rcases Nat.lt_or_ge (pos i) (pos j) with h1 | h1
   ·obtain ⟨z, e, _⟩ := (htri i j).1 h1; show _ = some ((q (at_ i) (at_ j)).getD 0); rw [e]; rfl
   ·obtain ⟨z, e, _⟩ := (htri i j).2 h1; show _ = some ((q (at_ i) (at_ j)).getD 0); rw [e]; rfl
  have hlt : ∀ i j, ltC cf i j = true ↔ pos i < pos j := by
   intro i j
   unfold ltC
   rw [decide_eq_true_eq]
   rcases Nat.lt_or_ge (pos i) (pos j) with h1 | h1
   ·obtain ⟨z, e, hz⟩ := (htri i j).1 h1
    have := (hq i j).symm.trans e
    have : cf i j = z := Option.some.inj this
    omega
   ·obtain ⟨z, e, hz⟩ := (htri i j).2 h1
    have := (hq i j).symm.trans e
    have : cf i j = z := Option.some.inj this
    omega
  have hO : SWO (ltC cf) := swo_pos pos hlt
  have hrnd : r.Nodup := hsq.asc.imp_of_mem fun {a b} ha _ hh e => by subst e; exact hh.1.not (hsq.self a ha)
  have hxnd : x.Nodup := hsq.perm.nodup_iff.1 hrnd
  have hatinj : ∀ i j, at_ i = at_ j → i = j := fun i j e => by
   have : i.val = j.val := (List.getElem_inj hxnd).1 e
   exact _root_.Fin.ext this
  have hposinj : ∀ i j, pos i = pos j → i = j := fun i j e => by
   apply hatinj
   rw [← hpe i, ← hpe j]
   simp only [e]
  let d : Array (_root_.Fin n) := (List.finRange n).toArray
  have hd : d.size = n := by simp [d]
  have hdat : ∀ i (hi : i < n), d[i]! = ⟨i, hi⟩ := fun i hi => by
   rw [getElem!_pos d i (by rw [hd]; exact hi)]; simp [d]
  obtain ⟨⟨hp1, _, hp2⟩, hp3⟩ := pdq_sorts (ltC cf) hO d 0 d.size (Lib.bitLen d.size) true true (Nat.zero_le _) (Nat.le_refl _) (.inl rfl)
  generalize hpd : pdq (ltC cf) d 0 d.size (Lib.bitLen d.size) true true = p at hp1 hp2 hp3
  have hp1 : p.size = n := hp1.trans hd
  have hperm : p.toList.Perm (List.finRange n) := by
   have : (p.extract 0 d.size).toList.Perm (d.extract 0 d.size).toList := hp2
   have e1 : p.extract 0 d.size = p := by rw [hd.trans hp1.symm]; exact Array.extract_size
   rw [e1, Array.extract_size] at this
   exact this
  have hmapx : (List.finRange n).map at_ = x := by
   apply List.ext_getElem
   ·simp [hn]
   ·intro i h1 h2; simp [at_]
  have hrp : r = p.toList.map at_ := by
   refine hsq.uniq ⟨hmapx ▸ hperm.map at_, ?_, fun a ha => ?_⟩
   ·rw [List.pairwise_map, List.pairwise_iff_getElem]
    intro i j hi hj hij
    have hi' : i < p.size := by simpa using hi
    have hj' : j < p.size := by simpa using hj
    have h5 : ltC cf p[j]! p[i]! = false := hp3 i j (Nat.zero_le _) hij (by rw [hd, ← hp1]; exact hj')
    rw [getElem!_pos p i hi', getElem!_pos p j hj'] at h5
    have h6 : ¬ pos p[j] < pos p[i] := fun hh => by rw [(hlt _ _).2 hh] at h5; cases h5
    have hnd : p.toList.Nodup := hperm.nodup_iff.2 (List.nodup_finRange n)
    have h7 : pos p[i] ≠ pos p[j] := fun hh => by
     have h8 := hposinj _ _ hh
     have := (List.getElem_inj (i := i) (j := j) (h₀ := hi) (h₁ := hj) hnd).1 (by simpa using h8)
     omega
    have h8 : pos p[i] < pos p[j] := by omega
    simp only [Array.getElem_toList]
    exact ⟨(htri _ _).1 h8, (htri _ _).2 (by omega)⟩
   ·obtain ⟨i, _, rfl⟩ := List.mem_map.1 ha
    exact (htri i i).2 (Nat.le_refl _)
  let es := Emb.es α
  let enc : _root_.Fin n → List Value := fun i => (List.range es).map fun j => c.getD (i.val * es + j) undef
  have hk : ∀ i, (enc i).length = es := fun i => by simp [enc]
  have hat : ∀ i : _root_.Fin n, (LF x i.val) = Emb.cells (at_ i) := fun i => by
   show Emb.cells (x.getD i.val Emb.d) = _
   rw [getD_lt x i.val (by omega)]
  have hrep0 : ∀ i : _root_.Fin n, ∀ j, j < es → DRep w X (c.getD (i.val * es + j) undef) ((Emb.cells (at_ i)).getD j .any) := fun i j hj => by
   have := g7 i.val j i.isLt hj
   rw [hat] at this; exact this
  have h1 : ∀ i, ∀ v ∈ enc i, v.oneCell' = true := by
   intro i v hv
   obtain ⟨j, hj, rfl⟩ := List.mem_map.1 hv
   exact (hrep0 i j (List.mem_range.1 hj)).one
  have hencj : ∀ i j, j < es → (enc i)[j]! = c.getD (i.val * es + j) undef := by
   intro i j hj
   rw [getElem!_pos (enc i) j (by rw [hk]; exact hj)]
   simp [enc]
  have hH : HoldsK enc es w b 0 d := by
   intro t ht
   have ht' : t < n * es := by have h5 := ht; simp only [size_flatK, hd] at h5; exact h5
   have htc : t < c.size := by rw [g2]; exact Nat.lt_of_lt_of_le ht' (Nat.mul_le_mul_right _ g3)
   refine ⟨?_, by simp [World.frozen?, g1]⟩
   have hpos : 0 < es := by
    rcases Nat.eq_zero_or_pos es with hz | hz
    ·rw [hz, Nat.mul_zero] at ht'; omega
    ·exact hz
   have p1 : t / es < n := Nat.div_lt_of_lt_mul (by rw [Nat.mul_comm]; exact ht')
   have p2 : t % es < es := Nat.mod_lt _ hpos
   have hflat : (flatK enc es d)[t]! = c.getD t undef := by
    rw [get_flatK _ _ _ _ (by rw [hd]; exact ht'), hdat _ p1, hencj _ _ p2]
    show c.getD (t / es * es + t % es) undef = _
    rw [show t / es * es + t % es = t from by rw [Nat.mul_comm]; exact Nat.div_add_mod t _]
   simp only [Nat.zero_add, World.cell?, g1, Option.isSome_none, Bool.false_eq_true, if_false, id]
   rw [Array.getElem?_eq_getElem htc]
   congr 1
   rw [hflat]; simp [htc]
  have hcmp : CmpLays P fid caps enc es cf b 0 d.size w := by
   intro m os dk hdk u v
   have hst := putRow_stp id w b 0 m (flatK enc es dk) os
   have hrep : ∀ (w1 : World) (hs : Stp (fun y => y = b) w w1) (z : _root_.Fin n) η C, ARep w1 X η C (.agg (enc z).toArray) (.v (.g ((Emb.cells (at_ z)).map .d))) := by
    intro w1 hs z η' C'
    refine .v _ _ (.g _ _ ⟨by simp [enc, Emb.len, es], fun j hj => ?_⟩)
    have hj' : j < (Emb.cells (at_ z)).length := by simpa using hj
    have hj2 : j < es := by rw [Emb.len] at hj'; exact hj'
    have e1 : (enc z).toArray.getD j undef = c.getD (z.val * es + j) undef := by simp [enc, hj2]
    have e2 : ((Emb.cells (at_ z)).map CV.d).getD j (.d .any) = .d ((Emb.cells (at_ z)).getD j .any) := by rw [getD_lt _ j (by simpa using hj'), getD_lt _ j hj']; simp
    rw [e1, e2]
    exact .d _ _ ((hrep0 z j hj2).mono fun y hy hn => ⟨hs.block y hy fun e => hn (by rw [e]; exact hXb b hblk), hn⟩)
   refine (hclo (grow (putRow id (Go.Sort.ahead w m) b 0 (flatK enc es dk)) os) X #[.agg (enc u).toArray, .agg (enc v).toArray] _ _ (hF q (at_ u) (at_ v) (cf u v) (hq u v)) hst.size (fun y hy hD => hst.block y hy fun e => hD ?_)
    (fun y hy => Nat.lt_of_lt_of_le (hX y hy) hst.size) (fun y _ _ => Iff.rfl) rfl (fun j hj η C => ?_)).mono fun e2 w2 hh => ?_
   ·rw [e]; exact ⟨0, _, by rw [ls_cons, if_pos rfl], hblk⟩
   ·have : j = 0 ∨ j = 1 := by simp at hj; omega
    rcases this with rfl | rfl
    ·exact hrep _ hst _ _ _
    ·exact hrep _ hst _ _ _
   ·obtain ⟨v', he, hs2, hr⟩ := hh
    have hr' := hr η (callCtx [] w X η)
    have e3 : v' = .int .i64 (cf u v) := by
     cases hr' with | v _ _ hh => cases hh with | c _ _ hh => cases hh with | d _ _ hh => cases hh; rfl
    obtain ⟨qq, os', hw'⟩ := stp_grow hs2
    exact ⟨by rw [he, e3], qq, os', hw'⟩
  have hmain := AnyQ.slices_SortFunc_eq Ly es (fun w => by rw [run_isAgg hti w, hagg]) (fun w => by rw [run_sizeOf hti, hsz]) enc hk h1 cf hO fid caps b 0 cap d w hcall hcmp hH (lt_of_heap g1) (by rw [hd]; simp only [LIM] at hl; omega)
  rw [hd] at hmain
  refine hmain.mono fun e' w' hh => ?_
  obtain ⟨he, nn, os, hw⟩ := hh
  refine ⟨_, η, he, ?_⟩
  have hpp : pdq (ltOf cf) d 0 n (Lib.bitLen n) true true = p := by rw [← hpd, hd]; rfl
  rw [hpp] at hw
  have hw2 : w' = grow (putRow id (Go.Sort.ahead w nn) b 0 (flatK enc es p)) os := hw
  rw [hw2]
  have hst := putRow_stp id w b 0 nn (flatK enc es p) os
  refine behind_one (c' := putCells id 0 (flatK enc es p) c) (e := e) (b := b) (n := n) (cap := cap) hu g5 hst (putRow_heap _ _ _ _ _ _ _ g1) (by rw [size_putCells']; exact g2) (by rw [hrl, hn]) g3 g4 (fun i j hi hj => ?_) hX (hXb b hblk)
  have hlt2 : i * es + j < n * es := by
   have : (i + 1) * es ≤ n * es := Nat.mul_le_mul_right _ hi
   rw [Nat.add_mul, Nat.one_mul] at this; have : j < es := hj; omega
  have hsz2 : (flatK enc es p).size = n * es := by simp [hp1]
  rw [getD_putCells _ _ _ _ (by rw [hsz2]; exact hlt2) (by rw [hsz2, g2]; exact Nat.mul_le_mul_right _ g3)]
  rw [get_flatK _ _ _ _ (by rw [hp1]; exact hlt2)]
  have d1 : (i * es + j) / es = i := by
   rw [Nat.add_comm, Nat.add_mul_div_right _ _ (by have : j < es := hj; omega), Nat.div_eq_of_lt hj, Nat.zero_add]
  have d2 : (i * es + j) % es = j := by rw [Nat.add_comm, Nat.add_mul_mod_self_right, Nat.mod_eq_of_lt hj]
  rw [d1, d2, hencj _ _ hj]
  have e6 : LF r i = Emb.cells (at_ p[i]!) := by
   show Emb.cells (r.getD i Emb.d) = _
   rw [getD_lt r i (by rw [hrl, hn]; exact hi)]
   congr 1
   have hi' : i < p.size := by rw [hp1]; exact hi
   rw [getElem!_pos p i hi']
   have : r[i]'(by rw [hrl, hn]; exact hi) = (p.toList.map at_)[i]'(by simpa using hi') := by simp only [hrp]
   rw [this]; simp
  show DRep _ X (c.getD _ undef) _
  rw [e6]
  exact (hrep0 _ j hj).mono fun y hy hn => ⟨hst.block y hy fun e => hn (by rw [e]; exact hXb b hblk), hn⟩
end
end Go.Ab
end

section
namespace Go.Ab
section
variable {P : Program} {C : Ctx} {nt : Nat} {L : Lay} {R : Nat → Prop} {η : Nat → Value} {e : Env} {s : Sto} {a : Act} {w : World}
theorem Snd.upd_le {o : Oper} {x : AVal} {id : Nat} {ob ob' : Obj} {c : Prop} (h : Snd P C nt R η e s a w o { v := x, upd := some (id, ob), cond := c }) (hle : OLe ob ob') : Snd P C nt R η e s a w o { v := x, upd := some (id, ob'), cond := c } := by
 obtain ⟨v, w', h1, h2⟩ := h
 refine ⟨v, w', h1, ?_⟩
 have hsto : ∀ q i, SR.sto { v := x, upd := some (id, q), cond := c } o.dst s i = if i = id then some q else s i := by
  intro q i
  unfold SR.sto
  simp
 have h3 := h2.conv (R' := SR.rng { v := x, upd := some (id, ob'), cond := c } o.dst R) (e' := SR.env { v := x, upd := some (id, ob'), cond := c } o.dst e) (s' := SR.sto { v := x, upd := some (id, ob'), cond := c } o.dst s) (fun i => i)
  (fun t => by rw [AVal.ren_id]; exact ALe.refl _) (fun i o' hi => by
   rw [Obj.ren_id]
   rw [hsto] at hi ⊢
   split at hi
   ·rename_i hi'; cases hi; exact ⟨ob, by rw [if_pos hi'], hle⟩
   ·rename_i hi'; exact ⟨o', by rw [if_neg hi']; exact hi, OLe.refl _⟩) (fun i j _ _ h => h) (fun t i hi => h2.er t i hi) (fun i o' hi => by
   rw [hsto] at hi
   split at hi
   ·rename_i hi'
    cases hi
    have := h2.sr i ob (by rw [hsto, if_pos hi'])
    exact ⟨this.1, fun j hj => this.2 j (hle.2.2 j hj)⟩
   ·rename_i hi'
    exact h2.sr i o' (by rw [hsto, if_neg hi']; exact hi)) (fun i hi => ⟨rfl, by
   obtain ⟨v, hv⟩ := Option.ne_none_iff_exists'.1 hi
   exact (h2.pn i v hv).2⟩)
 exact h3
variable {ops : Array Oper} {ds : List Dir} {k : Nat}
theorem KAt.upd (hL : LOk P L) {id : Nat} {ob ob' : Obj} {c : Prop} (hk : dirAt ds k = rE { v := .any, upd := some (id, ob') })
  (hdo : (dstOk nt (opAt ops.toList k) && (gval ops (arunE L ops ops.toList ds e s k) (opAt ops.toList k) == some true)) = true)
  (hr : aop1 L false (arunE L ops ops.toList ds e s k) (arunS L ops ops.toList ds e s k) (opAt ops.toList k) = some { v := .any, upd := some (id, ob), cond := c }) (hc : c) (hle : OLe ob ob') : KAt P C nt L ops ds e s k := by
 unfold KAt
 rw [hk]
 simp only [Bool.and_eq_true, beq_iff_eq] at hdo
 have hd2 : ∀ t x y, (opAt ops.toList k).op = .store t x y → (opAt ops.toList k).dst = none := by
  intro t x y hop
  have := hdo.1
  simp only [dstOk, hop, Bool.and_eq_true] at this
  simpa using this.2
 refine stT_snd hdo.1 hdo.2 fun R η e0 s0 a w he hss hn hcc => ?_
 have hr0 := (aop1_local (L := L) (e := arunE L ops ops.toList ds e s k) (s := arunS L ops ops.toList ds e s k) false (opAt ops.toList k) he hss).trans hr
 exact (aop1_ok hL hcc false _ (fun x hx => dst_lt hdo.1 x hx) hr0 hc (fun d hd hn => absurd rfl hn) hd2).upd_le hle
end
end Go.Ab
end

section
namespace Go.Ab
open Go.ChangeShapes Go.WideShapes Go.ChangeAt Go.RowKit
end Go.Ab
end

section
namespace Go.Ab
@[reducible] def ow (n : Nat) : AVal := .v (.c (.own n))
@[reducible] def pt (n : Nat) : AVal := .v (.c (.ptr n 0))
@[reducible] def bx (l : List CV) : Obj := .box false l
section
variable {P : Program} {C : Ctx} {nt : Nat} {L : Lay} {pins : List Nat} {E : List (Nat × AVal)} {S : List (Nat × Obj)} {Q : Exit → Act → World → Prop}
theorem AW.G (Fm : Fr P L C pins) {id : Nat} {ops : Array Oper} {draw : Bool} (ds : List Dir) (c : (Nat → Prop) → Prop) (E' : List (Nat × AVal)) (S' : List (Nat × Obj)) (hc : c (KAt P C nt L ops ds (lk E) (ls S))) (k : Kn C nt E' S' (Q .normal))
  (h : (chkB L pins nt ops draw ds E S [] S', arunC P C nt L ops ops.toList ds (lk E) (ls S), E'.map (fun p => endE ops.toList (arunF L ops ops.toList ds (lk E) (ls S)) (lk E) p.1), S'.map (fun p => endS (arunF L ops ops.toList ds (lk E) (ls S)) (ls S) (rhoL [] p.1)))
   = (true, c (KAt P C nt L ops ds (lk E) (ls S)), E'.map (fun p => p.2.ren (rhoL [])), S'.map (fun p => some (p.2.ren (rhoL [])))) := by kernel_rfl) : AW P C nt (.region id ops draw) E S Q := AW.g Fm ds c E' S' hc h k
theorem AW.SG (Fm : Fr P L C pins) {id : Nat} {ops : Array Oper} {draw : Bool} {y : Code} (ds : List Dir) (c : (Nat → Prop) → Prop) (E' : List (Nat × AVal)) (S' : List (Nat × Obj)) (hc : c (KAt P C nt L ops ds (lk E) (ls S))) (k : AW P C nt y E' S' Q)
  (h : (chkB L pins nt ops draw ds E S [] S', arunC P C nt L ops ops.toList ds (lk E) (ls S), E'.map (fun p => endE ops.toList (arunF L ops ops.toList ds (lk E) (ls S)) (lk E) p.1), S'.map (fun p => endS (arunF L ops ops.toList ds (lk E) (ls S)) (ls S) (rhoL [] p.1)))
   = (true, c (KAt P C nt L ops ds (lk E) (ls S)), E'.map (fun p => p.2.ren (rhoL [])), S'.map (fun p => some (p.2.ren (rhoL [])))) := by kernel_rfl) : AW P C nt (.seq (.region id ops draw) y) E S Q := AW.sg Fm ds c E' S' hc h k
theorem AW.G0 (Fm : Fr P L C pins) {id : Nat} {ops : Array Oper} {draw : Bool} (n : Nat) (E' : List (Nat × AVal)) (S' : List (Nat × Obj)) (k : Kn C nt E' S' (Q .normal))
  (h : (chkB L pins nt ops draw (ss n) E S [] S', arunC P C nt L ops ops.toList (ss n) (lk E) (ls S), E'.map (fun p => endE ops.toList (arunF L ops ops.toList (ss n) (lk E) (ls S)) (lk E) p.1), S'.map (fun p => endS (arunF L ops ops.toList (ss n) (lk E) (ls S)) (ls S) (rhoL [] p.1)))
   = (true, True, E'.map (fun p => p.2.ren (rhoL [])), S'.map (fun p => some (p.2.ren (rhoL [])))) := by kernel_rfl) : AW P C nt (.region id ops draw) E S Q := AW.g0 Fm n E' S' h k
theorem AW.SG0 (Fm : Fr P L C pins) {id : Nat} {ops : Array Oper} {draw : Bool} {y : Code} (n : Nat) (E' : List (Nat × AVal)) (S' : List (Nat × Obj)) (k : AW P C nt y E' S' Q)
  (h : (chkB L pins nt ops draw (ss n) E S [] S', arunC P C nt L ops ops.toList (ss n) (lk E) (ls S), E'.map (fun p => endE ops.toList (arunF L ops ops.toList (ss n) (lk E) (ls S)) (lk E) p.1), S'.map (fun p => endS (arunF L ops ops.toList (ss n) (lk E) (ls S)) (ls S) (rhoL [] p.1)))
   = (true, True, E'.map (fun p => p.2.ren (rhoL [])), S'.map (fun p => some (p.2.ren (rhoL [])))) := by kernel_rfl) : AW P C nt (.seq (.region id ops draw) y) E S Q := AW.sg0 Fm n E' S' h k
variable {K : Act → World → Prop}
theorem Kn.R (Fm : Fr P L C pins) {E' : List (Nat × AVal)} {S' : List (Nat × Obj)} (h : Kn C nt E' S' K)
  (hq : (pins.all (fun i => rhoL [] i == i), E'.map (fun p => lk E p.1), S'.map (fun p => ls S (rhoL [] p.1)), nodupB (S'.map fun p => rhoL [] p.1)) = (true, E'.map (fun p => p.2.ren (rhoL [])), S'.map (fun p => some (p.2.ren (rhoL []))), true) := by kernel_rfl) : Kn C nt E S K := Kn.r Fm E' S' hq h
theorem Kn.RE (Fm : Fr P L C pins) (ρ : List (Nat × Nat)) {E' : List (Nat × AVal)} {S' : List (Nat × Obj)} (h : Kn C nt E' S' K) (hp : pins.all (fun i => rhoL ρ i == i) = true := by kernel_rfl) (hE : E'.map (fun p => lk E p.1) = E'.map (fun p => p.2.ren (rhoL ρ)) := by kernel_rfl)
  (hS : S'.map (fun p => ls S (rhoL ρ p.1)) = S'.map (fun p => some (p.2.ren (rhoL ρ))) := by kernel_rfl) (hinj : nodupB (S'.map fun p => rhoL ρ p.1) = true := by kernel_rfl) : Kn C nt E S K := Kn.re Fm ρ E' S' hp hE hS hinj h
theorem Kn.D (Fm : Fr P L C pins) {fn : Func} {r : AVal} {S' : List (Nat × Obj)} (hq : (resA L (lk E) (ls S) fn.results.toList, S'.map (fun p => ls S p.1)) = (some r, S'.map (fun p => some p.2)) := by kernel_rfl) : Kn C nt E S (retQ P fn C r S' .ret) := Kn.dn Fm hq
end
section
variable {P : Program} {C : Ctx} {nt : Nat} {L : Lay} {ops : Array Oper} {ds : List Dir} {e : Env} {s : Sto}
theorem KAt.CC {k : Nat} {f : Nat} {args : List AVal} {Si : List (Nat × Obj)} {r : AVal} {So : List (Nat × Obj)} (hspec : FSpec P f args Si r So) (hcall : ∀ args w, (callFunc f args).run P w = .ok (.enter f args) w) (m : List (Nat × Nat))
  (hk : dirAt ds k = cE m [] r Si So := by rfl) (hq : (Go.Ab.callB ops nt (arunE L ops ops.toList ds e s k) (opAt ops.toList k) f m r Si So, Si.map (fun p => arunS L ops ops.toList ds e s k (rhoL m p.1)),
   (Go.Ab.callXs (opAt ops.toList k)).toList.all (rdOk (tmpsOf (opAt ops.toList k) ++ guardTmp ops (opAt ops.toList k))) && args.all AVal.noSem, (Go.Ab.callXs (opAt ops.toList k)).toList.map (aev (arunE L ops ops.toList ds e s k)))
   = (true, Si.map (fun p => some (p.2.ren (rhoL m))), true, args.map (AVal.ren (rhoL m))) := by kernel_rfl) : KAt P C nt L ops ds e s k := KAt.cl hspec hcall m hk hq
end
section
variable {C : Ctx} {nt : Nat} {e : Env} {s : Sto}
theorem ArgT.p {Si : List (Nat × Obj)} {m : Nat → Nat} {rd ids : List Nat} {x : Operand} {y : AVal} (hx : rdOk rd x = true := by kernel_rfl) (hle : aev e x = y.ren m := by kernel_rfl) (hs : y.noSem = true := by kernel_rfl) : ArgT C nt e s Si m rd ids x y := ArgT.plain hx (ALe.of_eq hle) hs
end
end Go.Ab
end

section
namespace Go.Ab
open Go.Maps (Keyed)
open Go.WideElems (Fit rd rg pl rd_val elemAt)
open Go.ChangeMaps Go.MapKept
def mapD (ks : List Int) : DataW Unit := ks.foldl (fun D k => D.put (.int .i64 k) (.lit (.bool true))) (.map [])
def mapP (P : Program) (kT eT : TypeId) (ks : List Int) (w : World) (_ : Nat → Prop) (v : Value) : Prop := ∃ b, v = .map (some b) ∧ w.ownsMap P kT (plainElem P eT) b ks.length (mapD ks)
theorem mapP_stab {P : Program} {kT eT : TypeId} {ks : List Int} (v : Value) : PStab (mapP P kT eT ks) v := by
 intro w w' X X' _ hb hp
 obtain ⟨b, rfl, es, clock, h1, h2, h3, h4⟩ := hp
 exact ⟨b, rfl, es, clock, (hb b (by simp [blks])).trans h1, h2, h3, h4⟩
end Go.Ab
end

section
namespace Go.Ab
section
variable {P : Program} {C : Ctx} {nt : Nat} {L : Lay} {R : Nat → Prop} {η : Nat → Value} {e : Env} {s : Sto} {a : Act} {w : World}
theorem vi_inv {X : Nat → Prop} {v : Value} {n : Int} (h : ARep w X η C v (vi n)) : v = .int .i64 n := by
 cases h with | v _ _ hh => cases hh with | c _ _ hh => cases hh with | d _ _ hh => cases hh; rfl
theorem snd_newext (h : Conc C nt R η e s a w) {o : Oper} {d : Nat} (hd : o.dst = some d) (hdn : d < nt) (hR : ¬ R d) {p : World → (Nat → Prop) → Value → Prop} {v : Value} {w' : World}
  (hrun : (execOp a.eval o).run P w = .ok (.value v) w') (hstep : Stp (fun _ => False) w w') (hone : v.oneCell' = true) (hv : ∀ b, b ∈ blks v → w.heap.size ≤ b) (hob : ∀ X' η', ORep w' X' η' C v (.ext p)) :
  Snd P C nt R η e s a w o { v := .v (.c (.own d)), new := some (.ext p) } := by
 have hk := kept_step (C := C) (s := s) (η := η) { v := .v (.c (.own d)), new := some (.ext p) } o.dst v (fun _ => False) hstep (fun b hb => hb.elim) (fun _ _ _ _ b hb => .inl (hv b hb)) (fun k o hh => by cases hh)
 refine ⟨v, w', .inl hrun, h.step o.dst (fun x hx => by rw [hd] at hx; cases hx; exact hdn) _ _ _ (fun _ => False) hstep (fun b hb => hb.elim) ?_ (fun k o hh => by cases hh) ?_⟩
 ·intro o' dd ho' hdd
  cases ho'
  rw [hd] at hdd; cases hdd
  exact ⟨hR, rfl, by simp [Obj.refs], hob _ _, fun b hb => .inl (hv b hb)⟩
 ·intro _
  refine ⟨.v _ _ (.c _ _ (.own _ _ (by simp [SR.eta, hd]) hone)), fun j hj => ?_⟩
  simp [AVal.refs, TV.refs, CV.refs] at hj
  exact .inr ⟨by simp, by rw [hd, hj]⟩
variable {ops : Array Oper} {ds : List Dir} {k : Nat}
theorem KAt.mkMap {kT eT t : TypeId} {d : Nat} (hk : dirAt ds k = rE { v := .v (.c (.own d)), new := some (.ext (mapP P kT eT [])) }) (hop : (opAt ops.toList k).op = .makeMap t none)
  (hdo : (dstOk nt (opAt ops.toList k) && (gval ops (arunE L ops ops.toList ds e s k) (opAt ops.toList k) == some true) && (opAt ops.toList k).dst == some d) = true) : KAt P C nt L ops ds e s k := by
 unfold KAt
 rw [hk]
 simp only [Bool.and_eq_true, beq_iff_eq] at hdo
 obtain ⟨⟨h1, h2⟩, h3⟩ := hdo
 refine stT_snd h1 h2 fun R η e0 s0 a w he hss hn hcc => ?_
 refine snd_newext hcc h3 (dst_lt h1 d h3) (hn d h3 (by simp)) (v := .map (some w.heap.size)) (w' := w.alloc (.map #[] 0)) ?_ (Stp.alloc _ w _) rfl (fun b hb => by simp [blks] at hb; omega) fun X' η' => ?_
 ·simp [execOp, hop, Instr.makeMap]
 ·refine .ext _ _ ⟨_, rfl, World.ownsMap_made w P kT _⟩ (mapP_stab _) fun b hb => ?_
  simp only [blks, List.mem_singleton] at hb
  subst hb
  show w.heap.size < (w.heap.push _).size
  rw [Array.size_push]; omega
end
end Go.Ab
end

section
namespace Go.Ab
open Go.Sort Go.Proofs Go.Shelf Go.Maps
end Go.Ab
end

section
namespace Go.Ab
section
variable {P : Program} {L : Lay}
end
section
variable {P : Program} {C : Ctx} {nt : Nat} {L : Lay} {ops : Array Oper} {ds : List Dir} {e : Env} {s : Sto}
end
end Go.Ab
end

section
namespace Go.Ab
open Go.Sort Go.Proofs Go.Shelf Go.Maps
end Go.Ab
end

section
namespace Go.Ab
def sAt (s : ByteArray) (i : Int) : Int := (((s[i.toNat]?).getD 0).toNat : Nat)
def sEq (a b : ByteArray) : Bool := a.toList == b.toList
def sLt (a b : ByteArray) : Bool := Op.bytesLess a.toList b.toList
def strB (op : BinOp) (a b : ByteArray) : Option Bool :=
 match op with
 | .eql => some (sEq a b)
 | .neq => some (!sEq a b)
 | .lss => some (sLt a b)
 | .leq => some (sLt a b || sEq a b)
 | .gtr => some (!(sLt a b || sEq a b))
 | .geq => some (!sLt a b)
 | _ => none
section
variable {P : Program} {C : Ctx} {nt : Nat} {L : Lay} {ops : Array Oper} {ds : List Dir} {e : Env} {s : Sto}
theorem run_eqGuard_str (op : BinOp) (t : TypeId) (x y : Operand) (a b : ByteArray) (w : World) : (eqGuard op t x y (.string a) (.string b)).run P w = .ok () w := by
 unfold eqGuard
 split <;> rfl
theorem run_str (op : BinOp) (t : TypeId) (a b : ByteArray) {c : Bool} (h : strB op a b = some c) (w : World) : (binOp op t (.string a) (.string b)).run P w = .ok (.bool c) w := by
 cases op <;> simp only [strB, Option.some.injEq, reduceCtorEq] at h <;> subst h <;> simp [binOp, Op.stringOp, sEq, sLt]
def opsB (ops : Array Oper) (nt : Nat) (e : Env) (o : Oper) (x y : Operand) : Bool := rdOk (tmpsOf o ++ guardTmp ops o) x && rdOk (tmpsOf o ++ guardTmp ops o) y && dstOk nt o && (gval ops e o == some true)
theorem KAt.strC {k : Nat} {op : BinOp} {t t' : TypeId} {x y : Operand} {a b : ByteArray} {c : Bool} (hk : dirAt ds k = sE (vb c)) (hop : (opAt ops.toList k).op = .binOp op t x y t') (hb : opsB ops nt (arunE L ops ops.toList ds e s k) (opAt ops.toList k) x y = true)
  (hx : aev (arunE L ops ops.toList ds e s k) x = .v (.c (.d (.str a)))) (hy : aev (arunE L ops ops.toList ds e s k) y = .v (.c (.d (.str b)))) (hc : strB op a b = some c) : KAt P C nt L ops ds e s k := by
 unfold KAt
 rw [hk]
 simp only [opsB, Bool.and_eq_true, beq_iff_eq] at hb
 obtain ⟨⟨⟨b1, b2⟩, b3⟩, b4⟩ := hb
 refine stT_pure rfl b3 b4 fun R η e0 s0 a0 w hrd hcc => ?_
 have ex := (aev_ok hcc x).1
 rw [aev_agree hrd b1, hx] at ex
 have ex := str_inv ex
 have ey := (aev_ok hcc y).1
 rw [aev_agree hrd b2, hy] at ey
 have ey := str_inv ey
 exact ⟨_, by simp only [execOp, hop, Sem.run_bind, ex, ey, run_eqGuard_str, run_str op t a b hc, Result.andThen_ok, Sem.run_pure], bool_rep _ _⟩
theorem KAt.strI {k : Nat} {t : TypeId} (ht : P.underlying t = some .string) {x y : Operand} {a : ByteArray} {m : Int} (hk : dirAt ds k = sE (.v (.c (.d (.int .u8 (sAt a m)))))) (hop : (opAt ops.toList k).op = .index t x y) (hb : opsB ops nt (arunE L ops ops.toList ds e s k) (opAt ops.toList k) x y = true)
  (hx : aev (arunE L ops ops.toList ds e s k) x = .v (.c (.d (.str a)))) (hy : asI (aev (arunE L ops ops.toList ds e s k) y) = some m) (hc : 0 ≤ m ∧ m < ((a.size : Nat) : Int)) : KAt P C nt L ops ds e s k := by
 unfold KAt
 rw [hk]
 simp only [opsB, Bool.and_eq_true, beq_iff_eq] at hb
 obtain ⟨⟨⟨b1, b2⟩, b3⟩, b4⟩ := hb
 refine stT_pure rfl b3 b4 fun R η e0 s0 a0 w hrd hcc => ?_
 have ex := (aev_ok hcc x).1
 rw [aev_agree hrd b1, hx] at ex
 have ex := str_inv ex
 rw [← aev_agree hrd b2] at hy
 obtain ⟨kk, ey⟩ := asI_ok hcc hy
 have hlt : m.toNat < a.size := by omega
 have hg : a[m.toNat]? = some a[m.toNat] := by
  exact getElem?_pos a m.toNat hlt
 have hv : sAt a m = ((a[m.toNat].toNat : Nat) : Int) := by unfold sAt; rw [hg]; rfl
 rw [hv]
 refine ⟨.int .u8 (a[m.toNat].toNat : Nat), ?_, int_rep _ _ _⟩
 simp [execOp, hop, ex, ey, Instr.index, asIntOf, run_underlying ht, hc.1, hg]
end
theorem Is.subv {α : Type} [Emb α] {l : List α} {lo n : Nat} (h : lo + n ≤ l.length) : Is n (fun j => LF l (lo + j)) ((l.drop lo).take n) := by
 have hl : ((l.drop lo).take n).length = n := by rw [List.length_take, List.length_drop]; omega
 refine Is.of_gl _ hl fun i hi => ?_
 have e : gl l (lo + i) = gl ((l.drop lo).take n) i := by simp [gl, List.getD_eq_getElem?_getD, hi]
 show Emb.cells (gl l (lo + i)) = _
 rw [e]
end Go.Ab
end

section
namespace Go.Ab
open Go.MapKept
def MP {α : Type} [Emb α] (gs : List (Int × List α)) : DVal := .mp gs.length (fun i => (gs.getD i (0, [])).1) fun i => DL (gs.getD i (0, [])).2
def EntR {α : Type} [Emb α] (w : World) (X : Nat → Prop) (x : MapEntry) (e : Int × List α) : Prop := x.key = .int .i64 e.1 ∧ DRep w X x.val (DL e.2)
def itP {α : Type} [Emb α] (left : List (Int × List α)) (cur : Option (Int × List α)) (w : World) (X : Nat → Prop) (v : Value) : Prop :=
 ∃ (r b : Nat) (es : Array MapEntry) (clock since : Nat) (seen : Array Nat) (c0 : Nat), v = .pointer (some ⟨r, 0, none⟩) ∧ w.heap[r]? = some (.mapIter (some b) since seen c0) ∧ ¬ X b ∧ w.heap[b]? = some (.map es clock) ∧ Stamped es clock ∧ since ≤ c0 ∧ since ≤ clock ∧ (∀ x ∈ es.toList, x.born < since) ∧
  (leftOf es seen).size = left.length ∧ (∀ (i : Nat) (x : MapEntry) (e : Int × List α), (leftOf es seen)[i]? = some x → left[i]? = some e → EntR w X x e) ∧
  ∀ e, cur = some e → ∃ x ∈ es.toList, ∃ seen' : Array Nat, seen = seen'.push x.born ∧ c0 = clock ∧ EntR w X x e
theorem EntR.mono {α : Type} [Emb α] {w w' : World} {X X' : Nat → Prop} {x : MapEntry} {e : Int × List α} (h : EntR w X x e) (hk : Kept w w' X X') : EntR w' X' x e := ⟨h.1, h.2.mono hk⟩
theorem itP_stab {α : Type} [Emb α] {left : List (Int × List α)} {cur : Option (Int × List α)} (v : Value) : PStab (itP left cur) v := by
 intro w w' X X' hk hb h
 obtain ⟨r, b, es, clock, since, seen, c0, rfl, h1, h2, h3, h4, h5, h6, h7, h8, h9, h10⟩ := h
 have hh := hk b (lt_of_heap h3) h2
 exact ⟨r, b, es, clock, since, seen, c0, rfl, (hb r (by simp [blks])).trans h1, hh.2, hh.1.trans h3, h4, h5, h6, h7, h8, fun i x e hx he => (h9 i x e hx he).mono hk, fun e he => by
  obtain ⟨x, hx, s', g1, g2, g3⟩ := h10 e he
  exact ⟨x, hx, s', g1, g2, g3.mono hk⟩⟩
theorem itP_none {α : Type} [Emb α] (left : List (Int × List α)) (cur : Option (Int × List α)) : OLe (.ext (itP left cur)) (.ext (itP left none)) := by
 refine ⟨fun w X η C v hv => ?_, rfl, fun i hi => by cases hi⟩
 cases hv with
 | ext _ _ h1 h2 h3 =>
  obtain ⟨r, b, es, clock, since, seen, c0, e, g1, g2, g3, g4, g5, g6, g7, g8, g9, _⟩ := h1
  exact .ext _ _ ⟨r, b, es, clock, since, seen, c0, e, g1, g2, g3, g4, g5, g6, g7, g8, g9, fun e he => by cases he⟩ (itP_stab _) h3
section
variable {P : Program} {C : Ctx} {nt : Nat} {L : Lay} {R : Nat → Prop} {η : Nat → Value} {e : Env} {s : Sto} {a : Act} {w : World}
theorem snd_newext' (h : Conc C nt R η e s a w) {o : Oper} {d : Nat} (hd : o.dst = some d) (hdn : d < nt) (hR : ¬ R d) {p : World → (Nat → Prop) → Value → Prop} {v : Value} {w' : World}
  (hrun : (execOp a.eval o).run P w = .ok (.value v) w') (hstep : Stp (fun _ => False) w w') (hone : v.oneCell' = true) (hv : ∀ b, b ∈ blks v → w.heap.size ≤ b) (hob : ∀ X' η', Kept w w' (XS C s η) X' → ORep w' X' η' C v (.ext p)) :
  Snd P C nt R η e s a w o { v := .v (.c (.own d)), new := some (.ext p) } := by
 have hk := kept_step (C := C) (s := s) (η := η) { v := .v (.c (.own d)), new := some (.ext p) } o.dst v (fun _ => False) hstep (fun b hb => hb.elim) (fun _ _ _ _ b hb => .inl (hv b hb)) (fun k o hh => by cases hh)
 refine ⟨v, w', .inl hrun, h.step o.dst (fun x hx => by rw [hd] at hx; cases hx; exact hdn) _ _ _ (fun _ => False) hstep (fun b hb => hb.elim) ?_ (fun k o hh => by cases hh) ?_⟩
 ·intro o' dd ho' hdd
  cases ho'
  rw [hd] at hdd; cases hdd
  exact ⟨hR, rfl, by simp [Obj.refs], hob _ _ hk, fun b hb => .inl (hv b hb)⟩
 ·intro _
  refine ⟨.v _ _ (.c _ _ (.own _ _ (by simp [SR.eta, hd]) hone)), fun j hj => ?_⟩
  simp [AVal.refs, TV.refs, CV.refs] at hj
  exact .inr ⟨by simp, by rw [hd, hj]⟩
theorem MP_inv {α : Type} [Emb α] {X : Nat → Prop} {v : Value} {gs : List (Int × List α)} (h : ARep w X η C v (.v (.c (.d (MP gs))))) :
  ∃ (b : Nat) (es : Array MapEntry) (clock : Nat), v = .map (some b) ∧ ¬ X b ∧ w.heap[b]? = some (.map es clock) ∧ Stamped es clock ∧ es.size = gs.length ∧ ∀ (i : Nat) (x : MapEntry) (e : Int × List α), es[i]? = some x → gs[i]? = some e → EntR w X x e := by
 cases h with | v _ _ h => cases h with | c _ _ h => cases h with | d _ _ h =>
 unfold MP at h
 cases h with | mp b es clock _ _ vals _ h1 h2 h3 h4 h5 h6 =>
 refine ⟨b, es, clock, rfl, h1, h2, h3, h4, fun i x e hx he => ?_⟩
 obtain ⟨hi, hei⟩ := List.getElem?_eq_some_iff.1 he
 obtain ⟨bo, hb⟩ := h5 i hi
 have hg : gs.getD i (0, []) = e := by rw [List.getD_eq_getElem?_getD, he]; rfl
 have hr := h6 i hi
 rw [hb] at hx
 cases hx
 simp only [hg] at hr ⊢
 exact ⟨rfl, hr⟩
variable {ops : Array Oper} {ds : List Dir} {k : Nat}
theorem KAt.range {α : Type} [Emb α] {gs : List (Int × List α)} {t kT eT : TypeId} (ht : P.underlying t = some (.map kT eT)) {d : Nat} {x : Operand} (hk : dirAt ds k = rE { v := .v (.c (.own d)), new := some (.ext (itP gs none)) }) (hop : (opAt ops.toList k).op = .range t x)
  (hdo : (dstOk nt (opAt ops.toList k) && (gval ops (arunE L ops ops.toList ds e s k) (opAt ops.toList k) == some true) && (opAt ops.toList k).dst == some d) = true)
  (hx : aev (arunE L ops ops.toList ds e s k) x = .v (.c (.d (MP gs)))) : KAt P C nt L ops ds e s k := by
 unfold KAt
 rw [hk]
 simp only [Bool.and_eq_true, beq_iff_eq] at hdo
 obtain ⟨⟨h1, h2⟩, h3⟩ := hdo
 refine stT_snd h1 h2 fun R η e0 s0 a w he hss hn hcc => ?_
 have ox : x ∈ (opAt ops.toList k).op.operands.toList := by rw [hop]; simp [Op.operands]
 have ex := (aev_ok hcc x).1
 rw [he x ox, hx] at ex
 obtain ⟨b, es, clock, ev, g1, g2, g3, g4, g5⟩ := MP_inv ex
 refine snd_newext' hcc h3 (dst_lt h1 d h3) (hn d h3 (by simp)) (v := .pointer (some ⟨w.heap.size, 0, none⟩)) (w' := w.alloc (.mapIter (some b) clock #[] clock)) ?_ (Stp.alloc _ w _) rfl (fun b hb => by simp [blks] at hb; omega) fun X' η' hkk => ?_
 ·simp [execOp, hop, ev, run_range_map w t kT eT b es clock ht g2]
 ·have hbl := hkk b (lt_of_heap g2) g1
  have hleft : leftOf es #[] = es := by simp [leftOf]
  refine .ext _ _ ⟨w.heap.size, b, es, clock, clock, #[], clock, rfl, by show (w.heap.push _)[w.heap.size]? = _; exact Array.getElem?_push_size, hbl.2, hbl.1.trans g2, g3, Nat.le_refl _, Nat.le_refl _, g3.1, by rw [hleft, g4], fun i y q hy hq => ?_, fun q hq => by cases hq⟩ (itP_stab _) fun b' hb' => ?_
  ·rw [hleft] at hy
   exact (g5 i y q hy hq).mono hkk
  ·simp only [blks, List.mem_singleton] at hb'
   subst hb'
   show w.heap.size < (w.heap.push _).size
   rw [Array.size_push]; omega
theorem KAt.entry {α : Type} [Emb α] {gs : List (Int × List α)} {q : Int × List α} {id : Nat} {x : Operand} (hk : dirAt ds k = rE { v := .t [.c (.d (.int .i64 q.1)), .c (.d (DL q.2))] }) (hop : (opAt ops.toList k).op = .entry x)
  (hdo : (dstOk nt (opAt ops.toList k) && (gval ops (arunE L ops ops.toList ds e s k) (opAt ops.toList k) == some true)) = true)
  (hx : aev (arunE L ops ops.toList ds e s k) x = .v (.c (.own id))) (hs : arunS L ops ops.toList ds e s k id = some (.ext (itP gs (some q)))) : KAt P C nt L ops ds e s k := by
 unfold KAt
 rw [hk]
 simp only [Bool.and_eq_true, beq_iff_eq] at hdo
 obtain ⟨h1, h2⟩ := hdo
 refine stT_snd h1 h2 fun R η e0 s0 a w he hss hn hcc => ?_
 have ox : x ∈ (opAt ops.toList k).op.operands.toList := by rw [hop]; simp [Op.operands]
 have ex := (aev_ok hcc x).1
 rw [he x ox, hx] at ex
 have ex := own_inv ex
 have hs0 : s0 id = some (.ext (itP gs (some q))) := (hss x ox id (by rw [hx]; simp [AVal.refs, TV.refs, CV.refs])).trans hs
 have hst := hcc.st id _ hs0
 generalize hu : η id = u at hst
 cases hst with
 | ext _ _ hp _ _ =>
  obtain ⟨r, b, es, clock, since, seen, c0, rfl, g1, g2, g3, g4, g5, g6, g7, g8, g9, g10⟩ := hp
  obtain ⟨y, hy, s', rfl, rfl, hr1, hr2⟩ := g10 q rfl
  refine snd_val hcc (dst_lt h1) (v := .tuple #[y.key, y.val]) ?_ ?_ (by simp [AVal.refs, TV.refs, CV.refs])
  ·simp [execOp, hop, ex, hu, run_entry_at w r b since s' es c0 y g1 g3 hy ((stamped_iff es c0).1 g4).2.1]
  ·refine .t _ _ rfl fun j hj => ?_
   have : j = 0 ∨ j = 1 := by simp at hj; omega
   rcases this with rfl | rfl
   ·exact .c _ _ (.d _ _ (by show DRep w _ y.key _; rw [hr1]; exact .int _ _))
   ·exact .c _ _ (.d _ _ hr2)
end
theorem leftOf_push {es : Array MapEntry} {clock : Nat} (hst : Stamped es clock) {seen : Array Nat} {i : Nat} {x : MapEntry} (hx : (leftOf es seen)[i]? = some x) : (leftOf es (seen.push x.born)).toList = (leftOf es seen).toList.eraseIdx i := by
 have hnd : ((leftOf es seen).toList.map (·.born)).Nodup := by
  unfold leftOf
  rw [Array.toList_filter]
  exact (List.filter_sublist.map _).nodup hst.2.1
 have e1 : (leftOf es (seen.push x.born)).toList = (leftOf es seen).toList.filter fun y => y.born != x.born := by
  unfold leftOf
  rw [Array.toList_filter, Array.toList_filter, List.filter_filter]
  refine List.filter_congr fun y _ => ?_
  rw [Array.contains_push, Bool.not_or, bne, Bool.and_comm]
 rw [e1]
 have hx' : (leftOf es seen).toList[i]? = some x := by simpa using hx
 generalize (leftOf es seen).toList = l at hnd hx'
 clear hx e1
 induction l generalizing i with
 | nil => simp at hx'
 | cons y l ih =>
  rw [List.map_cons, List.nodup_cons] at hnd
  cases i with
  | zero =>
   simp at hx'
   subst hx'
   rw [List.eraseIdx_zero, List.filter_cons, if_neg (by simp)]
   rw [List.tail_cons]
   refine List.filter_eq_self.2 fun z hz => ?_
   simp only [bne_iff_ne, ne_eq]
   intro h
   exact hnd.1 (h ▸ List.mem_map_of_mem hz)
  | succ i =>
   simp at hx'
   rw [List.eraseIdx_cons_succ, List.filter_cons, if_pos, ih hnd.2 hx']
   simp only [bne_iff_ne, ne_eq]
   intro h
   exact hnd.1 (h ▸ List.mem_map_of_mem (List.mem_of_getElem? hx'))
noncomputable def nextM {α R : Type} (gs : List α) (stop : Option R) (go : α → List α → Option R) : Option R :=
 open Classical in
 match gs with
 | [] => stop
 | g :: l => if h : ∃ r, ∀ i (hi : i < (g :: l).length), go (g :: l)[i] ((g :: l).eraseIdx i) = some r then some h.choose else none
theorem nextM_stop {α R : Type} {gs : List α} {stop : Option R} {go : α → List α → Option R} {r : R} (h : nextM gs stop go = some r) (hg : gs = []) : stop = some r := by subst hg; exact h
theorem nextM_go {α R : Type} {gs : List α} {stop : Option R} {go : α → List α → Option R} {r : R} (h : nextM gs stop go = some r) {x : α} {l : List α} (hx : ∃ i, ∃ hi : i < gs.length, x = gs[i] ∧ l = gs.eraseIdx i) : go x l = some r := by
 obtain ⟨i, hi, rfl, rfl⟩ := hx
 cases gs with
 | nil => exact absurd hi (Nat.not_lt_zero _)
 | cons g l =>
  unfold nextM at h
  simp only at h
  split at h
  ·rename_i hh
   obtain rfl := Option.some.inj h
   exact hh.choose_spec i hi
  ·cases h
theorem nextM_nil {α R : Type} {stop : Option R} {go : α → List α → Option R} : nextM [] stop go = stop := rfl
theorem nextM_some {α R : Type} {gs : List α} {stop : Option R} {go : α → List α → Option R} {r : R} (hne : gs ≠ []) (h : ∀ i (hi : i < gs.length), go gs[i] (gs.eraseIdx i) = some r) : nextM gs stop go = some r := by
 cases gs with
 | nil => exact absurd rfl hne
 | cons g l =>
  unfold nextM
  simp only
  have hh : ∃ r, ∀ i (hi : i < (g :: l).length), go (g :: l)[i] ((g :: l).eraseIdx i) = some r := ⟨r, h⟩
  rw [dif_pos hh]
  have h1 := hh.choose_spec 0 (by simp)
  rw [h 0 (by simp)] at h1
  exact h1.symm
section
variable {P : Program} {C : Ctx} {nt : Nat} {L : Lay} {pins : List Nat} {E : List (Nat × AVal)} {S : List (Nat × Obj)} {Q : Exit → Act → World → Prop}
theorem AW.nextM {α : Type} [Emb α] {gs : List (Int × List α)} {id it t5 t6 t7 ty6 ty7 : Nat} {p6 p7 : String} {af6 af7 : Array Edge}
  (hE : lk E t5 = .v (.c (.own it))) (h6 : (E.map (·.1)).contains t6 = false) (hn : (Nat.blt t6 nt && Nat.blt t7 nt && !(t6 == t7)) = true)
  (stop : gs = [] → Kn C nt ((t7, vb false) :: E) ((it, .ext (itP gs none)) :: S) (Q .normal))
  (go : ∀ q l, (∃ i, ∃ hi : i < gs.length, q = gs[i] ∧ l = gs.eraseIdx i) → Kn C nt ((t7, vb true) :: E) ((it, .ext (itP l (some q))) :: S) (Q .normal)) :
  AW P C nt (.region id #[{ dst := some t6, op := .next (.tmp t5) false, type := ty6, pos := p6, after := af6, guard := none }, { dst := some t7, op := .extract (.tmp t6) 0, type := ty7, pos := p7, after := af7, guard := none }] false) E ((it, .ext (itP gs none)) :: S) Q := by
 simp only [Bool.and_eq_true, Nat.blt_eq, Bool.not_eq_true', beq_eq_false_iff_ne] at hn
 obtain ⟨⟨n6, n7⟩, n67⟩ := hn
 intro R η a w hc
 refine wp_region_list ?_
 have hs0 : ls ((it, .ext (itP gs none)) :: S) it = some (.ext (itP gs none)) := by rw [ls_cons, if_pos rfl]
 have e5 : a.tmps.getD t5 undef = η it := by have := hc.ev t5; rw [hE] at this; exact own_inv this
 have l6 : lk E t6 = .any := by
  unfold lk
  have : E.lookup t6 = none := by
   rw [List.lookup_eq_none_iff]
   intro p hp
   have hm : p.1 ∈ E.map (·.1) := List.mem_map_of_mem hp
   have h6' : t6 ∉ E.map (·.1) := by simpa using h6
   have hne : t6 ≠ p.1 := fun h => h6' (h ▸ hm)
   simpa using hne
  rw [this]; rfl
 have hst := hc.st it _ hs0
 have hown : ∀ b, b ∈ blks (η it) → Own (ls ((it, .ext (itP gs none)) :: S)) η b := fun b hb => ⟨it, _, hs0, hb⟩
 have how : ∀ x, x ∈ blks (η it) → C.M x ∨ C.w0.heap.size ≤ x := fun x hx => by
  rcases hc.ow it _ x hs0 hx with ⟨h1, _⟩ | h1
  ·cases h1
  ·exact h1
 generalize hu : η it = u at hst
 cases hst with
 | ext _ _ hp _ hlt =>
 obtain ⟨r, b, es, clock, since, seen, c0, rfl, g1, g2, g3, g4, g5, g6, g7, g8, g9, _⟩ := hp
 have hrb : r ≠ b := fun h => by rw [h, g3] at g1; cases g1
 have fin : ∀ (bo : Bool) (gs' : List (Int × List α)) (cur : Option (Int × List α)) (w1 : World) (us : Array Value) (R1 : Nat → Prop) (η1 : Nat → Value), us.getD 0 undef = .bool bo → us.size ≠ 0 →
   Conc C nt R1 η1 (setE (some t6) .any (lk E)) (ls ((it, .ext (itP gs' cur)) :: S)) (a.put (some t6) (.tuple us)) w1 →
   Kn C nt ((t7, vb bo) :: E) ((it, .ext (itP gs' cur)) :: S) (Q .normal) →
   wpList P #[{ dst := some t6, op := .next (.tmp t5) false, type := ty6, pos := p6, after := af6, guard := none }, { dst := some t7, op := .extract (.tmp t6) 0, type := ty7, pos := p7, after := af7, guard := none }] Q [{ dst := some t7, op := .extract (.tmp t6) 0, type := ty7, pos := p7, after := af7, guard := none }] (a.put (some t6) (.tuple us)) w1 := by
  intro bo gs' cur w1 us R1 η1 hus hsz hc1 kn
  refine wpList_plain rfl fun K hK => ?_
  have hv : (a.put (some t6) (.tuple us)).tmps.getD t6 undef = .tuple us := by rw [put_tmps a _ _ _ (by rw [hc.sz]; intro x hx; cases hx; exact n6), if_pos rfl]
  have h0 : us[0]? = some (.bool bo) := by
   have : 0 < us.size := Nat.pos_of_ne_zero hsz
   rw [Array.getD_eq_getD_getElem?, Array.getElem?_eq_getElem this] at hus
   rw [Array.getElem?_eq_getElem this]
   simpa using hus
  have hex : (execOp (a.put (some t6) (.tuple us)).eval ({ dst := some t7, op := .extract (.tmp t6) 0, type := ty7, pos := p7, after := af7, guard := none } : Oper)).run P w1 = .ok (.value (.bool bo)) w1 := by
   simp [execOp, Act.eval, hv, Instr.extract, h0]
  refine wp_value hex (hK _ _ ?_)
  have hc2 := hc1.val (some t7) (fun x hx => by cases hx; exact n7) (vb bo) (.bool bo) fun _ => ⟨bool_rep _ _, fun j hj => by cases hj⟩
  have he : SR.env { v := vb bo } (some t7) (setE (some t6) .any (lk E)) = lk ((t7, vb bo) :: E) := by
   funext t
   simp only [SR.env, setE]
   rw [lk_cons]
   by_cases h : t = t7
   ·rw [if_pos h, if_pos h]
   ·rw [if_neg h, if_neg h]
    by_cases h' : t = t6
    ·rw [if_pos h', h', l6]
    ·rw [if_neg h']
  rw [he] at hc2
  exact kn _ _ _ _ hc2
 refine wpList_plain rfl fun K hK => ?_
 have hex0 : ∀ {v : Value} {w' : World}, (Instr.next (.pointer (some ⟨r, 0, none⟩)) false ty6).run P w = .ok v w' →
   (execOp a.eval ({ dst := some t6, op := .next (.tmp t5) false, type := ty6, pos := p6, after := af6, guard := none } : Oper)).run P w = .ok (.value v) w' := fun hh => by
  simp [execOp, Act.eval, e5, hu, hh]
 rcases run_next_at (P := P) w ty6 r b since c0 seen es clock g1 g3 g7 g5 with ⟨h0, hrun⟩ | ⟨y, hy, w1, hw1, hrun⟩
 ·have hgs : gs = [] := List.eq_nil_of_length_eq_zero (by rw [← g8, h0])
  refine wp_value (hex0 hrun) (hK _ _ ?_)
  have hc1 := hc.val (some t6) (fun x hx => by cases hx; exact n6) .any (.tuple #[.bool false]) fun _ => ⟨.any _, by simp [AVal.refs]⟩
  exact fin false gs none w #[.bool false] R η rfl (by simp) hc1 (stop hgs)
 ·obtain ⟨i, hi, hyi⟩ := List.getElem_of_mem hy
  have hi' : i < (leftOf es seen).size := by simpa using hi
  have hyi' : (leftOf es seen)[i]? = some y := by rw [Array.getElem?_eq_getElem hi']; simpa using hyi
  have hig : i < gs.length := by omega
  have hER := g9 i y gs[i] hyi' (List.getElem?_eq_getElem hig)
  have hyes : y ∈ es.toList := by
   have : y ∈ (leftOf es seen).toList := hy
   unfold leftOf at this
   rw [Array.toList_filter] at this
   exact (List.mem_filter.1 this).1
  refine wp_value (hex0 hrun) (hK _ _ ?_)
  have hd1 : w1.heap = w.heap := by rcases hw1 with rfl | rfl <;> rfl
  have hg1 : w1.heap[r]? = some (.mapIter (some b) since seen c0) := by rw [hd1]; exact g1
  have hstp : Stp (fun x => x = r) w (ChangeMaps.setBlock w1 r (.mapIter (some b) since (seen.push y.born) clock)) := by
   refine ⟨?_, ?_, ?_, ?_, fun x hx hn => ?_, ?_⟩
   ·rcases hw1 with rfl | rfl <;> rfl
   ·rcases hw1 with rfl | rfl <;> rfl
   ·rcases hw1 with rfl | rfl <;> rfl
   ·simp [ChangeMaps.setBlock, hd1]
   ·exact ((heap_set hg1).2 x hn).trans (by rw [hd1])
   ·rcases hw1 with rfl | rfl
    ·exact Nat.le_refl _
    ·exact Nat.le_succ _
  have hrin : r ∈ blks (η it) := by rw [hu]; simp [blks]
  have hsr : ∀ (p : World → (Nat → Prop) → Value → Prop), SR.sto { v := .any, upd := some (it, .ext p) } (some t6) (ls ((it, .ext (itP gs none)) :: S)) = ls ((it, .ext p) :: S) := fun p => by
   funext z
   simp only [SR.sto, List.contains_nil, Bool.false_eq_true, if_false]
   rw [ls_cons, ls_cons]
   by_cases h : z = it
   ·rw [if_pos h, if_pos h]
   ·rw [if_neg h, if_neg h, if_neg h]
  have heta : SR.eta { v := .any, upd := some (it, .ext (itP (gs.eraseIdx i) (some gs[i]))) } (some t6) (.tuple #[.bool true, y.key, y.val]) η = η := by funext z; simp [SR.eta]
  have hk := kept_step (C := C) (s := ls ((it, .ext (itP gs none)) :: S)) (η := η) { v := .any, upd := some (it, .ext (itP (gs.eraseIdx i) (some gs[i]))) } (some t6) (.tuple #[.bool true, y.key, y.val]) (fun x => x = r) hstp (fun x hx => by subst hx; exact hown _ hrin) (fun _ _ hh => by cases hh)
   (fun k o hh => by cases hh; rw [hs0]; simp)
  have hc1 := hc.step (some t6) (fun x hx => by cases hx; exact n6) { v := .any, upd := some (it, .ext (itP (gs.eraseIdx i) (some gs[i]))) } (.tuple #[.bool true, y.key, y.val]) _ (fun x => x = r) hstp
   (fun x hx => by
    subst hx
    exact ⟨⟨it, .inr ⟨_, rfl⟩, by rw [hs0]; simp, hrin⟩, how _ hrin⟩)
   (fun _ _ hh => by cases hh)
   (fun k o hh => by
    cases hh
    refine ⟨⟨_, hs0, rfl⟩, rfl, by simp, by simp [Obj.refs], ?_⟩
    rw [heta] at hk ⊢
    rw [hu]
    have hbl := hk b (lt_of_heap g3) g2
    have hlp := leftOf_push g4 hyi'
    refine .ext _ _ ⟨r, b, es, clock, since, seen.push y.born, clock, rfl, (heap_set hg1).1, hbl.2, hbl.1.trans g3, g4, g6, g6, g7, ?_, fun j x q hx hq => ?_, fun q hq => ?_⟩ (itP_stab _) fun x hx => ?_
    ·have := congrArg List.length hlp
     rw [Array.length_toList, List.length_eraseIdx_of_lt (by simpa using hi), Array.length_toList] at this
     rw [this, List.length_eraseIdx_of_lt hig, g8]
    ·have hx2 : (leftOf es (seen.push y.born)).toList[j]? = some x := by simpa using hx
     rw [hlp, List.getElem?_eraseIdx] at hx2
     rw [List.getElem?_eraseIdx] at hq
     split at hx2
     ·rename_i hj
      rw [if_pos hj] at hq
      exact (g9 j x q (by simpa using hx2) hq).mono hk
     ·rename_i hj
      rw [if_neg hj] at hq
      exact (g9 (j + 1) x q (by simpa using hx2) hq).mono hk
    ·cases hq
     exact ⟨y, hyes, seen, rfl, rfl, hER.mono hk⟩
    ·simp only [blks, List.mem_singleton] at hx
     subst hx
     exact Nat.lt_of_lt_of_le (lt_of_heap g1) hstp.size)
   (fun _ => ⟨.any _, by simp [AVal.refs]⟩)
  rw [hsr, heta] at hc1
  have he : SR.env { v := .any, upd := some (it, .ext (itP (gs.eraseIdx i) (some gs[i]))) } (some t6) (lk E) = setE (some t6) .any (lk E) := rfl
  rw [he] at hc1
  exact fin true (gs.eraseIdx i) (some gs[i]) _ #[.bool true, y.key, y.val] _ _ rfl (by simp) hc1 (go gs[i] (gs.eraseIdx i) ⟨i, hig, rfl, rfl⟩)
end
end Go.Ab
end

section
namespace Go.Ab
open Go.MapKept
section
variable {α : Type} [Emb α]
def gIdx (y : Int) (gs : List (Int × List α)) : Nat := gs.findIdx fun e => e.1 == y
def gApp (y : Int) (m : List α) (gs : List (Int × List α)) : List (Int × List α) :=
 match gs[gIdx y gs]? with
 | some e => gs.set (gIdx y gs) (e.1, e.2 ++ m)
 | none => gs ++ [(y, m)]
theorem gIdx_spec {β : Type} (y : Int) (gs : List (Int × List β)) : (gIdx y gs < gs.length ∧ ∃ e, gs[gIdx y gs]? = some e ∧ e.1 = y) ∨ (gIdx y gs = gs.length ∧ ∀ e ∈ gs, e.1 ≠ y) := by
 unfold gIdx
 rcases Nat.lt_or_ge (gs.findIdx fun e => e.1 == y) gs.length with h | h
 ·left
  refine ⟨h, _, List.getElem?_eq_getElem h, ?_⟩
  have := List.findIdx_getElem (p := fun e : Int × List β => e.1 == y) (w := h)
  simpa using this
 ·right
  have hle := List.findIdx_le_length (p := fun e : Int × List β => e.1 == y) (xs := gs)
  refine ⟨by omega, fun e he => ?_⟩
  have := List.findIdx_eq_length.1 (show (gs.findIdx fun e : Int × List β => e.1 == y) = gs.length by omega) e he
  simpa using this
theorem nodup_inj {β : Type} {gs : List (Int × List β)} (hnd : (gs.map (·.1)).Nodup) {i j : Nat} {a b : Int × List β} (ha : gs[i]? = some a) (hb : gs[j]? = some b) (h : a.1 = b.1) : i = j := by
 obtain ⟨hi, ha⟩ := List.getElem?_eq_some_iff.1 ha
 obtain ⟨hj, hb⟩ := List.getElem?_eq_some_iff.1 hb
 exact (List.getElem_inj (h₀ := by simpa using hi) (h₁ := by simpa using hj) hnd).1 (by simp [ha, hb, h])
def RowP (w : World) (X : Nat → Prop) (v : Value) (l : List α) : Prop := ∀ η C, ORep w X η C v (AO l)
def gvals (b : Nat) (rs : List Value) : Array Value := (Value.map (some b) :: (rs ++ [.slice none 0 0])).toArray
structure GrpAt (gs : List (Int × List α)) (pend : Option Nat) (w : World) (X : Nat → Prop) (b : Nat) (rs : List Value) (ents : Array MapEntry) (clock : Nat) : Prop where
 heap : w.heap[b]? = some (.map ents clock)
 st : Stamped ents clock
 len : rs.length = gs.length
 nd : (gs.map (·.1)).Nodup
 rows : ∀ (i : Nat) (e : Int × List α) (v : Value), gs[i]? = some e → rs[i]? = some v → RowP w X v e.2
 apart : ∀ (i j : Nat) (u v : Value) (x : Nat), rs[i]? = some u → rs[j]? = some v → x ∈ blks u → x ∈ blks v → i = j
 off : ∀ (i : Nat) (v : Value), rs[i]? = some v → b ∉ blks v
 ents : match pend with
  | none => ents.size = gs.length ∧ ∀ (i : Nat) (e : Int × List α) (v : Value), gs[i]? = some e → rs[i]? = some v → ∃ bo, ents[i]? = some ⟨.int .i64 e.1, v, bo⟩
  | some j => j < gs.length ∧ (ents.size = gs.length ∨ (ents.size + 1 = gs.length ∧ j = ents.size)) ∧ ∀ (i : Nat) (e : Int × List α) (v : Value), i < ents.size → gs[i]? = some e → rs[i]? = some v → ∃ u bo, ents[i]? = some ⟨.int .i64 e.1, u, bo⟩ ∧ (i ≠ j → u = v)
def grpP (gs : List (Int × List α)) (pend : Option Nat) (w : World) (X : Nat → Prop) (us : List Value) (v : Value) : Prop :=
 ∃ b rs ents clock, us = [.map (some b)] ∧ v = .agg (gvals b rs) ∧ GrpAt gs pend w X b rs ents clock
theorem RowP.form {w : World} {X : Nat → Prop} {v : Value} {l : List α} (h : RowP w X v l) : ∃ ad n cap, v = .slice ad n cap ∧ blks1 v = blks v ∧ v.oneCell' = true := by
 have := h (fun _ => undef) (callCtx [] w X fun _ => undef)
 unfold AO at this
 generalize l.length = n at this
 cases this with
 | nil ad => exact ⟨_, _, _, rfl, by cases ad <;> rfl, rfl⟩
 | arr => exact ⟨_, _, _, rfl, rfl, rfl⟩
theorem RowP.mono {w w' : World} {X X' : Nat → Prop} {v : Value} {l : List α} (h : RowP w X v l) (hk : Kept w w' X X') (hb : ∀ b ∈ blks v, w'.heap[b]? = w.heap[b]?) : RowP w' X' v l :=
 fun η C => (h η C).mono hk (fun _ _ => rfl) hb
theorem RowP.lt {w : World} {X : Nat → Prop} {v : Value} {l : List α} (h : RowP w X v l) {b : Nat} (hb : b ∈ blks v) : b < w.heap.size :=
 (h (fun _ => undef) (callCtx [] w X fun _ => undef)).lt hb
theorem mem_gblks {b x : Nat} {rs : List Value} (h1 : ∀ v ∈ rs, blks1 v = blks v) : x ∈ blks (.agg (gvals b rs)) ↔ x = b ∨ ∃ v ∈ rs, x ∈ blks v := by
 show x ∈ (Value.map (some b) :: (rs ++ [.slice none 0 0])).flatMap blks1 ↔ _
 rw [List.flatMap_cons, List.mem_append, List.flatMap_append, List.mem_append, List.mem_flatMap, List.mem_flatMap]
 constructor
 ·rintro (h | ⟨v, hv, h⟩ | ⟨v, hv, h⟩)
  ·exact .inl (List.mem_singleton.1 h)
  ·exact .inr ⟨v, hv, by rw [← h1 v hv]; exact h⟩
  ·rw [List.mem_singleton.1 hv] at h; cases h
 ·rintro (h | ⟨v, hv, h⟩)
  ·exact .inl (List.mem_singleton.2 h)
  ·exact .inr (.inl ⟨v, hv, by rw [h1 v hv]; exact h⟩)
theorem GrpAt.one {gs : List (Int × List α)} {pend : Option Nat} {w : World} {X : Nat → Prop} {b : Nat} {rs : List Value} {ents : Array MapEntry} {clock : Nat} (h : GrpAt gs pend w X b rs ents clock) : ∀ v ∈ rs, blks1 v = blks v := fun v hv => by
 obtain ⟨i, hi, rfl⟩ := List.getElem_of_mem hv
 have hi' : i < gs.length := by rw [← h.len]; exact hi
 obtain ⟨_, _, _, _, h2, _⟩ := (h.rows i gs[i] rs[i] (List.getElem?_eq_getElem hi') (List.getElem?_eq_getElem hi)).form
 exact h2
theorem GrpAt.mono {gs : List (Int × List α)} {pend : Option Nat} {w w' : World} {X X' : Nat → Prop} {b : Nat} {rs : List Value} {ents : Array MapEntry} {clock : Nat} (h : GrpAt gs pend w X b rs ents clock) (hk : Kept w w' X X')
  (hb : ∀ x ∈ blks (.agg (gvals b rs)), w'.heap[x]? = w.heap[x]?) : GrpAt gs pend w' X' b rs ents clock :=
 ⟨(hb b ((mem_gblks h.one).2 (.inl rfl))).trans h.heap, h.st, h.len, h.nd, fun i e v he hv => (h.rows i e v he hv).mono hk fun x hx => hb x ((mem_gblks h.one).2 (.inr ⟨v, List.mem_of_getElem? hv, hx⟩)), h.apart, h.off, h.ents⟩
theorem grpP_stab {gs : List (Int × List α)} {pend : Option Nat} {us : List Value} (v : Value) : PStab (fun w X v => grpP gs pend w X us v) v := by
 intro w w' X X' hk hb h
 obtain ⟨b, rs, ents, clock, h1, rfl, h2⟩ := h
 exact ⟨b, rs, ents, clock, h1, rfl, h2.mono hk hb⟩
theorem GrpAt.lt {gs : List (Int × List α)} {pend : Option Nat} {w : World} {X : Nat → Prop} {b : Nat} {rs : List Value} {ents : Array MapEntry} {clock : Nat} (h : GrpAt gs pend w X b rs ents clock) {x : Nat} (hx : x ∈ blks (.agg (gvals b rs))) : x < w.heap.size := by
 rcases (mem_gblks h.one).1 hx with rfl | ⟨v, hv, hx⟩
 ·exact lt_of_heap h.heap
 ·obtain ⟨i, hi, rfl⟩ := List.getElem_of_mem hv
  have hi' : i < gs.length := by rw [← h.len]; exact hi
  exact (h.rows i gs[i] rs[i] (List.getElem?_eq_getElem hi') (List.getElem?_eq_getElem hi)).lt hx
end
def effX (extra : List Nat) (ops : Array Oper) (o : Oper) (e : Env) (r : SR) : Eff := { rd := tmpsOf o ++ guardTmp ops o, ids := idsOf e o ++ extra, v := r.v, l := r.l o.dst, news := r.nw o.dst }
def xE (extra : List Nat) (r : SR) : Array Oper → Oper → Env → Eff := fun ops o e => effX extra ops o e r
section
variable {P : Program} {C : Ctx} {nt : Nat} {L : Lay} {ops : Array Oper} {ds : List Dir} {e : Env} {s : Sto}
def SndG (P : Program) (C : Ctx) (nt : Nat) (R : Nat → Prop) (η : Nat → Value) (e : Env) (s : Sto) (a : Act) (w : World) (o : Oper) (r : SR) : Prop :=
 ∃ v u w', ((execOp a.eval o).run P w = .ok (.value v) w' ∨ ((execOp a.eval o).run P w = .ok .skip w' ∧ v = undef)) ∧
  Conc C nt (r.rng o.dst R) (r.eta o.dst u η) (r.env o.dst e) (r.sto o.dst s) (a.put o.dst v) w'
theorem Snd.g {R : Nat → Prop} {η : Nat → Value} {a : Act} {w : World} {o : Oper} {r : SR} (h : Snd P C nt R η e s a w o r) : SndG P C nt R η e s a w o r := by
 obtain ⟨v, w', h1, h2⟩ := h
 exact ⟨v, v, w', h1, h2⟩
theorem stT_sndX (extra : List Nat) {o : Oper} (hdo : dstOk nt o = true) {r : SR} (hg : gval ops e o = some true)
  (hsnd : ∀ (R : Nat → Prop) (η : Nat → Value) (e0 : Env) (s0 : Sto) (a : Act) (w : World), (∀ x ∈ o.op.operands.toList, aev e0 x = aev e x) → (∀ x ∈ o.op.operands.toList, ∀ i ∈ (aev e x).refs, s0 i = s i) → (∀ i ∈ extra, s0 i = s i) → (∀ d, o.dst = some d → r.new ≠ none → ¬ R d) →
   Conc C nt R η e0 s0 a w → SndG P C nt R η e0 s0 a w o r) : StT P C nt ops o (effX extra ops o e r) e s := by
 intro R η e0 s0 a w hrd hids hfr hconc K Q hK
 have hx : ∀ x ∈ o.op.operands.toList, aev e0 x = aev e x := by
  intro x hx
  cases x with
  | tmp t => exact hrd t (List.mem_append.2 (.inl (List.mem_filterMap.2 ⟨_, hx, rfl⟩)))
  | const v => rfl
  | global g => rfl
  | func f => rfl
 have hsx : ∀ x ∈ o.op.operands.toList, ∀ i ∈ (aev e x).refs, s0 i = s i := fun x hx i hi => hids i (List.mem_append_left _ (List.mem_flatMap.2 ⟨x, hx, hi⟩))
 have hw := wanted_of (e := e) hconc (fun t ht => hrd t (List.mem_append.2 (.inr ht))) hg
 rw [if_pos hw]
 have h1 := hsnd R η e0 s0 a w hx hsx (fun i hi => hids i (List.mem_append_right _ hi)) (fun d hd hn => hfr d (by
  obtain ⟨ob, hob⟩ := Option.ne_none_iff_exists'.1 hn
  simp [effX, SR.nw, hob, hd])) hconc
 have fin : ∀ η' a' w', Conc C nt (r.rng o.dst R) η' (r.env o.dst e0) (r.sto o.dst s0) a' w' → K a' w' := fun η' a' w' hc' => by
  refine hK η' a' w' ?_
  have hc2 := hc'.wider (sr_rng r o.dst R)
  have hsto : upS (effX extra ops o e r).l s0 = r.sto o.dst s0 := sr_sto r o.dst s0
  rw [hsto]
  have henv : setE o.dst (effX extra ops o e r).v e0 = r.env o.dst e0 := rfl
  rw [henv]
  exact hc2
 obtain ⟨v, u, w', hr | ⟨hr, rfl⟩, hc⟩ := h1
 ·exact wp_value hr (fin _ _ _ hc)
 ·exact wp_skip' hr (fin _ _ _ hc)
end
section
variable {P : Program} {C : Ctx} {nt : Nat} {L : Lay} {R : Nat → Prop} {η : Nat → Value} {e : Env} {s : Sto} {a : Act} {w : World}
variable {α : Type} [Emb α]
theorem grp_inv (h : Conc C nt R η e s a w) {g base : Nat} {gs : List (Int × List α)} {pend : Option Nat} (hs : s g = some (.exr [base] (grpP gs pend))) :
  ∃ b rs ents clock, η base = .map (some b) ∧ η g = .agg (gvals b rs) ∧ GrpAt gs pend w (XS C s η) b rs ents clock := by
 have hst := h.st g _ hs
 generalize hu : η g = u at hst
 cases hst with
 | exr _ _ _ hp _ _ =>
  obtain ⟨b, rs, ents, clock, h1, h2, h3⟩ := hp
  exact ⟨b, rs, ents, clock, by simpa using h1, h2, h3⟩
theorem row_append (hL : LOk P L) (h : Conc C nt R η e s a w) {o : Oper} {d : Nat} (hd : o.dst = some d) (hdn : d < nt) {t : TypeId} {tx ty : Nat} (hne : tx ≠ ty)
  (hop : o.op = .call { callee := .builtin .append, args := #[.tmp tx, .tmp ty], argTypes := #[t, t] }) {ti : TI} (ht : L t = some ti) {el : Nat} (hk : ti.kind = .slice el) {te : TI} (hte : L el = some te) (hes : te.size = Emb.es α)
  {l m : List α} (hx : RowP w (XS C s η) (a.tmps.getD tx undef) l) (hX : ∀ b ∈ blks (a.tmps.getD tx undef), XS C s η b) (hy : e ty = AL m)
  (hby : te.bytes ≤ 8192) (hzl : te.zero.length = te.size) (hlim : l.length + m.length ≤ LIM) :
  ∃ v w', (execOp a.eval o).run P w = .ok (.value v) w' ∧ Stp (fun b => b ∈ blks (a.tmps.getD tx undef)) w w' ∧ (∀ b ∈ blks v, b ∈ blks (a.tmps.getD tx undef) ∨ w.heap.size ≤ b) ∧
   ∀ X', (∀ b, b < w'.heap.size → X' b → (XS C s η b ∧ b ∉ blks (a.tmps.getD tx undef)) ∨ b ∈ blks v) → RowP w' X' v (l ++ m) := by
 generalize hv1 : a.tmps.getD tx undef = v1 at *
 have hXlt : ∀ b, XS C s η b → b < w.heap.size := by
  rintro b (⟨hx, _⟩ | hx)
  ·exact Nat.lt_of_lt_of_le (h.ok.lt b hx) h.fr.size
  ·exact h.lt hx
 let C0 : Ctx := { w0 := w, D := fun b => b ∈ blks v1, M := fun b => b ∈ blks v1, X := XS C s η, pin := fun _ => none }
 let η0 : Nat → Value := fun _ => v1
 let s0 : Sto := fun i => if i = nt then some (AO l) else none
 let e0 : Env := fun t => if t = tx then .v (.c (.own nt)) else if t = ty then AL m else .any
 have hXS : XS C0 s0 η0 = XS C s η := by
  funext b
  apply propext
  constructor
  ·rintro (⟨h1, _⟩ | ⟨i, o', hi, hb⟩)
   ·exact h1
   ·exact hX b hb
  ·intro hb
   rcases Classical.em (b ∈ blks v1) with hm | hm
   ·exact .inr ⟨nt, AO l, by simp [s0], hm⟩
   ·exact .inl ⟨hb, hm⟩
 have hs0 : ∀ i o', s0 i = some o' → i = nt ∧ o' = AO l := fun i o' hi => by
  simp only [s0] at hi
  split at hi
  ·cases hi; exact ⟨by assumption, rfl⟩
  ·cases hi
 have hc0 : Conc C0 nt (fun i => i = nt) η0 e0 s0 a w := by
  refine ⟨⟨fun b hb => hb, fun b hb => hX b hb, hXlt⟩, h.df, h.sz, fun t => ?_, fun t i hi => ?_, fun i o' hi => ?_, fun i o' hi => ?_, fun i j b hi hj _ _ => ?_, fun i o' b hi hb => ?_, Stp.refl _ _, fun i v hi => by cases hi⟩
  ·rw [hXS]
   simp only [e0]
   split
   ·rename_i ht; subst ht
    rw [hv1]
    exact .v _ _ (.c _ _ (.own _ _ rfl hx.form.choose_spec.choose_spec.choose_spec.2.2))
   ·split
    ·rename_i _ ht; subst ht
     have := h.ev t
     rw [hy] at this
     unfold AL at this ⊢
     generalize a.tmps.getD t undef = q at this ⊢
     cases this with | v _ _ hh => cases hh with | c _ _ hh => cases hh with | d _ _ hh => exact .v _ _ (.c _ _ (.d _ _ hh))
    ·exact .any _
  ·simp only [e0] at hi
   split at hi
   ·simpa [AVal.refs, TV.refs, CV.refs] using hi
   ·split at hi
    ·simp [AL, AVal.refs, TV.refs, CV.refs] at hi
    ·simp [AVal.refs] at hi
  ·obtain ⟨_, rfl⟩ := hs0 i o' hi
   rw [hXS]; exact hx _ _
  ·obtain ⟨rfl, rfl⟩ := hs0 i o' hi
   exact ⟨rfl, fun j hj => by simp [AO, Obj.refs] at hj⟩
  ·obtain ⟨oi, hi⟩ := Option.ne_none_iff_exists'.1 hi
   obtain ⟨oj, hj⟩ := Option.ne_none_iff_exists'.1 hj
   rw [(hs0 i oi hi).1, (hs0 j oj hj).1]
  ·exact .inr (.inl hb)
 have hR : ¬ (fun i => i = nt) d := by show ¬ d = nt; omega
 obtain ⟨v, w', hr, hc1⟩ := snd_append (c := True) hL hc0 hd hdn hR hop ht hk hte (k := m.length) (g := LF m) (by simp [aev, e0, Ne.symm hne, AL, DL, asL])
  (del := [nt]) (n := l.length) (f := LF l) (c0 := True) (by simp [aev, e0, asApp, s0, AO, hes]) trivial hby hzl hlim (fun j hj => by rw [hes]; exact Emb.len _)
 have hsto : (SR.sto { v := .v (.c (.own d)), del := [nt], new := some (.arr te.size (l.length + m.length) (appF l.length (LF l) (LF m))), cond := True } o.dst s0) = fun i => if i = d then some (.arr te.size (l.length + m.length) (appF l.length (LF l) (LF m))) else none := by
  funext i
  simp only [SR.sto, hd]
  by_cases hi : i = d
  ·rw [if_pos hi, if_pos hi]
  ·rw [if_neg hi, if_neg hi]
   by_cases hn : i = nt
   ·simp [hn]
   ·simp [hn, s0]
 rw [hsto] at hc1
 have hsd : (fun i => if i = d then some (Obj.arr te.size (l.length + m.length) (appF l.length (LF l) (LF m))) else none) d = some (.arr te.size (l.length + m.length) (appF l.length (LF l) (LF m))) := by simp
 have hst := hc1.st d _ hsd
 have heta : SR.eta { v := .v (.c (.own d)), del := [nt], new := some (.arr te.size (l.length + m.length) (appF l.length (LF l) (LF m))), cond := True } o.dst v η0 d = v := by simp [SR.eta, hd]
 have how : ∀ b, b ∈ blks v → b ∈ blks v1 ∨ w.heap.size ≤ b := fun b hb => by
  rcases hc1.ow d _ b hsd (by rw [heta]; exact hb) with ⟨h1, _⟩ | h1 | h1
  ·cases h1
  ·exact .inl h1
  ·exact .inr h1
 rw [heta] at hst
 have hval : (execOp a.eval o).run P w = .ok (.value v) w' := by
  rcases hr with hr | ⟨_, rfl⟩
  ·exact hr
  ·have hu : (undef : Value) = .tuple #[] := rfl
   rw [hu] at hst
   cases hst
 refine ⟨v, w', hval, hc1.fr, how, fun X' hX' => fun η2 C2 => ?_⟩
 ·have hle : OLe (.arr te.size (l.length + m.length) (appF l.length (LF l) (LF m))) (AO (l ++ m)) := by rw [hes]; exact OLe.is (Is.app (Is.refl l) (Is.refl m))
  have h2 := hle.1 _ _ _ _ _ hst
  have h3 : ORep w' (XS C0 (fun i => if i = d then some (Obj.arr te.size (l.length + m.length) (appF l.length (LF l) (LF m))) else none) (SR.eta { v := .v (.c (.own d)), del := [nt], new := some (.arr te.size (l.length + m.length) (appF l.length (LF l) (LF m))), cond := True } o.dst v η0)) η2 C2 v (AO (l ++ m)) := by
   unfold AO at h2 ⊢
   generalize (l ++ m).length = nn at h2 ⊢
   cases h2 with
   | nil ad => exact .nil ad _ _
   | arr b' _ cap' _ c' e' _ q1 q2 q3 q4 q5 q6 q7 => exact .arr b' _ cap' _ c' e' _ q1 q2 q3 q4 q5 q6 q7
  refine h3.mono (fun b hb hnX => ⟨rfl, fun hx' => hnX ?_⟩) (fun _ _ => rfl) fun _ _ => rfl
  rcases hX' b hb hx' with ⟨h4, h5⟩ | h4
  ·exact .inl ⟨h4, h5⟩
  ·exact .inr ⟨d, _, hsd, by rw [heta]; exact h4⟩
theorem gvals_at (b : Nat) (rs : List Value) (i : Nat) : (gvals b rs)[1 + i]? = (rs ++ [.slice none 0 0])[i]? := by
 simp [gvals, Nat.add_comm 1 i]
theorem GrpAt.find {gs : List (Int × List α)} {X : Nat → Prop} {b : Nat} {rs : List Value} {ents : Array MapEntry} {clock : Nat} (h : GrpAt gs none w X b rs ents clock) (y : Int) :
  (Instr.findNow (.int .i64) (.int .i64 y) ents.toList 0 = some none ∧ gIdx y gs = gs.length) ∨
  ∃ x : MapEntry, Instr.findNow (.int .i64) (.int .i64 y) ents.toList 0 = some (some (gIdx y gs, x.val)) ∧ rs[gIdx y gs]? = some x.val ∧ gIdx y gs < gs.length := by
 obtain ⟨hsz, hent⟩ := h.ents
 have hat : ∀ (j : Nat) (x : MapEntry), ents[j]? = some x → ∃ e v, gs[j]? = some e ∧ rs[j]? = some v ∧ x.key = .int .i64 e.1 ∧ x.val = v := fun j x hx => by
  have hj : j < ents.size := (Array.getElem?_eq_some_iff.1 hx).1
  have hg : j < gs.length := by omega
  have hr : j < rs.length := by rw [h.len]; exact hg
  obtain ⟨bo, hb⟩ := hent j gs[j] rs[j] (List.getElem?_eq_getElem hg) (List.getElem?_eq_getElem hr)
  rw [hx] at hb
  cases hb
  exact ⟨gs[j], rs[j], List.getElem?_eq_getElem hg, List.getElem?_eq_getElem hr, rfl, rfl⟩
 have hks : ∀ x ∈ ents.toList, IsKey (.int .i64) x.key := fun x hx => by
  obtain ⟨j, hj, rfl⟩ := List.getElem_of_mem hx
  obtain ⟨e, v, _, _, hk, _⟩ := hat j _ (by simp at hj ⊢; exact Array.getElem?_eq_getElem hj)
  simp only [Array.getElem_toList] at hk ⊢
  rw [hk]; rfl
 rcases findNow_spec (d := .int .i64) (k := .int .i64 y) rfl ents.toList 0 hks with ⟨h1, h2⟩ | ⟨j, x, h1, h2, h3⟩
 ·left
  refine ⟨h1, ?_⟩
  rcases gIdx_spec y gs with ⟨hlt, e, he, hey⟩ | ⟨hl, _⟩
  ·exfalso
   have hr : gIdx y gs < rs.length := by rw [h.len]; exact hlt
   obtain ⟨bo, hb⟩ := hent _ e _ he (List.getElem?_eq_getElem hr)
   exact h2 _ (by have := Array.mem_of_getElem? hb; simpa using this) (by rw [hey])
  ·exact hl
 ·right
  obtain ⟨e, v, he, hv, hk, hxv⟩ := hat j x (by simpa using h2)
  rw [h3] at hk
  have hey : e.1 = y := by cases hk; rfl
  have hji : gIdx y gs = j := by
   rcases gIdx_spec y gs with ⟨hlt, e', he', hey'⟩ | ⟨_, hno⟩
   ·exact nodup_inj h.nd he' he (by rw [hey, hey'])
   ·exact absurd hey (hno e (List.mem_of_getElem? he))
  rw [Nat.zero_add] at h1
  rw [hji]
  exact ⟨x, h1, by rw [hxv]; exact hv, (List.getElem?_eq_some_iff.1 he).1⟩
variable {ops : Array Oper} {ds : List Dir} {k : Nat}
def gOk (ops : Array Oper) (nt : Nat) (e : Env) (o : Oper) : Bool := dstOk nt o && (gval ops e o == some true)
theorem KAt.gLook {gs : List (Int × List α)} {base g : Nat} {t kT eT : TypeId} {m x : Operand} {y : Int} (ht : P.underlying t = some (.map kT eT)) (hkT : P.underlying kT = some (.int .i64)) (hz : ∀ w, (zeroValue eT).run P w = .ok (.slice none 0 0) w)
  (hk : dirAt ds k = xE [g] { v := .v (.c (.cp g (1 + gIdx y gs))) }) (hop : (opAt ops.toList k).op = .lookup t m x false) (hdo : gOk ops nt (arunE L ops ops.toList ds e s k) (opAt ops.toList k) = true)
  (hm : aev (arunE L ops ops.toList ds e s k) m = .v (.c (.own base))) (hx : aev (arunE L ops ops.toList ds e s k) x = vi y) (hs : arunS L ops ops.toList ds e s k g = some (.exr [base] (grpP gs none))) : KAt P C nt L ops ds e s k := by
 unfold KAt
 rw [hk]
 simp only [gOk, Bool.and_eq_true, beq_iff_eq] at hdo
 obtain ⟨h1, h2⟩ := hdo
 refine stT_sndX [g] h1 h2 fun R η e0 s0 a w he hss hex hn hcc => Snd.g ?_
 have om : m ∈ (opAt ops.toList k).op.operands.toList := by rw [hop]; simp [Op.operands]
 have ox : x ∈ (opAt ops.toList k).op.operands.toList := by rw [hop]; simp [Op.operands]
 have em := (aev_ok hcc m).1
 rw [he m om, hm] at em
 have em := own_inv em
 have ex := (aev_ok hcc x).1
 rw [he x ox, hx] at ex
 have ex := vi_inv ex
 have hsg : s0 g = some (.exr [base] (grpP gs none)) := (hex g (by simp)).trans hs
 obtain ⟨b, rs, ents, clock, hb, hg, hG⟩ := grp_inv hcc hsg
 rw [hb] at em
 have hrun : ∀ v, (v = .slice none 0 0 ∧ gIdx y gs = gs.length ∧ Instr.findNow (.int .i64) (.int .i64 y) ents.toList 0 = some none) ∨ (rs[gIdx y gs]? = some v ∧ Instr.findNow (.int .i64) (.int .i64 y) ents.toList 0 = some (some (gIdx y gs, v))) →
   (execOp a.eval (opAt ops.toList k)).run P w = .ok (.value v) w := by
  rintro v (⟨rfl, _, hf⟩ | ⟨_, hf⟩)
  ·simp [execOp, hop, em, ex, Instr.lookup, run_underlying ht, MapKept.run_getObj_map hG.heap, MapKept.run_checkKey hkT (k := .int .i64 y) (d := .int .i64) rfl, MapKept.run_findKey hkT hf, hz]
  ·simp [execOp, hop, em, ex, Instr.lookup, run_underlying ht, MapKept.run_getObj_map hG.heap, MapKept.run_checkKey hkT (k := .int .i64 y) (d := .int .i64) rfl, MapKept.run_findKey hkT hf]
 have hR : ∀ j ∈ (AVal.v (.c (.cp g (1 + gIdx y gs)))).refs, R j := fun j hj => by
  simp [AVal.refs, TV.refs, CV.refs] at hj
  subst hj
  exact (hcc.sr _ _ hsg).1
 rcases hG.find y with ⟨hf, hl⟩ | ⟨q, hf, hq, hlt⟩
 ·refine snd_val hcc (dst_lt h1) (hrun _ (.inl ⟨rfl, hl, hf⟩)) (.v _ _ (.c _ _ (.cp _ _ _ _ hg ?_ rfl))) hR
  rw [gvals_at, hl, ← hG.len]; simp
 ·obtain ⟨e', he'⟩ : ∃ e', gs[gIdx y gs]? = some e' := ⟨_, List.getElem?_eq_getElem hlt⟩
  refine snd_val hcc (dst_lt h1) (hrun _ (.inr ⟨hq, hf⟩)) (.v _ _ (.c _ _ (.cp _ _ _ _ hg ?_ ((hG.rows _ _ _ he' hq).form.choose_spec.choose_spec.choose_spec.2.2)))) hR
  rw [gvals_at, List.getElem?_append_left (by rw [hG.len]; exact hlt)]
  exact hq
end
end Go.Ab
end

section
namespace Go.Ab
open Go.MapKept
section
variable {P : Program} {C : Ctx} {nt : Nat} {L : Lay} {R : Nat → Prop} {η : Nat → Value} {e : Env} {s : Sto} {a : Act} {w : World}
variable {α : Type} [Emb α] {ops : Array Oper} {ds : List Dir} {k : Nat}
def gRow (y : Int) (gs : List (Int × List α)) : List α := match gs[gIdx y gs]? with | some e => e.2 | none => []
theorem gApp_found {β : Type} {y : Int} {m : List β} {gs : List (Int × List β)} {q : Int × List β} (h : gs[gIdx y gs]? = some q) : gApp y m gs = gs.set (gIdx y gs) (q.1, q.2 ++ m) := by unfold gApp; rw [h]
theorem gApp_new {β : Type} {y : Int} {m : List β} {gs : List (Int × List β)} (h : gIdx y gs = gs.length) : gApp y m gs = gs ++ [(y, m)] := by
 unfold gApp
 rw [h, List.getElem?_eq_none (Nat.le_refl _)]
def putR {β : Type} (l : List β) (i : Nat) (x : β) : List β := if i < l.length then l.set i x else l ++ [x]
theorem putR_len {β : Type} {l : List β} {i : Nat} {x : β} (h : i ≤ l.length) : (putR l i x).length = if i < l.length then l.length else l.length + 1 := by
 unfold putR; split <;> simp
theorem putR_at {β : Type} {l : List β} {i : Nat} {x : β} (h : i ≤ l.length) (j : Nat) : (putR l i x)[j]? = if j = i then some x else l[j]? := by
 unfold putR
 split
 ·rename_i hi
  rw [List.getElem?_set]
  by_cases hj : i = j
  ·subst hj; rw [if_pos rfl, if_pos rfl, if_pos hi]
  ·rw [if_neg hj, if_neg (fun h => hj h.symm)]
 ·have hi : i = l.length := by omega
  subst hi
  by_cases hj : j = l.length
  ·subst hj; rw [if_pos rfl]; simp
  ·rw [if_neg hj]
   rcases Nat.lt_or_ge j l.length with h1 | h1
   ·rw [List.getElem?_append_left h1]
   ·rw [List.getElem?_append_right h1, List.getElem?_eq_none (by omega : l.length ≤ j)]
    have : j - l.length = (j - l.length - 1) + 1 := by omega
    rw [this]; rfl
theorem gApp_put {β : Type} {y : Int} {m : List β} {gs : List (Int × List β)} : ∃ q, q.1 = y ∧ q.2 = gRow y gs ++ m ∧ gApp y m gs = putR gs (gIdx y gs) q ∧ gIdx y gs ≤ gs.length := by
 rcases gIdx_spec y gs with ⟨hlt, q, hq, hy⟩ | ⟨hl, _⟩
 ·refine ⟨(q.1, q.2 ++ m), hy, by unfold gRow; rw [hq], ?_, by omega⟩
  rw [gApp_found hq]; unfold putR; rw [if_pos hlt]
 ·refine ⟨(y, m), rfl, ?_, ?_, by omega⟩
  ·unfold gRow; rw [hl, List.getElem?_eq_none (Nat.le_refl _)]; simp
  ·rw [gApp_new hl]; unfold putR; rw [hl, if_neg (Nat.lt_irrefl _)]
theorem gApp_at {β : Type} {y : Int} {m : List β} {gs : List (Int × List β)} : ∃ q, (gApp y m gs)[gIdx y gs]? = some q ∧ q.1 = y := by
 obtain ⟨q, h1, _, h2, h3⟩ := gApp_put (y := y) (m := m) (gs := gs)
 refine ⟨q, ?_, h1⟩
 rw [h2]
 unfold putR
 split
 ·rename_i h; rw [List.getElem?_set_self h]
 ·have : gIdx y gs = gs.length := by omega
  rw [this, List.getElem?_append_right (Nat.le_refl _), Nat.sub_self]; rfl
theorem gApp_keys {β : Type} {y : Int} {m : List β} {gs : List (Int × List β)} (hnd : (gs.map (·.1)).Nodup) : ((gApp y m gs).map (·.1)).Nodup := by
 rcases gIdx_spec y gs with ⟨hlt, q, hq, hy⟩ | ⟨hl, hno⟩
 ·rw [gApp_found hq, List.map_set]
  have : (gs.map (·.1)).set (gIdx y gs) q.1 = gs.map (·.1) := by
   apply List.ext_getElem?
   intro j
   rw [List.getElem?_set]
   split
   ·rename_i hj; subst hj
    rw [if_pos (by simpa using hlt), List.getElem?_map, hq]; rfl
   ·rfl
  rw [this]; exact hnd
 ·rw [gApp_new hl, List.map_append]
  refine List.nodup_append.2 ⟨hnd, by simp, ?_⟩
  intro x hx z hz
  obtain ⟨q, hq, rfl⟩ := List.mem_map.1 hx
  simp at hz
  subst hz
  exact hno q hq
theorem KAt.gApp (hL : LOk P L) {gs : List (Int × List α)} {m : List α} {base g d : Nat} {y : Int} {t tx ty : Nat} {te : TI} (hT : slT L t te) (hes : te.size = Emb.es α)
  (hk : dirAt ds k = xE [g] { v := .v (.c (.cp d (1 + gIdx y gs))), del := [g], new := some (.exr [base] (grpP (Go.Ab.gApp y m gs) (some (gIdx y gs)))) })
  (hop : (opAt ops.toList k).op = .call { callee := .builtin .append, args := #[.tmp tx, .tmp ty], argTypes := #[t, t] }) (hdo : (gOk ops nt (arunE L ops ops.toList ds e s k) (opAt ops.toList k) && (opAt ops.toList k).dst == some d && !(tx == ty)) = true)
  (hx : arunE L ops ops.toList ds e s k tx = .v (.c (.cp g (1 + gIdx y gs)))) (hy : arunE L ops ops.toList ds e s k ty = AL m) (hs : arunS L ops ops.toList ds e s k g = some (.exr [base] (grpP gs none)))
  (hby : te.bytes ≤ 8192) (hzl : te.zero.length = te.size) (hlim : (gRow y gs).length + m.length ≤ LIM) : KAt P C nt L ops ds e s k := by
 obtain ⟨ti, el, ht, hkk, hte⟩ := hT
 unfold KAt
 rw [hk]
 simp only [gOk, Bool.and_eq_true, beq_iff_eq, Bool.not_eq_true', beq_eq_false_iff_ne] at hdo
 obtain ⟨⟨⟨h1, h2⟩, h3⟩, h4⟩ := hdo
 refine stT_sndX [g] h1 h2 fun R η e0 s0 a w he hss hex hn hcc => ?_
 have ox : Operand.tmp tx ∈ (opAt ops.toList k).op.operands.toList := by rw [hop]; simp [Op.operands, Call.operands]
 have oy : Operand.tmp ty ∈ (opAt ops.toList k).op.operands.toList := by rw [hop]; simp [Op.operands, Call.operands]
 have ex : e0 tx = .v (.c (.cp g (1 + gIdx y gs))) := (he _ ox).trans hx
 have ey : e0 ty = AL m := (he _ oy).trans hy
 have hsg : s0 g = some (.exr [base] (grpP gs none)) := (hex g (by simp)).trans hs
 have hdn := dst_lt h1 d h3
 have hRd : ¬ R d := hn d h3 (by simp)
 obtain ⟨b, rs, ents, clock, hb, hg, hG⟩ := grp_inv hcc hsg
 have hgd : g ≠ d := fun h => hRd (h ▸ (hcc.sr _ _ hsg).1)
 have hv1 := hcc.ev tx
 rw [ex] at hv1
 generalize hv1e : a.tmps.getD tx undef = v1 at hv1
 have hat : (rs ++ [.slice none 0 0])[gIdx y gs]? = some v1 := by
  cases hv1 with | v _ _ hh => cases hh with | c _ _ hh => cases hh with | cp _ _ _ vs q1 q2 _ =>
  rw [hg] at q1
  cases q1
  rwa [gvals_at] at q2
 obtain ⟨q, hq1, hq2, hq3, hile⟩ := gApp_put (y := y) (m := m) (gs := gs)
 have hile' : gIdx y gs ≤ rs.length := by rw [hG.len]; exact hile
 have hown : ∀ x, x ∈ blks (.agg (gvals b rs)) → Own s0 η x := fun x hx => ⟨g, _, hsg, by rw [hg]; exact hx⟩
 have hrow : RowP w (XS C s0 η) v1 (gRow y gs) ∧ (∀ x ∈ blks v1, x ∈ blks (.agg (gvals b rs))) ∧ b ∉ blks v1 ∧ ∀ j u, j ≠ gIdx y gs → rs[j]? = some u → ∀ x ∈ blks u, x ∉ blks v1 := by
  rcases gIdx_spec y gs with ⟨hlt, q', hq', hy'⟩ | ⟨hl, _⟩
  ·have hv : rs[gIdx y gs]? = some v1 := by rwa [List.getElem?_append_left (by rw [hG.len]; exact hlt)] at hat
   refine ⟨?_, fun x hx => (mem_gblks hG.one).2 (.inr ⟨v1, List.mem_of_getElem? hv, hx⟩), hG.off _ _ hv, fun j u hj hu x hx hx' => hj (hG.apart _ _ _ _ x hu hv hx hx')⟩
   unfold gRow; rw [hq']
   exact hG.rows _ _ _ hq' hv
  ·have hv : v1 = .slice none 0 0 := by
    rw [hl, ← hG.len, List.getElem?_append_right (Nat.le_refl _), Nat.sub_self] at hat
    simpa using hat.symm
   subst hv
   refine ⟨?_, fun x hx => by simp [blks] at hx, by simp [blks], fun j u _ _ x _ hx => by simp [blks] at hx⟩
   unfold gRow; rw [hl, List.getElem?_eq_none (Nat.le_refl _)]
   exact fun η C => .nil _ _ _
 obtain ⟨hr1, hr2, hr3, hr4⟩ := hrow
 obtain ⟨v', w', hrun, hstp, hnb, hR'⟩ := row_append hL hcc h3 hdn h4 hop ht hkk hte hes (l := gRow y gs) (m := m) (by rw [hv1e]; exact hr1) (fun x hx => by rw [hv1e] at hx; exact .inr (hown x (hr2 x hx))) ey hby hzl hlim
 rw [hv1e] at hstp hnb hR'
 have hgM : ∀ x ∈ blks (.agg (gvals b rs)), C.M x ∨ C.w0.heap.size ≤ x := fun x hx => by
  rcases hcc.ow g _ x hsg (by rw [hg]; exact hx) with ⟨h, _⟩ | h
  ·cases h
  ·exact h
 have hlt : ∀ x ∈ blks (.agg (gvals b rs)), x < w.heap.size := fun x hx => hG.lt hx
 let rs' := putR rs (gIdx y gs) v'
 have hrs' : ∀ j, rs'[j]? = if j = gIdx y gs then some v' else rs[j]? := fun j => putR_at hile' j
 have hgs' : ∀ j, (Go.Ab.gApp y m gs)[j]? = if j = gIdx y gs then some q else gs[j]? := fun j => by rw [hq3]; exact putR_at hile j
 have hform' := (hR' (fun _ => False) fun _ _ h => h.elim).form
 have hone' : ∀ v ∈ rs', blks1 v = blks v := fun v hv => by
  obtain ⟨j, hj⟩ := List.getElem?_of_mem hv
  have hjv := hrs' j
  rw [hj] at hjv
  by_cases h : j = gIdx y gs
  ·rw [if_pos h] at hjv; cases hjv; exact hform'.choose_spec.choose_spec.choose_spec.2.1
  ·rw [if_neg h] at hjv; exact hG.one _ (List.mem_of_getElem? hjv.symm)
 have hu : ∀ x, x ∈ blks (.agg (gvals b rs')) → x = b ∨ x ∈ blks v' ∨ ∃ j u, j ≠ gIdx y gs ∧ rs[j]? = some u ∧ x ∈ blks u := fun x hx => by
  rcases (mem_gblks hone').1 hx with h | ⟨v, hv, hx⟩
  ·exact .inl h
  ·obtain ⟨j, hj⟩ := List.getElem?_of_mem hv
   have hjv := hrs' j
   rw [hj] at hjv
   by_cases h : j = gIdx y gs
   ·rw [if_pos h] at hjv; cases hjv; exact .inr (.inl hx)
   ·rw [if_neg h] at hjv; exact .inr (.inr ⟨j, _, h, hjv.symm, hx⟩)
 have huo : ∀ x, x ∈ blks (.agg (gvals b rs')) → w.heap.size ≤ x ∨ x ∈ blks (.agg (gvals b rs)) := fun x hx => by
  rcases hu x hx with rfl | h | ⟨j, u, _, h, hx⟩
  ·exact .inr ((mem_gblks hG.one).2 (.inl rfl))
  ·rcases hnb x h with h | h
   ·exact .inr (hr2 x h)
   ·exact .inl h
  ·exact .inr ((mem_gblks hG.one).2 (.inr ⟨u, List.mem_of_getElem? h, hx⟩))
 let r : SR := { v := .v (.c (.cp d (1 + gIdx y gs))), del := [g], new := some (.exr [base] (grpP (Go.Ab.gApp y m gs) (some (gIdx y gs)))) }
 have hkk' := kept_step (C := C) (s := s0) (η := η) r (opAt ops.toList k).dst (.agg (gvals b rs')) (fun x => x ∈ blks v1) hstp (fun x hx => hown x (hr2 x hx)) (fun o' dd _ _ x hx => by
  rcases huo x hx with h | h
  ·exact .inl h
  ·exact .inr (hown x h)) (fun k o hh => by cases hh)
 have heta : ∀ i, r.eta (opAt ops.toList k).dst (.agg (gvals b rs')) η i = if i = d then .agg (gvals b rs') else η i := fun i => by simp only [SR.eta, h3, r]
 have hbw : w'.heap[b]? = w.heap[b]? := hstp.block b (lt_of_heap hG.heap) hr3
 have hX'1 : ∀ x, x < w'.heap.size → XS C (r.sto (opAt ops.toList k).dst s0) (r.eta (opAt ops.toList k).dst (.agg (gvals b rs')) η) x → (XS C s0 η x ∧ x ∉ blks v1) ∨ x ∈ blks v' := by
  intro x hx hX
  rcases hX with ⟨hx1, hx2⟩ | ⟨i, oi, hi, hix⟩
  ·refine .inl ⟨.inl ⟨hx1, hx2⟩, fun hx3 => ?_⟩
   rcases hgM x (hr2 x hx3) with h | h
   ·exact hx2 (hcc.ok.md x h)
   ·have := hcc.ok.lt x hx1; omega
  ·rcases sto_cases r (opAt ops.toList k).dst i oi hi with ⟨_, hdi⟩ | ⟨hup, _⟩ | ⟨ho, hdel, _, hdi⟩
   ·rw [h3] at hdi; cases hdi
    rw [heta, if_pos rfl] at hix
    rcases hu x hix with rfl | h | ⟨j, u, hj, hju, hxu⟩
    ·exact .inl ⟨.inr (hown x ((mem_gblks hG.one).2 (.inl rfl))), hr3⟩
    ·exact .inr h
    ·exact .inl ⟨.inr (hown x ((mem_gblks hG.one).2 (.inr ⟨u, List.mem_of_getElem? hju, hxu⟩))), hr4 j u hj hju x hxu⟩
   ·cases hup
   ·have hid : i ≠ d := fun h => by
     subst h
     rcases hdi with h | h
     ·cases h
     ·exact h h3
    rw [heta, if_neg hid] at hix
    refine .inl ⟨.inr ⟨i, oi, ho, hix⟩, fun hx3 => ?_⟩
    have : i = g := hcc.ds i g x (by rw [ho]; simp) (by rw [hsg]; simp) hix (by rw [hg]; exact hr2 x hx3)
    subst this
    exact hdel (by simp [r])
 have hGA : GrpAt (Go.Ab.gApp y m gs) (some (gIdx y gs)) w' (XS C (r.sto (opAt ops.toList k).dst s0) (r.eta (opAt ops.toList k).dst (.agg (gvals b rs')) η)) b rs' ents clock := by
  obtain ⟨hsz, hent⟩ := hG.ents
  refine ⟨hbw.trans hG.heap, hG.st, ?_, gApp_keys hG.nd, fun i e' v hi hv => ?_, fun i j u v x hi hj hxu hxv => ?_, fun i v hi hbv => ?_, ?_, ?_, fun i e' v hi he' hv => ?_⟩
  ·rw [hq3, putR_len hile, putR_len hile', hG.len]
  ·rw [hgs'] at hi
   rw [hrs'] at hv
   by_cases h : i = gIdx y gs
   ·rw [if_pos h] at hi hv
    cases hi; cases hv
    rw [hq2]
    exact hR' _ hX'1
   ·rw [if_neg h] at hi hv
    exact (hG.rows i e' v hi hv).mono hkk' fun x hx => hstp.block x (hlt x ((mem_gblks hG.one).2 (.inr ⟨v, List.mem_of_getElem? hv, hx⟩))) (hr4 i v h hv x hx)
  ·rw [hrs'] at hi hj
   by_cases h : i = gIdx y gs <;> by_cases h' : j = gIdx y gs
   ·rw [h, h']
   ·rw [if_pos h] at hi; rw [if_neg h'] at hj
    cases hi
    exfalso
    rcases hnb x hxu with h5 | h5
    ·exact hr4 j v h' hj x hxv h5
    ·have := hlt x ((mem_gblks hG.one).2 (.inr ⟨v, List.mem_of_getElem? hj, hxv⟩)); omega
   ·rw [if_neg h] at hi; rw [if_pos h'] at hj
    cases hj
    exfalso
    rcases hnb x hxv with h5 | h5
    ·exact hr4 i u h hi x hxu h5
    ·have := hlt x ((mem_gblks hG.one).2 (.inr ⟨u, List.mem_of_getElem? hi, hxu⟩)); omega
   ·rw [if_neg h] at hi; rw [if_neg h'] at hj
    exact hG.apart i j u v x hi hj hxu hxv
  ·rw [hrs'] at hi
   by_cases h : i = gIdx y gs
   ·rw [if_pos h] at hi
    cases hi
    rcases hnb b hbv with h5 | h5
    ·exact hr3 h5
    ·have := lt_of_heap hG.heap; omega
   ·rw [if_neg h] at hi
    exact hG.off i v hi hbv
  ·rw [hq3, putR_len hile]; split <;> omega
  ·rw [hq3, putR_len hile]
   split
   ·exact .inl hsz
   ·exact .inr ⟨by omega, by omega⟩
  ·rw [hgs'] at he'
   rw [hrs'] at hv
   have hig : i < gs.length := by omega
   have hir : i < rs.length := by rw [hG.len]; exact hig
   obtain ⟨bo, hbo⟩ := hent i gs[i] rs[i] (List.getElem?_eq_getElem hig) (List.getElem?_eq_getElem hir)
   by_cases h : i = gIdx y gs
   ·rw [if_pos h] at he'
    cases he'
    refine ⟨rs[i], bo, ?_, fun hh => absurd h hh⟩
    rw [hbo]
    have : gs[i].1 = q.1 := by
     rcases gIdx_spec y gs with ⟨hlt', q', hq', hy'⟩ | ⟨hl, _⟩
     ·have h6 : gs[i]? = some q' := by rw [h]; exact hq'
      rw [List.getElem?_eq_getElem hig] at h6
      cases h6
      rw [hy', hq1]
     ·omega
    rw [this]
   ·rw [if_neg h] at he' hv
    rw [List.getElem?_eq_getElem hig] at he'
    rw [List.getElem?_eq_getElem hir] at hv
    cases he'; cases hv
    exact ⟨_, bo, hbo, fun _ => rfl⟩
 refine ⟨v', .agg (gvals b rs'), w', .inl hrun, hcc.stepG (opAt ops.toList k).dst (fun x hx => by rw [h3] at hx; cases hx; exact hdn) r v' (.agg (gvals b rs')) w' (fun x => x ∈ blks v1) hstp ?_ ?_ (fun k o hh => by cases hh) ?_⟩
 ·intro x hx
  exact ⟨⟨g, .inl (by simp [r]), by rw [hsg]; simp, by rw [hg]; exact hr2 x hx⟩, hgM x (hr2 x hx)⟩
 ·intro o' dd ho' hdd
  rw [h3] at hdd
  cases hdd
  have ho2 : o' = .exr [base] (grpP (Go.Ab.gApp y m gs) (some (gIdx y gs))) := by simpa [r] using ho'.symm
  subst ho2
  refine ⟨hRd, rfl, fun j hj => ?_, ?_, fun x hx => ?_⟩
  ·exact (hcc.sr g _ hsg).2 j hj
  ·have hbd : base ≠ d := fun h => hRd (h ▸ (hcc.sr g _ hsg).2 base (by simp [Obj.refs]))
   refine .exr _ _ _ ⟨b, rs', ents, clock, ?_, rfl, hGA⟩ (grpP_stab _) fun x hx => hGA.lt hx
   simp [heta, hbd, hb]
  ·rcases huo x hx with h | h
   ·exact .inl h
   ·exact .inr ⟨⟨g, by simp [r], by rw [hsg]; simp, by rw [hg]; exact h⟩, hgM x h⟩
 ·intro _
  refine ⟨.v _ _ (.c _ _ (.cp _ _ _ (gvals b rs') (by rw [heta, if_pos rfl]) ?_ hform'.choose_spec.choose_spec.choose_spec.2.2)), fun j hj => ?_⟩
  ·rw [gvals_at]
   have hlt' : gIdx y gs < rs'.length := by
    have := hrs' (gIdx y gs)
    rw [if_pos rfl] at this
    exact (List.getElem?_eq_some_iff.1 this).1
   rw [List.getElem?_append_left hlt', hrs', if_pos rfl]
  ·simp [r, AVal.refs, TV.refs, CV.refs] at hj
   subst hj
   exact .inr ⟨by simp [r], h3⟩
theorem KAt.gPut {gs : List (Int × List α)} {base g j : Nat} {t kT eT : TypeId} {m x v : Operand} {y : Int} {q : Int × List α} (ht : P.underlying t = some (.map kT eT)) (hkT : P.underlying kT = some (.int .i64))
  (hk : dirAt ds k = xE [] { upd := some (g, .exr [base] (grpP gs none)) }) (hop : (opAt ops.toList k).op = .mapUpdate t m x v) (hdo : (gOk ops nt (arunE L ops ops.toList ds e s k) (opAt ops.toList k) && (opAt ops.toList k).dst.isNone) = true)
  (hm : aev (arunE L ops ops.toList ds e s k) m = .v (.c (.own base))) (hx : aev (arunE L ops ops.toList ds e s k) x = vi y) (hv : aev (arunE L ops ops.toList ds e s k) v = .v (.c (.cp g (1 + j))))
  (hs : arunS L ops ops.toList ds e s k g = some (.exr [base] (grpP gs (some j)))) (hq : gs[j]? = some q) (hqy : q.1 = y) : KAt P C nt L ops ds e s k := by
 unfold KAt
 rw [hk]
 simp only [gOk, Bool.and_eq_true, beq_iff_eq] at hdo
 obtain ⟨⟨h1, h2⟩, h3⟩ := hdo
 refine stT_sndX [] h1 h2 fun R η e0 s0 a w he hss hex hn hcc => Snd.g ?_
 have om : m ∈ (opAt ops.toList k).op.operands.toList := by rw [hop]; simp [Op.operands]
 have ox : x ∈ (opAt ops.toList k).op.operands.toList := by rw [hop]; simp [Op.operands]
 have ov : v ∈ (opAt ops.toList k).op.operands.toList := by rw [hop]; simp [Op.operands]
 have em := (aev_ok hcc m).1
 rw [he m om, hm] at em
 have em := own_inv em
 have ex := (aev_ok hcc x).1
 rw [he x ox, hx] at ex
 have ex := vi_inv ex
 have hsg : s0 g = some (.exr [base] (grpP gs (some j))) := (hss v ov g (by rw [hv]; simp [AVal.refs, TV.refs, CV.refs])).trans hs
 obtain ⟨b, rs, ents, clock, hb, hg, hG⟩ := grp_inv hcc hsg
 rw [hb] at em
 have ev := (aev_ok hcc v).1
 rw [he v ov, hv] at ev
 have hjr : j < rs.length := by rw [hG.len]; exact (List.getElem?_eq_some_iff.1 hq).1
 have hat : rs[j]? = some (a.eval v) := by
  generalize a.eval v = v1 at ev
  cases ev with | v _ _ hh => cases hh with | c _ _ hh => cases hh with | cp _ _ _ vs q1 q2 _ =>
  rw [hg] at q1
  cases q1
  rw [gvals_at, List.getElem?_append_left hjr] at q2
  exact q2
 generalize hve : a.eval v = v1 at hat
 obtain ⟨hjl, hsz, hent⟩ := hG.ents
 have hty : ∀ (i : Nat) (z : MapEntry), ents[i]? = some z → ∃ e' u, gs[i]? = some e' ∧ rs[i]? = some u ∧ z.key = .int .i64 e'.1 ∧ (i ≠ j → z.val = u) := fun i z hz => by
  have hi : i < ents.size := (Array.getElem?_eq_some_iff.1 hz).1
  have hi2 : i < gs.length := by omega
  have hi3 : i < rs.length := by rw [hG.len]; exact hi2
  obtain ⟨u, bo, hbo, hne⟩ := hent i gs[i] rs[i] hi (List.getElem?_eq_getElem hi2) (List.getElem?_eq_getElem hi3)
  rw [hz] at hbo
  cases hbo
  exact ⟨gs[i], rs[i], List.getElem?_eq_getElem hi2, List.getElem?_eq_getElem hi3, rfl, hne⟩
 have hks : ∀ z ∈ ents.toList, IsKey (.int .i64) z.key := fun z hz => by
  obtain ⟨i, hi, rfl⟩ := List.getElem_of_mem hz
  obtain ⟨e', _, _, _, hk', _⟩ := hty i ents[i] (Array.getElem?_eq_getElem (by simpa using hi))
  simp only [Array.getElem_toList]
  rw [hk']; rfl
 have hbl : b < w.heap.size := lt_of_heap hG.heap
 have main : ∃ (es' : Array MapEntry) (clock' : Nat), (execOp a.eval (opAt ops.toList k)).run P w = .ok .skip { w with heap := w.heap.setIfInBounds b (.map es' clock') } ∧ Stamped es' clock' ∧ es'.size = gs.length ∧ ∀ (i : Nat) (e' : Int × List α) (u : Value), gs[i]? = some e' → rs[i]? = some u → ∃ bo, es'[i]? = some ⟨.int .i64 e'.1, u, bo⟩ := by
  rcases findNow_spec (d := .int .i64) (k := .int .i64 y) rfl ents.toList 0 hks with ⟨f1, f2⟩ | ⟨i, z, f1, f2, f3⟩
  ·refine ⟨_, _, ?_, stamped_push (val := v1) hG.st f2, ?_, fun i e' u he' hu => ?_⟩
   ·simp [execOp, hop, em, ex, hve, Instr.mapUpdate, run_underlying ht, MapKept.run_getObj_map hG.heap, MapKept.run_checkKey hkT (k := .int .i64 y) (d := .int .i64) rfl, MapKept.run_findKey hkT f1, MapKept.run_setObj_map _ hG.heap]
   ·rw [Array.size_push]
    rcases hsz with h | ⟨h, _⟩
    ·exfalso
     obtain ⟨u, bo, hbo, _⟩ := hent j q v1 (by omega) hq hat
     exact f2 _ (by have := Array.mem_of_getElem? hbo; simpa using this) (by rw [hqy])
    ·exact h
   ·rcases hsz with h | ⟨h, hj⟩
    ·exfalso
     obtain ⟨u, bo, hbo, _⟩ := hent j q v1 (by omega) hq hat
     exact f2 _ (by have := Array.mem_of_getElem? hbo; simpa using this) (by rw [hqy])
    ·rw [Array.getElem?_push]
     by_cases hi : i = ents.size
     ·rw [if_pos hi]
      have hij : i = j := by omega
      subst hij
      rw [hq] at he'; rw [hat] at hu
      cases he'; cases hu
      exact ⟨_, by rw [hqy]⟩
     ·rw [if_neg hi]
      have hil : i < gs.length := (List.getElem?_eq_some_iff.1 he').1
      obtain ⟨u', bo, hbo, hne⟩ := hent i e' u (by omega) he' hu
      rw [hne (by omega)] at hbo
      exact ⟨bo, hbo⟩
  ·have fz : ents[i]? = some z := by simpa using f2
   obtain ⟨e', u, he', hu, hkz, hvz⟩ := hty i z fz
   have hey : e'.1 = y := by rw [f3] at hkz; cases hkz; rfl
   have hij : i = j := nodup_inj hG.nd he' hq (by rw [hey, hqy])
   subst hij
   refine ⟨_, _, ?_, stamped_modify hG.st i (fun e => { e with key := .int .i64 y, val := v1 }) (fun _ _ => rfl) (fun e'' _ he'' => ?_), ?_, fun i' e'' u' he'' hu' => ?_⟩
   ·simp [execOp, hop, em, ex, hve, Instr.mapUpdate, run_underlying ht, MapKept.run_getObj_map hG.heap, MapKept.run_checkKey hkT (k := .int .i64 y) (d := .int .i64) rfl, MapKept.run_findKey hkT f1, fz, f3, MapKept.run_keyThatStays (d := .int .i64) (k := .int .i64 y) rfl, MapKept.run_setObj_map _ hG.heap]
   ·rw [fz] at he''; cases he''; exact f3.symm
   ·rw [Array.size_modify]
    rcases hsz with h | ⟨h, hj⟩
    ·exact h
    ·have : i < ents.size := (Array.getElem?_eq_some_iff.1 fz).1
     omega
   ·rw [Array.getElem?_modify]
    by_cases hi : i = i'
    ·subst hi
     rw [if_pos rfl, fz]
     rw [hq] at he''; rw [hat] at hu'
     cases he''; cases hu'
     exact ⟨z.born, by rw [hqy]; rfl⟩
    ·rw [if_neg hi]
     have hil : i' < gs.length := (List.getElem?_eq_some_iff.1 he'').1
     have hiz : i < ents.size := (Array.getElem?_eq_some_iff.1 fz).1
     obtain ⟨u'', bo, hbo, hne⟩ := hent i' e'' u' (by rcases hsz with h | ⟨h, hj⟩ <;> omega) he'' hu'
     rw [hne (fun h => hi h.symm)] at hbo
     exact ⟨bo, hbo⟩
 obtain ⟨es', clock', hrun, hst', hsz', hent'⟩ := main
 have hstp : Stp (fun x => x = b) w { w with heap := w.heap.setIfInBounds b (.map es' clock') } :=
  ⟨rfl, rfl, rfl, by simp, fun x _ hx => (heap_set hG.heap).2 x hx, Nat.le_refl _⟩
 have hbin : b ∈ blks (η g) := by rw [hg]; exact (mem_gblks hG.one).2 (.inl rfl)
 have hd : (opAt ops.toList k).dst = none := by simpa using h3
 let r : SR := { upd := some (g, .exr [base] (grpP gs none)) }
 have hkk := kept_step (C := C) (s := s0) (η := η) r (opAt ops.toList k).dst undef (fun x => x = b) hstp (fun x hx => by subst hx; exact ⟨g, _, hsg, hbin⟩) (fun _ _ hh => by cases hh) (fun k o hh => by cases hh; rw [hsg]; simp)
 have heta : r.eta (opAt ops.toList k).dst undef η = η := by funext i; simp [SR.eta, r]
 refine ⟨undef, _, .inr ⟨hrun, rfl⟩, hcc.step (opAt ops.toList k).dst (fun x hx => by rw [hd] at hx; cases hx) r undef _ (fun x => x = b) hstp (fun x hx => ?_) (fun _ _ hh => by cases hh) (fun k' o' hh => ?_) (fun hh => absurd hd hh)⟩
 ·subst hx
  refine ⟨⟨g, .inr ⟨_, rfl⟩, by rw [hsg]; simp, hbin⟩, ?_⟩
  rcases hcc.ow g _ x hsg hbin with ⟨h, _⟩ | h
  ·cases h
  ·exact h
 ·cases hh
  refine ⟨⟨_, hsg, rfl⟩, rfl, by simp [r], fun j hj => (hcc.sr g _ hsg).2 j hj, ?_⟩
  rw [heta] at hkk ⊢
  rw [hg]
  have hGA : GrpAt gs none { w with heap := w.heap.setIfInBounds b (.map es' clock') } (XS C (r.sto (opAt ops.toList k).dst s0) η) b rs es' clock' :=
   ⟨(heap_set hG.heap).1, hst', hG.len, hG.nd, fun i e' u he' hu => (hG.rows i e' u he' hu).mono hkk fun z hz => (heap_set hG.heap).2 z (fun h => by subst h; exact hG.off i u hu hz), hG.apart, hG.off, hsz', hent'⟩
  exact .exr _ _ _ ⟨b, rs, es', clock', by simp [hb], rfl, hGA⟩ (grpP_stab _) fun z hz => hGA.lt hz
end
section
variable {P : Program} {C : Ctx} {nt : Nat} {L : Lay} {pins : List Nat} {K : Act → World → Prop} {α : Type} [Emb α]
theorem Kn.relab (Fm : Fr P L C pins) {E : List (Nat × AVal)} {S0 : List (Nat × Obj)} {id k : Nat} {o o' : Obj} (hp : pins.contains k = false)
  (hfr : ((E.flatMap fun p => p.2.refs) ++ (((id, o) :: S0).flatMap fun p => p.1 :: p.2.refs)).contains k = false) (hid : (S0.map (·.1)).contains id = false) (hro : o.ro = false) (hro' : o'.ro = false) (hrf : ∀ j ∈ o'.refs, j = id ∨ j ∈ o.refs)
  (hu : ∀ R η a w, Conc C nt R η (lk E) (ls ((id, o) :: S0)) a w → ∃ u, (∀ b ∈ blks u, b ∈ blks (η id)) ∧ ∀ X' η', Kept w w (XS C (ls ((id, o) :: S0)) η) X' → (∀ i, i ≠ k → η' i = η i) → ORep w X' η' C u o')
  (hk : Kn C nt E ((k, o') :: S0) K) : Kn C nt E ((id, o) :: S0) K := by
 intro R η a w hc
 have hsid : ls ((id, o) :: S0) id = some o := by rw [ls_cons, if_pos rfl]
 obtain ⟨u, hblk, horep⟩ := hu R η a w hc
 have hpin : C.pin k = none := by
  rcases hq : C.pin k with _ | u
  ·rfl
  ·have := Fm.pin k (by rw [hq]; simp)
   rw [List.contains_iff_mem.2 this] at hp; cases hp
 have hnk : ∀ i ∈ (E.flatMap fun p => p.2.refs) ++ (((id, o) :: S0).flatMap fun p => p.1 :: p.2.refs), i ≠ k := by
  intro i hi he
  subst he
  rw [List.contains_iff_mem.2 hi] at hfr; cases hfr
 have hidk : id ≠ k := hnk id (by simp)
 have hok : ∀ j ∈ o.refs, j ≠ k := fun j hj => hnk j (by simp [hj])
 have hS0 : ∀ i o', ls S0 i = some o' → i ≠ k ∧ i ≠ id ∧ (∀ j ∈ o'.refs, j ≠ k) ∧ ls ((id, o) :: S0) i = some o' := by
  intro i o' hi
  have hm := ls_mem hi
  have hne : i ≠ id := by
   intro he; subst he
   have : i ∈ S0.map (·.1) := List.mem_map.2 ⟨_, hm, rfl⟩
   rw [List.contains_iff_mem.2 this] at hid; cases hid
  refine ⟨hnk i (List.mem_append.2 (.inr (List.mem_flatMap.2 ⟨_, List.mem_cons_of_mem _ hm, by simp⟩))), hne, fun j hj => hnk j (List.mem_append.2 (.inr (List.mem_flatMap.2 ⟨_, List.mem_cons_of_mem _ hm, by simp [hj]⟩))), ?_⟩
  rw [ls_cons, if_neg hne]; exact hi
 have hE0 : ∀ u i, i ∈ (lk E u).refs → i ≠ k := by
  intro u i hi
  rcases lk_mem (E := E) (t := u) with h0 | h0
  ·rw [h0] at hi; cases hi
  ·exact hnk i (List.mem_append.2 (.inl (List.mem_flatMap.2 ⟨_, h0, hi⟩)))
 let η' : Nat → Value := fun i => if i = k then u else η i
 have hη' : ∀ i, i ≠ k → η' i = η i := fun i hi => by show (if i = k then u else η i) = _; rw [if_neg hi]
 have hηk : η' k = u := by show (if k = k then u else η k) = _; rw [if_pos rfl]
 have hown : ∀ b, Own (ls ((k, o') :: S0)) η' b → Own (ls ((id, o) :: S0)) η b := by
  rintro b ⟨i, oi, hi, hib⟩
  rw [ls_cons] at hi
  by_cases hik : i = k
  ·subst hik
   rw [hηk] at hib
   exact ⟨id, _, hsid, hblk b hib⟩
  ·rw [if_neg hik] at hi
   rw [hη' i hik] at hib
   exact ⟨i, oi, (hS0 i oi hi).2.2.2, hib⟩
 have hX : Kept w w (XS C (ls ((id, o) :: S0)) η) (XS C (ls ((k, o') :: S0)) η') := by
  intro b hb hn
  refine ⟨rfl, fun hx => ?_⟩
  rcases hx with hx | hx
  ·exact hn (.inl hx)
  ·exact hn (.inr (hown b hx))
 refine hk (fun i => R i ∨ i = k) η' a w ⟨hc.ok, hc.df, hc.sz, fun t => ?_, fun t i hi => .inl (hc.er t i hi), fun i oi hi => ?_, fun i oi hi => ?_, fun i j b hi hj hbi hbj => ?_, fun i oi b hi hb => ?_, hc.fr, fun i v hi => ?_⟩
 ·exact (hc.ev t).mono hX fun i hi => hη' i (hE0 t i hi)
 ·rw [ls_cons] at hi
  by_cases hik : i = k
  ·subst hik
   rw [if_pos rfl] at hi; cases hi
   rw [hηk]
   exact horep _ _ hX hη'
  ·rw [if_neg hik] at hi
   obtain ⟨h1, h2, h3, h4⟩ := hS0 i oi hi
   rw [hη' i hik]
   exact (hc.st i oi h4).mono hX (fun j hj => hη' j (h3 j hj)) fun _ _ => rfl
 ·rw [ls_cons] at hi
  by_cases hik : i = k
  ·subst hik
   rw [if_pos rfl] at hi; cases hi
   refine ⟨.inr rfl, fun j hj => .inl ?_⟩
   rcases hrf j hj with rfl | h
   ·exact (hc.sr j _ hsid).1
   ·exact (hc.sr id _ hsid).2 j h
  ·rw [if_neg hik] at hi
   obtain ⟨h1, h2, h3, h4⟩ := hS0 i oi hi
   have := hc.sr i oi h4
   exact ⟨.inl this.1, fun j hj => .inl (this.2 j hj)⟩
 ·rw [ls_cons] at hi hj
  by_cases hik : i = k <;> by_cases hjk : j = k
  ·rw [hik, hjk]
  ·exfalso
   rw [if_neg hjk] at hj
   obtain ⟨oj, ho⟩ := Option.ne_none_iff_exists'.1 hj
   obtain ⟨h1, h2, h3, h4⟩ := hS0 j oj ho
   rw [hik, hηk] at hbi
   rw [hη' j hjk] at hbj
   exact h2 (hc.ds j id b (by rw [h4]; simp) (by rw [hsid]; simp) hbj (hblk b hbi))
  ·exfalso
   rw [if_neg hik] at hi
   obtain ⟨oi, ho⟩ := Option.ne_none_iff_exists'.1 hi
   obtain ⟨h1, h2, h3, h4⟩ := hS0 i oi ho
   rw [hjk, hηk] at hbj
   rw [hη' i hik] at hbi
   exact h2 (hc.ds i id b (by rw [h4]; simp) (by rw [hsid]; simp) hbi (hblk b hbj))
  ·rw [if_neg hik] at hi
   rw [if_neg hjk] at hj
   obtain ⟨oi, ho⟩ := Option.ne_none_iff_exists'.1 hi
   obtain ⟨oj, ho'⟩ := Option.ne_none_iff_exists'.1 hj
   rw [hη' i hik] at hbi
   rw [hη' j hjk] at hbj
   exact hc.ds i j b (by rw [(hS0 i oi ho).2.2.2]; simp) (by rw [(hS0 j oj ho').2.2.2]; simp) hbi hbj
 ·rw [ls_cons] at hi
  by_cases hik : i = k
  ·subst hik
   rw [if_pos rfl] at hi; cases hi
   rw [hηk] at hb
   rcases hc.ow id _ b hsid (hblk b hb) with ⟨h1, _⟩ | h1
   ·rw [hro] at h1; cases h1
   ·exact .inr h1
  ·rw [if_neg hik] at hi
   rw [hη' i hik] at hb
   exact hc.ow i oi b (hS0 i oi hi).2.2.2 hb
 ·have hik : i ≠ k := by intro he; subst he; rw [hpin] at hi; cases hi
  have := hc.pn i v hi
  exact ⟨(hη' i hik).trans this.1, .inl this.2⟩
theorem Kn.grp0 (Fm : Fr P L C pins) (α : Type) [Emb α] {E : List (Nat × AVal)} {S0 : List (Nat × Obj)} {d g : Nat} {kT eT : TypeId} (hp : pins.contains g = false)
  (hfr : ((E.flatMap fun p => p.2.refs) ++ (((d, Obj.ext (mapP P kT eT [])) :: S0).flatMap fun p => p.1 :: p.2.refs)).contains g = false) (hd : (S0.map (·.1)).contains d = false)
  (hk : Kn C nt E ((g, .exr [d] (grpP ([] : List (Int × List α)) none)) :: S0) K) : Kn C nt E ((d, .ext (mapP P kT eT [])) :: S0) K := by
 refine Kn.relab Fm hp hfr hd rfl rfl (fun j hj => .inl (by simpa [Obj.refs] using hj)) (fun R η a w hc => ?_) hk
 have hst := hc.st d _ (show ls ((d, .ext (mapP P kT eT [])) :: S0) d = some (.ext (mapP P kT eT [])) by rw [ls_cons, if_pos rfl])
 generalize hη : η d = u at hst
 cases hst with
 | ext _ _ hp' _ hlt =>
  obtain ⟨b, rfl, es, clock, h1, h2, h3, _⟩ := hp'
  have hes : es = #[] := Array.eq_empty_of_size_eq_zero (by simpa using h3)
  subst hes
  refine ⟨.agg (gvals b []), fun x hx => ?_, fun X' η' hX hη' => ?_⟩
  ·have := (mem_gblks (rs := []) (fun v hv => by cases hv)).1 hx
   rcases this with rfl | ⟨v, hv, _⟩
   ·simp [blks]
   ·cases hv
  ·have hgd : d ≠ g := fun h => by
    subst h
    have : ((E.flatMap fun p => p.2.refs) ++ (((d, Obj.ext (mapP P kT eT [])) :: S0).flatMap fun p => p.1 :: p.2.refs)).contains d = true := by simp
    rw [this] at hfr; cases hfr
   have hG : GrpAt ([] : List (Int × List α)) none w X' b [] #[] clock := ⟨h1, ⟨by simp, by simp, by simp⟩, rfl, by simp, fun i e v he => by simp at he, fun i j u v x hi => by simp at hi, fun i v hi => by simp at hi, rfl, fun i e v he => by simp at he⟩
   exact .exr _ _ _ ⟨b, [], #[], clock, by simp [hη' d hgd, hη], rfl, hG⟩ (grpP_stab _) fun x hx => hG.lt hx
theorem Kn.mpz {E0 : List (Nat × AVal)} {S0 : List (Nat × Obj)} {t d g : Nat} {gs : List (Int × List α)} (hid : (S0.map (·.1)).contains g = false)
  (hk : Kn C nt ((t, .v (.c (.d (MP gs)))) :: E0) S0 K) : Kn C nt ((t, .v (.c (.own d))) :: E0) ((g, .exr [d] (grpP gs none)) :: S0) K := by
 intro R η a w hc
 have hsg : ls ((g, .exr [d] (grpP gs none)) :: S0) g = some (.exr [d] (grpP gs none)) := by rw [ls_cons, if_pos rfl]
 have hS0 : ∀ i o, ls S0 i = some o → i ≠ g ∧ ls ((g, .exr [d] (grpP gs none)) :: S0) i = some o := by
  intro i o hi
  have hne : i ≠ g := by
   intro he; subst he
   have : i ∈ S0.map (·.1) := List.mem_map.2 ⟨_, ls_mem hi, rfl⟩
   rw [List.contains_iff_mem.2 this] at hid; cases hid
  exact ⟨hne, by rw [ls_cons, if_neg hne]; exact hi⟩
 obtain ⟨b, rs, ents, clock, hb, hg, hG⟩ := grp_inv hc hsg
 have hsub : ∀ x, XS C (ls S0) η x → XS C (ls ((g, .exr [d] (grpP gs none)) :: S0)) η x := fun x hx => by
  rcases hx with hx | ⟨i, o, hi, hib⟩
  ·exact .inl hx
  ·exact .inr ⟨i, o, (hS0 i o hi).2, hib⟩
 have hX : Kept w w (XS C (ls ((g, .exr [d] (grpP gs none)) :: S0)) η) (XS C (ls S0) η) := fun x _ hn => ⟨rfl, fun hx => hn (hsub x hx)⟩
 have hnX : ∀ x ∈ blks (η g), ¬ XS C (ls S0) η x := fun x hx hX' => by
  rcases hX' with ⟨hx1, hx2⟩ | ⟨i, o, hi, hib⟩
  ·rcases hc.ow g _ x hsg hx with ⟨h1, _⟩ | h1 | h1
   ·cases h1
   ·exact hx2 (hc.ok.md x h1)
   ·have := hc.ok.lt x hx1; omega
  ·exact (hS0 i o hi).1 (hc.ds i g x (by rw [(hS0 i o hi).2]; simp) (by rw [hsg]; simp) hib hx)
 obtain ⟨hsz, hent⟩ := hG.ents
 have hD : DRep w (XS C (ls S0) η) (.map (some b)) (MP gs) := by
  refine .mp b ents clock gs.length _ (fun i => rs.getD i undef) _ (hnX b (by rw [hg]; exact (mem_gblks hG.one).2 (.inl rfl))) hG.heap hG.st hsz (fun i hi => ?_) fun i hi => ?_
  ·have hr : i < rs.length := by rw [hG.len]; exact hi
   obtain ⟨bo, hbo⟩ := hent i gs[i] rs[i] (List.getElem?_eq_getElem hi) (List.getElem?_eq_getElem hr)
   exact ⟨bo, by rw [hbo]; simp [List.getD_eq_getElem?_getD, hi, hr]⟩
  ·have hr : i < rs.length := by rw [hG.len]; exact hi
   have e1 : rs.getD i undef = rs[i] := by simp [List.getD_eq_getElem?_getD, hr]
   have e2 : gs.getD i (0, []) = gs[i] := by simp [List.getD_eq_getElem?_getD, hi]
   simp only [e1, e2]
   have hrow := hG.rows i gs[i] rs[i] (List.getElem?_eq_getElem hi) (List.getElem?_eq_getElem hr) η C
   have hrb : ∀ x ∈ blks rs[i], ¬ XS C (ls S0) η x := fun x hx => hnX x (by rw [hg]; exact (mem_gblks hG.one).2 (.inr ⟨rs[i], List.getElem_mem hr, hx⟩))
   unfold AO at hrow
   unfold DL
   generalize gs[i].2.length = n at hrow ⊢
   generalize LF gs[i].2 = f at hrow ⊢
   generalize rs[i] = v at hrow hrb ⊢
   cases hrow with
   | nil ad es f => exact .nil ad 0 f
   | arr b n cap es c e f h1 h2 h3 h4 h5 h6 h7 =>
    refine .lst b 0 n cap c e _ f _ (hrb b (by simp [blks]; omega)) h1 h3 (by rw [h2, Nat.zero_add]; exact Nat.mul_le_mul_right _ h3) h6 fun i j hi hj => ?_
    rw [Nat.zero_add]
    exact (h7 i j hi hj).mono hX
 have hne : ∀ i, ls S0 i ≠ none → ls ((g, .exr [d] (grpP gs none)) :: S0) i ≠ none := fun i hi hn => by
  obtain ⟨o, ho⟩ := Option.ne_none_iff_exists'.1 hi
  rw [(hS0 i o ho).2] at hn; cases hn
 refine hk R η a w ⟨hc.ok, hc.df, hc.sz, fun u => ?_, fun u i hi => ?_, fun i o hi => (hc.st i o (hS0 i o hi).2).mono hX (fun _ _ => rfl) fun _ _ => rfl, fun i o hi => hc.sr i o (hS0 i o hi).2, fun i j b hi hj => hc.ds i j b (hne i hi) (hne j hj), fun i o b hi => hc.ow i o b (hS0 i o hi).2, hc.fr, hc.pn⟩
 ·rw [lk_cons]
  have hev := hc.ev u
  rw [lk_cons] at hev
  by_cases hu : u = t
  ·rw [if_pos hu] at hev ⊢
   rw [own_inv hev, hb]
   exact .v _ _ (.c _ _ (.d _ _ hD))
  ·rw [if_neg hu] at hev ⊢
   exact hev.mono hX fun _ _ => rfl
 ·rw [lk_cons] at hi
  have her := hc.er u i
  rw [lk_cons] at her
  by_cases hu : u = t
  ·rw [if_pos hu] at hi; cases hi
  ·rw [if_neg hu] at hi her
   exact her hi
end
end Go.Ab
end

section
namespace Go.Ab
def ov : List (Nat × Obj) → List (Nat × Obj) → List (Nat × Obj)
 | [], S => S
 | _ :: _, [] => []
 | (k, o) :: W, (i, x) :: S => match Nat.beq k i with
  | true => (i, o) :: ov W S
  | false => (i, x) :: ov ((k, o) :: W) S
def FW : List (Nat × Obj) → List (Nat × Obj) → Prop
 | [], _ => True
 | _ :: _, [] => True
 | (k, o) :: W, (i, x) :: S => match Nat.beq k i with
  | true => OLe o x ∧ FW W S
  | false => FW ((k, o) :: W) S
theorem ov_fs : ∀ {W S : List (Nat × Obj)}, FW W S → FSl (ov W S) S
 | [], S, _ => by cases S <;> exact FSl.refl _
 | _ :: _, [], _ => True.intro
 | (k, o) :: W, (i, x) :: S, h => by
  unfold ov
  unfold FW at h
  cases e : Nat.beq k i with
  | true => rw [e] at h; exact ⟨rfl, h.1, ov_fs h.2⟩
  | false => rw [e] at h; exact ⟨rfl, OLe.refl _, ov_fs h⟩
section
variable {P : Program} {C : Ctx} {nt : Nat} {L : Lay} {pins : List Nat} {E : List (Nat × AVal)} {S : List (Nat × Obj)} {Q : Exit → Act → World → Prop}
theorem AW.GW (Fm : Fr P L C pins) {id : Nat} {ops : Array Oper} {draw : Bool} (ds : List Dir) (c : (Nat → Prop) → Prop) (E' : List (Nat × AVal)) (S' : List (Nat × Obj)) (hc : c (KAt P C nt L ops ds (lk E) (ls S))) (W : List (Nat × Obj)) (hW : FW W S') (k : Kn C nt E' S' (Q .normal))
  (h : (chkB L pins nt ops draw ds E S [] (ov W S'), arunC P C nt L ops ops.toList ds (lk E) (ls S), E'.map (fun p => endE ops.toList (arunF L ops ops.toList ds (lk E) (ls S)) (lk E) p.1), (ov W S').map (fun p => endS (arunF L ops ops.toList ds (lk E) (ls S)) (ls S) (rhoL [] p.1)))
   = (true, c (KAt P C nt L ops ds (lk E) (ls S)), E'.map (fun p => p.2.ren (rhoL [])), (ov W S').map (fun p => some (p.2.ren (rhoL [])))) := by kernel_rfl) : AW P C nt (.region id ops draw) E S Q :=
 AW.g Fm ds c E' (ov W S') hc h (Kn.wk E' S' (FE.refl _) (ov_fs hW) k)
theorem AW.SW (Fm : Fr P L C pins) {id : Nat} {ops : Array Oper} {draw : Bool} {y : Code} (ds : List Dir) (c : (Nat → Prop) → Prop) (E' : List (Nat × AVal)) (S' : List (Nat × Obj)) (hc : c (KAt P C nt L ops ds (lk E) (ls S))) (W : List (Nat × Obj)) (hW : FW W S') (k : AW P C nt y E' S' Q)
  (h : (chkB L pins nt ops draw ds E S [] (ov W S'), arunC P C nt L ops ops.toList ds (lk E) (ls S), E'.map (fun p => endE ops.toList (arunF L ops ops.toList ds (lk E) (ls S)) (lk E) p.1), (ov W S').map (fun p => endS (arunF L ops ops.toList ds (lk E) (ls S)) (ls S) (rhoL [] p.1)))
   = (true, c (KAt P C nt L ops ds (lk E) (ls S)), E'.map (fun p => p.2.ren (rhoL [])), (ov W S').map (fun p => some (p.2.ren (rhoL [])))) := by kernel_rfl) : AW P C nt (.seq (.region id ops draw) y) E S Q :=
 AW.sg Fm ds c E' (ov W S') hc h (Kn.wk E' S' (FE.refl _) (ov_fs hW) k)
theorem AW.pN (Fm : Fr P L C pins) {id : Nat} {ops : Array Oper} {draw : Bool} (ds : List Dir) (E' : List (Nat × AVal)) (S' : List (Nat × Obj)) {q : Prop} (hc : q) (k : Kn C nt E' S' (Q .normal)) (h : (chkB L pins nt ops draw ds E S [] S', arunC P C nt L ops ops.toList ds (lk E) (ls S), E'.map (fun p => endE ops.toList (arunF L ops ops.toList ds (lk E) (ls S)) (lk E) p.1), (S').map (fun p => endS (arunF L ops ops.toList ds (lk E) (ls S)) (ls S) (rhoL [] p.1)))
   = (true, q, E'.map (fun p => p.2.ren (rhoL [])), (S').map (fun p => some (p.2.ren (rhoL [])))) := by kernel_rfl) : AW P C nt (.region id ops draw) E S Q := AW.g Fm ds (fun _ => q) E' S' hc h k
theorem AW.SP (Fm : Fr P L C pins) {id : Nat} {ops : Array Oper} {draw : Bool} {y : Code} (ds : List Dir) (E' : List (Nat × AVal)) (S' : List (Nat × Obj)) {q : Prop} (hc : q) (k : AW P C nt y E' S' Q) (h : (chkB L pins nt ops draw ds E S [] S', arunC P C nt L ops ops.toList ds (lk E) (ls S), E'.map (fun p => endE ops.toList (arunF L ops ops.toList ds (lk E) (ls S)) (lk E) p.1), (S').map (fun p => endS (arunF L ops ops.toList ds (lk E) (ls S)) (ls S) (rhoL [] p.1)))
   = (true, q, E'.map (fun p => p.2.ren (rhoL [])), (S').map (fun p => some (p.2.ren (rhoL [])))) := by kernel_rfl) : AW P C nt (.seq (.region id ops draw) y) E S Q := AW.sg Fm ds (fun _ => q) E' S' hc h k
theorem AW.WP (Fm : Fr P L C pins) {id : Nat} {ops : Array Oper} {draw : Bool} (ds : List Dir) (E' : List (Nat × AVal)) (S' : List (Nat × Obj)) {q : Prop} (hc : q) (W : List (Nat × Obj)) (hW : FW W S') (k : Kn C nt E' S' (Q .normal)) (h : (chkB L pins nt ops draw ds E S [] (ov W S'), arunC P C nt L ops ops.toList ds (lk E) (ls S), E'.map (fun p => endE ops.toList (arunF L ops ops.toList ds (lk E) (ls S)) (lk E) p.1), ((ov W S')).map (fun p => endS (arunF L ops ops.toList ds (lk E) (ls S)) (ls S) (rhoL [] p.1)))
   = (true, q, E'.map (fun p => p.2.ren (rhoL [])), ((ov W S')).map (fun p => some (p.2.ren (rhoL [])))) := by kernel_rfl) : AW P C nt (.region id ops draw) E S Q := AW.GW Fm ds (fun _ => q) E' S' hc W hW k h
theorem AW.SV (Fm : Fr P L C pins) {id : Nat} {ops : Array Oper} {draw : Bool} {y : Code} (ds : List Dir) (E' : List (Nat × AVal)) (S' : List (Nat × Obj)) {q : Prop} (hc : q) (W : List (Nat × Obj)) (hW : FW W S') (k : AW P C nt y E' S' Q) (h : (chkB L pins nt ops draw ds E S [] (ov W S'), arunC P C nt L ops ops.toList ds (lk E) (ls S), E'.map (fun p => endE ops.toList (arunF L ops ops.toList ds (lk E) (ls S)) (lk E) p.1), ((ov W S')).map (fun p => endS (arunF L ops ops.toList ds (lk E) (ls S)) (ls S) (rhoL [] p.1)))
   = (true, q, E'.map (fun p => p.2.ren (rhoL [])), ((ov W S')).map (fun p => some (p.2.ren (rhoL [])))) := by kernel_rfl) : AW P C nt (.seq (.region id ops draw) y) E S Q := AW.SW Fm ds (fun _ => q) E' S' hc W hW k h
theorem cT {p : Prop} (h : p) : p ∧ True := ⟨h, True.intro⟩
theorem cA {p q : Prop} (h : p) (k : q) : p ∧ q := ⟨h, k⟩
@[reducible] def lI {α : Type} (l : List α) : Int := ((l.length : Nat) : Int)
theorem AW.cN {t : Nat} {x y : Code} {b : Bool} {R : Type} {u v : Option R} {r : R} (h : br b u v = some r) (ht : b = true → u = some r → AW P C nt x E S Q) (hf : b = false → v = some r → AW P C nt y E S Q) (hb : lk E t = vb b := by kernel_rfl) : AW P C nt (.cond (.tmp t) x y) E S Q :=
 AW.cond hb (fun q => ht q (br_t h q)) (fun q => hf q (br_f h q))
theorem br_or {b : Bool} {R : Type} {u v : Option R} {r : R} (h : br b u v = some r) : (b = true ∧ u = some r) ∨ (b = false ∧ v = some r) := by
 cases b
 ·exact .inr ⟨rfl, h⟩
 ·exact .inl ⟨rfl, h⟩
theorem gS {R : Type} {p : Prop} [Decidable p] {x : Option R} {r : R} (h : gd p x = some r) : p ∧ x = some r := gd_some h
theorem gS2 {R : Type} {p q : Prop} [Decidable p] [Decidable q] {x : Option R} {r : R} (h : gd p (gd q x) = some r) : p ∧ q ∧ x = some r := ⟨(gd_some h).1, gd_some (gd_some h).2⟩
theorem gS3 {R : Type} {p q u : Prop} [Decidable p] [Decidable q] [Decidable u] {x : Option R} {r : R} (h : gd p (gd q (gd u x)) = some r) : p ∧ q ∧ u ∧ x = some r := ⟨(gd_some h).1, gS2 (gd_some h).2⟩
theorem gS4 {R : Type} {p q u v : Prop} [Decidable p] [Decidable q] [Decidable u] [Decidable v] {x : Option R} {r : R} (h : gd p (gd q (gd u (gd v x))) = some r) : p ∧ q ∧ u ∧ v ∧ x = some r := ⟨(gd_some h).1, gS3 (gd_some h).2⟩
theorem bS {α R : Type} {x : Option α} {f : α → Option R} {r : R} (h : x.bind f = some r) : ∃ z, x = some z ∧ f z = some r := bd_some h
theorem FI {f : Nat} {fn : Func} {c : Code} (hf : P.funcs[f]? = some fn) (hm : P.follows .mixedOrders = true) (hL : LOk P L) {args : List AVal} {S : List (Nat × Obj)} {r : AVal} {S' : List (Nat × Obj)}
  (h : ∀ C, Fr P L C (S.map (·.1)) → AW P C fn.ntmps c (argsE args) S (retQ P fn C r S')) (hb : fn.body = some c := by rfl) (hn0 : Nat.ble args.length fn.ntmps = true := by kernel_rfl) : FSpec P f args S r S' := FSpec.intro hm hL hf hb hn0 h
end
end Go.Ab
end
