/- Abstract states over the model: every lemma holds of any program of the form that it names. -/
import Derived.Orders
import Derived.Laws.AppendOwn
import Derived.Below
import Derived.IntWalk
import Derived.Laws.Tables
import Derived.Tactics
import Derived.KernelRfl
set_option linter.unusedVariables false
set_option linter.unusedSimpArgs false
section
namespace Go.Ab
inductive DVal where
 | any
 | int (k : IntKind) (n : Int)
 | bool (b : Bool)
 | str (s : ByteArray)
 | lst (n : Nat) (f : Nat → List DVal)
inductive CV where
 | d (x : DVal)
 | fl (n : Nat) (f : Nat → List DVal)
 | own (id : Nat)
 | ptr (id off : Nat)
 | pte (id es idx off : Nat)
 | sub (id es lo n : Nat)
 | elm (cs : List DVal)
 | clo (f : Nat) (ids : List Nat)
 | sem (p : World → (Nat → Prop) → (Nat → Prop) → Value → Prop)
 | ap (id : Nat)
inductive TV where
 | c (x : CV)
 | g (xs : List CV)
inductive AVal where
 | any
 | v (x : TV)
 | t (xs : List TV)
inductive Obj where
 | box (ro : Bool) (cs : List CV)
 | arr (es n : Nat) (f : Nat → List DVal)
 | ext (p : World → (Nat → Prop) → Value → Prop)
abbrev Env := Nat → AVal
abbrev Sto := Nat → Option Obj
structure Ctx where
 w0 : World
 D : Nat → Prop
 M : Nat → Prop
 X : Nat → Prop
 pin : Nat → Option Value
inductive DRep (w : World) (X : Nat → Prop) : Value → DVal → Prop
 | any (v : Value) : v.oneCell' = true → DRep w X v .any
 | int (k : IntKind) (n : Int) : DRep w X (.int k n) (.int k n)
 | bool (b : Bool) : DRep w X (.bool b) (.bool b)
 | str (s : ByteArray) : DRep w X (.string s) (.str s)
 | nil (a : Option Addr) (cap : Nat) (f : Nat → List DVal) : DRep w X (.slice a 0 cap) (.lst 0 f)
 | lst (b off n cap : Nat) (c : Array Value) (e : TypeId) (fz : Nat × Nat) (f : Nat → List DVal) (es : Nat) :
   ¬ X b → w.heap[b]? = some (.cells c e fz) → n ≤ cap → off + n * es ≤ c.size → (∀ i, i < n → (f i).length = es) →
   (∀ i j, i < n → j < es → DRep w X (c.getD (off + (i * es + j)) undef) ((f i).getD j .any)) →
   DRep w X (.slice (some ⟨b, off, none⟩) n cap) (.lst n f)
theorem DRep.one {w : World} {X : Nat → Prop} {v : Value} {x : DVal} (h : DRep w X v x) : v.oneCell' = true := by
 cases h <;> first | assumption | rfl
theorem lt_of_heap {w : World} {b : Nat} {o : Go.Obj} (h : w.heap[b]? = some o) : b < w.heap.size :=
 (Array.getElem?_eq_some_iff.1 h).1
structure Stp (Z : Nat → Prop) (w w' : World) : Prop where
 os : w'.os = w.os
 tape : w'.tape = w.tape
 output : w'.output = w.output
 size : w.heap.size ≤ w'.heap.size
 block : ∀ b, b < w.heap.size → ¬ Z b → w'.heap[b]? = w.heap[b]?
 dr : w.drawn ≤ w'.drawn
theorem Stp.refl (Z : Nat → Prop) (w : World) : Stp Z w w := ⟨rfl, rfl, rfl, Nat.le_refl _, fun _ _ _ => rfl, Nat.le_refl _⟩
theorem Stp.mono {Z Z' : Nat → Prop} {w w' : World} (h : Stp Z w w') (hz : ∀ b, b < w.heap.size → Z b → Z' b) : Stp Z' w w' :=
 ⟨h.os, h.tape, h.output, h.size, fun b hb hn => h.block b hb fun hZ => hn (hz b hb hZ), h.dr⟩
theorem Stp.trans {Z : Nat → Prop} {a b c : World} (h : Stp Z a b) (k : Stp (fun x => Z x ∨ a.heap.size ≤ x) b c) : Stp Z a c :=
 ⟨k.os.trans h.os, k.tape.trans h.tape, k.output.trans h.output, Nat.le_trans h.size k.size,
  fun x hx hn => (k.block x (Nat.lt_of_lt_of_le hx h.size) fun hz => by rcases hz with hz | hz; exact hn hz; omega).trans (h.block x hx hn), Nat.le_trans h.dr k.dr⟩
theorem Stp.drew (Z : Nat → Prop) (w : World) : Stp Z w { w with drawn := w.drawn + 1 } := ⟨rfl, rfl, rfl, Nat.le_refl _, fun _ _ _ => rfl, Nat.le_succ _⟩
theorem Stp.alloc (Z : Nat → Prop) (w : World) (o : Go.Obj) : Stp Z w { w with heap := w.heap.push o } :=
 ⟨rfl, rfl, rfl, by simp, fun b hb _ => by show (w.heap.push o)[b]? = _; rw [Array.getElem?_push, if_neg (by omega)], Nat.le_refl _⟩
theorem DRep.mono {w w' : World} {X X' : Nat → Prop} {v : Value} {x : DVal} (h : DRep w X v x)
  (hk : ∀ b, b < w.heap.size → ¬ X b → w'.heap[b]? = w.heap[b]? ∧ ¬ X' b) : DRep w' X' v x := by
 induction h with
 | any v hv => exact .any v hv
 | int k n => exact .int k n
 | bool b => exact .bool b
 | str s => exact .str s
 | nil a cap f => exact .nil a cap f
 | lst b off n cap c e fz f es hX hb hn ho hf _ ih =>
  have hh := hk b (lt_of_heap hb) hX
  exact .lst b off n cap c e fz f es hh.2 (hh.1.trans hb) hn ho hf ih
def blks1 : Value → List Nat
 | .pointer (some a) => [a.block]
 | .slice (some a) _ cap => if cap = 0 then [] else [a.block]
 | .map (some b) => [b]
 | _ => []
def blks : Value → List Nat
 | .pointer (some a) => [a.block]
 | .slice (some a) _ cap => if cap = 0 then [] else [a.block]
 | .map (some b) => [b]
 | .agg vs => vs.toList.flatMap blks1
 | _ => []
def Kept (w w' : World) (X X' : Nat → Prop) : Prop := ∀ b, b < w.heap.size → ¬ X b → w'.heap[b]? = w.heap[b]? ∧ ¬ X' b
def PStab (p : World → (Nat → Prop) → Value → Prop) (v : Value) : Prop := ∀ w w' X X', Kept w w' X X' → (∀ b ∈ blks v, w'.heap[b]? = w.heap[b]?) → p w X v → p w' X' v
section
variable (w : World) (X : Nat → Prop) (η : Nat → Value) (C : Ctx)
inductive CRep : Value → CV → Prop
 | d (v : Value) (x : DVal) : DRep w X v x → CRep v (.d x)
 | fl (a : Option Addr) (n : Nat) (f : Nat → List DVal) : DRep w X (.slice a n n) (.lst n f) → CRep (.slice a n n) (.fl n f)
 | own (v : Value) (id : Nat) : v = η id → v.oneCell' = true → CRep v (.own id)
 | ptr (b id off : Nat) : η id = .pointer (some ⟨b, 0, none⟩) → CRep (.pointer (some ⟨b, off, none⟩)) (.ptr id off)
 | pte (b n cap id es idx off : Nat) : η id = .slice (some ⟨b, 0, none⟩) n cap → CRep (.pointer (some ⟨b, idx * es + off, none⟩)) (.pte id es idx off)
 | sub (b N cap id es lo n : Nat) : η id = .slice (some ⟨b, 0, none⟩) N cap → lo + n ≤ N → lo < cap → CRep (.slice (some ⟨b, lo * es, none⟩) n (cap - lo)) (.sub id es lo n)
 | subN (ad ad' : Option Addr) (N id es : Nat) : η id = .slice ad N N → CRep (.slice ad' 0 0) (.sub id es N 0)
 | elm (b off : Nat) (c : Array Value) (e : TypeId) (fz : Nat × Nat) (cs : List DVal) : ¬ X b → w.heap[b]? = some (.cells c e fz) → off + cs.length ≤ c.size →
   (∀ j, j < cs.length → DRep w X (c.getD (off + j) undef) (cs.getD j .any)) → CRep (.pointer (some ⟨b, off, none⟩)) (.elm cs)
 | clo (f : Nat) (ids : List Nat) (vs : Array Value) : vs = (ids.map η).toArray → CRep (.func (.func f) #[] vs) (.clo f ids)
 | sem (v : Value) (p : World → (Nat → Prop) → (Nat → Prop) → Value → Prop) : p C.w0 C.D C.X v → v.oneCell' = true → CRep v (.sem p)
 | ap (v : Value) (id : Nat) : (η id = v ∨ η id = .tuple #[v] ∨ ∃ l, η id = .agg (v :: l).toArray) → v.oneCell' = true → CRep v (.ap id)
def CsRep (vs : Array Value) (cs : List CV) : Prop := vs.size = cs.length ∧ ∀ j, j < cs.length → CRep w X η C (vs.getD j undef) (cs.getD j (.d .any))
inductive TRep : Value → TV → Prop
 | c (v : Value) (x : CV) : CRep w X η C v x → TRep v (.c x)
 | g (vs : Array Value) (xs : List CV) : CsRep w X η C vs xs → TRep (.agg vs) (.g xs)
inductive ARep : Value → AVal → Prop
 | any (v : Value) : ARep v .any
 | v (u : Value) (x : TV) : TRep w X η C u x → ARep u (.v x)
 | t (us : Array Value) (xs : List TV) : us.size = xs.length → (∀ j, j < xs.length → TRep w X η C (us.getD j undef) (xs.getD j (.c (.d .any)))) → ARep (.tuple us) (.t xs)
inductive ORep : Value → Obj → Prop
 | box (b : Nat) (ro : Bool) (c : Array Value) (e : TypeId) (cs : List CV) : w.heap[b]? = some (.cells c e (0, 0)) → CsRep w X η C c cs →
   ORep (.pointer (some ⟨b, 0, none⟩)) (.box ro cs)
 | nil (ad : Option Addr) (es : Nat) (f : Nat → List DVal) : ORep (.slice ad 0 0) (.arr es 0 f)
 | arr (b n cap es : Nat) (c : Array Value) (e : TypeId) (f : Nat → List DVal) : w.heap[b]? = some (.cells c e (0, 0)) → c.size = cap * es → n ≤ cap → cap ≤ maxLen → 0 < cap →
   (∀ i, i < n → (f i).length = es) → (∀ i j, i < n → j < es → DRep w X (c.getD (i * es + j) undef) ((f i).getD j .any)) →
   ORep (.slice (some ⟨b, 0, none⟩) n cap) (.arr es n f)
 | ext (v : Value) (p : World → (Nat → Prop) → Value → Prop) : p w X v → PStab p v → (∀ b ∈ blks v, b < w.heap.size) → ORep v (.ext p)
end
theorem CRep.one {w : World} {X : Nat → Prop} {η : Nat → Value} {C : Ctx} {v : Value} {x : CV} (h : CRep w X η C v x) : v.oneCell' = true := by
 cases h with
 | d _ _ h => exact h.one
 | own _ _ _ h => exact h
 | sem _ _ _ h => exact h
 | ap _ _ _ h => exact h
 | _ => rfl
def CV.refs : CV → List Nat
 | .own id => [id]
 | .ptr id _ => [id]
 | .pte id _ _ _ => [id]
 | .sub id _ _ _ => [id]
 | .clo _ ids => ids
 | .ap id => [id]
 | _ => []
def TV.refs : TV → List Nat
 | .c x => x.refs
 | .g xs => xs.flatMap CV.refs
def AVal.refs : AVal → List Nat
 | .any => []
 | .v x => x.refs
 | .t xs => xs.flatMap TV.refs
def Obj.refs : Obj → List Nat
 | .box _ cs => cs.flatMap CV.refs
 | .arr _ _ _ => []
 | .ext _ => []
def Obj.ro : Obj → Bool
 | .box ro _ => ro
 | .arr _ _ _ => false
 | .ext _ => false
section
variable {w w' : World} {X X' : Nat → Prop} {η η' : Nat → Value} {C : Ctx}
theorem CRep.mono {v : Value} {x : CV} (h : CRep w X η C v x) (hk : Kept w w' X X') (hη : ∀ i ∈ x.refs, η' i = η i) : CRep w' X' η' C v x := by
 cases h with
 | d _ _ h => exact .d _ _ (h.mono hk)
 | fl a n f h => exact .fl a n f (h.mono hk)
 | own _ id h h1 => exact .own _ id (by rw [hη id (by simp [CV.refs])]; exact h) h1
 | ptr b id off h => exact .ptr b id off (by rw [hη id (by simp [CV.refs])]; exact h)
 | pte b n cap id es idx off h => exact .pte b n cap id es idx off (by rw [hη id (by simp [CV.refs])]; exact h)
 | sub b N cap id es lo n h h1 h2 => exact .sub b N cap id es lo n (by rw [hη id (by simp [CV.refs])]; exact h) h1 h2
 | subN ad ad' N id es h => exact .subN ad ad' N id es (by rw [hη id (by simp [CV.refs])]; exact h)
 | elm b off c e fz cs hX hb ho hc =>
  have hh := hk b (lt_of_heap hb) hX
  exact .elm b off c e fz cs hh.2 (hh.1.trans hb) ho fun j hj => (hc j hj).mono hk
 | clo f ids vs h =>
  refine .clo f ids vs ?_
  rw [h]
  congr 1
  exact List.map_congr_left fun i hi => (hη i (by simpa [CV.refs] using hi)).symm
 | sem _ p h h1 => exact .sem _ p h h1
 | ap _ id h h1 => exact .ap _ id (by rw [hη id (by simp [CV.refs])]; exact h) h1
theorem getD_mem {α : Type} {l : List α} {j : Nat} {d : α} (h : j < l.length) : l.getD j d ∈ l := by
 rw [List.getD_eq_getElem?_getD, List.getElem?_eq_getElem h]; exact List.getElem_mem h
theorem CsRep.mono {vs : Array Value} {cs : List CV} (h : CsRep w X η C vs cs) (hk : Kept w w' X X') (hη : ∀ i ∈ cs.flatMap CV.refs, η' i = η i) : CsRep w' X' η' C vs cs :=
 ⟨h.1, fun j hj => (h.2 j hj).mono hk fun i hi => hη i (List.mem_flatMap.2 ⟨_, getD_mem hj, hi⟩)⟩
theorem TRep.mono {v : Value} {x : TV} (h : TRep w X η C v x) (hk : Kept w w' X X') (hη : ∀ i ∈ x.refs, η' i = η i) : TRep w' X' η' C v x := by
 cases h with
 | c _ x h => exact .c _ x (h.mono hk hη)
 | g vs xs h => exact .g vs xs (h.mono hk hη)
theorem ARep.mono {v : Value} {x : AVal} (h : ARep w X η C v x) (hk : Kept w w' X X') (hη : ∀ i ∈ x.refs, η' i = η i) : ARep w' X' η' C v x := by
 cases h with
 | any => exact .any v
 | v _ x h => exact .v _ x (h.mono hk hη)
 | t us xs hs h => exact .t us xs hs fun j hj => (h j hj).mono hk fun i hi => hη i (List.mem_flatMap.2 ⟨_, getD_mem hj, hi⟩)
theorem ORep.mono {v : Value} {o : Obj} (h : ORep w X η C v o) (hk : Kept w w' X X') (hη : ∀ i ∈ o.refs, η' i = η i) (hb : ∀ b, b ∈ blks v → w'.heap[b]? = w.heap[b]?) : ORep w' X' η' C v o := by
 cases h with
 | box b ro c e cs hh hc => exact .box b ro c e cs ((hb b (by simp [blks])).trans hh) (hc.mono hk hη)
 | nil ad es f => exact .nil ad es f
 | arr b n cap es c e f hh hs hn hm hc hl he =>
  exact .arr b n cap es c e f ((hb b (by simp [blks]; omega)).trans hh) hs hn hm hc hl fun i j hi hj => (he i j hi hj).mono hk
 | ext _ p h h1 h2 =>
  refine .ext _ p (h1 w w' X X' hk hb h) h1 fun b hbb => ?_
  have := hb b hbb
  have h3 := h2 b hbb
  rcases Nat.lt_or_ge b w'.heap.size with h4 | h4
  ·exact h4
  ·rw [Array.getElem?_eq_none h4, Array.getElem?_eq_getElem h3] at this; cases this
theorem ORep.lt {v : Value} {o : Obj} (h : ORep w X η C v o) {b : Nat} (hb : b ∈ blks v) : b < w.heap.size := by
 cases h with
 | box b' ro c e cs hh hc => simp [blks] at hb; subst hb; exact lt_of_heap hh
 | nil ad es f => cases ad <;> simp [blks] at hb
 | arr b' n cap es c e f hh hs hn hm hc hl he => simp [blks] at hb; obtain ⟨_, rfl⟩ := hb; exact lt_of_heap hh
 | ext _ p h h1 h2 => exact h2 b hb
end
def Own (s : Sto) (η : Nat → Value) (b : Nat) : Prop := ∃ i o, s i = some o ∧ b ∈ blks (η i)
def XS (C : Ctx) (s : Sto) (η : Nat → Value) (b : Nat) : Prop := (C.X b ∧ ¬ C.D b) ∨ Own s η b
structure Ctx.Ok (C : Ctx) : Prop where
 md : ∀ b, C.M b → C.D b
 dx : ∀ b, C.D b → C.X b
 lt : ∀ b, C.X b → b < C.w0.heap.size
structure Conc (C : Ctx) (nt : Nat) (R : Nat → Prop) (η : Nat → Value) (e : Env) (s : Sto) (a : Act) (w : World) : Prop where
 ok : C.Ok
 df : a.defers = []
 sz : a.tmps.size = nt
 ev : ∀ t, ARep w (XS C s η) η C (a.tmps.getD t undef) (e t)
 er : ∀ t i, i ∈ (e t).refs → R i
 st : ∀ i o, s i = some o → ORep w (XS C s η) η C (η i) o
 sr : ∀ i o, s i = some o → R i ∧ ∀ j ∈ o.refs, R j
 ds : ∀ i j b, s i ≠ none → s j ≠ none → b ∈ blks (η i) → b ∈ blks (η j) → i = j
 ow : ∀ i o b, s i = some o → b ∈ blks (η i) → (o.ro = true ∧ C.D b) ∨ C.M b ∨ C.w0.heap.size ≤ b
 fr : Stp C.M C.w0 w
 pn : ∀ i v, C.pin i = some v → η i = v ∧ R i
end Go.Ab
end

section
namespace Go.Ab
structure SR where
 v : AVal := .any
 del : List Nat := []
 upd : Option (Nat × Obj) := none
 new : Option Obj := none
 cond : Prop := True
def SR.env (r : SR) (d : Option Tmp) (e : Env) : Env :=
 match d with
 | some d => fun t => if t = d then r.v else e t
 | none => e
def SR.sto (r : SR) (d : Option Tmp) (s : Sto) : Sto := fun i =>
 match r.new, d with
 | some o, some d => if i = d then some o else
  match r.upd with
  | some (k, o') => if i = k then some o' else if r.del.contains i then none else s i
  | none => if r.del.contains i then none else s i
 | _, _ =>
  match r.upd with
  | some (k, o') => if i = k then some o' else if r.del.contains i then none else s i
  | none => if r.del.contains i then none else s i
def SR.eta (r : SR) (d : Option Tmp) (v : Value) (η : Nat → Value) : Nat → Value := fun i =>
 match r.new, d with
 | some _, some d => if i = d then v else η i
 | _, _ => η i
def SR.rng (r : SR) (d : Option Tmp) (R : Nat → Prop) : Nat → Prop := fun i => R i ∨ (r.new ≠ none ∧ d = some i)
theorem put_tmps (a : Act) (d : Option Tmp) (v : Value) (t : Nat) (hd : ∀ x, d = some x → x < a.tmps.size) :
  (a.put d v).tmps.getD t undef = if d = some t then v else a.tmps.getD t undef := by
 cases d with
 | none => simp [Act.put]
 | some x =>
  have hx := hd x rfl
  simp only [Act.put, Option.some.injEq]
  by_cases h : x = t
  ·subst h; simp [hx]
  ·simp [h]
theorem put_size (a : Act) (d : Option Tmp) (v : Value) : (a.put d v).tmps.size = a.tmps.size := by cases d <;> simp [Act.put]
theorem put_defers (a : Act) (d : Option Tmp) (v : Value) : (a.put d v).defers = a.defers := by cases d <;> rfl
section
variable {C : Ctx} {nt : Nat} {R : Nat → Prop} {η : Nat → Value} {e : Env} {s : Sto} {a : Act} {w : World}
theorem Conc.lt (h : Conc C nt R η e s a w) {b : Nat} (hb : Own s η b) : b < w.heap.size := by
 obtain ⟨i, o, hi, hb⟩ := hb
 exact (h.st i o hi).lt hb
theorem sto_cases (r : SR) (d : Option Tmp) : ∀ i o, r.sto d s i = some o → (r.new = some o ∧ d = some i) ∨ (r.upd = some (i, o) ∧ (r.new = none ∨ d ≠ some i)) ∨ (s i = some o ∧ i ∉ r.del ∧ (∀ o', r.upd ≠ some (i, o')) ∧ (r.new = none ∨ d ≠ some i)) := by
 intro i o hi
 have hold : (match r.upd with | some (k, o') => if i = k then some o' else if r.del.contains i then none else s i | none => if r.del.contains i then none else s i) = some o →
   r.upd = some (i, o) ∨ (s i = some o ∧ i ∉ r.del ∧ ∀ o', r.upd ≠ some (i, o')) := by
  intro hh
  cases hu : r.upd with
  | none =>
   simp only [hu] at hh
   split at hh
   ·cases hh
   ·rename_i hc; exact .inr ⟨hh, by simpa using hc, by simp⟩
  | some ko =>
   obtain ⟨k, o'⟩ := ko
   simp only [hu] at hh
   split at hh
   ·rename_i hk; cases hh; subst hk; exact .inl rfl
   ·rename_i hk
    split at hh
    ·cases hh
    ·rename_i hc; exact .inr ⟨hh, by simpa using hc, fun o'' ho => by cases ho; exact hk rfl⟩
 unfold SR.sto at hi
 cases hn : r.new with
 | none =>
  simp only [hn] at hi
  rcases hold hi with h1 | ⟨h1, h2, h3⟩
  ·exact .inr (.inl ⟨h1, .inl rfl⟩)
  ·exact .inr (.inr ⟨h1, h2, h3, .inl rfl⟩)
 | some on =>
  cases hdd : d with
  | none =>
   simp only [hn, hdd] at hi
   rcases hold hi with h1 | ⟨h1, h2, h3⟩
   ·exact .inr (.inl ⟨h1, .inr (by simp)⟩)
   ·exact .inr (.inr ⟨h1, h2, h3, .inr (by simp)⟩)
  | some dd =>
   simp only [hn, hdd] at hi
   split at hi
   ·rename_i he; cases hi; subst he; exact .inl ⟨rfl, rfl⟩
   ·rename_i he
    rcases hold hi with h1 | ⟨h1, h2, h3⟩
    ·exact .inr (.inl ⟨h1, .inr fun hc => he (Option.some.inj hc).symm⟩)
    ·exact .inr (.inr ⟨h1, h2, h3, .inr fun hc => he (Option.some.inj hc).symm⟩)
theorem eta_old (r : SR) (d : Option Tmp) (v : Value) : ∀ i, (r.new = none ∨ d ≠ some i) → r.eta d v η i = η i := by
 intro i hi
 unfold SR.eta
 cases hn : r.new with
 | none => rfl
 | some on =>
  cases hdd : d with
  | none => rfl
  | some dd =>
   rcases hi with hi | hi
   ·rw [hn] at hi; cases hi
   ·simp only []
    rw [if_neg]; intro he; subst he; exact hi hdd
theorem own_step (r : SR) (d : Option Tmp) (v : Value) (N : Nat → Prop) (hnew : ∀ o dd, r.new = some o → d = some dd → ∀ b, b ∈ blks v → N b ∨ Own s η b)
  (hupd : ∀ k o, r.upd = some (k, o) → s k ≠ none) : ∀ b, Own (r.sto d s) (r.eta d v η) b → N b ∨ Own s η b := by
 rintro b ⟨i, o, hi, hb⟩
 rcases sto_cases r d i o hi with ⟨hn, hdd⟩ | ⟨hu, hx⟩ | ⟨ho, _, _, hx⟩
 ·rw [show r.eta d v η i = v from by simp [SR.eta, hn, hdd]] at hb
  exact hnew o i hn hdd b hb
 ·rw [eta_old r d v i hx] at hb
  obtain ⟨o0, h0⟩ := Option.ne_none_iff_exists'.1 (hupd i o hu)
  exact .inr ⟨i, o0, h0, hb⟩
 ·rw [eta_old r d v i hx] at hb
  exact .inr ⟨i, o, ho, hb⟩
theorem kept_step {w w' : World} (r : SR) (d : Option Tmp) (v : Value) (Z : Nat → Prop) (hstep : Stp Z w w') (hZ : ∀ b, Z b → Own s η b)
  (hnew : ∀ o dd, r.new = some o → d = some dd → ∀ b, b ∈ blks v → w.heap.size ≤ b ∨ Own s η b)
  (hupd : ∀ k o, r.upd = some (k, o) → s k ≠ none) : Kept w w' (XS C s η) (XS C (r.sto d s) (r.eta d v η)) := by
 intro b hb hX
 have hno : ¬ Own s η b := fun hh => hX (.inr hh)
 refine ⟨hstep.block b hb fun hz => hno (hZ b hz), fun hX' => ?_⟩
 rcases hX' with hh | hh
 ·exact hX (.inl hh)
 ·rcases own_step r d v _ hnew hupd b hh with hf | hf
  ·omega
  ·exact hno hf
theorem eta_R {R : Nat → Prop} (r : SR) (d : Option Tmp) (v : Value) (hR : ∀ o dd, r.new = some o → d = some dd → ¬ R dd) : ∀ i, R i → r.eta d v η i = η i := by
 intro i hi
 refine eta_old r d v i ?_
 cases hn : r.new with
 | none => exact .inl rfl
 | some o => right; intro hdd; exact hR o i hn hdd hi
theorem Conc.step (h : Conc C nt R η e s a w) (d : Option Tmp) (hd : ∀ x, d = some x → x < nt) (r : SR) (v : Value) (w' : World) (Z : Nat → Prop) (hstep : Stp Z w w')
  (hZ : ∀ b, Z b → (∃ i, (i ∈ r.del ∨ ∃ o, r.upd = some (i, o)) ∧ s i ≠ none ∧ b ∈ blks (η i)) ∧ (C.M b ∨ C.w0.heap.size ≤ b))
  (hnew : ∀ o dd, r.new = some o → d = some dd → ¬ R dd ∧ o.ro = false ∧ (∀ j ∈ o.refs, R j) ∧ ORep w' (XS C (r.sto d s) (r.eta d v η)) (r.eta d v η) C v o ∧
   (∀ b, b ∈ blks v → w.heap.size ≤ b ∨ ((∃ i ∈ r.del, s i ≠ none ∧ b ∈ blks (η i)) ∧ (C.M b ∨ C.w0.heap.size ≤ b))))
  (hupd : ∀ k o, r.upd = some (k, o) → (∃ o0, s k = some o0 ∧ o0.ro = false) ∧ o.ro = false ∧ k ∉ r.del ∧ (∀ j ∈ o.refs, R j) ∧ ORep w' (XS C (r.sto d s) (r.eta d v η)) (r.eta d v η) C (η k) o)
  (hv : d ≠ none → ARep w' (XS C (r.sto d s) (r.eta d v η)) (r.eta d v η) C v r.v ∧ ∀ j ∈ r.v.refs, r.rng d R j) :
  Conc C nt (r.rng d R) (r.eta d v η) (r.env d e) (r.sto d s) (a.put d v) w' := by
 have hs := sto_cases (s := s) r d
 have heta := eta_old (η := η) r d v
 have hetaN : ∀ o i, r.new = some o → d = some i → r.eta d v η i = v := by
  intro o i h1 h2
  simp [SR.eta, h1, h2]
 have hetaR : ∀ i, R i → r.eta d v η i = η i := by
  intro i hi
  refine heta i ?_
  cases hn : r.new with
  | none => exact .inl rfl
  | some o => right; intro hdd; exact (hnew o i hn hdd).1 hi
 have hown : ∀ b, Own (r.sto d s) (r.eta d v η) b → w.heap.size ≤ b ∨ Own s η b := by
  rintro b ⟨i, o, hi, hb⟩
  rcases hs i o hi with ⟨hn, hdd⟩ | ⟨hu, hx⟩ | ⟨ho, _, _, hx⟩
  ·rw [hetaN o i hn hdd] at hb
   rcases (hnew o i hn hdd).2.2.2.2 b hb with hf | ⟨⟨j, _, hj, hjb⟩, _⟩
   ·exact .inl hf
   ·obtain ⟨oj, hoj⟩ := Option.ne_none_iff_exists'.1 hj
    exact .inr ⟨j, oj, hoj, hjb⟩
  ·rw [heta i hx] at hb
   obtain ⟨o0, h0, _⟩ := (hupd i o hu).1
   exact .inr ⟨i, o0, h0, hb⟩
  ·rw [heta i hx] at hb
   exact .inr ⟨i, o, ho, hb⟩
 have hkept : Kept w w' (XS C s η) (XS C (r.sto d s) (r.eta d v η)) := by
  intro b hb hX
  have hno : ¬ Own s η b := fun hh => hX (.inr hh)
  refine ⟨hstep.block b hb fun hz => ?_, fun hX' => ?_⟩
  ·obtain ⟨⟨i, _, hi, hib⟩, _⟩ := hZ b hz
   obtain ⟨oi, hoi⟩ := Option.ne_none_iff_exists'.1 hi
   exact hno ⟨i, oi, hoi, hib⟩
  ·rcases hX' with hh | hh
   ·exact hX (.inl hh)
   ·rcases hown b hh with hf | hf
    ·omega
    ·exact hno hf
 refine ⟨h.ok, by rw [put_defers]; exact h.df, by rw [put_size]; exact h.sz, ?_, ?_, ?_, ?_, ?_, ?_, ?_, fun i u hi => ⟨(hetaR i (h.pn i u hi).2).trans (h.pn i u hi).1, .inl (h.pn i u hi).2⟩⟩
 ·intro t
  rw [put_tmps a d v t (by rw [h.sz]; exact hd)]
  by_cases ht : d = some t
  ·subst ht
   simp only [if_true, SR.env]
   exact (hv (by simp)).1
  ·rw [if_neg ht]
   have : r.env d e t = e t := by
    unfold SR.env
    cases d with
    | none => rfl
    | some x => simp only []; rw [if_neg]; intro hh; subst hh; exact ht rfl
   rw [this]
   exact (h.ev t).mono hkept fun i hi => hetaR i (h.er t i hi)
 ·intro t i hi
  by_cases ht : d = some t
  ·subst ht
   simp only [SR.env, if_true] at hi
   exact (hv (by simp)).2 i hi
  ·have : r.env d e t = e t := by
    unfold SR.env
    cases d with
    | none => rfl
    | some x => simp only []; rw [if_neg]; intro hh; subst hh; exact ht rfl
   rw [this] at hi
   exact .inl (h.er t i hi)
 ·intro i o hi
  rcases hs i o hi with ⟨hn, hdd⟩ | ⟨hu, hx⟩ | ⟨ho, hdel, hup, hx⟩
  ·rw [hetaN o i hn hdd]; exact (hnew o i hn hdd).2.2.2.1
  ·rw [heta i hx]; exact (hupd i o hu).2.2.2.2
  ·rw [heta i hx]
   refine (h.st i o ho).mono hkept (fun j hj => hetaR j ((h.sr i o ho).2 j hj)) fun b hb => ?_
   refine hstep.block b ((h.st i o ho).lt hb) fun hz => ?_
   obtain ⟨⟨j, hj, hjn, hjb⟩, _⟩ := hZ b hz
   have hij : i = j := h.ds i j b (by rw [ho]; simp) hjn hb hjb
   subst hij
   rcases hj with hj | ⟨o', ho'⟩
   ·exact hdel hj
   ·exact hup o' ho'
 ·intro i o hi
  rcases hs i o hi with ⟨hn, hdd⟩ | ⟨hu, hx⟩ | ⟨ho, hdel, hup, hx⟩
  ·exact ⟨.inr ⟨by rw [hn]; simp, hdd⟩, fun j hj => .inl ((hnew o i hn hdd).2.2.1 j hj)⟩
  ·obtain ⟨o0, h0, _⟩ := (hupd i o hu).1
   exact ⟨.inl (h.sr i o0 h0).1, fun j hj => .inl ((hupd i o hu).2.2.2.1 j hj)⟩
  ·exact ⟨.inl (h.sr i o ho).1, fun j hj => .inl ((h.sr i o ho).2 j hj)⟩
 ·
  have old : ∀ i o, r.sto d s i = some o → ¬ (r.new = some o ∧ d = some i) → s i ≠ none ∧ i ∉ r.del ∧ r.eta d v η i = η i := by
   intro i o hi hn
   rcases hs i o hi with hh | ⟨hu, hx⟩ | ⟨ho, hdel, hup, hx⟩
   ·exact absurd hh hn
   ·obtain ⟨o0, h0, _⟩ := (hupd i o hu).1
    exact ⟨by rw [h0]; simp, (hupd i o hu).2.2.1, heta i hx⟩
   ·exact ⟨by rw [ho]; simp, hdel, heta i hx⟩
  have clash : ∀ i o j o', r.sto d s j = some o' → (r.new = some o ∧ d = some i) → ¬ (r.new = some o' ∧ d = some j) → ∀ b, b ∈ blks v → b ∈ blks (η j) → False := by
   intro i o j o' hj hn hnj b hb hb'
   obtain ⟨h1, h2, _⟩ := old j o' hj hnj
   obtain ⟨oj, hoj⟩ := Option.ne_none_iff_exists'.1 h1
   rcases (hnew o i hn.1 hn.2).2.2.2.2 b hb with hf | ⟨⟨k, hk, hkn, hkb⟩, _⟩
   ·have := (h.st j oj hoj).lt hb'; omega
   ·have : j = k := h.ds j k b h1 hkn hb' hkb
    subst this; exact h2 hk
  intro i j b hi hj hbi hbj
  obtain ⟨oi, hoi⟩ := Option.ne_none_iff_exists'.1 hi
  obtain ⟨oj, hoj⟩ := Option.ne_none_iff_exists'.1 hj
  by_cases ni : r.new = some oi ∧ d = some i
  ·by_cases nj : r.new = some oj ∧ d = some j
   ·have := ni.2.symm.trans nj.2; simpa using this
   ·exfalso
    rw [hetaN oi i ni.1 ni.2] at hbi
    rw [(old j oj hoj nj).2.2] at hbj
    exact clash i oi j oj hoj ni nj b hbi hbj
  ·by_cases nj : r.new = some oj ∧ d = some j
   ·exfalso
    rw [hetaN oj j nj.1 nj.2] at hbj
    rw [(old i oi hoi ni).2.2] at hbi
    exact clash j oj i oi hoi nj ni b hbj hbi
   ·obtain ⟨a1, _, a3⟩ := old i oi hoi ni
    obtain ⟨b1, _, b3⟩ := old j oj hoj nj
    rw [a3] at hbi; rw [b3] at hbj
    exact h.ds i j b a1 b1 hbi hbj
 ·intro i o b hi hb
  rcases hs i o hi with ⟨hn, hdd⟩ | ⟨hu, hx⟩ | ⟨ho, hdel, hup, hx⟩
  ·rw [hetaN o i hn hdd] at hb
   rcases (hnew o i hn hdd).2.2.2.2 b hb with hf | ⟨_, hm⟩
   ·exact .inr (.inr (Nat.le_trans h.fr.size hf))
   ·exact .inr hm
  ·rw [heta i hx] at hb
   obtain ⟨o0, h0, hro⟩ := (hupd i o hu).1
   rcases h.ow i o0 b h0 hb with ⟨h1, _⟩ | h1
   ·rw [hro] at h1; cases h1
   ·exact .inr h1
  ·rw [heta i hx] at hb
   exact h.ow i o b ho hb
 ·refine h.fr.trans (hstep.mono fun b _ hz => ?_)
  exact (hZ b hz).2
theorem Conc.val (h : Conc C nt R η e s a w) (d : Option Tmp) (hd : ∀ x, d = some x → x < nt) (x : AVal) (v : Value) (hv : d ≠ none → ARep w (XS C s η) η C v x ∧ ∀ j ∈ x.refs, R j) :
  Conc C nt R η (SR.env { v := x } d e) s (a.put d v) w := by
 have hs : SR.sto { v := x } d s = s := by funext i; simp [SR.sto]
 have he : SR.eta { v := x } d v η = η := by funext i; simp [SR.eta]
 have hr : SR.rng { v := x } d R = R := by funext i; simp [SR.rng]
 have := h.step d hd { v := x } v w (fun _ => False) (Stp.refl _ _) (fun b hb => hb.elim) (fun o dd ho => by cases ho) (fun k o ho => by cases ho)
  (fun hn => by rw [hs, he, hr]; exact hv hn)
 rwa [hs, he, hr] at this
theorem Conc.drew (h : Conc C nt R η e s a w) : Conc C nt R η e s a { w with drawn := w.drawn + 1 } := by
 have hk : Kept w { w with drawn := w.drawn + 1 } (XS C s η) (XS C s η) := fun b _ hX => ⟨rfl, hX⟩
 exact ⟨h.ok, h.df, h.sz, fun t => (h.ev t).mono hk fun _ _ => rfl, h.er, fun i o ho => (h.st i o ho).mono hk (fun _ _ => rfl) fun _ _ => rfl, h.sr, h.ds, h.ow,
  ⟨h.fr.os, h.fr.tape, h.fr.output, h.fr.size, h.fr.block, Nat.le_succ_of_le h.fr.dr⟩, h.pn⟩
end
end Go.Ab
end

section
namespace Go.Ab
inductive TK where
 | int (k : IntKind)
 | bool
 | str
 | slice (e : Nat)
 | struct (fs : List (Nat × Nat))
 | array (n e : Nat)
 | other
def TK.agg : TK → Bool
 | .struct _ => true
 | .array _ _ => true
 | _ => false
structure TI where
 kind : TK
 size : Nat
 bytes : Nat
 zero : List CV
abbrev Lay := Nat → Option TI
def I64 (n : Int) : Prop := -9223372036854775808 ≤ n ∧ n ≤ 9223372036854775807
def LIM : Nat := 4294967296
def vi (n : Int) : AVal := .v (.c (.d (.int .i64 n)))
def vb (b : Bool) : AVal := .v (.c (.d (.bool b)))
def aconst : Value → AVal
 | .int k n => .v (.c (.d (.int k n)))
 | .bool b => .v (.c (.d (.bool b)))
 | .string s => .v (.c (.d (.str s)))
 | .slice none 0 0 => .v (.c (.fl 0 fun _ => []))
 | _ => .any
def aev (e : Env) : Operand → AVal
 | .tmp t => e t
 | .const v => aconst v
 | .func f => .v (.c (.clo f []))
 | .global _ => .any
def acells : AVal → Option (List CV)
 | .v (.c x) => some [x]
 | .v (.g xs) => some xs
 | _ => none
def mkT (agg : Bool) (cs : List CV) : Option AVal :=
 match agg with
 | true => some (.v (.g cs))
 | false => match cs with
  | [x] => some (.v (.c x))
  | _ => none
def toD : CV → Option DVal
 | .d x => some x
 | .fl n f => some (.lst n f)
 | _ => none
def toDs : List CV → Option (List DVal)
 | [] => some []
 | x :: xs => match toD x, toDs xs with
  | some a, some b => some (a :: b)
  | _, _ => none
def rd (s : Sto) (n : Nat) : AVal → Option (List CV × Prop)
 | .v (.c (.ptr id off)) => match s id with
  | some (.box _ cs) => if off + n ≤ cs.length then some ((cs.drop off).take n, True) else none
  | _ => none
 | .v (.c (.elm cs)) => if n ≤ cs.length then some ((cs.take n).map .d, True) else none
 | .v (.c (.pte id es idx off)) => match s id with
  | some (.arr es' k f) => if es = es' ∧ off + n ≤ es ∧ (f idx).length = es then some ((((f idx).drop off).take n).map .d, idx < k) else none
  | _ => none
 | _ => none
def splice {α : Type} (cs : List α) (off : Nat) (xs : List α) : List α := cs.take off ++ (xs ++ cs.drop (off + xs.length))
def wr (s : Sto) (xs : List CV) : AVal → Option SR
 | .v (.c (.ptr id off)) => match s id with
  | some (.box false cs) => if off + xs.length ≤ cs.length then some { upd := some (id, .box false (splice cs off xs)) } else none
  | _ => none
 | .v (.c (.pte id es idx off)) => match s id with
  | some (.arr es' k f) => match toDs xs with
   | some ds => if es = es' ∧ off + ds.length ≤ es ∧ (f idx).length = es then
     some { upd := some (id, .arr es k fun j => if j = idx then splice (f idx) off ds else f j), cond := idx < k } else none
   | none => none
  | _ => none
 | _ => none
def arith (m : Bool) (k : IntKind) (n : Int) (c : Prop) : SR :=
 match k, m with
 | .i64, false => { v := vi n, cond := I64 n ∧ c }
 | k, _ => { v := .v (.c (.d (.int k (k.wrap n)))), cond := c }
def band (k : IntKind) (x y : Int) : Int := k.wrap (BitVec.ofInt k.bits x &&& BitVec.ofInt k.bits y).toNat
def bor (k : IntKind) (x y : Int) : Int := k.wrap (BitVec.ofInt k.bits x ||| BitVec.ofInt k.bits y).toNat
def bxor (k : IntKind) (x y : Int) : Int := k.wrap (BitVec.ofInt k.bits x ^^^ BitVec.ofInt k.bits y).toNat
def abin (m : Bool) (op : BinOp) (x y : AVal) : Option SR :=
 match x, y with
 | .v (.c (.d (.int k a))), .v (.c (.d (.int k' b))) =>
  match op with
  | .shl => some (arith m k (a * 2 ^ (min b.toNat k.bits)) (0 ≤ b))
  | .shr => some { v := .v (.c (.d (.int k (a.fdiv (2 ^ (min b.toNat k.bits)))))), cond := 0 ≤ b }
  | op => if k = k' then match op with
   | .add => some (arith m k (a + b) True)
   | .sub => some (arith m k (a - b) True)
   | .mul => some (arith m k (a * b) True)
   | .quo => some (arith m k (a.tdiv b) (b ≠ 0))
   | .rem => some { v := .v (.c (.d (.int k (a.tmod b)))), cond := b ≠ 0 }
   | .and => some { v := .v (.c (.d (.int k (band k a b)))) }
   | .or => some { v := .v (.c (.d (.int k (bor k a b)))) }
   | .xor => some { v := .v (.c (.d (.int k (bxor k a b)))) }
   | .eql => some { v := vb (a == b) }
   | .neq => some { v := vb (a != b) }
   | .lss => some { v := vb (a < b) }
   | .leq => some { v := vb (a ≤ b) }
   | .gtr => some { v := vb (b < a) }
   | .geq => some { v := vb (b ≤ a) }
   | _ => none else none
 | _, _ => none
def aun (m : Bool) (op : UnOp) (x : AVal) : Option SR :=
 match op, x with
 | .not, .v (.c (.d (.bool b))) => some { v := vb (!b) }
 | .neg, .v (.c (.d (.int k n))) => some (arith m k (0 - n) True)
 | _, _ => none
def gmin (a b : Int) : Int := if b < a then b else a
def gmax (a b : Int) : Int := if a < b then b else a
def asI : AVal → Option Int
 | .v (.c (.d (.int _ n))) => some n
 | _ => none
def asL (s : Sto) : AVal → Option (Nat × (Nat → List DVal))
 | .v (.c (.d (.lst n f))) => some (n, f)
 | .v (.c (.fl n f)) => some (n, f)
 | .v (.c (.own id)) => match s id with
  | some (.arr _ n f) => some (n, f)
  | _ => none
 | _ => none
def appF (n : Nat) (f g : Nat → List DVal) : Nat → List DVal := fun i => if i < n then f i else g (i - n)
def asApp (s : Sto) (es m : Nat) : AVal → Option (List Nat × Nat × (Nat → List DVal) × Prop)
 | .v (.c (.own id)) => match s id with
  | some (.arr es' n f) => if es = es' then some ([id], n, f, True) else none
  | _ => none
 | .v (.c (.fl n f)) => if n = 0 ∨ 0 < m then some ([], n, f, ∀ j, j < n → (f j).length = es) else none
 | _ => none
def fillA (pl : Nat → Option (Nat × Nat)) (cells : List CV) : List (Nat × AVal) → Option (List CV)
 | [] => some cells
 | (i, x) :: rest => match pl i, acells x with
  | some (off, size), some xs => if xs.length = size ∧ off + size ≤ cells.length then fillA pl (splice cells off xs) rest else none
  | _, _ => none
def fieldPl (L : Lay) : List (Nat × Nat) → Option (List (Nat × Nat))
 | [] => some []
 | (off, t) :: r => match L t, fieldPl L r with
  | some ti, some l => some ((off, ti.size) :: l)
  | _, _ => none
def repl {α : Type} (n : Nat) (xs : List α) : List α := match n with | 0 => [] | n + 1 => xs ++ repl n xs
def abuiltin (L : Lay) (s : Sto) (b : Builtin) (tys : Array TypeId) (xs : List AVal) : Option SR :=
 match b, xs with
 | .len, [x] => match tys.toList with
  | [t] => match L t with
   | some { kind := .slice _, .. } => match asL s x with
    | some (n, _) => some { v := vi n }
    | none => none
   | some { kind := .array n _, .. } => some { v := vi n }
   | some { kind := .str, .. } => match x with
    | .v (.c (.d (.str b))) => some { v := vi b.size }
    | _ => none
   | _ => none
  | _ => none
 | .min, [.v (.c (.d (.int k a))), .v (.c (.d (.int _ b)))] => some { v := .v (.c (.d (.int k (gmin a b)))) }
 | .max, [.v (.c (.d (.int k a))), .v (.c (.d (.int _ b)))] => some { v := .v (.c (.d (.int k (gmax a b)))) }
 | .append, [x, y] => match tys.toList with
  | [t, t'] => if t = t' then match L t with
   | some { kind := .slice el, .. } => match L el with
    | some te => match asL s y with
     | some (k, g) => match asApp s te.size k x with
      | some (del, n, f, c) => if 0 < te.size ∧ te.bytes ≤ 8192 ∧ te.zero.length = te.size then
        some { v := .any, del := del, new := some (.arr te.size (n + k) (appF n f g)), cond := n + k ≤ LIM ∧ (∀ j, j < k → (g j).length = te.size) ∧ c } else none
      | none => none
     | none => none
    | none => none
   | _ => none else none
  | _ => none
 | _, _ => none
def sl (n : Nat) (f : Nat → List DVal) (lo hi : Option Int) : (Nat × (Nat → List DVal)) × Prop :=
 match lo, hi with
 | none, none => ((n, f), True)
 | some l, none => ((n - l.toNat, fun i => f (l.toNat + i)), 0 ≤ l ∧ l ≤ n)
 | none, some h => ((h.toNat, f), 0 ≤ h ∧ h ≤ n)
 | some l, some h => ((h.toNat - l.toNat, fun i => f (l.toNat + i)), 0 ≤ l ∧ l ≤ h ∧ h ≤ n)
def oI (e : Env) : Option Operand → Option (Option Int)
 | none => some none
 | some x => match asI (aev e x) with
  | some n => some (some n)
  | none => none
def aop1 (L : Lay) (m : Bool) (e : Env) (s : Sto) (o : Oper) : Option SR :=
 match o.op with
 | .move x => some { v := aev e x }
 | .assign x => match m, aev e x, o.dst with
  | false, x, _ => some { v := x }
  | true, .v (.c (.fl 0 f)), some d => match L o.type with
   | some { kind := .slice el, .. } => match L el with
    | some te => some { v := .v (.c (.own d)), new := some (.arr te.size 0 f) }
    | none => none
   | _ => none
  | _, _, _ => none
 | .pick c x y => match aev e c with
  | .v (.c (.d (.bool true))) => some { v := aev e x }
  | .v (.c (.d (.bool false))) => some { v := aev e y }
  | _ => none
 | .alloc t => match L t, o.dst with
  | some ti, some d => some { v := .v (.c (.ptr d 0)), new := some (.box false ti.zero) }
  | _, _ => none
 | .box _ x => match acells (aev e x), o.dst with
  | some xs, some d => some { v := .v (.c (.ptr d 0)), new := some (.box false xs) }
  | _, _ => none
 | .build t ps => match L t with
  | some { kind := .struct fs, zero := z, .. } => match fieldPl L fs with
   | some pl => match fillA (fun i => pl[i]?) z (ps.toList.map fun p => (p.1, aev e p.2)) with
    | some cs => some { v := .v (.g cs) }
    | none => none
   | none => none
  | some { kind := .array _ el, zero := z, .. } => match L el with
   | some te => match fillA (fun i => some (i * te.size, te.size)) z (ps.toList.map fun p => (p.1, aev e p.2)) with
    | some cs => some { v := .v (.g cs) }
    | none => none
   | none => none
  | _ => none
 | .buildSlice t len ps => match L t with
  | some { kind := .slice el, .. } => match L el with
   | some te => if len * te.size ≤ 16777216 ∧ te.zero.length = te.size ∧ 0 < te.size then
     match fillA (fun i => some (i * te.size, te.size)) (repl len te.zero) (ps.toList.map fun p => (p.1, aev e p.2)) with
     | some cs => match toDs cs with
      | some ds => match m, o.dst with
       | false, _ => some { v := .v (.c (.d (.lst len fun i => (ds.drop (i * te.size)).take te.size))) }
       | true, some d => some { v := .v (.c (.own d)), new := some (.arr te.size len fun i => (ds.drop (i * te.size)).take te.size) }
       | _, _ => none
      | none => none
     | none => none else none
   | none => none
  | _ => none
 | .load t x => match L t with
  | some ti => match rd s ti.size (aev e x) with
   | some (cs, c) => match mkT ti.kind.agg cs with
    | some v => some { v := v, cond := c }
    | none => none
   | none => none
  | none => none
 | .store t x y => match L t, acells (aev e y) with
  | some ti, some xs => if xs.length = ti.size then wr s xs (aev e x) else none
  | _, _ => none
 | .nilCheck x => match aev e x with
  | .v (.c (.ptr id off)) => some { v := .v (.c (.ptr id off)) }
  | .v (.c (.pte id es idx off)) => some { v := .v (.c (.pte id es idx off)) }
  | .v (.c (.elm cs)) => some { v := .v (.c (.elm cs)) }
  | _ => none
 | .binOp op _ x y _ => abin m op (aev e x) (aev e y)
 | .unOp op _ x => aun m op (aev e x)
 | .convert src dst x => match L src, L dst, aev e x with
  | some { kind := .int _, .. }, some { kind := .int k, .. }, .v (.c (.d (.int _ n))) => some (arith m k n True)
  | some { kind := .str, .. }, some { kind := .str, .. }, .v (.c (.d (.str b))) => some { v := .v (.c (.d (.str b))) }
  | _, _, _ => none
 | .makeFunc (.func f) first caps => if first.size = 0 then match cloIds (caps.toList.map (aev e)) with
   | some ids => some { v := .v (.c (.clo f ids)) }
   | none => none else none
 | .slice t x lo hi none => match L t with
  | some { kind := .slice el, .. } => match L el with
   | some te => match m, aev e x, oI e lo, oI e hi with
    | false, x, some lo, some hi => match asF x with
     | some (n, f) => some { v := .v (.c (.d (.lst (sl n f lo hi).1.1 (sl n f lo hi).1.2))), cond := (sl n f lo hi).2 ∧ ∀ j, j < n → (f j).length = te.size }
     | none => none
    | true, .v (.c (.own id)), some none, some (some h) => match s id, o.dst with
     | some (.arr es n f), some d => some { v := .v (.c (.own d)), del := [id], new := some (.arr es h.toNat f), cond := 0 ≤ h ∧ h ≤ n }
     | _, _ => none
    | _, _, _, _ => none
   | none => none
  | _ => none
 | .slice t x none (some h) (some mx) => match L t with
  | some { kind := .slice el, .. } => match L el, asF (aev e x), asI (aev e h), asI (aev e mx) with
   | some te, some (n, f), some h, some mx => if h = mx ∧ 0 < h then
     some { v := .v (.c (.fl h.toNat f)), cond := h ≤ n ∧ ∀ j, j < n → (f j).length = te.size } else none
   | _, _, _, _ => none
  | _ => none
 | .fieldAddr t x k => match L t with
  | some { kind := .struct fs, .. } => match fs[k]? with
   | some (off, ft) => match L ft with
    | some tf => if tf.size = 0 then none else match aev e x with
     | .v (.c (.ptr id o)) => some { v := .v (.c (.ptr id (o + off))) }
     | .v (.c (.pte id es idx o)) => some { v := .v (.c (.pte id es idx (o + off))) }
     | .v (.c (.elm cs)) => if off ≤ cs.length then some { v := .v (.c (.elm (cs.drop off))) } else none
     | _ => none
    | none => none
   | none => none
  | _ => none
 | .field t x k => match L t with
  | some { kind := .struct fs, .. } => match fs[k]?, aev e x with
   | some (off, ft), .v (.g cs) => match L ft with
    | some tf => if off + tf.size ≤ cs.length then match mkT tf.kind.agg ((cs.drop off).take tf.size) with
      | some v => some { v := v }
      | none => none else none
    | none => none
   | _, _ => none
  | _ => none
 | .indexAddr t x i => match L t, asI (aev e i) with
  | some { kind := .slice el, .. }, some i => match L el with
   | some te => match aev e x with
    | .v (.c (.own id)) => match s id with
     | some (.arr es n _) => if es = te.size then some { v := .v (.c (.pte id es i.toNat 0)), cond := 0 ≤ i ∧ i < n } else none
     | _ => none
    | x => match asF x with
     | some (n, f) => if (f i.toNat).length = te.size then some { v := .v (.c (.elm (f i.toNat))), cond := 0 ≤ i ∧ i < n } else none
     | none => none
   | none => none
  | some { kind := .array n el, .. }, some i => match L el, aev e x with
   | some te, .v (.c (.ptr id off)) => if 0 ≤ i ∧ i < n then some { v := .v (.c (.ptr id (off + i.toNat * te.size))) } else none
   | _, _ => none
  | _, _ => none
 | .index t x i => match L t, asI (aev e i), aev e x with
  | some { kind := .array n el, .. }, some i, .v (.g cs) => match L el with
   | some te => if 0 ≤ i ∧ i < n ∧ i.toNat * te.size + te.size ≤ cs.length then match mkT te.kind.agg ((cs.drop (i.toNat * te.size)).take te.size) with
     | some v => some { v := v }
     | none => none else none
   | none => none
  | _, _, _ => none
 | .makeSlice t l c => match L t, asI (aev e l), asI (aev e c), o.dst with
  | some { kind := .slice el, .. }, some l, some c, some d => match L el with
   | some te => match toDs te.zero with
    | some z => if 0 < te.size ∧ te.bytes ≤ 8192 ∧ te.zero.length = te.size then some { v := .v (.c (.own d)), new := some (.arr te.size l.toNat fun _ => z), cond := 0 ≤ l ∧ l = c ∧ l ≤ LIM } else none
    | none => none
   | none => none
  | _, _, _, _ => none
 | .extract x k => match aev e x with
  | .t xs => match xs[k]? with
   | some v => some { v := .v v }
   | none => none
  | _ => none
 | .call { callee := .builtin b, args, argTypes } => match abuiltin L s b argTypes (args.toList.map (aev e)), o.dst with
  | some r, d => match r.new, d with
   | some _, some d => some { r with v := .v (.c (.own d)) }
   | some _, none => none
   | none, _ => some r
  | none, _ => none
 | _ => none
where
 cloIds : List AVal → Option (List Nat)
  | [] => some []
  | .v (.c (.ptr id 0)) :: r => match cloIds r with
   | some ids => some (id :: ids)
   | none => none
  | _ :: _ => none
 asF : AVal → Option (Nat × (Nat → List DVal))
  | .v (.c (.d (.lst n f))) => some (n, f)
  | .v (.c (.fl n f)) => some (n, f)
  | _ => none
end Go.Ab
end

section
namespace Go.Ab
def KOk (d : TypeDesc) : TK → Prop
 | .int k => d = .int k
 | .bool => d = .bool
 | .str => d = .string
 | .slice e => d = .slice e
 | .struct fs => ∃ fields, d = .struct fields ∧ fields.toList.map (fun f => (f.offset, f.type)) = fs
 | .array n e => d = .array n e
 | .other => (∀ fs, d ≠ .struct fs) ∧ ∀ n e, d ≠ .array n e
structure TIOk (P : Program) (t : Nat) (ti : TI) (i : TypeInfo) (d : TypeDesc) (z : Value) : Prop where
 info : P.info? t = some i
 und : P.underlying t = some d
 size : i.size = ti.size
 bytes : i.bytes = ti.bytes
 zero : i.zero = some z
 zrep : ∀ w X η C, CsRep w X η C z.cells ti.zero
 zrefs : ti.zero.flatMap CV.refs = []
 kind : KOk d ti.kind
def LOk (P : Program) (L : Lay) : Prop := ∀ t ti, L t = some ti → ∃ i d z, TIOk P t ti i d z
section
variable {P : Program} {L : Lay}
theorem run_isAgg {t : Nat} {ti : TI} {i : TypeInfo} {d : TypeDesc} {z : Value} (h : TIOk P t ti i d z) (w : World) : (isAgg t).run P w = .ok ti.kind.agg w := by
 have hk := h.kind
 simp only [isAgg, Sem.run_bind, run_underlying h.und, Result.andThen_ok]
 cases hkk : ti.kind <;> simp only [hkk, KOk] at hk
 all_goals first
  | (subst hk; rfl)
  | (obtain ⟨f, rfl, _⟩ := hk; rfl)
  | skip
 split
 ·rename_i x fs; exact absurd rfl (hk.1 fs)
 ·rename_i x n e; exact absurd rfl (hk.2 n e)
 ·rfl
theorem run_sizeOf {t : Nat} {ti : TI} {i : TypeInfo} {d : TypeDesc} {z : Value} (h : TIOk P t ti i d z) (w : World) : (sizeOf t).run P w = .ok ti.size w := by
 simp [sizeOf, typeInfo, h.info, h.size]
theorem run_zeroValue {t : Nat} {ti : TI} {i : TypeInfo} {d : TypeDesc} {z : Value} (h : TIOk P t ti i d z) (w : World) : (zeroValue t).run P w = .ok z w := by
 simp [zeroValue, typeInfo, h.info, h.zero]
theorem add_lit (b o n : Nat) : (⟨b, o, none⟩ : Addr).add n = ⟨b, o + n, none⟩ := by unfold Addr.add; split <;> simp_all
theorem cell_at {w : World} {b : Nat} {c : Array Value} {e : TypeId} {fz : Nat × Nat} (h : w.heap[b]? = some (.cells c e fz)) (j : Nat) (hj : j < c.size) :
  w.cell? ⟨b, j, none⟩ = some (c.getD j undef) := by
 rw [cell_of_row w b j c e fz h]; simp [hj]
def vals (c : Array Value) (off n : Nat) : List Value := (List.range n).map fun j => c.getD (off + j) undef
theorem run_loadVar {t : Nat} {ti : TI} {i : TypeInfo} {d : TypeDesc} {z : Value} (h : TIOk P t ti i d z) {w : World} {b off : Nat} {c : Array Value} {e : TypeId} {fz : Nat × Nat}
  (hb : w.heap[b]? = some (.cells c e fz)) (ho : off + ti.size ≤ c.size) (h1 : ti.kind.agg = false → ti.size = 1) :
  (loadVar t ⟨b, off, none⟩).run P w = .ok (if ti.kind.agg then .agg (vals c off ti.size).toArray else c.getD off undef) w := by
 simp only [loadVar, Sem.run_bind, run_isAgg h, Result.andThen_ok]
 cases ha : ti.kind.agg with
 | true =>
  have := run_loadCells (P := P) w ⟨b, off, none⟩ ti.size (fun j => c.getD (off + j) undef) (fun j hj => by rw [add_lit]; exact cell_at hb _ (by omega))
  simp only [Sem.run_bind, run_sizeOf h, Result.andThen_ok, this, if_true, Sem.run_pure, vals]
 | false =>
  have := h1 ha
  simp only [Bool.false_eq_true, if_false]
  rw [run_load, cell_at hb off (by omega)]
theorem wp_value {o : Oper} {a : Act} {w w' : World} {v : Value} {K : Act → World → Prop} {Q : Exit → Act → World → Prop}
  (h : (execOp a.eval o).run P w = .ok (.value v) w') (hK : K (a.put o.dst v) w') : o.wp P a w K Q := by
 unfold Oper.wp; rw [h]; exact hK
theorem wp_skip' {o : Oper} {a : Act} {w w' : World} {K : Act → World → Prop} {Q : Exit → Act → World → Prop}
  (h : (execOp a.eval o).run P w = .ok .skip w') (hK : K (a.put o.dst undef) w') : o.wp P a w K Q := by
 unfold Oper.wp; rw [h]; exact hK
end
section
variable {P : Program} {L : Lay} {C : Ctx} {nt : Nat} {R : Nat → Prop} {η : Nat → Value} {e : Env} {s : Sto} {a : Act} {w : World}
def Snd (P : Program) (C : Ctx) (nt : Nat) (R : Nat → Prop) (η : Nat → Value) (e : Env) (s : Sto) (a : Act) (w : World) (o : Oper) (r : SR) : Prop :=
 ∃ v w', ((execOp a.eval o).run P w = .ok (.value v) w' ∨ ((execOp a.eval o).run P w = .ok .skip w' ∧ v = undef)) ∧
  Conc C nt (r.rng o.dst R) (r.eta o.dst v η) (r.env o.dst e) (r.sto o.dst s) (a.put o.dst v) w'
theorem Snd.wp {o : Oper} {r : SR} (h : Snd P C nt R η e s a w o r) {K : Act → World → Prop} {Q : Exit → Act → World → Prop}
  (hK : ∀ η' a' w', Conc C nt (r.rng o.dst R) η' (r.env o.dst e) (r.sto o.dst s) a' w' → K a' w') : o.wp P a w K Q := by
 obtain ⟨v, w', hr | ⟨hr, rfl⟩, hc⟩ := h
 ·exact wp_value hr (hK _ _ _ hc)
 ·exact wp_skip' hr (hK _ _ _ hc)
theorem rng_val (d : Option Tmp) (x : AVal) (c : Prop) : SR.rng { v := x, cond := c } d R = R := by funext i; simp [SR.rng]
theorem sto_val (d : Option Tmp) (x : AVal) (c : Prop) : SR.sto { v := x, cond := c } d s = s := by funext i; simp [SR.sto]
theorem eta_val (d : Option Tmp) (x : AVal) (c : Prop) (v : Value) : SR.eta { v := x, cond := c } d v η = η := by funext i; simp [SR.eta]
theorem env_val (d : Option Tmp) (x : AVal) (c : Prop) : SR.env { v := x, cond := c } d e = SR.env { v := x } d e := rfl
theorem snd_val (h : Conc C nt R η e s a w) {o : Oper} (hd : ∀ x, o.dst = some x → x < nt) {x : AVal} {c : Prop} {v : Value}
  (hr : (execOp a.eval o).run P w = .ok (.value v) w) (hv : ARep w (XS C s η) η C v x) (hx : ∀ j ∈ x.refs, R j) : Snd P C nt R η e s a w o { v := x, cond := c } := by
 refine ⟨v, w, .inl hr, ?_⟩
 rw [rng_val, sto_val, eta_val, env_val]
 exact h.val o.dst hd x v fun _ => ⟨hv, hx⟩
theorem aconst_ok (v : Value) (X : Nat → Prop) : ARep w X η C v (aconst v) ∧ (aconst v).refs = [] := by
 unfold aconst
 split
 ·exact ⟨.v _ _ (.c _ _ (.d _ _ (.int _ _))), rfl⟩
 ·exact ⟨.v _ _ (.c _ _ (.d _ _ (.bool _))), rfl⟩
 ·exact ⟨.v _ _ (.c _ _ (.d _ _ (.str _))), rfl⟩
 ·exact ⟨.v _ _ (.c _ _ (.fl _ _ _ (.nil _ _ _))), rfl⟩
 ·exact ⟨.any _, rfl⟩
theorem aev_ok (h : Conc C nt R η e s a w) (x : Operand) : ARep w (XS C s η) η C (a.eval x) (aev e x) ∧ ∀ j ∈ (aev e x).refs, R j := by
 cases x with
 | tmp t => exact ⟨h.ev t, h.er t⟩
 | const v =>
  obtain ⟨h1, h2⟩ := aconst_ok (w := w) (η := η) (C := C) v (XS C s η)
  exact ⟨h1, by simp only [aev]; rw [h2]; simp⟩
 | global g => exact ⟨.any _, by simp [aev, AVal.refs]⟩
 | func f => exact ⟨.v _ _ (.c _ _ (.clo f [] #[] rfl)), by simp [aev, AVal.refs, TV.refs, CV.refs]⟩
theorem flatMap_take {α β : Type} (f : α → List β) (l : List α) (n : Nat) : ∀ j ∈ (l.take n).flatMap f, j ∈ l.flatMap f := by
 intro j hj
 obtain ⟨x, hx, hjx⟩ := List.mem_flatMap.1 hj
 exact List.mem_flatMap.2 ⟨x, List.mem_of_mem_take hx, hjx⟩
theorem flatMap_drop {α β : Type} (f : α → List β) (l : List α) (n : Nat) : ∀ j ∈ (l.drop n).flatMap f, j ∈ l.flatMap f := by
 intro j hj
 obtain ⟨x, hx, hjx⟩ := List.mem_flatMap.1 hj
 exact List.mem_flatMap.2 ⟨x, List.mem_of_mem_drop hx, hjx⟩
theorem refs_map_d (ds : List DVal) : (ds.map CV.d).flatMap CV.refs = [] := by
 induction ds with
 | nil => rfl
 | cons x r ih => simp [CV.refs]
theorem getD_take_drop {α : Type} (l : List α) (off n j : Nat) (x : α) (hj : j < n) : ((l.drop off).take n).getD j x = l.getD (off + j) x := by
 simp [List.getD_eq_getElem?_getD, hj]
theorem rd_ok (h : Conc C nt R η e s a w) {n : Nat} {x : AVal} {v : Value} {cs : List CV} {c : Prop} (hr : rd s n x = some (cs, c)) (hc : c) (hv : ARep w (XS C s η) η C v x) :
  ∃ b off c' e' fz, v = .pointer (some ⟨b, off, none⟩) ∧ w.heap[b]? = some (.cells c' e' fz) ∧ off + n ≤ c'.size ∧ cs.length = n ∧
   (∀ j, j < n → CRep w (XS C s η) η C (c'.getD (off + j) undef) (cs.getD j (.d .any))) ∧ ∀ j ∈ cs.flatMap CV.refs, R j := by
 unfold rd at hr
 split at hr
 ·rename_i id off
  split at hr
  ·rename_i ro bs hs
   split at hr
   ·rename_i hle
    cases hr
    have hst := h.st id _ hs
    cases hv with
    | v _ _ hv =>
    cases hv with
    | c _ _ hv =>
    cases hv with
    | ptr b _ _ he =>
    rw [he] at hst
    cases hst with
    | box _ _ c' e' _ hb hcs =>
    have hsz := hcs.1
    refine ⟨b, off, c', e', (0, 0), rfl, hb, by omega, by simp; omega, fun j hj => ?_, fun j hj => ?_⟩
    ·rw [getD_take_drop _ _ _ _ _ hj]; exact hcs.2 (off + j) (by omega)
    ·exact (h.sr id _ hs).2 j (flatMap_drop _ _ _ j (flatMap_take _ _ _ j hj))
   ·cases hr
  ·cases hr
 ·rename_i ds
  split at hr
  ·rename_i hle
   cases hr
   cases hv with
   | v _ _ hv =>
   cases hv with
   | c _ _ hv =>
   cases hv with
   | elm b off c' e' fz _ hX hb hlen hd =>
   refine ⟨b, off, c', e', fz, rfl, hb, by omega, by simp; omega, fun j hj => ?_, fun j hj => ?_⟩
   ·have : ((ds.take n).map CV.d).getD j (.d .any) = .d (ds.getD j .any) := by
     have hj' : j < ds.length := by omega
     simp [List.getD_eq_getElem?_getD, hj, hj']
    rw [this]; exact .d _ _ (hd j (by omega))
   ·rw [refs_map_d] at hj; cases hj
  ·cases hr
 ·rename_i id es idx off
  split at hr
  ·rename_i es' k f hs
   split at hr
   ·rename_i hle
    obtain ⟨rfl, hle, hlen⟩ := hle
    cases hr
    have hst := h.st id _ hs
    cases hv with
    | v _ _ hv =>
    cases hv with
    | c _ _ hv =>
    cases hv with
    | pte b n' cap _ _ _ _ he =>
    rw [he] at hst
    cases hst with
    | nil => exact absurd hc (by omega)
    | arr _ _ _ _ c' e' _ hb hsz hn hm hc0 hl hel =>
    have hin : idx * es + es ≤ cap * es := by
     have : (idx + 1) * es ≤ cap * es := Nat.mul_le_mul_right _ (by omega)
     rwa [Nat.add_mul, Nat.one_mul] at this
    refine ⟨b, idx * es + off, c', e', (0, 0), rfl, hb, by omega, by simp; omega, fun j hj => ?_, fun j hj => ?_⟩
    ·have : (((((f idx).drop off).take n).map CV.d)).getD j (.d .any) = .d ((f idx).getD (off + j) .any) := by
      have h1 : off + j < (f idx).length := by omega
      simp [List.getD_eq_getElem?_getD, hj, h1]
     rw [this]
     have := hel idx (off + j) hc (by omega)
     rw [Nat.add_assoc]; exact .d _ _ this
    ·rw [refs_map_d] at hj; cases hj
   ·cases hr
  ·cases hr
 ·cases hr
end
end Go.Ab
end

section
namespace Go.Ab
section
variable {P : Program} {L : Lay} {C : Ctx} {nt : Nat} {R : Nat → Prop} {η : Nat → Value} {e : Env} {s : Sto} {a : Act} {w : World}
theorem wrap_i64 {n : Int} (h : I64 n) : IntKind.i64.wrap n = n := by
  obtain ⟨h1, h2⟩ := h
  have e : IntKind.i64.wrap n = if n % 18446744073709551616 ≥ 9223372036854775808 then n % 18446744073709551616 - 18446744073709551616 else n % 18446744073709551616 := by
    simp [IntKind.wrap, IntKind.bits, IntKind.signed]
  rw [e]
  split <;> omega
theorem int_inv {v : Value} {k : IntKind} {n : Int} (h : ARep w (XS C s η) η C v (.v (.c (.d (.int k n))))) : v = .int k n := by
  cases h with | v _ _ h => cases h with | c _ _ h => cases h with | d _ _ h => cases h; rfl
theorem bool_inv {v : Value} {b : Bool} (h : ARep w (XS C s η) η C v (.v (.c (.d (.bool b))))) : v = .bool b := by
  cases h with | v _ _ h => cases h with | c _ _ h => cases h with | d _ _ h => cases h; rfl
theorem str_inv {v : Value} {b : ByteArray} (h : ARep w (XS C s η) η C v (.v (.c (.d (.str b))))) : v = .string b := by
  cases h with | v _ _ h => cases h with | c _ _ h => cases h with | d _ _ h => cases h; rfl
theorem int_rep (X : Nat → Prop) (k : IntKind) (n : Int) : ARep w X η C (.int k n) (.v (.c (.d (.int k n)))) := .v _ _ (.c _ _ (.d _ _ (.int _ _)))
theorem bool_rep (X : Nat → Prop) (b : Bool) : ARep w X η C (.bool b) (.v (.c (.d (.bool b)))) := .v _ _ (.c _ _ (.d _ _ (.bool _)))
def numSR (r : SR) (v : Value) : Prop := ∃ x c, r = { v := x, cond := c } ∧ (c → ∀ (w : World) (X : Nat → Prop) (η : Nat → Value) (C : Ctx), ARep w X η C v x) ∧ x.refs = []
theorem arith_num (m : Bool) (k : IntKind) (n : Int) (c : Prop) : (arith m k n c).cond → numSR (arith m k n c) (.int k (k.wrap n)) ∧ c := by
  unfold arith
  split
  · intro h
    refine ⟨⟨_, _, rfl, fun _ w X η C => ?_, rfl⟩, h.2⟩
    rw [wrap_i64 h.1]; exact int_rep _ _ _
  · intro h
    exact ⟨⟨_, _, rfl, fun _ w X η C => int_rep _ _ _, rfl⟩, h⟩
theorem abin_ok (op : BinOp) (t : TypeId) (m : Bool) {k k' : IntKind} {n n' : Int} {r : SR} (w : World)
    (hr : abin m op (.v (.c (.d (.int k n)))) (.v (.c (.d (.int k' n')))) = some r) (hc : r.cond) :
    ∃ v, (binOp op t (.int k n) (.int k' n')).run P w = .ok v w ∧ numSR r v := by
  simp only [abin] at hr
  split at hr
  · cases hr
    obtain ⟨h1, h2⟩ := arith_num m k _ _ hc
    refine ⟨_, ?_, h1⟩
    have : ¬ n' < 0 := by omega
    simp [binOp, Op.shift, this]
  · cases hr
    have : ¬ n' < 0 := by have : (0 : Int) ≤ n' := hc; omega
    exact ⟨.int k (n.fdiv (2 ^ min n'.toNat k.bits)), by simp [binOp, Op.shift, this], _, _, rfl, fun _ _ _ _ _ => int_rep _ _ _, rfl⟩
  · rename_i hne1 hne2
    split at hr
    · rename_i hk
      subst hk
      split at hr <;> first
        | (cases hr; done)
        | (cases hr
           obtain ⟨h1, h2⟩ := arith_num m k _ _ hc
           refine ⟨_, ?_, h1⟩
           first
             | (simp [binOp, Op.intArith]; done)
             | (simp [binOp, Op.intDiv, h2]; done))
        | (cases hr
           have hc' : n' ≠ 0 := hc
           exact ⟨.int k (n.tmod n'), by simp [binOp, Op.intDiv, hc'], _, _, rfl, fun _ _ _ _ _ => int_rep _ _ _, rfl⟩)
        | (cases hr; refine ⟨.int k (band k n n'), ?_, _, _, rfl, fun _ _ _ _ _ => int_rep _ _ _, rfl⟩; simp [binOp, Op.intBits, band]; done)
        | (cases hr; refine ⟨.int k (bor k n n'), ?_, _, _, rfl, fun _ _ _ _ _ => int_rep _ _ _, rfl⟩; simp [binOp, Op.intBits, bor]; done)
        | (cases hr; refine ⟨.int k (bxor k n n'), ?_, _, _, rfl, fun _ _ _ _ _ => int_rep _ _ _, rfl⟩; simp [binOp, Op.intBits, bxor]; done)
        | (cases hr; refine ⟨.bool _, ?_, _, _, rfl, fun _ _ _ _ _ => bool_rep _ _, rfl⟩; simp [binOp, Op.intCmp]; done)
    · cases hr
theorem run_eqGuard_int (op : BinOp) (t : TypeId) (x y : Operand) (k k' : IntKind) (n n' : Int) (w : World) : (eqGuard op t x y (.int k n) (.int k' n')).run P w = .ok () w := by
  unfold eqGuard
  split <;> rfl
theorem snd_num (h : Conc C nt R η e s a w) {o : Oper} (hd : ∀ x, o.dst = some x → x < nt) {r : SR} {v : Value} (hn : numSR r v) (hc : r.cond)
    (hr : (execOp a.eval o).run P w = .ok (.value v) w) : Snd P C nt R η e s a w o r := by
  obtain ⟨x, c, rfl, hrep, hx⟩ := hn
  exact snd_val h hd hr (hrep hc _ _ _ _) (by rw [hx]; simp)
theorem snd_bin (h : Conc C nt R η e s a w) {o : Oper} (hd : ∀ x, o.dst = some x → x < nt) {op : BinOp} {t t' : TypeId} {x y : Operand} (hop : o.op = .binOp op t x y t') {m : Bool} {r : SR}
    (hr : abin m op (aev e x) (aev e y) = some r) (hc : r.cond) : Snd P C nt R η e s a w o r := by
  have hx := (aev_ok h x).1
  have hy := (aev_ok h y).1
  unfold abin at hr
  split at hr
  · rename_i k n k' n' e1 e2
    rw [e1] at hx; rw [e2] at hy
    have ex := int_inv hx
    have ey := int_inv hy
    obtain ⟨v, hv, hn⟩ := abin_ok (P := P) op t m w (show abin m op (.v (.c (.d (.int k n)))) (.v (.c (.d (.int k' n')))) = some r from hr) hc
    refine snd_num h hd hn hc ?_
    simp only [execOp, hop, Sem.run_bind, ex, ey, run_eqGuard_int, hv, Result.andThen_ok, Sem.run_pure]
  · cases hr
theorem snd_un (h : Conc C nt R η e s a w) {o : Oper} (hd : ∀ x, o.dst = some x → x < nt) {op : UnOp} {t : TypeId} {x : Operand} (hop : o.op = .unOp op t x) {m : Bool} {r : SR}
    (hr : aun m op (aev e x) = some r) (hc : r.cond) : Snd P C nt R η e s a w o r := by
  have hx := (aev_ok h x).1
  unfold aun at hr
  split at hr
  · rename_i b e1
    cases hr
    rw [e1] at hx
    have ex := bool_inv hx
    exact snd_num h hd ⟨_, _, rfl, fun _ _ _ _ _ => bool_rep _ _, rfl⟩ hc (by simp [execOp, hop, ex, Op.unary])
  · rename_i k n e1
    cases hr
    rw [e1] at hx
    have ex := int_inv hx
    obtain ⟨h1, _⟩ := arith_num m k (0 - n) _ hc
    exact snd_num h hd h1 hc (by simp [execOp, hop, ex, Op.unary, Op.intArith])
  · cases hr
theorem snd_move (h : Conc C nt R η e s a w) {o : Oper} (hd : ∀ x, o.dst = some x → x < nt) {x : Operand} (hop : o.op = .move x ∨ o.op = .assign x) : Snd P C nt R η e s a w o { v := aev e x } := by
  obtain ⟨h1, h2⟩ := aev_ok h x
  refine snd_val h hd ?_ h1 h2
  rcases hop with hop | hop <;> simp [execOp, hop]
theorem snd_pick (h : Conc C nt R η e s a w) {o : Oper} (hd : ∀ x, o.dst = some x → x < nt) {c x y : Operand} (hop : o.op = .pick c x y) {b : Bool} (hb : aev e c = .v (.c (.d (.bool b)))) :
    Snd P C nt R η e s a w o { v := aev e (if b then x else y) } := by
  have hc := (aev_ok h c).1
  rw [hb] at hc
  have ec := bool_inv hc
  obtain ⟨h1, h2⟩ := aev_ok h (if b then x else y)
  refine snd_val h hd ?_ h1 h2
  cases b <;> simp [execOp, hop, ec, asBool]
theorem snd_load (hL : LOk P L) (h : Conc C nt R η e s a w) {o : Oper} (hd : ∀ x, o.dst = some x → x < nt) {t : TypeId} {x : Operand} (hop : o.op = .load t x) {ti : TI} (ht : L t = some ti)
    {cs : List CV} {c : Prop} (hr : rd s ti.size (aev e x) = some (cs, c)) {v : AVal} (hv : mkT ti.kind.agg cs = some v) (hc : c) : Snd P C nt R η e s a w o { v := v, cond := c } := by
  obtain ⟨i, d, z, hti⟩ := hL t ti ht
  obtain ⟨b, off, c', e', fz, ex, hb, ho, hl, hcs, hrf⟩ := rd_ok h hr hc (aev_ok h x).1
  have h1 : ti.kind.agg = false → ti.size = 1 := by
    intro ha
    rw [ha] at hv
    simp only [mkT] at hv
    split at hv
    · rw [← hl]; rfl
    · cases hv
  have hrun := run_loadVar hti hb ho h1
  refine snd_val h hd (v := if ti.kind.agg then .agg (vals c' off ti.size).toArray else c'.getD off undef) ?_ ?_ ?_
  · simp only [execOp, hop, Sem.run_bind, Instr.loadAt, ex, Instr.sureAddr, Sem.run_pure, Result.andThen_ok, hrun]
  · unfold mkT at hv
    split at hv
    · rename_i ha
      cases hv
      simp only [ha, if_true]
      refine .v _ _ (.g _ _ ⟨by simp [vals, hl], fun j hj => ?_⟩)
      rw [hl] at hj
      have : (vals c' off ti.size).toArray.getD j undef = c'.getD (off + j) undef := by simp [vals, hj]
      rw [this]; exact hcs j hj
    · rename_i ha
      split at hv
      · cases hv
        rename_i y
        simp only [ha, Bool.false_eq_true, if_false]
        have := hcs 0 (by rw [h1 ha]; exact Nat.zero_lt_one)
        exact .v _ _ (.c _ _ (by simpa using this))
      · cases hv
  · unfold mkT at hv
    split at hv
    · cases hv; exact hrf
    · split at hv
      · cases hv; intro j hj; exact hrf j (by simpa [AVal.refs, TV.refs] using hj)
      · cases hv
theorem snd_fieldAddr (hL : LOk P L) (h : Conc C nt R η e s a w) {o : Oper} (hd : ∀ x, o.dst = some x → x < nt) {t : TypeId} {x : Operand} {k : Nat} (hop : o.op = .fieldAddr t x k)
    {ti : TI} (ht : L t = some ti) {fs : List (Nat × Nat)} (hk : ti.kind = .struct fs) {off ft : Nat} (hf : fs[k]? = some (off, ft)) {tf : TI} (hft : L ft = some tf) (hz : tf.size ≠ 0)
    {v : AVal} (hv : ∀ b o', a.eval x = .pointer (some ⟨b, o', none⟩) → ARep w (XS C s η) η C (.pointer (some ⟨b, o' + off, none⟩)) v) (hx : ∀ j ∈ v.refs, R j)
    (hp : ∃ b o', a.eval x = .pointer (some ⟨b, o', none⟩)) : Snd P C nt R η e s a w o { v := v } := by
  obtain ⟨i, d, z, hti⟩ := hL t ti ht
  obtain ⟨i2, d2, z2, htf⟩ := hL ft tf hft
  have hkd := hti.kind
  rw [hk] at hkd
  obtain ⟨fields, rfl, hfs⟩ := hkd
  obtain ⟨b, o', ex⟩ := hp
  have hf' : ∃ f, fields[k]? = some f ∧ f.offset = off ∧ f.type = ft := by
    rw [← hfs, List.getElem?_map] at hf
    cases hfk : fields.toList[k]? with
    | none => rw [hfk] at hf; cases hf
    | some f => rw [hfk] at hf; simp at hf; exact ⟨f, by simpa using hfk, hf.1, hf.2⟩
  obtain ⟨f, hfk, rfl, rfl⟩ := hf'
  refine snd_val h hd ?_ (hv b o' ex) hx
  simp only [execOp, hop, Sem.run_bind, Instr.fieldAt, run_underlying hti.und, Result.andThen_ok, hfk, ex, Instr.sureAddr, Sem.run_pure, fieldPlace, run_sizeOf htf, hz, if_false, add_lit]
theorem ptr_rep (X : Nat → Prop) {b id off : Nat} (h : η id = .pointer (some ⟨b, 0, none⟩)) : ARep w X η C (.pointer (some ⟨b, off, none⟩)) (.v (.c (.ptr id off))) := .v _ _ (.c _ _ (.ptr _ _ _ h))
theorem ptr_inv {v : Value} {id off : Nat} (h : ARep w (XS C s η) η C v (.v (.c (.ptr id off)))) : ∃ b, v = .pointer (some ⟨b, off, none⟩) ∧ η id = .pointer (some ⟨b, 0, none⟩) := by
  cases h with | v _ _ h => cases h with | c _ _ h => cases h with | ptr b _ _ h => exact ⟨b, rfl, h⟩
theorem pte_inv {v : Value} {id es idx off : Nat} (h : ARep w (XS C s η) η C v (.v (.c (.pte id es idx off)))) : ∃ b n cap, v = .pointer (some ⟨b, idx * es + off, none⟩) ∧ η id = .slice (some ⟨b, 0, none⟩) n cap := by
  cases h with | v _ _ h => cases h with | c _ _ h => cases h with | pte b n cap _ _ _ _ h => exact ⟨b, n, cap, rfl, h⟩
theorem elm_inv {v : Value} {cs : List DVal} (h : ARep w (XS C s η) η C v (.v (.c (.elm cs)))) : ∃ b off c e' fz, v = .pointer (some ⟨b, off, none⟩) ∧ ¬ XS C s η b ∧ w.heap[b]? = some (.cells c e' fz) ∧
    off + cs.length ≤ c.size ∧ ∀ j, j < cs.length → DRep w (XS C s η) (c.getD (off + j) undef) (cs.getD j .any) := by
  cases h with | v _ _ h => cases h with | c _ _ h => cases h with | elm b off c e' fz _ hX hb ho hc => exact ⟨b, off, c, e', fz, rfl, hX, hb, ho, hc⟩
theorem own_inv {v : Value} {id : Nat} (h : ARep w (XS C s η) η C v (.v (.c (.own id)))) : v = η id := by
  cases h with | v _ _ h => cases h with | c _ _ h => cases h with | own _ _ h _ => exact h
theorem elm_drop {b off : Nat} {c : Array Value} {e' : TypeId} {fz : Nat × Nat} {cs : List DVal} (X : Nat → Prop) (hX : ¬ X b) (hb : w.heap[b]? = some (.cells c e' fz)) (ho : off + cs.length ≤ c.size)
    (hc : ∀ j, j < cs.length → DRep w X (c.getD (off + j) undef) (cs.getD j .any)) (k : Nat) (hk : k ≤ cs.length) :
    ARep w X η C (.pointer (some ⟨b, off + k, none⟩)) (.v (.c (.elm (cs.drop k)))) := by
  refine .v _ _ (.c _ _ (.elm b (off + k) c e' fz _ hX hb (by simp; omega) fun j hj => ?_))
  have hj' : k + j < cs.length := by simp at hj; omega
  have := hc (k + j) hj'
  have e1 : (cs.drop k).getD j .any = cs.getD (k + j) .any := by simp [List.getD_eq_getElem?_getD]
  rw [e1, Nat.add_assoc]; exact this
theorem asF_ok {v : Value} {x : AVal} (h : ARep w (XS C s η) η C v x) {n : Nat} {f : Nat → List DVal} (hx : aop1.asF x = some (n, f)) :
    ∃ ad cap, v = .slice ad n cap ∧ DRep w (XS C s η) v (.lst n f) := by
  unfold aop1.asF at hx
  split at hx
  · cases hx
    cases h with | v _ _ h => cases h with | c _ _ h => cases h with | d _ _ h =>
    cases h with
    | nil ad cap _ => exact ⟨ad, cap, rfl, .nil _ _ _⟩
    | lst b off _ cap c e' fz _ es h1 h2 h3 h4 h5 h6 => exact ⟨_, cap, rfl, .lst b off _ cap c e' fz _ es h1 h2 h3 h4 h5 h6⟩
  · cases hx
    cases h with | v _ _ h => cases h with | c _ _ h => cases h with | fl ad _ _ h => exact ⟨ad, _, rfl, h⟩
  · cases hx
end
end Go.Ab
end

section
namespace Go.Ab
theorem Value.cells_one {v : Value} (h : v.oneCell' = true) : v.cells = #[v] := by
 cases v <;> first | rfl | (simp [Value.oneCell'] at h)
section
variable {P : Program} {L : Lay} {C : Ctx} {nt : Nat} {R : Nat → Prop} {η : Nat → Value} {e : Env} {s : Sto} {a : Act} {w : World}
theorem cells_ok {X : Nat → Prop} {v : Value} {x : AVal} {xs : List CV} (h : ARep w X η C v x) (hx : acells x = some xs) : CsRep w X η C v.cells xs ∧ ∀ j ∈ xs.flatMap CV.refs, j ∈ x.refs := by
 unfold acells at hx
 split at hx
 ·cases hx
  cases h with | v _ _ h => cases h with | c _ _ h =>
  rw [Value.cells_one h.one]
  exact ⟨⟨rfl, fun j hj => by
   have : j = 0 := by simp at hj; omega
   subst this; simpa using h⟩, fun j hj => by simpa [AVal.refs, TV.refs] using hj⟩
 ·cases hx
  cases h with | v _ _ h => cases h with | g vs _ h =>
  exact ⟨h, fun j hj => hj⟩
 ·cases hx
theorem splice_length {α : Type} (cs xs : List α) (off : Nat) (h : off + xs.length ≤ cs.length) : (splice cs off xs).length = cs.length := by
 simp [splice]; omega
theorem splice_getD {α : Type} (cs xs : List α) (off t : Nat) (d : α) (h : off + xs.length ≤ cs.length) :
  (splice cs off xs).getD t d = if off ≤ t ∧ t < off + xs.length then xs.getD (t - off) d else cs.getD t d := by
 unfold splice
 simp only [List.getD_eq_getElem?_getD, List.getElem?_append, List.length_take, List.getElem?_take, List.getElem?_drop]
 have hm : min off cs.length = off := by omega
 rw [hm]
 by_cases h1 : t < off
 ·rw [if_pos h1, if_pos h1, if_neg (by omega)]
 ·rw [if_neg h1]
  by_cases h2 : t < off + xs.length
  ·rw [if_pos (by omega), if_pos (by omega)]
  ·rw [if_neg (by omega), if_neg (by omega)]
   congr 2; omega
theorem splice_mem {α : Type} (cs xs : List α) (off : Nat) : ∀ x ∈ splice cs off xs, x ∈ cs ∨ x ∈ xs := by
 intro x hx
 unfold splice at hx
 rcases List.mem_append.1 hx with h | h
 ·exact .inl (List.mem_of_mem_take h)
 ·rcases List.mem_append.1 h with h | h
  ·exact .inr h
  ·exact .inl (List.mem_of_mem_drop h)
theorem foldl_set (off : Nat) (vs : List Value) : ∀ (k : Nat) (cs : Array Value), off + k + vs.length ≤ cs.size →
  ((vs.zipIdx k).foldl (fun cs p => cs.setIfInBounds (off + p.2) p.1) cs).size = cs.size ∧
  ∀ t, ((vs.zipIdx k).foldl (fun cs p => cs.setIfInBounds (off + p.2) p.1) cs).getD t undef = if off + k ≤ t ∧ t < off + k + vs.length then vs.getD (t - off - k) undef else cs.getD t undef := by
 induction vs with
 | nil => intro k cs _; refine ⟨rfl, fun t => ?_⟩; rw [if_neg (by simp)]; rfl
 | cons v r ih =>
  intro k cs h
  simp only [List.length_cons] at h
  obtain ⟨h1, h2⟩ := ih (k + 1) (cs.setIfInBounds (off + k) v) (by simp; omega)
  refine ⟨by simpa [List.zipIdx_cons] using h1, fun t => ?_⟩
  simp only [List.zipIdx_cons, List.foldl_cons, List.length_cons]
  rw [h2 t]
  by_cases h3 : off + (k + 1) ≤ t ∧ t < off + (k + 1) + r.length
  ·rw [if_pos h3, if_pos (by omega)]
   have : t - off - k = (t - off - (k + 1)) + 1 := by omega
   rw [this]; simp
  ·rw [if_neg h3]
   by_cases h4 : t = off + k
   ·subst h4
    rw [if_pos (by omega)]
    have : off + k < cs.size := by omega
    simp [this]
   ·rw [if_neg (by omega)]
    simp [Ne.symm h4]
theorem fill_ok {X : Nat → Prop} {pl : Nat → Option (Nat × Nat)} : ∀ (ps : List (Nat × AVal)) (vs : List (Nat × Value)) (cells : List CV) (vc : Array Value) (cs : List CV),
  fillA pl cells ps = some cs → CsRep w X η C vc cells → vs.map (·.1) = ps.map (·.1) → (∀ (j : Nat) x v, ps[j]? = some x → vs[j]? = some v → ARep w X η C v.2 x.2) →
  ∃ vc', Instr.fill pl vc vs = some vc' ∧ CsRep w X η C vc' cs ∧ ∀ j ∈ cs.flatMap CV.refs, j ∈ cells.flatMap CV.refs ∨ ∃ x ∈ ps, j ∈ x.2.refs := by
 intro ps
 induction ps with
 | nil =>
  intro vs cells vc cs h hc hm _
  cases h
  have : vs = [] := by simpa using hm
  subst this
  exact ⟨vc, rfl, hc, fun j hj => .inl hj⟩
 | cons p ps ih =>
  intro vs cells vc cs h hc hm hr
  obtain ⟨i, x⟩ := p
  cases vs with
  | nil => simp at hm
  | cons v vs =>
   obtain ⟨i', v⟩ := v
   simp only [List.map_cons, List.cons.injEq] at hm
   obtain ⟨rfl, hm⟩ := hm
   simp only [fillA] at h
   split at h
   ·rename_i off size xs hpl hxs
    split at h
    ·rename_i hle
     obtain ⟨hlen, hle⟩ := hle
     have hv : ARep w X η C v x := hr 0 _ _ rfl rfl
     obtain ⟨hcs, hrf⟩ := cells_ok hv hxs
     have hsz : v.cells.size = size := by rw [hcs.1, hlen]
     have hvc : vc.size = cells.length := hc.1
     have hf := foldl_set off v.cells.toList 0 vc (by simp [hsz]; omega)
     have hfold : v.cells.zipIdx.foldl (fun cs (p : Value × Nat) => cs.setIfInBounds (off + p.2) p.1) vc = (v.cells.toList.zipIdx 0).foldl (fun cs p => cs.setIfInBounds (off + p.2) p.1) vc := by
      rw [← Array.foldl_toList, Array.toList_zipIdx]
     have hrep : CsRep w X η C (v.cells.zipIdx.foldl (fun cs (p : Value × Nat) => cs.setIfInBounds (off + p.2) p.1) vc) (splice cells off xs) := by
      rw [hfold]
      refine ⟨by rw [hf.1, splice_length _ _ _ (by omega)]; exact hvc, fun t ht => ?_⟩
      rw [hf.2 t, splice_getD _ _ _ _ _ (by omega)]
      rw [splice_length _ _ _ (by omega)] at ht
      simp only [Nat.add_zero, Nat.sub_zero, Array.length_toList, hsz, hlen]
      by_cases h3 : off ≤ t ∧ t < off + size
      ·rw [if_pos h3, if_pos h3]
       have := hcs.2 (t - off) (by omega)
       simpa [List.getD_eq_getElem?_getD] using this
      ·rw [if_neg h3, if_neg h3]
       exact hc.2 t ht
     obtain ⟨vc', h1, h2, h3⟩ := ih vs (splice cells off xs) _ cs h hrep hm (fun j x v hx hv => hr (j + 1) x v (by simpa using hx) (by simpa using hv))
     refine ⟨vc', ?_, h2, fun j hj => ?_⟩
     ·simp only [Instr.fill, hpl]
      rw [if_neg (by simp [hsz, hvc]; omega)]
      exact h1
     ·rcases h3 j hj with hj | ⟨y, hy, hj⟩
      ·obtain ⟨z, hz, hj⟩ := List.mem_flatMap.1 hj
       rcases splice_mem _ _ _ z hz with hz | hz
       ·exact .inl (List.mem_flatMap.2 ⟨z, hz, hj⟩)
       ·exact .inr ⟨_, List.mem_cons_self, hrf j (List.mem_flatMap.2 ⟨z, hz, hj⟩)⟩
      ·exact .inr ⟨y, List.mem_cons_of_mem _ hy, hj⟩
    ·cases h
   ·cases h
theorem run_placesL (hL : LOk P L) : ∀ (fields : List Field) (fs : List (Nat × Nat)) (pl : List (Nat × Nat)), fields.map (fun f => (f.offset, f.type)) = fs → fieldPl L fs = some pl →
  fields.mapM (fun f => (P.info? f.type).map fun i => (f.offset, i.size)) = some pl := by
 intro fields
 induction fields with
 | nil => intro fs pl h1 h2; subst h1; simpa [fieldPl] using h2
 | cons f r ih =>
  intro fs pl h1 h2
  subst h1
  simp only [List.map_cons, fieldPl] at h2
  split at h2
  ·rename_i ti l ht hl
   cases h2
   obtain ⟨i, d, z, hti⟩ := hL _ _ ht
   have := ih _ l rfl hl
   simp [List.mapM_cons, hti.info, this, hti.size]
  ·cases h2
theorem ev_map (h : Conc C nt R η e s a w) (ps : Array (Nat × Operand)) :
  ((ps.map fun (p : Nat × Operand) => (p.1, a.eval p.2)).toList).map (·.1) = (ps.toList.map fun p => (p.1, aev e p.2)).map (·.1) ∧
  (∀ (j : Nat) x v, (ps.toList.map fun p => (p.1, aev e p.2))[j]? = some x → ((ps.map fun (p : Nat × Operand) => (p.1, a.eval p.2)).toList)[j]? = some v → ARep w (XS C s η) η C v.2 x.2) ∧
  ∀ x ∈ (ps.toList.map fun p => (p.1, aev e p.2)), ∀ j ∈ x.2.refs, R j := by
 refine ⟨by simp, fun j x v hx hv => ?_, fun x hx j hj => ?_⟩
 ·rw [List.getElem?_map] at hx
  simp only [Array.toList_map, List.getElem?_map] at hv
  cases hp : ps.toList[j]? with
  | none => rw [hp] at hx; cases hx
  | some p =>
   rw [hp] at hx hv
   cases hx; cases hv
   exact (aev_ok h p.2).1
 ·obtain ⟨p, _, rfl⟩ := List.mem_map.1 hx
  exact (aev_ok h p.2).2 j hj
theorem snd_build (hL : LOk P L) (h : Conc C nt R η e s a w) {o : Oper} (hd : ∀ x, o.dst = some x → x < nt) {t : TypeId} {ps : Array (Nat × Operand)} (hop : o.op = .build t ps) {ti : TI} (ht : L t = some ti)
  {pl : Nat → Option (Nat × Nat)} (hpl : (∃ fs l, ti.kind = .struct fs ∧ fieldPl L fs = some l ∧ pl = fun i => l[i]?) ∨ (∃ n el te, ti.kind = .array n el ∧ L el = some te ∧ pl = fun i => some (i * te.size, te.size)))
  {cs : List CV} (hf : fillA pl ti.zero (ps.toList.map fun p => (p.1, aev e p.2)) = some cs) : Snd P C nt R η e s a w o { v := .v (.g cs) } := by
 obtain ⟨i, d, z, hti⟩ := hL t ti ht
 obtain ⟨m1, m2, m3⟩ := ev_map h ps
 obtain ⟨vc, hfill, hrep, hrf⟩ := fill_ok _ _ _ _ _ hf (hti.zrep w (XS C s η) η C) m1 m2
 refine snd_val h hd (v := .agg vc) ?_ (.v _ _ (.g _ _ hrep)) fun j hj => ?_
 ·have hb : P.built t (ps.map fun (p : Nat × Operand) => (p.1, a.eval p.2)).toList = some vc := by
   have hk := hti.kind
   rcases hpl with ⟨fs, l, hk', hl, rfl⟩ | ⟨n, el, te, hk', hte, rfl⟩
   ·rw [hk'] at hk
    obtain ⟨fields, rfl, hfs⟩ := hk
    have := run_placesL hL _ _ _ hfs hl
    simp only [Program.built, hti.info, hti.und, hti.zero, this]
    simpa using hfill
   ·rw [hk'] at hk
    simp only [KOk] at hk
    subst hk
    obtain ⟨i2, d2, z2, hte'⟩ := hL el te hte
    simp only [Program.built, hti.info, hti.und, hti.zero, hte'.info, hte'.size]
    exact hfill
  simp only [execOp, hop, Sem.run_bind]
  rw [run_build w t _ vc hb]; rfl
 ·rcases hrf j hj with hj | ⟨x, hx, hj⟩
  ·rw [hti.zrefs] at hj; cases hj
  ·exact m3 x hx j hj
theorem snd_newbox (h : Conc C nt R η e s a w) {o : Oper} {d : Nat} (hd : o.dst = some d) (hdn : d < nt) (hR : ¬ R d) {vs : Array Value} {cs : List CV} {ety : TypeId}
  (hrun : (execOp a.eval o).run P w = .ok (.value (.pointer (some ⟨w.heap.size, 0, none⟩))) { w with heap := w.heap.push (.cells vs ety) }) (hcs : CsRep w (XS C s η) η C vs cs) (hrf : ∀ j ∈ cs.flatMap CV.refs, R j) :
  Snd P C nt R η e s a w o { v := .v (.c (.ptr d 0)), new := some (.box false cs) } := by
 refine ⟨_, _, .inl hrun, ?_⟩
 have hblk : ∀ b, b ∈ blks (.pointer (some (⟨w.heap.size, 0, none⟩ : Addr))) → w.heap.size ≤ b := by intro b hb; simp [blks] at hb; omega
 have hk := kept_step (C := C) (s := s) (η := η) { v := .v (.c (.ptr d 0)), new := some (.box false cs) } o.dst (.pointer (some ⟨w.heap.size, 0, none⟩)) (fun _ => False) (Stp.alloc _ w (.cells vs ety)) (fun b hb => hb.elim)
  (fun _ _ _ _ b hb => .inl (hblk b hb)) (fun k o hh => by cases hh)
 have heR := eta_R (η := η) (R := R) { v := .v (.c (.ptr d 0)), new := some (.box false cs) } o.dst (.pointer (some ⟨w.heap.size, 0, none⟩)) (fun _ dd _ hdd => by rw [hd] at hdd; cases hdd; exact hR)
 refine h.step o.dst (fun x hx => by rw [hd] at hx; cases hx; exact hdn) _ _ _ (fun _ => False) (Stp.alloc _ w _) (fun b hb => hb.elim) ?_ (fun k o hh => by cases hh) ?_
 ·intro o' dd ho' hdd
  cases ho'
  rw [hd] at hdd; cases hdd
  exact ⟨hR, rfl, hrf, .box _ _ vs ety cs (by simp) (hcs.mono hk fun j hj => heR j (hrf j hj)), fun b hb => .inl (hblk b hb)⟩
 ·intro _
  refine ⟨ptr_rep _ (by simp [SR.eta, hd]), fun j hj => ?_⟩
  simp [AVal.refs, TV.refs, CV.refs] at hj
  exact .inr ⟨by simp, by rw [hd, hj]⟩
theorem snd_alloc (hL : LOk P L) (h : Conc C nt R η e s a w) {o : Oper} {d : Nat} (hd : o.dst = some d) (hdn : d < nt) (hR : ¬ R d) {t : TypeId} (hop : o.op = .alloc t) {ti : TI} (ht : L t = some ti) :
  Snd P C nt R η e s a w o { v := .v (.c (.ptr d 0)), new := some (.box false ti.zero) } := by
 obtain ⟨i, dd, z, hti⟩ := hL t ti ht
 refine snd_newbox h hd hdn hR (vs := z.cells) (ety := t) ?_ (hti.zrep _ _ _ _) (by rw [hti.zrefs]; simp)
 simp [execOp, hop, Instr.alloc, run_zeroValue hti, newVar, newRow]
theorem snd_box (h : Conc C nt R η e s a w) {o : Oper} {d : Nat} (hd : o.dst = some d) (hdn : d < nt) (hR : ¬ R d) {t : TypeId} {x : Operand} (hop : o.op = .box t x) {xs : List CV} (hx : acells (aev e x) = some xs) :
  Snd P C nt R η e s a w o { v := .v (.c (.ptr d 0)), new := some (.box false xs) } := by
 obtain ⟨h1, h2⟩ := aev_ok h x
 obtain ⟨h3, h4⟩ := cells_ok h1 hx
 refine snd_newbox h hd hdn hR (vs := (a.eval x).cells) (ety := t) ?_ h3 fun j hj => h2 j (h4 j hj)
 simp [execOp, hop, Instr.box, newVar, newRow]
end
end Go.Ab
end

section
namespace Go.Ab
section
variable {P : Program} {L : Lay} {C : Ctx} {nt : Nat} {R : Nat → Prop} {η : Nat → Value} {e : Env} {s : Sto} {a : Act} {w : World}
theorem toD_ok {X : Nat → Prop} {v : Value} {x : CV} {y : DVal} (h : CRep w X η C v x) (hx : toD x = some y) : DRep w X v y := by
 unfold toD at hx
 split at hx
 ·cases hx; cases h with | d _ _ h => exact h
 ·cases hx; cases h with | fl _ _ _ h => exact h
 ·cases hx
theorem toDs_ok {X : Nat → Prop} : ∀ (cs : List CV) (ds : List DVal) (c : Array Value) (off : Nat), toDs cs = some ds → (∀ j, j < cs.length → CRep w X η C (c.getD (off + j) undef) (cs.getD j (.d .any))) →
  ds.length = cs.length ∧ ∀ j, j < ds.length → DRep w X (c.getD (off + j) undef) (ds.getD j .any) := by
 intro cs
 induction cs with
 | nil => intro ds c off h _; cases h; exact ⟨rfl, fun j hj => by simp at hj⟩
 | cons x r ih =>
  intro ds c off h hr
  simp only [toDs] at h
  split at h
  ·rename_i y ys hy hys
   cases h
   obtain ⟨h1, h2⟩ := ih ys c (off + 1) hys (fun j hj => by have := hr (j + 1) (by simp; omega); rwa [Nat.add_assoc, Nat.add_comm 1 j])
   refine ⟨by simp [h1], fun j hj => ?_⟩
   cases j with
   | zero => exact toD_ok (hr 0 (by simp)) hy
   | succ j => have := h2 j (by simpa using hj); rw [Nat.add_assoc, Nat.add_comm 1 j] at this; simpa using this
  ·cases h
theorem setRow_stp (w : World) (b : Nat) (cs : Array Value) : Stp (fun x => x = b) w (w.setRow b cs) :=
 ⟨rfl, rfl, rfl, by simp, fun x _ hx => setRow_other w b x cs hx, Nat.le_refl _⟩
theorem setRow_cells (c : Array Value) (off : Nat) (vs : List Value) (h : off + vs.length ≤ c.size) :
  (c.toList.take off ++ vs ++ c.toList.drop (off + vs.length)).toArray.size = c.size ∧
  ∀ t, (c.toList.take off ++ vs ++ c.toList.drop (off + vs.length)).toArray.getD t undef = if off ≤ t ∧ t < off + vs.length then vs.getD (t - off) undef else c.getD t undef := by
 have hl : off + vs.length ≤ c.toList.length := by simpa using h
 have e1 : c.toList.take off ++ vs ++ c.toList.drop (off + vs.length) = splice c.toList off vs := by simp [splice]
 rw [e1]
 refine ⟨by simp [splice_length _ _ _ hl], fun t => ?_⟩
 have := splice_getD c.toList vs off t undef hl
 simpa [List.getD_eq_getElem?_getD, Array.getD_eq_getD_getElem?] using this
theorem snd_upd (h : Conc C nt R η e s a w) {o : Oper} (hd : o.dst = none) {id : Nat} {ob ob' : Obj} (hs : s id = some ob) (hro : ob.ro = false) (hro' : ob'.ro = false) (hrf : ∀ j ∈ ob'.refs, R j)
  {b : Nat} {cs : Array Value} {c : Prop} (hb : b ∈ blks (η id)) (hrun : (execOp a.eval o).run P w = .ok .skip (w.setRow b cs))
  (hob : ∀ X', Kept w (w.setRow b cs) (XS C s η) X' → ORep (w.setRow b cs) X' η C (η id) ob') : Snd P C nt R η e s a w o { upd := some (id, ob'), cond := c } := by
 have hown : Own s η b := ⟨id, ob, hs, hb⟩
 have hk := kept_step (C := C) (s := s) (η := η) { upd := some (id, ob'), cond := c } o.dst undef (fun x => x = b) (setRow_stp w b cs) (fun x hx => by subst hx; exact hown) (fun _ _ hh => by cases hh)
  (fun k o hh => by cases hh; rw [hs]; simp)
 have heta : SR.eta { upd := some (id, ob'), cond := c } o.dst undef η = η := by funext i; simp [SR.eta]
 refine ⟨undef, _, .inr ⟨hrun, rfl⟩, ?_⟩
 refine h.step o.dst (fun x hx => by rw [hd] at hx; cases hx) _ _ _ (fun x => x = b) (setRow_stp w b cs) ?_ (fun _ _ hh => by cases hh) ?_ (fun hh => absurd hd hh)
 ·intro x hx
  subst hx
  refine ⟨⟨id, .inr ⟨ob', rfl⟩, by rw [hs]; simp, hb⟩, ?_⟩
  rcases h.ow id ob _ hs hb with ⟨h1, _⟩ | h1
  ·rw [hro] at h1; cases h1
  ·exact h1
 ·intro k o' hh
  cases hh
  refine ⟨⟨ob, hs, hro⟩, hro', by simp, hrf, ?_⟩
  rw [heta]
  rw [heta] at hk
  exact hob _ hk
theorem snd_store (hL : LOk P L) (h : Conc C nt R η e s a w) {o : Oper} (hd : o.dst = none) {t : TypeId} {x y : Operand} (hop : o.op = .store t x y) {ti : TI} (ht : L t = some ti)
  {xs : List CV} (hy : acells (aev e y) = some xs) (hsz : xs.length = ti.size) {r : SR} (hr : wr s xs (aev e x) = some r) (hc : r.cond) : Snd P C nt R η e s a w o r := by
 obtain ⟨i, dd, z, hti⟩ := hL t ti ht
 obtain ⟨hy1, hy2⟩ := aev_ok h y
 obtain ⟨hcs, hcr⟩ := cells_ok hy1 hy
 have hx1 := (aev_ok h x).1
 have hone : ∀ v ∈ (a.eval y).cells.toList, v.oneCell' = true := by
  intro v hv
  obtain ⟨j, hj, rfl⟩ := List.getElem_of_mem hv
  have hj' : j < (a.eval y).cells.size := by simpa using hj
  have := (hcs.2 j (by rw [← hcs.1]; exact hj')).one
  simpa [hj'] using this
 have hlen : (a.eval y).cells.toList.length = xs.length := by simpa using hcs.1
 have run : ∀ (b off : Nat) (c : Array Value) (e' : TypeId), a.eval x = .pointer (some ⟨b, off, none⟩) → w.heap[b]? = some (.cells c e' (0, 0)) → off + xs.length ≤ c.size →
   (execOp a.eval o).run P w = .ok .skip (w.setRow b (c.toList.take off ++ (a.eval y).cells.toList ++ c.toList.drop (off + (a.eval y).cells.toList.length)).toArray) := by
  intro b off c e' ex hb ho
  have := run_storeCells_at P b off e' (a.eval y).cells.toList 0 c w hb (by rw [hlen]; omega) hone
  simp only [Nat.add_zero] at this
  have hsz' : (a.eval y).cells.size = ti.size := by rw [← Array.length_toList, hlen, hsz]
  simp only [execOp, hop, Sem.run_bind, Instr.storeAt, ex, Instr.sureAddr, Sem.run_pure, Result.andThen_ok, storeVar, run_sizeOf hti, hsz', ne_eq, not_true, if_false, Sem.run_ite, this]
 unfold wr at hr
 split at hr
 ·rename_i id off e1
  rw [e1] at hx1
  obtain ⟨b, ex, he⟩ := ptr_inv hx1
  split at hr
  ·rename_i bs hs
   split at hr
   ·rename_i hle
    cases hr
    have hst := h.st id _ hs
    rw [he] at hst
    cases hst with
    | box _ _ c e' _ hb hbs =>
    have hsc := setRow_cells c off (a.eval y).cells.toList (by rw [hlen, hbs.1]; omega)
    refine snd_upd h hd hs rfl rfl (fun j hj => ?_) (b := b) (by rw [he]; simp [blks]) (run b off c e' ex hb (by rw [hbs.1]; omega)) fun X' hk => ?_
    ·obtain ⟨u, hu, hj⟩ := List.mem_flatMap.1 hj
     rcases splice_mem _ _ _ u hu with hu | hu
     ·exact (h.sr id _ hs).2 j (List.mem_flatMap.2 ⟨u, hu, hj⟩)
     ·exact hy2 j (hcr j (List.mem_flatMap.2 ⟨u, hu, hj⟩))
    ·rw [he]
     refine .box b false _ e' _ (setRow_heap w b c _ e' _ hb) ⟨by rw [hsc.1, splice_length _ _ _ hle]; exact hbs.1, fun j hj => ?_⟩
     rw [splice_length _ _ _ hle] at hj
     rw [hsc.2 j, splice_getD _ _ _ _ _ hle]
     by_cases h3 : off ≤ j ∧ j < off + xs.length
     ·rw [if_pos (by rw [hlen]; exact h3), if_pos h3]
      have := (hcs.2 (j - off) (by omega)).mono hk (fun _ _ => rfl)
      simpa [List.getD_eq_getElem?_getD] using this
     ·rw [if_neg (by rw [hlen]; exact h3), if_neg h3]
      exact (hbs.2 j hj).mono hk (fun _ _ => rfl)
   ·cases hr
  ·cases hr
 ·rename_i id es idx off e1
  rw [e1] at hx1
  obtain ⟨b, n0, cap0, ex, he⟩ := pte_inv hx1
  split at hr
  ·rename_i es' k f hs
   split at hr
   ·rename_i ds hds
    split at hr
    ·rename_i hle
     obtain ⟨rfl, hle, hfl⟩ := hle
     cases hr
     have hst := h.st id _ hs
     rw [he] at hst
     cases hst with
     | nil => exact absurd hc (by simp)
     | arr _ _ _ _ c e' _ hb hsz' hn hm hc0 hl hel =>
     have hin : idx * es + es ≤ cap0 * es := by
      have hk : idx < n0 := hc
      have : (idx + 1) * es ≤ cap0 * es := Nat.mul_le_mul_right _ (by omega)
      rwa [Nat.add_mul, Nat.one_mul] at this
     obtain ⟨hdl, hdr⟩ := toDs_ok (w := w) (η := η) (C := C) (X := XS C s η) xs ds (a.eval y).cells 0 hds (fun j hj => by rw [Nat.zero_add]; exact hcs.2 j hj)
     have hfit : idx * es + off + xs.length ≤ c.size := by rw [hsz']; omega
     have hsc := setRow_cells c (idx * es + off) (a.eval y).cells.toList (by rw [hlen]; exact hfit)
     refine snd_upd h hd hs rfl rfl (by simp [Obj.refs]) (b := b) (by rw [he]; simp [blks]; omega) (run b _ c e' ex hb hfit) fun X' hk => ?_
     rw [he]
     refine .arr b n0 cap0 es _ e' _ (setRow_heap w b c _ e' _ hb) (by rw [hsc.1]; exact hsz') hn hm hc0 (fun i hi => ?_) fun i j hi hj => ?_
     ·by_cases hii : i = idx
      ·subst hii; simp only [if_true]; rw [splice_length _ _ _ (by omega)]; exact hfl
      ·simp only [hii, if_false]; exact hl i hi
     ·rw [hsc.2]
      by_cases hii : i = idx
      ·subst hii
       simp only [if_true]
       rw [splice_getD _ _ _ _ _ (by omega)]
       by_cases h3 : off ≤ j ∧ j < off + ds.length
       ·rw [if_pos (by rw [hlen]; omega), if_pos h3]
        have := (hdr (j - off) (by omega)).mono hk
        have e3 : i * es + j - (i * es + off) = j - off := by omega
        rw [e3]
        simpa [List.getD_eq_getElem?_getD] using this
       ·rw [if_neg (by rw [hlen]; omega), if_neg h3]
        exact (hel i j hi hj).mono hk
      ·simp only [hii, if_false]
       have hne : ¬ (idx * es + off ≤ i * es + j ∧ i * es + j < idx * es + off + xs.length) := by
        rintro ⟨h4, h5⟩
        rcases Nat.lt_or_gt_of_ne hii with h6 | h6
        ·have : (i + 1) * es ≤ idx * es := Nat.mul_le_mul_right _ h6
         rw [Nat.add_mul, Nat.one_mul] at this; omega
        ·have : (idx + 1) * es ≤ i * es := Nat.mul_le_mul_right _ h6
         rw [Nat.add_mul, Nat.one_mul] at this; omega
       rw [if_neg (by rw [hlen]; exact hne)]
       exact (hel i j hi hj).mono hk
    ·cases hr
   ·cases hr
  ·cases hr
 ·cases hr
end
end Go.Ab
end

section
namespace Go.Ab
section
variable {P : Program} {L : Lay} {C : Ctx} {nt : Nat} {R : Nat → Prop} {η : Nat → Value} {e : Env} {s : Sto} {a : Act} {w : World}
theorem snd_newarr (h : Conc C nt R η e s a w) {o : Oper} {d : Nat} (hd : o.dst = some d) (hdn : d < nt) (hR : ¬ R d) {del : List Nat} {es n : Nat} {f : Nat → List DVal} {c : Prop} {v : Value} {w' : World} {Z : Nat → Prop}
  (hrun : (execOp a.eval o).run P w = .ok (.value v) w') (hstep : Stp Z w w') (hone : v.oneCell' = true)
  (hZ : ∀ b, Z b → ∃ i ∈ del, s i ≠ none ∧ b ∈ blks (η i)) (hdel : ∀ i ∈ del, ∀ o', s i = some o' → o'.ro = false)
  (hv : ∀ b, b ∈ blks v → w.heap.size ≤ b ∨ ∃ i ∈ del, s i ≠ none ∧ b ∈ blks (η i))
  (hob : ∀ X', Kept w w' (XS C s η) X' → ORep w' X' (SR.eta { v := .v (.c (.own d)), del := del, new := some (.arr es n f), cond := c } o.dst v η) C v (.arr es n f)) :
  Snd P C nt R η e s a w o { v := .v (.c (.own d)), del := del, new := some (.arr es n f), cond := c } := by
 have hmod : ∀ i ∈ del, s i ≠ none → ∀ b, b ∈ blks (η i) → C.M b ∨ C.w0.heap.size ≤ b := by
  intro i hi hn b hb
  obtain ⟨o', ho'⟩ := Option.ne_none_iff_exists'.1 hn
  rcases h.ow i o' b ho' hb with ⟨h1, _⟩ | h1
  ·rw [hdel i hi o' ho'] at h1; cases h1
  ·exact h1
 have hk := kept_step (C := C) (s := s) (η := η) { v := .v (.c (.own d)), del := del, new := some (.arr es n f), cond := c } o.dst v Z hstep
  (fun b hb => by
   obtain ⟨i, _, hi, hib⟩ := hZ b hb
   obtain ⟨o', ho'⟩ := Option.ne_none_iff_exists'.1 hi
   exact ⟨i, o', ho', hib⟩)
  (fun _ _ _ _ b hb => (hv b hb).imp id fun ⟨i, _, hi, hib⟩ => by
   obtain ⟨o', ho'⟩ := Option.ne_none_iff_exists'.1 hi
   exact ⟨i, o', ho', hib⟩)
  (fun k o hh => by cases hh)
 refine ⟨v, w', .inl hrun, h.step o.dst (fun x hx => by rw [hd] at hx; cases hx; exact hdn) _ _ _ Z hstep ?_ ?_ (fun k o hh => by cases hh) ?_⟩
 ·intro b hb
  obtain ⟨i, hi, hn, hib⟩ := hZ b hb
  exact ⟨⟨i, .inl hi, hn, hib⟩, hmod i hi hn b hib⟩
 ·intro o' dd ho' hdd
  cases ho'
  rw [hd] at hdd; cases hdd
  refine ⟨hR, rfl, by simp [Obj.refs], hob _ hk, fun b hb => ?_⟩
  rcases hv b hb with h1 | ⟨i, hi, hn, hib⟩
  ·exact .inl h1
  ·exact .inr ⟨⟨i, hi, hn, hib⟩, hmod i hi hn b hib⟩
 ·intro _
  refine ⟨.v _ _ (.c _ _ (.own _ _ (by simp [SR.eta, hd]) hone)), fun j hj => ?_⟩
  simp [AVal.refs, TV.refs, CV.refs] at hj
  exact .inr ⟨by simp, by rw [hd, hj]⟩
theorem asL_ok (h : Conc C nt R η e s a w) {v : Value} {x : AVal} (hv : ARep w (XS C s η) η C v x) {n : Nat} {f : Nat → List DVal} (hx : asL s x = some (n, f)) :
  ∃ ad cap, v = .slice ad n cap ∧ n ≤ cap ∧ (n = 0 ∨ ∃ b off c e' fz es, ad = some ⟨b, off, none⟩ ∧ w.heap[b]? = some (.cells c e' fz) ∧ off + n * es ≤ c.size ∧ (∀ i, i < n → (f i).length = es) ∧
   ∀ i j, i < n → j < es → DRep w (XS C s η) (c.getD (off + (i * es + j)) undef) ((f i).getD j .any)) := by
 have base : ∀ {v : Value}, DRep w (XS C s η) v (.lst n f) → ∃ ad cap, v = .slice ad n cap ∧ n ≤ cap ∧ (n = 0 ∨ ∃ b off c e' fz es, ad = some ⟨b, off, none⟩ ∧ w.heap[b]? = some (.cells c e' fz) ∧ off + n * es ≤ c.size ∧ (∀ i, i < n → (f i).length = es) ∧
   ∀ i j, i < n → j < es → DRep w (XS C s η) (c.getD (off + (i * es + j)) undef) ((f i).getD j .any)) := by
  intro v hd
  cases hd with
  | nil ad cap _ => exact ⟨ad, cap, rfl, Nat.zero_le _, .inl rfl⟩
  | lst b off _ cap c e' fz _ es h1 h2 h3 h4 h5 h6 => exact ⟨_, cap, rfl, h3, .inr ⟨b, off, c, e', fz, es, rfl, h2, h4, h5, h6⟩⟩
 unfold asL at hx
 split at hx
 ·cases hx
  cases hv with | v _ _ hv => cases hv with | c _ _ hv => cases hv with | d _ _ hv => exact base hv
 ·cases hx
  cases hv with | v _ _ hv => cases hv with | c _ _ hv => cases hv with | fl _ _ _ hv => exact base hv
 ·split at hx
  ·rename_i id _ es n' f' hs
   cases hx
   have hst := h.st id _ hs
   have ev := own_inv hv
   rw [ev]
   generalize η id = u at hst
   cases hst with
   | nil _ es _ => exact ⟨_, _, rfl, Nat.le_refl _, .inl rfl⟩
   | arr b _ cap es c e' _ hb hsz hn hm hc hl hel =>
    exact ⟨_, cap, rfl, hn, .inr ⟨b, 0, c, e', (0, 0), es, rfl, hb, by rw [Nat.zero_add, hsz]; exact Nat.mul_le_mul_right _ hn, hl, fun i j hi hj => by rw [Nat.zero_add]; exact hel i j hi hj⟩⟩
  ·cases hx
 ·cases hx
theorem snd_len (hL : LOk P L) (h : Conc C nt R η e s a w) {o : Oper} (hd : ∀ x, o.dst = some x → x < nt) {t : TypeId} {x : Operand} (hop : o.op = .call { callee := .builtin .len, args := #[x], argTypes := #[t] })
  {ti : TI} (ht : L t = some ti) {el : Nat} (hk : ti.kind = .slice el) {n : Nat} {f : Nat → List DVal} (hx : asL s (aev e x) = some (n, f)) : Snd P C nt R η e s a w o { v := vi n } := by
 obtain ⟨i, dd, z, hti⟩ := hL t ti ht
 have hkd := hti.kind
 rw [hk] at hkd
 simp only [KOk] at hkd
 obtain ⟨ad, cap, ev, _⟩ := asL_ok h (aev_ok h x).1 hx
 refine snd_val h hd (v := .int .i64 n) ?_ (int_rep _ _ _) (by simp [vi, AVal.refs, TV.refs, CV.refs])
 simp [execOp, hop, resolve, invoke, builtin, Builtin.len_, run_underlying hti.und, hkd, ev, goInt]
theorem snd_lenArr (hL : LOk P L) (h : Conc C nt R η e s a w) {o : Oper} (hd : ∀ x, o.dst = some x → x < nt) {t : TypeId} {x : Operand} (hop : o.op = .call { callee := .builtin .len, args := #[x], argTypes := #[t] })
  {ti : TI} (ht : L t = some ti) {n el : Nat} (hk : ti.kind = .array n el) : Snd P C nt R η e s a w o { v := vi n } := by
 obtain ⟨i, dd, z, hti⟩ := hL t ti ht
 have hkd := hti.kind
 rw [hk] at hkd
 simp only [KOk] at hkd
 refine snd_val h hd (v := .int .i64 n) ?_ (int_rep _ _ _) (by simp [vi, AVal.refs, TV.refs, CV.refs])
 simp [execOp, hop, resolve, invoke, builtin, Builtin.len_, run_underlying hti.und, hkd, goInt]
theorem snd_lenStr (hL : LOk P L) (h : Conc C nt R η e s a w) {o : Oper} (hd : ∀ x, o.dst = some x → x < nt) {t : TypeId} {x : Operand} (hop : o.op = .call { callee := .builtin .len, args := #[x], argTypes := #[t] })
  {ti : TI} (ht : L t = some ti) (hk : ti.kind = .str) {b : ByteArray} (hx : aev e x = .v (.c (.d (.str b)))) : Snd P C nt R η e s a w o { v := vi b.size } := by
 obtain ⟨i, dd, z, hti⟩ := hL t ti ht
 have hkd := hti.kind
 rw [hk] at hkd
 simp only [KOk] at hkd
 have hv := (aev_ok h x).1
 rw [hx] at hv
 have ev := str_inv hv
 refine snd_val h hd (v := .int .i64 b.size) ?_ (int_rep _ _ _) (by simp [vi, AVal.refs, TV.refs, CV.refs])
 simp [execOp, hop, resolve, invoke, builtin, Builtin.len_, run_underlying hti.und, hkd, ev, goInt]
theorem snd_minmax (h : Conc C nt R η e s a w) {o : Oper} (hd : ∀ x, o.dst = some x → x < nt) {tys : Array TypeId} {x y : Operand} {bi : Builtin} (hop : o.op = .call { callee := .builtin bi, args := #[x, y], argTypes := tys })
  {k k' : IntKind} {n n' : Int} (hx : aev e x = .v (.c (.d (.int k n)))) (hy : aev e y = .v (.c (.d (.int k' n')))) {u : Int} (hu : (bi = .min ∧ u = gmin n n') ∨ (bi = .max ∧ u = gmax n n')) :
  Snd P C nt R η e s a w o { v := .v (.c (.d (.int k u))) } := by
 have h1 := (aev_ok h x).1
 have h2 := (aev_ok h y).1
 rw [hx] at h1; rw [hy] at h2
 have e1 := int_inv h1
 have e2 := int_inv h2
 refine snd_val h hd (v := .int k u) ?_ (int_rep _ _ _) (by simp [AVal.refs, TV.refs, CV.refs])
 rcases hu with ⟨rfl, rfl⟩ | ⟨rfl, rfl⟩
 ·simp [execOp, hop, resolve, invoke, builtin, Builtin.min_, Builtin.min2, e1, e2, gmin]
 ·simp [execOp, hop, resolve, invoke, builtin, Builtin.max_, Builtin.max2, e1, e2, gmax]
theorem sliceB_ok (v : Int) (m : Nat) (code : BoundsCode) (h : 0 ≤ v ∧ v ≤ m) (k : IntKind) : (Instr.sliceBound (.int k v) m code).run P w = .ok v.toNat w := by
 simp [Instr.sliceBound, asIntOf, h]
theorem oI_ok (h : Conc C nt R η e s a w) {x : Option Operand} {n : Option Int} (hx : oI e x = some n) : (x = none ∧ n = none) ∨ ∃ k m, x.map a.eval = some (.int k m) ∧ n = some m := by
 unfold oI at hx
 split at hx
 ·cases hx; exact .inl ⟨rfl, rfl⟩
 ·rename_i y
  split at hx
  ·rename_i m hm
   cases hx
   unfold asI at hm
   split at hm
   ·rename_i k m' e1
    cases hm
    have h1 := (aev_ok h y).1
    rw [e1] at h1
    exact .inr ⟨k, m, by simp [int_inv h1], rfl⟩
   ·cases hm
  ·cases hx
theorem sliceBounds_ok (h : Conc C nt R η e s a w) {lo hi : Option Operand} {l u : Option Int} (hl : oI e lo = some l) (hu : oI e hi = some u) (n cap : Nat) (hn : n ≤ cap) (f : Nat → List DVal) (hc : (sl n f l u).2) :
  (Instr.sliceBounds true n cap (lo.map a.eval) (hi.map a.eval) none).run P w = .ok ((l.getD 0).toNat, (u.getD n).toNat, cap) w ∧ (l.getD 0).toNat ≤ (u.getD n).toNat ∧ (u.getD n).toNat ≤ n ∧
   (sl n f l u).1.1 = (u.getD n).toNat - (l.getD 0).toNat ∧ ∀ i, (sl n f l u).1.2 i = f ((l.getD 0).toNat + i) := by
 rcases oI_ok h hl with ⟨h1, h2⟩ | ⟨k, m, h1, h2⟩ <;> rcases oI_ok h hu with ⟨h3, h4⟩ | ⟨k', m', h3, h4⟩ <;> subst h2 <;> subst h4 <;> simp only [sl] at hc
 ·subst h1; subst h3
  simp [Instr.sliceBounds, sl]
 ·subst h1
  simp [Instr.sliceBounds, sl, h3, sliceB_ok m' cap _ ⟨hc.1, by omega⟩]; omega
 ·subst h3
  simp [Instr.sliceBounds, sl, h1, sliceB_ok m n _ hc]; omega
 ·have hx := sliceB_ok (P := P) (w := w) m m'.toNat .sliceB ⟨hc.1, by omega⟩ k
  simp [Instr.sliceBounds, sl, h1, h3, sliceB_ok m' cap _ ⟨by omega, by omega⟩, hx]; omega
theorem drep_sub {X : Nat → Prop} {ad : Option Addr} {n cap : Nat} {f : Nat → List DVal} {es : Nat} (h : DRep w X (.slice ad n cap) (.lst n f)) (hes : ∀ j, j < n → (f j).length = es) (l u : Nat) (hlu : l ≤ u) (hun : u ≤ n) (m : Nat) (hm : u - l ≤ m) (g : Nat → List DVal) (hg : ∀ i, g i = f (l + i)) :
  DRep w X (.slice (if cap = l then ad else ad.map (·.add (l * es))) (u - l) m) (.lst (u - l) g) := by
 by_cases h0 : u - l = 0
 ·rw [h0]; exact .nil _ _ _
 ·cases h with
  | nil => omega
  | lst b off _ _ c e' fz _ es' h1 h2 h3 h4 h5 h6 =>
   have hee : es' = es := by rw [← h5 l (by omega), hes l (by omega)]
   subst hee
   have hne : ¬ cap = l := by omega
   simp only [hne, if_false, Option.map_some, add_lit]
   have hbound : l * es' + (u - l) * es' ≤ n * es' := by rw [← Nat.add_mul]; exact Nat.mul_le_mul_right _ (by omega)
   refine .lst b (off + l * es') _ m c e' fz _ es' h1 h2 hm (by omega) (fun i hi => by rw [hg]; exact h5 _ (by omega)) fun i j hi hj => ?_
   rw [hg]
   have := h6 (l + i) j (by omega) hj
   rwa [show off + ((l + i) * es' + j) = off + l * es' + (i * es' + j) from by rw [Nat.add_mul]; omega] at this
theorem snd_slice (hL : LOk P L) (h : Conc C nt R η e s a w) {o : Oper} (hd : ∀ x, o.dst = some x → x < nt) {t : TypeId} {x : Operand} {lo hi : Option Operand} (hop : o.op = .slice t x lo hi none)
  {ti : TI} (ht : L t = some ti) {el : Nat} (hk : ti.kind = .slice el) {te : TI} (hte : L el = some te) {l u : Option Int} (hl : oI e lo = some l) (hu : oI e hi = some u)
  {n : Nat} {f : Nat → List DVal} (hx : aop1.asF (aev e x) = some (n, f)) {c : Prop} (hc : (sl n f l u).2) (hes : ∀ j, j < n → (f j).length = te.size) :
  Snd P C nt R η e s a w o { v := .v (.c (.d (.lst (sl n f l u).1.1 (sl n f l u).1.2))), cond := c } := by
 obtain ⟨i, dd, z, hti⟩ := hL t ti ht
 obtain ⟨i2, dd2, z2, hte'⟩ := hL el te hte
 have hkd := hti.kind
 rw [hk] at hkd
 simp only [KOk] at hkd
 obtain ⟨ad, cap, ev, hrep⟩ := asF_ok (aev_ok h x).1 hx
 rw [ev] at hrep
 have hn : n ≤ cap := by cases hrep with | nil => exact Nat.zero_le _ | lst _ _ _ _ _ _ _ _ _ _ _ h3 => exact h3
 obtain ⟨hb, h1, h2, h3, h4⟩ := sliceBounds_ok (P := P) h hl hu n cap hn f hc
 have hsub := drep_sub hrep hes (l.getD 0).toNat (u.getD n).toNat h1 h2 (cap - (l.getD 0).toNat) (by omega) (sl n f l u).1.2 h4
 rw [← h3] at hsub
 refine snd_val h hd ?_ (.v _ _ (.c _ _ (.d _ _ hsub))) (by simp [AVal.refs, TV.refs, CV.refs])
 simp only [execOp, hop, Sem.run_bind, Instr.sliceAt, run_underlying hti.und, Result.andThen_ok, hkd, Instr.slice, ev, Option.map_none, hb, run_sizeOf hte', Sem.run_pure, h3]
theorem snd_slice3 (hL : LOk P L) (h : Conc C nt R η e s a w) {o : Oper} (hd : ∀ x, o.dst = some x → x < nt) {t : TypeId} {x hx mx : Operand} (hop : o.op = .slice t x none (some hx) (some mx))
  {ti : TI} (ht : L t = some ti) {el : Nat} (hk : ti.kind = .slice el) {te : TI} (hte : L el = some te) {u : Int} (hu : asI (aev e hx) = some u) (hm : asI (aev e mx) = some u) (h0 : 0 < u)
  {n : Nat} {f : Nat → List DVal} (hxx : aop1.asF (aev e x) = some (n, f)) {c : Prop} (hc : u ≤ n) (hes : ∀ j, j < n → (f j).length = te.size) :
  Snd P C nt R η e s a w o { v := .v (.c (.fl u.toNat f)), cond := c } := by
 obtain ⟨i, dd, z, hti⟩ := hL t ti ht
 obtain ⟨i2, dd2, z2, hte'⟩ := hL el te hte
 have hkd := hti.kind
 rw [hk] at hkd
 simp only [KOk] at hkd
 obtain ⟨ad, cap, ev, hrep⟩ := asF_ok (aev_ok h x).1 hxx
 rw [ev] at hrep
 have hn : n ≤ cap := by cases hrep with | nil => exact Nat.zero_le _ | lst _ _ _ _ _ _ _ _ _ _ _ h3 => exact h3
 have int_of : ∀ {y : Operand} {m : Int}, asI (aev e y) = some m → ∃ k, a.eval y = .int k m := by
  intro y m hm
  unfold asI at hm
  split at hm
  ·rename_i k m' e1
   cases hm
   have h1 := (aev_ok h y).1
   rw [e1] at h1
   exact ⟨k, int_inv h1⟩
  ·cases hm
 obtain ⟨k1, e1⟩ := int_of hu
 obtain ⟨k2, e2⟩ := int_of hm
 have hsub := drep_sub hrep hes 0 u.toNat (Nat.zero_le _) (by omega) u.toNat (by omega) f (fun i => by rw [Nat.zero_add])
 have hcap : ¬ cap = 0 := by omega
 simp only [hcap, if_false, Nat.zero_mul, Nat.sub_zero] at hsub
 have hadd : ad.map (fun x : Addr => x.add 0) = ad := by cases ad <;> simp [Addr.add]
 rw [hadd] at hsub
 refine snd_val h hd (v := .slice ad u.toNat u.toNat) ?_ (.v _ _ (.c _ _ (.fl _ _ _ hsub))) (by simp [AVal.refs, TV.refs, CV.refs])
 have b1 := sliceB_ok (P := P) (w := w) u cap .slice3Acap ⟨by omega, by omega⟩ k2
 have b2 := sliceB_ok (P := P) (w := w) u u.toNat .slice3B ⟨by omega, by omega⟩ k1
 have hu0 : ¬ u.toNat = 0 := by omega
 simp only [execOp, hop, Sem.run_bind, Instr.sliceAt, run_underlying hti.und, Result.andThen_ok, hkd, Instr.slice, ev, Instr.sliceBounds, Option.map_some, Option.map_none, if_true, e1, e2, b1, b2, Sem.run_pure, run_sizeOf hte', hu0, if_false, Nat.zero_mul, Nat.sub_zero, hadd]
end
end Go.Ab
end

section
namespace Go.Ab
section
variable {P : Program} {L : Lay} {C : Ctx} {nt : Nat} {R : Nat → Prop} {η : Nat → Value} {e : Env} {s : Sto} {a : Act} {w : World}
theorem news_of {X : Nat → Prop} {ad : Option Addr} {n es : Nat} {g : Nat → List DVal} (hn : n ≠ 0)
  (h : n = 0 ∨ ∃ b off c e' fz es', ad = some ⟨b, off, none⟩ ∧ w.heap[b]? = some (.cells c e' fz) ∧ off + n * es' ≤ c.size ∧ (∀ i, i < n → (g i).length = es') ∧
   ∀ i j, i < n → j < es' → DRep w X (c.getD (off + (i * es' + j)) undef) ((g i).getD j .any)) (hes : ∀ i, i < n → (g i).length = es) :
  ∃ b off, ad = some ⟨b, off, none⟩ ∧ ∃ news : List Value, news.length = n * es ∧ (∀ j u, news[j]? = some u → w.cell? ((⟨b, off, none⟩ : Addr).add j) = some u) ∧ (∀ u ∈ news, u.oneCell' = true) ∧
   ∀ i j, i < n → j < es → DRep w X (news.getD (i * es + j) undef) ((g i).getD j .any) := by
 rcases h with h | ⟨b, off, c, e', fz, es', rfl, hb, ho, hl, hd⟩
 ·exact absurd h hn
 ·have hee : es' = es := by rw [← hl 0 (by omega), hes 0 (by omega)]
  subst hee
  refine ⟨b, off, rfl, vals c off (n * es'), by simp [vals], fun j u hu => ?_, fun u hu => ?_, fun i j hi hj => ?_⟩
  ·simp only [vals, List.getElem?_map] at hu
   by_cases hj : j < n * es'
   ·rw [List.getElem?_range hj] at hu
    cases hu
    rw [add_lit]
    exact cell_at hb _ (by omega)
   ·rw [List.getElem?_eq_none (by simp; omega)] at hu; cases hu
  ·simp only [vals] at hu
   obtain ⟨k, hk, rfl⟩ := List.mem_map.1 hu
   rw [List.mem_range] at hk
   by_cases hz : es' = 0
   ·subst hz; simp at hk
   ·have h1 : k / es' < n := Nat.div_lt_of_lt_mul (by rw [Nat.mul_comm]; exact hk)
    have h2 : k % es' < es' := Nat.mod_lt _ (by omega)
    have := (hd (k / es') (k % es') h1 h2).one
    rwa [show k / es' * es' + k % es' = k from by rw [Nat.mul_comm]; exact Nat.div_add_mod k es'] at this
  ·have hlt : i * es' + j < n * es' := by
    have : (i + 1) * es' ≤ n * es' := Nat.mul_le_mul_right _ hi
    rw [Nat.add_mul, Nat.one_mul] at this; omega
   have : (vals c off (n * es')).getD (i * es' + j) undef = c.getD (off + (i * es' + j)) undef := by simp [vals, List.getD_eq_getElem?_getD, hlt]
   rw [this]; exact hd i j hi hj
theorem bytes_le {n b : Nat} (h : n ≤ LIM) (hb : b ≤ 8192) : n * b ≤ 140737488355328 := by
 have := Nat.mul_le_mul h hb
 simp only [LIM] at this
 omega
theorem take_getD {c : Array Value} {k t : Nat} {xs : List Value} (h : c.toList.take k = xs) (ht : t < k) : c.getD t undef = xs.getD t undef := by
 rw [← h]; simp [List.getD_eq_getElem?_getD, ht]
theorem app_rep {X : Nat → Prop} {es n k : Nat} {f g : Nat → List DVal} {c : Array Value} {olds news : List Value} (hc : c.toList.take ((n + k) * es) = olds ++ news) (ho : olds.length = n * es)
  (h1 : ∀ i j, i < n → j < es → DRep w X (olds.getD (i * es + j) undef) ((f i).getD j .any)) (h2 : ∀ i j, i < k → j < es → DRep w X (news.getD (i * es + j) undef) ((g i).getD j .any)) :
  ∀ i j, i < n + k → j < es → DRep w X (c.getD (i * es + j) undef) ((appF n f g i).getD j .any) := by
 intro i j hi hj
 have hlt : i * es + j < (n + k) * es := by
  have : (i + 1) * es ≤ (n + k) * es := Nat.mul_le_mul_right _ hi
  rw [Nat.add_mul, Nat.one_mul] at this; omega
 rw [take_getD hc hlt]
 unfold appF
 by_cases h3 : i < n
 ·have hlt' : i * es + j < olds.length := by
   have : (i + 1) * es ≤ n * es := Nat.mul_le_mul_right _ h3
   rw [Nat.add_mul, Nat.one_mul] at this; omega
  rw [if_pos h3]
  have : (olds ++ news).getD (i * es + j) undef = olds.getD (i * es + j) undef := by simp [List.getD_eq_getElem?_getD, List.getElem?_append, hlt']
  rw [this]; exact h1 i j h3 hj
 ·have hge : n * es ≤ i * es := Nat.mul_le_mul_right _ (by omega)
  rw [if_neg h3]
  have : (olds ++ news).getD (i * es + j) undef = news.getD ((i - n) * es + j) undef := by
   have hsub : i * es + j - olds.length = (i - n) * es + j := by rw [ho, Nat.sub_mul]; omega
   have hnot : ¬ i * es + j < olds.length := by omega
   simp [List.getD_eq_getElem?_getD, List.getElem?_append, hnot, hsub]
  rw [this]; exact h2 (i - n) j (by omega) hj
theorem append_zero (t ty : TypeId) {el : TypeId} {i : TypeInfo} (hu : P.underlying t = some (.slice el)) (hi : P.info? el = some i) (base : Option Addr) (n cap : Nat) (hn : n ≤ cap) (ad : Option Addr) (c : Nat) :
  (Builtin.append_ #[t, t] ty #[.slice base n cap, .slice ad 0 c]).run P w = .ok (.slice base n cap) w := by
 have hf : (Builtin.firstCells i.size 0 (.slice ad 0 c)).run P w = .ok #[] w := by cases ad <;> simp [Builtin.firstCells, loadCells, loadCellsFrom]
 cases base <;> simp [Builtin.append_, run_underlying hu, sizeOf, typeInfo, hi, Builtin.lenOf, hn, hf, storeCells]
theorem run_append_room' (t ty e e' : TypeId) (i : TypeInfo) (ht : P.underlying t = some (.slice e)) (hi : P.info? e = some i)
  (g sLen sCap : Nat) (cur : Array Value) (hg : w.heap[g]? = some (.cells cur e' (0, 0)))
  (a : Addr) (m c : Nat) (news : List Value) (hl : news.length = m * i.size) (hnews : ∀ j u, news[j]? = some u → w.cell? (a.add j) = some u) (h1 : ∀ u ∈ news, u.oneCell' = true)
  (hroom : sLen + m ≤ sCap) (hfit : sLen * i.size + news.length ≤ cur.size) :
  (Builtin.append_ #[t, t] ty #[.slice (some ⟨g, 0, none⟩) sLen sCap, .slice (some a) m c]).run P w =
   .ok (.slice (some ⟨g, 0, none⟩) (sLen + m) sCap) (w.setRow g (cur.toList.take (sLen * i.size) ++ news ++ cur.toList.drop (sLen * i.size + news.length)).toArray) := by
 have hf := run_firstCells_some (P := P) w i.size m a m c news hl hnews
 have hst := run_storeCells_at P g (sLen * i.size) e' news 0 cur w hg (by simpa using hfit) h1
 simp only [Nat.add_zero] at hst
 simp [Builtin.append_, run_underlying ht, sizeOf, typeInfo, hi, Builtin.lenOf, hroom, hf, Addr.add_lit, hst]
theorem drewalloc_stp (Z : Nat → Prop) (w : World) (o : Go.Obj) : Stp Z w (w.drew.alloc o) :=
 ⟨rfl, rfl, rfl, by simp, fun b hb _ => by rw [heap_alloc_old w.drew o b hb]; rfl, Nat.le_succ _⟩
theorem snd_grown (h : Conc C nt R η e s a w) {o : Oper} {d : Nat} (hd : o.dst = some d) (hdn : d < nt) (hR : ¬ R d) {del : List Nat} (hdel : ∀ i ∈ del, ∀ o', s i = some o' → o'.ro = false) {es n k gc : Nat} {f g : Nat → List DVal} {c : Prop} {olds news : List Value} {z : Array Value} {el : TypeId}
  (hrun : (execOp a.eval o).run P w = .ok (.value (.slice (some ⟨w.heap.size, 0, none⟩) (n + k) gc)) (w.drew.alloc (.cells (olds.toArray ++ news.toArray ++ Builtin.zeroCells z (gc - (n + k))) el)))
  (hz : z.size = es) (ho : olds.length = n * es) (hnl : news.length = k * es) (hgc : n + k ≤ gc) (hgm : gc ≤ maxLen) (hk : 0 < k)
  (hfl : ∀ i, i < n → (f i).length = es) (hgl : ∀ i, i < k → (g i).length = es)
  (h1 : ∀ i j, i < n → j < es → DRep w (XS C s η) (olds.getD (i * es + j) undef) ((f i).getD j .any)) (h2 : ∀ i j, i < k → j < es → DRep w (XS C s η) (news.getD (i * es + j) undef) ((g i).getD j .any)) :
  Snd P C nt R η e s a w o { v := .v (.c (.own d)), del := del, new := some (.arr es (n + k) (appF n f g)), cond := c } := by
 refine snd_newarr h hd hdn hR (Z := fun _ => False) hrun (drewalloc_stp _ w _) rfl (fun b hb => hb.elim) hdel (fun b hb => .inl (by simp [blks] at hb; omega)) fun X' hkept => ?_
 refine .arr _ _ gc es _ el _ (heap_alloc_new w.drew _) ?_ hgc hgm (by omega) (fun i hi => ?_) ?_
 ·simp only [Array.size_append, List.size_toArray, size_zeroCells, hz, ho, hnl, ← Nat.add_mul]
  congr 1; omega
 ·unfold appF
  by_cases h3 : i < n
  ·rw [if_pos h3]; exact hfl i h3
  ·rw [if_neg h3]; exact hgl _ (by omega)
 ·refine app_rep (olds := olds) (news := news) ?_ ho (fun i j hi hj => (h1 i j hi hj).mono hkept) (fun i j hi hj => (h2 i j hi hj).mono hkept)
  have hlen : (olds ++ news).length = (n + k) * es := by rw [List.length_append, ho, hnl, Nat.add_mul]
  simp only [Array.toList_append, List.append_assoc]
  rw [← List.append_assoc, ← hlen]
  exact List.take_left
theorem snd_appendGrow (hL : LOk P L) (h : Conc C nt R η e s a w) {o : Oper} {d : Nat} (hd : o.dst = some d) (hdn : d < nt) (hR : ¬ R d) {t : TypeId} {x y : Operand}
  (hop : o.op = .call { callee := .builtin .append, args := #[x, y], argTypes := #[t, t] }) {ti : TI} (ht : L t = some ti) {el : Nat} (hk : ti.kind = .slice el) {te : TI} (hte : L el = some te)
  (hby : te.bytes ≤ 8192) (hzl : te.zero.length = te.size) {del : List Nat} (hdel : ∀ i ∈ del, ∀ o', s i = some o' → o'.ro = false) {n k cap : Nat} {f g : Nat → List DVal} {c : Prop} (hlim : n + k ≤ LIM)
  {base : Option Addr} (ex : a.eval x = .slice base n cap) (hcap : cap < n + k) (hb0 : base = none → n = 0 ∧ cap = 0) {olds : List Value} (holdl : olds.length = n * te.size) (holds : ∀ b0, base = some b0 → ∀ j u, olds[j]? = some u → w.cell? (b0.add j) = some u)
  {b2 : Addr} {cy : Nat} (ey : a.eval y = .slice (some b2) k cy) {news : List Value} (hnl : news.length = k * te.size) (hncell : ∀ j u, news[j]? = some u → w.cell? (b2.add j) = some u) (hk0 : 0 < k)
  (hfl : ∀ i, i < n → (f i).length = te.size) (hgl : ∀ i, i < k → (g i).length = te.size)
  (h1 : ∀ i j, i < n → j < te.size → DRep w (XS C s η) (olds.getD (i * te.size + j) undef) ((f i).getD j .any)) (h2 : ∀ i j, i < k → j < te.size → DRep w (XS C s η) (news.getD (i * te.size + j) undef) ((g i).getD j .any)) :
  Snd P C nt R η e s a w o { v := .v (.c (.own d)), del := del, new := some (.arr te.size (n + k) (appF n f g)), cond := c } := by
 obtain ⟨i, dd, z, hti⟩ := hL t ti ht
 obtain ⟨i2, dd2, z2, hte'⟩ := hL el te hte
 have hkd := hti.kind
 rw [hk] at hkd
 simp only [KOk] at hkd
 subst hkd
 have hzs : z2.cells.size = te.size := by rw [(hte'.zrep w (fun _ => False) η C).1, hzl]
 have hexec : ∀ {v : Value} {w' : World}, (Builtin.append_ #[t, t] o.type #[a.eval x, a.eval y]).run P w = .ok v w' → (execOp a.eval o).run P w = .ok (.value v) w' := by
  intro v w' hh
  simp [execOp, hop, resolve, invoke, builtin, hh]
 cases base with
 | none =>
  obtain ⟨rfl, rfl⟩ := hb0 rfl
  have : olds = [] := List.eq_nil_of_length_eq_zero (by rw [holdl, Nat.zero_mul])
  subst this
  have hr := run_append_nil (P := P) w t o.type el i2 z2 hti.und hte'.info hte'.zero b2 k cy news (by rw [hte'.size]; exact hnl) hncell (by omega) (by simp only [LIM] at hlim; omega)
   (by have := bytes_le (n := k) (by omega) hby; rw [hte'.bytes]; omega)
  have hrun := hexec (by rw [ex, ey]; exact hr)
  have hrun' : (execOp a.eval o).run P w = .ok (.value (.slice (some ⟨w.heap.size, 0, none⟩) (0 + k) (grownCap w k 0 el))) (w.drew.alloc (.cells (([] : List Value).toArray ++ news.toArray ++ Builtin.zeroCells z2.cells (grownCap w k 0 el - (0 + k))) el)) := by
   rw [hrun]; simp
  exact snd_grown h hd hdn hR hdel hrun' hzs (by simp) hnl (by have := grownCap_ge w k 0 el; omega) (grownCap_le_maxLen w k 0 el (by simp only [LIM] at hlim; simp only [maxLen]; omega)) (by omega) hfl hgl h1 h2
 | some b0 =>
  have hr := run_append_grow (P := P) w t o.type el i2 z2 hti.und hte'.info hte'.zero b0 n cap olds (by rw [hte'.size]; exact holdl) (holds b0 rfl) b2 k cy news (by rw [hte'.size]; exact hnl) hncell (by omega) (by simp only [LIM] at hlim; omega)
   (growslice_fits (by omega) (by rw [hte'.bytes]; exact bytes_le hlim hby))
  exact snd_grown h hd hdn hR hdel (hexec (by rw [ex, ey]; exact hr)) hzs holdl hnl (grownCap_ge w (n + k) cap el) (grownCap_le_maxLen w (n + k) cap el (by simp only [LIM] at hlim; simp only [maxLen]; omega)) (by omega) hfl hgl h1 h2
theorem snd_append (hL : LOk P L) (h : Conc C nt R η e s a w) {o : Oper} {d : Nat} (hd : o.dst = some d) (hdn : d < nt) (hR : ¬ R d) {t : TypeId} {x y : Operand}
  (hop : o.op = .call { callee := .builtin .append, args := #[x, y], argTypes := #[t, t] }) {ti : TI} (ht : L t = some ti) {el : Nat} (hk : ti.kind = .slice el) {te : TI} (hte : L el = some te)
  {k : Nat} {g : Nat → List DVal} (hy : asL s (aev e y) = some (k, g)) {del : List Nat} {n : Nat} {f : Nat → List DVal} {c0 : Prop} (hx : asApp s te.size k (aev e x) = some (del, n, f, c0)) (hc0 : c0)
  (hby : te.bytes ≤ 8192) (hzl : te.zero.length = te.size) {c : Prop} (hlim : n + k ≤ LIM) (hgl : ∀ j, j < k → (g j).length = te.size) :
  Snd P C nt R η e s a w o { v := .v (.c (.own d)), del := del, new := some (.arr te.size (n + k) (appF n f g)), cond := c } := by
 obtain ⟨i, dd, z, hti⟩ := hL t ti ht
 obtain ⟨i2, dd2, z2, hte'⟩ := hL el te hte
 have hkd := hti.kind
 rw [hk] at hkd
 simp only [KOk] at hkd
 subst hkd
 obtain ⟨ad, cy, ey, hcy, hrow⟩ := asL_ok h (aev_ok h y).1 hy
 have hzs : z2.cells.size = te.size := by rw [(hte'.zrep w (fun _ => False) η C).1, hzl]
 have hexec : ∀ {v : Value} {w' : World}, (Builtin.append_ #[t, t] o.type #[a.eval x, a.eval y]).run P w = .ok v w' → (execOp a.eval o).run P w = .ok (.value v) w' := by
  intro v w' hh
  simp [execOp, hop, resolve, invoke, builtin, hh]
 unfold asApp at hx
 split at hx
 ·
  rename_i id e1
  split at hx
  ·rename_i es' n' f' hs
   split at hx
   ·rename_i hes
    cases hx
    subst hes
    have hvx := (aev_ok h x).1
    rw [e1] at hvx
    have ex := own_inv hvx
    have hst := h.st id _ hs
    by_cases hk0 : k = 0
    ·
     subst hk0
     have hst' := hst
     generalize hu : η id = u at hst ex
     have hn : ∃ base cap, u = .slice base n cap ∧ n ≤ cap := by
      cases hst with
      | nil => exact ⟨_, _, rfl, Nat.le_refl _⟩
      | arr b _ cap _ c' e' _ _ _ hn _ _ _ _ => exact ⟨_, _, rfl, hn⟩
     obtain ⟨base, cap, hub, hn⟩ := hn
     refine snd_newarr h hd hdn hR (Z := fun _ => False) (v := u) (w' := w) (hexec (by rw [ex, ey, hub]; exact append_zero t o.type hti.und hte'.info base n cap hn ad cy)) (Stp.refl _ _) (by rw [hub]; rfl) (fun b hb => hb.elim)
      (fun i' hi' o' ho' => by simp at hi'; subst hi'; rw [hs] at ho'; cases ho'; rfl) (fun b hb => .inr ⟨id, by simp, by rw [hs]; simp, by rw [hu]; exact hb⟩) fun X' hkept => ?_
     rw [hu] at hst'
     have hb' : ∀ b, b ∈ blks u → w.heap[b]? = w.heap[b]? := fun _ _ => rfl
     have := hst'.mono (η' := SR.eta { v := .v (.c (.own d)), del := [id], new := some (.arr te.size (n + 0) (appF n f g)), cond := c } o.dst u η) hkept (by simp [Obj.refs]) hb'
     cases this with
     | nil => exact .nil _ _ _
     | arr b _ cap' _ c' e' _ q1 q2 q3 q4 q5 q6 q7 =>
      refine .arr b n cap' _ c' e' _ q1 q2 q3 q4 q5 (fun i hi => ?_) fun i j hi hj => ?_
      ·simp only [appF, if_pos hi]; exact q6 i hi
      ·simp only [appF, if_pos hi]; exact q7 i j hi hj
    ·obtain ⟨b2, off2, had, news, hnl, hncell, hnone, hnrep⟩ := news_of hk0 hrow hgl
     subst had
     generalize hu : η id = u at hst ex
     cases hst with
     | nil base _ _ =>
      exact snd_appendGrow hL h hd hdn hR hop ht hk hte hby hzl (fun i' hi' o' ho' => by simp at hi'; subst hi'; rw [hs] at ho'; cases ho'; rfl) hlim ex (by omega) (fun _ => ⟨rfl, rfl⟩) (olds := []) (by simp) (fun _ _ j u hj => by simp at hj) ey hnl hncell (by omega)
       (fun i hi => by omega) hgl (fun i j hi => by omega) hnrep
     | arr b _ cap _ c' e' _ hb hsz hn hm hc hl hel =>
      have hdel : ∀ i' ∈ [id], ∀ o', s i' = some o' → o'.ro = false := fun i' hi' o' ho' => by simp at hi'; subst hi'; rw [hs] at ho'; cases ho'; rfl
      have hnc : n * te.size ≤ cap * te.size := Nat.mul_le_mul_right _ hn
      have holdl : (c'.toList.take (n * te.size)).length = n * te.size := by simp; omega
      have hold : ∀ i j, i < n → j < te.size → DRep w (XS C s η) ((c'.toList.take (n * te.size)).getD (i * te.size + j) undef) ((f i).getD j .any) := by
       intro i j hi hj
       have hlt : i * te.size + j < n * te.size := by
        have : (i + 1) * te.size ≤ n * te.size := Nat.mul_le_mul_right _ hi
        rw [Nat.add_mul, Nat.one_mul] at this; omega
       rw [← take_getD rfl hlt]; exact hel i j hi hj
      by_cases hroom : n + k ≤ cap
      ·have hfit : n * i2.size + news.length ≤ c'.size := by rw [hte'.size, hnl, hsz, ← Nat.add_mul]; exact Nat.mul_le_mul_right _ hroom
       have hr := run_append_room' (P := P) t o.type el e' i2 hti.und hte'.info b n cap c' hb ⟨b2, off2, none⟩ k cy news (by rw [hte'.size]; exact hnl) hncell hnone hroom hfit
       rw [hte'.size] at hr hfit
       have hrun := hexec (by rw [ex, ey]; exact hr)
       have hblk : b ∈ blks (η id) := by rw [hu]; simp [blks]; omega
       refine snd_newarr h hd hdn hR (Z := fun x => x = b) hrun (setRow_stp w b _) rfl (fun x hx => ⟨id, by simp, by rw [hs]; simp, by rw [hx]; exact hblk⟩) hdel (fun x hx => .inr ⟨id, by simp, by rw [hs]; simp, by simp [blks] at hx; rw [hx.2]; exact hblk⟩) fun X' hkept => ?_
       refine .arr b (n + k) cap te.size _ e' _ (setRow_heap w b c' _ e' _ hb) (by rw [(setRow_cells c' (n * te.size) news hfit).1]; exact hsz) hroom hm hc (fun i hi => ?_) ?_
       ·unfold appF
        by_cases h3 : i < n
        ·rw [if_pos h3]; exact hl i h3
        ·rw [if_neg h3]; exact hgl _ (by omega)
       ·refine app_rep (olds := c'.toList.take (n * te.size)) (news := news) ?_ holdl (fun i j hi hj => (hold i j hi hj).mono hkept) (fun i j hi hj => (hnrep i j hi hj).mono hkept)
        have hlen : (c'.toList.take (n * te.size) ++ news).length = (n + k) * te.size := by rw [List.length_append, holdl, hnl, Nat.add_mul]
        rw [← hlen]
        exact List.take_left
      ·have holds : ∀ j u, (c'.toList.take (n * te.size))[j]? = some u → w.cell? ((⟨b, 0, none⟩ : Addr).add j) = some u := by
        intro j u hj
        rw [List.getElem?_take] at hj
        split at hj
        ·rw [add_lit, Nat.zero_add, cell_of_row w b j c' e' (0, 0) hb]; simpa using hj
        ·cases hj
       exact snd_appendGrow hL h hd hdn hR hop ht hk hte hby hzl hdel hlim ex (by omega) (fun hh => by cases hh) holdl (fun b0 hb0 => by cases hb0; exact holds) ey hnl hncell (by omega) hl hgl hold hnrep
   ·cases hx
  ·cases hx
 ·
  rename_i n' f' e1
  split at hx
  ·rename_i hnk
   cases hx
   have hvx := (aev_ok h x).1
   rw [e1] at hvx
   generalize hex : a.eval x = u at hvx
   have hfl : ∃ base, u = .slice base n n ∧ DRep w (XS C s η) (.slice base n n) (.lst n f) := by
    cases hvx with | v _ _ hvx => cases hvx with | c _ _ hvx => cases hvx with | fl base _ _ hvx => exact ⟨base, rfl, hvx⟩
   obtain ⟨base, rfl, hrep⟩ := hfl
   by_cases hk0 : k = 0
   ·subst hk0
    have hn0 : n = 0 := by omega
    subst hn0
    exact snd_newarr h hd hdn hR (del := []) (Z := fun _ => False) (v := .slice base 0 0) (w' := w) (hexec (by rw [hex, ey]; exact append_zero t o.type hti.und hte'.info base 0 0 (Nat.le_refl _) ad cy)) (Stp.refl _ _) rfl (fun b hb => hb.elim)
     (fun i' hi' => by cases hi') (fun b hb => by cases base <;> simp [blks] at hb) fun X' _ => .nil _ _ _
   ·obtain ⟨b2, off2, had, news, hnl, hncell, hnone, hnrep⟩ := news_of hk0 hrow hgl
    subst had
    cases hrep with
    | nil _ _ _ =>
     exact snd_appendGrow hL h hd hdn hR hop ht hk hte hby hzl (fun i' hi' => by cases hi') hlim hex (by omega) (fun _ => ⟨rfl, rfl⟩) (olds := []) (by simp) (fun _ _ j u hj => by simp at hj) ey hnl hncell (by omega)
      (fun i hi => by omega) hgl (fun i j hi => by omega) hnrep
    | lst b off _ _ c' e' fz _ es' q1 q2 q3 q4 q5 q6 =>
     by_cases hn0 : n = 0
     ·subst hn0
      exact snd_appendGrow hL h hd hdn hR hop ht hk hte hby hzl (fun i' hi' => by cases hi') hlim hex (by omega) (fun hh => by cases hh) (olds := []) (by simp) (fun _ _ j u hj => by simp at hj) ey hnl hncell (by omega)
       (fun i hi => by omega) hgl (fun i j hi => by omega) hnrep
     have hee : es' = te.size := by rw [← q5 0 (by omega), hc0 0 (by omega)]
     subst hee
     have hv : ∀ j, j < n * te.size → (vals c' off (n * te.size)).getD j undef = c'.getD (off + j) undef := fun j hj => by simp [vals, List.getD_eq_getElem?_getD, hj]
     refine snd_appendGrow hL h hd hdn hR hop ht hk hte hby hzl (fun i' hi' => by cases hi') hlim hex (by omega) (fun hh => by cases hh) (olds := vals c' off (n * te.size)) (by simp [vals]) (fun b0 hb0 j u hj => ?_) ey hnl hncell (by omega)
      q5 hgl (fun i j hi hj => ?_) hnrep
     ·cases hb0
      simp only [vals, List.getElem?_map] at hj
      by_cases hjj : j < n * te.size
      ·rw [List.getElem?_range hjj] at hj
       cases hj
       rw [add_lit]
       exact cell_at q2 _ (by omega)
      ·rw [List.getElem?_eq_none (by simp; omega)] at hj; cases hj
     ·have hlt : i * te.size + j < n * te.size := by
       have : (i + 1) * te.size ≤ n * te.size := Nat.mul_le_mul_right _ hi
       rw [Nat.add_mul, Nat.one_mul] at this; omega
      rw [hv _ hlt]; exact q6 i j hi hj
  ·cases hx
 ·cases hx
end
end Go.Ab
end

section
namespace Go.Ab
section
variable {P : Program} {L : Lay} {C : Ctx} {nt : Nat} {R : Nat → Prop} {η : Nat → Value} {e : Env} {s : Sto} {a : Act} {w : World}
theorem repl_length {α : Type} (n : Nat) (xs : List α) : (repl n xs).length = n * xs.length := by
 induction n with
 | zero => simp [repl]
 | succ n ih => simp [repl, ih, Nat.add_mul]; omega
theorem repl_getD {α : Type} (n : Nat) (xs : List α) (d : α) (i : Nat) (h : i < n * xs.length) : (repl n xs).getD i d = xs.getD (i % xs.length) d := by
 induction n generalizing i with
 | zero => simp at h
 | succ n ih =>
  rw [Nat.add_mul, Nat.one_mul] at h
  by_cases h1 : i < xs.length
  ·simp [repl, List.getD_eq_getElem?_getD, List.getElem?_append, h1, Nat.mod_eq_of_lt h1]
  ·have := ih (i - xs.length) (by omega)
   have hm : (i - xs.length) % xs.length = i % xs.length := by rw [← Nat.mod_eq_sub_mod (by omega)]
   rw [hm] at this
   rw [← this]
   simp [repl, List.getD_eq_getElem?_getD, List.getElem?_append, h1]
theorem rangeMap_getD (n : Nat) (f : Nat → Value) (j : Nat) (hj : j < n) : ((Array.range n).map f).getD j undef = f j := by
 have h : j < ((Array.range n).map f).size := by simpa using hj
 have : ((Array.range n).map f).getD j undef = ((Array.range n).map f)[j] := by simp only [Array.getD, h, dite_true]; rfl
 rw [this]; simp
theorem rangeMap_zero (f : Nat → Value) : (Array.range 0).map f = #[] := Array.eq_empty_of_size_eq_zero (by simp)
theorem zeros_rep {X : Nat → Prop} {z : Array Value} {zs : List CV} (h : CsRep w X η C z zs) (len : Nat) : CsRep w X η C ((Array.range (len * zs.length)).map (z[· % z.size]!)) (repl len zs) := by
 refine ⟨by simp [repl_length], fun j hj => ?_⟩
 rw [repl_length] at hj
 rw [repl_getD _ _ _ _ hj]
 have hpos : 0 < zs.length := by rcases Nat.eq_zero_or_pos zs.length with h0 | h0; simp [h0] at hj; exact h0
 have hm := Nat.mod_lt j hpos
 have := h.2 _ hm
 have e1 : ((Array.range (len * zs.length)).map (z[· % z.size]!)).getD j undef = z.getD (j % zs.length) undef := by
  have : j % z.size < z.size := by rw [h.1]; exact hm
  rw [rangeMap_getD _ _ _ hj, ← h.1]; simp [this]
 rw [e1]; exact this
theorem run_buildSlice {t : TypeId} {ti : TI} {i : TypeInfo} {el : TypeId} {z : Value} (hti : TIOk P t ti i (.slice el) z) {te : TI} {i2 : TypeInfo} {d2 : TypeDesc} {z2 : Value} (hte : TIOk P el te i2 d2 z2) (len : Nat) (hl : len * te.size ≤ 16777216)
  {parts : Array (Nat × Value)} {cells : Array Value} (hf : Instr.fill (fun i => some (i * te.size, te.size)) ((Array.range (len * te.size)).map (z2.cells[· % z2.cells.size]!)) parts.toList = some cells) :
  (Instr.buildSlice t len parts).run P w = .ok (.slice (some ⟨w.heap.size, 0, none⟩) len len) { w with heap := w.heap.push (.cells cells el) } := by
 have h1 : ¬ (16777216 < len * te.size) := by omega
 by_cases h0 : len * te.size = 0
 ·rw [h0, rangeMap_zero] at hf
  simp only [Instr.buildSlice, Sem.run_bind, run_underlying hti.und, Result.andThen_ok, run_sizeOf hte, gt_iff_lt, Nat.reducePow, h0, if_true, Sem.run_pure, Sem.run_ite, rangeMap_zero]
  rw [hf]
  simp [newRow]
 ·simp only [Instr.buildSlice, Sem.run_bind, run_underlying hti.und, Result.andThen_ok, run_sizeOf hte, h1, gt_iff_lt, Nat.reducePow, if_false, h0, Sem.run_pure, Sem.run_ite, run_zeroValue hte]
  rw [hf]
  simp [newRow]
theorem toDs_cells {X : Nat → Prop} {c : Array Value} {cs : List CV} {ds : List DVal} (h : CsRep w X η C c cs) (hd : toDs cs = some ds) : ds.length = c.size ∧ ∀ j, j < ds.length → DRep w X (c.getD j undef) (ds.getD j .any) := by
 obtain ⟨h1, h2⟩ := toDs_ok cs ds c 0 hd (fun j hj => by rw [Nat.zero_add]; exact h.2 j hj)
 exact ⟨by rw [h1, h.1], fun j hj => by have := h2 j hj; rwa [Nat.zero_add] at this⟩
theorem pieces (ds : List DVal) (es i j : Nat) (hj : j < es) : (((ds.drop (i * es)).take es)).getD j .any = ds.getD (i * es + j) .any := getD_take_drop ds (i * es) es j .any hj
theorem snd_buildSlice (hL : LOk P L) (h : Conc C nt R η e s a w) {o : Oper} (hdn : ∀ x, o.dst = some x → x < nt) {t : TypeId} {len : Nat} {ps : Array (Nat × Operand)} (hop : o.op = .buildSlice t len ps)
  {ti : TI} (ht : L t = some ti) {el : Nat} (hk : ti.kind = .slice el) {te : TI} (hte : L el = some te) (hle : len * te.size ≤ 16777216) (hzl : te.zero.length = te.size)
  {cs : List CV} (hf : fillA (fun i => some (i * te.size, te.size)) (repl len te.zero) (ps.toList.map fun p => (p.1, aev e p.2)) = some cs) {ds : List DVal} (hds : toDs cs = some ds) :
  Snd P C nt R η e s a w o { v := .v (.c (.d (.lst len fun i => (ds.drop (i * te.size)).take te.size))) } ∧
  ∀ d, o.dst = some d → ¬ R d → 0 < te.size → Snd P C nt R η e s a w o { v := .v (.c (.own d)), new := some (.arr te.size len fun i => (ds.drop (i * te.size)).take te.size) } := by
 obtain ⟨i, dd, z, hti⟩ := hL t ti ht
 obtain ⟨i2, d2, z2, hte'⟩ := hL el te hte
 have hkd := hti.kind
 rw [hk] at hkd
 simp only [KOk] at hkd
 subst hkd
 obtain ⟨m1, m2, _⟩ := ev_map h ps
 have hz := hte'.zrep w (XS C s η) η C
 have hzs : z2.cells.size = te.size := by rw [hz.1, hzl]
 have hz0 := zeros_rep hz len
 rw [hzl] at hz0
 obtain ⟨vc, hfill, hrep, _⟩ := fill_ok _ _ _ _ _ hf hz0 m1 m2
 have hrun := run_buildSlice (w := w) hti hte' len hle hfill
 have hexec : (execOp a.eval o).run P w = .ok (.value (.slice (some ⟨w.heap.size, 0, none⟩) len len)) { w with heap := w.heap.push (.cells vc el) } := by
  simp only [execOp, hop, Sem.run_bind]
  rw [hrun]; rfl
 obtain ⟨hd1, hd2⟩ := toDs_cells hrep hds
 have hlen : ds.length = len * te.size := by
  have := hrep.1
  have hcl : cs.length = (repl len te.zero).length := by
   have hfl : ∀ (ps : List (Nat × AVal)) (pl : Nat → Option (Nat × Nat)) (c0 cs : List CV), fillA pl c0 ps = some cs → cs.length = c0.length := by
    intro ps pl
    induction ps with
    | nil => intro c0 cs h; cases h; rfl
    | cons p r ih =>
     intro c0 cs h
     obtain ⟨i, x⟩ := p
     simp only [fillA] at h
     split at h
     ·split at h
      ·rename_i hle2; rw [ih _ _ h, splice_length _ _ _ (by omega)]
      ·cases h
     ·cases h
   exact hfl _ _ _ _ hf
  rw [hd1, this, hcl, repl_length, hzl]
 have hpl : ∀ i, i < len → ((ds.drop (i * te.size)).take te.size).length = te.size := by
  intro i hi
  have : (i + 1) * te.size ≤ len * te.size := Nat.mul_le_mul_right _ hi
  rw [Nat.add_mul, Nat.one_mul] at this
  simp; omega
 have hel : ∀ i j, i < len → j < te.size → DRep w (XS C s η) (vc.getD (i * te.size + j) undef) (((ds.drop (i * te.size)).take te.size).getD j .any) := by
  intro i j hi hj
  have : (i + 1) * te.size ≤ len * te.size := Nat.mul_le_mul_right _ hi
  rw [Nat.add_mul, Nat.one_mul] at this
  rw [pieces _ _ _ _ hj]; exact hd2 _ (by omega)
 have hk0 : Kept w { w with heap := w.heap.push (.cells vc el) } (XS C s η) (XS C s η) := fun b hb hX => ⟨by show (w.heap.push _)[b]? = _; rw [Array.getElem?_push, if_neg (by omega)], hX⟩
 have hnx : ¬ XS C s η w.heap.size := by
  rintro (⟨hx, _⟩ | hx)
  ·have := h.ok.lt _ hx; have := h.fr.size; omega
  ·have := h.lt hx; omega
 refine ⟨?_, fun d hd hR hpos => ?_⟩
 ·refine ⟨_, _, .inl hexec, ?_⟩
  have heta : ∀ v, SR.eta { v := .v (.c (.d (.lst len fun i => (ds.drop (i * te.size)).take te.size))) } o.dst v η = η := fun v => by funext i; simp [SR.eta]
  have hsto : SR.sto { v := .v (.c (.d (.lst len fun i => (ds.drop (i * te.size)).take te.size))) } o.dst s = s := by funext i; simp [SR.sto]
  refine h.step o.dst hdn _ _ _ (fun _ => False) (Stp.alloc _ w _) (fun b hb => hb.elim) (fun _ _ hh => by cases hh) (fun _ _ hh => by cases hh) fun _ => ?_
  rw [heta, hsto]
  refine ⟨.v _ _ (.c _ _ (.d _ _ ?_)), fun j hj => by simp [AVal.refs, TV.refs, CV.refs] at hj⟩
  refine .lst w.heap.size 0 len len vc el (0, 0) _ te.size hnx (by simp) (Nat.le_refl _) (by rw [Nat.zero_add, ← hd1, hlen]; exact Nat.le_refl _) hpl fun i j hi hj => ?_
  rw [Nat.zero_add]; exact (hel i j hi hj).mono hk0
 ·by_cases hl0 : len = 0
  ·subst hl0
   exact snd_newarr h hd (hdn d hd) hR (del := []) (Z := fun _ => False) hexec (Stp.alloc _ w _) rfl (fun b hb => hb.elim) (fun i' hi' => by cases hi') (fun b hb => by simp [blks] at hb) fun X' _ => .nil _ _ _
  ·refine snd_newarr h hd (hdn d hd) hR (del := []) (Z := fun _ => False) hexec (Stp.alloc _ w _) rfl (fun b hb => hb.elim) (fun i' hi' => by cases hi') (fun b hb => .inl (by simp [blks] at hb; omega)) fun X' hkept => ?_
   refine .arr w.heap.size len len te.size vc el _ (by simp) (by rw [← hd1, hlen]) (Nat.le_refl _) ?_ (by omega) hpl fun i j hi hj => (hel i j hi hj).mono hkept
   have : len * 1 ≤ len * te.size := Nat.mul_le_mul_left _ hpos
   simp only [maxLen]; omega
theorem snd_makeSlice (hL : LOk P L) (h : Conc C nt R η e s a w) {o : Oper} {d : Nat} (hd : o.dst = some d) (hdn : d < nt) (hR : ¬ R d) {t : TypeId} {l c : Operand} (hop : o.op = .makeSlice t l c)
  {ti : TI} (ht : L t = some ti) {el : Nat} (hk : ti.kind = .slice el) {te : TI} (hte : L el = some te) {n n' : Int} (hl : asI (aev e l) = some n) (hc : asI (aev e c) = some n') (h0 : 0 < te.size) (hby : te.bytes ≤ 8192) (hzl : te.zero.length = te.size)
  {zd : List DVal} (hz : toDs te.zero = some zd) {c0 : Prop} (hn : 0 ≤ n ∧ n = n' ∧ n ≤ LIM) : Snd P C nt R η e s a w o { v := .v (.c (.own d)), new := some (.arr te.size n.toNat fun _ => zd), cond := c0 } := by
 obtain ⟨i, dd, z, hti⟩ := hL t ti ht
 obtain ⟨i2, d2, z2, hte'⟩ := hL el te hte
 have hkd := hti.kind
 rw [hk] at hkd
 simp only [KOk] at hkd
 subst hkd
 obtain ⟨hn0, rfl, hn2⟩ := hn
 have int_of : ∀ {y : Operand} {m : Int}, asI (aev e y) = some m → ∃ k, a.eval y = .int k m := by
  intro y m hm
  unfold asI at hm
  split at hm
  ·rename_i k m' e1
   cases hm
   have h1 := (aev_ok h y).1
   rw [e1] at h1
   exact ⟨k, int_inv h1⟩
  ·cases hm
 obtain ⟨k1, e1⟩ := int_of hl
 obtain ⟨k2, e2⟩ := int_of hc
 have hw : IntKind.i64.wrap n = n := wrap_i64 ⟨by omega, by simp only [LIM] at hn2; omega⟩
 have hb : (te.bytes : Int) * n ≤ 2 ^ 48 := by
  have hh : te.bytes * n.toNat ≤ 8192 * 4294967296 := Nat.mul_le_mul hby (by simp only [LIM] at hn2; omega)
  have : (te.bytes : Int) * n = ((te.bytes * n.toNat : Nat) : Int) := by rw [Int.natCast_mul, Int.toNat_of_nonneg hn0]
  rw [this]; omega
 have hzs : z2.cells.size = te.size := by rw [(hte'.zrep w (XS C s η) η C).1, hzl]
 have hcond : (decide (n < 0) || decide ((te.bytes : Int) * n > 2 ^ 48)) = false := by simp; omega
 have hexec : ∃ vc, (execOp a.eval o).run P w = .ok (.value (.slice (some ⟨w.heap.size, 0, none⟩) n.toNat n.toNat)) { w with heap := w.heap.push (.cells vc el) } ∧ vc.size = n.toNat * te.size ∧ ∀ j, j < n.toNat * te.size → vc.getD j undef = z2.cells.getD (j % te.size) undef := by
  by_cases hz0 : n.toNat * te.size = 0
  ·have hn00 : n.toNat = 0 := by rcases Nat.mul_eq_zero.1 hz0 with h1 | h1; exact h1; omega
   have hnz : n = 0 := by omega
   subst hnz
   refine ⟨#[], ?_, by simp, fun j hj => by simp at hj⟩
   simp [execOp, hop, Instr.makeSlice, e1, e2, asInt, asIntOf, run_underlying hti.und, typeInfo, hte'.info, newRow, IntKind.wrap, IntKind.bits, IntKind.signed, run_sizeOf hte', rangeMap_zero]
  ·refine ⟨(Array.range (n.toNat * te.size)).map (z2.cells[· % z2.cells.size]!), ?_, by simp, fun j hj => ?_⟩
   ·have hlt : ¬ n < 0 := by omega
    have hgt : ¬ (281474976710656 : Int) < (te.bytes : Int) * n := by omega
    simp [execOp, hop, Instr.makeSlice, e1, e2, asInt, asIntOf, run_underlying hti.und, typeInfo, hte'.info, hte'.bytes, newRow, hw, hlt, hgt, run_sizeOf hte', run_zeroValue hte', hz0]
   ·have : j % z2.cells.size < z2.cells.size := by rw [hzs]; exact Nat.mod_lt _ h0
    rw [rangeMap_getD _ _ _ hj, ← hzs]; simp [this]
 obtain ⟨vc, hexec, hvs, hvg⟩ := hexec
 obtain ⟨hd1, hd2⟩ := toDs_cells (hte'.zrep w (XS C s η) η C) hz
 by_cases hl0 : n.toNat = 0
 ·rw [hl0] at hexec ⊢
  exact snd_newarr h hd hdn hR (del := []) (Z := fun _ => False) hexec (Stp.alloc _ w _) rfl (fun b hb => hb.elim) (fun i' hi' => by cases hi') (fun b hb => by simp [blks] at hb) fun X' _ => .nil _ _ _
 ·refine snd_newarr h hd hdn hR (del := []) (Z := fun _ => False) hexec (Stp.alloc _ w _) rfl (fun b hb => hb.elim) (fun i' hi' => by cases hi') (fun b hb => .inl (by simp [blks] at hb; omega)) fun X' hkept => ?_
  refine .arr w.heap.size n.toNat n.toNat te.size vc el _ (by simp) hvs (Nat.le_refl _) (by simp only [maxLen]; simp only [LIM] at hn2; omega) (by omega) (fun i _ => by rw [hd1, hzs]) fun i j hi hj => ?_
  have hlt : i * te.size + j < n.toNat * te.size := by
   have : (i + 1) * te.size ≤ n.toNat * te.size := Nat.mul_le_mul_right _ hi
   rw [Nat.add_mul, Nat.one_mul] at this; omega
  rw [hvg _ hlt]
  have hm : (i * te.size + j) % te.size = j := by rw [Nat.add_comm, Nat.add_mul_mod_self_right, Nat.mod_eq_of_lt hj]
  rw [hm]
  exact (hd2 j (by rw [hd1, hzs]; exact hj)).mono hkept
end
end Go.Ab
end

section
namespace Go.Ab
section
variable {P : Program} {L : Lay} {C : Ctx} {nt : Nat} {R : Nat → Prop} {η : Nat → Value} {e : Env} {s : Sto} {a : Act} {w : World}
theorem asI_ok (h : Conc C nt R η e s a w) {y : Operand} {m : Int} (hm : asI (aev e y) = some m) : ∃ k, a.eval y = .int k m := by
 unfold asI at hm
 split at hm
 ·rename_i k m' e1
  cases hm
  have h1 := (aev_ok h y).1
  rw [e1] at h1
  exact ⟨k, int_inv h1⟩
 ·cases hm
theorem part_ok (hL : LOk P L) {X : Nat → Prop} {vs : Array Value} {cs : List CV} (h : CsRep w X η C vs cs) {t off : Nat} {ti : TI} (ht : L t = some ti) (ho : off + ti.size ≤ cs.length) {v : AVal} (hv : mkT ti.kind.agg ((cs.drop off).take ti.size) = some v) :
  ∃ u, (part t vs off).run P w = .ok u w ∧ ARep w X η C u v ∧ ∀ j ∈ v.refs, j ∈ cs.flatMap CV.refs := by
 obtain ⟨i, d, z, hti⟩ := hL t ti ht
 have hsz := h.1
 unfold mkT at hv
 split at hv
 ·rename_i ha
  cases hv
  refine ⟨.agg (vs.extract off (off + ti.size)), ?_, .v _ _ (.g _ _ ⟨by simp; omega, fun j hj => ?_⟩), fun j hj => flatMap_drop _ _ _ j (flatMap_take _ _ _ j hj)⟩
  ·simp only [part, Sem.run_bind, run_isAgg hti, Result.andThen_ok, ha, if_true, run_sizeOf hti, Sem.run_pure]
  ·have hj' : j < ti.size := by simp at hj; omega
   rw [getD_take_drop _ _ _ _ _ hj']
   have hlt : off + j < vs.size := by omega
   have : (vs.extract off (off + ti.size)).getD j undef = vs.getD (off + j) undef := by
    have hc : j < min (off + ti.size) vs.size - off := by omega
    simp [hlt, hc]
   rw [this]; exact h.2 _ (by omega)
 ·rename_i ha
  split at hv
  ·rename_i y hy
   cases hv
   have hlen : ((cs.drop off).take ti.size).length = ti.size := by simp; omega
   rw [hy] at hlen
   have h1 : ti.size = 1 := by simpa using hlen.symm
   have hlt : off < vs.size := by omega
   refine ⟨vs.getD off undef, ?_, .v _ _ (.c _ _ ?_), fun j hj => ?_⟩
   ·simp [part, run_isAgg hti, ha, hlt]
   ·have := h.2 off (by omega)
    have hy0 : cs.getD off (.d .any) = y := by
     have h3 := getD_take_drop cs off ti.size 0 (.d .any) (by omega)
     rw [hy] at h3; simpa using h3.symm
    rwa [hy0] at this
   ·refine flatMap_drop _ _ off j (flatMap_take _ _ ti.size j ?_)
    rw [hy]; simpa [AVal.refs, TV.refs] using hj
  ·cases hv
theorem cloIds_ok (h : Conc C nt R η e s a w) : ∀ (xs : List Operand) (ids : List Nat), aop1.cloIds (xs.map (aev e)) = some ids → xs.map a.eval = ids.map η ∧ ∀ j ∈ ids, R j := by
 intro xs
 induction xs with
 | nil => intro ids hi; cases hi; exact ⟨rfl, by simp⟩
 | cons x r ih =>
  intro ids hi
  obtain ⟨h1, h2⟩ := aev_ok h x
  rw [List.map_cons] at hi
  unfold aop1.cloIds at hi
  split at hi
  ·cases ‹_ :: _ = []›
  ·rename_i id r' e1
   injection e1 with e1 e2
   subst e2
   split at hi
   ·rename_i ids' hids
    cases hi
    obtain ⟨g1, g2⟩ := ih _ hids
    rw [e1] at h1 h2
    obtain ⟨b, hb1, hb2⟩ := ptr_inv h1
    refine ⟨by rw [List.map_cons, List.map_cons, g1, hb1, hb2], fun j hj => ?_⟩
    rcases List.mem_cons.1 hj with rfl | hj
    ·exact h2 _ (by simp [AVal.refs, TV.refs, CV.refs])
    ·exact g2 j hj
   ·cases hi
  ·cases hi
theorem fieldAddr_vals (h : Conc C nt R η e s a w) {x : Operand} {off : Nat} {v : AVal}
  (hv : (match aev e x with
     | .v (.c (.ptr id o)) => some ({ v := .v (.c (.ptr id (o + off))) } : SR)
     | .v (.c (.pte id es idx o)) => some { v := .v (.c (.pte id es idx (o + off))) }
     | .v (.c (.elm cs)) => if off ≤ cs.length then some { v := .v (.c (.elm (cs.drop off))) } else none
     | _ => none) = some { v := v }) :
  (∀ b o', a.eval x = .pointer (some ⟨b, o', none⟩) → ARep w (XS C s η) η C (.pointer (some ⟨b, o' + off, none⟩)) v) ∧ (∀ j ∈ v.refs, R j) ∧ ∃ b o', a.eval x = .pointer (some ⟨b, o', none⟩) := by
 obtain ⟨h1, h2⟩ := aev_ok h x
 split at hv
 ·rename_i id o e1
  cases hv
  rw [e1] at h1 h2
  obtain ⟨b, hb1, hb2⟩ := ptr_inv h1
  exact ⟨fun b' o' hh => by rw [hb1] at hh; cases hh; exact ptr_rep _ hb2, fun j hj => h2 j (by simpa [AVal.refs, TV.refs, CV.refs] using hj), b, o, hb1⟩
 ·rename_i id es idx o e1
  cases hv
  rw [e1] at h1 h2
  obtain ⟨b, n, cap, hb1, hb2⟩ := pte_inv h1
  exact ⟨fun b' o' hh => by rw [hb1] at hh; cases hh; rw [Nat.add_assoc]; exact .v _ _ (.c _ _ (.pte b n cap _ _ _ _ hb2)), fun j hj => h2 j (by simpa [AVal.refs, TV.refs, CV.refs] using hj), b, _, hb1⟩
 ·rename_i cs e1
  split at hv
  ·rename_i hle
   cases hv
   rw [e1] at h1
   obtain ⟨b, o, c, e', fz, hb1, hX, hb, ho, hc⟩ := elm_inv h1
   exact ⟨fun b' o' hh => by rw [hb1] at hh; cases hh; exact elm_drop _ hX hb ho hc off hle, by simp [AVal.refs, TV.refs, CV.refs], b, o, hb1⟩
  ·cases hv
 ·cases hv
theorem snd_indexFrozen (hL : LOk P L) (h : Conc C nt R η e s a w) {o : Oper} (hd : ∀ x, o.dst = some x → x < nt) {t : TypeId} {x i : Operand} (hop : o.op = .indexAddr t x i) {ti : TI} (ht : L t = some ti) {el : Nat} (hk : ti.kind = .slice el)
  {te : TI} (hte : L el = some te) {m : Int} (hi : asI (aev e i) = some m) {n : Nat} {f : Nat → List DVal} (hx : aop1.asF (aev e x) = some (n, f)) (hf : (f m.toNat).length = te.size) {c : Prop} (hc : 0 ≤ m ∧ m < n) :
  Snd P C nt R η e s a w o { v := .v (.c (.elm (f m.toNat))), cond := c } := by
 obtain ⟨i1, d1, z1, hti⟩ := hL t ti ht
 obtain ⟨i2, d2, z2, hte'⟩ := hL el te hte
 have hkd := hti.kind
 rw [hk] at hkd
 simp only [KOk] at hkd
 subst hkd
 obtain ⟨k, ei⟩ := asI_ok h hi
 obtain ⟨ad, cap, ev, hrep⟩ := asF_ok (aev_ok h x).1 hx
 rw [ev] at hrep
 cases hrep with
 | nil => omega
 | lst b off _ _ c' e' fz _ es h1 h2 h3 h4 h5 h6 =>
  have hes : es = te.size := by rw [← h5 m.toNat (by omega), hf]
  subst hes
  have hbound : m.toNat * te.size + te.size ≤ n * te.size := by
   have : (m.toNat + 1) * te.size ≤ n * te.size := Nat.mul_le_mul_right _ (by omega)
   rwa [Nat.add_mul, Nat.one_mul] at this
  refine snd_val h hd (v := .pointer (some ⟨b, off + m.toNat * te.size, none⟩)) ?_ (.v _ _ (.c _ _ (.elm b _ c' e' fz _ h1 h2 (by rw [hf]; omega) fun j hj => ?_))) (by simp [AVal.refs, TV.refs, CV.refs])
  ·simp [execOp, hop, Instr.indexAt, ei, ev, asIntOf, run_underlying hti.und, hc, run_sizeOf hte', add_lit]
  ·have := h6 m.toNat j (by omega) (by omega)
   rwa [← Nat.add_assoc] at this
theorem snd_indexOwn (hL : LOk P L) (h : Conc C nt R η e s a w) {o : Oper} (hd : ∀ x, o.dst = some x → x < nt) {t : TypeId} {x i : Operand} (hop : o.op = .indexAddr t x i) {ti : TI} (ht : L t = some ti) {el : Nat} (hk : ti.kind = .slice el)
  {te : TI} (hte : L el = some te) {m : Int} (hi : asI (aev e i) = some m) {id : Nat} (hx : aev e x = .v (.c (.own id))) {n : Nat} {f : Nat → List DVal} (hs : s id = some (.arr te.size n f)) {c : Prop} (hc : 0 ≤ m ∧ m < n) :
  Snd P C nt R η e s a w o { v := .v (.c (.pte id te.size m.toNat 0)), cond := c } := by
 obtain ⟨i1, d1, z1, hti⟩ := hL t ti ht
 obtain ⟨i2, d2, z2, hte'⟩ := hL el te hte
 have hkd := hti.kind
 rw [hk] at hkd
 simp only [KOk] at hkd
 subst hkd
 obtain ⟨k, ei⟩ := asI_ok h hi
 obtain ⟨h1, h2⟩ := aev_ok h x
 rw [hx] at h1 h2
 have ev := own_inv h1
 have hst := h.st id _ hs
 generalize hu : η id = u at hst ev
 cases hst with
 | nil => omega
 | arr b _ cap _ c' e' _ hb hsz hn hm hc0 hl hel =>
  refine snd_val h hd (v := .pointer (some ⟨b, m.toNat * te.size + 0, none⟩)) ?_ (.v _ _ (.c _ _ (.pte b n cap _ _ _ _ hu))) (fun j hj => h2 j (by simpa [AVal.refs, TV.refs, CV.refs] using hj))
  simp [execOp, hop, Instr.indexAt, ei, ev, asIntOf, run_underlying hti.und, hc, run_sizeOf hte', add_lit]
theorem snd_indexArr (hL : LOk P L) (h : Conc C nt R η e s a w) {o : Oper} (hd : ∀ x, o.dst = some x → x < nt) {t : TypeId} {x i : Operand} (hop : o.op = .indexAddr t x i) {ti : TI} (ht : L t = some ti) {n el : Nat} (hk : ti.kind = .array n el)
  {te : TI} (hte : L el = some te) {m : Int} (hi : asI (aev e i) = some m) {id off : Nat} (hx : aev e x = .v (.c (.ptr id off))) (hc : 0 ≤ m ∧ m < n) :
  Snd P C nt R η e s a w o { v := .v (.c (.ptr id (off + m.toNat * te.size))) } := by
 obtain ⟨i1, d1, z1, hti⟩ := hL t ti ht
 obtain ⟨i2, d2, z2, hte'⟩ := hL el te hte
 have hkd := hti.kind
 rw [hk] at hkd
 simp only [KOk] at hkd
 subst hkd
 obtain ⟨k, ei⟩ := asI_ok h hi
 obtain ⟨h1, h2⟩ := aev_ok h x
 rw [hx] at h1 h2
 obtain ⟨b, ev, hb⟩ := ptr_inv h1
 refine snd_val h hd (v := .pointer (some ⟨b, off + m.toNat * te.size, none⟩)) ?_ (ptr_rep _ hb) (fun j hj => h2 j (by simpa [AVal.refs, TV.refs, CV.refs] using hj))
 simp [execOp, hop, Instr.indexAt, ei, ev, asIntOf, run_underlying hti.und, hc, run_sizeOf hte', add_lit, Instr.sureAddr]
end
end Go.Ab
end

section
namespace Go.Ab
section
variable {P : Program} {L : Lay} {C : Ctx} {nt : Nat} {R : Nat → Prop} {η : Nat → Value} {e : Env} {s : Sto} {a : Act} {w : World}
theorem map_two {α β : Type} {f : α → β} {l : List α} {u v : β} (h : l.map f = [u, v]) : ∃ x y, l = [x, y] ∧ f x = u ∧ f y = v := by
 match l, h with
 | [], h => simp at h
 | [_], h => simp at h
 | [x, y], h => simp at h; exact ⟨x, y, rfl, h.1, h.2⟩
 | _ :: _ :: _ :: _, h => simp at h
theorem aop1_ok (hL : LOk P L) (h : Conc C nt R η e s a w) (m : Bool) (o : Oper) (hd : ∀ x, o.dst = some x → x < nt) {r : SR} (hr : aop1 L m e s o = some r) (hc : r.cond) (hR : ∀ d, o.dst = some d → r.new ≠ none → ¬ R d)
  (hst : ∀ t x y, o.op = .store t x y → o.dst = none) : Snd P C nt R η e s a w o r := by
 unfold aop1 at hr
 split at hr
 ·
  rename_i x hop
  cases hr
  exact snd_move h hd (.inl hop)
 ·
  rename_i x hop
  split at hr
  ·cases hr
   exact snd_move h hd (.inr hop)
  ·rename_i f d hx hdd
   split at hr
   ·rename_i el sz by' zz ht
    split at hr
    ·rename_i te hte
     cases hr
     have hv := (aev_ok h x).1
     rw [hx] at hv
     have hnil : ∃ ad, a.eval x = .slice ad 0 0 := by
      generalize a.eval x = u at hv
      cases hv with | v _ _ hv => cases hv with | c _ _ hv => cases hv with | fl ad _ _ hv => exact ⟨ad, rfl⟩
     obtain ⟨ad, ex⟩ := hnil
     exact snd_newarr h hdd (hd d hdd) (hR d hdd (by simp)) (del := []) (v := .slice ad 0 0) (Z := fun _ => False) (by simp [execOp, hop, ex]) (Stp.refl _ _) rfl (fun b hb => hb.elim) (fun i hi => by cases hi) (fun b hb => by cases ad <;> simp [blks] at hb) (fun X' _ => .nil _ _ _)
    ·cases hr
   ·cases hr
  ·cases hr
 ·
  rename_i c x y hop
  split at hr
  ·rename_i hb; cases hr; exact snd_pick h hd hop hb
  ·rename_i hb; cases hr; exact snd_pick h hd hop hb
  ·cases hr
 ·
  rename_i t hop
  split at hr
  ·rename_i ti d ht hdd
   cases hr
   exact snd_alloc hL h hdd (hd d hdd) (hR d hdd (by simp)) hop ht
  ·cases hr
 ·
  rename_i t x hop
  split at hr
  ·rename_i xs d hx hdd
   cases hr
   exact snd_box h hdd (hd d hdd) (hR d hdd (by simp)) hop hx
  ·cases hr
 ·
  rename_i t ps hop
  split at hr
  ·rename_i fs sz by' z ht
   split at hr
   ·rename_i pl hpl
    split at hr
    ·rename_i cs hf
     cases hr
     exact snd_build hL h hd hop ht (.inl ⟨fs, pl, rfl, hpl, rfl⟩) hf
    ·cases hr
   ·cases hr
  ·rename_i n el sz by' z ht
   split at hr
   ·rename_i te hte
    split at hr
    ·rename_i cs hf
     cases hr
     exact snd_build hL h hd hop ht (.inr ⟨n, el, te, rfl, hte, rfl⟩) hf
    ·cases hr
   ·cases hr
  ·cases hr
 ·
  rename_i t len ps hop
  split at hr
  ·rename_i el sz by' z ht
   split at hr
   ·rename_i te hte
    split at hr
    ·rename_i hle
     split at hr
     ·rename_i cs hf
      split at hr
      ·rename_i ds hds
       obtain ⟨h1, h2⟩ := snd_buildSlice hL h hd hop ht rfl hte hle.1 hle.2.1 hf hds
       split at hr
       ·cases hr; exact h1
       ·rename_i d hdd
        cases hr
        exact h2 d hdd (hR d hdd (by simp)) hle.2.2
       ·cases hr
      ·cases hr
     ·cases hr
    ·cases hr
   ·cases hr
  ·cases hr
 ·
  rename_i t x hop
  split at hr
  ·rename_i ti ht
   split at hr
   ·rename_i cs c hrd
    split at hr
    ·rename_i v hv
     cases hr
     exact snd_load hL h hd hop ht hrd hv hc
    ·cases hr
   ·cases hr
  ·cases hr
 ·
  rename_i t x y hop
  split at hr
  ·rename_i ti xs ht hy
   split at hr
   ·rename_i hsz
    exact snd_store hL h (hst t x y hop) hop ht hy hsz hr hc
   ·cases hr
  ·cases hr
 ·
  rename_i x hop
  obtain ⟨h1, h2⟩ := aev_ok h x
  split at hr
  ·rename_i id off e1
   cases hr
   rw [e1] at h1 h2
   obtain ⟨b, hb1, hb2⟩ := ptr_inv h1
   exact snd_val h hd (v := a.eval x) (by simp [execOp, hop, hb1]) h1 h2
  ·rename_i id es idx off e1
   cases hr
   rw [e1] at h1 h2
   obtain ⟨b, n, cap, hb1, hb2⟩ := pte_inv h1
   exact snd_val h hd (v := a.eval x) (by simp [execOp, hop, hb1]) h1 h2
  ·rename_i cs e1
   cases hr
   rw [e1] at h1 h2
   obtain ⟨b, off, c, e', fz, hb1, _⟩ := elm_inv h1
   exact snd_val h hd (v := a.eval x) (by simp [execOp, hop, hb1]) h1 h2
  ·cases hr
 ·
  rename_i op t x y t' hop
  exact snd_bin h hd hop hr hc
 ·
  rename_i op t x hop
  exact snd_un h hd hop hr hc
 ·
  rename_i src dst x hop
  split at hr
  ·rename_i k0 s1 b1 z1 k s2 b2 z2 k1 n ht1 ht2 hx
   cases hr
   obtain ⟨i1, d1, zz1, hti1⟩ := hL _ _ ht1
   obtain ⟨i2, d2, zz2, hti2⟩ := hL _ _ ht2
   have k1' := hti1.kind
   have k2' := hti2.kind
   simp only [KOk] at k1' k2'
   subst k1'; subst k2'
   have h1 := (aev_ok h x).1
   rw [hx] at h1
   have ex := int_inv h1
   obtain ⟨g1, _⟩ := arith_num m k n _ hc
   refine snd_num h hd g1 hc ?_
   simp [execOp, hop, convert, run_underlying hti1.und, run_underlying hti2.und, ex, Conv.intToInt]
  ·rename_i s1 b1 z1 s2 b2 z2 b ht1 ht2 hx
   cases hr
   obtain ⟨i1, d1, zz1, hti1⟩ := hL _ _ ht1
   obtain ⟨i2, d2, zz2, hti2⟩ := hL _ _ ht2
   have k1' := hti1.kind
   have k2' := hti2.kind
   simp only [KOk] at k1' k2'
   subst k1'; subst k2'
   obtain ⟨h1, h2⟩ := aev_ok h x
   rw [hx] at h1
   have ex := str_inv h1
   refine snd_val h hd (v := .string b) ?_ (by rw [ex] at h1; exact h1) (by simp [AVal.refs, TV.refs, CV.refs])
   simp [execOp, hop, convert, run_underlying hti1.und, run_underlying hti2.und, ex]
  ·cases hr
 ·
  rename_i f first caps hop
  split at hr
  ·rename_i hf0
   split at hr
   ·rename_i ids hids
    cases hr
    obtain ⟨g1, g2⟩ := cloIds_ok h _ _ hids
    have hff : first = #[] := by simpa using hf0
    subst hff
    refine snd_val h hd (v := .func (.func f) #[] (caps.map a.eval)) (by simp [execOp, hop, Instr.makeFunc]) (.v _ _ (.c _ _ (.clo f ids _ ?_))) (fun j hj => g2 j (by simpa [AVal.refs, TV.refs, CV.refs] using hj))
    rw [← g1]; exact Array.ext' (by simp)
   ·cases hr
  ·cases hr
 ·
  rename_i t x lo hi hop
  split at hr
  ·rename_i el sz by' z ht
   split at hr
   ·rename_i te hte
    split at hr
    ·rename_i y l u hl hu
     split at hr
     ·rename_i n f hx
      cases hr
      exact snd_slice hL h hd hop ht rfl hte hl hu hx hc.1 hc.2
     ·cases hr
    ·rename_i id u hx hl hu
     split at hr
     ·rename_i es n f d hs hdd
      cases hr
      obtain ⟨i1, d1, z1, hti⟩ := hL _ _ ht
      obtain ⟨i2, d2, z2, hte'⟩ := hL _ _ hte
      have hkd := hti.kind
      simp only [KOk] at hkd
      subst hkd
      have h1 := (aev_ok h x).1
      rw [hx] at h1
      have ex := own_inv h1
      have hst' := h.st id _ hs
      have hcc : 0 ≤ u ∧ u ≤ n := hc
      have hn : ∃ base cap, η id = .slice base n cap ∧ n ≤ cap := by
       generalize η id = v at hst'
       cases hst' with
       | nil => exact ⟨_, _, rfl, Nat.le_refl _⟩
       | arr b _ cap _ c' e' _ _ _ hn _ _ _ _ => exact ⟨_, _, rfl, hn⟩
      obtain ⟨base, cap, hu', hn⟩ := hn
      obtain ⟨hb, g1, g2, g3, g4⟩ := sliceBounds_ok (P := P) h hl hu n cap hn f (by simpa [sl] using hcc)
      simp only [Option.getD_none, Option.getD_some, Int.toNat_zero] at hb g1 g2
      have hadd : base.map (fun x : Addr => x.add 0) = base := by cases base <;> simp [Addr.add]
      have hexec : (execOp a.eval o).run P w = .ok (.value (.slice base u.toNat cap)) w := by
       have hbase : (if cap = 0 then base else base.map (fun x : Addr => x.add 0)) = base := by rw [hadd]; split <;> rfl
       simp only [execOp, hop, Sem.run_bind, Instr.sliceAt, run_underlying hti.und, Result.andThen_ok, Instr.slice, ex, hu', Option.map_none, hb, run_sizeOf hte', Sem.run_pure, Nat.zero_mul, Nat.sub_zero]
       rw [hbase]
      have hbb : blks (.slice base u.toNat cap) = blks (.slice base n cap) := by cases base <;> rfl
      refine snd_newarr h hdd (hd d hdd) (hR d hdd (by simp)) (Z := fun _ => False) hexec (Stp.refl _ _) rfl (fun b hb => hb.elim) (fun i' hi' o' ho' => by simp at hi'; subst hi'; rw [hs] at ho'; cases ho'; rfl)
       (fun b hb => .inr ⟨id, by simp, by rw [hs]; simp, by rw [hu', ← hbb]; exact hb⟩) fun X' hkept => ?_
      rw [hu'] at hst'
      have := hst'.mono (η' := SR.eta { v := .v (.c (.own d)), del := [id], new := some (.arr es u.toNat f), cond := 0 ≤ u ∧ u ≤ n } o.dst (.slice base u.toNat cap) η) hkept (by simp [Obj.refs]) (fun _ _ => rfl)
      cases this with
      | nil =>
       have h0 : u.toNat = 0 := by omega
       rw [h0]; exact .nil _ _ _
      | arr b _ _ _ c' e' _ q1 q2 q3 q4 q5 q6 q7 =>
       exact .arr b u.toNat cap _ c' e' _ q1 q2 (by omega) q4 q5 (fun i hi => q6 i (by omega)) fun i j hi hj => q7 i j (by omega) hj
     ·cases hr
    ·cases hr
   ·cases hr
  ·cases hr
 ·
  rename_i t x hx mx hop
  split at hr
  ·rename_i el sz by' z ht
   split at hr
   ·rename_i te n f u u' hte hxx hu hm
    split at hr
    ·rename_i huu
     obtain ⟨rfl, h0⟩ := huu
     cases hr
     exact snd_slice3 hL h hd hop ht rfl hte hu hm h0 hxx hc.1 hc.2
    ·cases hr
   ·cases hr
  ·cases hr
 ·
  rename_i t x k hop
  split at hr
  ·rename_i fs sz by' z ht
   split at hr
   ·rename_i off ft hf
    split at hr
    ·rename_i tf hft
     split at hr
     ·cases hr
     ·rename_i hz
      have hval : ∃ v, r = { v := v } := by
       split at hr
       ·cases hr; exact ⟨_, rfl⟩
       ·cases hr; exact ⟨_, rfl⟩
       ·split at hr
        ·cases hr; exact ⟨_, rfl⟩
        ·cases hr
       ·cases hr
      obtain ⟨v, rfl⟩ := hval
      obtain ⟨g1, g2, g3⟩ := fieldAddr_vals h hr
      exact snd_fieldAddr hL h hd hop ht rfl hf hft hz g1 g2 g3
    ·cases hr
   ·cases hr
  ·cases hr
 ·
  rename_i t x k hop
  split at hr
  ·rename_i fs sz by' z ht
   split at hr
   ·rename_i off ft cs hf hx
    split at hr
    ·rename_i tf hft
     split at hr
     ·rename_i hle
      split at hr
      ·rename_i v hv
       cases hr
       obtain ⟨i1, d1, z1, hti⟩ := hL _ _ ht
       have hkd := hti.kind
       obtain ⟨fields, rfl, hfs⟩ := hkd
       have hf' : ∃ f, fields[k]? = some f ∧ f.offset = off ∧ f.type = ft := by
        rw [← hfs, List.getElem?_map] at hf
        cases hfk : fields.toList[k]? with
        | none => rw [hfk] at hf; cases hf
        | some f => rw [hfk] at hf; simp at hf; exact ⟨f, by simpa using hfk, hf.1, hf.2⟩
       obtain ⟨f, hfk, rfl, rfl⟩ := hf'
       obtain ⟨h1, h2⟩ := aev_ok h x
       rw [hx] at h1 h2
       have hag : ∃ vs, a.eval x = .agg vs ∧ CsRep w (XS C s η) η C vs cs := by
        generalize a.eval x = u at h1
        cases h1 with | v _ _ h1 => cases h1 with | g vs _ h1 => exact ⟨vs, rfl, h1⟩
       obtain ⟨vs, ex, hcs⟩ := hag
       obtain ⟨u, g1, g2, g3⟩ := part_ok (P := P) hL hcs hft hle hv
       refine snd_val h hd (v := u) ?_ g2 (fun j hj => h2 j (by simpa [AVal.refs, TV.refs] using g3 j hj))
       simp only [execOp, hop, Sem.run_bind, Instr.field, run_underlying hti.und, Result.andThen_ok, hfk, ex, asAgg, Sem.run_pure, g1]
      ·cases hr
     ·cases hr
    ·cases hr
   ·cases hr
  ·cases hr
 ·
  rename_i t x i hop
  split at hr
  ·rename_i el sz by' z m' ht hi
   split at hr
   ·rename_i te hte
    split at hr
    ·rename_i id hx
     split at hr
     ·rename_i es n f hs
      split at hr
      ·rename_i hes
       subst hes
       cases hr
       exact snd_indexOwn hL h hd hop ht rfl hte hi hx hs hc
      ·cases hr
     ·cases hr
    ·split at hr
     ·rename_i n f hx
      split at hr
      ·rename_i hf
       cases hr
       exact snd_indexFrozen hL h hd hop ht rfl hte hi hx hf hc
      ·cases hr
     ·cases hr
   ·cases hr
  ·rename_i n el sz by' z m' ht hi
   split at hr
   ·rename_i te id off hte hx
    split at hr
    ·rename_i hb
     cases hr
     exact snd_indexArr hL h hd hop ht rfl hte hi hx hb
    ·cases hr
   ·cases hr
  ·cases hr
 ·
  rename_i t x i hop
  split at hr
  ·rename_i n el sz by' z m' cs ht hi hx
   split at hr
   ·rename_i te hte
    split at hr
    ·rename_i hb
     obtain ⟨hb1, hb2, hb3⟩ := hb
     split at hr
     ·rename_i v hv
      cases hr
      obtain ⟨i1, d1, z1, hti⟩ := hL _ _ ht
      obtain ⟨i2, d2, z2, hte'⟩ := hL _ _ hte
      have hkd := hti.kind
      simp only [KOk] at hkd
      subst hkd
      obtain ⟨k, ei⟩ := asI_ok h hi
      obtain ⟨h1, h2⟩ := aev_ok h x
      rw [hx] at h1 h2
      have hag : ∃ vs, a.eval x = .agg vs ∧ CsRep w (XS C s η) η C vs cs := by
       generalize a.eval x = u at h1
       cases h1 with | v _ _ h1 => cases h1 with | g vs _ h1 => exact ⟨vs, rfl, h1⟩
      obtain ⟨vs, ex, hcs⟩ := hag
      obtain ⟨u, g1, g2, g3⟩ := part_ok (P := P) hL hcs hte hb3 hv
      refine snd_val h hd (v := u) ?_ g2 (fun j hj => h2 j (by simpa [AVal.refs, TV.refs] using g3 j hj))
      simp [execOp, hop, Instr.index, ei, ex, asIntOf, run_underlying hti.und, hb1, hb2, run_sizeOf hte', g1]
     ·cases hr
    ·cases hr
   ·cases hr
  ·cases hr
 ·
  rename_i t l c hop
  split at hr
  ·rename_i el sz by' z n n' d ht hl hcc hdd
   split at hr
   ·rename_i te hte
    split at hr
    ·rename_i zd hz
     split at hr
     ·rename_i hb
      cases hr
      exact snd_makeSlice hL h hdd (hd d hdd) (hR d hdd (by simp)) hop ht rfl hte hl hcc hb.1 hb.2.1 hb.2.2 hz hc
     ·cases hr
    ·cases hr
   ·cases hr
  ·cases hr
 ·
  rename_i x k hop
  split at hr
  ·rename_i xs hx
   split at hr
   ·rename_i v hv
    cases hr
    obtain ⟨h1, h2⟩ := aev_ok h x
    rw [hx] at h1 h2
    have hag : ∃ us, a.eval x = .tuple us ∧ us.size = xs.length ∧ ∀ j, j < xs.length → TRep w (XS C s η) η C (us.getD j undef) (xs.getD j (.c (.d .any))) := by
     generalize a.eval x = u at h1
     cases h1 with | t us _ g1 g2 => exact ⟨us, rfl, g1, g2⟩
    obtain ⟨us, ex, g1, g2⟩ := hag
    have hk : k < xs.length := by
     rcases Nat.lt_or_ge k xs.length with h3 | h3
     ·exact h3
     ·rw [List.getElem?_eq_none h3] at hv; cases hv
    have hk' : k < us.size := by omega
    have h3 := g2 k hk
    have hv' : xs.getD k (.c (.d .any)) = v := by rw [List.getD_eq_getElem?_getD, hv]; rfl
    rw [hv'] at h3
    refine snd_val h hd (v := us.getD k undef) ?_ (.v _ _ h3) (fun j hj => h2 j ?_)
    ·simp [execOp, hop, Instr.extract, ex, hk']
    ·exact List.mem_flatMap.2 ⟨v, List.mem_of_getElem? hv, hj⟩
   ·cases hr
  ·cases hr
 ·
  rename_i b args tys hop
  split at hr
  ·rename_i r' d hab
   unfold abuiltin at hab
   split at hab
   ·
    rename_i y hxs
    obtain ⟨x, hargs, hy⟩ : ∃ x, args = #[x] ∧ y = aev e x := by
     match hl : args.toList, hxs with
     | [x], hxs => simp at hxs; exact ⟨x, Array.ext' hl, hxs.symm⟩
    subst hargs; subst hy
    split at hab
    ·rename_i t htys
     have htt : tys = #[t] := Array.ext' htys
     subst htt
     split at hab
     ·rename_i el sz by' z ht
      split at hab
      ·rename_i n f hx
       cases hab
       simp only at hr
       cases hr
       exact snd_len hL h hd hop ht rfl hx
      ·cases hab
     ·rename_i n el sz by' z ht
      cases hab
      simp only at hr
      cases hr
      exact snd_lenArr hL h hd hop ht rfl
     ·rename_i sz by' z ht
      split at hab
      ·rename_i bb hx
       cases hab
       simp only at hr
       cases hr
       exact snd_lenStr hL h hd hop ht rfl hx
      ·cases hab
     ·cases hab
    ·cases hab
   ·
    rename_i k n k' n' hxs
    obtain ⟨x, y, hargs, hx, hy⟩ : ∃ x y, args = #[x, y] ∧ aev e x = .v (.c (.d (.int k n))) ∧ aev e y = .v (.c (.d (.int k' n'))) := by
     obtain ⟨x, y, hl, h1, h2⟩ := map_two hxs
     exact ⟨x, y, Array.ext' hl, h1, h2⟩
    subst hargs
    cases hab
    simp only at hr
    cases hr
    exact snd_minmax h hd hop hx hy (.inl ⟨rfl, rfl⟩)
   ·
    rename_i k n k' n' hxs
    obtain ⟨x, y, hargs, hx, hy⟩ : ∃ x y, args = #[x, y] ∧ aev e x = .v (.c (.d (.int k n))) ∧ aev e y = .v (.c (.d (.int k' n'))) := by
     obtain ⟨x, y, hl, h1, h2⟩ := map_two hxs
     exact ⟨x, y, Array.ext' hl, h1, h2⟩
    subst hargs
    cases hab
    simp only at hr
    cases hr
    exact snd_minmax h hd hop hx hy (.inr ⟨rfl, rfl⟩)
   ·
    rename_i u1 u2 hxs
    obtain ⟨x, y, hargs, hx, hy⟩ : ∃ x y, args = #[x, y] ∧ aev e x = u1 ∧ aev e y = u2 := by
     obtain ⟨x, y, hl, h1, h2⟩ := map_two hxs
     exact ⟨x, y, Array.ext' hl, h1, h2⟩
    subst hargs; subst hx; subst hy
    split at hab
    ·rename_i t t' htys
     split at hab
     ·rename_i htt'
      subst htt'
      have htt : tys = #[t, t] := Array.ext' htys
      subst htt
      split at hab
      ·rename_i el sz by' z ht
       split at hab
       ·rename_i te hte
        split at hab
        ·rename_i k g hy
         split at hab
         ·rename_i del n f c hx
          split at hab
          ·rename_i hb
           cases hab
           simp only at hr
           split at hr
           ·rename_i dd hdd2 hdd
            cases hr
            exact snd_append hL h hdd (hd _ hdd) (hR _ hdd (by simp)) hop ht rfl hte hy hx hc.2.2 hb.2.1 hb.2.2 hc.1 hc.2.1
           ·cases hr
           ·cases ‹some _ = none›
          ·cases hab
         ·cases hab
        ·cases hab
       ·cases hab
      ·cases hab
     ·cases hab
    ·cases hab
   ·cases hab
  ·cases hr
 ·cases hr
end
end Go.Ab
end

section
namespace Go.Ab
def setE (d : Option Tmp) (v : AVal) (e : Env) : Env :=
 match d with
 | some d => fun t => if t = d then v else e t
 | none => e
def upS (l : List (Nat × Option Obj)) (s : Sto) : Sto := fun i =>
 match l.lookup i with
 | some o => o
 | none => s i
structure Eff where
 rd : List Nat
 ids : List Nat
 v : AVal
 l : List (Nat × Option Obj)
 news : List Nat
section
variable (P : Program) (C : Ctx) (nt : Nat) (ops : Array Oper)
def StT (o : Oper) (f : Eff) (e : Env) (s : Sto) : Prop :=
 ∀ R η e0 s0 a w, (∀ t ∈ f.rd, e0 t = e t) → (∀ i ∈ f.ids, s0 i = s i) → (∀ n ∈ f.news, ¬ R n) → Conc C nt R η e0 s0 a w →
  ∀ (K : Act → World → Prop) (Q : Exit → Act → World → Prop), (∀ η' a' w', Conc C nt (fun i => R i ∨ i ∈ f.news) η' (setE o.dst f.v e0) (upS f.l s0) a' w' → K a' w') →
   if Region.wanted o (yielded ops a.tmps) then o.wp P a w K Q else K (a.put o.dst undef) w
def RunAll : List Oper → List Eff → Env → Sto → Prop
 | [], [], _, _ => True
 | o :: os, f :: fs, e, s => StT P C nt ops o f e s ∧ RunAll os fs (setE o.dst f.v e) (upS f.l s)
 | _, _, _, _ => False
end
def endE : List Oper → List Eff → Env → Env
 | o :: os, f :: fs, e => endE os fs (setE o.dst f.v e)
 | _, _, e => e
def endS : List Eff → Sto → Sto
 | f :: fs, s => endS fs (upS f.l s)
 | _, s => s
def newsOf (fs : List Eff) : List Nat := fs.flatMap (·.news)
theorem Conc.wider {C : Ctx} {nt : Nat} {R R' : Nat → Prop} {η : Nat → Value} {e : Env} {s : Sto} {a : Act} {w : World} (h : Conc C nt R η e s a w) (hR : ∀ i, R i → R' i) : Conc C nt R' η e s a w :=
 ⟨h.ok, h.df, h.sz, h.ev, fun t i hi => hR i (h.er t i hi), h.st, fun i o ho => ⟨hR i (h.sr i o ho).1, fun j hj => hR j ((h.sr i o ho).2 j hj)⟩, h.ds, h.ow, h.fr, fun i v hi => ⟨(h.pn i v hi).1, hR i (h.pn i v hi).2⟩⟩
section
variable {P : Program} {C : Ctx} {nt : Nat} {ops : Array Oper}
theorem runAll_seq {Q : Exit → Act → World → Prop} : ∀ (os : List Oper) (fs : List Eff) (R : Nat → Prop) (η : Nat → Value) (e : Env) (s : Sto) (a : Act) (w : World), RunAll P C nt ops os fs e s → (newsOf fs).Nodup → (∀ n ∈ newsOf fs, ¬ R n) → Conc C nt R η e s a w →
  (∀ η' a' w', Conc C nt (fun i => R i ∨ i ∈ newsOf fs) η' (endE os fs e) (endS fs s) a' w' → Q .normal a' w') → wpList P ops Q os a w := by
 intro os
 induction os with
 | nil =>
  intro fs R η e s a w hr _ _ hc hq
  cases fs with
  | nil => exact hq η a w (hc.wider fun i hi => .inl hi)
  | cons f fs => exact hr.elim
 | cons o os ih =>
  intro fs R η e s a w hr hnd hfr hc hq
  cases fs with
  | nil => exact hr.elim
  | cons f fs =>
   obtain ⟨h1, h2⟩ := hr
   have hnews : newsOf (f :: fs) = f.news ++ newsOf fs := rfl
   rw [hnews] at hnd hfr hq
   have hst := h1 R η e s a w (fun _ _ => rfl) (fun _ _ => rfl) (fun n hn => hfr n (List.mem_append.2 (.inl hn))) hc
   refine wpList_step fun K hK => ?_
   refine hst K Q fun η' a' w' hc' => hK a' w' ?_
   refine ih fs _ η' _ _ a' w' h2 (List.nodup_append.1 hnd).2.1 (fun n hn hx => ?_) hc' fun η2 a2 w2 hc2 => hq η2 a2 w2 (hc2.wider fun i hi => ?_)
   ·rcases hx with hx | hx
    ·exact hfr n (List.mem_append.2 (.inr hn)) hx
    ·exact (List.nodup_append.1 hnd).2.2 n hx n hn rfl
   ·rcases hi with (hi | hi) | hi
    ·exact .inl hi
    ·exact .inr (List.mem_append.2 (.inl hi))
    ·exact .inr (List.mem_append.2 (.inr hi))
end
def confl (oi oj : Oper) (fi fj : Eff) : Bool :=
 (match oi.dst with | some d => fj.rd.contains d || oj.dst == some d | none => false) || (match oj.dst with | some d => fi.rd.contains d | none => false) ||
 (fi.l.any fun p => fj.ids.contains p.1 || fj.l.any (·.1 == p.1)) || (fj.l.any fun p => fi.ids.contains p.1)
def mask1 (acc : List Nat) : List Edge → Nat
 | [] => 0
 | e :: r => if Region.binds .any e then (2 ^ e.on ||| acc.getD e.on 0) ||| mask1 acc r else mask1 acc r
def commGo : List Oper → List Eff → List Nat → List (Oper × Eff) → Bool
 | o :: os, f :: fs, acc, seen =>
  let m := mask1 acc o.after.toList
  (o.after.toList.all fun e => !Region.binds .any e || decide (e.on < acc.length)) &&
  (seen.zipIdx.all fun p => !confl p.1.1 o p.1.2 f || m.testBit p.2) && commGo os fs (acc ++ [m]) (seen ++ [(o, f)])
 | [], [], _, _ => true
 | _, _, _, _ => false
def commB (ops : List Oper) (fs : List Eff) : Bool := commGo ops fs [] []
inductive Anc (ops : List Oper) : Nat → Nat → Prop
 | edge (j : Nat) (o : Oper) (e : Edge) : ops[j]? = some o → e ∈ o.after.toList → Region.binds .any e = true → Anc ops e.on j
 | trans (i j k : Nat) : Anc ops i j → Anc ops j k → Anc ops i k
theorem mask1_anc {ops : List Oper} {acc : List Nat} {j : Nat} {o : Oper} (ho : ops[j]? = some o) (hacc : ∀ k i, (acc.getD k 0).testBit i = true → Anc ops i k) : ∀ (es : List Edge), (∀ e ∈ es, e ∈ o.after.toList) → ∀ i, (mask1 acc es).testBit i = true → Anc ops i j := by
 intro es
 induction es with
 | nil => intro _ i hi; simp [mask1] at hi
 | cons e r ih =>
  intro hsub i hi
  have hr := ih (fun e' he' => hsub e' (List.mem_cons_of_mem _ he'))
  simp only [mask1] at hi
  split at hi
  ·rename_i hb
   have he : Anc ops e.on j := .edge j o e ho (hsub e List.mem_cons_self) hb
   rw [Nat.testBit_or, Nat.testBit_or] at hi
   rcases (by simpa using hi : ((2 ^ e.on).testBit i = true ∨ (acc.getD e.on 0).testBit i = true) ∨ (mask1 acc r).testBit i = true) with (h1 | h1) | h1
   ·rw [Nat.testBit_two_pow] at h1
    have : e.on = i := by simpa using h1
    exact this ▸ he
   ·exact .trans _ _ _ (hacc _ _ h1) he
   ·exact hr i h1
  ·exact hr i hi
theorem commGo_spec (ops : List Oper) (fs : List Eff) : ∀ (os : List Oper) (gs : List Eff) (acc : List Nat) (seen : List (Oper × Eff)), commGo os gs acc seen = true →
  acc.length = seen.length → ops = seen.map (·.1) ++ os → fs = seen.map (·.2) ++ gs → (∀ k i, (acc.getD k 0).testBit i = true → Anc ops i k) →
  (∀ j o e, seen.length ≤ j → ops[j]? = some o → e ∈ o.after.toList → Region.binds .any e = true → e.on < j) ∧
  (∀ i j oi oj fi fj, i < j → seen.length ≤ j → ops[i]? = some oi → ops[j]? = some oj → fs[i]? = some fi → fs[j]? = some fj → confl oi oj fi fj = true → Anc ops i j) ∧ os.length = gs.length := by
 intro os
 induction os with
 | nil =>
  intro gs acc seen h hl ho hf _
  cases gs with
  | cons g gs => simp [commGo] at h
  | nil =>
   refine ⟨fun j o e hj hjo => ?_, fun i j oi oj fi fj hij hj _ hjo => ?_, rfl⟩
   ·rw [ho, List.append_nil, List.getElem?_eq_none (by simpa using hj)] at hjo; cases hjo
   ·rw [ho, List.append_nil, List.getElem?_eq_none (by simpa using hj)] at hjo; cases hjo
 | cons o os ih =>
  intro gs acc seen h hl ho hf hacc
  cases gs with
  | nil => simp [commGo] at h
  | cons g gs =>
   simp only [commGo, Bool.and_eq_true] at h
   obtain ⟨⟨h1, h2⟩, h3⟩ := h
   have hoj : ops[seen.length]? = some o := by rw [ho]; simp
   have hfj : fs[seen.length]? = some g := by rw [hf]; simp
   have hmask : ∀ i, (mask1 acc o.after.toList).testBit i = true → Anc ops i seen.length := mask1_anc hoj hacc _ (fun e he => he)
   obtain ⟨g1, g2, g3⟩ := ih gs (acc ++ [mask1 acc o.after.toList]) (seen ++ [(o, g)]) h3 (by simp [hl]) (by simp [ho]) (by simp [hf]) (fun k i hk => by
    by_cases hk1 : k < acc.length
    ·rw [show (acc ++ [mask1 acc o.after.toList]).getD k 0 = acc.getD k 0 from by simp [List.getD_eq_getElem?_getD, List.getElem?_append, hk1]] at hk
     exact hacc k i hk
    ·by_cases hk2 : k = acc.length
     ·subst hk2
      rw [show (acc ++ [mask1 acc o.after.toList]).getD acc.length 0 = mask1 acc o.after.toList from by simp [List.getD_eq_getElem?_getD]] at hk
      rw [hl]; exact hmask i hk
     ·rw [show (acc ++ [mask1 acc o.after.toList]).getD k 0 = 0 from by
       rw [List.getD_eq_getElem?_getD, List.getElem?_eq_none (by simp; omega)]; rfl] at hk
      simp at hk)
   refine ⟨fun j o' e hj hjo he hb => ?_, fun i j oi oj fi fj hij hj hio hjo hif hjf hcf => ?_, by simp [g3]⟩
   ·by_cases hjs : j = seen.length
    ·subst hjs
     rw [hoj] at hjo; cases hjo
     have := List.all_eq_true.1 h1 e he
     simp [hb] at this
     omega
    ·exact g1 j o' e (by simp; omega) hjo he hb
   ·by_cases hjs : j = seen.length
    ·subst hjs
     rw [hoj] at hjo; cases hjo
     rw [hfj] at hjf; cases hjf
     have hsi : seen[i]? = some (oi, fi) := by
      have hlt : i < seen.length := hij
      rw [ho, List.getElem?_append_left (by simpa using hlt), List.getElem?_map] at hio
      rw [hf, List.getElem?_append_left (by simpa using hlt), List.getElem?_map] at hif
      rw [List.getElem?_eq_getElem hlt] at hio hif ⊢
      simp at hio hif
      rw [← hio, ← hif]
     have hmem : ((oi, fi), i) ∈ seen.zipIdx := by
      rw [List.mem_zipIdx_iff_getElem?]; simpa using hsi
     have := List.all_eq_true.1 h2 _ hmem
     simp [hcf] at this
     exact hmask i this
    ·exact g2 i j oi oj fi fj hij (by simp; omega) hio hjo hif hjf hcf
end Go.Ab
end

section
namespace Go.Ab
instance : Inhabited Eff := ⟨⟨[], [], .any, [], []⟩⟩
section
variable (l : List Oper) (fs : List Eff)
def dstAt (i : Nat) : Option Tmp := (l[i]?).bind (·.dst)
def effAt (i : Nat) : Eff := fs.getD i default
def hE (e0 : Env) : List Nat → Env
 | [] => e0
 | i :: h => setE (dstAt l i) (effAt fs i).v (hE e0 h)
def hS (s0 : Sto) : List Nat → Sto
 | [] => s0
 | i :: h => upS (effAt fs i).l (hS s0 h)
def wrE (t : Nat) (j : Nat) : Bool := dstAt l j == some t
def wrS (i : Nat) (j : Nat) : Bool := ((effAt fs j).l.lookup i).isSome
theorem hE_find (e0 : Env) (t : Nat) : ∀ h, hE l fs e0 h t = match h.find? (wrE l t) with | some j => (effAt fs j).v | none => e0 t := by
 intro h
 induction h with
 | nil => rfl
 | cons i h ih =>
  simp only [hE, List.find?_cons, setE]
  cases hd : dstAt l i with
  | none => simp [wrE, hd, ih]
  | some d =>
   by_cases hdt : t = d
   ·subst hdt; simp [wrE, hd]
   ·have : wrE l t i = false := by simp [wrE, hd]; exact fun hh => hdt hh.symm
    simp [this, hdt, ih]
theorem hS_find (s0 : Sto) (k : Nat) : ∀ h, hS fs s0 h k = match h.find? (wrS fs k) with | some j => ((effAt fs j).l.lookup k).getD none | none => s0 k := by
 intro h
 induction h with
 | nil => rfl
 | cons i h ih =>
  simp only [hS, List.find?_cons, upS]
  cases hl : (effAt fs i).l.lookup k with
  | none => simp [wrS, hl, ih]
  | some o => simp [wrS, hl]
end
structure Hist (ops : List Oper) (h : List Nat) : Prop where
 nd : h.Nodup
 ord : ∀ l1 k l2, h = l1 ++ k :: l2 → ∀ i, Anc ops i k → i ∈ l2
theorem Hist.anc {ops : List Oper} {h : List Nat} (H : Hist ops h) {i k : Nat} (hk : k ∈ h) (ha : Anc ops i k) : i ∈ h := by
 obtain ⟨l1, l2, rfl⟩ := List.append_of_mem hk
 exact List.mem_append.2 (.inr (List.mem_cons_of_mem _ (H.ord l1 k l2 rfl i ha)))
theorem find_first {ops : List Oper} {h : List Nat} (H : Hist ops h) {p : Nat → Bool} {f g : Nat} (hf : h.find? p = some f) (hg : g ∈ h) (hp : p g = true) (ha : Anc ops f g) : False := by
 obtain ⟨_, as, bs, rfl, hno⟩ := List.find?_eq_some_iff_append.1 hf
 have hgb : g ∈ bs := by
  rcases List.mem_append.1 hg with h1 | h1
  ·have := hno g h1; simp [hp] at this
  ·rcases List.mem_cons.1 h1 with h2 | h2
   ·subst h2
    have := H.ord as g bs rfl g ha
    exact this
   ·exact h2
 obtain ⟨b1, b2, rfl⟩ := List.append_of_mem hgb
 have := H.ord (as ++ f :: b1) g b2 (by simp) f ha
 have hnd := H.nd
 rw [List.nodup_append] at hnd
 have h2 := hnd.2.1
 rw [List.nodup_cons] at h2
 exact h2.1 (by simp [this])
theorem find_eq {ops : List Oper} {h1 h2 : List Nat} (H1 : Hist ops h1) (H2 : Hist ops h2) {p : Nat → Bool} (hord : ∀ j k, j < k → k ∈ h1 → k ∈ h2 → j ∈ h1 → p j = true → p k = true → Anc ops j k)
  (hset : ∀ j, p j = true → (j ∈ h1 ↔ j ∈ h2)) : h1.find? p = h2.find? p := by
 cases hf : h1.find? p with
 | none =>
  symm
  rw [List.find?_eq_none] at hf ⊢
  intro x hx hp
  exact hf x ((hset x hp).2 hx) hp
 | some f =>
  have hpf : p f = true := List.find?_some hf
  have hmf : f ∈ h1 := List.mem_of_find?_eq_some hf
  have hmf2 := (hset f hpf).1 hmf
  cases hg : h2.find? p with
  | none => rw [List.find?_eq_none] at hg; exact absurd hpf (hg f hmf2)
  | some g =>
   have hpg : p g = true := List.find?_some hg
   have hmg2 : g ∈ h2 := List.mem_of_find?_eq_some hg
   have hmg := (hset g hpg).2 hmg2
   rcases Nat.lt_trichotomy f g with hlt | heq | hlt
   ·exact (find_first H1 hf hmg hpg (hord f g hlt hmg hmg2 hmf hpf hpg)).elim
   ·rw [heq]
   ·exact (find_first H2 hg hmf2 hpf (hord g f hlt hmf hmf2 hmg hpg hpf)).elim
section
variable {P : Program} {C : Ctx} {nt : Nat} {ops : Array Oper} {fs : List Eff}
theorem anc_lt {l : List Oper} (hb : ∀ j o e, l[j]? = some o → e ∈ o.after.toList → Region.binds .any e = true → e.on < j) {i k : Nat} (h : Anc l i k) : i < k := by
 induction h with
 | edge j o e h1 h2 h3 => exact hb j o e h1 h2 h3
 | trans i j k _ _ ih1 ih2 => omega
theorem text_hist {l : List Oper} (hb : ∀ j o e, l[j]? = some o → e ∈ o.after.toList → Region.binds .any e = true → e.on < j) (n : Nat) : Hist l (List.range n).reverse := by
 refine ⟨by unfold List.Nodup; rw [List.pairwise_reverse]; exact (List.nodup_range (n := n)).imp (fun h => Ne.symm h), ?_⟩
 induction n with
 | zero => intro l1 k l2 h; simp at h
 | succ n ih =>
  intro l1 k l2 h i ha
  rw [List.range_succ, List.reverse_append, List.reverse_singleton, List.singleton_append] at h
  cases l1 with
  | nil =>
   simp only [List.nil_append, List.cons.injEq] at h
   obtain ⟨rfl, rfl⟩ := h
   have := anc_lt hb ha
   simp; exact this
  | cons x l1 =>
   simp only [List.cons_append, List.cons.injEq] at h
   exact ih l1 k l2 h.2 i ha
theorem newsOf_apart {fs : List Eff} (hnd : (newsOf fs).Nodup) {i j : Nat} (hij : i ≠ j) {x : Nat} (hi : x ∈ (effAt fs i).news) (hj : x ∈ (effAt fs j).news) : False := by
 induction fs generalizing i j with
 | nil => simp [effAt, default] at hi
 | cons f r ih =>
  have hn : newsOf (f :: r) = f.news ++ newsOf r := rfl
  rw [hn, List.nodup_append] at hnd
  have mem : ∀ k, x ∈ (effAt r k).news → x ∈ newsOf r := by
   intro k hk
   by_cases hkl : k < r.length
   ·exact List.mem_flatMap.2 ⟨_, getD_mem hkl, hk⟩
   ·have : effAt r k = default := by unfold effAt; rw [List.getD_eq_getElem?_getD, List.getElem?_eq_none (by omega)]; rfl
    rw [this] at hk; cases hk
  cases i with
  | zero =>
   cases j with
   | zero => exact hij rfl
   | succ j => exact hnd.2.2 x hi x (mem j hj) rfl
  | succ i =>
   cases j with
   | zero => exact hnd.2.2 x hj x (mem i hi) rfl
   | succ j => exact ih hnd.2.1 (by omega) hi hj
theorem effAt_news {fs : List Eff} {k x : Nat} (hx : x ∈ (effAt fs k).news) : x ∈ newsOf fs := by
 by_cases hk : k < fs.length
 ·exact List.mem_flatMap.2 ⟨_, getD_mem hk, hx⟩
 ·have : effAt fs k = default := by unfold effAt; rw [List.getD_eq_getElem?_getD, List.getElem?_eq_none (by omega)]; rfl
  rw [this] at hx; cases hx
theorem runAll_at : ∀ (os : List Oper) (gs : List Eff) (l : List Oper) (fs : List Eff) (k : Nat) (e0 : Env) (s0 : Sto), (∀ j, os[j]? = l[k + j]?) → (∀ j, j < gs.length → gs[j]? = fs[k + j]?) → os.length = gs.length →
  RunAll P C nt ops os gs (hE l fs e0 (List.range k).reverse) (hS fs s0 (List.range k).reverse) →
  (∀ j o, os[j]? = some o → StT P C nt ops o (effAt fs (k + j)) (hE l fs e0 (List.range (k + j)).reverse) (hS fs s0 (List.range (k + j)).reverse)) ∧
  endE os gs (hE l fs e0 (List.range k).reverse) = hE l fs e0 (List.range (k + os.length)).reverse ∧ endS gs (hS fs s0 (List.range k).reverse) = hS fs s0 (List.range (k + os.length)).reverse := by
 intro os
 induction os with
 | nil =>
  intro gs l fs k e0 s0 _ _ hl _
  cases gs with
  | nil => exact ⟨fun j o h => by simp at h, rfl, rfl⟩
  | cons g gs => simp at hl
 | cons o os ih =>
  intro gs l fs k e0 s0 ho hf hl hr
  cases gs with
  | nil => simp at hl
  | cons g gs =>
   obtain ⟨h1, h2⟩ := hr
   have hd : dstAt l k = o.dst := by
    have := ho 0; simp at this; simp [dstAt, ← this]
   have hg : effAt fs k = g := by
    have := hf 0 (by simp); simp at this; simp [effAt, List.getD_eq_getElem?_getD, ← this]
   have hs1 : hE l fs e0 (List.range (k + 1)).reverse = setE o.dst g.v (hE l fs e0 (List.range k).reverse) := by
    rw [List.range_succ, List.reverse_append, List.reverse_singleton, List.singleton_append]; simp only [hE, hd, hg]
   have hs2 : hS fs s0 (List.range (k + 1)).reverse = upS g.l (hS fs s0 (List.range k).reverse) := by
    rw [List.range_succ, List.reverse_append, List.reverse_singleton, List.singleton_append]; simp only [hS, hg]
   obtain ⟨g1, g2, g3⟩ := ih gs l fs (k + 1) e0 s0 (fun j => by have := ho (j + 1); simp at this; rw [this]; congr 1; omega) (fun j hj => by have := hf (j + 1) (by simpa using hj); simp at this; rw [this]; congr 1; omega) (by simpa using hl)
    (by rw [hs1, hs2]; exact h2)
   refine ⟨fun j o' hj => ?_, ?_, ?_⟩
   ·cases j with
    | zero => simp at hj; subst hj; rw [Nat.add_zero, hg]; exact h1
    | succ j => have := g1 j o' (by simpa using hj); rwa [show k + 1 + j = k + (j + 1) from by omega] at this
   ·rw [hs1] at g2
    simp only [endE]; rw [g2]; congr 3; simp; omega
   ·rw [hs2] at g3
    simp only [endS]; rw [g3]; congr 3; simp; omega
theorem nodup_le : ∀ (n : Nat) (l : List Nat), l.Nodup → (∀ x ∈ l, x < n) → l.length ≤ n := by
 intro n
 induction n with
 | zero => intro l _ h; cases l with
  | nil => simp
  | cons x r => exact absurd (h x List.mem_cons_self) (by omega)
 | succ n ih =>
  intro l hl h
  by_cases hn : n ∈ l
  ·have h1 := ih (l.erase n) (hl.erase n) (fun x hx => by
    have h2 := (hl.mem_erase_iff).1 hx
    have := h x h2.2
    omega)
   rw [List.length_erase_of_mem hn] at h1
   omega
  ·have := ih l hl (fun x hx => by have := h x hx; have : x ≠ n := fun e => hn (e ▸ hx); omega)
   omega
theorem mem_listed {listed : Array Bool} {h : List Nat} {n : Nat} (hsz : listed.size = n) (hl : ∀ i, i < n → (listed.getD i false = true ↔ i ∈ h)) (hb : ∀ i ∈ h, i < n) (i : Nat) : listed.getD i false = true ↔ i ∈ h := by
 by_cases hi : i < n
 ·exact hl i hi
 ·constructor
  ·intro hh; rw [show listed.getD i false = false from by simp [Array.getD, hsz, hi]] at hh; cases hh
  ·intro hh; exact absurd (hb i hh) hi
theorem ready_iff {ops : Array Oper} {listed : Array Bool} (hsz : listed.size = ops.size) (i : Nat) : i ∈ Region.ready .any ops listed ↔ ∃ o, ops[i]? = some o ∧ listed.getD i false = false ∧ ∀ e ∈ o.after.toList, Region.binds .any e = true → listed.getD e.on false = true := by
 unfold Region.ready
 rw [List.mem_filter, List.mem_range]
 constructor
 ·rintro ⟨hi, hh⟩
  refine ⟨ops[i], by simp [hi], ?_, ?_⟩
  ·simp only [Bool.and_eq_true] at hh
   have h1 := hh.1
   have : i < listed.size := by omega
   simp [Array.getD, this] at h1 ⊢
   exact h1
  ·intro e he hb
   simp only [Bool.and_eq_true] at hh
   have h2 := hh.2
   simp only [Array.getElem?_eq_getElem hi, Option.map_some, Option.getD_some] at h2
   rw [Array.all_eq_true'] at h2
   have := h2 e (by simpa using he)
   simpa [hb] using this
 ·rintro ⟨o, ho, hl, he⟩
  have hi : i < ops.size := (Array.getElem?_eq_some_iff.1 ho).1
  refine ⟨hi, ?_⟩
  simp only [Bool.and_eq_true]
  refine ⟨?_, ?_⟩
  ·have : i < listed.size := by omega
   simp [Array.getD, this] at hl ⊢
   exact hl
  ·simp only [ho, Option.map_some, Option.getD_some]
   rw [Array.all_eq_true']
   intro e hee
   cases hb : Region.binds .any e with
   | false => rfl
   | true => simpa using he e (by simpa using hee) hb
theorem anyorder {Q : Exit → Act → World → Prop} {e0 : Env} {s0 : Sto} {R : Nat → Prop} (hlen : ops.toList.length = fs.length)
  (hback : ∀ j o e, ops.toList[j]? = some o → e ∈ o.after.toList → Region.binds .any e = true → e.on < j)
  (hconf : ∀ i j oi oj fi fj, i < j → ops.toList[i]? = some oi → ops.toList[j]? = some oj → fs[i]? = some fi → fs[j]? = some fj → confl oi oj fi fj = true → Anc ops.toList i j)
  (hst : ∀ j o, ops.toList[j]? = some o → StT P C nt ops o (effAt fs j) (hE ops.toList fs e0 (List.range j).reverse) (hS fs s0 (List.range j).reverse))
  (hnd : (newsOf fs).Nodup) (hfr : ∀ n ∈ newsOf fs, ¬ R n)
  (hq : ∀ η a w, Conc C nt (fun i => R i ∨ i ∈ newsOf fs) η (hE ops.toList fs e0 (List.range ops.size).reverse) (hS fs s0 (List.range ops.size).reverse) a w → Q .normal a w) :
  ∀ (fuel : Nat) (listed : Array Bool) (h : List Nat) (η : Nat → Value) (a : Act) (w : World), listed.size = ops.size → (∀ i, i < ops.size → (listed.getD i false = true ↔ i ∈ h)) → (∀ i ∈ h, i < ops.size) → Hist ops.toList h → ops.size ≤ fuel + h.length →
   Conc C nt (fun i => R i ∨ ∃ j ∈ h, i ∈ (effAt fs j).news) η (hE ops.toList fs e0 h) (hS fs s0 h) a w → wpAny P .any ops Q fuel listed a w := by
 have hgetl : ∀ {i : Nat}, i < ops.size → ∃ o, ops.toList[i]? = some o ∧ ops[i]? = some o := fun {i} hi => ⟨ops[i], by simp [hi], by simp [hi]⟩
 have hgetf : ∀ {i : Nat}, i < ops.size → fs[i]? = some (effAt fs i) := by
  intro i hi
  have : i < fs.length := by rw [← hlen]; simpa using hi
  simp [effAt, List.getD_eq_getElem?_getD, this]
 have hC : ∀ i j oi oj, i < j → j < ops.size → ops.toList[i]? = some oi → ops.toList[j]? = some oj → confl oi oj (effAt fs i) (effAt fs j) = true → Anc ops.toList i j := by
  intro i j oi oj hij hj hi' hj' hc
  exact hconf i j oi oj _ _ hij hi' hj' (hgetf (by omega)) (hgetf hj) hc
 have agreeE : ∀ (h1 h2 : List Nat), Hist ops.toList h1 → Hist ops.toList h2 → (∀ i ∈ h1, i < ops.size) → ∀ t, (∀ j, j < ops.size → dstAt ops.toList j = some t → (j ∈ h1 ↔ j ∈ h2)) → (∀ i ∈ h2, i < ops.size) → hE ops.toList fs e0 h1 t = hE ops.toList fs e0 h2 t := by
  intro h1 h2 H1 H2 hb1 t hw hb2
  rw [hE_find, hE_find, find_eq (p := wrE ops.toList t) H1 H2 ?_ ?_]
  ·intro j k hjk hk1 _ hj1 hpj hpk
   obtain ⟨oj, hoj, _⟩ := hgetl (hb1 j hj1)
   obtain ⟨ok, hok, _⟩ := hgetl (hb1 k hk1)
   refine hC j k oj ok hjk (hb1 k hk1) hoj hok ?_
   simp [wrE, dstAt, hoj] at hpj
   simp [wrE, dstAt, hok] at hpk
   simp [confl, hpj, hpk]
  ·intro j hp
   have hd : dstAt ops.toList j = some t := by simpa [wrE] using hp
   have hj : j < ops.size := by
    unfold dstAt at hd
    rcases Nat.lt_or_ge j ops.size with h3 | h3
    ·exact h3
    ·rw [List.getElem?_eq_none (by simpa using h3)] at hd; cases hd
   exact hw j hj hd
 have agreeS : ∀ (h1 h2 : List Nat), Hist ops.toList h1 → Hist ops.toList h2 → (∀ i ∈ h1, i < ops.size) → ∀ k, (∀ j, j < ops.size → wrS fs k j = true → (j ∈ h1 ↔ j ∈ h2)) → (∀ i ∈ h2, i < ops.size) → hS fs s0 h1 k = hS fs s0 h2 k := by
  intro h1 h2 H1 H2 hb1 k hw hb2
  have hkey : ∀ j, wrS fs k j = true → ∃ o, (k, o) ∈ (effAt fs j).l := by
   intro j hj
   simp only [wrS, Option.isSome_iff_exists] at hj
   obtain ⟨o, ho⟩ := hj
   obtain ⟨l1, l2, hl, _⟩ := List.lookup_eq_some_iff.1 ho
   exact ⟨o, by rw [hl]; simp⟩
  rw [hS_find, hS_find, find_eq (p := wrS fs k) H1 H2 ?_ ?_]
  ·intro i j hij hj1 _ hi1 hpi hpj
   obtain ⟨oi, hoi, _⟩ := hgetl (hb1 i hi1)
   obtain ⟨oj, hoj, _⟩ := hgetl (hb1 j hj1)
   refine hC i j oi oj hij (hb1 j hj1) hoi hoj ?_
   obtain ⟨u, hu⟩ := hkey i hpi
   obtain ⟨v, hv⟩ := hkey j hpj
   have : ((effAt fs i).l.any fun p => (effAt fs j).ids.contains p.1 || (effAt fs j).l.any (·.1 == p.1)) = true := by
    rw [List.any_eq_true]; refine ⟨_, hu, ?_⟩
    simp only [Bool.or_eq_true]; right
    rw [List.any_eq_true]; exact ⟨_, hv, by simp⟩
   simp only [confl, this, Bool.or_true, Bool.true_or]
  ·intro j hp
   by_cases hj : j < ops.size
   ·exact hw j hj hp
   ·exact ⟨fun hh => absurd (hb1 j hh) hj, fun hh => absurd (hb2 j hh) hj⟩
 have htext : ∀ n, n ≤ ops.size → (∀ i ∈ (List.range n).reverse, i < ops.size) := by intro n hn i hi; simp at hi; omega
 have final : ∀ (listed : Array Bool) (h : List Nat) (η : Nat → Value) (a : Act) (w : World), (∀ i ∈ h, i < ops.size) → Hist ops.toList h → (∀ i, i < ops.size → i ∈ h) →
   Conc C nt (fun i => R i ∨ ∃ j ∈ h, i ∈ (effAt fs j).news) η (hE ops.toList fs e0 h) (hS fs s0 h) a w → Q .normal a w := by
  intro listed h η a w hb H hall hc
  have e1 : hE ops.toList fs e0 h = hE ops.toList fs e0 (List.range ops.size).reverse :=
   funext fun t => agreeE _ _ H (text_hist hback _) hb t (fun j hj _ => ⟨fun _ => by simp; exact hj, fun _ => hall j hj⟩) (htext _ (Nat.le_refl _))
  have e2 : hS fs s0 h = hS fs s0 (List.range ops.size).reverse :=
   funext fun k => agreeS _ _ H (text_hist hback _) hb k (fun j hj _ => ⟨fun _ => by simp; exact hj, fun _ => hall j hj⟩) (htext _ (Nat.le_refl _))
  rw [e1, e2] at hc
  refine hq η a w (hc.wider fun i hi => ?_)
  rcases hi with hi | ⟨j, _, hi⟩
  ·exact .inl hi
  ·exact .inr (effAt_news hi)
 intro fuel
 induction fuel with
 | zero =>
  intro listed h η a w hsz hl hb H hf hc
  have hall : ∀ i, i < ops.size → i ∈ h := by
   intro i hi
   rcases Classical.em (i ∈ h) with hin | hin
   ·exact hin
   ·have := nodup_le ops.size (i :: h) (List.nodup_cons.2 ⟨hin, H.nd⟩) (fun x hx => by rcases List.mem_cons.1 hx with rfl | hx; exact hi; exact hb x hx)
    simp at this; omega
  refine ⟨?_, final listed h η a w hb H hall hc⟩
  refine List.eq_nil_iff_forall_not_mem.2 fun i hi => ?_
  obtain ⟨o, ho, h2, _⟩ := (ready_iff hsz i).1 hi
  have hi' : i < ops.size := (Array.getElem?_eq_some_iff.1 ho).1
  rw [(hl i hi').2 (hall i hi')] at h2; cases h2
 | succ fuel ih =>
  intro listed h η a w hsz hl hb H hf hc
  have hlm := mem_listed hsz hl hb
  refine ⟨fun hnil => ?_, fun i hi => ?_⟩
  ·refine final listed h η a w hb H (fun i hi => ?_) hc
   induction i using Nat.strongRecOn with
   | _ i ihi =>
    rcases Classical.em (i ∈ h) with hin | hin
    ·exact hin
    ·exfalso
     obtain ⟨o, ho, ho'⟩ := hgetl hi
     have : i ∈ Region.ready .any ops listed := (ready_iff hsz i).2 ⟨o, ho', by
      cases hx : listed.getD i false with
      | false => rfl
      | true => exact absurd ((hlm i).1 hx) hin, fun e he hbd => (hlm e.on).2 (ihi e.on (hback i o e ho he hbd) (by have := hback i o e ho he hbd; omega))⟩
     rw [hnil] at this; cases this
  ·obtain ⟨o, ho, h2, h3⟩ := (ready_iff hsz i).1 hi
   have hi' : i < ops.size := (Array.getElem?_eq_some_iff.1 ho).1
   have hin : i ∉ h := fun hh => by rw [(hlm i).2 hh] at h2; cases h2
   have hol : ops.toList[i]? = some o := by simpa using ho
   have hanc' : ∀ k z, Anc ops.toList k z → (z = i ∨ z ∈ h) → k ∈ h := by
    intro k z hk
    induction hk with
    | edge j o' e g1 g2 g3 =>
     intro hz
     rcases hz with rfl | hz
     ·rw [hol] at g1; cases g1; exact (hlm _).1 (h3 e g2 g3)
     ·exact H.anc hz (.edge j o' e g1 g2 g3)
    | trans x y z _ _ ih1 ih2 => intro hz; exact ih1 (.inr (ih2 hz))
   have hanc : ∀ k, Anc ops.toList k i → k ∈ h := fun k hk => hanc' k i hk (.inl rfl)
   have hfi := hgetf hi'
   have hH' : Hist ops.toList (i :: h) := by
    refine ⟨List.nodup_cons.2 ⟨hin, H.nd⟩, fun l1 k l2 hh x hx => ?_⟩
    cases l1 with
    | nil =>
     simp only [List.nil_append, List.cons.injEq] at hh
     obtain ⟨rfl, rfl⟩ := hh
     exact hanc x hx
    | cons y l1 =>
     simp only [List.cons_append, List.cons.injEq] at hh
     exact H.ord l1 k l2 hh.2 x hx
   have hbt := htext i (Nat.le_of_lt hi')
   have ha1 : ∀ t ∈ (effAt fs i).rd, hE ops.toList fs e0 h t = hE ops.toList fs e0 (List.range i).reverse t := by
    intro t ht
    refine agreeE _ _ H (text_hist hback i) hb t (fun j hj hd => ?_) hbt
    obtain ⟨oj, hoj, _⟩ := hgetl hj
    have hdj : oj.dst = some t := by simpa [dstAt, hoj] using hd
    rcases Nat.lt_trichotomy j i with hlt | rfl | hlt
    ·have := hC j i oj o hlt hi' hoj hol (by simp [confl, hdj, ht])
     exact ⟨fun _ => by simp; exact hlt, fun _ => hanc j this⟩
    ·exact ⟨fun hh => absurd hh hin, fun hh => by simp at hh⟩
    ·have := hC i j o oj hlt hj hol hoj (by simp [confl, hdj, ht])
     exact ⟨fun hh => absurd (H.anc hh this) hin, fun hh => by simp at hh; omega⟩
   have ha2 : ∀ k ∈ (effAt fs i).ids, hS fs s0 h k = hS fs s0 (List.range i).reverse k := by
    intro k hk
    refine agreeS _ _ H (text_hist hback i) hb k (fun j hj hw => ?_) hbt
    obtain ⟨oj, hoj, _⟩ := hgetl hj
    simp only [wrS, Option.isSome_iff_exists] at hw
    obtain ⟨u, hu⟩ := hw
    obtain ⟨l1, l2, hl', _⟩ := List.lookup_eq_some_iff.1 hu
    have hmem : (k, u) ∈ (effAt fs j).l := by rw [hl']; simp
    rcases Nat.lt_trichotomy j i with hlt | rfl | hlt
    ·have hx : ((effAt fs j).l.any fun p => (effAt fs i).ids.contains p.1 || (effAt fs i).l.any (·.1 == p.1)) = true := by
      rw [List.any_eq_true]; exact ⟨_, hmem, by simp [hk]⟩
     have := hC j i oj o hlt hi' hoj hol (by simp only [confl, hx, Bool.or_true, Bool.true_or])
     exact ⟨fun _ => by simp; exact hlt, fun _ => hanc j this⟩
    ·exact ⟨fun hh => absurd hh hin, fun hh => by simp at hh⟩
    ·have hx : ((effAt fs j).l.any fun p => (effAt fs i).ids.contains p.1) = true := by
      rw [List.any_eq_true]; exact ⟨_, hmem, by simp [hk]⟩
     have := hC i j o oj hlt hj hol hoj (by simp only [confl, hx, Bool.or_true])
     exact ⟨fun hh => absurd (H.anc hh this) hin, fun hh => by simp at hh; omega⟩
   have hfresh : ∀ n ∈ (effAt fs i).news, ¬ (R n ∨ ∃ j ∈ h, n ∈ (effAt fs j).news) := by
    rintro n hn (hx | ⟨j, hj, hx⟩)
    ·exact hfr n (effAt_news hn) hx
    ·exact newsOf_apart hnd (fun hh => hin (hh ▸ hj) : i ≠ j) hn hx
   have hstep := hst i o hol _ η _ _ a w ha1 ha2 hfresh hc (wpAny P .any ops Q fuel (listed.setIfInBounds i true)) Q fun η' a' w' hc' => by
    refine ih (listed.setIfInBounds i true) (i :: h) η' a' w' (by simp [hsz]) (fun k hk => ?_) (fun k hk => ?_) hH' (by simp; omega) ?_
    ·have hk' : k < listed.size := by omega
     by_cases hki : i = k
     ·subst hki; simp [Array.getD, hk']
     ·have := hl k hk
      simp [Array.getD, hk'] at this ⊢
      rw [Array.getElem_setIfInBounds_ne (by omega) hki]
      rw [this]
      exact ⟨fun hh => .inr hh, fun hh => hh.resolve_left (fun e => hki e.symm)⟩
    ·rcases List.mem_cons.1 hk with rfl | hk
     ·exact hi'
     ·exact hb k hk
    ·have hd : dstAt ops.toList i = o.dst := by simp [dstAt, hol]
     simp only [hE, hS, hd]
     refine hc'.wider fun k hk => ?_
     rcases hk with (hk | ⟨j, hj, hk⟩) | hk
     ·exact .inl hk
     ·exact .inr ⟨j, List.mem_cons_of_mem _ hj, hk⟩
     ·exact .inr ⟨i, List.mem_cons_self, hk⟩
   simp only [wpOp, ho]
   split at hstep
   ·rename_i hw; rw [if_pos hw]; exact .inl hstep
   ·rename_i hw; rw [if_neg hw]; exact hstep
end
end Go.Ab
end

section
namespace Go.Ab
section
variable {L : Lay} {e e0 : Env} {s s0 : Sto}
theorem rd_local {n : Nat} {x : AVal} (h : ∀ i ∈ x.refs, s0 i = s i) : rd s0 n x = rd s n x := by
 unfold rd
 split
 ·rename_i id off; rw [h id (by simp [AVal.refs, TV.refs, CV.refs])]
 ·rfl
 ·rename_i id es idx off; rw [h id (by simp [AVal.refs, TV.refs, CV.refs])]
 ·rfl
theorem wr_local {xs : List CV} {x : AVal} (h : ∀ i ∈ x.refs, s0 i = s i) : wr s0 xs x = wr s xs x := by
 unfold wr
 split
 ·rename_i id off; rw [h id (by simp [AVal.refs, TV.refs, CV.refs])]
 ·rename_i id es idx off; rw [h id (by simp [AVal.refs, TV.refs, CV.refs])]
 ·rfl
theorem asL_local {x : AVal} (h : ∀ i ∈ x.refs, s0 i = s i) : asL s0 x = asL s x := by
 unfold asL
 split
 ·rfl
 ·rfl
 ·rename_i id; rw [h id (by simp [AVal.refs, TV.refs, CV.refs])]
 ·rfl
theorem asApp_local {x : AVal} {es m : Nat} (h : ∀ i ∈ x.refs, s0 i = s i) : asApp s0 es m x = asApp s es m x := by
 unfold asApp
 split
 ·rename_i id; rw [h id (by simp [AVal.refs, TV.refs, CV.refs])]
 ·rfl
 ·rfl
theorem abuiltin_local {b : Builtin} {tys : Array TypeId} {xs : List AVal} (h : ∀ x ∈ xs, ∀ i ∈ x.refs, s0 i = s i) : abuiltin L s0 b tys xs = abuiltin L s b tys xs := by
 unfold abuiltin
 split
 ·rename_i x
  rw [asL_local (h x (by simp))]
 ·rfl
 ·rfl
 ·rename_i x y
  rw [asL_local (h y (by simp))]
  simp only [asApp_local (h x (by simp))]
 ·rfl
theorem oI_local {x : Option Operand} (h : ∀ y, x = some y → aev e0 y = aev e y) : oI e0 x = oI e x := by
 cases x with
 | none => rfl
 | some y => simp only [oI, h y rfl]
theorem aop1_local (m : Bool) (o : Oper) (he : ∀ x ∈ o.op.operands.toList, aev e0 x = aev e x) (hs : ∀ x ∈ o.op.operands.toList, ∀ i ∈ (aev e x).refs, s0 i = s i) : aop1 L m e0 s0 o = aop1 L m e s o := by
 have hmapA : ∀ (xs : Array Operand), (∀ x ∈ xs.toList, aev e0 x = aev e x) → xs.toList.map (aev e0) = xs.toList.map (aev e) := fun xs h => List.map_congr_left h
 unfold aop1
 cases ho : o.op <;> simp only [ho, Op.operands] at he hs <;> try rfl
 case move x => simp only [he x (by simp)]
 case assign x => simp only [he x (by simp)]
 case pick c a b => simp only [he c (by simp), he a (by simp), he b (by simp)]
 case box t x => simp only [he x (by simp)]
 case build t ps =>
  have : ps.toList.map (fun p => (p.1, aev e0 p.2)) = ps.toList.map (fun p => (p.1, aev e p.2)) := List.map_congr_left fun p hp => by rw [he p.2 (by simp; exact ⟨p.1, by simpa using hp⟩)]
  simp only [this]
 case buildSlice t n ps =>
  have : ps.toList.map (fun p => (p.1, aev e0 p.2)) = ps.toList.map (fun p => (p.1, aev e p.2)) := List.map_congr_left fun p hp => by rw [he p.2 (by simp; exact ⟨p.1, by simpa using hp⟩)]
  simp only [this]
 case load t x => simp only [he x (by simp), rd_local (hs x (by simp))]
 case store t x y => simp only [he x (by simp), he y (by simp), wr_local (hs x (by simp))]
 case nilCheck x => simp only [he x (by simp)]
 case binOp op t x y t' => simp only [he x (by simp), he y (by simp)]
 case unOp op t x => simp only [he x (by simp)]
 case convert src dst x => simp only [he x (by simp)]
 case makeFunc fn first caps =>
  cases fn <;> try rfl
  simp only [hmapA caps (fun x hx => he x (by simp; exact .inr (by simpa using hx)))]
 case makeSlice t l c => simp only [he l (by simp), he c (by simp)]
 case slice t x lo hi mx =>
  have hx := he x (by simp)
  have hlo : oI e0 lo = oI e lo := oI_local fun y hy => he y (by subst hy; simp)
  have hhi : oI e0 hi = oI e hi := oI_local fun y hy => he y (by subst hy; simp)
  have hsx := hs x (by simp)
  cases mx with
  | none =>
   simp only [hx, hlo, hhi]
   split
   ·split
    ·split <;> try rfl
     rename_i id u hxx _ _
     rw [hxx] at hsx
     simp only [hsx id (by simp [AVal.refs, TV.refs, CV.refs])]
    ·rfl
   ·rfl
  | some mx =>
   cases lo with
   | some lo => rfl
   | none =>
    cases hi with
    | none => rfl
    | some hi => simp only [hx, he hi (by simp), he mx (by simp)]
 case fieldAddr t x k => simp only [he x (by simp)]
 case field t x k => simp only [he x (by simp)]
 case indexAddr t x i =>
  have hsx := hs x (by simp)
  simp only [he x (by simp), he i (by simp)]
  split
  ·split
   ·split
    ·rename_i id hxx
     rw [hxx] at hsx
     simp only [hsx id (by simp [AVal.refs, TV.refs, CV.refs])]
    ·rfl
   ·rfl
  ·rfl
  ·rfl
 case index t x i => simp only [he x (by simp), he i (by simp)]
 case extract x k => simp only [he x (by simp)]
 case call c =>
  obtain ⟨cal, args, tys⟩ := c
  cases cal <;> try rfl
  rename_i b
  simp only [Call.operands] at he hs
  have h1 : args.toList.map (aev e0) = args.toList.map (aev e) := hmapA args (fun x hx => he x (by simpa using hx))
  have h2 : abuiltin L s0 b tys (args.toList.map (aev e)) = abuiltin L s b tys (args.toList.map (aev e)) := abuiltin_local fun x hx => by
   obtain ⟨y, hy, rfl⟩ := List.mem_map.1 hx
   exact hs y (by simpa using hy)
  simp only [h1, h2]
end
end Go.Ab
end

section
namespace Go.Ab
def isPte : AVal → Bool
 | .v (.c (.pte _ _ _ _)) => true
 | _ => false
def hasC (e : Env) (o : Oper) : Bool :=
 match o.op with
 | .binOp op _ _ _ _ => match op with
  | .add | .sub | .mul | .quo | .rem | .shl | .shr => true
  | _ => false
 | .unOp op _ _ => match op with
  | .neg => true
  | _ => false
 | .convert _ _ _ => true
 | .load _ x => isPte (aev e x)
 | .store _ x _ => isPte (aev e x)
 | .slice _ _ _ _ _ => true
 | .indexAddr _ _ _ => true
 | .makeSlice _ _ _ => true
 | .call { callee := .builtin .append, .. } => true
 | _ => false
theorem hasC_ok {L : Lay} {m : Bool} {e : Env} {s : Sto} {o : Oper} {r : SR} (h : hasC e o = false) (hr : aop1 L m e s o = some r) : r.cond := by
 unfold hasC at h
 unfold aop1 at hr
 split at hr
 case h_1 => cases hr; trivial
 case h_2 =>
  split at hr
  ·cases hr; trivial
  ·split at hr
   ·split at hr
    ·cases hr; trivial
    ·cases hr
   ·cases hr
  ·cases hr
 case h_3 => split at hr <;> first | (cases hr; done) | (cases hr; trivial)
 case h_4 => split at hr <;> first | (cases hr; done) | (cases hr; trivial)
 case h_5 => split at hr <;> first | (cases hr; done) | (cases hr; trivial)
 case h_6 =>
  split at hr
  ·split at hr
   ·split at hr <;> first | (cases hr; done) | (cases hr; trivial)
   ·cases hr
  ·split at hr
   ·split at hr <;> first | (cases hr; done) | (cases hr; trivial)
   ·cases hr
  ·cases hr
 case h_7 =>
  split at hr
  ·split at hr
   ·split at hr
    ·split at hr
     ·split at hr
      ·split at hr <;> first | (cases hr; done) | (cases hr; trivial)
      ·cases hr
     ·cases hr
    ·cases hr
   ·cases hr
  ·cases hr
 case h_8 t x hop =>
  rw [hop] at h
  simp only at h
  split at hr
  ·split at hr
   ·rename_i cs c hrd
    split at hr
    ·cases hr
     unfold rd at hrd
     split at hrd
     ·split at hrd
      ·split at hrd <;> first | (cases hrd; done) | (cases hrd; trivial)
      ·cases hrd
     ·split at hrd <;> first | (cases hrd; done) | (cases hrd; trivial)
     ·rename_i hx; rw [hx] at h; simp [isPte] at h
     ·cases hrd
    ·cases hr
   ·cases hr
  ·cases hr
 case h_9 t x y hop =>
  rw [hop] at h
  simp only at h
  split at hr
  ·split at hr
   ·unfold wr at hr
    split at hr
    ·split at hr
     ·split at hr <;> first | (cases hr; done) | (cases hr; trivial)
     ·cases hr
    ·rename_i hx; rw [hx] at h; simp [isPte] at h
    ·cases hr
   ·cases hr
  ·cases hr
 case h_10 => split at hr <;> first | (cases hr; done) | (cases hr; trivial)
 case h_11 op t x y t' hop =>
  rw [hop] at h
  unfold abin at hr
  split at hr
  ·split at hr
   ·simp at h
   ·simp at h
   ·split at hr
    ·split at hr <;> first | (cases hr; done) | (simp at h; done) | (cases hr; trivial)
    ·cases hr
  ·cases hr
 case h_12 op t x hop =>
  rw [hop] at h
  unfold aun at hr
  split at hr
  ·cases hr; trivial
  ·simp at h
  ·cases hr
 case h_13 hop => rw [hop] at h; simp at h
 case h_14 =>
  split at hr
  ·split at hr <;> first | (cases hr; done) | (cases hr; trivial)
  ·cases hr
 case h_15 hop => rw [hop] at h; simp at h
 case h_16 hop => rw [hop] at h; simp at h
 case h_17 =>
  split at hr
  ·split at hr
   ·split at hr
    ·split at hr
     ·cases hr
     ·split at hr
      ·cases hr; trivial
      ·cases hr; trivial
      ·split at hr <;> first | (cases hr; done) | (cases hr; trivial)
      ·cases hr
    ·cases hr
   ·cases hr
  ·cases hr
 case h_18 =>
  split at hr
  ·split at hr
   ·split at hr
    ·split at hr
     ·split at hr <;> first | (cases hr; done) | (cases hr; trivial)
     ·cases hr
    ·cases hr
   ·cases hr
  ·cases hr
 case h_19 hop => rw [hop] at h; simp at h
 case h_20 =>
  split at hr
  ·split at hr
   ·split at hr
    ·split at hr <;> first | (cases hr; done) | (cases hr; trivial)
    ·cases hr
   ·cases hr
  ·cases hr
 case h_21 hop => rw [hop] at h; simp at h
 case h_22 =>
  split at hr
  ·split at hr <;> first | (cases hr; done) | (cases hr; trivial)
  ·cases hr
 case h_23 b args tys hop =>
  rw [hop] at h
  split at hr
  ·rename_i r' d hab
   unfold abuiltin at hab
   split at hab
   ·split at hab
    ·split at hab
     ·split at hab
      ·cases hab; simp only at hr; cases hr; trivial
      ·cases hab
     ·cases hab; simp only at hr; cases hr; trivial
     ·split at hab
      ·cases hab; simp only at hr; cases hr; trivial
      ·cases hab
     ·cases hab
    ·cases hab
   ·cases hab; simp only at hr; cases hr; trivial
   ·cases hab; simp only at hr; cases hr; trivial
   ·simp at h
   ·cases hab
  ·cases hr
 case h_24 => cases hr
inductive Dir where
 | s
 | m
 | w (v : AVal)
 | k (f : Array Oper → Oper → Env → Eff)
def tmpsOf (o : Oper) : List Nat := o.op.operands.toList.filterMap fun | .tmp t => some t | _ => none
def idsOf (e : Env) (o : Oper) : List Nat := o.op.operands.toList.flatMap fun x => (aev e x).refs
def guardTmp (ops : Array Oper) (o : Oper) : List Nat :=
 match o.guard with
 | some (j, _) => ((ops[j]?).bind (·.dst)).toList
 | none => []
def gval (ops : Array Oper) (e : Env) (o : Oper) : Option Bool :=
 match o.guard with
 | none => some true
 | some (j, want) => match (ops[j]?).bind (·.dst) with
  | some d => match e d with
   | .v (.c (.d (.bool b))) => some (b == want)
   | .t [] => some false
   | _ => none
  | none => none
def SR.l (r : SR) (d : Option Tmp) : List (Nat × Option Obj) :=
 (match r.new, d with | some o, some d => [(d, some o)] | _, _ => []) ++ ((match r.upd with | some (k, o) => [(k, some o)] | none => []) ++ r.del.map fun i => (i, none))
def SR.nw (r : SR) (d : Option Tmp) : List Nat := match r.new, d with | some _, some d => [d] | _, _ => []
def effRun (ops : Array Oper) (o : Oper) (e : Env) (r : SR) (v : AVal) : Eff := { rd := tmpsOf o ++ guardTmp ops o, ids := idsOf e o, v := v, l := r.l o.dst, news := r.nw o.dst }
def asideB (o : Oper) : Bool := match o.op with
 | .move _ | .assign _ | .pick _ _ _ | .extract _ _ | .field _ _ _ => true
 | _ => false
def effRunS (ops : Array Oper) (o : Oper) (e : Env) (r : SR) (v : AVal) : Eff := { rd := tmpsOf o ++ guardTmp ops o, ids := if asideB o then [] else idsOf e o, v := v, l := r.l o.dst, news := r.nw o.dst }
def effSkip (ops : Array Oper) (o : Oper) : Eff := { rd := guardTmp ops o, ids := [], v := .t [], l := [], news := [] }
def stepF (L : Lay) (ops : Array Oper) (o : Oper) (d : Dir) (e : Env) (s : Sto) : Eff :=
 match gval ops e o, d with
 | _, .k f => f ops o e
 | some true, .s => match aop1 L false e s o with | some r => effRunS ops o e r r.v | none => default
 | some true, .m => match aop1 L true e s o with | some r => effRunS ops o e r r.v | none => default
 | some true, .w v => match aop1 L false e s o with | some r => effRunS ops o e r v | none => default
 | _, _ => effSkip ops o
def ALe (x y : AVal) : Prop := (∀ w X η C v, ARep w X η C v x → ARep w X η C v y) ∧ ∀ i ∈ y.refs, i ∈ x.refs
def AndC (b : Bool) (c rest : Prop) : Prop := match b with | true => c ∧ rest | false => rest
def stepC (P : Program) (C : Ctx) (nt : Nat) (L : Lay) (ops : Array Oper) (o : Oper) (d : Dir) (e : Env) (s : Sto) (rest : Prop) : Prop :=
 match gval ops e o, d with
 | _, .k f => StT P C nt ops o (f ops o e) e s ∧ rest
 | some true, .s => match aop1 L false e s o with | some r => AndC (hasC e o) r.cond rest | none => False
 | some true, .m => match aop1 L true e s o with | some r => AndC (hasC e o) r.cond rest | none => False
 | some true, .w v => match aop1 L false e s o with | some r => AndC (hasC e o) r.cond (ALe r.v v ∧ rest) | none => False
 | some false, .s => rest
 | _, _ => False
def dstOk (nt : Nat) (o : Oper) : Bool :=
 (match o.dst with | some d => decide (d < nt) | none => true) && (match o.op with | .store _ _ _ => o.dst.isNone | _ => true)
section
variable (P : Program) (C : Ctx) (nt : Nat) (L : Lay) (ops : Array Oper)
def arunF : List Oper → List Dir → Env → Sto → List Eff
 | o :: os, d :: ds, e, s => let f := stepF L ops o d e s; f :: arunF os ds (setE o.dst f.v e) (upS f.l s)
 | _, _, _, _ => []
def arunC : List Oper → List Dir → Env → Sto → Prop
 | o :: os, d :: ds, e, s => stepC P C nt L ops o d e s (arunC os ds (setE o.dst (stepF L ops o d e s).v e) (upS (stepF L ops o d e s).l s))
 | [], [], _, _ => True
 | _, _, _, _ => False
end
theorem sr_sto (r : SR) (d : Option Tmp) (s : Sto) : upS (r.l d) s = r.sto d s := by
 have hdel : ∀ (l : List Nat) (i : Nat), (l.map fun i => (i, (none : Option Obj))).lookup i = if l.contains i then some none else none := by
  intro l i
  induction l with
  | nil => rfl
  | cons x l ih =>
   simp only [List.map_cons, List.lookup_cons, List.contains_cons]
   by_cases hx : i = x
   ·subst hx; simp
   ·have : (i == x) = false := by simpa using hx
    simp only [this, Bool.false_or]; exact ih
 funext i
 unfold upS SR.sto SR.l
 rw [List.lookup_append, List.lookup_append, hdel]
 cases hn : r.new with
 | none =>
  cases hu : r.upd with
  | none => by_cases hc : i ∈ r.del <;> simp [hc]
  | some ko =>
   obtain ⟨k, o⟩ := ko
   by_cases hk : i = k
   ·subst hk; simp
   ·have : (i == k) = false := by simpa using hk
    by_cases hc : i ∈ r.del <;> simp [List.lookup_cons, this, hk, hc]
 | some o =>
  cases d with
  | none =>
   cases hu : r.upd with
   | none => by_cases hc : i ∈ r.del <;> simp [hc]
   | some ko =>
    obtain ⟨k, o⟩ := ko
    by_cases hk : i = k
    ·subst hk; simp
    ·have : (i == k) = false := by simpa using hk
     by_cases hc : i ∈ r.del <;> simp [List.lookup_cons, this, hk, hc]
  | some d =>
   by_cases hd : i = d
   ·subst hd; simp
   ·have hdd : (i == d) = false := by simpa using hd
    cases hu : r.upd with
    | none => by_cases hc : i ∈ r.del <;> simp [List.lookup_cons, hdd, hd, hc]
    | some ko =>
     obtain ⟨k, o⟩ := ko
     by_cases hk : i = k
     ·subst hk; simp [List.lookup_cons, hdd, hd]
     ·have : (i == k) = false := by simpa using hk
      by_cases hc : i ∈ r.del <;> simp [List.lookup_cons, hdd, hd, this, hk, hc]
theorem sr_rng (r : SR) (d : Option Tmp) (R : Nat → Prop) : ∀ i, r.rng d R i → R i ∨ i ∈ r.nw d := by
 intro i hi
 rcases hi with hi | ⟨hn, hd⟩
 ·exact .inl hi
 ·right
  obtain ⟨o, ho⟩ := Option.ne_none_iff_exists'.1 hn
  simp [SR.nw, ho, hd]
section
variable {P : Program} {C : Ctx} {nt : Nat} {L : Lay} {ops : Array Oper}
theorem und_inv {w : World} {X : Nat → Prop} {η : Nat → Value} {C : Ctx} {v : Value} (h : ARep w X η C v (.t [])) : v = .tuple #[] := by
 cases h with | t us _ h _ => exact congrArg Value.tuple (Array.size_eq_zero_iff.1 h)
theorem wanted_of {R : Nat → Prop} {η : Nat → Value} {e e0 : Env} {s : Sto} {a : Act} {w : World} (h : Conc C nt R η e0 s a w) {o : Oper} (hg : ∀ t ∈ guardTmp ops o, e0 t = e t) {b : Bool} (hb : gval ops e o = some b) :
  Region.wanted o (yielded ops a.tmps) = b := by
 unfold gval at hb
 unfold Region.wanted
 split at hb
 ·rename_i hgd; rw [hgd]; cases hb; rfl
 ·rename_i j want hgd
  rw [hgd]
  split at hb
  ·rename_i d hd
   split at hb
   ·rename_i bb hbb
    cases hb
    have he : e0 d = e d := hg d (by simp [guardTmp, hgd, hd])
    have hv := h.ev d
    rw [he, hbb] at hv
    have ev := bool_inv hv
    have hlt : d < a.tmps.size := by
     rcases Nat.lt_or_ge d a.tmps.size with h1 | h1
     ·exact h1
     ·simp [h1, undef] at ev
    have hget : a.tmps[d]? = some (.bool bb) := by
     rw [Array.getElem?_eq_getElem hlt]; simpa [hlt] using ev
    have hy : yielded ops a.tmps j = some bb := by
     unfold yielded; rw [hd]; simp only [Option.bind_some, hget]
    simp only [hy]
    cases bb <;> cases want <;> rfl
   ·rename_i hbb
    cases hb
    have he : e0 d = e d := hg d (by simp [guardTmp, hgd, hd])
    have hv := h.ev d
    rw [he, hbb] at hv
    have ev := und_inv hv
    have hy : yielded ops a.tmps j = none := by
     unfold yielded; rw [hd]; simp only [Option.bind_some]
     rcases Nat.lt_or_ge d a.tmps.size with h1 | h1
     ·rw [Array.getElem?_eq_getElem h1]
      have ev' : a.tmps[d] = .tuple #[] := by simpa [h1, Array.getD] using ev
      rw [ev']
     ·rw [Array.getElem?_eq_none h1]
    simp only [hy]
    cases want <;> rfl
   ·cases hb
  ·cases hb
theorem aop1_aside {e e0 : Env} {s s0 : Sto} (m : Bool) (o : Oper) (he : ∀ x ∈ o.op.operands.toList, aev e0 x = aev e x) (ha : asideB o = true) : aop1 L m e0 s0 o = aop1 L m e s o := by
 unfold asideB at ha
 unfold aop1
 cases ho : o.op <;> simp only [ho, Op.operands] at he ha <;> first | (cases ha; done) | skip
 case move x => simp only [he x (by simp)]
 case assign x => simp only [he x (by simp)]
 case pick c a b => simp only [he c (by simp), he a (by simp), he b (by simp)]
 case field t x k => simp only [he x (by simp)]
 case extract x k => simp only [he x (by simp)]
theorem stT_run (hL : LOk P L) {o : Oper} (hdo : dstOk nt o = true) {m : Bool} {e : Env} {s : Sto} {r : SR} (hr : aop1 L m e s o = some r) (hc : r.cond) (hg : gval ops e o = some true) {v : AVal} (hv : ALe r.v v) :
  StT P C nt ops o (effRunS ops o e r v) e s := by
 intro R η e0 s0 a w hrd hids hfr hconc K Q hK
 have hx : ∀ x ∈ o.op.operands.toList, aev e0 x = aev e x := by
  intro x hx
  cases x with
  | tmp t => exact hrd t (List.mem_append.2 (.inl (List.mem_filterMap.2 ⟨_, hx, rfl⟩)))
  | const v => rfl
  | global g => rfl
  | func f => rfl
 have hr0 : aop1 L m e0 s0 o = some r := by
  rcases Bool.eq_false_or_eq_true (asideB o) with ha | ha
  ·rw [aop1_aside m o hx ha]; exact hr
  ·have hsx : ∀ x ∈ o.op.operands.toList, ∀ i ∈ (aev e x).refs, s0 i = s i := fun x hx i hi => hids i (by
    show i ∈ if asideB o = true then [] else idsOf e o
    rw [ha]; exact List.mem_flatMap.2 ⟨x, hx, hi⟩)
   rw [aop1_local m o hx hsx]; exact hr
 have hd1 : ∀ x, o.dst = some x → x < nt := by
  intro x hx
  simp only [dstOk, hx, Bool.and_eq_true, decide_eq_true_eq] at hdo
  exact hdo.1
 have hd2 : ∀ t x y, o.op = .store t x y → o.dst = none := by
  intro t x y hop
  simp only [dstOk, hop, Bool.and_eq_true] at hdo
  simpa using hdo.2
 have hw := wanted_of (e := e) hconc (fun t ht => hrd t (List.mem_append.2 (.inr ht))) hg
 rw [if_pos hw]
 have hsnd := aop1_ok hL hconc m o hd1 hr0 hc (fun d hd hn => hfr d (by
  obtain ⟨ob, hob⟩ := Option.ne_none_iff_exists'.1 hn
  simp [effRunS, SR.nw, hob, hd])) hd2
 refine hsnd.wp fun η' a' w' hc' => hK η' a' w' ?_
 have hc2 := hc'.wider (sr_rng r o.dst R)
 have hsto : upS (effRunS ops o e r v).l s0 = r.sto o.dst s0 := sr_sto r o.dst s0
 rw [hsto]
 have hn : (effRunS ops o e r v).news = r.nw o.dst := rfl
 rw [hn]
 refine ⟨hc2.ok, hc2.df, hc2.sz, fun t => ?_, fun t i hi => ?_, hc2.st, hc2.sr, hc2.ds, hc2.ow, hc2.fr, hc2.pn⟩
 ·have h1 := hc2.ev t
  unfold setE
  unfold SR.env at h1
  cases hd : o.dst with
  | none => rw [hd] at h1; exact h1
  | some d =>
   rw [hd] at h1
   simp only at h1 ⊢
   by_cases htd : t = d
   ·rw [if_pos htd] at h1 ⊢; exact hv.1 _ _ _ _ _ h1
   ·rw [if_neg htd] at h1 ⊢; exact h1
 ·have h1 := hc2.er t
  unfold setE at hi
  unfold SR.env at h1
  cases hd : o.dst with
  | none => rw [hd] at h1 hi; exact h1 i hi
  | some d =>
   rw [hd] at h1 hi
   simp only at h1 hi
   by_cases htd : t = d
   ·rw [if_pos htd] at h1 hi; exact h1 i (hv.2 i hi)
   ·rw [if_neg htd] at h1 hi; exact h1 i hi
theorem ALe.refl (x : AVal) : ALe x x := ⟨fun _ _ _ _ _ h => h, fun _ h => h⟩
theorem stT_skip {o : Oper} (hdo : dstOk nt o = true) {e : Env} {s : Sto} (hg : gval ops e o = some false) : StT P C nt ops o (effSkip ops o) e s := by
 intro R η e0 s0 a w hrd hids hfr hconc K Q hK
 have hw := wanted_of (e := e) hconc (fun t ht => hrd t ht) hg
 rw [if_neg (by rw [hw]; simp)]
 refine hK η _ w ?_
 have hd1 : ∀ x, o.dst = some x → x < nt := by
  intro x hx
  simp only [dstOk, hx, Bool.and_eq_true, decide_eq_true_eq] at hdo
  exact hdo.1
 have := hconc.val o.dst hd1 (.t []) undef fun _ => ⟨.t #[] [] rfl (fun j hj => absurd hj (Nat.not_lt_zero j)), by simp [AVal.refs]⟩
 have hs : upS (effSkip ops o).l s0 = s0 := by funext i; rfl
 rw [hs]
 have he : setE o.dst (effSkip ops o).v e0 = SR.env { v := .t [] } o.dst e0 := rfl
 rw [he]
 exact this.wider fun i hi => .inl hi
theorem arun_all (hL : LOk P L) : ∀ (os : List Oper) (ds : List Dir) (e : Env) (s : Sto), (os.all (dstOk nt)) = true → arunC P C nt L ops os ds e s → RunAll P C nt ops os (arunF L ops os ds e s) e s := by
 intro os
 induction os with
 | nil =>
  intro ds e s _ h
  cases ds with
  | nil => trivial
  | cons d ds => exact h.elim
 | cons o os ih =>
  intro ds e s hdo h
  cases ds with
  | nil => exact h.elim
  | cons d ds =>
   simp only [List.all_cons, Bool.and_eq_true] at hdo
   simp only [arunC] at h
   simp only [arunF, RunAll]
   have key : StT P C nt ops o (stepF L ops o d e s) e s ∧ arunC P C nt L ops os ds (setE o.dst (stepF L ops o d e s).v e) (upS (stepF L ops o d e s).l s) := by
    generalize hrest : arunC P C nt L ops os ds (setE o.dst (stepF L ops o d e s).v e) (upS (stepF L ops o d e s).l s) = rest at h
    have andC : ∀ {b : Bool} {c rest : Prop}, AndC b c rest → rest := by
     intro b c rest hh; cases b <;> first | exact hh.2 | exact hh
    have andCc : ∀ {m : Bool} {r : SR} {rest : Prop}, aop1 L m e s o = some r → AndC (hasC e o) r.cond rest → r.cond := by
     intro m r rest hr hh
     cases hb : hasC e o with
     | true => rw [hb] at hh; exact hh.1
     | false => exact hasC_ok hb hr
    unfold stepC at h
    unfold stepF
    split at h
    ·exact ⟨by split <;> first | exact h.1 | contradiction | (rename_i h1 h2; cases h2; exact h.1), h.2⟩
    ·rename_i hg
     split at h
     ·rename_i r hr
      simp only [hg]
      exact ⟨stT_run hL hdo.1 hr (andCc hr h) hg (ALe.refl _), andC h⟩
     ·exact h.elim
    ·rename_i hg
     split at h
     ·rename_i r hr
      simp only [hg]
      exact ⟨stT_run hL hdo.1 hr (andCc hr h) hg (ALe.refl _), andC h⟩
     ·exact h.elim
    ·rename_i v hg
     split at h
     ·rename_i r hr
      simp only [hg]
      exact ⟨stT_run hL hdo.1 hr (andCc hr h) hg (andC h).1, (andC h).2⟩
     ·exact h.elim
    ·rename_i hg
     simp only [hg]
     exact ⟨stT_skip hdo.1 hg, h⟩
    ·exact h.elim
   exact ⟨key.1, ih ds _ _ hdo.2 key.2⟩
end
end Go.Ab
end

section
namespace Go.Ab
def lk (E : List (Nat × AVal)) : Env := fun t => (E.lookup t).getD .any
def ls (S : List (Nat × Obj)) : Sto := fun i => S.lookup i
def refsL (E : List (Nat × AVal)) (S : List (Nat × Obj)) : List Nat := E.flatMap (fun p => p.2.refs) ++ S.flatMap fun p => p.1 :: p.2.refs
def OLe (o o' : Obj) : Prop := (∀ w X η C v, ORep w X η C v o → ORep w X η C v o') ∧ o'.ro = o.ro ∧ ∀ i ∈ o'.refs, i ∈ o.refs
theorem OLe.refl (o : Obj) : OLe o o := ⟨fun _ _ _ _ _ h => h, rfl, fun _ h => h⟩
theorem ALe.any (x : AVal) : ALe x .any := ⟨fun _ _ _ _ v _ => .any v, fun _ h => by cases h⟩
theorem ALe.of_eq {x y : AVal} (h : x = y) : ALe x y := h ▸ ALe.refl x
theorem ALe.trans {x y z : AVal} (h : ALe x y) (k : ALe y z) : ALe x z := ⟨fun w X η C v hh => k.1 w X η C v (h.1 w X η C v hh), fun i hi => h.2 i (k.2 i hi)⟩
def CV.ren (ρ : Nat → Nat) : CV → CV
  | .own i => .own (ρ i)
  | .ptr i o => .ptr (ρ i) o
  | .pte i es ix o => .pte (ρ i) es ix o
  | .sub i es lo n => .sub (ρ i) es lo n
  | .clo f ids => .clo f (ids.map ρ)
  | .ap i => .ap (ρ i)
  | x => x
def TV.ren (ρ : Nat → Nat) : TV → TV
  | .c x => .c (x.ren ρ)
  | .g xs => .g (xs.map (CV.ren ρ))
def AVal.ren (ρ : Nat → Nat) : AVal → AVal
  | .any => .any
  | .v x => .v (x.ren ρ)
  | .t xs => .t (xs.map (TV.ren ρ))
def Obj.ren (ρ : Nat → Nat) : Obj → Obj
  | .box ro cs => .box ro (cs.map (CV.ren ρ))
  | o => o
section
variable {w : World} {X : Nat → Prop} {η : Nat → Value} {C : Ctx} {ρ : Nat → Nat}
theorem CRep.unren {v : Value} {x : CV} (h : CRep w X η C v (x.ren ρ)) : CRep w X (fun i => η (ρ i)) C v x := by
  cases x with
  | d x => cases h with | d _ _ h => exact .d _ _ h
  | fl n f => cases h with | fl _ _ _ h => exact .fl _ _ _ h
  | own i => cases h with | own _ _ h h1 => exact .own _ i h h1
  | ptr i o => cases h with | ptr _ _ _ h => exact .ptr _ i o h
  | pte i es ix o => cases h with | pte _ _ _ _ _ _ _ h => exact .pte _ _ _ i es ix o h
  | sub i es lo n => cases h with
    | sub b N cap _ _ _ _ h h1 h2 => exact .sub b N cap i es lo n h h1 h2
    | subN ad ad' _ _ _ h => exact .subN ad ad' _ i es h
  | elm cs => cases h with | elm _ _ _ _ _ _ h1 h2 h3 h4 => exact .elm _ _ _ _ _ _ h1 h2 h3 h4
  | clo f ids => cases h with | clo _ _ _ h => exact .clo f ids _ (by rw [h, List.map_map]; rfl)
  | sem p => cases h with | sem _ _ h h1 => exact .sem _ _ h h1
  | ap i => cases h with | ap _ _ h h1 => exact .ap _ i h h1
theorem CsRep.unren {vs : Array Value} {cs : List CV} (h : CsRep w X η C vs (cs.map (CV.ren ρ))) : CsRep w X (fun i => η (ρ i)) C vs cs := by
  refine ⟨by simpa using h.1, fun j hj => CRep.unren (ρ := ρ) ?_⟩
  have := h.2 j (by simpa using hj)
  rw [List.getD_eq_getElem?_getD, List.getElem?_map, List.getElem?_eq_getElem hj] at this
  rw [List.getD_eq_getElem?_getD, List.getElem?_eq_getElem hj]
  exact this
theorem TRep.unren {v : Value} {x : TV} (h : TRep w X η C v (x.ren ρ)) : TRep w X (fun i => η (ρ i)) C v x := by
  cases x with
  | c x => cases h with | c _ _ h => exact .c _ _ h.unren
  | g xs => cases h with | g _ _ h => exact .g _ _ h.unren
theorem ARep.unren {v : Value} {x : AVal} (h : ARep w X η C v (x.ren ρ)) : ARep w X (fun i => η (ρ i)) C v x := by
  cases x with
  | any => exact .any v
  | v x => cases h with | v _ _ h => exact .v _ _ h.unren
  | t xs =>
    cases h with
    | t us _ h1 h2 =>
      refine .t us xs (by simpa using h1) fun j hj => TRep.unren (ρ := ρ) ?_
      have := h2 j (by simpa using hj)
      rw [List.getD_eq_getElem?_getD, List.getElem?_map, List.getElem?_eq_getElem hj] at this
      rw [List.getD_eq_getElem?_getD, List.getElem?_eq_getElem hj]
      exact this
theorem ORep.unren {v : Value} {o : Obj} (h : ORep w X η C v (o.ren ρ)) : ORep w X (fun i => η (ρ i)) C v o := by
  cases o with
  | box ro cs => cases h with | box b _ c e _ h1 h2 => exact .box b ro c e cs h1 h2.unren
  | arr es n f =>
    cases h with
    | nil ad _ _ => exact .nil ad _ _
    | arr b _ cap _ c e _ h1 h2 h3 h4 h5 h6 h7 => exact .arr b _ cap _ c e _ h1 h2 h3 h4 h5 h6 h7
  | ext p => cases h with | ext _ _ h1 h2 h3 => exact .ext _ _ h1 h2 h3
theorem Obj.ro_ren (o : Obj) : (o.ren ρ).ro = o.ro := by cases o <;> rfl
theorem Conc.conv {nt : Nat} {R R' : Nat → Prop} {e e' : Env} {s s' : Sto} {a : Act} (h : Conc C nt R η e s a w) (ρ : Nat → Nat) (he : ∀ t, ALe (e t) ((e' t).ren ρ)) (hs : ∀ i o', s' i = some o' → ∃ o, s (ρ i) = some o ∧ OLe o (o'.ren ρ))
    (hinj : ∀ i j, s' i ≠ none → s' j ≠ none → ρ i = ρ j → i = j) (hR : ∀ t i, i ∈ (e' t).refs → R' i) (hR2 : ∀ i o', s' i = some o' → R' i ∧ ∀ j ∈ o'.refs, R' j) (hpin : ∀ i, C.pin i ≠ none → ρ i = i ∧ R' i) :
    Conc C nt R' (fun i => η (ρ i)) e' s' a w := by
  have hk : Kept w w (XS C s η) (XS C s' fun i => η (ρ i)) := by
    intro b hb hX
    refine ⟨rfl, fun hX' => hX ?_⟩
    rcases hX' with hx | ⟨i, o', hi, hib⟩
    · exact .inl hx
    · obtain ⟨o, ho, _⟩ := hs i o' hi
      exact .inr ⟨ρ i, o, ho, hib⟩
  refine ⟨h.ok, h.df, h.sz, fun t => ?_, hR, fun i o' hi => ?_, hR2, fun i j b hi hj hbi hbj => ?_, fun i o' b hi hb => ?_, h.fr, fun i v hi => ?_⟩
  · exact ARep.unren (((he t).1 _ _ _ _ _ (h.ev t)).mono hk (fun _ _ => rfl))
  · obtain ⟨o, ho, hle⟩ := hs i o' hi
    exact ORep.unren ((hle.1 _ _ _ _ _ (h.st _ o ho)).mono hk (fun _ _ => rfl) (fun _ _ => rfl))
  · obtain ⟨oi, hoi⟩ := Option.ne_none_iff_exists'.1 hi
    obtain ⟨oj, hoj⟩ := Option.ne_none_iff_exists'.1 hj
    obtain ⟨oi', h1, _⟩ := hs i oi hoi
    obtain ⟨oj', h2, _⟩ := hs j oj hoj
    exact hinj i j hi hj (h.ds _ _ b (by rw [h1]; simp) (by rw [h2]; simp) hbi hbj)
  · obtain ⟨o, ho, hle⟩ := hs i o' hi
    have := h.ow _ o b ho hb
    have hro : o'.ro = o.ro := by rw [← hle.2.1, Obj.ro_ren]
    rw [hro]; exact this
  · have := hpin i (by rw [hi]; simp)
    exact ⟨by show η (ρ i) = v; rw [this.1]; exact (h.pn i v hi).1, this.2⟩
end
def rhoL (l : List (Nat × Nat)) (i : Nat) : Nat := (l.lookup i).getD i
theorem lk_mem {E : List (Nat × AVal)} {t : Nat} : lk E t = .any ∨ (t, lk E t) ∈ E := by
  unfold lk
  cases h : E.lookup t with
  | none => exact .inl rfl
  | some x =>
    right
    obtain ⟨l1, l2, hl, _⟩ := List.lookup_eq_some_iff.1 h
    rw [hl]; simp
theorem ls_mem {S : List (Nat × Obj)} {i : Nat} {o : Obj} (h : ls S i = some o) : (i, o) ∈ S := by
  obtain ⟨l1, l2, hl, _⟩ := List.lookup_eq_some_iff.1 h
  rw [hl]; simp
def nodupB : List Nat → Bool
  | [] => true
  | x :: r => !r.contains x && nodupB r
theorem nodupB_ok {l : List Nat} (h : nodupB l = true) : l.Nodup := by
  induction l with
  | nil => exact List.nodup_nil
  | cons x r ih => simp [nodupB] at h; exact List.nodup_cons.2 ⟨h.1, ih h.2⟩
theorem inj_of {S : List (Nat × Obj)} {ρ : Nat → Nat} (h : (S.map fun p => ρ p.1).Nodup) {i j : Nat} (hi : ls S i ≠ none) (hj : ls S j ≠ none) (hij : ρ i = ρ j) : i = j := by
  obtain ⟨oi, hoi⟩ := Option.ne_none_iff_exists'.1 hi
  obtain ⟨oj, hoj⟩ := Option.ne_none_iff_exists'.1 hj
  have h1 := ls_mem hoi
  have h2 := ls_mem hoj
  rcases Nat.decEq i j with hne | he
  · exfalso
    obtain ⟨l1, l2, rfl⟩ := List.append_of_mem h1
    rw [List.map_append, List.map_cons, List.nodup_append] at h
    rcases List.mem_append.1 h2 with h3 | h3
    · exact h.2.2 _ (List.mem_map_of_mem h3) _ (List.mem_cons_self) hij.symm
    · rcases List.mem_cons.1 h3 with h4 | h4
      · injection h4 with h5; exact hne h5.symm
      · have := (List.nodup_cons.1 h.2.1).1
        exact this (hij ▸ List.mem_map_of_mem (f := fun p : Nat × Obj => ρ p.1) h4)
  · exact he
section
variable {P : Program} {C : Ctx} {nt : Nat}
def Kn (C : Ctx) (nt : Nat) (E : List (Nat × AVal)) (S : List (Nat × Obj)) (K : Act → World → Prop) : Prop :=
  ∀ R η a w, Conc C nt R η (lk E) (ls S) a w → K a w
def AW (P : Program) (C : Ctx) (nt : Nat) (c : Code) (E : List (Nat × AVal)) (S : List (Nat × Obj)) (Q : Exit → Act → World → Prop) : Prop := Kn C nt E S (fun a w => c.wp P Q a w)
def pinsB (C : Ctx) (ρ : Nat → Nat) : Prop := ∀ i, C.pin i ≠ none → ρ i = i
theorem Conc.lit {R : Nat → Prop} {η : Nat → Value} {e : Env} {s : Sto} {a : Act} {w : World} (h : Conc C nt R η e s a w) {E : List (Nat × AVal)} {S : List (Nat × Obj)} {ρ : Nat → Nat} (hpin : pinsB C ρ)
    (hE : ∀ p ∈ E, ALe (e p.1) (p.2.ren ρ)) (hS : ∀ p ∈ S, ∃ o, s (ρ p.1) = some o ∧ OLe o (p.2.ren ρ)) (hinj : (S.map fun p => ρ p.1).Nodup) :
    Conc C nt (fun i => i ∈ refsL E S ∨ C.pin i ≠ none) (fun i => η (ρ i)) (lk E) (ls S) a w := by
  refine h.conv ρ (fun t => ?_) (fun i o' hi => hS _ (ls_mem hi)) (fun i j hi hj hij => inj_of hinj hi hj hij) (fun t i hi => .inl ?_) (fun i o' hi => ⟨.inl ?_, fun j hj => .inl ?_⟩) (fun i hi => ⟨hpin i hi, .inr hi⟩)
  · rcases lk_mem (E := E) (t := t) with h1 | h1
    · rw [h1]; exact ALe.any _
    · exact hE _ h1
  · rcases lk_mem (E := E) (t := t) with h1 | h1
    · rw [h1] at hi; cases hi
    · exact List.mem_append.2 (.inl (List.mem_flatMap.2 ⟨_, h1, hi⟩))
  · exact List.mem_append.2 (.inr (List.mem_flatMap.2 ⟨_, ls_mem hi, List.mem_cons_self⟩))
  · exact List.mem_append.2 (.inr (List.mem_flatMap.2 ⟨_, ls_mem hi, List.mem_cons_of_mem _ hj⟩))
theorem Conc.narrow {R : Nat → Prop} {η : Nat → Value} {E : List (Nat × AVal)} {S : List (Nat × Obj)} {a : Act} {w : World} (h : Conc C nt R η (lk E) (ls S) a w) :
    Conc C nt (fun i => i ∈ refsL E S ∨ C.pin i ≠ none) η (lk E) (ls S) a w := by
  refine ⟨h.ok, h.df, h.sz, h.ev, fun t i hi => .inl ?_, h.st, fun i o hi => ⟨.inl ?_, fun j hj => .inl ?_⟩, h.ds, h.ow, h.fr, fun i v hi => ⟨(h.pn i v hi).1, .inr (by rw [hi]; simp)⟩⟩
  · rcases lk_mem (E := E) (t := t) with h1 | h1
    · rw [h1] at hi; cases hi
    · exact List.mem_append.2 (.inl (List.mem_flatMap.2 ⟨_, h1, hi⟩))
  · exact List.mem_append.2 (.inr (List.mem_flatMap.2 ⟨_, ls_mem hi, List.mem_cons_self⟩))
  · exact List.mem_append.2 (.inr (List.mem_flatMap.2 ⟨_, ls_mem hi, List.mem_cons_of_mem _ hj⟩))
theorem Kn.le {E E' : List (Nat × AVal)} {S S' : List (Nat × Obj)} {K : Act → World → Prop} (ρ : Nat → Nat) (hpin : pinsB C ρ) (hE : ∀ p ∈ E', ALe (lk E p.1) (p.2.ren ρ)) (hS : ∀ p ∈ S', ∃ o, ls S (ρ p.1) = some o ∧ OLe o (p.2.ren ρ)) (hinj : (S'.map fun p => ρ p.1).Nodup)
    (h : Kn C nt E' S' K) : Kn C nt E S K := fun R η a w hc => h _ _ a w (hc.lit hpin hE hS hinj)
theorem forall_of_map {α β : Type} {l : List α} {f g : α → β} (h : l.map f = l.map g) : ∀ x ∈ l, f x = g x := by
  induction l with
  | nil => intro x hx; cases hx
  | cons y r ih =>
    simp only [List.map_cons, List.cons.injEq] at h
    intro x hx
    rcases List.mem_cons.1 hx with rfl | hx
    · exact h.1
    · exact ih h.2 x hx
theorem Kn.to {E E' : List (Nat × AVal)} {S S' : List (Nat × Obj)} {K : Act → World → Prop} (ρ : List (Nat × Nat)) (hpin : pinsB C (rhoL ρ)) (hE : E'.map (fun p => lk E p.1) = E'.map (fun p => p.2.ren (rhoL ρ)))
    (hS : S'.map (fun p => ls S (rhoL ρ p.1)) = S'.map (fun p => some (p.2.ren (rhoL ρ)))) (hinj : nodupB (S'.map fun p => rhoL ρ p.1) = true) (h : Kn C nt E' S' K) : Kn C nt E S K :=
  Kn.le (rhoL ρ) hpin (fun p hp => ALe.of_eq (forall_of_map hE p hp)) (fun p hp => ⟨_, forall_of_map hS p hp, OLe.refl _⟩) (nodupB_ok hinj) h
theorem CV.ren_id (x : CV) : x.ren (fun i => i) = x := by cases x <;> simp [CV.ren]
theorem TV.ren_id (x : TV) : x.ren (fun i => i) = x := by
  cases x with
  | c x => simp [TV.ren, CV.ren_id]
  | g xs => simp only [TV.ren]; congr 1; conv => rhs; rw [← List.map_id xs]
            exact List.map_congr_left fun y _ => CV.ren_id y
theorem AVal.ren_id (x : AVal) : x.ren (fun i => i) = x := by
  cases x with
  | any => rfl
  | v x => simp [AVal.ren, TV.ren_id]
  | t xs => simp only [AVal.ren]; congr 1; conv => rhs; rw [← List.map_id xs]
            exact List.map_congr_left fun y _ => TV.ren_id y
theorem Obj.ren_id (o : Obj) : o.ren (fun i => i) = o := by
  cases o with
  | box ro cs => simp only [Obj.ren]; congr 1; conv => rhs; rw [← List.map_id cs]
                 exact List.map_congr_left fun y _ => CV.ren_id y
  | arr es n f => rfl
  | ext p => rfl
theorem Kn.obj {E : List (Nat × AVal)} {S : List (Nat × Obj)} {K : Act → World → Prop} {k : Nat} {o o' : Obj} (hle : OLe o o') (h : Kn C nt E ((k, o') :: S) K) : Kn C nt E ((k, o) :: S) K := by
  intro R η a w hc
  refine h R (fun i => η i) a w (hc.conv (fun i => i) (fun t => by rw [AVal.ren_id]; exact ALe.refl _) (fun i x hi => ?_) (fun i j hi hj hij => hij) hc.er (fun i x hi => ?_) (fun i hi => ?_))
  · rw [Obj.ren_id]
    unfold ls at hi ⊢
    rw [List.lookup_cons] at hi ⊢
    cases hik : i == k with
    | true => rw [hik] at hi; cases hi; exact ⟨o, rfl, hle⟩
    | false => rw [hik] at hi; exact ⟨x, hi, OLe.refl _⟩
  · unfold ls at hi
    rw [List.lookup_cons] at hi
    cases hik : i == k with
    | true =>
      rw [hik] at hi; cases hi
      have := hc.sr i o (by unfold ls; rw [List.lookup_cons, hik])
      exact ⟨this.1, fun j hj => this.2 j (hle.2.2 j hj)⟩
    | false => rw [hik] at hi; exact hc.sr i x (by unfold ls; rw [List.lookup_cons, hik]; exact hi)
  · obtain ⟨v, hv⟩ := Option.ne_none_iff_exists'.1 hi
    exact ⟨rfl, (hc.pn i v hv).2⟩
theorem Kn.env {E : List (Nat × AVal)} {S : List (Nat × Obj)} {K : Act → World → Prop} {t : Nat} {x y : AVal} (hle : ALe x y) (h : Kn C nt ((t, y) :: E) S K) : Kn C nt ((t, x) :: E) S K := by
  intro R η a w hc
  have key : ∀ u, ALe (lk ((t, x) :: E) u) (lk ((t, y) :: E) u) := by
    intro u
    unfold lk
    rw [List.lookup_cons, List.lookup_cons]
    cases hut : u == t with
    | true => exact hle
    | false => exact ALe.refl _
  refine h R (fun i => η i) a w (hc.conv (fun i => i) (fun u => by rw [AVal.ren_id]; exact key u) (fun i x hi => ⟨x, hi, by rw [Obj.ren_id]; exact OLe.refl _⟩) (fun i j hi hj hij => hij) (fun u i hi => hc.er u i ((key u).2 i hi)) hc.sr (fun i hi => ?_))
  obtain ⟨v, hv⟩ := Option.ne_none_iff_exists'.1 hi
  exact ⟨rfl, (hc.pn i v hv).2⟩
structure Fr (P : Program) (L : Lay) (C : Ctx) (pins : List Nat) : Prop where
  mixed : P.follows .mixedOrders = true
  lay : LOk P L
  pin : ∀ i, C.pin i ≠ none → i ∈ pins
def chkB (L : Lay) (pins : List Nat) (nt : Nat) (ops : Array Oper) (draw : Bool) (ds : List Dir) (E : List (Nat × AVal)) (S : List (Nat × Obj)) (ρ : List (Nat × Nat)) (S' : List (Nat × Obj)) : Bool :=
  let F := arunF L ops ops.toList ds (lk E) (ls S)
  ops.toList.all (dstOk nt) && nodupB (newsOf F) && (newsOf F).all (fun n => !(refsL E S).contains n && !pins.contains n) && (!draw || commB ops.toList F) && nodupB (S'.map fun p => rhoL ρ p.1) && pins.all fun i => rhoL ρ i == i
theorem AW.region {L : Lay} {pins : List Nat} (Fm : Fr P L C pins) {id : Nat} {ops : Array Oper} {draw : Bool} {E E' : List (Nat × AVal)} {S S' : List (Nat × Obj)} {Q : Exit → Act → World → Prop} (ds : List Dir) (ρ : List (Nat × Nat))
    (hchk : chkB L pins nt ops draw ds E S ρ S' = true) (hC : arunC P C nt L ops ops.toList ds (lk E) (ls S))
    (he0 : E'.map (fun p => endE ops.toList (arunF L ops ops.toList ds (lk E) (ls S)) (lk E) p.1) = E'.map (fun p => p.2.ren (rhoL ρ)))
    (hs0 : S'.map (fun p => endS (arunF L ops ops.toList ds (lk E) (ls S)) (ls S) (rhoL ρ p.1)) = S'.map (fun p => some (p.2.ren (rhoL ρ))))
    (k : Kn C nt E' S' (Q .normal)) : AW P C nt (.region id ops draw) E S Q := by
  simp only [chkB, Bool.and_eq_true] at hchk
  obtain ⟨⟨⟨⟨⟨c1, c2⟩, c3⟩, c4⟩, c5⟩, c6⟩ := hchk
  have hrun := arun_all (P := P) (C := C) (nt := nt) (L := L) (ops := ops) Fm.lay ops.toList ds (lk E) (ls S) c1 hC
  generalize hF : arunF L ops ops.toList ds (lk E) (ls S) = F at *
  have hpin : pinsB C (rhoL ρ) := fun i hi => by
    have := List.all_eq_true.1 c6 i (Fm.pin i hi)
    simpa using this
  have hnd := nodupB_ok c2
  intro R η a w hc
  have hcn := hc.narrow
  have hfr : ∀ n ∈ newsOf F, ¬ (n ∈ refsL E S ∨ C.pin n ≠ none) := by
    intro n hn hx
    have := List.all_eq_true.1 c3 n hn
    simp at this
    rcases hx with hx | hx
    · exact this.1 hx
    · exact this.2 (Fm.pin n hx)
  have fin : ∀ η' a' w', Conc C nt (fun i => (i ∈ refsL E S ∨ C.pin i ≠ none) ∨ i ∈ newsOf F) η' (endE ops.toList F (lk E)) (endS F (ls S)) a' w' → Q .normal a' w' := fun η' a' w' hc' =>
    k _ _ a' w' (hc'.lit hpin (fun p hp => ALe.of_eq (forall_of_map he0 p hp)) (fun p hp => ⟨_, forall_of_map hs0 p hp, OLe.refl _⟩) (nodupB_ok c5))
  cases draw with
  | false => exact wp_region_list (runAll_seq ops.toList F _ η _ _ a w hrun hnd hfr hcn fin)
  | true =>
    have hcm : commB ops.toList F = true := by simpa using c4
    obtain ⟨g1, g2, g3⟩ := commGo_spec ops.toList F ops.toList F [] [] hcm rfl rfl rfl (fun k i hk => by simp at hk)
    have hat := runAll_at (P := P) (C := C) (nt := nt) (ops := ops) ops.toList F ops.toList F 0 (lk E) (ls S) (fun j => by rw [Nat.zero_add]) (fun j _ => by rw [Nat.zero_add]) g3 hrun
    obtain ⟨h1, h2, h3⟩ := hat
    simp only [Nat.zero_add, List.range_zero, List.reverse_nil] at h1 h2 h3
    refine wp_region_any Fm.mixed (anyorder (R := fun i => i ∈ refsL E S ∨ C.pin i ≠ none) (e0 := lk E) (s0 := ls S) g3 (fun j o e => g1 j o e (Nat.zero_le _)) (fun i j oi oj fi fj hij => g2 i j oi oj fi fj hij (Nat.zero_le _)) h1 hnd hfr (fun η' a' w' hc' => fin η' a' w' ?_)
      ops.size (Array.replicate ops.size false) [] η a _ (by simp) (fun i hi => by simp [hi]) (by simp) ⟨List.nodup_nil, fun l1 k l2 hh => by simp at hh⟩ (by simp) ?_)
    · have e2 : endE ops.toList F (lk E) = hE ops.toList F (lk E) (List.range ops.size).reverse := by rw [Array.length_toList] at h2; exact h2
      have e3 : endS F (ls S) = hS F (ls S) (List.range ops.size).reverse := by rw [Array.length_toList] at h3; exact h3
      rw [e2, e3]; exact hc'
    · exact hcn.drew.wider fun i hi => .inl hi
end
end Go.Ab
end

section
namespace Go.Ab
section
variable {P : Program} {C : Ctx} {nt : Nat} {L : Lay} {pins : List Nat} {E : List (Nat × AVal)} {S : List (Nat × Obj)} {Q : Exit → Act → World → Prop}
theorem AW.seq {x y : Code} (h : AW P C nt x E S (Exit.then (y.wp P Q) Q)) : AW P C nt (.seq x y) E S Q := fun R η a w hc => wp_seq (h R η a w hc)
theorem AW.skip (h : Kn C nt E S (Q .normal)) : AW P C nt .skip E S Q := fun R η a w hc => wp_skip (h R η a w hc)
theorem AW.ret (h : Kn C nt E S (Q .ret)) : AW P C nt .ret E S Q := fun R η a w hc => wp_ret (h R η a w hc)
theorem AW.exit {id : Nat} (h : Kn C nt E S (Q (.exit id))) : AW P C nt (.exit id) E S Q := fun R η a w hc => wp_exit (h R η a w hc)
theorem AW.block {id : Nat} {c : Code} (h : AW P C nt c E S (Exit.inBlock id Q)) : AW P C nt (.block id c) E S Q := fun R η a w hc => wp_block (h R η a w hc)
theorem AW.cond {t : Nat} {x y : Code} {b : Bool} (hb : lk E t = vb b) (ht : b = true → AW P C nt x E S Q) (hf : b = false → AW P C nt y E S Q) : AW P C nt (.cond (.tmp t) x y) E S Q := by
 intro R η a w hc
 have hv := hc.ev t
 rw [hb] at hv
 have ev : a.eval (.tmp t) = .bool b := bool_inv hv
 cases b with
 | true => exact wp_cond_true ev (ht rfl R η a w hc)
 | false => exact wp_cond_false ev (hf rfl R η a w hc)
theorem AW.mono {c : Code} {Q' : Exit → Act → World → Prop} (h : AW P C nt c E S Q') (hq : ∀ e a w, Q' e a w → Q e a w) : AW P C nt c E S Q := fun R η a w hc => wp_mono (h R η a w hc) hq
def Ex {σ : Type} (C : Ctx) (nt : Nat) (I : σ → Prop) (E : σ → List (Nat × AVal)) (S : σ → List (Nat × Obj)) (a : Act) (w : World) : Prop := ∃ z, I z ∧ ∃ R η, Conc C nt R η (lk (E z)) (ls (S z)) a w
theorem Kn.ex {σ : Type} {I : σ → Prop} {E' : σ → List (Nat × AVal)} {S' : σ → List (Nat × Obj)} (z : σ) (hz : I z) : Kn C nt (E' z) (S' z) (Ex C nt I E' S') := fun R η _ _ hc => ⟨z, hz, R, η, hc⟩
theorem AW.loop {σ : Type} {c : Code} (I : σ → Prop) (μ : σ → Nat) (E' : σ → List (Nat × AVal)) (S' : σ → List (Nat × Obj)) (round : ∀ z, I z → AW P C nt c (E' z) (S' z) (Exit.then (Ex C nt (fun z' => I z' ∧ μ z' < μ z) E' S') Q)) (z0 : σ) (h0 : I z0) :
  AW P C nt (.loop c) (E' z0) (S' z0) Q := by
 classical
 intro R η a w hc
 let J : Act → World → Nat → Prop := fun a w n => ∃ z, I z ∧ μ z = n ∧ ∃ R η, Conc C nt R η (lk (E' z)) (ls (S' z)) a w
 let m : Act → World → Nat := fun a w => if h : ∃ n, J a w n then h.choose else 0
 have hwf : ∀ (n : Nat) a w, J a w n → ∃ k, J a w k ∧ ∀ j, J a w j → k ≤ j := by
  intro n
  induction n using Nat.strongRecOn with
  | _ n ih =>
   intro a w hn
   rcases Classical.em (∃ j, j < n ∧ J a w j) with ⟨j, hj, hJ⟩ | hno
   ·exact ih j hj a w hJ
   ·exact ⟨n, hn, fun j hj => Nat.le_of_not_lt fun hlt => hno ⟨j, hlt, hj⟩⟩
 let μ' : Act → World → Nat := fun a w => if h : ∃ n, J a w n then (hwf h.choose a w h.choose_spec).choose else 0
 have hμ : ∀ a w, (∃ n, J a w n) → J a w (μ' a w) ∧ ∀ j, J a w j → μ' a w ≤ j := by
  intro a w hh
  have : μ' a w = (hwf hh.choose a w hh.choose_spec).choose := by simp only [μ', hh, dite_true]
  rw [this]
  exact (hwf hh.choose a w hh.choose_spec).choose_spec
 refine wp_loop (fun a w => ∃ n, J a w n) μ' ⟨_, z0, h0, rfl, R, η, hc⟩ fun a w hh => ?_
 obtain ⟨⟨z, hz, hzm, R', η', hc'⟩, _⟩ := hμ a w hh
 refine Code.wp_mono (fun e a2 w2 hq => ?_) (round z hz R' η' a w hc')
 cases e with
 | normal =>
  obtain ⟨z', ⟨hz', hlt⟩, R2, η2, hc2⟩ := hq
  have hJ : J a2 w2 (μ z') := ⟨z', hz', rfl, R2, η2, hc2⟩
  exact ⟨⟨_, hJ⟩, Nat.lt_of_le_of_lt ((hμ a2 w2 ⟨_, hJ⟩).2 _ hJ) (by rw [← hzm]; exact hlt)⟩
 | _ => exact hq
def resV (L : Lay) (e : Env) (s : Sto) : ResultVar → Option TV
 | .tmp t => match e t with
  | .v x => some x
  | _ => none
 | .cell a t => match L t with
  | some ti => match rd s ti.size (e a) with
   | some (cs, _) => if isPte (e a) then none else match mkT ti.kind.agg cs with
    | some (.v x) => some x
    | _ => none
   | none => none
  | none => none
def resVs (L : Lay) (e : Env) (s : Sto) : List ResultVar → Option (List TV)
 | [] => some []
 | r :: rs => match resV L e s r, resVs L e s rs with
  | some x, some xs => some (x :: xs)
  | _, _ => none
def resA (L : Lay) (e : Env) (s : Sto) (rs : List ResultVar) : Option AVal :=
 match rs, resVs L e s rs with
 | [_], some [x] => some (.v x)
 | [_], _ => none
 | _, some xs => some (.t xs)
 | _, none => none
def rvSem (tmps : Array Value) : ResultVar → Sem Value
 | .tmp t => pure (tmps.getD t undef)
 | .cell a t => do loadVar t (← asAddr (tmps.getD a undef))
theorem resV_ok (hL : LOk P L) {R : Nat → Prop} {η : Nat → Value} {e : Env} {s : Sto} {a : Act} {w : World} (h : Conc C nt R η e s a w) {r : ResultVar} {x : TV} (hr : resV L e s r = some x) :
  ∃ v, (rvSem a.tmps r).run P w = .ok v w ∧ TRep w (XS C s η) η C v x := by
 cases r with
 | tmp t =>
  simp only [resV] at hr
  split at hr
  ·rename_i y hy
   cases hr
   have := h.ev t
   rw [hy] at this
   refine ⟨a.tmps.getD t undef, rfl, ?_⟩
   generalize a.tmps.getD t undef = u at this
   cases this with
   | v _ _ hv => exact hv
  ·cases hr
 | cell a' t =>
  simp only [resV] at hr
  split at hr
  ·rename_i ti ht
   split at hr
   ·rename_i cs c hrd
    split at hr
    ·cases hr
    ·rename_i hnp
     split at hr
     ·rename_i y hy
      cases hr
      have hc : c := by
       unfold rd at hrd
       split at hrd
       ·split at hrd
        ·split at hrd <;> first | (cases hrd; done) | (cases hrd; trivial)
        ·cases hrd
       ·split at hrd <;> first | (cases hrd; done) | (cases hrd; trivial)
       ·rename_i hx; rw [hx] at hnp; simp [isPte] at hnp
       ·cases hrd
      obtain ⟨i, d, z, hti⟩ := hL t ti ht
      obtain ⟨b, off, c', e', fz, ex, hb, ho, hl, hcs, hrf⟩ := rd_ok h hrd hc (h.ev a')
      have h1 : ti.kind.agg = false → ti.size = 1 := by
       intro ha
       rw [ha] at hy
       simp only [mkT] at hy
       split at hy
       ·rw [← hl]; rfl
       ·cases hy
      have hrun := run_loadVar (P := P) hti hb ho h1
      refine ⟨if ti.kind.agg then .agg (vals c' off ti.size).toArray else c'.getD off undef, ?_, ?_⟩
      ·simp only [rvSem, Sem.run_bind, ex, asAddr, Sem.run_pure, Result.andThen_ok, hrun]
      ·unfold mkT at hy
       split at hy
       ·rename_i ha
        cases hy
        simp only [ha, if_true]
        refine .g _ _ ⟨by simp [vals, hl], fun j hj => ?_⟩
        rw [hl] at hj
        have : (vals c' off ti.size).toArray.getD j undef = c'.getD (off + j) undef := by simp [vals, hj]
        rw [this]; exact hcs j hj
       ·rename_i ha
        split at hy
        ·cases hy
         simp only [ha, Bool.false_eq_true, if_false]
         have := hcs 0 (by rw [h1 ha]; exact Nat.zero_lt_one)
         exact .c _ _ (by simpa using this)
        ·cases hy
     ·cases hr
   ·cases hr
  ·cases hr
theorem resVs_ok (hL : LOk P L) {R : Nat → Prop} {η : Nat → Value} {e : Env} {s : Sto} {a : Act} {w : World} (h : Conc C nt R η e s a w) : ∀ (rs : List ResultVar) (xs : List TV), resVs L e s rs = some xs →
  ∃ vs : List Value, (rs.mapM (rvSem a.tmps)).run P w = .ok vs w ∧ vs.length = xs.length ∧ ∀ j, j < xs.length → TRep w (XS C s η) η C (vs.getD j undef) (xs.getD j (.c (.d .any))) := by
 intro rs
 induction rs with
 | nil => intro xs hr; cases hr; exact ⟨[], by simp, rfl, fun j hj => by simp at hj⟩
 | cons r rs ih =>
  intro xs hr
  simp only [resVs] at hr
  split at hr
  ·rename_i x xs' hx hxs
   cases hr
   obtain ⟨v, g1, g2⟩ := resV_ok hL h hx
   obtain ⟨vs, g3, g4, g5⟩ := ih xs' hxs
   refine ⟨v :: vs, ?_, by simp [g4], fun j hj => ?_⟩
   ·simp only [List.mapM_cons, Sem.run_bind, g1, g3, Result.andThen_ok, Sem.run_pure]
   ·cases j with
    | zero => exact g2
    | succ j => exact g5 j (by simpa using hj)
  ·cases hr
theorem resA_ok (hL : LOk P L) {R : Nat → Prop} {η : Nat → Value} {e : Env} {s : Sto} {a : Act} {w : World} (h : Conc C nt R η e s a w) {fn : Func} {x : AVal} (hr : resA L e s fn.results.toList = some x) :
  ∃ v, (results fn a.tmps).run P w = .ok v w ∧ ARep w (XS C s η) η C v x := by
 have hrun : ∀ xs, resVs L e s fn.results.toList = some xs → ∃ vs : List Value, (results fn a.tmps).run P w = .ok (if h : vs.toArray.size = 1 then vs.toArray[0] else .tuple vs.toArray) w ∧ vs.length = xs.length ∧ ∀ j, j < xs.length → TRep w (XS C s η) η C (vs.getD j undef) (xs.getD j (.c (.d .any))) := by
  intro xs hxs
  obtain ⟨vs, g1, g2, g3⟩ := resVs_ok hL h _ _ hxs
  refine ⟨vs, ?_, g2, g3⟩
  have hdef : results fn a.tmps = (do let vs ← fn.results.mapM (rvSem a.tmps); pure (if h : vs.size = 1 then vs[0] else .tuple vs)) := by
   unfold results
   congr 1
  rw [hdef]
  simp only [Sem.run_bind, Array.mapM_eq_mapM_toList, Sem.run_map, g1, Result.andThen_ok, Sem.run_pure]
 unfold resA at hr
 split at hr
 ·rename_i r x' hrs hxs
  cases hr
  obtain ⟨vs, g1, g2, g3⟩ := hrun _ hxs
  refine ⟨vs.getD 0 undef, ?_, .v _ _ (g3 0 (by simp))⟩
  rw [g1]
  cases vs with
  | nil => simp at g2
  | cons v r => cases r with
   | nil => rfl
   | cons _ _ => simp at g2
 ·cases hr
 ·skip
  rename_i xs hxs _ hne
  cases hr
  obtain ⟨vs, g1, g2, g3⟩ := hrun _ hxs
  refine ⟨.tuple vs.toArray, ?_, .t _ _ (by simpa using g2) (fun j hj => by simpa [List.getD_eq_getElem?_getD] using g3 j hj)⟩
  rw [g1]
  have hlen : ∀ (rs : List ResultVar) (xs : List TV), resVs L e s rs = some xs → rs.length = xs.length := by
   intro rs
   induction rs with
   | nil => intro xs h; cases h; rfl
   | cons r rs ih =>
    intro xs h
    simp only [resVs] at h
    split at h
    ·rename_i x1 x2 e1 e2; cases h; simp [ih _ e2]
    ·cases h
  have hs : ¬ vs.toArray.size = 1 := by
   intro hh
   have h1 : vs.length = 1 := by simpa using hh
   have := hlen _ _ hxs
   rw [← g2, h1] at this
   obtain ⟨r, hr⟩ := List.length_eq_one_iff.1 this
   exact hne r hr
  rw [dif_neg hs]
 ·cases hr
end
end Go.Ab
end

section
namespace Go.Ab
def callCtx (S : List (Nat × Obj)) (w : World) (X : Nat → Prop) (η : Nat → Value) : Ctx where
 w0 := w
 D := Own (ls S) η
 M := fun b => ∃ i o, ls S i = some o ∧ o.ro = false ∧ b ∈ blks (η i)
 X := X
 pin := fun i => if (S.lookup i).isSome then some (η i) else none
structure Behind (C : Ctx) (r : AVal) (S' : List (Nat × Obj)) (v : Value) (η' : Nat → Value) (w' : World) : Prop where
 stp : Stp C.M C.w0 w'
 res : ARep w' (XS C (ls S') η') η' C v r
 objs : ∀ i o, ls S' i = some o → ORep w' (XS C (ls S') η') η' C (η' i) o
 ds : ∀ i j b, ls S' i ≠ none → ls S' j ≠ none → b ∈ blks (η' i) → b ∈ blks (η' j) → i = j
 ow : ∀ i o b, ls S' i = some o → b ∈ blks (η' i) → (o.ro = true ∧ C.D b) ∨ C.M b ∨ C.w0.heap.size ≤ b
 pn : ∀ i v, C.pin i = some v → η' i = v
def FSpec (P : Program) (f : Nat) (args : List AVal) (S : List (Nat × Obj)) (r : AVal) (S' : List (Nat × Obj)) : Prop :=
 ∀ (w : World) (X : Nat → Prop) (η : Nat → Value) (vs : Array Value), (∀ b, X b → b < w.heap.size) → (∀ b, Own (ls S) η b → X b) →
  (∀ i o, ls S i = some o → ORep w X η (callCtx S w X η) (η i) o) → (∀ i j b, ls S i ≠ none → ls S j ≠ none → b ∈ blks (η i) → b ∈ blks (η j) → i = j) →
  vs.size = args.length → (∀ j, j < args.length → ARep w X η (callCtx S w X η) (vs.getD j undef) (args.getD j .any)) →
  Calls P f vs w fun e w' => ∃ v η', e = .returned v ∧ Behind (callCtx S w X η) r S' v η' w'
def argsE (args : List AVal) : List (Nat × AVal) := args.zipIdx.map fun p => (p.2, p.1)
def retQ (P : Program) (fn : Func) (C : Ctx) (r : AVal) (S' : List (Nat × Obj)) : Exit → Act → World → Prop :=
 bodyPost P fn fun e w' => ∃ v η', e = .returned v ∧ Behind C r S' v η' w'
section
variable {P : Program} {L : Lay}
theorem own_ext {S : List (Nat × Obj)} {X : Nat → Prop} {η : Nat → Value} {w : World} (h : ∀ b, Own (ls S) η b → X b) : XS (callCtx S w X η) (ls S) η = X := by
 funext b
 apply propext
 constructor
 ·rintro (⟨hx, _⟩ | hx)
  ·exact hx
  ·exact h b hx
 ·intro hx
  rcases Classical.em (Own (ls S) η b) with ho | ho
  ·exact .inr ho
  ·exact .inl ⟨hx, ho⟩
theorem argsE_lk (args : List AVal) (t : Nat) : lk (argsE args) t = args.getD t .any := by
 unfold lk argsE
 have key : ∀ (l : List AVal) (k t : Nat), (((l.zipIdx k).map fun p => (p.2, p.1)).lookup t).getD .any = if t < k then .any else l.getD (t - k) .any := by
  intro l
  induction l with
  | nil => intro k t; simp
  | cons x l ih =>
   intro k t
   simp only [List.zipIdx_cons, List.map_cons, List.lookup_cons]
   by_cases ht : t = k
   ·subst ht; simp
   ·have : (t == k) = false := by simpa using ht
    simp only [this]
    rw [ih (k + 1) t]
    by_cases h1 : t < k
    ·rw [if_pos (by omega), if_pos h1]
    ·rw [if_neg (by omega), if_neg h1]
     have : t - k = (t - (k + 1)) + 1 := by omega
     rw [this]; simp
 have := key args 0 t
 simpa using this
theorem FSpec.intro (hm : P.follows .mixedOrders = true) (hL : LOk P L) {f : Nat} {fn : Func} {c : Code} (hf : P.funcs[f]? = some fn) (hb : fn.body = some c) {args : List AVal} {S : List (Nat × Obj)} {r : AVal} {S' : List (Nat × Obj)} (hn0 : Nat.ble args.length fn.ntmps = true)
  (h : ∀ C, Fr P L C (S.map (·.1)) → AW P C fn.ntmps c (argsE args) S (retQ P fn C r S')) : FSpec P f args S r S' := by
 have hn : args.length ≤ fn.ntmps := Nat.le_of_ble_eq_true hn0
 intro w X η vs hX hown hobj hdist hsz hargs
 have hC : (callCtx S w X η).Ok := ⟨fun b ⟨i, o, h1, _, h2⟩ => ⟨i, o, h1, h2⟩, fun b hb => hown b hb, hX⟩
 refine calls_of_wp hf hb (h (callCtx S w X η) ⟨hm, hL, fun i hi => ?_⟩ (fun _ => True) η _ w ⟨hC, rfl, ?_, fun t => ?_, fun _ _ _ => trivial, fun i o hi => ?_, fun _ _ _ => ⟨trivial, fun _ _ => trivial⟩, hdist, fun i o b hi hbi => ?_, Stp.refl _ _, fun i v hi => ⟨?_, trivial⟩⟩)
 ·simp only [callCtx] at hi
  split at hi
  ·rename_i hs
   obtain ⟨o, ho⟩ := Option.isSome_iff_exists.1 hs
   obtain ⟨l1, l2, hl, _⟩ := List.lookup_eq_some_iff.1 ho
   rw [hl]; simp
  ·exact absurd rfl hi
 ·simp; omega
 ·rw [own_ext hown, argsE_lk]
  by_cases ht : t < args.length
  ·have e1 : (vs ++ Array.replicate (fn.ntmps - vs.size) undef).getD t undef = vs.getD t undef := by
    have : t < vs.size := by omega
    simp [this, Array.getElem?_append, Array.getD_eq_getD_getElem?]
   simp only [e1]
   exact hargs t ht
  ·rw [List.getD_eq_getElem?_getD, List.getElem?_eq_none (by omega)]
   exact .any _
 ·rw [own_ext hown]; exact hobj i o hi
 ·cases hro : o.ro with
  | true => exact .inl ⟨rfl, ⟨i, o, hi, hbi⟩⟩
  | false => exact .inr (.inl ⟨i, o, hi, hro, hbi⟩)
 ·simp only [callCtx] at hi
  split at hi
  ·cases hi; rfl
  ·cases hi
theorem Kn.done {C : Ctx} {nt : Nat} {pins : List Nat} (Fm : Fr P L C pins) {fn : Func} {E : List (Nat × AVal)} {S : List (Nat × Obj)} {r : AVal} {S' : List (Nat × Obj)} (hr : resA L (lk E) (ls S) fn.results.toList = some r)
  (hS : S'.map (fun p => ls S p.1) = S'.map (fun p => some p.2)) : Kn C nt E S (retQ P fn C r S' .ret) := by
 intro R η a w hc
 obtain ⟨v, h1, h2⟩ := resA_ok (P := P) Fm.lay hc hr
 have hsub : ∀ i o, ls S' i = some o → ls S i = some o := fun i o hi => forall_of_map hS (i, o) (ls_mem hi)
 have hk : Kept w w (XS C (ls S) η) (XS C (ls S') η) := by
  intro b hb hX
  refine ⟨rfl, fun hX' => hX ?_⟩
  rcases hX' with hx | ⟨i, o, hi, hib⟩
  ·exact .inl hx
  ·exact .inr ⟨i, o, hsub i o hi, hib⟩
 have hne : ∀ i, ls S' i ≠ none → ls S i ≠ none := by
  intro i hi
  obtain ⟨o, ho⟩ := Option.ne_none_iff_exists'.1 hi
  rw [hsub i o ho]; simp
 exact ⟨hc.df, v, h1, v, η, rfl, hc.fr, h2.mono hk (fun _ _ => rfl), fun i o hi => (hc.st i o (hsub i o hi)).mono hk (fun _ _ => rfl) (fun _ _ => rfl),
  fun i j b hi hj => hc.ds i j b (hne i hi) (hne j hj), fun i o b hi => hc.ow i o b (hsub i o hi), fun i v hi => (hc.pn i v hi).1⟩
end
end Go.Ab
end

section
namespace Go.Ab
def zeroCV : Value → CV
 | .int k n => .d (.int k n)
 | .bool b => .d (.bool b)
 | .string s => .d (.str s)
 | .slice none 0 0 => .fl 0 fun _ => []
 | _ => .d .any
def kindOf : TypeDesc → TK
 | .int k => .int k
 | .bool => .bool
 | .string => .str
 | .slice e => .slice e
 | .struct fs => .struct (fs.toList.map fun f => (f.offset, f.type))
 | .array n e => .array n e
 | _ => .other
def layOf (P : Program) (t : Nat) : Option TI :=
 match P.info? t, P.underlying t with
 | some i, some d => match i.zero with
  | some z => if z.cells.toList.all Value.oneCell' then some ⟨kindOf d, i.size, i.bytes, z.cells.toList.map zeroCV⟩ else none
  | none => none
 | _, _ => none
theorem zeroCV_ok {w : World} {X : Nat → Prop} {η : Nat → Value} {C : Ctx} {v : Value} (h : v.oneCell' = true) : CRep w X η C v (zeroCV v) ∧ (zeroCV v).refs = [] := by
 unfold zeroCV
 split
 ·exact ⟨.d _ _ (.int _ _), rfl⟩
 ·exact ⟨.d _ _ (.bool _), rfl⟩
 ·exact ⟨.d _ _ (.str _), rfl⟩
 ·exact ⟨.fl _ _ _ (.nil _ _ _), rfl⟩
 ·exact ⟨.d _ _ (.any _ h), rfl⟩
theorem layOf_ok (P : Program) : LOk P (layOf P) := by
 intro t ti h
 unfold layOf at h
 split at h
 ·rename_i i d hi hd
  split at h
  ·rename_i z hz
   split at h
   ·rename_i hall
    cases h
    rw [List.all_eq_true] at hall
    refine ⟨i, d, z, hi, hd, rfl, rfl, hz, fun w X η C => ⟨by simp, fun j hj => ?_⟩, ?_, ?_⟩
    ·have hj' : j < z.cells.size := by simpa using hj
     have hm : z.cells[j] ∈ z.cells.toList := by simp
     have := (zeroCV_ok (w := w) (X := X) (η := η) (C := C) (hall _ hm)).1
     simpa [List.getD_eq_getElem?_getD, hj'] using this
    ·rw [List.flatMap_eq_nil_iff]
     intro x hx
     obtain ⟨v, hv, rfl⟩ := List.mem_map.1 hx
     exact (zeroCV_ok (w := default) (X := fun _ => False) (η := fun _ => default) (C := ⟨default, fun _ => False, fun _ => False, fun _ => False, fun _ => none⟩) (hall v hv)).2
    ·cases d <;> simp [kindOf, KOk]
   ·cases h
  ·cases h
 ·cases h
def tblL (T : List (Nat × TI)) : Lay := fun t => T.lookup t
theorem tbl_ok {P : Program} {T : List (Nat × TI)} (h : T.map (fun p => layOf P p.1) = T.map (fun p => some p.2)) : LOk P (tblL T) := by
 intro t ti ht
 obtain ⟨l1, l2, hl, _⟩ := List.lookup_eq_some_iff.1 ht
 exact layOf_ok P t ti (forall_of_map h (t, ti) (by rw [hl]; simp))
section
variable {P : Program} {C : Ctx} {nt : Nat} {L : Lay} {pins : List Nat}
theorem AW.reg (Fm : Fr P L C pins) {id : Nat} {ops : Array Oper} {draw : Bool} {E : List (Nat × AVal)} {S : List (Nat × Obj)} {Q : Exit → Act → World → Prop} (ds : List Dir) (ρ : List (Nat × Nat)) (c : Prop) (E' : List (Nat × AVal)) (S' : List (Nat × Obj)) (hc : c)
  (hchk : chkB L pins nt ops draw ds E S ρ S' = true) (hC : arunC P C nt L ops ops.toList ds (lk E) (ls S) = c)
  (he0 : E'.map (fun p => endE ops.toList (arunF L ops ops.toList ds (lk E) (ls S)) (lk E) p.1) = E'.map (fun p => p.2.ren (rhoL ρ)))
  (hs0 : S'.map (fun p => endS (arunF L ops ops.toList ds (lk E) (ls S)) (ls S) (rhoL ρ p.1)) = S'.map (fun p => some (p.2.ren (rhoL ρ))))
  (k : Kn C nt E' S' (Q .normal)) : AW P C nt (.region id ops draw) E S Q := AW.region Fm ds ρ hchk (hC ▸ hc) he0 hs0 k
end
end Go.Ab
end
