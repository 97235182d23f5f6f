/- Abstract states over the model, part three, and lists of runs: every lemma holds of any program. -/
import Derived.Test.YthifkkpkmdpoiaaGreatAbB
import Derived.KernelRfl
import Derived.Laws.StructEq
import Derived.Laws.Small
import Derived.Laws.Entries
import Derived.Sort.AssemblyPlain
import Derived.Lib.BitFns
set_option linter.unusedVariables false
set_option linter.unusedSimpArgs false
section
/- Small things that the printed proofs name. -/
namespace Go.Ab
instance (n : Int) : Decidable (I64 n) := inferInstanceAs (Decidable (_ ∧ _))
def gl {α : Type} [Emb α] (l : List α) (i : Nat) : α := l.getD i Emb.d
def litF (es : Nat) (ds : List DVal) (i : Nat) : List DVal := (ds.drop (i * es)).take es
theorem toNat_lt {i : Int} {n : Nat} (h : 0 ≤ i ∧ i < (n : Int)) : i.toNat < n := by omega
theorem FE.refl : ∀ E : List (Nat × AVal), FE E E
  | [] => trivial
  | (_, _) :: E => ⟨rfl, ALe.refl _, FE.refl E⟩
theorem FSl.refl : ∀ S : List (Nat × Obj), FSl S S
  | [] => trivial
  | (_, _) :: S => ⟨rfl, OLe.refl _, FSl.refl S⟩
instance : Emb Int := ⟨fun x => [.int .i64 x], 1, 0, fun _ => rfl⟩
instance : Emb Bool := ⟨fun x => [.bool x], 1, false, fun _ => rfl⟩
instance : Emb ByteArray := ⟨fun x => [.str x], 1, ByteArray.empty, fun _ => rfl⟩
instance {α : Type} [Emb α] : Emb (List α) := ⟨fun x => [DL x], 1, [], fun _ => rfl⟩
end Go.Ab
end

section
/- Equality of structs; a list against nil; calls that only look at lists of the frame. -/
namespace Go.Ab

section
variable {P : Program} {C : Ctx} {nt : Nat} {L : Lay} {ops : Array Oper} {ds : List Dir} {e : Env} {s : Sto}

/-- an operation that only hands back a value -/
theorem stT_pure {o : Oper} {r : AVal} (hr : r.refs = []) (hdo : dstOk nt o = true) (hg : gval ops e o = some true)
    (hex : ∀ (R : Nat → Prop) (η : Nat → Value) (e0 : Env) (s0 : Sto) (a : Act) (w : World), (∀ t ∈ tmpsOf o ++ guardTmp ops o, e0 t = e t) → Conc C nt R η e0 s0 a w → ∃ v, (execOp a.eval o).run P w = .ok (.value v) w ∧ ARep w (XS C s0 η) η C v r) :
    StT P C nt ops o (semEff ops o e r) e s := by
  intro R η e0 s0 a w hrd hids hfr hc K Q hK
  have hw := wanted_of (e := e) hc (fun t ht => hrd t (List.mem_append.2 (.inr ht))) hg
  rw [if_pos hw]
  obtain ⟨v, hv, hrep⟩ := hex R η e0 s0 a w hrd hc
  unfold Oper.wp
  rw [hv]
  show K (a.put o.dst v) w
  refine hK η _ w ?_
  have := hc.val o.dst (dst_lt hdo) r v fun _ => ⟨hrep, fun j hj => by rw [hr] at hj; cases hj⟩
  have hu : upS (semEff ops o e r).l s0 = s0 := by funext i; rfl
  rw [hu]
  have he : setE o.dst (semEff ops o e r).v e0 = SR.env { v := r } o.dst e0 := rfl
  rw [he]
  exact this.wider fun i hi => .inl hi

def eqK (d : TypeDesc) (x y : CV) : Option Bool :=
  match d, x, y with
  | .int _, .d (.int k a), .d (.int k' b) => if k = k' then some (a == b) else none
  | .bool, .d (.bool a), .d (.bool b) => some (a == b)
  | _, _, _ => none
def eqFl (P : Program) (xs ys : List CV) : List Field → Option Bool
  | [] => some true
  | f :: fs => if f.name = "_" then none else match P.underlying f.type, xs[f.offset]?, ys[f.offset]?, eqFl P xs ys fs with
    | some d, some x, some y, some c => match eqK d x y with
      | some b => some (b && c)
      | none => none
    | _, _, _, _ => none

theorem eqK_ok {w w1 : World} {X : Nat → Prop} {η : Nat → Value} {d : TypeDesc} {x y : CV} {b : Bool} (h : eqK d x y = some b) {u v : Value} (hu : CRep w X η C u x) (hv : CRep w X η C v y) {t : TypeId} (ht : P.underlying t = some d) (n : Nat) :
    (isAgg t).run P w1 = .ok false w1 ∧ (Op.equalIn (n + 1) t u v).run P w1 = .ok b w1 := by
  unfold eqK at h
  split at h
  · split at h
    · cases h
      rename_i hk
      subst hk
      cases hu with | d _ _ hu => cases hu with | int =>
      cases hv with | d _ _ hv => cases hv with | int =>
      exact ⟨by simp [isAgg, run_underlying ht], run_equalIn_int _ _ _ _ _ _ _ ht⟩
    · cases h
  · cases h
    cases hu with | d _ _ hu => cases hu with | bool =>
    cases hv with | d _ _ hv => cases hv with | bool =>
    exact ⟨by simp [isAgg, run_underlying ht], run_equalIn_bool' _ _ _ _ _ ht⟩
  · cases h

theorem csrep_at {w : World} {X : Nat → Prop} {η : Nat → Value} {vs : Array Value} {xs : List CV} (h : CsRep w X η C vs xs) {j : Nat} {x : CV} (hx : xs[j]? = some x) : ∃ v, vs[j]? = some v ∧ CRep w X η C v x := by
  have hj : j < xs.length := (List.getElem?_eq_some_iff.1 hx).1
  have hj' : j < vs.size := by rw [h.1]; exact hj
  refine ⟨vs[j], Array.getElem?_eq_getElem hj', ?_⟩
  have := h.2 j hj
  rw [List.getD_eq_getElem?_getD, hx] at this
  simpa [Array.getD_eq_getD_getElem?, Array.getElem?_eq_getElem hj'] using this

theorem eqFl_ok {w : World} {X : Nat → Prop} {η : Nat → Value} {xs ys : List CV} {us vs : Array Value} (hu : CsRep w X η C us xs) (hv : CsRep w X η C vs ys) (n : Nat) (w1 : World) : ∀ (fs : List Field) (b : Bool), eqFl P xs ys fs = some b → (Op.eqFields (n + 1) us vs fs).run P w1 = .ok b w1
  | [], b, h => by cases h; simp [Op.eqFields]
  | f :: fs, b, h => by
    simp only [eqFl] at h
    split at h
    · cases h
    · rename_i hname
      split at h
      · rename_i d x y c hd hx hy hc
        split at h
        · rename_i b1 hb1
          cases h
          obtain ⟨u, hu1, hu2⟩ := csrep_at hu hx
          obtain ⟨v, hv1, hv2⟩ := csrep_at hv hy
          obtain ⟨g1, g2⟩ := eqK_ok (P := P) (w1 := w1) hb1 hu2 hv2 hd n
          have ih := eqFl_ok hu hv n w1 fs c hc
          have p1 : (part f.type us f.offset).run P w1 = .ok u w1 := by simp [part, g1, hu1]
          have p2 : (part f.type vs f.offset).run P w1 = .ok v w1 := by simp [part, g1, hv1]
          have hname' : f.name ≠ "_" := hname
          simp only [Op.eqFields, hname', ne_eq, not_false_eq_true, if_true, Sem.run_bind, p1, p2, g2, Result.andThen_ok]
          cases b1 with
          | true => simpa using ih
          | false => simp
        · cases h
      · cases h

def eqX (o : Oper) : Operand := match o.op with | .binOp _ _ x _ _ => x | _ => .const undef
def eqY (o : Oper) : Operand := match o.op with | .binOp _ _ _ y _ => y | _ => .const undef
def eqOpB (o : Oper) (t : TypeId) : Option Bool := match o.op with
  | .binOp op t' _ _ _ => if t = t' then match op with
    | .eql => some true
    | .neq => some false
    | _ => none else none
  | _ => none
theorem eqOpB_ok {o : Oper} {t : TypeId} {q : Bool} (h : eqOpB o t = some q) : ∃ t', o.op = .binOp (if q then .eql else .neq) t (eqX o) (eqY o) t' := by
  unfold eqOpB at h
  split at h
  · rename_i op t0 x y t2 hop
    split at h
    · rename_i ht
      subst ht
      split at h
      · cases h; exact ⟨t2, by simp only [eqX, eqY, hop]; rfl⟩
      · cases h; exact ⟨t2, by simp only [eqX, eqY, hop]; rfl⟩
      · cases h
    · cases h
  · cases h

/-- what is known of a struct type that is compared -/
structure EqT (P : Program) (t : TypeId) : Prop where
  und : P.underlying t = some (.struct (P.fieldsOf t))
  held : P.stoodInHeld t = false
  guard : P.eqGuardType P.depth t = false

def eqB (ops : Array Oper) (nt : Nat) (e : Env) (o : Oper) : Bool := rdOk (tmpsOf o ++ guardTmp ops o) (eqX o) && rdOk (tmpsOf o ++ guardTmp ops o) (eqY o) && dstOk nt o && (gval ops e o == some true)

theorem KAt.eq {k : Nat} {t : TypeId} (ht : EqT P t) (q : Bool) {xs ys : List CV} {b : Bool} (hk : dirAt ds k = sE (vb (if q then b else !b))) (hop : eqOpB (opAt ops.toList k) t = some q) (hb : eqB ops nt (arunE L ops ops.toList ds e s k) (opAt ops.toList k) = true)
    (hx : aev (arunE L ops ops.toList ds e s k) (eqX (opAt ops.toList k)) = .v (.g xs)) (hy : aev (arunE L ops ops.toList ds e s k) (eqY (opAt ops.toList k)) = .v (.g ys)) (hfl : eqFl P xs ys (P.fieldsOf t).toList = some b) : KAt P C nt L ops ds e s k := by
  unfold KAt
  rw [hk]
  simp only [eqB, Bool.and_eq_true] at hb
  obtain ⟨⟨⟨b1, b2⟩, b3⟩, b4⟩ := hb
  obtain ⟨t', hop'⟩ := eqOpB_ok hop
  refine stT_pure rfl b3 (by simpa using b4) fun R η e0 s0 a w hrd hc => ⟨.bool (if q then b else !b), ?_, .v _ _ (.c _ _ (.d _ _ (.bool _)))⟩
  have h1 := (aev_ok hc (eqX (opAt ops.toList k))).1
  rw [aev_agree hrd b1, hx] at h1
  have h2 := (aev_ok hc (eqY (opAt ops.toList k))).1
  rw [aev_agree hrd b2, hy] at h2
  generalize hu : a.eval (eqX (opAt ops.toList k)) = u at h1
  generalize hv : a.eval (eqY (opAt ops.toList k)) = v at h2
  cases h1 with | v _ _ h1 => cases h1 with | g us _ h1 =>
  cases h2 with | v _ _ h2 => cases h2 with | g vs _ h2 =>
  have he := eqFl_ok (P := P) h1 h2 9998 w _ b hfl
  have hq : (Op.equalIn 10000 t (.agg us) (.agg vs)).run P w = .ok b w := by
    rw [run_equalIn_agg w 9999 t us vs ht.und ht.held]; exact he
  cases q with
  | true => simp only [execOp, hop', if_true, Sem.run_bind, hu, hv, run_eqGuard_agg w _ _ _ _ _ _ ht.guard, Result.andThen_ok, run_eql_struct, hq, Sem.run_pure]
  | false => simp only [execOp, hop', Bool.false_eq_true, if_false, Sem.run_bind, hu, hv, run_eqGuard_agg w _ _ _ _ _ _ ht.guard, Result.andThen_ok, run_neq_struct, hq, Sem.run_pure]
end
end Go.Ab
end

section
/- A list against nil; calls that only look at lists of the frame. -/
namespace Go.Ab

def nbP (n : Nat) : World → (Nat → Prop) → (Nat → Prop) → Value → Prop := fun _ _ _ v => ∃ b, v = .bool b ∧ (b = true → n = 0)
def nb (n : Nat) : AVal := .v (.c (.sem (nbP n)))

def DVal.flat : DVal → Bool
  | .int _ _ => true
  | .bool _ => true
  | .str _ => true
  | _ => false
def CV.flat : CV → Bool
  | .d x => x.flat
  | _ => false
def TV.flat : TV → Bool
  | .c x => x.flat
  | .g xs => xs.all CV.flat
def AVal.flat : AVal → Bool
  | .any => true
  | .v x => x.flat
  | .t xs => xs.all TV.flat

section
variable {w w' : World} {X X' : Nat → Prop} {η η' : Nat → Value} {C C' : Ctx}
theorem CRep.flat {v : Value} {x : CV} (h : CRep w X η C v x) (hx : x.flat = true) : CRep w' X' η' C' v x := by
  cases h with
  | d _ _ h => cases h with
    | int => exact .d _ _ (.int _ _)
    | bool => exact .d _ _ (.bool _)
    | str => exact .d _ _ (.str _)
    | any => cases hx
    | nil => cases hx
    | lst => cases hx
  | _ => cases hx
theorem TRep.flat {v : Value} {x : TV} (h : TRep w X η C v x) (hx : x.flat = true) : TRep w' X' η' C' v x := by
  cases h with
  | c _ _ h => exact .c _ _ (h.flat hx)
  | g _ _ h => exact .g _ _ ⟨h.1, fun j hj => (h.2 j hj).flat (List.all_eq_true.1 hx _ (getD_mem hj))⟩
theorem ARep.flat {v : Value} {x : AVal} (h : ARep w X η C v x) (hx : x.flat = true) : ARep w' X' η' C' v x := by
  cases h with
  | any => exact .any v
  | v _ _ h => exact .v _ _ (h.flat hx)
  | t us xs h1 h2 => exact .t us xs h1 fun j hj => (h2 j hj).flat (List.all_eq_true.1 hx _ (getD_mem hj))
theorem CV.flat_refs {x : CV} (hx : x.flat = true) : x.refs = [] := by cases x <;> first | rfl | cases hx
theorem TV.flat_refs {x : TV} (hx : x.flat = true) : x.refs = [] := by
  cases x with
  | c x => exact CV.flat_refs hx
  | g xs => exact List.flatMap_eq_nil_iff.2 fun y hy => CV.flat_refs (List.all_eq_true.1 hx y hy)
theorem AVal.flat_refs {x : AVal} (hx : x.flat = true) : x.refs = [] := by
  cases x with
  | any => rfl
  | v x => exact TV.flat_refs hx
  | t xs => exact List.flatMap_eq_nil_iff.2 fun y hy => TV.flat_refs (List.all_eq_true.1 hx y hy)
end

section
variable {P : Program} {C : Ctx} {nt : Nat} {L : Lay} {ops : Array Oper} {ds : List Dir} {e : Env} {s : Sto} {E : List (Nat × AVal)} {S : List (Nat × Obj)} {Q : Exit → Act → World → Prop}

/-- a condition on whether a list is nil -/
theorem AW.condNil {t n : Nat} {x y : Code} (hb : lk E t = nb n) (ht : n = 0 → AW P C nt x E S Q) (hf : AW P C nt y E S Q) : AW P C nt (.cond (.tmp t) x y) E S Q := by
  intro R η a w hc
  have hv := hc.ev t
  rw [hb] at hv
  have : ∃ b, a.eval (.tmp t) = .bool b ∧ (b = true → n = 0) := by
    change ∃ b, a.tmps.getD t undef = .bool b ∧ (b = true → n = 0)
    generalize a.tmps.getD t undef = u at hv
    cases hv with | v _ _ h => cases h with | c _ _ h => cases h with | sem _ _ h _ => exact h
  obtain ⟨b, ev, hn⟩ := this
  cases b with
  | true => exact wp_cond_true ev (ht (hn rfl) R η a w hc)
  | false => exact wp_cond_false ev (hf R η a w hc)

def lstN : AVal → Option Nat
  | .v (.c (.d (.lst n _))) => some n
  | .v (.c (.fl n _)) => some n
  | _ => none
theorem lstN_ok {w : World} {X : Nat → Prop} {η : Nat → Value} {v : Value} {x : AVal} {n : Nat} (h : lstN x = some n) (hv : ARep w X η C v x) : ∃ ad cap, v = .slice ad n cap ∧ (ad = none → n = 0) := by
  unfold lstN at h
  split at h
  · cases h
    cases hv with | v _ _ hv => cases hv with | c _ _ hv => cases hv with | d _ _ hv => cases hv with
      | nil a cap f => exact ⟨a, cap, rfl, fun _ => rfl⟩
      | lst b off n cap c e fz f es => exact ⟨_, _, rfl, fun h => by cases h⟩
  · cases h
    cases hv with | v _ _ hv => cases hv with | c _ _ hv => cases hv with | fl a n f hv => cases hv with
      | nil a cap f => exact ⟨_, _, rfl, fun _ => rfl⟩
      | lst b off n cap c e fz f es => exact ⟨_, _, rfl, fun h => by cases h⟩
  · cases h

def isNilC (x : Operand) : Bool := match x with | .const (.slice none 0 0) => true | _ => false
theorem isNilC_ok {x : Operand} (h : isNilC x = true) : x = .const (.slice none 0 0) := by
  unfold isNilC at h; split at h
  · rfl
  · cases h

theorem run_equalIn_nil {t el : TypeId} (ht : P.underlying t = some (.slice el)) (d : Nat) (ad : Option Addr) (n cap : Nat) (w : World) : (Op.equalIn (d + 1) t (.slice ad n cap) (.slice none 0 0)).run P w = .ok ad.isNone w := by
  cases ad <;> simp only [Op.equalIn, Sem.run_bind, run_underlying ht, Result.andThen_ok, Sem.run_pure] <;> rfl
theorem run_eql_nil {t el : TypeId} (ht : P.underlying t = some (.slice el)) (ad : Option Addr) (n cap : Nat) (w : World) : (binOp .eql t (.slice ad n cap) (.slice none 0 0)).run P w = .ok (.bool ad.isNone) w := by
  have h : binOp .eql t (.slice ad n cap) (.slice none 0 0) = (do pure (.bool (← Op.equalIn Op.maxDepth t (.slice ad n cap) (.slice none 0 0)))) := rfl
  have h2 := run_equalIn_nil ht 9999 ad n cap w
  rw [h, Sem.run_bind]
  have h3 : (Op.equalIn Op.maxDepth t (.slice ad n cap) (.slice none 0 0)).run P w = .ok ad.isNone w := h2
  rw [h3]
  rfl

theorem KAt.nil {k : Nat} {t el : TypeId} (ht : P.underlying t = some (.slice el)) {n : Nat} (hk : dirAt ds k = sE (nb n)) (hop : eqOpB (opAt ops.toList k) t = some true) (hb : eqB ops nt (arunE L ops ops.toList ds e s k) (opAt ops.toList k) = true)
    (hx : lstN (aev (arunE L ops ops.toList ds e s k) (eqX (opAt ops.toList k))) = some n) (hy : isNilC (eqY (opAt ops.toList k)) = true) : KAt P C nt L ops ds e s k := by
  unfold KAt
  rw [hk]
  simp only [eqB, Bool.and_eq_true] at hb
  obtain ⟨⟨⟨b1, b2⟩, b3⟩, b4⟩ := hb
  obtain ⟨t', hop'⟩ := eqOpB_ok hop
  simp only [if_true] at hop'
  refine stT_pure rfl b3 (by simpa using b4) fun R η e0 s0 a w hrd hc => ?_
  have h1 := (aev_ok hc (eqX (opAt ops.toList k))).1
  rw [aev_agree hrd b1] at h1
  obtain ⟨ad, cap, hv, had⟩ := lstN_ok hx h1
  refine ⟨.bool ad.isNone, ?_, .v _ _ (.c _ _ (.sem _ _ ⟨_, rfl, fun hh => had (by simpa using hh)⟩ rfl))⟩
  have h2 : a.eval (eqY (opAt ops.toList k)) = .slice none 0 0 := by rw [isNilC_ok hy]; rfl
  have hg : (eqGuard .eql t (eqX (opAt ops.toList k)) (eqY (opAt ops.toList k)) (.slice ad n cap) (.slice none 0 0)).run P w = .ok () w := rfl
  simp only [execOp, hop', Sem.run_bind, h2, hv, hg, Result.andThen_ok, run_eql_nil ht, Sem.run_pure]

/-! ## calls that only look -/
def ArgB (P : Program) (e : Env) (s : Sto) (bor : List Nat) (rd : List Nat) (x : Operand) (y : AVal) : Prop :=
  rdOk rd x = true ∧ ((ALe (aev e x) y ∧ y.closed = true) ∨ (∃ k es n f, k ∈ bor ∧ aev e x = .v (.c (.own k)) ∧ s k = some (.arr es n f) ∧ y = .v (.c (.d (.lst n f)))) ∨ ∃ F, aev e x = vclo P F ∧ y = vclo P F)

theorem stT_callB {f : Nat} (hcall : ∀ args w, (callFunc f args).run P w = .ok (.enter f args) w) {o : Oper} {fx : Operand} {xs : Array Operand} {tys : Array TypeId} (hop : o.op = .call { callee := .value fx, args := xs, argTypes := tys })
    (hfx : aev e fx = .v (.c (.clo f []))) (hrf : rdOk (tmpsOf o ++ guardTmp ops o) fx = true) {args : List AVal} {r : AVal} (hspec : FSpec P f args [] r []) (hlen : xs.size = args.length) (bor : List Nat)
    (hargs : ∀ j, j < args.length → ArgB P e s bor (tmpsOf o ++ guardTmp ops o) (xs.toList.getD j (.const undef)) (args.getD j .any)) (hids : ∀ k ∈ bor, k ∈ idsOf e o) (hr : r.flat = true) (hdo : dstOk nt o = true) (hg : gval ops e o = some true) : StT P C nt ops o (semEff ops o e r) e s := by
  intro R η e0 s0 a w hrd hid hfr hc K Q hK
  have hw := wanted_of (e := e) hc (fun t ht => hrd t (List.mem_append.2 (.inr ht))) hg
  rw [if_pos hw]
  have hfv := (aev_ok hc fx).1
  rw [aev_agree hrd hrf, hfx] at hfv
  have hex := exec_call (w := w) hop (clo_inv hfv) hcall
  have hXlt : ∀ b, XS C s0 η b → b < w.heap.size := by
    rintro b (⟨hx, _⟩ | hx)
    · exact Nat.lt_of_lt_of_le (hc.ok.lt b hx) hc.fr.size
    · exact hc.lt hx
  let X1 : Nat → Prop := fun b => XS C s0 η b ∧ ∀ k ∈ bor, s k ≠ none → blk (η k) ≠ some b
  have hmo : Kept w w (XS C s0 η) X1 := fun b _ hb => ⟨rfl, fun hx => hb hx.1⟩
  have hsp := hspec w X1 η (xs.map a.eval ++ (([] : List Nat).map η).toArray) (fun b hb => hXlt b hb.1) (fun b ⟨i, o', hi, _⟩ => by cases hi) (fun i o' hi => by cases hi) (fun i j b hi => absurd rfl hi) (by simp [hlen]) (fun j hj => by
    have hj' : j < xs.size := by omega
    have e1 : (xs.map a.eval ++ (([] : List Nat).map η).toArray).getD j undef = a.eval (xs.toList.getD j (.const undef)) := by simp [List.getD_eq_getElem?_getD, hj']
    rw [e1]
    obtain ⟨g0, g⟩ := hargs j hj
    have hx := (aev_ok hc (xs.toList.getD j (.const undef))).1
    rw [aev_agree hrd g0] at hx
    rcases g with ⟨g1, g2⟩ | ⟨k, es, n, fl, g1, g2, g3, g4⟩ | ⟨F, g1, g2⟩
    · exact ((g1.1 _ _ _ _ _ hx).mono (η' := η) hmo (fun _ _ => rfl)).free g2
    · rw [g2] at hx
      rw [g4]
      have hv : a.eval (xs.toList.getD j (.const undef)) = η k := by
        generalize a.eval (xs.toList.getD j (.const undef)) = u at hx
        cases hx with | v _ _ hx => cases hx with | c _ _ hx => cases hx with | own _ _ h _ => exact h
      rw [hv]
      have hsk : s0 k = some (.arr es n fl) := by rw [hid k (hids k g1)]; exact g3
      have ho := hc.st k _ hsk
      have hnx : ∀ b, blk (η k) = some b → ¬ X1 b := fun b hb hx => hx.2 k g1 (by rw [g3]; simp) hb
      refine .v _ _ (.c _ _ (.d _ _ ?_))
      generalize η k = u at ho hnx
      cases ho with
      | nil ad es _ => exact .nil ad 0 fl
      | arr b n cap es c e _ h1 h2 h3 h4 h5 h6 h7 =>
        refine .lst b 0 n cap c e _ fl es (hnx b (by simp [blk]; omega)) h1 h3 (by rw [h2, Nat.zero_add]; exact Nat.mul_le_mul_right _ h3) h6 fun i j hi hj => ?_
        rw [Nat.zero_add]
        exact (h7 i j hi hj).mono fun b hb hX => ⟨rfl, fun hx => hX hx.1⟩
    · rw [g1] at hx
      rw [g2]
      have hclo : CloOK P F C.w0 C.D C.X (a.eval (xs.toList.getD j (.const undef))) ∧ (a.eval (xs.toList.getD j (.const undef))).oneCell' = true := by
        generalize a.eval (xs.toList.getD j (.const undef)) = u at hx
        cases hx with | v _ _ h => cases h with | c _ _ h => cases h with | sem _ _ h h1 => exact ⟨h, h1⟩
      obtain ⟨⟨ff, caps, hfe, hcall2, hcl⟩, hone⟩ := hclo
      refine .v _ _ (.c _ _ (.sem _ _ ⟨ff, caps, hfe, hcall2, ?_⟩ hone))
      intro w1 X2 vs args2 r2 hF hsz hblk hX2 hXX hvs hargs2
      have hsz' : w.heap.size ≤ w1.heap.size := hsz
      have hno : ∀ b, ¬ (callCtx ([] : List (Nat × Obj)) w X1 η).D b := by rintro b ⟨i, o', hi, _⟩; cases hi
      refine hcl w1 X2 vs args2 r2 hF (Nat.le_trans hc.fr.size hsz') (fun b hb hD => ?_) hX2 (fun b hb hD => ?_) hvs hargs2
      · have hbw : b < w.heap.size := Nat.lt_of_lt_of_le hb hc.fr.size
        exact (hblk b hbw (hno b)).trans (hc.fr.block b hb fun hM => hD (hc.ok.md b hM))
      · have hbw : b < w.heap.size := Nat.lt_of_lt_of_le hb hc.fr.size
        rw [hXX b hbw (hno b)]
        have hown : ∀ i o', s0 i = some o' → blk (η i) ≠ some b := by
          intro i o' hi hib
          rcases hc.ow i o' b hi hib with ⟨_, h1⟩ | h1 | h1
          · exact hD h1
          · exact hD (hc.ok.md b h1)
          · omega
        constructor
        · rintro ⟨⟨hx, _⟩ | ⟨i, o', hi, hib⟩, _⟩
          · exact hx
          · exact absurd hib (hown i o' hi)
        · refine fun hx => ⟨.inl ⟨hx, hD⟩, fun k hk hsk => ?_⟩
          obtain ⟨o', ho'⟩ := Option.ne_none_iff_exists'.1 hsk
          exact hown k o' (by rw [hid k (hids k hk)]; exact ho'))
  unfold Oper.wp
  rw [hex]
  show Calls P f _ w _
  refine hsp.mono fun en w' hh => ?_
  obtain ⟨v, η', rfl, hb⟩ := hh
  have hstp : Stp (fun _ => False) w w' := hb.stp.mono fun b _ hM => by obtain ⟨i, o', hi, _⟩ := hM; cases hi
  have hs : SR.sto { v := r } o.dst s0 = s0 := by funext i; simp [SR.sto]
  have he : SR.eta { v := r } o.dst v η = η := by funext i; simp [SR.eta]
  have hr0 : SR.rng { v := r } o.dst R = R := by funext i; simp [SR.rng]
  have := hc.step o.dst (dst_lt hdo) { v := r } v w' (fun _ => False) hstp (fun b hb => hb.elim) (fun o dd ho => by cases ho) (fun k o ho => by cases ho)
    (fun _ => by rw [hs, he]; refine ⟨hb.res.flat hr, fun j hj => ?_⟩; simp only at hj; rw [AVal.flat_refs hr] at hj; cases hj)
  rw [hs, he, hr0] at this
  refine hK η _ w' ?_
  have hu : upS (semEff ops o e r).l s0 = s0 := by funext i; rfl
  rw [hu]
  exact this.wider fun i hi => .inl hi

def ArgsB (P : Program) (e : Env) (s : Sto) (bor : List Nat) (rd : List Nat) : List Operand → List AVal → Prop
  | [], [] => True
  | x :: xs, y :: ys => ArgB P e s bor rd x y ∧ ArgsB P e s bor rd xs ys
  | _, _ => False
theorem ArgsB.spec {bor : List Nat} {rd : List Nat} {xs : List Operand} {ys : List AVal} (h : ArgsB P e s bor rd xs ys) : xs.length = ys.length ∧ ∀ j, j < ys.length → ArgB P e s bor rd (xs.getD j (.const undef)) (ys.getD j .any) := by
  induction xs generalizing ys with
  | nil => cases ys with
    | nil => exact ⟨rfl, fun j hj => by simp at hj⟩
    | cons y ys => exact h.elim
  | cons x xs ih => cases ys with
    | nil => exact h.elim
    | cons y ys =>
      obtain ⟨h1, h2⟩ := h
      obtain ⟨g1, g2⟩ := ih h2
      refine ⟨by simp [g1], fun j hj => ?_⟩
      cases j with
      | zero => exact h1
      | succ j => exact g2 j (by simpa using hj)

/-- an argument: a list of the frame -/
theorem ArgB.own {bor : List Nat} {rd : List Nat} {x : Operand} (k : Nat) {es n : Nat} {f : Nat → List DVal} (h0 : rdOk rd x = true) (h1 : bor.contains k = true) (h2 : aev e x = .v (.c (.own k))) (h3 : s k = some (.arr es n f)) : ArgB P e s bor rd x (.v (.c (.d (.lst n f)))) :=
  ⟨h0, .inr (.inl ⟨k, es, n, f, by simpa using h1, h2, h3, rfl⟩)⟩
theorem ArgB.plain {bor : List Nat} {rd : List Nat} {x : Operand} {y : AVal} (h0 : rdOk rd x = true) (h1 : ALe (aev e x) y) (h2 : y.closed = true) : ArgB P e s bor rd x y := ⟨h0, .inl ⟨h1, h2⟩⟩
theorem ArgB.sem {bor : List Nat} {rd : List Nat} {x : Operand} {F : List AVal → AVal → Prop} (h0 : rdOk rd x = true) (h1 : aev e x = vclo P F) : ArgB P e s bor rd x (vclo P F) := ⟨h0, .inr (.inr ⟨F, h1, rfl⟩)⟩

def callBB (ops : Array Oper) (nt : Nat) (e : Env) (o : Oper) (f : Nat) (r : AVal) (bor : List Nat) : Bool :=
  isCall o && isClo0 f (aev e (callX o)) && rdOk (tmpsOf o ++ guardTmp ops o) (callX o) && r.flat && bor.all (fun k => (idsOf e o).contains k) && dstOk nt o && (gval ops e o == some true)

theorem KAt.callB {k : Nat} {f : Nat} {args : List AVal} {r : AVal} (hspec : FSpec P f args [] r []) (hcall : ∀ args w, (callFunc f args).run P w = .ok (.enter f args) w) (bor : List Nat)
    (hk : dirAt ds k = sE r) (hb : callBB ops nt (arunE L ops ops.toList ds e s k) (opAt ops.toList k) f r bor = true)
    (hargs : ArgsB P (arunE L ops ops.toList ds e s k) (arunS L ops ops.toList ds e s k) bor (tmpsOf (opAt ops.toList k) ++ guardTmp ops (opAt ops.toList k)) (callXs (opAt ops.toList k)).toList args) : KAt P C nt L ops ds e s k := by
  unfold KAt
  rw [hk]
  simp only [callBB, Bool.and_eq_true] at hb
  obtain ⟨⟨⟨⟨⟨⟨b1, b2⟩, b3⟩, b4⟩, b5⟩, b6⟩, b7⟩ := hb
  obtain ⟨tys, hop⟩ := isCall_ok b1
  obtain ⟨g1, g2⟩ := hargs.spec
  exact stT_callB hcall hop (isClo0_ok b2) b3 hspec (by simpa using g1) bor (fun j hj => g2 j hj) (fun k hk => by simpa using List.all_eq_true.1 b5 k hk) b4 b6 (by simpa using b7)
end
end Go.Ab
end

section
/- Calls, their operands told; arguments that are functions. -/
namespace Go.Ab
section
variable {P : Program} {C : Ctx} {nt : Nat} {L : Lay} {ops : Array Oper} {ds : List Dir} {e : Env} {s : Sto}

theorem KAt.callX {k : Nat} {f : Nat} {args : List AVal} {Si : List (Nat × Obj)} {r : AVal} {So : List (Nat × Obj)} (hspec : FSpec P f args Si r So) (hcall : ∀ args w, (callFunc f args).run P w = .ok (.enter f args) w) (m : List (Nat × Nat)) (extra : List Nat) (xs : List Operand)
    (hk : dirAt ds k = cE m extra r Si So) (hb : Go.Ab.callB ops nt (arunE L ops ops.toList ds e s k) (opAt ops.toList k) f m r Si So = true)
    (hsi : Si.map (fun p => arunS L ops ops.toList ds e s k (rhoL m p.1)) = Si.map (fun p => some (p.2.ren (rhoL m)))) (hxs : (Go.Ab.callXs (opAt ops.toList k)).toList = xs)
    (hargs : ArgsT C nt (arunE L ops ops.toList ds e s k) (arunS L ops ops.toList ds e s k) Si (rhoL m) (tmpsOf (opAt ops.toList k) ++ guardTmp ops (opAt ops.toList k)) (idsOf (arunE L ops ops.toList ds e s k) (opAt ops.toList k) ++ (Si.map (fun p => rhoL m p.1) ++ extra)) xs args) : KAt P C nt L ops ds e s k :=
  KAt.callG hspec hcall m extra hk hb hsi (hxs ▸ hargs)

theorem KAt.callBX {k : Nat} {f : Nat} {args : List AVal} {r : AVal} (hspec : FSpec P f args [] r []) (hcall : ∀ args w, (callFunc f args).run P w = .ok (.enter f args) w) (bor : List Nat) (xs : List Operand)
    (hk : dirAt ds k = sE r) (hb : Go.Ab.callBB ops nt (arunE L ops ops.toList ds e s k) (opAt ops.toList k) f r bor = true) (hxs : (Go.Ab.callXs (opAt ops.toList k)).toList = xs)
    (hargs : ArgsB P (arunE L ops ops.toList ds e s k) (arunS L ops ops.toList ds e s k) bor (tmpsOf (opAt ops.toList k) ++ guardTmp ops (opAt ops.toList k)) xs args) : KAt P C nt L ops ds e s k :=
  KAt.callB hspec hcall bor hk hb (hxs ▸ hargs)

def siB (s : Sto) (Si : List (Nat × Obj)) (m : Nat → Nat) (ids cids : List Nat) : Bool := Si.all fun p => (s (m p.1)).isSome && ids.contains (m p.1) && !cids.contains (m p.1)
theorem siB_ok {Si : List (Nat × Obj)} {m : Nat → Nat} {ids cids : List Nat} (h : siB s Si m ids cids = true) : (∀ p ∈ Si, ∃ o1, s (m p.1) = some o1) ∧ (∀ p ∈ Si, m p.1 ∈ ids) ∧ ∀ p ∈ Si, m p.1 ∉ cids := by
  refine ⟨fun p hp => ?_, fun p hp => ?_, fun p hp => ?_⟩ <;> (have := List.all_eq_true.1 h p hp; simp only [Bool.and_eq_true, Bool.not_eq_true'] at this)
  · exact Option.isSome_iff_exists.1 this.1.1
  · simpa using this.1.2
  · simpa using this.2

theorem ArgT.semX {F : List AVal → AVal → Prop} {Si : List (Nat × Obj)} {m : Nat → Nat} {rd ids : List Nat} {x : Operand} (hx : rdOk rd x = true) (hv : aev e x = vclo P F) (hsi : siB s Si m ids [] = true) : ArgT C nt e s Si m rd ids x (vclo P F) :=
  ArgT.sem hx hv (siB_ok hsi).1 (siB_ok hsi).2.1

def boxB (s : Sto) : List Nat → List (List CV) → Prop
  | [], [] => True
  | i :: is, c :: cs => (∃ ro, s i = some (.box ro c)) ∧ boxB s is cs
  | _, _ => False
theorem boxB_ok {is : List Nat} {cs : List (List CV)} (h : boxB s is cs) : is.length = cs.length ∧ ∀ k, k < cs.length → ∃ ro, s (is.getD k 0) = some (.box ro (cs.getD k [])) := by
  induction is generalizing cs with
  | nil => cases cs with
    | nil => exact ⟨rfl, fun k hk => by simp at hk⟩
    | cons c cs => exact h.elim
  | cons i is ih => cases cs with
    | nil => exact h.elim
    | cons c cs =>
      obtain ⟨h1, h2⟩ := h
      obtain ⟨g1, g2⟩ := ih h2
      refine ⟨by simp [g1], fun k hk => ?_⟩
      cases k with
      | zero => exact h1
      | succ k => exact g2 k (by simpa using hk)

theorem ArgT.cloX {f : Nat} (hcall : ∀ args w, (callFunc f args).run P w = .ok (.enter f args) w) {F : List AVal → AVal → Prop} (cs : List (List CV)) (hspec : ∀ args r, F args r → FSpec P f (args ++ capA cs) (capS cs) r (capS cs)) (hres : ∀ args r, F args r → r.closed = true)
    {Si : List (Nat × Obj)} {m : Nat → Nat} {rd ids : List Nat} {x : Operand} (hx : rdOk rd x = true) (cids : List Nat) (hv : aev e x = .v (.c (.clo f cids))) (hnd : (nodupB cids && cs.all (fun c => c.all CV.closed) && cids.all (fun i => ids.contains i)) = true) (hbox : boxB s cids cs)
    (hsi : siB s Si m ids cids = true) : ArgT C nt e s Si m rd ids x (vclo P F) := by
  simp only [Bool.and_eq_true] at hnd
  obtain ⟨g1, g2⟩ := boxB_ok hbox
  exact ArgT.clo hcall hspec hres hx hv g1 hnd.1.1 g2 hnd.1.2 (siB_ok hsi).1 (siB_ok hsi).2.1 (fun i hi => by simpa using List.all_eq_true.1 hnd.2 i hi) (siB_ok hsi).2.2
end
/-- equal as programs, no test that runs -/
noncomputable def gdc {R : Type} (p : Prop) (x : Option R) : Option R := @gd R p (Classical.propDecidable p) x
theorem gdc_some {R : Type} {p : Prop} {x : Option R} {r : R} (h : gdc p x = some r) : p ∧ x = some r := @gd_some R p (Classical.propDecidable p) x r h
noncomputable def brN {R : Type} (n : Nat) (x y : Option R) : Option R := match n with
  | 0 => gdc (x = y) x
  | _ + 1 => y
theorem brN_t {R : Type} {n : Nat} {x y : Option R} {r : R} (h : brN n x y = some r) (hn : n = 0) : x = some r := by subst hn; exact (gdc_some h).2
theorem brN_f {R : Type} {n : Nat} {x y : Option R} {r : R} (h : brN n x y = some r) : y = some r := by
  cases n with
  | zero => obtain ⟨h1, h2⟩ := gdc_some h; exact h1 ▸ h2
  | succ n => exact h
end Go.Ab
end

section
/- Truth values compared. -/
namespace Go.Ab
section
variable {P : Program} {C : Ctx} {nt : Nat} {L : Lay} {ops : Array Oper} {ds : List Dir} {e : Env} {s : Sto}
theorem KAt.eqb {k : Nat} {t : TypeId} (ht : P.underlying t = some .bool) (q : Bool) {a b : Bool} (hk : dirAt ds k = sE (vb (if q then a == b else !(a == b)))) (hop : eqOpB (opAt ops.toList k) t = some q) (hb : eqB ops nt (arunE L ops ops.toList ds e s k) (opAt ops.toList k) = true)
    (hx : aev (arunE L ops ops.toList ds e s k) (eqX (opAt ops.toList k)) = vb a) (hy : aev (arunE L ops ops.toList ds e s k) (eqY (opAt ops.toList k)) = vb b) : KAt P C nt L ops ds e s k := by
  unfold KAt
  rw [hk]
  simp only [eqB, Bool.and_eq_true] at hb
  obtain ⟨⟨⟨b1, b2⟩, b3⟩, b4⟩ := hb
  obtain ⟨t', hop'⟩ := eqOpB_ok hop
  refine stT_pure rfl b3 (by simpa using b4) fun R η e0 s0 ac w hrd hc => ?_
  have h1 := (aev_ok hc (eqX (opAt ops.toList k))).1
  rw [aev_agree hrd b1, hx] at h1
  have h2 := (aev_ok hc (eqY (opAt ops.toList k))).1
  rw [aev_agree hrd b2, hy] at h2
  have e1 := bool_inv h1
  have e2 := bool_inv h2
  refine ⟨.bool (if q then a == b else !(a == b)), ?_, bool_rep _ _⟩
  cases q with
  | true =>
    simp only [if_true] at hop' ⊢
    have hg : (eqGuard .eql t (eqX (opAt ops.toList k)) (eqY (opAt ops.toList k)) (.bool a) (.bool b)).run P w = .ok () w := rfl
    simp only [execOp, hop', Sem.run_bind, e1, e2, hg, Result.andThen_ok, run_eql_bool w t a b ht, Sem.run_pure]
  | false =>
    simp only [Bool.false_eq_true, if_false] at hop' ⊢
    have hg : (eqGuard .neq t (eqX (opAt ops.toList k)) (eqY (opAt ops.toList k)) (.bool a) (.bool b)).run P w = .ok () w := rfl
    simp only [execOp, hop', Sem.run_bind, e1, e2, hg, Result.andThen_ok, run_neq_bool w t a b ht, Sem.run_pure]
end
end Go.Ab
end

section
/- Views of a list of the frame. -/
namespace Go.Ab

/-- a list of the frame or a view of it: whose, from where on, how long -/
def asV (s : Sto) (es : Nat) : AVal → Option (Nat × Nat × Nat)
  | .v (.c (.own id)) => match s id with
    | some (.arr es' N _) => if es = es' then some (id, 0, N) else none
    | _ => none
  | .v (.c (.sub id es' lo n)) => if es = es' then some (id, lo, n) else none
  | _ => none

section
variable {P : Program} {L : Lay} {C : Ctx} {nt : Nat} {R : Nat → Prop} {η : Nat → Value} {e : Env} {s : Sto} {a : Act} {w : World}

/-- a value that is a view, by its object -/
inductive VOk (w : World) (X : Nat → Prop) (η : Nat → Value) (id es N : Nat) (f : Nat → List DVal) (lo n : Nat) : Value → Prop
  | some (b cap : Nat) (c : Array Value) (e' : TypeId) : η id = .slice (some ⟨b, 0, none⟩) N cap → w.heap[b]? = some (.cells c e' (0, 0)) → c.size = cap * es → N ≤ cap → cap ≤ maxLen →
      (∀ i, i < N → (f i).length = es) → (∀ i j, i < N → j < es → DRep w X (c.getD (i * es + j) undef) ((f i).getD j .any)) → lo + n ≤ N → lo < cap →
      VOk w X η id es N f lo n (.slice (some ⟨b, lo * es, none⟩) n (cap - lo))
  | nil (ad ad' : Option Addr) : η id = .slice ad N N → lo = N → n = 0 → VOk w X η id es N f lo n (.slice ad' 0 0)

theorem view_ok (h : Conc C nt R η e s a w) {x : Operand} {es id lo n N : Nat} {f : Nat → List DVal} (hx : asV s es (aev e x) = some (id, lo, n)) (hs : s id = some (.arr es N f)) :
    VOk w (XS C s η) η id es N f lo n (a.eval x) := by
  have hv := (aev_ok h x).1
  have hst := h.st id _ hs
  unfold asV at hx
  split at hx
  · rename_i id' e1
    split at hx
    · rename_i es' N' f' hs'
      split at hx
      · cases hx
        rw [hs] at hs'; cases hs'
        rw [e1] at hv
        rw [own_inv hv]
        generalize hu : η id = u at hst
        cases hst with
        | nil ad => exact .nil ad ad hu rfl rfl
        | arr b _ cap _ c e' _ h1 h2 h3 h4 h5 h6 h7 =>
          have := VOk.some (w := w) (X := XS C s η) (η := η) (id := id) (f := f) (lo := 0) b cap c e' hu h1 h2 h3 h4 h6 h7 (Nat.le_of_eq (Nat.zero_add _)) h5
          simpa using this
      · cases hx
    · cases hx
  · rename_i id' es' lo' n' e1
    split at hx
    · rename_i hes
      cases hx
      subst hes
      rw [e1] at hv
      generalize a.eval x = v at hv
      cases hv with | v _ _ hv => cases hv with | c _ _ hv => cases hv with
        | sub b N' cap _ _ _ _ hη h1 h2 =>
          rw [hη] at hst
          cases hst with
          | nil => omega
          | arr _ _ _ _ c e' _ g1 g2 g3 g4 g5 g6 g7 => exact .some b cap c e' hη g1 g2 g3 g4 g6 g7 h1 h2
        | subN ad ad' N' _ _ hη =>
          rw [hη] at hst
          cases hst with
          | nil => exact .nil _ _ hη rfl rfl
          | arr _ _ _ _ c e' _ g1 g2 g3 g4 g5 g6 g7 => exact .nil _ _ hη rfl rfl
    · cases hx
  · cases hx

theorem VOk.slice {X : Nat → Prop} {v : Value} {id es N lo n : Nat} {f : Nat → List DVal} (h : VOk w X η id es N f lo n v) : ∃ ad cap, v = .slice ad n cap ∧ (n ≤ cap) ∧ lo + n ≤ N := by
  cases h with
  | some b cap c e' h1 h2 h3 h4 h5 h6 h7 h8 h9 => exact ⟨_, _, rfl, by omega, h8⟩
  | nil ad ad' h1 h2 h3 => exact ⟨_, _, by rw [h3], by omega, by omega⟩

/-- a part of a view -/
theorem VOk.part {X X' : Nat → Prop} {ad : Option Addr} {id es N lo n cap : Nat} {f : Nat → List DVal} (h : VOk w X η id es N f lo n (.slice ad n cap)) {l u : Nat} (hlu : l ≤ u) (hu : lo + u ≤ N) :
    ARep w X' η C (.slice (if cap = l then ad else ad.map (·.add (l * es))) (u - l) (cap - l)) (.v (.c (.sub id es (lo + l) (u - l)))) := by
  generalize hv : Value.slice ad n cap = v at h
  cases h with
  | some b cap' c e' h1 h2 h3 h4 h5 h6 h7 h8 h9 =>
    cases hv
    by_cases hc : cap' - lo = l
    · have e1 : u - l = 0 := by omega
      have e2 : cap' - lo - l = 0 := by omega
      have e3 : lo + l = N := by omega
      have e4 : cap' = N := by omega
      rw [e1, e2, e3]
      subst e4
      exact .v _ _ (.c _ _ (.subN _ _ _ _ _ h1))
    · rw [if_neg hc]
      simp only [Option.map_some, add_lit]
      have e1 : lo * es + l * es = (lo + l) * es := by rw [Nat.add_mul]
      have e2 : cap' - lo - l = cap' - (lo + l) := by omega
      rw [e1, e2]
      exact .v _ _ (.c _ _ (.sub b N cap' id es (lo + l) (u - l) h1 (by omega) (by omega)))
  | nil ad0 ad' h1 h2 h3 =>
    cases hv
    have e1 : u - l = 0 := by omega
    have e2 : lo + l = N := by omega
    rw [e1, e2, Nat.zero_sub]
    exact .v _ _ (.c _ _ (.subN ad0 _ N id es h1))

theorem sliceBounds_gen (h : Conc C nt R η e s a w) {lo hi : Option Operand} {l u : Option Int} (hl : oI e lo = some l) (hu : oI e hi = some u) (n cap : Nat) (hc : 0 ≤ l.getD 0 ∧ l.getD 0 ≤ u.getD n ∧ u.getD n ≤ cap) :
    (Instr.sliceBounds true n cap (lo.map a.eval) (hi.map a.eval) none).run P w = .ok ((l.getD 0).toNat, (u.getD n).toNat, cap) w := by
  rcases oI_ok h hl with ⟨h1, h2⟩ | ⟨k, m, h1, h2⟩ <;> rcases oI_ok h hu with ⟨h3, h4⟩ | ⟨k', m', h3, h4⟩ <;> subst h2 <;> subst h4 <;> simp only [Option.getD_some, Option.getD_none] at hc
  · subst h1; subst h3
    simp [Instr.sliceBounds]
  · subst h1
    simp [Instr.sliceBounds, h3, sliceB_ok m' cap _ ⟨hc.2.1, by omega⟩]
  · subst h3
    have hx := sliceB_ok (P := P) (w := w) m n .sliceB ⟨hc.1, by omega⟩ k
    simp [Instr.sliceBounds, h1, hx]
  · have hx := sliceB_ok (P := P) (w := w) m m'.toNat .sliceB ⟨hc.1, by omega⟩ k
    simp [Instr.sliceBounds, h1, h3, sliceB_ok m' cap _ ⟨by omega, by omega⟩, hx]

theorem snd_vslice (hL : LOk P L) (h : Conc C nt R η e s a w) {o : Oper} (hd : ∀ x, o.dst = some x → x < nt) {t : TypeId} {x : Operand} {lo hi : Option Operand} (hop : o.op = .slice t x lo hi none)
    {ti : TI} (ht : L t = some ti) {el : Nat} (hk : ti.kind = .slice el) {te : TI} (hte : L el = some te) {l u : Option Int} (hl : oI e lo = some l) (hu : oI e hi = some u)
    {id lo0 n N : Nat} {f : Nat → List DVal} (hx : asV s te.size (aev e x) = some (id, lo0, n)) (hs : s id = some (.arr te.size N f)) (hc : 0 ≤ l.getD 0 ∧ l.getD 0 ≤ u.getD n ∧ (lo0 : Int) + u.getD n ≤ N) :
    Snd P C nt R η e s a w o { v := .v (.c (.sub id te.size (lo0 + (l.getD 0).toNat) ((u.getD n).toNat - (l.getD 0).toNat))) } := by
  obtain ⟨i, dd, z, hti⟩ := hL t ti ht
  obtain ⟨i2, dd2, z2, hte'⟩ := hL el te hte
  have hkd := hti.kind
  rw [hk] at hkd
  simp only [KOk] at hkd
  have hvo := view_ok h hx hs
  obtain ⟨ad, cap, ev, hn, hN⟩ := hvo.slice
  have hcap : (u.getD n) ≤ cap := by
    rw [ev] at hvo
    generalize hv : Value.slice ad n cap = v at hvo
    cases hvo with
    | some b cap' c e' h1 h2 h3 h4 h5 h6 h7 h8 h9 => cases hv; omega
    | nil ad0 ad' h1 h2 h3 => cases hv; omega
  rw [ev] at hvo
  have hb := sliceBounds_gen (P := P) h hl hu n cap ⟨hc.1, hc.2.1, hcap⟩
  have hR : ∀ j ∈ (AVal.v (.c (.sub id te.size (lo0 + (l.getD 0).toNat) ((u.getD n).toNat - (l.getD 0).toNat)))).refs, R j := by
    intro j hj
    simp [AVal.refs, TV.refs, CV.refs] at hj
    rw [hj]; exact (h.sr id _ hs).1
  refine snd_val h hd ?_ (hvo.part (l := (l.getD 0).toNat) (u := (u.getD n).toNat) (by omega) (by omega)) hR
  simp only [execOp, hop, Sem.run_bind, Instr.sliceAt, run_underlying hti.und, Result.andThen_ok, hkd, Instr.slice, ev, Option.map_none, hb, run_sizeOf hte', Sem.run_pure]

/-- s[i:j:k], the outcome left alone -/
theorem snd_vslice3 (hL : LOk P L) (h : Conc C nt R η e s a w) {o : Oper} (hd : ∀ x, o.dst = some x → x < nt) {t : TypeId} {x ol oh om : Operand} (hop : o.op = .slice t x (some ol) (some oh) (some om))
    {ti : TI} (ht : L t = some ti) {el : Nat} (hk : ti.kind = .slice el) {te : TI} (hte : L el = some te) {l u m : Int} (hl : asI (aev e ol) = some l) (hu : asI (aev e oh) = some u) (hm : asI (aev e om) = some m)
    {id lo0 n N : Nat} {f : Nat → List DVal} (hx : asV s te.size (aev e x) = some (id, lo0, n)) (hs : s id = some (.arr te.size N f)) (hc : 0 ≤ l ∧ l ≤ u ∧ u ≤ m ∧ m ≤ n) :
    Snd P C nt R η e s a w o { v := .any } := by
  obtain ⟨i, dd, z, hti⟩ := hL t ti ht
  obtain ⟨i2, dd2, z2, hte'⟩ := hL el te hte
  have hkd := hti.kind
  rw [hk] at hkd
  simp only [KOk] at hkd
  obtain ⟨ad, cap, ev, hn, hN⟩ := (view_ok h hx hs).slice
  obtain ⟨k1, e1⟩ := asI_ok h hl
  obtain ⟨k2, e2⟩ := asI_ok h hu
  obtain ⟨k3, e3⟩ := asI_ok h hm
  have b1 := sliceB_ok (P := P) (w := w) m cap .slice3Acap ⟨by omega, by omega⟩ k3
  have b2 := sliceB_ok (P := P) (w := w) u m.toNat .slice3B ⟨by omega, by omega⟩ k2
  have b3 := sliceB_ok (P := P) (w := w) l u.toNat .slice3C ⟨by omega, by omega⟩ k1
  refine snd_val h hd (v := .slice (if m.toNat = l.toNat then ad else ad.map (·.add (l.toNat * te.size))) (u.toNat - l.toNat) (m.toNat - l.toNat)) ?_ (.any _) (by simp [AVal.refs])
  simp only [execOp, hop, Sem.run_bind, Instr.sliceAt, run_underlying hti.und, Result.andThen_ok, hkd, Instr.slice, ev, Instr.sliceBounds, Option.map_some, if_true, e1, e2, e3, b1, b2, b3, Sem.run_pure, run_sizeOf hte', Option.isSome_some]

theorem snd_vlen (hL : LOk P L) (h : Conc C nt R η e s a w) {o : Oper} (hd : ∀ x, o.dst = some x → x < nt) {t : TypeId} {x : Operand} (hop : o.op = .call { callee := .builtin .len, args := #[x], argTypes := #[t] })
    {ti : TI} (ht : L t = some ti) {el : Nat} (hk : ti.kind = .slice el) {es id lo n N : Nat} {f : Nat → List DVal} (hx : asV s es (aev e x) = some (id, lo, n)) (hs : s id = some (.arr es N f)) : Snd P C nt R η e s a w o { v := vi n } := by
  obtain ⟨i, dd, z, hti⟩ := hL t ti ht
  have hkd := hti.kind
  rw [hk] at hkd
  simp only [KOk] at hkd
  obtain ⟨ad, cap, ev, _⟩ := (view_ok h hx hs).slice
  refine snd_val h hd (v := .int .i64 n) ?_ (int_rep _ _ _) (by simp [vi, AVal.refs, TV.refs, CV.refs])
  simp [execOp, hop, resolve, invoke, builtin, Builtin.len_, run_underlying hti.und, hkd, ev, goInt]

theorem snd_vindex (hL : LOk P L) (h : Conc C nt R η e s a w) {o : Oper} (hd : ∀ x, o.dst = some x → x < nt) {t : TypeId} {x i : Operand} (hop : o.op = .indexAddr t x i) {ti : TI} (ht : L t = some ti) {el : Nat} (hk : ti.kind = .slice el)
    {te : TI} (hte : L el = some te) {m : Int} (hi : asI (aev e i) = some m) {id lo n N : Nat} {f : Nat → List DVal} (hx : asV s te.size (aev e x) = some (id, lo, n)) (hs : s id = some (.arr te.size N f)) (hc : 0 ≤ m ∧ m < n) :
    Snd P C nt R η e s a w o { v := .v (.c (.pte id te.size (lo + m.toNat) 0)) } := by
  obtain ⟨i1, d1, z1, hti⟩ := hL t ti ht
  obtain ⟨i2, d2, z2, hte'⟩ := hL el te hte
  have hkd := hti.kind
  rw [hk] at hkd
  simp only [KOk] at hkd
  subst hkd
  obtain ⟨k, ei⟩ := asI_ok h hi
  have hvo := view_ok h hx hs
  generalize ev : a.eval x = v at hvo
  cases hvo with
  | some b cap c e' h1 h2 h3 h4 h5 h6 h7 h8 h9 =>
    refine snd_val h hd (v := .pointer (some ⟨b, (lo + m.toNat) * te.size + 0, none⟩)) ?_ (.v _ _ (.c _ _ (.pte b N cap _ _ _ _ h1))) (fun j hj => by simp [AVal.refs, TV.refs, CV.refs] at hj; rw [hj]; exact (h.sr id _ hs).1)
    have e1 : lo * te.size + m.toNat * te.size = (lo + m.toNat) * te.size := by rw [Nat.add_mul]
    simp [execOp, hop, Instr.indexAt, ei, ev, asIntOf, run_underlying hti.und, hc, run_sizeOf hte', add_lit, e1]
  | nil ad0 ad' h1 h2 h3 => omega

/-- one object turned, a value handed back -/
theorem snd_updw (h : Conc C nt R η e s a w) {o : Oper} (hd : ∀ x, o.dst = some x → x < nt) {id : Nat} {ob ob' : Obj} (hs : s id = some ob) (hro : ob.ro = false) (hro' : ob'.ro = false) (hrf : ∀ j ∈ ob'.refs, R j)
    {w' : World} {v : Value} {x : AVal} (hstp : Stp (fun b => blk (η id) = some b) w w') (hrun : (execOp a.eval o).run P w = .ok (.value v) w')
    (hob : ∀ X', Kept w w' (XS C s η) X' → ORep w' X' η C (η id) ob') (hv : ∀ X', ARep w' X' η C v x) (hx : ∀ j ∈ x.refs, R j) : Snd P C nt R η e s a w o { v := x, upd := some (id, ob') } := by
  have hk := kept_step (C := C) (s := s) (η := η) { v := x, upd := some (id, ob') } o.dst v (fun b => blk (η id) = some b) hstp (fun b hb => ⟨id, ob, hs, hb⟩) (fun _ _ hh => by cases hh)
    (fun k o hh => by cases hh; rw [hs]; simp)
  have heta : SR.eta { v := x, upd := some (id, ob') } o.dst v η = η := by funext i; simp [SR.eta]
  refine ⟨v, w', .inl hrun, ?_⟩
  refine h.step o.dst hd _ _ _ (fun b => blk (η id) = some b) hstp ?_ (fun _ _ hh => by cases hh) ?_ (fun _ => ⟨?_, fun j hj => .inl (hx j hj)⟩)
  · intro b hb
    refine ⟨⟨id, .inr ⟨ob', rfl⟩, by rw [hs]; simp, hb⟩, ?_⟩
    rcases h.ow id ob _ hs hb with ⟨h1, _⟩ | h1
    · rw [hro] at h1; cases h1
    · exact h1
  · intro k o' hh
    cases hh
    refine ⟨⟨ob, hs, hro⟩, hro', by simp, hrf, ?_⟩
    rw [heta]
    rw [heta] at hk
    exact hob _ hk
  · rw [heta]; exact hv _

/-- cells of an object put in place, from lo on -/
theorem put_obj {X' : Nat → Prop} {id es N cap b lo k : Nat} {f g : Nat → List DVal} {c : Array Value} {e' : TypeId} {news : List Value} (hX : Kept w (w.setRow b (c.toList.take (lo * es) ++ news ++ c.toList.drop (lo * es + news.length)).toArray) (XS C s η) X')
    (h1 : η id = .slice (some ⟨b, 0, none⟩) N cap) (h2 : w.heap[b]? = some (.cells c e' (0, 0))) (h3 : c.size = cap * es) (h4 : N ≤ cap) (h5 : cap ≤ maxLen) (h50 : 0 < cap)
    (h6 : ∀ i, i < N → (f i).length = es) (h7 : ∀ i j, i < N → j < es → DRep w (XS C s η) (c.getD (i * es + j) undef) ((f i).getD j .any))
    (hk : lo + k ≤ N) (hn : news.length = k * es) (g1 : ∀ i, i < k → (g i).length = es) (g2 : ∀ i j, i < k → j < es → DRep w (XS C s η) (news.getD (i * es + j) undef) ((g i).getD j .any)) :
    ORep (w.setRow b (c.toList.take (lo * es) ++ news ++ c.toList.drop (lo * es + news.length)).toArray) X' η C (η id) (.arr es N fun i => if lo ≤ i ∧ i < lo + k then g (i - lo) else f i) := by
  have hfit : lo * es + news.length ≤ c.size := by rw [hn, h3, ← Nat.add_mul]; exact Nat.mul_le_mul_right _ (by omega)
  obtain ⟨q1, q2⟩ := setRow_cells c (lo * es) news hfit
  rw [h1]
  refine .arr b N cap es _ e' _ (setRow_heap w b c _ e' _ h2) (by rw [q1]; exact h3) h4 h5 h50 (fun i hi => ?_) (fun i j hi hj => ?_)
  · by_cases hc : lo ≤ i ∧ i < lo + k
    · simp only [hc, and_self, if_true]; exact g1 _ (by omega)
    · simp only [hc, if_false]; exact h6 i hi
  · rw [q2]
    have mul1 : ∀ {p q : Nat}, p < q → p * es + es ≤ q * es := fun {p q} hpq => by
      have : (p + 1) * es ≤ q * es := Nat.mul_le_mul_right _ hpq
      rwa [Nat.add_mul, Nat.one_mul] at this
    by_cases hc : lo ≤ i ∧ i < lo + k
    · have a1 : lo * es ≤ i * es := Nat.mul_le_mul_right _ hc.1
      have a2 := mul1 hc.2
      rw [Nat.add_mul] at a2
      rw [if_pos ⟨by omega, by omega⟩]
      simp only [hc, and_self, if_true]
      have e1 : i * es + j - lo * es = (i - lo) * es + j := by rw [Nat.sub_mul]; omega
      rw [e1]
      exact (g2 (i - lo) j (by omega) hj).mono fun x hx hn => hX x hx hn
    · rw [if_neg]
      · simp only [hc, if_false]; exact (h7 i j hi hj).mono fun x hx hn => hX x hx hn
      · rintro ⟨b1, b2⟩
        rcases Nat.lt_or_ge i lo with hlt | hge
        · have := mul1 hlt; omega
        · have : (lo + k) * es ≤ i * es := Nat.mul_le_mul_right _ (by omega)
          rw [Nat.add_mul] at this; omega

theorem setRow_vstp {id N cap b : Nat} (h1 : η id = .slice (some ⟨b, 0, none⟩) N cap) (h : 0 < cap) (cs : Array Value) : Stp (fun x => blk (η id) = some x) w (w.setRow b cs) :=
  (setRow_stp w b cs).mono fun x _ hx => by have e : x = b := hx; rw [h1, e]; simp [blk]; omega

theorem fun_noop {k lo : Nat} {f g : Nat → List DVal} (h : k = 0) : (fun i => if lo ≤ i ∧ i < lo + k then g (i - lo) else f i) = f := by
  funext i; rw [if_neg (by omega)]

/-- data told otherwise -/
def DLe (x y : DVal) : Prop := ∀ w X v, DRep w X v x → DRep w X v y
theorem DLe.refl (x : DVal) : DLe x x := fun _ _ _ h => h
theorem DLe.nil (f g : Nat → List DVal) : DLe (.lst 0 f) (.lst 0 g) := fun w X v h => by
  cases h with
  | nil a cap => exact .nil a cap g
  | lst b off n cap c e fz f es => exact .nil _ cap g
def DLes : List DVal → List DVal → Prop
  | [], [] => True
  | x :: xs, y :: ys => DLe x y ∧ DLes xs ys
  | _, _ => False
theorem DLes.spec {xs ys : List DVal} (h : DLes xs ys) : xs.length = ys.length ∧ ∀ j, DLe (xs.getD j .any) (ys.getD j .any) := by
  induction xs generalizing ys with
  | nil => cases ys with
    | nil => exact ⟨rfl, fun j => DLe.refl _⟩
    | cons y ys => exact h.elim
  | cons x xs ih => cases ys with
    | nil => exact h.elim
    | cons y ys =>
      obtain ⟨h1, h2⟩ := h
      obtain ⟨g1, g2⟩ := ih h2
      refine ⟨by simp [g1], fun j => ?_⟩
      cases j with
      | zero => exact h1
      | succ j => exact g2 j

theorem snd_vclear (hL : LOk P L) (h : Conc C nt R η e s a w) {o : Oper} (hd : ∀ x, o.dst = some x → x < nt) {t : TypeId} {x : Operand} (hop : o.op = .call { callee := .builtin .clear, args := #[x], argTypes := #[t] })
    {ti : TI} (ht : L t = some ti) {el : Nat} (hk : ti.kind = .slice el) {te : TI} (hte : L el = some te) (h0 : 0 < te.size) (hzl : te.zero.length = te.size) {zd0 zd : List DVal} (hz : toDs te.zero = some zd0) (hle : DLes zd0 zd)
    {id lo n N : Nat} {f : Nat → List DVal} (hx : asV s te.size (aev e x) = some (id, lo, n)) (hs : s id = some (.arr te.size N f)) :
    Snd P C nt R η e s a w o { v := .any, upd := some (id, .arr te.size N fun i => if lo ≤ i ∧ i < lo + n then (fun _ => zd) (i - lo) else f i) } := by
  obtain ⟨i, dd, z, hti⟩ := hL t ti ht
  obtain ⟨i2, d2, z2, hte'⟩ := hL el te hte
  have hkd := hti.kind
  rw [hk] at hkd
  simp only [KOk] at hkd
  subst hkd
  have hvo := view_ok h hx hs
  have hst := h.st id _ hs
  have hxr : ∀ j ∈ (AVal.any).refs, R j := fun j hj => by cases hj
  have hn0 : ∀ v, a.eval x = v → (∃ ad cap, v = .slice ad 0 cap) → n = 0 → Snd P C nt R η e s a w o { v := .any, upd := some (id, .arr te.size N fun i => if lo ≤ i ∧ i < lo + n then (fun _ => zd) (i - lo) else f i) } := by
    rintro v ev ⟨ad, cap, rfl⟩ hn
    have hrun : (execOp a.eval o).run P w = .ok (.value (.tuple #[])) w := by
      cases ad <;> simp [execOp, hop, resolve, invoke, builtin, Builtin.clear_, run_underlying hti.und, ev]
    refine snd_updw h hd hs rfl rfl (by simp [Obj.refs]) (Stp.refl _ _) hrun (fun X' hX => ?_) (fun X' => .any _) hxr
    have key : ORep w X' η C (η id) (.arr te.size N f) := hst.mono hX (fun j hj => rfl) fun b hb => rfl
    rw [← fun_noop (k := n) (lo := lo) (f := f) (g := fun _ => zd) hn] at key
    exact key
  generalize ev : a.eval x = v at hvo
  cases hvo with
  | some b cap c e' h1 h2 h3 h4 h5 h6 h7 h8 h9 =>
    by_cases hn : n = 0
    · exact hn0 _ ev ⟨some ⟨b, lo * te.size, none⟩, cap - lo, by rw [hn]⟩ hn
    · have hzs : z2.cells.size = te.size := by rw [(hte'.zrep w (XS C s η) η C).1, hzl]
      obtain ⟨hd1, hd2⟩ := toDs_cells (hte'.zrep w (XS C s η) η C) hz
      have hnl : (Builtin.zeroCells z2.cells n).toList.length = n * te.size := by simp [Builtin.zeroCells, hzs]
      have hone : ∀ u ∈ (Builtin.zeroCells z2.cells n).toList, u.oneCell' = true := by
        intro u hu
        simp only [Builtin.zeroCells, Array.toList_map, List.mem_map] at hu
        obtain ⟨q, hq, rfl⟩ := hu
        have hlt : q % z2.cells.size < z2.cells.size := Nat.mod_lt _ (by rw [hzs]; exact h0)
        have := (hd2 (q % z2.cells.size) (by rw [hd1]; exact hlt)).one
        simpa [hlt] using this
      have hfit : lo * te.size + 0 + (Builtin.zeroCells z2.cells n).toList.length ≤ c.size := by rw [hnl, h3, Nat.add_zero, ← Nat.add_mul]; exact Nat.mul_le_mul_right _ (by omega)
      have hst2 := run_storeCells_at P b (lo * te.size) e' (Builtin.zeroCells z2.cells n).toList 0 c w h2 hfit hone
      simp only [Nat.add_zero] at hst2
      have hrun : (execOp a.eval o).run P w = .ok (.value (.tuple #[])) (w.setRow b (c.toList.take (lo * te.size) ++ (Builtin.zeroCells z2.cells n).toList ++ c.toList.drop (lo * te.size + (Builtin.zeroCells z2.cells n).toList.length)).toArray) := by
        simp [execOp, hop, resolve, invoke, builtin, Builtin.clear_, run_underlying hti.und, ev, run_zeroValue hte', hst2, hn]
      refine snd_updw h hd hs rfl rfl (by simp [Obj.refs]) (setRow_vstp h1 (by omega) _) hrun (fun X' hX => ?_) (fun X' => .any _) hxr
      refine put_obj hX h1 h2 h3 h4 h5 (by omega) h6 h7 h8 hnl (fun i _ => by rw [← hle.spec.1, hd1, hzs]) fun i j hi hj => ?_
      have hlt : i * te.size + j < n * te.size := by
        have : (i + 1) * te.size ≤ n * te.size := Nat.mul_le_mul_right _ hi
        rw [Nat.add_mul, Nat.one_mul] at this; omega
      have hm : (i * te.size + j) % te.size = j := by rw [Nat.add_comm, Nat.add_mul_mod_self_right, Nat.mod_eq_of_lt hj]
      have hg : (Builtin.zeroCells z2.cells n).toList.getD (i * te.size + j) undef = z2.cells.getD j undef := by
        have := rangeMap_getD (n * z2.cells.size) (fun i => z2.cells[i % z2.cells.size]!) (i * te.size + j) (by rw [hzs]; exact hlt)
        have e1 : (Builtin.zeroCells z2.cells n).toList.getD (i * te.size + j) undef = (Builtin.zeroCells z2.cells n).getD (i * te.size + j) undef := by simp [List.getD_eq_getElem?_getD, Array.getD_eq_getD_getElem?]
        rw [e1]
        unfold Builtin.zeroCells
        rw [this, hzs, hm]
        have : j < z2.cells.size := by rw [hzs]; exact hj
        simp [this]
      rw [hg]
      exact hle.spec.2 j _ _ _ (hd2 j (by rw [hd1, hzs]; exact hj))
  | nil ad0 ad' h1 h2 h3 => exact hn0 _ ev ⟨_, _, rfl⟩ h3

theorem snd_vappend (hL : LOk P L) (h : Conc C nt R η e s a w) {o : Oper} (hd : ∀ x, o.dst = some x → x < nt) {t : TypeId} {x y : Operand} (hop : o.op = .call { callee := .builtin .append, args := #[x, y], argTypes := #[t, t] })
    {ti : TI} (ht : L t = some ti) {el : Nat} (hk : ti.kind = .slice el) {te : TI} (hte : L el = some te)
    {id lo n lo2 k N : Nat} {f : Nat → List DVal} (hx : asV s te.size (aev e x) = some (id, lo, n)) (hy : asV s te.size (aev e y) = some (id, lo2, k)) (hs : s id = some (.arr te.size N f)) (hc : lo + n + k ≤ N) :
    Snd P C nt R η e s a w o { v := .v (.c (.sub id te.size lo (n + k))), upd := some (id, .arr te.size N fun i => if lo + n ≤ i ∧ i < lo + n + k then (fun j => f (lo2 + j)) (i - (lo + n)) else f i) } := by
  obtain ⟨i, dd, z, hti⟩ := hL t ti ht
  obtain ⟨i2, d2, z2, hte'⟩ := hL el te hte
  have hkd := hti.kind
  rw [hk] at hkd
  simp only [KOk] at hkd
  subst hkd
  have hvo := view_ok h hx hs
  have hvy := view_ok h hy hs
  have hst := h.st id _ hs
  have hexec : ∀ {v : Value} {w' : World}, (Builtin.append_ #[t, t] o.type #[a.eval x, a.eval y]).run P w = .ok v w' → (execOp a.eval o).run P w = .ok (.value v) w' := by
    intro v w' hh
    simp [execOp, hop, resolve, invoke, builtin, hh]
  have hR : ∀ j ∈ (AVal.v (.c (.sub id te.size lo (n + k)))).refs, R j := by
    intro j hj
    simp [AVal.refs, TV.refs, CV.refs] at hj
    rw [hj]; exact (h.sr id _ hs).1
  have hrep : ∀ {w' : World} (X' : Nat → Prop) {ad : Option Addr} {cap : Nat}, VOk w (XS C s η) η id te.size N f lo n (.slice ad n cap) → ARep w' X' η C (.slice ad (n + k) cap) (.v (.c (.sub id te.size lo (n + k)))) := by
    intro w' X' ad cap hv
    generalize hg : Value.slice ad n cap = v at hv
    cases hv with
    | some b cap' c e' h1 h2 h3 h4 h5 h6 h7 h8 h9 => cases hg; exact .v _ _ (.c _ _ (.sub b N cap' id te.size lo (n + k) h1 (by omega) h9))
    | nil ad0 ad' h1 h2 h3 =>
      cases hg
      have : 0 + k = 0 := by omega
      rw [this]; subst h2; exact .v _ _ (.c _ _ (.subN ad0 _ _ id _ h1))
  obtain ⟨ad, cap, ev, hn, hN⟩ := hvo.slice
  obtain ⟨ad2, cap2, ev2, hn2, hN2⟩ := hvy.slice
  by_cases hk0 : k = 0
  · subst hk0
    refine snd_updw h hd hs rfl rfl (by simp [Obj.refs]) (Stp.refl _ _) (hexec (v := .slice ad n cap) (w' := w) (by rw [ev, ev2]; exact append_zero t o.type hti.und hte'.info ad n cap hn ad2 cap2)) (fun X' hX => ?_) (fun X' => by rw [ev] at hvo; exact hrep X' hvo) hR
    have key : ORep w X' η C (η id) (.arr te.size N f) := hst.mono hX (fun j hj => rfl) fun b hb => rfl
    rw [← fun_noop (k := 0) (lo := lo + n) (f := f) (g := fun j => f (lo2 + j)) rfl] at key
    exact key
  · rw [ev2] at hvy
    generalize hg2 : Value.slice ad2 k cap2 = v2 at hvy
    cases hvy with
    | nil ad0 ad' h1 h2 h3 => exact absurd h3 hk0
    | some b cap' c e' h1 h2 h3 h4 h5 h6 h7 h8 h9 =>
      cases hg2
      rw [ev] at hvo
      have hvo' := hvo
      generalize hg : Value.slice ad n cap = v at hvo
      cases hvo with
      | nil ad0 ad' g1 g2 g3 => omega
      | some b' cap'' c' e'' g1 g2 g3 g4 g5 g6 g7 g8 g9 =>
        rw [h1] at g1
        cases g1
        cases hg
        rw [h2] at g2
        cases g2
        have hN' : lo2 * te.size + k * te.size ≤ c.size := by rw [h3, ← Nat.add_mul]; exact Nat.mul_le_mul_right _ (by omega)
        have hnl : (vals c (lo2 * te.size) (k * te.size)).length = k * te.size := by simp [vals]
        have hnd : ∀ p q, p < k → q < te.size → DRep w (XS C s η) ((vals c (lo2 * te.size) (k * te.size)).getD (p * te.size + q) undef) ((f (lo2 + p)).getD q .any) := by
          intro p q hp hq
          have hlt : p * te.size + q < k * te.size := by
            have : (p + 1) * te.size ≤ k * te.size := Nat.mul_le_mul_right _ hp
            rw [Nat.add_mul, Nat.one_mul] at this; omega
          have e1 : (vals c (lo2 * te.size) (k * te.size)).getD (p * te.size + q) undef = c.getD (lo2 * te.size + (p * te.size + q)) undef := by simp [vals, List.getD_eq_getElem?_getD, hlt]
          have e2 : lo2 * te.size + (p * te.size + q) = (lo2 + p) * te.size + q := by rw [Nat.add_mul]; omega
          rw [e1, e2]; exact h7 _ _ (by omega) hq
        have hncell : ∀ j u, (vals c (lo2 * te.size) (k * te.size))[j]? = some u → w.cell? ((⟨b, lo2 * te.size, none⟩ : Addr).add j) = some u := by
          intro j u hj
          simp only [vals, List.getElem?_map] at hj
          by_cases hjj : j < k * te.size
          · rw [List.getElem?_range hjj] at hj
            cases hj
            rw [add_lit]; exact cell_at h2 _ (by omega)
          · rw [List.getElem?_eq_none (by simp; omega)] at hj; cases hj
        have hone : ∀ u ∈ vals c (lo2 * te.size) (k * te.size), u.oneCell' = true := by
          intro u hu
          obtain ⟨j, hj, rfl⟩ := List.getElem_of_mem hu
          rw [hnl] at hj
          have hes : 0 < te.size := by
            rcases Nat.eq_zero_or_pos te.size with hz | hz
            · rw [hz, Nat.mul_zero] at hj; omega
            · exact hz
          have p1 : j / te.size < k := Nat.div_lt_of_lt_mul (by rw [Nat.mul_comm]; exact hj)
          have p2 : j % te.size < te.size := Nat.mod_lt _ hes
          have := (hnd _ _ p1 p2).one
          rw [show j / te.size * te.size + j % te.size = j from by rw [Nat.mul_comm]; exact Nat.div_add_mod j te.size] at this
          simpa [hnl, hj] using this
        have hfc := run_firstCells_some (P := P) w i2.size k ⟨b, lo2 * te.size, none⟩ k (cap' - lo2) (vals c (lo2 * te.size) (k * te.size)) (by rw [hte'.size]; exact hnl) hncell
        have hfit : lo * te.size + n * te.size + 0 + (vals c (lo2 * te.size) (k * te.size)).length ≤ c.size := by
          rw [hnl, h3, Nat.add_zero, ← Nat.add_mul, ← Nat.add_mul]; exact Nat.mul_le_mul_right _ (by omega)
        have hst2 := run_storeCells_at P b (lo * te.size + n * te.size) e' (vals c (lo2 * te.size) (k * te.size)) 0 c w h2 hfit hone
        simp only [Nat.add_zero] at hst2
        have hroom : n + k ≤ cap' - lo := by omega
        have hadd : (lo + n) * te.size = lo * te.size + n * te.size := Nat.add_mul _ _ _
        have hrun := hexec (v := .slice (some ⟨b, lo * te.size, none⟩) (n + k) (cap' - lo)) (w' := w.setRow b (c.toList.take (lo * te.size + n * te.size) ++ vals c (lo2 * te.size) (k * te.size) ++ c.toList.drop (lo * te.size + n * te.size + (vals c (lo2 * te.size) (k * te.size)).length)).toArray) (by
          rw [ev, ev2]
          rw [hte'.size] at hfc
          simp [Builtin.append_, run_underlying hti.und, sizeOf, typeInfo, hte'.info, hte'.size, Builtin.lenOf, hroom, hfc, Addr.add_lit, hst2])
        rw [← hadd] at hrun
        refine snd_updw h hd hs rfl rfl (by simp [Obj.refs]) (setRow_vstp h1 (by omega) _) hrun (fun X' hX => ?_) (fun X' => hrep X' hvo') hR
        exact put_obj hX h1 h2 h3 h4 h5 (by omega) h6 h7 hc hnl (fun i hi => h6 _ (by omega)) hnd

end
end Go.Ab
end

section
/- Views as steps of a region; a view handed back as a list. -/
namespace Go.Ab
section
variable {P : Program} {C : Ctx} {nt : Nat} {L : Lay} {ops : Array Oper} {ds : List Dir} {e : Env} {s : Sto}

def rE (r : SR) : Array Oper → Oper → Env → Eff := fun ops o e => effRun ops o e r r.v

theorem stT_snd {o : Oper} (hdo : dstOk nt o = true) {r : SR} (hg : gval ops e o = some true)
    (hsnd : ∀ (R : Nat → Prop) (η : Nat → Value) (e0 : Env) (s0 : Sto) (a : Act) (w : World), (∀ x ∈ o.op.operands.toList, aev e0 x = aev e x) → (∀ x ∈ o.op.operands.toList, ∀ i ∈ (aev e x).refs, s0 i = s i) → (∀ d, o.dst = some d → r.new ≠ none → ¬ R d) →
      Conc C nt R η e0 s0 a w → Snd P C nt R η e0 s0 a w o r) : StT P C nt ops o (effRun ops o e r r.v) e s := by
  intro R η e0 s0 a w hrd hids hfr hconc K Q hK
  have hx : ∀ x ∈ o.op.operands.toList, aev e0 x = aev e x := by
    intro x hx
    cases x with
    | tmp t => exact hrd t (List.mem_append.2 (.inl (List.mem_filterMap.2 ⟨_, hx, rfl⟩)))
    | const v => rfl
    | global g => rfl
    | func f => rfl
  have hsx : ∀ x ∈ o.op.operands.toList, ∀ i ∈ (aev e x).refs, s0 i = s i := fun x hx i hi => hids i (List.mem_flatMap.2 ⟨x, hx, hi⟩)
  have hw := wanted_of (e := e) hconc (fun t ht => hrd t (List.mem_append.2 (.inr ht))) hg
  rw [if_pos hw]
  have h1 := hsnd R η e0 s0 a w hx hsx (fun d hd hn => hfr d (by
    obtain ⟨ob, hob⟩ := Option.ne_none_iff_exists'.1 hn
    simp [effRun, SR.nw, hob, hd])) hconc
  refine h1.wp fun η' a' w' hc' => hK η' a' w' ?_
  have hc2 := hc'.wider (sr_rng r o.dst R)
  have hsto : upS (effRun ops o e r r.v).l s0 = r.sto o.dst s0 := sr_sto r o.dst s0
  rw [hsto]
  have henv : setE o.dst (effRun ops o e r r.v).v e0 = r.env o.dst e0 := rfl
  rw [henv]
  exact hc2

theorem asV_local {s0 : Sto} {es : Nat} {x : AVal} (h : ∀ i ∈ x.refs, s0 i = s i) : asV s0 es x = asV s es x := by
  unfold asV
  split
  · rw [h _ (by simp [AVal.refs, TV.refs, CV.refs])]
  · rfl
  · rfl

theorem asV_ref {es : Nat} {x : AVal} {id lo n : Nat} (h : asV s es x = some (id, lo, n)) : id ∈ x.refs := by
  unfold asV at h
  split at h
  · split at h
    · split at h
      · cases h; simp [AVal.refs, TV.refs, CV.refs]
      · cases h
    · cases h
  · split at h
    · cases h; simp [AVal.refs, TV.refs, CV.refs]
    · cases h
  · cases h

/-- a slice type and its elements -/
def slT (L : Lay) (t : TypeId) (te : TI) : Prop := ∃ ti el, L t = some ti ∧ ti.kind = .slice el ∧ L el = some te

variable {k : Nat}
theorem KAt.vslice (hL : LOk P L) {te : TI} {t : TypeId} (hT : slT L t te) {x : Operand} {lo hi : Option Operand} {l u : Option Int} {id lo0 n N : Nat} {f : Nat → List DVal} {r : AVal}
    (hk : dirAt ds k = rE { v := r }) (hop : (opAt ops.toList k).op = .slice t x lo hi none)
    (hdo : (dstOk nt (opAt ops.toList k) && (gval ops (arunE L ops ops.toList ds e s k) (opAt ops.toList k) == some true)) = true)
    (hl : oI (arunE L ops ops.toList ds e s k) lo = some l) (hu : oI (arunE L ops ops.toList ds e s k) hi = some u)
    (hx : asV (arunS L ops ops.toList ds e s k) te.size (aev (arunE L ops ops.toList ds e s k) x) = some (id, lo0, n)) (hs : arunS L ops ops.toList ds e s k id = some (.arr te.size N f))
    (hc : 0 ≤ l.getD 0 ∧ l.getD 0 ≤ u.getD n ∧ (lo0 : Int) + u.getD n ≤ N) (hr : r = .v (.c (.sub id te.size (lo0 + (l.getD 0).toNat) ((u.getD n).toNat - (l.getD 0).toNat)))) : KAt P C nt L ops ds e s k := by
  unfold KAt
  rw [hk]
  simp only [Bool.and_eq_true, beq_iff_eq] at hdo
  obtain ⟨ti, el, ht, hkd, hte⟩ := hT
  refine stT_snd hdo.1 hdo.2 fun R η e0 s0 a w he hss _ hcc => ?_
  have ho : ∀ y, (y = x ∨ lo = some y ∨ hi = some y) → y ∈ (opAt ops.toList k).op.operands.toList := by
    intro y hy
    rw [hop]
    rcases hy with h | h | h
    · subst h; simp [Op.operands]
    · subst h; simp [Op.operands, optional]
    · subst h; simp [Op.operands, optional]
  have hx0 : asV s0 te.size (aev e0 x) = some (id, lo0, n) := by
    rw [he x (ho x (.inl rfl)), asV_local (hss x (ho x (.inl rfl)))]; exact hx
  have hs0 : s0 id = some (.arr te.size N f) := by rw [hss x (ho x (.inl rfl)) id (asV_ref hx)]; exact hs
  have hl0 : oI e0 lo = some l := by rw [oI_local fun y hy => he y (ho y (.inr (.inl hy)))]; exact hl
  have hu0 : oI e0 hi = some u := by rw [oI_local fun y hy => he y (ho y (.inr (.inr hy)))]; exact hu
  rw [hr]
  exact snd_vslice hL hcc (fun d hd => dst_lt hdo.1 d hd) hop ht hkd hte hl0 hu0 hx0 hs0 hc

theorem KAt.vslice3 (hL : LOk P L) {te : TI} {t : TypeId} (hT : slT L t te) {x ol oh om : Operand} {l u m : Int} {id lo0 n N : Nat} {f : Nat → List DVal}
    (hk : dirAt ds k = rE { v := .any }) (hop : (opAt ops.toList k).op = .slice t x (some ol) (some oh) (some om))
    (hdo : (dstOk nt (opAt ops.toList k) && (gval ops (arunE L ops ops.toList ds e s k) (opAt ops.toList k) == some true)) = true)
    (hl : asI (aev (arunE L ops ops.toList ds e s k) ol) = some l) (hu : asI (aev (arunE L ops ops.toList ds e s k) oh) = some u) (hm : asI (aev (arunE L ops ops.toList ds e s k) om) = some m)
    (hx : asV (arunS L ops ops.toList ds e s k) te.size (aev (arunE L ops ops.toList ds e s k) x) = some (id, lo0, n)) (hs : arunS L ops ops.toList ds e s k id = some (.arr te.size N f))
    (hc : 0 ≤ l ∧ l ≤ u ∧ u ≤ m ∧ m ≤ n) : KAt P C nt L ops ds e s k := by
  unfold KAt
  rw [hk]
  simp only [Bool.and_eq_true, beq_iff_eq] at hdo
  obtain ⟨ti, el, ht, hkd, hte⟩ := hT
  refine stT_snd hdo.1 hdo.2 fun R η e0 s0 a w he hss _ hcc => ?_
  have ho : ∀ y, (y = x ∨ y = ol ∨ y = oh ∨ y = om) → y ∈ (opAt ops.toList k).op.operands.toList := by
    intro y hy
    rw [hop]
    rcases hy with rfl | rfl | rfl | rfl <;> simp [Op.operands, optional]
  have hx0 : asV s0 te.size (aev e0 x) = some (id, lo0, n) := by
    rw [he x (ho x (.inl rfl)), asV_local (hss x (ho x (.inl rfl)))]; exact hx
  have hs0 : s0 id = some (.arr te.size N f) := by rw [hss x (ho x (.inl rfl)) id (asV_ref hx)]; exact hs
  rw [← he ol (ho ol (by simp))] at hl
  rw [← he oh (ho oh (by simp))] at hu
  rw [← he om (ho om (by simp))] at hm
  exact snd_vslice3 hL hcc (fun d hd => dst_lt hdo.1 d hd) hop ht hkd hte hl hu hm hx0 hs0 hc

theorem KAt.vlen (hL : LOk P L) {te : TI} {t : TypeId} (hT : slT L t te) {x : Operand} {es id lo0 n N : Nat} {f : Nat → List DVal}
    (hk : dirAt ds k = rE { v := vi n }) (hop : (opAt ops.toList k).op = .call { callee := .builtin .len, args := #[x], argTypes := #[t] })
    (hdo : (dstOk nt (opAt ops.toList k) && (gval ops (arunE L ops ops.toList ds e s k) (opAt ops.toList k) == some true)) = true)
    (hx : asV (arunS L ops ops.toList ds e s k) es (aev (arunE L ops ops.toList ds e s k) x) = some (id, lo0, n)) (hs : arunS L ops ops.toList ds e s k id = some (.arr es N f)) : KAt P C nt L ops ds e s k := by
  unfold KAt
  rw [hk]
  simp only [Bool.and_eq_true, beq_iff_eq] at hdo
  obtain ⟨ti, el, ht, hkd, hte⟩ := hT
  refine stT_snd hdo.1 hdo.2 fun R η e0 s0 a w he hss _ hcc => ?_
  have ho : x ∈ (opAt ops.toList k).op.operands.toList := by rw [hop]; simp [Op.operands, Call.operands]
  have hx0 : asV s0 es (aev e0 x) = some (id, lo0, n) := by
    rw [he x ho, asV_local (hss x ho)]; exact hx
  have hs0 : s0 id = some (.arr es N f) := by rw [hss x ho id (asV_ref hx)]; exact hs
  exact snd_vlen hL hcc (fun d hd => dst_lt hdo.1 d hd) hop ht hkd hx0 hs0

theorem KAt.vindex (hL : LOk P L) {te : TI} {t : TypeId} (hT : slT L t te) {x i : Operand} {m : Int} {id lo0 n N : Nat} {f : Nat → List DVal} {r : AVal}
    (hk : dirAt ds k = rE { v := r }) (hop : (opAt ops.toList k).op = .indexAddr t x i)
    (hdo : (dstOk nt (opAt ops.toList k) && (gval ops (arunE L ops ops.toList ds e s k) (opAt ops.toList k) == some true)) = true)
    (hi : asI (aev (arunE L ops ops.toList ds e s k) i) = some m)
    (hx : asV (arunS L ops ops.toList ds e s k) te.size (aev (arunE L ops ops.toList ds e s k) x) = some (id, lo0, n)) (hs : arunS L ops ops.toList ds e s k id = some (.arr te.size N f))
    (hc : 0 ≤ m ∧ m < n) (hr : r = .v (.c (.pte id te.size (lo0 + m.toNat) 0))) : KAt P C nt L ops ds e s k := by
  unfold KAt
  rw [hk]
  simp only [Bool.and_eq_true, beq_iff_eq] at hdo
  obtain ⟨ti, el, ht, hkd, hte⟩ := hT
  refine stT_snd hdo.1 hdo.2 fun R η e0 s0 a w he hss _ hcc => ?_
  have ho : x ∈ (opAt ops.toList k).op.operands.toList := by rw [hop]; simp [Op.operands]
  have ho2 : i ∈ (opAt ops.toList k).op.operands.toList := by rw [hop]; simp [Op.operands]
  have hx0 : asV s0 te.size (aev e0 x) = some (id, lo0, n) := by
    rw [he x ho, asV_local (hss x ho)]; exact hx
  have hs0 : s0 id = some (.arr te.size N f) := by rw [hss x ho id (asV_ref hx)]; exact hs
  rw [← he i ho2] at hi
  rw [hr]
  exact snd_vindex hL hcc (fun d hd => dst_lt hdo.1 d hd) hop ht hkd hte hi hx0 hs0 hc

theorem KAt.vclear (hL : LOk P L) {te : TI} {t : TypeId} (hT : slT L t te) {x : Operand} {id lo0 n N : Nat} {f g : Nat → List DVal} (zd0 zd : List DVal) (hle : DLes zd0 zd)
    (hk : dirAt ds k = rE { v := .any, upd := some (id, .arr te.size N g) }) (hop : (opAt ops.toList k).op = .call { callee := .builtin .clear, args := #[x], argTypes := #[t] })
    (hdo : (dstOk nt (opAt ops.toList k) && (gval ops (arunE L ops ops.toList ds e s k) (opAt ops.toList k) == some true)) = true) (h0 : 0 < te.size) (hzl : te.zero.length = te.size) (hz : toDs te.zero = some zd0)
    (hx : asV (arunS L ops ops.toList ds e s k) te.size (aev (arunE L ops ops.toList ds e s k) x) = some (id, lo0, n)) (hs : arunS L ops ops.toList ds e s k id = some (.arr te.size N f))
    (hg : g = fun i => if lo0 ≤ i ∧ i < lo0 + n then (fun _ => zd) (i - lo0) else f i) : KAt P C nt L ops ds e s k := by
  unfold KAt
  rw [hk, hg]
  simp only [Bool.and_eq_true, beq_iff_eq] at hdo
  obtain ⟨ti, el, ht, hkd, hte⟩ := hT
  refine stT_snd hdo.1 hdo.2 fun R η e0 s0 a w he hss _ hcc => ?_
  have ho : x ∈ (opAt ops.toList k).op.operands.toList := by rw [hop]; simp [Op.operands, Call.operands]
  have hx0 : asV s0 te.size (aev e0 x) = some (id, lo0, n) := by
    rw [he x ho, asV_local (hss x ho)]; exact hx
  have hs0 : s0 id = some (.arr te.size N f) := by rw [hss x ho id (asV_ref hx)]; exact hs
  exact snd_vclear hL hcc (fun d hd => dst_lt hdo.1 d hd) hop ht hkd hte h0 hzl hz hle hx0 hs0

theorem KAt.vappend (hL : LOk P L) {te : TI} {t : TypeId} (hT : slT L t te) {x y : Operand} {id lo0 n lo2 m N : Nat} {f g : Nat → List DVal} {r : AVal}
    (hk : dirAt ds k = rE { v := r, upd := some (id, .arr te.size N g) }) (hop : (opAt ops.toList k).op = .call { callee := .builtin .append, args := #[x, y], argTypes := #[t, t] })
    (hdo : (dstOk nt (opAt ops.toList k) && (gval ops (arunE L ops ops.toList ds e s k) (opAt ops.toList k) == some true)) = true)
    (hx : asV (arunS L ops ops.toList ds e s k) te.size (aev (arunE L ops ops.toList ds e s k) x) = some (id, lo0, n)) (hy : asV (arunS L ops ops.toList ds e s k) te.size (aev (arunE L ops ops.toList ds e s k) y) = some (id, lo2, m))
    (hs : arunS L ops ops.toList ds e s k id = some (.arr te.size N f)) (hc : lo0 + n + m ≤ N) (hr : r = .v (.c (.sub id te.size lo0 (n + m))))
    (hg : g = fun i => if lo0 + n ≤ i ∧ i < lo0 + n + m then (fun j => f (lo2 + j)) (i - (lo0 + n)) else f i) : KAt P C nt L ops ds e s k := by
  unfold KAt
  rw [hk, hg, hr]
  simp only [Bool.and_eq_true, beq_iff_eq] at hdo
  obtain ⟨ti, el, ht, hkd, hte⟩ := hT
  refine stT_snd hdo.1 hdo.2 fun R η e0 s0 a w he hss _ hcc => ?_
  have ho : x ∈ (opAt ops.toList k).op.operands.toList := by rw [hop]; simp [Op.operands, Call.operands]
  have ho2 : y ∈ (opAt ops.toList k).op.operands.toList := by rw [hop]; simp [Op.operands, Call.operands]
  have hx0 : asV s0 te.size (aev e0 x) = some (id, lo0, n) := by
    rw [he x ho, asV_local (hss x ho)]; exact hx
  have hy0 : asV s0 te.size (aev e0 y) = some (id, lo2, m) := by
    rw [he y ho2, asV_local (hss y ho2)]; exact hy
  have hs0 : s0 id = some (.arr te.size N f) := by rw [hss x ho id (asV_ref hx)]; exact hs
  exact snd_vappend hL hcc (fun d hd => dst_lt hdo.1 d hd) hop ht hkd hte hx0 hy0 hs0 hc
end
end Go.Ab
end

section
/- A view from the first element on, taken as a list by itself. -/
namespace Go.Ab
section
variable {P : Program} {C : Ctx} {nt : Nat} {L : Lay} {pins : List Nat} {K : Act → World → Prop}

theorem ls_cons (k : Nat) (o : Obj) (S : List (Nat × Obj)) (i : Nat) : ls ((k, o) :: S) i = if i = k then some o else ls S i := by
  unfold ls
  rw [List.lookup_cons]
  by_cases h : i = k
  · subst h; simp
  · have : (i == k) = false := by simpa using h
    rw [this, if_neg h]
theorem lk_cons (k : Nat) (o : AVal) (E : List (Nat × AVal)) (i : Nat) : lk ((k, o) :: E) i = if i = k then o else lk E i := by
  unfold lk
  rw [List.lookup_cons]
  by_cases h : i = k
  · subst h; simp
  · have : (i == k) = false := by simpa using h
    rw [this, if_neg h]

theorem Kn.shrink (Fm : Fr P L C pins) {E0 : List (Nat × AVal)} {S0 : List (Nat × Obj)} {t id es N n k : Nat} {f : Nat → List DVal} (hp : pins.contains k = false)
    (hfr : ((E0.flatMap fun p => p.2.refs) ++ (S0.flatMap fun p => p.1 :: p.2.refs)).contains k = false) (hid : (S0.map (·.1)).contains id = false)
    (hk : Kn C nt ((t, .v (.c (.own k))) :: E0) ((k, .arr es n f) :: S0) K) : Kn C nt ((t, .v (.c (.sub id es 0 n))) :: E0) ((id, .arr es N f) :: S0) K := by
  intro R η a w hc
  have hsid : ls ((id, .arr es N f) :: S0) id = some (.arr es N f) := by rw [ls_cons, if_pos rfl]
  have hv0 := hc.ev t
  rw [lk_cons, if_pos rfl] at hv0
  have hst := hc.st id _ hsid
  generalize hvv : a.tmps.getD t undef = v at hv0
  -- the value and its block
  have hval : (blk v = none ∨ (blk v = blk (η id) ∧ n ≤ N)) ∧ v.oneCell' = true ∧ (∀ X', Kept w w (XS C (ls ((id, .arr es N f) :: S0)) η) X' → ORep w X' η C v (.arr es n f)) := by
    cases hv0 with | v _ _ hv0 => cases hv0 with | c _ _ hv0 => cases hv0 with
      | sub b N' cap _ _ _ _ hη h1 h2 =>
        rw [hη] at hst ⊢
        cases hst with
        | nil => omega
        | arr _ _ _ _ c e' _ g1 g2 g3 g4 g5 g6 g7 =>
          refine ⟨.inr ⟨by simp [blk], by omega⟩, rfl, fun X' hX => ?_⟩
          rw [Nat.zero_mul, Nat.sub_zero]
          exact .arr b n cap es c e' f g1 g2 (by omega) g4 g5 (fun i hi => g6 i (by omega)) fun i j hi hj => (g7 i j (by omega) hj).mono fun x hx hn => hX x hx hn
      | subN ad ad' N' _ _ hη => exact ⟨.inl (by cases ad' <;> simp [blk]), rfl, fun X' _ => .nil _ _ _⟩
  obtain ⟨hblk, hone, horep⟩ := hval
  have hpin : C.pin k = none := by
    rcases hq : C.pin k with _ | u
    · rfl
    · have := Fm.pin k (by rw [hq]; simp)
      rw [List.contains_iff_mem.2 this] at hp; cases hp
  have hnk : ∀ i ∈ (E0.flatMap fun p => p.2.refs) ++ (S0.flatMap fun p => p.1 :: p.2.refs), i ≠ k := by
    intro i hi he
    subst he
    rw [List.contains_iff_mem.2 hi] at hfr; cases hfr
  have hS0 : ∀ i o, ls S0 i = some o → i ≠ k ∧ i ≠ id ∧ (∀ j ∈ o.refs, j ≠ k) ∧ ls ((id, .arr es N f) :: S0) i = some o := by
    intro i o hi
    have hm := ls_mem hi
    have hne : i ≠ id := by
      intro he; subst he
      have : i ∈ S0.map (·.1) := List.mem_map.2 ⟨_, hm, rfl⟩
      rw [List.contains_iff_mem.2 this] at hid; cases hid
    refine ⟨hnk i (List.mem_append.2 (.inr (List.mem_flatMap.2 ⟨_, hm, by simp⟩))), hne, fun j hj => hnk j (List.mem_append.2 (.inr (List.mem_flatMap.2 ⟨_, hm, by simp [hj]⟩))), ?_⟩
    rw [ls_cons, if_neg hne]; exact hi
  have hE0 : ∀ u i, i ∈ (lk E0 u).refs → i ≠ k := by
    intro u i hi
    rcases lk_mem (E := E0) (t := u) with h0 | h0
    · rw [h0] at hi; cases hi
    · exact hnk i (List.mem_append.2 (.inl (List.mem_flatMap.2 ⟨_, h0, hi⟩)))
  let η' : Nat → Value := fun i => if i = k then v else η i
  have hη' : ∀ i, i ≠ k → η' i = η i := fun i hi => by show (if i = k then v else η i) = _; rw [if_neg hi]
  have hηk : η' k = v := by show (if k = k then v else η k) = _; rw [if_pos rfl]
  have hown : ∀ b, Own (ls ((k, .arr es n f) :: S0)) η' b → Own (ls ((id, .arr es N f) :: S0)) η b := by
    rintro b ⟨i, o, hi, hib⟩
    rw [ls_cons] at hi
    by_cases hik : i = k
    · subst hik
      rw [hηk] at hib
      rcases hblk with h0 | ⟨h0, _⟩
      · rw [h0] at hib; cases hib
      · exact ⟨id, _, hsid, h0 ▸ hib⟩
    · rw [if_neg hik] at hi
      rw [hη' i hik] at hib
      exact ⟨i, o, (hS0 i o hi).2.2.2, hib⟩
  have hX : Kept w w (XS C (ls ((id, .arr es N f) :: S0)) η) (XS C (ls ((k, .arr es n f) :: S0)) η') := by
    intro b hb hn
    refine ⟨rfl, fun hx => ?_⟩
    rcases hx with hx | hx
    · exact hn (.inl hx)
    · exact hn (.inr (hown b hx))
  refine hk (fun i => R i ∨ i = k) η' a w ⟨hc.ok, hc.df, hc.sz, fun u => ?_, fun u i hi => ?_, fun i o hi => ?_, fun i o hi => ?_, fun i j b hi hj hbi hbj => ?_, fun i o b hi hb => ?_, hc.fr, fun i u hi => ?_⟩
  · rw [lk_cons]
    by_cases hu : u = t
    · subst hu
      rw [if_pos rfl]
      rw [hvv]
      exact .v _ _ (.c _ _ (.own _ _ hηk.symm hone))
    · rw [if_neg hu]
      have := hc.ev u
      rw [lk_cons, if_neg hu] at this
      exact this.mono hX fun i hi => hη' i (hE0 u i hi)
  · rw [lk_cons] at hi
    by_cases hu : u = t
    · subst hu
      rw [if_pos rfl] at hi
      simp [AVal.refs, TV.refs, CV.refs] at hi
      exact .inr hi
    · rw [if_neg hu] at hi
      have := hc.er u i
      rw [lk_cons, if_neg hu] at this
      exact .inl (this hi)
  · rw [ls_cons] at hi
    by_cases hik : i = k
    · subst hik
      rw [if_pos rfl] at hi; cases hi
      rw [hηk]
      have := horep _ hX
      refine this.mono (fun b hb hn => ⟨rfl, hn⟩) (by simp [Obj.refs]) fun _ _ => rfl
    · rw [if_neg hik] at hi
      obtain ⟨h1, h2, h3, h4⟩ := hS0 i o hi
      rw [hη' i hik]
      exact (hc.st i o h4).mono hX (fun j hj => hη' j (h3 j hj)) fun _ _ => rfl
  · rw [ls_cons] at hi
    by_cases hik : i = k
    · subst hik
      rw [if_pos rfl] at hi; cases hi
      exact ⟨.inr rfl, by simp [Obj.refs]⟩
    · rw [if_neg hik] at hi
      obtain ⟨h1, h2, h3, h4⟩ := hS0 i o hi
      have := hc.sr i o h4
      exact ⟨.inl this.1, fun j hj => .inl (this.2 j hj)⟩
  · rw [ls_cons] at hi hj
    by_cases hik : i = k <;> by_cases hjk : j = k
    · rw [hik, hjk]
    · exfalso
      rw [if_neg hjk] at hj
      obtain ⟨o, ho⟩ := Option.ne_none_iff_exists'.1 hj
      obtain ⟨h1, h2, h3, h4⟩ := hS0 j o ho
      rw [hik, hηk] at hbi
      rw [hη' j hjk] at hbj
      rcases hblk with h0 | ⟨h0, _⟩
      · rw [h0] at hbi; cases hbi
      · exact h2 (hc.ds j id b (by rw [h4]; simp) (by rw [hsid]; simp) hbj (h0 ▸ hbi))
    · exfalso
      rw [if_neg hik] at hi
      obtain ⟨o, ho⟩ := Option.ne_none_iff_exists'.1 hi
      obtain ⟨h1, h2, h3, h4⟩ := hS0 i o ho
      rw [hjk, hηk] at hbj
      rw [hη' i hik] at hbi
      rcases hblk with h0 | ⟨h0, _⟩
      · rw [h0] at hbj; cases hbj
      · exact h2 (hc.ds i id b (by rw [h4]; simp) (by rw [hsid]; simp) hbi (h0 ▸ hbj))
    · rw [if_neg hik] at hi
      rw [if_neg hjk] at hj
      obtain ⟨o, ho⟩ := Option.ne_none_iff_exists'.1 hi
      obtain ⟨o', ho'⟩ := Option.ne_none_iff_exists'.1 hj
      rw [hη' i hik] at hbi
      rw [hη' j hjk] at hbj
      exact hc.ds i j b (by rw [(hS0 i o ho).2.2.2]; simp) (by rw [(hS0 j o' ho').2.2.2]; simp) hbi hbj
  · rw [ls_cons] at hi
    by_cases hik : i = k
    · subst hik
      rw [if_pos rfl] at hi; cases hi
      rw [hηk] at hb
      rcases hblk with h0 | ⟨h0, _⟩
      · rw [h0] at hb; cases hb
      · rcases hc.ow id _ b hsid (h0 ▸ hb) with ⟨h1, _⟩ | h1
        · cases h1
        · exact .inr h1
    · rw [if_neg hik] at hi
      rw [hη' i hik] at hb
      exact hc.ow i o b (hS0 i o hi).2.2.2 hb
  · have hik : i ≠ k := by intro he; subst he; rw [hpin] at hi; cases hi
    have := hc.pn i u hi
    exact ⟨(hη' i hik).trans this.1, .inl this.2⟩
end
end Go.Ab
end

section
/- Lists of runs: a step function is written as runs in one way only. -/
namespace Go.Ab

structure Rn (α : Type) where
  lo : Int
  hi : Int
  v : α

def Rn.R {α : Type} (a b : Rn α) : Prop := a.hi ≤ b.lo ∧ (a.hi = b.lo → a.v ≠ b.v)

structure Runs {α : Type} (l : List (Rn α)) : Prop where
  pos : ∀ r ∈ l, r.lo < r.hi
  ch : l.Pairwise Rn.R

def atR {α : Type} (d : α) : List (Rn α) → Int → α
  | [], _ => d
  | r :: l, t => if r.lo ≤ t ∧ t < r.hi then r.v else atR d l t

section
variable {α : Type} {d : α}

theorem atR_out {l : List (Rn α)} {t : Int} (h : ∀ r ∈ l, ¬ (r.lo ≤ t ∧ t < r.hi)) : atR d l t = d := by
  induction l with
  | nil => rfl
  | cons r l ih =>
    rw [atR, if_neg (h r (by simp)), ih fun q hq => h q (by simp [hq])]

theorem atR_append {l m : List (Rn α)} {t : Int} : atR d (l ++ m) t = if ∃ r ∈ l, r.lo ≤ t ∧ t < r.hi then atR d l t else atR d m t := by
  induction l with
  | nil => simp
  | cons r l ih =>
    rw [List.cons_append, atR, atR]
    by_cases h : r.lo ≤ t ∧ t < r.hi
    · rw [if_pos h, if_pos ⟨r, by simp, h⟩, if_pos h]
    · rw [if_neg h, ih, if_neg h]
      have e : (∃ q ∈ r :: l, q.lo ≤ t ∧ t < q.hi) ↔ ∃ q ∈ l, q.lo ≤ t ∧ t < q.hi := by
        constructor
        · rintro ⟨q, hq, hh⟩
          rcases List.mem_cons.1 hq with rfl | hq
          · exact absurd hh h
          · exact ⟨q, hq, hh⟩
        · rintro ⟨q, hq, hh⟩; exact ⟨q, by simp [hq], hh⟩
      simp only [e]

theorem Runs.tail {a : Rn α} {l : List (Rn α)} (h : Runs (a :: l)) : Runs l := ⟨fun r hr => h.pos r (by simp [hr]), (List.pairwise_cons.1 h.ch).2⟩
theorem Runs.head {a : Rn α} {l : List (Rn α)} (h : Runs (a :: l)) : ∀ r ∈ l, a.R r := (List.pairwise_cons.1 h.ch).1
theorem Runs.nil : Runs ([] : List (Rn α)) := ⟨fun r hr => by simp at hr, .nil⟩

theorem atR_next {a : Rn α} (hd : a.v ≠ d) : ∀ {l : List (Rn α)}, (∀ r ∈ l, a.R r) → atR d l a.hi ≠ a.v := by
  intro l
  induction l with
  | nil => intro _ h; exact hd h.symm
  | cons r l ih =>
    intro h
    rw [atR]
    split
    · rename_i hr
      obtain ⟨h1, h2⟩ := h r (by simp)
      exact fun e => h2 (by omega) e.symm
    · exact ih fun q hq => h q (by simp [hq])

theorem Runs.unique {l : List (Rn α)} : ∀ {m : List (Rn α)}, Runs l → Runs m → (∀ r ∈ l, r.v ≠ d) → (∀ r ∈ m, r.v ≠ d) → (∀ t, atR d l t = atR d m t) → l = m := by
  have before : ∀ {a : Rn α} {l : List (Rn α)}, Runs (a :: l) → ∀ t, t < a.hi → atR d l t = d := fun {a l} h t ht => atR_out fun r hr => by have := (h.head r hr).1; omega
  have before' : ∀ {a : Rn α} {l : List (Rn α)}, Runs (a :: l) → ∀ t, t < a.lo → atR d (a :: l) t = d := fun {a l} h t ht => by
    rw [atR, if_neg (by omega)]; exact before h t (by have := h.pos a (by simp); omega)
  have first : ∀ {a : Rn α} {l : List (Rn α)}, Runs (a :: l) → atR d (a :: l) a.lo = a.v := fun {a l} h => by
    have := h.pos a (by simp)
    rw [atR, if_pos ⟨by omega, this⟩]
  induction l with
  | nil =>
    intro m hl hm dl dm h
    cases m with
    | nil => rfl
    | cons b m =>
      have := h b.lo
      rw [first hm] at this
      exact absurd this.symm (dm b (by simp))
  | cons a l ih =>
    intro m hl hm dl dm h
    cases m with
    | nil =>
      have := h a.lo
      rw [first hl] at this
      exact absurd this (dl a (by simp))
    | cons b m =>
      have ha := dl a (by simp)
      have hb := dm b (by simp)
      have e1 : a.lo = b.lo := by
        rcases Int.lt_trichotomy a.lo b.lo with hlt | he | hlt
        · have := h a.lo
          rw [first hl, before' hm _ hlt] at this
          exact absurd this ha
        · exact he
        · have := h b.lo
          rw [first hm, before' hl _ hlt] at this
          exact absurd this.symm hb
      have e2 : a.v = b.v := by
        have := h a.lo
        rw [first hl, e1, first hm] at this
        exact this
      have pa := hl.pos a (by simp)
      have pb := hm.pos b (by simp)
      have e3 : a.hi = b.hi := by
        rcases Int.lt_trichotomy a.hi b.hi with hlt | he | hlt
        · have := h a.hi
          rw [atR, if_neg (by omega), atR, if_pos ⟨by omega, hlt⟩, ← e2] at this
          exact absurd this (atR_next ha hl.head)
        · exact he
        · have := h b.hi
          rw [atR, if_pos ⟨by omega, hlt⟩, atR, if_neg (by omega), e2] at this
          exact absurd this.symm (atR_next hb hm.head)
      have e : a = b := by cases a; cases b; simp_all
      subst e
      congr 1
      refine ih hl.tail hm.tail (fun r hr => dl r (by simp [hr])) (fun r hr => dm r (by simp [hr])) fun t => ?_
      by_cases ht : t < a.hi
      · rw [before hl t ht, before hm t ht]
      · have := h t
        rw [atR, if_neg (by omega), atR, if_neg (by omega)] at this
        exact this

/-- runs of the one value left out -/
theorem Runs.filter {l : List (Rn α)} (h : Runs l) (p : Rn α → Bool) : Runs (l.filter p) := ⟨fun r hr => h.pos r (List.mem_filter.1 hr).1, h.ch.filter p⟩
theorem Runs.atR_filter {l : List (Rn α)} (h : Runs l) (p : Rn α → Bool) (hp : ∀ r ∈ l, p r = false → r.v = d) (t : Int) : atR d (l.filter p) t = atR d l t := by
  induction l with
  | nil => rfl
  | cons a l ih =>
    have ih := ih h.tail fun r hr => hp r (by simp [hr])
    rw [List.filter_cons]
    split
    · rw [atR, atR, ih]
    · rename_i hpa
      rw [ih, atR]
      split
      · rename_i ht
        rw [hp a (by simp) (by simpa using hpa)]
        exact atR_out fun r hr => by have := (h.head r hr).1; omega
      · rfl

/-- the runs so far, up to c -/
structure Bst (d : α) (f : Int → α) (acc : List (Rn α)) (c : Int) : Prop where
  runs : Runs acc
  le : ∀ r ∈ acc, r.hi ≤ c
  val : ∀ t, t < c → atR d acc t = f t

theorem Bst.out {f : Int → α} {acc : List (Rn α)} {c : Int} (h : Bst d f acc c) (t : Int) (ht : c ≤ t) : atR d acc t = d := atR_out fun r hr => by have := h.le r hr; omega

theorem Bst.start {f : Int → α} {c : Int} (h : ∀ t, t < c → f t = d) : Bst d f [] c := ⟨.nil, fun r hr => by simp at hr, fun t ht => (h t ht).symm⟩

theorem Bst.skip {f : Int → α} {acc : List (Rn α)} {c c1 : Int} (h : Bst d f acc c) (hc : c ≤ c1) (hf : ∀ t, c ≤ t → t < c1 → f t = d) : Bst d f acc c1 :=
  ⟨h.runs, fun r hr => by have := h.le r hr; omega, fun t ht => by
    by_cases h1 : t < c
    · exact h.val t h1
    · rw [h.out t (by omega), hf t (by omega) ht]⟩

theorem Bst.add {f : Int → α} {acc : List (Rn α)} {c c1 : Int} (h : Bst d f acc c) (hc : c < c1) (hf : ∀ t, c ≤ t → t < c1 → f t = f c) (hl : ∀ a, acc.getLast? = some a → a.hi = c → a.v ≠ f c) :
    Bst d f (acc ++ [⟨c, c1, f c⟩]) c1 := by
  refine ⟨⟨fun r hr => ?_, ?_⟩, fun r hr => ?_, fun t ht => ?_⟩
  · rcases List.mem_append.1 hr with hr | hr
    · exact h.runs.pos r hr
    · rw [List.mem_singleton.1 hr]; exact hc
  · refine List.pairwise_append.2 ⟨h.runs.ch, List.pairwise_singleton _ _, fun a ha b hb => ?_⟩
    rw [List.mem_singleton.1 hb]
    refine ⟨h.le a ha, fun he => ?_⟩
    -- a is the last one
    refine hl a ?_ he
    obtain ⟨s, e, rfl⟩ := List.append_of_mem ha
    cases e with
    | nil => simp
    | cons q e =>
      have h1 := h.runs.ch
      rw [List.pairwise_append] at h1
      have h2 := (List.pairwise_cons.1 h1.2.1).1 q (by simp)
      have h3 := h.runs.pos q (by simp)
      have h4 := h.le q (by simp)
      have h5 := h2.1
      have he' : a.hi = c := he
      omega
  · rcases List.mem_append.1 hr with hr | hr
    · have := h.le r hr; omega
    · rw [List.mem_singleton.1 hr]; exact Int.le_refl _
  · rw [atR_append]
    by_cases h1 : t < c
    · split
      · exact h.val t h1
      · rename_i hn
        have e := h.val t h1
        rw [atR_out fun r hr hh => hn ⟨r, hr, hh⟩] at e
        rw [atR, if_neg (by simp only; omega), atR, e]
    · rw [if_neg, atR, if_pos ⟨by simp only; omega, ht⟩, hf t (by omega) ht]
      rintro ⟨r, hr, hh⟩
      have := h.le r hr; omega

theorem Bst.grow {f : Int → α} {s : List (Rn α)} {a : Rn α} {c c1 : Int} (h : Bst d f (s ++ [a]) c) (ha : a.hi = c) (hc : c < c1) (hf : ∀ t, c ≤ t → t < c1 → f t = a.v) :
    Bst d f (s ++ [⟨a.lo, c1, a.v⟩]) c1 := by
  have hp := h.runs.pos a (by simp)
  obtain ⟨q1, _, q3⟩ := List.pairwise_append.1 h.runs.ch
  refine ⟨⟨fun r hr => ?_, ?_⟩, fun r hr => ?_, fun t ht => ?_⟩
  · rcases List.mem_append.1 hr with hr | hr
    · exact h.runs.pos r (by simp [hr])
    · rw [List.mem_singleton.1 hr]; simp only; omega
  · refine List.pairwise_append.2 ⟨q1, List.pairwise_singleton _ _, fun b hb e he => ?_⟩
    rw [List.mem_singleton.1 he]
    exact q3 b hb a (by simp)
  · rcases List.mem_append.1 hr with hr | hr
    · have := h.le r (by simp [hr]); omega
    · rw [List.mem_singleton.1 hr]; exact Int.le_refl _
  · by_cases h1 : t < c
    · have := h.val t h1
      rw [atR_append] at this ⊢
      split
      · rename_i hh; rwa [if_pos hh] at this
      · rename_i hh
        rw [if_neg hh] at this
        rw [← this, atR, atR]
        have : (a.lo ≤ t ∧ t < c1) ↔ (a.lo ≤ t ∧ t < a.hi) := by omega
        simp only [this, atR]
    · rw [atR_append, if_neg, atR, if_pos ⟨by simp only; omega, ht⟩, hf t (by omega) ht]
      rintro ⟨r, hr, hh⟩
      have := h.le r (by simp [hr]); omega
end

/-! ## spans -/
structure Span where
  left_ : Int
  right_ : Int
  deriving DecidableEq

def Span.rn (s : Span) : Rn Bool := ⟨s.left_, s.right_, true⟩
def Span.has (s : Span) (x : Int) : Bool := decide (s.left_ ≤ x) && decide (x < s.right_)
def inS (l : List Span) (x : Int) : Bool := l.any fun s => s.has x

structure SpOk (l : List Span) : Prop where
  pos : ∀ s ∈ l, s.left_ < s.right_
  ch : l.Pairwise fun a b => a.right_ < b.left_

theorem inS_atR (l : List Span) (x : Int) : inS l x = atR false (l.map Span.rn) x := by
  induction l with
  | nil => rfl
  | cons s l ih =>
    rw [List.map_cons, atR, ← ih]
    simp only [inS, List.any_cons, Span.has, Span.rn]
    by_cases h : s.left_ ≤ x ∧ x < s.right_
    · simp [h.1, h.2]
    · by_cases h1 : s.left_ ≤ x
      · have : ¬ x < s.right_ := fun h2 => h ⟨h1, h2⟩
        simp [this]
      · simp [h1]

theorem SpOk.runs {l : List Span} (h : SpOk l) : Runs (l.map Span.rn) := by
  refine ⟨fun r hr => ?_, ?_⟩
  · obtain ⟨s, hs, rfl⟩ := List.mem_map.1 hr
    exact h.pos s hs
  · rw [List.pairwise_map]
    exact h.ch.imp fun {a b} hab => ⟨by show a.right_ ≤ b.left_; omega, fun e => by have e' : a.right_ = b.left_ := e; omega⟩

theorem SpOk.of_runs {l : List Span} (h : Runs (l.map Span.rn)) : SpOk l := by
  refine ⟨fun s hs => h.pos s.rn (List.mem_map.2 ⟨s, hs, rfl⟩), ?_⟩
  have := h.ch
  rw [List.pairwise_map] at this
  refine this.imp fun {a b} hab => ?_
  have h1 : a.right_ ≤ b.left_ := hab.1
  rcases Int.lt_or_lt_of_ne (fun e : a.right_ = b.left_ => hab.2 e rfl) with h2 | h2
  · exact h2
  · omega

theorem Span.rn_inj {a b : Span} (h : a.rn = b.rn) : a = b := by
  cases a; cases b; simp only [Span.rn, Rn.mk.injEq] at h; simp [h.1, h.2.1]

theorem SpOk.unique {l m : List Span} (hl : SpOk l) (hm : SpOk m) (h : ∀ x, inS l x = inS m x) : l = m := by
  have := Runs.unique (d := false) hl.runs hm.runs (fun r hr => by obtain ⟨s, _, rfl⟩ := List.mem_map.1 hr; simp [Span.rn]) (fun r hr => by obtain ⟨s, _, rfl⟩ := List.mem_map.1 hr; simp [Span.rn])
    fun t => by rw [← inS_atR, ← inS_atR, h]
  exact (List.map_inj_right fun a b e => Span.rn_inj e).1 this

/-! ## rectangles -/
structure Rect where
  left_ : Int
  low_ : Int
  right_ : Int
  high_ : Int
  deriving DecidableEq

def Rect.has (r : Rect) (x y : Int) : Bool := decide (r.left_ ≤ x) && decide (x < r.right_) && decide (r.low_ ≤ y) && decide (y < r.high_)
def inR (l : List Rect) (x y : Int) : Bool := l.any fun r => r.has x y

structure Bands (l : List (Rn (List Span))) : Prop where
  runs : Runs l
  sp : ∀ b ∈ l, SpOk b.v
  ne : ∀ b ∈ l, b.v ≠ []

def flat1 (b : Rn (List Span)) : List Rect := b.v.map fun s => ⟨s.left_, b.lo, s.right_, b.hi⟩
def flat (l : List (Rn (List Span))) : List Rect := l.flatMap flat1

theorem inR_append (l m : List Rect) (x y : Int) : inR (l ++ m) x y = (inR l x y || inR m x y) := by simp [inR]
theorem inR_flat1 (b : Rn (List Span)) (x y : Int) : inR (flat1 b) x y = ((decide (b.lo ≤ y) && decide (y < b.hi)) && inS b.v x) := by
  unfold inR flat1 inS
  rw [List.any_map]
  induction b.v with
  | nil => simp
  | cons s l ih =>
    rw [List.any_cons, List.any_cons, ih]
    simp only [Function.comp, Rect.has, Span.has]
    cases decide (b.lo ≤ y) <;> cases decide (y < b.hi) <;> simp

theorem Runs.inR_flat {l : List (Rn (List Span))} (h : Runs l) (x y : Int) : inR (flat l) x y = inS (atR [] l y) x := by
  induction l with
  | nil => rfl
  | cons b l ih =>
    have e : flat (b :: l) = flat1 b ++ flat l := rfl
    rw [e, inR_append, inR_flat1, ih h.tail, atR]
    by_cases hy : b.lo ≤ y ∧ y < b.hi
    · rw [if_pos hy, atR_out fun r hr => by have := (h.head r hr).1; omega]
      simp [hy.1, hy.2, inS]
    · rw [if_neg hy]
      have : (decide (b.lo ≤ y) && decide (y < b.hi)) = false := by simpa using hy
      simp [this]

theorem SpOk.at {l : List (Rn (List Span))} (h : ∀ b ∈ l, SpOk b.v) (y : Int) : SpOk (atR [] l y) := by
  induction l with
  | nil => exact ⟨fun s hs => by simp [atR] at hs, .nil⟩
  | cons b l ih =>
    rw [atR]
    split
    · exact h b (by simp)
    · exact ih fun b hb => h b (by simp [hb])

theorem Bands.unique {l m : List (Rn (List Span))} (hl : Bands l) (hm : Bands m) (h : ∀ x y, inS (atR [] l y) x = inS (atR [] m y) x) : l = m :=
  Runs.unique (d := []) hl.runs hm.runs hl.ne hm.ne fun y => SpOk.unique (SpOk.at hl.sp y) (SpOk.at hm.sp y) fun x => h x y

/-- squares that a list of bands has -/
def Fin (S : Int → Int → Bool) : Prop := ∃ l, Bands l ∧ ∀ x y, inS (atR [] l y) x = S x y

open Classical in
/-- the canonical rectangles of squares -/
noncomputable def cn (S : Int → Int → Bool) : List Rect := if h : Fin S then flat h.choose else []

theorem cn_eq {S : Int → Int → Bool} {l : List (Rn (List Span))} (hl : Bands l) (h : ∀ x y, inS (atR [] l y) x = S x y) : cn S = flat l := by
  have hf : Fin S := ⟨l, hl, h⟩
  unfold cn
  rw [dif_pos hf]
  have := hf.choose_spec
  rw [this.1.unique hl fun x y => (this.2 x y).trans (h x y).symm]

theorem inR_cn {S : Int → Int → Bool} (h : Fin S) (x y : Int) : inR (cn S) x y = S x y := by
  obtain ⟨l, hl, hS⟩ := h
  rw [cn_eq hl hS, hl.runs.inR_flat, hS]

theorem cn_bands {S : Int → Int → Bool} (h : Fin S) : ∃ l, Bands l ∧ cn S = flat l ∧ ∀ x y, inS (atR [] l y) x = S x y := by
  obtain ⟨l, hl, hS⟩ := h
  exact ⟨l, hl, cn_eq hl hS, hS⟩

/-- canonical -/
def Canon (l : List Rect) : Prop := ∃ b, Bands b ∧ l = flat b
theorem Canon.eq_cn {l : List Rect} (h : Canon l) : l = cn (inR l) := by
  obtain ⟨b, hb, rfl⟩ := h
  exact (cn_eq hb fun x y => (hb.runs.inR_flat x y).symm).symm
theorem Canon.fin {l : List Rect} (h : Canon l) : Fin (inR l) := by
  obtain ⟨b, hb, rfl⟩ := h
  exact ⟨b, hb, fun x y => (hb.runs.inR_flat x y).symm⟩
theorem Canon.cn {S : Int → Int → Bool} (h : Fin S) : Canon (cn S) := by
  obtain ⟨l, hl, e, _⟩ := cn_bands h
  exact ⟨l, hl, e⟩
theorem Canon.unique {l m : List Rect} (hl : Canon l) (hm : Canon m) (h : ∀ x y, inR l x y = inR m x y) : l = m := by
  rw [hl.eq_cn, hm.eq_cn]; congr 1; funext x y; exact h x y
end Go.Ab
end

section
/- What views leave of a list. -/
namespace Go.Ab
section
variable {α : Type} [Emb α]
def clr (l : List α) (lo n : Nat) : List α := (List.range l.length).map fun i => if lo ≤ i ∧ i < lo + n then Emb.d else gl l i
def mvl (l : List α) (m lo k : Nat) : List α := (List.range l.length).map fun i => if m ≤ i ∧ i < m + k then gl l (lo + (i - m)) else gl l i

theorem Is.of_gl {f : Nat → List DVal} {N : Nat} (l : List α) (h : l.length = N) (hf : ∀ i, i < N → f i = Emb.cells (gl l i)) : Is N f l := by
  subst h
  refine ⟨rfl, fun i hi => ?_⟩
  rw [hf i hi]; rfl

theorem gl_map_range (N : Nat) (f : Nat → α) (i : Nat) (h : i < N) : gl ((List.range N).map f) i = f i := by simp [gl, List.getD_eq_getElem?_getD, h]

theorem Is.clr {l : List α} (lo n : Nat) {zd : List DVal} (hz : zd = Emb.cells (Emb.d : α)) : Is l.length (fun i => if lo ≤ i ∧ i < lo + n then (fun _ => zd) (i - lo) else LF l i) (clr l lo n) := by
  refine Is.of_gl _ (by simp [Go.Ab.clr]) fun i hi => ?_
  rw [Go.Ab.clr, gl_map_range _ _ _ hi]
  by_cases h : lo ≤ i ∧ i < lo + n
  · rw [if_pos h, if_pos h, hz]
  · rw [if_neg h, if_neg h]; rfl

theorem Is.mvl {l : List α} {m lo k : Nat} (h : lo + k ≤ l.length) : Is l.length (fun i => if m ≤ i ∧ i < m + k then (fun j => LF l (lo + j)) (i - m) else LF l i) (mvl l m lo k) := by
  refine Is.of_gl _ (by simp [Go.Ab.mvl]) fun i hi => ?_
  rw [Go.Ab.mvl, gl_map_range _ _ _ hi]
  by_cases h : m ≤ i ∧ i < m + k
  · rw [if_pos h, if_pos h]; rfl
  · rw [if_neg h, if_neg h]; rfl

theorem Is.takeN {n : Nat} {f : Nat → List DVal} {l : List α} (h : Is n f l) {k : Nat} (hk : k ≤ n) : Is k f (l.take k) := by
  have := h.take (k := (k : Int)) (by omega)
  simpa using this
end
end Go.Ab
end

section
/- The library's sorts, as functions. -/
namespace Go.Ab
open Go.Sort

def sortI (l : List Int) : Option (List Int) := if l.length ≤ LIM then some (l.mergeSort fun x y => decide (x ≤ y)) else none
theorem sortI_some {l r : List Int} (h : sortI l = some r) : l.length ≤ LIM ∧ r = l.mergeSort fun x y => decide (x ≤ y) := by
  unfold sortI at h
  split at h
  · cases h; exact ⟨‹_›, rfl⟩
  · cases h

/-- 'less' of a comparison -/
def ltC {α : Type} (cf : α → α → Int) (x y : α) : Bool := decide (cf x y < 0)

section
variable {α : Type} [Emb α]
def pdqL (cf : α → α → Int) (l : List α) : List α := (@pdq α ⟨Emb.d⟩ (ltC cf) l.toArray 0 l.length (Lib.bitLen l.length) true true).toList

open Classical in
noncomputable def sortF (l : List α) (q : α → α → Option Int) : Option (List α) :=
  if h : l.length ≤ LIM ∧ ∃ cf : α → α → Int, SWO (ltC cf) ∧ ∀ x y, q x y = some (cf x y) then some (pdqL h.2.choose l) else none

theorem sortF_eq {l : List α} {q : α → α → Option Int} (cf : α → α → Int) (hl : l.length ≤ LIM) (hO : SWO (ltC cf)) (hq : ∀ x y, q x y = some (cf x y)) : sortF l q = some (pdqL cf l) := by
  have h : l.length ≤ LIM ∧ ∃ cf : α → α → Int, SWO (ltC cf) ∧ ∀ x y, q x y = some (cf x y) := ⟨hl, cf, hO, hq⟩
  unfold sortF
  rw [dif_pos h]
  have e : h.2.choose = cf := by
    funext x y
    have := (h.2.choose_spec.2 x y).symm.trans (hq x y)
    exact Option.some.inj this
  rw [e]

theorem sortF_some {l r : List α} {q : α → α → Option Int} (h : sortF l q = some r) : l.length ≤ LIM ∧ ∃ cf : α → α → Int, SWO (ltC cf) ∧ (∀ x y, q x y = some (cf x y)) ∧ r = pdqL cf l := by
  unfold sortF at h
  split at h
  · rename_i hh
    cases h
    exact ⟨hh.1, hh.2.choose, hh.2.choose_spec.1, hh.2.choose_spec.2, rfl⟩
  · cases h
end
end Go.Ab
end
