/- Abstract states over the model, part two: every lemma holds of any program. -/
import Derived.Test.YthifkkpkmdpoiaaGreatAbA
import Derived.Tactics
import Derived.KernelRfl
set_option linter.unusedVariables false
set_option linter.unusedSimpArgs false
section
/- Regions: one operation behind the other, and in whatever order the edges allow. -/
namespace Go.Ab

def setE (d : Option Tmp) (v : AVal) (e : Env) : Env :=
  match d with
  | some d => fun t => if t = d then v else e t
  | none => e

def upS (l : List (Nat × Option Obj)) (s : Sto) : Sto := fun i =>
  match l.lookup i with
  | some o => o
  | none => s i

/-- what a step looks at, and what it leaves -/
structure Eff where
  rd : List Nat
  ids : List Nat
  v : AVal
  l : List (Nat × Option Obj)
  news : List Nat

section
variable (P : Program) (C : Ctx) (nt : Nat) (ops : Array Oper)

def StT (o : Oper) (f : Eff) (e : Env) (s : Sto) : Prop :=
  ∀ R η e0 s0 a w, (∀ t ∈ f.rd, e0 t = e t) → (∀ i ∈ f.ids, s0 i = s i) → (∀ n ∈ f.news, ¬ R n) → Conc C nt R η e0 s0 a w →
    ∀ (K : Act → World → Prop) (Q : Exit → Act → World → Prop), (∀ η' a' w', Conc C nt (fun i => R i ∨ i ∈ f.news) η' (setE o.dst f.v e0) (upS f.l s0) a' w' → K a' w') →
      if Region.wanted o (yielded ops a.tmps) then o.wp P a w K Q else K (a.put o.dst undef) w

def RunAll : List Oper → List Eff → Env → Sto → Prop
  | [], [], _, _ => True
  | o :: os, f :: fs, e, s => StT P C nt ops o f e s ∧ RunAll os fs (setE o.dst f.v e) (upS f.l s)
  | _, _, _, _ => False
end

def endE : List Oper → List Eff → Env → Env
  | o :: os, f :: fs, e => endE os fs (setE o.dst f.v e)
  | _, _, e => e
def endS : List Eff → Sto → Sto
  | f :: fs, s => endS fs (upS f.l s)
  | _, s => s
def newsOf (fs : List Eff) : List Nat := fs.flatMap (·.news)

theorem Conc.wider {C : Ctx} {nt : Nat} {R R' : Nat → Prop} {η : Nat → Value} {e : Env} {s : Sto} {a : Act} {w : World} (h : Conc C nt R η e s a w) (hR : ∀ i, R i → R' i) : Conc C nt R' η e s a w :=
  ⟨h.ok, h.df, h.sz, h.ev, fun t i hi => hR i (h.er t i hi), h.st, fun i o ho => ⟨hR i (h.sr i o ho).1, fun j hj => hR j ((h.sr i o ho).2 j hj)⟩, h.ds, h.ow, h.fr, fun i v hi => ⟨(h.pn i v hi).1, hR i (h.pn i v hi).2⟩⟩

section
variable {P : Program} {C : Ctx} {nt : Nat} {ops : Array Oper}

theorem runAll_seq {Q : Exit → Act → World → Prop} : ∀ (os : List Oper) (fs : List Eff) (R : Nat → Prop) (η : Nat → Value) (e : Env) (s : Sto) (a : Act) (w : World), RunAll P C nt ops os fs e s → (newsOf fs).Nodup → (∀ n ∈ newsOf fs, ¬ R n) → Conc C nt R η e s a w →
    (∀ η' a' w', Conc C nt (fun i => R i ∨ i ∈ newsOf fs) η' (endE os fs e) (endS fs s) a' w' → Q .normal a' w') → wpList P ops Q os a w := by
  intro os
  induction os with
  | nil =>
    intro fs R η e s a w hr _ _ hc hq
    cases fs with
    | nil => exact hq η a w (hc.wider fun i hi => .inl hi)
    | cons f fs => exact hr.elim
  | cons o os ih =>
    intro fs R η e s a w hr hnd hfr hc hq
    cases fs with
    | nil => exact hr.elim
    | cons f fs =>
      obtain ⟨h1, h2⟩ := hr
      have hnews : newsOf (f :: fs) = f.news ++ newsOf fs := rfl
      rw [hnews] at hnd hfr hq
      have hst := h1 R η e s a w (fun _ _ => rfl) (fun _ _ => rfl) (fun n hn => hfr n (List.mem_append.2 (.inl hn))) hc
      refine wpList_step fun K hK => ?_
      refine hst K Q fun η' a' w' hc' => hK a' w' ?_
      refine ih fs _ η' _ _ a' w' h2 (List.nodup_append.1 hnd).2.1 (fun n hn hx => ?_) hc' fun η2 a2 w2 hc2 => hq η2 a2 w2 (hc2.wider fun i hi => ?_)
      · rcases hx with hx | hx
        · exact hfr n (List.mem_append.2 (.inr hn)) hx
        · exact (List.nodup_append.1 hnd).2.2 n hx n hn rfl
      · rcases hi with (hi | hi) | hi
        · exact .inl hi
        · exact .inr (List.mem_append.2 (.inl hi))
        · exact .inr (List.mem_append.2 (.inr hi))
end

/-! ## any order -/

def confl (oi oj : Oper) (fi fj : Eff) : Bool :=
  (match oi.dst with | some d => fj.rd.contains d || oj.dst == some d | none => false) || (match oj.dst with | some d => fi.rd.contains d | none => false) ||
  (fi.l.any fun p => fj.ids.contains p.1 || fj.l.any (·.1 == p.1)) || (fj.l.any fun p => fi.ids.contains p.1)

def mask1 (acc : List Nat) : List Edge → Nat
  | [] => 0
  | e :: r => if Region.binds .any e then (2 ^ e.on ||| acc.getD e.on 0) ||| mask1 acc r else mask1 acc r

/-- each operation with the mask of those that must be ahead of it; that what clashes is held apart -/
def commGo : List Oper → List Eff → List Nat → List (Oper × Eff) → Bool
  | o :: os, f :: fs, acc, seen =>
    let m := mask1 acc o.after.toList
    (o.after.toList.all fun e => !Region.binds .any e || decide (e.on < acc.length)) &&
    (seen.zipIdx.all fun p => !confl p.1.1 o p.1.2 f || m.testBit p.2) && commGo os fs (acc ++ [m]) (seen ++ [(o, f)])
  | [], [], _, _ => true
  | _, _, _, _ => false

def commB (ops : List Oper) (fs : List Eff) : Bool := commGo ops fs [] []

/-- i stands ahead of j by the edges -/
inductive Anc (ops : List Oper) : Nat → Nat → Prop
  | edge (j : Nat) (o : Oper) (e : Edge) : ops[j]? = some o → e ∈ o.after.toList → Region.binds .any e = true → Anc ops e.on j
  | trans (i j k : Nat) : Anc ops i j → Anc ops j k → Anc ops i k

theorem mask1_anc {ops : List Oper} {acc : List Nat} {j : Nat} {o : Oper} (ho : ops[j]? = some o) (hacc : ∀ k i, (acc.getD k 0).testBit i = true → Anc ops i k) : ∀ (es : List Edge), (∀ e ∈ es, e ∈ o.after.toList) → ∀ i, (mask1 acc es).testBit i = true → Anc ops i j := by
  intro es
  induction es with
  | nil => intro _ i hi; simp [mask1] at hi
  | cons e r ih =>
    intro hsub i hi
    have hr := ih (fun e' he' => hsub e' (List.mem_cons_of_mem _ he'))
    simp only [mask1] at hi
    split at hi
    · rename_i hb
      have he : Anc ops e.on j := .edge j o e ho (hsub e List.mem_cons_self) hb
      rw [Nat.testBit_or, Nat.testBit_or] at hi
      rcases (by simpa using hi : ((2 ^ e.on).testBit i = true ∨ (acc.getD e.on 0).testBit i = true) ∨ (mask1 acc r).testBit i = true) with (h1 | h1) | h1
      · rw [Nat.testBit_two_pow] at h1
        have : e.on = i := by simpa using h1
        exact this ▸ he
      · exact .trans _ _ _ (hacc _ _ h1) he
      · exact hr i h1
    · exact hr i hi

theorem commGo_spec (ops : List Oper) (fs : List Eff) : ∀ (os : List Oper) (gs : List Eff) (acc : List Nat) (seen : List (Oper × Eff)), commGo os gs acc seen = true →
    acc.length = seen.length → ops = seen.map (·.1) ++ os → fs = seen.map (·.2) ++ gs → (∀ k i, (acc.getD k 0).testBit i = true → Anc ops i k) →
    (∀ j o e, seen.length ≤ j → ops[j]? = some o → e ∈ o.after.toList → Region.binds .any e = true → e.on < j) ∧
    (∀ i j oi oj fi fj, i < j → seen.length ≤ j → ops[i]? = some oi → ops[j]? = some oj → fs[i]? = some fi → fs[j]? = some fj → confl oi oj fi fj = true → Anc ops i j) ∧ os.length = gs.length := by
  intro os
  induction os with
  | nil =>
    intro gs acc seen h hl ho hf _
    cases gs with
    | cons g gs => simp [commGo] at h
    | nil =>
      refine ⟨fun j o e hj hjo => ?_, fun i j oi oj fi fj hij hj _ hjo => ?_, rfl⟩
      · rw [ho, List.append_nil, List.getElem?_eq_none (by simpa using hj)] at hjo; cases hjo
      · rw [ho, List.append_nil, List.getElem?_eq_none (by simpa using hj)] at hjo; cases hjo
  | cons o os ih =>
    intro gs acc seen h hl ho hf hacc
    cases gs with
    | nil => simp [commGo] at h
    | cons g gs =>
      simp only [commGo, Bool.and_eq_true] at h
      obtain ⟨⟨h1, h2⟩, h3⟩ := h
      have hoj : ops[seen.length]? = some o := by rw [ho]; simp
      have hfj : fs[seen.length]? = some g := by rw [hf]; simp
      have hmask : ∀ i, (mask1 acc o.after.toList).testBit i = true → Anc ops i seen.length := mask1_anc hoj hacc _ (fun e he => he)
      obtain ⟨g1, g2, g3⟩ := ih gs (acc ++ [mask1 acc o.after.toList]) (seen ++ [(o, g)]) h3 (by simp [hl]) (by simp [ho]) (by simp [hf]) (fun k i hk => by
        by_cases hk1 : k < acc.length
        · rw [show (acc ++ [mask1 acc o.after.toList]).getD k 0 = acc.getD k 0 from by simp [List.getD_eq_getElem?_getD, List.getElem?_append, hk1]] at hk
          exact hacc k i hk
        · by_cases hk2 : k = acc.length
          · subst hk2
            rw [show (acc ++ [mask1 acc o.after.toList]).getD acc.length 0 = mask1 acc o.after.toList from by simp [List.getD_eq_getElem?_getD]] at hk
            rw [hl]; exact hmask i hk
          · rw [show (acc ++ [mask1 acc o.after.toList]).getD k 0 = 0 from by
              rw [List.getD_eq_getElem?_getD, List.getElem?_eq_none (by simp; omega)]; rfl] at hk
            simp at hk)
      refine ⟨fun j o' e hj hjo he hb => ?_, fun i j oi oj fi fj hij hj hio hjo hif hjf hcf => ?_, by simp [g3]⟩
      · by_cases hjs : j = seen.length
        · subst hjs
          rw [hoj] at hjo; cases hjo
          have := List.all_eq_true.1 h1 e he
          simp [hb] at this
          omega
        · exact g1 j o' e (by simp; omega) hjo he hb
      · by_cases hjs : j = seen.length
        · subst hjs
          rw [hoj] at hjo; cases hjo
          rw [hfj] at hjf; cases hjf
          have hsi : seen[i]? = some (oi, fi) := by
            have hlt : i < seen.length := hij
            rw [ho, List.getElem?_append_left (by simpa using hlt), List.getElem?_map] at hio
            rw [hf, List.getElem?_append_left (by simpa using hlt), List.getElem?_map] at hif
            rw [List.getElem?_eq_getElem hlt] at hio hif ⊢
            simp at hio hif
            rw [← hio, ← hif]
          have hmem : ((oi, fi), i) ∈ seen.zipIdx := by
            rw [List.mem_zipIdx_iff_getElem?]; simpa using hsi
          have := List.all_eq_true.1 h2 _ hmem
          simp [hcf] at this
          exact hmask i this
        · exact g2 i j oi oj fi fj hij (by simp; omega) hio hjo hif hjf hcf

end Go.Ab
end

section
/- A region whose order is drawn: what the text's order leaves is what every order leaves. -/
namespace Go.Ab

instance : Inhabited Eff := ⟨⟨[], [], .any, [], []⟩⟩

section
variable (l : List Oper) (fs : List Eff)

def dstAt (i : Nat) : Option Tmp := (l[i]?).bind (·.dst)
def effAt (i : Nat) : Eff := fs.getD i default

def hE (e0 : Env) : List Nat → Env
  | [] => e0
  | i :: h => setE (dstAt l i) (effAt fs i).v (hE e0 h)
def hS (s0 : Sto) : List Nat → Sto
  | [] => s0
  | i :: h => upS (effAt fs i).l (hS s0 h)

def wrE (t : Nat) (j : Nat) : Bool := dstAt l j == some t
def wrS (i : Nat) (j : Nat) : Bool := ((effAt fs j).l.lookup i).isSome

theorem hE_find (e0 : Env) (t : Nat) : ∀ h, hE l fs e0 h t = match h.find? (wrE l t) with | some j => (effAt fs j).v | none => e0 t := by
  intro h
  induction h with
  | nil => rfl
  | cons i h ih =>
    simp only [hE, List.find?_cons, setE]
    cases hd : dstAt l i with
    | none => simp [wrE, hd, ih]
    | some d =>
      by_cases hdt : t = d
      · subst hdt; simp [wrE, hd]
      · have : wrE l t i = false := by simp [wrE, hd]; exact fun hh => hdt hh.symm
        simp [this, hdt, ih]

theorem hS_find (s0 : Sto) (k : Nat) : ∀ h, hS fs s0 h k = match h.find? (wrS fs k) with | some j => ((effAt fs j).l.lookup k).getD none | none => s0 k := by
  intro h
  induction h with
  | nil => rfl
  | cons i h ih =>
    simp only [hS, List.find?_cons, upS]
    cases hl : (effAt fs i).l.lookup k with
    | none => simp [wrS, hl, ih]
    | some o => simp [wrS, hl]
end

/-- a history: each but once, each behind what must be ahead of it -/
structure Hist (ops : List Oper) (h : List Nat) : Prop where
  nd : h.Nodup
  ord : ∀ l1 k l2, h = l1 ++ k :: l2 → ∀ i, Anc ops i k → i ∈ l2

theorem Hist.anc {ops : List Oper} {h : List Nat} (H : Hist ops h) {i k : Nat} (hk : k ∈ h) (ha : Anc ops i k) : i ∈ h := by
  obtain ⟨l1, l2, rfl⟩ := List.append_of_mem hk
  exact List.mem_append.2 (.inr (List.mem_cons_of_mem _ (H.ord l1 k l2 rfl i ha)))

theorem find_first {ops : List Oper} {h : List Nat} (H : Hist ops h) {p : Nat → Bool} {f g : Nat} (hf : h.find? p = some f) (hg : g ∈ h) (hp : p g = true) (ha : Anc ops f g) : False := by
  obtain ⟨_, as, bs, rfl, hno⟩ := List.find?_eq_some_iff_append.1 hf
  have hgb : g ∈ bs := by
    rcases List.mem_append.1 hg with h1 | h1
    · have := hno g h1; simp [hp] at this
    · rcases List.mem_cons.1 h1 with h2 | h2
      · subst h2
        have := H.ord as g bs rfl g ha
        exact this
      · exact h2
  obtain ⟨b1, b2, rfl⟩ := List.append_of_mem hgb
  have := H.ord (as ++ f :: b1) g b2 (by simp) f ha
  have hnd := H.nd
  rw [List.nodup_append] at hnd
  have h2 := hnd.2.1
  rw [List.nodup_cons] at h2
  exact h2.1 (by simp [this])

theorem find_eq {ops : List Oper} {h1 h2 : List Nat} (H1 : Hist ops h1) (H2 : Hist ops h2) {p : Nat → Bool} (hord : ∀ j k, j < k → k ∈ h1 → k ∈ h2 → j ∈ h1 → p j = true → p k = true → Anc ops j k)
    (hset : ∀ j, p j = true → (j ∈ h1 ↔ j ∈ h2)) : h1.find? p = h2.find? p := by
  cases hf : h1.find? p with
  | none =>
    symm
    rw [List.find?_eq_none] at hf ⊢
    intro x hx hp
    exact hf x ((hset x hp).2 hx) hp
  | some f =>
    have hpf : p f = true := List.find?_some hf
    have hmf : f ∈ h1 := List.mem_of_find?_eq_some hf
    have hmf2 := (hset f hpf).1 hmf
    cases hg : h2.find? p with
    | none => rw [List.find?_eq_none] at hg; exact absurd hpf (hg f hmf2)
    | some g =>
      have hpg : p g = true := List.find?_some hg
      have hmg2 : g ∈ h2 := List.mem_of_find?_eq_some hg
      have hmg := (hset g hpg).2 hmg2
      rcases Nat.lt_trichotomy f g with hlt | heq | hlt
      · exact (find_first H1 hf hmg hpg (hord f g hlt hmg hmg2 hmf hpf hpg)).elim
      · rw [heq]
      · exact (find_first H2 hg hmf2 hpf (hord g f hlt hmf hmf2 hmg hpg hpf)).elim

section
variable {P : Program} {C : Ctx} {nt : Nat} {ops : Array Oper} {fs : List Eff}

theorem anc_lt {l : List Oper} (hb : ∀ j o e, l[j]? = some o → e ∈ o.after.toList → Region.binds .any e = true → e.on < j) {i k : Nat} (h : Anc l i k) : i < k := by
  induction h with
  | edge j o e h1 h2 h3 => exact hb j o e h1 h2 h3
  | trans i j k _ _ ih1 ih2 => omega

theorem text_hist {l : List Oper} (hb : ∀ j o e, l[j]? = some o → e ∈ o.after.toList → Region.binds .any e = true → e.on < j) (n : Nat) : Hist l (List.range n).reverse := by
  refine ⟨by unfold List.Nodup; rw [List.pairwise_reverse]; exact (List.nodup_range (n := n)).imp (fun h => Ne.symm h), ?_⟩
  induction n with
  | zero => intro l1 k l2 h; simp at h
  | succ n ih =>
    intro l1 k l2 h i ha
    rw [List.range_succ, List.reverse_append, List.reverse_singleton, List.singleton_append] at h
    cases l1 with
    | nil =>
      simp only [List.nil_append, List.cons.injEq] at h
      obtain ⟨rfl, rfl⟩ := h
      have := anc_lt hb ha
      simp; exact this
    | cons x l1 =>
      simp only [List.cons_append, List.cons.injEq] at h
      exact ih l1 k l2 h.2 i ha

theorem newsOf_apart {fs : List Eff} (hnd : (newsOf fs).Nodup) {i j : Nat} (hij : i ≠ j) {x : Nat} (hi : x ∈ (effAt fs i).news) (hj : x ∈ (effAt fs j).news) : False := by
  induction fs generalizing i j with
  | nil => simp [effAt, default] at hi
  | cons f r ih =>
    have hn : newsOf (f :: r) = f.news ++ newsOf r := rfl
    rw [hn, List.nodup_append] at hnd
    have mem : ∀ k, x ∈ (effAt r k).news → x ∈ newsOf r := by
      intro k hk
      by_cases hkl : k < r.length
      · exact List.mem_flatMap.2 ⟨_, getD_mem hkl, hk⟩
      · have : effAt r k = default := by unfold effAt; rw [List.getD_eq_getElem?_getD, List.getElem?_eq_none (by omega)]; rfl
        rw [this] at hk; cases hk
    cases i with
    | zero =>
      cases j with
      | zero => exact hij rfl
      | succ j => exact hnd.2.2 x hi x (mem j hj) rfl
    | succ i =>
      cases j with
      | zero => exact hnd.2.2 x hj x (mem i hi) rfl
      | succ j => exact ih hnd.2.1 (by omega) hi hj

theorem effAt_news {fs : List Eff} {k x : Nat} (hx : x ∈ (effAt fs k).news) : x ∈ newsOf fs := by
  by_cases hk : k < fs.length
  · exact List.mem_flatMap.2 ⟨_, getD_mem hk, hx⟩
  · have : effAt fs k = default := by unfold effAt; rw [List.getD_eq_getElem?_getD, List.getElem?_eq_none (by omega)]; rfl
    rw [this] at hx; cases hx

/-- the text's states -/
theorem runAll_at : ∀ (os : List Oper) (gs : List Eff) (l : List Oper) (fs : List Eff) (k : Nat) (e0 : Env) (s0 : Sto), (∀ j, os[j]? = l[k + j]?) → (∀ j, j < gs.length → gs[j]? = fs[k + j]?) → os.length = gs.length →
    RunAll P C nt ops os gs (hE l fs e0 (List.range k).reverse) (hS fs s0 (List.range k).reverse) →
    (∀ j o, os[j]? = some o → StT P C nt ops o (effAt fs (k + j)) (hE l fs e0 (List.range (k + j)).reverse) (hS fs s0 (List.range (k + j)).reverse)) ∧
    endE os gs (hE l fs e0 (List.range k).reverse) = hE l fs e0 (List.range (k + os.length)).reverse ∧ endS gs (hS fs s0 (List.range k).reverse) = hS fs s0 (List.range (k + os.length)).reverse := by
  intro os
  induction os with
  | nil =>
    intro gs l fs k e0 s0 _ _ hl _
    cases gs with
    | nil => exact ⟨fun j o h => by simp at h, rfl, rfl⟩
    | cons g gs => simp at hl
  | cons o os ih =>
    intro gs l fs k e0 s0 ho hf hl hr
    cases gs with
    | nil => simp at hl
    | cons g gs =>
      obtain ⟨h1, h2⟩ := hr
      have hd : dstAt l k = o.dst := by
        have := ho 0; simp at this; simp [dstAt, ← this]
      have hg : effAt fs k = g := by
        have := hf 0 (by simp); simp at this; simp [effAt, List.getD_eq_getElem?_getD, ← this]
      have hs1 : hE l fs e0 (List.range (k + 1)).reverse = setE o.dst g.v (hE l fs e0 (List.range k).reverse) := by
        rw [List.range_succ, List.reverse_append, List.reverse_singleton, List.singleton_append]; simp only [hE, hd, hg]
      have hs2 : hS fs s0 (List.range (k + 1)).reverse = upS g.l (hS fs s0 (List.range k).reverse) := by
        rw [List.range_succ, List.reverse_append, List.reverse_singleton, List.singleton_append]; simp only [hS, hg]
      obtain ⟨g1, g2, g3⟩ := ih gs l fs (k + 1) e0 s0 (fun j => by have := ho (j + 1); simp at this; rw [this]; congr 1; omega) (fun j hj => by have := hf (j + 1) (by simpa using hj); simp at this; rw [this]; congr 1; omega) (by simpa using hl)
        (by rw [hs1, hs2]; exact h2)
      refine ⟨fun j o' hj => ?_, ?_, ?_⟩
      · cases j with
        | zero => simp at hj; subst hj; rw [Nat.add_zero, hg]; exact h1
        | succ j => have := g1 j o' (by simpa using hj); rwa [show k + 1 + j = k + (j + 1) from by omega] at this
      · rw [hs1] at g2
        simp only [endE]; rw [g2]; congr 3; simp; omega
      · rw [hs2] at g3
        simp only [endS]; rw [g3]; congr 3; simp; omega


theorem nodup_le : ∀ (n : Nat) (l : List Nat), l.Nodup → (∀ x ∈ l, x < n) → l.length ≤ n := by
  intro n
  induction n with
  | zero => intro l _ h; cases l with
    | nil => simp
    | cons x r => exact absurd (h x List.mem_cons_self) (by omega)
  | succ n ih =>
    intro l hl h
    by_cases hn : n ∈ l
    · have h1 := ih (l.erase n) (hl.erase n) (fun x hx => by
        have h2 := (hl.mem_erase_iff).1 hx
        have := h x h2.2
        omega)
      rw [List.length_erase_of_mem hn] at h1
      omega
    · have := ih l hl (fun x hx => by have := h x hx; have : x ≠ n := fun e => hn (e ▸ hx); omega)
      omega

theorem mem_listed {listed : Array Bool} {h : List Nat} {n : Nat} (hsz : listed.size = n) (hl : ∀ i, i < n → (listed.getD i false = true ↔ i ∈ h)) (hb : ∀ i ∈ h, i < n) (i : Nat) : listed.getD i false = true ↔ i ∈ h := by
  by_cases hi : i < n
  · exact hl i hi
  · constructor
    · intro hh; rw [show listed.getD i false = false from by simp [Array.getD, hsz, hi]] at hh; cases hh
    · intro hh; exact absurd (hb i hh) hi

theorem ready_iff {ops : Array Oper} {listed : Array Bool} (hsz : listed.size = ops.size) (i : Nat) : i ∈ Region.ready .any ops listed ↔ ∃ o, ops[i]? = some o ∧ listed.getD i false = false ∧ ∀ e ∈ o.after.toList, Region.binds .any e = true → listed.getD e.on false = true := by
  unfold Region.ready
  rw [List.mem_filter, List.mem_range]
  constructor
  · rintro ⟨hi, hh⟩
    refine ⟨ops[i], by simp [hi], ?_, ?_⟩
    · simp only [Bool.and_eq_true] at hh
      have h1 := hh.1
      have : i < listed.size := by omega
      simp [Array.getD, this] at h1 ⊢
      exact h1
    · intro e he hb
      simp only [Bool.and_eq_true] at hh
      have h2 := hh.2
      simp only [Array.getElem?_eq_getElem hi, Option.map_some, Option.getD_some] at h2
      rw [Array.all_eq_true'] at h2
      have := h2 e (by simpa using he)
      simpa [hb] using this
  · rintro ⟨o, ho, hl, he⟩
    have hi : i < ops.size := (Array.getElem?_eq_some_iff.1 ho).1
    refine ⟨hi, ?_⟩
    simp only [Bool.and_eq_true]
    refine ⟨?_, ?_⟩
    · have : i < listed.size := by omega
      simp [Array.getD, this] at hl ⊢
      exact hl
    · simp only [ho, Option.map_some, Option.getD_some]
      rw [Array.all_eq_true']
      intro e hee
      cases hb : Region.binds .any e with
      | false => rfl
      | true => simpa using he e (by simpa using hee) hb

theorem anyorder {Q : Exit → Act → World → Prop} {e0 : Env} {s0 : Sto} {R : Nat → Prop} (hlen : ops.toList.length = fs.length)
    (hback : ∀ j o e, ops.toList[j]? = some o → e ∈ o.after.toList → Region.binds .any e = true → e.on < j)
    (hconf : ∀ i j oi oj fi fj, i < j → ops.toList[i]? = some oi → ops.toList[j]? = some oj → fs[i]? = some fi → fs[j]? = some fj → confl oi oj fi fj = true → Anc ops.toList i j)
    (hst : ∀ j o, ops.toList[j]? = some o → StT P C nt ops o (effAt fs j) (hE ops.toList fs e0 (List.range j).reverse) (hS fs s0 (List.range j).reverse))
    (hnd : (newsOf fs).Nodup) (hfr : ∀ n ∈ newsOf fs, ¬ R n)
    (hq : ∀ η a w, Conc C nt (fun i => R i ∨ i ∈ newsOf fs) η (hE ops.toList fs e0 (List.range ops.size).reverse) (hS fs s0 (List.range ops.size).reverse) a w → Q .normal a w) :
    ∀ (fuel : Nat) (listed : Array Bool) (h : List Nat) (η : Nat → Value) (a : Act) (w : World), listed.size = ops.size → (∀ i, i < ops.size → (listed.getD i false = true ↔ i ∈ h)) → (∀ i ∈ h, i < ops.size) → Hist ops.toList h → ops.size ≤ fuel + h.length →
      Conc C nt (fun i => R i ∨ ∃ j ∈ h, i ∈ (effAt fs j).news) η (hE ops.toList fs e0 h) (hS fs s0 h) a w → wpAny P .any ops Q fuel listed a w := by
  have hgetl : ∀ {i : Nat}, i < ops.size → ∃ o, ops.toList[i]? = some o ∧ ops[i]? = some o := fun {i} hi => ⟨ops[i], by simp [hi], by simp [hi]⟩
  have hgetf : ∀ {i : Nat}, i < ops.size → fs[i]? = some (effAt fs i) := by
    intro i hi
    have : i < fs.length := by rw [← hlen]; simpa using hi
    simp [effAt, List.getD_eq_getElem?_getD, this]
  have hC : ∀ i j oi oj, i < j → j < ops.size → ops.toList[i]? = some oi → ops.toList[j]? = some oj → confl oi oj (effAt fs i) (effAt fs j) = true → Anc ops.toList i j := by
    intro i j oi oj hij hj hi' hj' hc
    exact hconf i j oi oj _ _ hij hi' hj' (hgetf (by omega)) (hgetf hj) hc
  -- what two histories that agree on the writers of a key leave there
  have agreeE : ∀ (h1 h2 : List Nat), Hist ops.toList h1 → Hist ops.toList h2 → (∀ i ∈ h1, i < ops.size) → ∀ t, (∀ j, j < ops.size → dstAt ops.toList j = some t → (j ∈ h1 ↔ j ∈ h2)) → (∀ i ∈ h2, i < ops.size) → hE ops.toList fs e0 h1 t = hE ops.toList fs e0 h2 t := by
    intro h1 h2 H1 H2 hb1 t hw hb2
    rw [hE_find, hE_find, find_eq (p := wrE ops.toList t) H1 H2 ?_ ?_]
    · intro j k hjk hk1 _ hj1 hpj hpk
      obtain ⟨oj, hoj, _⟩ := hgetl (hb1 j hj1)
      obtain ⟨ok, hok, _⟩ := hgetl (hb1 k hk1)
      refine hC j k oj ok hjk (hb1 k hk1) hoj hok ?_
      simp [wrE, dstAt, hoj] at hpj
      simp [wrE, dstAt, hok] at hpk
      simp [confl, hpj, hpk]
    · intro j hp
      have hd : dstAt ops.toList j = some t := by simpa [wrE] using hp
      have hj : j < ops.size := by
        unfold dstAt at hd
        rcases Nat.lt_or_ge j ops.size with h3 | h3
        · exact h3
        · rw [List.getElem?_eq_none (by simpa using h3)] at hd; cases hd
      exact hw j hj hd
  have agreeS : ∀ (h1 h2 : List Nat), Hist ops.toList h1 → Hist ops.toList h2 → (∀ i ∈ h1, i < ops.size) → ∀ k, (∀ j, j < ops.size → wrS fs k j = true → (j ∈ h1 ↔ j ∈ h2)) → (∀ i ∈ h2, i < ops.size) → hS fs s0 h1 k = hS fs s0 h2 k := by
    intro h1 h2 H1 H2 hb1 k hw hb2
    have hkey : ∀ j, wrS fs k j = true → ∃ o, (k, o) ∈ (effAt fs j).l := by
      intro j hj
      simp only [wrS, Option.isSome_iff_exists] at hj
      obtain ⟨o, ho⟩ := hj
      obtain ⟨l1, l2, hl, _⟩ := List.lookup_eq_some_iff.1 ho
      exact ⟨o, by rw [hl]; simp⟩
    rw [hS_find, hS_find, find_eq (p := wrS fs k) H1 H2 ?_ ?_]
    · intro i j hij hj1 _ hi1 hpi hpj
      obtain ⟨oi, hoi, _⟩ := hgetl (hb1 i hi1)
      obtain ⟨oj, hoj, _⟩ := hgetl (hb1 j hj1)
      refine hC i j oi oj hij (hb1 j hj1) hoi hoj ?_
      obtain ⟨u, hu⟩ := hkey i hpi
      obtain ⟨v, hv⟩ := hkey j hpj
      have : ((effAt fs i).l.any fun p => (effAt fs j).ids.contains p.1 || (effAt fs j).l.any (·.1 == p.1)) = true := by
        rw [List.any_eq_true]; refine ⟨_, hu, ?_⟩
        simp only [Bool.or_eq_true]; right
        rw [List.any_eq_true]; exact ⟨_, hv, by simp⟩
      simp only [confl, this, Bool.or_true, Bool.true_or]
    · intro j hp
      by_cases hj : j < ops.size
      · exact hw j hj hp
      · exact ⟨fun hh => absurd (hb1 j hh) hj, fun hh => absurd (hb2 j hh) hj⟩
  have htext : ∀ n, n ≤ ops.size → (∀ i ∈ (List.range n).reverse, i < ops.size) := by intro n hn i hi; simp at hi; omega
  have final : ∀ (listed : Array Bool) (h : List Nat) (η : Nat → Value) (a : Act) (w : World), (∀ i ∈ h, i < ops.size) → Hist ops.toList h → (∀ i, i < ops.size → i ∈ h) →
      Conc C nt (fun i => R i ∨ ∃ j ∈ h, i ∈ (effAt fs j).news) η (hE ops.toList fs e0 h) (hS fs s0 h) a w → Q .normal a w := by
    intro listed h η a w hb H hall hc
    have e1 : hE ops.toList fs e0 h = hE ops.toList fs e0 (List.range ops.size).reverse :=
      funext fun t => agreeE _ _ H (text_hist hback _) hb t (fun j hj _ => ⟨fun _ => by simp; exact hj, fun _ => hall j hj⟩) (htext _ (Nat.le_refl _))
    have e2 : hS fs s0 h = hS fs s0 (List.range ops.size).reverse :=
      funext fun k => agreeS _ _ H (text_hist hback _) hb k (fun j hj _ => ⟨fun _ => by simp; exact hj, fun _ => hall j hj⟩) (htext _ (Nat.le_refl _))
    rw [e1, e2] at hc
    refine hq η a w (hc.wider fun i hi => ?_)
    rcases hi with hi | ⟨j, _, hi⟩
    · exact .inl hi
    · exact .inr (effAt_news hi)
  intro fuel
  induction fuel with
  | zero =>
    intro listed h η a w hsz hl hb H hf hc
    have hall : ∀ i, i < ops.size → i ∈ h := by
      intro i hi
      rcases Classical.em (i ∈ h) with hin | hin
      · exact hin
      · have := nodup_le ops.size (i :: h) (List.nodup_cons.2 ⟨hin, H.nd⟩) (fun x hx => by rcases List.mem_cons.1 hx with rfl | hx; exact hi; exact hb x hx)
        simp at this; omega
    refine ⟨?_, final listed h η a w hb H hall hc⟩
    refine List.eq_nil_iff_forall_not_mem.2 fun i hi => ?_
    obtain ⟨o, ho, h2, _⟩ := (ready_iff hsz i).1 hi
    have hi' : i < ops.size := (Array.getElem?_eq_some_iff.1 ho).1
    rw [(hl i hi').2 (hall i hi')] at h2; cases h2
  | succ fuel ih =>
    intro listed h η a w hsz hl hb H hf hc
    have hlm := mem_listed hsz hl hb
    refine ⟨fun hnil => ?_, fun i hi => ?_⟩
    · refine final listed h η a w hb H (fun i hi => ?_) hc
      induction i using Nat.strongRecOn with
      | _ i ihi =>
        rcases Classical.em (i ∈ h) with hin | hin
        · exact hin
        · exfalso
          obtain ⟨o, ho, ho'⟩ := hgetl hi
          have : i ∈ Region.ready .any ops listed := (ready_iff hsz i).2 ⟨o, ho', by
            cases hx : listed.getD i false with
            | false => rfl
            | true => exact absurd ((hlm i).1 hx) hin, fun e he hbd => (hlm e.on).2 (ihi e.on (hback i o e ho he hbd) (by have := hback i o e ho he hbd; omega))⟩
          rw [hnil] at this; cases this
    · obtain ⟨o, ho, h2, h3⟩ := (ready_iff hsz i).1 hi
      have hi' : i < ops.size := (Array.getElem?_eq_some_iff.1 ho).1
      have hin : i ∉ h := fun hh => by rw [(hlm i).2 hh] at h2; cases h2
      have hol : ops.toList[i]? = some o := by simpa using ho
      have hanc' : ∀ k z, Anc ops.toList k z → (z = i ∨ z ∈ h) → k ∈ h := by
        intro k z hk
        induction hk with
        | edge j o' e g1 g2 g3 =>
          intro hz
          rcases hz with rfl | hz
          · rw [hol] at g1; cases g1; exact (hlm _).1 (h3 e g2 g3)
          · exact H.anc hz (.edge j o' e g1 g2 g3)
        | trans x y z _ _ ih1 ih2 => intro hz; exact ih1 (.inr (ih2 hz))
      have hanc : ∀ k, Anc ops.toList k i → k ∈ h := fun k hk => hanc' k i hk (.inl rfl)
      have hfi := hgetf hi'
      have hH' : Hist ops.toList (i :: h) := by
        refine ⟨List.nodup_cons.2 ⟨hin, H.nd⟩, fun l1 k l2 hh x hx => ?_⟩
        cases l1 with
        | nil =>
          simp only [List.nil_append, List.cons.injEq] at hh
          obtain ⟨rfl, rfl⟩ := hh
          exact hanc x hx
        | cons y l1 =>
          simp only [List.cons_append, List.cons.injEq] at hh
          exact H.ord l1 k l2 hh.2 x hx
      have hbt := htext i (Nat.le_of_lt hi')
      -- what it looks at stands as in the text's order
      have ha1 : ∀ t ∈ (effAt fs i).rd, hE ops.toList fs e0 h t = hE ops.toList fs e0 (List.range i).reverse t := by
        intro t ht
        refine agreeE _ _ H (text_hist hback i) hb t (fun j hj hd => ?_) hbt
        obtain ⟨oj, hoj, _⟩ := hgetl hj
        have hdj : oj.dst = some t := by simpa [dstAt, hoj] using hd
        rcases Nat.lt_trichotomy j i with hlt | rfl | hlt
        · have := hC j i oj o hlt hi' hoj hol (by simp [confl, hdj, ht])
          exact ⟨fun _ => by simp; exact hlt, fun _ => hanc j this⟩
        · exact ⟨fun hh => absurd hh hin, fun hh => by simp at hh⟩
        · have := hC i j o oj hlt hj hol hoj (by simp [confl, hdj, ht])
          exact ⟨fun hh => absurd (H.anc hh this) hin, fun hh => by simp at hh; omega⟩
      have ha2 : ∀ k ∈ (effAt fs i).ids, hS fs s0 h k = hS fs s0 (List.range i).reverse k := by
        intro k hk
        refine agreeS _ _ H (text_hist hback i) hb k (fun j hj hw => ?_) hbt
        obtain ⟨oj, hoj, _⟩ := hgetl hj
        simp only [wrS, Option.isSome_iff_exists] at hw
        obtain ⟨u, hu⟩ := hw
        obtain ⟨l1, l2, hl', _⟩ := List.lookup_eq_some_iff.1 hu
        have hmem : (k, u) ∈ (effAt fs j).l := by rw [hl']; simp
        rcases Nat.lt_trichotomy j i with hlt | rfl | hlt
        · have hx : ((effAt fs j).l.any fun p => (effAt fs i).ids.contains p.1 || (effAt fs i).l.any (·.1 == p.1)) = true := by
            rw [List.any_eq_true]; exact ⟨_, hmem, by simp [hk]⟩
          have := hC j i oj o hlt hi' hoj hol (by simp only [confl, hx, Bool.or_true, Bool.true_or])
          exact ⟨fun _ => by simp; exact hlt, fun _ => hanc j this⟩
        · exact ⟨fun hh => absurd hh hin, fun hh => by simp at hh⟩
        · have hx : ((effAt fs j).l.any fun p => (effAt fs i).ids.contains p.1) = true := by
            rw [List.any_eq_true]; exact ⟨_, hmem, by simp [hk]⟩
          have := hC i j o oj hlt hj hol hoj (by simp only [confl, hx, Bool.or_true])
          exact ⟨fun hh => absurd (H.anc hh this) hin, fun hh => by simp at hh; omega⟩
      have hfresh : ∀ n ∈ (effAt fs i).news, ¬ (R n ∨ ∃ j ∈ h, n ∈ (effAt fs j).news) := by
        rintro n hn (hx | ⟨j, hj, hx⟩)
        · exact hfr n (effAt_news hn) hx
        · exact newsOf_apart hnd (fun hh => hin (hh ▸ hj) : i ≠ j) hn hx
      have hstep := hst i o hol _ η _ _ a w ha1 ha2 hfresh hc (wpAny P .any ops Q fuel (listed.setIfInBounds i true)) Q fun η' a' w' hc' => by
        refine ih (listed.setIfInBounds i true) (i :: h) η' a' w' (by simp [hsz]) (fun k hk => ?_) (fun k hk => ?_) hH' (by simp; omega) ?_
        · have hk' : k < listed.size := by omega
          by_cases hki : i = k
          · subst hki; simp [Array.getD, hk']
          · have := hl k hk
            simp [Array.getD, hk'] at this ⊢
            rw [Array.getElem_setIfInBounds_ne (by omega) hki]
            rw [this]
            exact ⟨fun hh => .inr hh, fun hh => hh.resolve_left (fun e => hki e.symm)⟩
        · rcases List.mem_cons.1 hk with rfl | hk
          · exact hi'
          · exact hb k hk
        · have hd : dstAt ops.toList i = o.dst := by simp [dstAt, hol]
          simp only [hE, hS, hd]
          refine hc'.wider fun k hk => ?_
          rcases hk with (hk | ⟨j, hj, hk⟩) | hk
          · exact .inl hk
          · exact .inr ⟨j, List.mem_cons_of_mem _ hj, hk⟩
          · exact .inr ⟨i, List.mem_cons_self, hk⟩
      simp only [wpOp, ho]
      split at hstep
      · rename_i hw; rw [if_pos hw]; exact .inl hstep
      · rename_i hw; rw [if_neg hw]; exact hstep

end
end Go.Ab
end

section
/- The effect of an operation hangs on its operands alone; a region's run, reckoned. -/
namespace Go.Ab

section
variable {L : Lay} {e e0 : Env} {s s0 : Sto}

theorem rd_local {n : Nat} {x : AVal} (h : ∀ i ∈ x.refs, s0 i = s i) : rd s0 n x = rd s n x := by
  unfold rd
  split
  · rename_i id off; rw [h id (by simp [AVal.refs, TV.refs, CV.refs])]
  · rfl
  · rename_i id es idx off; rw [h id (by simp [AVal.refs, TV.refs, CV.refs])]
  · rfl

theorem wr_local {xs : List CV} {x : AVal} (h : ∀ i ∈ x.refs, s0 i = s i) : wr s0 xs x = wr s xs x := by
  unfold wr
  split
  · rename_i id off; rw [h id (by simp [AVal.refs, TV.refs, CV.refs])]
  · rename_i id es idx off; rw [h id (by simp [AVal.refs, TV.refs, CV.refs])]
  · rfl

theorem asL_local {x : AVal} (h : ∀ i ∈ x.refs, s0 i = s i) : asL s0 x = asL s x := by
  unfold asL
  split
  · rfl
  · rfl
  · rename_i id; rw [h id (by simp [AVal.refs, TV.refs, CV.refs])]
  · rfl

theorem asApp_local {x : AVal} {es m : Nat} (h : ∀ i ∈ x.refs, s0 i = s i) : asApp s0 es m x = asApp s es m x := by
  unfold asApp
  split
  · rename_i id; rw [h id (by simp [AVal.refs, TV.refs, CV.refs])]
  · rfl
  · rfl

theorem abuiltin_local {b : Builtin} {tys : Array TypeId} {xs : List AVal} (h : ∀ x ∈ xs, ∀ i ∈ x.refs, s0 i = s i) : abuiltin L s0 b tys xs = abuiltin L s b tys xs := by
  unfold abuiltin
  split
  · rename_i x
    rw [asL_local (h x (by simp))]
  · rfl
  · rfl
  · rename_i x y
    rw [asL_local (h y (by simp))]
    simp only [asApp_local (h x (by simp))]
  · rfl

theorem oI_local {x : Option Operand} (h : ∀ y, x = some y → aev e0 y = aev e y) : oI e0 x = oI e x := by
  cases x with
  | none => rfl
  | some y => simp only [oI, h y rfl]

theorem aop1_local (m : Bool) (o : Oper) (he : ∀ x ∈ o.op.operands.toList, aev e0 x = aev e x) (hs : ∀ x ∈ o.op.operands.toList, ∀ i ∈ (aev e x).refs, s0 i = s i) : aop1 L m e0 s0 o = aop1 L m e s o := by
  have hmapA : ∀ (xs : Array Operand), (∀ x ∈ xs.toList, aev e0 x = aev e x) → xs.toList.map (aev e0) = xs.toList.map (aev e) := fun xs h => List.map_congr_left h
  unfold aop1
  cases ho : o.op <;> simp only [ho, Op.operands] at he hs <;> try rfl
  case move x => simp only [he x (by simp)]
  case assign x => simp only [he x (by simp)]
  case pick c a b => simp only [he c (by simp), he a (by simp), he b (by simp)]
  case box t x => simp only [he x (by simp)]
  case build t ps =>
    have : ps.toList.map (fun p => (p.1, aev e0 p.2)) = ps.toList.map (fun p => (p.1, aev e p.2)) := List.map_congr_left fun p hp => by rw [he p.2 (by simp; exact ⟨p.1, by simpa using hp⟩)]
    simp only [this]
  case buildSlice t n ps =>
    have : ps.toList.map (fun p => (p.1, aev e0 p.2)) = ps.toList.map (fun p => (p.1, aev e p.2)) := List.map_congr_left fun p hp => by rw [he p.2 (by simp; exact ⟨p.1, by simpa using hp⟩)]
    simp only [this]
  case load t x => simp only [he x (by simp), rd_local (hs x (by simp))]
  case store t x y => simp only [he x (by simp), he y (by simp), wr_local (hs x (by simp))]
  case nilCheck x => simp only [he x (by simp)]
  case binOp op t x y t' => simp only [he x (by simp), he y (by simp)]
  case unOp op t x => simp only [he x (by simp)]
  case convert src dst x => simp only [he x (by simp)]
  case makeFunc fn first caps =>
    cases fn <;> try rfl
    simp only [hmapA caps (fun x hx => he x (by simp; exact .inr (by simpa using hx)))]
  case makeSlice t l c => simp only [he l (by simp), he c (by simp)]
  case slice t x lo hi mx =>
    have hx := he x (by simp)
    have hlo : oI e0 lo = oI e lo := oI_local fun y hy => he y (by subst hy; simp)
    have hhi : oI e0 hi = oI e hi := oI_local fun y hy => he y (by subst hy; simp)
    have hsx := hs x (by simp)
    cases mx with
    | none =>
      simp only [hx, hlo, hhi]
      split
      · split
        · split <;> try rfl
          rename_i id u hxx _ _
          rw [hxx] at hsx
          simp only [hsx id (by simp [AVal.refs, TV.refs, CV.refs])]
        · rfl
      · rfl
    | some mx =>
      cases lo with
      | some lo => rfl
      | none =>
        cases hi with
        | none => rfl
        | some hi => simp only [hx, he hi (by simp), he mx (by simp)]
  case fieldAddr t x k => simp only [he x (by simp)]
  case field t x k => simp only [he x (by simp)]
  case indexAddr t x i =>
    have hsx := hs x (by simp)
    simp only [he x (by simp), he i (by simp)]
    split
    · split
      · split
        · rename_i id hxx
          rw [hxx] at hsx
          simp only [hsx id (by simp [AVal.refs, TV.refs, CV.refs])]
        · rfl
      · rfl
    · rfl
    · rfl
  case index t x i => simp only [he x (by simp), he i (by simp)]
  case extract x k => simp only [he x (by simp)]
  case call c =>
    obtain ⟨cal, args, tys⟩ := c
    cases cal <;> try rfl
    rename_i b
    simp only [Call.operands] at he hs
    have h1 : args.toList.map (aev e0) = args.toList.map (aev e) := hmapA args (fun x hx => he x (by simpa using hx))
    have h2 : abuiltin L s0 b tys (args.toList.map (aev e)) = abuiltin L s b tys (args.toList.map (aev e)) := abuiltin_local fun x hx => by
      obtain ⟨y, hy, rfl⟩ := List.mem_map.1 hx
      exact hs y (by simpa using hy)
    simp only [h1, h2]

end
end Go.Ab
end

section
/- A region's run, reckoned by Lean: the effects, and what is left to show. -/
namespace Go.Ab

def isPte : AVal → Bool
  | .v (.c (.pte _ _ _ _)) => true
  | _ => false

/-- does the operation leave something to show? -/
def hasC (e : Env) (o : Oper) : Bool :=
  match o.op with
  | .binOp op _ _ _ _ => match op with
    | .add | .sub | .mul | .quo | .rem | .shl | .shr => true
    | _ => false
  | .unOp op _ _ => match op with
    | .neg => true
    | _ => false
  | .convert _ _ _ => true
  | .load _ x => isPte (aev e x)
  | .store _ x _ => isPte (aev e x)
  | .slice _ _ _ _ _ => true
  | .indexAddr _ _ _ => true
  | .makeSlice _ _ _ => true
  | .call { callee := .builtin .append, .. } => true
  | _ => false

theorem hasC_ok {L : Lay} {m : Bool} {e : Env} {s : Sto} {o : Oper} {r : SR} (h : hasC e o = false) (hr : aop1 L m e s o = some r) : r.cond := by
  unfold hasC at h
  unfold aop1 at hr
  split at hr
  case h_1 => cases hr; trivial
  case h_2 =>
    split at hr
    · cases hr; trivial
    · split at hr
      · split at hr
        · cases hr; trivial
        · cases hr
      · cases hr
    · cases hr
  case h_3 => split at hr <;> first | (cases hr; done) | (cases hr; trivial)
  case h_4 => split at hr <;> first | (cases hr; done) | (cases hr; trivial)
  case h_5 => split at hr <;> first | (cases hr; done) | (cases hr; trivial)
  case h_6 =>
    split at hr
    · split at hr
      · split at hr <;> first | (cases hr; done) | (cases hr; trivial)
      · cases hr
    · split at hr
      · split at hr <;> first | (cases hr; done) | (cases hr; trivial)
      · cases hr
    · cases hr
  case h_7 =>
    split at hr
    · split at hr
      · split at hr
        · split at hr
          · split at hr
            · split at hr <;> first | (cases hr; done) | (cases hr; trivial)
            · cases hr
          · cases hr
        · cases hr
      · cases hr
    · cases hr
  case h_8 t x hop =>
    rw [hop] at h
    simp only at h
    split at hr
    · split at hr
      · rename_i cs c hrd
        split at hr
        · cases hr
          unfold rd at hrd
          split at hrd
          · split at hrd
            · split at hrd <;> first | (cases hrd; done) | (cases hrd; trivial)
            · cases hrd
          · split at hrd <;> first | (cases hrd; done) | (cases hrd; trivial)
          · rename_i hx; rw [hx] at h; simp [isPte] at h
          · cases hrd
        · cases hr
      · cases hr
    · cases hr
  case h_9 t x y hop =>
    rw [hop] at h
    simp only at h
    split at hr
    · split at hr
      · unfold wr at hr
        split at hr
        · split at hr
          · split at hr <;> first | (cases hr; done) | (cases hr; trivial)
          · cases hr
        · rename_i hx; rw [hx] at h; simp [isPte] at h
        · cases hr
      · cases hr
    · cases hr
  case h_10 => split at hr <;> first | (cases hr; done) | (cases hr; trivial)
  case h_11 op t x y t' hop =>
    rw [hop] at h
    unfold abin at hr
    split at hr
    · split at hr
      · simp at h
      · simp at h
      · split at hr
        · split at hr <;> first | (cases hr; done) | (simp at h; done) | (cases hr; trivial)
        · cases hr
    · cases hr
  case h_12 op t x hop =>
    rw [hop] at h
    unfold aun at hr
    split at hr
    · cases hr; trivial
    · simp at h
    · cases hr
  case h_13 hop => rw [hop] at h; simp at h
  case h_14 =>
    split at hr
    · split at hr <;> first | (cases hr; done) | (cases hr; trivial)
    · cases hr
  case h_15 hop => rw [hop] at h; simp at h
  case h_16 hop => rw [hop] at h; simp at h
  case h_17 =>
    split at hr
    · split at hr
      · split at hr
        · split at hr
          · cases hr
          · split at hr
            · cases hr; trivial
            · cases hr; trivial
            · split at hr <;> first | (cases hr; done) | (cases hr; trivial)
            · cases hr
        · cases hr
      · cases hr
    · cases hr
  case h_18 =>
    split at hr
    · split at hr
      · split at hr
        · split at hr
          · split at hr <;> first | (cases hr; done) | (cases hr; trivial)
          · cases hr
        · cases hr
      · cases hr
    · cases hr
  case h_19 hop => rw [hop] at h; simp at h
  case h_20 =>
    split at hr
    · split at hr
      · split at hr
        · split at hr <;> first | (cases hr; done) | (cases hr; trivial)
        · cases hr
      · cases hr
    · cases hr
  case h_21 hop => rw [hop] at h; simp at h
  case h_22 =>
    split at hr
    · split at hr <;> first | (cases hr; done) | (cases hr; trivial)
    · cases hr
  case h_23 b args tys hop =>
    rw [hop] at h
    split at hr
    · rename_i r' d hab
      unfold abuiltin at hab
      split at hab
      · split at hab
        · split at hab
          · split at hab
            · cases hab; simp only at hr; cases hr; trivial
            · cases hab
          · cases hab; simp only at hr; cases hr; trivial
          · split at hab
            · cases hab; simp only at hr; cases hr; trivial
            · cases hab
          · cases hab
        · cases hab
      · cases hab; simp only at hr; cases hr; trivial
      · cases hab; simp only at hr; cases hr; trivial
      · simp at h
      · cases hab
    · cases hr
  case h_24 => cases hr

/-- how an operation is to be taken: as it is · the other way · told as another value · by a contract -/
inductive Dir where
  | s
  | m
  | w (v : AVal)
  | k (f : Array Oper → Oper → Env → Eff)

def tmpsOf (o : Oper) : List Nat := o.op.operands.toList.filterMap fun | .tmp t => some t | _ => none
def idsOf (e : Env) (o : Oper) : List Nat := o.op.operands.toList.flatMap fun x => (aev e x).refs
def guardTmp (ops : Array Oper) (o : Oper) : List Nat :=
  match o.guard with
  | some (j, _) => ((ops[j]?).bind (·.dst)).toList
  | none => []
def gval (ops : Array Oper) (e : Env) (o : Oper) : Option Bool :=
  match o.guard with
  | none => some true
  | some (j, want) => match (ops[j]?).bind (·.dst) with
    | some d => match e d with
      | .v (.c (.d (.bool b))) => some (b == want)
      | .t [] => some false
      | _ => none
    | none => none

def SR.l (r : SR) (d : Option Tmp) : List (Nat × Option Obj) :=
  (match r.new, d with | some o, some d => [(d, some o)] | _, _ => []) ++ ((match r.upd with | some (k, o) => [(k, some o)] | none => []) ++ r.del.map fun i => (i, none))
def SR.nw (r : SR) (d : Option Tmp) : List Nat := match r.new, d with | some _, some d => [d] | _, _ => []

def effRun (ops : Array Oper) (o : Oper) (e : Env) (r : SR) (v : AVal) : Eff := { rd := tmpsOf o ++ guardTmp ops o, ids := idsOf e o, v := v, l := r.l o.dst, news := r.nw o.dst }
def effSkip (ops : Array Oper) (o : Oper) : Eff := { rd := guardTmp ops o, ids := [], v := .t [], l := [], news := [] }

def stepF (L : Lay) (ops : Array Oper) (o : Oper) (d : Dir) (e : Env) (s : Sto) : Eff :=
  match gval ops e o, d with
  | _, .k f => f ops o e
  | some true, .s => match aop1 L false e s o with | some r => effRun ops o e r r.v | none => default
  | some true, .m => match aop1 L true e s o with | some r => effRun ops o e r r.v | none => default
  | some true, .w v => match aop1 L false e s o with | some r => effRun ops o e r v | none => default
  | _, _ => effSkip ops o

/-- what holds of y holds of x -/
def ALe (x y : AVal) : Prop := (∀ w X η C v, ARep w X η C v x → ARep w X η C v y) ∧ ∀ i ∈ y.refs, i ∈ x.refs

def AndC (b : Bool) (c rest : Prop) : Prop := match b with | true => c ∧ rest | false => rest

def stepC (P : Program) (C : Ctx) (nt : Nat) (L : Lay) (ops : Array Oper) (o : Oper) (d : Dir) (e : Env) (s : Sto) (rest : Prop) : Prop :=
  match gval ops e o, d with
  | _, .k f => StT P C nt ops o (f ops o e) e s ∧ rest
  | some true, .s => match aop1 L false e s o with | some r => AndC (hasC e o) r.cond rest | none => False
  | some true, .m => match aop1 L true e s o with | some r => AndC (hasC e o) r.cond rest | none => False
  | some true, .w v => match aop1 L false e s o with | some r => AndC (hasC e o) r.cond (ALe r.v v ∧ rest) | none => False
  | some false, .s => rest
  | _, _ => False

def dstOk (nt : Nat) (o : Oper) : Bool :=
  (match o.dst with | some d => decide (d < nt) | none => true) && (match o.op with | .store _ _ _ => o.dst.isNone | _ => true)

section
variable (P : Program) (C : Ctx) (nt : Nat) (L : Lay) (ops : Array Oper)
def arunF : List Oper → List Dir → Env → Sto → List Eff
  | o :: os, d :: ds, e, s => let f := stepF L ops o d e s; f :: arunF os ds (setE o.dst f.v e) (upS f.l s)
  | _, _, _, _ => []
def arunC : List Oper → List Dir → Env → Sto → Prop
  | o :: os, d :: ds, e, s => stepC P C nt L ops o d e s (arunC os ds (setE o.dst (stepF L ops o d e s).v e) (upS (stepF L ops o d e s).l s))
  | [], [], _, _ => True
  | _, _, _, _ => False
end

theorem sr_sto (r : SR) (d : Option Tmp) (s : Sto) : upS (r.l d) s = r.sto d s := by
  have hdel : ∀ (l : List Nat) (i : Nat), (l.map fun i => (i, (none : Option Obj))).lookup i = if l.contains i then some none else none := by
    intro l i
    induction l with
    | nil => rfl
    | cons x l ih =>
      simp only [List.map_cons, List.lookup_cons, List.contains_cons]
      by_cases hx : i = x
      · subst hx; simp
      · have : (i == x) = false := by simpa using hx
        simp only [this, Bool.false_or]; exact ih
  funext i
  unfold upS SR.sto SR.l
  rw [List.lookup_append, List.lookup_append, hdel]
  cases hn : r.new with
  | none =>
    cases hu : r.upd with
    | none => by_cases hc : i ∈ r.del <;> simp [hc]
    | some ko =>
      obtain ⟨k, o⟩ := ko
      by_cases hk : i = k
      · subst hk; simp
      · have : (i == k) = false := by simpa using hk
        by_cases hc : i ∈ r.del <;> simp [List.lookup_cons, this, hk, hc]
  | some o =>
    cases d with
    | none =>
      cases hu : r.upd with
      | none => by_cases hc : i ∈ r.del <;> simp [hc]
      | some ko =>
        obtain ⟨k, o⟩ := ko
        by_cases hk : i = k
        · subst hk; simp
        · have : (i == k) = false := by simpa using hk
          by_cases hc : i ∈ r.del <;> simp [List.lookup_cons, this, hk, hc]
    | some d =>
      by_cases hd : i = d
      · subst hd; simp
      · have hdd : (i == d) = false := by simpa using hd
        cases hu : r.upd with
        | none => by_cases hc : i ∈ r.del <;> simp [List.lookup_cons, hdd, hd, hc]
        | some ko =>
          obtain ⟨k, o⟩ := ko
          by_cases hk : i = k
          · subst hk; simp [List.lookup_cons, hdd, hd]
          · have : (i == k) = false := by simpa using hk
            by_cases hc : i ∈ r.del <;> simp [List.lookup_cons, hdd, hd, this, hk, hc]

theorem sr_rng (r : SR) (d : Option Tmp) (R : Nat → Prop) : ∀ i, r.rng d R i → R i ∨ i ∈ r.nw d := by
  intro i hi
  rcases hi with hi | ⟨hn, hd⟩
  · exact .inl hi
  · right
    obtain ⟨o, ho⟩ := Option.ne_none_iff_exists'.1 hn
    simp [SR.nw, ho, hd]

section
variable {P : Program} {C : Ctx} {nt : Nat} {L : Lay} {ops : Array Oper}

theorem und_inv {w : World} {X : Nat → Prop} {η : Nat → Value} {C : Ctx} {v : Value} (h : ARep w X η C v (.t [])) : v = .tuple #[] := by
  cases h with | t us _ h _ => exact congrArg Value.tuple (Array.size_eq_zero_iff.1 h)

theorem wanted_of {R : Nat → Prop} {η : Nat → Value} {e e0 : Env} {s : Sto} {a : Act} {w : World} (h : Conc C nt R η e0 s a w) {o : Oper} (hg : ∀ t ∈ guardTmp ops o, e0 t = e t) {b : Bool} (hb : gval ops e o = some b) :
    Region.wanted o (yielded ops a.tmps) = b := by
  unfold gval at hb
  unfold Region.wanted
  split at hb
  · rename_i hgd; rw [hgd]; cases hb; rfl
  · rename_i j want hgd
    rw [hgd]
    split at hb
    · rename_i d hd
      split at hb
      · rename_i bb hbb
        cases hb
        have he : e0 d = e d := hg d (by simp [guardTmp, hgd, hd])
        have hv := h.ev d
        rw [he, hbb] at hv
        have ev := bool_inv hv
        have hlt : d < a.tmps.size := by
          rcases Nat.lt_or_ge d a.tmps.size with h1 | h1
          · exact h1
          · simp [h1, undef] at ev
        have hget : a.tmps[d]? = some (.bool bb) := by
          rw [Array.getElem?_eq_getElem hlt]; simpa [hlt] using ev
        have hy : yielded ops a.tmps j = some bb := by
          unfold yielded; rw [hd]; simp only [Option.bind_some, hget]
        simp only [hy]
        cases bb <;> cases want <;> rfl
      · rename_i hbb
        cases hb
        have he : e0 d = e d := hg d (by simp [guardTmp, hgd, hd])
        have hv := h.ev d
        rw [he, hbb] at hv
        have ev := und_inv hv
        have hy : yielded ops a.tmps j = none := by
          unfold yielded; rw [hd]; simp only [Option.bind_some]
          rcases Nat.lt_or_ge d a.tmps.size with h1 | h1
          · rw [Array.getElem?_eq_getElem h1]
            have ev' : a.tmps[d] = .tuple #[] := by simpa [h1, Array.getD] using ev
            rw [ev']
          · rw [Array.getElem?_eq_none h1]
        simp only [hy]
        cases want <;> rfl
      · cases hb
    · cases hb

theorem stT_run (hL : LOk P L) {o : Oper} (hdo : dstOk nt o = true) {m : Bool} {e : Env} {s : Sto} {r : SR} (hr : aop1 L m e s o = some r) (hc : r.cond) (hg : gval ops e o = some true) {v : AVal} (hv : ALe r.v v) :
    StT P C nt ops o (effRun ops o e r v) e s := by
  intro R η e0 s0 a w hrd hids hfr hconc K Q hK
  have hx : ∀ x ∈ o.op.operands.toList, aev e0 x = aev e x := by
    intro x hx
    cases x with
    | tmp t => exact hrd t (List.mem_append.2 (.inl (List.mem_filterMap.2 ⟨_, hx, rfl⟩)))
    | const v => rfl
    | global g => rfl
    | func f => rfl
  have hsx : ∀ x ∈ o.op.operands.toList, ∀ i ∈ (aev e x).refs, s0 i = s i := fun x hx i hi => hids i (List.mem_flatMap.2 ⟨x, hx, hi⟩)
  have hr0 : aop1 L m e0 s0 o = some r := by rw [aop1_local m o hx hsx]; exact hr
  have hd1 : ∀ x, o.dst = some x → x < nt := by
    intro x hx
    simp only [dstOk, hx, Bool.and_eq_true, decide_eq_true_eq] at hdo
    exact hdo.1
  have hd2 : ∀ t x y, o.op = .store t x y → o.dst = none := by
    intro t x y hop
    simp only [dstOk, hop, Bool.and_eq_true] at hdo
    simpa using hdo.2
  have hw := wanted_of (e := e) hconc (fun t ht => hrd t (List.mem_append.2 (.inr ht))) hg
  rw [if_pos hw]
  have hsnd := aop1_ok hL hconc m o hd1 hr0 hc (fun d hd hn => hfr d (by
    obtain ⟨ob, hob⟩ := Option.ne_none_iff_exists'.1 hn
    simp [effRun, SR.nw, hob, hd])) hd2
  refine hsnd.wp fun η' a' w' hc' => hK η' a' w' ?_
  have hc2 := hc'.wider (sr_rng r o.dst R)
  have hsto : upS (effRun ops o e r v).l s0 = r.sto o.dst s0 := sr_sto r o.dst s0
  rw [hsto]
  have hn : (effRun ops o e r v).news = r.nw o.dst := rfl
  rw [hn]
  refine ⟨hc2.ok, hc2.df, hc2.sz, fun t => ?_, fun t i hi => ?_, hc2.st, hc2.sr, hc2.ds, hc2.ow, hc2.fr, hc2.pn⟩
  · have h1 := hc2.ev t
    unfold setE
    unfold SR.env at h1
    cases hd : o.dst with
    | none => rw [hd] at h1; exact h1
    | some d =>
      rw [hd] at h1
      simp only at h1 ⊢
      by_cases htd : t = d
      · rw [if_pos htd] at h1 ⊢; exact hv.1 _ _ _ _ _ h1
      · rw [if_neg htd] at h1 ⊢; exact h1
  · have h1 := hc2.er t
    unfold setE at hi
    unfold SR.env at h1
    cases hd : o.dst with
    | none => rw [hd] at h1 hi; exact h1 i hi
    | some d =>
      rw [hd] at h1 hi
      simp only at h1 hi
      by_cases htd : t = d
      · rw [if_pos htd] at h1 hi; exact h1 i (hv.2 i hi)
      · rw [if_neg htd] at h1 hi; exact h1 i hi

theorem ALe.refl (x : AVal) : ALe x x := ⟨fun _ _ _ _ _ h => h, fun _ h => h⟩

theorem stT_skip {o : Oper} (hdo : dstOk nt o = true) {e : Env} {s : Sto} (hg : gval ops e o = some false) : StT P C nt ops o (effSkip ops o) e s := by
  intro R η e0 s0 a w hrd hids hfr hconc K Q hK
  have hw := wanted_of (e := e) hconc (fun t ht => hrd t ht) hg
  rw [if_neg (by rw [hw]; simp)]
  refine hK η _ w ?_
  have hd1 : ∀ x, o.dst = some x → x < nt := by
    intro x hx
    simp only [dstOk, hx, Bool.and_eq_true, decide_eq_true_eq] at hdo
    exact hdo.1
  have := hconc.val o.dst hd1 (.t []) undef fun _ => ⟨.t #[] [] rfl (fun j hj => absurd hj (Nat.not_lt_zero j)), by simp [AVal.refs]⟩
  have hs : upS (effSkip ops o).l s0 = s0 := by funext i; rfl
  rw [hs]
  have he : setE o.dst (effSkip ops o).v e0 = SR.env { v := .t [] } o.dst e0 := rfl
  rw [he]
  exact this.wider fun i hi => .inl hi

theorem arun_all (hL : LOk P L) : ∀ (os : List Oper) (ds : List Dir) (e : Env) (s : Sto), (os.all (dstOk nt)) = true → arunC P C nt L ops os ds e s → RunAll P C nt ops os (arunF L ops os ds e s) e s := by
  intro os
  induction os with
  | nil =>
    intro ds e s _ h
    cases ds with
    | nil => trivial
    | cons d ds => exact h.elim
  | cons o os ih =>
    intro ds e s hdo h
    cases ds with
    | nil => exact h.elim
    | cons d ds =>
      simp only [List.all_cons, Bool.and_eq_true] at hdo
      simp only [arunC] at h
      simp only [arunF, RunAll]
      have key : StT P C nt ops o (stepF L ops o d e s) e s ∧ arunC P C nt L ops os ds (setE o.dst (stepF L ops o d e s).v e) (upS (stepF L ops o d e s).l s) := by
        generalize hrest : arunC P C nt L ops os ds (setE o.dst (stepF L ops o d e s).v e) (upS (stepF L ops o d e s).l s) = rest at h
        have andC : ∀ {b : Bool} {c rest : Prop}, AndC b c rest → rest := by
          intro b c rest hh; cases b <;> first | exact hh.2 | exact hh
        have andCc : ∀ {m : Bool} {r : SR} {rest : Prop}, aop1 L m e s o = some r → AndC (hasC e o) r.cond rest → r.cond := by
          intro m r rest hr hh
          cases hb : hasC e o with
          | true => rw [hb] at hh; exact hh.1
          | false => exact hasC_ok hb hr
        unfold stepC at h
        unfold stepF
        split at h
        · exact ⟨by split <;> first | exact h.1 | contradiction | (rename_i h1 h2; cases h2; exact h.1), h.2⟩
        · rename_i hg
          split at h
          · rename_i r hr
            simp only [hg]
            exact ⟨stT_run hL hdo.1 hr (andCc hr h) hg (ALe.refl _), andC h⟩
          · exact h.elim
        · rename_i hg
          split at h
          · rename_i r hr
            simp only [hg]
            exact ⟨stT_run hL hdo.1 hr (andCc hr h) hg (ALe.refl _), andC h⟩
          · exact h.elim
        · rename_i v hg
          split at h
          · rename_i r hr
            simp only [hg]
            exact ⟨stT_run hL hdo.1 hr (andCc hr h) hg (andC h).1, (andC h).2⟩
          · exact h.elim
        · rename_i hg
          simp only [hg]
          exact ⟨stT_skip hdo.1 hg, h⟩
        · exact h.elim
      exact ⟨key.1, ih ds _ _ hdo.2 key.2⟩

end
end Go.Ab
end

section
/- States written out; from one to another; the rules for code. -/
namespace Go.Ab

def lk (E : List (Nat × AVal)) : Env := fun t => (E.lookup t).getD .any
def ls (S : List (Nat × Obj)) : Sto := fun i => S.lookup i
def refsL (E : List (Nat × AVal)) (S : List (Nat × Obj)) : List Nat := E.flatMap (fun p => p.2.refs) ++ S.flatMap fun p => p.1 :: p.2.refs

def OLe (o o' : Obj) : Prop := (∀ w X η C v, ORep w X η C v o → ORep w X η C v o') ∧ o'.ro = o.ro ∧ ∀ i ∈ o'.refs, i ∈ o.refs
theorem OLe.refl (o : Obj) : OLe o o := ⟨fun _ _ _ _ _ h => h, rfl, fun _ h => h⟩
theorem ALe.any (x : AVal) : ALe x .any := ⟨fun _ _ _ _ v _ => .any v, fun _ h => by cases h⟩
theorem ALe.of_eq {x y : AVal} (h : x = y) : ALe x y := h ▸ ALe.refl x
theorem ALe.trans {x y z : AVal} (h : ALe x y) (k : ALe y z) : ALe x z := ⟨fun w X η C v hh => k.1 w X η C v (h.1 w X η C v hh), fun i hi => h.2 i (k.2 i hi)⟩

/-! other names for the entries -/
def CV.ren (ρ : Nat → Nat) : CV → CV
  | .own i => .own (ρ i)
  | .ptr i o => .ptr (ρ i) o
  | .pte i es ix o => .pte (ρ i) es ix o
  | .sub i es lo n => .sub (ρ i) es lo n
  | .clo f ids => .clo f (ids.map ρ)
  | x => x
def TV.ren (ρ : Nat → Nat) : TV → TV
  | .c x => .c (x.ren ρ)
  | .g xs => .g (xs.map (CV.ren ρ))
def AVal.ren (ρ : Nat → Nat) : AVal → AVal
  | .any => .any
  | .v x => .v (x.ren ρ)
  | .t xs => .t (xs.map (TV.ren ρ))
def Obj.ren (ρ : Nat → Nat) : Obj → Obj
  | .box ro cs => .box ro (cs.map (CV.ren ρ))
  | o => o

section
variable {w : World} {X : Nat → Prop} {η : Nat → Value} {C : Ctx} {ρ : Nat → Nat}

theorem CRep.unren {v : Value} {x : CV} (h : CRep w X η C v (x.ren ρ)) : CRep w X (fun i => η (ρ i)) C v x := by
  cases x with
  | d x => cases h with | d _ _ h => exact .d _ _ h
  | fl n f => cases h with | fl _ _ _ h => exact .fl _ _ _ h
  | own i => cases h with | own _ _ h h1 => exact .own _ i h h1
  | ptr i o => cases h with | ptr _ _ _ h => exact .ptr _ i o h
  | pte i es ix o => cases h with | pte _ _ _ _ _ _ _ h => exact .pte _ _ _ i es ix o h
  | sub i es lo n => cases h with
    | sub b N cap _ _ _ _ h h1 h2 => exact .sub b N cap i es lo n h h1 h2
    | subN ad ad' _ _ _ h => exact .subN ad ad' _ i es h
  | elm cs => cases h with | elm _ _ _ _ _ _ h1 h2 h3 h4 => exact .elm _ _ _ _ _ _ h1 h2 h3 h4
  | clo f ids => cases h with | clo _ _ _ h => exact .clo f ids _ (by rw [h, List.map_map]; rfl)
  | sem p => cases h with | sem _ _ h h1 => exact .sem _ _ h h1

theorem CsRep.unren {vs : Array Value} {cs : List CV} (h : CsRep w X η C vs (cs.map (CV.ren ρ))) : CsRep w X (fun i => η (ρ i)) C vs cs := by
  refine ⟨by simpa using h.1, fun j hj => CRep.unren (ρ := ρ) ?_⟩
  have := h.2 j (by simpa using hj)
  rw [List.getD_eq_getElem?_getD, List.getElem?_map, List.getElem?_eq_getElem hj] at this
  rw [List.getD_eq_getElem?_getD, List.getElem?_eq_getElem hj]
  exact this

theorem TRep.unren {v : Value} {x : TV} (h : TRep w X η C v (x.ren ρ)) : TRep w X (fun i => η (ρ i)) C v x := by
  cases x with
  | c x => cases h with | c _ _ h => exact .c _ _ h.unren
  | g xs => cases h with | g _ _ h => exact .g _ _ h.unren

theorem ARep.unren {v : Value} {x : AVal} (h : ARep w X η C v (x.ren ρ)) : ARep w X (fun i => η (ρ i)) C v x := by
  cases x with
  | any => exact .any v
  | v x => cases h with | v _ _ h => exact .v _ _ h.unren
  | t xs =>
    cases h with
    | t us _ h1 h2 =>
      refine .t us xs (by simpa using h1) fun j hj => TRep.unren (ρ := ρ) ?_
      have := h2 j (by simpa using hj)
      rw [List.getD_eq_getElem?_getD, List.getElem?_map, List.getElem?_eq_getElem hj] at this
      rw [List.getD_eq_getElem?_getD, List.getElem?_eq_getElem hj]
      exact this

theorem ORep.unren {v : Value} {o : Obj} (h : ORep w X η C v (o.ren ρ)) : ORep w X (fun i => η (ρ i)) C v o := by
  cases o with
  | box ro cs => cases h with | box b _ c e _ h1 h2 => exact .box b ro c e cs h1 h2.unren
  | arr es n f =>
    cases h with
    | nil ad _ _ => exact .nil ad _ _
    | arr b _ cap _ c e _ h1 h2 h3 h4 h5 h6 h7 => exact .arr b _ cap _ c e _ h1 h2 h3 h4 h5 h6 h7

theorem CV.refs_ren (x : CV) : ∀ i ∈ x.refs, ρ i ∈ (x.ren ρ).refs := by
  cases x <;> simp [CV.refs, CV.ren]
  intro i hi; exact ⟨i, hi, rfl⟩
theorem TV.refs_ren (x : TV) : ∀ i ∈ x.refs, ρ i ∈ (x.ren ρ).refs := by
  cases x with
  | c x => exact CV.refs_ren x
  | g xs =>
    intro i hi
    obtain ⟨y, hy, hi⟩ := List.mem_flatMap.1 hi
    exact List.mem_flatMap.2 ⟨_, List.mem_map_of_mem hy, CV.refs_ren y i hi⟩
theorem AVal.refs_ren (x : AVal) : ∀ i ∈ x.refs, ρ i ∈ (x.ren ρ).refs := by
  cases x with
  | any => simp [AVal.refs]
  | v x => exact TV.refs_ren x
  | t xs =>
    intro i hi
    obtain ⟨y, hy, hi⟩ := List.mem_flatMap.1 hi
    exact List.mem_flatMap.2 ⟨_, List.mem_map_of_mem hy, TV.refs_ren y i hi⟩
theorem Obj.refs_ren (o : Obj) : ∀ i ∈ o.refs, ρ i ∈ (o.ren ρ).refs := by
  cases o with
  | box ro cs =>
    intro i hi
    obtain ⟨y, hy, hi⟩ := List.mem_flatMap.1 hi
    exact List.mem_flatMap.2 ⟨_, List.mem_map_of_mem hy, CV.refs_ren y i hi⟩
  | arr es n f => simp [Obj.refs]
theorem Obj.ro_ren (o : Obj) : (o.ren ρ).ro = o.ro := by cases o <;> rfl

/-- the same state under other names, and told more weakly -/
theorem Conc.conv {nt : Nat} {R R' : Nat → Prop} {e e' : Env} {s s' : Sto} {a : Act} (h : Conc C nt R η e s a w) (ρ : Nat → Nat) (he : ∀ t, ALe (e t) ((e' t).ren ρ)) (hs : ∀ i o', s' i = some o' → ∃ o, s (ρ i) = some o ∧ OLe o (o'.ren ρ))
    (hinj : ∀ i j, s' i ≠ none → s' j ≠ none → ρ i = ρ j → i = j) (hR : ∀ t i, i ∈ (e' t).refs → R' i) (hR2 : ∀ i o', s' i = some o' → R' i ∧ ∀ j ∈ o'.refs, R' j) (hpin : ∀ i, C.pin i ≠ none → ρ i = i ∧ R' i) :
    Conc C nt R' (fun i => η (ρ i)) e' s' a w := by
  have hk : Kept w w (XS C s η) (XS C s' fun i => η (ρ i)) := by
    intro b hb hX
    refine ⟨rfl, fun hX' => hX ?_⟩
    rcases hX' with hx | ⟨i, o', hi, hib⟩
    · exact .inl hx
    · obtain ⟨o, ho, _⟩ := hs i o' hi
      exact .inr ⟨ρ i, o, ho, hib⟩
  refine ⟨h.ok, h.df, h.sz, fun t => ?_, hR, fun i o' hi => ?_, hR2, fun i j b hi hj hbi hbj => ?_, fun i o' b hi hb => ?_, h.fr, fun i v hi => ?_⟩
  · exact ARep.unren (((he t).1 _ _ _ _ _ (h.ev t)).mono hk (fun _ _ => rfl))
  · obtain ⟨o, ho, hle⟩ := hs i o' hi
    exact ORep.unren ((hle.1 _ _ _ _ _ (h.st _ o ho)).mono hk (fun _ _ => rfl) (fun _ _ => rfl))
  · obtain ⟨oi, hoi⟩ := Option.ne_none_iff_exists'.1 hi
    obtain ⟨oj, hoj⟩ := Option.ne_none_iff_exists'.1 hj
    obtain ⟨oi', h1, _⟩ := hs i oi hoi
    obtain ⟨oj', h2, _⟩ := hs j oj hoj
    exact hinj i j hi hj (h.ds _ _ b (by rw [h1]; simp) (by rw [h2]; simp) hbi hbj)
  · obtain ⟨o, ho, hle⟩ := hs i o' hi
    have := h.ow _ o b ho hb
    have hro : o'.ro = o.ro := by rw [← hle.2.1, Obj.ro_ren]
    rw [hro]; exact this
  · have := hpin i (by rw [hi]; simp)
    exact ⟨by show η (ρ i) = v; rw [this.1]; exact (h.pn i v hi).1, this.2⟩
end

def rhoL (l : List (Nat × Nat)) (i : Nat) : Nat := (l.lookup i).getD i

theorem lk_mem {E : List (Nat × AVal)} {t : Nat} : lk E t = .any ∨ (t, lk E t) ∈ E := by
  unfold lk
  cases h : E.lookup t with
  | none => exact .inl rfl
  | some x =>
    right
    obtain ⟨l1, l2, hl, _⟩ := List.lookup_eq_some_iff.1 h
    rw [hl]; simp
theorem ls_mem {S : List (Nat × Obj)} {i : Nat} {o : Obj} (h : ls S i = some o) : (i, o) ∈ S := by
  obtain ⟨l1, l2, hl, _⟩ := List.lookup_eq_some_iff.1 h
  rw [hl]; simp

def nodupB : List Nat → Bool
  | [] => true
  | x :: r => !r.contains x && nodupB r
theorem nodupB_ok {l : List Nat} (h : nodupB l = true) : l.Nodup := by
  induction l with
  | nil => exact List.nodup_nil
  | cons x r ih => simp [nodupB] at h; exact List.nodup_cons.2 ⟨h.1, ih h.2⟩

theorem inj_of {S : List (Nat × Obj)} {ρ : Nat → Nat} (h : (S.map fun p => ρ p.1).Nodup) {i j : Nat} (hi : ls S i ≠ none) (hj : ls S j ≠ none) (hij : ρ i = ρ j) : i = j := by
  obtain ⟨oi, hoi⟩ := Option.ne_none_iff_exists'.1 hi
  obtain ⟨oj, hoj⟩ := Option.ne_none_iff_exists'.1 hj
  have h1 := ls_mem hoi
  have h2 := ls_mem hoj
  rcases Nat.decEq i j with hne | he
  · exfalso
    obtain ⟨l1, l2, rfl⟩ := List.append_of_mem h1
    rw [List.map_append, List.map_cons, List.nodup_append] at h
    rcases List.mem_append.1 h2 with h3 | h3
    · exact h.2.2 _ (List.mem_map_of_mem h3) _ (List.mem_cons_self) hij.symm
    · rcases List.mem_cons.1 h3 with h4 | h4
      · injection h4 with h5; exact hne h5.symm
      · have := (List.nodup_cons.1 h.2.1).1
        exact this (hij ▸ List.mem_map_of_mem (f := fun p : Nat × Obj => ρ p.1) h4)
  · exact he

section
variable {P : Program} {C : Ctx} {nt : Nat}

/-- a statement of a state written out -/
def Kn (C : Ctx) (nt : Nat) (E : List (Nat × AVal)) (S : List (Nat × Obj)) (K : Act → World → Prop) : Prop :=
  ∀ R η a w, Conc C nt R η (lk E) (ls S) a w → K a w

def AW (P : Program) (C : Ctx) (nt : Nat) (c : Code) (E : List (Nat × AVal)) (S : List (Nat × Obj)) (Q : Exit → Act → World → Prop) : Prop := Kn C nt E S (fun a w => c.wp P Q a w)

def pinsB (C : Ctx) (ρ : Nat → Nat) : Prop := ∀ i, C.pin i ≠ none → ρ i = i

/-- the state narrowed to what is written -/
theorem Conc.lit {R : Nat → Prop} {η : Nat → Value} {e : Env} {s : Sto} {a : Act} {w : World} (h : Conc C nt R η e s a w) {E : List (Nat × AVal)} {S : List (Nat × Obj)} {ρ : Nat → Nat} (hpin : pinsB C ρ)
    (hE : ∀ p ∈ E, ALe (e p.1) (p.2.ren ρ)) (hS : ∀ p ∈ S, ∃ o, s (ρ p.1) = some o ∧ OLe o (p.2.ren ρ)) (hinj : (S.map fun p => ρ p.1).Nodup) :
    Conc C nt (fun i => i ∈ refsL E S ∨ C.pin i ≠ none) (fun i => η (ρ i)) (lk E) (ls S) a w := by
  refine h.conv ρ (fun t => ?_) (fun i o' hi => hS _ (ls_mem hi)) (fun i j hi hj hij => inj_of hinj hi hj hij) (fun t i hi => .inl ?_) (fun i o' hi => ⟨.inl ?_, fun j hj => .inl ?_⟩) (fun i hi => ⟨hpin i hi, .inr hi⟩)
  · rcases lk_mem (E := E) (t := t) with h1 | h1
    · rw [h1]; exact ALe.any _
    · exact hE _ h1
  · rcases lk_mem (E := E) (t := t) with h1 | h1
    · rw [h1] at hi; cases hi
    · exact List.mem_append.2 (.inl (List.mem_flatMap.2 ⟨_, h1, hi⟩))
  · exact List.mem_append.2 (.inr (List.mem_flatMap.2 ⟨_, ls_mem hi, List.mem_cons_self⟩))
  · exact List.mem_append.2 (.inr (List.mem_flatMap.2 ⟨_, ls_mem hi, List.mem_cons_of_mem _ hj⟩))

theorem Conc.narrow {R : Nat → Prop} {η : Nat → Value} {E : List (Nat × AVal)} {S : List (Nat × Obj)} {a : Act} {w : World} (h : Conc C nt R η (lk E) (ls S) a w) :
    Conc C nt (fun i => i ∈ refsL E S ∨ C.pin i ≠ none) η (lk E) (ls S) a w := by
  refine ⟨h.ok, h.df, h.sz, h.ev, fun t i hi => .inl ?_, h.st, fun i o hi => ⟨.inl ?_, fun j hj => .inl ?_⟩, h.ds, h.ow, h.fr, fun i v hi => ⟨(h.pn i v hi).1, .inr (by rw [hi]; simp)⟩⟩
  · rcases lk_mem (E := E) (t := t) with h1 | h1
    · rw [h1] at hi; cases hi
    · exact List.mem_append.2 (.inl (List.mem_flatMap.2 ⟨_, h1, hi⟩))
  · exact List.mem_append.2 (.inr (List.mem_flatMap.2 ⟨_, ls_mem hi, List.mem_cons_self⟩))
  · exact List.mem_append.2 (.inr (List.mem_flatMap.2 ⟨_, ls_mem hi, List.mem_cons_of_mem _ hj⟩))

/-- to a state that says less -/
theorem Kn.le {E E' : List (Nat × AVal)} {S S' : List (Nat × Obj)} {K : Act → World → Prop} (ρ : Nat → Nat) (hpin : pinsB C ρ) (hE : ∀ p ∈ E', ALe (lk E p.1) (p.2.ren ρ)) (hS : ∀ p ∈ S', ∃ o, ls S (ρ p.1) = some o ∧ OLe o (p.2.ren ρ)) (hinj : (S'.map fun p => ρ p.1).Nodup)
    (h : Kn C nt E' S' K) : Kn C nt E S K := fun R η a w hc => h _ _ a w (hc.lit hpin hE hS hinj)

theorem forall_of_map {α β : Type} {l : List α} {f g : α → β} (h : l.map f = l.map g) : ∀ x ∈ l, f x = g x := by
  induction l with
  | nil => intro x hx; cases hx
  | cons y r ih =>
    simp only [List.map_cons, List.cons.injEq] at h
    intro x hx
    rcases List.mem_cons.1 hx with rfl | hx
    · exact h.1
    · exact ih h.2 x hx

/-- to a state that is met entry by entry, under other names -/
theorem Kn.to {E E' : List (Nat × AVal)} {S S' : List (Nat × Obj)} {K : Act → World → Prop} (ρ : List (Nat × Nat)) (hpin : pinsB C (rhoL ρ)) (hE : E'.map (fun p => lk E p.1) = E'.map (fun p => p.2.ren (rhoL ρ)))
    (hS : S'.map (fun p => ls S (rhoL ρ p.1)) = S'.map (fun p => some (p.2.ren (rhoL ρ)))) (hinj : nodupB (S'.map fun p => rhoL ρ p.1) = true) (h : Kn C nt E' S' K) : Kn C nt E S K :=
  Kn.le (rhoL ρ) hpin (fun p hp => ALe.of_eq (forall_of_map hE p hp)) (fun p hp => ⟨_, forall_of_map hS p hp, OLe.refl _⟩) (nodupB_ok hinj) h

theorem CV.ren_id (x : CV) : x.ren (fun i => i) = x := by cases x <;> simp [CV.ren]
theorem TV.ren_id (x : TV) : x.ren (fun i => i) = x := by
  cases x with
  | c x => simp [TV.ren, CV.ren_id]
  | g xs => simp only [TV.ren]; congr 1; conv => rhs; rw [← List.map_id xs]
            exact List.map_congr_left fun y _ => CV.ren_id y
theorem AVal.ren_id (x : AVal) : x.ren (fun i => i) = x := by
  cases x with
  | any => rfl
  | v x => simp [AVal.ren, TV.ren_id]
  | t xs => simp only [AVal.ren]; congr 1; conv => rhs; rw [← List.map_id xs]
            exact List.map_congr_left fun y _ => TV.ren_id y
theorem Obj.ren_id (o : Obj) : o.ren (fun i => i) = o := by
  cases o with
  | box ro cs => simp only [Obj.ren]; congr 1; conv => rhs; rw [← List.map_id cs]
                 exact List.map_congr_left fun y _ => CV.ren_id y
  | arr es n f => rfl

/-- one object of the store, told otherwise -/
theorem Kn.obj {E : List (Nat × AVal)} {S : List (Nat × Obj)} {K : Act → World → Prop} {k : Nat} {o o' : Obj} (hle : OLe o o') (h : Kn C nt E ((k, o') :: S) K) : Kn C nt E ((k, o) :: S) K := by
  intro R η a w hc
  refine h R (fun i => η i) a w (hc.conv (fun i => i) (fun t => by rw [AVal.ren_id]; exact ALe.refl _) (fun i x hi => ?_) (fun i j hi hj hij => hij) hc.er (fun i x hi => ?_) (fun i hi => ?_))
  · rw [Obj.ren_id]
    unfold ls at hi ⊢
    rw [List.lookup_cons] at hi ⊢
    cases hik : i == k with
    | true => rw [hik] at hi; cases hi; exact ⟨o, rfl, hle⟩
    | false => rw [hik] at hi; exact ⟨x, hi, OLe.refl _⟩
  · unfold ls at hi
    rw [List.lookup_cons] at hi
    cases hik : i == k with
    | true =>
      rw [hik] at hi; cases hi
      have := hc.sr i o (by unfold ls; rw [List.lookup_cons, hik])
      exact ⟨this.1, fun j hj => this.2 j (hle.2.2 j hj)⟩
    | false => rw [hik] at hi; exact hc.sr i x (by unfold ls; rw [List.lookup_cons, hik]; exact hi)
  · obtain ⟨v, hv⟩ := Option.ne_none_iff_exists'.1 hi
    exact ⟨rfl, (hc.pn i v hv).2⟩

/-- one value of the frame, told otherwise -/
theorem Kn.env {E : List (Nat × AVal)} {S : List (Nat × Obj)} {K : Act → World → Prop} {t : Nat} {x y : AVal} (hle : ALe x y) (h : Kn C nt ((t, y) :: E) S K) : Kn C nt ((t, x) :: E) S K := by
  intro R η a w hc
  have key : ∀ u, ALe (lk ((t, x) :: E) u) (lk ((t, y) :: E) u) := by
    intro u
    unfold lk
    rw [List.lookup_cons, List.lookup_cons]
    cases hut : u == t with
    | true => exact hle
    | false => exact ALe.refl _
  refine h R (fun i => η i) a w (hc.conv (fun i => i) (fun u => by rw [AVal.ren_id]; exact key u) (fun i x hi => ⟨x, hi, by rw [Obj.ren_id]; exact OLe.refl _⟩) (fun i j hi hj hij => hij) (fun u i hi => hc.er u i ((key u).2 i hi)) hc.sr (fun i hi => ?_))
  obtain ⟨v, hv⟩ := Option.ne_none_iff_exists'.1 hi
  exact ⟨rfl, (hc.pn i v hv).2⟩

/-- what holds in a frame of the program: the facts that no state tells -/
structure Fr (P : Program) (L : Lay) (C : Ctx) (pins : List Nat) : Prop where
  mixed : P.follows .mixedOrders = true
  lay : LOk P L
  pin : ∀ i, C.pin i ≠ none → i ∈ pins

def chkB (L : Lay) (pins : List Nat) (nt : Nat) (ops : Array Oper) (draw : Bool) (ds : List Dir) (E : List (Nat × AVal)) (S : List (Nat × Obj)) (ρ : List (Nat × Nat)) (S' : List (Nat × Obj)) : Bool :=
  let F := arunF L ops ops.toList ds (lk E) (ls S)
  ops.toList.all (dstOk nt) && nodupB (newsOf F) && (newsOf F).all (fun n => !(refsL E S).contains n && !pins.contains n) && (!draw || commB ops.toList F) && nodupB (S'.map fun p => rhoL ρ p.1) && pins.all fun i => rhoL ρ i == i

theorem runAll_len : ∀ (os : List Oper) (fs : List Eff) (e : Env) (s : Sto) (ops : Array Oper), RunAll P C nt ops os fs e s → os.length = fs.length := by
  intro os
  induction os with
  | nil => intro fs e s ops h; cases fs with
    | nil => rfl
    | cons f fs => exact h.elim
  | cons o os ih => intro fs e s ops h; cases fs with
    | nil => exact h.elim
    | cons f fs => simp [ih fs _ _ ops h.2]

theorem AW.region {L : Lay} {pins : List Nat} (Fm : Fr P L C pins) {id : Nat} {ops : Array Oper} {draw : Bool} {E E' : List (Nat × AVal)} {S S' : List (Nat × Obj)} {Q : Exit → Act → World → Prop} (ds : List Dir) (ρ : List (Nat × Nat))
    (hchk : chkB L pins nt ops draw ds E S ρ S' = true) (hC : arunC P C nt L ops ops.toList ds (lk E) (ls S))
    (he0 : E'.map (fun p => endE ops.toList (arunF L ops ops.toList ds (lk E) (ls S)) (lk E) p.1) = E'.map (fun p => p.2.ren (rhoL ρ)))
    (hs0 : S'.map (fun p => endS (arunF L ops ops.toList ds (lk E) (ls S)) (ls S) (rhoL ρ p.1)) = S'.map (fun p => some (p.2.ren (rhoL ρ))))
    (k : Kn C nt E' S' (Q .normal)) : AW P C nt (.region id ops draw) E S Q := by
  simp only [chkB, Bool.and_eq_true] at hchk
  obtain ⟨⟨⟨⟨⟨c1, c2⟩, c3⟩, c4⟩, c5⟩, c6⟩ := hchk
  have hrun := arun_all (P := P) (C := C) (nt := nt) (L := L) (ops := ops) Fm.lay ops.toList ds (lk E) (ls S) c1 hC
  generalize hF : arunF L ops ops.toList ds (lk E) (ls S) = F at *
  have hpin : pinsB C (rhoL ρ) := fun i hi => by
    have := List.all_eq_true.1 c6 i (Fm.pin i hi)
    simpa using this
  have hnd := nodupB_ok c2
  intro R η a w hc
  have hcn := hc.narrow
  have hfr : ∀ n ∈ newsOf F, ¬ (n ∈ refsL E S ∨ C.pin n ≠ none) := by
    intro n hn hx
    have := List.all_eq_true.1 c3 n hn
    simp at this
    rcases hx with hx | hx
    · exact this.1 hx
    · exact this.2 (Fm.pin n hx)
  have fin : ∀ η' a' w', Conc C nt (fun i => (i ∈ refsL E S ∨ C.pin i ≠ none) ∨ i ∈ newsOf F) η' (endE ops.toList F (lk E)) (endS F (ls S)) a' w' → Q .normal a' w' := fun η' a' w' hc' =>
    k _ _ a' w' (hc'.lit hpin (fun p hp => ALe.of_eq (forall_of_map he0 p hp)) (fun p hp => ⟨_, forall_of_map hs0 p hp, OLe.refl _⟩) (nodupB_ok c5))
  cases draw with
  | false => exact wp_region_list (runAll_seq ops.toList F _ η _ _ a w hrun hnd hfr hcn fin)
  | true =>
    have hcm : commB ops.toList F = true := by simpa using c4
    obtain ⟨g1, g2, g3⟩ := commGo_spec ops.toList F ops.toList F [] [] hcm rfl rfl rfl (fun k i hk => by simp at hk)
    have hat := runAll_at (P := P) (C := C) (nt := nt) (ops := ops) ops.toList F ops.toList F 0 (lk E) (ls S) (fun j => by rw [Nat.zero_add]) (fun j _ => by rw [Nat.zero_add]) g3 hrun
    obtain ⟨h1, h2, h3⟩ := hat
    simp only [Nat.zero_add, List.range_zero, List.reverse_nil] at h1 h2 h3
    refine wp_region_any Fm.mixed (anyorder (R := fun i => i ∈ refsL E S ∨ C.pin i ≠ none) (e0 := lk E) (s0 := ls S) g3 (fun j o e => g1 j o e (Nat.zero_le _)) (fun i j oi oj fi fj hij => g2 i j oi oj fi fj hij (Nat.zero_le _)) h1 hnd hfr (fun η' a' w' hc' => fin η' a' w' ?_)
      ops.size (Array.replicate ops.size false) [] η a _ (by simp) (fun i hi => by simp [hi]) (by simp) ⟨List.nodup_nil, fun l1 k l2 hh => by simp at hh⟩ (by simp) ?_)
    · have e2 : endE ops.toList F (lk E) = hE ops.toList F (lk E) (List.range ops.size).reverse := by rw [Array.length_toList] at h2; exact h2
      have e3 : endS F (ls S) = hS F (ls S) (List.range ops.size).reverse := by rw [Array.length_toList] at h3; exact h3
      rw [e2, e3]; exact hc'
    · exact hcn.drew.wider fun i hi => .inl hi

end
end Go.Ab
end

section
/- The rules for code; what a function does; calls. -/
namespace Go.Ab

section
variable {P : Program} {C : Ctx} {nt : Nat} {L : Lay} {pins : List Nat} {E : List (Nat × AVal)} {S : List (Nat × Obj)} {Q : Exit → Act → World → Prop}

theorem AW.seq {x y : Code} (h : AW P C nt x E S (Exit.then (y.wp P Q) Q)) : AW P C nt (.seq x y) E S Q := fun R η a w hc => wp_seq (h R η a w hc)
theorem AW.skip (h : Kn C nt E S (Q .normal)) : AW P C nt .skip E S Q := fun R η a w hc => wp_skip (h R η a w hc)
theorem AW.ret (h : Kn C nt E S (Q .ret)) : AW P C nt .ret E S Q := fun R η a w hc => wp_ret (h R η a w hc)
theorem AW.exit {id : Nat} (h : Kn C nt E S (Q (.exit id))) : AW P C nt (.exit id) E S Q := fun R η a w hc => wp_exit (h R η a w hc)
theorem AW.block {id : Nat} {c : Code} (h : AW P C nt c E S (Exit.inBlock id Q)) : AW P C nt (.block id c) E S Q := fun R η a w hc => wp_block (h R η a w hc)

theorem AW.cond {t : Nat} {x y : Code} {b : Bool} (hb : lk E t = vb b) (ht : b = true → AW P C nt x E S Q) (hf : b = false → AW P C nt y E S Q) : AW P C nt (.cond (.tmp t) x y) E S Q := by
  intro R η a w hc
  have hv := hc.ev t
  rw [hb] at hv
  have ev : a.eval (.tmp t) = .bool b := bool_inv hv
  cases b with
  | true => exact wp_cond_true ev (ht rfl R η a w hc)
  | false => exact wp_cond_false ev (hf rfl R η a w hc)

/-- from a condition on the outcome -/
theorem AW.mono {c : Code} {Q' : Exit → Act → World → Prop} (h : AW P C nt c E S Q') (hq : ∀ e a w, Q' e a w → Q e a w) : AW P C nt c E S Q := fun R η a w hc => wp_mono (h R η a w hc) hq

/-- a state that hangs on data -/
def Ex {σ : Type} (C : Ctx) (nt : Nat) (I : σ → Prop) (E : σ → List (Nat × AVal)) (S : σ → List (Nat × Obj)) (a : Act) (w : World) : Prop := ∃ z, I z ∧ ∃ R η, Conc C nt R η (lk (E z)) (ls (S z)) a w

theorem Kn.ex {σ : Type} {I : σ → Prop} {E' : σ → List (Nat × AVal)} {S' : σ → List (Nat × Obj)} (z : σ) (hz : I z) : Kn C nt (E' z) (S' z) (Ex C nt I E' S') := fun R η _ _ hc => ⟨z, hz, R, η, hc⟩

theorem AW.cut {σ : Type} {x y : Code} (I : σ → Prop) (E' : σ → List (Nat × AVal)) (S' : σ → List (Nat × Obj)) (h : AW P C nt x E S (Exit.then (Ex C nt I E' S') Q)) (k : ∀ z, I z → AW P C nt y (E' z) (S' z) Q) : AW P C nt (.seq x y) E S Q := by
  refine AW.seq (h.mono fun e a w hh => ?_)
  cases e with
  | normal => obtain ⟨z, hz, R, η, hc⟩ := hh; exact k z hz R η a w hc
  | _ => exact hh

theorem AW.loop {σ : Type} {c : Code} (I : σ → Prop) (μ : σ → Nat) (E' : σ → List (Nat × AVal)) (S' : σ → List (Nat × Obj)) (round : ∀ z, I z → AW P C nt c (E' z) (S' z) (Exit.then (Ex C nt (fun z' => I z' ∧ μ z' < μ z) E' S') Q)) (z0 : σ) (h0 : I z0) :
    AW P C nt (.loop c) (E' z0) (S' z0) Q := by
  classical
  intro R η a w hc
  let J : Act → World → Nat → Prop := fun a w n => ∃ z, I z ∧ μ z = n ∧ ∃ R η, Conc C nt R η (lk (E' z)) (ls (S' z)) a w
  let m : Act → World → Nat := fun a w => if h : ∃ n, J a w n then h.choose else 0
  have hwf : ∀ (n : Nat) a w, J a w n → ∃ k, J a w k ∧ ∀ j, J a w j → k ≤ j := by
    intro n
    induction n using Nat.strongRecOn with
    | _ n ih =>
      intro a w hn
      rcases Classical.em (∃ j, j < n ∧ J a w j) with ⟨j, hj, hJ⟩ | hno
      · exact ih j hj a w hJ
      · exact ⟨n, hn, fun j hj => Nat.le_of_not_lt fun hlt => hno ⟨j, hlt, hj⟩⟩
  let μ' : Act → World → Nat := fun a w => if h : ∃ n, J a w n then (hwf h.choose a w h.choose_spec).choose else 0
  have hμ : ∀ a w, (∃ n, J a w n) → J a w (μ' a w) ∧ ∀ j, J a w j → μ' a w ≤ j := by
    intro a w hh
    have : μ' a w = (hwf hh.choose a w hh.choose_spec).choose := by simp only [μ', hh, dite_true]
    rw [this]
    exact (hwf hh.choose a w hh.choose_spec).choose_spec
  refine wp_loop (fun a w => ∃ n, J a w n) μ' ⟨_, z0, h0, rfl, R, η, hc⟩ fun a w hh => ?_
  obtain ⟨⟨z, hz, hzm, R', η', hc'⟩, _⟩ := hμ a w hh
  refine Code.wp_mono (fun e a2 w2 hq => ?_) (round z hz R' η' a w hc')
  cases e with
  | normal =>
    obtain ⟨z', ⟨hz', hlt⟩, R2, η2, hc2⟩ := hq
    have hJ : J a2 w2 (μ z') := ⟨z', hz', rfl, R2, η2, hc2⟩
    exact ⟨⟨_, hJ⟩, Nat.lt_of_le_of_lt ((hμ a2 w2 ⟨_, hJ⟩).2 _ hJ) (by rw [← hzm]; exact hlt)⟩
  | _ => exact hq

/-! ## what a function hands back -/

def resV (L : Lay) (e : Env) (s : Sto) : ResultVar → Option TV
  | .tmp t => match e t with
    | .v x => some x
    | _ => none
  | .cell a t => match L t with
    | some ti => match rd s ti.size (e a) with
      | some (cs, _) => if isPte (e a) then none else match mkT ti.kind.agg cs with
        | some (.v x) => some x
        | _ => none
      | none => none
    | none => none

def resVs (L : Lay) (e : Env) (s : Sto) : List ResultVar → Option (List TV)
  | [] => some []
  | r :: rs => match resV L e s r, resVs L e s rs with
    | some x, some xs => some (x :: xs)
    | _, _ => none

def resA (L : Lay) (e : Env) (s : Sto) (rs : List ResultVar) : Option AVal :=
  match rs, resVs L e s rs with
  | [_], some [x] => some (.v x)
  | [_], _ => none
  | _, some xs => some (.t xs)
  | _, none => none

def rvSem (tmps : Array Value) : ResultVar → Sem Value
  | .tmp t => pure (tmps.getD t undef)
  | .cell a t => do loadVar t (← asAddr (tmps.getD a undef))

theorem resV_ok (hL : LOk P L) {R : Nat → Prop} {η : Nat → Value} {e : Env} {s : Sto} {a : Act} {w : World} (h : Conc C nt R η e s a w) {r : ResultVar} {x : TV} (hr : resV L e s r = some x) :
    ∃ v, (rvSem a.tmps r).run P w = .ok v w ∧ TRep w (XS C s η) η C v x := by
  cases r with
  | tmp t =>
    simp only [resV] at hr
    split at hr
    · rename_i y hy
      cases hr
      have := h.ev t
      rw [hy] at this
      refine ⟨a.tmps.getD t undef, rfl, ?_⟩
      generalize a.tmps.getD t undef = u at this
      cases this with
      | v _ _ hv => exact hv
    · cases hr
  | cell a' t =>
    simp only [resV] at hr
    split at hr
    · rename_i ti ht
      split at hr
      · rename_i cs c hrd
        split at hr
        · cases hr
        · rename_i hnp
          split at hr
          · rename_i y hy
            cases hr
            have hc : c := by
              unfold rd at hrd
              split at hrd
              · split at hrd
                · split at hrd <;> first | (cases hrd; done) | (cases hrd; trivial)
                · cases hrd
              · split at hrd <;> first | (cases hrd; done) | (cases hrd; trivial)
              · rename_i hx; rw [hx] at hnp; simp [isPte] at hnp
              · cases hrd
            obtain ⟨i, d, z, hti⟩ := hL t ti ht
            obtain ⟨b, off, c', e', fz, ex, hb, ho, hl, hcs, hrf⟩ := rd_ok h hrd hc (h.ev a')
            have h1 : ti.kind.agg = false → ti.size = 1 := by
              intro ha
              rw [ha] at hy
              simp only [mkT] at hy
              split at hy
              · rw [← hl]; rfl
              · cases hy
            have hrun := run_loadVar (P := P) hti hb ho h1
            refine ⟨if ti.kind.agg then .agg (vals c' off ti.size).toArray else c'.getD off undef, ?_, ?_⟩
            · simp only [rvSem, Sem.run_bind, ex, asAddr, Sem.run_pure, Result.andThen_ok, hrun]
            · unfold mkT at hy
              split at hy
              · rename_i ha
                cases hy
                simp only [ha, if_true]
                refine .g _ _ ⟨by simp [vals, hl], fun j hj => ?_⟩
                rw [hl] at hj
                have : (vals c' off ti.size).toArray.getD j undef = c'.getD (off + j) undef := by simp [vals, hj]
                rw [this]; exact hcs j hj
              · rename_i ha
                split at hy
                · cases hy
                  simp only [ha, Bool.false_eq_true, if_false]
                  have := hcs 0 (by rw [h1 ha]; exact Nat.zero_lt_one)
                  exact .c _ _ (by simpa using this)
                · cases hy
          · cases hr
      · cases hr
    · cases hr

theorem resVs_ok (hL : LOk P L) {R : Nat → Prop} {η : Nat → Value} {e : Env} {s : Sto} {a : Act} {w : World} (h : Conc C nt R η e s a w) : ∀ (rs : List ResultVar) (xs : List TV), resVs L e s rs = some xs →
    ∃ vs : List Value, (rs.mapM (rvSem a.tmps)).run P w = .ok vs w ∧ vs.length = xs.length ∧ ∀ j, j < xs.length → TRep w (XS C s η) η C (vs.getD j undef) (xs.getD j (.c (.d .any))) := by
  intro rs
  induction rs with
  | nil => intro xs hr; cases hr; exact ⟨[], by simp, rfl, fun j hj => by simp at hj⟩
  | cons r rs ih =>
    intro xs hr
    simp only [resVs] at hr
    split at hr
    · rename_i x xs' hx hxs
      cases hr
      obtain ⟨v, g1, g2⟩ := resV_ok hL h hx
      obtain ⟨vs, g3, g4, g5⟩ := ih xs' hxs
      refine ⟨v :: vs, ?_, by simp [g4], fun j hj => ?_⟩
      · simp only [List.mapM_cons, Sem.run_bind, g1, g3, Result.andThen_ok, Sem.run_pure]
      · cases j with
        | zero => exact g2
        | succ j => exact g5 j (by simpa using hj)
    · cases hr

theorem resA_ok (hL : LOk P L) {R : Nat → Prop} {η : Nat → Value} {e : Env} {s : Sto} {a : Act} {w : World} (h : Conc C nt R η e s a w) {fn : Func} {x : AVal} (hr : resA L e s fn.results.toList = some x) :
    ∃ v, (results fn a.tmps).run P w = .ok v w ∧ ARep w (XS C s η) η C v x := by
  have hrun : ∀ xs, resVs L e s fn.results.toList = some xs → ∃ vs : List Value, (results fn a.tmps).run P w = .ok (if h : vs.toArray.size = 1 then vs.toArray[0] else .tuple vs.toArray) w ∧ vs.length = xs.length ∧ ∀ j, j < xs.length → TRep w (XS C s η) η C (vs.getD j undef) (xs.getD j (.c (.d .any))) := by
    intro xs hxs
    obtain ⟨vs, g1, g2, g3⟩ := resVs_ok hL h _ _ hxs
    refine ⟨vs, ?_, g2, g3⟩
    have hdef : results fn a.tmps = (do let vs ← fn.results.mapM (rvSem a.tmps); pure (if h : vs.size = 1 then vs[0] else .tuple vs)) := by
      unfold results
      congr 1
    rw [hdef]
    simp only [Sem.run_bind, Array.mapM_eq_mapM_toList, Sem.run_map, g1, Result.andThen_ok, Sem.run_pure]
  unfold resA at hr
  split at hr
  · rename_i r x' hrs hxs
    cases hr
    obtain ⟨vs, g1, g2, g3⟩ := hrun _ hxs
    refine ⟨vs.getD 0 undef, ?_, .v _ _ (g3 0 (by simp))⟩
    rw [g1]
    cases vs with
    | nil => simp at g2
    | cons v r => cases r with
      | nil => rfl
      | cons _ _ => simp at g2
  · cases hr
  · skip
    rename_i xs hxs _ hne
    cases hr
    obtain ⟨vs, g1, g2, g3⟩ := hrun _ hxs
    refine ⟨.tuple vs.toArray, ?_, .t _ _ (by simpa using g2) (fun j hj => by simpa [List.getD_eq_getElem?_getD] using g3 j hj)⟩
    rw [g1]
    have hlen : ∀ (rs : List ResultVar) (xs : List TV), resVs L e s rs = some xs → rs.length = xs.length := by
      intro rs
      induction rs with
      | nil => intro xs h; cases h; rfl
      | cons r rs ih =>
        intro xs h
        simp only [resVs] at h
        split at h
        · rename_i x1 x2 e1 e2; cases h; simp [ih _ e2]
        · cases h
    have hs : ¬ vs.toArray.size = 1 := by
      intro hh
      have h1 : vs.length = 1 := by simpa using hh
      have := hlen _ _ hxs
      rw [← g2, h1] at this
      obtain ⟨r, hr⟩ := List.length_eq_one_iff.1 this
      exact hne r hr
    rw [dif_neg hs]
  · cases hr

end
end Go.Ab
end

section
/- What a function does, told of its arguments and of the objects handed to it. -/
namespace Go.Ab

def callCtx (S : List (Nat × Obj)) (w : World) (X : Nat → Prop) (η : Nat → Value) : Ctx where
  w0 := w
  D := Own (ls S) η
  M := fun b => ∃ i o, ls S i = some o ∧ o.ro = false ∧ blk (η i) = some b
  X := X
  pin := fun i => if (S.lookup i).isSome then some (η i) else none

/-- what stands behind a call: v the value handed back -/
structure Behind (C : Ctx) (r : AVal) (S' : List (Nat × Obj)) (v : Value) (η' : Nat → Value) (w' : World) : Prop where
  stp : Stp C.M C.w0 w'
  res : ARep w' (XS C (ls S') η') η' C v r
  objs : ∀ i o, ls S' i = some o → ORep w' (XS C (ls S') η') η' C (η' i) o
  ds : ∀ i j b, ls S' i ≠ none → ls S' j ≠ none → blk (η' i) = some b → blk (η' j) = some b → i = j
  ow : ∀ i o b, ls S' i = some o → blk (η' i) = some b → (o.ro = true ∧ C.D b) ∨ C.M b ∨ C.w0.heap.size ≤ b
  pn : ∀ i v, C.pin i = some v → η' i = v

def FSpec (P : Program) (f : Nat) (args : List AVal) (S : List (Nat × Obj)) (r : AVal) (S' : List (Nat × Obj)) : Prop :=
  ∀ (w : World) (X : Nat → Prop) (η : Nat → Value) (vs : Array Value), (∀ b, X b → b < w.heap.size) → (∀ b, Own (ls S) η b → X b) →
    (∀ i o, ls S i = some o → ORep w X η (callCtx S w X η) (η i) o) → (∀ i j b, ls S i ≠ none → ls S j ≠ none → blk (η i) = some b → blk (η j) = some b → i = j) →
    vs.size = args.length → (∀ j, j < args.length → ARep w X η (callCtx S w X η) (vs.getD j undef) (args.getD j .any)) →
    Calls P f vs w fun e w' => ∃ v η', e = .returned v ∧ Behind (callCtx S w X η) r S' v η' w'

def argsE (args : List AVal) : List (Nat × AVal) := args.zipIdx.map fun p => (p.2, p.1)

/-- the outcome that a body owes -/
def retQ (P : Program) (fn : Func) (C : Ctx) (r : AVal) (S' : List (Nat × Obj)) : Exit → Act → World → Prop :=
  bodyPost P fn fun e w' => ∃ v η', e = .returned v ∧ Behind C r S' v η' w'

section
variable {P : Program} {L : Lay}

theorem own_ext {S : List (Nat × Obj)} {X : Nat → Prop} {η : Nat → Value} {w : World} (h : ∀ b, Own (ls S) η b → X b) : XS (callCtx S w X η) (ls S) η = X := by
  funext b
  apply propext
  constructor
  · rintro (⟨hx, _⟩ | hx)
    · exact hx
    · exact h b hx
  · intro hx
    rcases Classical.em (Own (ls S) η b) with ho | ho
    · exact .inr ho
    · exact .inl ⟨hx, ho⟩

theorem argsE_lk (args : List AVal) (t : Nat) : lk (argsE args) t = args.getD t .any := by
  unfold lk argsE
  have key : ∀ (l : List AVal) (k t : Nat), (((l.zipIdx k).map fun p => (p.2, p.1)).lookup t).getD .any = if t < k then .any else l.getD (t - k) .any := by
    intro l
    induction l with
    | nil => intro k t; simp
    | cons x l ih =>
      intro k t
      simp only [List.zipIdx_cons, List.map_cons, List.lookup_cons]
      by_cases ht : t = k
      · subst ht; simp
      · have : (t == k) = false := by simpa using ht
        simp only [this]
        rw [ih (k + 1) t]
        by_cases h1 : t < k
        · rw [if_pos (by omega), if_pos h1]
        · rw [if_neg (by omega), if_neg h1]
          have : t - k = (t - (k + 1)) + 1 := by omega
          rw [this]; simp
  have := key args 0 t
  simpa using this

theorem FSpec.intro (hm : P.follows .mixedOrders = true) (hL : LOk P L) {f : Nat} {fn : Func} {c : Code} (hf : P.funcs[f]? = some fn) (hb : fn.body = some c) {args : List AVal} {S : List (Nat × Obj)} {r : AVal} {S' : List (Nat × Obj)} (hn0 : Nat.ble args.length fn.ntmps = true)
    (h : ∀ C, Fr P L C (S.map (·.1)) → AW P C fn.ntmps c (argsE args) S (retQ P fn C r S')) : FSpec P f args S r S' := by
  have hn : args.length ≤ fn.ntmps := Nat.le_of_ble_eq_true hn0
  intro w X η vs hX hown hobj hdist hsz hargs
  have hC : (callCtx S w X η).Ok := ⟨fun b ⟨i, o, h1, _, h2⟩ => ⟨i, o, h1, h2⟩, fun b hb => hown b hb, hX⟩
  refine calls_of_wp hf hb (h (callCtx S w X η) ⟨hm, hL, fun i hi => ?_⟩ (fun _ => True) η _ w ⟨hC, rfl, ?_, fun t => ?_, fun _ _ _ => trivial, fun i o hi => ?_, fun _ _ _ => ⟨trivial, fun _ _ => trivial⟩, hdist, fun i o b hi hbi => ?_, Stp.refl _ _, fun i v hi => ⟨?_, trivial⟩⟩)
  · simp only [callCtx] at hi
    split at hi
    · rename_i hs
      obtain ⟨o, ho⟩ := Option.isSome_iff_exists.1 hs
      obtain ⟨l1, l2, hl, _⟩ := List.lookup_eq_some_iff.1 ho
      rw [hl]; simp
    · exact absurd rfl hi
  · simp; omega
  · rw [own_ext hown, argsE_lk]
    by_cases ht : t < args.length
    · have e1 : (vs ++ Array.replicate (fn.ntmps - vs.size) undef).getD t undef = vs.getD t undef := by
        have : t < vs.size := by omega
        simp [this, Array.getElem?_append, Array.getD_eq_getD_getElem?]
      simp only [e1]
      exact hargs t ht
    · rw [List.getD_eq_getElem?_getD, List.getElem?_eq_none (by omega)]
      exact .any _
  · rw [own_ext hown]; exact hobj i o hi
  · cases hro : o.ro with
    | true => exact .inl ⟨rfl, ⟨i, o, hi, hbi⟩⟩
    | false => exact .inr (.inl ⟨i, o, hi, hro, hbi⟩)
  · simp only [callCtx] at hi
    split at hi
    · cases hi; rfl
    · cases hi

/-- the end of a body -/
theorem Kn.done {C : Ctx} {nt : Nat} {pins : List Nat} (Fm : Fr P L C pins) {fn : Func} {E : List (Nat × AVal)} {S : List (Nat × Obj)} {r : AVal} {S' : List (Nat × Obj)} (hr : resA L (lk E) (ls S) fn.results.toList = some r)
    (hS : S'.map (fun p => ls S p.1) = S'.map (fun p => some p.2)) : Kn C nt E S (retQ P fn C r S' .ret) := by
  intro R η a w hc
  obtain ⟨v, h1, h2⟩ := resA_ok (P := P) Fm.lay hc hr
  have hsub : ∀ i o, ls S' i = some o → ls S i = some o := fun i o hi => forall_of_map hS (i, o) (ls_mem hi)
  have hk : Kept w w (XS C (ls S) η) (XS C (ls S') η) := by
    intro b hb hX
    refine ⟨rfl, fun hX' => hX ?_⟩
    rcases hX' with hx | ⟨i, o, hi, hib⟩
    · exact .inl hx
    · exact .inr ⟨i, o, hsub i o hi, hib⟩
  have hne : ∀ i, ls S' i ≠ none → ls S i ≠ none := by
    intro i hi
    obtain ⟨o, ho⟩ := Option.ne_none_iff_exists'.1 hi
    rw [hsub i o ho]; simp
  exact ⟨hc.df, v, h1, v, η, rfl, hc.fr, h2.mono hk (fun _ _ => rfl), fun i o hi => (hc.st i o (hsub i o hi)).mono hk (fun _ _ => rfl) (fun _ _ => rfl),
    fun i j b hi hj => hc.ds i j b (hne i hi) (hne j hj), fun i o b hi => hc.ow i o b (hsub i o hi), fun i v hi => (hc.pn i v hi).1⟩

/-- a body that falls off its end -/
theorem Kn.doneN {C : Ctx} {nt : Nat} {pins : List Nat} (Fm : Fr P L C pins) {fn : Func} {E : List (Nat × AVal)} {S : List (Nat × Obj)} {r : AVal} {S' : List (Nat × Obj)} (hr : resA L (lk E) (ls S) fn.results.toList = some r)
    (hS : S'.map (fun p => ls S p.1) = S'.map (fun p => some p.2)) : Kn C nt E S (retQ P fn C r S' .normal) := Kn.done Fm hr hS

end
end Go.Ab
end

section
/- The layout of a program's types, read off the program. -/
namespace Go.Ab

def zeroCV : Value → CV
  | .int k n => .d (.int k n)
  | .bool b => .d (.bool b)
  | .string s => .d (.str s)
  | .slice none 0 0 => .fl 0 fun _ => []
  | _ => .d .any

def kindOf : TypeDesc → TK
  | .int k => .int k
  | .bool => .bool
  | .string => .str
  | .slice e => .slice e
  | .struct fs => .struct (fs.toList.map fun f => (f.offset, f.type))
  | .array n e => .array n e
  | _ => .other

def layOf (P : Program) (t : Nat) : Option TI :=
  match P.info? t, P.underlying t with
  | some i, some d => match i.zero with
    | some z => if z.cells.toList.all Value.oneCell' then some ⟨kindOf d, i.size, i.bytes, z.cells.toList.map zeroCV⟩ else none
    | none => none
  | _, _ => none

theorem zeroCV_ok {w : World} {X : Nat → Prop} {η : Nat → Value} {C : Ctx} {v : Value} (h : v.oneCell' = true) : CRep w X η C v (zeroCV v) ∧ (zeroCV v).refs = [] := by
  unfold zeroCV
  split
  · exact ⟨.d _ _ (.int _ _), rfl⟩
  · exact ⟨.d _ _ (.bool _), rfl⟩
  · exact ⟨.d _ _ (.str _), rfl⟩
  · exact ⟨.fl _ _ _ (.nil _ _ _), rfl⟩
  · exact ⟨.d _ _ (.any _ h), rfl⟩

theorem layOf_ok (P : Program) : LOk P (layOf P) := by
  intro t ti h
  unfold layOf at h
  split at h
  · rename_i i d hi hd
    split at h
    · rename_i z hz
      split at h
      · rename_i hall
        cases h
        rw [List.all_eq_true] at hall
        refine ⟨i, d, z, hi, hd, rfl, rfl, hz, fun w X η C => ⟨by simp, fun j hj => ?_⟩, ?_, ?_⟩
        · have hj' : j < z.cells.size := by simpa using hj
          have hm : z.cells[j] ∈ z.cells.toList := by simp
          have := (zeroCV_ok (w := w) (X := X) (η := η) (C := C) (hall _ hm)).1
          simpa [List.getD_eq_getElem?_getD, hj'] using this
        · rw [List.flatMap_eq_nil_iff]
          intro x hx
          obtain ⟨v, hv, rfl⟩ := List.mem_map.1 hx
          exact (zeroCV_ok (w := default) (X := fun _ => False) (η := fun _ => default) (C := ⟨default, fun _ => False, fun _ => False, fun _ => False, fun _ => none⟩) (hall v hv)).2
        · cases d <;> simp [kindOf, KOk]
      · cases h
    · cases h
  · cases h

/-- a table of the types in use -/
def tblL (T : List (Nat × TI)) : Lay := fun t => T.lookup t

theorem tbl_ok {P : Program} {T : List (Nat × TI)} (h : T.map (fun p => layOf P p.1) = T.map (fun p => some p.2)) : LOk P (tblL T) := by
  intro t ti ht
  obtain ⟨l1, l2, hl, _⟩ := List.lookup_eq_some_iff.1 ht
  exact layOf_ok P t ti (forall_of_map h (t, ti) (by rw [hl]; simp))

section
variable {P : Program} {C : Ctx} {nt : Nat} {L : Lay} {pins : List Nat}
/-- AW.region, what is left to show told by the caller -/
theorem AW.reg (Fm : Fr P L C pins) {id : Nat} {ops : Array Oper} {draw : Bool} {E : List (Nat × AVal)} {S : List (Nat × Obj)} {Q : Exit → Act → World → Prop} (ds : List Dir) (ρ : List (Nat × Nat)) (c : Prop) (E' : List (Nat × AVal)) (S' : List (Nat × Obj)) (hc : c)
    (hchk : chkB L pins nt ops draw ds E S ρ S' = true) (hC : arunC P C nt L ops ops.toList ds (lk E) (ls S) = c)
    (he0 : E'.map (fun p => endE ops.toList (arunF L ops ops.toList ds (lk E) (ls S)) (lk E) p.1) = E'.map (fun p => p.2.ren (rhoL ρ)))
    (hs0 : S'.map (fun p => endS (arunF L ops ops.toList ds (lk E) (ls S)) (ls S) (rhoL ρ p.1)) = S'.map (fun p => some (p.2.ren (rhoL ρ))))
    (k : Kn C nt E' S' (Q .normal)) : AW P C nt (.region id ops draw) E S Q := AW.region Fm ds ρ hchk (hC ▸ hc) he0 hs0 k
end
end Go.Ab
end

section
/- Calls by what is told of the callee. -/
namespace Go.Ab

def CV.noSem : CV → Bool
  | .sem _ => false
  | _ => true
def TV.noSem : TV → Bool
  | .c x => x.noSem
  | .g xs => xs.all CV.noSem
def AVal.noSem : AVal → Bool
  | .any => true
  | .v x => x.noSem
  | .t xs => xs.all TV.noSem
def Obj.noSem : Obj → Bool
  | .box _ cs => cs.all CV.noSem
  | .arr _ _ _ => true

section
variable {w : World} {X : Nat → Prop} {η : Nat → Value} {C C' : Ctx}

theorem CRep.ctx {v : Value} {x : CV} (h : CRep w X η C v x) (hx : x.noSem = true) : CRep w X η C' v x := by
  cases h with
  | d _ _ h => exact .d _ _ h
  | fl _ _ _ h => exact .fl _ _ _ h
  | own _ _ h h1 => exact .own _ _ h h1
  | ptr _ _ _ h => exact .ptr _ _ _ h
  | pte _ _ _ _ _ _ _ h => exact .pte _ _ _ _ _ _ _ h
  | sub b N cap _ es lo n h h1 h2 => exact .sub b N cap _ es lo n h h1 h2
  | subN ad ad' N _ es h => exact .subN ad ad' N _ es h
  | elm _ _ _ _ _ _ h1 h2 h3 h4 => exact .elm _ _ _ _ _ _ h1 h2 h3 h4
  | clo _ _ _ h => exact .clo _ _ _ h
  | sem _ _ h h1 => cases hx
theorem CsRep.ctx {vs : Array Value} {cs : List CV} (h : CsRep w X η C vs cs) (hx : cs.all CV.noSem = true) : CsRep w X η C' vs cs :=
  ⟨h.1, fun j hj => (h.2 j hj).ctx (List.all_eq_true.1 hx _ (getD_mem hj))⟩
theorem TRep.ctx {v : Value} {x : TV} (h : TRep w X η C v x) (hx : x.noSem = true) : TRep w X η C' v x := by
  cases h with
  | c _ _ h => exact .c _ _ (h.ctx hx)
  | g _ _ h => exact .g _ _ (h.ctx hx)
theorem ARep.ctx {v : Value} {x : AVal} (h : ARep w X η C v x) (hx : x.noSem = true) : ARep w X η C' v x := by
  cases h with
  | any => exact .any v
  | v _ _ h => exact .v _ _ (h.ctx hx)
  | t us xs h1 h2 => exact .t us xs h1 fun j hj => (h2 j hj).ctx (List.all_eq_true.1 hx _ (getD_mem hj))
theorem ORep.ctx {v : Value} {o : Obj} (h : ORep w X η C v o) (hx : o.noSem = true) : ORep w X η C' v o := by
  cases h with
  | box b ro c e cs h1 h2 => exact .box b ro c e cs h1 (h2.ctx hx)
  | nil ad es f => exact .nil ad es f
  | arr b n cap es c e f h1 h2 h3 h4 h5 h6 h7 => exact .arr b n cap es c e f h1 h2 h3 h4 h5 h6 h7

/-- back under other names -/
theorem CRep.toRen {ρ : Nat → Nat} {v : Value} {x : CV} (h : CRep w X (fun i => η (ρ i)) C v x) : CRep w X η C v (x.ren ρ) := by
  cases h with
  | d _ _ h => exact .d _ _ h
  | fl _ _ _ h => exact .fl _ _ _ h
  | own _ _ h h1 => exact .own _ _ h h1
  | ptr _ _ _ h => exact .ptr _ _ _ h
  | pte _ _ _ _ _ _ _ h => exact .pte _ _ _ _ _ _ _ h
  | sub b N cap _ es lo n h h1 h2 => exact .sub b N cap _ es lo n h h1 h2
  | subN ad ad' N _ es h => exact .subN ad ad' N _ es h
  | elm _ _ _ _ _ _ h1 h2 h3 h4 => exact .elm _ _ _ _ _ _ h1 h2 h3 h4
  | clo f ids vs h => exact .clo f _ vs (by rw [h, List.map_map]; rfl)
  | sem _ _ h h1 => exact .sem _ _ h h1
theorem CsRep.toRen {ρ : Nat → Nat} {vs : Array Value} {cs : List CV} (h : CsRep w X (fun i => η (ρ i)) C vs cs) : CsRep w X η C vs (cs.map (CV.ren ρ)) := by
  refine ⟨by simpa using h.1, fun j hj => ?_⟩
  have hj' : j < cs.length := by simpa using hj
  have := (h.2 j hj').toRen
  rw [List.getD_eq_getElem?_getD, List.getElem?_map, List.getElem?_eq_getElem hj']
  rw [List.getD_eq_getElem?_getD, List.getElem?_eq_getElem hj'] at this
  exact this
theorem TRep.toRen {ρ : Nat → Nat} {v : Value} {x : TV} (h : TRep w X (fun i => η (ρ i)) C v x) : TRep w X η C v (x.ren ρ) := by
  cases h with
  | c _ _ h => exact .c _ _ h.toRen
  | g _ _ h => exact .g _ _ h.toRen
theorem ARep.toRen {ρ : Nat → Nat} {v : Value} {x : AVal} (h : ARep w X (fun i => η (ρ i)) C v x) : ARep w X η C v (x.ren ρ) := by
  cases h with
  | any => exact .any v
  | v _ _ h => exact .v _ _ h.toRen
  | t us xs h1 h2 =>
    refine .t us _ (by simpa using h1) fun j hj => ?_
    have hj' : j < xs.length := by simpa using hj
    have := (h2 j hj').toRen
    rw [List.getD_eq_getElem?_getD, List.getElem?_map, List.getElem?_eq_getElem hj']
    rw [List.getD_eq_getElem?_getD, List.getElem?_eq_getElem hj'] at this
    exact this
theorem ORep.toRen {ρ : Nat → Nat} {v : Value} {o : Obj} (h : ORep w X (fun i => η (ρ i)) C v o) : ORep w X η C v (o.ren ρ) := by
  cases h with
  | box b ro c e cs h1 h2 => exact .box b ro c e _ h1 h2.toRen
  | nil ad es f => exact .nil ad es f
  | arr b n cap es c e f h1 h2 h3 h4 h5 h6 h7 => exact .arr b n cap es c e f h1 h2 h3 h4 h5 h6 h7
end

theorem Own.ofL {S : List (Nat × Obj)} {η : Nat → Value} {b : Nat} (h : Own (ls S) η b) : ∃ i o, (i, o) ∈ S ∧ ls S i = some o ∧ blk (η i) = some b := by
  obtain ⟨i, o, h1, h2⟩ := h; exact ⟨i, o, ls_mem h1, h1, h2⟩

/-- what is handed to a callee at one place -/
def ArgT (C : Ctx) (nt : Nat) (e : Env) (s : Sto) (Si : List (Nat × Obj)) (m : Nat → Nat) (rd ids : List Nat) (x : Operand) (y : AVal) : Prop :=
  ∀ R η e0 s0 a w, (∀ t ∈ rd, e0 t = e t) → (∀ i ∈ ids, s0 i = s i) → Conc C nt R η e0 s0 a w →
    ARep w (XS C s0 η) (fun i => η (m i)) (callCtx Si w (XS C s0 η) fun i => η (m i)) (a.eval x) y

section
variable {P : Program} {C : Ctx} {nt : Nat} {e : Env} {s : Sto}

/-- operands' temporaries -/
def rdOk (rd : List Nat) (x : Operand) : Bool := match x with | .tmp t => rd.contains t | _ => true
theorem rdOk_spec {rd : List Nat} {t : Nat} (h : rdOk rd (.tmp t) = true) : t ∈ rd := by
  simpa [rdOk] using h
theorem aev_agree {e0 e : Env} {x : Operand} {rd : List Nat} (hrd : ∀ t ∈ rd, e0 t = e t) (hx : rdOk rd x = true) : aev e0 x = aev e x := by
  cases x <;> first | rfl | exact hrd _ (rdOk_spec hx)

theorem ArgT.plain {Si : List (Nat × Obj)} {m : Nat → Nat} {rd ids : List Nat} {x : Operand} {y : AVal} (hx : rdOk rd x = true) (hle : ALe (aev e x) (y.ren m)) (hs : y.noSem = true) : ArgT C nt e s Si m rd ids x y := by
  intro R η e0 s0 a w hrd hids hc
  have h1 := (aev_ok hc x).1
  rw [aev_agree hrd hx] at h1
  exact (ARep.unren (hle.1 _ _ _ _ _ h1)).ctx hs

/-- the callee's effect on the caller's state. Si, So: the objects handed in and out, under the callee's names; m: those names in the caller -/
def callEff (ops : Array Oper) (o : Oper) (e : Env) (m : Nat → Nat) (extra : List Nat) (r : AVal) (Si So : List (Nat × Obj)) : Eff where
  rd := tmpsOf o ++ guardTmp ops o
  ids := idsOf e o ++ (Si.map (fun p => m p.1) ++ extra)
  v := r.ren m
  l := (So.map fun p => (m p.1, some (p.2.ren m))) ++ Si.map fun p => (m p.1, none)
  news := (So.filter fun p => !(Si.map (·.1)).contains p.1).map fun p => m p.1

def callChk (m : Nat → Nat) (r : AVal) (Si So : List (Nat × Obj)) : Bool :=
  nodupB (Si.map (·.1)) && nodupB (So.map (·.1)) && nodupB ((So.filter fun p => !(Si.map (·.1)).contains p.1).map (fun p => m p.1) ++ Si.map fun p => m p.1) &&
  r.refs.all (fun i => (So.map (·.1)).contains i) && So.all (fun p => p.2.refs.all fun i => (So.map (·.1)).contains i) && r.noSem && Si.all (fun p => p.2.noSem) && So.all (fun p => p.2.noSem) &&
  So.all (fun p => !(Si.map (·.1)).contains p.1 || Si.any fun q => q.1 == p.1 && q.2.ro == p.2.ro) && So.all (fun p => (Si.map (·.1)).contains p.1 || !p.2.ro)


theorem CV.ren_refs {ρ : Nat → Nat} (x : CV) : ∀ j ∈ (x.ren ρ).refs, ∃ i ∈ x.refs, j = ρ i := by
  cases x <;> simp [CV.refs, CV.ren]
  intro i hi; exact ⟨i, hi, rfl⟩
theorem flat_ren {α β : Type} {f : α → List Nat} {g : α → α} {l : List α} {ρ : Nat → Nat} (h : ∀ x, ∀ j ∈ f (g x), ∃ i ∈ f x, j = ρ i) (_ : β) : ∀ j ∈ (l.map g).flatMap f, ∃ i ∈ l.flatMap f, j = ρ i := by
  intro j hj
  obtain ⟨y, hy, hj⟩ := List.mem_flatMap.1 hj
  obtain ⟨x, hx, rfl⟩ := List.mem_map.1 hy
  obtain ⟨i, hi, e⟩ := h x j hj
  exact ⟨i, List.mem_flatMap.2 ⟨x, hx, hi⟩, e⟩
theorem TV.ren_refs {ρ : Nat → Nat} (x : TV) : ∀ j ∈ (x.ren ρ).refs, ∃ i ∈ x.refs, j = ρ i := by
  cases x with
  | c x => exact CV.ren_refs x
  | g xs => exact flat_ren (f := CV.refs) CV.ren_refs ()
theorem AVal.ren_refs {ρ : Nat → Nat} (x : AVal) : ∀ j ∈ (x.ren ρ).refs, ∃ i ∈ x.refs, j = ρ i := by
  cases x with
  | any => intro j hj; cases hj
  | v x => exact TV.ren_refs x
  | t xs => exact flat_ren (f := TV.refs) TV.ren_refs ()
theorem Obj.ren_refs {ρ : Nat → Nat} (o : Obj) : ∀ j ∈ (o.ren ρ).refs, ∃ i ∈ o.refs, j = ρ i := by
  cases o with
  | box ro cs => exact flat_ren (f := CV.refs) CV.ren_refs ()
  | arr es n f => intro j hj; cases hj

/-- the state behind a call, out of what stands behind it -/
theorem Conc.call {R : Nat → Prop} {η : Nat → Value} {e0 : Env} {s0 : Sto} {a : Act} {w : World} (h : Conc C nt R η e0 s0 a w) {m : Nat → Nat} {Si So : List (Nat × Obj)} {r : AVal} {d : Option Tmp} (hd : ∀ x, d = some x → x < nt)
    (hchk : callChk m r Si So = true) (hsi : ∀ p ∈ Si, ∃ o1, s0 (m p.1) = some o1 ∧ OLe o1 (p.2.ren m))
    (hfr : ∀ k ∈ (So.filter fun p => !(Si.map (·.1)).contains p.1).map (fun p => m p.1), ¬ R k)
    {v : Value} {η' : Nat → Value} {w' : World} (hb : Behind (callCtx Si w (XS C s0 η) fun i => η (m i)) r So v η' w') :
    ∃ η1, Conc C nt (fun i => R i ∨ i ∈ (So.filter fun p => !(Si.map (·.1)).contains p.1).map fun p => m p.1) η1 (setE d (r.ren m) e0) (upS ((So.map fun p => (m p.1, some (p.2.ren m))) ++ Si.map fun p => (m p.1, none)) s0) (a.put d v) w' := by
  simp only [callChk, Bool.and_eq_true] at hchk
  obtain ⟨⟨⟨⟨⟨⟨⟨⟨⟨c1, c2⟩, c3⟩, c4⟩, c5⟩, c6⟩, c7⟩, c8⟩, c9⟩, c10⟩ := hchk
  have n1 := nodupB_ok c1
  have n2 := nodupB_ok c2
  have n3 := nodupB_ok c3
  -- names
  let news := (So.filter fun p => !(Si.map (·.1)).contains p.1).map fun p => m p.1
  have inSi : ∀ i, i ∈ Si.map (·.1) → ∃ o, (i, o) ∈ Si := fun i hi => by obtain ⟨p, hp, rfl⟩ := List.mem_map.1 hi; exact ⟨p.2, hp⟩
  have keySi : ∀ i o, (i, o) ∈ Si → ls Si i = some o := by
    intro i o hi
    unfold ls
    obtain ⟨l1, l2, rfl⟩ := List.append_of_mem hi
    rw [List.map_append, List.map_cons, List.nodup_append] at n1
    rw [List.lookup_append]
    have : l1.lookup i = none := by
      rw [List.lookup_eq_none_iff]
      intro p hp
      have := n1.2.2 p.1 (List.mem_map_of_mem hp) i (List.mem_cons_self)
      simpa using fun hh => this hh.symm
    rw [this]; simp
  have keySo : ∀ i o, (i, o) ∈ So → ls So i = some o := by
    intro i o hi
    unfold ls
    obtain ⟨l1, l2, rfl⟩ := List.append_of_mem hi
    rw [List.map_append, List.map_cons, List.nodup_append] at n2
    rw [List.lookup_append]
    have : l1.lookup i = none := by
      rw [List.lookup_eq_none_iff]
      intro p hp
      have := n2.2.2 p.1 (List.mem_map_of_mem hp) i (List.mem_cons_self)
      simpa using fun hh => this hh.symm
    rw [this]; simp
  have newIff : ∀ p ∈ So, p.1 ∈ Si.map (·.1) ∨ m p.1 ∈ news := by
    intro p hp
    by_cases hc : p.1 ∈ Si.map (·.1)
    · exact .inl hc
    · exact .inr (List.mem_map.2 ⟨p, List.mem_filter.2 ⟨hp, by simpa using hc⟩, rfl⟩)
  rw [List.nodup_append] at n3
  obtain ⟨n31, n32, n33⟩ := n3
  have injMap : ∀ {α : Type} (f : α → Nat) (l : List α), (l.map f).Nodup → ∀ x ∈ l, ∀ y ∈ l, f x = f y → x = y := by
    intro α f l
    induction l with
    | nil => intro _ x hx; cases hx
    | cons z l ih =>
      intro hn x hx y hy hxy
      rw [List.map_cons, List.nodup_cons] at hn
      rcases List.mem_cons.1 hx with hx1 | hx1 <;> rcases List.mem_cons.1 hy with hy1 | hy1
      · rw [hx1, hy1]
      · exact absurd (List.mem_map.2 ⟨y, hy1, by rw [← hxy, hx1]⟩) hn.1
      · exact absurd (List.mem_map.2 ⟨x, hx1, by rw [hxy, hy1]⟩) hn.1
      · exact ih hn.2 x hx1 y hy1 hxy
  have injSi : ∀ i j, i ∈ Si.map (·.1) → j ∈ Si.map (·.1) → m i = m j → i = j := by
    intro i j hi hj hij
    obtain ⟨oi, hi⟩ := inSi i hi
    obtain ⟨oj, hj⟩ := inSi j hj
    have := injMap (fun p : Nat × Obj => m p.1) Si n32 _ hi _ hj hij
    injection this
  have injSo : ∀ p ∈ So, ∀ q ∈ So, m p.1 = m q.1 → p.1 = q.1 := by
    intro p hp q hq hpq
    rcases newIff p hp with h1 | h1 <;> rcases newIff q hq with h2 | h2
    · exact injSi _ _ h1 h2 hpq
    · obtain ⟨op, hop⟩ := inSi _ h1
      exact absurd hpq.symm (n33 _ h2 _ (List.mem_map.2 ⟨_, hop, rfl⟩))
    · obtain ⟨oq, hoq⟩ := inSi _ h2
      exact absurd hpq (n33 _ h1 _ (List.mem_map.2 ⟨_, hoq, rfl⟩))
    · obtain ⟨p', hp', e1⟩ := List.mem_map.1 h1
      obtain ⟨q', hq', e2⟩ := List.mem_map.1 h2
      by_cases hps : p.1 ∈ Si.map (·.1)
      · obtain ⟨op, hop⟩ := inSi _ hps
        exact absurd rfl (n33 _ h1 _ (List.mem_map.2 ⟨_, hop, rfl⟩))
      · by_cases hqs : q.1 ∈ Si.map (·.1)
        · obtain ⟨oq, hoq⟩ := inSi _ hqs
          exact absurd rfl (n33 _ h2 _ (List.mem_map.2 ⟨_, hoq, rfl⟩))
        · have := injMap (fun p : Nat × Obj => m p.1) _ n31 p (List.mem_filter.2 ⟨hp, by simpa using hps⟩) q (List.mem_filter.2 ⟨hq, by simpa using hqs⟩) hpq
          rw [this]
  let η1 : Nat → Value := fun k => match So.find? (fun p => m p.1 == k) with | some p => η' p.1 | none => η k
  have eSo : ∀ p ∈ So, η1 (m p.1) = η' p.1 := by
    intro p hp
    simp only [η1]
    cases hf : So.find? (fun q => m q.1 == m p.1) with
    | none => rw [List.find?_eq_none] at hf; have := hf p hp; simp at this
    | some q =>
      have hq := List.mem_of_find?_eq_some hf
      have hqm : m q.1 = m p.1 := by simpa using List.find?_some hf
      simp only [injSo q hq p hp hqm]
  have ePin : ∀ i, i ∈ Si.map (·.1) → η' i = η (m i) := by
    intro i hi
    obtain ⟨o, ho⟩ := inSi i hi
    refine hb.pn i _ ?_
    have := keySi i o ho
    unfold ls at this
    simp [callCtx, this]
  have eOld : ∀ k, (∀ p ∈ So, m p.1 ≠ k) → η1 k = η k := by
    intro k hk
    simp only [η1]
    cases hf : So.find? (fun q => m q.1 == k) with
    | none => rfl
    | some q => exact absurd (by simpa using List.find?_some hf) (hk q (List.mem_of_find?_eq_some hf))
  have eR : ∀ k, R k → η1 k = η k := by
    intro k hk
    rcases Classical.em (∃ p ∈ So, m p.1 = k) with ⟨p, hp, rfl⟩ | hno
    · rw [eSo p hp]
      rcases newIff p hp with h1 | h1
      · exact ePin _ h1
      · exact absurd hk (hfr _ h1)
    · exact eOld k fun p hp hh => hno ⟨p, hp, hh⟩
  -- the new store
  generalize hs1 : upS ((So.map fun p => (m p.1, some (p.2.ren m))) ++ Si.map fun p => (m p.1, none)) s0 = s1
  have cases1 : ∀ k o, s1 k = some o → (∃ p ∈ So, m p.1 = k ∧ o = p.2.ren m) ∨ (s0 k = some o ∧ (∀ p ∈ So, m p.1 ≠ k) ∧ ∀ p ∈ Si, m p.1 ≠ k) := by
    intro k o hk
    rw [← hs1] at hk
    unfold upS at hk
    rw [List.lookup_append] at hk
    cases hl1 : (So.map fun p => (m p.1, some (p.2.ren m))).lookup k with
    | some x =>
      rw [hl1] at hk
      simp only [Option.some_or] at hk
      obtain ⟨l1, l2, hl, _⟩ := List.lookup_eq_some_iff.1 hl1
      have hmem : (k, x) ∈ So.map fun p => (m p.1, some (p.2.ren m)) := by rw [hl]; simp
      obtain ⟨p, hp, he⟩ := List.mem_map.1 hmem
      injection he with e1 e2
      subst e2
      cases hk
      exact .inl ⟨p, hp, e1, rfl⟩
    | none =>
      rw [hl1] at hk
      simp only [Option.none_or] at hk
      have hno : ∀ p ∈ So, m p.1 ≠ k := by
        intro p hp hh
        rw [List.lookup_eq_none_iff] at hl1
        have := hl1 _ (List.mem_map_of_mem hp)
        simp at this
        exact this hh.symm
      cases hl2 : (Si.map fun p => (m p.1, (none : Option Obj))).lookup k with
      | some x =>
        rw [hl2] at hk
        obtain ⟨l1, l2, hl, _⟩ := List.lookup_eq_some_iff.1 hl2
        have hmem : (k, x) ∈ Si.map fun p => (m p.1, (none : Option Obj)) := by rw [hl]; simp
        obtain ⟨p, hp, he⟩ := List.mem_map.1 hmem
        injection he with e1 e2
        subst e2
        cases hk
      | none =>
        rw [hl2] at hk
        refine .inr ⟨hk, hno, fun p hp hh => ?_⟩
        rw [List.lookup_eq_none_iff] at hl2
        have := hl2 _ (List.mem_map_of_mem hp)
        simp at this
        exact this hh.symm
  have siOwn : ∀ i o, ls Si i = some o → ∀ b, blk (η (m i)) = some b → Own s0 η b := by
    intro i o hi b hb'
    obtain ⟨o1, h1, _⟩ := hsi _ (ls_mem hi)
    exact ⟨m i, o1, h1, hb'⟩
  have siKey : ∀ k o i oi b, s0 k = some o → ls Si i = some oi → blk (η k) = some b → blk (η (m i)) = some b → k = m i := by
    intro k o i oi b hk hi hb1 hb2
    obtain ⟨o1, h1, _⟩ := hsi _ (ls_mem hi)
    exact h.ds k (m i) b (by rw [hk]; simp) (by rw [h1]; simp) hb1 hb2
  have siMod : ∀ i oi b, ls Si i = some oi → oi.ro = false → blk (η (m i)) = some b → C.M b ∨ C.w0.heap.size ≤ b := by
    intro i oi b hi hro hb'
    obtain ⟨o1, h1, hle⟩ := hsi _ (ls_mem hi)
    rcases h.ow _ o1 b h1 hb' with ⟨h2, _⟩ | h2
    · have : o1.ro = oi.ro := by rw [← hle.2.1, Obj.ro_ren]
      rw [this, hro] at h2; cases h2
    · exact h2
  have hX1 : ∀ b, XS C s1 η1 b → (b < w.heap.size → XS C s0 η b) ∧ XS (callCtx Si w (XS C s0 η) fun i => η (m i)) (ls So) η' b := by
    intro b hx
    rcases hx with ⟨hx, hD⟩ | ⟨k, o, hk, hkb⟩
    · refine ⟨fun _ => .inl ⟨hx, hD⟩, .inl ⟨.inl ⟨hx, hD⟩, fun ho => ?_⟩⟩
      obtain ⟨i, o, hi, hib⟩ := ho
      obtain ⟨o1, h1, _⟩ := hsi _ (ls_mem hi)
      have hlt := h.ok.lt b hx
      rcases h.ow _ o1 b h1 hib with ⟨_, h2⟩ | h2 | h2
      · exact hD h2
      · exact hD (h.ok.md b h2)
      · omega
    · rcases cases1 k o hk with ⟨p, hp, rfl, rfl⟩ | ⟨ho, hn1, hn2⟩
      · rw [eSo p hp] at hkb
        refine ⟨fun hlt => ?_, .inr ⟨p.1, p.2, keySo _ _ hp, hkb⟩⟩
        rcases hb.ow p.1 p.2 b (keySo _ _ hp) hkb with ⟨_, ⟨i, oi, hi, hib⟩⟩ | ⟨i, oi, hi, _, hib⟩ | hge
        · exact .inr (siOwn i oi hi b hib)
        · exact .inr (siOwn i oi hi b hib)
        · have : w.heap.size ≤ b := hge
          omega
      · rw [eOld k hn1] at hkb
        have hown : Own s0 η b := ⟨k, o, ho, hkb⟩
        refine ⟨fun _ => .inr hown, .inl ⟨.inr hown, fun hx => ?_⟩⟩
        obtain ⟨i, oi, hi, hib⟩ := hx
        exact hn2 _ (ls_mem hi) (siKey k o i oi b ho hi hkb hib).symm
  have hk0 : Kept w w' (XS C s0 η) (XS C s1 η1) := by
    intro b hlt hX
    refine ⟨hb.stp.block b hlt fun hM => ?_, fun hx => hX ((hX1 b hx).1 hlt)⟩
    obtain ⟨i, oi, hi, _, hib⟩ := hM
    exact hX (.inr (siOwn i oi hi b hib))
  have hk1 : Kept w' w' (XS (callCtx Si w (XS C s0 η) fun i => η (m i)) (ls So) η') (XS C s1 η1) := fun b _ hX => ⟨rfl, fun hx => hX (hX1 b hx).2⟩
  have hR1 : ∀ p ∈ So, R (m p.1) ∨ m p.1 ∈ news := by
    intro p hp
    rcases newIff p hp with h1 | h1
    · obtain ⟨o, ho⟩ := inSi _ h1
      obtain ⟨o1, h2, _⟩ := hsi _ ho
      exact .inl (h.sr _ o1 h2).1
    · exact .inr h1
  have keyOf : ∀ i, (So.map (·.1)).contains i = true → ∃ p ∈ So, p.1 = i := by
    intro i hi
    have hi' : i ∈ So.map (·.1) := by simpa using hi
    obtain ⟨p, hp, e⟩ := List.mem_map.1 hi'
    exact ⟨p, hp, e⟩
  have repSo : ∀ p ∈ So, ORep w' (XS C s1 η1) η1 C (η1 (m p.1)) (p.2.ren m) := by
    intro p hp
    have h1 := hb.objs p.1 p.2 (keySo _ _ hp)
    have h2 := h1.mono (η' := fun i => η1 (m i)) hk1 (fun i hi => by
      obtain ⟨q, hq, rfl⟩ := keyOf i (List.all_eq_true.1 (List.all_eq_true.1 c5 p hp) i hi)
      exact eSo q hq) (fun _ _ => rfl)
    rw [eSo p hp]
    exact (h2.toRen).ctx (by
      have := List.all_eq_true.1 c8 p hp
      cases hp2 : p.2 with
      | box ro cs =>
        rw [hp2] at this
        simp only [Obj.ren, Obj.noSem, List.all_map]
        rw [List.all_eq_true]
        intro x hx
        have := List.all_eq_true.1 this x hx
        cases x <;> first | rfl | cases this
      | arr es n f => rfl)
  refine ⟨η1, h.ok, by rw [put_defers]; exact h.df, by rw [put_size]; exact h.sz, fun t => ?_, fun t i hi => ?_, fun k o hk => ?_, fun k o hk => ?_, fun i j b hi hj hbi hbj => ?_, fun k o b hk hkb => ?_, ?_, fun i u hi => ?_⟩
  · rw [put_tmps a d v t (by rw [h.sz]; exact hd)]
    unfold setE
    have hres : ARep w' (XS C s1 η1) η1 C v (r.ren m) := by
      have h2 := hb.res.mono (η' := fun i => η1 (m i)) hk1 (fun i hi => by
        obtain ⟨q, hq, rfl⟩ := keyOf i (List.all_eq_true.1 c4 i hi)
        exact eSo q hq)
      exact (h2.ctx c6).toRen
    cases d with
    | none => exact (h.ev t).mono hk0 fun i hi => eR i (h.er t i hi)
    | some d =>
      simp only [Option.some.injEq]
      by_cases htd : t = d
      · subst htd; simp only [if_true]; exact hres
      · rw [if_neg (fun hh => htd hh.symm), if_neg htd]
        exact (h.ev t).mono hk0 fun i hi => eR i (h.er t i hi)
  · unfold setE at hi
    have hold : i ∈ (e0 t).refs → R i ∨ i ∈ news := fun hh => .inl (h.er t i hh)
    have hnew : i ∈ (r.ren m).refs → R i ∨ i ∈ news := by
      intro hh
      obtain ⟨j, hj, rfl⟩ := AVal.ren_refs r i hh
      obtain ⟨q, hq, rfl⟩ := keyOf j (List.all_eq_true.1 c4 j hj)
      exact hR1 q hq
    cases d with
    | none => exact hold hi
    | some d =>
      simp only at hi
      by_cases htd : t = d
      · rw [if_pos htd] at hi; exact hnew hi
      · rw [if_neg htd] at hi; exact hold hi
  · rcases cases1 k o hk with ⟨p, hp, rfl, rfl⟩ | ⟨ho, hn1, hn2⟩
    · exact repSo p hp
    · rw [eOld k hn1]
      refine (h.st k o ho).mono hk0 (fun j hj => eR j ((h.sr k o ho).2 j hj)) fun b hkb => ?_
      refine hb.stp.block b ((h.st k o ho).lt hkb) fun hM => ?_
      obtain ⟨i, oi, hi, _, hib⟩ := hM
      exact hn2 _ (ls_mem hi) (siKey k o i oi b ho hi hkb hib).symm
  · rcases cases1 k o hk with ⟨p, hp, rfl, rfl⟩ | ⟨ho, hn1, hn2⟩
    · refine ⟨hR1 p hp, fun j hj => ?_⟩
      obtain ⟨i, hi, rfl⟩ := Obj.ren_refs p.2 j hj
      obtain ⟨q, hq, rfl⟩ := keyOf i (List.all_eq_true.1 (List.all_eq_true.1 c5 p hp) i hi)
      exact hR1 q hq
    · exact ⟨.inl (h.sr k o ho).1, fun j hj => .inl ((h.sr k o ho).2 j hj)⟩
  · obtain ⟨oi, hoi⟩ := Option.ne_none_iff_exists'.1 hi
    obtain ⟨oj, hoj⟩ := Option.ne_none_iff_exists'.1 hj
    have mixed : ∀ p ∈ So, ∀ k o, s0 k = some o → (∀ p ∈ Si, m p.1 ≠ k) → ∀ b, blk (η' p.1) = some b → blk (η k) = some b → False := by
      intro p hp k o ho hn b hb1 hb2
      rcases hb.ow p.1 p.2 b (keySo _ _ hp) hb1 with ⟨_, ⟨i, oi, hi, hib⟩⟩ | ⟨i, oi, hi, _, hib⟩ | hge
      · exact hn _ (ls_mem hi) (siKey k o i oi b ho hi hb2 hib).symm
      · exact hn _ (ls_mem hi) (siKey k o i oi b ho hi hb2 hib).symm
      · have h1 : w.heap.size ≤ b := hge
        have h2 := (h.st k o ho).lt hb2
        omega
    rcases cases1 i oi hoi with ⟨p, hp, rfl, rfl⟩ | ⟨ho, hn1, hn2⟩ <;> rcases cases1 j oj hoj with ⟨q, hq, rfl, rfl⟩ | ⟨ho', hn1', hn2'⟩
    · rw [eSo p hp] at hbi; rw [eSo q hq] at hbj
      rw [hb.ds p.1 q.1 b (by rw [keySo _ _ hp]; simp) (by rw [keySo _ _ hq]; simp) hbi hbj]
    · rw [eSo p hp] at hbi; rw [eOld _ hn1'] at hbj
      exact (mixed p hp _ _ ho' hn2' b hbi hbj).elim
    · rw [eSo q hq] at hbj; rw [eOld _ hn1] at hbi
      exact (mixed q hq _ _ ho hn2 b hbj hbi).elim
    · rw [eOld _ hn1] at hbi; rw [eOld _ hn1'] at hbj
      exact h.ds i j b (by rw [ho]; simp) (by rw [ho']; simp) hbi hbj
  · rcases cases1 k o hk with ⟨p, hp, rfl, rfl⟩ | ⟨ho, hn1, hn2⟩
    · rw [eSo p hp] at hkb
      rw [Obj.ro_ren]
      rcases hb.ow p.1 p.2 b (keySo _ _ hp) hkb with ⟨hro, _⟩ | ⟨i, oi, hi, hro, hib⟩ | hge
      · -- read only: it was handed in so
        have hin : p.1 ∈ Si.map (·.1) := by
          have := List.all_eq_true.1 c10 p hp
          simpa [hro] using this
        have h9 := List.all_eq_true.1 c9 p hp
        have hin' : (Si.map (·.1)).contains p.1 = true := by simpa using hin
        simp only [hin', Bool.not_true, Bool.false_or, List.any_eq_true] at h9
        obtain ⟨q, hq, hqq⟩ := h9
        simp only [Bool.and_eq_true, beq_iff_eq] at hqq
        obtain ⟨o1, g1, g2⟩ := hsi q hq
        rw [hqq.1] at g1
        rw [ePin _ hin] at hkb
        have hroe : o1.ro = p.2.ro := by rw [← g2.2.1, Obj.ro_ren, hqq.2]
        rw [← hroe]
        exact h.ow _ o1 b g1 hkb
      · exact .inr (siMod i oi b hi hro hib)
      · exact .inr (.inr (Nat.le_trans h.fr.size hge))
    · rw [eOld k hn1] at hkb
      exact h.ow k o b ho hkb
  · refine h.fr.trans (hb.stp.mono fun b _ hM => ?_)
    obtain ⟨i, oi, hi, hro, hib⟩ := hM
    exact siMod i oi b hi hro hib
  · have := h.pn i u hi
    exact ⟨(eR i this.2).trans this.1, .inl this.2⟩

end
end Go.Ab
end

section
/- Calls as steps of a region; closures. -/
namespace Go.Ab

def CV.closed (x : CV) : Bool := x.refs.isEmpty && x.noSem
def AVal.closed (x : AVal) : Bool := x.refs.isEmpty && x.noSem

section
variable {w : World} {X : Nat → Prop} {η η' : Nat → Value} {C C' : Ctx}
theorem ARep.free {v : Value} {x : AVal} (h : ARep w X η C v x) (hx : x.closed = true) : ARep w X η' C' v x := by
  simp only [AVal.closed, Bool.and_eq_true, List.isEmpty_iff] at hx
  exact (h.mono (fun b _ hX => ⟨rfl, hX⟩) (fun i hi => by rw [hx.1] at hi; cases hi)).ctx hx.2
theorem CsRep.free {vs : Array Value} {cs : List CV} (h : CsRep w X η C vs cs) (hx : cs.all CV.closed = true) : CsRep w X η' C' vs cs := by
  refine ⟨h.1, fun j hj => ?_⟩
  have := List.all_eq_true.1 hx _ (getD_mem (d := .d .any) hj)
  simp only [CV.closed, Bool.and_eq_true, List.isEmpty_iff] at this
  exact ((h.2 j hj).mono (fun b _ hX => ⟨rfl, hX⟩) (fun i hi => by rw [this.1] at hi; cases hi)).ctx this.2
end

/-- a function value: what it hands back, called with plain data, in any later world in which all but D stands -/
def CloOK (P : Program) (F : List AVal → AVal → Prop) (w0 : World) (D X : Nat → Prop) (v : Value) : Prop :=
  ∃ f caps, v = .func (.func f) #[] caps ∧ (∀ args w, (callFunc f args).run P w = .ok (.enter f args) w) ∧
    ∀ (w1 : World) (X1 : Nat → Prop) (vs : Array Value) (args : List AVal) (r : AVal), F args r → w0.heap.size ≤ w1.heap.size → (∀ b, b < w0.heap.size → ¬ D b → w1.heap[b]? = w0.heap[b]?) → (∀ b, X1 b → b < w1.heap.size) →
      (∀ b, b < w0.heap.size → ¬ D b → (X1 b ↔ X b)) → vs.size = args.length → (∀ j, j < args.length → ∀ η C, ARep w1 X1 η C (vs.getD j undef) (args.getD j .any)) →
      Calls P f (vs ++ caps) w1 fun e w' => ∃ v', e = .returned v' ∧ Stp (fun _ => False) w1 w' ∧ ∀ η C, ARep w' X1 η C v' r

def vclo (P : Program) (F : List AVal → AVal → Prop) : AVal := .v (.c (.sem (CloOK P F)))

section
variable {P : Program} {C : Ctx} {nt : Nat} {ops : Array Oper} {e : Env} {s : Sto}

theorem exec_call {o : Oper} {fx : Operand} {xs : Array Operand} {tys : Array TypeId} (hop : o.op = .call { callee := .value fx, args := xs, argTypes := tys }) {a : Act} {w : World} {f : Nat} {caps : Array Value} (hf : a.eval fx = .func (.func f) #[] caps)
    (hcall : ∀ args w, (callFunc f args).run P w = .ok (.enter f args) w) : (execOp a.eval o).run P w = .ok (.enter f (xs.map a.eval ++ caps)) w := by
  simp [execOp, hop, resolve, Deferred.ofValue, hf, invoke, hcall]

theorem dst_lt {o : Oper} (hdo : dstOk nt o = true) : ∀ x, o.dst = some x → x < nt := by
  intro x hx
  simp only [dstOk, hx, Bool.and_eq_true, decide_eq_true_eq] at hdo
  exact hdo.1

theorem clo_inv {w : World} {X : Nat → Prop} {η : Nat → Value} {v : Value} {f : Nat} {ids : List Nat} (h : ARep w X η C v (.v (.c (.clo f ids)))) : v = .func (.func f) #[] (ids.map η).toArray := by
  cases h with | v _ _ h => cases h with | c _ _ h => cases h with | clo _ _ vs h => rw [h]

theorem stT_call {f : Nat} (hcall : ∀ args w, (callFunc f args).run P w = .ok (.enter f args) w) {o : Oper} {fx : Operand} {xs : Array Operand} {tys : Array TypeId} (hop : o.op = .call { callee := .value fx, args := xs, argTypes := tys })
    (hfx : aev e fx = .v (.c (.clo f []))) (hrf : rdOk (tmpsOf o ++ guardTmp ops o) fx = true) {args : List AVal} {Si : List (Nat × Obj)} {r : AVal} {So : List (Nat × Obj)} (hspec : FSpec P f args Si r So) (hlen : xs.size = args.length) (m : Nat → Nat) (extra : List Nat)
    (hargs : ∀ j, j < args.length → ArgT C nt e s Si m (tmpsOf o ++ guardTmp ops o) (idsOf e o ++ (Si.map (fun p => m p.1) ++ extra)) (xs.toList.getD j (.const undef)) (args.getD j .any))
    (hsi : ∀ p ∈ Si, ∃ o1, s (m p.1) = some o1 ∧ OLe o1 (p.2.ren m)) (hchk : callChk m r Si So = true) (hdo : dstOk nt o = true) (hg : gval ops e o = some true) : StT P C nt ops o (callEff ops o e m extra r Si So) e s := by
  intro R η e0 s0 a w hrd hids hfr hc K Q hK
  have hw := wanted_of (e := e) hc (fun t ht => hrd t (List.mem_append.2 (.inr ht))) hg
  rw [if_pos hw]
  have hfv := (aev_ok hc fx).1
  rw [aev_agree hrd hrf, hfx] at hfv
  have hfv' := clo_inv hfv
  have hex := exec_call (w := w) hop hfv' hcall
  have hsi0 : ∀ p ∈ Si, ∃ o1, s0 (m p.1) = some o1 ∧ OLe o1 (p.2.ren m) := by
    intro p hp
    rw [hids (m p.1) (List.mem_append.2 (.inr (List.mem_append.2 (.inl (List.mem_map.2 ⟨p, hp, rfl⟩)))))]
    exact hsi p hp
  simp only [callChk, Bool.and_eq_true] at hchk
  have hchk' := hchk
  obtain ⟨⟨⟨⟨⟨⟨⟨⟨⟨c1, c2⟩, c3⟩, c4⟩, c5⟩, c6⟩, c7⟩, c8⟩, c9⟩, c10⟩ := hchk
  have hXlt : ∀ b, XS C s0 η b → b < w.heap.size := by
    rintro b (⟨hx, _⟩ | hx)
    · exact Nat.lt_of_lt_of_le (hc.ok.lt b hx) hc.fr.size
    · exact hc.lt hx
  have hsem : ∀ i o', ls Si i = some o' → o'.noSem = true := fun i o' hi => List.all_eq_true.1 c7 _ (ls_mem hi)
  have hsp := hspec w (XS C s0 η) (fun i => η (m i)) (xs.map a.eval ++ (([] : List Nat).map η).toArray) hXlt
    (fun b ⟨i, o', hi, hib⟩ => by obtain ⟨o1, h1, _⟩ := hsi0 _ (ls_mem hi); exact .inr ⟨m i, o1, h1, hib⟩)
    (fun i o' hi => by
      obtain ⟨o1, h1, hle⟩ := hsi0 _ (ls_mem hi)
      exact (ORep.unren (hle.1 _ _ _ _ _ (hc.st _ o1 h1))).ctx (hsem i o' hi))
    (fun i j b hi hj hbi hbj => by
      obtain ⟨oi, hi⟩ := Option.ne_none_iff_exists'.1 hi
      obtain ⟨oj, hj⟩ := Option.ne_none_iff_exists'.1 hj
      obtain ⟨o1, h1, _⟩ := hsi0 _ (ls_mem hi)
      obtain ⟨o2, h2, _⟩ := hsi0 _ (ls_mem hj)
      have hmij : m i = m j := hc.ds _ _ b (by rw [h1]; simp) (by rw [h2]; simp) hbi hbj
      have n3 := nodupB_ok c3
      rw [List.nodup_append] at n3
      exact inj_of (ρ := m) n3.2.1 (by rw [hi]; simp) (by rw [hj]; simp) hmij)
    (by simp [hlen])
    (fun j hj => by
      have hj' : j < xs.size := by omega
      have e1 : (xs.map a.eval ++ (([] : List Nat).map η).toArray).getD j undef = a.eval (xs.toList.getD j (.const undef)) := by
        simp [List.getD_eq_getElem?_getD, hj']
      rw [e1]
      exact hargs j hj R η e0 s0 a w hrd hids hc)
  unfold Oper.wp
  rw [hex]
  show Calls P f _ w _
  refine hsp.mono fun en w' hh => ?_
  obtain ⟨v, η', rfl, hb⟩ := hh
  have hchk2 : callChk m r Si So = true := by simp only [callChk, Bool.and_eq_true]; exact hchk'
  obtain ⟨η1, hc1⟩ := hc.call (dst_lt hdo) hchk2 hsi0 hfr hb
  exact hK η1 _ w' hc1

/-- a call of a function value that came in -/
def semEff (ops : Array Oper) (o : Oper) (e : Env) (r : AVal) : Eff where
  rd := tmpsOf o ++ guardTmp ops o
  ids := idsOf e o
  v := r
  l := []
  news := []

theorem stT_callSem {F : List AVal → AVal → Prop} {o : Oper} {fx : Operand} {xs : Array Operand} {tys : Array TypeId} (hop : o.op = .call { callee := .value fx, args := xs, argTypes := tys }) (hfx : aev e fx = vclo P F) {args : List AVal} {r : AVal} (hF : F args r) (hlen : xs.size = args.length)
    (hrd' : rdOk (tmpsOf o ++ guardTmp ops o) fx = true ∧ ∀ x ∈ xs.toList, rdOk (tmpsOf o ++ guardTmp ops o) x = true)
    (hargs : ∀ j, j < args.length → ALe (aev e (xs.toList.getD j (.const undef))) (args.getD j .any) ∧ (args.getD j .any).closed = true) (hr : r.closed = true) (hdo : dstOk nt o = true) (hg : gval ops e o = some true) : StT P C nt ops o (semEff ops o e r) e s := by
  intro R η e0 s0 a w hrd hids hfr hc K Q hK
  have hw := wanted_of (e := e) hc (fun t ht => hrd t (List.mem_append.2 (.inr ht))) hg
  rw [if_pos hw]
  have hfv := (aev_ok hc fx).1
  rw [aev_agree hrd hrd'.1, hfx] at hfv
  have hclo : CloOK P F C.w0 C.D C.X (a.eval fx) := by
    generalize a.eval fx = u at hfv
    cases hfv with | v _ _ h => cases h with | c _ _ h => cases h with | sem _ _ h _ => exact h
  obtain ⟨f, caps, hfe, hcall, hcl⟩ := hclo
  have hex := exec_call (w := w) hop hfe hcall
  have hXlt : ∀ b, XS C s0 η b → b < w.heap.size := by
    rintro b (⟨hx, _⟩ | hx)
    · exact Nat.lt_of_lt_of_le (hc.ok.lt b hx) hc.fr.size
    · exact hc.lt hx
  have hc2 := hcl w (XS C s0 η) (xs.map a.eval) args r hF hc.fr.size (fun b hb hD => hc.fr.block b hb fun hM => hD (hc.ok.md b hM)) hXlt
    (fun b hb hD => ⟨fun hx => by
      rcases hx with ⟨hx, _⟩ | ⟨i, o', hi, hib⟩
      · exact hx
      · rcases hc.ow i o' b hi hib with ⟨_, h1⟩ | h1 | h1
        · exact absurd h1 hD
        · exact absurd (hc.ok.md b h1) hD
        · omega, fun hx => .inl ⟨hx, hD⟩⟩) (by simp [hlen])
    (fun j hj η2 C2 => by
      have hj' : j < xs.size := by omega
      have e1 : (xs.map a.eval).getD j undef = a.eval (xs.toList.getD j (.const undef)) := by simp [List.getD_eq_getElem?_getD, hj']
      rw [e1]
      obtain ⟨g1, g2⟩ := hargs j hj
      have hx := (aev_ok hc (xs.toList.getD j (.const undef))).1
      rw [aev_agree hrd (hrd'.2 _ (getD_mem (by simpa using hj')))] at hx
      exact (g1.1 _ _ _ _ _ hx).free g2)
  unfold Oper.wp
  rw [hex]
  show Calls P f _ w _
  refine hc2.mono fun en w' hh => ?_
  obtain ⟨v, rfl, hstp, hres⟩ := hh
  have hs : SR.sto { v := r } o.dst s0 = s0 := by funext i; simp [SR.sto]
  have he : SR.eta { v := r } o.dst v η = η := by funext i; simp [SR.eta]
  have hr0 : SR.rng { v := r } o.dst R = R := by funext i; simp [SR.rng]
  have := hc.step o.dst (dst_lt hdo) { v := r } v w' (fun _ => False) hstp (fun b hb => hb.elim) (fun o dd ho => by cases ho) (fun k o ho => by cases ho)
    (fun _ => by rw [hs, he]; refine ⟨hres _ _, fun j hj => ?_⟩; simp only [AVal.closed, Bool.and_eq_true, List.isEmpty_iff] at hr; simp only at hj; rw [hr.1] at hj; cases hj)
  rw [hs, he, hr0] at this
  refine hK η _ w' ?_
  have hu : upS (semEff ops o e r).l s0 = s0 := by funext i; rfl
  rw [hu]
  exact this.wider fun i hi => .inl hi

/-- a function value that came in, handed on -/
theorem ArgT.sem {F : List AVal → AVal → Prop} {Si : List (Nat × Obj)} {m : Nat → Nat} {rd ids : List Nat} {x : Operand} (hx : rdOk rd x = true) (hv : aev e x = vclo P F) (hsi : ∀ p ∈ Si, ∃ o1, s (m p.1) = some o1) (hin : ∀ p ∈ Si, m p.1 ∈ ids) : ArgT C nt e s Si m rd ids x (vclo P F) := by
  intro R η e0 s0 a w hrd hids hc
  have hfv := (aev_ok hc x).1
  rw [aev_agree hrd hx, hv] at hfv
  have hclo : CloOK P F C.w0 C.D C.X (a.eval x) ∧ (a.eval x).oneCell' = true := by
    generalize a.eval x = u at hfv
    cases hfv with | v _ _ h => cases h with | c _ _ h => cases h with | sem _ _ h h1 => exact ⟨h, h1⟩
  obtain ⟨⟨f, caps, hfe, hcall, hcl⟩, hone⟩ := hclo
  refine .v _ _ (.c _ _ (.sem _ _ ⟨f, caps, hfe, hcall, ?_⟩ hone))
  intro w1 X1 vs args r hF hsz hblk hX1 hXX hvs hargs
  have hsz' : w.heap.size ≤ w1.heap.size := hsz
  have hDin : ∀ b, Own (ls Si) (fun i => η (m i)) b → Own s0 η b := by
    rintro b ⟨i, o', hi, hib⟩
    obtain ⟨o1, h1⟩ := hsi _ (ls_mem hi)
    exact ⟨m i, o1, by rw [hids _ (hin _ (ls_mem hi))]; exact h1, hib⟩
  have hnD : ∀ b, b < C.w0.heap.size → ¬ C.D b → ¬ Own (ls Si) (fun i => η (m i)) b := by
    intro b hb hD ho
    obtain ⟨i, o', hi, hib⟩ := hDin b ho
    rcases hc.ow i o' b hi hib with ⟨_, h1⟩ | h1 | h1
    · exact hD h1
    · exact hD (hc.ok.md b h1)
    · omega
  refine hcl w1 X1 vs args r hF (Nat.le_trans hc.fr.size hsz') (fun b hb hD => ?_) hX1 (fun b hb hD => ?_) hvs hargs
  · have hbw : b < w.heap.size := Nat.lt_of_lt_of_le hb hc.fr.size
    exact (hblk b hbw (hnD b hb hD)).trans (hc.fr.block b hb fun hM => hD (hc.ok.md b hM))
  · have hbw : b < w.heap.size := Nat.lt_of_lt_of_le hb hc.fr.size
    rw [hXX b hbw (hnD b hb hD)]
    constructor
    · rintro (⟨hx, _⟩ | ⟨i, o', hi, hib⟩)
      · exact hx
      · rcases hc.ow i o' b hi hib with ⟨_, h1⟩ | h1 | h1
        · exact absurd h1 hD
        · exact absurd (hc.ok.md b h1) hD
        · omega
    · exact fun hx => .inl ⟨hx, hD⟩

def capS (cs : List (List CV)) : List (Nat × Obj) := cs.zipIdx.map fun p => (p.2, .box true p.1)
def capA (cs : List (List CV)) : List AVal := (List.range cs.length).map fun k => .v (.c (.ptr k 0))

theorem capS_ls (cs : List (List CV)) (k : Nat) : ls (capS cs) k = (cs[k]?).map (Obj.box true) := by
  have key : ∀ (l : List (List CV)) (n k : Nat), ((l.zipIdx n).map fun p => (p.2, Obj.box true p.1)).lookup k = if k < n then none else (l[k - n]?).map (Obj.box true) := by
    intro l
    induction l with
    | nil => intro n k; simp
    | cons x l ih =>
      intro n k
      simp only [List.zipIdx_cons, List.map_cons, List.lookup_cons]
      by_cases hk : k = n
      · subst hk; simp
      · have : (k == n) = false := by simpa using hk
        simp only [this]
        rw [ih (n + 1) k]
        by_cases h1 : k < n
        · rw [if_pos (by omega), if_pos h1]
        · rw [if_neg (by omega), if_neg h1]
          have : k - n = (k - (n + 1)) + 1 := by omega
          rw [this]; simp
  have := key cs 0 k
  simpa [ls, capS] using this

/-- a closure made in this frame, handed on: its captured variables are only read -/
theorem ArgT.clo {f : Nat} (hcall : ∀ args w, (callFunc f args).run P w = .ok (.enter f args) w) {F : List AVal → AVal → Prop} {cs : List (List CV)} (hspec : ∀ args r, F args r → FSpec P f (args ++ capA cs) (capS cs) r (capS cs)) (hres : ∀ args r, F args r → r.closed = true)
    {Si : List (Nat × Obj)} {m : Nat → Nat} {rd ids : List Nat} {x : Operand} (hx : rdOk rd x = true) {cids : List Nat} (hv : aev e x = .v (.c (.clo f cids))) (hlen : cids.length = cs.length) (hnd : nodupB cids = true) (hbox : ∀ k, k < cs.length → ∃ ro, s (cids.getD k 0) = some (.box ro (cs.getD k [])))
    (hcl : cs.all (fun c => c.all CV.closed) = true) (hsi : ∀ p ∈ Si, ∃ o1, s (m p.1) = some o1) (hin : ∀ p ∈ Si, m p.1 ∈ ids) (hcin : ∀ i ∈ cids, i ∈ ids) (hapart : ∀ p ∈ Si, m p.1 ∉ cids) : ArgT C nt e s Si m rd ids x (vclo P F) := by
  intro R η e0 s0 a w hrd hids hc
  have hfv := (aev_ok hc x).1
  rw [aev_agree hrd hx, hv] at hfv
  have hfe := clo_inv hfv
  refine .v _ _ (.c _ _ (.sem _ _ ⟨f, _, hfe, hcall, ?_⟩ (by rw [hfe]; rfl)))
  intro w1 X1 vs args r hF hsz hblk hX1 hXX hvs hargs
  have hsz' : w.heap.size ≤ w1.heap.size := hsz
  have hgetid : ∀ k, k < cs.length → cids.getD k 0 ∈ cids := fun k hk => getD_mem (by omega)
  have hobj : ∀ k, k < cs.length → ∃ ro, s0 (cids.getD k 0) = some (.box ro (cs.getD k [])) := by
    intro k hk
    obtain ⟨ro, h1⟩ := hbox k hk
    exact ⟨ro, by rw [hids _ (hcin _ (hgetid k hk))]; exact h1⟩
  have hblkOf : ∀ k, k < cs.length → ∃ b c' e', η (cids.getD k 0) = .pointer (some ⟨b, 0, none⟩) ∧ w.heap[b]? = some (.cells c' e' (0, 0)) ∧ CsRep w (XS C s0 η) η C c' (cs.getD k []) := by
    intro k hk
    obtain ⟨ro, h1⟩ := hobj k hk
    have := hc.st _ _ h1
    generalize η (cids.getD k 0) = u at this
    cases this with
    | box b _ c' e' _ hb hcs => exact ⟨b, c', e', rfl, hb, hcs⟩
  have hnotD : ∀ k, k < cs.length → ∀ b, blk (η (cids.getD k 0)) = some b → ¬ Own (ls Si) (fun i => η (m i)) b := by
    rintro k hk b hb ⟨i, o', hi, hib⟩
    obtain ⟨ro, h1⟩ := hobj k hk
    obtain ⟨o1, h2⟩ := hsi _ (ls_mem hi)
    have h2' : s0 (m i) = some o1 := by rw [hids _ (hin _ (ls_mem hi))]; exact h2
    have := hc.ds _ _ b (by rw [h1]; simp) (by rw [h2']; simp) hb hib
    exact hapart _ (ls_mem hi) (this ▸ hgetid k hk)
  have hDX : ∀ b, Own (ls Si) (fun i => η (m i)) b → XS C s0 η b := by
    rintro b ⟨i, o', hi, hib⟩
    obtain ⟨o1, h2⟩ := hsi _ (ls_mem hi)
    exact .inr ⟨m i, o1, by rw [hids _ (hin _ (ls_mem hi))]; exact h2, hib⟩
  have hk : Kept w w1 (XS C s0 η) X1 := by
    intro b hb hX
    have hnD : ¬ Own (ls Si) (fun i => η (m i)) b := fun ho => hX (hDX b ho)
    exact ⟨hblk b hb hnD, fun hx => hX ((hXX b hb hnD).1 hx)⟩
  have hpos : ∀ k o, ls (capS cs) k = some o → k < cs.length ∧ o = .box true (cs.getD k []) := by
    intro k o hk
    rw [capS_ls] at hk
    rcases Nat.lt_or_ge k cs.length with h1 | h1
    · rw [List.getElem?_eq_getElem h1] at hk
      cases hk
      exact ⟨h1, by rw [List.getD_eq_getElem?_getD, List.getElem?_eq_getElem h1]; rfl⟩
    · rw [List.getElem?_eq_none h1] at hk; cases hk
  have hownC : ∀ b, Own (ls (capS cs)) (fun k => η (cids.getD k 0)) b → X1 b := by
    rintro b ⟨k, o', hko, hkb⟩
    obtain ⟨hk1, _⟩ := hpos k o' hko
    obtain ⟨ro, h1⟩ := hobj k hk1
    have hlt : b < w.heap.size := (hc.st _ _ h1).lt hkb
    exact (hXX b hlt (hnotD k hk1 b hkb)).2 (.inr ⟨_, _, h1, hkb⟩)
  have hsp := hspec args r hF w1 X1 (fun k => η (cids.getD k 0)) (vs ++ (cids.map η).toArray) hX1 hownC
    (fun k o hko => by
      obtain ⟨hk1, rfl⟩ := hpos k o hko
      obtain ⟨b, c', e', h1, h2, h3⟩ := hblkOf k hk1
      have hnb := hnotD k hk1 b (by rw [h1]; rfl)
      show ORep w1 X1 _ _ (η (cids.getD k 0)) _
      rw [h1]
      have hcc : (cs.getD k []).all CV.closed = true := List.all_eq_true.1 hcl _ (getD_mem hk1)
      exact .box b true c' e' _ ((hblk b (lt_of_heap h2) hnb).trans h2) ((h3.mono (η' := η) hk (fun _ _ => rfl)).free hcc))
    (fun i j b hi hj hbi hbj => by
      obtain ⟨oi, hi⟩ := Option.ne_none_iff_exists'.1 hi
      obtain ⟨oj, hj⟩ := Option.ne_none_iff_exists'.1 hj
      obtain ⟨hi1, _⟩ := hpos i oi hi
      obtain ⟨hj1, _⟩ := hpos j oj hj
      obtain ⟨r1, h1⟩ := hobj i hi1
      obtain ⟨r2, h2⟩ := hobj j hj1
      have hij := hc.ds _ _ b (by rw [h1]; simp) (by rw [h2]; simp) hbi hbj
      have hn := nodupB_ok hnd
      have hi2 : i < cids.length := by omega
      have hj2 : j < cids.length := by omega
      rw [List.getD_eq_getElem?_getD, List.getD_eq_getElem?_getD, List.getElem?_eq_getElem hi2, List.getElem?_eq_getElem hj2] at hij
      exact (List.getElem_inj hn).1 (by simpa using hij))
    (by simp [hvs, capA, hlen])
    (fun j hj => by
      rw [List.length_append] at hj
      by_cases hja : j < args.length
      · have e1 : (vs ++ (cids.map η).toArray).getD j undef = vs.getD j undef := by
          have : j < vs.size := by omega
          simp [Array.getD_eq_getD_getElem?, Array.getElem?_append, this]
        have e2 : (args ++ capA cs).getD j .any = args.getD j .any := by simp [List.getD_eq_getElem?_getD, List.getElem?_append, hja]
        rw [e1, e2]
        exact hargs j hja _ _
      · have hk1 : j - args.length < cs.length := by simp [capA] at hj; omega
        obtain ⟨b, c', e', h1, h2, h3⟩ := hblkOf _ hk1
        have e1 : (vs ++ (cids.map η).toArray).getD j undef = η (cids.getD (j - args.length) 0) := by
          have g1 : ¬ j < vs.size := by omega
          have g2 : j - vs.size < cids.length := by omega
          have g3 : j - args.length < cids.length := by omega
          have : j - vs.size = j - args.length := by omega
          simp [Array.getD_eq_getD_getElem?, Array.getElem?_append, g1, List.getD_eq_getElem?_getD, this, g3]
        have e2 : (args ++ capA cs).getD j .any = .v (.c (.ptr (j - args.length) 0)) := by
          simp [List.getD_eq_getElem?_getD, List.getElem?_append, hja, capA, hk1]
        rw [e1, e2, h1]
        exact .v _ _ (.c _ _ (.ptr b _ 0 h1)))
  refine hsp.mono fun en w' hh => ?_
  obtain ⟨v, η', rfl, hb⟩ := hh
  refine ⟨v, rfl, hb.stp.mono fun b _ hM => ?_, fun η2 C2 => ?_⟩
  · obtain ⟨i, o', hi, hro, _⟩ := hM
    obtain ⟨_, rfl⟩ := hpos i o' hi
    cases hro
  · have hX : ∀ b, XS (callCtx (capS cs) w1 X1 fun k => η (cids.getD k 0)) (ls (capS cs)) η' b ↔ X1 b := by
      have hpin : ∀ i o', ls (capS cs) i = some o' → η' i = η (cids.getD i 0) := by
        intro i o' hi
        refine hb.pn i _ ?_
        unfold ls at hi
        simp [callCtx, hi]
      intro b
      constructor
      · rintro (⟨hx, _⟩ | ⟨i, o', hi, hib⟩)
        · exact hx
        · rw [hpin i o' hi] at hib
          exact hownC b ⟨i, o', hi, hib⟩
      · intro hx
        rcases Classical.em (Own (ls (capS cs)) (fun k => η (cids.getD k 0)) b) with ho | ho
        · obtain ⟨i, o', hi, hib⟩ := ho
          exact .inr ⟨i, o', hi, by rw [hpin i o' hi]; exact hib⟩
        · exact .inl ⟨hx, ho⟩
    exact (hb.res.mono (η' := η') (fun b _ hx => ⟨rfl, fun hx' => hx ((hX b).2 hx')⟩) (fun _ _ => rfl)).free (hres args r hF)

end
end Go.Ab
end

section
/- Typed data; what is said of lists; weakening; freezing; pure programs. -/
namespace Go.Ab

class Emb (α : Type) where
  cells : α → List DVal
  es : Nat
  d : α
  len : ∀ x, (cells x).length = es

section
variable {α : Type} [Emb α]
def LF (l : List α) (i : Nat) : List DVal := Emb.cells (l.getD i Emb.d)
def DL (l : List α) : DVal := .lst l.length (LF l)
def AL (l : List α) : AVal := .v (.c (.d (DL l)))
def AO (l : List α) : Obj := .arr (Emb.es α) l.length (LF l)

/-- f is, up to n, the list l -/
structure Is (n : Nat) (f : Nat → List DVal) (l : List α) : Prop where
  len_eq : n = l.length
  at_eq : ∀ i, i < n → f i = LF l i

theorem Is.refl (l : List α) : Is l.length (LF l) l := ⟨rfl, fun _ _ => rfl⟩
theorem Is.nil {f : Nat → List DVal} : Is 0 f ([] : List α) := ⟨rfl, fun i hi => by omega⟩
theorem Is.app {n k : Nat} {f g : Nat → List DVal} {l m : List α} (h : Is n f l) (h' : Is k g m) : Is (n + k) (appF n f g) (l ++ m) := by
  obtain ⟨h1, h2⟩ := h
  obtain ⟨h3, h4⟩ := h'
  subst h1 h3
  refine ⟨by simp, fun i hi => ?_⟩
  unfold appF LF
  by_cases hil : i < l.length
  · rw [if_pos hil, h2 i hil, LF, List.getD_eq_getElem?_getD, List.getD_eq_getElem?_getD, List.getElem?_append_left hil]
  · rw [if_neg hil, h4 _ (by omega), LF, List.getD_eq_getElem?_getD, List.getD_eq_getElem?_getD, List.getElem?_append_right (by omega)]
theorem map_eq_at {β γ : Type} {l : List β} {m : List γ} {δ : Type} {f : β → δ} {g : γ → δ} (h : l.map f = m.map g) (i : Nat) : (l[i]?).map f = (m[i]?).map g := by
  rw [← List.getElem?_map, ← List.getElem?_map, h]
theorem Is.lit {k : Nat} {g : Nat → List DVal} (ys : List α) (h : (List.range k).map g = ys.map Emb.cells) : Is k g ys := by
  have hl : k = ys.length := by simpa using congrArg List.length h
  refine ⟨hl, fun i hi => ?_⟩
  have := map_eq_at h i
  rw [List.getElem?_range hi, List.getElem?_eq_getElem (by omega)] at this
  simp only [Option.map_some, Option.some.injEq] at this
  rw [this, LF, List.getD_eq_getElem?_getD, List.getElem?_eq_getElem (by omega)]; rfl
theorem Is.set {n i : Nat} {f : Nat → List DVal} {l : List α} {off : Nat} {ds : List DVal} (h : Is n f l) (hi : i < n) (y : α) (hy : splice (f i) off ds = Emb.cells y) :
    Is n (fun j => if j = i then splice (f i) off ds else f j) (l.set i y) := by
  obtain ⟨h1, h2⟩ := h
  refine ⟨by simpa using h1, fun j hj => ?_⟩
  unfold LF
  rw [List.getD_eq_getElem?_getD]
  by_cases hji : j = i
  · subst hji
    rw [if_pos rfl, hy, List.getElem?_set_self (by omega)]; rfl
  · rw [if_neg hji, List.getElem?_set_ne (fun h => hji h.symm), h2 j hj, LF, List.getD_eq_getElem?_getD]
theorem Is.take {n : Nat} {f : Nat → List DVal} {l : List α} (h : Is n f l) {k : Int} (hk : k ≤ n) : Is k.toNat f (l.take k.toNat) := by
  obtain ⟨h1, h2⟩ := h
  refine ⟨by simp; omega, fun j hj => ?_⟩
  rw [h2 j (by omega), LF, LF, List.getD_eq_getElem?_getD, List.getD_eq_getElem?_getD, List.getElem?_take, if_pos hj]
theorem Is.rep {n : Nat} {z : List DVal} (hz : z = Emb.cells (Emb.d : α)) : Is n (fun _ => z) (List.replicate n (Emb.d : α)) := by
  refine ⟨by simp, fun j hj => ?_⟩
  rw [hz, LF, List.getD_eq_getElem?_getD, List.getElem?_replicate, if_pos hj]; rfl
theorem Is.len {n : Nat} {f : Nat → List DVal} {l : List α} (h : Is n f l) : ∀ j, j < n → (f j).length = Emb.es α := fun j hj => by rw [h.at_eq j hj]; exact Emb.len _

theorem DRep.is {w : World} {X : Nat → Prop} {v : Value} {n : Nat} {f : Nat → List DVal} {l : List α} (h : Is n f l) (hr : DRep w X v (.lst n f)) : DRep w X v (DL l) := by
  obtain ⟨h1, h2⟩ := h
  unfold DL
  cases hr with
  | nil a cap _ =>
    have : l.length = 0 := h1.symm
    rw [this]; exact .nil a cap _
  | lst b off n cap c e fz _ es g1 g2 g3 g4 g5 g6 =>
    rw [← h1]
    exact .lst b off n cap c e fz _ es g1 g2 g3 g4 (fun i hi => by rw [← h2 i hi]; exact g5 i hi) fun i j hi hj => by rw [← h2 i hi]; exact g6 i j hi hj

theorem OLe.is {n : Nat} {f : Nat → List DVal} {l : List α} (h : Is n f l) : OLe (.arr (Emb.es α) n f) (AO l) := by
  refine ⟨fun w X η C v hv => ?_, rfl, fun i hi => by cases hi⟩
  obtain ⟨h1, h2⟩ := h
  unfold AO
  cases hv with
  | nil ad es _ => 
    have : l.length = 0 := h1.symm
    rw [this]; exact .nil ad _ _
  | arr b n cap es c e _ g1 g2 g3 g4 g5 g6 g7 =>
    rw [← h1]
    exact .arr b n cap _ c e _ g1 g2 g3 g4 g5 (fun i hi => by rw [← h2 i hi]; exact g6 i hi) fun i j hi hj => by rw [← h2 i hi]; exact g7 i j hi hj

/-- slices of frozen lists -/
theorem sl_is (l : List α) (lo hi : Option Int) (h : (sl l.length (LF l) lo hi).2) : Is (sl l.length (LF l) lo hi).1.1 (sl l.length (LF l) lo hi).1.2
    (match lo, hi with | none, none => l | some a, none => l.drop a.toNat | none, some b => l.take b.toNat | some a, some b => (l.take b.toNat).drop a.toNat) := by
  cases lo with
  | none => cases hi with
    | none => exact .refl l
    | some b => exact (Is.refl l).take h.2
  | some a => cases hi with
    | none =>
      refine ⟨by simp [sl], fun i hi => ?_⟩
      simp only [sl, LF, List.getD_eq_getElem?_getD, List.getElem?_drop]
    | some b =>
      simp only [sl] at h
      refine ⟨by simp only [sl, List.length_drop, List.length_take]; omega, fun i hi => ?_⟩
      simp only [sl] at hi
      simp only [sl, LF, List.getD_eq_getElem?_getD, List.getElem?_drop, List.getElem?_take]
      rw [if_pos (by omega)]
end

/-! ## weakening -/
def CLe (x y : CV) : Prop := (∀ w X η C v, CRep w X η C v x → CRep w X η C v y) ∧ ∀ i ∈ y.refs, i ∈ x.refs
theorem CLe.refl (x : CV) : CLe x x := ⟨fun _ _ _ _ _ h => h, fun _ h => h⟩
theorem CLe.lst {α : Type} [Emb α] {n : Nat} {f : Nat → List DVal} {l : List α} (h : Is n f l) : CLe (.d (.lst n f)) (.d (DL l)) :=
  ⟨fun w X η C v hv => by cases hv with | d _ _ hv => exact .d _ _ (hv.is h), fun i hi => by cases hi⟩
theorem CLe.fl {α : Type} [Emb α] {n : Nat} {f : Nat → List DVal} {l : List α} (h : Is n f l) : CLe (.fl n f) (.d (DL l)) :=
  ⟨fun w X η C v hv => by cases hv with | fl _ _ _ hv => exact .d _ _ (hv.is h), fun i hi => by cases hi⟩
theorem CLe.fls {α : Type} [Emb α] {n : Nat} {f : Nat → List DVal} {l : List α} (h : Is n f l) : CLe (.fl n f) (.fl l.length (LF l)) :=
  ⟨fun w X η C v hv => by
    cases hv with
    | fl _ _ _ hv => 
      have := hv.is h
      unfold DL at this
      have h1 := h.len_eq
      subst h1
      exact .fl _ _ _ this, fun i hi => by cases hi⟩
theorem CLe.any (x : CV) (hx : ∀ w X η C v, CRep w X η C v x → v.oneCell' = true) : CLe x (.d .any) := ⟨fun w X η C v hv => .d _ _ (.any _ (hx w X η C v hv)), fun i hi => by cases hi⟩
def CLes : List CV → List CV → Prop
  | [], [] => True
  | x :: xs, y :: ys => CLe x y ∧ CLes xs ys
  | _, _ => False
theorem CLes.spec {xs ys : List CV} (h : CLes xs ys) : xs.length = ys.length ∧ (∀ j, CLe (xs.getD j (.d .any)) (ys.getD j (.d .any))) ∧ ∀ i ∈ ys.flatMap CV.refs, i ∈ xs.flatMap CV.refs := by
  induction xs generalizing ys with
  | nil => cases ys with
    | nil => exact ⟨rfl, fun j => CLe.refl _, fun i hi => hi⟩
    | cons y ys => exact h.elim
  | cons x xs ih => cases ys with
    | nil => exact h.elim
    | cons y ys =>
      obtain ⟨h1, h2⟩ := h
      obtain ⟨g1, g2, g3⟩ := ih h2
      refine ⟨by simp [g1], fun j => ?_, fun i hi => ?_⟩
      · cases j with
        | zero => exact h1
        | succ j => exact g2 j
      · simp only [List.flatMap_cons, List.mem_append] at hi ⊢
        rcases hi with hi | hi
        · exact .inl (h1.2 i hi)
        · exact .inr (g3 i hi)
theorem CLes.rep {xs ys : List CV} (h : CLes xs ys) {w : World} {X : Nat → Prop} {η : Nat → Value} {C : Ctx} {vs : Array Value} (hv : CsRep w X η C vs xs) : CsRep w X η C vs ys := by
  obtain ⟨g1, g2, _⟩ := h.spec
  exact ⟨hv.1.trans g1, fun j hj => (g2 j).1 _ _ _ _ _ (hv.2 j (by omega))⟩
def TLe (x y : TV) : Prop := (∀ w X η C v, TRep w X η C v x → TRep w X η C v y) ∧ ∀ i ∈ y.refs, i ∈ x.refs
theorem TLe.refl (x : TV) : TLe x x := ⟨fun _ _ _ _ _ h => h, fun _ h => h⟩
theorem TLe.c {x y : CV} (h : CLe x y) : TLe (.c x) (.c y) := ⟨fun w X η C v hv => by cases hv with | c _ _ hv => exact .c _ _ (h.1 _ _ _ _ _ hv), h.2⟩
theorem TLe.g {xs ys : List CV} (h : CLes xs ys) : TLe (.g xs) (.g ys) := ⟨fun w X η C v hv => by cases hv with | g _ _ hv => exact .g _ _ (h.rep hv), h.spec.2.2⟩
def TLes : List TV → List TV → Prop
  | [], [] => True
  | x :: xs, y :: ys => TLe x y ∧ TLes xs ys
  | _, _ => False
theorem TLes.spec {xs ys : List TV} (h : TLes xs ys) : xs.length = ys.length ∧ (∀ j, TLe (xs.getD j (.c (.d .any))) (ys.getD j (.c (.d .any)))) ∧ ∀ i ∈ ys.flatMap TV.refs, i ∈ xs.flatMap TV.refs := by
  induction xs generalizing ys with
  | nil => cases ys with
    | nil => exact ⟨rfl, fun j => TLe.refl _, fun i hi => hi⟩
    | cons y ys => exact h.elim
  | cons x xs ih => cases ys with
    | nil => exact h.elim
    | cons y ys =>
      obtain ⟨h1, h2⟩ := h
      obtain ⟨g1, g2, g3⟩ := ih h2
      refine ⟨by simp [g1], fun j => ?_, fun i hi => ?_⟩
      · cases j with
        | zero => exact h1
        | succ j => exact g2 j
      · simp only [List.flatMap_cons, List.mem_append] at hi ⊢
        rcases hi with hi | hi
        · exact .inl (h1.2 i hi)
        · exact .inr (g3 i hi)
theorem ALe.v {x y : TV} (h : TLe x y) : ALe (.v x) (.v y) := ⟨fun w X η C v hv => by cases hv with | v _ _ hv => exact .v _ _ (h.1 _ _ _ _ _ hv), h.2⟩
theorem ALe.c {x y : CV} (h : CLe x y) : ALe (.v (.c x)) (.v (.c y)) := .v (.c h)
theorem ALe.g {xs ys : List CV} (h : CLes xs ys) : ALe (.v (.g xs)) (.v (.g ys)) := .v (.g h)
theorem ALe.tup {xs ys : List TV} (h : TLes xs ys) : ALe (.t xs) (.t ys) := by
  obtain ⟨g1, g2, g3⟩ := h.spec
  exact ⟨fun w X η C v hv => by cases hv with | t us _ h1 h2 => exact .t us _ (h1.trans g1) fun j hj => (g2 j).1 _ _ _ _ _ (h2 j (by omega)), g3⟩
theorem OLe.box {ro : Bool} {xs ys : List CV} (h : CLes xs ys) : OLe (.box ro xs) (.box ro ys) :=
  ⟨fun w X η C v hv => by cases hv with | box b _ c e _ h1 h2 => exact .box b ro c e _ h1 (h.rep h2), rfl, h.spec.2.2⟩
theorem ALe.lst {α : Type} [Emb α] {n : Nat} {f : Nat → List DVal} {l : List α} (h : Is n f l) : ALe (.v (.c (.d (.lst n f)))) (AL l) := .c (.lst h)
theorem ALe.fl {α : Type} [Emb α] {n : Nat} {f : Nat → List DVal} {l : List α} (h : Is n f l) : ALe (.v (.c (.fl n f))) (AL l) := .c (.fl h)
theorem ALe.bool {b c : Bool} (h : b = c) : ALe (vb b) (vb c) := .of_eq (congrArg vb h)

def FE : List (Nat × AVal) → List (Nat × AVal) → Prop
  | [], [] => True
  | (t, x) :: E, (u, y) :: E' => t = u ∧ ALe x y ∧ FE E E'
  | _, _ => False
def FSl : List (Nat × Obj) → List (Nat × Obj) → Prop
  | [], [] => True
  | (t, x) :: E, (u, y) :: E' => t = u ∧ OLe x y ∧ FSl E E'
  | _, _ => False
theorem FE.lk {E E' : List (Nat × AVal)} (h : FE E E') (t : Nat) : ALe (lk E t) (lk E' t) := by
  induction E generalizing E' with
  | nil => cases E' with
    | nil => exact ALe.refl _
    | cons p r => exact h.elim
  | cons p r ih => cases E' with
    | nil => exact h.elim
    | cons q s =>
      obtain ⟨h1, h2, h3⟩ := h
      have := ih h3
      unfold Ab.lk at this ⊢
      obtain ⟨u, x⟩ := p
      obtain ⟨u', y⟩ := q
      simp only at h1
      subst h1
      rw [List.lookup_cons, List.lookup_cons]
      cases htu : t == u with
      | true => exact h2
      | false => exact this
theorem FSl.ls {S S' : List (Nat × Obj)} (h : FSl S S') (i : Nat) (o' : Obj) (hi : ls S' i = some o') : ∃ o, ls S i = some o ∧ OLe o o' := by
  induction S generalizing S' with
  | nil => cases S' with
    | nil => cases hi
    | cons p r => exact h.elim
  | cons p r ih => cases S' with
    | nil => exact h.elim
    | cons q s =>
      obtain ⟨h1, h2, h3⟩ := h
      have := ih h3
      unfold Ab.ls at this hi ⊢
      obtain ⟨u, x⟩ := p
      obtain ⟨u', y⟩ := q
      simp only at h1
      subst h1
      rw [List.lookup_cons] at hi ⊢
      cases htu : i == u with
      | true => rw [htu] at hi; cases hi; exact ⟨x, rfl, h2⟩
      | false => rw [htu] at hi; exact this hi

section
variable {P : Program} {C : Ctx} {nt : Nat} {L : Lay} {pins : List Nat} {K : Act → World → Prop} {E : List (Nat × AVal)} {S : List (Nat × Obj)} {Q : Exit → Act → World → Prop}

/-- entry by entry to a state that says less -/
theorem Kn.wk (E' : List (Nat × AVal)) (S' : List (Nat × Obj)) (hE : FE E E') (hS : FSl S S') (h : Kn C nt E' S' K) : Kn C nt E S K := by
  intro R η a w hc
  refine h R (fun i => η i) a w (hc.conv (fun i => i) (fun t => by rw [AVal.ren_id]; exact hE.lk t) (fun i x hi => ?_) (fun i j hi hj hij => hij) (fun u i hi => hc.er u i ((hE.lk u).2 i hi)) (fun i x hi => ?_) (fun i hi => ?_))
  · rw [Obj.ren_id]; exact hS.ls i x hi
  · obtain ⟨o, h1, h2⟩ := hS.ls i x hi
    have := hc.sr i o h1
    exact ⟨this.1, fun j hj => this.2 j (h2.2.2 j hj)⟩
  · obtain ⟨v, hv⟩ := Option.ne_none_iff_exists'.1 hi
    exact ⟨rfl, (hc.pn i v hv).2⟩

theorem Fr.pinsB (Fm : Fr P L C pins) {ρ : List (Nat × Nat)} (h : pins.all (fun i => rhoL ρ i == i) = true) : pinsB C (rhoL ρ) := fun i hi => by
  have := List.all_eq_true.1 h i (Fm.pin i hi)
  simpa using this

/-- to other names, other order, fewer entries -/
theorem Kn.re (Fm : Fr P L C pins) (ρ : List (Nat × Nat)) (E' : List (Nat × AVal)) (S' : List (Nat × Obj)) (hp : pins.all (fun i => rhoL ρ i == i) = true) (hE : E'.map (fun p => lk E p.1) = E'.map (fun p => p.2.ren (rhoL ρ)))
    (hS : S'.map (fun p => ls S (rhoL ρ p.1)) = S'.map (fun p => some (p.2.ren (rhoL ρ)))) (hinj : nodupB (S'.map fun p => rhoL ρ p.1) = true) (h : Kn C nt E' S' K) : Kn C nt E S K :=
  Kn.to ρ (Fm.pinsB hp) hE hS hinj h

/-! ## freezing -/
def CV.frz (k n : Nat) (f : Nat → List DVal) : CV → CV
  | .own i => if i = k then .d (.lst n f) else .own i
  | x => x
def TV.frz (k n : Nat) (f : Nat → List DVal) : TV → TV
  | .c x => .c (x.frz k n f)
  | .g xs => .g (xs.map (CV.frz k n f))
def AVal.frz (k n : Nat) (f : Nat → List DVal) : AVal → AVal
  | .any => .any
  | .v x => .v (x.frz k n f)
  | .t xs => .t (xs.map (TV.frz k n f))
def Obj.frz (k n : Nat) (f : Nat → List DVal) : Obj → Obj
  | .box ro cs => .box ro (cs.map (CV.frz k n f))
  | o => o
end

section
variable {w : World} {X X' : Nat → Prop} {η : Nat → Value} {C : Ctx} {k n : Nat} {f : Nat → List DVal}
theorem CRep.frz {v : Value} {x : CV} (h : CRep w X η C v x) (hX : ∀ b, ¬ X b → ¬ X' b) (hk : DRep w X' (η k) (.lst n f)) : CRep w X' η C v (x.frz k n f) := by
  have hm : ∀ b, b < w.heap.size → ¬ X b → w.heap[b]? = w.heap[b]? ∧ ¬ X' b := fun b _ hb => ⟨rfl, hX b hb⟩
  cases h with
  | d _ _ h => exact .d _ _ (h.mono hm)
  | fl _ _ _ h => exact .fl _ _ _ (h.mono hm)
  | own _ i h h1 =>
    simp only [CV.frz]
    split
    · rename_i hi; subst hi; rw [h]; exact .d _ _ hk
    · exact .own _ _ h h1
  | ptr _ _ _ h => exact .ptr _ _ _ h
  | pte _ _ _ _ _ _ _ h => exact .pte _ _ _ _ _ _ _ h
  | sub b N cap _ es lo n h h1 h2 => exact .sub b N cap _ es lo n h h1 h2
  | subN ad ad' N _ es h => exact .subN ad ad' N _ es h
  | elm b off c e fz cs h1 h2 h3 h4 => exact .elm b off c e fz cs (hX _ h1) h2 h3 fun j hj => (h4 j hj).mono hm
  | clo _ _ _ h => exact .clo _ _ _ h
  | sem _ _ h h1 => exact .sem _ _ h h1
theorem CsRep.frz {vs : Array Value} {cs : List CV} (h : CsRep w X η C vs cs) (hX : ∀ b, ¬ X b → ¬ X' b) (hk : DRep w X' (η k) (.lst n f)) : CsRep w X' η C vs (cs.map (CV.frz k n f)) := by
  refine ⟨by simpa using h.1, fun j hj => ?_⟩
  have hj' : j < cs.length := by simpa using hj
  have := (h.2 j hj').frz hX hk
  rw [List.getD_eq_getElem?_getD, List.getElem?_map, List.getElem?_eq_getElem hj']
  rw [List.getD_eq_getElem?_getD, List.getElem?_eq_getElem hj'] at this
  exact this
theorem TRep.frz {v : Value} {x : TV} (h : TRep w X η C v x) (hX : ∀ b, ¬ X b → ¬ X' b) (hk : DRep w X' (η k) (.lst n f)) : TRep w X' η C v (x.frz k n f) := by
  cases h with
  | c _ _ h => exact .c _ _ (h.frz hX hk)
  | g _ _ h => exact .g _ _ (h.frz hX hk)
theorem ARep.frz {v : Value} {x : AVal} (h : ARep w X η C v x) (hX : ∀ b, ¬ X b → ¬ X' b) (hk : DRep w X' (η k) (.lst n f)) : ARep w X' η C v (x.frz k n f) := by
  cases h with
  | any => exact .any v
  | v _ _ h => exact .v _ _ (h.frz hX hk)
  | t us xs h1 h2 =>
    refine .t us _ (by simpa using h1) fun j hj => ?_
    have hj' : j < xs.length := by simpa using hj
    have := (h2 j hj').frz hX hk
    rw [List.getD_eq_getElem?_getD, List.getElem?_map, List.getElem?_eq_getElem hj']
    rw [List.getD_eq_getElem?_getD, List.getElem?_eq_getElem hj'] at this
    exact this
theorem ORep.frz {v : Value} {o : Obj} (h : ORep w X η C v o) (hX : ∀ b, ¬ X b → ¬ X' b) (hk : DRep w X' (η k) (.lst n f)) : ORep w X' η C v (o.frz k n f) := by
  cases h with
  | box b ro c e cs h1 h2 => exact .box b ro c e _ h1 (h2.frz hX hk)
  | nil ad es f => exact .nil ad es f
  | arr b n cap es c e f h1 h2 h3 h4 h5 h6 h7 => exact .arr b n cap es c e f h1 h2 h3 h4 h5 h6 fun i j hi hj => (h7 i j hi hj).mono fun b _ hb => ⟨rfl, hX b hb⟩
theorem refs_sub_flat {α β : Type} {fr : α → List Nat} {gr : β → List Nat} {g : α → β} {l : List α} (h : ∀ x, ∀ j ∈ gr (g x), j ∈ fr x) : ∀ j ∈ (l.map g).flatMap gr, j ∈ l.flatMap fr := by
  intro j hj
  obtain ⟨y, hy, hj⟩ := List.mem_flatMap.1 hj
  obtain ⟨x, hx, rfl⟩ := List.mem_map.1 hy
  exact List.mem_flatMap.2 ⟨x, hx, h x j hj⟩
theorem CV.frz_refs (x : CV) : ∀ j ∈ (x.frz k n f).refs, j ∈ x.refs := by
  cases x <;> simp only [CV.frz] <;> try exact fun j hj => hj
  split
  · intro j hj; cases hj
  · exact fun j hj => hj
theorem TV.frz_refs (x : TV) : ∀ j ∈ (x.frz k n f).refs, j ∈ x.refs := by
  cases x with
  | c x => exact CV.frz_refs x
  | g xs => exact refs_sub_flat CV.frz_refs
theorem AVal.frz_refs (x : AVal) : ∀ j ∈ (x.frz k n f).refs, j ∈ x.refs := by
  cases x with
  | any => exact fun j hj => hj
  | v x => exact TV.frz_refs x
  | t xs => exact refs_sub_flat TV.frz_refs
theorem Obj.frz_refs (o : Obj) : ∀ j ∈ (o.frz k n f).refs, j ∈ o.refs := by
  cases o with
  | box ro cs => exact refs_sub_flat CV.frz_refs
  | arr es n f => exact fun j hj => hj
end
end Go.Ab
end

section
/- Freezing a list; pure programs and the rules that follow them. -/
namespace Go.Ab

section
variable {P : Program} {C : Ctx} {nt : Nat} {L : Lay} {pins : List Nat} {K : Act → World → Prop} {E : List (Nat × AVal)} {S : List (Nat × Obj)} {Q : Exit → Act → World → Prop}

theorem lk_map {g : AVal → AVal} (hg : g .any = .any) (E : List (Nat × AVal)) (t : Nat) : lk (E.map fun p => (p.1, g p.2)) t = g (lk E t) := by
  unfold lk
  induction E with
  | nil => exact hg.symm
  | cons p r ih =>
    rw [List.map_cons, List.lookup_cons, List.lookup_cons]
    cases htp : t == p.1 with
    | true => rfl
    | false => exact ih
theorem ls_map {g : Obj → Obj} (S : List (Nat × Obj)) (i : Nat) : ls (S.map fun p => (p.1, g p.2)) i = (ls S i).map g := by
  unfold ls
  induction S with
  | nil => rfl
  | cons p r ih =>
    rw [List.map_cons, List.lookup_cons, List.lookup_cons]
    cases htp : i == p.1 with
    | true => rfl
    | false => exact ih

theorem Kn.frz {k es n : Nat} {f : Nat → List DVal} (E' : List (Nat × AVal)) (S' : List (Nat × Obj)) (hE : E.map (fun p => (p.1, p.2.frz k n f)) = E') (hS : S.map (fun p => (p.1, p.2.frz k n f)) = S') (hk : (S.map (·.1)).contains k = false)
    (h : Kn C nt E' S' K) : Kn C nt E ((k, .arr es n f) :: S) K := by
  subst hE hS
  intro R η a w hc
  have hks : ls ((k, .arr es n f) :: S) k = some (.arr es n f) := by unfold ls; rw [List.lookup_cons]; simp
  have hkS : ls S k = none := by
    cases ho : ls S k with
    | none => rfl
    | some o =>
      have : k ∈ S.map (·.1) := List.mem_map.2 ⟨_, ls_mem ho, rfl⟩
      rw [List.contains_iff_mem.2 this] at hk
      cases hk
  have hsub : ∀ i o, ls S i = some o → ls ((k, .arr es n f) :: S) i = some o ∧ i ≠ k := by
    intro i o hi
    have hne : i ≠ k := by intro h; rw [h, hkS] at hi; cases hi
    refine ⟨?_, hne⟩
    unfold ls; rw [List.lookup_cons]
    have : (i == k) = false := by simpa using hne
    rw [this]; exact hi
  have hown : ∀ b, Own (ls (S.map fun p => (p.1, p.2.frz k n f))) η b → Own (ls S) η b := by
    rintro b ⟨i, o', hi, hib⟩
    rw [ls_map] at hi
    cases ho : ls S i with
    | none => rw [ho] at hi; cases hi
    | some o => exact ⟨i, o, ho, hib⟩
  have hX : ∀ b, ¬ XS C (ls ((k, .arr es n f) :: S)) η b → ¬ XS C (ls (S.map fun p => (p.1, p.2.frz k n f))) η b := by
    intro b hb hb'
    rcases hb' with hx | hx
    · exact hb (.inl hx)
    · obtain ⟨i, o, hi, hib⟩ := hown b hx
      exact hb (.inr ⟨i, o, (hsub i o hi).1, hib⟩)
  have hm : ∀ b, b < w.heap.size → ¬ XS C (ls ((k, .arr es n f) :: S)) η b → w.heap[b]? = w.heap[b]? ∧ ¬ XS C (ls (S.map fun p => (p.1, p.2.frz k n f))) η b := fun b _ hb => ⟨rfl, hX b hb⟩
  have hkb : ∀ b, blk (η k) = some b → ¬ XS C (ls (S.map fun p => (p.1, p.2.frz k n f))) η b := by
    intro b hb hx
    rcases hx with ⟨hx, hD⟩ | hx
    · rcases hc.ow k _ b hks hb with ⟨hro, _⟩ | hM | hf
      · cases hro
      · exact hD (hc.ok.md b hM)
      · have := hc.ok.lt b hx; omega
    · obtain ⟨i, o, hi, hib⟩ := hown b hx
      obtain ⟨h1, h2⟩ := hsub i o hi
      exact h2 (hc.ds i k b (by rw [h1]; simp) (by rw [hks]; simp) hib hb)
  have hkd : DRep w (XS C (ls (S.map fun p => (p.1, p.2.frz k n f))) η) (η k) (.lst n f) := by
    have := hc.st k _ hks
    generalize hu : η k = u at this hkb
    cases this with
    | nil ad es f => exact .nil ad 0 f
    | arr b n cap es c e f h1 h2 h3 h4 h5 h6 h7 =>
      have hb : ¬ XS C (ls (S.map fun p => (p.1, p.2.frz k n f))) η b := hkb b (by simp [blk]; omega)
      refine .lst b 0 n cap c e _ f es hb h1 h3 (by rw [h2, Nat.zero_add]; exact Nat.mul_le_mul_right _ h3) h6 fun i j hi hj => ?_
      rw [Nat.zero_add]
      exact (h7 i j hi hj).mono hm
  refine h R η a w ⟨hc.ok, hc.df, hc.sz, fun t => ?_, fun t i hi => ?_, fun i o' hi => ?_, fun i o' hi => ?_, fun i j b hi hj => ?_, fun i o' b hi => ?_, hc.fr, hc.pn⟩
  · rw [lk_map (g := AVal.frz k n f) rfl]
    exact (hc.ev t).frz hX hkd
  · rw [lk_map (g := AVal.frz k n f) rfl] at hi
    exact hc.er t i (AVal.frz_refs _ i hi)
  · rw [ls_map] at hi
    cases ho : ls S i with
    | none => rw [ho] at hi; cases hi
    | some o =>
      rw [ho] at hi; cases hi
      exact (hc.st i o (hsub i o ho).1).frz hX hkd
  · rw [ls_map] at hi
    cases ho : ls S i with
    | none => rw [ho] at hi; cases hi
    | some o =>
      rw [ho] at hi; cases hi
      have := hc.sr i o (hsub i o ho).1
      exact ⟨this.1, fun j hj => this.2 j (Obj.frz_refs o j hj)⟩
  · have hne : ∀ i, ls (S.map fun p => (p.1, p.2.frz k n f)) i ≠ none → ls ((k, .arr es n f) :: S) i ≠ none := by
      intro i hi hn
      apply hi
      rw [ls_map]
      cases ho : ls S i with
      | none => rfl
      | some o => rw [(hsub i o ho).1] at hn; cases hn
    exact hc.ds i j b (hne i hi) (hne j hj)
  · rw [ls_map] at hi
    cases ho : ls S i with
    | none => rw [ho] at hi; cases hi
    | some o =>
      rw [ho] at hi; cases hi
      have hro : (o.frz k n f).ro = o.ro := by cases o <;> rfl
      rw [hro]
      exact hc.ow i o b (hsub i o ho).1

/-! ## pure programs -/
def gd {R : Type} (p : Prop) [Decidable p] (x : Option R) : Option R := if p then x else none
theorem gd_some {R : Type} {p : Prop} [Decidable p] {x : Option R} {r : R} (h : gd p x = some r) : p ∧ x = some r := by
  unfold gd at h
  split at h
  · exact ⟨‹_›, h⟩
  · cases h
theorem bd_some {α R : Type} {x : Option α} {f : α → Option R} {r : R} (h : x.bind f = some r) : ∃ z, x = some z ∧ f z = some r := by
  cases x with
  | none => cases h
  | some z => exact ⟨z, rfl, h⟩
def br {R : Type} (b : Bool) (x y : Option R) : Option R := match b with | true => x | false => y
theorem br_t {R : Type} {b : Bool} {x y : Option R} {r : R} (h : br b x y = some r) (hb : b = true) : x = some r := by subst hb; exact h
theorem br_f {R : Type} {b : Bool} {x y : Option R} {r : R} (h : br b x y = some r) (hb : b = false) : y = some r := by subst hb; exact h
def loopN {σ R : Type} (body : (σ → Option R) → σ → Option R) : Nat → σ → Option R
  | 0, _ => none
  | n + 1, z => body (loopN body n) z

theorem AW.join {σ R : Type} {r : R} {x y : Code} (f : σ → Option R) (E' : σ → List (Nat × AVal)) (S' : σ → List (Nat × Obj)) (hy : ∀ z, f z = some r → AW P C nt y (E' z) (S' z) Q)
    (hx : ∀ J : Act → World → Prop, (∀ z, f z = some r → Kn C nt (E' z) (S' z) J) → AW P C nt x E S (Exit.then J Q)) : AW P C nt (.seq x y) E S Q :=
  AW.seq (hx _ fun z hz => hy z hz)

theorem AW.loopF {σ R : Type} {r : R} {c : Code} {body : (σ → Option R) → σ → Option R} (E' : σ → List (Nat × AVal)) (S' : σ → List (Nat × Obj))
    (round : ∀ (again : σ → Option R) (z : σ) (J : Act → World → Prop), (∀ z', again z' = some r → Kn C nt (E' z') (S' z') J) → body again z = some r → AW P C nt c (E' z) (S' z) (Exit.then J Q))
    {n : Nat} {z0 : σ} (h : loopN body n z0 = some r) : AW P C nt (.loop c) (E' z0) (S' z0) Q := by
  refine AW.loop (σ := Nat × σ) (fun p => loopN body p.1 p.2 = some r) (fun p => p.1) (fun p => E' p.2) (fun p => S' p.2) (fun p hp => ?_) (n, z0) h
  obtain ⟨m, z⟩ := p
  cases m with
  | zero => cases hp
  | succ m =>
    refine round (loopN body m) z _ (fun z' hz' => ?_) hp
    exact Kn.ex (I := fun p : Nat × σ => loopN body p.1 p.2 = some r ∧ p.1 < m + 1) (E' := fun p => E' p.2) (S' := fun p => S' p.2) (m, z') ⟨hz', Nat.lt_succ_self m⟩

/-! ## regions with calls -/
def arunE (L : Lay) (ops : Array Oper) : List Oper → List Dir → Env → Sto → Nat → Env
  | o :: os, d :: ds, e, s, k + 1 => arunE L ops os ds (setE o.dst (stepF L ops o d e s).v e) (upS (stepF L ops o d e s).l s) k
  | _, _, e, _, _ => e
def arunS (L : Lay) (ops : Array Oper) : List Oper → List Dir → Env → Sto → Nat → Sto
  | o :: os, d :: ds, e, s, k + 1 => arunS L ops os ds (setE o.dst (stepF L ops o d e s).v e) (upS (stepF L ops o d e s).l s) k
  | _, _, _, s, _ => s
def opAt : List Oper → Nat → Oper
  | [], _ => default
  | o :: _, 0 => o
  | _ :: os, k + 1 => opAt os k
def dirAt : List Dir → Nat → Array Oper → Oper → Env → Eff
  | .k f :: _, 0 => f
  | _ :: ds, k + 1 => dirAt ds k
  | _, _ => fun _ _ _ => default
/-- what is to be shown of the call at place k -/
def KAt (P : Program) (C : Ctx) (nt : Nat) (L : Lay) (ops : Array Oper) (ds : List Dir) (e : Env) (s : Sto) (k : Nat) : Prop :=
  StT P C nt ops (opAt ops.toList k) (dirAt ds k ops (opAt ops.toList k) (arunE L ops ops.toList ds e s k)) (arunE L ops ops.toList ds e s k) (arunS L ops ops.toList ds e s k)

theorem AW.regc (Fm : Fr P L C pins) {id : Nat} {ops : Array Oper} {draw : Bool} (ds : List Dir) (ρ : List (Nat × Nat)) (c : (Nat → Prop) → Prop) (E' : List (Nat × AVal)) (S' : List (Nat × Obj)) (hc : c (KAt P C nt L ops ds (lk E) (ls S)))
    (hchk : chkB L pins nt ops draw ds E S ρ S' = true) (hC : arunC P C nt L ops ops.toList ds (lk E) (ls S) = c (KAt P C nt L ops ds (lk E) (ls S)))
    (he0 : E'.map (fun p => endE ops.toList (arunF L ops ops.toList ds (lk E) (ls S)) (lk E) p.1) = E'.map (fun p => p.2.ren (rhoL ρ)))
    (hs0 : S'.map (fun p => endS (arunF L ops ops.toList ds (lk E) (ls S)) (ls S) (rhoL ρ p.1)) = S'.map (fun p => some (p.2.ren (rhoL ρ))))
    (k : Kn C nt E' S' (Q .normal)) : AW P C nt (.region id ops draw) E S Q := AW.region Fm ds ρ hchk (hC ▸ hc) he0 hs0 k
end
end Go.Ab
end

section
/- Calls at a place of a region. -/
namespace Go.Ab

def isCall (o : Oper) : Bool := match o.op with | .call { callee := .value _, .. } => true | _ => false
def callX (o : Oper) : Operand := match o.op with | .call { callee := .value fx, .. } => fx | _ => .const undef
def callXs (o : Oper) : Array Operand := match o.op with | .call { callee := .value _, args, .. } => args | _ => #[]
theorem isCall_ok {o : Oper} (h : isCall o = true) : ∃ tys, o.op = .call { callee := .value (callX o), args := callXs o, argTypes := tys } := by
  unfold isCall at h
  split at h
  · rename_i fx xs tys hop
    exact ⟨tys, by simp only [callX, callXs, hop]⟩
  · cases h

def cE (m : List (Nat × Nat)) (extra : List Nat) (r : AVal) (Si So : List (Nat × Obj)) : Array Oper → Oper → Env → Eff := fun ops o e => callEff ops o e (rhoL m) extra r Si So
def sE (r : AVal) : Array Oper → Oper → Env → Eff := fun ops o e => semEff ops o e r

def ArgsT (C : Ctx) (nt : Nat) (e : Env) (s : Sto) (Si : List (Nat × Obj)) (m : Nat → Nat) (rd ids : List Nat) : List Operand → List AVal → Prop
  | [], [] => True
  | x :: xs, y :: ys => ArgT C nt e s Si m rd ids x y ∧ ArgsT C nt e s Si m rd ids xs ys
  | _, _ => False
theorem ArgsT.spec {C : Ctx} {nt : Nat} {e : Env} {s : Sto} {Si : List (Nat × Obj)} {m : Nat → Nat} {rd ids : List Nat} {xs : List Operand} {ys : List AVal} (h : ArgsT C nt e s Si m rd ids xs ys) :
    xs.length = ys.length ∧ ∀ j, j < ys.length → ArgT C nt e s Si m rd ids (xs.getD j (.const undef)) (ys.getD j .any) := by
  induction xs generalizing ys with
  | nil => cases ys with
    | nil => exact ⟨rfl, fun j hj => by simp at hj⟩
    | cons y ys => exact h.elim
  | cons x xs ih => cases ys with
    | nil => exact h.elim
    | cons y ys =>
      obtain ⟨h1, h2⟩ := h
      obtain ⟨g1, g2⟩ := ih h2
      refine ⟨by simp [g1], fun j hj => ?_⟩
      cases j with
      | zero => exact h1
      | succ j => exact g2 j (by simpa using hj)

theorem ArgsT.plains {C : Ctx} {nt : Nat} {e : Env} {s : Sto} {Si : List (Nat × Obj)} {m : Nat → Nat} {rd ids : List Nat} : ∀ {xs : List Operand} {ys : List AVal}, xs.all (rdOk rd) = true → ys.all AVal.noSem = true → xs.map (aev e) = ys.map (AVal.ren m) → ArgsT C nt e s Si m rd ids xs ys
  | [], [], _, _, _ => trivial
  | [], _ :: _, _, _, h => by cases h
  | _ :: _, [], _, _, h => by cases h
  | x :: xs, y :: ys, h1, h2, h3 => by
    simp only [List.all_cons, Bool.and_eq_true] at h1 h2
    simp only [List.map_cons, List.cons.injEq] at h3
    exact ⟨ArgT.plain h1.1 (ALe.of_eq h3.1) h2.1, ArgsT.plains h1.2 h2.2 h3.2⟩

def isClo0 (f : Nat) : AVal → Bool
  | .v (.c (.clo g [])) => g == f
  | _ => false
theorem isClo0_ok {f : Nat} {x : AVal} (h : isClo0 f x = true) : x = .v (.c (.clo f [])) := by
  unfold isClo0 at h
  split at h
  · rename_i g; simp at h; rw [h]
  · cases h

/-- what is to be checked of a call -/
def callB (ops : Array Oper) (nt : Nat) (e : Env) (o : Oper) (f : Nat) (m : List (Nat × Nat)) (r : AVal) (Si So : List (Nat × Obj)) : Bool :=
  isCall o && isClo0 f (aev e (callX o)) && rdOk (tmpsOf o ++ guardTmp ops o) (callX o) && callChk (rhoL m) r Si So && dstOk nt o && (gval ops e o == some true)

section
variable {P : Program} {C : Ctx} {nt : Nat} {L : Lay} {ops : Array Oper} {ds : List Dir} {e : Env} {s : Sto}

/-- a call of a function, its arguments told one by one -/
theorem KAt.callG {k : Nat} {f : Nat} {args : List AVal} {Si : List (Nat × Obj)} {r : AVal} {So : List (Nat × Obj)} (hspec : FSpec P f args Si r So) (hcall : ∀ args w, (callFunc f args).run P w = .ok (.enter f args) w) (m : List (Nat × Nat)) (extra : List Nat)
    (hk : dirAt ds k = cE m extra r Si So) (hb : callB ops nt (arunE L ops ops.toList ds e s k) (opAt ops.toList k) f m r Si So = true)
    (hsi : Si.map (fun p => arunS L ops ops.toList ds e s k (rhoL m p.1)) = Si.map (fun p => some (p.2.ren (rhoL m))))
    (hargs : ArgsT C nt (arunE L ops ops.toList ds e s k) (arunS L ops ops.toList ds e s k) Si (rhoL m) (tmpsOf (opAt ops.toList k) ++ guardTmp ops (opAt ops.toList k)) (idsOf (arunE L ops ops.toList ds e s k) (opAt ops.toList k) ++ (Si.map (fun p => rhoL m p.1) ++ extra))
      (callXs (opAt ops.toList k)).toList args) : KAt P C nt L ops ds e s k := by
  unfold KAt
  rw [hk]
  simp only [callB, Bool.and_eq_true] at hb
  obtain ⟨⟨⟨⟨⟨b1, b2⟩, b3⟩, b4⟩, b5⟩, b6⟩ := hb
  obtain ⟨tys, hop⟩ := isCall_ok b1
  obtain ⟨g1, g2⟩ := hargs.spec
  exact stT_call hcall hop (isClo0_ok b2) b3 hspec (by simpa using g1) (rhoL m) extra (fun j hj => g2 j hj) (fun p hp => ⟨_, forall_of_map hsi p hp, OLe.refl _⟩) b4 b5 (by simpa using b6)

/-- a call of a function with plain arguments -/
theorem KAt.call {k : Nat} {f : Nat} {args : List AVal} {Si : List (Nat × Obj)} {r : AVal} {So : List (Nat × Obj)} (hspec : FSpec P f args Si r So) (hcall : ∀ args w, (callFunc f args).run P w = .ok (.enter f args) w) (m : List (Nat × Nat))
    (hk : dirAt ds k = cE m [] r Si So) (hb : callB ops nt (arunE L ops ops.toList ds e s k) (opAt ops.toList k) f m r Si So = true)
    (hsi : Si.map (fun p => arunS L ops ops.toList ds e s k (rhoL m p.1)) = Si.map (fun p => some (p.2.ren (rhoL m))))
    (hrd : ((callXs (opAt ops.toList k)).toList.all (rdOk (tmpsOf (opAt ops.toList k) ++ guardTmp ops (opAt ops.toList k))) && args.all AVal.noSem) = true)
    (hargs : (callXs (opAt ops.toList k)).toList.map (aev (arunE L ops ops.toList ds e s k)) = args.map (AVal.ren (rhoL m))) : KAt P C nt L ops ds e s k := by
  rw [Bool.and_eq_true] at hrd
  exact KAt.callG hspec hcall m [] hk hb hsi (ArgsT.plains hrd.1 hrd.2 hargs)

def semB (ops : Array Oper) (nt : Nat) (e : Env) (o : Oper) (args : List AVal) (r : AVal) : Bool :=
  isCall o && rdOk (tmpsOf o ++ guardTmp ops o) (callX o) && (callXs o).toList.all (rdOk (tmpsOf o ++ guardTmp ops o)) && args.all AVal.closed && r.closed && dstOk nt o && (gval ops e o == some true)

/-- a call of a function value that came in -/
theorem KAt.sem {k : Nat} {F : List AVal → AVal → Prop} {args : List AVal} {r : AVal} (hF : F args r) (hk : dirAt ds k = sE r) (hb : semB ops nt (arunE L ops ops.toList ds e s k) (opAt ops.toList k) args r = true)
    (hfx : aev (arunE L ops ops.toList ds e s k) (callX (opAt ops.toList k)) = vclo P F)
    (hargs : (callXs (opAt ops.toList k)).toList.map (aev (arunE L ops ops.toList ds e s k)) = args) : KAt P C nt L ops ds e s k := by
  unfold KAt
  rw [hk]
  simp only [semB, Bool.and_eq_true] at hb
  obtain ⟨⟨⟨⟨⟨⟨b1, b2⟩, b3⟩, b4⟩, b5⟩, b6⟩, b7⟩ := hb
  obtain ⟨tys, hop⟩ := isCall_ok b1
  have hl : (callXs (opAt ops.toList k)).size = args.length := by rw [← hargs]; simp
  refine stT_callSem hop hfx hF hl ⟨b2, fun x hx => List.all_eq_true.1 b3 x hx⟩ (fun j hj => ?_) b5 b6 (by simpa using b7)
  have hj' : j < (callXs (opAt ops.toList k)).toList.length := by simpa [hl] using hj
  have e1 : aev (arunE L ops ops.toList ds e s k) ((callXs (opAt ops.toList k)).toList.getD j (.const undef)) = args.getD j .any := by
    rw [← hargs]
    simp only [List.getD_eq_getElem?_getD, List.getElem?_map, List.getElem?_eq_getElem hj', Option.map_some, Option.getD_some]
  exact ⟨ALe.of_eq e1, List.all_eq_true.1 b4 _ (getD_mem hj)⟩
end
end Go.Ab
end
