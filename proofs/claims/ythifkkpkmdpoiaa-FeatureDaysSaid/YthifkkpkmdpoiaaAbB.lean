/- Abstract states over the model: every lemma holds of any program of the form that it names. -/
import Derived.Test.YthifkkpkmdpoiaaAbA
import Derived.KernelRfl
import Derived.Laws.StructEq
set_option linter.unusedVariables false
set_option linter.unusedSimpArgs false
section
namespace Go.Ab
def CV.noSem : CV → Bool
 | .sem _ => false
 | _ => true
def TV.noSem : TV → Bool
 | .c x => x.noSem
 | .g xs => xs.all CV.noSem
def AVal.noSem : AVal → Bool
 | .any => true
 | .v x => x.noSem
 | .t xs => xs.all TV.noSem
def Obj.noSem : Obj → Bool
 | .box _ cs => cs.all CV.noSem
 | .arr _ _ _ => true
 | .ext _ => true
section
variable {w : World} {X : Nat → Prop} {η : Nat → Value} {C C' : Ctx}
theorem CRep.ctx {v : Value} {x : CV} (h : CRep w X η C v x) (hx : x.noSem = true) : CRep w X η C' v x := by
 cases h with
 | d _ _ h => exact .d _ _ h
 | fl _ _ _ h => exact .fl _ _ _ h
 | own _ _ h h1 => exact .own _ _ h h1
 | ptr _ _ _ h => exact .ptr _ _ _ h
 | pte _ _ _ _ _ _ _ h => exact .pte _ _ _ _ _ _ _ h
 | sub b N cap _ es lo n h h1 h2 => exact .sub b N cap _ es lo n h h1 h2
 | subN ad ad' N _ es h => exact .subN ad ad' N _ es h
 | elm _ _ _ _ _ _ h1 h2 h3 h4 => exact .elm _ _ _ _ _ _ h1 h2 h3 h4
 | clo _ _ _ h => exact .clo _ _ _ h
 | sem _ _ h h1 => cases hx
 | ap _ _ h h1 => exact .ap _ _ h h1
theorem CsRep.ctx {vs : Array Value} {cs : List CV} (h : CsRep w X η C vs cs) (hx : cs.all CV.noSem = true) : CsRep w X η C' vs cs :=
 ⟨h.1, fun j hj => (h.2 j hj).ctx (List.all_eq_true.1 hx _ (getD_mem hj))⟩
theorem TRep.ctx {v : Value} {x : TV} (h : TRep w X η C v x) (hx : x.noSem = true) : TRep w X η C' v x := by
 cases h with
 | c _ _ h => exact .c _ _ (h.ctx hx)
 | g _ _ h => exact .g _ _ (h.ctx hx)
theorem ARep.ctx {v : Value} {x : AVal} (h : ARep w X η C v x) (hx : x.noSem = true) : ARep w X η C' v x := by
 cases h with
 | any => exact .any v
 | v _ _ h => exact .v _ _ (h.ctx hx)
 | t us xs h1 h2 => exact .t us xs h1 fun j hj => (h2 j hj).ctx (List.all_eq_true.1 hx _ (getD_mem hj))
theorem ORep.ctx {v : Value} {o : Obj} (h : ORep w X η C v o) (hx : o.noSem = true) : ORep w X η C' v o := by
 cases h with
 | box b ro c e cs h1 h2 => exact .box b ro c e cs h1 (h2.ctx hx)
 | nil ad es f => exact .nil ad es f
 | arr b n cap es c e f h1 h2 h3 h4 h5 h6 h7 => exact .arr b n cap es c e f h1 h2 h3 h4 h5 h6 h7
 | ext _ _ h1 h2 h3 => exact .ext _ _ h1 h2 h3
theorem CRep.toRen {ρ : Nat → Nat} {v : Value} {x : CV} (h : CRep w X (fun i => η (ρ i)) C v x) : CRep w X η C v (x.ren ρ) := by
 cases h with
 | d _ _ h => exact .d _ _ h
 | fl _ _ _ h => exact .fl _ _ _ h
 | own _ _ h h1 => exact .own _ _ h h1
 | ptr _ _ _ h => exact .ptr _ _ _ h
 | pte _ _ _ _ _ _ _ h => exact .pte _ _ _ _ _ _ _ h
 | sub b N cap _ es lo n h h1 h2 => exact .sub b N cap _ es lo n h h1 h2
 | subN ad ad' N _ es h => exact .subN ad ad' N _ es h
 | elm _ _ _ _ _ _ h1 h2 h3 h4 => exact .elm _ _ _ _ _ _ h1 h2 h3 h4
 | clo f ids vs h => exact .clo f _ vs (by rw [h, List.map_map]; rfl)
 | sem _ _ h h1 => exact .sem _ _ h h1
 | ap _ _ h h1 => exact .ap _ _ h h1
theorem CsRep.toRen {ρ : Nat → Nat} {vs : Array Value} {cs : List CV} (h : CsRep w X (fun i => η (ρ i)) C vs cs) : CsRep w X η C vs (cs.map (CV.ren ρ)) := by
 refine ⟨by simpa using h.1, fun j hj => ?_⟩
 have hj' : j < cs.length := by simpa using hj
 have := (h.2 j hj').toRen
 rw [List.getD_eq_getElem?_getD, List.getElem?_map, List.getElem?_eq_getElem hj']
 rw [List.getD_eq_getElem?_getD, List.getElem?_eq_getElem hj'] at this
 exact this
theorem TRep.toRen {ρ : Nat → Nat} {v : Value} {x : TV} (h : TRep w X (fun i => η (ρ i)) C v x) : TRep w X η C v (x.ren ρ) := by
 cases h with
 | c _ _ h => exact .c _ _ h.toRen
 | g _ _ h => exact .g _ _ h.toRen
theorem ARep.toRen {ρ : Nat → Nat} {v : Value} {x : AVal} (h : ARep w X (fun i => η (ρ i)) C v x) : ARep w X η C v (x.ren ρ) := by
 cases h with
 | any => exact .any v
 | v _ _ h => exact .v _ _ h.toRen
 | t us xs h1 h2 =>
  refine .t us _ (by simpa using h1) fun j hj => ?_
  have hj' : j < xs.length := by simpa using hj
  have := (h2 j hj').toRen
  rw [List.getD_eq_getElem?_getD, List.getElem?_map, List.getElem?_eq_getElem hj']
  rw [List.getD_eq_getElem?_getD, List.getElem?_eq_getElem hj'] at this
  exact this
theorem ORep.toRen {ρ : Nat → Nat} {v : Value} {o : Obj} (h : ORep w X (fun i => η (ρ i)) C v o) : ORep w X η C v (o.ren ρ) := by
 cases h with
 | box b ro c e cs h1 h2 => exact .box b ro c e _ h1 h2.toRen
 | nil ad es f => exact .nil ad es f
 | arr b n cap es c e f h1 h2 h3 h4 h5 h6 h7 => exact .arr b n cap es c e f h1 h2 h3 h4 h5 h6 h7
 | ext _ _ h1 h2 h3 => exact .ext _ _ h1 h2 h3
end
def ArgT (C : Ctx) (nt : Nat) (e : Env) (s : Sto) (Si : List (Nat × Obj)) (m : Nat → Nat) (rd ids : List Nat) (x : Operand) (y : AVal) : Prop :=
 ∀ R η e0 s0 a w, (∀ t ∈ rd, e0 t = e t) → (∀ i ∈ ids, s0 i = s i) → Conc C nt R η e0 s0 a w →
  ARep w (XS C s0 η) (fun i => η (m i)) (callCtx Si w (XS C s0 η) fun i => η (m i)) (a.eval x) y
section
variable {P : Program} {C : Ctx} {nt : Nat} {e : Env} {s : Sto}
def rdOk (rd : List Nat) (x : Operand) : Bool := match x with | .tmp t => rd.contains t | _ => true
theorem rdOk_spec {rd : List Nat} {t : Nat} (h : rdOk rd (.tmp t) = true) : t ∈ rd := by
 simpa [rdOk] using h
theorem aev_agree {e0 e : Env} {x : Operand} {rd : List Nat} (hrd : ∀ t ∈ rd, e0 t = e t) (hx : rdOk rd x = true) : aev e0 x = aev e x := by
 cases x <;> first | rfl | exact hrd _ (rdOk_spec hx)
theorem ArgT.plain {Si : List (Nat × Obj)} {m : Nat → Nat} {rd ids : List Nat} {x : Operand} {y : AVal} (hx : rdOk rd x = true) (hle : ALe (aev e x) (y.ren m)) (hs : y.noSem = true) : ArgT C nt e s Si m rd ids x y := by
 intro R η e0 s0 a w hrd hids hc
 have h1 := (aev_ok hc x).1
 rw [aev_agree hrd hx] at h1
 exact (ARep.unren (hle.1 _ _ _ _ _ h1)).ctx hs
def callEff (ops : Array Oper) (o : Oper) (e : Env) (m : Nat → Nat) (extra : List Nat) (r : AVal) (Si So : List (Nat × Obj)) : Eff where
 rd := tmpsOf o ++ guardTmp ops o
 ids := idsOf e o ++ (Si.map (fun p => m p.1) ++ extra)
 v := r.ren m
 l := (So.map fun p => (m p.1, some (p.2.ren m))) ++ Si.map fun p => (m p.1, none)
 news := (So.filter fun p => !(Si.map (·.1)).contains p.1).map fun p => m p.1
def callChk (m : Nat → Nat) (r : AVal) (Si So : List (Nat × Obj)) : Bool :=
 nodupB (Si.map (·.1)) && nodupB (So.map (·.1)) && nodupB ((So.filter fun p => !(Si.map (·.1)).contains p.1).map (fun p => m p.1) ++ Si.map fun p => m p.1) &&
 r.refs.all (fun i => (So.map (·.1)).contains i) && So.all (fun p => p.2.refs.all fun i => (So.map (·.1)).contains i) && r.noSem && Si.all (fun p => p.2.noSem) && So.all (fun p => p.2.noSem) &&
 So.all (fun p => !(Si.map (·.1)).contains p.1 || Si.any fun q => q.1 == p.1 && q.2.ro == p.2.ro) && So.all (fun p => (Si.map (·.1)).contains p.1 || !p.2.ro)
theorem CV.ren_refs {ρ : Nat → Nat} (x : CV) : ∀ j ∈ (x.ren ρ).refs, ∃ i ∈ x.refs, j = ρ i := by
 cases x <;> simp [CV.refs, CV.ren]
 intro i hi; exact ⟨i, hi, rfl⟩
theorem flat_ren {α β : Type} {f : α → List Nat} {g : α → α} {l : List α} {ρ : Nat → Nat} (h : ∀ x, ∀ j ∈ f (g x), ∃ i ∈ f x, j = ρ i) (_ : β) : ∀ j ∈ (l.map g).flatMap f, ∃ i ∈ l.flatMap f, j = ρ i := by
 intro j hj
 obtain ⟨y, hy, hj⟩ := List.mem_flatMap.1 hj
 obtain ⟨x, hx, rfl⟩ := List.mem_map.1 hy
 obtain ⟨i, hi, e⟩ := h x j hj
 exact ⟨i, List.mem_flatMap.2 ⟨x, hx, hi⟩, e⟩
theorem TV.ren_refs {ρ : Nat → Nat} (x : TV) : ∀ j ∈ (x.ren ρ).refs, ∃ i ∈ x.refs, j = ρ i := by
 cases x with
 | c x => exact CV.ren_refs x
 | g xs => exact flat_ren (f := CV.refs) CV.ren_refs ()
theorem AVal.ren_refs {ρ : Nat → Nat} (x : AVal) : ∀ j ∈ (x.ren ρ).refs, ∃ i ∈ x.refs, j = ρ i := by
 cases x with
 | any => intro j hj; cases hj
 | v x => exact TV.ren_refs x
 | t xs => exact flat_ren (f := TV.refs) TV.ren_refs ()
theorem Obj.ren_refs {ρ : Nat → Nat} (o : Obj) : ∀ j ∈ (o.ren ρ).refs, ∃ i ∈ o.refs, j = ρ i := by
 cases o with
 | box ro cs => exact flat_ren (f := CV.refs) CV.ren_refs ()
 | arr es n f => intro j hj; cases hj
 | ext p => intro j hj; cases hj
theorem Conc.call {R : Nat → Prop} {η : Nat → Value} {e0 : Env} {s0 : Sto} {a : Act} {w : World} (h : Conc C nt R η e0 s0 a w) {m : Nat → Nat} {Si So : List (Nat × Obj)} {r : AVal} {d : Option Tmp} (hd : ∀ x, d = some x → x < nt)
  (hchk : callChk m r Si So = true) (hsi : ∀ p ∈ Si, ∃ o1, s0 (m p.1) = some o1 ∧ OLe o1 (p.2.ren m))
  (hfr : ∀ k ∈ (So.filter fun p => !(Si.map (·.1)).contains p.1).map (fun p => m p.1), ¬ R k)
  {v : Value} {η' : Nat → Value} {w' : World} (hb : Behind (callCtx Si w (XS C s0 η) fun i => η (m i)) r So v η' w') :
  ∃ η1, Conc C nt (fun i => R i ∨ i ∈ (So.filter fun p => !(Si.map (·.1)).contains p.1).map fun p => m p.1) η1 (setE d (r.ren m) e0) (upS ((So.map fun p => (m p.1, some (p.2.ren m))) ++ Si.map fun p => (m p.1, none)) s0) (a.put d v) w' := by
 simp only [callChk, Bool.and_eq_true] at hchk
 obtain ⟨⟨⟨⟨⟨⟨⟨⟨⟨c1, c2⟩, c3⟩, c4⟩, c5⟩, c6⟩, c7⟩, c8⟩, c9⟩, c10⟩ := hchk
 have n1 := nodupB_ok c1
 have n2 := nodupB_ok c2
 have n3 := nodupB_ok c3
 let news := (So.filter fun p => !(Si.map (·.1)).contains p.1).map fun p => m p.1
 have inSi : ∀ i, i ∈ Si.map (·.1) → ∃ o, (i, o) ∈ Si := fun i hi => by obtain ⟨p, hp, rfl⟩ := List.mem_map.1 hi; exact ⟨p.2, hp⟩
 have keySi : ∀ i o, (i, o) ∈ Si → ls Si i = some o := by
  intro i o hi
  unfold ls
  obtain ⟨l1, l2, rfl⟩ := List.append_of_mem hi
  rw [List.map_append, List.map_cons, List.nodup_append] at n1
  rw [List.lookup_append]
  have : l1.lookup i = none := by
   rw [List.lookup_eq_none_iff]
   intro p hp
   have := n1.2.2 p.1 (List.mem_map_of_mem hp) i (List.mem_cons_self)
   simpa using fun hh => this hh.symm
  rw [this]; simp
 have keySo : ∀ i o, (i, o) ∈ So → ls So i = some o := by
  intro i o hi
  unfold ls
  obtain ⟨l1, l2, rfl⟩ := List.append_of_mem hi
  rw [List.map_append, List.map_cons, List.nodup_append] at n2
  rw [List.lookup_append]
  have : l1.lookup i = none := by
   rw [List.lookup_eq_none_iff]
   intro p hp
   have := n2.2.2 p.1 (List.mem_map_of_mem hp) i (List.mem_cons_self)
   simpa using fun hh => this hh.symm
  rw [this]; simp
 have newIff : ∀ p ∈ So, p.1 ∈ Si.map (·.1) ∨ m p.1 ∈ news := by
  intro p hp
  by_cases hc : p.1 ∈ Si.map (·.1)
  ·exact .inl hc
  ·exact .inr (List.mem_map.2 ⟨p, List.mem_filter.2 ⟨hp, by simpa using hc⟩, rfl⟩)
 rw [List.nodup_append] at n3
 obtain ⟨n31, n32, n33⟩ := n3
 have injMap : ∀ {α : Type} (f : α → Nat) (l : List α), (l.map f).Nodup → ∀ x ∈ l, ∀ y ∈ l, f x = f y → x = y := by
  intro α f l
  induction l with
  | nil => intro _ x hx; cases hx
  | cons z l ih =>
   intro hn x hx y hy hxy
   rw [List.map_cons, List.nodup_cons] at hn
   rcases List.mem_cons.1 hx with hx1 | hx1 <;> rcases List.mem_cons.1 hy with hy1 | hy1
   ·rw [hx1, hy1]
   ·exact absurd (List.mem_map.2 ⟨y, hy1, by rw [← hxy, hx1]⟩) hn.1
   ·exact absurd (List.mem_map.2 ⟨x, hx1, by rw [hxy, hy1]⟩) hn.1
   ·exact ih hn.2 x hx1 y hy1 hxy
 have injSi : ∀ i j, i ∈ Si.map (·.1) → j ∈ Si.map (·.1) → m i = m j → i = j := by
  intro i j hi hj hij
  obtain ⟨oi, hi⟩ := inSi i hi
  obtain ⟨oj, hj⟩ := inSi j hj
  have := injMap (fun p : Nat × Obj => m p.1) Si n32 _ hi _ hj hij
  injection this
 have injSo : ∀ p ∈ So, ∀ q ∈ So, m p.1 = m q.1 → p.1 = q.1 := by
  intro p hp q hq hpq
  rcases newIff p hp with h1 | h1 <;> rcases newIff q hq with h2 | h2
  ·exact injSi _ _ h1 h2 hpq
  ·obtain ⟨op, hop⟩ := inSi _ h1
   exact absurd hpq.symm (n33 _ h2 _ (List.mem_map.2 ⟨_, hop, rfl⟩))
  ·obtain ⟨oq, hoq⟩ := inSi _ h2
   exact absurd hpq (n33 _ h1 _ (List.mem_map.2 ⟨_, hoq, rfl⟩))
  ·obtain ⟨p', hp', e1⟩ := List.mem_map.1 h1
   obtain ⟨q', hq', e2⟩ := List.mem_map.1 h2
   by_cases hps : p.1 ∈ Si.map (·.1)
   ·obtain ⟨op, hop⟩ := inSi _ hps
    exact absurd rfl (n33 _ h1 _ (List.mem_map.2 ⟨_, hop, rfl⟩))
   ·by_cases hqs : q.1 ∈ Si.map (·.1)
    ·obtain ⟨oq, hoq⟩ := inSi _ hqs
     exact absurd rfl (n33 _ h2 _ (List.mem_map.2 ⟨_, hoq, rfl⟩))
    ·have := injMap (fun p : Nat × Obj => m p.1) _ n31 p (List.mem_filter.2 ⟨hp, by simpa using hps⟩) q (List.mem_filter.2 ⟨hq, by simpa using hqs⟩) hpq
     rw [this]
 let η1 : Nat → Value := fun k => match So.find? (fun p => m p.1 == k) with | some p => η' p.1 | none => η k
 have eSo : ∀ p ∈ So, η1 (m p.1) = η' p.1 := by
  intro p hp
  simp only [η1]
  cases hf : So.find? (fun q => m q.1 == m p.1) with
  | none => rw [List.find?_eq_none] at hf; have := hf p hp; simp at this
  | some q =>
   have hq := List.mem_of_find?_eq_some hf
   have hqm : m q.1 = m p.1 := by simpa using List.find?_some hf
   simp only [injSo q hq p hp hqm]
 have ePin : ∀ i, i ∈ Si.map (·.1) → η' i = η (m i) := by
  intro i hi
  obtain ⟨o, ho⟩ := inSi i hi
  refine hb.pn i _ ?_
  have := keySi i o ho
  unfold ls at this
  simp [callCtx, this]
 have eOld : ∀ k, (∀ p ∈ So, m p.1 ≠ k) → η1 k = η k := by
  intro k hk
  simp only [η1]
  cases hf : So.find? (fun q => m q.1 == k) with
  | none => rfl
  | some q => exact absurd (by simpa using List.find?_some hf) (hk q (List.mem_of_find?_eq_some hf))
 have eR : ∀ k, R k → η1 k = η k := by
  intro k hk
  rcases Classical.em (∃ p ∈ So, m p.1 = k) with ⟨p, hp, rfl⟩ | hno
  ·rw [eSo p hp]
   rcases newIff p hp with h1 | h1
   ·exact ePin _ h1
   ·exact absurd hk (hfr _ h1)
  ·exact eOld k fun p hp hh => hno ⟨p, hp, hh⟩
 generalize hs1 : upS ((So.map fun p => (m p.1, some (p.2.ren m))) ++ Si.map fun p => (m p.1, none)) s0 = s1
 have cases1 : ∀ k o, s1 k = some o → (∃ p ∈ So, m p.1 = k ∧ o = p.2.ren m) ∨ (s0 k = some o ∧ (∀ p ∈ So, m p.1 ≠ k) ∧ ∀ p ∈ Si, m p.1 ≠ k) := by
  intro k o hk
  rw [← hs1] at hk
  unfold upS at hk
  rw [List.lookup_append] at hk
  cases hl1 : (So.map fun p => (m p.1, some (p.2.ren m))).lookup k with
  | some x =>
   rw [hl1] at hk
   simp only [Option.some_or] at hk
   obtain ⟨l1, l2, hl, _⟩ := List.lookup_eq_some_iff.1 hl1
   have hmem : (k, x) ∈ So.map fun p => (m p.1, some (p.2.ren m)) := by rw [hl]; simp
   obtain ⟨p, hp, he⟩ := List.mem_map.1 hmem
   injection he with e1 e2
   subst e2
   cases hk
   exact .inl ⟨p, hp, e1, rfl⟩
  | none =>
   rw [hl1] at hk
   simp only [Option.none_or] at hk
   have hno : ∀ p ∈ So, m p.1 ≠ k := by
    intro p hp hh
    rw [List.lookup_eq_none_iff] at hl1
    have := hl1 _ (List.mem_map_of_mem hp)
    simp at this
    exact this hh.symm
   cases hl2 : (Si.map fun p => (m p.1, (none : Option Obj))).lookup k with
   | some x =>
    rw [hl2] at hk
    obtain ⟨l1, l2, hl, _⟩ := List.lookup_eq_some_iff.1 hl2
    have hmem : (k, x) ∈ Si.map fun p => (m p.1, (none : Option Obj)) := by rw [hl]; simp
    obtain ⟨p, hp, he⟩ := List.mem_map.1 hmem
    injection he with e1 e2
    subst e2
    cases hk
   | none =>
    rw [hl2] at hk
    refine .inr ⟨hk, hno, fun p hp hh => ?_⟩
    rw [List.lookup_eq_none_iff] at hl2
    have := hl2 _ (List.mem_map_of_mem hp)
    simp at this
    exact this hh.symm
 have siOwn : ∀ i o, ls Si i = some o → ∀ b, b ∈ blks (η (m i)) → Own s0 η b := by
  intro i o hi b hb'
  obtain ⟨o1, h1, _⟩ := hsi _ (ls_mem hi)
  exact ⟨m i, o1, h1, hb'⟩
 have siKey : ∀ k o i oi b, s0 k = some o → ls Si i = some oi → b ∈ blks (η k) → b ∈ blks (η (m i)) → k = m i := by
  intro k o i oi b hk hi hb1 hb2
  obtain ⟨o1, h1, _⟩ := hsi _ (ls_mem hi)
  exact h.ds k (m i) b (by rw [hk]; simp) (by rw [h1]; simp) hb1 hb2
 have siMod : ∀ i oi b, ls Si i = some oi → oi.ro = false → b ∈ blks (η (m i)) → C.M b ∨ C.w0.heap.size ≤ b := by
  intro i oi b hi hro hb'
  obtain ⟨o1, h1, hle⟩ := hsi _ (ls_mem hi)
  rcases h.ow _ o1 b h1 hb' with ⟨h2, _⟩ | h2
  ·have : o1.ro = oi.ro := by rw [← hle.2.1, Obj.ro_ren]
   rw [this, hro] at h2; cases h2
  ·exact h2
 have hX1 : ∀ b, XS C s1 η1 b → (b < w.heap.size → XS C s0 η b) ∧ XS (callCtx Si w (XS C s0 η) fun i => η (m i)) (ls So) η' b := by
  intro b hx
  rcases hx with ⟨hx, hD⟩ | ⟨k, o, hk, hkb⟩
  ·refine ⟨fun _ => .inl ⟨hx, hD⟩, .inl ⟨.inl ⟨hx, hD⟩, fun ho => ?_⟩⟩
   obtain ⟨i, o, hi, hib⟩ := ho
   obtain ⟨o1, h1, _⟩ := hsi _ (ls_mem hi)
   have hlt := h.ok.lt b hx
   rcases h.ow _ o1 b h1 hib with ⟨_, h2⟩ | h2 | h2
   ·exact hD h2
   ·exact hD (h.ok.md b h2)
   ·omega
  ·rcases cases1 k o hk with ⟨p, hp, rfl, rfl⟩ | ⟨ho, hn1, hn2⟩
   ·rw [eSo p hp] at hkb
    refine ⟨fun hlt => ?_, .inr ⟨p.1, p.2, keySo _ _ hp, hkb⟩⟩
    rcases hb.ow p.1 p.2 b (keySo _ _ hp) hkb with ⟨_, ⟨i, oi, hi, hib⟩⟩ | ⟨i, oi, hi, _, hib⟩ | hge
    ·exact .inr (siOwn i oi hi b hib)
    ·exact .inr (siOwn i oi hi b hib)
    ·have : w.heap.size ≤ b := hge
     omega
   ·rw [eOld k hn1] at hkb
    have hown : Own s0 η b := ⟨k, o, ho, hkb⟩
    refine ⟨fun _ => .inr hown, .inl ⟨.inr hown, fun hx => ?_⟩⟩
    obtain ⟨i, oi, hi, hib⟩ := hx
    exact hn2 _ (ls_mem hi) (siKey k o i oi b ho hi hkb hib).symm
 have hk0 : Kept w w' (XS C s0 η) (XS C s1 η1) := by
  intro b hlt hX
  refine ⟨hb.stp.block b hlt fun hM => ?_, fun hx => hX ((hX1 b hx).1 hlt)⟩
  obtain ⟨i, oi, hi, _, hib⟩ := hM
  exact hX (.inr (siOwn i oi hi b hib))
 have hk1 : Kept w' w' (XS (callCtx Si w (XS C s0 η) fun i => η (m i)) (ls So) η') (XS C s1 η1) := fun b _ hX => ⟨rfl, fun hx => hX (hX1 b hx).2⟩
 have hR1 : ∀ p ∈ So, R (m p.1) ∨ m p.1 ∈ news := by
  intro p hp
  rcases newIff p hp with h1 | h1
  ·obtain ⟨o, ho⟩ := inSi _ h1
   obtain ⟨o1, h2, _⟩ := hsi _ ho
   exact .inl (h.sr _ o1 h2).1
  ·exact .inr h1
 have keyOf : ∀ i, (So.map (·.1)).contains i = true → ∃ p ∈ So, p.1 = i := by
  intro i hi
  have hi' : i ∈ So.map (·.1) := by simpa using hi
  obtain ⟨p, hp, e⟩ := List.mem_map.1 hi'
  exact ⟨p, hp, e⟩
 have repSo : ∀ p ∈ So, ORep w' (XS C s1 η1) η1 C (η1 (m p.1)) (p.2.ren m) := by
  intro p hp
  have h1 := hb.objs p.1 p.2 (keySo _ _ hp)
  have h2 := h1.mono (η' := fun i => η1 (m i)) hk1 (fun i hi => by
   obtain ⟨q, hq, rfl⟩ := keyOf i (List.all_eq_true.1 (List.all_eq_true.1 c5 p hp) i hi)
   exact eSo q hq) (fun _ _ => rfl)
  rw [eSo p hp]
  exact (h2.toRen).ctx (by
   have := List.all_eq_true.1 c8 p hp
   cases hp2 : p.2 with
   | box ro cs =>
    rw [hp2] at this
    simp only [Obj.ren, Obj.noSem, List.all_map]
    rw [List.all_eq_true]
    intro x hx
    have := List.all_eq_true.1 this x hx
    cases x <;> first | rfl | cases this
   | arr es n f => rfl
   | ext p => rfl)
 refine ⟨η1, h.ok, by rw [put_defers]; exact h.df, by rw [put_size]; exact h.sz, fun t => ?_, fun t i hi => ?_, fun k o hk => ?_, fun k o hk => ?_, fun i j b hi hj hbi hbj => ?_, fun k o b hk hkb => ?_, ?_, fun i u hi => ?_⟩
 ·rw [put_tmps a d v t (by rw [h.sz]; exact hd)]
  unfold setE
  have hres : ARep w' (XS C s1 η1) η1 C v (r.ren m) := by
   have h2 := hb.res.mono (η' := fun i => η1 (m i)) hk1 (fun i hi => by
    obtain ⟨q, hq, rfl⟩ := keyOf i (List.all_eq_true.1 c4 i hi)
    exact eSo q hq)
   exact (h2.ctx c6).toRen
  cases d with
  | none => exact (h.ev t).mono hk0 fun i hi => eR i (h.er t i hi)
  | some d =>
   simp only [Option.some.injEq]
   by_cases htd : t = d
   ·subst htd; simp only [if_true]; exact hres
   ·rw [if_neg (fun hh => htd hh.symm), if_neg htd]
    exact (h.ev t).mono hk0 fun i hi => eR i (h.er t i hi)
 ·unfold setE at hi
  have hold : i ∈ (e0 t).refs → R i ∨ i ∈ news := fun hh => .inl (h.er t i hh)
  have hnew : i ∈ (r.ren m).refs → R i ∨ i ∈ news := by
   intro hh
   obtain ⟨j, hj, rfl⟩ := AVal.ren_refs r i hh
   obtain ⟨q, hq, rfl⟩ := keyOf j (List.all_eq_true.1 c4 j hj)
   exact hR1 q hq
  cases d with
  | none => exact hold hi
  | some d =>
   simp only at hi
   by_cases htd : t = d
   ·rw [if_pos htd] at hi; exact hnew hi
   ·rw [if_neg htd] at hi; exact hold hi
 ·rcases cases1 k o hk with ⟨p, hp, rfl, rfl⟩ | ⟨ho, hn1, hn2⟩
  ·exact repSo p hp
  ·rw [eOld k hn1]
   refine (h.st k o ho).mono hk0 (fun j hj => eR j ((h.sr k o ho).2 j hj)) fun b hkb => ?_
   refine hb.stp.block b ((h.st k o ho).lt hkb) fun hM => ?_
   obtain ⟨i, oi, hi, _, hib⟩ := hM
   exact hn2 _ (ls_mem hi) (siKey k o i oi b ho hi hkb hib).symm
 ·rcases cases1 k o hk with ⟨p, hp, rfl, rfl⟩ | ⟨ho, hn1, hn2⟩
  ·refine ⟨hR1 p hp, fun j hj => ?_⟩
   obtain ⟨i, hi, rfl⟩ := Obj.ren_refs p.2 j hj
   obtain ⟨q, hq, rfl⟩ := keyOf i (List.all_eq_true.1 (List.all_eq_true.1 c5 p hp) i hi)
   exact hR1 q hq
  ·exact ⟨.inl (h.sr k o ho).1, fun j hj => .inl ((h.sr k o ho).2 j hj)⟩
 ·obtain ⟨oi, hoi⟩ := Option.ne_none_iff_exists'.1 hi
  obtain ⟨oj, hoj⟩ := Option.ne_none_iff_exists'.1 hj
  have mixed : ∀ p ∈ So, ∀ k o, s0 k = some o → (∀ p ∈ Si, m p.1 ≠ k) → ∀ b, b ∈ blks (η' p.1) → b ∈ blks (η k) → False := by
   intro p hp k o ho hn b hb1 hb2
   rcases hb.ow p.1 p.2 b (keySo _ _ hp) hb1 with ⟨_, ⟨i, oi, hi, hib⟩⟩ | ⟨i, oi, hi, _, hib⟩ | hge
   ·exact hn _ (ls_mem hi) (siKey k o i oi b ho hi hb2 hib).symm
   ·exact hn _ (ls_mem hi) (siKey k o i oi b ho hi hb2 hib).symm
   ·have h1 : w.heap.size ≤ b := hge
    have h2 := (h.st k o ho).lt hb2
    omega
  rcases cases1 i oi hoi with ⟨p, hp, rfl, rfl⟩ | ⟨ho, hn1, hn2⟩ <;> rcases cases1 j oj hoj with ⟨q, hq, rfl, rfl⟩ | ⟨ho', hn1', hn2'⟩
  ·rw [eSo p hp] at hbi; rw [eSo q hq] at hbj
   rw [hb.ds p.1 q.1 b (by rw [keySo _ _ hp]; simp) (by rw [keySo _ _ hq]; simp) hbi hbj]
  ·rw [eSo p hp] at hbi; rw [eOld _ hn1'] at hbj
   exact (mixed p hp _ _ ho' hn2' b hbi hbj).elim
  ·rw [eSo q hq] at hbj; rw [eOld _ hn1] at hbi
   exact (mixed q hq _ _ ho hn2 b hbj hbi).elim
  ·rw [eOld _ hn1] at hbi; rw [eOld _ hn1'] at hbj
   exact h.ds i j b (by rw [ho]; simp) (by rw [ho']; simp) hbi hbj
 ·rcases cases1 k o hk with ⟨p, hp, rfl, rfl⟩ | ⟨ho, hn1, hn2⟩
  ·rw [eSo p hp] at hkb
   rw [Obj.ro_ren]
   rcases hb.ow p.1 p.2 b (keySo _ _ hp) hkb with ⟨hro, _⟩ | ⟨i, oi, hi, hro, hib⟩ | hge
   ·
    have hin : p.1 ∈ Si.map (·.1) := by
     have := List.all_eq_true.1 c10 p hp
     simpa [hro] using this
    have h9 := List.all_eq_true.1 c9 p hp
    have hin' : (Si.map (·.1)).contains p.1 = true := by simpa using hin
    simp only [hin', Bool.not_true, Bool.false_or, List.any_eq_true] at h9
    obtain ⟨q, hq, hqq⟩ := h9
    simp only [Bool.and_eq_true, beq_iff_eq] at hqq
    obtain ⟨o1, g1, g2⟩ := hsi q hq
    rw [hqq.1] at g1
    rw [ePin _ hin] at hkb
    have hroe : o1.ro = p.2.ro := by rw [← g2.2.1, Obj.ro_ren, hqq.2]
    rw [← hroe]
    exact h.ow _ o1 b g1 hkb
   ·exact .inr (siMod i oi b hi hro hib)
   ·exact .inr (.inr (Nat.le_trans h.fr.size hge))
  ·rw [eOld k hn1] at hkb
   exact h.ow k o b ho hkb
 ·refine h.fr.trans (hb.stp.mono fun b _ hM => ?_)
  obtain ⟨i, oi, hi, hro, hib⟩ := hM
  exact siMod i oi b hi hro hib
 ·have := h.pn i u hi
  exact ⟨(eR i this.2).trans this.1, .inl this.2⟩
end
end Go.Ab
end

section
namespace Go.Ab
def CV.closed (x : CV) : Bool := x.refs.isEmpty && x.noSem
def AVal.closed (x : AVal) : Bool := x.refs.isEmpty && x.noSem
section
variable {w : World} {X : Nat → Prop} {η η' : Nat → Value} {C C' : Ctx}
theorem ARep.free {v : Value} {x : AVal} (h : ARep w X η C v x) (hx : x.closed = true) : ARep w X η' C' v x := by
 simp only [AVal.closed, Bool.and_eq_true, List.isEmpty_iff] at hx
 exact (h.mono (fun b _ hX => ⟨rfl, hX⟩) (fun i hi => by rw [hx.1] at hi; cases hi)).ctx hx.2
theorem CsRep.free {vs : Array Value} {cs : List CV} (h : CsRep w X η C vs cs) (hx : cs.all CV.closed = true) : CsRep w X η' C' vs cs := by
 refine ⟨h.1, fun j hj => ?_⟩
 have := List.all_eq_true.1 hx _ (getD_mem (d := .d .any) hj)
 simp only [CV.closed, Bool.and_eq_true, List.isEmpty_iff] at this
 exact ((h.2 j hj).mono (fun b _ hX => ⟨rfl, hX⟩) (fun i hi => by rw [this.1] at hi; cases hi)).ctx this.2
end
def CloOK (P : Program) (F : List AVal → AVal → Prop) (w0 : World) (D X : Nat → Prop) (v : Value) : Prop :=
 ∃ f caps, v = .func (.func f) #[] caps ∧ (∀ args w, (callFunc f args).run P w = .ok (.enter f args) w) ∧
  ∀ (w1 : World) (X1 : Nat → Prop) (vs : Array Value) (args : List AVal) (r : AVal), F args r → w0.heap.size ≤ w1.heap.size → (∀ b, b < w0.heap.size → ¬ D b → w1.heap[b]? = w0.heap[b]?) → (∀ b, X1 b → b < w1.heap.size) →
   (∀ b, b < w0.heap.size → ¬ D b → (X1 b ↔ X b)) → vs.size = args.length → (∀ j, j < args.length → ∀ η C, ARep w1 X1 η C (vs.getD j undef) (args.getD j .any)) →
   Calls P f (vs ++ caps) w1 fun e w' => ∃ v', e = .returned v' ∧ Stp (fun _ => False) w1 w' ∧ ∀ η C, ARep w' X1 η C v' r
def vclo (P : Program) (F : List AVal → AVal → Prop) : AVal := .v (.c (.sem (CloOK P F)))
section
variable {P : Program} {C : Ctx} {nt : Nat} {ops : Array Oper} {e : Env} {s : Sto}
theorem exec_call {o : Oper} {fx : Operand} {xs : Array Operand} {tys : Array TypeId} (hop : o.op = .call { callee := .value fx, args := xs, argTypes := tys }) {a : Act} {w : World} {f : Nat} {caps : Array Value} (hf : a.eval fx = .func (.func f) #[] caps)
  (hcall : ∀ args w, (callFunc f args).run P w = .ok (.enter f args) w) : (execOp a.eval o).run P w = .ok (.enter f (xs.map a.eval ++ caps)) w := by
 simp [execOp, hop, resolve, Deferred.ofValue, hf, invoke, hcall]
theorem dst_lt {o : Oper} (hdo : dstOk nt o = true) : ∀ x, o.dst = some x → x < nt := by
 intro x hx
 simp only [dstOk, hx, Bool.and_eq_true, decide_eq_true_eq] at hdo
 exact hdo.1
theorem clo_inv {w : World} {X : Nat → Prop} {η : Nat → Value} {v : Value} {f : Nat} {ids : List Nat} (h : ARep w X η C v (.v (.c (.clo f ids)))) : v = .func (.func f) #[] (ids.map η).toArray := by
 cases h with | v _ _ h => cases h with | c _ _ h => cases h with | clo _ _ vs h => rw [h]
theorem stT_call {f : Nat} (hcall : ∀ args w, (callFunc f args).run P w = .ok (.enter f args) w) {o : Oper} {fx : Operand} {xs : Array Operand} {tys : Array TypeId} (hop : o.op = .call { callee := .value fx, args := xs, argTypes := tys })
  (hfx : aev e fx = .v (.c (.clo f []))) (hrf : rdOk (tmpsOf o ++ guardTmp ops o) fx = true) {args : List AVal} {Si : List (Nat × Obj)} {r : AVal} {So : List (Nat × Obj)} (hspec : FSpec P f args Si r So) (hlen : xs.size = args.length) (m : Nat → Nat) (extra : List Nat)
  (hargs : ∀ j, j < args.length → ArgT C nt e s Si m (tmpsOf o ++ guardTmp ops o) (idsOf e o ++ (Si.map (fun p => m p.1) ++ extra)) (xs.toList.getD j (.const undef)) (args.getD j .any))
  (hsi : ∀ p ∈ Si, ∃ o1, s (m p.1) = some o1 ∧ OLe o1 (p.2.ren m)) (hchk : callChk m r Si So = true) (hdo : dstOk nt o = true) (hg : gval ops e o = some true) : StT P C nt ops o (callEff ops o e m extra r Si So) e s := by
 intro R η e0 s0 a w hrd hids hfr hc K Q hK
 have hw := wanted_of (e := e) hc (fun t ht => hrd t (List.mem_append.2 (.inr ht))) hg
 rw [if_pos hw]
 have hfv := (aev_ok hc fx).1
 rw [aev_agree hrd hrf, hfx] at hfv
 have hfv' := clo_inv hfv
 have hex := exec_call (w := w) hop hfv' hcall
 have hsi0 : ∀ p ∈ Si, ∃ o1, s0 (m p.1) = some o1 ∧ OLe o1 (p.2.ren m) := by
  intro p hp
  rw [hids (m p.1) (List.mem_append.2 (.inr (List.mem_append.2 (.inl (List.mem_map.2 ⟨p, hp, rfl⟩)))))]
  exact hsi p hp
 simp only [callChk, Bool.and_eq_true] at hchk
 have hchk' := hchk
 obtain ⟨⟨⟨⟨⟨⟨⟨⟨⟨c1, c2⟩, c3⟩, c4⟩, c5⟩, c6⟩, c7⟩, c8⟩, c9⟩, c10⟩ := hchk
 have hXlt : ∀ b, XS C s0 η b → b < w.heap.size := by
  rintro b (⟨hx, _⟩ | hx)
  ·exact Nat.lt_of_lt_of_le (hc.ok.lt b hx) hc.fr.size
  ·exact hc.lt hx
 have hsem : ∀ i o', ls Si i = some o' → o'.noSem = true := fun i o' hi => List.all_eq_true.1 c7 _ (ls_mem hi)
 have hsp := hspec w (XS C s0 η) (fun i => η (m i)) (xs.map a.eval ++ (([] : List Nat).map η).toArray) hXlt
  (fun b ⟨i, o', hi, hib⟩ => by obtain ⟨o1, h1, _⟩ := hsi0 _ (ls_mem hi); exact .inr ⟨m i, o1, h1, hib⟩)
  (fun i o' hi => by
   obtain ⟨o1, h1, hle⟩ := hsi0 _ (ls_mem hi)
   exact (ORep.unren (hle.1 _ _ _ _ _ (hc.st _ o1 h1))).ctx (hsem i o' hi))
  (fun i j b hi hj hbi hbj => by
   obtain ⟨oi, hi⟩ := Option.ne_none_iff_exists'.1 hi
   obtain ⟨oj, hj⟩ := Option.ne_none_iff_exists'.1 hj
   obtain ⟨o1, h1, _⟩ := hsi0 _ (ls_mem hi)
   obtain ⟨o2, h2, _⟩ := hsi0 _ (ls_mem hj)
   have hmij : m i = m j := hc.ds _ _ b (by rw [h1]; simp) (by rw [h2]; simp) hbi hbj
   have n3 := nodupB_ok c3
   rw [List.nodup_append] at n3
   exact inj_of (ρ := m) n3.2.1 (by rw [hi]; simp) (by rw [hj]; simp) hmij)
  (by simp [hlen])
  (fun j hj => by
   have hj' : j < xs.size := by omega
   have e1 : (xs.map a.eval ++ (([] : List Nat).map η).toArray).getD j undef = a.eval (xs.toList.getD j (.const undef)) := by
    simp [List.getD_eq_getElem?_getD, hj']
   rw [e1]
   exact hargs j hj R η e0 s0 a w hrd hids hc)
 unfold Oper.wp
 rw [hex]
 show Calls P f _ w _
 refine hsp.mono fun en w' hh => ?_
 obtain ⟨v, η', rfl, hb⟩ := hh
 have hchk2 : callChk m r Si So = true := by simp only [callChk, Bool.and_eq_true]; exact hchk'
 obtain ⟨η1, hc1⟩ := hc.call (dst_lt hdo) hchk2 hsi0 hfr hb
 exact hK η1 _ w' hc1
def semEff (ops : Array Oper) (o : Oper) (e : Env) (r : AVal) : Eff where
 rd := tmpsOf o ++ guardTmp ops o
 ids := idsOf e o
 v := r
 l := []
 news := []
theorem stT_callSem {F : List AVal → AVal → Prop} {o : Oper} {fx : Operand} {xs : Array Operand} {tys : Array TypeId} (hop : o.op = .call { callee := .value fx, args := xs, argTypes := tys }) (hfx : aev e fx = vclo P F) {args : List AVal} {r : AVal} (hF : F args r) (hlen : xs.size = args.length)
  (hrd' : rdOk (tmpsOf o ++ guardTmp ops o) fx = true ∧ ∀ x ∈ xs.toList, rdOk (tmpsOf o ++ guardTmp ops o) x = true)
  (hargs : ∀ j, j < args.length → ALe (aev e (xs.toList.getD j (.const undef))) (args.getD j .any) ∧ (args.getD j .any).closed = true) (hr : r.closed = true) (hdo : dstOk nt o = true) (hg : gval ops e o = some true) : StT P C nt ops o (semEff ops o e r) e s := by
 intro R η e0 s0 a w hrd hids hfr hc K Q hK
 have hw := wanted_of (e := e) hc (fun t ht => hrd t (List.mem_append.2 (.inr ht))) hg
 rw [if_pos hw]
 have hfv := (aev_ok hc fx).1
 rw [aev_agree hrd hrd'.1, hfx] at hfv
 have hclo : CloOK P F C.w0 C.D C.X (a.eval fx) := by
  generalize a.eval fx = u at hfv
  cases hfv with | v _ _ h => cases h with | c _ _ h => cases h with | sem _ _ h _ => exact h
 obtain ⟨f, caps, hfe, hcall, hcl⟩ := hclo
 have hex := exec_call (w := w) hop hfe hcall
 have hXlt : ∀ b, XS C s0 η b → b < w.heap.size := by
  rintro b (⟨hx, _⟩ | hx)
  ·exact Nat.lt_of_lt_of_le (hc.ok.lt b hx) hc.fr.size
  ·exact hc.lt hx
 have hc2 := hcl w (XS C s0 η) (xs.map a.eval) args r hF hc.fr.size (fun b hb hD => hc.fr.block b hb fun hM => hD (hc.ok.md b hM)) hXlt
  (fun b hb hD => ⟨fun hx => by
   rcases hx with ⟨hx, _⟩ | ⟨i, o', hi, hib⟩
   ·exact hx
   ·rcases hc.ow i o' b hi hib with ⟨_, h1⟩ | h1 | h1
    ·exact absurd h1 hD
    ·exact absurd (hc.ok.md b h1) hD
    ·omega, fun hx => .inl ⟨hx, hD⟩⟩) (by simp [hlen])
  (fun j hj η2 C2 => by
   have hj' : j < xs.size := by omega
   have e1 : (xs.map a.eval).getD j undef = a.eval (xs.toList.getD j (.const undef)) := by simp [List.getD_eq_getElem?_getD, hj']
   rw [e1]
   obtain ⟨g1, g2⟩ := hargs j hj
   have hx := (aev_ok hc (xs.toList.getD j (.const undef))).1
   rw [aev_agree hrd (hrd'.2 _ (getD_mem (by simpa using hj')))] at hx
   exact (g1.1 _ _ _ _ _ hx).free g2)
 unfold Oper.wp
 rw [hex]
 show Calls P f _ w _
 refine hc2.mono fun en w' hh => ?_
 obtain ⟨v, rfl, hstp, hres⟩ := hh
 have hs : SR.sto { v := r } o.dst s0 = s0 := by funext i; simp [SR.sto]
 have he : SR.eta { v := r } o.dst v η = η := by funext i; simp [SR.eta]
 have hr0 : SR.rng { v := r } o.dst R = R := by funext i; simp [SR.rng]
 have := hc.step o.dst (dst_lt hdo) { v := r } v w' (fun _ => False) hstp (fun b hb => hb.elim) (fun o dd ho => by cases ho) (fun k o ho => by cases ho)
  (fun _ => by rw [hs, he]; refine ⟨hres _ _, fun j hj => ?_⟩; simp only [AVal.closed, Bool.and_eq_true, List.isEmpty_iff] at hr; simp only at hj; rw [hr.1] at hj; cases hj)
 rw [hs, he, hr0] at this
 refine hK η _ w' ?_
 have hu : upS (semEff ops o e r).l s0 = s0 := by funext i; rfl
 rw [hu]
 exact this.wider fun i hi => .inl hi
theorem ArgT.sem {F : List AVal → AVal → Prop} {Si : List (Nat × Obj)} {m : Nat → Nat} {rd ids : List Nat} {x : Operand} (hx : rdOk rd x = true) (hv : aev e x = vclo P F) (hsi : ∀ p ∈ Si, ∃ o1, s (m p.1) = some o1) (hin : ∀ p ∈ Si, m p.1 ∈ ids) : ArgT C nt e s Si m rd ids x (vclo P F) := by
 intro R η e0 s0 a w hrd hids hc
 have hfv := (aev_ok hc x).1
 rw [aev_agree hrd hx, hv] at hfv
 have hclo : CloOK P F C.w0 C.D C.X (a.eval x) ∧ (a.eval x).oneCell' = true := by
  generalize a.eval x = u at hfv
  cases hfv with | v _ _ h => cases h with | c _ _ h => cases h with | sem _ _ h h1 => exact ⟨h, h1⟩
 obtain ⟨⟨f, caps, hfe, hcall, hcl⟩, hone⟩ := hclo
 refine .v _ _ (.c _ _ (.sem _ _ ⟨f, caps, hfe, hcall, ?_⟩ hone))
 intro w1 X1 vs args r hF hsz hblk hX1 hXX hvs hargs
 have hsz' : w.heap.size ≤ w1.heap.size := hsz
 have hDin : ∀ b, Own (ls Si) (fun i => η (m i)) b → Own s0 η b := by
  rintro b ⟨i, o', hi, hib⟩
  obtain ⟨o1, h1⟩ := hsi _ (ls_mem hi)
  exact ⟨m i, o1, by rw [hids _ (hin _ (ls_mem hi))]; exact h1, hib⟩
 have hnD : ∀ b, b < C.w0.heap.size → ¬ C.D b → ¬ Own (ls Si) (fun i => η (m i)) b := by
  intro b hb hD ho
  obtain ⟨i, o', hi, hib⟩ := hDin b ho
  rcases hc.ow i o' b hi hib with ⟨_, h1⟩ | h1 | h1
  ·exact hD h1
  ·exact hD (hc.ok.md b h1)
  ·omega
 refine hcl w1 X1 vs args r hF (Nat.le_trans hc.fr.size hsz') (fun b hb hD => ?_) hX1 (fun b hb hD => ?_) hvs hargs
 ·have hbw : b < w.heap.size := Nat.lt_of_lt_of_le hb hc.fr.size
  exact (hblk b hbw (hnD b hb hD)).trans (hc.fr.block b hb fun hM => hD (hc.ok.md b hM))
 ·have hbw : b < w.heap.size := Nat.lt_of_lt_of_le hb hc.fr.size
  rw [hXX b hbw (hnD b hb hD)]
  constructor
  ·rintro (⟨hx, _⟩ | ⟨i, o', hi, hib⟩)
   ·exact hx
   ·rcases hc.ow i o' b hi hib with ⟨_, h1⟩ | h1 | h1
    ·exact absurd h1 hD
    ·exact absurd (hc.ok.md b h1) hD
    ·omega
  ·exact fun hx => .inl ⟨hx, hD⟩
def capS (cs : List (List CV)) : List (Nat × Obj) := cs.zipIdx.map fun p => (p.2, .box true p.1)
def capA (cs : List (List CV)) : List AVal := (List.range cs.length).map fun k => .v (.c (.ptr k 0))
theorem capS_ls (cs : List (List CV)) (k : Nat) : ls (capS cs) k = (cs[k]?).map (Obj.box true) := by
 have key : ∀ (l : List (List CV)) (n k : Nat), ((l.zipIdx n).map fun p => (p.2, Obj.box true p.1)).lookup k = if k < n then none else (l[k - n]?).map (Obj.box true) := by
  intro l
  induction l with
  | nil => intro n k; simp
  | cons x l ih =>
   intro n k
   simp only [List.zipIdx_cons, List.map_cons, List.lookup_cons]
   by_cases hk : k = n
   ·subst hk; simp
   ·have : (k == n) = false := by simpa using hk
    simp only [this]
    rw [ih (n + 1) k]
    by_cases h1 : k < n
    ·rw [if_pos (by omega), if_pos h1]
    ·rw [if_neg (by omega), if_neg h1]
     have : k - n = (k - (n + 1)) + 1 := by omega
     rw [this]; simp
 have := key cs 0 k
 simpa [ls, capS] using this
theorem ArgT.clo {f : Nat} (hcall : ∀ args w, (callFunc f args).run P w = .ok (.enter f args) w) {F : List AVal → AVal → Prop} {cs : List (List CV)} (hspec : ∀ args r, F args r → FSpec P f (args ++ capA cs) (capS cs) r (capS cs)) (hres : ∀ args r, F args r → r.closed = true)
  {Si : List (Nat × Obj)} {m : Nat → Nat} {rd ids : List Nat} {x : Operand} (hx : rdOk rd x = true) {cids : List Nat} (hv : aev e x = .v (.c (.clo f cids))) (hlen : cids.length = cs.length) (hnd : nodupB cids = true) (hbox : ∀ k, k < cs.length → ∃ ro, s (cids.getD k 0) = some (.box ro (cs.getD k [])))
  (hcl : cs.all (fun c => c.all CV.closed) = true) (hsi : ∀ p ∈ Si, ∃ o1, s (m p.1) = some o1) (hin : ∀ p ∈ Si, m p.1 ∈ ids) (hcin : ∀ i ∈ cids, i ∈ ids) (hapart : ∀ p ∈ Si, m p.1 ∉ cids) : ArgT C nt e s Si m rd ids x (vclo P F) := by
 intro R η e0 s0 a w hrd hids hc
 have hfv := (aev_ok hc x).1
 rw [aev_agree hrd hx, hv] at hfv
 have hfe := clo_inv hfv
 refine .v _ _ (.c _ _ (.sem _ _ ⟨f, _, hfe, hcall, ?_⟩ (by rw [hfe]; rfl)))
 intro w1 X1 vs args r hF hsz hblk hX1 hXX hvs hargs
 have hsz' : w.heap.size ≤ w1.heap.size := hsz
 have hgetid : ∀ k, k < cs.length → cids.getD k 0 ∈ cids := fun k hk => getD_mem (by omega)
 have hobj : ∀ k, k < cs.length → ∃ ro, s0 (cids.getD k 0) = some (.box ro (cs.getD k [])) := by
  intro k hk
  obtain ⟨ro, h1⟩ := hbox k hk
  exact ⟨ro, by rw [hids _ (hcin _ (hgetid k hk))]; exact h1⟩
 have hblkOf : ∀ k, k < cs.length → ∃ b c' e', η (cids.getD k 0) = .pointer (some ⟨b, 0, none⟩) ∧ w.heap[b]? = some (.cells c' e' (0, 0)) ∧ CsRep w (XS C s0 η) η C c' (cs.getD k []) := by
  intro k hk
  obtain ⟨ro, h1⟩ := hobj k hk
  have := hc.st _ _ h1
  generalize η (cids.getD k 0) = u at this
  cases this with
  | box b _ c' e' _ hb hcs => exact ⟨b, c', e', rfl, hb, hcs⟩
 have hnotD : ∀ k, k < cs.length → ∀ b, b ∈ blks (η (cids.getD k 0)) → ¬ Own (ls Si) (fun i => η (m i)) b := by
  rintro k hk b hb ⟨i, o', hi, hib⟩
  obtain ⟨ro, h1⟩ := hobj k hk
  obtain ⟨o1, h2⟩ := hsi _ (ls_mem hi)
  have h2' : s0 (m i) = some o1 := by rw [hids _ (hin _ (ls_mem hi))]; exact h2
  have := hc.ds _ _ b (by rw [h1]; simp) (by rw [h2']; simp) hb hib
  exact hapart _ (ls_mem hi) (this ▸ hgetid k hk)
 have hDX : ∀ b, Own (ls Si) (fun i => η (m i)) b → XS C s0 η b := by
  rintro b ⟨i, o', hi, hib⟩
  obtain ⟨o1, h2⟩ := hsi _ (ls_mem hi)
  exact .inr ⟨m i, o1, by rw [hids _ (hin _ (ls_mem hi))]; exact h2, hib⟩
 have hk : Kept w w1 (XS C s0 η) X1 := by
  intro b hb hX
  have hnD : ¬ Own (ls Si) (fun i => η (m i)) b := fun ho => hX (hDX b ho)
  exact ⟨hblk b hb hnD, fun hx => hX ((hXX b hb hnD).1 hx)⟩
 have hpos : ∀ k o, ls (capS cs) k = some o → k < cs.length ∧ o = .box true (cs.getD k []) := by
  intro k o hk
  rw [capS_ls] at hk
  rcases Nat.lt_or_ge k cs.length with h1 | h1
  ·rw [List.getElem?_eq_getElem h1] at hk
   cases hk
   exact ⟨h1, by rw [List.getD_eq_getElem?_getD, List.getElem?_eq_getElem h1]; rfl⟩
  ·rw [List.getElem?_eq_none h1] at hk; cases hk
 have hownC : ∀ b, Own (ls (capS cs)) (fun k => η (cids.getD k 0)) b → X1 b := by
  rintro b ⟨k, o', hko, hkb⟩
  obtain ⟨hk1, _⟩ := hpos k o' hko
  obtain ⟨ro, h1⟩ := hobj k hk1
  have hlt : b < w.heap.size := (hc.st _ _ h1).lt hkb
  exact (hXX b hlt (hnotD k hk1 b hkb)).2 (.inr ⟨_, _, h1, hkb⟩)
 have hsp := hspec args r hF w1 X1 (fun k => η (cids.getD k 0)) (vs ++ (cids.map η).toArray) hX1 hownC
  (fun k o hko => by
   obtain ⟨hk1, rfl⟩ := hpos k o hko
   obtain ⟨b, c', e', h1, h2, h3⟩ := hblkOf k hk1
   have hnb := hnotD k hk1 b (by rw [h1]; simp [blks])
   show ORep w1 X1 _ _ (η (cids.getD k 0)) _
   rw [h1]
   have hcc : (cs.getD k []).all CV.closed = true := List.all_eq_true.1 hcl _ (getD_mem hk1)
   exact .box b true c' e' _ ((hblk b (lt_of_heap h2) hnb).trans h2) ((h3.mono (η' := η) hk (fun _ _ => rfl)).free hcc))
  (fun i j b hi hj hbi hbj => by
   obtain ⟨oi, hi⟩ := Option.ne_none_iff_exists'.1 hi
   obtain ⟨oj, hj⟩ := Option.ne_none_iff_exists'.1 hj
   obtain ⟨hi1, _⟩ := hpos i oi hi
   obtain ⟨hj1, _⟩ := hpos j oj hj
   obtain ⟨r1, h1⟩ := hobj i hi1
   obtain ⟨r2, h2⟩ := hobj j hj1
   have hij := hc.ds _ _ b (by rw [h1]; simp) (by rw [h2]; simp) hbi hbj
   have hn := nodupB_ok hnd
   have hi2 : i < cids.length := by omega
   have hj2 : j < cids.length := by omega
   rw [List.getD_eq_getElem?_getD, List.getD_eq_getElem?_getD, List.getElem?_eq_getElem hi2, List.getElem?_eq_getElem hj2] at hij
   exact (List.getElem_inj hn).1 (by simpa using hij))
  (by simp [hvs, capA, hlen])
  (fun j hj => by
   rw [List.length_append] at hj
   by_cases hja : j < args.length
   ·have e1 : (vs ++ (cids.map η).toArray).getD j undef = vs.getD j undef := by
     have : j < vs.size := by omega
     simp [Array.getD_eq_getD_getElem?, Array.getElem?_append, this]
    have e2 : (args ++ capA cs).getD j .any = args.getD j .any := by simp [List.getD_eq_getElem?_getD, List.getElem?_append, hja]
    rw [e1, e2]
    exact hargs j hja _ _
   ·have hk1 : j - args.length < cs.length := by simp [capA] at hj; omega
    obtain ⟨b, c', e', h1, h2, h3⟩ := hblkOf _ hk1
    have e1 : (vs ++ (cids.map η).toArray).getD j undef = η (cids.getD (j - args.length) 0) := by
     have g1 : ¬ j < vs.size := by omega
     have g2 : j - vs.size < cids.length := by omega
     have g3 : j - args.length < cids.length := by omega
     have : j - vs.size = j - args.length := by omega
     simp [Array.getD_eq_getD_getElem?, Array.getElem?_append, g1, List.getD_eq_getElem?_getD, this, g3]
    have e2 : (args ++ capA cs).getD j .any = .v (.c (.ptr (j - args.length) 0)) := by
     simp [List.getD_eq_getElem?_getD, List.getElem?_append, hja, capA, hk1]
    rw [e1, e2, h1]
    exact .v _ _ (.c _ _ (.ptr b _ 0 h1)))
 refine hsp.mono fun en w' hh => ?_
 obtain ⟨v, η', rfl, hb⟩ := hh
 refine ⟨v, rfl, hb.stp.mono fun b _ hM => ?_, fun η2 C2 => ?_⟩
 ·obtain ⟨i, o', hi, hro, _⟩ := hM
  obtain ⟨_, rfl⟩ := hpos i o' hi
  cases hro
 ·have hX : ∀ b, XS (callCtx (capS cs) w1 X1 fun k => η (cids.getD k 0)) (ls (capS cs)) η' b ↔ X1 b := by
   have hpin : ∀ i o', ls (capS cs) i = some o' → η' i = η (cids.getD i 0) := by
    intro i o' hi
    refine hb.pn i _ ?_
    unfold ls at hi
    simp [callCtx, hi]
   intro b
   constructor
   ·rintro (⟨hx, _⟩ | ⟨i, o', hi, hib⟩)
    ·exact hx
    ·rw [hpin i o' hi] at hib
     exact hownC b ⟨i, o', hi, hib⟩
   ·intro hx
    rcases Classical.em (Own (ls (capS cs)) (fun k => η (cids.getD k 0)) b) with ho | ho
    ·obtain ⟨i, o', hi, hib⟩ := ho
     exact .inr ⟨i, o', hi, by rw [hpin i o' hi]; exact hib⟩
    ·exact .inl ⟨hx, ho⟩
  exact (hb.res.mono (η' := η') (fun b _ hx => ⟨rfl, fun hx' => hx ((hX b).2 hx')⟩) (fun _ _ => rfl)).free (hres args r hF)
end
end Go.Ab
end

section
namespace Go.Ab
class Emb (α : Type) where
 cells : α → List DVal
 es : Nat
 d : α
 len : ∀ x, (cells x).length = es
section
variable {α : Type} [Emb α]
def LF (l : List α) (i : Nat) : List DVal := Emb.cells (l.getD i Emb.d)
def DL (l : List α) : DVal := .lst l.length (LF l)
def AL (l : List α) : AVal := .v (.c (.d (DL l)))
def AO (l : List α) : Obj := .arr (Emb.es α) l.length (LF l)
structure Is (n : Nat) (f : Nat → List DVal) (l : List α) : Prop where
 len_eq : n = l.length
 at_eq : ∀ i, i < n → f i = LF l i
theorem Is.refl (l : List α) : Is l.length (LF l) l := ⟨rfl, fun _ _ => rfl⟩
theorem Is.nil {f : Nat → List DVal} : Is 0 f ([] : List α) := ⟨rfl, fun i hi => by omega⟩
theorem Is.app {n k : Nat} {f g : Nat → List DVal} {l m : List α} (h : Is n f l) (h' : Is k g m) : Is (n + k) (appF n f g) (l ++ m) := by
 obtain ⟨h1, h2⟩ := h
 obtain ⟨h3, h4⟩ := h'
 subst h1 h3
 refine ⟨by simp, fun i hi => ?_⟩
 unfold appF LF
 by_cases hil : i < l.length
 ·rw [if_pos hil, h2 i hil, LF, List.getD_eq_getElem?_getD, List.getD_eq_getElem?_getD, List.getElem?_append_left hil]
 ·rw [if_neg hil, h4 _ (by omega), LF, List.getD_eq_getElem?_getD, List.getD_eq_getElem?_getD, List.getElem?_append_right (by omega)]
theorem map_eq_at {β γ : Type} {l : List β} {m : List γ} {δ : Type} {f : β → δ} {g : γ → δ} (h : l.map f = m.map g) (i : Nat) : (l[i]?).map f = (m[i]?).map g := by
 rw [← List.getElem?_map, ← List.getElem?_map, h]
theorem Is.lit {k : Nat} {g : Nat → List DVal} (ys : List α) (h : (List.range k).map g = ys.map Emb.cells) : Is k g ys := by
 have hl : k = ys.length := by simpa using congrArg List.length h
 refine ⟨hl, fun i hi => ?_⟩
 have := map_eq_at h i
 rw [List.getElem?_range hi, List.getElem?_eq_getElem (by omega)] at this
 simp only [Option.map_some, Option.some.injEq] at this
 rw [this, LF, List.getD_eq_getElem?_getD, List.getElem?_eq_getElem (by omega)]; rfl
theorem Is.set {n i : Nat} {f : Nat → List DVal} {l : List α} {off : Nat} {ds : List DVal} (h : Is n f l) (hi : i < n) (y : α) (hy : splice (f i) off ds = Emb.cells y) :
  Is n (fun j => if j = i then splice (f i) off ds else f j) (l.set i y) := by
 obtain ⟨h1, h2⟩ := h
 refine ⟨by simpa using h1, fun j hj => ?_⟩
 unfold LF
 rw [List.getD_eq_getElem?_getD]
 by_cases hji : j = i
 ·subst hji
  rw [if_pos rfl, hy, List.getElem?_set_self (by omega)]; rfl
 ·rw [if_neg hji, List.getElem?_set_ne (fun h => hji h.symm), h2 j hj, LF, List.getD_eq_getElem?_getD]
theorem Is.take {n : Nat} {f : Nat → List DVal} {l : List α} (h : Is n f l) {k : Int} (hk : k ≤ n) : Is k.toNat f (l.take k.toNat) := by
 obtain ⟨h1, h2⟩ := h
 refine ⟨by simp; omega, fun j hj => ?_⟩
 rw [h2 j (by omega), LF, LF, List.getD_eq_getElem?_getD, List.getD_eq_getElem?_getD, List.getElem?_take, if_pos hj]
theorem Is.rep {n : Nat} {z : List DVal} (hz : z = Emb.cells (Emb.d : α)) : Is n (fun _ => z) (List.replicate n (Emb.d : α)) := by
 refine ⟨by simp, fun j hj => ?_⟩
 rw [hz, LF, List.getD_eq_getElem?_getD, List.getElem?_replicate, if_pos hj]; rfl
theorem Is.len {n : Nat} {f : Nat → List DVal} {l : List α} (h : Is n f l) : ∀ j, j < n → (f j).length = Emb.es α := fun j hj => by rw [h.at_eq j hj]; exact Emb.len _
theorem DRep.is {w : World} {X : Nat → Prop} {v : Value} {n : Nat} {f : Nat → List DVal} {l : List α} (h : Is n f l) (hr : DRep w X v (.lst n f)) : DRep w X v (DL l) := by
 obtain ⟨h1, h2⟩ := h
 unfold DL
 cases hr with
 | nil a cap _ =>
  have : l.length = 0 := h1.symm
  rw [this]; exact .nil a cap _
 | lst b off n cap c e fz _ es g1 g2 g3 g4 g5 g6 =>
  rw [← h1]
  exact .lst b off n cap c e fz _ es g1 g2 g3 g4 (fun i hi => by rw [← h2 i hi]; exact g5 i hi) fun i j hi hj => by rw [← h2 i hi]; exact g6 i j hi hj
theorem OLe.is {n : Nat} {f : Nat → List DVal} {l : List α} (h : Is n f l) : OLe (.arr (Emb.es α) n f) (AO l) := by
 refine ⟨fun w X η C v hv => ?_, rfl, fun i hi => by cases hi⟩
 obtain ⟨h1, h2⟩ := h
 unfold AO
 cases hv with
 | nil ad es _ =>
  have : l.length = 0 := h1.symm
  rw [this]; exact .nil ad _ _
 | arr b n cap es c e _ g1 g2 g3 g4 g5 g6 g7 =>
  rw [← h1]
  exact .arr b n cap _ c e _ g1 g2 g3 g4 g5 (fun i hi => by rw [← h2 i hi]; exact g6 i hi) fun i j hi hj => by rw [← h2 i hi]; exact g7 i j hi hj
theorem sl_is (l : List α) (lo hi : Option Int) (h : (sl l.length (LF l) lo hi).2) : Is (sl l.length (LF l) lo hi).1.1 (sl l.length (LF l) lo hi).1.2
  (match lo, hi with | none, none => l | some a, none => l.drop a.toNat | none, some b => l.take b.toNat | some a, some b => (l.take b.toNat).drop a.toNat) := by
 cases lo with
 | none => cases hi with
  | none => exact .refl l
  | some b => exact (Is.refl l).take h.2
 | some a => cases hi with
  | none =>
   refine ⟨by simp [sl], fun i hi => ?_⟩
   simp only [sl, LF, List.getD_eq_getElem?_getD, List.getElem?_drop]
  | some b =>
   simp only [sl] at h
   refine ⟨by simp only [sl, List.length_drop, List.length_take]; omega, fun i hi => ?_⟩
   simp only [sl] at hi
   simp only [sl, LF, List.getD_eq_getElem?_getD, List.getElem?_drop, List.getElem?_take]
   rw [if_pos (by omega)]
end
def CLe (x y : CV) : Prop := (∀ w X η C v, CRep w X η C v x → CRep w X η C v y) ∧ ∀ i ∈ y.refs, i ∈ x.refs
theorem CLe.refl (x : CV) : CLe x x := ⟨fun _ _ _ _ _ h => h, fun _ h => h⟩
theorem CLe.lst {α : Type} [Emb α] {n : Nat} {f : Nat → List DVal} {l : List α} (h : Is n f l) : CLe (.d (.lst n f)) (.d (DL l)) :=
 ⟨fun w X η C v hv => by cases hv with | d _ _ hv => exact .d _ _ (hv.is h), fun i hi => by cases hi⟩
theorem CLe.fl {α : Type} [Emb α] {n : Nat} {f : Nat → List DVal} {l : List α} (h : Is n f l) : CLe (.fl n f) (.d (DL l)) :=
 ⟨fun w X η C v hv => by cases hv with | fl _ _ _ hv => exact .d _ _ (hv.is h), fun i hi => by cases hi⟩
theorem CLe.any (x : CV) (hx : ∀ w X η C v, CRep w X η C v x → v.oneCell' = true) : CLe x (.d .any) := ⟨fun w X η C v hv => .d _ _ (.any _ (hx w X η C v hv)), fun i hi => by cases hi⟩
def CLes : List CV → List CV → Prop
 | [], [] => True
 | x :: xs, y :: ys => CLe x y ∧ CLes xs ys
 | _, _ => False
theorem CLes.spec {xs ys : List CV} (h : CLes xs ys) : xs.length = ys.length ∧ (∀ j, CLe (xs.getD j (.d .any)) (ys.getD j (.d .any))) ∧ ∀ i ∈ ys.flatMap CV.refs, i ∈ xs.flatMap CV.refs := by
 induction xs generalizing ys with
 | nil => cases ys with
  | nil => exact ⟨rfl, fun j => CLe.refl _, fun i hi => hi⟩
  | cons y ys => exact h.elim
 | cons x xs ih => cases ys with
  | nil => exact h.elim
  | cons y ys =>
   obtain ⟨h1, h2⟩ := h
   obtain ⟨g1, g2, g3⟩ := ih h2
   refine ⟨by simp [g1], fun j => ?_, fun i hi => ?_⟩
   ·cases j with
    | zero => exact h1
    | succ j => exact g2 j
   ·simp only [List.flatMap_cons, List.mem_append] at hi ⊢
    rcases hi with hi | hi
    ·exact .inl (h1.2 i hi)
    ·exact .inr (g3 i hi)
theorem CLes.rep {xs ys : List CV} (h : CLes xs ys) {w : World} {X : Nat → Prop} {η : Nat → Value} {C : Ctx} {vs : Array Value} (hv : CsRep w X η C vs xs) : CsRep w X η C vs ys := by
 obtain ⟨g1, g2, _⟩ := h.spec
 exact ⟨hv.1.trans g1, fun j hj => (g2 j).1 _ _ _ _ _ (hv.2 j (by omega))⟩
def TLe (x y : TV) : Prop := (∀ w X η C v, TRep w X η C v x → TRep w X η C v y) ∧ ∀ i ∈ y.refs, i ∈ x.refs
theorem TLe.refl (x : TV) : TLe x x := ⟨fun _ _ _ _ _ h => h, fun _ h => h⟩
theorem TLe.c {x y : CV} (h : CLe x y) : TLe (.c x) (.c y) := ⟨fun w X η C v hv => by cases hv with | c _ _ hv => exact .c _ _ (h.1 _ _ _ _ _ hv), h.2⟩
theorem TLe.g {xs ys : List CV} (h : CLes xs ys) : TLe (.g xs) (.g ys) := ⟨fun w X η C v hv => by cases hv with | g _ _ hv => exact .g _ _ (h.rep hv), h.spec.2.2⟩
def TLes : List TV → List TV → Prop
 | [], [] => True
 | x :: xs, y :: ys => TLe x y ∧ TLes xs ys
 | _, _ => False
theorem TLes.spec {xs ys : List TV} (h : TLes xs ys) : xs.length = ys.length ∧ (∀ j, TLe (xs.getD j (.c (.d .any))) (ys.getD j (.c (.d .any)))) ∧ ∀ i ∈ ys.flatMap TV.refs, i ∈ xs.flatMap TV.refs := by
 induction xs generalizing ys with
 | nil => cases ys with
  | nil => exact ⟨rfl, fun j => TLe.refl _, fun i hi => hi⟩
  | cons y ys => exact h.elim
 | cons x xs ih => cases ys with
  | nil => exact h.elim
  | cons y ys =>
   obtain ⟨h1, h2⟩ := h
   obtain ⟨g1, g2, g3⟩ := ih h2
   refine ⟨by simp [g1], fun j => ?_, fun i hi => ?_⟩
   ·cases j with
    | zero => exact h1
    | succ j => exact g2 j
   ·simp only [List.flatMap_cons, List.mem_append] at hi ⊢
    rcases hi with hi | hi
    ·exact .inl (h1.2 i hi)
    ·exact .inr (g3 i hi)
theorem ALe.v {x y : TV} (h : TLe x y) : ALe (.v x) (.v y) := ⟨fun w X η C v hv => by cases hv with | v _ _ hv => exact .v _ _ (h.1 _ _ _ _ _ hv), h.2⟩
theorem ALe.c {x y : CV} (h : CLe x y) : ALe (.v (.c x)) (.v (.c y)) := .v (.c h)
theorem ALe.g {xs ys : List CV} (h : CLes xs ys) : ALe (.v (.g xs)) (.v (.g ys)) := .v (.g h)
theorem OLe.box {ro : Bool} {xs ys : List CV} (h : CLes xs ys) : OLe (.box ro xs) (.box ro ys) :=
 ⟨fun w X η C v hv => by cases hv with | box b _ c e _ h1 h2 => exact .box b ro c e _ h1 (h.rep h2), rfl, h.spec.2.2⟩
theorem ALe.lst {α : Type} [Emb α] {n : Nat} {f : Nat → List DVal} {l : List α} (h : Is n f l) : ALe (.v (.c (.d (.lst n f)))) (AL l) := .c (.lst h)
theorem ALe.fl {α : Type} [Emb α] {n : Nat} {f : Nat → List DVal} {l : List α} (h : Is n f l) : ALe (.v (.c (.fl n f))) (AL l) := .c (.fl h)
theorem ALe.bool {b c : Bool} (h : b = c) : ALe (vb b) (vb c) := .of_eq (congrArg vb h)
def FE : List (Nat × AVal) → List (Nat × AVal) → Prop
 | [], [] => True
 | (t, x) :: E, (u, y) :: E' => t = u ∧ ALe x y ∧ FE E E'
 | _, _ => False
def FSl : List (Nat × Obj) → List (Nat × Obj) → Prop
 | [], [] => True
 | (t, x) :: E, (u, y) :: E' => t = u ∧ OLe x y ∧ FSl E E'
 | _, _ => False
theorem FE.lk {E E' : List (Nat × AVal)} (h : FE E E') (t : Nat) : ALe (lk E t) (lk E' t) := by
 induction E generalizing E' with
 | nil => cases E' with
  | nil => exact ALe.refl _
  | cons p r => exact h.elim
 | cons p r ih => cases E' with
  | nil => exact h.elim
  | cons q s =>
   obtain ⟨h1, h2, h3⟩ := h
   have := ih h3
   unfold Ab.lk at this ⊢
   obtain ⟨u, x⟩ := p
   obtain ⟨u', y⟩ := q
   simp only at h1
   subst h1
   rw [List.lookup_cons, List.lookup_cons]
   cases htu : t == u with
   | true => exact h2
   | false => exact this
theorem FSl.ls {S S' : List (Nat × Obj)} (h : FSl S S') (i : Nat) (o' : Obj) (hi : ls S' i = some o') : ∃ o, ls S i = some o ∧ OLe o o' := by
 induction S generalizing S' with
 | nil => cases S' with
  | nil => cases hi
  | cons p r => exact h.elim
 | cons p r ih => cases S' with
  | nil => exact h.elim
  | cons q s =>
   obtain ⟨h1, h2, h3⟩ := h
   have := ih h3
   unfold Ab.ls at this hi ⊢
   obtain ⟨u, x⟩ := p
   obtain ⟨u', y⟩ := q
   simp only at h1
   subst h1
   rw [List.lookup_cons] at hi ⊢
   cases htu : i == u with
   | true => rw [htu] at hi; cases hi; exact ⟨x, rfl, h2⟩
   | false => rw [htu] at hi; exact this hi
section
variable {P : Program} {C : Ctx} {nt : Nat} {L : Lay} {pins : List Nat} {K : Act → World → Prop} {E : List (Nat × AVal)} {S : List (Nat × Obj)} {Q : Exit → Act → World → Prop}
theorem Kn.wk (E' : List (Nat × AVal)) (S' : List (Nat × Obj)) (hE : FE E E') (hS : FSl S S') (h : Kn C nt E' S' K) : Kn C nt E S K := by
 intro R η a w hc
 refine h R (fun i => η i) a w (hc.conv (fun i => i) (fun t => by rw [AVal.ren_id]; exact hE.lk t) (fun i x hi => ?_) (fun i j hi hj hij => hij) (fun u i hi => hc.er u i ((hE.lk u).2 i hi)) (fun i x hi => ?_) (fun i hi => ?_))
 ·rw [Obj.ren_id]; exact hS.ls i x hi
 ·obtain ⟨o, h1, h2⟩ := hS.ls i x hi
  have := hc.sr i o h1
  exact ⟨this.1, fun j hj => this.2 j (h2.2.2 j hj)⟩
 ·obtain ⟨v, hv⟩ := Option.ne_none_iff_exists'.1 hi
  exact ⟨rfl, (hc.pn i v hv).2⟩
theorem Fr.pinsB (Fm : Fr P L C pins) {ρ : List (Nat × Nat)} (h : pins.all (fun i => rhoL ρ i == i) = true) : pinsB C (rhoL ρ) := fun i hi => by
 have := List.all_eq_true.1 h i (Fm.pin i hi)
 simpa using this
theorem Kn.re (Fm : Fr P L C pins) (ρ : List (Nat × Nat)) (E' : List (Nat × AVal)) (S' : List (Nat × Obj)) (hp : pins.all (fun i => rhoL ρ i == i) = true) (hE : E'.map (fun p => lk E p.1) = E'.map (fun p => p.2.ren (rhoL ρ)))
  (hS : S'.map (fun p => ls S (rhoL ρ p.1)) = S'.map (fun p => some (p.2.ren (rhoL ρ)))) (hinj : nodupB (S'.map fun p => rhoL ρ p.1) = true) (h : Kn C nt E' S' K) : Kn C nt E S K :=
 Kn.to ρ (Fm.pinsB hp) hE hS hinj h
def CV.frz (k n : Nat) (f : Nat → List DVal) : CV → CV
 | .own i => if i = k then .d (.lst n f) else .own i
 | .ap i => if i = k then .d (.lst n f) else .ap i
 | x => x
def TV.frz (k n : Nat) (f : Nat → List DVal) : TV → TV
 | .c x => .c (x.frz k n f)
 | .g xs => .g (xs.map (CV.frz k n f))
def AVal.frz (k n : Nat) (f : Nat → List DVal) : AVal → AVal
 | .any => .any
 | .v x => .v (x.frz k n f)
 | .t xs => .t (xs.map (TV.frz k n f))
def Obj.frz (k n : Nat) (f : Nat → List DVal) : Obj → Obj
 | .box ro cs => .box ro (cs.map (CV.frz k n f))
 | o => o
end
section
variable {w : World} {X X' : Nat → Prop} {η : Nat → Value} {C : Ctx} {k n : Nat} {f : Nat → List DVal}
theorem CRep.frz {v : Value} {x : CV} (h : CRep w X η C v x) (hX : ∀ b, ¬ X b → ¬ X' b) (hk : DRep w X' (η k) (.lst n f)) : CRep w X' η C v (x.frz k n f) := by
 have hm : ∀ b, b < w.heap.size → ¬ X b → w.heap[b]? = w.heap[b]? ∧ ¬ X' b := fun b _ hb => ⟨rfl, hX b hb⟩
 cases h with
 | d _ _ h => exact .d _ _ (h.mono hm)
 | fl _ _ _ h => exact .fl _ _ _ (h.mono hm)
 | own _ i h h1 =>
  simp only [CV.frz]
  split
  ·rename_i hi; subst hi; rw [h]; exact .d _ _ hk
  ·exact .own _ _ h h1
 | ptr _ _ _ h => exact .ptr _ _ _ h
 | pte _ _ _ _ _ _ _ h => exact .pte _ _ _ _ _ _ _ h
 | sub b N cap _ es lo n h h1 h2 => exact .sub b N cap _ es lo n h h1 h2
 | subN ad ad' N _ es h => exact .subN ad ad' N _ es h
 | elm b off c e fz cs h1 h2 h3 h4 => exact .elm b off c e fz cs (hX _ h1) h2 h3 fun j hj => (h4 j hj).mono hm
 | clo _ _ _ h => exact .clo _ _ _ h
 | sem _ _ h h1 => exact .sem _ _ h h1
 | ap v i h h1 =>
  simp only [CV.frz]
  split
  ·rename_i hi
   subst hi
   rcases h with h | h | ⟨l, h⟩
   ·rw [← h]; exact .d _ _ hk
   ·rw [h] at hk; cases hk
   ·rw [h] at hk; cases hk
  ·exact .ap _ _ h h1
theorem CsRep.frz {vs : Array Value} {cs : List CV} (h : CsRep w X η C vs cs) (hX : ∀ b, ¬ X b → ¬ X' b) (hk : DRep w X' (η k) (.lst n f)) : CsRep w X' η C vs (cs.map (CV.frz k n f)) := by
 refine ⟨by simpa using h.1, fun j hj => ?_⟩
 have hj' : j < cs.length := by simpa using hj
 have := (h.2 j hj').frz hX hk
 rw [List.getD_eq_getElem?_getD, List.getElem?_map, List.getElem?_eq_getElem hj']
 rw [List.getD_eq_getElem?_getD, List.getElem?_eq_getElem hj'] at this
 exact this
theorem TRep.frz {v : Value} {x : TV} (h : TRep w X η C v x) (hX : ∀ b, ¬ X b → ¬ X' b) (hk : DRep w X' (η k) (.lst n f)) : TRep w X' η C v (x.frz k n f) := by
 cases h with
 | c _ _ h => exact .c _ _ (h.frz hX hk)
 | g _ _ h => exact .g _ _ (h.frz hX hk)
theorem ARep.frz {v : Value} {x : AVal} (h : ARep w X η C v x) (hX : ∀ b, ¬ X b → ¬ X' b) (hk : DRep w X' (η k) (.lst n f)) : ARep w X' η C v (x.frz k n f) := by
 cases h with
 | any => exact .any v
 | v _ _ h => exact .v _ _ (h.frz hX hk)
 | t us xs h1 h2 =>
  refine .t us _ (by simpa using h1) fun j hj => ?_
  have hj' : j < xs.length := by simpa using hj
  have := (h2 j hj').frz hX hk
  rw [List.getD_eq_getElem?_getD, List.getElem?_map, List.getElem?_eq_getElem hj']
  rw [List.getD_eq_getElem?_getD, List.getElem?_eq_getElem hj'] at this
  exact this
theorem ORep.frz {v : Value} {o : Obj} (h : ORep w X η C v o) (hX : ∀ b, ¬ X b → ¬ X' b) (hk : DRep w X' (η k) (.lst n f)) : ORep w X' η C v (o.frz k n f) := by
 cases h with
 | box b ro c e cs h1 h2 => exact .box b ro c e _ h1 (h2.frz hX hk)
 | nil ad es f => exact .nil ad es f
 | arr b n cap es c e f h1 h2 h3 h4 h5 h6 h7 => exact .arr b n cap es c e f h1 h2 h3 h4 h5 h6 fun i j hi hj => (h7 i j hi hj).mono fun b _ hb => ⟨rfl, hX b hb⟩
 | ext _ p h1 h2 h3 => exact .ext _ p (h2 w w X X' (fun b _ hb => ⟨rfl, hX b hb⟩) (fun _ _ => rfl) h1) h2 h3
theorem refs_sub_flat {α β : Type} {fr : α → List Nat} {gr : β → List Nat} {g : α → β} {l : List α} (h : ∀ x, ∀ j ∈ gr (g x), j ∈ fr x) : ∀ j ∈ (l.map g).flatMap gr, j ∈ l.flatMap fr := by
 intro j hj
 obtain ⟨y, hy, hj⟩ := List.mem_flatMap.1 hj
 obtain ⟨x, hx, rfl⟩ := List.mem_map.1 hy
 exact List.mem_flatMap.2 ⟨x, hx, h x j hj⟩
theorem CV.frz_refs (x : CV) : ∀ j ∈ (x.frz k n f).refs, j ∈ x.refs := by
 cases x <;> simp only [CV.frz] <;> try exact fun j hj => hj
 all_goals
  split
  ·intro j hj; cases hj
  ·exact fun j hj => hj
theorem TV.frz_refs (x : TV) : ∀ j ∈ (x.frz k n f).refs, j ∈ x.refs := by
 cases x with
 | c x => exact CV.frz_refs x
 | g xs => exact refs_sub_flat CV.frz_refs
theorem AVal.frz_refs (x : AVal) : ∀ j ∈ (x.frz k n f).refs, j ∈ x.refs := by
 cases x with
 | any => exact fun j hj => hj
 | v x => exact TV.frz_refs x
 | t xs => exact refs_sub_flat TV.frz_refs
theorem Obj.frz_refs (o : Obj) : ∀ j ∈ (o.frz k n f).refs, j ∈ o.refs := by
 cases o with
 | box ro cs => exact refs_sub_flat CV.frz_refs
 | arr es n f => exact fun j hj => hj
 | ext p => exact fun j hj => hj
end
end Go.Ab
end

section
namespace Go.Ab
section
variable {P : Program} {C : Ctx} {nt : Nat} {L : Lay} {pins : List Nat} {K : Act → World → Prop} {E : List (Nat × AVal)} {S : List (Nat × Obj)} {Q : Exit → Act → World → Prop}
theorem lk_map {g : AVal → AVal} (hg : g .any = .any) (E : List (Nat × AVal)) (t : Nat) : lk (E.map fun p => (p.1, g p.2)) t = g (lk E t) := by
 unfold lk
 induction E with
 | nil => exact hg.symm
 | cons p r ih =>
  rw [List.map_cons, List.lookup_cons, List.lookup_cons]
  cases htp : t == p.1 with
  | true => rfl
  | false => exact ih
theorem ls_map {g : Obj → Obj} (S : List (Nat × Obj)) (i : Nat) : ls (S.map fun p => (p.1, g p.2)) i = (ls S i).map g := by
 unfold ls
 induction S with
 | nil => rfl
 | cons p r ih =>
  rw [List.map_cons, List.lookup_cons, List.lookup_cons]
  cases htp : i == p.1 with
  | true => rfl
  | false => exact ih
theorem Kn.frz {k es n : Nat} {f : Nat → List DVal} (E' : List (Nat × AVal)) (S' : List (Nat × Obj)) (hE : E.map (fun p => (p.1, p.2.frz k n f)) = E') (hS : S.map (fun p => (p.1, p.2.frz k n f)) = S') (hk : (S.map (·.1)).contains k = false)
  (h : Kn C nt E' S' K) : Kn C nt E ((k, .arr es n f) :: S) K := by
 subst hE hS
 intro R η a w hc
 have hks : ls ((k, .arr es n f) :: S) k = some (.arr es n f) := by unfold ls; rw [List.lookup_cons]; simp
 have hkS : ls S k = none := by
  cases ho : ls S k with
  | none => rfl
  | some o =>
   have : k ∈ S.map (·.1) := List.mem_map.2 ⟨_, ls_mem ho, rfl⟩
   rw [List.contains_iff_mem.2 this] at hk
   cases hk
 have hsub : ∀ i o, ls S i = some o → ls ((k, .arr es n f) :: S) i = some o ∧ i ≠ k := by
  intro i o hi
  have hne : i ≠ k := by intro h; rw [h, hkS] at hi; cases hi
  refine ⟨?_, hne⟩
  unfold ls; rw [List.lookup_cons]
  have : (i == k) = false := by simpa using hne
  rw [this]; exact hi
 have hown : ∀ b, Own (ls (S.map fun p => (p.1, p.2.frz k n f))) η b → Own (ls S) η b := by
  rintro b ⟨i, o', hi, hib⟩
  rw [ls_map] at hi
  cases ho : ls S i with
  | none => rw [ho] at hi; cases hi
  | some o => exact ⟨i, o, ho, hib⟩
 have hX : ∀ b, ¬ XS C (ls ((k, .arr es n f) :: S)) η b → ¬ XS C (ls (S.map fun p => (p.1, p.2.frz k n f))) η b := by
  intro b hb hb'
  rcases hb' with hx | hx
  ·exact hb (.inl hx)
  ·obtain ⟨i, o, hi, hib⟩ := hown b hx
   exact hb (.inr ⟨i, o, (hsub i o hi).1, hib⟩)
 have hm : ∀ b, b < w.heap.size → ¬ XS C (ls ((k, .arr es n f) :: S)) η b → w.heap[b]? = w.heap[b]? ∧ ¬ XS C (ls (S.map fun p => (p.1, p.2.frz k n f))) η b := fun b _ hb => ⟨rfl, hX b hb⟩
 have hkb : ∀ b, b ∈ blks (η k) → ¬ XS C (ls (S.map fun p => (p.1, p.2.frz k n f))) η b := by
  intro b hb hx
  rcases hx with ⟨hx, hD⟩ | hx
  ·rcases hc.ow k _ b hks hb with ⟨hro, _⟩ | hM | hf
   ·cases hro
   ·exact hD (hc.ok.md b hM)
   ·have := hc.ok.lt b hx; omega
  ·obtain ⟨i, o, hi, hib⟩ := hown b hx
   obtain ⟨h1, h2⟩ := hsub i o hi
   exact h2 (hc.ds i k b (by rw [h1]; simp) (by rw [hks]; simp) hib hb)
 have hkd : DRep w (XS C (ls (S.map fun p => (p.1, p.2.frz k n f))) η) (η k) (.lst n f) := by
  have := hc.st k _ hks
  generalize hu : η k = u at this hkb
  cases this with
  | nil ad es f => exact .nil ad 0 f
  | arr b n cap es c e f h1 h2 h3 h4 h5 h6 h7 =>
   have hb : ¬ XS C (ls (S.map fun p => (p.1, p.2.frz k n f))) η b := hkb b (by simp [blks]; omega)
   refine .lst b 0 n cap c e _ f es hb h1 h3 (by rw [h2, Nat.zero_add]; exact Nat.mul_le_mul_right _ h3) h6 fun i j hi hj => ?_
   rw [Nat.zero_add]
   exact (h7 i j hi hj).mono hm
 refine h R η a w ⟨hc.ok, hc.df, hc.sz, fun t => ?_, fun t i hi => ?_, fun i o' hi => ?_, fun i o' hi => ?_, fun i j b hi hj => ?_, fun i o' b hi => ?_, hc.fr, hc.pn⟩
 ·rw [lk_map (g := AVal.frz k n f) rfl]
  exact (hc.ev t).frz hX hkd
 ·rw [lk_map (g := AVal.frz k n f) rfl] at hi
  exact hc.er t i (AVal.frz_refs _ i hi)
 ·rw [ls_map] at hi
  cases ho : ls S i with
  | none => rw [ho] at hi; cases hi
  | some o =>
   rw [ho] at hi; cases hi
   exact (hc.st i o (hsub i o ho).1).frz hX hkd
 ·rw [ls_map] at hi
  cases ho : ls S i with
  | none => rw [ho] at hi; cases hi
  | some o =>
   rw [ho] at hi; cases hi
   have := hc.sr i o (hsub i o ho).1
   exact ⟨this.1, fun j hj => this.2 j (Obj.frz_refs o j hj)⟩
 ·have hne : ∀ i, ls (S.map fun p => (p.1, p.2.frz k n f)) i ≠ none → ls ((k, .arr es n f) :: S) i ≠ none := by
   intro i hi hn
   apply hi
   rw [ls_map]
   cases ho : ls S i with
   | none => rfl
   | some o => rw [(hsub i o ho).1] at hn; cases hn
  exact hc.ds i j b (hne i hi) (hne j hj)
 ·rw [ls_map] at hi
  cases ho : ls S i with
  | none => rw [ho] at hi; cases hi
  | some o =>
   rw [ho] at hi; cases hi
   have hro : (o.frz k n f).ro = o.ro := by cases o <;> rfl
   rw [hro]
   exact hc.ow i o b (hsub i o ho).1
def gd {R : Type} (p : Prop) [Decidable p] (x : Option R) : Option R := if p then x else none
theorem gd_some {R : Type} {p : Prop} [Decidable p] {x : Option R} {r : R} (h : gd p x = some r) : p ∧ x = some r := by
 unfold gd at h
 split at h
 ·exact ⟨‹_›, h⟩
 ·cases h
theorem bd_some {α R : Type} {x : Option α} {f : α → Option R} {r : R} (h : x.bind f = some r) : ∃ z, x = some z ∧ f z = some r := by
 cases x with
 | none => cases h
 | some z => exact ⟨z, rfl, h⟩
def br {R : Type} (b : Bool) (x y : Option R) : Option R := match b with | true => x | false => y
theorem br_t {R : Type} {b : Bool} {x y : Option R} {r : R} (h : br b x y = some r) (hb : b = true) : x = some r := by subst hb; exact h
theorem br_f {R : Type} {b : Bool} {x y : Option R} {r : R} (h : br b x y = some r) (hb : b = false) : y = some r := by subst hb; exact h
def loopN {σ R : Type} (body : (σ → Option R) → σ → Option R) : Nat → σ → Option R
 | 0, _ => none
 | n + 1, z => body (loopN body n) z
theorem AW.join {σ R : Type} {r : R} {x y : Code} (f : σ → Option R) (E' : σ → List (Nat × AVal)) (S' : σ → List (Nat × Obj)) (hy : ∀ z, f z = some r → AW P C nt y (E' z) (S' z) Q)
  (hx : ∀ J : Act → World → Prop, (∀ z, f z = some r → Kn C nt (E' z) (S' z) J) → AW P C nt x E S (Exit.then J Q)) : AW P C nt (.seq x y) E S Q :=
 AW.seq (hx _ fun z hz => hy z hz)
theorem AW.loopF {σ R : Type} {r : R} {c : Code} {body : (σ → Option R) → σ → Option R} (E' : σ → List (Nat × AVal)) (S' : σ → List (Nat × Obj))
  (round : ∀ (again : σ → Option R) (z : σ) (J : Act → World → Prop), (∀ z', again z' = some r → Kn C nt (E' z') (S' z') J) → body again z = some r → AW P C nt c (E' z) (S' z) (Exit.then J Q))
  {n : Nat} {z0 : σ} (h : loopN body n z0 = some r) : AW P C nt (.loop c) (E' z0) (S' z0) Q := by
 refine AW.loop (σ := Nat × σ) (fun p => loopN body p.1 p.2 = some r) (fun p => p.1) (fun p => E' p.2) (fun p => S' p.2) (fun p hp => ?_) (n, z0) h
 obtain ⟨m, z⟩ := p
 cases m with
 | zero => cases hp
 | succ m =>
  refine round (loopN body m) z _ (fun z' hz' => ?_) hp
  exact Kn.ex (I := fun p : Nat × σ => loopN body p.1 p.2 = some r ∧ p.1 < m + 1) (E' := fun p => E' p.2) (S' := fun p => S' p.2) (m, z') ⟨hz', Nat.lt_succ_self m⟩
def arunE (L : Lay) (ops : Array Oper) : List Oper → List Dir → Env → Sto → Nat → Env
 | o :: os, d :: ds, e, s, k + 1 => arunE L ops os ds (setE o.dst (stepF L ops o d e s).v e) (upS (stepF L ops o d e s).l s) k
 | _, _, e, _, _ => e
def arunS (L : Lay) (ops : Array Oper) : List Oper → List Dir → Env → Sto → Nat → Sto
 | o :: os, d :: ds, e, s, k + 1 => arunS L ops os ds (setE o.dst (stepF L ops o d e s).v e) (upS (stepF L ops o d e s).l s) k
 | _, _, _, s, _ => s
def opAt : List Oper → Nat → Oper
 | [], _ => default
 | o :: _, 0 => o
 | _ :: os, k + 1 => opAt os k
def dirAt : List Dir → Nat → Array Oper → Oper → Env → Eff
 | .k f :: _, 0 => f
 | _ :: ds, k + 1 => dirAt ds k
 | _, _ => fun _ _ _ => default
def KAt (P : Program) (C : Ctx) (nt : Nat) (L : Lay) (ops : Array Oper) (ds : List Dir) (e : Env) (s : Sto) (k : Nat) : Prop :=
 StT P C nt ops (opAt ops.toList k) (dirAt ds k ops (opAt ops.toList k) (arunE L ops ops.toList ds e s k)) (arunE L ops ops.toList ds e s k) (arunS L ops ops.toList ds e s k)
theorem AW.regc (Fm : Fr P L C pins) {id : Nat} {ops : Array Oper} {draw : Bool} (ds : List Dir) (ρ : List (Nat × Nat)) (c : (Nat → Prop) → Prop) (E' : List (Nat × AVal)) (S' : List (Nat × Obj)) (hc : c (KAt P C nt L ops ds (lk E) (ls S)))
  (hchk : chkB L pins nt ops draw ds E S ρ S' = true) (hC : arunC P C nt L ops ops.toList ds (lk E) (ls S) = c (KAt P C nt L ops ds (lk E) (ls S)))
  (he0 : E'.map (fun p => endE ops.toList (arunF L ops ops.toList ds (lk E) (ls S)) (lk E) p.1) = E'.map (fun p => p.2.ren (rhoL ρ)))
  (hs0 : S'.map (fun p => endS (arunF L ops ops.toList ds (lk E) (ls S)) (ls S) (rhoL ρ p.1)) = S'.map (fun p => some (p.2.ren (rhoL ρ))))
  (k : Kn C nt E' S' (Q .normal)) : AW P C nt (.region id ops draw) E S Q := AW.region Fm ds ρ hchk (hC ▸ hc) he0 hs0 k
end
end Go.Ab
end

section
namespace Go.Ab
def isCall (o : Oper) : Bool := match o.op with | .call { callee := .value _, .. } => true | _ => false
def callX (o : Oper) : Operand := match o.op with | .call { callee := .value fx, .. } => fx | _ => .const undef
def callXs (o : Oper) : Array Operand := match o.op with | .call { callee := .value _, args, .. } => args | _ => #[]
theorem isCall_ok {o : Oper} (h : isCall o = true) : ∃ tys, o.op = .call { callee := .value (callX o), args := callXs o, argTypes := tys } := by
 unfold isCall at h
 split at h
 ·rename_i fx xs tys hop
  exact ⟨tys, by simp only [callX, callXs, hop]⟩
 ·cases h
def cE (m : List (Nat × Nat)) (extra : List Nat) (r : AVal) (Si So : List (Nat × Obj)) : Array Oper → Oper → Env → Eff := fun ops o e => callEff ops o e (rhoL m) extra r Si So
def sE (r : AVal) : Array Oper → Oper → Env → Eff := fun ops o e => semEff ops o e r
def ArgsT (C : Ctx) (nt : Nat) (e : Env) (s : Sto) (Si : List (Nat × Obj)) (m : Nat → Nat) (rd ids : List Nat) : List Operand → List AVal → Prop
 | [], [] => True
 | x :: xs, y :: ys => ArgT C nt e s Si m rd ids x y ∧ ArgsT C nt e s Si m rd ids xs ys
 | _, _ => False
theorem ArgsT.spec {C : Ctx} {nt : Nat} {e : Env} {s : Sto} {Si : List (Nat × Obj)} {m : Nat → Nat} {rd ids : List Nat} {xs : List Operand} {ys : List AVal} (h : ArgsT C nt e s Si m rd ids xs ys) :
  xs.length = ys.length ∧ ∀ j, j < ys.length → ArgT C nt e s Si m rd ids (xs.getD j (.const undef)) (ys.getD j .any) := by
 induction xs generalizing ys with
 | nil => cases ys with
  | nil => exact ⟨rfl, fun j hj => by simp at hj⟩
  | cons y ys => exact h.elim
 | cons x xs ih => cases ys with
  | nil => exact h.elim
  | cons y ys =>
   obtain ⟨h1, h2⟩ := h
   obtain ⟨g1, g2⟩ := ih h2
   refine ⟨by simp [g1], fun j hj => ?_⟩
   cases j with
   | zero => exact h1
   | succ j => exact g2 j (by simpa using hj)
theorem ArgsT.plains {C : Ctx} {nt : Nat} {e : Env} {s : Sto} {Si : List (Nat × Obj)} {m : Nat → Nat} {rd ids : List Nat} : ∀ {xs : List Operand} {ys : List AVal}, xs.all (rdOk rd) = true → ys.all AVal.noSem = true → xs.map (aev e) = ys.map (AVal.ren m) → ArgsT C nt e s Si m rd ids xs ys
 | [], [], _, _, _ => trivial
 | [], _ :: _, _, _, h => by cases h
 | _ :: _, [], _, _, h => by cases h
 | x :: xs, y :: ys, h1, h2, h3 => by
  simp only [List.all_cons, Bool.and_eq_true] at h1 h2
  simp only [List.map_cons, List.cons.injEq] at h3
  exact ⟨ArgT.plain h1.1 (ALe.of_eq h3.1) h2.1, ArgsT.plains h1.2 h2.2 h3.2⟩
def isClo0 (f : Nat) : AVal → Bool
 | .v (.c (.clo g [])) => g == f
 | _ => false
theorem isClo0_ok {f : Nat} {x : AVal} (h : isClo0 f x = true) : x = .v (.c (.clo f [])) := by
 unfold isClo0 at h
 split at h
 ·rename_i g; simp at h; rw [h]
 ·cases h
def callB (ops : Array Oper) (nt : Nat) (e : Env) (o : Oper) (f : Nat) (m : List (Nat × Nat)) (r : AVal) (Si So : List (Nat × Obj)) : Bool :=
 isCall o && isClo0 f (aev e (callX o)) && rdOk (tmpsOf o ++ guardTmp ops o) (callX o) && callChk (rhoL m) r Si So && dstOk nt o && (gval ops e o == some true)
section
variable {P : Program} {C : Ctx} {nt : Nat} {L : Lay} {ops : Array Oper} {ds : List Dir} {e : Env} {s : Sto}
theorem KAt.callG {k : Nat} {f : Nat} {args : List AVal} {Si : List (Nat × Obj)} {r : AVal} {So : List (Nat × Obj)} (hspec : FSpec P f args Si r So) (hcall : ∀ args w, (callFunc f args).run P w = .ok (.enter f args) w) (m : List (Nat × Nat)) (extra : List Nat)
  (hk : dirAt ds k = cE m extra r Si So) (hb : callB ops nt (arunE L ops ops.toList ds e s k) (opAt ops.toList k) f m r Si So = true)
  (hsi : Si.map (fun p => arunS L ops ops.toList ds e s k (rhoL m p.1)) = Si.map (fun p => some (p.2.ren (rhoL m))))
  (hargs : ArgsT C nt (arunE L ops ops.toList ds e s k) (arunS L ops ops.toList ds e s k) Si (rhoL m) (tmpsOf (opAt ops.toList k) ++ guardTmp ops (opAt ops.toList k)) (idsOf (arunE L ops ops.toList ds e s k) (opAt ops.toList k) ++ (Si.map (fun p => rhoL m p.1) ++ extra))
   (callXs (opAt ops.toList k)).toList args) : KAt P C nt L ops ds e s k := by
 unfold KAt
 rw [hk]
 simp only [callB, Bool.and_eq_true] at hb
 obtain ⟨⟨⟨⟨⟨b1, b2⟩, b3⟩, b4⟩, b5⟩, b6⟩ := hb
 obtain ⟨tys, hop⟩ := isCall_ok b1
 obtain ⟨g1, g2⟩ := hargs.spec
 exact stT_call hcall hop (isClo0_ok b2) b3 hspec (by simpa using g1) (rhoL m) extra (fun j hj => g2 j hj) (fun p hp => ⟨_, forall_of_map hsi p hp, OLe.refl _⟩) b4 b5 (by simpa using b6)
theorem KAt.call {k : Nat} {f : Nat} {args : List AVal} {Si : List (Nat × Obj)} {r : AVal} {So : List (Nat × Obj)} (hspec : FSpec P f args Si r So) (hcall : ∀ args w, (callFunc f args).run P w = .ok (.enter f args) w) (m : List (Nat × Nat))
  (hk : dirAt ds k = cE m [] r Si So) (hb : callB ops nt (arunE L ops ops.toList ds e s k) (opAt ops.toList k) f m r Si So = true)
  (hsi : Si.map (fun p => arunS L ops ops.toList ds e s k (rhoL m p.1)) = Si.map (fun p => some (p.2.ren (rhoL m))))
  (hrd : ((callXs (opAt ops.toList k)).toList.all (rdOk (tmpsOf (opAt ops.toList k) ++ guardTmp ops (opAt ops.toList k))) && args.all AVal.noSem) = true)
  (hargs : (callXs (opAt ops.toList k)).toList.map (aev (arunE L ops ops.toList ds e s k)) = args.map (AVal.ren (rhoL m))) : KAt P C nt L ops ds e s k := by
 rw [Bool.and_eq_true] at hrd
 exact KAt.callG hspec hcall m [] hk hb hsi (ArgsT.plains hrd.1 hrd.2 hargs)
def semB (ops : Array Oper) (nt : Nat) (e : Env) (o : Oper) (args : List AVal) (r : AVal) : Bool :=
 isCall o && rdOk (tmpsOf o ++ guardTmp ops o) (callX o) && (callXs o).toList.all (rdOk (tmpsOf o ++ guardTmp ops o)) && args.all AVal.closed && r.closed && dstOk nt o && (gval ops e o == some true)
theorem KAt.sem {k : Nat} {F : List AVal → AVal → Prop} {args : List AVal} {r : AVal} (hF : F args r) (hk : dirAt ds k = sE r) (hb : semB ops nt (arunE L ops ops.toList ds e s k) (opAt ops.toList k) args r = true)
  (hfx : aev (arunE L ops ops.toList ds e s k) (callX (opAt ops.toList k)) = vclo P F)
  (hargs : (callXs (opAt ops.toList k)).toList.map (aev (arunE L ops ops.toList ds e s k)) = args) : KAt P C nt L ops ds e s k := by
 unfold KAt
 rw [hk]
 simp only [semB, Bool.and_eq_true] at hb
 obtain ⟨⟨⟨⟨⟨⟨b1, b2⟩, b3⟩, b4⟩, b5⟩, b6⟩, b7⟩ := hb
 obtain ⟨tys, hop⟩ := isCall_ok b1
 have hl : (callXs (opAt ops.toList k)).size = args.length := by rw [← hargs]; simp
 refine stT_callSem hop hfx hF hl ⟨b2, fun x hx => List.all_eq_true.1 b3 x hx⟩ (fun j hj => ?_) b5 b6 (by simpa using b7)
 have hj' : j < (callXs (opAt ops.toList k)).toList.length := by simpa [hl] using hj
 have e1 : aev (arunE L ops ops.toList ds e s k) ((callXs (opAt ops.toList k)).toList.getD j (.const undef)) = args.getD j .any := by
  rw [← hargs]
  simp only [List.getD_eq_getElem?_getD, List.getElem?_map, List.getElem?_eq_getElem hj', Option.map_some, Option.getD_some]
 exact ⟨ALe.of_eq e1, List.all_eq_true.1 b4 _ (getD_mem hj)⟩
end
end Go.Ab
end

section
namespace Go.Ab
instance (n : Int) : Decidable (I64 n) := inferInstanceAs (Decidable (_ ∧ _))
def gl {α : Type} [Emb α] (l : List α) (i : Nat) : α := l.getD i Emb.d
def litF (es : Nat) (ds : List DVal) (i : Nat) : List DVal := (ds.drop (i * es)).take es
theorem toNat_lt {i : Int} {n : Nat} (h : 0 ≤ i ∧ i < (n : Int)) : i.toNat < n := by omega
theorem FE.refl : ∀ E : List (Nat × AVal), FE E E
 | [] => trivial
 | (_, _) :: E => ⟨rfl, ALe.refl _, FE.refl E⟩
theorem FSl.refl : ∀ S : List (Nat × Obj), FSl S S
 | [] => trivial
 | (_, _) :: S => ⟨rfl, OLe.refl _, FSl.refl S⟩
instance : Emb Int := ⟨fun x => [.int .i64 x], 1, 0, fun _ => rfl⟩
instance : Emb Bool := ⟨fun x => [.bool x], 1, false, fun _ => rfl⟩
instance : Emb ByteArray := ⟨fun x => [.str x], 1, ByteArray.empty, fun _ => rfl⟩
instance {α : Type} [Emb α] : Emb (List α) := ⟨fun x => [DL x], 1, [], fun _ => rfl⟩
end Go.Ab
end

section
namespace Go.Ab
section
variable {P : Program} {C : Ctx} {nt : Nat} {L : Lay} {ops : Array Oper} {ds : List Dir} {e : Env} {s : Sto}
theorem stT_pure {o : Oper} {r : AVal} (hr : r.refs = []) (hdo : dstOk nt o = true) (hg : gval ops e o = some true)
  (hex : ∀ (R : Nat → Prop) (η : Nat → Value) (e0 : Env) (s0 : Sto) (a : Act) (w : World), (∀ t ∈ tmpsOf o ++ guardTmp ops o, e0 t = e t) → Conc C nt R η e0 s0 a w → ∃ v, (execOp a.eval o).run P w = .ok (.value v) w ∧ ARep w (XS C s0 η) η C v r) :
  StT P C nt ops o (semEff ops o e r) e s := by
 intro R η e0 s0 a w hrd hids hfr hc K Q hK
 have hw := wanted_of (e := e) hc (fun t ht => hrd t (List.mem_append.2 (.inr ht))) hg
 rw [if_pos hw]
 obtain ⟨v, hv, hrep⟩ := hex R η e0 s0 a w hrd hc
 unfold Oper.wp
 rw [hv]
 show K (a.put o.dst v) w
 refine hK η _ w ?_
 have := hc.val o.dst (dst_lt hdo) r v fun _ => ⟨hrep, fun j hj => by rw [hr] at hj; cases hj⟩
 have hu : upS (semEff ops o e r).l s0 = s0 := by funext i; rfl
 rw [hu]
 have he : setE o.dst (semEff ops o e r).v e0 = SR.env { v := r } o.dst e0 := rfl
 rw [he]
 exact this.wider fun i hi => .inl hi
def eqK (d : TypeDesc) (x y : CV) : Option Bool :=
 match d, x, y with
 | .int _, .d (.int k a), .d (.int k' b) => if k = k' then some (a == b) else none
 | .bool, .d (.bool a), .d (.bool b) => some (a == b)
 | _, _, _ => none
def eqFl (P : Program) (xs ys : List CV) : List Field → Option Bool
 | [] => some true
 | f :: fs => if f.name = "_" then none else match P.underlying f.type, xs[f.offset]?, ys[f.offset]?, eqFl P xs ys fs with
  | some d, some x, some y, some c => match eqK d x y with
   | some b => some (b && c)
   | none => none
  | _, _, _, _ => none
theorem eqK_ok {w w1 : World} {X : Nat → Prop} {η : Nat → Value} {d : TypeDesc} {x y : CV} {b : Bool} (h : eqK d x y = some b) {u v : Value} (hu : CRep w X η C u x) (hv : CRep w X η C v y) {t : TypeId} (ht : P.underlying t = some d) (n : Nat) :
  (isAgg t).run P w1 = .ok false w1 ∧ (Op.equalIn (n + 1) t u v).run P w1 = .ok b w1 := by
 unfold eqK at h
 split at h
 ·split at h
  ·cases h
   rename_i hk
   subst hk
   cases hu with | d _ _ hu => cases hu with | int =>
   cases hv with | d _ _ hv => cases hv with | int =>
   exact ⟨by simp [isAgg, run_underlying ht], run_equalIn_int _ _ _ _ _ _ _ ht⟩
  ·cases h
 ·cases h
  cases hu with | d _ _ hu => cases hu with | bool =>
  cases hv with | d _ _ hv => cases hv with | bool =>
  exact ⟨by simp [isAgg, run_underlying ht], run_equalIn_bool' _ _ _ _ _ ht⟩
 ·cases h
theorem csrep_at {w : World} {X : Nat → Prop} {η : Nat → Value} {vs : Array Value} {xs : List CV} (h : CsRep w X η C vs xs) {j : Nat} {x : CV} (hx : xs[j]? = some x) : ∃ v, vs[j]? = some v ∧ CRep w X η C v x := by
 have hj : j < xs.length := (List.getElem?_eq_some_iff.1 hx).1
 have hj' : j < vs.size := by rw [h.1]; exact hj
 refine ⟨vs[j], Array.getElem?_eq_getElem hj', ?_⟩
 have := h.2 j hj
 rw [List.getD_eq_getElem?_getD, hx] at this
 simpa [Array.getD_eq_getD_getElem?, Array.getElem?_eq_getElem hj'] using this
theorem eqFl_ok {w : World} {X : Nat → Prop} {η : Nat → Value} {xs ys : List CV} {us vs : Array Value} (hu : CsRep w X η C us xs) (hv : CsRep w X η C vs ys) (n : Nat) (w1 : World) : ∀ (fs : List Field) (b : Bool), eqFl P xs ys fs = some b → (Op.eqFields (n + 1) us vs fs).run P w1 = .ok b w1
 | [], b, h => by cases h; simp [Op.eqFields]
 | f :: fs, b, h => by
  simp only [eqFl] at h
  split at h
  ·cases h
  ·rename_i hname
   split at h
   ·rename_i d x y c hd hx hy hc
    split at h
    ·rename_i b1 hb1
     cases h
     obtain ⟨u, hu1, hu2⟩ := csrep_at hu hx
     obtain ⟨v, hv1, hv2⟩ := csrep_at hv hy
     obtain ⟨g1, g2⟩ := eqK_ok (P := P) (w1 := w1) hb1 hu2 hv2 hd n
     have ih := eqFl_ok hu hv n w1 fs c hc
     have p1 : (part f.type us f.offset).run P w1 = .ok u w1 := by simp [part, g1, hu1]
     have p2 : (part f.type vs f.offset).run P w1 = .ok v w1 := by simp [part, g1, hv1]
     have hname' : f.name ≠ "_" := hname
     simp only [Op.eqFields, hname', ne_eq, not_false_eq_true, if_true, Sem.run_bind, p1, p2, g2, Result.andThen_ok]
     cases b1 with
     | true => simpa using ih
     | false => simp
    ·cases h
   ·cases h
def eqX (o : Oper) : Operand := match o.op with | .binOp _ _ x _ _ => x | _ => .const undef
def eqY (o : Oper) : Operand := match o.op with | .binOp _ _ _ y _ => y | _ => .const undef
def eqOpB (o : Oper) (t : TypeId) : Option Bool := match o.op with
 | .binOp op t' _ _ _ => if t = t' then match op with
  | .eql => some true
  | .neq => some false
  | _ => none else none
 | _ => none
theorem eqOpB_ok {o : Oper} {t : TypeId} {q : Bool} (h : eqOpB o t = some q) : ∃ t', o.op = .binOp (if q then .eql else .neq) t (eqX o) (eqY o) t' := by
 unfold eqOpB at h
 split at h
 ·rename_i op t0 x y t2 hop
  split at h
  ·rename_i ht
   subst ht
   split at h
   ·cases h; exact ⟨t2, by simp only [eqX, eqY, hop]; rfl⟩
   ·cases h; exact ⟨t2, by simp only [eqX, eqY, hop]; rfl⟩
   ·cases h
  ·cases h
 ·cases h
structure EqT (P : Program) (t : TypeId) : Prop where
 und : P.underlying t = some (.struct (P.fieldsOf t))
 held : P.stoodInHeld t = false
 guard : P.eqGuardType P.depth t = false
def eqB (ops : Array Oper) (nt : Nat) (e : Env) (o : Oper) : Bool := rdOk (tmpsOf o ++ guardTmp ops o) (eqX o) && rdOk (tmpsOf o ++ guardTmp ops o) (eqY o) && dstOk nt o && (gval ops e o == some true)
theorem KAt.eq {k : Nat} {t : TypeId} (ht : EqT P t) (q : Bool) {xs ys : List CV} {b : Bool} (hk : dirAt ds k = sE (vb (if q then b else !b))) (hop : eqOpB (opAt ops.toList k) t = some q) (hb : eqB ops nt (arunE L ops ops.toList ds e s k) (opAt ops.toList k) = true)
  (hx : aev (arunE L ops ops.toList ds e s k) (eqX (opAt ops.toList k)) = .v (.g xs)) (hy : aev (arunE L ops ops.toList ds e s k) (eqY (opAt ops.toList k)) = .v (.g ys)) (hfl : eqFl P xs ys (P.fieldsOf t).toList = some b) : KAt P C nt L ops ds e s k := by
 unfold KAt
 rw [hk]
 simp only [eqB, Bool.and_eq_true] at hb
 obtain ⟨⟨⟨b1, b2⟩, b3⟩, b4⟩ := hb
 obtain ⟨t', hop'⟩ := eqOpB_ok hop
 refine stT_pure rfl b3 (by simpa using b4) fun R η e0 s0 a w hrd hc => ⟨.bool (if q then b else !b), ?_, .v _ _ (.c _ _ (.d _ _ (.bool _)))⟩
 have h1 := (aev_ok hc (eqX (opAt ops.toList k))).1
 rw [aev_agree hrd b1, hx] at h1
 have h2 := (aev_ok hc (eqY (opAt ops.toList k))).1
 rw [aev_agree hrd b2, hy] at h2
 generalize hu : a.eval (eqX (opAt ops.toList k)) = u at h1
 generalize hv : a.eval (eqY (opAt ops.toList k)) = v at h2
 cases h1 with | v _ _ h1 => cases h1 with | g us _ h1 =>
 cases h2 with | v _ _ h2 => cases h2 with | g vs _ h2 =>
 have he := eqFl_ok (P := P) h1 h2 9998 w _ b hfl
 have hq : (Op.equalIn 10000 t (.agg us) (.agg vs)).run P w = .ok b w := by
  rw [run_equalIn_agg w 9999 t us vs ht.und ht.held]; exact he
 cases q with
 | true => simp only [execOp, hop', if_true, Sem.run_bind, hu, hv, run_eqGuard_agg w _ _ _ _ _ _ ht.guard, Result.andThen_ok, run_eql_struct, hq, Sem.run_pure]
 | false => simp only [execOp, hop', Bool.false_eq_true, if_false, Sem.run_bind, hu, hv, run_eqGuard_agg w _ _ _ _ _ _ ht.guard, Result.andThen_ok, run_neq_struct, hq, Sem.run_pure]
end
end Go.Ab
end

section
namespace Go.Ab
def nbP (n : Nat) : World → (Nat → Prop) → (Nat → Prop) → Value → Prop := fun _ _ _ v => ∃ b, v = .bool b ∧ (b = true → n = 0)
def nb (n : Nat) : AVal := .v (.c (.sem (nbP n)))
def DVal.flat : DVal → Bool
 | .int _ _ => true
 | .bool _ => true
 | .str _ => true
 | _ => false
def CV.flat : CV → Bool
 | .d x => x.flat
 | _ => false
def TV.flat : TV → Bool
 | .c x => x.flat
 | .g xs => xs.all CV.flat
def AVal.flat : AVal → Bool
 | .any => true
 | .v x => x.flat
 | .t xs => xs.all TV.flat
section
variable {w w' : World} {X X' : Nat → Prop} {η η' : Nat → Value} {C C' : Ctx}
theorem CRep.flat {v : Value} {x : CV} (h : CRep w X η C v x) (hx : x.flat = true) : CRep w' X' η' C' v x := by
 cases h with
 | d _ _ h => cases h with
  | int => exact .d _ _ (.int _ _)
  | bool => exact .d _ _ (.bool _)
  | str => exact .d _ _ (.str _)
  | any => cases hx
  | nil => cases hx
  | lst => cases hx
 | _ => cases hx
theorem TRep.flat {v : Value} {x : TV} (h : TRep w X η C v x) (hx : x.flat = true) : TRep w' X' η' C' v x := by
 cases h with
 | c _ _ h => exact .c _ _ (h.flat hx)
 | g _ _ h => exact .g _ _ ⟨h.1, fun j hj => (h.2 j hj).flat (List.all_eq_true.1 hx _ (getD_mem hj))⟩
theorem ARep.flat {v : Value} {x : AVal} (h : ARep w X η C v x) (hx : x.flat = true) : ARep w' X' η' C' v x := by
 cases h with
 | any => exact .any v
 | v _ _ h => exact .v _ _ (h.flat hx)
 | t us xs h1 h2 => exact .t us xs h1 fun j hj => (h2 j hj).flat (List.all_eq_true.1 hx _ (getD_mem hj))
theorem CV.flat_refs {x : CV} (hx : x.flat = true) : x.refs = [] := by cases x <;> first | rfl | cases hx
theorem TV.flat_refs {x : TV} (hx : x.flat = true) : x.refs = [] := by
 cases x with
 | c x => exact CV.flat_refs hx
 | g xs => exact List.flatMap_eq_nil_iff.2 fun y hy => CV.flat_refs (List.all_eq_true.1 hx y hy)
theorem AVal.flat_refs {x : AVal} (hx : x.flat = true) : x.refs = [] := by
 cases x with
 | any => rfl
 | v x => exact TV.flat_refs hx
 | t xs => exact List.flatMap_eq_nil_iff.2 fun y hy => TV.flat_refs (List.all_eq_true.1 hx y hy)
end
section
variable {P : Program} {C : Ctx} {nt : Nat} {L : Lay} {ops : Array Oper} {ds : List Dir} {e : Env} {s : Sto} {E : List (Nat × AVal)} {S : List (Nat × Obj)} {Q : Exit → Act → World → Prop}
theorem AW.condNil {t n : Nat} {x y : Code} (hb : lk E t = nb n) (ht : n = 0 → AW P C nt x E S Q) (hf : AW P C nt y E S Q) : AW P C nt (.cond (.tmp t) x y) E S Q := by
 intro R η a w hc
 have hv := hc.ev t
 rw [hb] at hv
 have : ∃ b, a.eval (.tmp t) = .bool b ∧ (b = true → n = 0) := by
  change ∃ b, a.tmps.getD t undef = .bool b ∧ (b = true → n = 0)
  generalize a.tmps.getD t undef = u at hv
  cases hv with | v _ _ h => cases h with | c _ _ h => cases h with | sem _ _ h _ => exact h
 obtain ⟨b, ev, hn⟩ := this
 cases b with
 | true => exact wp_cond_true ev (ht (hn rfl) R η a w hc)
 | false => exact wp_cond_false ev (hf R η a w hc)
def lstN : AVal → Option Nat
 | .v (.c (.d (.lst n _))) => some n
 | .v (.c (.fl n _)) => some n
 | _ => none
theorem lstN_ok {w : World} {X : Nat → Prop} {η : Nat → Value} {v : Value} {x : AVal} {n : Nat} (h : lstN x = some n) (hv : ARep w X η C v x) : ∃ ad cap, v = .slice ad n cap ∧ (ad = none → n = 0) := by
 unfold lstN at h
 split at h
 ·cases h
  cases hv with | v _ _ hv => cases hv with | c _ _ hv => cases hv with | d _ _ hv => cases hv with
   | nil a cap f => exact ⟨a, cap, rfl, fun _ => rfl⟩
   | lst b off n cap c e fz f es => exact ⟨_, _, rfl, fun h => by cases h⟩
 ·cases h
  cases hv with | v _ _ hv => cases hv with | c _ _ hv => cases hv with | fl a n f hv => cases hv with
   | nil a cap f => exact ⟨_, _, rfl, fun _ => rfl⟩
   | lst b off n cap c e fz f es => exact ⟨_, _, rfl, fun h => by cases h⟩
 ·cases h
def isNilC (x : Operand) : Bool := match x with | .const (.slice none 0 0) => true | _ => false
theorem isNilC_ok {x : Operand} (h : isNilC x = true) : x = .const (.slice none 0 0) := by
 unfold isNilC at h; split at h
 ·rfl
 ·cases h
theorem run_equalIn_nil {t el : TypeId} (ht : P.underlying t = some (.slice el)) (d : Nat) (ad : Option Addr) (n cap : Nat) (w : World) : (Op.equalIn (d + 1) t (.slice ad n cap) (.slice none 0 0)).run P w = .ok ad.isNone w := by
 cases ad <;> simp only [Op.equalIn, Sem.run_bind, run_underlying ht, Result.andThen_ok, Sem.run_pure] <;> rfl
theorem run_eql_nil {t el : TypeId} (ht : P.underlying t = some (.slice el)) (ad : Option Addr) (n cap : Nat) (w : World) : (binOp .eql t (.slice ad n cap) (.slice none 0 0)).run P w = .ok (.bool ad.isNone) w := by
 have h : binOp .eql t (.slice ad n cap) (.slice none 0 0) = (do pure (.bool (← Op.equalIn Op.maxDepth t (.slice ad n cap) (.slice none 0 0)))) := rfl
 have h2 := run_equalIn_nil ht 9999 ad n cap w
 rw [h, Sem.run_bind]
 have h3 : (Op.equalIn Op.maxDepth t (.slice ad n cap) (.slice none 0 0)).run P w = .ok ad.isNone w := h2
 rw [h3]
 rfl
theorem KAt.nil {k : Nat} {t el : TypeId} (ht : P.underlying t = some (.slice el)) {n : Nat} (hk : dirAt ds k = sE (nb n)) (hop : eqOpB (opAt ops.toList k) t = some true) (hb : eqB ops nt (arunE L ops ops.toList ds e s k) (opAt ops.toList k) = true)
  (hx : lstN (aev (arunE L ops ops.toList ds e s k) (eqX (opAt ops.toList k))) = some n) (hy : isNilC (eqY (opAt ops.toList k)) = true) : KAt P C nt L ops ds e s k := by
 unfold KAt
 rw [hk]
 simp only [eqB, Bool.and_eq_true] at hb
 obtain ⟨⟨⟨b1, b2⟩, b3⟩, b4⟩ := hb
 obtain ⟨t', hop'⟩ := eqOpB_ok hop
 simp only [if_true] at hop'
 refine stT_pure rfl b3 (by simpa using b4) fun R η e0 s0 a w hrd hc => ?_
 have h1 := (aev_ok hc (eqX (opAt ops.toList k))).1
 rw [aev_agree hrd b1] at h1
 obtain ⟨ad, cap, hv, had⟩ := lstN_ok hx h1
 refine ⟨.bool ad.isNone, ?_, .v _ _ (.c _ _ (.sem _ _ ⟨_, rfl, fun hh => had (by simpa using hh)⟩ rfl))⟩
 have h2 : a.eval (eqY (opAt ops.toList k)) = .slice none 0 0 := by rw [isNilC_ok hy]; rfl
 have hg : (eqGuard .eql t (eqX (opAt ops.toList k)) (eqY (opAt ops.toList k)) (.slice ad n cap) (.slice none 0 0)).run P w = .ok () w := rfl
 simp only [execOp, hop', Sem.run_bind, h2, hv, hg, Result.andThen_ok, run_eql_nil ht, Sem.run_pure]
def ArgB (P : Program) (e : Env) (s : Sto) (bor : List Nat) (rd : List Nat) (x : Operand) (y : AVal) : Prop :=
 rdOk rd x = true ∧ ((ALe (aev e x) y ∧ y.closed = true) ∨ (∃ k es n f, k ∈ bor ∧ aev e x = .v (.c (.own k)) ∧ s k = some (.arr es n f) ∧ y = .v (.c (.d (.lst n f)))) ∨ ∃ F, aev e x = vclo P F ∧ y = vclo P F)
theorem stT_callB {f : Nat} (hcall : ∀ args w, (callFunc f args).run P w = .ok (.enter f args) w) {o : Oper} {fx : Operand} {xs : Array Operand} {tys : Array TypeId} (hop : o.op = .call { callee := .value fx, args := xs, argTypes := tys })
  (hfx : aev e fx = .v (.c (.clo f []))) (hrf : rdOk (tmpsOf o ++ guardTmp ops o) fx = true) {args : List AVal} {r : AVal} (hspec : FSpec P f args [] r []) (hlen : xs.size = args.length) (bor : List Nat)
  (hargs : ∀ j, j < args.length → ArgB P e s bor (tmpsOf o ++ guardTmp ops o) (xs.toList.getD j (.const undef)) (args.getD j .any)) (hids : ∀ k ∈ bor, k ∈ idsOf e o) (hr : r.flat = true) (hdo : dstOk nt o = true) (hg : gval ops e o = some true) : StT P C nt ops o (semEff ops o e r) e s := by
 intro R η e0 s0 a w hrd hid hfr hc K Q hK
 have hw := wanted_of (e := e) hc (fun t ht => hrd t (List.mem_append.2 (.inr ht))) hg
 rw [if_pos hw]
 have hfv := (aev_ok hc fx).1
 rw [aev_agree hrd hrf, hfx] at hfv
 have hex := exec_call (w := w) hop (clo_inv hfv) hcall
 have hXlt : ∀ b, XS C s0 η b → b < w.heap.size := by
  rintro b (⟨hx, _⟩ | hx)
  ·exact Nat.lt_of_lt_of_le (hc.ok.lt b hx) hc.fr.size
  ·exact hc.lt hx
 let X1 : Nat → Prop := fun b => XS C s0 η b ∧ ∀ k ∈ bor, s k ≠ none → b ∉ blks (η k)
 have hmo : Kept w w (XS C s0 η) X1 := fun b _ hb => ⟨rfl, fun hx => hb hx.1⟩
 have hsp := hspec w X1 η (xs.map a.eval ++ (([] : List Nat).map η).toArray) (fun b hb => hXlt b hb.1) (fun b ⟨i, o', hi, _⟩ => by cases hi) (fun i o' hi => by cases hi) (fun i j b hi => absurd rfl hi) (by simp [hlen]) (fun j hj => by
  have hj' : j < xs.size := by omega
  have e1 : (xs.map a.eval ++ (([] : List Nat).map η).toArray).getD j undef = a.eval (xs.toList.getD j (.const undef)) := by simp [List.getD_eq_getElem?_getD, hj']
  rw [e1]
  obtain ⟨g0, g⟩ := hargs j hj
  have hx := (aev_ok hc (xs.toList.getD j (.const undef))).1
  rw [aev_agree hrd g0] at hx
  rcases g with ⟨g1, g2⟩ | ⟨k, es, n, fl, g1, g2, g3, g4⟩ | ⟨F, g1, g2⟩
  ·exact ((g1.1 _ _ _ _ _ hx).mono (η' := η) hmo (fun _ _ => rfl)).free g2
  ·rw [g2] at hx
   rw [g4]
   have hv : a.eval (xs.toList.getD j (.const undef)) = η k := by
    generalize a.eval (xs.toList.getD j (.const undef)) = u at hx
    cases hx with | v _ _ hx => cases hx with | c _ _ hx => cases hx with | own _ _ h _ => exact h
   rw [hv]
   have hsk : s0 k = some (.arr es n fl) := by rw [hid k (hids k g1)]; exact g3
   have ho := hc.st k _ hsk
   have hnx : ∀ b, b ∈ blks (η k) → ¬ X1 b := fun b hb hx => hx.2 k g1 (by rw [g3]; simp) hb
   refine .v _ _ (.c _ _ (.d _ _ ?_))
   generalize η k = u at ho hnx
   cases ho with
   | nil ad es _ => exact .nil ad 0 fl
   | arr b n cap es c e _ h1 h2 h3 h4 h5 h6 h7 =>
    refine .lst b 0 n cap c e _ fl es (hnx b (by simp [blks]; omega)) h1 h3 (by rw [h2, Nat.zero_add]; exact Nat.mul_le_mul_right _ h3) h6 fun i j hi hj => ?_
    rw [Nat.zero_add]
    exact (h7 i j hi hj).mono fun b hb hX => ⟨rfl, fun hx => hX hx.1⟩
  ·rw [g1] at hx
   rw [g2]
   have hclo : CloOK P F C.w0 C.D C.X (a.eval (xs.toList.getD j (.const undef))) ∧ (a.eval (xs.toList.getD j (.const undef))).oneCell' = true := by
    generalize a.eval (xs.toList.getD j (.const undef)) = u at hx
    cases hx with | v _ _ h => cases h with | c _ _ h => cases h with | sem _ _ h h1 => exact ⟨h, h1⟩
   obtain ⟨⟨ff, caps, hfe, hcall2, hcl⟩, hone⟩ := hclo
   refine .v _ _ (.c _ _ (.sem _ _ ⟨ff, caps, hfe, hcall2, ?_⟩ hone))
   intro w1 X2 vs args2 r2 hF hsz hblk hX2 hXX hvs hargs2
   have hsz' : w.heap.size ≤ w1.heap.size := hsz
   have hno : ∀ b, ¬ (callCtx ([] : List (Nat × Obj)) w X1 η).D b := by rintro b ⟨i, o', hi, _⟩; cases hi
   refine hcl w1 X2 vs args2 r2 hF (Nat.le_trans hc.fr.size hsz') (fun b hb hD => ?_) hX2 (fun b hb hD => ?_) hvs hargs2
   ·have hbw : b < w.heap.size := Nat.lt_of_lt_of_le hb hc.fr.size
    exact (hblk b hbw (hno b)).trans (hc.fr.block b hb fun hM => hD (hc.ok.md b hM))
   ·have hbw : b < w.heap.size := Nat.lt_of_lt_of_le hb hc.fr.size
    rw [hXX b hbw (hno b)]
    have hown : ∀ i o', s0 i = some o' → b ∉ blks (η i) := by
     intro i o' hi hib
     rcases hc.ow i o' b hi hib with ⟨_, h1⟩ | h1 | h1
     ·exact hD h1
     ·exact hD (hc.ok.md b h1)
     ·omega
    constructor
    ·rintro ⟨⟨hx, _⟩ | ⟨i, o', hi, hib⟩, _⟩
     ·exact hx
     ·exact absurd hib (hown i o' hi)
    ·refine fun hx => ⟨.inl ⟨hx, hD⟩, fun k hk hsk => ?_⟩
     obtain ⟨o', ho'⟩ := Option.ne_none_iff_exists'.1 hsk
     exact hown k o' (by rw [hid k (hids k hk)]; exact ho'))
 unfold Oper.wp
 rw [hex]
 show Calls P f _ w _
 refine hsp.mono fun en w' hh => ?_
 obtain ⟨v, η', rfl, hb⟩ := hh
 have hstp : Stp (fun _ => False) w w' := hb.stp.mono fun b _ hM => by obtain ⟨i, o', hi, _⟩ := hM; cases hi
 have hs : SR.sto { v := r } o.dst s0 = s0 := by funext i; simp [SR.sto]
 have he : SR.eta { v := r } o.dst v η = η := by funext i; simp [SR.eta]
 have hr0 : SR.rng { v := r } o.dst R = R := by funext i; simp [SR.rng]
 have := hc.step o.dst (dst_lt hdo) { v := r } v w' (fun _ => False) hstp (fun b hb => hb.elim) (fun o dd ho => by cases ho) (fun k o ho => by cases ho)
  (fun _ => by rw [hs, he]; refine ⟨hb.res.flat hr, fun j hj => ?_⟩; simp only at hj; rw [AVal.flat_refs hr] at hj; cases hj)
 rw [hs, he, hr0] at this
 refine hK η _ w' ?_
 have hu : upS (semEff ops o e r).l s0 = s0 := by funext i; rfl
 rw [hu]
 exact this.wider fun i hi => .inl hi
def ArgsB (P : Program) (e : Env) (s : Sto) (bor : List Nat) (rd : List Nat) : List Operand → List AVal → Prop
 | [], [] => True
 | x :: xs, y :: ys => ArgB P e s bor rd x y ∧ ArgsB P e s bor rd xs ys
 | _, _ => False
theorem ArgsB.spec {bor : List Nat} {rd : List Nat} {xs : List Operand} {ys : List AVal} (h : ArgsB P e s bor rd xs ys) : xs.length = ys.length ∧ ∀ j, j < ys.length → ArgB P e s bor rd (xs.getD j (.const undef)) (ys.getD j .any) := by
 induction xs generalizing ys with
 | nil => cases ys with
  | nil => exact ⟨rfl, fun j hj => by simp at hj⟩
  | cons y ys => exact h.elim
 | cons x xs ih => cases ys with
  | nil => exact h.elim
  | cons y ys =>
   obtain ⟨h1, h2⟩ := h
   obtain ⟨g1, g2⟩ := ih h2
   refine ⟨by simp [g1], fun j hj => ?_⟩
   cases j with
   | zero => exact h1
   | succ j => exact g2 j (by simpa using hj)
theorem ArgB.own {bor : List Nat} {rd : List Nat} {x : Operand} (k : Nat) {es n : Nat} {f : Nat → List DVal} (h0 : rdOk rd x = true) (h1 : bor.contains k = true) (h2 : aev e x = .v (.c (.own k))) (h3 : s k = some (.arr es n f)) : ArgB P e s bor rd x (.v (.c (.d (.lst n f)))) :=
 ⟨h0, .inr (.inl ⟨k, es, n, f, by simpa using h1, h2, h3, rfl⟩)⟩
theorem ArgB.plain {bor : List Nat} {rd : List Nat} {x : Operand} {y : AVal} (h0 : rdOk rd x = true) (h1 : ALe (aev e x) y) (h2 : y.closed = true) : ArgB P e s bor rd x y := ⟨h0, .inl ⟨h1, h2⟩⟩
theorem ArgB.sem {bor : List Nat} {rd : List Nat} {x : Operand} {F : List AVal → AVal → Prop} (h0 : rdOk rd x = true) (h1 : aev e x = vclo P F) : ArgB P e s bor rd x (vclo P F) := ⟨h0, .inr (.inr ⟨F, h1, rfl⟩)⟩
def callBB (ops : Array Oper) (nt : Nat) (e : Env) (o : Oper) (f : Nat) (r : AVal) (bor : List Nat) : Bool :=
 isCall o && isClo0 f (aev e (callX o)) && rdOk (tmpsOf o ++ guardTmp ops o) (callX o) && r.flat && bor.all (fun k => (idsOf e o).contains k) && dstOk nt o && (gval ops e o == some true)
theorem KAt.callB {k : Nat} {f : Nat} {args : List AVal} {r : AVal} (hspec : FSpec P f args [] r []) (hcall : ∀ args w, (callFunc f args).run P w = .ok (.enter f args) w) (bor : List Nat)
  (hk : dirAt ds k = sE r) (hb : callBB ops nt (arunE L ops ops.toList ds e s k) (opAt ops.toList k) f r bor = true)
  (hargs : ArgsB P (arunE L ops ops.toList ds e s k) (arunS L ops ops.toList ds e s k) bor (tmpsOf (opAt ops.toList k) ++ guardTmp ops (opAt ops.toList k)) (callXs (opAt ops.toList k)).toList args) : KAt P C nt L ops ds e s k := by
 unfold KAt
 rw [hk]
 simp only [callBB, Bool.and_eq_true] at hb
 obtain ⟨⟨⟨⟨⟨⟨b1, b2⟩, b3⟩, b4⟩, b5⟩, b6⟩, b7⟩ := hb
 obtain ⟨tys, hop⟩ := isCall_ok b1
 obtain ⟨g1, g2⟩ := hargs.spec
 exact stT_callB hcall hop (isClo0_ok b2) b3 hspec (by simpa using g1) bor (fun j hj => g2 j hj) (fun k hk => by simpa using List.all_eq_true.1 b5 k hk) b4 b6 (by simpa using b7)
end
end Go.Ab
end

section
namespace Go.Ab
section
variable {P : Program} {C : Ctx} {nt : Nat} {L : Lay} {ops : Array Oper} {ds : List Dir} {e : Env} {s : Sto}
theorem KAt.callX {k : Nat} {f : Nat} {args : List AVal} {Si : List (Nat × Obj)} {r : AVal} {So : List (Nat × Obj)} (hspec : FSpec P f args Si r So) (hcall : ∀ args w, (callFunc f args).run P w = .ok (.enter f args) w) (m : List (Nat × Nat)) (extra : List Nat) (xs : List Operand)
  (hk : dirAt ds k = cE m extra r Si So) (hb : Go.Ab.callB ops nt (arunE L ops ops.toList ds e s k) (opAt ops.toList k) f m r Si So = true)
  (hsi : Si.map (fun p => arunS L ops ops.toList ds e s k (rhoL m p.1)) = Si.map (fun p => some (p.2.ren (rhoL m)))) (hxs : (Go.Ab.callXs (opAt ops.toList k)).toList = xs)
  (hargs : ArgsT C nt (arunE L ops ops.toList ds e s k) (arunS L ops ops.toList ds e s k) Si (rhoL m) (tmpsOf (opAt ops.toList k) ++ guardTmp ops (opAt ops.toList k)) (idsOf (arunE L ops ops.toList ds e s k) (opAt ops.toList k) ++ (Si.map (fun p => rhoL m p.1) ++ extra)) xs args) : KAt P C nt L ops ds e s k :=
 KAt.callG hspec hcall m extra hk hb hsi (hxs ▸ hargs)
theorem KAt.callBX {k : Nat} {f : Nat} {args : List AVal} {r : AVal} (hspec : FSpec P f args [] r []) (hcall : ∀ args w, (callFunc f args).run P w = .ok (.enter f args) w) (bor : List Nat) (xs : List Operand)
  (hk : dirAt ds k = sE r) (hb : Go.Ab.callBB ops nt (arunE L ops ops.toList ds e s k) (opAt ops.toList k) f r bor = true) (hxs : (Go.Ab.callXs (opAt ops.toList k)).toList = xs)
  (hargs : ArgsB P (arunE L ops ops.toList ds e s k) (arunS L ops ops.toList ds e s k) bor (tmpsOf (opAt ops.toList k) ++ guardTmp ops (opAt ops.toList k)) xs args) : KAt P C nt L ops ds e s k :=
 KAt.callB hspec hcall bor hk hb (hxs ▸ hargs)
def siB (s : Sto) (Si : List (Nat × Obj)) (m : Nat → Nat) (ids cids : List Nat) : Bool := Si.all fun p => (s (m p.1)).isSome && ids.contains (m p.1) && !cids.contains (m p.1)
theorem siB_ok {Si : List (Nat × Obj)} {m : Nat → Nat} {ids cids : List Nat} (h : siB s Si m ids cids = true) : (∀ p ∈ Si, ∃ o1, s (m p.1) = some o1) ∧ (∀ p ∈ Si, m p.1 ∈ ids) ∧ ∀ p ∈ Si, m p.1 ∉ cids := by
 refine ⟨fun p hp => ?_, fun p hp => ?_, fun p hp => ?_⟩ <;> (have := List.all_eq_true.1 h p hp; simp only [Bool.and_eq_true, Bool.not_eq_true'] at this)
 ·exact Option.isSome_iff_exists.1 this.1.1
 ·simpa using this.1.2
 ·simpa using this.2
theorem ArgT.semX {F : List AVal → AVal → Prop} {Si : List (Nat × Obj)} {m : Nat → Nat} {rd ids : List Nat} {x : Operand} (hx : rdOk rd x = true) (hv : aev e x = vclo P F) (hsi : siB s Si m ids [] = true) : ArgT C nt e s Si m rd ids x (vclo P F) :=
 ArgT.sem hx hv (siB_ok hsi).1 (siB_ok hsi).2.1
def boxB (s : Sto) : List Nat → List (List CV) → Prop
 | [], [] => True
 | i :: is, c :: cs => (∃ ro, s i = some (.box ro c)) ∧ boxB s is cs
 | _, _ => False
theorem boxB_ok {is : List Nat} {cs : List (List CV)} (h : boxB s is cs) : is.length = cs.length ∧ ∀ k, k < cs.length → ∃ ro, s (is.getD k 0) = some (.box ro (cs.getD k [])) := by
 induction is generalizing cs with
 | nil => cases cs with
  | nil => exact ⟨rfl, fun k hk => by simp at hk⟩
  | cons c cs => exact h.elim
 | cons i is ih => cases cs with
  | nil => exact h.elim
  | cons c cs =>
   obtain ⟨h1, h2⟩ := h
   obtain ⟨g1, g2⟩ := ih h2
   refine ⟨by simp [g1], fun k hk => ?_⟩
   cases k with
   | zero => exact h1
   | succ k => exact g2 k (by simpa using hk)
theorem ArgT.cloX {f : Nat} (hcall : ∀ args w, (callFunc f args).run P w = .ok (.enter f args) w) {F : List AVal → AVal → Prop} (cs : List (List CV)) (hspec : ∀ args r, F args r → FSpec P f (args ++ capA cs) (capS cs) r (capS cs)) (hres : ∀ args r, F args r → r.closed = true)
  {Si : List (Nat × Obj)} {m : Nat → Nat} {rd ids : List Nat} {x : Operand} (hx : rdOk rd x = true) (cids : List Nat) (hv : aev e x = .v (.c (.clo f cids))) (hnd : (nodupB cids && cs.all (fun c => c.all CV.closed) && cids.all (fun i => ids.contains i)) = true) (hbox : boxB s cids cs)
  (hsi : siB s Si m ids cids = true) : ArgT C nt e s Si m rd ids x (vclo P F) := by
 simp only [Bool.and_eq_true] at hnd
 obtain ⟨g1, g2⟩ := boxB_ok hbox
 exact ArgT.clo hcall hspec hres hx hv g1 hnd.1.1 g2 hnd.1.2 (siB_ok hsi).1 (siB_ok hsi).2.1 (fun i hi => by simpa using List.all_eq_true.1 hnd.2 i hi) (siB_ok hsi).2.2
end
noncomputable def gdc {R : Type} (p : Prop) (x : Option R) : Option R := @gd R p (Classical.propDecidable p) x
theorem gdc_some {R : Type} {p : Prop} {x : Option R} {r : R} (h : gdc p x = some r) : p ∧ x = some r := @gd_some R p (Classical.propDecidable p) x r h
noncomputable def brN {R : Type} (n : Nat) (x y : Option R) : Option R := match n with
 | 0 => gdc (x = y) x
 | _ + 1 => y
theorem brN_t {R : Type} {n : Nat} {x y : Option R} {r : R} (h : brN n x y = some r) (hn : n = 0) : x = some r := by subst hn; exact (gdc_some h).2
theorem brN_f {R : Type} {n : Nat} {x y : Option R} {r : R} (h : brN n x y = some r) : y = some r := by
 cases n with
 | zero => obtain ⟨h1, h2⟩ := gdc_some h; exact h1 ▸ h2
 | succ n => exact h
end Go.Ab
end

section
namespace Go.Ab
def asV (s : Sto) (es : Nat) : AVal → Option (Nat × Nat × Nat)
 | .v (.c (.own id)) => match s id with
  | some (.arr es' N _) => if es = es' then some (id, 0, N) else none
  | _ => none
 | .v (.c (.sub id es' lo n)) => if es = es' then some (id, lo, n) else none
 | _ => none
section
variable {P : Program} {L : Lay} {C : Ctx} {nt : Nat} {R : Nat → Prop} {η : Nat → Value} {e : Env} {s : Sto} {a : Act} {w : World}
inductive VOk (w : World) (X : Nat → Prop) (η : Nat → Value) (id es N : Nat) (f : Nat → List DVal) (lo n : Nat) : Value → Prop
 | some (b cap : Nat) (c : Array Value) (e' : TypeId) : η id = .slice (some ⟨b, 0, none⟩) N cap → w.heap[b]? = some (.cells c e' (0, 0)) → c.size = cap * es → N ≤ cap → cap ≤ maxLen →
   (∀ i, i < N → (f i).length = es) → (∀ i j, i < N → j < es → DRep w X (c.getD (i * es + j) undef) ((f i).getD j .any)) → lo + n ≤ N → lo < cap →
   VOk w X η id es N f lo n (.slice (some ⟨b, lo * es, none⟩) n (cap - lo))
 | nil (ad ad' : Option Addr) : η id = .slice ad N N → lo = N → n = 0 → VOk w X η id es N f lo n (.slice ad' 0 0)
theorem view_ok (h : Conc C nt R η e s a w) {x : Operand} {es id lo n N : Nat} {f : Nat → List DVal} (hx : asV s es (aev e x) = some (id, lo, n)) (hs : s id = some (.arr es N f)) :
  VOk w (XS C s η) η id es N f lo n (a.eval x) := by
 have hv := (aev_ok h x).1
 have hst := h.st id _ hs
 unfold asV at hx
 split at hx
 ·rename_i id' e1
  split at hx
  ·rename_i es' N' f' hs'
   split at hx
   ·cases hx
    rw [hs] at hs'; cases hs'
    rw [e1] at hv
    rw [own_inv hv]
    generalize hu : η id = u at hst
    cases hst with
    | nil ad => exact .nil ad ad hu rfl rfl
    | arr b _ cap _ c e' _ h1 h2 h3 h4 h5 h6 h7 =>
     have := VOk.some (w := w) (X := XS C s η) (η := η) (id := id) (f := f) (lo := 0) b cap c e' hu h1 h2 h3 h4 h6 h7 (Nat.le_of_eq (Nat.zero_add _)) h5
     simpa using this
   ·cases hx
  ·cases hx
 ·rename_i id' es' lo' n' e1
  split at hx
  ·rename_i hes
   cases hx
   subst hes
   rw [e1] at hv
   generalize a.eval x = v at hv
   cases hv with | v _ _ hv => cases hv with | c _ _ hv => cases hv with
    | sub b N' cap _ _ _ _ hη h1 h2 =>
     rw [hη] at hst
     cases hst with
     | nil => omega
     | arr _ _ _ _ c e' _ g1 g2 g3 g4 g5 g6 g7 => exact .some b cap c e' hη g1 g2 g3 g4 g6 g7 h1 h2
    | subN ad ad' N' _ _ hη =>
     rw [hη] at hst
     cases hst with
     | nil => exact .nil _ _ hη rfl rfl
     | arr _ _ _ _ c e' _ g1 g2 g3 g4 g5 g6 g7 => exact .nil _ _ hη rfl rfl
  ·cases hx
 ·cases hx
theorem VOk.slice {X : Nat → Prop} {v : Value} {id es N lo n : Nat} {f : Nat → List DVal} (h : VOk w X η id es N f lo n v) : ∃ ad cap, v = .slice ad n cap ∧ (n ≤ cap) ∧ lo + n ≤ N := by
 cases h with
 | some b cap c e' h1 h2 h3 h4 h5 h6 h7 h8 h9 => exact ⟨_, _, rfl, by omega, h8⟩
 | nil ad ad' h1 h2 h3 => exact ⟨_, _, by rw [h3], by omega, by omega⟩
theorem VOk.part {X X' : Nat → Prop} {ad : Option Addr} {id es N lo n cap : Nat} {f : Nat → List DVal} (h : VOk w X η id es N f lo n (.slice ad n cap)) {l u : Nat} (hlu : l ≤ u) (hu : lo + u ≤ N) :
  ARep w X' η C (.slice (if cap = l then ad else ad.map (·.add (l * es))) (u - l) (cap - l)) (.v (.c (.sub id es (lo + l) (u - l)))) := by
 generalize hv : Value.slice ad n cap = v at h
 cases h with
 | some b cap' c e' h1 h2 h3 h4 h5 h6 h7 h8 h9 =>
  cases hv
  by_cases hc : cap' - lo = l
  ·have e1 : u - l = 0 := by omega
   have e2 : cap' - lo - l = 0 := by omega
   have e3 : lo + l = N := by omega
   have e4 : cap' = N := by omega
   rw [e1, e2, e3]
   subst e4
   exact .v _ _ (.c _ _ (.subN _ _ _ _ _ h1))
  ·rw [if_neg hc]
   simp only [Option.map_some, add_lit]
   have e1 : lo * es + l * es = (lo + l) * es := by rw [Nat.add_mul]
   have e2 : cap' - lo - l = cap' - (lo + l) := by omega
   rw [e1, e2]
   exact .v _ _ (.c _ _ (.sub b N cap' id es (lo + l) (u - l) h1 (by omega) (by omega)))
 | nil ad0 ad' h1 h2 h3 =>
  cases hv
  have e1 : u - l = 0 := by omega
  have e2 : lo + l = N := by omega
  rw [e1, e2, Nat.zero_sub]
  exact .v _ _ (.c _ _ (.subN ad0 _ N id es h1))
theorem sliceBounds_gen (h : Conc C nt R η e s a w) {lo hi : Option Operand} {l u : Option Int} (hl : oI e lo = some l) (hu : oI e hi = some u) (n cap : Nat) (hc : 0 ≤ l.getD 0 ∧ l.getD 0 ≤ u.getD n ∧ u.getD n ≤ cap) :
  (Instr.sliceBounds true n cap (lo.map a.eval) (hi.map a.eval) none).run P w = .ok ((l.getD 0).toNat, (u.getD n).toNat, cap) w := by
 rcases oI_ok h hl with ⟨h1, h2⟩ | ⟨k, m, h1, h2⟩ <;> rcases oI_ok h hu with ⟨h3, h4⟩ | ⟨k', m', h3, h4⟩ <;> subst h2 <;> subst h4 <;> simp only [Option.getD_some, Option.getD_none] at hc
 ·subst h1; subst h3
  simp [Instr.sliceBounds]
 ·subst h1
  simp [Instr.sliceBounds, h3, sliceB_ok m' cap _ ⟨hc.2.1, by omega⟩]
 ·subst h3
  have hx := sliceB_ok (P := P) (w := w) m n .sliceB ⟨hc.1, by omega⟩ k
  simp [Instr.sliceBounds, h1, hx]
 ·have hx := sliceB_ok (P := P) (w := w) m m'.toNat .sliceB ⟨hc.1, by omega⟩ k
  simp [Instr.sliceBounds, h1, h3, sliceB_ok m' cap _ ⟨by omega, by omega⟩, hx]
theorem snd_vslice (hL : LOk P L) (h : Conc C nt R η e s a w) {o : Oper} (hd : ∀ x, o.dst = some x → x < nt) {t : TypeId} {x : Operand} {lo hi : Option Operand} (hop : o.op = .slice t x lo hi none)
  {ti : TI} (ht : L t = some ti) {el : Nat} (hk : ti.kind = .slice el) {te : TI} (hte : L el = some te) {l u : Option Int} (hl : oI e lo = some l) (hu : oI e hi = some u)
  {id lo0 n N : Nat} {f : Nat → List DVal} (hx : asV s te.size (aev e x) = some (id, lo0, n)) (hs : s id = some (.arr te.size N f)) (hc : 0 ≤ l.getD 0 ∧ l.getD 0 ≤ u.getD n ∧ (lo0 : Int) + u.getD n ≤ N) :
  Snd P C nt R η e s a w o { v := .v (.c (.sub id te.size (lo0 + (l.getD 0).toNat) ((u.getD n).toNat - (l.getD 0).toNat))) } := by
 obtain ⟨i, dd, z, hti⟩ := hL t ti ht
 obtain ⟨i2, dd2, z2, hte'⟩ := hL el te hte
 have hkd := hti.kind
 rw [hk] at hkd
 simp only [KOk] at hkd
 have hvo := view_ok h hx hs
 obtain ⟨ad, cap, ev, hn, hN⟩ := hvo.slice
 have hcap : (u.getD n) ≤ cap := by
  rw [ev] at hvo
  generalize hv : Value.slice ad n cap = v at hvo
  cases hvo with
  | some b cap' c e' h1 h2 h3 h4 h5 h6 h7 h8 h9 => cases hv; omega
  | nil ad0 ad' h1 h2 h3 => cases hv; omega
 rw [ev] at hvo
 have hb := sliceBounds_gen (P := P) h hl hu n cap ⟨hc.1, hc.2.1, hcap⟩
 have hR : ∀ j ∈ (AVal.v (.c (.sub id te.size (lo0 + (l.getD 0).toNat) ((u.getD n).toNat - (l.getD 0).toNat)))).refs, R j := by
  intro j hj
  simp [AVal.refs, TV.refs, CV.refs] at hj
  rw [hj]; exact (h.sr id _ hs).1
 refine snd_val h hd ?_ (hvo.part (l := (l.getD 0).toNat) (u := (u.getD n).toNat) (by omega) (by omega)) hR
 simp only [execOp, hop, Sem.run_bind, Instr.sliceAt, run_underlying hti.und, Result.andThen_ok, hkd, Instr.slice, ev, Option.map_none, hb, run_sizeOf hte', Sem.run_pure]
theorem snd_vslice3 (hL : LOk P L) (h : Conc C nt R η e s a w) {o : Oper} (hd : ∀ x, o.dst = some x → x < nt) {t : TypeId} {x ol oh om : Operand} (hop : o.op = .slice t x (some ol) (some oh) (some om))
  {ti : TI} (ht : L t = some ti) {el : Nat} (hk : ti.kind = .slice el) {te : TI} (hte : L el = some te) {l u m : Int} (hl : asI (aev e ol) = some l) (hu : asI (aev e oh) = some u) (hm : asI (aev e om) = some m)
  {id lo0 n N : Nat} {f : Nat → List DVal} (hx : asV s te.size (aev e x) = some (id, lo0, n)) (hs : s id = some (.arr te.size N f)) (hc : 0 ≤ l ∧ l ≤ u ∧ u ≤ m ∧ m ≤ n) :
  Snd P C nt R η e s a w o { v := .any } := by
 obtain ⟨i, dd, z, hti⟩ := hL t ti ht
 obtain ⟨i2, dd2, z2, hte'⟩ := hL el te hte
 have hkd := hti.kind
 rw [hk] at hkd
 simp only [KOk] at hkd
 obtain ⟨ad, cap, ev, hn, hN⟩ := (view_ok h hx hs).slice
 obtain ⟨k1, e1⟩ := asI_ok h hl
 obtain ⟨k2, e2⟩ := asI_ok h hu
 obtain ⟨k3, e3⟩ := asI_ok h hm
 have b1 := sliceB_ok (P := P) (w := w) m cap .slice3Acap ⟨by omega, by omega⟩ k3
 have b2 := sliceB_ok (P := P) (w := w) u m.toNat .slice3B ⟨by omega, by omega⟩ k2
 have b3 := sliceB_ok (P := P) (w := w) l u.toNat .slice3C ⟨by omega, by omega⟩ k1
 refine snd_val h hd (v := .slice (if m.toNat = l.toNat then ad else ad.map (·.add (l.toNat * te.size))) (u.toNat - l.toNat) (m.toNat - l.toNat)) ?_ (.any _) (by simp [AVal.refs])
 simp only [execOp, hop, Sem.run_bind, Instr.sliceAt, run_underlying hti.und, Result.andThen_ok, hkd, Instr.slice, ev, Instr.sliceBounds, Option.map_some, if_true, e1, e2, e3, b1, b2, b3, Sem.run_pure, run_sizeOf hte', Option.isSome_some]
theorem snd_vlen (hL : LOk P L) (h : Conc C nt R η e s a w) {o : Oper} (hd : ∀ x, o.dst = some x → x < nt) {t : TypeId} {x : Operand} (hop : o.op = .call { callee := .builtin .len, args := #[x], argTypes := #[t] })
  {ti : TI} (ht : L t = some ti) {el : Nat} (hk : ti.kind = .slice el) {es id lo n N : Nat} {f : Nat → List DVal} (hx : asV s es (aev e x) = some (id, lo, n)) (hs : s id = some (.arr es N f)) : Snd P C nt R η e s a w o { v := vi n } := by
 obtain ⟨i, dd, z, hti⟩ := hL t ti ht
 have hkd := hti.kind
 rw [hk] at hkd
 simp only [KOk] at hkd
 obtain ⟨ad, cap, ev, _⟩ := (view_ok h hx hs).slice
 refine snd_val h hd (v := .int .i64 n) ?_ (int_rep _ _ _) (by simp [vi, AVal.refs, TV.refs, CV.refs])
 simp [execOp, hop, resolve, invoke, builtin, Builtin.len_, run_underlying hti.und, hkd, ev, goInt]
theorem snd_vindex (hL : LOk P L) (h : Conc C nt R η e s a w) {o : Oper} (hd : ∀ x, o.dst = some x → x < nt) {t : TypeId} {x i : Operand} (hop : o.op = .indexAddr t x i) {ti : TI} (ht : L t = some ti) {el : Nat} (hk : ti.kind = .slice el)
  {te : TI} (hte : L el = some te) {m : Int} (hi : asI (aev e i) = some m) {id lo n N : Nat} {f : Nat → List DVal} (hx : asV s te.size (aev e x) = some (id, lo, n)) (hs : s id = some (.arr te.size N f)) (hc : 0 ≤ m ∧ m < n) :
  Snd P C nt R η e s a w o { v := .v (.c (.pte id te.size (lo + m.toNat) 0)) } := by
 obtain ⟨i1, d1, z1, hti⟩ := hL t ti ht
 obtain ⟨i2, d2, z2, hte'⟩ := hL el te hte
 have hkd := hti.kind
 rw [hk] at hkd
 simp only [KOk] at hkd
 subst hkd
 obtain ⟨k, ei⟩ := asI_ok h hi
 have hvo := view_ok h hx hs
 generalize ev : a.eval x = v at hvo
 cases hvo with
 | some b cap c e' h1 h2 h3 h4 h5 h6 h7 h8 h9 =>
  refine snd_val h hd (v := .pointer (some ⟨b, (lo + m.toNat) * te.size + 0, none⟩)) ?_ (.v _ _ (.c _ _ (.pte b N cap _ _ _ _ h1))) (fun j hj => by simp [AVal.refs, TV.refs, CV.refs] at hj; rw [hj]; exact (h.sr id _ hs).1)
  have e1 : lo * te.size + m.toNat * te.size = (lo + m.toNat) * te.size := by rw [Nat.add_mul]
  simp [execOp, hop, Instr.indexAt, ei, ev, asIntOf, run_underlying hti.und, hc, run_sizeOf hte', add_lit, e1]
 | nil ad0 ad' h1 h2 h3 => omega
theorem snd_updw (h : Conc C nt R η e s a w) {o : Oper} (hd : ∀ x, o.dst = some x → x < nt) {id : Nat} {ob ob' : Obj} (hs : s id = some ob) (hro : ob.ro = false) (hro' : ob'.ro = false) (hrf : ∀ j ∈ ob'.refs, R j)
  {w' : World} {v : Value} {x : AVal} (hstp : Stp (fun b => b ∈ blks (η id)) w w') (hrun : (execOp a.eval o).run P w = .ok (.value v) w')
  (hob : ∀ X', Kept w w' (XS C s η) X' → ORep w' X' η C (η id) ob') (hv : ∀ X', ARep w' X' η C v x) (hx : ∀ j ∈ x.refs, R j) : Snd P C nt R η e s a w o { v := x, upd := some (id, ob') } := by
 have hk := kept_step (C := C) (s := s) (η := η) { v := x, upd := some (id, ob') } o.dst v (fun b => b ∈ blks (η id)) hstp (fun b hb => ⟨id, ob, hs, hb⟩) (fun _ _ hh => by cases hh)
  (fun k o hh => by cases hh; rw [hs]; simp)
 have heta : SR.eta { v := x, upd := some (id, ob') } o.dst v η = η := by funext i; simp [SR.eta]
 refine ⟨v, w', .inl hrun, ?_⟩
 refine h.step o.dst hd _ _ _ (fun b => b ∈ blks (η id)) hstp ?_ (fun _ _ hh => by cases hh) ?_ (fun _ => ⟨?_, fun j hj => .inl (hx j hj)⟩)
 ·intro b hb
  refine ⟨⟨id, .inr ⟨ob', rfl⟩, by rw [hs]; simp, hb⟩, ?_⟩
  rcases h.ow id ob _ hs hb with ⟨h1, _⟩ | h1
  ·rw [hro] at h1; cases h1
  ·exact h1
 ·intro k o' hh
  cases hh
  refine ⟨⟨ob, hs, hro⟩, hro', by simp, hrf, ?_⟩
  rw [heta]
  rw [heta] at hk
  exact hob _ hk
 ·rw [heta]; exact hv _
theorem put_obj {X' : Nat → Prop} {id es N cap b lo k : Nat} {f g : Nat → List DVal} {c : Array Value} {e' : TypeId} {news : List Value} (hX : Kept w (w.setRow b (c.toList.take (lo * es) ++ news ++ c.toList.drop (lo * es + news.length)).toArray) (XS C s η) X')
  (h1 : η id = .slice (some ⟨b, 0, none⟩) N cap) (h2 : w.heap[b]? = some (.cells c e' (0, 0))) (h3 : c.size = cap * es) (h4 : N ≤ cap) (h5 : cap ≤ maxLen) (h50 : 0 < cap)
  (h6 : ∀ i, i < N → (f i).length = es) (h7 : ∀ i j, i < N → j < es → DRep w (XS C s η) (c.getD (i * es + j) undef) ((f i).getD j .any))
  (hk : lo + k ≤ N) (hn : news.length = k * es) (g1 : ∀ i, i < k → (g i).length = es) (g2 : ∀ i j, i < k → j < es → DRep w (XS C s η) (news.getD (i * es + j) undef) ((g i).getD j .any)) :
  ORep (w.setRow b (c.toList.take (lo * es) ++ news ++ c.toList.drop (lo * es + news.length)).toArray) X' η C (η id) (.arr es N fun i => if lo ≤ i ∧ i < lo + k then g (i - lo) else f i) := by
 have hfit : lo * es + news.length ≤ c.size := by rw [hn, h3, ← Nat.add_mul]; exact Nat.mul_le_mul_right _ (by omega)
 obtain ⟨q1, q2⟩ := setRow_cells c (lo * es) news hfit
 rw [h1]
 refine .arr b N cap es _ e' _ (setRow_heap w b c _ e' _ h2) (by rw [q1]; exact h3) h4 h5 h50 (fun i hi => ?_) (fun i j hi hj => ?_)
 ·by_cases hc : lo ≤ i ∧ i < lo + k
  ·simp only [hc, and_self, if_true]; exact g1 _ (by omega)
  ·simp only [hc, if_false]; exact h6 i hi
 ·rw [q2]
  have mul1 : ∀ {p q : Nat}, p < q → p * es + es ≤ q * es := fun {p q} hpq => by
   have : (p + 1) * es ≤ q * es := Nat.mul_le_mul_right _ hpq
   rwa [Nat.add_mul, Nat.one_mul] at this
  by_cases hc : lo ≤ i ∧ i < lo + k
  ·have a1 : lo * es ≤ i * es := Nat.mul_le_mul_right _ hc.1
   have a2 := mul1 hc.2
   rw [Nat.add_mul] at a2
   rw [if_pos ⟨by omega, by omega⟩]
   simp only [hc, and_self, if_true]
   have e1 : i * es + j - lo * es = (i - lo) * es + j := by rw [Nat.sub_mul]; omega
   rw [e1]
   exact (g2 (i - lo) j (by omega) hj).mono fun x hx hn => hX x hx hn
  ·rw [if_neg]
   ·simp only [hc, if_false]; exact (h7 i j hi hj).mono fun x hx hn => hX x hx hn
   ·rintro ⟨b1, b2⟩
    rcases Nat.lt_or_ge i lo with hlt | hge
    ·have := mul1 hlt; omega
    ·have : (lo + k) * es ≤ i * es := Nat.mul_le_mul_right _ (by omega)
     rw [Nat.add_mul] at this; omega
theorem setRow_vstp {id N cap b : Nat} (h1 : η id = .slice (some ⟨b, 0, none⟩) N cap) (h : 0 < cap) (cs : Array Value) : Stp (fun x => x ∈ blks (η id)) w (w.setRow b cs) :=
 (setRow_stp w b cs).mono fun x _ hx => by have e : x = b := hx; rw [h1, e]; simp [blks]; omega
theorem fun_noop {k lo : Nat} {f g : Nat → List DVal} (h : k = 0) : (fun i => if lo ≤ i ∧ i < lo + k then g (i - lo) else f i) = f := by
 funext i; rw [if_neg (by omega)]
def DLe (x y : DVal) : Prop := ∀ w X v, DRep w X v x → DRep w X v y
theorem DLe.refl (x : DVal) : DLe x x := fun _ _ _ h => h
theorem DLe.nil (f g : Nat → List DVal) : DLe (.lst 0 f) (.lst 0 g) := fun w X v h => by
 cases h with
 | nil a cap => exact .nil a cap g
 | lst b off n cap c e fz f es => exact .nil _ cap g
def DLes : List DVal → List DVal → Prop
 | [], [] => True
 | x :: xs, y :: ys => DLe x y ∧ DLes xs ys
 | _, _ => False
theorem DLes.spec {xs ys : List DVal} (h : DLes xs ys) : xs.length = ys.length ∧ ∀ j, DLe (xs.getD j .any) (ys.getD j .any) := by
 induction xs generalizing ys with
 | nil => cases ys with
  | nil => exact ⟨rfl, fun j => DLe.refl _⟩
  | cons y ys => exact h.elim
 | cons x xs ih => cases ys with
  | nil => exact h.elim
  | cons y ys =>
   obtain ⟨h1, h2⟩ := h
   obtain ⟨g1, g2⟩ := ih h2
   refine ⟨by simp [g1], fun j => ?_⟩
   cases j with
   | zero => exact h1
   | succ j => exact g2 j
theorem snd_vclear (hL : LOk P L) (h : Conc C nt R η e s a w) {o : Oper} (hd : ∀ x, o.dst = some x → x < nt) {t : TypeId} {x : Operand} (hop : o.op = .call { callee := .builtin .clear, args := #[x], argTypes := #[t] })
  {ti : TI} (ht : L t = some ti) {el : Nat} (hk : ti.kind = .slice el) {te : TI} (hte : L el = some te) (h0 : 0 < te.size) (hzl : te.zero.length = te.size) {zd0 zd : List DVal} (hz : toDs te.zero = some zd0) (hle : DLes zd0 zd)
  {id lo n N : Nat} {f : Nat → List DVal} (hx : asV s te.size (aev e x) = some (id, lo, n)) (hs : s id = some (.arr te.size N f)) :
  Snd P C nt R η e s a w o { v := .any, upd := some (id, .arr te.size N fun i => if lo ≤ i ∧ i < lo + n then (fun _ => zd) (i - lo) else f i) } := by
 obtain ⟨i, dd, z, hti⟩ := hL t ti ht
 obtain ⟨i2, d2, z2, hte'⟩ := hL el te hte
 have hkd := hti.kind
 rw [hk] at hkd
 simp only [KOk] at hkd
 subst hkd
 have hvo := view_ok h hx hs
 have hst := h.st id _ hs
 have hxr : ∀ j ∈ (AVal.any).refs, R j := fun j hj => by cases hj
 have hn0 : ∀ v, a.eval x = v → (∃ ad cap, v = .slice ad 0 cap) → n = 0 → Snd P C nt R η e s a w o { v := .any, upd := some (id, .arr te.size N fun i => if lo ≤ i ∧ i < lo + n then (fun _ => zd) (i - lo) else f i) } := by
  rintro v ev ⟨ad, cap, rfl⟩ hn
  have hrun : (execOp a.eval o).run P w = .ok (.value (.tuple #[])) w := by
   cases ad <;> simp [execOp, hop, resolve, invoke, builtin, Builtin.clear_, run_underlying hti.und, ev]
  refine snd_updw h hd hs rfl rfl (by simp [Obj.refs]) (Stp.refl _ _) hrun (fun X' hX => ?_) (fun X' => .any _) hxr
  have key : ORep w X' η C (η id) (.arr te.size N f) := hst.mono hX (fun j hj => rfl) fun b hb => rfl
  rw [← fun_noop (k := n) (lo := lo) (f := f) (g := fun _ => zd) hn] at key
  exact key
 generalize ev : a.eval x = v at hvo
 cases hvo with
 | some b cap c e' h1 h2 h3 h4 h5 h6 h7 h8 h9 =>
  by_cases hn : n = 0
  ·exact hn0 _ ev ⟨some ⟨b, lo * te.size, none⟩, cap - lo, by rw [hn]⟩ hn
  ·have hzs : z2.cells.size = te.size := by rw [(hte'.zrep w (XS C s η) η C).1, hzl]
   obtain ⟨hd1, hd2⟩ := toDs_cells (hte'.zrep w (XS C s η) η C) hz
   have hnl : (Builtin.zeroCells z2.cells n).toList.length = n * te.size := by simp [Builtin.zeroCells, hzs]
   have hone : ∀ u ∈ (Builtin.zeroCells z2.cells n).toList, u.oneCell' = true := by
    intro u hu
    simp only [Builtin.zeroCells, Array.toList_map, List.mem_map] at hu
    obtain ⟨q, hq, rfl⟩ := hu
    have hlt : q % z2.cells.size < z2.cells.size := Nat.mod_lt _ (by rw [hzs]; exact h0)
    have := (hd2 (q % z2.cells.size) (by rw [hd1]; exact hlt)).one
    simpa [hlt] using this
   have hfit : lo * te.size + 0 + (Builtin.zeroCells z2.cells n).toList.length ≤ c.size := by rw [hnl, h3, Nat.add_zero, ← Nat.add_mul]; exact Nat.mul_le_mul_right _ (by omega)
   have hst2 := run_storeCells_at P b (lo * te.size) e' (Builtin.zeroCells z2.cells n).toList 0 c w h2 hfit hone
   simp only [Nat.add_zero] at hst2
   have hrun : (execOp a.eval o).run P w = .ok (.value (.tuple #[])) (w.setRow b (c.toList.take (lo * te.size) ++ (Builtin.zeroCells z2.cells n).toList ++ c.toList.drop (lo * te.size + (Builtin.zeroCells z2.cells n).toList.length)).toArray) := by
    simp [execOp, hop, resolve, invoke, builtin, Builtin.clear_, run_underlying hti.und, ev, run_zeroValue hte', hst2, hn]
   refine snd_updw h hd hs rfl rfl (by simp [Obj.refs]) (setRow_vstp h1 (by omega) _) hrun (fun X' hX => ?_) (fun X' => .any _) hxr
   refine put_obj hX h1 h2 h3 h4 h5 (by omega) h6 h7 h8 hnl (fun i _ => by rw [← hle.spec.1, hd1, hzs]) fun i j hi hj => ?_
   have hlt : i * te.size + j < n * te.size := by
    have : (i + 1) * te.size ≤ n * te.size := Nat.mul_le_mul_right _ hi
    rw [Nat.add_mul, Nat.one_mul] at this; omega
   have hm : (i * te.size + j) % te.size = j := by rw [Nat.add_comm, Nat.add_mul_mod_self_right, Nat.mod_eq_of_lt hj]
   have hg : (Builtin.zeroCells z2.cells n).toList.getD (i * te.size + j) undef = z2.cells.getD j undef := by
    have := rangeMap_getD (n * z2.cells.size) (fun i => z2.cells[i % z2.cells.size]!) (i * te.size + j) (by rw [hzs]; exact hlt)
    have e1 : (Builtin.zeroCells z2.cells n).toList.getD (i * te.size + j) undef = (Builtin.zeroCells z2.cells n).getD (i * te.size + j) undef := by simp [List.getD_eq_getElem?_getD, Array.getD_eq_getD_getElem?]
    rw [e1]
    unfold Builtin.zeroCells
    rw [this, hzs, hm]
    have : j < z2.cells.size := by rw [hzs]; exact hj
    simp [this]
   rw [hg]
   exact hle.spec.2 j _ _ _ (hd2 j (by rw [hd1, hzs]; exact hj))
 | nil ad0 ad' h1 h2 h3 => exact hn0 _ ev ⟨_, _, rfl⟩ h3
theorem snd_vappend (hL : LOk P L) (h : Conc C nt R η e s a w) {o : Oper} (hd : ∀ x, o.dst = some x → x < nt) {t : TypeId} {x y : Operand} (hop : o.op = .call { callee := .builtin .append, args := #[x, y], argTypes := #[t, t] })
  {ti : TI} (ht : L t = some ti) {el : Nat} (hk : ti.kind = .slice el) {te : TI} (hte : L el = some te)
  {id lo n lo2 k N : Nat} {f : Nat → List DVal} (hx : asV s te.size (aev e x) = some (id, lo, n)) (hy : asV s te.size (aev e y) = some (id, lo2, k)) (hs : s id = some (.arr te.size N f)) (hc : lo + n + k ≤ N) :
  Snd P C nt R η e s a w o { v := .v (.c (.sub id te.size lo (n + k))), upd := some (id, .arr te.size N fun i => if lo + n ≤ i ∧ i < lo + n + k then (fun j => f (lo2 + j)) (i - (lo + n)) else f i) } := by
 obtain ⟨i, dd, z, hti⟩ := hL t ti ht
 obtain ⟨i2, d2, z2, hte'⟩ := hL el te hte
 have hkd := hti.kind
 rw [hk] at hkd
 simp only [KOk] at hkd
 subst hkd
 have hvo := view_ok h hx hs
 have hvy := view_ok h hy hs
 have hst := h.st id _ hs
 have hexec : ∀ {v : Value} {w' : World}, (Builtin.append_ #[t, t] o.type #[a.eval x, a.eval y]).run P w = .ok v w' → (execOp a.eval o).run P w = .ok (.value v) w' := by
  intro v w' hh
  simp [execOp, hop, resolve, invoke, builtin, hh]
 have hR : ∀ j ∈ (AVal.v (.c (.sub id te.size lo (n + k)))).refs, R j := by
  intro j hj
  simp [AVal.refs, TV.refs, CV.refs] at hj
  rw [hj]; exact (h.sr id _ hs).1
 have hrep : ∀ {w' : World} (X' : Nat → Prop) {ad : Option Addr} {cap : Nat}, VOk w (XS C s η) η id te.size N f lo n (.slice ad n cap) → ARep w' X' η C (.slice ad (n + k) cap) (.v (.c (.sub id te.size lo (n + k)))) := by
  intro w' X' ad cap hv
  generalize hg : Value.slice ad n cap = v at hv
  cases hv with
  | some b cap' c e' h1 h2 h3 h4 h5 h6 h7 h8 h9 => cases hg; exact .v _ _ (.c _ _ (.sub b N cap' id te.size lo (n + k) h1 (by omega) h9))
  | nil ad0 ad' h1 h2 h3 =>
   cases hg
   have : 0 + k = 0 := by omega
   rw [this]; subst h2; exact .v _ _ (.c _ _ (.subN ad0 _ _ id _ h1))
 obtain ⟨ad, cap, ev, hn, hN⟩ := hvo.slice
 obtain ⟨ad2, cap2, ev2, hn2, hN2⟩ := hvy.slice
 by_cases hk0 : k = 0
 ·subst hk0
  refine snd_updw h hd hs rfl rfl (by simp [Obj.refs]) (Stp.refl _ _) (hexec (v := .slice ad n cap) (w' := w) (by rw [ev, ev2]; exact append_zero t o.type hti.und hte'.info ad n cap hn ad2 cap2)) (fun X' hX => ?_) (fun X' => by rw [ev] at hvo; exact hrep X' hvo) hR
  have key : ORep w X' η C (η id) (.arr te.size N f) := hst.mono hX (fun j hj => rfl) fun b hb => rfl
  rw [← fun_noop (k := 0) (lo := lo + n) (f := f) (g := fun j => f (lo2 + j)) rfl] at key
  exact key
 ·rw [ev2] at hvy
  generalize hg2 : Value.slice ad2 k cap2 = v2 at hvy
  cases hvy with
  | nil ad0 ad' h1 h2 h3 => exact absurd h3 hk0
  | some b cap' c e' h1 h2 h3 h4 h5 h6 h7 h8 h9 =>
   cases hg2
   rw [ev] at hvo
   have hvo' := hvo
   generalize hg : Value.slice ad n cap = v at hvo
   cases hvo with
   | nil ad0 ad' g1 g2 g3 => omega
   | some b' cap'' c' e'' g1 g2 g3 g4 g5 g6 g7 g8 g9 =>
    rw [h1] at g1
    cases g1
    cases hg
    rw [h2] at g2
    cases g2
    have hN' : lo2 * te.size + k * te.size ≤ c.size := by rw [h3, ← Nat.add_mul]; exact Nat.mul_le_mul_right _ (by omega)
    have hnl : (vals c (lo2 * te.size) (k * te.size)).length = k * te.size := by simp [vals]
    have hnd : ∀ p q, p < k → q < te.size → DRep w (XS C s η) ((vals c (lo2 * te.size) (k * te.size)).getD (p * te.size + q) undef) ((f (lo2 + p)).getD q .any) := by
     intro p q hp hq
     have hlt : p * te.size + q < k * te.size := by
      have : (p + 1) * te.size ≤ k * te.size := Nat.mul_le_mul_right _ hp
      rw [Nat.add_mul, Nat.one_mul] at this; omega
     have e1 : (vals c (lo2 * te.size) (k * te.size)).getD (p * te.size + q) undef = c.getD (lo2 * te.size + (p * te.size + q)) undef := by simp [vals, List.getD_eq_getElem?_getD, hlt]
     have e2 : lo2 * te.size + (p * te.size + q) = (lo2 + p) * te.size + q := by rw [Nat.add_mul]; omega
     rw [e1, e2]; exact h7 _ _ (by omega) hq
    have hncell : ∀ j u, (vals c (lo2 * te.size) (k * te.size))[j]? = some u → w.cell? ((⟨b, lo2 * te.size, none⟩ : Addr).add j) = some u := by
     intro j u hj
     simp only [vals, List.getElem?_map] at hj
     by_cases hjj : j < k * te.size
     ·rw [List.getElem?_range hjj] at hj
      cases hj
      rw [add_lit]; exact cell_at h2 _ (by omega)
     ·rw [List.getElem?_eq_none (by simp; omega)] at hj; cases hj
    have hone : ∀ u ∈ vals c (lo2 * te.size) (k * te.size), u.oneCell' = true := by
     intro u hu
     obtain ⟨j, hj, rfl⟩ := List.getElem_of_mem hu
     rw [hnl] at hj
     have hes : 0 < te.size := by
      rcases Nat.eq_zero_or_pos te.size with hz | hz
      ·rw [hz, Nat.mul_zero] at hj; omega
      ·exact hz
     have p1 : j / te.size < k := Nat.div_lt_of_lt_mul (by rw [Nat.mul_comm]; exact hj)
     have p2 : j % te.size < te.size := Nat.mod_lt _ hes
     have := (hnd _ _ p1 p2).one
     rw [show j / te.size * te.size + j % te.size = j from by rw [Nat.mul_comm]; exact Nat.div_add_mod j te.size] at this
     simpa [hnl, hj] using this
    have hfc := run_firstCells_some (P := P) w i2.size k ⟨b, lo2 * te.size, none⟩ k (cap' - lo2) (vals c (lo2 * te.size) (k * te.size)) (by rw [hte'.size]; exact hnl) hncell
    have hfit : lo * te.size + n * te.size + 0 + (vals c (lo2 * te.size) (k * te.size)).length ≤ c.size := by
     rw [hnl, h3, Nat.add_zero, ← Nat.add_mul, ← Nat.add_mul]; exact Nat.mul_le_mul_right _ (by omega)
    have hst2 := run_storeCells_at P b (lo * te.size + n * te.size) e' (vals c (lo2 * te.size) (k * te.size)) 0 c w h2 hfit hone
    simp only [Nat.add_zero] at hst2
    have hroom : n + k ≤ cap' - lo := by omega
    have hadd : (lo + n) * te.size = lo * te.size + n * te.size := Nat.add_mul _ _ _
    have hrun := hexec (v := .slice (some ⟨b, lo * te.size, none⟩) (n + k) (cap' - lo)) (w' := w.setRow b (c.toList.take (lo * te.size + n * te.size) ++ vals c (lo2 * te.size) (k * te.size) ++ c.toList.drop (lo * te.size + n * te.size + (vals c (lo2 * te.size) (k * te.size)).length)).toArray) (by
     rw [ev, ev2]
     rw [hte'.size] at hfc
     simp [Builtin.append_, run_underlying hti.und, sizeOf, typeInfo, hte'.info, hte'.size, Builtin.lenOf, hroom, hfc, Addr.add_lit, hst2])
    rw [← hadd] at hrun
    refine snd_updw h hd hs rfl rfl (by simp [Obj.refs]) (setRow_vstp h1 (by omega) _) hrun (fun X' hX => ?_) (fun X' => hrep X' hvo') hR
    exact put_obj hX h1 h2 h3 h4 h5 (by omega) h6 h7 hc hnl (fun i hi => h6 _ (by omega)) hnd
end
end Go.Ab
end

section
namespace Go.Ab
section
variable {P : Program} {C : Ctx} {nt : Nat} {L : Lay} {ops : Array Oper} {ds : List Dir} {e : Env} {s : Sto}
def rE (r : SR) : Array Oper → Oper → Env → Eff := fun ops o e => effRun ops o e r r.v
theorem stT_snd {o : Oper} (hdo : dstOk nt o = true) {r : SR} (hg : gval ops e o = some true)
  (hsnd : ∀ (R : Nat → Prop) (η : Nat → Value) (e0 : Env) (s0 : Sto) (a : Act) (w : World), (∀ x ∈ o.op.operands.toList, aev e0 x = aev e x) → (∀ x ∈ o.op.operands.toList, ∀ i ∈ (aev e x).refs, s0 i = s i) → (∀ d, o.dst = some d → r.new ≠ none → ¬ R d) →
   Conc C nt R η e0 s0 a w → Snd P C nt R η e0 s0 a w o r) : StT P C nt ops o (effRun ops o e r r.v) e s := by
 intro R η e0 s0 a w hrd hids hfr hconc K Q hK
 have hx : ∀ x ∈ o.op.operands.toList, aev e0 x = aev e x := by
  intro x hx
  cases x with
  | tmp t => exact hrd t (List.mem_append.2 (.inl (List.mem_filterMap.2 ⟨_, hx, rfl⟩)))
  | const v => rfl
  | global g => rfl
  | func f => rfl
 have hsx : ∀ x ∈ o.op.operands.toList, ∀ i ∈ (aev e x).refs, s0 i = s i := fun x hx i hi => hids i (List.mem_flatMap.2 ⟨x, hx, hi⟩)
 have hw := wanted_of (e := e) hconc (fun t ht => hrd t (List.mem_append.2 (.inr ht))) hg
 rw [if_pos hw]
 have h1 := hsnd R η e0 s0 a w hx hsx (fun d hd hn => hfr d (by
  obtain ⟨ob, hob⟩ := Option.ne_none_iff_exists'.1 hn
  simp [effRun, SR.nw, hob, hd])) hconc
 refine h1.wp fun η' a' w' hc' => hK η' a' w' ?_
 have hc2 := hc'.wider (sr_rng r o.dst R)
 have hsto : upS (effRun ops o e r r.v).l s0 = r.sto o.dst s0 := sr_sto r o.dst s0
 rw [hsto]
 have henv : setE o.dst (effRun ops o e r r.v).v e0 = r.env o.dst e0 := rfl
 rw [henv]
 exact hc2
theorem asV_local {s0 : Sto} {es : Nat} {x : AVal} (h : ∀ i ∈ x.refs, s0 i = s i) : asV s0 es x = asV s es x := by
 unfold asV
 split
 ·rw [h _ (by simp [AVal.refs, TV.refs, CV.refs])]
 ·rfl
 ·rfl
theorem asV_ref {es : Nat} {x : AVal} {id lo n : Nat} (h : asV s es x = some (id, lo, n)) : id ∈ x.refs := by
 unfold asV at h
 split at h
 ·split at h
  ·split at h
   ·cases h; simp [AVal.refs, TV.refs, CV.refs]
   ·cases h
  ·cases h
 ·split at h
  ·cases h; simp [AVal.refs, TV.refs, CV.refs]
  ·cases h
 ·cases h
def slT (L : Lay) (t : TypeId) (te : TI) : Prop := ∃ ti el, L t = some ti ∧ ti.kind = .slice el ∧ L el = some te
variable {k : Nat}
theorem KAt.vslice (hL : LOk P L) {te : TI} {t : TypeId} (hT : slT L t te) {x : Operand} {lo hi : Option Operand} {l u : Option Int} {id lo0 n N : Nat} {f : Nat → List DVal} {r : AVal}
  (hk : dirAt ds k = rE { v := r }) (hop : (opAt ops.toList k).op = .slice t x lo hi none)
  (hdo : (dstOk nt (opAt ops.toList k) && (gval ops (arunE L ops ops.toList ds e s k) (opAt ops.toList k) == some true)) = true)
  (hl : oI (arunE L ops ops.toList ds e s k) lo = some l) (hu : oI (arunE L ops ops.toList ds e s k) hi = some u)
  (hx : asV (arunS L ops ops.toList ds e s k) te.size (aev (arunE L ops ops.toList ds e s k) x) = some (id, lo0, n)) (hs : arunS L ops ops.toList ds e s k id = some (.arr te.size N f))
  (hc : 0 ≤ l.getD 0 ∧ l.getD 0 ≤ u.getD n ∧ (lo0 : Int) + u.getD n ≤ N) (hr : r = .v (.c (.sub id te.size (lo0 + (l.getD 0).toNat) ((u.getD n).toNat - (l.getD 0).toNat)))) : KAt P C nt L ops ds e s k := by
 unfold KAt
 rw [hk]
 simp only [Bool.and_eq_true, beq_iff_eq] at hdo
 obtain ⟨ti, el, ht, hkd, hte⟩ := hT
 refine stT_snd hdo.1 hdo.2 fun R η e0 s0 a w he hss _ hcc => ?_
 have ho : ∀ y, (y = x ∨ lo = some y ∨ hi = some y) → y ∈ (opAt ops.toList k).op.operands.toList := by
  intro y hy
  rw [hop]
  rcases hy with h | h | h
  ·subst h; simp [Op.operands]
  ·subst h; simp [Op.operands, optional]
  ·subst h; simp [Op.operands, optional]
 have hx0 : asV s0 te.size (aev e0 x) = some (id, lo0, n) := by
  rw [he x (ho x (.inl rfl)), asV_local (hss x (ho x (.inl rfl)))]; exact hx
 have hs0 : s0 id = some (.arr te.size N f) := by rw [hss x (ho x (.inl rfl)) id (asV_ref hx)]; exact hs
 have hl0 : oI e0 lo = some l := by rw [oI_local fun y hy => he y (ho y (.inr (.inl hy)))]; exact hl
 have hu0 : oI e0 hi = some u := by rw [oI_local fun y hy => he y (ho y (.inr (.inr hy)))]; exact hu
 rw [hr]
 exact snd_vslice hL hcc (fun d hd => dst_lt hdo.1 d hd) hop ht hkd hte hl0 hu0 hx0 hs0 hc
theorem KAt.vslice3 (hL : LOk P L) {te : TI} {t : TypeId} (hT : slT L t te) {x ol oh om : Operand} {l u m : Int} {id lo0 n N : Nat} {f : Nat → List DVal}
  (hk : dirAt ds k = rE { v := .any }) (hop : (opAt ops.toList k).op = .slice t x (some ol) (some oh) (some om))
  (hdo : (dstOk nt (opAt ops.toList k) && (gval ops (arunE L ops ops.toList ds e s k) (opAt ops.toList k) == some true)) = true)
  (hl : asI (aev (arunE L ops ops.toList ds e s k) ol) = some l) (hu : asI (aev (arunE L ops ops.toList ds e s k) oh) = some u) (hm : asI (aev (arunE L ops ops.toList ds e s k) om) = some m)
  (hx : asV (arunS L ops ops.toList ds e s k) te.size (aev (arunE L ops ops.toList ds e s k) x) = some (id, lo0, n)) (hs : arunS L ops ops.toList ds e s k id = some (.arr te.size N f))
  (hc : 0 ≤ l ∧ l ≤ u ∧ u ≤ m ∧ m ≤ n) : KAt P C nt L ops ds e s k := by
 unfold KAt
 rw [hk]
 simp only [Bool.and_eq_true, beq_iff_eq] at hdo
 obtain ⟨ti, el, ht, hkd, hte⟩ := hT
 refine stT_snd hdo.1 hdo.2 fun R η e0 s0 a w he hss _ hcc => ?_
 have ho : ∀ y, (y = x ∨ y = ol ∨ y = oh ∨ y = om) → y ∈ (opAt ops.toList k).op.operands.toList := by
  intro y hy
  rw [hop]
  rcases hy with rfl | rfl | rfl | rfl <;> simp [Op.operands, optional]
 have hx0 : asV s0 te.size (aev e0 x) = some (id, lo0, n) := by
  rw [he x (ho x (.inl rfl)), asV_local (hss x (ho x (.inl rfl)))]; exact hx
 have hs0 : s0 id = some (.arr te.size N f) := by rw [hss x (ho x (.inl rfl)) id (asV_ref hx)]; exact hs
 rw [← he ol (ho ol (by simp))] at hl
 rw [← he oh (ho oh (by simp))] at hu
 rw [← he om (ho om (by simp))] at hm
 exact snd_vslice3 hL hcc (fun d hd => dst_lt hdo.1 d hd) hop ht hkd hte hl hu hm hx0 hs0 hc
theorem KAt.vlen (hL : LOk P L) {te : TI} {t : TypeId} (hT : slT L t te) {x : Operand} {es id lo0 n N : Nat} {f : Nat → List DVal}
  (hk : dirAt ds k = rE { v := vi n }) (hop : (opAt ops.toList k).op = .call { callee := .builtin .len, args := #[x], argTypes := #[t] })
  (hdo : (dstOk nt (opAt ops.toList k) && (gval ops (arunE L ops ops.toList ds e s k) (opAt ops.toList k) == some true)) = true)
  (hx : asV (arunS L ops ops.toList ds e s k) es (aev (arunE L ops ops.toList ds e s k) x) = some (id, lo0, n)) (hs : arunS L ops ops.toList ds e s k id = some (.arr es N f)) : KAt P C nt L ops ds e s k := by
 unfold KAt
 rw [hk]
 simp only [Bool.and_eq_true, beq_iff_eq] at hdo
 obtain ⟨ti, el, ht, hkd, hte⟩ := hT
 refine stT_snd hdo.1 hdo.2 fun R η e0 s0 a w he hss _ hcc => ?_
 have ho : x ∈ (opAt ops.toList k).op.operands.toList := by rw [hop]; simp [Op.operands, Call.operands]
 have hx0 : asV s0 es (aev e0 x) = some (id, lo0, n) := by
  rw [he x ho, asV_local (hss x ho)]; exact hx
 have hs0 : s0 id = some (.arr es N f) := by rw [hss x ho id (asV_ref hx)]; exact hs
 exact snd_vlen hL hcc (fun d hd => dst_lt hdo.1 d hd) hop ht hkd hx0 hs0
theorem KAt.vindex (hL : LOk P L) {te : TI} {t : TypeId} (hT : slT L t te) {x i : Operand} {m : Int} {id lo0 n N : Nat} {f : Nat → List DVal} {r : AVal}
  (hk : dirAt ds k = rE { v := r }) (hop : (opAt ops.toList k).op = .indexAddr t x i)
  (hdo : (dstOk nt (opAt ops.toList k) && (gval ops (arunE L ops ops.toList ds e s k) (opAt ops.toList k) == some true)) = true)
  (hi : asI (aev (arunE L ops ops.toList ds e s k) i) = some m)
  (hx : asV (arunS L ops ops.toList ds e s k) te.size (aev (arunE L ops ops.toList ds e s k) x) = some (id, lo0, n)) (hs : arunS L ops ops.toList ds e s k id = some (.arr te.size N f))
  (hc : 0 ≤ m ∧ m < n) (hr : r = .v (.c (.pte id te.size (lo0 + m.toNat) 0))) : KAt P C nt L ops ds e s k := by
 unfold KAt
 rw [hk]
 simp only [Bool.and_eq_true, beq_iff_eq] at hdo
 obtain ⟨ti, el, ht, hkd, hte⟩ := hT
 refine stT_snd hdo.1 hdo.2 fun R η e0 s0 a w he hss _ hcc => ?_
 have ho : x ∈ (opAt ops.toList k).op.operands.toList := by rw [hop]; simp [Op.operands]
 have ho2 : i ∈ (opAt ops.toList k).op.operands.toList := by rw [hop]; simp [Op.operands]
 have hx0 : asV s0 te.size (aev e0 x) = some (id, lo0, n) := by
  rw [he x ho, asV_local (hss x ho)]; exact hx
 have hs0 : s0 id = some (.arr te.size N f) := by rw [hss x ho id (asV_ref hx)]; exact hs
 rw [← he i ho2] at hi
 rw [hr]
 exact snd_vindex hL hcc (fun d hd => dst_lt hdo.1 d hd) hop ht hkd hte hi hx0 hs0 hc
theorem KAt.vclear (hL : LOk P L) {te : TI} {t : TypeId} (hT : slT L t te) {x : Operand} {id lo0 n N : Nat} {f g : Nat → List DVal} (zd0 zd : List DVal) (hle : DLes zd0 zd)
  (hk : dirAt ds k = rE { v := .any, upd := some (id, .arr te.size N g) }) (hop : (opAt ops.toList k).op = .call { callee := .builtin .clear, args := #[x], argTypes := #[t] })
  (hdo : (dstOk nt (opAt ops.toList k) && (gval ops (arunE L ops ops.toList ds e s k) (opAt ops.toList k) == some true)) = true) (h0 : 0 < te.size) (hzl : te.zero.length = te.size) (hz : toDs te.zero = some zd0)
  (hx : asV (arunS L ops ops.toList ds e s k) te.size (aev (arunE L ops ops.toList ds e s k) x) = some (id, lo0, n)) (hs : arunS L ops ops.toList ds e s k id = some (.arr te.size N f))
  (hg : g = fun i => if lo0 ≤ i ∧ i < lo0 + n then (fun _ => zd) (i - lo0) else f i) : KAt P C nt L ops ds e s k := by
 unfold KAt
 rw [hk, hg]
 simp only [Bool.and_eq_true, beq_iff_eq] at hdo
 obtain ⟨ti, el, ht, hkd, hte⟩ := hT
 refine stT_snd hdo.1 hdo.2 fun R η e0 s0 a w he hss _ hcc => ?_
 have ho : x ∈ (opAt ops.toList k).op.operands.toList := by rw [hop]; simp [Op.operands, Call.operands]
 have hx0 : asV s0 te.size (aev e0 x) = some (id, lo0, n) := by
  rw [he x ho, asV_local (hss x ho)]; exact hx
 have hs0 : s0 id = some (.arr te.size N f) := by rw [hss x ho id (asV_ref hx)]; exact hs
 exact snd_vclear hL hcc (fun d hd => dst_lt hdo.1 d hd) hop ht hkd hte h0 hzl hz hle hx0 hs0
theorem KAt.vappend (hL : LOk P L) {te : TI} {t : TypeId} (hT : slT L t te) {x y : Operand} {id lo0 n lo2 m N : Nat} {f g : Nat → List DVal} {r : AVal}
  (hk : dirAt ds k = rE { v := r, upd := some (id, .arr te.size N g) }) (hop : (opAt ops.toList k).op = .call { callee := .builtin .append, args := #[x, y], argTypes := #[t, t] })
  (hdo : (dstOk nt (opAt ops.toList k) && (gval ops (arunE L ops ops.toList ds e s k) (opAt ops.toList k) == some true)) = true)
  (hx : asV (arunS L ops ops.toList ds e s k) te.size (aev (arunE L ops ops.toList ds e s k) x) = some (id, lo0, n)) (hy : asV (arunS L ops ops.toList ds e s k) te.size (aev (arunE L ops ops.toList ds e s k) y) = some (id, lo2, m))
  (hs : arunS L ops ops.toList ds e s k id = some (.arr te.size N f)) (hc : lo0 + n + m ≤ N) (hr : r = .v (.c (.sub id te.size lo0 (n + m))))
  (hg : g = fun i => if lo0 + n ≤ i ∧ i < lo0 + n + m then (fun j => f (lo2 + j)) (i - (lo0 + n)) else f i) : KAt P C nt L ops ds e s k := by
 unfold KAt
 rw [hk, hg, hr]
 simp only [Bool.and_eq_true, beq_iff_eq] at hdo
 obtain ⟨ti, el, ht, hkd, hte⟩ := hT
 refine stT_snd hdo.1 hdo.2 fun R η e0 s0 a w he hss _ hcc => ?_
 have ho : x ∈ (opAt ops.toList k).op.operands.toList := by rw [hop]; simp [Op.operands, Call.operands]
 have ho2 : y ∈ (opAt ops.toList k).op.operands.toList := by rw [hop]; simp [Op.operands, Call.operands]
 have hx0 : asV s0 te.size (aev e0 x) = some (id, lo0, n) := by
  rw [he x ho, asV_local (hss x ho)]; exact hx
 have hy0 : asV s0 te.size (aev e0 y) = some (id, lo2, m) := by
  rw [he y ho2, asV_local (hss y ho2)]; exact hy
 have hs0 : s0 id = some (.arr te.size N f) := by rw [hss x ho id (asV_ref hx)]; exact hs
 exact snd_vappend hL hcc (fun d hd => dst_lt hdo.1 d hd) hop ht hkd hte hx0 hy0 hs0 hc
end
end Go.Ab
end

section
namespace Go.Ab
section
variable {P : Program} {C : Ctx} {nt : Nat} {L : Lay} {pins : List Nat} {K : Act → World → Prop}
theorem ls_cons (k : Nat) (o : Obj) (S : List (Nat × Obj)) (i : Nat) : ls ((k, o) :: S) i = if i = k then some o else ls S i := by
 unfold ls
 rw [List.lookup_cons]
 by_cases h : i = k
 ·subst h; simp
 ·have : (i == k) = false := by simpa using h
  rw [this, if_neg h]
theorem lk_cons (k : Nat) (o : AVal) (E : List (Nat × AVal)) (i : Nat) : lk ((k, o) :: E) i = if i = k then o else lk E i := by
 unfold lk
 rw [List.lookup_cons]
 by_cases h : i = k
 ·subst h; simp
 ·have : (i == k) = false := by simpa using h
  rw [this, if_neg h]
theorem Kn.shrink (Fm : Fr P L C pins) {E0 : List (Nat × AVal)} {S0 : List (Nat × Obj)} {t id es N n k : Nat} {f : Nat → List DVal} (hp : pins.contains k = false)
  (hfr : ((E0.flatMap fun p => p.2.refs) ++ (S0.flatMap fun p => p.1 :: p.2.refs)).contains k = false) (hid : (S0.map (·.1)).contains id = false)
  (hk : Kn C nt ((t, .v (.c (.own k))) :: E0) ((k, .arr es n f) :: S0) K) : Kn C nt ((t, .v (.c (.sub id es 0 n))) :: E0) ((id, .arr es N f) :: S0) K := by
 intro R η a w hc
 have hsid : ls ((id, .arr es N f) :: S0) id = some (.arr es N f) := by rw [ls_cons, if_pos rfl]
 have hv0 := hc.ev t
 rw [lk_cons, if_pos rfl] at hv0
 have hst := hc.st id _ hsid
 generalize hvv : a.tmps.getD t undef = v at hv0
 have hval : (blks v = [] ∨ (blks v = blks (η id) ∧ n ≤ N)) ∧ v.oneCell' = true ∧ (∀ X', Kept w w (XS C (ls ((id, .arr es N f) :: S0)) η) X' → ORep w X' η C v (.arr es n f)) := by
  cases hv0 with | v _ _ hv0 => cases hv0 with | c _ _ hv0 => cases hv0 with
   | sub b N' cap _ _ _ _ hη h1 h2 =>
    rw [hη] at hst ⊢
    cases hst with
    | nil => omega
    | arr _ _ _ _ c e' _ g1 g2 g3 g4 g5 g6 g7 =>
     refine ⟨.inr ⟨by simp [blks], by omega⟩, rfl, fun X' hX => ?_⟩
     rw [Nat.zero_mul, Nat.sub_zero]
     exact .arr b n cap es c e' f g1 g2 (by omega) g4 g5 (fun i hi => g6 i (by omega)) fun i j hi hj => (g7 i j (by omega) hj).mono fun x hx hn => hX x hx hn
   | subN ad ad' N' _ _ hη => exact ⟨.inl (by cases ad' <;> simp [blks]), rfl, fun X' _ => .nil _ _ _⟩
 obtain ⟨hblk, hone, horep⟩ := hval
 have hpin : C.pin k = none := by
  rcases hq : C.pin k with _ | u
  ·rfl
  ·have := Fm.pin k (by rw [hq]; simp)
   rw [List.contains_iff_mem.2 this] at hp; cases hp
 have hnk : ∀ i ∈ (E0.flatMap fun p => p.2.refs) ++ (S0.flatMap fun p => p.1 :: p.2.refs), i ≠ k := by
  intro i hi he
  subst he
  rw [List.contains_iff_mem.2 hi] at hfr; cases hfr
 have hS0 : ∀ i o, ls S0 i = some o → i ≠ k ∧ i ≠ id ∧ (∀ j ∈ o.refs, j ≠ k) ∧ ls ((id, .arr es N f) :: S0) i = some o := by
  intro i o hi
  have hm := ls_mem hi
  have hne : i ≠ id := by
   intro he; subst he
   have : i ∈ S0.map (·.1) := List.mem_map.2 ⟨_, hm, rfl⟩
   rw [List.contains_iff_mem.2 this] at hid; cases hid
  refine ⟨hnk i (List.mem_append.2 (.inr (List.mem_flatMap.2 ⟨_, hm, by simp⟩))), hne, fun j hj => hnk j (List.mem_append.2 (.inr (List.mem_flatMap.2 ⟨_, hm, by simp [hj]⟩))), ?_⟩
  rw [ls_cons, if_neg hne]; exact hi
 have hE0 : ∀ u i, i ∈ (lk E0 u).refs → i ≠ k := by
  intro u i hi
  rcases lk_mem (E := E0) (t := u) with h0 | h0
  ·rw [h0] at hi; cases hi
  ·exact hnk i (List.mem_append.2 (.inl (List.mem_flatMap.2 ⟨_, h0, hi⟩)))
 let η' : Nat → Value := fun i => if i = k then v else η i
 have hη' : ∀ i, i ≠ k → η' i = η i := fun i hi => by show (if i = k then v else η i) = _; rw [if_neg hi]
 have hηk : η' k = v := by show (if k = k then v else η k) = _; rw [if_pos rfl]
 have hown : ∀ b, Own (ls ((k, .arr es n f) :: S0)) η' b → Own (ls ((id, .arr es N f) :: S0)) η b := by
  rintro b ⟨i, o, hi, hib⟩
  rw [ls_cons] at hi
  by_cases hik : i = k
  ·subst hik
   rw [hηk] at hib
   rcases hblk with h0 | ⟨h0, _⟩
   ·rw [h0] at hib; cases hib
   ·exact ⟨id, _, hsid, h0 ▸ hib⟩
  ·rw [if_neg hik] at hi
   rw [hη' i hik] at hib
   exact ⟨i, o, (hS0 i o hi).2.2.2, hib⟩
 have hX : Kept w w (XS C (ls ((id, .arr es N f) :: S0)) η) (XS C (ls ((k, .arr es n f) :: S0)) η') := by
  intro b hb hn
  refine ⟨rfl, fun hx => ?_⟩
  rcases hx with hx | hx
  ·exact hn (.inl hx)
  ·exact hn (.inr (hown b hx))
 refine hk (fun i => R i ∨ i = k) η' a w ⟨hc.ok, hc.df, hc.sz, fun u => ?_, fun u i hi => ?_, fun i o hi => ?_, fun i o hi => ?_, fun i j b hi hj hbi hbj => ?_, fun i o b hi hb => ?_, hc.fr, fun i u hi => ?_⟩
 ·rw [lk_cons]
  by_cases hu : u = t
  ·subst hu
   rw [if_pos rfl]
   rw [hvv]
   exact .v _ _ (.c _ _ (.own _ _ hηk.symm hone))
  ·rw [if_neg hu]
   have := hc.ev u
   rw [lk_cons, if_neg hu] at this
   exact this.mono hX fun i hi => hη' i (hE0 u i hi)
 ·rw [lk_cons] at hi
  by_cases hu : u = t
  ·subst hu
   rw [if_pos rfl] at hi
   simp [AVal.refs, TV.refs, CV.refs] at hi
   exact .inr hi
  ·rw [if_neg hu] at hi
   have := hc.er u i
   rw [lk_cons, if_neg hu] at this
   exact .inl (this hi)
 ·rw [ls_cons] at hi
  by_cases hik : i = k
  ·subst hik
   rw [if_pos rfl] at hi; cases hi
   rw [hηk]
   have := horep _ hX
   refine this.mono (fun b hb hn => ⟨rfl, hn⟩) (by simp [Obj.refs]) fun _ _ => rfl
  ·rw [if_neg hik] at hi
   obtain ⟨h1, h2, h3, h4⟩ := hS0 i o hi
   rw [hη' i hik]
   exact (hc.st i o h4).mono hX (fun j hj => hη' j (h3 j hj)) fun _ _ => rfl
 ·rw [ls_cons] at hi
  by_cases hik : i = k
  ·subst hik
   rw [if_pos rfl] at hi; cases hi
   exact ⟨.inr rfl, by simp [Obj.refs]⟩
  ·rw [if_neg hik] at hi
   obtain ⟨h1, h2, h3, h4⟩ := hS0 i o hi
   have := hc.sr i o h4
   exact ⟨.inl this.1, fun j hj => .inl (this.2 j hj)⟩
 ·rw [ls_cons] at hi hj
  by_cases hik : i = k <;> by_cases hjk : j = k
  ·rw [hik, hjk]
  ·exfalso
   rw [if_neg hjk] at hj
   obtain ⟨o, ho⟩ := Option.ne_none_iff_exists'.1 hj
   obtain ⟨h1, h2, h3, h4⟩ := hS0 j o ho
   rw [hik, hηk] at hbi
   rw [hη' j hjk] at hbj
   rcases hblk with h0 | ⟨h0, _⟩
   ·rw [h0] at hbi; cases hbi
   ·exact h2 (hc.ds j id b (by rw [h4]; simp) (by rw [hsid]; simp) hbj (h0 ▸ hbi))
  ·exfalso
   rw [if_neg hik] at hi
   obtain ⟨o, ho⟩ := Option.ne_none_iff_exists'.1 hi
   obtain ⟨h1, h2, h3, h4⟩ := hS0 i o ho
   rw [hjk, hηk] at hbj
   rw [hη' i hik] at hbi
   rcases hblk with h0 | ⟨h0, _⟩
   ·rw [h0] at hbj; cases hbj
   ·exact h2 (hc.ds i id b (by rw [h4]; simp) (by rw [hsid]; simp) hbi (h0 ▸ hbj))
  ·rw [if_neg hik] at hi
   rw [if_neg hjk] at hj
   obtain ⟨o, ho⟩ := Option.ne_none_iff_exists'.1 hi
   obtain ⟨o', ho'⟩ := Option.ne_none_iff_exists'.1 hj
   rw [hη' i hik] at hbi
   rw [hη' j hjk] at hbj
   exact hc.ds i j b (by rw [(hS0 i o ho).2.2.2]; simp) (by rw [(hS0 j o' ho').2.2.2]; simp) hbi hbj
 ·rw [ls_cons] at hi
  by_cases hik : i = k
  ·subst hik
   rw [if_pos rfl] at hi; cases hi
   rw [hηk] at hb
   rcases hblk with h0 | ⟨h0, _⟩
   ·rw [h0] at hb; cases hb
   ·rcases hc.ow id _ b hsid (h0 ▸ hb) with ⟨h1, _⟩ | h1
    ·cases h1
    ·exact .inr h1
  ·rw [if_neg hik] at hi
   rw [hη' i hik] at hb
   exact hc.ow i o b (hS0 i o hi).2.2.2 hb
 ·have hik : i ≠ k := by intro he; subst he; rw [hpin] at hi; cases hi
  have := hc.pn i u hi
  exact ⟨(hη' i hik).trans this.1, .inl this.2⟩
end
end Go.Ab
end
