/- ZoneAnswers is true: at every input the law answers true, no condition but the statement's own. -/
import Derived.Test.YtoeflmnpedachaaGreatRows
import Derived.Test.YtoeflmnpedachaaGreatAbC
import Derived.Test.YtoeflmnpedachaaGreatSpA
import Derived.Test.YtoeflmnpedachaaGreatSpB
import Derived.Test.YtoeflmnpedachaaGreatLwB
import Derived.JoinedOf
import Derived.JoinedAt
import Derived.Deep.DeepHandedRow
set_option linter.unusedVariables false
set_option linter.unusedSimpArgs false
section
namespace Go.Proofs.YtoeflmnpedachaaGreat.zoneAnswers
open Go.ChangeShapes Go.WideShapes Go.ChangeAt Go.RowKit Go.Ab
set_option maxRecDepth 100000
theorem own : ownKnob Tryz.prog.godebug = none := by kernel_rfl
theorem laidOut : laidOutB Tryz.prog = true := by kernel_rfl
theorem law (a0 : (List Feature)) (a1 : Region) (a2 : Int) (a3 : Int) (a4 : Int) (a5 : Int) (a6 : Int) (l : List Int)  : ∃ F, law11_ZoneAnswers F a0 a1 a2 a3 a4 a5 a6 l = some true := ⟨BIG, law11_ZoneAnswers_ok (Nat.le_refl _) a0 a1 a2 a3 a4 a5 a6 l ⟩
theorem opT3 : OpT Tryz.prog 3 Int := opT_int Tryz.underlying3
theorem opT108 : OpT Tryz.prog 108 Rect := fun h => by
 obtain ⟨hl, hf⟩ := trod_field Tryz.underlying108 h
 obtain ⟨n0, y0, h0⟩ := trod_fld hf 0 _ rfl (t := 3) (o := 0) (k := 1) rfl rfl (by kernel_rfl)
 obtain ⟨x0, c0⟩ := opT3 h0
 obtain ⟨n1, y1, h1⟩ := trod_fld hf 1 _ rfl (t := 3) (o := 1) (k := 1) rfl rfl (by kernel_rfl)
 obtain ⟨x1, c1⟩ := opT3 h1
 obtain ⟨n2, y2, h2⟩ := trod_fld hf 2 _ rfl (t := 3) (o := 2) (k := 1) rfl rfl (by kernel_rfl)
 obtain ⟨x2, c2⟩ := opT3 h2
 obtain ⟨n3, y3, h3⟩ := trod_fld hf 3 _ rfl (t := 3) (o := 3) (k := 1) rfl rfl (by kernel_rfl)
 obtain ⟨x3, c3⟩ := opT3 h3
 refine ⟨⟨x0, x1, x2, x3⟩, hl.trans (by kernel_rfl), fun j hj => ?_⟩
 have hj : j < 4 := hj
 rcases j with _ | _ | _ | _ | j
 ·exact (Cel.at c0 (j := 0) (by decide) (by decide))
 ·exact (Cel.at c1 (j := 0) (by decide) (by decide))
 ·exact (Cel.at c2 (j := 0) (by decide) (by decide))
 ·exact (Cel.at c3 (j := 0) (by decide) (by decide))
 ·omega
theorem opT33 : OpT Tryz.prog 33 Region := fun h => by
 obtain ⟨hl, hf⟩ := trod_field Tryz.underlying33 h
 obtain ⟨n0, y0, h0⟩ := trod_fld hf 0 _ rfl (t := 31) (o := 0) (k := 1) rfl rfl (by kernel_rfl)
 obtain ⟨v0, e0, x0, d0⟩ := open_row Tryz.underlying31 opT108 (by kernel_rfl) (by decide) h0
 have g0 := opT_get e0
 rw [← g0] at d0
 refine ⟨⟨x0⟩, hl.trans (by kernel_rfl), fun j hj => ?_⟩
 have hj : j < 1 := hj
 rcases j with _ | j
 ·exact d0
 ·omega
theorem opT78 : OpT Tryz.prog 78 Feature := fun h => by
 obtain ⟨hl, hf⟩ := trod_field Tryz.underlying78 h
 obtain ⟨n0, y0, h0⟩ := trod_fld hf 0 _ rfl (t := 3) (o := 0) (k := 1) rfl rfl (by kernel_rfl)
 obtain ⟨x0, c0⟩ := opT3 h0
 obtain ⟨n1, y1, h1⟩ := trod_fld hf 1 _ rfl (t := 3) (o := 1) (k := 1) rfl rfl (by kernel_rfl)
 obtain ⟨x1, c1⟩ := opT3 h1
 obtain ⟨n2, y2, h2⟩ := trod_fld hf 2 _ rfl (t := 3) (o := 2) (k := 1) rfl rfl (by kernel_rfl)
 obtain ⟨x2, c2⟩ := opT3 h2
 obtain ⟨n3, y3, h3⟩ := trod_fld hf 3 _ rfl (t := 3) (o := 3) (k := 1) rfl rfl (by kernel_rfl)
 obtain ⟨x3, c3⟩ := opT3 h3
 obtain ⟨n4, y4, h4⟩ := trod_fld hf 4 _ rfl (t := 33) (o := 4) (k := 1) rfl rfl (by kernel_rfl)
 obtain ⟨x4, c4⟩ := opT33 h4
 refine ⟨⟨x0, x1, x2, x3, x4⟩, hl.trans (by kernel_rfl), fun j hj => ?_⟩
 have hj : j < 5 := hj
 rcases j with _ | _ | _ | _ | _ | j
 ·exact (Cel.at c0 (j := 0) (by decide) (by decide))
 ·exact (Cel.at c1 (j := 0) (by decide) (by decide))
 ·exact (Cel.at c2 (j := 0) (by decide) (by decide))
 ·exact (Cel.at c3 (j := 0) (by decide) (by decide))
 ·exact (Cel.at c4 (j := 0) (by decide) (by decide))
 ·omega
theorem contract (H : Type) (enc : TypeId × Value → H) (W : World) (base : Nat) (args : Array Value) (ds gs : List (DataW H)) (before : List MemPlace)
  (hval : ∀ (j : Nat) t v, Tryz.f11.params[j]? = some t → args[j]? = some v → Value.okWide Tryz.prog W .any base t v)
  (hW : DataW.Whole enc Tryz.prog Tryz.f11.params.toList Rows.zoneAnswersSpec.vars false W args.toList ds gs before) :
  Calls Tryz.prog 11 args W fun e W' => ∃ v, e = .returned v ∧ Rows.zoneAnswersSpec.post enc Tryz.prog Tryz.f11 false true false false W args v W' := by
 have hW' := hW
 obtain ⟨p, q, hA0, hV, rfl, _, _⟩ := hW
 have hA : DataW.TrodAll enc Tryz.prog W 0 (fun _ => true) true Tryz.f11.params.toList args.toList ds p := hA0
 rw [Tryz.params11] at hA hval
 obtain ⟨v0, vs0, d0, ds0, p0, q0, hargs0, rfl, rfl, h0, r0⟩ := trodAll_cons hA
 obtain ⟨v1, vs1, d1, ds1, p1, q1, hargs1, rfl, rfl, h1, r1⟩ := trodAll_cons r0
 obtain ⟨v2, vs2, d2, ds2, p2, q2, hargs2, rfl, rfl, h2, r2⟩ := trodAll_cons r1
 obtain ⟨v3, vs3, d3, ds3, p3, q3, hargs3, rfl, rfl, h3, r3⟩ := trodAll_cons r2
 obtain ⟨v4, vs4, d4, ds4, p4, q4, hargs4, rfl, rfl, h4, r4⟩ := trodAll_cons r3
 obtain ⟨v5, vs5, d5, ds5, p5, q5, hargs5, rfl, rfl, h5, r5⟩ := trodAll_cons r4
 obtain ⟨v6, vs6, d6, ds6, p6, q6, hargs6, rfl, rfl, h6, r6⟩ := trodAll_cons r5
 obtain ⟨v7, vs7, d7, ds7, p7, q7, hargs7, rfl, rfl, h7, r7⟩ := trodAll_cons r6
 obtain ⟨rfl, rfl, rfl⟩ := trodAll_nil r7
 obtain rfl : args = #[v0, v1, v2, v3, v4, v5, v6, v7] := by cases args; simp_all
 obtain ⟨rfl, rfl⟩ := trodVars_none hV
 obtain ⟨a0, hc0⟩ := open_listD Tryz.underlying76 opT78 (by kernel_rfl) (by decide) (hval 0 76 v0 rfl rfl) h0
 obtain ⟨c1, a1, rfl, hc1⟩ := open_structD Tryz.underlying33 opT33 (hval 1 33 v1 rfl rfl) h1
 obtain ⟨a2, rfl, rfl, rfl, w2⟩ := open_int Tryz.underlying3 (hval 2 3 v2 rfl rfl) h2
 obtain ⟨a3, rfl, rfl, rfl, w3⟩ := open_int Tryz.underlying3 (hval 3 3 v3 rfl rfl) h3
 obtain ⟨a4, rfl, rfl, rfl, w4⟩ := open_int Tryz.underlying3 (hval 4 3 v4 rfl rfl) h4
 obtain ⟨a5, rfl, rfl, rfl, w5⟩ := open_int Tryz.underlying3 (hval 5 3 v5 rfl rfl) h5
 obtain ⟨a6, rfl, rfl, rfl, w6⟩ := open_int Tryz.underlying3 (hval 6 3 v6 rfl rfl) h6
 obtain ⟨l, hl, _⟩ := open_intsD Tryz.underlying22 Tryz.underlying3 (by kernel_rfl) (hval 7 22 v7 rfl rfl) h7
 obtain ⟨F, hF⟩ := law a0 a1 a2 a3 a4 a5 a6 l
 have hsp := law11_ZoneAnswers_spec hF W (fun _ => False) (fun _ => undef) #[v0, .agg c1, .int .i64 a2, .int .i64 a3, .int .i64 a4, .int .i64 a5, .int .i64 a6, v7] (fun b hb => hb.elim) (fun b ⟨i, o, hi, _⟩ => by cases hi) (fun i o hi => by cases hi) (fun i j b hi => absurd rfl hi) rfl
  (fun j hj => by
   have : j = 0 ∨ j = 1 ∨ j = 2 ∨ j = 3 ∨ j = 4 ∨ j = 5 ∨ j = 6 ∨ j = 7 := by simp at hj; omega
   rcases this with rfl | rfl | rfl | rfl | rfl | rfl | rfl | rfl
   ·exact .v _ _ (.c _ _ (.d _ _ hc0))
   ·exact .v _ _ (cel_rep hc1)
   ·exact .v _ _ (.c _ _ (.d _ _ (.int _ _)))
   ·exact .v _ _ (.c _ _ (.d _ _ (.int _ _)))
   ·exact .v _ _ (.c _ _ (.d _ _ (.int _ _)))
   ·exact .v _ _ (.c _ _ (.d _ _ (.int _ _)))
   ·exact .v _ _ (.c _ _ (.d _ _ (.int _ _)))
   ·exact .v _ _ (.c _ _ (.d _ _ hl)))
 refine hsp.mono fun e W' hh => ?_
 obtain ⟨v, η', he, hb⟩ := hh
 have hres := hb.res
 have hv : v = .bool true := by
  cases hres with | v _ _ hh => cases hh with | c _ _ hh => cases hh with | d _ _ hh => cases hh; rfl
 subst hv
 refine ⟨_, he, post_true laidOut hW' rfl rfl (by kernel_rfl) (t := 4) (by kernel_rfl) Tryz.underlying4 (hb.stp.mono fun b _ hM => by obtain ⟨i, o, hi, _⟩ := hM; cases hi)⟩
set_option maxRecDepth 100000 in
theorem lifted (os : Os) (started : os.Started) (H : Type) (enc : TypeId × Value → H) :
  ReturnsInHanded {} Tryz.checked os 11 .any (Rows.zoneAnswersSpec.pre6 enc Tryz.prog Tryz.f11 Rows.zoneAnswersRow.domain false) (Rows.zoneAnswersSpec.post enc Tryz.prog Tryz.f11 false true false false) := by
 refine returnsInHanded_of_change (C := Tryz.checked) own started (by kernel_rfl) Tryz.func11
  (ChangeSpec.witness6 (enc := enc) (C := Tryz.checked) false ⟨#[], #[.slice none 0 0, .agg #[.slice none 0 0], .int .i64 0, .int .i64 0, .int .i64 0, .int .i64 0, .int .i64 0, .slice none 0 0], []⟩ 8 (by kernel_rfl) (by kernel_rfl) (by kernel_rfl) (by kernel_rfl)) ?_
 intro W base args ds gs before hval hW _ _
 exact contract H enc W base args ds gs before hval hW
theorem am {a b : Bool} (h : a = true) (h' : b = true) : (a && b) = true := by rw [h, h']; rfl
theorem cA : (Rows.zoneAnswersRow.wf (OpenSpec.ofChange Rows.zoneAnswersSpec) && laidOutB Tryz.pinned.checked.prog && mapsRowed Tryz.pinned.checked.prog && Tryz.f11.params.all (Tryz.pinned.checked.prog.readableRec ·) && namedTie Tryz.pinned.checked.prog Rows.zoneAnswersRow.named Rows.zoneAnswersSpec.vars && (Rows.zoneAnswersRow.stops == []) && (Tryz.pinned.checked.prog.stops == []) && (Rows.zoneAnswersRow.knobs == []) && (Tryz.pinned.checked.prog.stopKnobs == [])) = true := by kernel_rfl
theorem cB : (Rows.zoneAnswersRow.inPlace == Tryz.pinned.checked.prog.inPlace 11) = true := by kernel_rfl
theorem cC : (Rows.zoneAnswersRow.unfollowed == Tryz.pinned.checked.prog.unfollowed 11) = true := by kernel_rfl
theorem cD : (Rows.zoneAnswersRow.recurses == Tryz.pinned.checked.prog.recurses 11) = true := by kernel_rfl
theorem cE : (Rows.zoneAnswersRow.named == Tryz.pinned.checked.prog.varsNamed 11) = true := by kernel_rfl
theorem cF : Tryz.pinned.checked.prog.mayEnter = true := by kernel_rfl
theorem cG : (Rows.zoneAnswersRow.lifted == Tryz.pinned.checked.prog.liftsFinal) = true := by kernel_rfl
theorem cH : (Tryz.pinned.checked.prog.make == some Rows.zoneAnswersRow.make) = true := by kernel_rfl
theorem closed : joinedFacts Tryz.pinned.checked.prog 11 Tryz.f11 Rows.zoneAnswersSpec Rows.zoneAnswersRow = true :=
 am (am (am (am (am (am (am (am (am (am (am (am (am (am (am (am (am (am (am (am (am (am (am cA cB) cC) cD) cE) (by kernel_rfl)) (by kernel_rfl)) (by kernel_rfl)) (by kernel_rfl)) (by kernel_rfl)) (by kernel_rfl)) (by kernel_rfl)) (by kernel_rfl)) (by kernel_rfl)) (by kernel_rfl)) (by kernel_rfl)) (by kernel_rfl)) cF) cG) cH) (by kernel_rfl)) (by kernel_rfl)) (by kernel_rfl)) (by kernel_rfl)
theorem proved : Rows.ZoneAnswersSaid :=
 OpenClaim.holds_of_wide 11 Tryz.f11 rfl rfl rfl rfl rfl rfl rfl ⟨rfl, rfl, rfl, rfl, rfl⟩ rfl rfl rfl rfl rfl (by kernel_rfl) Tryz.func11 closed
  (of_decide_eq_true (by kernel_rfl)) (by unfold Func.isWrapper; first | (rw [if_pos (by decide +kernel)]; kernel_rfl) | (rw [if_neg (by decide +kernel)]; exact ⟨rfl, rfl⟩))
  (fun os started H enc _ => lifted os started H enc)
end Go.Proofs.YtoeflmnpedachaaGreat.zoneAnswers
end
