/- FeatureDays is true: at every input the law answers true, no condition but the statement's own. -/
import Derived.Test.YthifkkpkmdpoiaaRows
import Derived.Test.YthifkkpkmdpoiaaAbC
import Derived.Test.YthifkkpkmdpoiaaSpA
import Derived.Test.YthifkkpkmdpoiaaSpB
import Derived.Test.YthifkkpkmdpoiaaLwA
import Derived.JoinedOf
import Derived.JoinedAt
import Derived.Deep.DeepHandedRow
set_option linter.unusedVariables false
set_option linter.unusedSimpArgs false
section
namespace Go.Proofs.Ythifkkpkmdpoiaa.featureDays
open Go.ChangeShapes Go.WideShapes Go.ChangeAt Go.RowKit Go.Ab
set_option maxRecDepth 100000
theorem own : ownKnob Try.prog.godebug = none := by kernel_rfl
theorem laidOut : laidOutB Try.prog = true := by kernel_rfl
theorem law (l : List Int)  : ∃ F, law09_FeatureDays F l = some true := ⟨BIG, law09_FeatureDays_ok (Nat.le_refl _) l ⟩
theorem contract (H : Type) (enc : TypeId × Value → H) (W : World) (base : Nat) (args : Array Value) (ds gs : List (DataW H)) (before : List MemPlace)
  (hval : ∀ (j : Nat) t v, Try.f4.params[j]? = some t → args[j]? = some v → Value.okWide Try.prog W .any base t v)
  (hW : DataW.Whole enc Try.prog Try.f4.params.toList Rows.featureDaysSpec.vars false W args.toList ds gs before) :
  Calls Try.prog 4 args W fun e W' => ∃ v, e = .returned v ∧ Rows.featureDaysSpec.post enc Try.prog Try.f4 false true false false W args v W' := by
 have hW' := hW
 obtain ⟨p, q, hA0, hV, rfl, _, _⟩ := hW
 have hA : DataW.TrodAll enc Try.prog W 0 (fun _ => true) true Try.f4.params.toList args.toList ds p := hA0
 rw [Try.params4] at hA hval
 obtain ⟨v0, vs0, d0, ds0, p0, q0, hargs0, rfl, rfl, h0, r0⟩ := trodAll_cons hA
 obtain ⟨rfl, rfl, rfl⟩ := trodAll_nil r0
 obtain rfl : args = #[v0] := by cases args; simp_all
 obtain ⟨rfl, rfl⟩ := trodVars_none hV
 obtain ⟨l, hl, _⟩ := open_intsD Try.underlying22 Try.underlying3 (by kernel_rfl) (hval 0 22 v0 rfl rfl) h0
 obtain ⟨F, hF⟩ := law l
 have hsp := law09_FeatureDays_spec hF W (fun _ => False) (fun _ => undef) #[v0] (fun b hb => hb.elim) (fun b ⟨i, o, hi, _⟩ => by cases hi) (fun i o hi => by cases hi) (fun i j b hi => absurd rfl hi) rfl
  (fun j hj => by
   have : j = 0 := by simp at hj; omega
   subst this
   exact .v _ _ (.c _ _ (.d _ _ hl)))
 refine hsp.mono fun e W' hh => ?_
 obtain ⟨v, η', he, hb⟩ := hh
 have hres := hb.res
 have hv : v = .bool true := by
  cases hres with | v _ _ hh => cases hh with | c _ _ hh => cases hh with | d _ _ hh => cases hh; rfl
 subst hv
 refine ⟨_, he, post_trueB laidOut hW' rfl rfl (by kernel_rfl) (t := 4) (by kernel_rfl) Try.underlying4 ⟨hb.stp.os, hb.stp.tape, hb.stp.output, hb.stp.size, fun k hk => hb.stp.block k hk fun hM => by obtain ⟨i, o, hi, _⟩ := hM; cases hi⟩⟩
set_option maxRecDepth 100000 in
theorem lifted (os : Os) (started : os.Started) (H : Type) (enc : TypeId × Value → H) :
  ReturnsInHanded {} Try.checked os 4 .any (Rows.featureDaysSpec.pre6 enc Try.prog Try.f4 Rows.featureDaysRow.domain false) (Rows.featureDaysSpec.post enc Try.prog Try.f4 false true false false) := by
 refine returnsInHanded_of_change (C := Try.checked) own started (by kernel_rfl) Try.func4
  (ChangeSpec.witness6 (enc := enc) (C := Try.checked) false ⟨#[], #[.slice none 0 0], []⟩ 8 (by kernel_rfl) (by kernel_rfl) (by kernel_rfl) (by kernel_rfl)) ?_
 intro W base args ds gs before hval hW _ _
 exact contract H enc W base args ds gs before hval hW
theorem proved : Rows.FeatureDaysSaid :=
 OpenClaim.holds_of_wide 4 Try.f4 rfl rfl rfl rfl rfl rfl rfl ⟨rfl, rfl, rfl, rfl, rfl⟩ rfl rfl rfl rfl rfl (by kernel_rfl) Try.func4 (by kernel_rfl)
  (of_decide_eq_true (by kernel_rfl)) (by unfold Func.isWrapper; first | (rw [if_pos (by decide +kernel)]; kernel_rfl) | (rw [if_neg (by decide +kernel)]; exact ⟨rfl, rfl⟩))
  (fun os started H enc _ => lifted os started H enc)
end Go.Proofs.Ythifkkpkmdpoiaa.featureDays
end
