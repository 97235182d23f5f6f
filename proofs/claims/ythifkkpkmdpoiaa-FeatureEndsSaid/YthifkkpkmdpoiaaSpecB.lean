/- The code follows the plain programs, part two: whenever the plain program has a result. -/
import Derived.Test.YthifkkpkmdpoiaaSpecA
import Derived.Test.YthifkkpkmdpoiaaBase
set_option linter.unusedVariables false
set_option linter.unusedSimpArgs false
section
/- The code follows the pure programs: written by a program. -/
namespace Go.Ab
open Go.Proofs
set_option linter.unusedVariables false
set_option maxRecDepth 100000
/- landaid/landaidkeep.New -/
theorem keep_Tape_Layer_spec {F : Nat} {x650 : Tape} {x651 : Int} {r : Tape × (List Feature)} (h : keep_Tape_Layer F x650 x651 = some r) :
    FSpec Try.prog 6 [.v (.c (.ptr 0 0)), vi x651] [(0, .box false [.d (DL (α := Int) x650.l_), .d (.int .i64 x650.at_)])] (AL (α := Feature) r.2) [(0, .box false [.d (DL (α := Int) r.1.l_), .d (.int .i64 r.1.at_)])] := by
  refine FSpec.intro prog_mixed prog_lay Try.func6 rfl (by kernel_rfl) fun C Fm => ?_
  unfold keep_Tape_Layer at h
  refine AW.seq ?_
  refine AW.regc Fm [.s] [] (fun K => True) [(0, .v (.c (.ptr 0 0))), (1, vi x651)] [(0, .box false [.d (DL (α := Int) x650.l_), .d (.int .i64 x650.at_)])] True.intro (by kernel_rfl) (by kernel_rfl) (by kernel_rfl) (by kernel_rfl) ?_
  refine AW.seq ?_
  refine AW.regc Fm [.m] [] (fun K => True) [(0, .v (.c (.ptr 0 0))), (1, vi x651), (5, .v (.c (.own 5)))] [(0, .box false [.d (DL (α := Int) x650.l_), .d (.int .i64 x650.at_)]), (5, .arr 5 (0) (fun _ => []))] True.intro (by kernel_rfl) (by kernel_rfl) (by kernel_rfl) (by kernel_rfl) ?_
  refine Kn.wk [(0, .v (.c (.ptr 0 0))), (1, vi x651), (5, .v (.c (.own 5)))] [(0, .box false [.d (DL (α := Int) x650.l_), .d (.int .i64 x650.at_)]), (5, AO (α := Feature) ([] : List Feature))] (FE.refl _) (⟨rfl, OLe.refl _, ⟨rfl, OLe.is ((Is.nil (α := Feature))), True.intro⟩⟩) ?_
  refine AW.join (r := r) (fun z : (List Feature) × (List Int) × Int => keep_Tape_Layer_k2 F z.1 z.2.1 z.2.2) (fun z => [(5, AL (α := Feature) z.1)]) (fun z => [(0, .box false [.d (DL (α := Int) z.2.1), .d (.int .i64 z.2.2)])]) (fun z h => ?_) (fun J694 hJ694 => ?_)
  · obtain ⟨v691, v692, v693⟩ := z
    have h : keep_Tape_Layer_k2 F v691 v692 v693 = some r := h
    refine AW.seq ?_
    refine AW.regc Fm [.s, .s] [] (fun K => True) [(4, AL (α := Feature) v691)] [(0, .box false [.d (DL (α := Int) v692), .d (.int .i64 v693)])] True.intro (by kernel_rfl) (by kernel_rfl) (by kernel_rfl) (by kernel_rfl) ?_
    refine AW.ret ?_
    obtain rfl := Option.some.inj h
    exact Kn.re Fm [] [(4, AL (α := Feature) v691)] [(0, .box false [.d (DL (α := Int) v692), .d (.int .i64 v693)])] (by kernel_rfl) (by kernel_rfl) (by kernel_rfl) (by kernel_rfl) (Kn.done Fm (by kernel_rfl) (by kernel_rfl))
  · refine AW.seq ?_
    obtain ⟨hg652, h⟩ := gd_some h
    obtain ⟨z653, hz654, h⟩ := bd_some h
    refine AW.regc Fm [.s, .s, .s, .k (cE [(0, 0)] [] (vi z653.2) [(0, .box false [.d (DL (α := Int) x650.l_), .d (.int .i64 x650.at_)])] [(0, .box false [.d (DL (α := Int) z653.1.l_), .d (.int .i64 z653.1.at_)])]), .s] [] (fun K => (I64 (x651 + (1 : Int)) ∧ True) ∧ K 3 ∧ True) [(0, .v (.c (.ptr 0 0))), (5, .v (.c (.own 5))), (6, vi z653.2)] [(0, .box false [.d (DL (α := Int) z653.1.l_), .d (.int .i64 z653.1.at_)]), (5, AO (α := Feature) ([] : List Feature))] ⟨⟨hg652, True.intro⟩, KAt.call (args := [.v (.c (.ptr 0 0)), vi (x651 + (1 : Int))]) (keep_Tape_Next_spec hz654) Try.call14 [(0, 0)] rfl (by kernel_rfl) (by kernel_rfl) (by kernel_rfl) (by kernel_rfl), True.intro⟩ (by kernel_rfl) (by kernel_rfl) (by kernel_rfl) (by kernel_rfl) ?_
    refine AW.block ?_
    refine Kn.re Fm [] [(0, .v (.c (.ptr 0 0))), (5, .v (.c (.own 5))), (6, vi z653.2)] [(5, AO (α := Feature) ([] : List Feature)), (0, .box false [.d (DL (α := Int) z653.1.l_), .d (.int .i64 z653.1.at_)])] (by kernel_rfl) (by kernel_rfl) (by kernel_rfl) (by kernel_rfl) ?_
    refine Kn.frz [(0, .v (.c (.ptr 0 0))), (5, AL (α := Feature) ([] : List Feature)), (6, vi z653.2)] [(0, .box false [.d (DL (α := Int) z653.1.l_), .d (.int .i64 z653.1.at_)])] (by kernel_rfl) (by kernel_rfl) (by kernel_rfl) ?_
    refine Kn.re Fm [] [(0, .v (.c (.ptr 0 0))), (5, AL (α := Feature) ([] : List Feature)), (6, vi z653.2)] [(0, .box false [.d (DL (α := Int) z653.1.l_), .d (.int .i64 z653.1.at_)])] (by kernel_rfl) (by kernel_rfl) (by kernel_rfl) (by kernel_rfl) ?_
    have h : loopN (fun again (z : (List Feature) × Int × (List Int) × Int) => keep_Tape_Layer_b0 F again z.1 z.2.1 z.2.2.1 z.2.2.2) F (([] : List Feature), z653.2, z653.1.l_, z653.1.at_) = some r := h
    refine AW.loopF (E' := fun z => [(0, .v (.c (.ptr 0 0))), (5, AL (α := Feature) z.1), (6, vi z.2.1)]) (S' := fun z => [(0, .box false [.d (DL (α := Int) z.2.2.1), .d (.int .i64 z.2.2.2)])]) (fun ag_keep_Tape_Layer_b0 z J677 hJ677 h => ?_) h
    obtain ⟨v673, v674, v675, v676⟩ := z
    have h : keep_Tape_Layer_b0 F ag_keep_Tape_Layer_b0 v673 v674 v675 v676 = some r := h
    refine AW.seq ?_
    refine AW.seq ?_
    refine AW.regc Fm [.s, .s] [] (fun K => True) [(0, .v (.c (.ptr 0 0))), (5, AL (α := Feature) v673), (6, vi v674), (14, vb (decide ((0 : Int) < v674)))] [(0, .box false [.d (DL (α := Int) v675), .d (.int .i64 v676)])] True.intro (by kernel_rfl) (by kernel_rfl) (by kernel_rfl) (by kernel_rfl) ?_
    refine AW.cond (b := (decide ((0 : Int) < v674))) (by kernel_rfl) (fun hb678 => ?_) (fun hb678 => ?_)
    · have h := br_t h hb678
      refine AW.skip ?_
      refine AW.join (r := r) (fun z : (List Feature) × (List Int) × Int => keep_Tape_Layer_k1 F v674 ag_keep_Tape_Layer_b0 z.1 z.2.1 z.2.2) (fun z => [(0, .v (.c (.ptr 0 0))), (5, AL (α := Feature) z.1), (6, vi v674)]) (fun z => [(0, .box false [.d (DL (α := Int) z.2.1), .d (.int .i64 z.2.2)])]) (fun z h => ?_) (fun J689 hJ689 => ?_)
      · obtain ⟨v686, v687, v688⟩ := z
        have h : keep_Tape_Layer_k1 F v674 ag_keep_Tape_Layer_b0 v686 v687 v688 = some r := h
        obtain ⟨hg690, h⟩ := gd_some h
        refine AW.regc Fm [.s, .s, .s] [] (fun K => (I64 (v674 - (1 : Int)) ∧ True) ∧ True) [(0, .v (.c (.ptr 0 0))), (5, AL (α := Feature) v686), (6, vi (v674 - (1 : Int)))] [(0, .box false [.d (DL (α := Int) v687), .d (.int .i64 v688)])] ⟨⟨hg690, True.intro⟩, True.intro⟩ (by kernel_rfl) (by kernel_rfl) (by kernel_rfl) (by kernel_rfl) ?_
        exact Kn.re Fm [] [(0, .v (.c (.ptr 0 0))), (5, AL (α := Feature) v686), (6, vi (v674 - (1 : Int)))] [(0, .box false [.d (DL (α := Int) v687), .d (.int .i64 v688)])] (by kernel_rfl) (by kernel_rfl) (by kernel_rfl) (by kernel_rfl) (hJ677 (v686, (v674 - (1 : Int)), v687, v688) h)
      · refine AW.block ?_
        refine AW.seq ?_
        obtain ⟨z679, hz680, h⟩ := bd_some h
        obtain ⟨z681, hz682, h⟩ := bd_some h
        obtain ⟨z683, hz684, h⟩ := bd_some h
        refine AW.regc Fm [.s, .s, .s, .k (cE [(0, 0)] [] (vi z679.2) [(0, .box false [.d (DL (α := Int) (⟨v675, v676⟩ : Tape).l_), .d (.int .i64 (⟨v675, v676⟩ : Tape).at_)])] [(0, .box false [.d (DL (α := Int) z679.1.l_), .d (.int .i64 z679.1.at_)])]), .k (cE [(0, 0)] [] (.v (.g [.d (.int .i64 z681.2.number_), .d (.int .i64 z681.2.kind_), .d (.int .i64 z681.2.from_), .d (.int .i64 z681.2.until_), .d (DL (α := Rect) z681.2.region_.rects_)])) [(0, .box false [.d (DL (α := Int) z679.1.l_), .d (.int .i64 z679.1.at_)])] [(0, .box false [.d (DL (α := Int) z681.1.l_), .d (.int .i64 z681.1.at_)])]), .k (cE [] [] (.t [.c (.d (DL (α := Feature) z683.1)), .c (.d (.int .i64 z683.2))]) [] []), .s, .s, .s, .s, .s] [] (fun K => K 3 ∧ K 4 ∧ K 5 ∧ True) [(0, .v (.c (.ptr 0 0))), (5, AL (α := Feature) v673), (6, vi v674), (7, AL (α := Feature) z683.1), (8, vi z683.2)] [(0, .box false [.d (DL (α := Int) z681.1.l_), .d (.int .i64 z681.1.at_)])] ⟨KAt.call (args := [.v (.c (.ptr 0 0)), vi (1 : Int), vi (12 : Int)]) (keep_Tape_Range_spec hz680) Try.call17 [(0, 0)] rfl (by kernel_rfl) (by kernel_rfl) (by kernel_rfl) (by kernel_rfl), KAt.call (args := [.v (.c (.ptr 0 0)), vi z679.2]) (keep_Tape_Feature_spec hz682) Try.call16 [(0, 0)] rfl (by kernel_rfl) (by kernel_rfl) (by kernel_rfl) (by kernel_rfl), KAt.call (args := [AL (α := Feature) v673, .v (.g [.d (.int .i64 z681.2.number_), .d (.int .i64 z681.2.kind_), .d (.int .i64 z681.2.from_), .d (.int .i64 z681.2.until_), .d (DL (α := Rect) z681.2.region_.rects_)])]) (ref09_Add_spec hz684) Try.call15 [] rfl (by kernel_rfl) (by kernel_rfl) (by kernel_rfl) (by kernel_rfl), True.intro⟩ (by kernel_rfl) (by kernel_rfl) (by kernel_rfl) (by kernel_rfl) ?_
        refine AW.seq ?_
        refine AW.regc Fm [.s, .s] [] (fun K => True) [(0, .v (.c (.ptr 0 0))), (5, AL (α := Feature) v673), (6, vi v674), (7, AL (α := Feature) z683.1), (27, vb (z683.2 == (0 : Int)))] [(0, .box false [.d (DL (α := Int) z681.1.l_), .d (.int .i64 z681.1.at_)])] True.intro (by kernel_rfl) (by kernel_rfl) (by kernel_rfl) (by kernel_rfl) ?_
        refine AW.cond (b := (z683.2 == (0 : Int))) (by kernel_rfl) (fun hb685 => ?_) (fun hb685 => ?_)
        · have h := br_t h hb685
          refine AW.regc Fm [.s, .s] [] (fun K => True) [(0, .v (.c (.ptr 0 0))), (5, AL (α := Feature) z683.1), (6, vi v674)] [(0, .box false [.d (DL (α := Int) z681.1.l_), .d (.int .i64 z681.1.at_)])] True.intro (by kernel_rfl) (by kernel_rfl) (by kernel_rfl) (by kernel_rfl) ?_
          exact Kn.re Fm [] [(0, .v (.c (.ptr 0 0))), (5, AL (α := Feature) z683.1), (6, vi v674)] [(0, .box false [.d (DL (α := Int) z681.1.l_), .d (.int .i64 z681.1.at_)])] (by kernel_rfl) (by kernel_rfl) (by kernel_rfl) (by kernel_rfl) (hJ689 (z683.1, z681.1.l_, z681.1.at_) h)
        · have h := br_f h hb685
          refine AW.skip ?_
          exact Kn.re Fm [] [(0, .v (.c (.ptr 0 0))), (5, AL (α := Feature) v673), (6, vi v674)] [(0, .box false [.d (DL (α := Int) z681.1.l_), .d (.int .i64 z681.1.at_)])] (by kernel_rfl) (by kernel_rfl) (by kernel_rfl) (by kernel_rfl) (hJ689 (v673, z681.1.l_, z681.1.at_) h)
    · have h := br_f h hb678
      refine AW.exit ?_
      exact Kn.re Fm [] [(5, AL (α := Feature) v673)] [(0, .box false [.d (DL (α := Int) v675), .d (.int .i64 v676)])] (by kernel_rfl) (by kernel_rfl) (by kernel_rfl) (by kernel_rfl) (hJ694 (v673, v675, v676) h)
/- slices.IndexFunc[[]landaid/api.Rect,landaid/api.Rect] -/
theorem slices_IndexFunc_Rect_spec {F : Nat} {x695 : (List Rect)} {x696 : Rect → Option Bool} {r : Int} (h : slices_IndexFunc_Rect F x695 x696 = some r) :
    FSpec Try.prog 58 [AL (α := Rect) x695, .v (.c (.sem (CloOK Try.prog (FR_Rect_Bool x696))))] [] (vi r) [] := by
  refine FSpec.intro prog_mixed prog_lay Try.func58 rfl (by kernel_rfl) fun C Fm => ?_
  unfold slices_IndexFunc_Rect at h
  refine AW.seq ?_
  refine AW.regc Fm [.s] [] (fun K => True) [(0, AL (α := Rect) x695), (1, .v (.c (.sem (CloOK Try.prog (FR_Rect_Bool x696)))))] [] True.intro (by kernel_rfl) (by kernel_rfl) (by kernel_rfl) (by kernel_rfl) ?_
  refine AW.join (r := r) (fun z : Unit => slices_IndexFunc_Rect_k1 F) (fun z => []) (fun z => []) (fun z h => ?_) (fun J712 hJ712 => ?_)
  · have h : slices_IndexFunc_Rect_k1 F = some r := h
    refine AW.seq ?_
    refine AW.regc Fm [.s] [] (fun K => True) [(4, vi (-1 : Int))] [] True.intro (by kernel_rfl) (by kernel_rfl) (by kernel_rfl) (by kernel_rfl) ?_
    refine AW.ret ?_
    obtain rfl := Option.some.inj h
    exact Kn.re Fm [] [(4, vi (-1 : Int))] [] (by kernel_rfl) (by kernel_rfl) (by kernel_rfl) (by kernel_rfl) (Kn.done Fm (by kernel_rfl) (by kernel_rfl))
  · refine AW.seq ?_
    refine AW.regc Fm [.s, .s, .s] [] (fun K => True) [(0, AL (α := Rect) x695), (1, .v (.c (.sem (CloOK Try.prog (FR_Rect_Bool x696))))), (7, vi ((List.length x695 : Nat) : Int)), (8, vi (0 : Int))] [] True.intro (by kernel_rfl) (by kernel_rfl) (by kernel_rfl) (by kernel_rfl) ?_
    refine AW.block ?_
    refine Kn.re Fm [] [(0, AL (α := Rect) x695), (1, .v (.c (.sem (CloOK Try.prog (FR_Rect_Bool x696))))), (7, vi ((List.length x695 : Nat) : Int)), (8, vi (0 : Int))] [] (by kernel_rfl) (by kernel_rfl) (by kernel_rfl) (by kernel_rfl) ?_
    have h : loopN (fun again (z : Int) => slices_IndexFunc_Rect_b0 F x695 x696 again z) F (0 : Int) = some r := h
    refine AW.loopF (E' := fun z => [(0, AL (α := Rect) x695), (1, .v (.c (.sem (CloOK Try.prog (FR_Rect_Bool x696))))), (7, vi ((List.length x695 : Nat) : Int)), (8, vi z)]) (S' := fun z => []) (fun ag_slices_IndexFunc_Rect_b0 v704 J705 hJ705 h => ?_) h
    have h : slices_IndexFunc_Rect_b0 F x695 x696 ag_slices_IndexFunc_Rect_b0 v704 = some r := h
    refine AW.seq ?_
    refine AW.regc Fm [.s] [] (fun K => True) [(0, AL (α := Rect) x695), (1, .v (.c (.sem (CloOK Try.prog (FR_Rect_Bool x696))))), (7, vi ((List.length x695 : Nat) : Int)), (8, vi v704), (9, vb (decide (v704 < ((List.length x695 : Nat) : Int))))] [] True.intro (by kernel_rfl) (by kernel_rfl) (by kernel_rfl) (by kernel_rfl) ?_
    refine AW.seq ?_
    refine AW.cond (b := (decide (v704 < ((List.length x695 : Nat) : Int)))) (by kernel_rfl) (fun hb706 => ?_) (fun hb706 => ?_)
    · have h := br_t h hb706
      refine AW.skip ?_
      refine AW.seq ?_
      refine AW.block ?_
      refine AW.seq ?_
      refine AW.regc Fm [.s, .s] [] (fun K => True) [(0, AL (α := Rect) x695), (1, .v (.c (.sem (CloOK Try.prog (FR_Rect_Bool x696))))), (5, vi v704), (7, vi ((List.length x695 : Nat) : Int)), (8, vi v704)] [] True.intro (by kernel_rfl) (by kernel_rfl) (by kernel_rfl) (by kernel_rfl) ?_
      refine AW.seq ?_
      obtain ⟨hg707, h⟩ := gd_some h
      obtain ⟨z708, hz709, h⟩ := bd_some h
      refine AW.regc Fm [.s, .s, .s, .s, .s, .k (sE (vb z708))] [] (fun K => (0 ≤ v704 ∧ v704 < ((List.length x695 : Nat) : Int)) ∧ K 5 ∧ True) [(0, AL (α := Rect) x695), (1, .v (.c (.sem (CloOK Try.prog (FR_Rect_Bool x696))))), (5, vi v704), (7, vi ((List.length x695 : Nat) : Int)), (8, vi v704), (16, vb z708)] [] ⟨hg707, KAt.sem (F := (FR_Rect_Bool x696)) (args := [.v (.g [.d (.int .i64 (gl x695 v704.toNat).left_), .d (.int .i64 (gl x695 v704.toNat).low_), .d (.int .i64 (gl x695 v704.toNat).right_), .d (.int .i64 (gl x695 v704.toNat).high_)])]) ⟨(gl x695 v704.toNat), z708, hz709, rfl, rfl⟩ rfl (by kernel_rfl) (by kernel_rfl) (by kernel_rfl), True.intro⟩ (by kernel_rfl) (by kernel_rfl) (by kernel_rfl) (by kernel_rfl) ?_
      refine AW.cond (b := z708) (by kernel_rfl) (fun hb710 => ?_) (fun hb710 => ?_)
      · have h := br_t h hb710
        refine AW.seq ?_
        refine AW.regc Fm [.s, .s] [] (fun K => True) [(4, vi v704)] [] True.intro (by kernel_rfl) (by kernel_rfl) (by kernel_rfl) (by kernel_rfl) ?_
        refine AW.ret ?_
        obtain rfl := Option.some.inj h
        exact Kn.re Fm [] [(4, vi v704)] [] (by kernel_rfl) (by kernel_rfl) (by kernel_rfl) (by kernel_rfl) (Kn.done Fm (by kernel_rfl) (by kernel_rfl))
      · have h := br_f h hb710
        refine AW.skip ?_
        obtain ⟨hg711, h⟩ := gd_some h
        refine AW.regc Fm [.s, .s] [] (fun K => (I64 (v704 + (1 : Int)) ∧ True) ∧ True) [(0, AL (α := Rect) x695), (1, .v (.c (.sem (CloOK Try.prog (FR_Rect_Bool x696))))), (7, vi ((List.length x695 : Nat) : Int)), (8, vi (v704 + (1 : Int)))] [] ⟨⟨hg711, True.intro⟩, True.intro⟩ (by kernel_rfl) (by kernel_rfl) (by kernel_rfl) (by kernel_rfl) ?_
        exact Kn.re Fm [] [(0, AL (α := Rect) x695), (1, .v (.c (.sem (CloOK Try.prog (FR_Rect_Bool x696))))), (7, vi ((List.length x695 : Nat) : Int)), (8, vi (v704 + (1 : Int)))] [] (by kernel_rfl) (by kernel_rfl) (by kernel_rfl) (by kernel_rfl) (hJ705 (v704 + (1 : Int)) h)
    · have h := br_f h hb706
      refine AW.exit ?_
      exact Kn.re Fm [] [] [] (by kernel_rfl) (by kernel_rfl) (by kernel_rfl) (by kernel_rfl) (hJ712 () h)
/- slices.ContainsFunc[[]landaid/api.Rect,landaid/api.Rect] -/
theorem slices_ContainsFunc_Rect_spec {F : Nat} {x713 : (List Rect)} {x714 : Rect → Option Bool} {r : Bool} (h : slices_ContainsFunc_Rect F x713 x714 = some r) :
    FSpec Try.prog 47 [AL (α := Rect) x713, .v (.c (.sem (CloOK Try.prog (FR_Rect_Bool x714))))] [] (vb r) [] := by
  refine FSpec.intro prog_mixed prog_lay Try.func47 rfl (by kernel_rfl) fun C Fm => ?_
  unfold slices_ContainsFunc_Rect at h
  refine AW.seq ?_
  refine AW.regc Fm [.s] [] (fun K => True) [(0, AL (α := Rect) x713), (1, .v (.c (.sem (CloOK Try.prog (FR_Rect_Bool x714)))))] [] True.intro (by kernel_rfl) (by kernel_rfl) (by kernel_rfl) (by kernel_rfl) ?_
  refine AW.seq ?_
  obtain ⟨z715, hz716, h⟩ := bd_some h
  refine AW.regc Fm [.s, .s, .k (cE [] [] (vi z715) [] []), .s, .s] [] (fun K => K 2 ∧ True) [(4, vb (decide ((0 : Int) ≤ z715)))] [] ⟨KAt.callX (args := [AL (α := Rect) x713, .v (.c (.sem (CloOK Try.prog (FR_Rect_Bool x714))))]) (slices_IndexFunc_Rect_spec hz716) Try.call58 [] [] [.tmp 5, .tmp 6] rfl (by kernel_rfl) (by kernel_rfl) (by kernel_rfl) ⟨ArgT.plain (by kernel_rfl) (ALe.of_eq (by kernel_rfl)) (by kernel_rfl), ArgT.semX (by kernel_rfl) (by kernel_rfl) (by kernel_rfl), True.intro⟩, True.intro⟩ (by kernel_rfl) (by kernel_rfl) (by kernel_rfl) (by kernel_rfl) ?_
  refine AW.ret ?_
  obtain rfl := Option.some.inj h
  exact Kn.re Fm [] [(4, vb (decide ((0 : Int) ≤ z715)))] [] (by kernel_rfl) (by kernel_rfl) (by kernel_rfl) (by kernel_rfl) (Kn.done Fm (by kernel_rfl) (by kernel_rfl))
/- landaid/region.proper -/
theorem region_proper_spec {F : Nat} {x717 : Rect} {r : Bool} (h : region_proper F x717 = some r) :
    FSpec Try.prog 49 [.v (.g [.d (.int .i64 x717.left_), .d (.int .i64 x717.low_), .d (.int .i64 x717.right_), .d (.int .i64 x717.high_)])] [] (vb r) [] := by
  refine FSpec.intro prog_mixed prog_lay Try.func49 rfl (by kernel_rfl) fun C Fm => ?_
  unfold region_proper at h
  refine AW.seq ?_
  refine AW.regc Fm [.s, .s] [] (fun K => True) [(1, .v (.c (.ptr 1 0)))] [(1, .box false [.d (.int .i64 x717.left_), .d (.int .i64 x717.low_), .d (.int .i64 x717.right_), .d (.int .i64 x717.high_)])] True.intro (by kernel_rfl) (by kernel_rfl) (by kernel_rfl) (by kernel_rfl) ?_
  refine AW.join (r := r) (fun z : Bool => region_proper_k0 F z) (fun z => [(2, vb z)]) (fun z => []) (fun v723 h => ?_) (fun J724 hJ724 => ?_)
  · have h : region_proper_k0 F v723 = some r := h
    refine AW.ret ?_
    obtain rfl := Option.some.inj h
    exact Kn.re Fm [] [(2, vb v723)] [] (by kernel_rfl) (by kernel_rfl) (by kernel_rfl) (by kernel_rfl) (Kn.done Fm (by kernel_rfl) (by kernel_rfl))
  · rcases Bool.eq_false_or_eq_true (decide ((0 : Int) ≤ x717.left_)) with hb718 | hb718
    · have h := br_t h hb718
      rcases Bool.eq_false_or_eq_true (decide (x717.left_ < x717.right_)) with hb719 | hb719
      · have h := br_t h hb719
        rcases Bool.eq_false_or_eq_true (decide (x717.right_ ≤ (16384 : Int))) with hb720 | hb720
        · have h := br_t h hb720
          rcases Bool.eq_false_or_eq_true (decide ((0 : Int) ≤ x717.low_)) with hb721 | hb721
          · have h := br_t h hb721
            rcases Bool.eq_false_or_eq_true (decide (x717.low_ < x717.high_)) with hb722 | hb722
            · have h := br_t h hb722
              refine AW.regc Fm [.s, .s, .s, .w (vb true), .s, .s, .s, .s, .s, .s, .w (vb true), .s, .s, .s, .s, .w (vb true), .s, .s, .s, .s, .w (vb true), .s, .s, .s, .s, .s, .s, .w (vb true), .s, .s, .s, .s, .s] [] (fun K => (ALe (vb (decide ((0 : Int) ≤ x717.left_))) (vb true)) ∧ (ALe (vb (decide (x717.left_ < x717.right_))) (vb true)) ∧ (ALe (vb (decide (x717.right_ ≤ (16384 : Int)))) (vb true)) ∧ (ALe (vb (decide ((0 : Int) ≤ x717.low_))) (vb true)) ∧ (ALe (vb (decide (x717.low_ < x717.high_))) (vb true)) ∧ True) [(2, vb (decide (x717.high_ ≤ (16384 : Int))))] [] ⟨ALe.bool hb718, ALe.bool hb719, ALe.bool hb720, ALe.bool hb721, ALe.bool hb722, True.intro⟩ (by kernel_rfl) (by kernel_rfl) (by kernel_rfl) (by kernel_rfl) ?_
              exact Kn.re Fm [] [(2, vb (decide (x717.high_ ≤ (16384 : Int))))] [] (by kernel_rfl) (by kernel_rfl) (by kernel_rfl) (by kernel_rfl) (hJ724 (decide (x717.high_ ≤ (16384 : Int))) h)
            · have h := br_f h hb722
              refine AW.regc Fm [.s, .s, .s, .w (vb true), .s, .s, .s, .s, .s, .s, .w (vb true), .s, .s, .s, .s, .w (vb true), .s, .s, .s, .s, .w (vb true), .s, .s, .s, .s, .s, .s, .w (vb false), .s, .s, .s, .s, .s] [] (fun K => (ALe (vb (decide ((0 : Int) ≤ x717.left_))) (vb true)) ∧ (ALe (vb (decide (x717.left_ < x717.right_))) (vb true)) ∧ (ALe (vb (decide (x717.right_ ≤ (16384 : Int)))) (vb true)) ∧ (ALe (vb (decide ((0 : Int) ≤ x717.low_))) (vb true)) ∧ (ALe (vb (decide (x717.low_ < x717.high_))) (vb false)) ∧ True) [(2, vb false)] [] ⟨ALe.bool hb718, ALe.bool hb719, ALe.bool hb720, ALe.bool hb721, ALe.bool hb722, True.intro⟩ (by kernel_rfl) (by kernel_rfl) (by kernel_rfl) (by kernel_rfl) ?_
              exact Kn.re Fm [] [(2, vb false)] [] (by kernel_rfl) (by kernel_rfl) (by kernel_rfl) (by kernel_rfl) (hJ724 false h)
          · have h := br_f h hb721
            refine AW.regc Fm [.s, .s, .s, .w (vb true), .s, .s, .s, .s, .s, .s, .w (vb true), .s, .s, .s, .s, .w (vb true), .s, .s, .s, .s, .w (vb false), .s, .s, .s, .s, .s, .s, .s, .s, .s, .s, .s, .s] [] (fun K => (ALe (vb (decide ((0 : Int) ≤ x717.left_))) (vb true)) ∧ (ALe (vb (decide (x717.left_ < x717.right_))) (vb true)) ∧ (ALe (vb (decide (x717.right_ ≤ (16384 : Int)))) (vb true)) ∧ (ALe (vb (decide ((0 : Int) ≤ x717.low_))) (vb false)) ∧ True) [(2, vb false)] [] ⟨ALe.bool hb718, ALe.bool hb719, ALe.bool hb720, ALe.bool hb721, True.intro⟩ (by kernel_rfl) (by kernel_rfl) (by kernel_rfl) (by kernel_rfl) ?_
            exact Kn.re Fm [] [(2, vb false)] [] (by kernel_rfl) (by kernel_rfl) (by kernel_rfl) (by kernel_rfl) (hJ724 false h)
        · have h := br_f h hb720
          refine AW.regc Fm [.s, .s, .s, .w (vb true), .s, .s, .s, .s, .s, .s, .w (vb true), .s, .s, .s, .s, .w (vb false), .s, .s, .s, .s, .s, .s, .s, .s, .s, .s, .s, .s, .s, .s, .s, .s, .s] [] (fun K => (ALe (vb (decide ((0 : Int) ≤ x717.left_))) (vb true)) ∧ (ALe (vb (decide (x717.left_ < x717.right_))) (vb true)) ∧ (ALe (vb (decide (x717.right_ ≤ (16384 : Int)))) (vb false)) ∧ True) [(2, vb false)] [] ⟨ALe.bool hb718, ALe.bool hb719, ALe.bool hb720, True.intro⟩ (by kernel_rfl) (by kernel_rfl) (by kernel_rfl) (by kernel_rfl) ?_
          exact Kn.re Fm [] [(2, vb false)] [] (by kernel_rfl) (by kernel_rfl) (by kernel_rfl) (by kernel_rfl) (hJ724 false h)
      · have h := br_f h hb719
        refine AW.regc Fm [.s, .s, .s, .w (vb true), .s, .s, .s, .s, .s, .s, .w (vb false), .s, .s, .s, .s, .s, .s, .s, .s, .s, .s, .s, .s, .s, .s, .s, .s, .s, .s, .s, .s, .s, .s] [] (fun K => (ALe (vb (decide ((0 : Int) ≤ x717.left_))) (vb true)) ∧ (ALe (vb (decide (x717.left_ < x717.right_))) (vb false)) ∧ True) [(2, vb false)] [] ⟨ALe.bool hb718, ALe.bool hb719, True.intro⟩ (by kernel_rfl) (by kernel_rfl) (by kernel_rfl) (by kernel_rfl) ?_
        exact Kn.re Fm [] [(2, vb false)] [] (by kernel_rfl) (by kernel_rfl) (by kernel_rfl) (by kernel_rfl) (hJ724 false h)
    · have h := br_f h hb718
      refine AW.regc Fm [.s, .s, .s, .w (vb false), .s, .s, .s, .s, .s, .s, .s, .s, .s, .s, .s, .s, .s, .s, .s, .s, .s, .s, .s, .s, .s, .s, .s, .s, .s, .s, .s, .s, .s] [] (fun K => (ALe (vb (decide ((0 : Int) ≤ x717.left_))) (vb false)) ∧ True) [(2, vb false)] [] ⟨ALe.bool hb718, True.intro⟩ (by kernel_rfl) (by kernel_rfl) (by kernel_rfl) (by kernel_rfl) ?_
      exact Kn.re Fm [] [(2, vb false)] [] (by kernel_rfl) (by kernel_rfl) (by kernel_rfl) (by kernel_rfl) (hJ724 false h)
/- landaid/region.Valid$1 -/
theorem region_Valid_1_spec {F : Nat} {x725 : Rect} {r : Bool} (h : region_Valid_1 F x725 = some r) :
    FSpec Try.prog 48 [.v (.g [.d (.int .i64 x725.left_), .d (.int .i64 x725.low_), .d (.int .i64 x725.right_), .d (.int .i64 x725.high_)])] [] (vb r) [] := by
  refine FSpec.intro prog_mixed prog_lay Try.func48 rfl (by kernel_rfl) fun C Fm => ?_
  unfold region_Valid_1 at h
  refine AW.seq ?_
  refine AW.regc Fm [.s, .s] [] (fun K => True) [(1, .v (.c (.ptr 1 0)))] [(1, .box false [.d (.int .i64 x725.left_), .d (.int .i64 x725.low_), .d (.int .i64 x725.right_), .d (.int .i64 x725.high_)])] True.intro (by kernel_rfl) (by kernel_rfl) (by kernel_rfl) (by kernel_rfl) ?_
  refine AW.seq ?_
  obtain ⟨z726, hz727, h⟩ := bd_some h
  refine AW.regc Fm [.s, .k (cE [] [] (vb z726) [] []), .s, .s] [] (fun K => K 1 ∧ True) [(2, vb (!z726))] [] ⟨KAt.call (args := [.v (.g [.d (.int .i64 x725.left_), .d (.int .i64 x725.low_), .d (.int .i64 x725.right_), .d (.int .i64 x725.high_)])]) (region_proper_spec hz727) Try.call49 [] rfl (by kernel_rfl) (by kernel_rfl) (by kernel_rfl) (by kernel_rfl), True.intro⟩ (by kernel_rfl) (by kernel_rfl) (by kernel_rfl) (by kernel_rfl) ?_
  refine AW.ret ?_
  obtain rfl := Option.some.inj h
  exact Kn.re Fm [] [(2, vb (!z726))] [] (by kernel_rfl) (by kernel_rfl) (by kernel_rfl) (by kernel_rfl) (Kn.done Fm (by kernel_rfl) (by kernel_rfl))
/- slices.Compact[[]int,int] -/
theorem slices_Compact_int_spec {F : Nat} {x728 : (List Int)} {r : (List Int)} (h : slices_Compact_int F x728 = some r) :
    FSpec Try.prog 81 [.v (.c (.own 0))] [(0, AO (α := Int) x728)] (.v (.c (.own 100))) [(100, AO (α := Int) r)] := by
  refine FSpec.intro prog_mixed prog_lay Try.func81 rfl (by kernel_rfl) fun C Fm => ?_
  unfold slices_Compact_int at h
  refine AW.seq ?_
  refine AW.regc Fm [.s] [] (fun K => True) [(0, .v (.c (.own 0)))] [(0, AO (α := Int) x728)] True.intro (by kernel_rfl) (by kernel_rfl) (by kernel_rfl) (by kernel_rfl) ?_
  refine AW.seq ?_
  refine AW.seq ?_
  refine AW.regc Fm [.s, .s, .s] [] (fun K => True) [(0, .v (.c (.own 0))), (8, vb (decide (((List.length x728 : Nat) : Int) < (2 : Int))))] [(0, AO (α := Int) x728)] True.intro (by kernel_rfl) (by kernel_rfl) (by kernel_rfl) (by kernel_rfl) ?_
  refine AW.cond (b := (decide (((List.length x728 : Nat) : Int) < (2 : Int)))) (by kernel_rfl) (fun hb729 => ?_) (fun hb729 => ?_)
  · have h := br_t h hb729
    refine AW.seq ?_
    refine AW.regc Fm [.s, .s] [] (fun K => True) [(2, .v (.c (.own 0)))] [(0, AO (α := Int) x728)] True.intro (by kernel_rfl) (by kernel_rfl) (by kernel_rfl) (by kernel_rfl) ?_
    refine AW.ret ?_
    obtain rfl := Option.some.inj h
    exact Kn.re Fm [(100, 0)] [(2, .v (.c (.own 100)))] [(100, AO (α := Int) x728)] (by kernel_rfl) (by kernel_rfl) (by kernel_rfl) (by kernel_rfl) (Kn.done Fm (by kernel_rfl) (by kernel_rfl))
  · have h := br_f h hb729
    refine AW.skip ?_
    refine AW.join (r := r) (fun z : Unit => slices_Compact_int_k5 F x728) (fun z => [(0, .v (.c (.own 0)))]) (fun z => [(0, AO (α := Int) x728)]) (fun z h => ?_) (fun J829 hJ829 => ?_)
    · have h : slices_Compact_int_k5 F x728 = some r := h
      refine AW.seq ?_
      refine AW.regc Fm [.s, .s] [] (fun K => True) [(2, .v (.c (.own 0)))] [(0, AO (α := Int) x728)] True.intro (by kernel_rfl) (by kernel_rfl) (by kernel_rfl) (by kernel_rfl) ?_
      refine AW.ret ?_
      obtain rfl := Option.some.inj h
      exact Kn.re Fm [(100, 0)] [(2, .v (.c (.own 100)))] [(100, AO (α := Int) x728)] (by kernel_rfl) (by kernel_rfl) (by kernel_rfl) (by kernel_rfl) (Kn.done Fm (by kernel_rfl) (by kernel_rfl))
    · refine AW.seq ?_
      refine AW.regc Fm [.s] [] (fun K => True) [(0, .v (.c (.own 0))), (3, vi (1 : Int))] [(0, AO (α := Int) x728)] True.intro (by kernel_rfl) (by kernel_rfl) (by kernel_rfl) (by kernel_rfl) ?_
      refine AW.block ?_
      refine Kn.re Fm [] [(0, .v (.c (.own 0))), (3, vi (1 : Int))] [(0, AO (α := Int) x728)] (by kernel_rfl) (by kernel_rfl) (by kernel_rfl) (by kernel_rfl) ?_
      have h : loopN (fun again (z : Int) => slices_Compact_int_b0 F x728 again z) F (1 : Int) = some r := h
      refine AW.loopF (E' := fun z => [(0, .v (.c (.own 0))), (3, vi z)]) (S' := fun z => [(0, AO (α := Int) x728)]) (fun ag_slices_Compact_int_b0 v779 J780 hJ780 h => ?_) h
      have h : slices_Compact_int_b0 F x728 ag_slices_Compact_int_b0 v779 = some r := h
      refine AW.seq ?_
      refine AW.seq ?_
      refine AW.regc Fm [.s, .s, .s, .s] [] (fun K => True) [(0, .v (.c (.own 0))), (3, vi v779), (13, vb (decide (v779 < ((List.length x728 : Nat) : Int))))] [(0, AO (α := Int) x728)] True.intro (by kernel_rfl) (by kernel_rfl) (by kernel_rfl) (by kernel_rfl) ?_
      refine AW.cond (b := (decide (v779 < ((List.length x728 : Nat) : Int)))) (by kernel_rfl) (fun hb781 => ?_) (fun hb781 => ?_)
      · have h := br_t h hb781
        refine AW.skip ?_
        refine AW.join (r := r) (fun z : Unit => slices_Compact_int_k4 F v779 ag_slices_Compact_int_b0) (fun z => [(0, .v (.c (.own 0))), (3, vi v779)]) (fun z => [(0, AO (α := Int) x728)]) (fun z h => ?_) (fun J827 hJ827 => ?_)
        · have h : slices_Compact_int_k4 F v779 ag_slices_Compact_int_b0 = some r := h
          obtain ⟨hg828, h⟩ := gd_some h
          refine AW.regc Fm [.s, .s, .s] [] (fun K => (I64 (v779 + (1 : Int)) ∧ True) ∧ True) [(0, .v (.c (.own 0))), (3, vi (v779 + (1 : Int)))] [(0, AO (α := Int) x728)] ⟨⟨hg828, True.intro⟩, True.intro⟩ (by kernel_rfl) (by kernel_rfl) (by kernel_rfl) (by kernel_rfl) ?_
          exact Kn.re Fm [] [(0, .v (.c (.own 0))), (3, vi (v779 + (1 : Int)))] [(0, AO (α := Int) x728)] (by kernel_rfl) (by kernel_rfl) (by kernel_rfl) (by kernel_rfl) (hJ780 (v779 + (1 : Int)) h)
        · refine AW.block ?_
          refine AW.seq ?_
          obtain ⟨hg782, h⟩ := gd_some h
          obtain ⟨hg783, h⟩ := gd_some h
          obtain ⟨hg784, h⟩ := gd_some h
          refine AW.regc Fm [.s, .s, .s, .s, .s, .s, .s, .s, .s, .s] [] (fun K => (0 ≤ v779 ∧ v779 < ((List.length x728 : Nat) : Int)) ∧ (v779.toNat < List.length x728) ∧ (I64 (v779 - (1 : Int)) ∧ True) ∧ (0 ≤ (v779 - (1 : Int)) ∧ (v779 - (1 : Int)) < ((List.length x728 : Nat) : Int)) ∧ ((v779 - (1 : Int)).toNat < List.length x728) ∧ True) [(0, .v (.c (.own 0))), (3, vi v779), (25, vb ((gl x728 v779.toNat) == (gl x728 (v779 - (1 : Int)).toNat)))] [(0, AO (α := Int) x728)] ⟨hg782, (toNat_lt hg782), ⟨hg783, True.intro⟩, hg784, (toNat_lt hg784), True.intro⟩ (by kernel_rfl) (by kernel_rfl) (by kernel_rfl) (by kernel_rfl) ?_
          refine AW.cond (b := ((gl x728 v779.toNat) == (gl x728 (v779 - (1 : Int)).toNat))) (by kernel_rfl) (fun hb785 => ?_) (fun hb785 => ?_)
          · have h := br_t h hb785
            refine AW.seq ?_
            obtain ⟨hg786, h⟩ := gd_some h
            refine AW.regc Fm [.s, .s, .k (rE { v := .v (.c (.sub 0 1 (0 + (v779).toNat) ((List.length (α := Int) x728) - (v779).toNat))) }), .s] [] (fun K => K 2 ∧ True) [(0, .v (.c (.own 0))), (3, vi v779), (4, .v (.c (.sub 0 1 (0 + (v779).toNat) ((List.length (α := Int) x728) - (v779).toNat))))] [(0, AO (α := Int) x728)] ⟨KAt.vslice (l := (some v779)) (u := none) (id := 0) (lo0 := 0) (n := (List.length (α := Int) x728)) (N := List.length (α := Int) x728) (f := LF (α := Int) x728) prog_lay slT22 rfl rfl (by kernel_rfl) (by kernel_rfl) (by kernel_rfl) (by kernel_rfl) (by kernel_rfl) hg786 (by kernel_rfl), True.intro⟩ (by kernel_rfl) (by kernel_rfl) (by kernel_rfl) (by kernel_rfl) ?_
            refine AW.join (r := r) (fun z : Int × (List Int) => slices_Compact_int_k3 F z.1 z.2) (fun z => [(0, .v (.c (.own 0))), (3, vi z.1)]) (fun z => [(0, AO (α := Int) z.2)]) (fun z h => ?_) (fun J824 hJ824 => ?_)
            · obtain ⟨v822, v823⟩ := z
              have h : slices_Compact_int_k3 F v822 v823 = some r := h
              refine AW.seq ?_
              obtain ⟨hg825, h⟩ := gd_some h
              refine AW.regc Fm [.s, .s, .k (rE { v := .v (.c (.sub 0 1 (0 + (v822).toNat) ((List.length (α := Int) v823) - (v822).toNat))) }), .k (rE { v := .any, upd := some (0, .arr 1 (List.length (α := Int) v823) (fun i => if (0 + (v822).toNat) ≤ i ∧ i < (0 + (v822).toNat) + ((List.length (α := Int) v823) - (v822).toNat) then (fun _ => [.int .i64 0]) (i - (0 + (v822).toNat)) else (LF (α := Int) v823) i)) })] [] (fun K => K 2 ∧ K 3 ∧ True) [(0, .v (.c (.own 0))), (3, vi v822)] [(0, .arr 1 (List.length (α := Int) v823) (fun i => if (0 + (v822).toNat) ≤ i ∧ i < (0 + (v822).toNat) + ((List.length (α := Int) v823) - (v822).toNat) then (fun _ => [.int .i64 0]) (i - (0 + (v822).toNat)) else (LF (α := Int) v823) i))] ⟨KAt.vslice (l := (some v822)) (u := none) (id := 0) (lo0 := 0) (n := (List.length (α := Int) v823)) (N := List.length (α := Int) v823) (f := LF (α := Int) v823) prog_lay slT22 rfl rfl (by kernel_rfl) (by kernel_rfl) (by kernel_rfl) (by kernel_rfl) (by kernel_rfl) hg825 (by kernel_rfl), KAt.vclear (id := 0) (lo0 := (0 + (v822).toNat)) (n := ((List.length (α := Int) v823) - (v822).toNat)) (N := List.length (α := Int) v823) (f := (LF (α := Int) v823)) prog_lay slT22 [.int .i64 0] [.int .i64 0] ⟨DLe.refl _, True.intro⟩ rfl rfl (by kernel_rfl) (Nat.succ_pos _) (by kernel_rfl) (by kernel_rfl) (by kernel_rfl) (by kernel_rfl) rfl, True.intro⟩ (by kernel_rfl) (by kernel_rfl) (by kernel_rfl) (by kernel_rfl) ?_
              refine Kn.wk [(0, .v (.c (.own 0))), (3, vi v822)] [(0, AO (α := Int) (clr v823 (0 + (v822).toNat) ((List.length (α := Int) v823) - (v822).toNat)))] (FE.refl _) (⟨rfl, OLe.is (Is.clr (l := v823) (0 + (v822).toNat) ((List.length (α := Int) v823) - (v822).toNat) (zd := [.int .i64 0]) (by kernel_rfl)), True.intro⟩) ?_
              refine AW.seq ?_
              obtain ⟨hg826, h⟩ := gd_some h
              refine AW.regc Fm [.s, .s, .m, .s] [] (fun K => (0 ≤ v822 ∧ v822 ≤ ((List.length (clr v823 (0 + (v822).toNat) ((List.length (α := Int) v823) - (v822).toNat)) : Nat) : Int)) ∧ True) [(2, .v (.c (.own 59)))] [(59, .arr 1 ((v822).toNat) (LF (α := Int) (clr v823 (0 + (v822).toNat) ((List.length (α := Int) v823) - (v822).toNat))))] ⟨hg826, True.intro⟩ (by kernel_rfl) (by kernel_rfl) (by kernel_rfl) (by kernel_rfl) ?_
              refine Kn.wk [(2, .v (.c (.own 59)))] [(59, AO (α := Int) ((clr v823 (0 + (v822).toNat) ((List.length (α := Int) v823) - (v822).toNat)).take (v822).toNat))] (FE.refl _) (⟨rfl, OLe.is (Is.take (Is.refl (clr v823 (0 + (v822).toNat) ((List.length (α := Int) v823) - (v822).toNat))) hg826.2), True.intro⟩) ?_
              refine AW.ret ?_
              obtain rfl := Option.some.inj h
              exact Kn.re Fm [(100, 59)] [(2, .v (.c (.own 100)))] [(100, AO (α := Int) ((clr v823 (0 + (v822).toNat) ((List.length (α := Int) v823) - (v822).toNat)).take (v822).toNat))] (by kernel_rfl) (by kernel_rfl) (by kernel_rfl) (by kernel_rfl) (Kn.done Fm (by kernel_rfl) (by kernel_rfl))
            · refine AW.seq ?_
              refine AW.regc Fm [.s] [] (fun K => True) [(0, .v (.c (.own 0))), (3, vi v779), (4, .v (.c (.sub 0 1 (0 + (v779).toNat) ((List.length (α := Int) x728) - (v779).toNat)))), (5, vi (1 : Int))] [(0, AO (α := Int) x728)] True.intro (by kernel_rfl) (by kernel_rfl) (by kernel_rfl) (by kernel_rfl) ?_
              refine AW.block ?_
              refine Kn.re Fm [] [(0, .v (.c (.own 0))), (3, vi v779), (4, .v (.c (.sub 0 1 (0 + (v779).toNat) ((List.length (α := Int) x728) - (v779).toNat)))), (5, vi (1 : Int))] [(0, AO (α := Int) x728)] (by kernel_rfl) (by kernel_rfl) (by kernel_rfl) (by kernel_rfl) ?_
              have h : loopN (fun again (z : Int × Int × (List Int)) => slices_Compact_int_b1 F x728 v779 again z.1 z.2.1 z.2.2) F (v779, (1 : Int), x728) = some r := h
              refine AW.loopF (E' := fun z => [(0, .v (.c (.own 0))), (3, vi z.1), (4, .v (.c (.sub 0 1 (0 + (v779).toNat) ((List.length (α := Int) x728) - (v779).toNat)))), (5, vi z.2.1)]) (S' := fun z => [(0, AO (α := Int) z.2.2)]) (fun ag_slices_Compact_int_b1 z J806 hJ806 h => ?_) h
              obtain ⟨v803, v804, v805⟩ := z
              have h : slices_Compact_int_b1 F x728 v779 ag_slices_Compact_int_b1 v803 v804 v805 = some r := h
              refine AW.seq ?_
              refine AW.seq ?_
              refine AW.regc Fm [.s, .s, .k (rE { v := vi ((((List.length (α := Int) x728) - (v779).toNat) : Nat) : Int) }), .s] [] (fun K => K 2 ∧ True) [(0, .v (.c (.own 0))), (3, vi v803), (4, .v (.c (.sub 0 1 (0 + (v779).toNat) ((List.length (α := Int) x728) - (v779).toNat)))), (5, vi v804), (32, vb (decide (v804 < ((((List.length (α := Int) x728) - (v779).toNat) : Nat) : Int))))] [(0, AO (α := Int) v805)] ⟨KAt.vlen (es := 1) (id := 0) (lo0 := (0 + (v779).toNat)) (n := ((List.length (α := Int) x728) - (v779).toNat)) (N := List.length (α := Int) v805) (f := LF (α := Int) v805) prog_lay slT22 rfl rfl (by kernel_rfl) (by kernel_rfl) (by kernel_rfl), True.intro⟩ (by kernel_rfl) (by kernel_rfl) (by kernel_rfl) (by kernel_rfl) ?_
              refine AW.cond (b := (decide (v804 < ((((List.length (α := Int) x728) - (v779).toNat) : Nat) : Int)))) (by kernel_rfl) (fun hb807 => ?_) (fun hb807 => ?_)
              · have h := br_t h hb807
                refine AW.skip ?_
                refine AW.join (r := r) (fun z : Int × (List Int) => slices_Compact_int_k2 F v804 ag_slices_Compact_int_b1 z.1 z.2) (fun z => [(0, .v (.c (.own 0))), (3, vi z.1), (4, .v (.c (.sub 0 1 (0 + (v779).toNat) ((List.length (α := Int) x728) - (v779).toNat)))), (5, vi v804)]) (fun z => [(0, AO (α := Int) z.2)]) (fun z h => ?_) (fun J820 hJ820 => ?_)
                · obtain ⟨v818, v819⟩ := z
                  have h : slices_Compact_int_k2 F v804 ag_slices_Compact_int_b1 v818 v819 = some r := h
                  obtain ⟨hg821, h⟩ := gd_some h
                  refine AW.regc Fm [.s, .s, .s] [] (fun K => (I64 (v804 + (1 : Int)) ∧ True) ∧ True) [(0, .v (.c (.own 0))), (3, vi v818), (4, .v (.c (.sub 0 1 (0 + (v779).toNat) ((List.length (α := Int) x728) - (v779).toNat)))), (5, vi (v804 + (1 : Int)))] [(0, AO (α := Int) v819)] ⟨⟨hg821, True.intro⟩, True.intro⟩ (by kernel_rfl) (by kernel_rfl) (by kernel_rfl) (by kernel_rfl) ?_
                  exact Kn.re Fm [] [(0, .v (.c (.own 0))), (3, vi v818), (4, .v (.c (.sub 0 1 (0 + (v779).toNat) ((List.length (α := Int) x728) - (v779).toNat)))), (5, vi (v804 + (1 : Int)))] [(0, AO (α := Int) v819)] (by kernel_rfl) (by kernel_rfl) (by kernel_rfl) (by kernel_rfl) (hJ806 (v818, (v804 + (1 : Int)), v819) h)
                · refine AW.block ?_
                  refine AW.seq ?_
                  obtain ⟨hg808, h⟩ := gd_some h
                  obtain ⟨hg809, h⟩ := gd_some h
                  obtain ⟨hg810, h⟩ := gd_some h
                  obtain ⟨hg811, h⟩ := gd_some h
                  obtain ⟨hg812, h⟩ := gd_some h
                  refine AW.regc Fm [.s, .s, .k (rE { v := .v (.c (.pte 0 1 ((0 + (v779).toNat) + (v804).toNat) 0)) }), .s, .s, .s, .s, .k (rE { v := .v (.c (.pte 0 1 ((0 + (v779).toNat) + ((v804 - (1 : Int))).toNat) 0)) }), .s, .s] [] (fun K => K 2 ∧ (((0 + (v779).toNat) + (v804).toNat) < List.length v805) ∧ (I64 (v804 - (1 : Int)) ∧ True) ∧ K 7 ∧ (((0 + (v779).toNat) + ((v804 - (1 : Int))).toNat) < List.length v805) ∧ True) [(0, .v (.c (.own 0))), (3, vi v803), (4, .v (.c (.sub 0 1 (0 + (v779).toNat) ((List.length (α := Int) x728) - (v779).toNat)))), (5, vi v804), (44, vb ((gl v805 ((0 + (v779).toNat) + (v804).toNat)) != (gl v805 ((0 + (v779).toNat) + ((v804 - (1 : Int))).toNat))))] [(0, AO (α := Int) v805)] ⟨KAt.vindex (m := v804) (id := 0) (lo0 := (0 + (v779).toNat)) (n := ((List.length (α := Int) x728) - (v779).toNat)) (N := List.length (α := Int) v805) (f := LF (α := Int) v805) prog_lay slT22 rfl rfl (by kernel_rfl) (by kernel_rfl) (by kernel_rfl) (by kernel_rfl) hg808 (by kernel_rfl), hg809, ⟨hg810, True.intro⟩, KAt.vindex (m := (v804 - (1 : Int))) (id := 0) (lo0 := (0 + (v779).toNat)) (n := ((List.length (α := Int) x728) - (v779).toNat)) (N := List.length (α := Int) v805) (f := LF (α := Int) v805) prog_lay slT22 rfl rfl (by kernel_rfl) (by kernel_rfl) (by kernel_rfl) (by kernel_rfl) hg811 (by kernel_rfl), hg812, True.intro⟩ (by kernel_rfl) (by kernel_rfl) (by kernel_rfl) (by kernel_rfl) ?_
                  refine AW.cond (b := ((gl v805 ((0 + (v779).toNat) + (v804).toNat)) != (gl v805 ((0 + (v779).toNat) + ((v804 - (1 : Int))).toNat)))) (by kernel_rfl) (fun hb813 => ?_) (fun hb813 => ?_)
                  · have h := br_t h hb813
                    refine AW.seq ?_
                    obtain ⟨hg814, h⟩ := gd_some h
                    obtain ⟨hg815, h⟩ := gd_some h
                    obtain ⟨hg816, h⟩ := gd_some h
                    refine AW.regc Fm [.s, .s, .s, .s, .k (rE { v := .v (.c (.pte 0 1 ((0 + (v779).toNat) + (v804).toNat) 0)) }), .s, .s, .s] [] (fun K => K 4 ∧ (((0 + (v779).toNat) + (v804).toNat) < List.length v805) ∧ (0 ≤ v803 ∧ v803 < ((List.length v805 : Nat) : Int)) ∧ (v803.toNat < List.length v805) ∧ True) [(0, .v (.c (.own 0))), (3, vi v803), (4, .v (.c (.sub 0 1 (0 + (v779).toNat) ((List.length (α := Int) x728) - (v779).toNat)))), (5, vi v804)] [(0, .arr 1 (List.length (α := Int) v805) (fun j => if j = v803.toNat then splice ((LF (α := Int) v805) v803.toNat) 0 [.int .i64 (gl v805 ((0 + (v779).toNat) + (v804).toNat))] else (LF (α := Int) v805) j))] ⟨KAt.vindex (m := v804) (id := 0) (lo0 := (0 + (v779).toNat)) (n := ((List.length (α := Int) x728) - (v779).toNat)) (N := List.length (α := Int) v805) (f := LF (α := Int) v805) prog_lay slT22 rfl rfl (by kernel_rfl) (by kernel_rfl) (by kernel_rfl) (by kernel_rfl) hg814 (by kernel_rfl), hg815, hg816, (toNat_lt hg816), True.intro⟩ (by kernel_rfl) (by kernel_rfl) (by kernel_rfl) (by kernel_rfl) ?_
                    refine Kn.wk [(0, .v (.c (.own 0))), (3, vi v803), (4, .v (.c (.sub 0 1 (0 + (v779).toNat) ((List.length (α := Int) x728) - (v779).toNat)))), (5, vi v804)] [(0, AO (α := Int) (List.set v805 v803.toNat (gl v805 ((0 + (v779).toNat) + (v804).toNat))))] (FE.refl _) (⟨rfl, OLe.is (Is.set (Is.refl v805) (toNat_lt hg816) (gl v805 ((0 + (v779).toNat) + (v804).toNat)) (by kernel_rfl)), True.intro⟩) ?_
                    obtain ⟨hg817, h⟩ := gd_some h
                    refine AW.regc Fm [.s, .s, .s] [] (fun K => (I64 (v803 + (1 : Int)) ∧ True) ∧ True) [(0, .v (.c (.own 0))), (3, vi (v803 + (1 : Int))), (4, .v (.c (.sub 0 1 (0 + (v779).toNat) ((List.length (α := Int) x728) - (v779).toNat)))), (5, vi v804)] [(0, AO (α := Int) (List.set v805 v803.toNat (gl v805 ((0 + (v779).toNat) + (v804).toNat))))] ⟨⟨hg817, True.intro⟩, True.intro⟩ (by kernel_rfl) (by kernel_rfl) (by kernel_rfl) (by kernel_rfl) ?_
                    exact Kn.re Fm [] [(0, .v (.c (.own 0))), (3, vi (v803 + (1 : Int))), (4, .v (.c (.sub 0 1 (0 + (v779).toNat) ((List.length (α := Int) x728) - (v779).toNat)))), (5, vi v804)] [(0, AO (α := Int) (List.set v805 v803.toNat (gl v805 ((0 + (v779).toNat) + (v804).toNat))))] (by kernel_rfl) (by kernel_rfl) (by kernel_rfl) (by kernel_rfl) (hJ820 ((v803 + (1 : Int)), (List.set v805 v803.toNat (gl v805 ((0 + (v779).toNat) + (v804).toNat)))) h)
                  · have h := br_f h hb813
                    refine AW.skip ?_
                    exact Kn.re Fm [] [(0, .v (.c (.own 0))), (3, vi v803), (4, .v (.c (.sub 0 1 (0 + (v779).toNat) ((List.length (α := Int) x728) - (v779).toNat)))), (5, vi v804)] [(0, AO (α := Int) v805)] (by kernel_rfl) (by kernel_rfl) (by kernel_rfl) (by kernel_rfl) (hJ820 (v803, v805) h)
              · have h := br_f h hb807
                refine AW.exit ?_
                exact Kn.re Fm [] [(0, .v (.c (.own 0))), (3, vi v803)] [(0, AO (α := Int) v805)] (by kernel_rfl) (by kernel_rfl) (by kernel_rfl) (by kernel_rfl) (hJ824 (v803, v805) h)
          · have h := br_f h hb785
            refine AW.skip ?_
            exact Kn.re Fm [] [(0, .v (.c (.own 0))), (3, vi v779)] [(0, AO (α := Int) x728)] (by kernel_rfl) (by kernel_rfl) (by kernel_rfl) (by kernel_rfl) (hJ827 () h)
      · have h := br_f h hb781
        refine AW.exit ?_
        exact Kn.re Fm [] [(0, .v (.c (.own 0)))] [(0, AO (α := Int) x728)] (by kernel_rfl) (by kernel_rfl) (by kernel_rfl) (by kernel_rfl) (hJ829 () h)
/- landaid/region.Cuts -/
theorem region_Cuts_spec {F : Nat} {x830 : (List (List Rect))} {r : (List Int)} (h : region_Cuts F x830 = some r) :
    FSpec Try.prog 60 [AL (α := (List Rect)) x830] [] (AL (α := Int) r) [] := by
  refine FSpec.intro prog_mixed prog_lay Try.func60 rfl (by kernel_rfl) fun C Fm => ?_
  unfold region_Cuts at h
  refine AW.seq ?_
  refine AW.regc Fm [.s] [] (fun K => True) [(0, AL (α := (List Rect)) x830)] [] True.intro (by kernel_rfl) (by kernel_rfl) (by kernel_rfl) (by kernel_rfl) ?_
  refine AW.seq ?_
  refine AW.regc Fm [.m] [] (fun K => True) [(0, AL (α := (List Rect)) x830), (3, .v (.c (.own 3)))] [(3, .arr 1 (0) (fun _ => []))] True.intro (by kernel_rfl) (by kernel_rfl) (by kernel_rfl) (by kernel_rfl) ?_
  refine Kn.wk [(0, AL (α := (List Rect)) x830), (3, .v (.c (.own 3)))] [(3, AO (α := Int) ([] : List Int))] (FE.refl _) (⟨rfl, OLe.is ((Is.nil (α := Int))), True.intro⟩) ?_
  refine AW.join (r := r) (fun z : (List Int) => region_Cuts_k3 F z) (fun z => [(3, .v (.c (.own 3)))]) (fun z => [(3, AO (α := Int) z)]) (fun v869 h => ?_) (fun J870 hJ870 => ?_)
  · have h : region_Cuts_k3 F v869 = some r := h
    refine AW.seq ?_
    obtain ⟨z871, hz872, h⟩ := bd_some h
    refine AW.regc Fm [.s, .k (cE [(0, 3)] [] (.any) [(0, AO (α := Int) v869)] [(0, AO (α := Int) z871)])] [] (fun K => K 1 ∧ True) [(3, .v (.c (.own 3)))] [(3, AO (α := Int) z871)] ⟨KAt.call (args := [.v (.c (.own 0))]) (sortI_spec hz872) Try.call40 [(0, 3)] rfl (by kernel_rfl) (by kernel_rfl) (by kernel_rfl) (by kernel_rfl), True.intro⟩ (by kernel_rfl) (by kernel_rfl) (by kernel_rfl) (by kernel_rfl) ?_
    refine AW.seq ?_
    obtain ⟨z873, hz874, h⟩ := bd_some h
    refine AW.regc Fm [.s, .k (cE [(0, 3), (100, 32)] [] (.v (.c (.own 100))) [(0, AO (α := Int) z871)] [(100, AO (α := Int) z873)]), .s] [] (fun K => K 1 ∧ True) [(2, .v (.c (.own 32)))] [(32, AO (α := Int) z873)] ⟨KAt.call (args := [.v (.c (.own 0))]) (slices_Compact_int_spec hz874) Try.call81 [(0, 3), (100, 32)] rfl (by kernel_rfl) (by kernel_rfl) (by kernel_rfl) (by kernel_rfl), True.intro⟩ (by kernel_rfl) (by kernel_rfl) (by kernel_rfl) (by kernel_rfl) ?_
    refine AW.ret ?_
    obtain rfl := Option.some.inj h
    refine Kn.re Fm [] [(2, .v (.c (.own 32)))] [(32, AO (α := Int) z873)] (by kernel_rfl) (by kernel_rfl) (by kernel_rfl) (by kernel_rfl) ?_
    refine Kn.frz [(2, AL (α := Int) z873)] [] (by kernel_rfl) (by kernel_rfl) (by kernel_rfl) ?_
    exact Kn.re Fm [] [(2, AL (α := Int) z873)] [] (by kernel_rfl) (by kernel_rfl) (by kernel_rfl) (by kernel_rfl) (Kn.done Fm (by kernel_rfl) (by kernel_rfl))
  · refine AW.seq ?_
    refine AW.regc Fm [.s, .s, .s] [] (fun K => True) [(3, .v (.c (.own 3))), (8, AL (α := (List Rect)) x830), (9, vi ((List.length x830 : Nat) : Int)), (10, vi (0 : Int))] [(3, AO (α := Int) ([] : List Int))] True.intro (by kernel_rfl) (by kernel_rfl) (by kernel_rfl) (by kernel_rfl) ?_
    refine AW.block ?_
    refine Kn.re Fm [] [(3, .v (.c (.own 3))), (8, AL (α := (List Rect)) x830), (9, vi ((List.length x830 : Nat) : Int)), (10, vi (0 : Int))] [(3, AO (α := Int) ([] : List Int))] (by kernel_rfl) (by kernel_rfl) (by kernel_rfl) (by kernel_rfl) ?_
    have h : loopN (fun again (z : Int × (List Int)) => region_Cuts_b0 F x830 again z.1 z.2) F ((0 : Int), ([] : List Int)) = some r := h
    refine AW.loopF (E' := fun z => [(3, .v (.c (.own 3))), (8, AL (α := (List Rect)) x830), (9, vi ((List.length x830 : Nat) : Int)), (10, vi z.1)]) (S' := fun z => [(3, AO (α := Int) z.2)]) (fun ag_region_Cuts_b0 z J851 hJ851 h => ?_) h
    obtain ⟨v849, v850⟩ := z
    have h : region_Cuts_b0 F x830 ag_region_Cuts_b0 v849 v850 = some r := h
    refine AW.seq ?_
    refine AW.regc Fm [.s] [] (fun K => True) [(3, .v (.c (.own 3))), (8, AL (α := (List Rect)) x830), (9, vi ((List.length x830 : Nat) : Int)), (10, vi v849), (11, vb (decide (v849 < ((List.length x830 : Nat) : Int))))] [(3, AO (α := Int) v850)] True.intro (by kernel_rfl) (by kernel_rfl) (by kernel_rfl) (by kernel_rfl) ?_
    refine AW.seq ?_
    refine AW.cond (b := (decide (v849 < ((List.length x830 : Nat) : Int)))) (by kernel_rfl) (fun hb852 => ?_) (fun hb852 => ?_)
    · have h := br_t h hb852
      refine AW.skip ?_
      refine AW.join (r := r) (fun z : (List Int) => region_Cuts_k2 F v849 ag_region_Cuts_b0 z) (fun z => [(3, .v (.c (.own 3))), (8, AL (α := (List Rect)) x830), (9, vi ((List.length x830 : Nat) : Int)), (10, vi v849)]) (fun z => [(3, AO (α := Int) z)]) (fun v866 h => ?_) (fun J867 hJ867 => ?_)
      · have h : region_Cuts_k2 F v849 ag_region_Cuts_b0 v866 = some r := h
        obtain ⟨hg868, h⟩ := gd_some h
        refine AW.regc Fm [.s, .s] [] (fun K => (I64 (v849 + (1 : Int)) ∧ True) ∧ True) [(3, .v (.c (.own 3))), (8, AL (α := (List Rect)) x830), (9, vi ((List.length x830 : Nat) : Int)), (10, vi (v849 + (1 : Int)))] [(3, AO (α := Int) v866)] ⟨⟨hg868, True.intro⟩, True.intro⟩ (by kernel_rfl) (by kernel_rfl) (by kernel_rfl) (by kernel_rfl) ?_
        exact Kn.re Fm [] [(3, .v (.c (.own 3))), (8, AL (α := (List Rect)) x830), (9, vi ((List.length x830 : Nat) : Int)), (10, vi (v849 + (1 : Int)))] [(3, AO (α := Int) v866)] (by kernel_rfl) (by kernel_rfl) (by kernel_rfl) (by kernel_rfl) (hJ851 ((v849 + (1 : Int)), v866) h)
      · refine AW.block ?_
        refine AW.seq ?_
        obtain ⟨hg853, h⟩ := gd_some h
        refine AW.regc Fm [.s, .s, .s] [] (fun K => (0 ≤ v849 ∧ v849 < ((List.length x830 : Nat) : Int)) ∧ True) [(3, .v (.c (.own 3))), (5, AL (α := Rect) (gl x830 v849.toNat)), (8, AL (α := (List Rect)) x830), (9, vi ((List.length x830 : Nat) : Int)), (10, vi v849)] [(3, AO (α := Int) v850)] ⟨hg853, True.intro⟩ (by kernel_rfl) (by kernel_rfl) (by kernel_rfl) (by kernel_rfl) ?_
        refine AW.seq ?_
        refine AW.regc Fm [.s, .s, .s] [] (fun K => True) [(3, .v (.c (.own 3))), (8, AL (α := (List Rect)) x830), (9, vi ((List.length x830 : Nat) : Int)), (10, vi v849), (14, AL (α := Rect) (gl x830 v849.toNat)), (15, vi ((List.length (gl x830 v849.toNat) : Nat) : Int)), (16, vi (0 : Int))] [(3, AO (α := Int) v850)] True.intro (by kernel_rfl) (by kernel_rfl) (by kernel_rfl) (by kernel_rfl) ?_
        refine AW.block ?_
        refine Kn.re Fm [] [(3, .v (.c (.own 3))), (8, AL (α := (List Rect)) x830), (9, vi ((List.length x830 : Nat) : Int)), (10, vi v849), (14, AL (α := Rect) (gl x830 v849.toNat)), (15, vi ((List.length (gl x830 v849.toNat) : Nat) : Int)), (16, vi (0 : Int))] [(3, AO (α := Int) v850)] (by kernel_rfl) (by kernel_rfl) (by kernel_rfl) (by kernel_rfl) ?_
        have h : loopN (fun again (z : Int × (List Int)) => region_Cuts_b1 F x830 v849 ag_region_Cuts_b0 again z.1 z.2) F ((0 : Int), v850) = some r := h
        refine AW.loopF (E' := fun z => [(3, .v (.c (.own 3))), (8, AL (α := (List Rect)) x830), (9, vi ((List.length x830 : Nat) : Int)), (10, vi v849), (14, AL (α := Rect) (gl x830 v849.toNat)), (15, vi ((List.length (gl x830 v849.toNat) : Nat) : Int)), (16, vi z.1)]) (S' := fun z => [(3, AO (α := Int) z.2)]) (fun ag_region_Cuts_b1 z J861 hJ861 h => ?_) h
        obtain ⟨v859, v860⟩ := z
        have h : region_Cuts_b1 F x830 v849 ag_region_Cuts_b0 ag_region_Cuts_b1 v859 v860 = some r := h
        refine AW.seq ?_
        refine AW.regc Fm [.s] [] (fun K => True) [(3, .v (.c (.own 3))), (8, AL (α := (List Rect)) x830), (9, vi ((List.length x830 : Nat) : Int)), (10, vi v849), (14, AL (α := Rect) (gl x830 v849.toNat)), (15, vi ((List.length (gl x830 v849.toNat) : Nat) : Int)), (16, vi v859), (17, vb (decide (v859 < ((List.length (gl x830 v849.toNat) : Nat) : Int))))] [(3, AO (α := Int) v860)] True.intro (by kernel_rfl) (by kernel_rfl) (by kernel_rfl) (by kernel_rfl) ?_
        refine AW.seq ?_
        refine AW.cond (b := (decide (v859 < ((List.length (gl x830 v849.toNat) : Nat) : Int)))) (by kernel_rfl) (fun hb862 => ?_) (fun hb862 => ?_)
        · have h := br_t h hb862
          refine AW.skip ?_
          refine AW.seq ?_
          refine AW.block ?_
          refine AW.seq ?_
          obtain ⟨hg863, h⟩ := gd_some h
          refine AW.regc Fm [.s, .s, .s, .s] [] (fun K => (0 ≤ v859 ∧ v859 < ((List.length (gl x830 v849.toNat) : Nat) : Int)) ∧ True) [(3, .v (.c (.own 3))), (7, .v (.c (.ptr 7 0))), (8, AL (α := (List Rect)) x830), (9, vi ((List.length x830 : Nat) : Int)), (10, vi v849), (14, AL (α := Rect) (gl x830 v849.toNat)), (15, vi ((List.length (gl x830 v849.toNat) : Nat) : Int)), (16, vi v859)] [(3, AO (α := Int) v860), (7, .box false [.d (.int .i64 (gl (gl x830 v849.toNat) v859.toNat).left_), .d (.int .i64 (gl (gl x830 v849.toNat) v859.toNat).low_), .d (.int .i64 (gl (gl x830 v849.toNat) v859.toNat).right_), .d (.int .i64 (gl (gl x830 v849.toNat) v859.toNat).high_)])] ⟨hg863, True.intro⟩ (by kernel_rfl) (by kernel_rfl) (by kernel_rfl) (by kernel_rfl) ?_
          obtain ⟨hg864, h⟩ := gd_some h
          refine AW.regc Fm [.s, .s, .s, .s, .s, .w (AL (α := Int) ([(gl (gl x830 v849.toNat) v859.toNat).low_, (gl (gl x830 v849.toNat) v859.toNat).high_] : List Int)), .s, .s] [] (fun K => (ALe (.v (.c (.d (.lst 2 (litF 1 [.int .i64 (gl (gl x830 v849.toNat) v859.toNat).low_, .int .i64 (gl (gl x830 v849.toNat) v859.toNat).high_]))))) (AL (α := Int) ([(gl (gl x830 v849.toNat) v859.toNat).low_, (gl (gl x830 v849.toNat) v859.toNat).high_] : List Int))) ∧ ((List.length (α := Int) v860) + (List.length (α := Int) ([(gl (gl x830 v849.toNat) v859.toNat).low_, (gl (gl x830 v849.toNat) v859.toNat).high_] : List Int)) ≤ LIM ∧ (∀ j, j < List.length (α := Int) ([(gl (gl x830 v849.toNat) v859.toNat).low_, (gl (gl x830 v849.toNat) v859.toNat).high_] : List Int) → ((LF (α := Int) ([(gl (gl x830 v849.toNat) v859.toNat).low_, (gl (gl x830 v849.toNat) v859.toNat).high_] : List Int)) j).length = 1) ∧ (True)) ∧ True) [(3, .v (.c (.own 26))), (8, AL (α := (List Rect)) x830), (9, vi ((List.length x830 : Nat) : Int)), (10, vi v849), (14, AL (α := Rect) (gl x830 v849.toNat)), (15, vi ((List.length (gl x830 v849.toNat) : Nat) : Int)), (16, vi v859)] [(26, .arr 1 ((List.length (α := Int) v860) + (List.length (α := Int) ([(gl (gl x830 v849.toNat) v859.toNat).low_, (gl (gl x830 v849.toNat) v859.toNat).high_] : List Int))) (appF (List.length (α := Int) v860) (LF (α := Int) v860) (LF (α := Int) ([(gl (gl x830 v849.toNat) v859.toNat).low_, (gl (gl x830 v849.toNat) v859.toNat).high_] : List Int))))] ⟨ALe.lst (.lit ([(gl (gl x830 v849.toNat) v859.toNat).low_, (gl (gl x830 v849.toNat) v859.toNat).high_] : List Int) (by kernel_rfl)), ⟨hg864, (Is.refl ([(gl (gl x830 v849.toNat) v859.toNat).low_, (gl (gl x830 v849.toNat) v859.toNat).high_] : List Int) : Is (List.length (α := Int) ([(gl (gl x830 v849.toNat) v859.toNat).low_, (gl (gl x830 v849.toNat) v859.toNat).high_] : List Int)) (LF (α := Int) ([(gl (gl x830 v849.toNat) v859.toNat).low_, (gl (gl x830 v849.toNat) v859.toNat).high_] : List Int)) ([(gl (gl x830 v849.toNat) v859.toNat).low_, (gl (gl x830 v849.toNat) v859.toNat).high_] : List Int)).len, True.intro⟩, True.intro⟩ (by kernel_rfl) (by kernel_rfl) (by kernel_rfl) (by kernel_rfl) ?_
          refine Kn.wk [(3, .v (.c (.own 26))), (8, AL (α := (List Rect)) x830), (9, vi ((List.length x830 : Nat) : Int)), (10, vi v849), (14, AL (α := Rect) (gl x830 v849.toNat)), (15, vi ((List.length (gl x830 v849.toNat) : Nat) : Int)), (16, vi v859)] [(26, AO (α := Int) (v860 ++ ([(gl (gl x830 v849.toNat) v859.toNat).low_, (gl (gl x830 v849.toNat) v859.toNat).high_] : List Int)))] (FE.refl _) (⟨rfl, OLe.is (Is.app (Is.refl v860) (Is.refl ([(gl (gl x830 v849.toNat) v859.toNat).low_, (gl (gl x830 v849.toNat) v859.toNat).high_] : List Int))), True.intro⟩) ?_
          obtain ⟨hg865, h⟩ := gd_some h
          refine AW.regc Fm [.s, .s] [] (fun K => (I64 (v859 + (1 : Int)) ∧ True) ∧ True) [(3, .v (.c (.own 26))), (8, AL (α := (List Rect)) x830), (9, vi ((List.length x830 : Nat) : Int)), (10, vi v849), (14, AL (α := Rect) (gl x830 v849.toNat)), (15, vi ((List.length (gl x830 v849.toNat) : Nat) : Int)), (16, vi (v859 + (1 : Int)))] [(26, AO (α := Int) (v860 ++ ([(gl (gl x830 v849.toNat) v859.toNat).low_, (gl (gl x830 v849.toNat) v859.toNat).high_] : List Int)))] ⟨⟨hg865, True.intro⟩, True.intro⟩ (by kernel_rfl) (by kernel_rfl) (by kernel_rfl) (by kernel_rfl) ?_
          exact Kn.re Fm [(3, 26)] [(3, .v (.c (.own 3))), (8, AL (α := (List Rect)) x830), (9, vi ((List.length x830 : Nat) : Int)), (10, vi v849), (14, AL (α := Rect) (gl x830 v849.toNat)), (15, vi ((List.length (gl x830 v849.toNat) : Nat) : Int)), (16, vi (v859 + (1 : Int)))] [(3, AO (α := Int) (v860 ++ ([(gl (gl x830 v849.toNat) v859.toNat).low_, (gl (gl x830 v849.toNat) v859.toNat).high_] : List Int)))] (by kernel_rfl) (by kernel_rfl) (by kernel_rfl) (by kernel_rfl) (hJ861 ((v859 + (1 : Int)), (v860 ++ ([(gl (gl x830 v849.toNat) v859.toNat).low_, (gl (gl x830 v849.toNat) v859.toNat).high_] : List Int))) h)
        · have h := br_f h hb862
          refine AW.exit ?_
          exact Kn.re Fm [] [(3, .v (.c (.own 3))), (8, AL (α := (List Rect)) x830), (9, vi ((List.length x830 : Nat) : Int)), (10, vi v849)] [(3, AO (α := Int) v860)] (by kernel_rfl) (by kernel_rfl) (by kernel_rfl) (by kernel_rfl) (hJ867 v860 h)
    · have h := br_f h hb852
      refine AW.exit ?_
      exact Kn.re Fm [] [(3, .v (.c (.own 3)))] [(3, AO (α := Int) v850)] (by kernel_rfl) (by kernel_rfl) (by kernel_rfl) (by kernel_rfl) (hJ870 v850 h)
/- cmp.isNaN[int] -/
theorem cmp_isNaN_int_spec {F : Nat} {x875 : Int} {r : Bool} (h : cmp_isNaN_int F x875 = some r) :
    FSpec Try.prog 45 [vi x875] [] (vb r) [] := by
  refine FSpec.intro prog_mixed prog_lay Try.func45 rfl (by kernel_rfl) fun C Fm => ?_
  unfold cmp_isNaN_int at h
  refine AW.seq ?_
  refine AW.regc Fm [.s] [] (fun K => True) [(0, vi x875)] [] True.intro (by kernel_rfl) (by kernel_rfl) (by kernel_rfl) (by kernel_rfl) ?_
  refine AW.seq ?_
  refine AW.regc Fm [.s, .s, .s, .s] [] (fun K => True) [(2, vb (x875 != x875))] [] True.intro (by kernel_rfl) (by kernel_rfl) (by kernel_rfl) (by kernel_rfl) ?_
  refine AW.ret ?_
  obtain rfl := Option.some.inj h
  exact Kn.re Fm [] [(2, vb (x875 != x875))] [] (by kernel_rfl) (by kernel_rfl) (by kernel_rfl) (by kernel_rfl) (Kn.done Fm (by kernel_rfl) (by kernel_rfl))
/- cmp.Compare[int] -/
theorem cmp_Compare_int_spec {F : Nat} {x876 : Int} {x877 : Int} {r : Int} (h : cmp_Compare_int F x876 x877 = some r) :
    FSpec Try.prog 34 [vi x876, vi x877] [] (vi r) [] := by
  refine FSpec.intro prog_mixed prog_lay Try.func34 rfl (by kernel_rfl) fun C Fm => ?_
  unfold cmp_Compare_int at h
  refine AW.seq ?_
  refine AW.regc Fm [.s] [] (fun K => True) [(0, vi x876), (1, vi x877)] [] True.intro (by kernel_rfl) (by kernel_rfl) (by kernel_rfl) (by kernel_rfl) ?_
  refine AW.seq ?_
  obtain ⟨z878, hz879, h⟩ := bd_some h
  refine AW.regc Fm [.s, .k (cE [] [] (vb z878) [] []), .s] [] (fun K => K 1 ∧ True) [(0, vi x876), (1, vi x877), (5, vb z878)] [] ⟨KAt.call (args := [vi x876]) (cmp_isNaN_int_spec hz879) Try.call45 [] rfl (by kernel_rfl) (by kernel_rfl) (by kernel_rfl) (by kernel_rfl), True.intro⟩ (by kernel_rfl) (by kernel_rfl) (by kernel_rfl) (by kernel_rfl) ?_
  refine AW.seq ?_
  obtain ⟨z880, hz881, h⟩ := bd_some h
  refine AW.regc Fm [.s, .k (cE [] [] (vb z880) [] []), .s] [] (fun K => K 1 ∧ True) [(0, vi x876), (1, vi x877), (5, vb z878), (6, vb z880)] [] ⟨KAt.call (args := [vi x877]) (cmp_isNaN_int_spec hz881) Try.call45 [] rfl (by kernel_rfl) (by kernel_rfl) (by kernel_rfl) (by kernel_rfl), True.intro⟩ (by kernel_rfl) (by kernel_rfl) (by kernel_rfl) (by kernel_rfl) ?_
  refine AW.seq ?_
  refine AW.seq ?_
  refine AW.regc Fm [.s] [] (fun K => True) [(0, vi x876), (1, vi x877), (6, vb z880), (11, vb z878)] [] True.intro (by kernel_rfl) (by kernel_rfl) (by kernel_rfl) (by kernel_rfl) ?_
  refine AW.cond (b := z878) (by kernel_rfl) (fun hb882 => ?_) (fun hb882 => ?_)
  · have h := br_t h hb882
    refine AW.seq ?_
    refine AW.seq ?_
    refine AW.regc Fm [.s] [] (fun K => True) [(12, vb z880)] [] True.intro (by kernel_rfl) (by kernel_rfl) (by kernel_rfl) (by kernel_rfl) ?_
    refine AW.cond (b := z880) (by kernel_rfl) (fun hb883 => ?_) (fun hb883 => ?_)
    · have h := br_t h hb883
      refine AW.seq ?_
      refine AW.regc Fm [.s] [] (fun K => True) [(4, vi (0 : Int))] [] True.intro (by kernel_rfl) (by kernel_rfl) (by kernel_rfl) (by kernel_rfl) ?_
      refine AW.ret ?_
      obtain rfl := Option.some.inj h
      exact Kn.re Fm [] [(4, vi (0 : Int))] [] (by kernel_rfl) (by kernel_rfl) (by kernel_rfl) (by kernel_rfl) (Kn.done Fm (by kernel_rfl) (by kernel_rfl))
    · have h := br_f h hb883
      refine AW.skip ?_
      refine AW.seq ?_
      refine AW.regc Fm [.s] [] (fun K => True) [(4, vi (-1 : Int))] [] True.intro (by kernel_rfl) (by kernel_rfl) (by kernel_rfl) (by kernel_rfl) ?_
      refine AW.ret ?_
      obtain rfl := Option.some.inj h
      exact Kn.re Fm [] [(4, vi (-1 : Int))] [] (by kernel_rfl) (by kernel_rfl) (by kernel_rfl) (by kernel_rfl) (Kn.done Fm (by kernel_rfl) (by kernel_rfl))
  · have h := br_f h hb882
    refine AW.skip ?_
    refine AW.seq ?_
    refine AW.seq ?_
    refine AW.regc Fm [.s] [] (fun K => True) [(0, vi x876), (1, vi x877), (13, vb z880)] [] True.intro (by kernel_rfl) (by kernel_rfl) (by kernel_rfl) (by kernel_rfl) ?_
    refine AW.cond (b := z880) (by kernel_rfl) (fun hb884 => ?_) (fun hb884 => ?_)
    · have h := br_t h hb884
      refine AW.seq ?_
      refine AW.regc Fm [.s] [] (fun K => True) [(4, vi (1 : Int))] [] True.intro (by kernel_rfl) (by kernel_rfl) (by kernel_rfl) (by kernel_rfl) ?_
      refine AW.ret ?_
      obtain rfl := Option.some.inj h
      exact Kn.re Fm [] [(4, vi (1 : Int))] [] (by kernel_rfl) (by kernel_rfl) (by kernel_rfl) (by kernel_rfl) (Kn.done Fm (by kernel_rfl) (by kernel_rfl))
    · have h := br_f h hb884
      refine AW.skip ?_
      refine AW.seq ?_
      refine AW.seq ?_
      refine AW.regc Fm [.s, .s, .s] [] (fun K => True) [(0, vi x876), (1, vi x877), (16, vb (decide (x876 < x877)))] [] True.intro (by kernel_rfl) (by kernel_rfl) (by kernel_rfl) (by kernel_rfl) ?_
      refine AW.cond (b := (decide (x876 < x877))) (by kernel_rfl) (fun hb885 => ?_) (fun hb885 => ?_)
      · have h := br_t h hb885
        refine AW.seq ?_
        refine AW.regc Fm [.s] [] (fun K => True) [(4, vi (-1 : Int))] [] True.intro (by kernel_rfl) (by kernel_rfl) (by kernel_rfl) (by kernel_rfl) ?_
        refine AW.ret ?_
        obtain rfl := Option.some.inj h
        exact Kn.re Fm [] [(4, vi (-1 : Int))] [] (by kernel_rfl) (by kernel_rfl) (by kernel_rfl) (by kernel_rfl) (Kn.done Fm (by kernel_rfl) (by kernel_rfl))
      · have h := br_f h hb885
        refine AW.skip ?_
        refine AW.seq ?_
        refine AW.seq ?_
        refine AW.regc Fm [.s, .s, .s] [] (fun K => True) [(19, vb (decide (x877 < x876)))] [] True.intro (by kernel_rfl) (by kernel_rfl) (by kernel_rfl) (by kernel_rfl) ?_
        refine AW.cond (b := (decide (x877 < x876))) (by kernel_rfl) (fun hb886 => ?_) (fun hb886 => ?_)
        · have h := br_t h hb886
          refine AW.seq ?_
          refine AW.regc Fm [.s] [] (fun K => True) [(4, vi (1 : Int))] [] True.intro (by kernel_rfl) (by kernel_rfl) (by kernel_rfl) (by kernel_rfl) ?_
          refine AW.ret ?_
          obtain rfl := Option.some.inj h
          exact Kn.re Fm [] [(4, vi (1 : Int))] [] (by kernel_rfl) (by kernel_rfl) (by kernel_rfl) (by kernel_rfl) (Kn.done Fm (by kernel_rfl) (by kernel_rfl))
        · have h := br_f h hb886
          refine AW.skip ?_
          refine AW.seq ?_
          refine AW.regc Fm [.s] [] (fun K => True) [(4, vi (0 : Int))] [] True.intro (by kernel_rfl) (by kernel_rfl) (by kernel_rfl) (by kernel_rfl) ?_
          refine AW.ret ?_
          obtain rfl := Option.some.inj h
          exact Kn.re Fm [] [(4, vi (0 : Int))] [] (by kernel_rfl) (by kernel_rfl) (by kernel_rfl) (by kernel_rfl) (Kn.done Fm (by kernel_rfl) (by kernel_rfl))
/- landaid/region.Row$1 -/
theorem region_Row_1_spec {F : Nat} {x887 : Span} {x888 : Span} {r : Int} (h : region_Row_1 F x887 x888 = some r) :
    FSpec Try.prog 83 [.v (.g [.d (.int .i64 x887.left_), .d (.int .i64 x887.right_)]), .v (.g [.d (.int .i64 x888.left_), .d (.int .i64 x888.right_)])] [] (vi r) [] := by
  refine FSpec.intro prog_mixed prog_lay Try.func83 rfl (by kernel_rfl) fun C Fm => ?_
  unfold region_Row_1 at h
  refine AW.seq ?_
  refine AW.regc Fm [.s, .s, .s] [] (fun K => True) [(2, .v (.c (.ptr 2 0))), (3, .v (.c (.ptr 3 0)))] [(2, .box false [.d (.int .i64 x887.left_), .d (.int .i64 x887.right_)]), (3, .box false [.d (.int .i64 x888.left_), .d (.int .i64 x888.right_)])] True.intro (by kernel_rfl) (by kernel_rfl) (by kernel_rfl) (by kernel_rfl) ?_
  refine AW.seq ?_
  obtain ⟨z889, hz890, h⟩ := bd_some h
  refine AW.regc Fm [.s, .s, .s, .s, .k (cE [] [] (vi z889) [] []), .s] [] (fun K => K 4 ∧ True) [(4, vi z889)] [] ⟨KAt.call (args := [vi x887.left_, vi x888.left_]) (cmp_Compare_int_spec hz890) Try.call34 [] rfl (by kernel_rfl) (by kernel_rfl) (by kernel_rfl) (by kernel_rfl), True.intro⟩ (by kernel_rfl) (by kernel_rfl) (by kernel_rfl) (by kernel_rfl) ?_
  refine AW.ret ?_
  obtain rfl := Option.some.inj h
  exact Kn.re Fm [] [(4, vi z889)] [] (by kernel_rfl) (by kernel_rfl) (by kernel_rfl) (by kernel_rfl) (Kn.done Fm (by kernel_rfl) (by kernel_rfl))
/- landaid/region.Row -/
theorem region_Row_spec {F : Nat} {x891 : (List Rect)} {x892 : Int} {r : (List Span)} (h : region_Row F x891 x892 = some r) :
    FSpec Try.prog 62 [AL (α := Rect) x891, vi x892] [] (AL (α := Span) r) [] := by
  refine FSpec.intro prog_mixed prog_lay Try.func62 rfl (by kernel_rfl) fun C Fm => ?_
  unfold region_Row at h
  refine AW.seq ?_
  refine AW.regc Fm [.s] [] (fun K => True) [(0, AL (α := Rect) x891), (1, vi x892)] [] True.intro (by kernel_rfl) (by kernel_rfl) (by kernel_rfl) (by kernel_rfl) ?_
  refine AW.seq ?_
  refine AW.regc Fm [.m] [] (fun K => True) [(0, AL (α := Rect) x891), (1, vi x892), (5, .v (.c (.own 5)))] [(5, .arr 2 (0) (fun _ => []))] True.intro (by kernel_rfl) (by kernel_rfl) (by kernel_rfl) (by kernel_rfl) ?_
  refine Kn.wk [(0, AL (α := Rect) x891), (1, vi x892), (5, .v (.c (.own 5)))] [(5, AO (α := Span) ([] : List Span))] (FE.refl _) (⟨rfl, OLe.is ((Is.nil (α := Span))), True.intro⟩) ?_
  refine AW.join (r := r) (fun z : (List Span) => region_Row_k3 F z) (fun z => [(5, .v (.c (.own 5)))]) (fun z => [(5, AO (α := Span) z)]) (fun v917 h => ?_) (fun J918 hJ918 => ?_)
  · have h : region_Row_k3 F v917 = some r := h
    refine AW.seq ?_
    obtain ⟨z919, hz920, h⟩ := bd_some h
    refine AW.regc Fm [.s, .k (cE [(0, 5)] [] (.any) [(0, AO (α := Span) v917)] [(0, AO (α := Span) z919)])] [] (fun K => K 1 ∧ True) [(5, .v (.c (.own 5)))] [(5, AO (α := Span) z919)] ⟨KAt.callX (args := [.v (.c (.own 0)), .v (.c (.sem (CloOK Try.prog (FR_Span_Span_Int (fun y0 y1 => region_Row_1 F y0 y1)))))]) (sortF_spec hz920) Try.call82 [(0, 5)] [] [.tmp 37, .func 83] rfl (by kernel_rfl) (by kernel_rfl) (by kernel_rfl) ⟨ArgT.plain (by kernel_rfl) (ALe.of_eq (by kernel_rfl)) (by kernel_rfl), ArgT.cloX Try.call83 [] (fun args r hq => by obtain ⟨y0, y1, y, hq, rfl, rfl⟩ := hq; exact Eq.mp (by kernel_rfl) (region_Row_1_spec hq)) (fun args r hq => by obtain ⟨y0, y1, y, hq, rfl, rfl⟩ := hq; rfl) (by kernel_rfl) [] (by kernel_rfl) (by kernel_rfl) (True.intro) (by kernel_rfl), True.intro⟩, True.intro⟩ (by kernel_rfl) (by kernel_rfl) (by kernel_rfl) (by kernel_rfl) ?_
    refine AW.seq ?_
    refine AW.regc Fm [.m] [] (fun K => True) [(5, .v (.c (.own 5))), (8, .v (.c (.own 8)))] [(5, AO (α := Span) z919), (8, .arr 2 (0) (fun _ => []))] True.intro (by kernel_rfl) (by kernel_rfl) (by kernel_rfl) (by kernel_rfl) ?_
    refine Kn.wk [(5, .v (.c (.own 5))), (8, .v (.c (.own 8)))] [(5, AO (α := Span) z919), (8, AO (α := Span) ([] : List Span))] (FE.refl _) (⟨rfl, OLe.refl _, ⟨rfl, OLe.is ((Is.nil (α := Span))), True.intro⟩⟩) ?_
    refine AW.join (r := r) (fun z : (List Span) => region_Row_k7 F z) (fun z => [(8, .v (.c (.own 8)))]) (fun z => [(8, AO (α := Span) z)]) (fun v957 h => ?_) (fun J958 hJ958 => ?_)
    · have h : region_Row_k7 F v957 = some r := h
      refine AW.seq ?_
      refine AW.regc Fm [.s, .s] [] (fun K => True) [(4, .v (.c (.own 8)))] [(8, AO (α := Span) v957)] True.intro (by kernel_rfl) (by kernel_rfl) (by kernel_rfl) (by kernel_rfl) ?_
      refine AW.ret ?_
      obtain rfl := Option.some.inj h
      refine Kn.re Fm [] [(4, .v (.c (.own 8)))] [(8, AO (α := Span) v957)] (by kernel_rfl) (by kernel_rfl) (by kernel_rfl) (by kernel_rfl) ?_
      refine Kn.frz [(4, AL (α := Span) v957)] [] (by kernel_rfl) (by kernel_rfl) (by kernel_rfl) ?_
      exact Kn.re Fm [] [(4, AL (α := Span) v957)] [] (by kernel_rfl) (by kernel_rfl) (by kernel_rfl) (by kernel_rfl) (Kn.done Fm (by kernel_rfl) (by kernel_rfl))
    · refine AW.seq ?_
      refine AW.regc Fm [.s, .s, .s] [] (fun K => True) [(8, .v (.c (.own 8))), (39, .v (.c (.own 5))), (40, vi ((List.length z919 : Nat) : Int)), (41, vi (0 : Int))] [(5, AO (α := Span) z919), (8, AO (α := Span) ([] : List Span))] True.intro (by kernel_rfl) (by kernel_rfl) (by kernel_rfl) (by kernel_rfl) ?_
      refine AW.block ?_
      refine Kn.re Fm [] [(8, .v (.c (.own 8))), (39, .v (.c (.own 5))), (40, vi ((List.length z919 : Nat) : Int)), (41, vi (0 : Int))] [(5, AO (α := Span) z919), (8, AO (α := Span) ([] : List Span))] (by kernel_rfl) (by kernel_rfl) (by kernel_rfl) (by kernel_rfl) ?_
      have h : loopN (fun again (z : Int × (List Span)) => region_Row_b4 F z919 again z.1 z.2) F ((0 : Int), ([] : List Span)) = some r := h
      refine AW.loopF (E' := fun z => [(8, .v (.c (.own 8))), (39, .v (.c (.own 5))), (40, vi ((List.length z919 : Nat) : Int)), (41, vi z.1)]) (S' := fun z => [(5, AO (α := Span) z919), (8, AO (α := Span) z.2)]) (fun ag_region_Row_b4 z J940 hJ940 h => ?_) h
      obtain ⟨v938, v939⟩ := z
      have h : region_Row_b4 F z919 ag_region_Row_b4 v938 v939 = some r := h
      refine AW.seq ?_
      refine AW.regc Fm [.s] [] (fun K => True) [(8, .v (.c (.own 8))), (39, .v (.c (.own 5))), (40, vi ((List.length z919 : Nat) : Int)), (41, vi v938), (42, vb (decide (v938 < ((List.length z919 : Nat) : Int))))] [(5, AO (α := Span) z919), (8, AO (α := Span) v939)] True.intro (by kernel_rfl) (by kernel_rfl) (by kernel_rfl) (by kernel_rfl) ?_
      refine AW.seq ?_
      refine AW.cond (b := (decide (v938 < ((List.length z919 : Nat) : Int)))) (by kernel_rfl) (fun hb941 => ?_) (fun hb941 => ?_)
      · have h := br_t h hb941
        refine AW.skip ?_
        refine AW.join (r := r) (fun z : (List Span) => region_Row_k6 F v938 ag_region_Row_b4 z) (fun z => [(8, .v (.c (.own 8))), (39, .v (.c (.own 5))), (40, vi ((List.length z919 : Nat) : Int)), (41, vi v938)]) (fun z => [(5, AO (α := Span) z919), (8, AO (α := Span) z)]) (fun v954 h => ?_) (fun J955 hJ955 => ?_)
        · have h : region_Row_k6 F v938 ag_region_Row_b4 v954 = some r := h
          obtain ⟨hg956, h⟩ := gd_some h
          refine AW.regc Fm [.s, .s] [] (fun K => (I64 (v938 + (1 : Int)) ∧ True) ∧ True) [(8, .v (.c (.own 8))), (39, .v (.c (.own 5))), (40, vi ((List.length z919 : Nat) : Int)), (41, vi (v938 + (1 : Int)))] [(5, AO (α := Span) z919), (8, AO (α := Span) v954)] ⟨⟨hg956, True.intro⟩, True.intro⟩ (by kernel_rfl) (by kernel_rfl) (by kernel_rfl) (by kernel_rfl) ?_
          exact Kn.re Fm [] [(8, .v (.c (.own 8))), (39, .v (.c (.own 5))), (40, vi ((List.length z919 : Nat) : Int)), (41, vi (v938 + (1 : Int)))] [(5, AO (α := Span) z919), (8, AO (α := Span) v954)] (by kernel_rfl) (by kernel_rfl) (by kernel_rfl) (by kernel_rfl) (hJ940 ((v938 + (1 : Int)), v954) h)
        · refine AW.block ?_
          refine AW.seq ?_
          obtain ⟨hg942, h⟩ := gd_some h
          refine AW.regc Fm [.s, .s, .s, .s] [] (fun K => (0 ≤ v938 ∧ v938 < ((List.length z919 : Nat) : Int)) ∧ (v938.toNat < List.length z919) ∧ True) [(8, .v (.c (.own 8))), (10, .v (.c (.ptr 10 0))), (39, .v (.c (.own 5))), (40, vi ((List.length z919 : Nat) : Int)), (41, vi v938)] [(5, AO (α := Span) z919), (8, AO (α := Span) v939), (10, .box false [.d (.int .i64 (gl z919 v938.toNat).left_), .d (.int .i64 (gl z919 v938.toNat).right_)])] ⟨hg942, (toNat_lt hg942), True.intro⟩ (by kernel_rfl) (by kernel_rfl) (by kernel_rfl) (by kernel_rfl) ?_
          refine AW.seq ?_
          refine AW.regc Fm [.s, .s, .s] [] (fun K => True) [(8, .v (.c (.own 8))), (10, .v (.c (.ptr 10 0))), (11, vi ((List.length v939 : Nat) : Int)), (39, .v (.c (.own 5))), (40, vi ((List.length z919 : Nat) : Int)), (41, vi v938)] [(5, AO (α := Span) z919), (8, AO (α := Span) v939), (10, .box false [.d (.int .i64 (gl z919 v938.toNat).left_), .d (.int .i64 (gl z919 v938.toNat).right_)])] True.intro (by kernel_rfl) (by kernel_rfl) (by kernel_rfl) (by kernel_rfl) ?_
          refine AW.join (r := r) (fun z : Bool => region_Row_k5 F z919 v938 v939 ag_region_Row_b4 z) (fun z => [(8, .v (.c (.own 8))), (10, .v (.c (.ptr 10 0))), (11, vi ((List.length v939 : Nat) : Int)), (39, .v (.c (.own 5))), (40, vi ((List.length z919 : Nat) : Int)), (41, vi v938), (59, vb z)]) (fun z => [(5, AO (α := Span) z919), (8, AO (α := Span) v939), (10, .box false [.d (.int .i64 (gl z919 v938.toNat).left_), .d (.int .i64 (gl z919 v938.toNat).right_)])]) (fun v946 h => ?_) (fun J947 hJ947 => ?_)
          · have h : region_Row_k5 F z919 v938 v939 ag_region_Row_b4 v946 = some r := h
            refine AW.cond (b := v946) (by kernel_rfl) (fun hb948 => ?_) (fun hb948 => ?_)
            · have h := br_t h hb948
              obtain ⟨hg949, h⟩ := gd_some h
              obtain ⟨hg950, h⟩ := gd_some h
              obtain ⟨hg951, h⟩ := gd_some h
              obtain ⟨hg952, h⟩ := gd_some h
              refine AW.regc Fm [.s, .s, .s, .s, .s, .s, .s, .s, .s, .s, .s, .s, .s, .s, .s] [] (fun K => (I64 (((List.length v939 : Nat) : Int) - (1 : Int)) ∧ True) ∧ (I64 (((List.length v939 : Nat) : Int) - (1 : Int)) ∧ True) ∧ (0 ≤ (((List.length v939 : Nat) : Int) - (1 : Int)) ∧ (((List.length v939 : Nat) : Int) - (1 : Int)) < ((List.length v939 : Nat) : Int)) ∧ ((((List.length v939 : Nat) : Int) - (1 : Int)).toNat < List.length v939) ∧ (0 ≤ (((List.length v939 : Nat) : Int) - (1 : Int)) ∧ (((List.length v939 : Nat) : Int) - (1 : Int)) < ((List.length v939 : Nat) : Int)) ∧ ((((List.length v939 : Nat) : Int) - (1 : Int)).toNat < List.length v939) ∧ True) [(8, .v (.c (.own 8))), (39, .v (.c (.own 5))), (40, vi ((List.length z919 : Nat) : Int)), (41, vi v938)] [(5, AO (α := Span) z919), (8, .arr 2 (List.length (α := Span) v939) (fun j => if j = (((List.length v939 : Nat) : Int) - (1 : Int)).toNat then splice ((LF (α := Span) v939) (((List.length v939 : Nat) : Int) - (1 : Int)).toNat) 1 [.int .i64 (gmax ((gl v939 (((List.length v939 : Nat) : Int) - (1 : Int)).toNat).right_) ((gl z919 v938.toNat).right_))] else (LF (α := Span) v939) j))] ⟨⟨hg949, True.intro⟩, ⟨hg950, True.intro⟩, hg951, (toNat_lt hg951), hg952, (toNat_lt hg952), True.intro⟩ (by kernel_rfl) (by kernel_rfl) (by kernel_rfl) (by kernel_rfl) ?_
              refine Kn.wk [(8, .v (.c (.own 8))), (39, .v (.c (.own 5))), (40, vi ((List.length z919 : Nat) : Int)), (41, vi v938)] [(5, AO (α := Span) z919), (8, AO (α := Span) (List.set v939 (((List.length v939 : Nat) : Int) - (1 : Int)).toNat (⟨(gl v939 (((List.length v939 : Nat) : Int) - (1 : Int)).toNat).left_, (gmax ((gl v939 (((List.length v939 : Nat) : Int) - (1 : Int)).toNat).right_) ((gl z919 v938.toNat).right_))⟩ : Span)))] (FE.refl _) (⟨rfl, OLe.refl _, ⟨rfl, OLe.is (Is.set (Is.refl v939) (toNat_lt hg952) (⟨(gl v939 (((List.length v939 : Nat) : Int) - (1 : Int)).toNat).left_, (gmax ((gl v939 (((List.length v939 : Nat) : Int) - (1 : Int)).toNat).right_) ((gl z919 v938.toNat).right_))⟩ : Span) (by kernel_rfl)), True.intro⟩⟩) ?_
              exact Kn.re Fm [] [(8, .v (.c (.own 8))), (39, .v (.c (.own 5))), (40, vi ((List.length z919 : Nat) : Int)), (41, vi v938)] [(5, AO (α := Span) z919), (8, AO (α := Span) (List.set v939 (((List.length v939 : Nat) : Int) - (1 : Int)).toNat (⟨(gl v939 (((List.length v939 : Nat) : Int) - (1 : Int)).toNat).left_, (gmax ((gl v939 (((List.length v939 : Nat) : Int) - (1 : Int)).toNat).right_) ((gl z919 v938.toNat).right_))⟩ : Span)))] (by kernel_rfl) (by kernel_rfl) (by kernel_rfl) (by kernel_rfl) (hJ955 (List.set v939 (((List.length v939 : Nat) : Int) - (1 : Int)).toNat (⟨(gl v939 (((List.length v939 : Nat) : Int) - (1 : Int)).toNat).left_, (gmax ((gl v939 (((List.length v939 : Nat) : Int) - (1 : Int)).toNat).right_) ((gl z919 v938.toNat).right_))⟩ : Span)) h)
            · have h := br_f h hb948
              obtain ⟨hg953, h⟩ := gd_some h
              refine AW.regc Fm [.s, .s, .w (AL (α := Span) ([(gl z919 v938.toNat)] : List Span)), .s, .s] [] (fun K => (ALe (.v (.c (.d (.lst 1 (litF 2 [.int .i64 (gl z919 v938.toNat).left_, .int .i64 (gl z919 v938.toNat).right_]))))) (AL (α := Span) ([(gl z919 v938.toNat)] : List Span))) ∧ ((List.length (α := Span) v939) + (List.length (α := Span) ([(gl z919 v938.toNat)] : List Span)) ≤ LIM ∧ (∀ j, j < List.length (α := Span) ([(gl z919 v938.toNat)] : List Span) → ((LF (α := Span) ([(gl z919 v938.toNat)] : List Span)) j).length = 2) ∧ (True)) ∧ True) [(8, .v (.c (.own 77))), (39, .v (.c (.own 5))), (40, vi ((List.length z919 : Nat) : Int)), (41, vi v938)] [(5, AO (α := Span) z919), (77, .arr 2 ((List.length (α := Span) v939) + (List.length (α := Span) ([(gl z919 v938.toNat)] : List Span))) (appF (List.length (α := Span) v939) (LF (α := Span) v939) (LF (α := Span) ([(gl z919 v938.toNat)] : List Span))))] ⟨ALe.lst (.lit ([(gl z919 v938.toNat)] : List Span) (by kernel_rfl)), ⟨hg953, (Is.refl ([(gl z919 v938.toNat)] : List Span) : Is (List.length (α := Span) ([(gl z919 v938.toNat)] : List Span)) (LF (α := Span) ([(gl z919 v938.toNat)] : List Span)) ([(gl z919 v938.toNat)] : List Span)).len, True.intro⟩, True.intro⟩ (by kernel_rfl) (by kernel_rfl) (by kernel_rfl) (by kernel_rfl) ?_
              refine Kn.wk [(8, .v (.c (.own 77))), (39, .v (.c (.own 5))), (40, vi ((List.length z919 : Nat) : Int)), (41, vi v938)] [(5, AO (α := Span) z919), (77, AO (α := Span) (v939 ++ ([(gl z919 v938.toNat)] : List Span)))] (FE.refl _) (⟨rfl, OLe.refl _, ⟨rfl, OLe.is (Is.app (Is.refl v939) (Is.refl ([(gl z919 v938.toNat)] : List Span))), True.intro⟩⟩) ?_
              exact Kn.re Fm [(8, 77)] [(8, .v (.c (.own 8))), (39, .v (.c (.own 5))), (40, vi ((List.length z919 : Nat) : Int)), (41, vi v938)] [(5, AO (α := Span) z919), (8, AO (α := Span) (v939 ++ ([(gl z919 v938.toNat)] : List Span)))] (by kernel_rfl) (by kernel_rfl) (by kernel_rfl) (by kernel_rfl) (hJ955 (v939 ++ ([(gl z919 v938.toNat)] : List Span)) h)
          · rcases Bool.eq_false_or_eq_true (decide ((0 : Int) < ((List.length v939 : Nat) : Int))) with hb943 | hb943
            · have h := br_t h hb943
              obtain ⟨hg944, h⟩ := gd_some h
              obtain ⟨hg945, h⟩ := gd_some h
              refine AW.regc Fm [.s, .s, .w (vb true), .s, .s, .s, .s, .s, .s, .s, .s, .s, .s] [] (fun K => (ALe (vb (decide ((0 : Int) < ((List.length v939 : Nat) : Int)))) (vb true)) ∧ (I64 (((List.length v939 : Nat) : Int) - (1 : Int)) ∧ True) ∧ (0 ≤ (((List.length v939 : Nat) : Int) - (1 : Int)) ∧ (((List.length v939 : Nat) : Int) - (1 : Int)) < ((List.length v939 : Nat) : Int)) ∧ ((((List.length v939 : Nat) : Int) - (1 : Int)).toNat < List.length v939) ∧ True) [(8, .v (.c (.own 8))), (10, .v (.c (.ptr 10 0))), (11, vi ((List.length v939 : Nat) : Int)), (39, .v (.c (.own 5))), (40, vi ((List.length z919 : Nat) : Int)), (41, vi v938), (50, .v (.c (.ptr 10 0))), (51, vi (gl z919 v938.toNat).left_), (52, .v (.c (.own 8))), (53, vi ((List.length v939 : Nat) : Int)), (54, vi (((List.length v939 : Nat) : Int) - (1 : Int))), (55, .v (.c (.pte 8 2 ((((List.length v939 : Nat) : Int) - (1 : Int)).toNat) 0))), (56, .v (.c (.pte 8 2 ((((List.length v939 : Nat) : Int) - (1 : Int)).toNat) 1))), (57, vi (gl v939 (((List.length v939 : Nat) : Int) - (1 : Int)).toNat).right_), (58, vb (decide (((gl z919 v938.toNat).left_) ≤ ((gl v939 (((List.length v939 : Nat) : Int) - (1 : Int)).toNat).right_)))), (59, vb (decide (((gl z919 v938.toNat).left_) ≤ ((gl v939 (((List.length v939 : Nat) : Int) - (1 : Int)).toNat).right_))))] [(5, AO (α := Span) z919), (8, AO (α := Span) v939), (10, .box false [.d (.int .i64 (gl z919 v938.toNat).left_), .d (.int .i64 (gl z919 v938.toNat).right_)])] ⟨ALe.bool hb943, ⟨hg944, True.intro⟩, hg945, (toNat_lt hg945), True.intro⟩ (by kernel_rfl) (by kernel_rfl) (by kernel_rfl) (by kernel_rfl) ?_
              exact Kn.re Fm [] [(8, .v (.c (.own 8))), (10, .v (.c (.ptr 10 0))), (11, vi ((List.length v939 : Nat) : Int)), (39, .v (.c (.own 5))), (40, vi ((List.length z919 : Nat) : Int)), (41, vi v938), (59, vb (decide (((gl z919 v938.toNat).left_) ≤ ((gl v939 (((List.length v939 : Nat) : Int) - (1 : Int)).toNat).right_))))] [(5, AO (α := Span) z919), (8, AO (α := Span) v939), (10, .box false [.d (.int .i64 (gl z919 v938.toNat).left_), .d (.int .i64 (gl z919 v938.toNat).right_)])] (by kernel_rfl) (by kernel_rfl) (by kernel_rfl) (by kernel_rfl) (hJ947 (decide (((gl z919 v938.toNat).left_) ≤ ((gl v939 (((List.length v939 : Nat) : Int) - (1 : Int)).toNat).right_))) h)
            · have h := br_f h hb943
              refine AW.regc Fm [.s, .s, .w (vb false), .s, .s, .s, .s, .s, .s, .s, .s, .s, .s] [] (fun K => (ALe (vb (decide ((0 : Int) < ((List.length v939 : Nat) : Int)))) (vb false)) ∧ True) [(8, .v (.c (.own 8))), (10, .v (.c (.ptr 10 0))), (11, vi ((List.length v939 : Nat) : Int)), (39, .v (.c (.own 5))), (40, vi ((List.length z919 : Nat) : Int)), (41, vi v938), (59, vb false)] [(5, AO (α := Span) z919), (8, AO (α := Span) v939), (10, .box false [.d (.int .i64 (gl z919 v938.toNat).left_), .d (.int .i64 (gl z919 v938.toNat).right_)])] ⟨ALe.bool hb943, True.intro⟩ (by kernel_rfl) (by kernel_rfl) (by kernel_rfl) (by kernel_rfl) ?_
              exact Kn.re Fm [] [(8, .v (.c (.own 8))), (10, .v (.c (.ptr 10 0))), (11, vi ((List.length v939 : Nat) : Int)), (39, .v (.c (.own 5))), (40, vi ((List.length z919 : Nat) : Int)), (41, vi v938), (59, vb false)] [(5, AO (α := Span) z919), (8, AO (α := Span) v939), (10, .box false [.d (.int .i64 (gl z919 v938.toNat).left_), .d (.int .i64 (gl z919 v938.toNat).right_)])] (by kernel_rfl) (by kernel_rfl) (by kernel_rfl) (by kernel_rfl) (hJ947 false h)
      · have h := br_f h hb941
        refine AW.exit ?_
        exact Kn.re Fm [] [(8, .v (.c (.own 8)))] [(8, AO (α := Span) v939)] (by kernel_rfl) (by kernel_rfl) (by kernel_rfl) (by kernel_rfl) (hJ958 v939 h)
  · refine AW.seq ?_
    refine AW.regc Fm [.s, .s, .s] [] (fun K => True) [(1, vi x892), (5, .v (.c (.own 5))), (12, AL (α := Rect) x891), (13, vi ((List.length x891 : Nat) : Int)), (14, vi (0 : Int))] [(5, AO (α := Span) ([] : List Span))] True.intro (by kernel_rfl) (by kernel_rfl) (by kernel_rfl) (by kernel_rfl) ?_
    refine AW.block ?_
    refine Kn.re Fm [] [(1, vi x892), (5, .v (.c (.own 5))), (12, AL (α := Rect) x891), (13, vi ((List.length x891 : Nat) : Int)), (14, vi (0 : Int))] [(5, AO (α := Span) ([] : List Span))] (by kernel_rfl) (by kernel_rfl) (by kernel_rfl) (by kernel_rfl) ?_
    have h : loopN (fun again (z : Int × (List Span)) => region_Row_b0 F x891 x892 again z.1 z.2) F ((0 : Int), ([] : List Span)) = some r := h
    refine AW.loopF (E' := fun z => [(1, vi x892), (5, .v (.c (.own 5))), (12, AL (α := Rect) x891), (13, vi ((List.length x891 : Nat) : Int)), (14, vi z.1)]) (S' := fun z => [(5, AO (α := Span) z.2)]) (fun ag_region_Row_b0 z J906 hJ906 h => ?_) h
    obtain ⟨v904, v905⟩ := z
    have h : region_Row_b0 F x891 x892 ag_region_Row_b0 v904 v905 = some r := h
    refine AW.seq ?_
    refine AW.regc Fm [.s] [] (fun K => True) [(1, vi x892), (5, .v (.c (.own 5))), (12, AL (α := Rect) x891), (13, vi ((List.length x891 : Nat) : Int)), (14, vi v904), (15, vb (decide (v904 < ((List.length x891 : Nat) : Int))))] [(5, AO (α := Span) v905)] True.intro (by kernel_rfl) (by kernel_rfl) (by kernel_rfl) (by kernel_rfl) ?_
    refine AW.seq ?_
    refine AW.cond (b := (decide (v904 < ((List.length x891 : Nat) : Int)))) (by kernel_rfl) (fun hb907 => ?_) (fun hb907 => ?_)
    · have h := br_t h hb907
      refine AW.skip ?_
      refine AW.join (r := r) (fun z : (List Span) => region_Row_k2 F v904 ag_region_Row_b0 z) (fun z => [(1, vi x892), (5, .v (.c (.own 35))), (12, AL (α := Rect) x891), (13, vi ((List.length x891 : Nat) : Int)), (14, vi v904)]) (fun z => [(35, AO (α := Span) z)]) (fun v914 h => ?_) (fun J915 hJ915 => ?_)
      · have h : region_Row_k2 F v904 ag_region_Row_b0 v914 = some r := h
        obtain ⟨hg916, h⟩ := gd_some h
        refine AW.regc Fm [.s, .s] [] (fun K => (I64 (v904 + (1 : Int)) ∧ True) ∧ True) [(1, vi x892), (5, .v (.c (.own 35))), (12, AL (α := Rect) x891), (13, vi ((List.length x891 : Nat) : Int)), (14, vi (v904 + (1 : Int)))] [(35, AO (α := Span) v914)] ⟨⟨hg916, True.intro⟩, True.intro⟩ (by kernel_rfl) (by kernel_rfl) (by kernel_rfl) (by kernel_rfl) ?_
        exact Kn.re Fm [(5, 35)] [(1, vi x892), (5, .v (.c (.own 5))), (12, AL (α := Rect) x891), (13, vi ((List.length x891 : Nat) : Int)), (14, vi (v904 + (1 : Int)))] [(5, AO (α := Span) v914)] (by kernel_rfl) (by kernel_rfl) (by kernel_rfl) (by kernel_rfl) (hJ906 ((v904 + (1 : Int)), v914) h)
      · refine AW.block ?_
        refine AW.seq ?_
        obtain ⟨hg908, h⟩ := gd_some h
        refine AW.regc Fm [.s, .s, .s, .s] [] (fun K => (0 ≤ v904 ∧ v904 < ((List.length x891 : Nat) : Int)) ∧ True) [(1, vi x892), (5, .v (.c (.own 5))), (7, .v (.c (.ptr 7 0))), (12, AL (α := Rect) x891), (13, vi ((List.length x891 : Nat) : Int)), (14, vi v904)] [(5, AO (α := Span) v905), (7, .box false [.d (.int .i64 (gl x891 v904.toNat).left_), .d (.int .i64 (gl x891 v904.toNat).low_), .d (.int .i64 (gl x891 v904.toNat).right_), .d (.int .i64 (gl x891 v904.toNat).high_)])] ⟨hg908, True.intro⟩ (by kernel_rfl) (by kernel_rfl) (by kernel_rfl) (by kernel_rfl) ?_
        refine AW.join (r := r) (fun z : Bool => region_Row_k1 F x891 v904 v905 ag_region_Row_b0 z) (fun z => [(1, vi x892), (5, .v (.c (.own 5))), (7, .v (.c (.ptr 7 0))), (12, AL (α := Rect) x891), (13, vi ((List.length x891 : Nat) : Int)), (14, vi v904), (27, vb z)]) (fun z => [(5, AO (α := Span) v905), (7, .box false [.d (.int .i64 (gl x891 v904.toNat).left_), .d (.int .i64 (gl x891 v904.toNat).low_), .d (.int .i64 (gl x891 v904.toNat).right_), .d (.int .i64 (gl x891 v904.toNat).high_)])]) (fun v910 h => ?_) (fun J911 hJ911 => ?_)
        · have h : region_Row_k1 F x891 v904 v905 ag_region_Row_b0 v910 = some r := h
          refine AW.cond (b := v910) (by kernel_rfl) (fun hb912 => ?_) (fun hb912 => ?_)
          · have h := br_t h hb912
            obtain ⟨hg913, h⟩ := gd_some h
            refine AW.regc Fm [.s, .s, .s, .s, .s, .s, .w (AL (α := Span) ([(⟨(gl x891 v904.toNat).left_, (gl x891 v904.toNat).right_⟩ : Span)] : List Span)), .s, .s] [] (fun K => (ALe (.v (.c (.d (.lst 1 (litF 2 [.int .i64 (gl x891 v904.toNat).left_, .int .i64 (gl x891 v904.toNat).right_]))))) (AL (α := Span) ([(⟨(gl x891 v904.toNat).left_, (gl x891 v904.toNat).right_⟩ : Span)] : List Span))) ∧ ((List.length (α := Span) v905) + (List.length (α := Span) ([(⟨(gl x891 v904.toNat).left_, (gl x891 v904.toNat).right_⟩ : Span)] : List Span)) ≤ LIM ∧ (∀ j, j < List.length (α := Span) ([(⟨(gl x891 v904.toNat).left_, (gl x891 v904.toNat).right_⟩ : Span)] : List Span) → ((LF (α := Span) ([(⟨(gl x891 v904.toNat).left_, (gl x891 v904.toNat).right_⟩ : Span)] : List Span)) j).length = 2) ∧ (True)) ∧ True) [(1, vi x892), (5, .v (.c (.own 35))), (12, AL (α := Rect) x891), (13, vi ((List.length x891 : Nat) : Int)), (14, vi v904)] [(35, .arr 2 ((List.length (α := Span) v905) + (List.length (α := Span) ([(⟨(gl x891 v904.toNat).left_, (gl x891 v904.toNat).right_⟩ : Span)] : List Span))) (appF (List.length (α := Span) v905) (LF (α := Span) v905) (LF (α := Span) ([(⟨(gl x891 v904.toNat).left_, (gl x891 v904.toNat).right_⟩ : Span)] : List Span))))] ⟨ALe.lst (.lit ([(⟨(gl x891 v904.toNat).left_, (gl x891 v904.toNat).right_⟩ : Span)] : List Span) (by kernel_rfl)), ⟨hg913, (Is.refl ([(⟨(gl x891 v904.toNat).left_, (gl x891 v904.toNat).right_⟩ : Span)] : List Span) : Is (List.length (α := Span) ([(⟨(gl x891 v904.toNat).left_, (gl x891 v904.toNat).right_⟩ : Span)] : List Span)) (LF (α := Span) ([(⟨(gl x891 v904.toNat).left_, (gl x891 v904.toNat).right_⟩ : Span)] : List Span)) ([(⟨(gl x891 v904.toNat).left_, (gl x891 v904.toNat).right_⟩ : Span)] : List Span)).len, True.intro⟩, True.intro⟩ (by kernel_rfl) (by kernel_rfl) (by kernel_rfl) (by kernel_rfl) ?_
            refine Kn.wk [(1, vi x892), (5, .v (.c (.own 35))), (12, AL (α := Rect) x891), (13, vi ((List.length x891 : Nat) : Int)), (14, vi v904)] [(35, AO (α := Span) (v905 ++ ([(⟨(gl x891 v904.toNat).left_, (gl x891 v904.toNat).right_⟩ : Span)] : List Span)))] (FE.refl _) (⟨rfl, OLe.is (Is.app (Is.refl v905) (Is.refl ([(⟨(gl x891 v904.toNat).left_, (gl x891 v904.toNat).right_⟩ : Span)] : List Span))), True.intro⟩) ?_
            exact Kn.re Fm [] [(1, vi x892), (5, .v (.c (.own 35))), (12, AL (α := Rect) x891), (13, vi ((List.length x891 : Nat) : Int)), (14, vi v904)] [(35, AO (α := Span) (v905 ++ ([(⟨(gl x891 v904.toNat).left_, (gl x891 v904.toNat).right_⟩ : Span)] : List Span)))] (by kernel_rfl) (by kernel_rfl) (by kernel_rfl) (by kernel_rfl) (hJ915 (v905 ++ ([(⟨(gl x891 v904.toNat).left_, (gl x891 v904.toNat).right_⟩ : Span)] : List Span)) h)
          · have h := br_f h hb912
            refine AW.skip ?_
            exact Kn.re Fm [(35, 5)] [(1, vi x892), (5, .v (.c (.own 35))), (12, AL (α := Rect) x891), (13, vi ((List.length x891 : Nat) : Int)), (14, vi v904)] [(35, AO (α := Span) v905)] (by kernel_rfl) (by kernel_rfl) (by kernel_rfl) (by kernel_rfl) (hJ915 v905 h)
        · rcases Bool.eq_false_or_eq_true (decide (((gl x891 v904.toNat).low_) ≤ x892)) with hb909 | hb909
          · have h := br_t h hb909
            refine AW.regc Fm [.s, .s, .s, .s, .w (vb true), .s, .s, .s, .s, .s] [] (fun K => (ALe (vb (decide (((gl x891 v904.toNat).low_) ≤ x892))) (vb true)) ∧ True) [(1, vi x892), (5, .v (.c (.own 5))), (7, .v (.c (.ptr 7 0))), (12, AL (α := Rect) x891), (13, vi ((List.length x891 : Nat) : Int)), (14, vi v904), (23, vi x892), (24, .v (.c (.ptr 7 3))), (25, vi (gl x891 v904.toNat).high_), (26, vb (decide (x892 < ((gl x891 v904.toNat).high_)))), (27, vb (decide (x892 < ((gl x891 v904.toNat).high_))))] [(5, AO (α := Span) v905), (7, .box false [.d (.int .i64 (gl x891 v904.toNat).left_), .d (.int .i64 (gl x891 v904.toNat).low_), .d (.int .i64 (gl x891 v904.toNat).right_), .d (.int .i64 (gl x891 v904.toNat).high_)])] ⟨ALe.bool hb909, True.intro⟩ (by kernel_rfl) (by kernel_rfl) (by kernel_rfl) (by kernel_rfl) ?_
            exact Kn.re Fm [] [(1, vi x892), (5, .v (.c (.own 5))), (7, .v (.c (.ptr 7 0))), (12, AL (α := Rect) x891), (13, vi ((List.length x891 : Nat) : Int)), (14, vi v904), (27, vb (decide (x892 < ((gl x891 v904.toNat).high_))))] [(5, AO (α := Span) v905), (7, .box false [.d (.int .i64 (gl x891 v904.toNat).left_), .d (.int .i64 (gl x891 v904.toNat).low_), .d (.int .i64 (gl x891 v904.toNat).right_), .d (.int .i64 (gl x891 v904.toNat).high_)])] (by kernel_rfl) (by kernel_rfl) (by kernel_rfl) (by kernel_rfl) (hJ911 (decide (x892 < ((gl x891 v904.toNat).high_))) h)
          · have h := br_f h hb909
            refine AW.regc Fm [.s, .s, .s, .s, .w (vb false), .s, .s, .s, .s, .s] [] (fun K => (ALe (vb (decide (((gl x891 v904.toNat).low_) ≤ x892))) (vb false)) ∧ True) [(1, vi x892), (5, .v (.c (.own 5))), (7, .v (.c (.ptr 7 0))), (12, AL (α := Rect) x891), (13, vi ((List.length x891 : Nat) : Int)), (14, vi v904), (27, vb false)] [(5, AO (α := Span) v905), (7, .box false [.d (.int .i64 (gl x891 v904.toNat).left_), .d (.int .i64 (gl x891 v904.toNat).low_), .d (.int .i64 (gl x891 v904.toNat).right_), .d (.int .i64 (gl x891 v904.toNat).high_)])] ⟨ALe.bool hb909, True.intro⟩ (by kernel_rfl) (by kernel_rfl) (by kernel_rfl) (by kernel_rfl) ?_
            exact Kn.re Fm [] [(1, vi x892), (5, .v (.c (.own 5))), (7, .v (.c (.ptr 7 0))), (12, AL (α := Rect) x891), (13, vi ((List.length x891 : Nat) : Int)), (14, vi v904), (27, vb false)] [(5, AO (α := Span) v905), (7, .box false [.d (.int .i64 (gl x891 v904.toNat).left_), .d (.int .i64 (gl x891 v904.toNat).low_), .d (.int .i64 (gl x891 v904.toNat).right_), .d (.int .i64 (gl x891 v904.toNat).high_)])] (by kernel_rfl) (by kernel_rfl) (by kernel_rfl) (by kernel_rfl) (hJ911 false h)
    · have h := br_f h hb907
      refine AW.exit ?_
      exact Kn.re Fm [] [(5, .v (.c (.own 5)))] [(5, AO (α := Span) v905)] (by kernel_rfl) (by kernel_rfl) (by kernel_rfl) (by kernel_rfl) (hJ918 v905 h)
/- landaid/region.canonical$1 -/
theorem region_canonical_1_spec {F : Nat} {x959 : Int} {x960 : (List Rect)} {r : (List Span)} (h : region_canonical_1 F x959 x960 = some r) :
    FSpec Try.prog 61 [vi x959, .v (.c (.ptr 0 0))] [(0, .box true [.d (DL (α := Rect) x960)])] (AL (α := Span) r) [(0, .box true [.d (DL (α := Rect) x960)])] := by
  refine FSpec.intro prog_mixed prog_lay Try.func61 rfl (by kernel_rfl) fun C Fm => ?_
  unfold region_canonical_1 at h
  refine AW.seq ?_
  refine AW.regc Fm [.s] [] (fun K => True) [(0, vi x959), (1, .v (.c (.ptr 0 0)))] [(0, .box true [.d (DL (α := Rect) x960)])] True.intro (by kernel_rfl) (by kernel_rfl) (by kernel_rfl) (by kernel_rfl) ?_
  refine AW.seq ?_
  obtain ⟨z961, hz962, h⟩ := bd_some h
  refine AW.regc Fm [.s, .s, .k (cE [] [] (AL (α := Span) z961) [] []), .s] [] (fun K => K 2 ∧ True) [(3, AL (α := Span) z961)] [(0, .box true [.d (DL (α := Rect) x960)])] ⟨KAt.call (args := [AL (α := Rect) x960, vi x959]) (region_Row_spec hz962) Try.call62 [] rfl (by kernel_rfl) (by kernel_rfl) (by kernel_rfl) (by kernel_rfl), True.intro⟩ (by kernel_rfl) (by kernel_rfl) (by kernel_rfl) (by kernel_rfl) ?_
  refine AW.ret ?_
  obtain rfl := Option.some.inj h
  exact Kn.re Fm [] [(3, AL (α := Span) z961)] [(0, .box true [.d (DL (α := Rect) x960)])] (by kernel_rfl) (by kernel_rfl) (by kernel_rfl) (by kernel_rfl) (Kn.done Fm (by kernel_rfl) (by kernel_rfl))
/- slices.Equal[[]landaid/region.Span,landaid/region.Span] -/
theorem slices_Equal_Span_spec {F : Nat} {x963 : (List Span)} {x964 : (List Span)} {r : Bool} (h : slices_Equal_Span F x963 x964 = some r) :
    FSpec Try.prog 79 [AL (α := Span) x963, AL (α := Span) x964] [] (vb r) [] := by
  refine FSpec.intro prog_mixed prog_lay Try.func79 rfl (by kernel_rfl) fun C Fm => ?_
  unfold slices_Equal_Span at h
  refine AW.seq ?_
  refine AW.regc Fm [.s] [] (fun K => True) [(0, AL (α := Span) x963), (1, AL (α := Span) x964)] [] True.intro (by kernel_rfl) (by kernel_rfl) (by kernel_rfl) (by kernel_rfl) ?_
  refine AW.seq ?_
  refine AW.seq ?_
  refine AW.regc Fm [.s, .s, .s, .s, .s] [] (fun K => True) [(0, AL (α := Span) x963), (1, AL (α := Span) x964), (10, vb (((List.length x963 : Nat) : Int) != ((List.length x964 : Nat) : Int)))] [] True.intro (by kernel_rfl) (by kernel_rfl) (by kernel_rfl) (by kernel_rfl) ?_
  refine AW.cond (b := (((List.length x963 : Nat) : Int) != ((List.length x964 : Nat) : Int))) (by kernel_rfl) (fun hb965 => ?_) (fun hb965 => ?_)
  · have h := br_t h hb965
    refine AW.seq ?_
    refine AW.regc Fm [.s] [] (fun K => True) [(4, vb false)] [] True.intro (by kernel_rfl) (by kernel_rfl) (by kernel_rfl) (by kernel_rfl) ?_
    refine AW.ret ?_
    obtain rfl := Option.some.inj h
    exact Kn.re Fm [] [(4, vb false)] [] (by kernel_rfl) (by kernel_rfl) (by kernel_rfl) (by kernel_rfl) (Kn.done Fm (by kernel_rfl) (by kernel_rfl))
  · have h := br_f h hb965
    refine AW.skip ?_
    refine AW.join (r := r) (fun z : Unit => slices_Equal_Span_k1 F) (fun z => []) (fun z => []) (fun z h => ?_) (fun J979 hJ979 => ?_)
    · have h : slices_Equal_Span_k1 F = some r := h
      refine AW.seq ?_
      refine AW.regc Fm [.s] [] (fun K => True) [(4, vb true)] [] True.intro (by kernel_rfl) (by kernel_rfl) (by kernel_rfl) (by kernel_rfl) ?_
      refine AW.ret ?_
      obtain rfl := Option.some.inj h
      exact Kn.re Fm [] [(4, vb true)] [] (by kernel_rfl) (by kernel_rfl) (by kernel_rfl) (by kernel_rfl) (Kn.done Fm (by kernel_rfl) (by kernel_rfl))
    · refine AW.seq ?_
      refine AW.regc Fm [.s, .s, .s] [] (fun K => True) [(0, AL (α := Span) x963), (1, AL (α := Span) x964), (12, vi ((List.length x963 : Nat) : Int)), (13, vi (0 : Int))] [] True.intro (by kernel_rfl) (by kernel_rfl) (by kernel_rfl) (by kernel_rfl) ?_
      refine AW.block ?_
      refine Kn.re Fm [] [(0, AL (α := Span) x963), (1, AL (α := Span) x964), (12, vi ((List.length x963 : Nat) : Int)), (13, vi (0 : Int))] [] (by kernel_rfl) (by kernel_rfl) (by kernel_rfl) (by kernel_rfl) ?_
      have h : loopN (fun again (z : Int) => slices_Equal_Span_b0 F x963 x964 again z) F (0 : Int) = some r := h
      refine AW.loopF (E' := fun z => [(0, AL (α := Span) x963), (1, AL (α := Span) x964), (12, vi ((List.length x963 : Nat) : Int)), (13, vi z)]) (S' := fun z => []) (fun ag_slices_Equal_Span_b0 v972 J973 hJ973 h => ?_) h
      have h : slices_Equal_Span_b0 F x963 x964 ag_slices_Equal_Span_b0 v972 = some r := h
      refine AW.seq ?_
      refine AW.regc Fm [.s] [] (fun K => True) [(0, AL (α := Span) x963), (1, AL (α := Span) x964), (12, vi ((List.length x963 : Nat) : Int)), (13, vi v972), (14, vb (decide (v972 < ((List.length x963 : Nat) : Int))))] [] True.intro (by kernel_rfl) (by kernel_rfl) (by kernel_rfl) (by kernel_rfl) ?_
      refine AW.seq ?_
      refine AW.cond (b := (decide (v972 < ((List.length x963 : Nat) : Int)))) (by kernel_rfl) (fun hb974 => ?_) (fun hb974 => ?_)
      · have h := br_t h hb974
        refine AW.skip ?_
        refine AW.seq ?_
        refine AW.block ?_
        refine AW.seq ?_
        refine AW.regc Fm [.s, .s] [] (fun K => True) [(0, AL (α := Span) x963), (1, AL (α := Span) x964), (5, vi v972), (12, vi ((List.length x963 : Nat) : Int)), (13, vi v972)] [] True.intro (by kernel_rfl) (by kernel_rfl) (by kernel_rfl) (by kernel_rfl) ?_
        refine AW.seq ?_
        obtain ⟨hg975, h⟩ := gd_some h
        obtain ⟨hg976, h⟩ := gd_some h
        refine AW.regc Fm [.s, .s, .s, .s, .s, .s, .s, .s, .k (sE (vb (!((((gl x963 v972.toNat).left_) == ((gl x964 v972.toNat).left_)) && ((((gl x963 v972.toNat).right_) == ((gl x964 v972.toNat).right_)) && true)))))] [] (fun K => (0 ≤ v972 ∧ v972 < ((List.length x963 : Nat) : Int)) ∧ (0 ≤ v972 ∧ v972 < ((List.length x964 : Nat) : Int)) ∧ K 8 ∧ True) [(0, AL (α := Span) x963), (1, AL (α := Span) x964), (12, vi ((List.length x963 : Nat) : Int)), (13, vi v972), (24, vb (!((((gl x963 v972.toNat).left_) == ((gl x964 v972.toNat).left_)) && ((((gl x963 v972.toNat).right_) == ((gl x964 v972.toNat).right_)) && true))))] [] ⟨hg975, hg976, KAt.eq (xs := [.d (.int .i64 (gl x963 v972.toNat).left_), .d (.int .i64 (gl x963 v972.toNat).right_)]) (ys := [.d (.int .i64 (gl x964 v972.toNat).left_), .d (.int .i64 (gl x964 v972.toNat).right_)]) eqT113 false (b := ((((gl x963 v972.toNat).left_) == ((gl x964 v972.toNat).left_)) && ((((gl x963 v972.toNat).right_) == ((gl x964 v972.toNat).right_)) && true))) rfl rfl (by kernel_rfl) (by kernel_rfl) (by kernel_rfl) (by kernel_rfl), True.intro⟩ (by kernel_rfl) (by kernel_rfl) (by kernel_rfl) (by kernel_rfl) ?_
        refine AW.cond (b := (!((((gl x963 v972.toNat).left_) == ((gl x964 v972.toNat).left_)) && ((((gl x963 v972.toNat).right_) == ((gl x964 v972.toNat).right_)) && true)))) (by kernel_rfl) (fun hb977 => ?_) (fun hb977 => ?_)
        · have h := br_t h hb977
          refine AW.seq ?_
          refine AW.regc Fm [.s] [] (fun K => True) [(4, vb false)] [] True.intro (by kernel_rfl) (by kernel_rfl) (by kernel_rfl) (by kernel_rfl) ?_
          refine AW.ret ?_
          obtain rfl := Option.some.inj h
          exact Kn.re Fm [] [(4, vb false)] [] (by kernel_rfl) (by kernel_rfl) (by kernel_rfl) (by kernel_rfl) (Kn.done Fm (by kernel_rfl) (by kernel_rfl))
        · have h := br_f h hb977
          refine AW.skip ?_
          obtain ⟨hg978, h⟩ := gd_some h
          refine AW.regc Fm [.s, .s] [] (fun K => (I64 (v972 + (1 : Int)) ∧ True) ∧ True) [(0, AL (α := Span) x963), (1, AL (α := Span) x964), (12, vi ((List.length x963 : Nat) : Int)), (13, vi (v972 + (1 : Int)))] [] ⟨⟨hg978, True.intro⟩, True.intro⟩ (by kernel_rfl) (by kernel_rfl) (by kernel_rfl) (by kernel_rfl) ?_
          exact Kn.re Fm [] [(0, AL (α := Span) x963), (1, AL (α := Span) x964), (12, vi ((List.length x963 : Nat) : Int)), (13, vi (v972 + (1 : Int)))] [] (by kernel_rfl) (by kernel_rfl) (by kernel_rfl) (by kernel_rfl) (hJ973 (v972 + (1 : Int)) h)
      · have h := br_f h hb974
        refine AW.exit ?_
        exact Kn.re Fm [] [] [] (by kernel_rfl) (by kernel_rfl) (by kernel_rfl) (by kernel_rfl) (hJ979 () h)
/- landaid/region.rects -/
theorem region_rects_spec {F : Nat} {x980 : (List Band)} {r : (List Rect)} (h : region_rects F x980 = some r) :
    FSpec Try.prog 80 [AL (α := Band) x980] [] (AL (α := Rect) r) [] := by
  refine FSpec.intro prog_mixed prog_lay Try.func80 rfl (by kernel_rfl) fun C Fm => ?_
  unfold region_rects at h
  refine AW.seq ?_
  refine AW.regc Fm [.s] [] (fun K => True) [(0, AL (α := Band) x980)] [] True.intro (by kernel_rfl) (by kernel_rfl) (by kernel_rfl) (by kernel_rfl) ?_
  refine AW.seq ?_
  refine AW.regc Fm [.m] [] (fun K => True) [(0, AL (α := Band) x980), (3, .v (.c (.own 3)))] [(3, .arr 4 (0) (fun _ => []))] True.intro (by kernel_rfl) (by kernel_rfl) (by kernel_rfl) (by kernel_rfl) ?_
  refine Kn.wk [(0, AL (α := Band) x980), (3, .v (.c (.own 3)))] [(3, AO (α := Rect) ([] : List Rect))] (FE.refl _) (⟨rfl, OLe.is ((Is.nil (α := Rect))), True.intro⟩) ?_
  refine AW.join (r := r) (fun z : (List Rect) => region_rects_k3 F z) (fun z => [(3, .v (.c (.own 3)))]) (fun z => [(3, AO (α := Rect) z)]) (fun v1019 h => ?_) (fun J1020 hJ1020 => ?_)
  · have h : region_rects_k3 F v1019 = some r := h
    refine AW.seq ?_
    refine AW.regc Fm [.s, .s] [] (fun K => True) [(2, .v (.c (.own 3)))] [(3, AO (α := Rect) v1019)] True.intro (by kernel_rfl) (by kernel_rfl) (by kernel_rfl) (by kernel_rfl) ?_
    refine AW.ret ?_
    obtain rfl := Option.some.inj h
    refine Kn.re Fm [] [(2, .v (.c (.own 3)))] [(3, AO (α := Rect) v1019)] (by kernel_rfl) (by kernel_rfl) (by kernel_rfl) (by kernel_rfl) ?_
    refine Kn.frz [(2, AL (α := Rect) v1019)] [] (by kernel_rfl) (by kernel_rfl) (by kernel_rfl) ?_
    exact Kn.re Fm [] [(2, AL (α := Rect) v1019)] [] (by kernel_rfl) (by kernel_rfl) (by kernel_rfl) (by kernel_rfl) (Kn.done Fm (by kernel_rfl) (by kernel_rfl))
  · refine AW.seq ?_
    refine AW.regc Fm [.s, .s, .s] [] (fun K => True) [(3, .v (.c (.own 3))), (8, AL (α := Band) x980), (9, vi ((List.length x980 : Nat) : Int)), (10, vi (0 : Int))] [(3, AO (α := Rect) ([] : List Rect))] True.intro (by kernel_rfl) (by kernel_rfl) (by kernel_rfl) (by kernel_rfl) ?_
    refine AW.block ?_
    refine Kn.re Fm [] [(3, .v (.c (.own 3))), (8, AL (α := Band) x980), (9, vi ((List.length x980 : Nat) : Int)), (10, vi (0 : Int))] [(3, AO (α := Rect) ([] : List Rect))] (by kernel_rfl) (by kernel_rfl) (by kernel_rfl) (by kernel_rfl) ?_
    have h : loopN (fun again (z : Int × (List Rect)) => region_rects_b0 F x980 again z.1 z.2) F ((0 : Int), ([] : List Rect)) = some r := h
    refine AW.loopF (E' := fun z => [(3, .v (.c (.own 3))), (8, AL (α := Band) x980), (9, vi ((List.length x980 : Nat) : Int)), (10, vi z.1)]) (S' := fun z => [(3, AO (α := Rect) z.2)]) (fun ag_region_rects_b0 z J1001 hJ1001 h => ?_) h
    obtain ⟨v999, v1000⟩ := z
    have h : region_rects_b0 F x980 ag_region_rects_b0 v999 v1000 = some r := h
    refine AW.seq ?_
    refine AW.regc Fm [.s] [] (fun K => True) [(3, .v (.c (.own 3))), (8, AL (α := Band) x980), (9, vi ((List.length x980 : Nat) : Int)), (10, vi v999), (11, vb (decide (v999 < ((List.length x980 : Nat) : Int))))] [(3, AO (α := Rect) v1000)] True.intro (by kernel_rfl) (by kernel_rfl) (by kernel_rfl) (by kernel_rfl) ?_
    refine AW.seq ?_
    refine AW.cond (b := (decide (v999 < ((List.length x980 : Nat) : Int)))) (by kernel_rfl) (fun hb1002 => ?_) (fun hb1002 => ?_)
    · have h := br_t h hb1002
      refine AW.skip ?_
      refine AW.join (r := r) (fun z : (List Rect) => region_rects_k2 F v999 ag_region_rects_b0 z) (fun z => [(3, .v (.c (.own 3))), (8, AL (α := Band) x980), (9, vi ((List.length x980 : Nat) : Int)), (10, vi v999)]) (fun z => [(3, AO (α := Rect) z)]) (fun v1016 h => ?_) (fun J1017 hJ1017 => ?_)
      · have h : region_rects_k2 F v999 ag_region_rects_b0 v1016 = some r := h
        obtain ⟨hg1018, h⟩ := gd_some h
        refine AW.regc Fm [.s, .s] [] (fun K => (I64 (v999 + (1 : Int)) ∧ True) ∧ True) [(3, .v (.c (.own 3))), (8, AL (α := Band) x980), (9, vi ((List.length x980 : Nat) : Int)), (10, vi (v999 + (1 : Int)))] [(3, AO (α := Rect) v1016)] ⟨⟨hg1018, True.intro⟩, True.intro⟩ (by kernel_rfl) (by kernel_rfl) (by kernel_rfl) (by kernel_rfl) ?_
        exact Kn.re Fm [] [(3, .v (.c (.own 3))), (8, AL (α := Band) x980), (9, vi ((List.length x980 : Nat) : Int)), (10, vi (v999 + (1 : Int)))] [(3, AO (α := Rect) v1016)] (by kernel_rfl) (by kernel_rfl) (by kernel_rfl) (by kernel_rfl) (hJ1001 ((v999 + (1 : Int)), v1016) h)
      · refine AW.block ?_
        refine AW.seq ?_
        obtain ⟨hg1003, h⟩ := gd_some h
        refine AW.regc Fm [.s, .s, .s, .s] [] (fun K => (0 ≤ v999 ∧ v999 < ((List.length x980 : Nat) : Int)) ∧ True) [(3, .v (.c (.own 3))), (5, .v (.c (.ptr 5 0))), (8, AL (α := Band) x980), (9, vi ((List.length x980 : Nat) : Int)), (10, vi v999)] [(3, AO (α := Rect) v1000), (5, .box false [.d (.int .i64 (gl x980 v999.toNat).low_), .d (.int .i64 (gl x980 v999.toNat).high_), .d (DL (α := Span) (gl x980 v999.toNat).spans_)])] ⟨hg1003, True.intro⟩ (by kernel_rfl) (by kernel_rfl) (by kernel_rfl) (by kernel_rfl) ?_
        refine AW.seq ?_
        refine AW.regc Fm [.s, .s, .s, .s] [] (fun K => True) [(3, .v (.c (.own 3))), (5, .v (.c (.ptr 5 0))), (8, AL (α := Band) x980), (9, vi ((List.length x980 : Nat) : Int)), (10, vi v999), (15, AL (α := Span) (gl x980 v999.toNat).spans_), (16, vi ((List.length ((gl x980 v999.toNat).spans_) : Nat) : Int)), (17, vi (0 : Int))] [(3, AO (α := Rect) v1000), (5, .box false [.d (.int .i64 (gl x980 v999.toNat).low_), .d (.int .i64 (gl x980 v999.toNat).high_), .d (DL (α := Span) (gl x980 v999.toNat).spans_)])] True.intro (by kernel_rfl) (by kernel_rfl) (by kernel_rfl) (by kernel_rfl) ?_
        refine AW.block ?_
        refine Kn.re Fm [] [(3, .v (.c (.own 3))), (5, .v (.c (.ptr 5 0))), (8, AL (α := Band) x980), (9, vi ((List.length x980 : Nat) : Int)), (10, vi v999), (15, AL (α := Span) (gl x980 v999.toNat).spans_), (16, vi ((List.length ((gl x980 v999.toNat).spans_) : Nat) : Int)), (17, vi (0 : Int))] [(3, AO (α := Rect) v1000), (5, .box false [.d (.int .i64 (gl x980 v999.toNat).low_), .d (.int .i64 (gl x980 v999.toNat).high_), .d (DL (α := Span) (gl x980 v999.toNat).spans_)])] (by kernel_rfl) (by kernel_rfl) (by kernel_rfl) (by kernel_rfl) ?_
        have h : loopN (fun again (z : Int × (List Rect)) => region_rects_b1 F x980 v999 ag_region_rects_b0 again z.1 z.2) F ((0 : Int), v1000) = some r := h
        refine AW.loopF (E' := fun z => [(3, .v (.c (.own 3))), (5, .v (.c (.ptr 5 0))), (8, AL (α := Band) x980), (9, vi ((List.length x980 : Nat) : Int)), (10, vi v999), (15, AL (α := Span) (gl x980 v999.toNat).spans_), (16, vi ((List.length ((gl x980 v999.toNat).spans_) : Nat) : Int)), (17, vi z.1)]) (S' := fun z => [(3, AO (α := Rect) z.2), (5, .box false [.d (.int .i64 (gl x980 v999.toNat).low_), .d (.int .i64 (gl x980 v999.toNat).high_), .d (DL (α := Span) (gl x980 v999.toNat).spans_)])]) (fun ag_region_rects_b1 z J1011 hJ1011 h => ?_) h
        obtain ⟨v1009, v1010⟩ := z
        have h : region_rects_b1 F x980 v999 ag_region_rects_b0 ag_region_rects_b1 v1009 v1010 = some r := h
        refine AW.seq ?_
        refine AW.regc Fm [.s] [] (fun K => True) [(3, .v (.c (.own 3))), (5, .v (.c (.ptr 5 0))), (8, AL (α := Band) x980), (9, vi ((List.length x980 : Nat) : Int)), (10, vi v999), (15, AL (α := Span) (gl x980 v999.toNat).spans_), (16, vi ((List.length ((gl x980 v999.toNat).spans_) : Nat) : Int)), (17, vi v1009), (18, vb (decide (v1009 < ((List.length ((gl x980 v999.toNat).spans_) : Nat) : Int))))] [(3, AO (α := Rect) v1010), (5, .box false [.d (.int .i64 (gl x980 v999.toNat).low_), .d (.int .i64 (gl x980 v999.toNat).high_), .d (DL (α := Span) (gl x980 v999.toNat).spans_)])] True.intro (by kernel_rfl) (by kernel_rfl) (by kernel_rfl) (by kernel_rfl) ?_
        refine AW.seq ?_
        refine AW.cond (b := (decide (v1009 < ((List.length ((gl x980 v999.toNat).spans_) : Nat) : Int)))) (by kernel_rfl) (fun hb1012 => ?_) (fun hb1012 => ?_)
        · have h := br_t h hb1012
          refine AW.skip ?_
          refine AW.seq ?_
          refine AW.block ?_
          refine AW.seq ?_
          obtain ⟨hg1013, h⟩ := gd_some h
          refine AW.regc Fm [.s, .s, .s, .s] [] (fun K => (0 ≤ v1009 ∧ v1009 < ((List.length ((gl x980 v999.toNat).spans_) : Nat) : Int)) ∧ True) [(3, .v (.c (.own 3))), (5, .v (.c (.ptr 5 0))), (7, .v (.c (.ptr 7 0))), (8, AL (α := Band) x980), (9, vi ((List.length x980 : Nat) : Int)), (10, vi v999), (15, AL (α := Span) (gl x980 v999.toNat).spans_), (16, vi ((List.length ((gl x980 v999.toNat).spans_) : Nat) : Int)), (17, vi v1009)] [(3, AO (α := Rect) v1010), (5, .box false [.d (.int .i64 (gl x980 v999.toNat).low_), .d (.int .i64 (gl x980 v999.toNat).high_), .d (DL (α := Span) (gl x980 v999.toNat).spans_)]), (7, .box false [.d (.int .i64 (gl ((gl x980 v999.toNat).spans_) v1009.toNat).left_), .d (.int .i64 (gl ((gl x980 v999.toNat).spans_) v1009.toNat).right_)])] ⟨hg1013, True.intro⟩ (by kernel_rfl) (by kernel_rfl) (by kernel_rfl) (by kernel_rfl) ?_
          obtain ⟨hg1014, h⟩ := gd_some h
          refine AW.regc Fm [.s, .s, .s, .s, .s, .s, .s, .s, .s, .s, .w (AL (α := Rect) ([(⟨(gl ((gl x980 v999.toNat).spans_) v1009.toNat).left_, (gl x980 v999.toNat).low_, (gl ((gl x980 v999.toNat).spans_) v1009.toNat).right_, (gl x980 v999.toNat).high_⟩ : Rect)] : List Rect)), .s, .s] [] (fun K => (ALe (.v (.c (.d (.lst 1 (litF 4 [.int .i64 (gl ((gl x980 v999.toNat).spans_) v1009.toNat).left_, .int .i64 (gl x980 v999.toNat).low_, .int .i64 (gl ((gl x980 v999.toNat).spans_) v1009.toNat).right_, .int .i64 (gl x980 v999.toNat).high_]))))) (AL (α := Rect) ([(⟨(gl ((gl x980 v999.toNat).spans_) v1009.toNat).left_, (gl x980 v999.toNat).low_, (gl ((gl x980 v999.toNat).spans_) v1009.toNat).right_, (gl x980 v999.toNat).high_⟩ : Rect)] : List Rect))) ∧ ((List.length (α := Rect) v1010) + (List.length (α := Rect) ([(⟨(gl ((gl x980 v999.toNat).spans_) v1009.toNat).left_, (gl x980 v999.toNat).low_, (gl ((gl x980 v999.toNat).spans_) v1009.toNat).right_, (gl x980 v999.toNat).high_⟩ : Rect)] : List Rect)) ≤ LIM ∧ (∀ j, j < List.length (α := Rect) ([(⟨(gl ((gl x980 v999.toNat).spans_) v1009.toNat).left_, (gl x980 v999.toNat).low_, (gl ((gl x980 v999.toNat).spans_) v1009.toNat).right_, (gl x980 v999.toNat).high_⟩ : Rect)] : List Rect) → ((LF (α := Rect) ([(⟨(gl ((gl x980 v999.toNat).spans_) v1009.toNat).left_, (gl x980 v999.toNat).low_, (gl ((gl x980 v999.toNat).spans_) v1009.toNat).right_, (gl x980 v999.toNat).high_⟩ : Rect)] : List Rect)) j).length = 4) ∧ (True)) ∧ True) [(3, .v (.c (.own 32))), (5, .v (.c (.ptr 5 0))), (8, AL (α := Band) x980), (9, vi ((List.length x980 : Nat) : Int)), (10, vi v999), (15, AL (α := Span) (gl x980 v999.toNat).spans_), (16, vi ((List.length ((gl x980 v999.toNat).spans_) : Nat) : Int)), (17, vi v1009)] [(5, .box false [.d (.int .i64 (gl x980 v999.toNat).low_), .d (.int .i64 (gl x980 v999.toNat).high_), .d (DL (α := Span) (gl x980 v999.toNat).spans_)]), (32, .arr 4 ((List.length (α := Rect) v1010) + (List.length (α := Rect) ([(⟨(gl ((gl x980 v999.toNat).spans_) v1009.toNat).left_, (gl x980 v999.toNat).low_, (gl ((gl x980 v999.toNat).spans_) v1009.toNat).right_, (gl x980 v999.toNat).high_⟩ : Rect)] : List Rect))) (appF (List.length (α := Rect) v1010) (LF (α := Rect) v1010) (LF (α := Rect) ([(⟨(gl ((gl x980 v999.toNat).spans_) v1009.toNat).left_, (gl x980 v999.toNat).low_, (gl ((gl x980 v999.toNat).spans_) v1009.toNat).right_, (gl x980 v999.toNat).high_⟩ : Rect)] : List Rect))))] ⟨ALe.lst (.lit ([(⟨(gl ((gl x980 v999.toNat).spans_) v1009.toNat).left_, (gl x980 v999.toNat).low_, (gl ((gl x980 v999.toNat).spans_) v1009.toNat).right_, (gl x980 v999.toNat).high_⟩ : Rect)] : List Rect) (by kernel_rfl)), ⟨hg1014, (Is.refl ([(⟨(gl ((gl x980 v999.toNat).spans_) v1009.toNat).left_, (gl x980 v999.toNat).low_, (gl ((gl x980 v999.toNat).spans_) v1009.toNat).right_, (gl x980 v999.toNat).high_⟩ : Rect)] : List Rect) : Is (List.length (α := Rect) ([(⟨(gl ((gl x980 v999.toNat).spans_) v1009.toNat).left_, (gl x980 v999.toNat).low_, (gl ((gl x980 v999.toNat).spans_) v1009.toNat).right_, (gl x980 v999.toNat).high_⟩ : Rect)] : List Rect)) (LF (α := Rect) ([(⟨(gl ((gl x980 v999.toNat).spans_) v1009.toNat).left_, (gl x980 v999.toNat).low_, (gl ((gl x980 v999.toNat).spans_) v1009.toNat).right_, (gl x980 v999.toNat).high_⟩ : Rect)] : List Rect)) ([(⟨(gl ((gl x980 v999.toNat).spans_) v1009.toNat).left_, (gl x980 v999.toNat).low_, (gl ((gl x980 v999.toNat).spans_) v1009.toNat).right_, (gl x980 v999.toNat).high_⟩ : Rect)] : List Rect)).len, True.intro⟩, True.intro⟩ (by kernel_rfl) (by kernel_rfl) (by kernel_rfl) (by kernel_rfl) ?_
          refine Kn.wk [(3, .v (.c (.own 32))), (5, .v (.c (.ptr 5 0))), (8, AL (α := Band) x980), (9, vi ((List.length x980 : Nat) : Int)), (10, vi v999), (15, AL (α := Span) (gl x980 v999.toNat).spans_), (16, vi ((List.length ((gl x980 v999.toNat).spans_) : Nat) : Int)), (17, vi v1009)] [(5, .box false [.d (.int .i64 (gl x980 v999.toNat).low_), .d (.int .i64 (gl x980 v999.toNat).high_), .d (DL (α := Span) (gl x980 v999.toNat).spans_)]), (32, AO (α := Rect) (v1010 ++ ([(⟨(gl ((gl x980 v999.toNat).spans_) v1009.toNat).left_, (gl x980 v999.toNat).low_, (gl ((gl x980 v999.toNat).spans_) v1009.toNat).right_, (gl x980 v999.toNat).high_⟩ : Rect)] : List Rect)))] (FE.refl _) (⟨rfl, OLe.refl _, ⟨rfl, OLe.is (Is.app (Is.refl v1010) (Is.refl ([(⟨(gl ((gl x980 v999.toNat).spans_) v1009.toNat).left_, (gl x980 v999.toNat).low_, (gl ((gl x980 v999.toNat).spans_) v1009.toNat).right_, (gl x980 v999.toNat).high_⟩ : Rect)] : List Rect))), True.intro⟩⟩) ?_
          obtain ⟨hg1015, h⟩ := gd_some h
          refine AW.regc Fm [.s, .s] [] (fun K => (I64 (v1009 + (1 : Int)) ∧ True) ∧ True) [(3, .v (.c (.own 32))), (5, .v (.c (.ptr 5 0))), (8, AL (α := Band) x980), (9, vi ((List.length x980 : Nat) : Int)), (10, vi v999), (15, AL (α := Span) (gl x980 v999.toNat).spans_), (16, vi ((List.length ((gl x980 v999.toNat).spans_) : Nat) : Int)), (17, vi (v1009 + (1 : Int)))] [(5, .box false [.d (.int .i64 (gl x980 v999.toNat).low_), .d (.int .i64 (gl x980 v999.toNat).high_), .d (DL (α := Span) (gl x980 v999.toNat).spans_)]), (32, AO (α := Rect) (v1010 ++ ([(⟨(gl ((gl x980 v999.toNat).spans_) v1009.toNat).left_, (gl x980 v999.toNat).low_, (gl ((gl x980 v999.toNat).spans_) v1009.toNat).right_, (gl x980 v999.toNat).high_⟩ : Rect)] : List Rect)))] ⟨⟨hg1015, True.intro⟩, True.intro⟩ (by kernel_rfl) (by kernel_rfl) (by kernel_rfl) (by kernel_rfl) ?_
          exact Kn.re Fm [(3, 32)] [(3, .v (.c (.own 3))), (5, .v (.c (.ptr 5 0))), (8, AL (α := Band) x980), (9, vi ((List.length x980 : Nat) : Int)), (10, vi v999), (15, AL (α := Span) (gl x980 v999.toNat).spans_), (16, vi ((List.length ((gl x980 v999.toNat).spans_) : Nat) : Int)), (17, vi (v1009 + (1 : Int)))] [(3, AO (α := Rect) (v1010 ++ ([(⟨(gl ((gl x980 v999.toNat).spans_) v1009.toNat).left_, (gl x980 v999.toNat).low_, (gl ((gl x980 v999.toNat).spans_) v1009.toNat).right_, (gl x980 v999.toNat).high_⟩ : Rect)] : List Rect))), (5, .box false [.d (.int .i64 (gl x980 v999.toNat).low_), .d (.int .i64 (gl x980 v999.toNat).high_), .d (DL (α := Span) (gl x980 v999.toNat).spans_)])] (by kernel_rfl) (by kernel_rfl) (by kernel_rfl) (by kernel_rfl) (hJ1011 ((v1009 + (1 : Int)), (v1010 ++ ([(⟨(gl ((gl x980 v999.toNat).spans_) v1009.toNat).left_, (gl x980 v999.toNat).low_, (gl ((gl x980 v999.toNat).spans_) v1009.toNat).right_, (gl x980 v999.toNat).high_⟩ : Rect)] : List Rect))) h)
        · have h := br_f h hb1012
          refine AW.exit ?_
          exact Kn.re Fm [] [(3, .v (.c (.own 3))), (8, AL (α := Band) x980), (9, vi ((List.length x980 : Nat) : Int)), (10, vi v999)] [(3, AO (α := Rect) v1010)] (by kernel_rfl) (by kernel_rfl) (by kernel_rfl) (by kernel_rfl) (hJ1017 v1010 h)
    · have h := br_f h hb1002
      refine AW.exit ?_
      exact Kn.re Fm [] [(3, .v (.c (.own 3)))] [(3, AO (α := Rect) v1000)] (by kernel_rfl) (by kernel_rfl) (by kernel_rfl) (by kernel_rfl) (hJ1020 v1000 h)
/- landaid/region.Build -/
theorem region_Build_spec {F : Nat} {x1021 : (List Int)} {x1022 : Int → Option (List Span)} {r : (List Rect)} (h : region_Build F x1021 x1022 = some r) :
    FSpec Try.prog 59 [AL (α := Int) x1021, .v (.c (.sem (CloOK Try.prog (FR_Int_ListSpan x1022))))] [] (AL (α := Rect) r) [] := by
  refine FSpec.intro prog_mixed prog_lay Try.func59 rfl (by kernel_rfl) fun C Fm => ?_
  unfold region_Build at h
  refine AW.seq ?_
  refine AW.regc Fm [.s] [] (fun K => True) [(0, AL (α := Int) x1021), (1, .v (.c (.sem (CloOK Try.prog (FR_Int_ListSpan x1022)))))] [] True.intro (by kernel_rfl) (by kernel_rfl) (by kernel_rfl) (by kernel_rfl) ?_
  refine AW.seq ?_
  refine AW.regc Fm [.m] [] (fun K => True) [(0, AL (α := Int) x1021), (1, .v (.c (.sem (CloOK Try.prog (FR_Int_ListSpan x1022))))), (5, .v (.c (.own 5)))] [(5, .arr 3 (0) (fun _ => []))] True.intro (by kernel_rfl) (by kernel_rfl) (by kernel_rfl) (by kernel_rfl) ?_
  refine Kn.wk [(0, AL (α := Int) x1021), (1, .v (.c (.sem (CloOK Try.prog (FR_Int_ListSpan x1022))))), (5, .v (.c (.own 5)))] [(5, AO (α := Band) ([] : List Band))] (FE.refl _) (⟨rfl, OLe.is ((Is.nil (α := Band))), True.intro⟩) ?_
  refine AW.join (r := r) (fun z : (List Band) => region_Build_k3 F z) (fun z => [(5, .v (.c (.own 5)))]) (fun z => [(5, AO (α := Band) z)]) (fun v1077 h => ?_) (fun J1078 hJ1078 => ?_)
  · have h : region_Build_k3 F v1077 = some r := h
    refine AW.seq ?_
    refine Kn.re Fm [] [(5, .v (.c (.own 5)))] [(5, AO (α := Band) v1077)] (by kernel_rfl) (by kernel_rfl) (by kernel_rfl) (by kernel_rfl) ?_
    refine Kn.frz [(5, AL (α := Band) v1077)] [] (by kernel_rfl) (by kernel_rfl) (by kernel_rfl) ?_
    obtain ⟨z1079, hz1080, h⟩ := bd_some h
    refine AW.regc Fm [.s, .k (cE [] [] (AL (α := Rect) z1079) [] []), .s] [] (fun K => K 1 ∧ True) [(4, AL (α := Rect) z1079)] [] ⟨KAt.call (args := [AL (α := Band) v1077]) (region_rects_spec hz1080) Try.call80 [] rfl (by kernel_rfl) (by kernel_rfl) (by kernel_rfl) (by kernel_rfl), True.intro⟩ (by kernel_rfl) (by kernel_rfl) (by kernel_rfl) (by kernel_rfl) ?_
    refine AW.ret ?_
    obtain rfl := Option.some.inj h
    exact Kn.re Fm [] [(4, AL (α := Rect) z1079)] [] (by kernel_rfl) (by kernel_rfl) (by kernel_rfl) (by kernel_rfl) (Kn.done Fm (by kernel_rfl) (by kernel_rfl))
  · refine AW.seq ?_
    refine AW.regc Fm [.s] [] (fun K => True) [(0, AL (α := Int) x1021), (1, .v (.c (.sem (CloOK Try.prog (FR_Int_ListSpan x1022))))), (5, .v (.c (.own 5))), (6, vi (1 : Int))] [(5, AO (α := Band) ([] : List Band))] True.intro (by kernel_rfl) (by kernel_rfl) (by kernel_rfl) (by kernel_rfl) ?_
    refine AW.block ?_
    refine Kn.re Fm [] [(0, AL (α := Int) x1021), (1, .v (.c (.sem (CloOK Try.prog (FR_Int_ListSpan x1022))))), (5, .v (.c (.own 5))), (6, vi (1 : Int))] [(5, AO (α := Band) ([] : List Band))] (by kernel_rfl) (by kernel_rfl) (by kernel_rfl) (by kernel_rfl) ?_
    have h : loopN (fun again (z : Int × (List Band)) => region_Build_b0 F x1021 x1022 again z.1 z.2) F ((1 : Int), ([] : List Band)) = some r := h
    refine AW.loopF (E' := fun z => [(0, AL (α := Int) x1021), (1, .v (.c (.sem (CloOK Try.prog (FR_Int_ListSpan x1022))))), (5, .v (.c (.own 5))), (6, vi z.1)]) (S' := fun z => [(5, AO (α := Band) z.2)]) (fun ag_region_Build_b0 z J1051 hJ1051 h => ?_) h
    obtain ⟨v1049, v1050⟩ := z
    have h : region_Build_b0 F x1021 x1022 ag_region_Build_b0 v1049 v1050 = some r := h
    refine AW.seq ?_
    refine AW.seq ?_
    refine AW.regc Fm [.s, .s, .s, .s] [] (fun K => True) [(0, AL (α := Int) x1021), (1, .v (.c (.sem (CloOK Try.prog (FR_Int_ListSpan x1022))))), (5, .v (.c (.own 5))), (6, vi v1049), (12, vb (decide (v1049 < ((List.length x1021 : Nat) : Int))))] [(5, AO (α := Band) v1050)] True.intro (by kernel_rfl) (by kernel_rfl) (by kernel_rfl) (by kernel_rfl) ?_
    refine AW.cond (b := (decide (v1049 < ((List.length x1021 : Nat) : Int)))) (by kernel_rfl) (fun hb1052 => ?_) (fun hb1052 => ?_)
    · have h := br_t h hb1052
      refine AW.skip ?_
      refine AW.join (r := r) (fun z : (List Band) => region_Build_k2 F v1049 ag_region_Build_b0 z) (fun z => [(0, AL (α := Int) x1021), (1, .v (.c (.sem (CloOK Try.prog (FR_Int_ListSpan x1022))))), (5, .v (.c (.own 5))), (6, vi v1049)]) (fun z => [(5, AO (α := Band) z)]) (fun v1074 h => ?_) (fun J1075 hJ1075 => ?_)
      · have h : region_Build_k2 F v1049 ag_region_Build_b0 v1074 = some r := h
        obtain ⟨hg1076, h⟩ := gd_some h
        refine AW.regc Fm [.s, .s, .s] [] (fun K => (I64 (v1049 + (1 : Int)) ∧ True) ∧ True) [(0, AL (α := Int) x1021), (1, .v (.c (.sem (CloOK Try.prog (FR_Int_ListSpan x1022))))), (5, .v (.c (.own 5))), (6, vi (v1049 + (1 : Int)))] [(5, AO (α := Band) v1074)] ⟨⟨hg1076, True.intro⟩, True.intro⟩ (by kernel_rfl) (by kernel_rfl) (by kernel_rfl) (by kernel_rfl) ?_
        exact Kn.re Fm [] [(0, AL (α := Int) x1021), (1, .v (.c (.sem (CloOK Try.prog (FR_Int_ListSpan x1022))))), (5, .v (.c (.own 5))), (6, vi (v1049 + (1 : Int)))] [(5, AO (α := Band) v1074)] (by kernel_rfl) (by kernel_rfl) (by kernel_rfl) (by kernel_rfl) (hJ1051 ((v1049 + (1 : Int)), v1074) h)
      · refine AW.block ?_
        refine AW.seq ?_
        obtain ⟨hg1053, h⟩ := gd_some h
        obtain ⟨hg1054, h⟩ := gd_some h
        obtain ⟨hg1055, h⟩ := gd_some h
        obtain ⟨hg1056, h⟩ := gd_some h
        obtain ⟨hg1057, h⟩ := gd_some h
        obtain ⟨z1058, hz1059, h⟩ := bd_some h
        refine AW.regc Fm [.s, .s, .s, .s, .s, .s, .s, .s, .s, .s, .s, .s, .s, .s, .s, .k (sE (AL (α := Span) z1058)), .s, .s, .s] [] (fun K => (I64 (v1049 - (1 : Int)) ∧ True) ∧ (0 ≤ (v1049 - (1 : Int)) ∧ (v1049 - (1 : Int)) < ((List.length x1021 : Nat) : Int)) ∧ (0 ≤ v1049 ∧ v1049 < ((List.length x1021 : Nat) : Int)) ∧ (I64 (v1049 - (1 : Int)) ∧ True) ∧ (0 ≤ (v1049 - (1 : Int)) ∧ (v1049 - (1 : Int)) < ((List.length x1021 : Nat) : Int)) ∧ K 15 ∧ True) [(0, AL (α := Int) x1021), (1, .v (.c (.sem (CloOK Try.prog (FR_Int_ListSpan x1022))))), (5, .v (.c (.own 5))), (6, vi v1049), (7, .v (.c (.ptr 7 0)))] [(5, AO (α := Band) v1050), (7, .box false [.d (.int .i64 (gl x1021 (v1049 - (1 : Int)).toNat)), .d (.int .i64 (gl x1021 v1049.toNat)), .d (DL (α := Span) z1058)])] ⟨⟨hg1053, True.intro⟩, hg1054, hg1055, ⟨hg1056, True.intro⟩, hg1057, KAt.sem (F := (FR_Int_ListSpan x1022)) (args := [vi (gl x1021 (v1049 - (1 : Int)).toNat)]) ⟨(gl x1021 (v1049 - (1 : Int)).toNat), z1058, hz1059, rfl, rfl⟩ rfl (by kernel_rfl) (by kernel_rfl) (by kernel_rfl), True.intro⟩ (by kernel_rfl) (by kernel_rfl) (by kernel_rfl) (by kernel_rfl) ?_
        refine AW.seq ?_
        refine AW.regc Fm [.s, .s, .s] [] (fun K => True) [(0, AL (α := Int) x1021), (1, .v (.c (.sem (CloOK Try.prog (FR_Int_ListSpan x1022))))), (5, .v (.c (.own 5))), (6, vi v1049), (7, .v (.c (.ptr 7 0))), (8, vi ((List.length v1050 : Nat) : Int))] [(5, AO (α := Band) v1050), (7, .box false [.d (.int .i64 (gl x1021 (v1049 - (1 : Int)).toNat)), .d (.int .i64 (gl x1021 v1049.toNat)), .d (DL (α := Span) z1058)])] True.intro (by kernel_rfl) (by kernel_rfl) (by kernel_rfl) (by kernel_rfl) ?_
        refine AW.join (r := r) (fun z : Bool => region_Build_k1 F x1021 v1049 v1050 z1058 ag_region_Build_b0 z) (fun z => [(0, AL (α := Int) x1021), (1, .v (.c (.sem (CloOK Try.prog (FR_Int_ListSpan x1022))))), (5, .v (.c (.own 5))), (6, vi v1049), (7, .v (.c (.ptr 7 0))), (8, vi ((List.length v1050 : Nat) : Int)), (57, vb z)]) (fun z => [(5, AO (α := Band) v1050), (7, .box false [.d (.int .i64 (gl x1021 (v1049 - (1 : Int)).toNat)), .d (.int .i64 (gl x1021 v1049.toNat)), .d (DL (α := Span) z1058)])]) (fun v1068 h => ?_) (fun J1069 hJ1069 => ?_)
        · have h : region_Build_k1 F x1021 v1049 v1050 z1058 ag_region_Build_b0 v1068 = some r := h
          refine AW.cond (b := v1068) (by kernel_rfl) (fun hb1070 => ?_) (fun hb1070 => ?_)
          · have h := br_t h hb1070
            obtain ⟨hg1071, h⟩ := gd_some h
            obtain ⟨hg1072, h⟩ := gd_some h
            refine AW.regc Fm [.s, .s, .s, .s, .s, .s, .s, .s] [] (fun K => (I64 (((List.length v1050 : Nat) : Int) - (1 : Int)) ∧ True) ∧ (0 ≤ (((List.length v1050 : Nat) : Int) - (1 : Int)) ∧ (((List.length v1050 : Nat) : Int) - (1 : Int)) < ((List.length v1050 : Nat) : Int)) ∧ ((((List.length v1050 : Nat) : Int) - (1 : Int)).toNat < List.length v1050) ∧ True) [(0, AL (α := Int) x1021), (1, .v (.c (.sem (CloOK Try.prog (FR_Int_ListSpan x1022))))), (5, .v (.c (.own 5))), (6, vi v1049)] [(5, .arr 3 (List.length (α := Band) v1050) (fun j => if j = (((List.length v1050 : Nat) : Int) - (1 : Int)).toNat then splice ((LF (α := Band) v1050) (((List.length v1050 : Nat) : Int) - (1 : Int)).toNat) 1 [.int .i64 (gl x1021 v1049.toNat)] else (LF (α := Band) v1050) j))] ⟨⟨hg1071, True.intro⟩, hg1072, (toNat_lt hg1072), True.intro⟩ (by kernel_rfl) (by kernel_rfl) (by kernel_rfl) (by kernel_rfl) ?_
            refine Kn.wk [(0, AL (α := Int) x1021), (1, .v (.c (.sem (CloOK Try.prog (FR_Int_ListSpan x1022))))), (5, .v (.c (.own 5))), (6, vi v1049)] [(5, AO (α := Band) (List.set v1050 (((List.length v1050 : Nat) : Int) - (1 : Int)).toNat (⟨(gl v1050 (((List.length v1050 : Nat) : Int) - (1 : Int)).toNat).low_, (gl x1021 v1049.toNat), (gl v1050 (((List.length v1050 : Nat) : Int) - (1 : Int)).toNat).spans_⟩ : Band)))] (FE.refl _) (⟨rfl, OLe.is (Is.set (Is.refl v1050) (toNat_lt hg1072) (⟨(gl v1050 (((List.length v1050 : Nat) : Int) - (1 : Int)).toNat).low_, (gl x1021 v1049.toNat), (gl v1050 (((List.length v1050 : Nat) : Int) - (1 : Int)).toNat).spans_⟩ : Band) (by kernel_rfl)), True.intro⟩) ?_
            exact Kn.re Fm [] [(0, AL (α := Int) x1021), (1, .v (.c (.sem (CloOK Try.prog (FR_Int_ListSpan x1022))))), (5, .v (.c (.own 5))), (6, vi v1049)] [(5, AO (α := Band) (List.set v1050 (((List.length v1050 : Nat) : Int) - (1 : Int)).toNat (⟨(gl v1050 (((List.length v1050 : Nat) : Int) - (1 : Int)).toNat).low_, (gl x1021 v1049.toNat), (gl v1050 (((List.length v1050 : Nat) : Int) - (1 : Int)).toNat).spans_⟩ : Band)))] (by kernel_rfl) (by kernel_rfl) (by kernel_rfl) (by kernel_rfl) (hJ1075 (List.set v1050 (((List.length v1050 : Nat) : Int) - (1 : Int)).toNat (⟨(gl v1050 (((List.length v1050 : Nat) : Int) - (1 : Int)).toNat).low_, (gl x1021 v1049.toNat), (gl v1050 (((List.length v1050 : Nat) : Int) - (1 : Int)).toNat).spans_⟩ : Band)) h)
          · have h := br_f h hb1070
            obtain ⟨hg1073, h⟩ := gd_some h
            refine AW.regc Fm [.s, .s, .w (AL (α := Band) ([(⟨(gl x1021 (v1049 - (1 : Int)).toNat), (gl x1021 v1049.toNat), z1058⟩ : Band)] : List Band)), .s, .s] [] (fun K => (ALe (.v (.c (.d (.lst 1 (litF 3 [.int .i64 (gl x1021 (v1049 - (1 : Int)).toNat), .int .i64 (gl x1021 v1049.toNat), DL (α := Span) z1058]))))) (AL (α := Band) ([(⟨(gl x1021 (v1049 - (1 : Int)).toNat), (gl x1021 v1049.toNat), z1058⟩ : Band)] : List Band))) ∧ ((List.length (α := Band) v1050) + (List.length (α := Band) ([(⟨(gl x1021 (v1049 - (1 : Int)).toNat), (gl x1021 v1049.toNat), z1058⟩ : Band)] : List Band)) ≤ LIM ∧ (∀ j, j < List.length (α := Band) ([(⟨(gl x1021 (v1049 - (1 : Int)).toNat), (gl x1021 v1049.toNat), z1058⟩ : Band)] : List Band) → ((LF (α := Band) ([(⟨(gl x1021 (v1049 - (1 : Int)).toNat), (gl x1021 v1049.toNat), z1058⟩ : Band)] : List Band)) j).length = 3) ∧ (True)) ∧ True) [(0, AL (α := Int) x1021), (1, .v (.c (.sem (CloOK Try.prog (FR_Int_ListSpan x1022))))), (5, .v (.c (.own 68))), (6, vi v1049)] [(68, .arr 3 ((List.length (α := Band) v1050) + (List.length (α := Band) ([(⟨(gl x1021 (v1049 - (1 : Int)).toNat), (gl x1021 v1049.toNat), z1058⟩ : Band)] : List Band))) (appF (List.length (α := Band) v1050) (LF (α := Band) v1050) (LF (α := Band) ([(⟨(gl x1021 (v1049 - (1 : Int)).toNat), (gl x1021 v1049.toNat), z1058⟩ : Band)] : List Band))))] ⟨ALe.lst (.lit ([(⟨(gl x1021 (v1049 - (1 : Int)).toNat), (gl x1021 v1049.toNat), z1058⟩ : Band)] : List Band) (by kernel_rfl)), ⟨hg1073, (Is.refl ([(⟨(gl x1021 (v1049 - (1 : Int)).toNat), (gl x1021 v1049.toNat), z1058⟩ : Band)] : List Band) : Is (List.length (α := Band) ([(⟨(gl x1021 (v1049 - (1 : Int)).toNat), (gl x1021 v1049.toNat), z1058⟩ : Band)] : List Band)) (LF (α := Band) ([(⟨(gl x1021 (v1049 - (1 : Int)).toNat), (gl x1021 v1049.toNat), z1058⟩ : Band)] : List Band)) ([(⟨(gl x1021 (v1049 - (1 : Int)).toNat), (gl x1021 v1049.toNat), z1058⟩ : Band)] : List Band)).len, True.intro⟩, True.intro⟩ (by kernel_rfl) (by kernel_rfl) (by kernel_rfl) (by kernel_rfl) ?_
            refine Kn.wk [(0, AL (α := Int) x1021), (1, .v (.c (.sem (CloOK Try.prog (FR_Int_ListSpan x1022))))), (5, .v (.c (.own 68))), (6, vi v1049)] [(68, AO (α := Band) (v1050 ++ ([(⟨(gl x1021 (v1049 - (1 : Int)).toNat), (gl x1021 v1049.toNat), z1058⟩ : Band)] : List Band)))] (FE.refl _) (⟨rfl, OLe.is (Is.app (Is.refl v1050) (Is.refl ([(⟨(gl x1021 (v1049 - (1 : Int)).toNat), (gl x1021 v1049.toNat), z1058⟩ : Band)] : List Band))), True.intro⟩) ?_
            exact Kn.re Fm [(5, 68)] [(0, AL (α := Int) x1021), (1, .v (.c (.sem (CloOK Try.prog (FR_Int_ListSpan x1022))))), (5, .v (.c (.own 5))), (6, vi v1049)] [(5, AO (α := Band) (v1050 ++ ([(⟨(gl x1021 (v1049 - (1 : Int)).toNat), (gl x1021 v1049.toNat), z1058⟩ : Band)] : List Band)))] (by kernel_rfl) (by kernel_rfl) (by kernel_rfl) (by kernel_rfl) (hJ1075 (v1050 ++ ([(⟨(gl x1021 (v1049 - (1 : Int)).toNat), (gl x1021 v1049.toNat), z1058⟩ : Band)] : List Band)) h)
        · rcases Bool.eq_false_or_eq_true (decide ((0 : Int) < ((List.length v1050 : Nat) : Int))) with hb1060 | hb1060
          · have h := br_t h hb1060
            obtain ⟨hg1061, h⟩ := gd_some h
            obtain ⟨hg1062, h⟩ := gd_some h
            rcases Bool.eq_false_or_eq_true (((gl v1050 (((List.length v1050 : Nat) : Int) - (1 : Int)).toNat).high_) == (gl x1021 (v1049 - (1 : Int)).toNat)) with hb1063 | hb1063
            · have h := br_t h hb1063
              obtain ⟨hg1064, h⟩ := gd_some h
              obtain ⟨hg1065, h⟩ := gd_some h
              obtain ⟨z1066, hz1067, h⟩ := bd_some h
              refine AW.regc Fm [.s, .s, .w (vb true), .s, .s, .s, .s, .s, .s, .s, .s, .s, .s, .w (vb true), .s, .s, .s, .s, .s, .s, .s, .s, .k (cE [] [] (vb z1066) [] []), .s] [] (fun K => (ALe (vb (decide ((0 : Int) < ((List.length v1050 : Nat) : Int)))) (vb true)) ∧ (I64 (((List.length v1050 : Nat) : Int) - (1 : Int)) ∧ True) ∧ (0 ≤ (((List.length v1050 : Nat) : Int) - (1 : Int)) ∧ (((List.length v1050 : Nat) : Int) - (1 : Int)) < ((List.length v1050 : Nat) : Int)) ∧ ((((List.length v1050 : Nat) : Int) - (1 : Int)).toNat < List.length v1050) ∧ (ALe (vb (((gl v1050 (((List.length v1050 : Nat) : Int) - (1 : Int)).toNat).high_) == (gl x1021 (v1049 - (1 : Int)).toNat))) (vb true)) ∧ (I64 (((List.length v1050 : Nat) : Int) - (1 : Int)) ∧ True) ∧ (0 ≤ (((List.length v1050 : Nat) : Int) - (1 : Int)) ∧ (((List.length v1050 : Nat) : Int) - (1 : Int)) < ((List.length v1050 : Nat) : Int)) ∧ ((((List.length v1050 : Nat) : Int) - (1 : Int)).toNat < List.length v1050) ∧ K 22 ∧ True) [(0, AL (α := Int) x1021), (1, .v (.c (.sem (CloOK Try.prog (FR_Int_ListSpan x1022))))), (5, .v (.c (.own 5))), (6, vi v1049), (7, .v (.c (.ptr 7 0))), (8, vi ((List.length v1050 : Nat) : Int)), (37, .v (.c (.own 5))), (38, vi ((List.length v1050 : Nat) : Int)), (39, vi (((List.length v1050 : Nat) : Int) - (1 : Int))), (40, .v (.c (.pte 5 3 ((((List.length v1050 : Nat) : Int) - (1 : Int)).toNat) 0))), (41, .v (.c (.pte 5 3 ((((List.length v1050 : Nat) : Int) - (1 : Int)).toNat) 1))), (42, vi (gl v1050 (((List.length v1050 : Nat) : Int) - (1 : Int)).toNat).high_), (43, .v (.c (.ptr 7 0))), (44, vi (gl x1021 (v1049 - (1 : Int)).toNat)), (45, vb (((gl v1050 (((List.length v1050 : Nat) : Int) - (1 : Int)).toNat).high_) == (gl x1021 (v1049 - (1 : Int)).toNat))), (48, .v (.c (.own 5))), (49, vi ((List.length v1050 : Nat) : Int)), (50, vi (((List.length v1050 : Nat) : Int) - (1 : Int))), (51, .v (.c (.pte 5 3 ((((List.length v1050 : Nat) : Int) - (1 : Int)).toNat) 0))), (52, .v (.c (.pte 5 3 ((((List.length v1050 : Nat) : Int) - (1 : Int)).toNat) 2))), (53, AL (α := Span) (gl v1050 (((List.length v1050 : Nat) : Int) - (1 : Int)).toNat).spans_), (54, .v (.c (.ptr 7 2))), (55, AL (α := Span) z1058), (56, vb z1066), (57, vb z1066)] [(5, AO (α := Band) v1050), (7, .box false [.d (.int .i64 (gl x1021 (v1049 - (1 : Int)).toNat)), .d (.int .i64 (gl x1021 v1049.toNat)), .d (DL (α := Span) z1058)])] ⟨ALe.bool hb1060, ⟨hg1061, True.intro⟩, hg1062, (toNat_lt hg1062), ALe.bool hb1063, ⟨hg1064, True.intro⟩, hg1065, (toNat_lt hg1065), KAt.call (args := [AL (α := Span) (gl v1050 (((List.length v1050 : Nat) : Int) - (1 : Int)).toNat).spans_, AL (α := Span) z1058]) (slices_Equal_Span_spec hz1067) Try.call79 [] rfl (by kernel_rfl) (by kernel_rfl) (by kernel_rfl) (by kernel_rfl), True.intro⟩ (by kernel_rfl) (by kernel_rfl) (by kernel_rfl) (by kernel_rfl) ?_
              exact Kn.re Fm [] [(0, AL (α := Int) x1021), (1, .v (.c (.sem (CloOK Try.prog (FR_Int_ListSpan x1022))))), (5, .v (.c (.own 5))), (6, vi v1049), (7, .v (.c (.ptr 7 0))), (8, vi ((List.length v1050 : Nat) : Int)), (57, vb z1066)] [(5, AO (α := Band) v1050), (7, .box false [.d (.int .i64 (gl x1021 (v1049 - (1 : Int)).toNat)), .d (.int .i64 (gl x1021 v1049.toNat)), .d (DL (α := Span) z1058)])] (by kernel_rfl) (by kernel_rfl) (by kernel_rfl) (by kernel_rfl) (hJ1069 z1066 h)
            · have h := br_f h hb1063
              refine AW.regc Fm [.s, .s, .w (vb true), .s, .s, .s, .s, .s, .s, .s, .s, .s, .s, .w (vb false), .s, .s, .s, .s, .s, .s, .s, .s, .s, .s] [] (fun K => (ALe (vb (decide ((0 : Int) < ((List.length v1050 : Nat) : Int)))) (vb true)) ∧ (I64 (((List.length v1050 : Nat) : Int) - (1 : Int)) ∧ True) ∧ (0 ≤ (((List.length v1050 : Nat) : Int) - (1 : Int)) ∧ (((List.length v1050 : Nat) : Int) - (1 : Int)) < ((List.length v1050 : Nat) : Int)) ∧ ((((List.length v1050 : Nat) : Int) - (1 : Int)).toNat < List.length v1050) ∧ (ALe (vb (((gl v1050 (((List.length v1050 : Nat) : Int) - (1 : Int)).toNat).high_) == (gl x1021 (v1049 - (1 : Int)).toNat))) (vb false)) ∧ True) [(0, AL (α := Int) x1021), (1, .v (.c (.sem (CloOK Try.prog (FR_Int_ListSpan x1022))))), (5, .v (.c (.own 5))), (6, vi v1049), (7, .v (.c (.ptr 7 0))), (8, vi ((List.length v1050 : Nat) : Int)), (37, .v (.c (.own 5))), (38, vi ((List.length v1050 : Nat) : Int)), (39, vi (((List.length v1050 : Nat) : Int) - (1 : Int))), (40, .v (.c (.pte 5 3 ((((List.length v1050 : Nat) : Int) - (1 : Int)).toNat) 0))), (41, .v (.c (.pte 5 3 ((((List.length v1050 : Nat) : Int) - (1 : Int)).toNat) 1))), (42, vi (gl v1050 (((List.length v1050 : Nat) : Int) - (1 : Int)).toNat).high_), (43, .v (.c (.ptr 7 0))), (44, vi (gl x1021 (v1049 - (1 : Int)).toNat)), (45, vb (((gl v1050 (((List.length v1050 : Nat) : Int) - (1 : Int)).toNat).high_) == (gl x1021 (v1049 - (1 : Int)).toNat))), (57, vb false)] [(5, AO (α := Band) v1050), (7, .box false [.d (.int .i64 (gl x1021 (v1049 - (1 : Int)).toNat)), .d (.int .i64 (gl x1021 v1049.toNat)), .d (DL (α := Span) z1058)])] ⟨ALe.bool hb1060, ⟨hg1061, True.intro⟩, hg1062, (toNat_lt hg1062), ALe.bool hb1063, True.intro⟩ (by kernel_rfl) (by kernel_rfl) (by kernel_rfl) (by kernel_rfl) ?_
              exact Kn.re Fm [] [(0, AL (α := Int) x1021), (1, .v (.c (.sem (CloOK Try.prog (FR_Int_ListSpan x1022))))), (5, .v (.c (.own 5))), (6, vi v1049), (7, .v (.c (.ptr 7 0))), (8, vi ((List.length v1050 : Nat) : Int)), (57, vb false)] [(5, AO (α := Band) v1050), (7, .box false [.d (.int .i64 (gl x1021 (v1049 - (1 : Int)).toNat)), .d (.int .i64 (gl x1021 v1049.toNat)), .d (DL (α := Span) z1058)])] (by kernel_rfl) (by kernel_rfl) (by kernel_rfl) (by kernel_rfl) (hJ1069 false h)
          · have h := br_f h hb1060
            refine AW.regc Fm [.s, .s, .w (vb false), .s, .s, .s, .s, .s, .s, .s, .s, .s, .s, .s, .s, .s, .s, .s, .s, .s, .s, .s, .s, .s] [] (fun K => (ALe (vb (decide ((0 : Int) < ((List.length v1050 : Nat) : Int)))) (vb false)) ∧ True) [(0, AL (α := Int) x1021), (1, .v (.c (.sem (CloOK Try.prog (FR_Int_ListSpan x1022))))), (5, .v (.c (.own 5))), (6, vi v1049), (7, .v (.c (.ptr 7 0))), (8, vi ((List.length v1050 : Nat) : Int)), (57, vb false)] [(5, AO (α := Band) v1050), (7, .box false [.d (.int .i64 (gl x1021 (v1049 - (1 : Int)).toNat)), .d (.int .i64 (gl x1021 v1049.toNat)), .d (DL (α := Span) z1058)])] ⟨ALe.bool hb1060, True.intro⟩ (by kernel_rfl) (by kernel_rfl) (by kernel_rfl) (by kernel_rfl) ?_
            exact Kn.re Fm [] [(0, AL (α := Int) x1021), (1, .v (.c (.sem (CloOK Try.prog (FR_Int_ListSpan x1022))))), (5, .v (.c (.own 5))), (6, vi v1049), (7, .v (.c (.ptr 7 0))), (8, vi ((List.length v1050 : Nat) : Int)), (57, vb false)] [(5, AO (α := Band) v1050), (7, .box false [.d (.int .i64 (gl x1021 (v1049 - (1 : Int)).toNat)), .d (.int .i64 (gl x1021 v1049.toNat)), .d (DL (α := Span) z1058)])] (by kernel_rfl) (by kernel_rfl) (by kernel_rfl) (by kernel_rfl) (hJ1069 false h)
    · have h := br_f h hb1052
      refine AW.exit ?_
      exact Kn.re Fm [] [(5, .v (.c (.own 5)))] [(5, AO (α := Band) v1050)] (by kernel_rfl) (by kernel_rfl) (by kernel_rfl) (by kernel_rfl) (hJ1078 v1050 h)
/- landaid/region.canonical -/
theorem region_canonical_spec {F : Nat} {x1081 : (List Rect)} {r : (List Rect)} (h : region_canonical F x1081 = some r) :
    FSpec Try.prog 51 [AL (α := Rect) x1081] [] (AL (α := Rect) r) [] := by
  refine FSpec.intro prog_mixed prog_lay Try.func51 rfl (by kernel_rfl) fun C Fm => ?_
  unfold region_canonical at h
  refine AW.seq ?_
  refine AW.regc Fm [.s, .s] [] (fun K => True) [(1, .v (.c (.ptr 1 0)))] [(1, .box false [.d (DL (α := Rect) x1081)])] True.intro (by kernel_rfl) (by kernel_rfl) (by kernel_rfl) (by kernel_rfl) ?_
  refine AW.seq ?_
  obtain ⟨z1082, hz1083, h⟩ := bd_some h
  obtain ⟨z1084, hz1085, h⟩ := bd_some h
  refine AW.regc Fm [.s, .w (AL (α := (List Rect)) ([x1081] : List (List Rect))), .k (cE [] [] (AL (α := Int) z1082) [] []), .s, .k (cE [] [1] (AL (α := Rect) z1084) [] []), .s] [] (fun K => (ALe (.v (.c (.d (.lst 1 (litF 1 [DL (α := Rect) x1081]))))) (AL (α := (List Rect)) ([x1081] : List (List Rect)))) ∧ K 2 ∧ K 4 ∧ True) [(2, AL (α := Rect) z1084)] [] ⟨ALe.lst (.lit ([x1081] : List (List Rect)) (by kernel_rfl)), KAt.call (args := [AL (α := (List Rect)) ([x1081] : List (List Rect))]) (region_Cuts_spec hz1083) Try.call60 [] rfl (by kernel_rfl) (by kernel_rfl) (by kernel_rfl) (by kernel_rfl), KAt.callX (args := [AL (α := Int) z1082, .v (.c (.sem (CloOK Try.prog (FR_Int_ListSpan (fun y0 => region_canonical_1 F y0 x1081)))))]) (region_Build_spec hz1085) Try.call59 [] [1] [.tmp 5, .tmp 6] rfl (by kernel_rfl) (by kernel_rfl) (by kernel_rfl) ⟨ArgT.plain (by kernel_rfl) (ALe.of_eq (by kernel_rfl)) (by kernel_rfl), ArgT.cloX Try.call61 [[.d (DL (α := Rect) x1081)]] (fun args r hq => by obtain ⟨y0, y, hq, rfl, rfl⟩ := hq; exact Eq.mp (by kernel_rfl) (region_canonical_1_spec hq)) (fun args r hq => by obtain ⟨y0, y, hq, rfl, rfl⟩ := hq; rfl) (by kernel_rfl) [1] (by kernel_rfl) (by kernel_rfl) (⟨⟨false, (by kernel_rfl)⟩, True.intro⟩) (by kernel_rfl), True.intro⟩, True.intro⟩ (by kernel_rfl) (by kernel_rfl) (by kernel_rfl) (by kernel_rfl) ?_
  refine AW.ret ?_
  obtain rfl := Option.some.inj h
  exact Kn.re Fm [] [(2, AL (α := Rect) z1084)] [] (by kernel_rfl) (by kernel_rfl) (by kernel_rfl) (by kernel_rfl) (Kn.done Fm (by kernel_rfl) (by kernel_rfl))
/- slices.Equal[[]landaid/api.Rect,landaid/api.Rect] -/
theorem slices_Equal_Rect_spec {F : Nat} {x1086 : (List Rect)} {x1087 : (List Rect)} {r : Bool} (h : slices_Equal_Rect F x1086 x1087 = some r) :
    FSpec Try.prog 50 [AL (α := Rect) x1086, AL (α := Rect) x1087] [] (vb r) [] := by
  refine FSpec.intro prog_mixed prog_lay Try.func50 rfl (by kernel_rfl) fun C Fm => ?_
  unfold slices_Equal_Rect at h
  refine AW.seq ?_
  refine AW.regc Fm [.s] [] (fun K => True) [(0, AL (α := Rect) x1086), (1, AL (α := Rect) x1087)] [] True.intro (by kernel_rfl) (by kernel_rfl) (by kernel_rfl) (by kernel_rfl) ?_
  refine AW.seq ?_
  refine AW.seq ?_
  refine AW.regc Fm [.s, .s, .s, .s, .s] [] (fun K => True) [(0, AL (α := Rect) x1086), (1, AL (α := Rect) x1087), (10, vb (((List.length x1086 : Nat) : Int) != ((List.length x1087 : Nat) : Int)))] [] True.intro (by kernel_rfl) (by kernel_rfl) (by kernel_rfl) (by kernel_rfl) ?_
  refine AW.cond (b := (((List.length x1086 : Nat) : Int) != ((List.length x1087 : Nat) : Int))) (by kernel_rfl) (fun hb1088 => ?_) (fun hb1088 => ?_)
  · have h := br_t h hb1088
    refine AW.seq ?_
    refine AW.regc Fm [.s] [] (fun K => True) [(4, vb false)] [] True.intro (by kernel_rfl) (by kernel_rfl) (by kernel_rfl) (by kernel_rfl) ?_
    refine AW.ret ?_
    obtain rfl := Option.some.inj h
    exact Kn.re Fm [] [(4, vb false)] [] (by kernel_rfl) (by kernel_rfl) (by kernel_rfl) (by kernel_rfl) (Kn.done Fm (by kernel_rfl) (by kernel_rfl))
  · have h := br_f h hb1088
    refine AW.skip ?_
    refine AW.join (r := r) (fun z : Unit => slices_Equal_Rect_k1 F) (fun z => []) (fun z => []) (fun z h => ?_) (fun J1102 hJ1102 => ?_)
    · have h : slices_Equal_Rect_k1 F = some r := h
      refine AW.seq ?_
      refine AW.regc Fm [.s] [] (fun K => True) [(4, vb true)] [] True.intro (by kernel_rfl) (by kernel_rfl) (by kernel_rfl) (by kernel_rfl) ?_
      refine AW.ret ?_
      obtain rfl := Option.some.inj h
      exact Kn.re Fm [] [(4, vb true)] [] (by kernel_rfl) (by kernel_rfl) (by kernel_rfl) (by kernel_rfl) (Kn.done Fm (by kernel_rfl) (by kernel_rfl))
    · refine AW.seq ?_
      refine AW.regc Fm [.s, .s, .s] [] (fun K => True) [(0, AL (α := Rect) x1086), (1, AL (α := Rect) x1087), (12, vi ((List.length x1086 : Nat) : Int)), (13, vi (0 : Int))] [] True.intro (by kernel_rfl) (by kernel_rfl) (by kernel_rfl) (by kernel_rfl) ?_
      refine AW.block ?_
      refine Kn.re Fm [] [(0, AL (α := Rect) x1086), (1, AL (α := Rect) x1087), (12, vi ((List.length x1086 : Nat) : Int)), (13, vi (0 : Int))] [] (by kernel_rfl) (by kernel_rfl) (by kernel_rfl) (by kernel_rfl) ?_
      have h : loopN (fun again (z : Int) => slices_Equal_Rect_b0 F x1086 x1087 again z) F (0 : Int) = some r := h
      refine AW.loopF (E' := fun z => [(0, AL (α := Rect) x1086), (1, AL (α := Rect) x1087), (12, vi ((List.length x1086 : Nat) : Int)), (13, vi z)]) (S' := fun z => []) (fun ag_slices_Equal_Rect_b0 v1095 J1096 hJ1096 h => ?_) h
      have h : slices_Equal_Rect_b0 F x1086 x1087 ag_slices_Equal_Rect_b0 v1095 = some r := h
      refine AW.seq ?_
      refine AW.regc Fm [.s] [] (fun K => True) [(0, AL (α := Rect) x1086), (1, AL (α := Rect) x1087), (12, vi ((List.length x1086 : Nat) : Int)), (13, vi v1095), (14, vb (decide (v1095 < ((List.length x1086 : Nat) : Int))))] [] True.intro (by kernel_rfl) (by kernel_rfl) (by kernel_rfl) (by kernel_rfl) ?_
      refine AW.seq ?_
      refine AW.cond (b := (decide (v1095 < ((List.length x1086 : Nat) : Int)))) (by kernel_rfl) (fun hb1097 => ?_) (fun hb1097 => ?_)
      · have h := br_t h hb1097
        refine AW.skip ?_
        refine AW.seq ?_
        refine AW.block ?_
        refine AW.seq ?_
        refine AW.regc Fm [.s, .s] [] (fun K => True) [(0, AL (α := Rect) x1086), (1, AL (α := Rect) x1087), (5, vi v1095), (12, vi ((List.length x1086 : Nat) : Int)), (13, vi v1095)] [] True.intro (by kernel_rfl) (by kernel_rfl) (by kernel_rfl) (by kernel_rfl) ?_
        refine AW.seq ?_
        obtain ⟨hg1098, h⟩ := gd_some h
        obtain ⟨hg1099, h⟩ := gd_some h
        refine AW.regc Fm [.s, .s, .s, .s, .s, .s, .s, .s, .k (sE (vb (!((((gl x1086 v1095.toNat).left_) == ((gl x1087 v1095.toNat).left_)) && ((((gl x1086 v1095.toNat).low_) == ((gl x1087 v1095.toNat).low_)) && ((((gl x1086 v1095.toNat).right_) == ((gl x1087 v1095.toNat).right_)) && ((((gl x1086 v1095.toNat).high_) == ((gl x1087 v1095.toNat).high_)) && true)))))))] [] (fun K => (0 ≤ v1095 ∧ v1095 < ((List.length x1086 : Nat) : Int)) ∧ (0 ≤ v1095 ∧ v1095 < ((List.length x1087 : Nat) : Int)) ∧ K 8 ∧ True) [(0, AL (α := Rect) x1086), (1, AL (α := Rect) x1087), (12, vi ((List.length x1086 : Nat) : Int)), (13, vi v1095), (24, vb (!((((gl x1086 v1095.toNat).left_) == ((gl x1087 v1095.toNat).left_)) && ((((gl x1086 v1095.toNat).low_) == ((gl x1087 v1095.toNat).low_)) && ((((gl x1086 v1095.toNat).right_) == ((gl x1087 v1095.toNat).right_)) && ((((gl x1086 v1095.toNat).high_) == ((gl x1087 v1095.toNat).high_)) && true))))))] [] ⟨hg1098, hg1099, KAt.eq (xs := [.d (.int .i64 (gl x1086 v1095.toNat).left_), .d (.int .i64 (gl x1086 v1095.toNat).low_), .d (.int .i64 (gl x1086 v1095.toNat).right_), .d (.int .i64 (gl x1086 v1095.toNat).high_)]) (ys := [.d (.int .i64 (gl x1087 v1095.toNat).left_), .d (.int .i64 (gl x1087 v1095.toNat).low_), .d (.int .i64 (gl x1087 v1095.toNat).right_), .d (.int .i64 (gl x1087 v1095.toNat).high_)]) eqT51 false (b := ((((gl x1086 v1095.toNat).left_) == ((gl x1087 v1095.toNat).left_)) && ((((gl x1086 v1095.toNat).low_) == ((gl x1087 v1095.toNat).low_)) && ((((gl x1086 v1095.toNat).right_) == ((gl x1087 v1095.toNat).right_)) && ((((gl x1086 v1095.toNat).high_) == ((gl x1087 v1095.toNat).high_)) && true))))) rfl rfl (by kernel_rfl) (by kernel_rfl) (by kernel_rfl) (by kernel_rfl), True.intro⟩ (by kernel_rfl) (by kernel_rfl) (by kernel_rfl) (by kernel_rfl) ?_
        refine AW.cond (b := (!((((gl x1086 v1095.toNat).left_) == ((gl x1087 v1095.toNat).left_)) && ((((gl x1086 v1095.toNat).low_) == ((gl x1087 v1095.toNat).low_)) && ((((gl x1086 v1095.toNat).right_) == ((gl x1087 v1095.toNat).right_)) && ((((gl x1086 v1095.toNat).high_) == ((gl x1087 v1095.toNat).high_)) && true)))))) (by kernel_rfl) (fun hb1100 => ?_) (fun hb1100 => ?_)
        · have h := br_t h hb1100
          refine AW.seq ?_
          refine AW.regc Fm [.s] [] (fun K => True) [(4, vb false)] [] True.intro (by kernel_rfl) (by kernel_rfl) (by kernel_rfl) (by kernel_rfl) ?_
          refine AW.ret ?_
          obtain rfl := Option.some.inj h
          exact Kn.re Fm [] [(4, vb false)] [] (by kernel_rfl) (by kernel_rfl) (by kernel_rfl) (by kernel_rfl) (Kn.done Fm (by kernel_rfl) (by kernel_rfl))
        · have h := br_f h hb1100
          refine AW.skip ?_
          obtain ⟨hg1101, h⟩ := gd_some h
          refine AW.regc Fm [.s, .s] [] (fun K => (I64 (v1095 + (1 : Int)) ∧ True) ∧ True) [(0, AL (α := Rect) x1086), (1, AL (α := Rect) x1087), (12, vi ((List.length x1086 : Nat) : Int)), (13, vi (v1095 + (1 : Int)))] [] ⟨⟨hg1101, True.intro⟩, True.intro⟩ (by kernel_rfl) (by kernel_rfl) (by kernel_rfl) (by kernel_rfl) ?_
          exact Kn.re Fm [] [(0, AL (α := Rect) x1086), (1, AL (α := Rect) x1087), (12, vi ((List.length x1086 : Nat) : Int)), (13, vi (v1095 + (1 : Int)))] [] (by kernel_rfl) (by kernel_rfl) (by kernel_rfl) (by kernel_rfl) (hJ1096 (v1095 + (1 : Int)) h)
      · have h := br_f h hb1097
        refine AW.exit ?_
        exact Kn.re Fm [] [] [] (by kernel_rfl) (by kernel_rfl) (by kernel_rfl) (by kernel_rfl) (hJ1102 () h)
/- landaid/region.Valid -/
theorem region_Valid_spec {F : Nat} {x1103 : Region} {r : Bool} (h : region_Valid F x1103 = some r) :
    FSpec Try.prog 36 [.v (.g [.d (DL (α := Rect) x1103.rects_)])] [] (vb r) [] := by
  refine FSpec.intro prog_mixed prog_lay Try.func36 rfl (by kernel_rfl) fun C Fm => ?_
  unfold region_Valid at h
  refine AW.seq ?_
  refine AW.regc Fm [.s, .s] [] (fun K => True) [(1, .v (.c (.ptr 1 0)))] [(1, .box false [.d (DL (α := Rect) x1103.rects_)])] True.intro (by kernel_rfl) (by kernel_rfl) (by kernel_rfl) (by kernel_rfl) ?_
  refine AW.seq ?_
  refine AW.join (r := r) (fun z : Bool => region_Valid_k0 F x1103 z) (fun z => [(1, .v (.c (.ptr 1 0))), (11, vb z)]) (fun z => [(1, .box false [.d (DL (α := Rect) x1103.rects_)])]) (fun v1107 h => ?_) (fun J1108 hJ1108 => ?_)
  · have h : region_Valid_k0 F x1103 v1107 = some r := h
    refine AW.cond (b := v1107) (by kernel_rfl) (fun hb1109 => ?_) (fun hb1109 => ?_)
    · have h := br_t h hb1109
      refine AW.seq ?_
      refine AW.regc Fm [.s] [] (fun K => True) [(2, vb false)] [] True.intro (by kernel_rfl) (by kernel_rfl) (by kernel_rfl) (by kernel_rfl) ?_
      refine AW.ret ?_
      obtain rfl := Option.some.inj h
      exact Kn.re Fm [] [(2, vb false)] [] (by kernel_rfl) (by kernel_rfl) (by kernel_rfl) (by kernel_rfl) (Kn.done Fm (by kernel_rfl) (by kernel_rfl))
    · have h := br_f h hb1109
      refine AW.skip ?_
      refine AW.seq ?_
      obtain ⟨z1110, hz1111, h⟩ := bd_some h
      obtain ⟨z1112, hz1113, h⟩ := bd_some h
      refine AW.regc Fm [.s, .s, .k (cE [] [] (AL (α := Rect) z1110) [] []), .s, .s, .k (cE [] [] (vb z1112) [] []), .s] [] (fun K => K 2 ∧ K 5 ∧ True) [(2, vb z1112)] [] ⟨KAt.call (args := [AL (α := Rect) x1103.rects_]) (region_canonical_spec hz1111) Try.call51 [] rfl (by kernel_rfl) (by kernel_rfl) (by kernel_rfl) (by kernel_rfl), KAt.call (args := [AL (α := Rect) z1110, AL (α := Rect) x1103.rects_]) (slices_Equal_Rect_spec hz1113) Try.call50 [] rfl (by kernel_rfl) (by kernel_rfl) (by kernel_rfl) (by kernel_rfl), True.intro⟩ (by kernel_rfl) (by kernel_rfl) (by kernel_rfl) (by kernel_rfl) ?_
      refine AW.ret ?_
      obtain rfl := Option.some.inj h
      exact Kn.re Fm [] [(2, vb z1112)] [] (by kernel_rfl) (by kernel_rfl) (by kernel_rfl) (by kernel_rfl) (Kn.done Fm (by kernel_rfl) (by kernel_rfl))
  · rcases Bool.eq_false_or_eq_true (decide ((120 : Int) < ((List.length x1103.rects_ : Nat) : Int))) with hb1104 | hb1104
    · have h := br_t h hb1104
      refine AW.regc Fm [.s, .s, .s, .s, .w (vb true), .s, .s, .s, .s] [] (fun K => (ALe (vb (decide ((120 : Int) < ((List.length x1103.rects_ : Nat) : Int)))) (vb true)) ∧ True) [(1, .v (.c (.ptr 1 0))), (11, vb true)] [(1, .box false [.d (DL (α := Rect) x1103.rects_)])] ⟨ALe.bool hb1104, True.intro⟩ (by kernel_rfl) (by kernel_rfl) (by kernel_rfl) (by kernel_rfl) ?_
      exact Kn.re Fm [] [(1, .v (.c (.ptr 1 0))), (11, vb true)] [(1, .box false [.d (DL (α := Rect) x1103.rects_)])] (by kernel_rfl) (by kernel_rfl) (by kernel_rfl) (by kernel_rfl) (hJ1108 true h)
    · have h := br_f h hb1104
      obtain ⟨z1105, hz1106, h⟩ := bd_some h
      refine AW.regc Fm [.s, .s, .s, .s, .w (vb false), .s, .s, .k (cE [] [] (vb z1105) [] []), .s] [] (fun K => (ALe (vb (decide ((120 : Int) < ((List.length x1103.rects_ : Nat) : Int)))) (vb false)) ∧ K 7 ∧ True) [(1, .v (.c (.ptr 1 0))), (11, vb z1105)] [(1, .box false [.d (DL (α := Rect) x1103.rects_)])] ⟨ALe.bool hb1104, KAt.callX (args := [AL (α := Rect) x1103.rects_, .v (.c (.sem (CloOK Try.prog (FR_Rect_Bool (fun y0 => region_Valid_1 F y0)))))]) (slices_ContainsFunc_Rect_spec hz1106) Try.call47 [] [] [.tmp 9, .func 48] rfl (by kernel_rfl) (by kernel_rfl) (by kernel_rfl) ⟨ArgT.plain (by kernel_rfl) (ALe.of_eq (by kernel_rfl)) (by kernel_rfl), ArgT.cloX Try.call48 [] (fun args r hq => by obtain ⟨y0, y, hq, rfl, rfl⟩ := hq; exact Eq.mp (by kernel_rfl) (region_Valid_1_spec hq)) (fun args r hq => by obtain ⟨y0, y, hq, rfl, rfl⟩ := hq; rfl) (by kernel_rfl) [] (by kernel_rfl) (by kernel_rfl) (True.intro) (by kernel_rfl), True.intro⟩, True.intro⟩ (by kernel_rfl) (by kernel_rfl) (by kernel_rfl) (by kernel_rfl) ?_
      exact Kn.re Fm [] [(1, .v (.c (.ptr 1 0))), (11, vb z1105)] [(1, .box false [.d (DL (α := Rect) x1103.rects_)])] (by kernel_rfl) (by kernel_rfl) (by kernel_rfl) (by kernel_rfl) (hJ1108 z1105 h)
/- landaid/feature.single -/
theorem feature_single_spec {F : Nat} {x1114 : Feature} {r : Int} (h : feature_single F x1114 = some r) :
    FSpec Try.prog 23 [.v (.g [.d (.int .i64 x1114.number_), .d (.int .i64 x1114.kind_), .d (.int .i64 x1114.from_), .d (.int .i64 x1114.until_), .d (DL (α := Rect) x1114.region_.rects_)])] [] (vi r) [] := by
  refine FSpec.intro prog_mixed prog_lay Try.func23 rfl (by kernel_rfl) fun C Fm => ?_
  unfold feature_single at h
  refine AW.seq ?_
  refine AW.regc Fm [.s, .s] [] (fun K => True) [(1, .v (.c (.ptr 1 0)))] [(1, .box false [.d (.int .i64 x1114.number_), .d (.int .i64 x1114.kind_), .d (.int .i64 x1114.from_), .d (.int .i64 x1114.until_), .d (DL (α := Rect) x1114.region_.rects_)])] True.intro (by kernel_rfl) (by kernel_rfl) (by kernel_rfl) (by kernel_rfl) ?_
  refine AW.seq ?_
  refine AW.block ?_
  refine AW.join (r := r) (fun z : Bool => feature_single_k0 F x1114 z) (fun z => [(1, .v (.c (.ptr 1 0))), (3, vb z)]) (fun z => [(1, .box false [.d (.int .i64 x1114.number_), .d (.int .i64 x1114.kind_), .d (.int .i64 x1114.from_), .d (.int .i64 x1114.until_), .d (DL (α := Rect) x1114.region_.rects_)])]) (fun v1116 h => ?_) (fun J1117 hJ1117 => ?_)
  · have h : feature_single_k0 F x1114 v1116 = some r := h
    refine AW.cond (b := v1116) (by kernel_rfl) (fun hb1118 => ?_) (fun hb1118 => ?_)
    · have h := br_t h hb1118
      refine AW.seq ?_
      refine AW.regc Fm [.s] [] (fun K => True) [(2, vi (2 : Int))] [] True.intro (by kernel_rfl) (by kernel_rfl) (by kernel_rfl) (by kernel_rfl) ?_
      refine AW.ret ?_
      obtain rfl := Option.some.inj h
      exact Kn.re Fm [] [(2, vi (2 : Int))] [] (by kernel_rfl) (by kernel_rfl) (by kernel_rfl) (by kernel_rfl) (Kn.done Fm (by kernel_rfl) (by kernel_rfl))
    · have h := br_f h hb1118
      refine AW.join (r := r) (fun z : Bool => feature_single_k1 F x1114 z) (fun z => [(1, .v (.c (.ptr 1 0))), (12, vb z)]) (fun z => [(1, .box false [.d (.int .i64 x1114.number_), .d (.int .i64 x1114.kind_), .d (.int .i64 x1114.from_), .d (.int .i64 x1114.until_), .d (DL (α := Rect) x1114.region_.rects_)])]) (fun v1120 h => ?_) (fun J1121 hJ1121 => ?_)
      · have h : feature_single_k1 F x1114 v1120 = some r := h
        refine AW.cond (b := v1120) (by kernel_rfl) (fun hb1122 => ?_) (fun hb1122 => ?_)
        · have h := br_t h hb1122
          refine AW.seq ?_
          refine AW.regc Fm [.s] [] (fun K => True) [(2, vi (14 : Int))] [] True.intro (by kernel_rfl) (by kernel_rfl) (by kernel_rfl) (by kernel_rfl) ?_
          refine AW.ret ?_
          obtain rfl := Option.some.inj h
          exact Kn.re Fm [] [(2, vi (14 : Int))] [] (by kernel_rfl) (by kernel_rfl) (by kernel_rfl) (by kernel_rfl) (Kn.done Fm (by kernel_rfl) (by kernel_rfl))
        · have h := br_f h hb1122
          refine AW.join (r := r) (fun z : Bool => feature_single_k2 F x1114 z) (fun z => [(1, .v (.c (.ptr 1 0))), (21, vb z)]) (fun z => [(1, .box false [.d (.int .i64 x1114.number_), .d (.int .i64 x1114.kind_), .d (.int .i64 x1114.from_), .d (.int .i64 x1114.until_), .d (DL (α := Rect) x1114.region_.rects_)])]) (fun v1125 h => ?_) (fun J1126 hJ1126 => ?_)
          · have h : feature_single_k2 F x1114 v1125 = some r := h
            refine AW.cond (b := v1125) (by kernel_rfl) (fun hb1127 => ?_) (fun hb1127 => ?_)
            · have h := br_t h hb1127
              refine AW.seq ?_
              refine AW.regc Fm [.s] [] (fun K => True) [(2, vi (9 : Int))] [] True.intro (by kernel_rfl) (by kernel_rfl) (by kernel_rfl) (by kernel_rfl) ?_
              refine AW.ret ?_
              obtain rfl := Option.some.inj h
              exact Kn.re Fm [] [(2, vi (9 : Int))] [] (by kernel_rfl) (by kernel_rfl) (by kernel_rfl) (by kernel_rfl) (Kn.done Fm (by kernel_rfl) (by kernel_rfl))
            · have h := br_f h hb1127
              refine AW.join (r := r) (fun z : Bool => feature_single_k3 F z) (fun z => [(37, vb z)]) (fun z => []) (fun v1131 h => ?_) (fun J1132 hJ1132 => ?_)
              · have h : feature_single_k3 F v1131 = some r := h
                refine AW.cond (b := v1131) (by kernel_rfl) (fun hb1133 => ?_) (fun hb1133 => ?_)
                · have h := br_t h hb1133
                  refine AW.seq ?_
                  refine AW.regc Fm [.s] [] (fun K => True) [(2, vi (7 : Int))] [] True.intro (by kernel_rfl) (by kernel_rfl) (by kernel_rfl) (by kernel_rfl) ?_
                  refine AW.ret ?_
                  obtain rfl := Option.some.inj h
                  exact Kn.re Fm [] [(2, vi (7 : Int))] [] (by kernel_rfl) (by kernel_rfl) (by kernel_rfl) (by kernel_rfl) (Kn.done Fm (by kernel_rfl) (by kernel_rfl))
                · have h := br_f h hb1133
                  refine AW.skip ?_
                  refine AW.seq ?_
                  refine AW.regc Fm [.s] [] (fun K => True) [(2, vi (0 : Int))] [] True.intro (by kernel_rfl) (by kernel_rfl) (by kernel_rfl) (by kernel_rfl) ?_
                  refine AW.ret ?_
                  obtain rfl := Option.some.inj h
                  exact Kn.re Fm [] [(2, vi (0 : Int))] [] (by kernel_rfl) (by kernel_rfl) (by kernel_rfl) (by kernel_rfl) (Kn.done Fm (by kernel_rfl) (by kernel_rfl))
              · rcases Bool.eq_false_or_eq_true (((List.length x1114.region_.rects_ : Nat) : Int) == (0 : Int)) with hb1128 | hb1128
                · have h := br_t h hb1128
                  refine AW.regc Fm [.s, .s, .s, .s, .s, .w (vb true), .s, .s, .s, .s, .s, .s] [] (fun K => (ALe (vb (((List.length x1114.region_.rects_ : Nat) : Int) == (0 : Int))) (vb true)) ∧ True) [(37, vb true)] [] ⟨ALe.bool hb1128, True.intro⟩ (by kernel_rfl) (by kernel_rfl) (by kernel_rfl) (by kernel_rfl) ?_
                  exact Kn.re Fm [] [(37, vb true)] [] (by kernel_rfl) (by kernel_rfl) (by kernel_rfl) (by kernel_rfl) (hJ1132 true h)
                · have h := br_f h hb1128
                  obtain ⟨z1129, hz1130, h⟩ := bd_some h
                  refine AW.regc Fm [.s, .s, .s, .s, .s, .w (vb false), .s, .s, .k (cE [] [] (vb z1129) [] []), .s, .s, .s] [] (fun K => (ALe (vb (((List.length x1114.region_.rects_ : Nat) : Int) == (0 : Int))) (vb false)) ∧ K 8 ∧ True) [(37, vb (!z1129))] [] ⟨ALe.bool hb1128, KAt.call (args := [.v (.g [.d (DL (α := Rect) x1114.region_.rects_)])]) (region_Valid_spec hz1130) Try.call36 [] rfl (by kernel_rfl) (by kernel_rfl) (by kernel_rfl) (by kernel_rfl), True.intro⟩ (by kernel_rfl) (by kernel_rfl) (by kernel_rfl) (by kernel_rfl) ?_
                  exact Kn.re Fm [] [(37, vb (!z1129))] [] (by kernel_rfl) (by kernel_rfl) (by kernel_rfl) (by kernel_rfl) (hJ1132 (!z1129) h)
          · rcases Bool.eq_false_or_eq_true (decide (x1114.from_ < (0 : Int))) with hb1123 | hb1123
            · have h := br_t h hb1123
              refine AW.regc Fm [.s, .s, .s, .w (vb true), .s, .s, .s, .s, .s, .s, .s, .s, .s, .s, .s, .s] [] (fun K => (ALe (vb (decide (x1114.from_ < (0 : Int)))) (vb true)) ∧ True) [(1, .v (.c (.ptr 1 0))), (21, vb true)] [(1, .box false [.d (.int .i64 x1114.number_), .d (.int .i64 x1114.kind_), .d (.int .i64 x1114.from_), .d (.int .i64 x1114.until_), .d (DL (α := Rect) x1114.region_.rects_)])] ⟨ALe.bool hb1123, True.intro⟩ (by kernel_rfl) (by kernel_rfl) (by kernel_rfl) (by kernel_rfl) ?_
              exact Kn.re Fm [] [(1, .v (.c (.ptr 1 0))), (21, vb true)] [(1, .box false [.d (.int .i64 x1114.number_), .d (.int .i64 x1114.kind_), .d (.int .i64 x1114.from_), .d (.int .i64 x1114.until_), .d (DL (α := Rect) x1114.region_.rects_)])] (by kernel_rfl) (by kernel_rfl) (by kernel_rfl) (by kernel_rfl) (hJ1126 true h)
            · have h := br_f h hb1123
              rcases Bool.eq_false_or_eq_true (decide (x1114.until_ ≤ x1114.from_)) with hb1124 | hb1124
              · have h := br_t h hb1124
                refine AW.regc Fm [.s, .s, .s, .w (vb false), .s, .s, .s, .s, .s, .s, .w (vb true), .s, .s, .s, .s, .s] [] (fun K => (ALe (vb (decide (x1114.from_ < (0 : Int)))) (vb false)) ∧ (ALe (vb (decide (x1114.until_ ≤ x1114.from_))) (vb true)) ∧ True) [(1, .v (.c (.ptr 1 0))), (21, vb true)] [(1, .box false [.d (.int .i64 x1114.number_), .d (.int .i64 x1114.kind_), .d (.int .i64 x1114.from_), .d (.int .i64 x1114.until_), .d (DL (α := Rect) x1114.region_.rects_)])] ⟨ALe.bool hb1123, ALe.bool hb1124, True.intro⟩ (by kernel_rfl) (by kernel_rfl) (by kernel_rfl) (by kernel_rfl) ?_
                exact Kn.re Fm [] [(1, .v (.c (.ptr 1 0))), (21, vb true)] [(1, .box false [.d (.int .i64 x1114.number_), .d (.int .i64 x1114.kind_), .d (.int .i64 x1114.from_), .d (.int .i64 x1114.until_), .d (DL (α := Rect) x1114.region_.rects_)])] (by kernel_rfl) (by kernel_rfl) (by kernel_rfl) (by kernel_rfl) (hJ1126 true h)
              · have h := br_f h hb1124
                refine AW.regc Fm [.s, .s, .s, .w (vb false), .s, .s, .s, .s, .s, .s, .w (vb false), .s, .s, .s, .s, .s] [] (fun K => (ALe (vb (decide (x1114.from_ < (0 : Int)))) (vb false)) ∧ (ALe (vb (decide (x1114.until_ ≤ x1114.from_))) (vb false)) ∧ True) [(1, .v (.c (.ptr 1 0))), (21, vb (decide ((36865 : Int) < x1114.until_)))] [(1, .box false [.d (.int .i64 x1114.number_), .d (.int .i64 x1114.kind_), .d (.int .i64 x1114.from_), .d (.int .i64 x1114.until_), .d (DL (α := Rect) x1114.region_.rects_)])] ⟨ALe.bool hb1123, ALe.bool hb1124, True.intro⟩ (by kernel_rfl) (by kernel_rfl) (by kernel_rfl) (by kernel_rfl) ?_
                exact Kn.re Fm [] [(1, .v (.c (.ptr 1 0))), (21, vb (decide ((36865 : Int) < x1114.until_)))] [(1, .box false [.d (.int .i64 x1114.number_), .d (.int .i64 x1114.kind_), .d (.int .i64 x1114.from_), .d (.int .i64 x1114.until_), .d (DL (α := Rect) x1114.region_.rects_)])] (by kernel_rfl) (by kernel_rfl) (by kernel_rfl) (by kernel_rfl) (hJ1126 (decide ((36865 : Int) < x1114.until_)) h)
      · rcases Bool.eq_false_or_eq_true (decide (x1114.kind_ < (0 : Int))) with hb1119 | hb1119
        · have h := br_t h hb1119
          refine AW.regc Fm [.s, .s, .s, .w (vb true), .s, .s, .s, .s, .s] [] (fun K => (ALe (vb (decide (x1114.kind_ < (0 : Int)))) (vb true)) ∧ True) [(1, .v (.c (.ptr 1 0))), (12, vb true)] [(1, .box false [.d (.int .i64 x1114.number_), .d (.int .i64 x1114.kind_), .d (.int .i64 x1114.from_), .d (.int .i64 x1114.until_), .d (DL (α := Rect) x1114.region_.rects_)])] ⟨ALe.bool hb1119, True.intro⟩ (by kernel_rfl) (by kernel_rfl) (by kernel_rfl) (by kernel_rfl) ?_
          exact Kn.re Fm [] [(1, .v (.c (.ptr 1 0))), (12, vb true)] [(1, .box false [.d (.int .i64 x1114.number_), .d (.int .i64 x1114.kind_), .d (.int .i64 x1114.from_), .d (.int .i64 x1114.until_), .d (DL (α := Rect) x1114.region_.rects_)])] (by kernel_rfl) (by kernel_rfl) (by kernel_rfl) (by kernel_rfl) (hJ1121 true h)
        · have h := br_f h hb1119
          refine AW.regc Fm [.s, .s, .s, .w (vb false), .s, .s, .s, .s, .s] [] (fun K => (ALe (vb (decide (x1114.kind_ < (0 : Int)))) (vb false)) ∧ True) [(1, .v (.c (.ptr 1 0))), (12, vb (decide ((15 : Int) < x1114.kind_)))] [(1, .box false [.d (.int .i64 x1114.number_), .d (.int .i64 x1114.kind_), .d (.int .i64 x1114.from_), .d (.int .i64 x1114.until_), .d (DL (α := Rect) x1114.region_.rects_)])] ⟨ALe.bool hb1119, True.intro⟩ (by kernel_rfl) (by kernel_rfl) (by kernel_rfl) (by kernel_rfl) ?_
          exact Kn.re Fm [] [(1, .v (.c (.ptr 1 0))), (12, vb (decide ((15 : Int) < x1114.kind_)))] [(1, .box false [.d (.int .i64 x1114.number_), .d (.int .i64 x1114.kind_), .d (.int .i64 x1114.from_), .d (.int .i64 x1114.until_), .d (DL (α := Rect) x1114.region_.rects_)])] (by kernel_rfl) (by kernel_rfl) (by kernel_rfl) (by kernel_rfl) (hJ1121 (decide ((15 : Int) < x1114.kind_)) h)
  · rcases Bool.eq_false_or_eq_true (decide (x1114.number_ < (1 : Int))) with hb1115 | hb1115
    · have h := br_t h hb1115
      refine AW.regc Fm [.s, .s, .s, .w (vb true), .s, .s, .s, .s, .s] [] (fun K => (ALe (vb (decide (x1114.number_ < (1 : Int)))) (vb true)) ∧ True) [(1, .v (.c (.ptr 1 0))), (3, vb true)] [(1, .box false [.d (.int .i64 x1114.number_), .d (.int .i64 x1114.kind_), .d (.int .i64 x1114.from_), .d (.int .i64 x1114.until_), .d (DL (α := Rect) x1114.region_.rects_)])] ⟨ALe.bool hb1115, True.intro⟩ (by kernel_rfl) (by kernel_rfl) (by kernel_rfl) (by kernel_rfl) ?_
      exact Kn.re Fm [] [(1, .v (.c (.ptr 1 0))), (3, vb true)] [(1, .box false [.d (.int .i64 x1114.number_), .d (.int .i64 x1114.kind_), .d (.int .i64 x1114.from_), .d (.int .i64 x1114.until_), .d (DL (α := Rect) x1114.region_.rects_)])] (by kernel_rfl) (by kernel_rfl) (by kernel_rfl) (by kernel_rfl) (hJ1117 true h)
    · have h := br_f h hb1115
      refine AW.regc Fm [.s, .s, .s, .w (vb false), .s, .s, .s, .s, .s] [] (fun K => (ALe (vb (decide (x1114.number_ < (1 : Int)))) (vb false)) ∧ True) [(1, .v (.c (.ptr 1 0))), (3, vb (decide ((1073741824 : Int) < x1114.number_)))] [(1, .box false [.d (.int .i64 x1114.number_), .d (.int .i64 x1114.kind_), .d (.int .i64 x1114.from_), .d (.int .i64 x1114.until_), .d (DL (α := Rect) x1114.region_.rects_)])] ⟨ALe.bool hb1115, True.intro⟩ (by kernel_rfl) (by kernel_rfl) (by kernel_rfl) (by kernel_rfl) ?_
      exact Kn.re Fm [] [(1, .v (.c (.ptr 1 0))), (3, vb (decide ((1073741824 : Int) < x1114.number_)))] [(1, .box false [.d (.int .i64 x1114.number_), .d (.int .i64 x1114.kind_), .d (.int .i64 x1114.from_), .d (.int .i64 x1114.until_), .d (DL (α := Rect) x1114.region_.rects_)])] (by kernel_rfl) (by kernel_rfl) (by kernel_rfl) (by kernel_rfl) (hJ1117 (decide ((1073741824 : Int) < x1114.number_)) h)
/- landaid/feature.Check -/
theorem feature_Check_spec {F : Nat} {x1134 : (List Feature)} {r : Int} (h : feature_Check F x1134 = some r) :
    FSpec Try.prog 9 [AL (α := Feature) x1134] [] (vi r) [] := by
  refine FSpec.intro prog_mixed prog_lay Try.func9 rfl (by kernel_rfl) fun C Fm => ?_
  unfold feature_Check at h
  refine AW.seq ?_
  refine AW.regc Fm [.s] [] (fun K => True) [(0, AL (α := Feature) x1134)] [] True.intro (by kernel_rfl) (by kernel_rfl) (by kernel_rfl) (by kernel_rfl) ?_
  refine AW.seq ?_
  refine AW.seq ?_
  refine AW.regc Fm [.s, .s, .s] [] (fun K => True) [(0, AL (α := Feature) x1134), (8, vb (decide ((60 : Int) < ((List.length x1134 : Nat) : Int))))] [] True.intro (by kernel_rfl) (by kernel_rfl) (by kernel_rfl) (by kernel_rfl) ?_
  refine AW.cond (b := (decide ((60 : Int) < ((List.length x1134 : Nat) : Int)))) (by kernel_rfl) (fun hb1135 => ?_) (fun hb1135 => ?_)
  · have h := br_t h hb1135
    refine AW.seq ?_
    refine AW.regc Fm [.s] [] (fun K => True) [(2, vi (1 : Int))] [] True.intro (by kernel_rfl) (by kernel_rfl) (by kernel_rfl) (by kernel_rfl) ?_
    refine AW.ret ?_
    obtain rfl := Option.some.inj h
    exact Kn.re Fm [] [(2, vi (1 : Int))] [] (by kernel_rfl) (by kernel_rfl) (by kernel_rfl) (by kernel_rfl) (Kn.done Fm (by kernel_rfl) (by kernel_rfl))
  · have h := br_f h hb1135
    refine AW.skip ?_
    refine AW.join (r := r) (fun z : Unit => feature_Check_k2 F) (fun z => []) (fun z => []) (fun z h => ?_) (fun J1163 hJ1163 => ?_)
    · have h : feature_Check_k2 F = some r := h
      refine AW.seq ?_
      refine AW.regc Fm [.s] [] (fun K => True) [(2, vi (0 : Int))] [] True.intro (by kernel_rfl) (by kernel_rfl) (by kernel_rfl) (by kernel_rfl) ?_
      refine AW.ret ?_
      obtain rfl := Option.some.inj h
      exact Kn.re Fm [] [(2, vi (0 : Int))] [] (by kernel_rfl) (by kernel_rfl) (by kernel_rfl) (by kernel_rfl) (Kn.done Fm (by kernel_rfl) (by kernel_rfl))
    · refine AW.seq ?_
      refine AW.regc Fm [.s, .s, .s] [] (fun K => True) [(0, AL (α := Feature) x1134), (9, AL (α := Feature) x1134), (10, vi ((List.length x1134 : Nat) : Int)), (11, vi (0 : Int))] [] True.intro (by kernel_rfl) (by kernel_rfl) (by kernel_rfl) (by kernel_rfl) ?_
      refine AW.block ?_
      refine Kn.re Fm [] [(0, AL (α := Feature) x1134), (9, AL (α := Feature) x1134), (10, vi ((List.length x1134 : Nat) : Int)), (11, vi (0 : Int))] [] (by kernel_rfl) (by kernel_rfl) (by kernel_rfl) (by kernel_rfl) ?_
      have h : loopN (fun again (z : Int) => feature_Check_b0 F x1134 again z) F (0 : Int) = some r := h
      refine AW.loopF (E' := fun z => [(0, AL (α := Feature) x1134), (9, AL (α := Feature) x1134), (10, vi ((List.length x1134 : Nat) : Int)), (11, vi z)]) (S' := fun z => []) (fun ag_feature_Check_b0 v1149 J1150 hJ1150 h => ?_) h
      have h : feature_Check_b0 F x1134 ag_feature_Check_b0 v1149 = some r := h
      refine AW.seq ?_
      refine AW.regc Fm [.s] [] (fun K => True) [(0, AL (α := Feature) x1134), (9, AL (α := Feature) x1134), (10, vi ((List.length x1134 : Nat) : Int)), (11, vi v1149), (12, vb (decide (v1149 < ((List.length x1134 : Nat) : Int))))] [] True.intro (by kernel_rfl) (by kernel_rfl) (by kernel_rfl) (by kernel_rfl) ?_
      refine AW.seq ?_
      refine AW.cond (b := (decide (v1149 < ((List.length x1134 : Nat) : Int)))) (by kernel_rfl) (fun hb1151 => ?_) (fun hb1151 => ?_)
      · have h := br_t h hb1151
        refine AW.skip ?_
        refine AW.seq ?_
        refine AW.block ?_
        refine AW.seq ?_
        obtain ⟨hg1152, h⟩ := gd_some h
        refine AW.regc Fm [.s, .s, .s, .s, .s, .s] [] (fun K => (0 ≤ v1149 ∧ v1149 < ((List.length x1134 : Nat) : Int)) ∧ True) [(0, AL (α := Feature) x1134), (3, vi v1149), (4, .v (.c (.ptr 4 0))), (9, AL (α := Feature) x1134), (10, vi ((List.length x1134 : Nat) : Int)), (11, vi v1149)] [(4, .box false [.d (.int .i64 (gl x1134 v1149.toNat).number_), .d (.int .i64 (gl x1134 v1149.toNat).kind_), .d (.int .i64 (gl x1134 v1149.toNat).from_), .d (.int .i64 (gl x1134 v1149.toNat).until_), .d (DL (α := Rect) (gl x1134 v1149.toNat).region_.rects_)])] ⟨hg1152, True.intro⟩ (by kernel_rfl) (by kernel_rfl) (by kernel_rfl) (by kernel_rfl) ?_
        refine AW.seq ?_
        refine AW.seq ?_
        obtain ⟨z1153, hz1154, h⟩ := bd_some h
        refine AW.regc Fm [.s, .k (cE [] [] (vi z1153) [] []), .s] [] (fun K => K 1 ∧ True) [(0, AL (α := Feature) x1134), (3, vi v1149), (4, .v (.c (.ptr 4 0))), (5, vi z1153), (9, AL (α := Feature) x1134), (10, vi ((List.length x1134 : Nat) : Int)), (11, vi v1149)] [(4, .box false [.d (.int .i64 (gl x1134 v1149.toNat).number_), .d (.int .i64 (gl x1134 v1149.toNat).kind_), .d (.int .i64 (gl x1134 v1149.toNat).from_), .d (.int .i64 (gl x1134 v1149.toNat).until_), .d (DL (α := Rect) (gl x1134 v1149.toNat).region_.rects_)])] ⟨KAt.call (args := [.v (.g [.d (.int .i64 (gl x1134 v1149.toNat).number_), .d (.int .i64 (gl x1134 v1149.toNat).kind_), .d (.int .i64 (gl x1134 v1149.toNat).from_), .d (.int .i64 (gl x1134 v1149.toNat).until_), .d (DL (α := Rect) (gl x1134 v1149.toNat).region_.rects_)])]) (feature_single_spec hz1154) Try.call23 [] rfl (by kernel_rfl) (by kernel_rfl) (by kernel_rfl) (by kernel_rfl), True.intro⟩ (by kernel_rfl) (by kernel_rfl) (by kernel_rfl) (by kernel_rfl) ?_
        refine AW.seq ?_
        refine AW.regc Fm [.s, .s] [] (fun K => True) [(0, AL (α := Feature) x1134), (3, vi v1149), (4, .v (.c (.ptr 4 0))), (5, vi z1153), (9, AL (α := Feature) x1134), (10, vi ((List.length x1134 : Nat) : Int)), (11, vi v1149), (19, vb (z1153 != (0 : Int)))] [(4, .box false [.d (.int .i64 (gl x1134 v1149.toNat).number_), .d (.int .i64 (gl x1134 v1149.toNat).kind_), .d (.int .i64 (gl x1134 v1149.toNat).from_), .d (.int .i64 (gl x1134 v1149.toNat).until_), .d (DL (α := Rect) (gl x1134 v1149.toNat).region_.rects_)])] True.intro (by kernel_rfl) (by kernel_rfl) (by kernel_rfl) (by kernel_rfl) ?_
        refine AW.cond (b := (z1153 != (0 : Int))) (by kernel_rfl) (fun hb1155 => ?_) (fun hb1155 => ?_)
        · have h := br_t h hb1155
          refine AW.seq ?_
          refine AW.regc Fm [.s, .s] [] (fun K => True) [(2, vi z1153)] [] True.intro (by kernel_rfl) (by kernel_rfl) (by kernel_rfl) (by kernel_rfl) ?_
          refine AW.ret ?_
          obtain rfl := Option.some.inj h
          exact Kn.re Fm [] [(2, vi z1153)] [] (by kernel_rfl) (by kernel_rfl) (by kernel_rfl) (by kernel_rfl) (Kn.done Fm (by kernel_rfl) (by kernel_rfl))
        · have h := br_f h hb1155
          refine AW.skip ?_
          refine AW.join (r := r) (fun z : Bool => feature_Check_k1 F v1149 ag_feature_Check_b0 z) (fun z => [(0, AL (α := Feature) x1134), (9, AL (α := Feature) x1134), (10, vi ((List.length x1134 : Nat) : Int)), (11, vi v1149), (33, vb z)]) (fun z => []) (fun v1159 h => ?_) (fun J1160 hJ1160 => ?_)
          · have h : feature_Check_k1 F v1149 ag_feature_Check_b0 v1159 = some r := h
            refine AW.cond (b := v1159) (by kernel_rfl) (fun hb1161 => ?_) (fun hb1161 => ?_)
            · have h := br_t h hb1161
              refine AW.seq ?_
              refine AW.regc Fm [.s] [] (fun K => True) [(2, vi (3 : Int))] [] True.intro (by kernel_rfl) (by kernel_rfl) (by kernel_rfl) (by kernel_rfl) ?_
              refine AW.ret ?_
              obtain rfl := Option.some.inj h
              exact Kn.re Fm [] [(2, vi (3 : Int))] [] (by kernel_rfl) (by kernel_rfl) (by kernel_rfl) (by kernel_rfl) (Kn.done Fm (by kernel_rfl) (by kernel_rfl))
            · have h := br_f h hb1161
              refine AW.skip ?_
              obtain ⟨hg1162, h⟩ := gd_some h
              refine AW.regc Fm [.s, .s] [] (fun K => (I64 (v1149 + (1 : Int)) ∧ True) ∧ True) [(0, AL (α := Feature) x1134), (9, AL (α := Feature) x1134), (10, vi ((List.length x1134 : Nat) : Int)), (11, vi (v1149 + (1 : Int)))] [] ⟨⟨hg1162, True.intro⟩, True.intro⟩ (by kernel_rfl) (by kernel_rfl) (by kernel_rfl) (by kernel_rfl) ?_
              exact Kn.re Fm [] [(0, AL (α := Feature) x1134), (9, AL (α := Feature) x1134), (10, vi ((List.length x1134 : Nat) : Int)), (11, vi (v1149 + (1 : Int)))] [] (by kernel_rfl) (by kernel_rfl) (by kernel_rfl) (by kernel_rfl) (hJ1150 (v1149 + (1 : Int)) h)
          · rcases Bool.eq_false_or_eq_true (decide ((0 : Int) < v1149)) with hb1156 | hb1156
            · have h := br_t h hb1156
              obtain ⟨hg1157, h⟩ := gd_some h
              obtain ⟨hg1158, h⟩ := gd_some h
              refine AW.regc Fm [.s, .s, .w (vb true), .s, .s, .s, .s, .s, .s, .s, .s, .s, .s] [] (fun K => (ALe (vb (decide ((0 : Int) < v1149))) (vb true)) ∧ (I64 (v1149 - (1 : Int)) ∧ True) ∧ (0 ≤ (v1149 - (1 : Int)) ∧ (v1149 - (1 : Int)) < ((List.length x1134 : Nat) : Int)) ∧ True) [(0, AL (α := Feature) x1134), (9, AL (α := Feature) x1134), (10, vi ((List.length x1134 : Nat) : Int)), (11, vi v1149), (24, .v (.c (.ptr 4 0))), (25, vi (gl x1134 v1149.toNat).number_), (26, AL (α := Feature) x1134), (27, vi v1149), (28, vi (v1149 - (1 : Int))), (29, .v (.c (.elm [.int .i64 (gl x1134 (v1149 - (1 : Int)).toNat).number_, .int .i64 (gl x1134 (v1149 - (1 : Int)).toNat).kind_, .int .i64 (gl x1134 (v1149 - (1 : Int)).toNat).from_, .int .i64 (gl x1134 (v1149 - (1 : Int)).toNat).until_, DL (α := Rect) (gl x1134 (v1149 - (1 : Int)).toNat).region_.rects_]))), (30, .v (.c (.elm [.int .i64 (gl x1134 (v1149 - (1 : Int)).toNat).number_, .int .i64 (gl x1134 (v1149 - (1 : Int)).toNat).kind_, .int .i64 (gl x1134 (v1149 - (1 : Int)).toNat).from_, .int .i64 (gl x1134 (v1149 - (1 : Int)).toNat).until_, DL (α := Rect) (gl x1134 (v1149 - (1 : Int)).toNat).region_.rects_]))), (31, vi (gl x1134 (v1149 - (1 : Int)).toNat).number_), (32, vb (decide (((gl x1134 v1149.toNat).number_) ≤ ((gl x1134 (v1149 - (1 : Int)).toNat).number_)))), (33, vb (decide (((gl x1134 v1149.toNat).number_) ≤ ((gl x1134 (v1149 - (1 : Int)).toNat).number_))))] [(4, .box false [.d (.int .i64 (gl x1134 v1149.toNat).number_), .d (.int .i64 (gl x1134 v1149.toNat).kind_), .d (.int .i64 (gl x1134 v1149.toNat).from_), .d (.int .i64 (gl x1134 v1149.toNat).until_), .d (DL (α := Rect) (gl x1134 v1149.toNat).region_.rects_)])] ⟨ALe.bool hb1156, ⟨hg1157, True.intro⟩, hg1158, True.intro⟩ (by kernel_rfl) (by kernel_rfl) (by kernel_rfl) (by kernel_rfl) ?_
              exact Kn.re Fm [] [(0, AL (α := Feature) x1134), (9, AL (α := Feature) x1134), (10, vi ((List.length x1134 : Nat) : Int)), (11, vi v1149), (33, vb (decide (((gl x1134 v1149.toNat).number_) ≤ ((gl x1134 (v1149 - (1 : Int)).toNat).number_))))] [] (by kernel_rfl) (by kernel_rfl) (by kernel_rfl) (by kernel_rfl) (hJ1160 (decide (((gl x1134 v1149.toNat).number_) ≤ ((gl x1134 (v1149 - (1 : Int)).toNat).number_))) h)
            · have h := br_f h hb1156
              refine AW.regc Fm [.s, .s, .w (vb false), .s, .s, .s, .s, .s, .s, .s, .s, .s, .s] [] (fun K => (ALe (vb (decide ((0 : Int) < v1149))) (vb false)) ∧ True) [(0, AL (α := Feature) x1134), (9, AL (α := Feature) x1134), (10, vi ((List.length x1134 : Nat) : Int)), (11, vi v1149), (33, vb false)] [] ⟨ALe.bool hb1156, True.intro⟩ (by kernel_rfl) (by kernel_rfl) (by kernel_rfl) (by kernel_rfl) ?_
              exact Kn.re Fm [] [(0, AL (α := Feature) x1134), (9, AL (α := Feature) x1134), (10, vi ((List.length x1134 : Nat) : Int)), (11, vi v1149), (33, vb false)] [] (by kernel_rfl) (by kernel_rfl) (by kernel_rfl) (by kernel_rfl) (hJ1160 false h)
      · have h := br_f h hb1151
        refine AW.exit ?_
        exact Kn.re Fm [] [] [] (by kernel_rfl) (by kernel_rfl) (by kernel_rfl) (by kernel_rfl) (hJ1163 () h)
/- landaid/feature.right -/
theorem feature_right_spec {F : Nat} {x1164 : (List Feature)} {x1165 : Int} {r : Int} (h : feature_right F x1164 x1165 = some r) :
    FSpec Try.prog 24 [AL (α := Feature) x1164, vi x1165] [] (vi r) [] := by
  refine FSpec.intro prog_mixed prog_lay Try.func24 rfl (by kernel_rfl) fun C Fm => ?_
  unfold feature_right at h
  refine AW.seq ?_
  refine AW.regc Fm [.s] [] (fun K => True) [(0, AL (α := Feature) x1164), (1, vi x1165)] [] True.intro (by kernel_rfl) (by kernel_rfl) (by kernel_rfl) (by kernel_rfl) ?_
  refine AW.seq ?_
  refine AW.seq ?_
  obtain ⟨z1166, hz1167, h⟩ := bd_some h
  refine AW.regc Fm [.s, .k (cE [] [] (vi z1166) [] []), .s] [] (fun K => K 1 ∧ True) [(1, vi x1165), (5, vi z1166)] [] ⟨KAt.call (args := [AL (α := Feature) x1164]) (feature_Check_spec hz1167) Try.call9 [] rfl (by kernel_rfl) (by kernel_rfl) (by kernel_rfl) (by kernel_rfl), True.intro⟩ (by kernel_rfl) (by kernel_rfl) (by kernel_rfl) (by kernel_rfl) ?_
  refine AW.seq ?_
  refine AW.regc Fm [.s, .s] [] (fun K => True) [(1, vi x1165), (5, vi z1166), (9, vb (z1166 != (0 : Int)))] [] True.intro (by kernel_rfl) (by kernel_rfl) (by kernel_rfl) (by kernel_rfl) ?_
  refine AW.cond (b := (z1166 != (0 : Int))) (by kernel_rfl) (fun hb1168 => ?_) (fun hb1168 => ?_)
  · have h := br_t h hb1168
    refine AW.seq ?_
    refine AW.regc Fm [.s, .s] [] (fun K => True) [(4, vi z1166)] [] True.intro (by kernel_rfl) (by kernel_rfl) (by kernel_rfl) (by kernel_rfl) ?_
    refine AW.ret ?_
    obtain rfl := Option.some.inj h
    exact Kn.re Fm [] [(4, vi z1166)] [] (by kernel_rfl) (by kernel_rfl) (by kernel_rfl) (by kernel_rfl) (Kn.done Fm (by kernel_rfl) (by kernel_rfl))
  · have h := br_f h hb1168
    refine AW.skip ?_
    refine AW.seq ?_
    refine AW.join (r := r) (fun z : Bool => feature_right_k0 F z) (fun z => [(16, vb z)]) (fun z => []) (fun v1170 h => ?_) (fun J1171 hJ1171 => ?_)
    · have h : feature_right_k0 F v1170 = some r := h
      refine AW.cond (b := v1170) (by kernel_rfl) (fun hb1172 => ?_) (fun hb1172 => ?_)
      · have h := br_t h hb1172
        refine AW.seq ?_
        refine AW.regc Fm [.s] [] (fun K => True) [(4, vi (9 : Int))] [] True.intro (by kernel_rfl) (by kernel_rfl) (by kernel_rfl) (by kernel_rfl) ?_
        refine AW.ret ?_
        obtain rfl := Option.some.inj h
        exact Kn.re Fm [] [(4, vi (9 : Int))] [] (by kernel_rfl) (by kernel_rfl) (by kernel_rfl) (by kernel_rfl) (Kn.done Fm (by kernel_rfl) (by kernel_rfl))
      · have h := br_f h hb1172
        refine AW.skip ?_
        refine AW.seq ?_
        refine AW.regc Fm [.s] [] (fun K => True) [(4, vi (0 : Int))] [] True.intro (by kernel_rfl) (by kernel_rfl) (by kernel_rfl) (by kernel_rfl) ?_
        refine AW.ret ?_
        obtain rfl := Option.some.inj h
        exact Kn.re Fm [] [(4, vi (0 : Int))] [] (by kernel_rfl) (by kernel_rfl) (by kernel_rfl) (by kernel_rfl) (Kn.done Fm (by kernel_rfl) (by kernel_rfl))
    · rcases Bool.eq_false_or_eq_true (decide (x1165 < (0 : Int))) with hb1169 | hb1169
      · have h := br_t h hb1169
        refine AW.regc Fm [.s, .s, .w (vb true), .s, .s, .s] [] (fun K => (ALe (vb (decide (x1165 < (0 : Int)))) (vb true)) ∧ True) [(16, vb true)] [] ⟨ALe.bool hb1169, True.intro⟩ (by kernel_rfl) (by kernel_rfl) (by kernel_rfl) (by kernel_rfl) ?_
        exact Kn.re Fm [] [(16, vb true)] [] (by kernel_rfl) (by kernel_rfl) (by kernel_rfl) (by kernel_rfl) (hJ1171 true h)
      · have h := br_f h hb1169
        refine AW.regc Fm [.s, .s, .w (vb false), .s, .s, .s] [] (fun K => (ALe (vb (decide (x1165 < (0 : Int)))) (vb false)) ∧ True) [(16, vb (decide ((36864 : Int) < x1165)))] [] ⟨ALe.bool hb1169, True.intro⟩ (by kernel_rfl) (by kernel_rfl) (by kernel_rfl) (by kernel_rfl) ?_
        exact Kn.re Fm [] [(16, vb (decide ((36864 : Int) < x1165)))] [] (by kernel_rfl) (by kernel_rfl) (by kernel_rfl) (by kernel_rfl) (hJ1171 (decide ((36864 : Int) < x1165)) h)
/- slices.Clone[[]landaid/api.Rect,landaid/api.Rect] -/
theorem slices_Clone_Rect_spec {F : Nat} {x1173 : (List Rect)} {r : (List Rect)} (h : slices_Clone_Rect F x1173 = some r) :
    FSpec Try.prog 46 [AL (α := Rect) x1173] [] (AL (α := Rect) r) [] := by
  refine FSpec.intro prog_mixed prog_lay Try.func46 rfl (by kernel_rfl) fun C Fm => ?_
  unfold slices_Clone_Rect at h
  refine AW.seq ?_
  refine AW.regc Fm [.s] [] (fun K => True) [(0, AL (α := Rect) x1173)] [] True.intro (by kernel_rfl) (by kernel_rfl) (by kernel_rfl) (by kernel_rfl) ?_
  refine AW.seq ?_
  refine AW.seq ?_
  refine AW.regc Fm [.s, .k (sE (nb (List.length x1173)))] [] (fun K => K 1 ∧ True) [(0, AL (α := Rect) x1173), (4, .v (.c (.sem (nbP (List.length x1173)))))] [] ⟨KAt.nil (t := 28) (el := 51) (n := List.length x1173) (by kernel_rfl) rfl rfl (by kernel_rfl) (by kernel_rfl) (by kernel_rfl), True.intro⟩ (by kernel_rfl) (by kernel_rfl) (by kernel_rfl) (by kernel_rfl) ?_
  refine AW.condNil (n := List.length x1173) (by kernel_rfl) (fun hn1174 => ?_) ?_
  · have h := brN_t h hn1174
    refine AW.seq ?_
    refine AW.regc Fm [.s] [] (fun K => True) [(2, .v (.c (.fl 0 fun _ => [])))] [] True.intro (by kernel_rfl) (by kernel_rfl) (by kernel_rfl) (by kernel_rfl) ?_
    refine AW.ret ?_
    obtain rfl := Option.some.inj h
    refine Kn.re Fm [] [(2, .v (.c (.fl 0 fun _ => [])))] [] (by kernel_rfl) (by kernel_rfl) (by kernel_rfl) (by kernel_rfl) ?_
    refine Kn.wk [(2, AL (α := Rect) [])] [] ⟨rfl, ALe.c (CLe.fl .nil), True.intro⟩ True.intro ?_
    exact Kn.re Fm [] [(2, AL (α := Rect) [])] [] (by kernel_rfl) (by kernel_rfl) (by kernel_rfl) (by kernel_rfl) (Kn.done Fm (by kernel_rfl) (by kernel_rfl))
  · have h := brN_f h
    refine AW.skip ?_
    refine AW.seq ?_
    obtain ⟨hg1175, h⟩ := gd_some h
    refine AW.regc Fm [.m, .s, .s, .s] [] (fun K => ((0) + (List.length (α := Rect) x1173) ≤ LIM ∧ (∀ j, j < List.length (α := Rect) x1173 → ((LF (α := Rect) x1173) j).length = 4) ∧ (True)) ∧ True) [(2, .v (.c (.own 7)))] [(7, .arr 4 ((0) + (List.length (α := Rect) x1173)) (appF (0) (litF 4 []) (LF (α := Rect) x1173)))] ⟨⟨hg1175, (Is.refl x1173 : Is (List.length (α := Rect) x1173) (LF (α := Rect) x1173) x1173).len, True.intro⟩, True.intro⟩ (by kernel_rfl) (by kernel_rfl) (by kernel_rfl) (by kernel_rfl) ?_
    refine Kn.wk [(2, .v (.c (.own 7)))] [(7, AO (α := Rect) (([] : List Rect) ++ x1173))] (FE.refl _) (⟨rfl, OLe.is (Is.app (Is.lit ([] : List Rect) (by kernel_rfl)) (Is.refl x1173)), True.intro⟩) ?_
    refine AW.ret ?_
    obtain rfl := Option.some.inj h
    refine Kn.re Fm [] [(2, .v (.c (.own 7)))] [(7, AO (α := Rect) (([] : List Rect) ++ x1173))] (by kernel_rfl) (by kernel_rfl) (by kernel_rfl) (by kernel_rfl) ?_
    refine Kn.frz [(2, AL (α := Rect) (([] : List Rect) ++ x1173))] [] (by kernel_rfl) (by kernel_rfl) (by kernel_rfl) ?_
    exact Kn.re Fm [] [(2, AL (α := Rect) (([] : List Rect) ++ x1173))] [] (by kernel_rfl) (by kernel_rfl) (by kernel_rfl) (by kernel_rfl) (Kn.done Fm (by kernel_rfl) (by kernel_rfl))
/- landaid/feature.copied -/
theorem feature_copied_spec {F : Nat} {x1176 : Feature} {r : Feature} (h : feature_copied F x1176 = some r) :
    FSpec Try.prog 35 [.v (.g [.d (.int .i64 x1176.number_), .d (.int .i64 x1176.kind_), .d (.int .i64 x1176.from_), .d (.int .i64 x1176.until_), .d (DL (α := Rect) x1176.region_.rects_)])] [] (.v (.g [.d (.int .i64 r.number_), .d (.int .i64 r.kind_), .d (.int .i64 r.from_), .d (.int .i64 r.until_), .d (DL (α := Rect) r.region_.rects_)])) [] := by
  refine FSpec.intro prog_mixed prog_lay Try.func35 rfl (by kernel_rfl) fun C Fm => ?_
  unfold feature_copied at h
  refine AW.seq ?_
  refine AW.regc Fm [.s, .s] [] (fun K => True) [(1, .v (.c (.ptr 1 0))), (2, .v (.c (.ptr 2 0)))] [(1, .box false [.d (.int .i64 x1176.number_), .d (.int .i64 x1176.kind_), .d (.int .i64 x1176.from_), .d (.int .i64 x1176.until_), .d (DL (α := Rect) x1176.region_.rects_)]), (2, .box false [.d (.int .i64 0), .d (.int .i64 0), .d (.int .i64 0), .d (.int .i64 0), .fl 0 fun _ => []])] True.intro (by kernel_rfl) (by kernel_rfl) (by kernel_rfl) (by kernel_rfl) ?_
  refine AW.seq ?_
  obtain ⟨z1177, hz1178, h⟩ := bd_some h
  refine AW.regc Fm [.s, .s, .s, .k (cE [] [] (AL (α := Rect) z1177) [] []), .s, .s, .s] [] (fun K => K 3 ∧ True) [(1, .v (.c (.ptr 1 0))), (2, .v (.c (.ptr 2 0)))] [(1, .box false [.d (.int .i64 x1176.number_), .d (.int .i64 x1176.kind_), .d (.int .i64 x1176.from_), .d (.int .i64 x1176.until_), .d (DL (α := Rect) z1177)]), (2, .box false [.d (.int .i64 0), .d (.int .i64 0), .d (.int .i64 0), .d (.int .i64 0), .fl 0 fun _ => []])] ⟨KAt.call (args := [AL (α := Rect) x1176.region_.rects_]) (slices_Clone_Rect_spec hz1178) Try.call46 [] rfl (by kernel_rfl) (by kernel_rfl) (by kernel_rfl) (by kernel_rfl), True.intro⟩ (by kernel_rfl) (by kernel_rfl) (by kernel_rfl) (by kernel_rfl) ?_
  refine AW.seq ?_
  refine AW.regc Fm [.s, .s] [] (fun K => True) [(2, .v (.c (.ptr 2 0)))] [(2, .box false [.d (.int .i64 x1176.number_), .d (.int .i64 x1176.kind_), .d (.int .i64 x1176.from_), .d (.int .i64 x1176.until_), .d (DL (α := Rect) z1177)])] True.intro (by kernel_rfl) (by kernel_rfl) (by kernel_rfl) (by kernel_rfl) ?_
  refine AW.ret ?_
  obtain rfl := Option.some.inj h
  exact Kn.re Fm [] [(2, .v (.c (.ptr 2 0)))] [(2, .box false [.d (.int .i64 x1176.number_), .d (.int .i64 x1176.kind_), .d (.int .i64 x1176.from_), .d (.int .i64 x1176.until_), .d (DL (α := Rect) z1177)])] (by kernel_rfl) (by kernel_rfl) (by kernel_rfl) (by kernel_rfl) (Kn.done Fm (by kernel_rfl) (by kernel_rfl))
/- landaid/feature.all -/
end Go.Ab
end
