/- The code follows the plain programs, part two: whenever the plain program has a result. -/
import Derived.Test.YthifkkpkmdpoiaaGreatSpecA
import Derived.Test.YthifkkpkmdpoiaaGreatBase
set_option linter.unusedVariables false
set_option linter.unusedSimpArgs false
section
/- The code follows the pure programs: written by a program. -/
namespace Go.Ab
open Go.Proofs
set_option linter.unusedVariables false
set_option maxRecDepth 100000
/- landaid/landaidkeep.New -/
theorem region_Build_spec {F : Nat} {x1021 : (List Int)} {x1022 : Int → Option (List Span)} {r : (List Rect)} (h : region_Build F x1021 x1022 = some r) :
    FSpec Tryz.prog 137 [AL x1021, .v (.c (.sem (CloOK Tryz.prog (FR_Int_ListSpan x1022))))] [] (AL (α := Rect) r) [] := by
  refine FSpec.intro prog_mixed prog_lay Tryz.func137 rfl (by kernel_rfl) fun C Fm => ?_
  unfold region_Build at h
  refine AW.sg0 Fm 1 [(0, AL x1021), (1, .v (.c (.sem (CloOK Tryz.prog (FR_Int_ListSpan x1022)))))] [] (by kernel_rfl) ?_
  refine AW.sg Fm [.m] (fun K => True) [(0, AL x1021), (1, .v (.c (.sem (CloOK Tryz.prog (FR_Int_ListSpan x1022))))), (5, .v (.c (.own 5)))] [(5, .arr 3 (0) (fun _ => []))] True.intro (by kernel_rfl) ?_
  refine Kn.wk [(0, AL x1021), (1, .v (.c (.sem (CloOK Tryz.prog (FR_Int_ListSpan x1022))))), (5, .v (.c (.own 5)))] [(5, AO (α := Band) ([] : List Band))] (FE.refl _) (⟨rfl, OLe.is ((Is.nil (α := Band))), True.intro⟩) ?_
  refine AW.join (r := r) (fun z : (List Band) => region_Build_k3 F z) (fun z => [(5, .v (.c (.own 5)))]) (fun z => [(5, AO z)]) (fun v1077 h => ?_) (fun J1078 hJ1078 => ?_)
  · have h : region_Build_k3 F v1077 = some r := h
    refine AW.seq ?_
    refine Kn.r Fm [(5, .v (.c (.own 5)))] [(5, AO v1077)] (by kernel_rfl) ?_
    refine Kn.frz [(5, AL v1077)] [] (by kernel_rfl) (by kernel_rfl) (by kernel_rfl) ?_
    obtain ⟨z1079, hz1080, h⟩ := bd_some h
    refine AW.g Fm [.s, .k (cE [] [] (AL z1079) [] []), .s] (fun K => K 1 ∧ True) [(4, AL z1079)] [] ⟨KAt.cl (args := [AL v1077]) (region_rects_spec hz1080) Tryz.call170 [] rfl (by kernel_rfl), True.intro⟩ (by kernel_rfl) ?_
    refine AW.ret ?_
    obtain rfl := Option.some.inj h
    exact Kn.r Fm [(4, AL z1079)] [] (by kernel_rfl) (Kn.dn Fm (by kernel_rfl))
  · refine AW.sg0 Fm 1 [(0, AL x1021), (1, .v (.c (.sem (CloOK Tryz.prog (FR_Int_ListSpan x1022))))), (5, .v (.c (.own 5))), (6, vi (1 : Int))] [(5, AO (α := Band) ([] : List Band))] (by kernel_rfl) ?_
    refine AW.block ?_
    refine Kn.r Fm [(0, AL x1021), (1, .v (.c (.sem (CloOK Tryz.prog (FR_Int_ListSpan x1022))))), (5, .v (.c (.own 5))), (6, vi (1 : Int))] [(5, AO ([] : List Band))] (by kernel_rfl) ?_
    have h : loopN (fun again (z : Int × (List Band)) => region_Build_b0 F x1021 x1022 again z.1 z.2) F ((1 : Int), ([] : List Band)) = some r := h
    refine AW.loopF (E' := fun z => [(0, AL x1021), (1, .v (.c (.sem (CloOK Tryz.prog (FR_Int_ListSpan x1022))))), (5, .v (.c (.own 5))), (6, vi z.1)]) (S' := fun z => [(5, AO z.2)]) (fun ag_region_Build_b0 z J1051 hJ1051 h => ?_) h
    obtain ⟨v1049, v1050⟩ := z
    have h : region_Build_b0 F x1021 x1022 ag_region_Build_b0 v1049 v1050 = some r := h
    refine AW.seq ?_
    refine AW.sg0 Fm 4 [(0, AL x1021), (1, .v (.c (.sem (CloOK Tryz.prog (FR_Int_ListSpan x1022))))), (5, .v (.c (.own 5))), (6, vi v1049), (12, vb (decide (v1049 < ((List.length x1021 : Nat) : Int))))] [(5, AO v1050)] (by kernel_rfl) ?_
    refine AW.cond (b := (decide (v1049 < ((List.length x1021 : Nat) : Int)))) (by kernel_rfl) (fun hb1052 => ?_) (fun hb1052 => ?_)
    · have h := br_t h hb1052
      refine AW.skip ?_
      refine AW.join (r := r) (fun z : (List Band) => region_Build_k2 F v1049 ag_region_Build_b0 z) (fun z => [(0, AL x1021), (1, .v (.c (.sem (CloOK Tryz.prog (FR_Int_ListSpan x1022))))), (5, .v (.c (.own 5))), (6, vi v1049)]) (fun z => [(5, AO z)]) (fun v1074 h => ?_) (fun J1075 hJ1075 => ?_)
      · have h : region_Build_k2 F v1049 ag_region_Build_b0 v1074 = some r := h
        obtain ⟨hg1076, h⟩ := gd_some h
        refine AW.g Fm [.s, .s, .s] (fun K => (I64 (v1049 + (1 : Int)) ∧ True) ∧ True) [(0, AL x1021), (1, .v (.c (.sem (CloOK Tryz.prog (FR_Int_ListSpan x1022))))), (5, .v (.c (.own 5))), (6, vi (v1049 + (1 : Int)))] [(5, AO v1074)] ⟨⟨hg1076, True.intro⟩, True.intro⟩ (by kernel_rfl) ?_
        exact Kn.r Fm [(0, AL x1021), (1, .v (.c (.sem (CloOK Tryz.prog (FR_Int_ListSpan x1022))))), (5, .v (.c (.own 5))), (6, vi (v1049 + (1 : Int)))] [(5, AO v1074)] (by kernel_rfl) (hJ1051 ((v1049 + (1 : Int)), v1074) h)
      · refine AW.block ?_
        refine AW.seq ?_
        obtain ⟨hg1053, h⟩ := gd_some h
        obtain ⟨hg1054, h⟩ := gd_some h
        obtain ⟨hg1055, h⟩ := gd_some h
        obtain ⟨hg1056, h⟩ := gd_some h
        obtain ⟨hg1057, h⟩ := gd_some h
        obtain ⟨z1058, hz1059, h⟩ := bd_some h
        refine AW.g Fm [.s, .s, .s, .s, .s, .s, .s, .s, .s, .s, .s, .s, .s, .s, .s, .k (sE (AL z1058)), .s, .s, .s] (fun K => (I64 (v1049 - (1 : Int)) ∧ True) ∧ (0 ≤ (v1049 - (1 : Int)) ∧ (v1049 - (1 : Int)) < ((List.length x1021 : Nat) : Int)) ∧ (0 ≤ v1049 ∧ v1049 < ((List.length x1021 : Nat) : Int)) ∧ (I64 (v1049 - (1 : Int)) ∧ True) ∧ (0 ≤ (v1049 - (1 : Int)) ∧ (v1049 - (1 : Int)) < ((List.length x1021 : Nat) : Int)) ∧ K 15 ∧ True) [(0, AL x1021), (1, .v (.c (.sem (CloOK Tryz.prog (FR_Int_ListSpan x1022))))), (5, .v (.c (.own 5))), (6, vi v1049), (7, .v (.c (.ptr 7 0)))] [(5, AO v1050), (7, .box false [ci (gl x1021 (v1049 - (1 : Int)).toNat), ci (gl x1021 v1049.toNat), .d (DL z1058)])] ⟨⟨hg1053, True.intro⟩, hg1054, hg1055, ⟨hg1056, True.intro⟩, hg1057, KAt.sem (F := (FR_Int_ListSpan x1022)) (args := [vi (gl x1021 (v1049 - (1 : Int)).toNat)]) ⟨(gl x1021 (v1049 - (1 : Int)).toNat), z1058, hz1059, rfl, rfl⟩ rfl (by kernel_rfl) (by kernel_rfl) (by kernel_rfl), True.intro⟩ (by kernel_rfl) ?_
        refine AW.sg0 Fm 3 [(0, AL x1021), (1, .v (.c (.sem (CloOK Tryz.prog (FR_Int_ListSpan x1022))))), (5, .v (.c (.own 5))), (6, vi v1049), (7, .v (.c (.ptr 7 0))), (8, vi ((List.length v1050 : Nat) : Int))] [(5, AO v1050), (7, .box false [ci (gl x1021 (v1049 - (1 : Int)).toNat), ci (gl x1021 v1049.toNat), .d (DL z1058)])] (by kernel_rfl) ?_
        refine AW.join (r := r) (fun z : Bool => region_Build_k1 F x1021 v1049 v1050 z1058 ag_region_Build_b0 z) (fun z => [(0, AL x1021), (1, .v (.c (.sem (CloOK Tryz.prog (FR_Int_ListSpan x1022))))), (5, .v (.c (.own 5))), (6, vi v1049), (7, .v (.c (.ptr 7 0))), (8, vi ((List.length v1050 : Nat) : Int)), (57, vb z)]) (fun z => [(5, AO v1050), (7, .box false [ci (gl x1021 (v1049 - (1 : Int)).toNat), ci (gl x1021 v1049.toNat), .d (DL z1058)])]) (fun v1068 h => ?_) (fun J1069 hJ1069 => ?_)
        · have h : region_Build_k1 F x1021 v1049 v1050 z1058 ag_region_Build_b0 v1068 = some r := h
          refine AW.cond (b := v1068) (by kernel_rfl) (fun hb1070 => ?_) (fun hb1070 => ?_)
          · have h := br_t h hb1070
            obtain ⟨hg1071, h⟩ := gd_some h
            obtain ⟨hg1072, h⟩ := gd_some h
            refine AW.g Fm [.s, .s, .s, .s, .s, .s, .s, .s] (fun K => (I64 (((List.length v1050 : Nat) : Int) - (1 : Int)) ∧ True) ∧ (0 ≤ (((List.length v1050 : Nat) : Int) - (1 : Int)) ∧ (((List.length v1050 : Nat) : Int) - (1 : Int)) < ((List.length v1050 : Nat) : Int)) ∧ ((((List.length v1050 : Nat) : Int) - (1 : Int)).toNat < List.length v1050) ∧ True) [(0, AL x1021), (1, .v (.c (.sem (CloOK Tryz.prog (FR_Int_ListSpan x1022))))), (5, .v (.c (.own 5))), (6, vi v1049)] [(5, .arr 3 (List.length (α := Band) v1050) (fun j => if j = (((List.length v1050 : Nat) : Int) - (1 : Int)).toNat then splice ((LF (α := Band) v1050) (((List.length v1050 : Nat) : Int) - (1 : Int)).toNat) 1 [.int .i64 (gl x1021 v1049.toNat)] else (LF (α := Band) v1050) j))] ⟨⟨hg1071, True.intro⟩, hg1072, (toNat_lt hg1072), True.intro⟩ (by kernel_rfl) ?_
            refine Kn.wk [(0, AL x1021), (1, .v (.c (.sem (CloOK Tryz.prog (FR_Int_ListSpan x1022))))), (5, .v (.c (.own 5))), (6, vi v1049)] [(5, AO (α := Band) (List.set v1050 (((List.length v1050 : Nat) : Int) - (1 : Int)).toNat (⟨(gl v1050 (((List.length v1050 : Nat) : Int) - (1 : Int)).toNat).low_, (gl x1021 v1049.toNat), (gl v1050 (((List.length v1050 : Nat) : Int) - (1 : Int)).toNat).spans_⟩ : Band)))] (FE.refl _) (⟨rfl, OLe.is (Is.set (Is.refl v1050) (toNat_lt hg1072) (⟨(gl v1050 (((List.length v1050 : Nat) : Int) - (1 : Int)).toNat).low_, (gl x1021 v1049.toNat), (gl v1050 (((List.length v1050 : Nat) : Int) - (1 : Int)).toNat).spans_⟩ : Band) (by kernel_rfl)), True.intro⟩) ?_
            exact Kn.r Fm [(0, AL x1021), (1, .v (.c (.sem (CloOK Tryz.prog (FR_Int_ListSpan x1022))))), (5, .v (.c (.own 5))), (6, vi v1049)] [(5, AO (List.set v1050 (((List.length v1050 : Nat) : Int) - (1 : Int)).toNat (⟨(gl v1050 (((List.length v1050 : Nat) : Int) - (1 : Int)).toNat).low_, (gl x1021 v1049.toNat), (gl v1050 (((List.length v1050 : Nat) : Int) - (1 : Int)).toNat).spans_⟩ : Band)))] (by kernel_rfl) (hJ1075 (List.set v1050 (((List.length v1050 : Nat) : Int) - (1 : Int)).toNat (⟨(gl v1050 (((List.length v1050 : Nat) : Int) - (1 : Int)).toNat).low_, (gl x1021 v1049.toNat), (gl v1050 (((List.length v1050 : Nat) : Int) - (1 : Int)).toNat).spans_⟩ : Band)) h)
          · have h := br_f h hb1070
            obtain ⟨hg1073, h⟩ := gd_some h
            refine AW.g Fm [.s, .s, .w (AL (α := Band) ([(⟨(gl x1021 (v1049 - (1 : Int)).toNat), (gl x1021 v1049.toNat), z1058⟩ : Band)] : List Band)), .s, .s] (fun K => (ALe (.v (.c (.d (.lst 1 (litF 3 [.int .i64 (gl x1021 (v1049 - (1 : Int)).toNat), .int .i64 (gl x1021 v1049.toNat), DL z1058]))))) (AL (α := Band) ([(⟨(gl x1021 (v1049 - (1 : Int)).toNat), (gl x1021 v1049.toNat), z1058⟩ : Band)] : List Band))) ∧ ((List.length (α := Band) v1050) + (List.length (α := Band) ([(⟨(gl x1021 (v1049 - (1 : Int)).toNat), (gl x1021 v1049.toNat), z1058⟩ : Band)] : List Band)) ≤ LIM ∧ (∀ j, j < List.length (α := Band) ([(⟨(gl x1021 (v1049 - (1 : Int)).toNat), (gl x1021 v1049.toNat), z1058⟩ : Band)] : List Band) → ((LF (α := Band) ([(⟨(gl x1021 (v1049 - (1 : Int)).toNat), (gl x1021 v1049.toNat), z1058⟩ : Band)] : List Band)) j).length = 3) ∧ (True)) ∧ True) [(0, AL x1021), (1, .v (.c (.sem (CloOK Tryz.prog (FR_Int_ListSpan x1022))))), (5, .v (.c (.own 68))), (6, vi v1049)] [(68, .arr 3 ((List.length (α := Band) v1050) + (List.length (α := Band) ([(⟨(gl x1021 (v1049 - (1 : Int)).toNat), (gl x1021 v1049.toNat), z1058⟩ : Band)] : List Band))) (appF (List.length (α := Band) v1050) (LF (α := Band) v1050) (LF (α := Band) ([(⟨(gl x1021 (v1049 - (1 : Int)).toNat), (gl x1021 v1049.toNat), z1058⟩ : Band)] : List Band))))] ⟨ALe.lst (.lit ([(⟨(gl x1021 (v1049 - (1 : Int)).toNat), (gl x1021 v1049.toNat), z1058⟩ : Band)] : List Band) (by kernel_rfl)), ⟨hg1073, (Is.refl ([(⟨(gl x1021 (v1049 - (1 : Int)).toNat), (gl x1021 v1049.toNat), z1058⟩ : Band)] : List Band) : Is (List.length (α := Band) ([(⟨(gl x1021 (v1049 - (1 : Int)).toNat), (gl x1021 v1049.toNat), z1058⟩ : Band)] : List Band)) (LF (α := Band) ([(⟨(gl x1021 (v1049 - (1 : Int)).toNat), (gl x1021 v1049.toNat), z1058⟩ : Band)] : List Band)) ([(⟨(gl x1021 (v1049 - (1 : Int)).toNat), (gl x1021 v1049.toNat), z1058⟩ : Band)] : List Band)).len, True.intro⟩, True.intro⟩ (by kernel_rfl) ?_
            refine Kn.wk [(0, AL x1021), (1, .v (.c (.sem (CloOK Tryz.prog (FR_Int_ListSpan x1022))))), (5, .v (.c (.own 68))), (6, vi v1049)] [(68, AO (α := Band) (v1050 ++ ([(⟨(gl x1021 (v1049 - (1 : Int)).toNat), (gl x1021 v1049.toNat), z1058⟩ : Band)] : List Band)))] (FE.refl _) (⟨rfl, OLe.is (Is.app (Is.refl v1050) (Is.refl ([(⟨(gl x1021 (v1049 - (1 : Int)).toNat), (gl x1021 v1049.toNat), z1058⟩ : Band)] : List Band))), True.intro⟩) ?_
            exact Kn.re Fm [(5, 68)] [(0, AL x1021), (1, .v (.c (.sem (CloOK Tryz.prog (FR_Int_ListSpan x1022))))), (5, .v (.c (.own 5))), (6, vi v1049)] [(5, AO (v1050 ++ ([(⟨(gl x1021 (v1049 - (1 : Int)).toNat), (gl x1021 v1049.toNat), z1058⟩ : Band)] : List Band)))] (by kernel_rfl) (by kernel_rfl) (by kernel_rfl) (by kernel_rfl) (hJ1075 (v1050 ++ ([(⟨(gl x1021 (v1049 - (1 : Int)).toNat), (gl x1021 v1049.toNat), z1058⟩ : Band)] : List Band)) h)
        · rcases Bool.eq_false_or_eq_true (decide ((0 : Int) < ((List.length v1050 : Nat) : Int))) with hb1060 | hb1060
          · have h := br_t h hb1060
            obtain ⟨hg1061, h⟩ := gd_some h
            obtain ⟨hg1062, h⟩ := gd_some h
            rcases Bool.eq_false_or_eq_true (((gl v1050 (((List.length v1050 : Nat) : Int) - (1 : Int)).toNat).high_) == (gl x1021 (v1049 - (1 : Int)).toNat)) with hb1063 | hb1063
            · have h := br_t h hb1063
              obtain ⟨hg1064, h⟩ := gd_some h
              obtain ⟨hg1065, h⟩ := gd_some h
              obtain ⟨z1066, hz1067, h⟩ := bd_some h
              refine AW.g Fm [.s, .s, .w (vb true), .s, .s, .s, .s, .s, .s, .s, .s, .s, .s, .w (vb true), .s, .s, .s, .s, .s, .s, .s, .s, .k (cE [] [] (vb z1066) [] []), .s] (fun K => (ALe (vb (decide ((0 : Int) < ((List.length v1050 : Nat) : Int)))) (vb true)) ∧ (I64 (((List.length v1050 : Nat) : Int) - (1 : Int)) ∧ True) ∧ (0 ≤ (((List.length v1050 : Nat) : Int) - (1 : Int)) ∧ (((List.length v1050 : Nat) : Int) - (1 : Int)) < ((List.length v1050 : Nat) : Int)) ∧ ((((List.length v1050 : Nat) : Int) - (1 : Int)).toNat < List.length v1050) ∧ (ALe (vb (((gl v1050 (((List.length v1050 : Nat) : Int) - (1 : Int)).toNat).high_) == (gl x1021 (v1049 - (1 : Int)).toNat))) (vb true)) ∧ (I64 (((List.length v1050 : Nat) : Int) - (1 : Int)) ∧ True) ∧ (0 ≤ (((List.length v1050 : Nat) : Int) - (1 : Int)) ∧ (((List.length v1050 : Nat) : Int) - (1 : Int)) < ((List.length v1050 : Nat) : Int)) ∧ ((((List.length v1050 : Nat) : Int) - (1 : Int)).toNat < List.length v1050) ∧ K 22 ∧ True) [(0, AL x1021), (1, .v (.c (.sem (CloOK Tryz.prog (FR_Int_ListSpan x1022))))), (5, .v (.c (.own 5))), (6, vi v1049), (7, .v (.c (.ptr 7 0))), (8, vi ((List.length v1050 : Nat) : Int)), (37, .v (.c (.own 5))), (38, vi ((List.length v1050 : Nat) : Int)), (39, vi (((List.length v1050 : Nat) : Int) - (1 : Int))), (40, .v (.c (.pte 5 3 ((((List.length v1050 : Nat) : Int) - (1 : Int)).toNat) 0))), (41, .v (.c (.pte 5 3 ((((List.length v1050 : Nat) : Int) - (1 : Int)).toNat) 1))), (42, vi (gl v1050 (((List.length v1050 : Nat) : Int) - (1 : Int)).toNat).high_), (43, .v (.c (.ptr 7 0))), (44, vi (gl x1021 (v1049 - (1 : Int)).toNat)), (45, vb (((gl v1050 (((List.length v1050 : Nat) : Int) - (1 : Int)).toNat).high_) == (gl x1021 (v1049 - (1 : Int)).toNat))), (48, .v (.c (.own 5))), (49, vi ((List.length v1050 : Nat) : Int)), (50, vi (((List.length v1050 : Nat) : Int) - (1 : Int))), (51, .v (.c (.pte 5 3 ((((List.length v1050 : Nat) : Int) - (1 : Int)).toNat) 0))), (52, .v (.c (.pte 5 3 ((((List.length v1050 : Nat) : Int) - (1 : Int)).toNat) 2))), (53, AL (α := Span) (gl v1050 (((List.length v1050 : Nat) : Int) - (1 : Int)).toNat).spans_), (54, .v (.c (.ptr 7 2))), (55, AL z1058), (56, vb z1066), (57, vb z1066)] [(5, AO v1050), (7, .box false [ci (gl x1021 (v1049 - (1 : Int)).toNat), ci (gl x1021 v1049.toNat), .d (DL z1058)])] ⟨ALe.bool hb1060, ⟨hg1061, True.intro⟩, hg1062, (toNat_lt hg1062), ALe.bool hb1063, ⟨hg1064, True.intro⟩, hg1065, (toNat_lt hg1065), KAt.cl (args := [AL (α := Span) (gl v1050 (((List.length v1050 : Nat) : Int) - (1 : Int)).toNat).spans_, AL z1058]) (slices_Equal_Span_spec hz1067) Tryz.call169 [] rfl (by kernel_rfl), True.intro⟩ (by kernel_rfl) ?_
              exact Kn.r Fm [(0, AL x1021), (1, .v (.c (.sem (CloOK Tryz.prog (FR_Int_ListSpan x1022))))), (5, .v (.c (.own 5))), (6, vi v1049), (7, .v (.c (.ptr 7 0))), (8, vi ((List.length v1050 : Nat) : Int)), (57, vb z1066)] [(5, AO v1050), (7, .box false [ci (gl x1021 (v1049 - (1 : Int)).toNat), ci (gl x1021 v1049.toNat), .d (DL z1058)])] (by kernel_rfl) (hJ1069 z1066 h)
            · have h := br_f h hb1063
              refine AW.g Fm [.s, .s, .w (vb true), .s, .s, .s, .s, .s, .s, .s, .s, .s, .s, .w (vb false), .s, .s, .s, .s, .s, .s, .s, .s, .s, .s] (fun K => (ALe (vb (decide ((0 : Int) < ((List.length v1050 : Nat) : Int)))) (vb true)) ∧ (I64 (((List.length v1050 : Nat) : Int) - (1 : Int)) ∧ True) ∧ (0 ≤ (((List.length v1050 : Nat) : Int) - (1 : Int)) ∧ (((List.length v1050 : Nat) : Int) - (1 : Int)) < ((List.length v1050 : Nat) : Int)) ∧ ((((List.length v1050 : Nat) : Int) - (1 : Int)).toNat < List.length v1050) ∧ (ALe (vb (((gl v1050 (((List.length v1050 : Nat) : Int) - (1 : Int)).toNat).high_) == (gl x1021 (v1049 - (1 : Int)).toNat))) (vb false)) ∧ True) [(0, AL x1021), (1, .v (.c (.sem (CloOK Tryz.prog (FR_Int_ListSpan x1022))))), (5, .v (.c (.own 5))), (6, vi v1049), (7, .v (.c (.ptr 7 0))), (8, vi ((List.length v1050 : Nat) : Int)), (37, .v (.c (.own 5))), (38, vi ((List.length v1050 : Nat) : Int)), (39, vi (((List.length v1050 : Nat) : Int) - (1 : Int))), (40, .v (.c (.pte 5 3 ((((List.length v1050 : Nat) : Int) - (1 : Int)).toNat) 0))), (41, .v (.c (.pte 5 3 ((((List.length v1050 : Nat) : Int) - (1 : Int)).toNat) 1))), (42, vi (gl v1050 (((List.length v1050 : Nat) : Int) - (1 : Int)).toNat).high_), (43, .v (.c (.ptr 7 0))), (44, vi (gl x1021 (v1049 - (1 : Int)).toNat)), (45, vb (((gl v1050 (((List.length v1050 : Nat) : Int) - (1 : Int)).toNat).high_) == (gl x1021 (v1049 - (1 : Int)).toNat))), (57, vb false)] [(5, AO v1050), (7, .box false [ci (gl x1021 (v1049 - (1 : Int)).toNat), ci (gl x1021 v1049.toNat), .d (DL z1058)])] ⟨ALe.bool hb1060, ⟨hg1061, True.intro⟩, hg1062, (toNat_lt hg1062), ALe.bool hb1063, True.intro⟩ (by kernel_rfl) ?_
              exact Kn.r Fm [(0, AL x1021), (1, .v (.c (.sem (CloOK Tryz.prog (FR_Int_ListSpan x1022))))), (5, .v (.c (.own 5))), (6, vi v1049), (7, .v (.c (.ptr 7 0))), (8, vi ((List.length v1050 : Nat) : Int)), (57, vb false)] [(5, AO v1050), (7, .box false [ci (gl x1021 (v1049 - (1 : Int)).toNat), ci (gl x1021 v1049.toNat), .d (DL z1058)])] (by kernel_rfl) (hJ1069 false h)
          · have h := br_f h hb1060
            refine AW.g Fm [.s, .s, .w (vb false), .s, .s, .s, .s, .s, .s, .s, .s, .s, .s, .s, .s, .s, .s, .s, .s, .s, .s, .s, .s, .s] (fun K => (ALe (vb (decide ((0 : Int) < ((List.length v1050 : Nat) : Int)))) (vb false)) ∧ True) [(0, AL x1021), (1, .v (.c (.sem (CloOK Tryz.prog (FR_Int_ListSpan x1022))))), (5, .v (.c (.own 5))), (6, vi v1049), (7, .v (.c (.ptr 7 0))), (8, vi ((List.length v1050 : Nat) : Int)), (57, vb false)] [(5, AO v1050), (7, .box false [ci (gl x1021 (v1049 - (1 : Int)).toNat), ci (gl x1021 v1049.toNat), .d (DL z1058)])] ⟨ALe.bool hb1060, True.intro⟩ (by kernel_rfl) ?_
            exact Kn.r Fm [(0, AL x1021), (1, .v (.c (.sem (CloOK Tryz.prog (FR_Int_ListSpan x1022))))), (5, .v (.c (.own 5))), (6, vi v1049), (7, .v (.c (.ptr 7 0))), (8, vi ((List.length v1050 : Nat) : Int)), (57, vb false)] [(5, AO v1050), (7, .box false [ci (gl x1021 (v1049 - (1 : Int)).toNat), ci (gl x1021 v1049.toNat), .d (DL z1058)])] (by kernel_rfl) (hJ1069 false h)
    · have h := br_f h hb1052
      refine AW.exit ?_
      exact Kn.r Fm [(5, .v (.c (.own 5)))] [(5, AO v1050)] (by kernel_rfl) (hJ1078 v1050 h)
/- landaid/region.canonical -/
theorem region_canonical_spec {F : Nat} {x1081 : (List Rect)} {r : (List Rect)} (h : region_canonical F x1081 = some r) :
    FSpec Tryz.prog 112 [AL x1081] [] (AL (α := Rect) r) [] := by
  refine FSpec.intro prog_mixed prog_lay Tryz.func112 rfl (by kernel_rfl) fun C Fm => ?_
  unfold region_canonical at h
  refine AW.sg0 Fm 2 [(1, .v (.c (.ptr 1 0)))] [(1, .box false [.d (DL x1081)])] (by kernel_rfl) ?_
  refine AW.seq ?_
  obtain ⟨z1082, hz1083, h⟩ := bd_some h
  obtain ⟨z1084, hz1085, h⟩ := bd_some h
  refine AW.g Fm [.s, .w (AL (α := (List Rect)) ([x1081] : List (List Rect))), .k (cE [] [] (AL z1082) [] []), .s, .k (cE [] [1] (AL z1084) [] []), .s] (fun K => (ALe (.v (.c (.d (.lst 1 (litF 1 [DL x1081]))))) (AL (α := (List Rect)) ([x1081] : List (List Rect)))) ∧ K 2 ∧ K 4 ∧ True) [(2, AL z1084)] [] ⟨ALe.lst (.lit ([x1081] : List (List Rect)) (by kernel_rfl)), KAt.cl (args := [AL (α := (List Rect)) ([x1081] : List (List Rect))]) (region_Cuts_spec hz1083) Tryz.call138 [] rfl (by kernel_rfl), KAt.callX (args := [AL z1082, .v (.c (.sem (CloOK Tryz.prog (FR_Int_ListSpan (fun y0 => region_canonical_1 F y0 x1081)))))]) (region_Build_spec hz1085) Tryz.call137 [] [1] [.tmp 5, .tmp 6] rfl (by kernel_rfl) (by kernel_rfl) (by kernel_rfl) ⟨ArgT.plain (by kernel_rfl) (ALe.of_eq (by kernel_rfl)) (by kernel_rfl), ArgT.cloX Tryz.call156 [[.d (DL x1081)]] (fun args r hq => by obtain ⟨y0, y, hq, rfl, rfl⟩ := hq; exact Eq.mp (by kernel_rfl) (region_canonical_1_spec hq)) (fun args r hq => by obtain ⟨y0, y, hq, rfl, rfl⟩ := hq; rfl) (by kernel_rfl) [1] (by kernel_rfl) (by kernel_rfl) (⟨⟨false, (by kernel_rfl)⟩, True.intro⟩) (by kernel_rfl), True.intro⟩, True.intro⟩ (by kernel_rfl) ?_
  refine AW.ret ?_
  obtain rfl := Option.some.inj h
  exact Kn.r Fm [(2, AL z1084)] [] (by kernel_rfl) (Kn.dn Fm (by kernel_rfl))
/- slices.Equal[[]landaid/api.Rect,landaid/api.Rect] -/
theorem slices_Equal_Rect_spec {F : Nat} {x1086 : (List Rect)} {x1087 : (List Rect)} {r : Bool} (h : slices_Equal_Rect F x1086 x1087 = some r) :
    FSpec Tryz.prog 111 [AL x1086, AL x1087] [] (vb r) [] := by
  refine FSpec.intro prog_mixed prog_lay Tryz.func111 rfl (by kernel_rfl) fun C Fm => ?_
  unfold slices_Equal_Rect at h
  refine AW.sg0 Fm 1 [(0, AL x1086), (1, AL x1087)] [] (by kernel_rfl) ?_
  refine AW.seq ?_
  refine AW.sg0 Fm 5 [(0, AL x1086), (1, AL x1087), (10, vb (((List.length x1086 : Nat) : Int) != ((List.length x1087 : Nat) : Int)))] [] (by kernel_rfl) ?_
  refine AW.cond (b := (((List.length x1086 : Nat) : Int) != ((List.length x1087 : Nat) : Int))) (by kernel_rfl) (fun hb1088 => ?_) (fun hb1088 => ?_)
  · have h := br_t h hb1088
    refine AW.sg0 Fm 1 [(4, vb false)] [] (by kernel_rfl) ?_
    refine AW.ret ?_
    obtain rfl := Option.some.inj h
    exact Kn.r Fm [(4, vb false)] [] (by kernel_rfl) (Kn.dn Fm (by kernel_rfl))
  · have h := br_f h hb1088
    refine AW.skip ?_
    refine AW.join (r := r) (fun z : Unit => slices_Equal_Rect_k1 F) (fun z => []) (fun z => []) (fun z h => ?_) (fun J1102 hJ1102 => ?_)
    · have h : slices_Equal_Rect_k1 F = some r := h
      refine AW.sg0 Fm 1 [(4, vb true)] [] (by kernel_rfl) ?_
      refine AW.ret ?_
      obtain rfl := Option.some.inj h
      exact Kn.r Fm [(4, vb true)] [] (by kernel_rfl) (Kn.dn Fm (by kernel_rfl))
    · refine AW.sg0 Fm 3 [(0, AL x1086), (1, AL x1087), (12, vi ((List.length x1086 : Nat) : Int)), (13, vi (0 : Int))] [] (by kernel_rfl) ?_
      refine AW.block ?_
      refine Kn.r Fm [(0, AL x1086), (1, AL x1087), (12, vi ((List.length x1086 : Nat) : Int)), (13, vi (0 : Int))] [] (by kernel_rfl) ?_
      have h : loopN (fun again (z : Int) => slices_Equal_Rect_b0 F x1086 x1087 again z) F (0 : Int) = some r := h
      refine AW.loopF (E' := fun z => [(0, AL x1086), (1, AL x1087), (12, vi ((List.length x1086 : Nat) : Int)), (13, vi z)]) (S' := fun z => []) (fun ag_slices_Equal_Rect_b0 v1095 J1096 hJ1096 h => ?_) h
      have h : slices_Equal_Rect_b0 F x1086 x1087 ag_slices_Equal_Rect_b0 v1095 = some r := h
      refine AW.sg0 Fm 1 [(0, AL x1086), (1, AL x1087), (12, vi ((List.length x1086 : Nat) : Int)), (13, vi v1095), (14, vb (decide (v1095 < ((List.length x1086 : Nat) : Int))))] [] (by kernel_rfl) ?_
      refine AW.seq ?_
      refine AW.cond (b := (decide (v1095 < ((List.length x1086 : Nat) : Int)))) (by kernel_rfl) (fun hb1097 => ?_) (fun hb1097 => ?_)
      · have h := br_t h hb1097
        refine AW.skip ?_
        refine AW.seq ?_
        refine AW.block ?_
        refine AW.sg0 Fm 2 [(0, AL x1086), (1, AL x1087), (5, vi v1095), (12, vi ((List.length x1086 : Nat) : Int)), (13, vi v1095)] [] (by kernel_rfl) ?_
        obtain ⟨hg1098, h⟩ := gd_some h
        obtain ⟨hg1099, h⟩ := gd_some h
        refine AW.sg Fm [.s, .s, .s, .s, .s, .s, .s, .s, .k (sE (vb (!((((gl x1086 v1095.toNat).left_) == ((gl x1087 v1095.toNat).left_)) && ((((gl x1086 v1095.toNat).low_) == ((gl x1087 v1095.toNat).low_)) && ((((gl x1086 v1095.toNat).right_) == ((gl x1087 v1095.toNat).right_)) && ((((gl x1086 v1095.toNat).high_) == ((gl x1087 v1095.toNat).high_)) && true)))))))] (fun K => (0 ≤ v1095 ∧ v1095 < ((List.length x1086 : Nat) : Int)) ∧ (0 ≤ v1095 ∧ v1095 < ((List.length x1087 : Nat) : Int)) ∧ K 8 ∧ True) [(0, AL x1086), (1, AL x1087), (12, vi ((List.length x1086 : Nat) : Int)), (13, vi v1095), (24, vb (!((((gl x1086 v1095.toNat).left_) == ((gl x1087 v1095.toNat).left_)) && ((((gl x1086 v1095.toNat).low_) == ((gl x1087 v1095.toNat).low_)) && ((((gl x1086 v1095.toNat).right_) == ((gl x1087 v1095.toNat).right_)) && ((((gl x1086 v1095.toNat).high_) == ((gl x1087 v1095.toNat).high_)) && true))))))] [] ⟨hg1098, hg1099, KAt.eq (xs := [ci ((gl x1086 v1095.toNat).left_), ci ((gl x1086 v1095.toNat).low_), ci ((gl x1086 v1095.toNat).right_), ci ((gl x1086 v1095.toNat).high_)]) (ys := [ci ((gl x1087 v1095.toNat).left_), ci ((gl x1087 v1095.toNat).low_), ci ((gl x1087 v1095.toNat).right_), ci ((gl x1087 v1095.toNat).high_)]) eqT73 false (b := ((((gl x1086 v1095.toNat).left_) == ((gl x1087 v1095.toNat).left_)) && ((((gl x1086 v1095.toNat).low_) == ((gl x1087 v1095.toNat).low_)) && ((((gl x1086 v1095.toNat).right_) == ((gl x1087 v1095.toNat).right_)) && ((((gl x1086 v1095.toNat).high_) == ((gl x1087 v1095.toNat).high_)) && true))))) rfl rfl (by kernel_rfl) (by kernel_rfl) (by kernel_rfl) (by kernel_rfl), True.intro⟩ (by kernel_rfl) ?_
        refine AW.cond (b := (!((((gl x1086 v1095.toNat).left_) == ((gl x1087 v1095.toNat).left_)) && ((((gl x1086 v1095.toNat).low_) == ((gl x1087 v1095.toNat).low_)) && ((((gl x1086 v1095.toNat).right_) == ((gl x1087 v1095.toNat).right_)) && ((((gl x1086 v1095.toNat).high_) == ((gl x1087 v1095.toNat).high_)) && true)))))) (by kernel_rfl) (fun hb1100 => ?_) (fun hb1100 => ?_)
        · have h := br_t h hb1100
          refine AW.sg0 Fm 1 [(4, vb false)] [] (by kernel_rfl) ?_
          refine AW.ret ?_
          obtain rfl := Option.some.inj h
          exact Kn.r Fm [(4, vb false)] [] (by kernel_rfl) (Kn.dn Fm (by kernel_rfl))
        · have h := br_f h hb1100
          refine AW.skip ?_
          obtain ⟨hg1101, h⟩ := gd_some h
          refine AW.g Fm [.s, .s] (fun K => (I64 (v1095 + (1 : Int)) ∧ True) ∧ True) [(0, AL x1086), (1, AL x1087), (12, vi ((List.length x1086 : Nat) : Int)), (13, vi (v1095 + (1 : Int)))] [] ⟨⟨hg1101, True.intro⟩, True.intro⟩ (by kernel_rfl) ?_
          exact Kn.r Fm [(0, AL x1086), (1, AL x1087), (12, vi ((List.length x1086 : Nat) : Int)), (13, vi (v1095 + (1 : Int)))] [] (by kernel_rfl) (hJ1096 (v1095 + (1 : Int)) h)
      · have h := br_f h hb1097
        refine AW.exit ?_
        exact Kn.r Fm [] [] (by kernel_rfl) (hJ1102 () h)
/- landaid/region.Valid -/
theorem region_Valid_spec {F : Nat} {x1103 : Region} {r : Bool} (h : region_Valid F x1103 = some r) :
    FSpec Tryz.prog 55 [.v (.g [.d (DL x1103.rects_)])] [] (vb r) [] := by
  refine FSpec.intro prog_mixed prog_lay Tryz.func55 rfl (by kernel_rfl) fun C Fm => ?_
  unfold region_Valid at h
  refine AW.sg0 Fm 2 [(1, .v (.c (.ptr 1 0)))] [(1, .box false [.d (DL x1103.rects_)])] (by kernel_rfl) ?_
  refine AW.seq ?_
  refine AW.join (r := r) (fun z : Bool => region_Valid_k0 F x1103 z) (fun z => [(1, .v (.c (.ptr 1 0))), (11, vb z)]) (fun z => [(1, .box false [.d (DL x1103.rects_)])]) (fun v1107 h => ?_) (fun J1108 hJ1108 => ?_)
  · have h : region_Valid_k0 F x1103 v1107 = some r := h
    refine AW.cond (b := v1107) (by kernel_rfl) (fun hb1109 => ?_) (fun hb1109 => ?_)
    · have h := br_t h hb1109
      refine AW.sg0 Fm 1 [(2, vb false)] [] (by kernel_rfl) ?_
      refine AW.ret ?_
      obtain rfl := Option.some.inj h
      exact Kn.r Fm [(2, vb false)] [] (by kernel_rfl) (Kn.dn Fm (by kernel_rfl))
    · have h := br_f h hb1109
      refine AW.skip ?_
      refine AW.seq ?_
      obtain ⟨z1110, hz1111, h⟩ := bd_some h
      obtain ⟨z1112, hz1113, h⟩ := bd_some h
      refine AW.g Fm [.s, .s, .k (cE [] [] (AL z1110) [] []), .s, .s, .k (cE [] [] (vb z1112) [] []), .s] (fun K => K 2 ∧ K 5 ∧ True) [(2, vb z1112)] [] ⟨KAt.cl (args := [AL x1103.rects_]) (region_canonical_spec hz1111) Tryz.call112 [] rfl (by kernel_rfl), KAt.cl (args := [AL z1110, AL x1103.rects_]) (slices_Equal_Rect_spec hz1113) Tryz.call111 [] rfl (by kernel_rfl), True.intro⟩ (by kernel_rfl) ?_
      refine AW.ret ?_
      obtain rfl := Option.some.inj h
      exact Kn.r Fm [(2, vb z1112)] [] (by kernel_rfl) (Kn.dn Fm (by kernel_rfl))
  · rcases Bool.eq_false_or_eq_true (decide ((120 : Int) < ((List.length x1103.rects_ : Nat) : Int))) with hb1104 | hb1104
    · have h := br_t h hb1104
      refine AW.g Fm [.s, .s, .s, .s, .w (vb true), .s, .s, .s, .s] (fun K => (ALe (vb (decide ((120 : Int) < ((List.length x1103.rects_ : Nat) : Int)))) (vb true)) ∧ True) [(1, .v (.c (.ptr 1 0))), (11, vb true)] [(1, .box false [.d (DL x1103.rects_)])] ⟨ALe.bool hb1104, True.intro⟩ (by kernel_rfl) ?_
      exact Kn.r Fm [(1, .v (.c (.ptr 1 0))), (11, vb true)] [(1, .box false [.d (DL x1103.rects_)])] (by kernel_rfl) (hJ1108 true h)
    · have h := br_f h hb1104
      obtain ⟨z1105, hz1106, h⟩ := bd_some h
      refine AW.g Fm [.s, .s, .s, .s, .w (vb false), .s, .s, .k (cE [] [] (vb z1105) [] []), .s] (fun K => (ALe (vb (decide ((120 : Int) < ((List.length x1103.rects_ : Nat) : Int)))) (vb false)) ∧ K 7 ∧ True) [(1, .v (.c (.ptr 1 0))), (11, vb z1105)] [(1, .box false [.d (DL x1103.rects_)])] ⟨ALe.bool hb1104, KAt.callX (args := [AL x1103.rects_, .v (.c (.sem (CloOK Tryz.prog (FR_Rect_Bool (fun y0 => region_Valid_1 F y0)))))]) (slices_ContainsFunc_Rect_spec hz1106) Tryz.call108 [] [] [.tmp 9, .func 109] rfl (by kernel_rfl) (by kernel_rfl) (by kernel_rfl) ⟨ArgT.plain (by kernel_rfl) (ALe.of_eq (by kernel_rfl)) (by kernel_rfl), ArgT.cloX Tryz.call109 [] (fun args r hq => by obtain ⟨y0, y, hq, rfl, rfl⟩ := hq; exact Eq.mp (by kernel_rfl) (region_Valid_1_spec hq)) (fun args r hq => by obtain ⟨y0, y, hq, rfl, rfl⟩ := hq; rfl) (by kernel_rfl) [] (by kernel_rfl) (by kernel_rfl) (True.intro) (by kernel_rfl), True.intro⟩, True.intro⟩ (by kernel_rfl) ?_
      exact Kn.r Fm [(1, .v (.c (.ptr 1 0))), (11, vb z1105)] [(1, .box false [.d (DL x1103.rects_)])] (by kernel_rfl) (hJ1108 z1105 h)
/- landaid/feature.single -/
theorem feature_single_spec {F : Nat} {x1114 : Feature} {r : Int} (h : feature_single F x1114 = some r) :
    FSpec Tryz.prog 130 [gE x1114] [] (vi r) [] := by
  refine FSpec.intro prog_mixed prog_lay Tryz.func130 rfl (by kernel_rfl) fun C Fm => ?_
  unfold feature_single at h
  refine AW.sg0 Fm 2 [(1, .v (.c (.ptr 1 0)))] [(1, .box false (gC x1114))] (by kernel_rfl) ?_
  refine AW.seq ?_
  refine AW.block ?_
  refine AW.join (r := r) (fun z : Bool => feature_single_k0 F x1114 z) (fun z => [(1, .v (.c (.ptr 1 0))), (3, vb z)]) (fun z => [(1, .box false (gC x1114))]) (fun v1116 h => ?_) (fun J1117 hJ1117 => ?_)
  · have h : feature_single_k0 F x1114 v1116 = some r := h
    refine AW.cond (b := v1116) (by kernel_rfl) (fun hb1118 => ?_) (fun hb1118 => ?_)
    · have h := br_t h hb1118
      refine AW.sg0 Fm 1 [(2, vi (2 : Int))] [] (by kernel_rfl) ?_
      refine AW.ret ?_
      obtain rfl := Option.some.inj h
      exact Kn.r Fm [(2, vi (2 : Int))] [] (by kernel_rfl) (Kn.dn Fm (by kernel_rfl))
    · have h := br_f h hb1118
      refine AW.join (r := r) (fun z : Bool => feature_single_k1 F x1114 z) (fun z => [(1, .v (.c (.ptr 1 0))), (12, vb z)]) (fun z => [(1, .box false (gC x1114))]) (fun v1120 h => ?_) (fun J1121 hJ1121 => ?_)
      · have h : feature_single_k1 F x1114 v1120 = some r := h
        refine AW.cond (b := v1120) (by kernel_rfl) (fun hb1122 => ?_) (fun hb1122 => ?_)
        · have h := br_t h hb1122
          refine AW.sg0 Fm 1 [(2, vi (14 : Int))] [] (by kernel_rfl) ?_
          refine AW.ret ?_
          obtain rfl := Option.some.inj h
          exact Kn.r Fm [(2, vi (14 : Int))] [] (by kernel_rfl) (Kn.dn Fm (by kernel_rfl))
        · have h := br_f h hb1122
          refine AW.join (r := r) (fun z : Bool => feature_single_k2 F x1114 z) (fun z => [(1, .v (.c (.ptr 1 0))), (21, vb z)]) (fun z => [(1, .box false (gC x1114))]) (fun v1125 h => ?_) (fun J1126 hJ1126 => ?_)
          · have h : feature_single_k2 F x1114 v1125 = some r := h
            refine AW.cond (b := v1125) (by kernel_rfl) (fun hb1127 => ?_) (fun hb1127 => ?_)
            · have h := br_t h hb1127
              refine AW.sg0 Fm 1 [(2, vi (9 : Int))] [] (by kernel_rfl) ?_
              refine AW.ret ?_
              obtain rfl := Option.some.inj h
              exact Kn.r Fm [(2, vi (9 : Int))] [] (by kernel_rfl) (Kn.dn Fm (by kernel_rfl))
            · have h := br_f h hb1127
              refine AW.join (r := r) (fun z : Bool => feature_single_k3 F z) (fun z => [(37, vb z)]) (fun z => []) (fun v1131 h => ?_) (fun J1132 hJ1132 => ?_)
              · have h : feature_single_k3 F v1131 = some r := h
                refine AW.cond (b := v1131) (by kernel_rfl) (fun hb1133 => ?_) (fun hb1133 => ?_)
                · have h := br_t h hb1133
                  refine AW.sg0 Fm 1 [(2, vi (7 : Int))] [] (by kernel_rfl) ?_
                  refine AW.ret ?_
                  obtain rfl := Option.some.inj h
                  exact Kn.r Fm [(2, vi (7 : Int))] [] (by kernel_rfl) (Kn.dn Fm (by kernel_rfl))
                · have h := br_f h hb1133
                  refine AW.skip ?_
                  refine AW.sg0 Fm 1 [(2, vi (0 : Int))] [] (by kernel_rfl) ?_
                  refine AW.ret ?_
                  obtain rfl := Option.some.inj h
                  exact Kn.r Fm [(2, vi (0 : Int))] [] (by kernel_rfl) (Kn.dn Fm (by kernel_rfl))
              · rcases Bool.eq_false_or_eq_true (((List.length x1114.region_.rects_ : Nat) : Int) == (0 : Int)) with hb1128 | hb1128
                · have h := br_t h hb1128
                  refine AW.g Fm [.s, .s, .s, .s, .s, .w (vb true), .s, .s, .s, .s, .s, .s] (fun K => (ALe (vb (((List.length x1114.region_.rects_ : Nat) : Int) == (0 : Int))) (vb true)) ∧ True) [(37, vb true)] [] ⟨ALe.bool hb1128, True.intro⟩ (by kernel_rfl) ?_
                  exact Kn.r Fm [(37, vb true)] [] (by kernel_rfl) (hJ1132 true h)
                · have h := br_f h hb1128
                  obtain ⟨z1129, hz1130, h⟩ := bd_some h
                  refine AW.g Fm [.s, .s, .s, .s, .s, .w (vb false), .s, .s, .k (cE [] [] (vb z1129) [] []), .s, .s, .s] (fun K => (ALe (vb (((List.length x1114.region_.rects_ : Nat) : Int) == (0 : Int))) (vb false)) ∧ K 8 ∧ True) [(37, vb (!z1129))] [] ⟨ALe.bool hb1128, KAt.cl (args := [.v (.g [.d (DL x1114.region_.rects_)])]) (region_Valid_spec hz1130) Tryz.call55 [] rfl (by kernel_rfl), True.intro⟩ (by kernel_rfl) ?_
                  exact Kn.r Fm [(37, vb (!z1129))] [] (by kernel_rfl) (hJ1132 (!z1129) h)
          · rcases Bool.eq_false_or_eq_true (decide (x1114.from_ < (0 : Int))) with hb1123 | hb1123
            · have h := br_t h hb1123
              refine AW.g Fm [.s, .s, .s, .w (vb true), .s, .s, .s, .s, .s, .s, .s, .s, .s, .s, .s, .s] (fun K => (ALe (vb (decide (x1114.from_ < (0 : Int)))) (vb true)) ∧ True) [(1, .v (.c (.ptr 1 0))), (21, vb true)] [(1, .box false (gC x1114))] ⟨ALe.bool hb1123, True.intro⟩ (by kernel_rfl) ?_
              exact Kn.r Fm [(1, .v (.c (.ptr 1 0))), (21, vb true)] [(1, .box false (gC x1114))] (by kernel_rfl) (hJ1126 true h)
            · have h := br_f h hb1123
              rcases Bool.eq_false_or_eq_true (decide (x1114.until_ ≤ x1114.from_)) with hb1124 | hb1124
              · have h := br_t h hb1124
                refine AW.g Fm [.s, .s, .s, .w (vb false), .s, .s, .s, .s, .s, .s, .w (vb true), .s, .s, .s, .s, .s] (fun K => (ALe (vb (decide (x1114.from_ < (0 : Int)))) (vb false)) ∧ (ALe (vb (decide (x1114.until_ ≤ x1114.from_))) (vb true)) ∧ True) [(1, .v (.c (.ptr 1 0))), (21, vb true)] [(1, .box false (gC x1114))] ⟨ALe.bool hb1123, ALe.bool hb1124, True.intro⟩ (by kernel_rfl) ?_
                exact Kn.r Fm [(1, .v (.c (.ptr 1 0))), (21, vb true)] [(1, .box false (gC x1114))] (by kernel_rfl) (hJ1126 true h)
              · have h := br_f h hb1124
                refine AW.g Fm [.s, .s, .s, .w (vb false), .s, .s, .s, .s, .s, .s, .w (vb false), .s, .s, .s, .s, .s] (fun K => (ALe (vb (decide (x1114.from_ < (0 : Int)))) (vb false)) ∧ (ALe (vb (decide (x1114.until_ ≤ x1114.from_))) (vb false)) ∧ True) [(1, .v (.c (.ptr 1 0))), (21, vb (decide ((36865 : Int) < x1114.until_)))] [(1, .box false (gC x1114))] ⟨ALe.bool hb1123, ALe.bool hb1124, True.intro⟩ (by kernel_rfl) ?_
                exact Kn.r Fm [(1, .v (.c (.ptr 1 0))), (21, vb (decide ((36865 : Int) < x1114.until_)))] [(1, .box false (gC x1114))] (by kernel_rfl) (hJ1126 (decide ((36865 : Int) < x1114.until_)) h)
      · rcases Bool.eq_false_or_eq_true (decide (x1114.kind_ < (0 : Int))) with hb1119 | hb1119
        · have h := br_t h hb1119
          refine AW.g Fm [.s, .s, .s, .w (vb true), .s, .s, .s, .s, .s] (fun K => (ALe (vb (decide (x1114.kind_ < (0 : Int)))) (vb true)) ∧ True) [(1, .v (.c (.ptr 1 0))), (12, vb true)] [(1, .box false (gC x1114))] ⟨ALe.bool hb1119, True.intro⟩ (by kernel_rfl) ?_
          exact Kn.r Fm [(1, .v (.c (.ptr 1 0))), (12, vb true)] [(1, .box false (gC x1114))] (by kernel_rfl) (hJ1121 true h)
        · have h := br_f h hb1119
          refine AW.g Fm [.s, .s, .s, .w (vb false), .s, .s, .s, .s, .s] (fun K => (ALe (vb (decide (x1114.kind_ < (0 : Int)))) (vb false)) ∧ True) [(1, .v (.c (.ptr 1 0))), (12, vb (decide ((15 : Int) < x1114.kind_)))] [(1, .box false (gC x1114))] ⟨ALe.bool hb1119, True.intro⟩ (by kernel_rfl) ?_
          exact Kn.r Fm [(1, .v (.c (.ptr 1 0))), (12, vb (decide ((15 : Int) < x1114.kind_)))] [(1, .box false (gC x1114))] (by kernel_rfl) (hJ1121 (decide ((15 : Int) < x1114.kind_)) h)
  · rcases Bool.eq_false_or_eq_true (decide (x1114.number_ < (1 : Int))) with hb1115 | hb1115
    · have h := br_t h hb1115
      refine AW.g Fm [.s, .s, .s, .w (vb true), .s, .s, .s, .s, .s] (fun K => (ALe (vb (decide (x1114.number_ < (1 : Int)))) (vb true)) ∧ True) [(1, .v (.c (.ptr 1 0))), (3, vb true)] [(1, .box false (gC x1114))] ⟨ALe.bool hb1115, True.intro⟩ (by kernel_rfl) ?_
      exact Kn.r Fm [(1, .v (.c (.ptr 1 0))), (3, vb true)] [(1, .box false (gC x1114))] (by kernel_rfl) (hJ1117 true h)
    · have h := br_f h hb1115
      refine AW.g Fm [.s, .s, .s, .w (vb false), .s, .s, .s, .s, .s] (fun K => (ALe (vb (decide (x1114.number_ < (1 : Int)))) (vb false)) ∧ True) [(1, .v (.c (.ptr 1 0))), (3, vb (decide ((1073741824 : Int) < x1114.number_)))] [(1, .box false (gC x1114))] ⟨ALe.bool hb1115, True.intro⟩ (by kernel_rfl) ?_
      exact Kn.r Fm [(1, .v (.c (.ptr 1 0))), (3, vb (decide ((1073741824 : Int) < x1114.number_)))] [(1, .box false (gC x1114))] (by kernel_rfl) (hJ1117 (decide ((1073741824 : Int) < x1114.number_)) h)
/- landaid/feature.Check -/
theorem feature_Check_spec {F : Nat} {x1134 : (List Feature)} {r : Int} (h : feature_Check F x1134 = some r) :
    FSpec Tryz.prog 78 [AL x1134] [] (vi r) [] := by
  refine FSpec.intro prog_mixed prog_lay Tryz.func78 rfl (by kernel_rfl) fun C Fm => ?_
  unfold feature_Check at h
  refine AW.sg0 Fm 1 [(0, AL x1134)] [] (by kernel_rfl) ?_
  refine AW.seq ?_
  refine AW.sg0 Fm 3 [(0, AL x1134), (8, vb (decide ((60 : Int) < ((List.length x1134 : Nat) : Int))))] [] (by kernel_rfl) ?_
  refine AW.cond (b := (decide ((60 : Int) < ((List.length x1134 : Nat) : Int)))) (by kernel_rfl) (fun hb1135 => ?_) (fun hb1135 => ?_)
  · have h := br_t h hb1135
    refine AW.sg0 Fm 1 [(2, vi (1 : Int))] [] (by kernel_rfl) ?_
    refine AW.ret ?_
    obtain rfl := Option.some.inj h
    exact Kn.r Fm [(2, vi (1 : Int))] [] (by kernel_rfl) (Kn.dn Fm (by kernel_rfl))
  · have h := br_f h hb1135
    refine AW.skip ?_
    refine AW.join (r := r) (fun z : Unit => feature_Check_k2 F) (fun z => []) (fun z => []) (fun z h => ?_) (fun J1163 hJ1163 => ?_)
    · have h : feature_Check_k2 F = some r := h
      refine AW.sg0 Fm 1 [(2, vi (0 : Int))] [] (by kernel_rfl) ?_
      refine AW.ret ?_
      obtain rfl := Option.some.inj h
      exact Kn.r Fm [(2, vi (0 : Int))] [] (by kernel_rfl) (Kn.dn Fm (by kernel_rfl))
    · refine AW.sg0 Fm 3 [(0, AL x1134), (9, AL x1134), (10, vi ((List.length x1134 : Nat) : Int)), (11, vi (0 : Int))] [] (by kernel_rfl) ?_
      refine AW.block ?_
      refine Kn.r Fm [(0, AL x1134), (9, AL x1134), (10, vi ((List.length x1134 : Nat) : Int)), (11, vi (0 : Int))] [] (by kernel_rfl) ?_
      have h : loopN (fun again (z : Int) => feature_Check_b0 F x1134 again z) F (0 : Int) = some r := h
      refine AW.loopF (E' := fun z => [(0, AL x1134), (9, AL x1134), (10, vi ((List.length x1134 : Nat) : Int)), (11, vi z)]) (S' := fun z => []) (fun ag_feature_Check_b0 v1149 J1150 hJ1150 h => ?_) h
      have h : feature_Check_b0 F x1134 ag_feature_Check_b0 v1149 = some r := h
      refine AW.sg0 Fm 1 [(0, AL x1134), (9, AL x1134), (10, vi ((List.length x1134 : Nat) : Int)), (11, vi v1149), (12, vb (decide (v1149 < ((List.length x1134 : Nat) : Int))))] [] (by kernel_rfl) ?_
      refine AW.seq ?_
      refine AW.cond (b := (decide (v1149 < ((List.length x1134 : Nat) : Int)))) (by kernel_rfl) (fun hb1151 => ?_) (fun hb1151 => ?_)
      · have h := br_t h hb1151
        refine AW.skip ?_
        refine AW.seq ?_
        refine AW.block ?_
        obtain ⟨hg1152, h⟩ := gd_some h
        refine AW.sg Fm [.s, .s, .s, .s, .s, .s] (fun K => (0 ≤ v1149 ∧ v1149 < ((List.length x1134 : Nat) : Int)) ∧ True) [(0, AL x1134), (3, vi v1149), (4, .v (.c (.ptr 4 0))), (9, AL x1134), (10, vi ((List.length x1134 : Nat) : Int)), (11, vi v1149)] [(4, .box false [ci ((gl x1134 v1149.toNat).number_), ci ((gl x1134 v1149.toNat).kind_), ci ((gl x1134 v1149.toNat).from_), ci ((gl x1134 v1149.toNat).until_), .d (DL (α := Rect) (gl x1134 v1149.toNat).region_.rects_)])] ⟨hg1152, True.intro⟩ (by kernel_rfl) ?_
        refine AW.seq ?_
        refine AW.seq ?_
        obtain ⟨z1153, hz1154, h⟩ := bd_some h
        refine AW.g Fm [.s, .k (cE [] [] (vi z1153) [] []), .s] (fun K => K 1 ∧ True) [(0, AL x1134), (3, vi v1149), (4, .v (.c (.ptr 4 0))), (5, vi z1153), (9, AL x1134), (10, vi ((List.length x1134 : Nat) : Int)), (11, vi v1149)] [(4, .box false [ci ((gl x1134 v1149.toNat).number_), ci ((gl x1134 v1149.toNat).kind_), ci ((gl x1134 v1149.toNat).from_), ci ((gl x1134 v1149.toNat).until_), .d (DL (α := Rect) (gl x1134 v1149.toNat).region_.rects_)])] ⟨KAt.cl (args := [.v (.g [ci ((gl x1134 v1149.toNat).number_), ci ((gl x1134 v1149.toNat).kind_), ci ((gl x1134 v1149.toNat).from_), ci ((gl x1134 v1149.toNat).until_), .d (DL (α := Rect) (gl x1134 v1149.toNat).region_.rects_)])]) (feature_single_spec hz1154) Tryz.call130 [] rfl (by kernel_rfl), True.intro⟩ (by kernel_rfl) ?_
        refine AW.sg0 Fm 2 [(0, AL x1134), (3, vi v1149), (4, .v (.c (.ptr 4 0))), (5, vi z1153), (9, AL x1134), (10, vi ((List.length x1134 : Nat) : Int)), (11, vi v1149), (19, vb (z1153 != (0 : Int)))] [(4, .box false [ci ((gl x1134 v1149.toNat).number_), ci ((gl x1134 v1149.toNat).kind_), ci ((gl x1134 v1149.toNat).from_), ci ((gl x1134 v1149.toNat).until_), .d (DL (α := Rect) (gl x1134 v1149.toNat).region_.rects_)])] (by kernel_rfl) ?_
        refine AW.cond (b := (z1153 != (0 : Int))) (by kernel_rfl) (fun hb1155 => ?_) (fun hb1155 => ?_)
        · have h := br_t h hb1155
          refine AW.sg0 Fm 2 [(2, vi z1153)] [] (by kernel_rfl) ?_
          refine AW.ret ?_
          obtain rfl := Option.some.inj h
          exact Kn.r Fm [(2, vi z1153)] [] (by kernel_rfl) (Kn.dn Fm (by kernel_rfl))
        · have h := br_f h hb1155
          refine AW.skip ?_
          refine AW.join (r := r) (fun z : Bool => feature_Check_k1 F v1149 ag_feature_Check_b0 z) (fun z => [(0, AL x1134), (9, AL x1134), (10, vi ((List.length x1134 : Nat) : Int)), (11, vi v1149), (33, vb z)]) (fun z => []) (fun v1159 h => ?_) (fun J1160 hJ1160 => ?_)
          · have h : feature_Check_k1 F v1149 ag_feature_Check_b0 v1159 = some r := h
            refine AW.cond (b := v1159) (by kernel_rfl) (fun hb1161 => ?_) (fun hb1161 => ?_)
            · have h := br_t h hb1161
              refine AW.sg0 Fm 1 [(2, vi (3 : Int))] [] (by kernel_rfl) ?_
              refine AW.ret ?_
              obtain rfl := Option.some.inj h
              exact Kn.r Fm [(2, vi (3 : Int))] [] (by kernel_rfl) (Kn.dn Fm (by kernel_rfl))
            · have h := br_f h hb1161
              refine AW.skip ?_
              obtain ⟨hg1162, h⟩ := gd_some h
              refine AW.g Fm [.s, .s] (fun K => (I64 (v1149 + (1 : Int)) ∧ True) ∧ True) [(0, AL x1134), (9, AL x1134), (10, vi ((List.length x1134 : Nat) : Int)), (11, vi (v1149 + (1 : Int)))] [] ⟨⟨hg1162, True.intro⟩, True.intro⟩ (by kernel_rfl) ?_
              exact Kn.r Fm [(0, AL x1134), (9, AL x1134), (10, vi ((List.length x1134 : Nat) : Int)), (11, vi (v1149 + (1 : Int)))] [] (by kernel_rfl) (hJ1150 (v1149 + (1 : Int)) h)
          · rcases Bool.eq_false_or_eq_true (decide ((0 : Int) < v1149)) with hb1156 | hb1156
            · have h := br_t h hb1156
              obtain ⟨hg1157, h⟩ := gd_some h
              obtain ⟨hg1158, h⟩ := gd_some h
              refine AW.g Fm [.s, .s, .w (vb true), .s, .s, .s, .s, .s, .s, .s, .s, .s, .s] (fun K => (ALe (vb (decide ((0 : Int) < v1149))) (vb true)) ∧ (I64 (v1149 - (1 : Int)) ∧ True) ∧ (0 ≤ (v1149 - (1 : Int)) ∧ (v1149 - (1 : Int)) < ((List.length x1134 : Nat) : Int)) ∧ True) [(0, AL x1134), (9, AL x1134), (10, vi ((List.length x1134 : Nat) : Int)), (11, vi v1149), (24, .v (.c (.ptr 4 0))), (25, vi (gl x1134 v1149.toNat).number_), (26, AL x1134), (27, vi v1149), (28, vi (v1149 - (1 : Int))), (29, .v (.c (.elm [.int .i64 (gl x1134 (v1149 - (1 : Int)).toNat).number_, .int .i64 (gl x1134 (v1149 - (1 : Int)).toNat).kind_, .int .i64 (gl x1134 (v1149 - (1 : Int)).toNat).from_, .int .i64 (gl x1134 (v1149 - (1 : Int)).toNat).until_, DL (α := Rect) (gl x1134 (v1149 - (1 : Int)).toNat).region_.rects_]))), (30, .v (.c (.elm [.int .i64 (gl x1134 (v1149 - (1 : Int)).toNat).number_, .int .i64 (gl x1134 (v1149 - (1 : Int)).toNat).kind_, .int .i64 (gl x1134 (v1149 - (1 : Int)).toNat).from_, .int .i64 (gl x1134 (v1149 - (1 : Int)).toNat).until_, DL (α := Rect) (gl x1134 (v1149 - (1 : Int)).toNat).region_.rects_]))), (31, vi (gl x1134 (v1149 - (1 : Int)).toNat).number_), (32, vb (decide (((gl x1134 v1149.toNat).number_) ≤ ((gl x1134 (v1149 - (1 : Int)).toNat).number_)))), (33, vb (decide (((gl x1134 v1149.toNat).number_) ≤ ((gl x1134 (v1149 - (1 : Int)).toNat).number_))))] [(4, .box false [ci ((gl x1134 v1149.toNat).number_), ci ((gl x1134 v1149.toNat).kind_), ci ((gl x1134 v1149.toNat).from_), ci ((gl x1134 v1149.toNat).until_), .d (DL (α := Rect) (gl x1134 v1149.toNat).region_.rects_)])] ⟨ALe.bool hb1156, ⟨hg1157, True.intro⟩, hg1158, True.intro⟩ (by kernel_rfl) ?_
              exact Kn.r Fm [(0, AL x1134), (9, AL x1134), (10, vi ((List.length x1134 : Nat) : Int)), (11, vi v1149), (33, vb (decide (((gl x1134 v1149.toNat).number_) ≤ ((gl x1134 (v1149 - (1 : Int)).toNat).number_))))] [] (by kernel_rfl) (hJ1160 (decide (((gl x1134 v1149.toNat).number_) ≤ ((gl x1134 (v1149 - (1 : Int)).toNat).number_))) h)
            · have h := br_f h hb1156
              refine AW.g Fm [.s, .s, .w (vb false), .s, .s, .s, .s, .s, .s, .s, .s, .s, .s] (fun K => (ALe (vb (decide ((0 : Int) < v1149))) (vb false)) ∧ True) [(0, AL x1134), (9, AL x1134), (10, vi ((List.length x1134 : Nat) : Int)), (11, vi v1149), (33, vb false)] [] ⟨ALe.bool hb1156, True.intro⟩ (by kernel_rfl) ?_
              exact Kn.r Fm [(0, AL x1134), (9, AL x1134), (10, vi ((List.length x1134 : Nat) : Int)), (11, vi v1149), (33, vb false)] [] (by kernel_rfl) (hJ1160 false h)
      · have h := br_f h hb1151
        refine AW.exit ?_
        exact Kn.r Fm [] [] (by kernel_rfl) (hJ1163 () h)
/- landaid/feature.right -/
theorem feature_right_spec {F : Nat} {x1164 : (List Feature)} {x1165 : Int} {r : Int} (h : feature_right F x1164 x1165 = some r) :
    FSpec Tryz.prog 73 [AL x1164, vi x1165] [] (vi r) [] := by
  refine FSpec.intro prog_mixed prog_lay Tryz.func73 rfl (by kernel_rfl) fun C Fm => ?_
  unfold feature_right at h
  refine AW.sg0 Fm 1 [(0, AL x1164), (1, vi x1165)] [] (by kernel_rfl) ?_
  refine AW.seq ?_
  refine AW.seq ?_
  obtain ⟨z1166, hz1167, h⟩ := bd_some h
  refine AW.g Fm [.s, .k (cE [] [] (vi z1166) [] []), .s] (fun K => K 1 ∧ True) [(1, vi x1165), (5, vi z1166)] [] ⟨KAt.cl (args := [AL x1164]) (feature_Check_spec hz1167) Tryz.call78 [] rfl (by kernel_rfl), True.intro⟩ (by kernel_rfl) ?_
  refine AW.sg0 Fm 2 [(1, vi x1165), (5, vi z1166), (9, vb (z1166 != (0 : Int)))] [] (by kernel_rfl) ?_
  refine AW.cond (b := (z1166 != (0 : Int))) (by kernel_rfl) (fun hb1168 => ?_) (fun hb1168 => ?_)
  · have h := br_t h hb1168
    refine AW.sg0 Fm 2 [(4, vi z1166)] [] (by kernel_rfl) ?_
    refine AW.ret ?_
    obtain rfl := Option.some.inj h
    exact Kn.r Fm [(4, vi z1166)] [] (by kernel_rfl) (Kn.dn Fm (by kernel_rfl))
  · have h := br_f h hb1168
    refine AW.skip ?_
    refine AW.seq ?_
    refine AW.join (r := r) (fun z : Bool => feature_right_k0 F z) (fun z => [(16, vb z)]) (fun z => []) (fun v1170 h => ?_) (fun J1171 hJ1171 => ?_)
    · have h : feature_right_k0 F v1170 = some r := h
      refine AW.cond (b := v1170) (by kernel_rfl) (fun hb1172 => ?_) (fun hb1172 => ?_)
      · have h := br_t h hb1172
        refine AW.sg0 Fm 1 [(4, vi (9 : Int))] [] (by kernel_rfl) ?_
        refine AW.ret ?_
        obtain rfl := Option.some.inj h
        exact Kn.r Fm [(4, vi (9 : Int))] [] (by kernel_rfl) (Kn.dn Fm (by kernel_rfl))
      · have h := br_f h hb1172
        refine AW.skip ?_
        refine AW.sg0 Fm 1 [(4, vi (0 : Int))] [] (by kernel_rfl) ?_
        refine AW.ret ?_
        obtain rfl := Option.some.inj h
        exact Kn.r Fm [(4, vi (0 : Int))] [] (by kernel_rfl) (Kn.dn Fm (by kernel_rfl))
    · rcases Bool.eq_false_or_eq_true (decide (x1165 < (0 : Int))) with hb1169 | hb1169
      · have h := br_t h hb1169
        refine AW.g Fm [.s, .s, .w (vb true), .s, .s, .s] (fun K => (ALe (vb (decide (x1165 < (0 : Int)))) (vb true)) ∧ True) [(16, vb true)] [] ⟨ALe.bool hb1169, True.intro⟩ (by kernel_rfl) ?_
        exact Kn.r Fm [(16, vb true)] [] (by kernel_rfl) (hJ1171 true h)
      · have h := br_f h hb1169
        refine AW.g Fm [.s, .s, .w (vb false), .s, .s, .s] (fun K => (ALe (vb (decide (x1165 < (0 : Int)))) (vb false)) ∧ True) [(16, vb (decide ((36864 : Int) < x1165)))] [] ⟨ALe.bool hb1169, True.intro⟩ (by kernel_rfl) ?_
        exact Kn.r Fm [(16, vb (decide ((36864 : Int) < x1165)))] [] (by kernel_rfl) (hJ1171 (decide ((36864 : Int) < x1165)) h)
/- landaid/feature.Kind$1 -/
theorem feature_Kind_1_spec {F : Nat} {x1173 : Int} {x1174 : Int} {r : Bool} (h : feature_Kind_1 F x1173 x1174 = some r) :
    FSpec Tryz.prog 76 [vi x1173, .v (.c (.ptr 0 0))] [(0, .box true [ci x1174])] (vb r) [(0, .box true [ci x1174])] := by
  refine FSpec.intro prog_mixed prog_lay Tryz.func76 rfl (by kernel_rfl) fun C Fm => ?_
  unfold feature_Kind_1 at h
  refine AW.sg0 Fm 1 [(0, vi x1173), (1, .v (.c (.ptr 0 0)))] [(0, .box true [ci x1174])] (by kernel_rfl) ?_
  refine AW.sg0 Fm 4 [(3, vb (x1173 == x1174))] [(0, .box true [ci x1174])] (by kernel_rfl) ?_
  refine AW.ret ?_
  obtain rfl := Option.some.inj h
  exact Kn.r Fm [(3, vb (x1173 == x1174))] [(0, .box true [ci x1174])] (by kernel_rfl) (Kn.dn Fm (by kernel_rfl))
/- landaid/feature.there -/
theorem feature_there_spec {F : Nat} {x1175 : Feature} {x1176 : Int} {r : Bool} (h : feature_there F x1175 x1176 = some r) :
    FSpec Tryz.prog 129 [gE x1175, vi x1176] [] (vb r) [] := by
  refine FSpec.intro prog_mixed prog_lay Tryz.func129 rfl (by kernel_rfl) fun C Fm => ?_
  unfold feature_there at h
  refine AW.sg0 Fm 2 [(1, vi x1176), (2, .v (.c (.ptr 2 0)))] [(2, .box false (gC x1175))] (by kernel_rfl) ?_
  refine AW.join (r := r) (fun z : Bool => feature_there_k0 F z) (fun z => [(4, vb z)]) (fun z => []) (fun v1178 h => ?_) (fun J1179 hJ1179 => ?_)
  · have h : feature_there_k0 F v1178 = some r := h
    refine AW.ret ?_
    obtain rfl := Option.some.inj h
    exact Kn.r Fm [(4, vb v1178)] [] (by kernel_rfl) (Kn.dn Fm (by kernel_rfl))
  · rcases Bool.eq_false_or_eq_true (decide (x1175.from_ ≤ x1176)) with hb1177 | hb1177
    · have h := br_t h hb1177
      refine AW.g Fm [.s, .s, .s, .s, .w (vb true), .s, .s, .s, .s, .s, .s] (fun K => (ALe (vb (decide (x1175.from_ ≤ x1176))) (vb true)) ∧ True) [(4, vb (decide (x1176 < x1175.until_)))] [] ⟨ALe.bool hb1177, True.intro⟩ (by kernel_rfl) ?_
      exact Kn.r Fm [(4, vb (decide (x1176 < x1175.until_)))] [] (by kernel_rfl) (hJ1179 (decide (x1176 < x1175.until_)) h)
    · have h := br_f h hb1177
      refine AW.g Fm [.s, .s, .s, .s, .w (vb false), .s, .s, .s, .s, .s, .s] (fun K => (ALe (vb (decide (x1175.from_ ≤ x1176))) (vb false)) ∧ True) [(4, vb false)] [] ⟨ALe.bool hb1177, True.intro⟩ (by kernel_rfl) ?_
      exact Kn.r Fm [(4, vb false)] [] (by kernel_rfl) (hJ1179 false h)
/- landaid/feature.Rects -/
theorem feature_Rects_spec {F : Nat} {x1180 : (List Feature)} {x1181 : Int} {x1182 : Int → Option Bool} {r : (List Rect)} (h : feature_Rects F x1180 x1181 x1182 = some r) :
    FSpec Tryz.prog 75 [AL x1180, vi x1181, .v (.c (.sem (CloOK Tryz.prog (FR_Int_Bool x1182))))] [] (AL (α := Rect) r) [] := by
  refine FSpec.intro prog_mixed prog_lay Tryz.func75 rfl (by kernel_rfl) fun C Fm => ?_
  unfold feature_Rects at h
  refine AW.sg0 Fm 1 [(0, AL x1180), (1, vi x1181), (2, .v (.c (.sem (CloOK Tryz.prog (FR_Int_Bool x1182)))))] [] (by kernel_rfl) ?_
  refine AW.sg Fm [.m] (fun K => True) [(0, AL x1180), (1, vi x1181), (2, .v (.c (.sem (CloOK Tryz.prog (FR_Int_Bool x1182))))), (7, .v (.c (.own 7)))] [(7, .arr 4 (0) (fun _ => []))] True.intro (by kernel_rfl) ?_
  refine Kn.wk [(0, AL x1180), (1, vi x1181), (2, .v (.c (.sem (CloOK Tryz.prog (FR_Int_Bool x1182))))), (7, .v (.c (.own 7)))] [(7, AO (α := Rect) ([] : List Rect))] (FE.refl _) (⟨rfl, OLe.is ((Is.nil (α := Rect))), True.intro⟩) ?_
  refine AW.join (r := r) (fun z : (List Rect) => feature_Rects_k3 F z) (fun z => [(7, .v (.c (.own 7)))]) (fun z => [(7, AO z)]) (fun v1215 h => ?_) (fun J1216 hJ1216 => ?_)
  · have h : feature_Rects_k3 F v1215 = some r := h
    refine AW.sg0 Fm 2 [(6, .v (.c (.own 7)))] [(7, AO v1215)] (by kernel_rfl) ?_
    refine AW.ret ?_
    obtain rfl := Option.some.inj h
    refine Kn.r Fm [(6, .v (.c (.own 7)))] [(7, AO v1215)] (by kernel_rfl) ?_
    refine Kn.frz [(6, AL v1215)] [] (by kernel_rfl) (by kernel_rfl) (by kernel_rfl) ?_
    exact Kn.r Fm [(6, AL v1215)] [] (by kernel_rfl) (Kn.dn Fm (by kernel_rfl))
  · refine AW.sg0 Fm 3 [(1, vi x1181), (2, .v (.c (.sem (CloOK Tryz.prog (FR_Int_Bool x1182))))), (7, .v (.c (.own 7))), (10, AL x1180), (11, vi ((List.length x1180 : Nat) : Int)), (12, vi (0 : Int))] [(7, AO (α := Rect) ([] : List Rect))] (by kernel_rfl) ?_
    refine AW.block ?_
    refine Kn.r Fm [(1, vi x1181), (2, .v (.c (.sem (CloOK Tryz.prog (FR_Int_Bool x1182))))), (7, .v (.c (.own 7))), (10, AL x1180), (11, vi ((List.length x1180 : Nat) : Int)), (12, vi (0 : Int))] [(7, AO ([] : List Rect))] (by kernel_rfl) ?_
    have h : loopN (fun again (z : Int × (List Rect)) => feature_Rects_b0 F x1180 x1181 x1182 again z.1 z.2) F ((0 : Int), ([] : List Rect)) = some r := h
    refine AW.loopF (E' := fun z => [(1, vi x1181), (2, .v (.c (.sem (CloOK Tryz.prog (FR_Int_Bool x1182))))), (7, .v (.c (.own 7))), (10, AL x1180), (11, vi ((List.length x1180 : Nat) : Int)), (12, vi z.1)]) (S' := fun z => [(7, AO z.2)]) (fun ag_feature_Rects_b0 z J1200 hJ1200 h => ?_) h
    obtain ⟨v1198, v1199⟩ := z
    have h : feature_Rects_b0 F x1180 x1181 x1182 ag_feature_Rects_b0 v1198 v1199 = some r := h
    refine AW.sg0 Fm 1 [(1, vi x1181), (2, .v (.c (.sem (CloOK Tryz.prog (FR_Int_Bool x1182))))), (7, .v (.c (.own 7))), (10, AL x1180), (11, vi ((List.length x1180 : Nat) : Int)), (12, vi v1198), (13, vb (decide (v1198 < ((List.length x1180 : Nat) : Int))))] [(7, AO v1199)] (by kernel_rfl) ?_
    refine AW.seq ?_
    refine AW.cond (b := (decide (v1198 < ((List.length x1180 : Nat) : Int)))) (by kernel_rfl) (fun hb1201 => ?_) (fun hb1201 => ?_)
    · have h := br_t h hb1201
      refine AW.skip ?_
      refine AW.join (r := r) (fun z : (List Rect) => feature_Rects_k2 F v1198 ag_feature_Rects_b0 z) (fun z => [(1, vi x1181), (2, .v (.c (.sem (CloOK Tryz.prog (FR_Int_Bool x1182))))), (7, .v (.c (.own 29))), (10, AL x1180), (11, vi ((List.length x1180 : Nat) : Int)), (12, vi v1198)]) (fun z => [(29, AO z)]) (fun v1212 h => ?_) (fun J1213 hJ1213 => ?_)
      · have h : feature_Rects_k2 F v1198 ag_feature_Rects_b0 v1212 = some r := h
        obtain ⟨hg1214, h⟩ := gd_some h
        refine AW.g Fm [.s, .s] (fun K => (I64 (v1198 + (1 : Int)) ∧ True) ∧ True) [(1, vi x1181), (2, .v (.c (.sem (CloOK Tryz.prog (FR_Int_Bool x1182))))), (7, .v (.c (.own 29))), (10, AL x1180), (11, vi ((List.length x1180 : Nat) : Int)), (12, vi (v1198 + (1 : Int)))] [(29, AO v1212)] ⟨⟨hg1214, True.intro⟩, True.intro⟩ (by kernel_rfl) ?_
        exact Kn.re Fm [(7, 29)] [(1, vi x1181), (2, .v (.c (.sem (CloOK Tryz.prog (FR_Int_Bool x1182))))), (7, .v (.c (.own 7))), (10, AL x1180), (11, vi ((List.length x1180 : Nat) : Int)), (12, vi (v1198 + (1 : Int)))] [(7, AO v1212)] (by kernel_rfl) (by kernel_rfl) (by kernel_rfl) (by kernel_rfl) (hJ1200 ((v1198 + (1 : Int)), v1212) h)
      · refine AW.block ?_
        obtain ⟨hg1202, h⟩ := gd_some h
        refine AW.sg Fm [.s, .s, .s, .s] (fun K => (0 ≤ v1198 ∧ v1198 < ((List.length x1180 : Nat) : Int)) ∧ True) [(1, vi x1181), (2, .v (.c (.sem (CloOK Tryz.prog (FR_Int_Bool x1182))))), (7, .v (.c (.own 7))), (9, .v (.c (.ptr 9 0))), (10, AL x1180), (11, vi ((List.length x1180 : Nat) : Int)), (12, vi v1198)] [(7, AO v1199), (9, .box false [ci ((gl x1180 v1198.toNat).number_), ci ((gl x1180 v1198.toNat).kind_), ci ((gl x1180 v1198.toNat).from_), ci ((gl x1180 v1198.toNat).until_), .d (DL (α := Rect) (gl x1180 v1198.toNat).region_.rects_)])] ⟨hg1202, True.intro⟩ (by kernel_rfl) ?_
        refine AW.join (r := r) (fun z : Bool => feature_Rects_k1 F x1180 v1198 v1199 ag_feature_Rects_b0 z) (fun z => [(1, vi x1181), (2, .v (.c (.sem (CloOK Tryz.prog (FR_Int_Bool x1182))))), (7, .v (.c (.own 7))), (9, .v (.c (.ptr 9 0))), (10, AL x1180), (11, vi ((List.length x1180 : Nat) : Int)), (12, vi v1198), (24, vb z)]) (fun z => [(7, AO v1199), (9, .box false [ci ((gl x1180 v1198.toNat).number_), ci ((gl x1180 v1198.toNat).kind_), ci ((gl x1180 v1198.toNat).from_), ci ((gl x1180 v1198.toNat).until_), .d (DL (α := Rect) (gl x1180 v1198.toNat).region_.rects_)])]) (fun v1208 h => ?_) (fun J1209 hJ1209 => ?_)
        · have h : feature_Rects_k1 F x1180 v1198 v1199 ag_feature_Rects_b0 v1208 = some r := h
          refine AW.cond (b := v1208) (by kernel_rfl) (fun hb1210 => ?_) (fun hb1210 => ?_)
          · have h := br_t h hb1210
            obtain ⟨hg1211, h⟩ := gd_some h
            refine AW.g Fm [.s, .s, .s, .s, .s, .s] (fun K => ((List.length (α := Rect) v1199) + (List.length (α := Rect) ((gl x1180 v1198.toNat).region_.rects_)) ≤ LIM ∧ (∀ j, j < List.length (α := Rect) ((gl x1180 v1198.toNat).region_.rects_) → ((LF (α := Rect) ((gl x1180 v1198.toNat).region_.rects_)) j).length = 4) ∧ (True)) ∧ True) [(1, vi x1181), (2, .v (.c (.sem (CloOK Tryz.prog (FR_Int_Bool x1182))))), (7, .v (.c (.own 29))), (10, AL x1180), (11, vi ((List.length x1180 : Nat) : Int)), (12, vi v1198)] [(29, .arr 4 ((List.length (α := Rect) v1199) + (List.length (α := Rect) ((gl x1180 v1198.toNat).region_.rects_))) (appF (List.length (α := Rect) v1199) (LF (α := Rect) v1199) (LF (α := Rect) ((gl x1180 v1198.toNat).region_.rects_))))] ⟨⟨hg1211, (Is.refl ((gl x1180 v1198.toNat).region_.rects_) : Is (List.length (α := Rect) ((gl x1180 v1198.toNat).region_.rects_)) (LF (α := Rect) ((gl x1180 v1198.toNat).region_.rects_)) ((gl x1180 v1198.toNat).region_.rects_)).len, True.intro⟩, True.intro⟩ (by kernel_rfl) ?_
            refine Kn.wk [(1, vi x1181), (2, .v (.c (.sem (CloOK Tryz.prog (FR_Int_Bool x1182))))), (7, .v (.c (.own 29))), (10, AL x1180), (11, vi ((List.length x1180 : Nat) : Int)), (12, vi v1198)] [(29, AO (α := Rect) (v1199 ++ ((gl x1180 v1198.toNat).region_.rects_)))] (FE.refl _) (⟨rfl, OLe.is (Is.app (Is.refl v1199) (Is.refl ((gl x1180 v1198.toNat).region_.rects_))), True.intro⟩) ?_
            exact Kn.r Fm [(1, vi x1181), (2, .v (.c (.sem (CloOK Tryz.prog (FR_Int_Bool x1182))))), (7, .v (.c (.own 29))), (10, AL x1180), (11, vi ((List.length x1180 : Nat) : Int)), (12, vi v1198)] [(29, AO (v1199 ++ ((gl x1180 v1198.toNat).region_.rects_)))] (by kernel_rfl) (hJ1213 (v1199 ++ ((gl x1180 v1198.toNat).region_.rects_)) h)
          · have h := br_f h hb1210
            refine AW.skip ?_
            exact Kn.re Fm [(29, 7)] [(1, vi x1181), (2, .v (.c (.sem (CloOK Tryz.prog (FR_Int_Bool x1182))))), (7, .v (.c (.own 29))), (10, AL x1180), (11, vi ((List.length x1180 : Nat) : Int)), (12, vi v1198)] [(29, AO v1199)] (by kernel_rfl) (by kernel_rfl) (by kernel_rfl) (by kernel_rfl) (hJ1213 v1199 h)
        · obtain ⟨z1203, hz1204, h⟩ := bd_some h
          rcases Bool.eq_false_or_eq_true z1203 with hb1205 | hb1205
          · have h := br_t h hb1205
            obtain ⟨z1206, hz1207, h⟩ := bd_some h
            refine AW.g Fm [.s, .s, .k (cE [] [] (vb z1203) [] []), .w (vb true), .s, .s, .s, .k (sE (vb z1206)), .s] (fun K => K 2 ∧ (ALe (vb z1203) (vb true)) ∧ K 7 ∧ True) [(1, vi x1181), (2, .v (.c (.sem (CloOK Tryz.prog (FR_Int_Bool x1182))))), (7, .v (.c (.own 7))), (9, .v (.c (.ptr 9 0))), (10, AL x1180), (11, vi ((List.length x1180 : Nat) : Int)), (12, vi v1198), (20, .v (.c (.sem (CloOK Tryz.prog (FR_Int_Bool x1182))))), (21, .v (.c (.ptr 9 1))), (22, vi (gl x1180 v1198.toNat).kind_), (23, vb z1206), (24, vb z1206)] [(7, AO v1199), (9, .box false [ci ((gl x1180 v1198.toNat).number_), ci ((gl x1180 v1198.toNat).kind_), ci ((gl x1180 v1198.toNat).from_), ci ((gl x1180 v1198.toNat).until_), .d (DL (α := Rect) (gl x1180 v1198.toNat).region_.rects_)])] ⟨KAt.cl (args := [.v (.g [ci ((gl x1180 v1198.toNat).number_), ci ((gl x1180 v1198.toNat).kind_), ci ((gl x1180 v1198.toNat).from_), ci ((gl x1180 v1198.toNat).until_), .d (DL (α := Rect) (gl x1180 v1198.toNat).region_.rects_)]), vi x1181]) (feature_there_spec hz1204) Tryz.call129 [] rfl (by kernel_rfl), ALe.bool hb1205, KAt.sem (F := (FR_Int_Bool x1182)) (args := [vi (gl x1180 v1198.toNat).kind_]) ⟨((gl x1180 v1198.toNat).kind_), z1206, hz1207, rfl, rfl⟩ rfl (by kernel_rfl) (by kernel_rfl) (by kernel_rfl), True.intro⟩ (by kernel_rfl) ?_
            exact Kn.r Fm [(1, vi x1181), (2, .v (.c (.sem (CloOK Tryz.prog (FR_Int_Bool x1182))))), (7, .v (.c (.own 7))), (9, .v (.c (.ptr 9 0))), (10, AL x1180), (11, vi ((List.length x1180 : Nat) : Int)), (12, vi v1198), (24, vb z1206)] [(7, AO v1199), (9, .box false [ci ((gl x1180 v1198.toNat).number_), ci ((gl x1180 v1198.toNat).kind_), ci ((gl x1180 v1198.toNat).from_), ci ((gl x1180 v1198.toNat).until_), .d (DL (α := Rect) (gl x1180 v1198.toNat).region_.rects_)])] (by kernel_rfl) (hJ1209 z1206 h)
          · have h := br_f h hb1205
            refine AW.g Fm [.s, .s, .k (cE [] [] (vb z1203) [] []), .w (vb false), .s, .s, .s, .s, .s] (fun K => K 2 ∧ (ALe (vb z1203) (vb false)) ∧ True) [(1, vi x1181), (2, .v (.c (.sem (CloOK Tryz.prog (FR_Int_Bool x1182))))), (7, .v (.c (.own 7))), (9, .v (.c (.ptr 9 0))), (10, AL x1180), (11, vi ((List.length x1180 : Nat) : Int)), (12, vi v1198), (24, vb false)] [(7, AO v1199), (9, .box false [ci ((gl x1180 v1198.toNat).number_), ci ((gl x1180 v1198.toNat).kind_), ci ((gl x1180 v1198.toNat).from_), ci ((gl x1180 v1198.toNat).until_), .d (DL (α := Rect) (gl x1180 v1198.toNat).region_.rects_)])] ⟨KAt.cl (args := [.v (.g [ci ((gl x1180 v1198.toNat).number_), ci ((gl x1180 v1198.toNat).kind_), ci ((gl x1180 v1198.toNat).from_), ci ((gl x1180 v1198.toNat).until_), .d (DL (α := Rect) (gl x1180 v1198.toNat).region_.rects_)]), vi x1181]) (feature_there_spec hz1204) Tryz.call129 [] rfl (by kernel_rfl), ALe.bool hb1205, True.intro⟩ (by kernel_rfl) ?_
            exact Kn.r Fm [(1, vi x1181), (2, .v (.c (.sem (CloOK Tryz.prog (FR_Int_Bool x1182))))), (7, .v (.c (.own 7))), (9, .v (.c (.ptr 9 0))), (10, AL x1180), (11, vi ((List.length x1180 : Nat) : Int)), (12, vi v1198), (24, vb false)] [(7, AO v1199), (9, .box false [ci ((gl x1180 v1198.toNat).number_), ci ((gl x1180 v1198.toNat).kind_), ci ((gl x1180 v1198.toNat).from_), ci ((gl x1180 v1198.toNat).until_), .d (DL (α := Rect) (gl x1180 v1198.toNat).region_.rects_)])] (by kernel_rfl) (hJ1209 false h)
    · have h := br_f h hb1201
      refine AW.exit ?_
      exact Kn.r Fm [(7, .v (.c (.own 7)))] [(7, AO v1199)] (by kernel_rfl) (hJ1216 v1199 h)
/- landaid/region.Limited -/
theorem region_Limited_spec {F : Nat} {x1217 : (List Rect)} {r : Region × Int} (h : region_Limited F x1217 = some r) :
    FSpec Tryz.prog 98 [AL x1217] [] (.t [.g [.d (DL (α := Rect) r.1.rects_)], .c (ci r.2)]) [] := by
  refine FSpec.intro prog_mixed prog_lay Tryz.func98 rfl (by kernel_rfl) fun C Fm => ?_
  unfold region_Limited at h
  refine AW.sg0 Fm 2 [(0, AL x1217), (2, .v (.c (.ptr 2 0)))] [(2, .box false [.fl 0 fun _ => []])] (by kernel_rfl) ?_
  refine AW.seq ?_
  refine AW.sg0 Fm 3 [(0, AL x1217), (2, .v (.c (.ptr 2 0))), (6, vb (decide ((120 : Int) < ((List.length x1217 : Nat) : Int))))] [(2, .box false [.fl 0 fun _ => []])] (by kernel_rfl) ?_
  refine AW.cond (b := (decide ((120 : Int) < ((List.length x1217 : Nat) : Int)))) (by kernel_rfl) (fun hb1218 => ?_) (fun hb1218 => ?_)
  · have h := br_t h hb1218
    refine AW.sg Fm [.w (.v (.g [.d (DL (α := Rect) [])])), .s, .s] (fun K => (ALe (.v (.g [.fl 0 fun _ => []])) (.v (.g [.d (DL (α := Rect) [])]))) ∧ True) [(2, .v (.c (.ptr 2 0))), (3, vi (1 : Int))] [(2, .box false [.d (DL (α := Rect) [])])] ⟨ALe.g ⟨CLe.fl .nil, True.intro⟩, True.intro⟩ (by kernel_rfl) ?_
    refine AW.ret ?_
    obtain rfl := Option.some.inj h
    exact Kn.r Fm [(2, .v (.c (.ptr 2 0))), (3, vi (1 : Int))] [(2, .box false [.d (DL (α := Rect) [])])] (by kernel_rfl) (Kn.dn Fm (by kernel_rfl))
  · have h := br_f h hb1218
    refine AW.skip ?_
    refine AW.sg0 Fm 4 [(2, .v (.c (.ptr 2 0))), (3, vi (0 : Int))] [(2, .box false [.d (DL x1217)])] (by kernel_rfl) ?_
    refine AW.ret ?_
    obtain rfl := Option.some.inj h
    exact Kn.r Fm [(2, .v (.c (.ptr 2 0))), (3, vi (0 : Int))] [(2, .box false [.d (DL x1217)])] (by kernel_rfl) (Kn.dn Fm (by kernel_rfl))
/- landaid/region.Joined -/
theorem region_Joined_spec {F : Nat} {x1219 : (List Rect)} {r : Region × Int} (h : region_Joined F x1219 = some r) :
    FSpec Tryz.prog 74 [AL x1219] [] (.t [.g [.d (DL (α := Rect) r.1.rects_)], .c (ci r.2)]) [] := by
  refine FSpec.intro prog_mixed prog_lay Tryz.func74 rfl (by kernel_rfl) fun C Fm => ?_
  unfold region_Joined at h
  refine AW.sg0 Fm 2 [(0, AL x1219), (2, .v (.c (.ptr 2 0)))] [(2, .box false [.fl 0 fun _ => []])] (by kernel_rfl) ?_
  refine AW.seq ?_
  obtain ⟨z1220, hz1221, h⟩ := bd_some h
  obtain ⟨z1222, hz1223, h⟩ := bd_some h
  refine AW.g Fm [.s, .k (cE [] [] (AL z1220) [] []), .k (cE [] [] (.t [.g [.d (DL z1222.1.rects_)], .c (ci z1222.2)]) [] []), .s, .s, .s, .s] (fun K => K 1 ∧ K 2 ∧ True) [(2, .v (.c (.ptr 2 0))), (3, vi z1222.2)] [(2, .box false [.d (DL z1222.1.rects_)])] ⟨KAt.cl (args := [AL x1219]) (region_canonical_spec hz1221) Tryz.call112 [] rfl (by kernel_rfl), KAt.cl (args := [AL z1220]) (region_Limited_spec hz1223) Tryz.call98 [] rfl (by kernel_rfl), True.intro⟩ (by kernel_rfl) ?_
  refine AW.ret ?_
  obtain rfl := Option.some.inj h
  exact Kn.r Fm [(2, .v (.c (.ptr 2 0))), (3, vi z1222.2)] [(2, .box false [.d (DL z1222.1.rects_)])] (by kernel_rfl) (Kn.dn Fm (by kernel_rfl))
/- landaid/feature.Kind -/
theorem feature_Kind_spec {F : Nat} {x1224 : (List Feature)} {x1225 : Int} {x1226 : Int} {r : Region × Int} (h : feature_Kind F x1224 x1225 x1226 = some r) :
    FSpec Tryz.prog 24 [AL x1224, vi x1225, vi x1226] [] (.t [.g [.d (DL (α := Rect) r.1.rects_)], .c (ci r.2)]) [] := by
  refine FSpec.intro prog_mixed prog_lay Tryz.func24 rfl (by kernel_rfl) fun C Fm => ?_
  unfold feature_Kind at h
  refine AW.sg0 Fm 3 [(0, AL x1224), (2, vi x1226), (4, .v (.c (.ptr 4 0))), (6, .v (.c (.ptr 6 0)))] [(4, .box false [ci x1225]), (6, .box false [.fl 0 fun _ => []])] (by kernel_rfl) ?_
  refine AW.seq ?_
  refine AW.seq ?_
  obtain ⟨z1227, hz1228, h⟩ := bd_some h
  refine AW.g Fm [.s, .s, .k (cE [] [] (vi z1227) [] []), .s] (fun K => K 2 ∧ True) [(0, AL x1224), (2, vi x1226), (4, .v (.c (.ptr 4 0))), (6, .v (.c (.ptr 6 0))), (8, vi z1227)] [(4, .box false [ci x1225]), (6, .box false [.fl 0 fun _ => []])] ⟨KAt.cl (args := [AL x1224, vi x1226]) (feature_right_spec hz1228) Tryz.call73 [] rfl (by kernel_rfl), True.intro⟩ (by kernel_rfl) ?_
  refine AW.sg0 Fm 2 [(0, AL x1224), (2, vi x1226), (4, .v (.c (.ptr 4 0))), (6, .v (.c (.ptr 6 0))), (8, vi z1227), (13, vb (z1227 != (0 : Int)))] [(4, .box false [ci x1225]), (6, .box false [.fl 0 fun _ => []])] (by kernel_rfl) ?_
  refine AW.cond (b := (z1227 != (0 : Int))) (by kernel_rfl) (fun hb1229 => ?_) (fun hb1229 => ?_)
  · have h := br_t h hb1229
    refine AW.sg Fm [.w (.v (.g [.d (DL (α := Rect) [])])), .s, .s, .s] (fun K => (ALe (.v (.g [.fl 0 fun _ => []])) (.v (.g [.d (DL (α := Rect) [])]))) ∧ True) [(6, .v (.c (.ptr 6 0))), (7, vi z1227)] [(6, .box false [.d (DL (α := Rect) [])])] ⟨ALe.g ⟨CLe.fl .nil, True.intro⟩, True.intro⟩ (by kernel_rfl) ?_
    refine AW.ret ?_
    obtain rfl := Option.some.inj h
    exact Kn.r Fm [(6, .v (.c (.ptr 6 0))), (7, vi z1227)] [(6, .box false [.d (DL (α := Rect) [])])] (by kernel_rfl) (Kn.dn Fm (by kernel_rfl))
  · have h := br_f h hb1229
    refine AW.skip ?_
    refine AW.seq ?_
    refine AW.join (r := r) (fun z : Bool => feature_Kind_k0 F x1224 x1225 x1226 z) (fun z => [(0, AL x1224), (2, vi x1226), (4, .v (.c (.ptr 4 0))), (6, .v (.c (.ptr 6 0))), (21, vb z)]) (fun z => [(4, .box false [ci x1225]), (6, .box false [.fl 0 fun _ => []])]) (fun v1231 h => ?_) (fun J1232 hJ1232 => ?_)
    · have h : feature_Kind_k0 F x1224 x1225 x1226 v1231 = some r := h
      refine AW.cond (b := v1231) (by kernel_rfl) (fun hb1233 => ?_) (fun hb1233 => ?_)
      · have h := br_t h hb1233
        refine AW.sg Fm [.w (.v (.g [.d (DL (α := Rect) [])])), .s, .s] (fun K => (ALe (.v (.g [.fl 0 fun _ => []])) (.v (.g [.d (DL (α := Rect) [])]))) ∧ True) [(6, .v (.c (.ptr 6 0))), (7, vi (14 : Int))] [(6, .box false [.d (DL (α := Rect) [])])] ⟨ALe.g ⟨CLe.fl .nil, True.intro⟩, True.intro⟩ (by kernel_rfl) ?_
        refine AW.ret ?_
        obtain rfl := Option.some.inj h
        exact Kn.r Fm [(6, .v (.c (.ptr 6 0))), (7, vi (14 : Int))] [(6, .box false [.d (DL (α := Rect) [])])] (by kernel_rfl) (Kn.dn Fm (by kernel_rfl))
      · have h := br_f h hb1233
        refine AW.skip ?_
        refine AW.seq ?_
        obtain ⟨z1234, hz1235, h⟩ := bd_some h
        obtain ⟨z1236, hz1237, h⟩ := bd_some h
        refine AW.g Fm [.s, .s, .s, .k (cE [] [4] (AL z1234) [] []), .k (cE [] [] (.t [.g [.d (DL z1236.1.rects_)], .c (ci z1236.2)]) [] []), .s, .s, .s, .s] (fun K => K 3 ∧ K 4 ∧ True) [(6, .v (.c (.ptr 6 0))), (7, vi z1236.2)] [(6, .box false [.d (DL z1236.1.rects_)])] ⟨KAt.callX (args := [AL x1224, vi x1226, .v (.c (.sem (CloOK Tryz.prog (FR_Int_Bool (fun y0 => feature_Kind_1 F y0 x1225)))))]) (feature_Rects_spec hz1235) Tryz.call75 [] [4] [.tmp 23, .tmp 24, .tmp 25] rfl (by kernel_rfl) (by kernel_rfl) (by kernel_rfl) ⟨ArgT.plain (by kernel_rfl) (ALe.of_eq (by kernel_rfl)) (by kernel_rfl), ArgT.plain (by kernel_rfl) (ALe.of_eq (by kernel_rfl)) (by kernel_rfl), ArgT.cloX Tryz.call76 [[ci x1225]] (fun args r hq => by obtain ⟨y0, y, hq, rfl, rfl⟩ := hq; exact Eq.mp (by kernel_rfl) (feature_Kind_1_spec hq)) (fun args r hq => by obtain ⟨y0, y, hq, rfl, rfl⟩ := hq; rfl) (by kernel_rfl) [4] (by kernel_rfl) (by kernel_rfl) (⟨⟨false, (by kernel_rfl)⟩, True.intro⟩) (by kernel_rfl), True.intro⟩, KAt.cl (args := [AL z1234]) (region_Joined_spec hz1237) Tryz.call74 [] rfl (by kernel_rfl), True.intro⟩ (by kernel_rfl) ?_
        refine AW.ret ?_
        obtain rfl := Option.some.inj h
        exact Kn.r Fm [(6, .v (.c (.ptr 6 0))), (7, vi z1236.2)] [(6, .box false [.d (DL z1236.1.rects_)])] (by kernel_rfl) (Kn.dn Fm (by kernel_rfl))
    · rcases Bool.eq_false_or_eq_true (decide (x1225 < (0 : Int))) with hb1230 | hb1230
      · have h := br_t h hb1230
        refine AW.g Fm [.s, .s, .w (vb true), .s, .s, .s] (fun K => (ALe (vb (decide (x1225 < (0 : Int)))) (vb true)) ∧ True) [(0, AL x1224), (2, vi x1226), (4, .v (.c (.ptr 4 0))), (6, .v (.c (.ptr 6 0))), (21, vb true)] [(4, .box false [ci x1225]), (6, .box false [.fl 0 fun _ => []])] ⟨ALe.bool hb1230, True.intro⟩ (by kernel_rfl) ?_
        exact Kn.r Fm [(0, AL x1224), (2, vi x1226), (4, .v (.c (.ptr 4 0))), (6, .v (.c (.ptr 6 0))), (21, vb true)] [(4, .box false [ci x1225]), (6, .box false [.fl 0 fun _ => []])] (by kernel_rfl) (hJ1232 true h)
      · have h := br_f h hb1230
        refine AW.g Fm [.s, .s, .w (vb false), .s, .s, .s] (fun K => (ALe (vb (decide (x1225 < (0 : Int)))) (vb false)) ∧ True) [(0, AL x1224), (2, vi x1226), (4, .v (.c (.ptr 4 0))), (6, .v (.c (.ptr 6 0))), (21, vb (decide ((15 : Int) < x1225)))] [(4, .box false [ci x1225]), (6, .box false [.fl 0 fun _ => []])] ⟨ALe.bool hb1230, True.intro⟩ (by kernel_rfl) ?_
        exact Kn.r Fm [(0, AL x1224), (2, vi x1226), (4, .v (.c (.ptr 4 0))), (6, .v (.c (.ptr 6 0))), (21, vb (decide ((15 : Int) < x1225)))] [(4, .box false [ci x1225]), (6, .box false [.fl 0 fun _ => []])] (by kernel_rfl) (hJ1232 (decide ((15 : Int) < x1225)) h)
/- landaid/landaidref04.Has -/
theorem ref04_Has_spec {F : Nat} {x1238 : Region} {x1239 : Int} {x1240 : Int} {r : Bool} (h : ref04_Has F x1238 x1239 x1240 = some r) :
    FSpec Tryz.prog 25 [.v (.g [.d (DL x1238.rects_)]), vi x1239, vi x1240] [] (vb r) [] := by
  refine FSpec.intro prog_mixed prog_lay Tryz.func25 rfl (by kernel_rfl) fun C Fm => ?_
  unfold ref04_Has at h
  refine AW.sg0 Fm 2 [(1, vi x1239), (2, vi x1240), (3, .v (.c (.ptr 3 0)))] [(3, .box false [.d (DL x1238.rects_)])] (by kernel_rfl) ?_
  refine AW.join (r := r) (fun z : Bool => ref04_Has_k0 F z) (fun z => [(6, vb z)]) (fun z => []) (fun v1246 h => ?_) (fun J1247 hJ1247 => ?_)
  · have h : ref04_Has_k0 F v1246 = some r := h
    refine AW.ret ?_
    obtain rfl := Option.some.inj h
    exact Kn.r Fm [(6, vb v1246)] [] (by kernel_rfl) (Kn.dn Fm (by kernel_rfl))
  · obtain ⟨z1241, hz1242, h⟩ := bd_some h
    rcases Bool.eq_false_or_eq_true z1241 with hb1243 | hb1243
    · have h := br_t h hb1243
      obtain ⟨z1244, hz1245, h⟩ := bd_some h
      refine AW.g Fm [.s, .k (cE [] [] (vb z1241) [] []), .w (vb true), .s, .s, .s, .s, .k (cE [] [] (vb z1244) [] []), .s, .s] (fun K => K 1 ∧ (ALe (vb z1241) (vb true)) ∧ K 7 ∧ True) [(6, vb z1244)] [] ⟨KAt.cl (args := [.v (.g [.d (DL x1238.rects_)])]) (ref04_Valid_spec hz1242) Tryz.call15 [] rfl (by kernel_rfl), ALe.bool hb1243, KAt.cl (args := [AL x1238.rects_, vi x1239, vi x1240]) (ref04_inside_spec hz1245) Tryz.call77 [] rfl (by kernel_rfl), True.intro⟩ (by kernel_rfl) ?_
      exact Kn.r Fm [(6, vb z1244)] [] (by kernel_rfl) (hJ1247 z1244 h)
    · have h := br_f h hb1243
      refine AW.g Fm [.s, .k (cE [] [] (vb z1241) [] []), .w (vb false), .s, .s, .s, .s, .s, .s, .s] (fun K => K 1 ∧ (ALe (vb z1241) (vb false)) ∧ True) [(6, vb false)] [] ⟨KAt.cl (args := [.v (.g [.d (DL x1238.rects_)])]) (ref04_Valid_spec hz1242) Tryz.call15 [] rfl (by kernel_rfl), ALe.bool hb1243, True.intro⟩ (by kernel_rfl) ?_
      exact Kn.r Fm [(6, vb false)] [] (by kernel_rfl) (hJ1247 false h)
/- landaid/region.overlap -/
theorem region_overlap_spec {F : Nat} {x1248 : Rect} {x1249 : Rect} {r : Bool} (h : region_overlap F x1248 x1249 = some r) :
    FSpec Tryz.prog 125 [gE x1248, gE x1249] [] (vb r) [] := by
  refine FSpec.intro prog_mixed prog_lay Tryz.func125 rfl (by kernel_rfl) fun C Fm => ?_
  unfold region_overlap at h
  refine AW.sg0 Fm 3 [(2, .v (.c (.ptr 2 0))), (3, .v (.c (.ptr 3 0)))] [(2, .box false (gC x1248)), (3, .box false (gC x1249))] (by kernel_rfl) ?_
  refine AW.join (r := r) (fun z : Bool => region_overlap_k0 F z) (fun z => [(4, vb z)]) (fun z => []) (fun v1253 h => ?_) (fun J1254 hJ1254 => ?_)
  · have h : region_overlap_k0 F v1253 = some r := h
    refine AW.ret ?_
    obtain rfl := Option.some.inj h
    exact Kn.r Fm [(4, vb v1253)] [] (by kernel_rfl) (Kn.dn Fm (by kernel_rfl))
  · rcases Bool.eq_false_or_eq_true (decide (x1248.left_ < x1249.right_)) with hb1250 | hb1250
    · have h := br_t h hb1250
      rcases Bool.eq_false_or_eq_true (decide (x1249.left_ < x1248.right_)) with hb1251 | hb1251
      · have h := br_t h hb1251
        rcases Bool.eq_false_or_eq_true (decide (x1248.low_ < x1249.high_)) with hb1252 | hb1252
        · have h := br_t h hb1252
          refine AW.g Fm [.s, .s, .s, .s, .s, .w (vb true), .s, .s, .s, .s, .s, .s, .w (vb true), .s, .s, .s, .s, .s, .s, .w (vb true), .s, .s, .s, .s, .s, .s, .s] (fun K => (ALe (vb (decide (x1248.left_ < x1249.right_))) (vb true)) ∧ (ALe (vb (decide (x1249.left_ < x1248.right_))) (vb true)) ∧ (ALe (vb (decide (x1248.low_ < x1249.high_))) (vb true)) ∧ True) [(4, vb (decide (x1249.low_ < x1248.high_)))] [] ⟨ALe.bool hb1250, ALe.bool hb1251, ALe.bool hb1252, True.intro⟩ (by kernel_rfl) ?_
          exact Kn.r Fm [(4, vb (decide (x1249.low_ < x1248.high_)))] [] (by kernel_rfl) (hJ1254 (decide (x1249.low_ < x1248.high_)) h)
        · have h := br_f h hb1252
          refine AW.g Fm [.s, .s, .s, .s, .s, .w (vb true), .s, .s, .s, .s, .s, .s, .w (vb true), .s, .s, .s, .s, .s, .s, .w (vb false), .s, .s, .s, .s, .s, .s, .s] (fun K => (ALe (vb (decide (x1248.left_ < x1249.right_))) (vb true)) ∧ (ALe (vb (decide (x1249.left_ < x1248.right_))) (vb true)) ∧ (ALe (vb (decide (x1248.low_ < x1249.high_))) (vb false)) ∧ True) [(4, vb false)] [] ⟨ALe.bool hb1250, ALe.bool hb1251, ALe.bool hb1252, True.intro⟩ (by kernel_rfl) ?_
          exact Kn.r Fm [(4, vb false)] [] (by kernel_rfl) (hJ1254 false h)
      · have h := br_f h hb1251
        refine AW.g Fm [.s, .s, .s, .s, .s, .w (vb true), .s, .s, .s, .s, .s, .s, .w (vb false), .s, .s, .s, .s, .s, .s, .s, .s, .s, .s, .s, .s, .s, .s] (fun K => (ALe (vb (decide (x1248.left_ < x1249.right_))) (vb true)) ∧ (ALe (vb (decide (x1249.left_ < x1248.right_))) (vb false)) ∧ True) [(4, vb false)] [] ⟨ALe.bool hb1250, ALe.bool hb1251, True.intro⟩ (by kernel_rfl) ?_
        exact Kn.r Fm [(4, vb false)] [] (by kernel_rfl) (hJ1254 false h)
    · have h := br_f h hb1250
      refine AW.g Fm [.s, .s, .s, .s, .s, .w (vb false), .s, .s, .s, .s, .s, .s, .s, .s, .s, .s, .s, .s, .s, .s, .s, .s, .s, .s, .s, .s, .s] (fun K => (ALe (vb (decide (x1248.left_ < x1249.right_))) (vb false)) ∧ True) [(4, vb false)] [] ⟨ALe.bool hb1250, True.intro⟩ (by kernel_rfl) ?_
      exact Kn.r Fm [(4, vb false)] [] (by kernel_rfl) (hJ1254 false h)
/- landaid/region.Meets$1$1 -/
theorem region_Meets_1_1_spec {F : Nat} {x1255 : Rect} {x1256 : Rect} {r : Bool} (h : region_Meets_1_1 F x1255 x1256 = some r) :
    FSpec Tryz.prog 124 [gE x1255, .v (.c (.ptr 0 0))] [(0, .box true (gC x1256))] (vb r) [(0, .box true (gC x1256))] := by
  refine FSpec.intro prog_mixed prog_lay Tryz.func124 rfl (by kernel_rfl) fun C Fm => ?_
  unfold region_Meets_1_1 at h
  refine AW.sg0 Fm 2 [(1, .v (.c (.ptr 0 0))), (2, .v (.c (.ptr 2 0)))] [(0, .box true (gC x1256)), (2, .box false (gC x1255))] (by kernel_rfl) ?_
  refine AW.seq ?_
  obtain ⟨z1257, hz1258, h⟩ := bd_some h
  refine AW.g Fm [.s, .s, .k (cE [] [] (vb z1257) [] []), .s] (fun K => K 2 ∧ True) [(3, vb z1257)] [(0, .box true (gC x1256))] ⟨KAt.cl (args := [gE x1256, gE x1255]) (region_overlap_spec hz1258) Tryz.call125 [] rfl (by kernel_rfl), True.intro⟩ (by kernel_rfl) ?_
  refine AW.ret ?_
  obtain rfl := Option.some.inj h
  exact Kn.r Fm [(3, vb z1257)] [(0, .box true (gC x1256))] (by kernel_rfl) (Kn.dn Fm (by kernel_rfl))
/- landaid/region.Meets$1 -/
theorem region_Meets_1_spec {F : Nat} {x1259 : Rect} {x1260 : Region} {r : Bool} (h : region_Meets_1 F x1259 x1260 = some r) :
    FSpec Tryz.prog 123 [gE x1259, .v (.c (.ptr 0 0))] [(0, .box true [.d (DL x1260.rects_)])] (vb r) [(0, .box true [.d (DL x1260.rects_)])] := by
  refine FSpec.intro prog_mixed prog_lay Tryz.func123 rfl (by kernel_rfl) fun C Fm => ?_
  unfold region_Meets_1 at h
  refine AW.sg0 Fm 2 [(1, .v (.c (.ptr 0 0))), (2, .v (.c (.ptr 2 0)))] [(0, .box true [.d (DL x1260.rects_)]), (2, .box false (gC x1259))] (by kernel_rfl) ?_
  refine AW.seq ?_
  obtain ⟨z1261, hz1262, h⟩ := bd_some h
  refine AW.g Fm [.s, .s, .s, .k (cE [] [2] (vb z1261) [] []), .s] (fun K => K 3 ∧ True) [(3, vb z1261)] [(0, .box true [.d (DL x1260.rects_)])] ⟨KAt.callX (args := [AL x1260.rects_, .v (.c (.sem (CloOK Tryz.prog (FR_Rect_Bool (fun y0 => region_Meets_1_1 F y0 x1259)))))]) (slices_ContainsFunc_Rect_spec hz1262) Tryz.call108 [] [2] [.tmp 5, .tmp 6] rfl (by kernel_rfl) (by kernel_rfl) (by kernel_rfl) ⟨ArgT.plain (by kernel_rfl) (ALe.of_eq (by kernel_rfl)) (by kernel_rfl), ArgT.cloX Tryz.call124 [[ci x1259.left_, ci x1259.low_, ci x1259.right_, ci x1259.high_]] (fun args r hq => by obtain ⟨y0, y, hq, rfl, rfl⟩ := hq; exact Eq.mp (by kernel_rfl) (region_Meets_1_1_spec hq)) (fun args r hq => by obtain ⟨y0, y, hq, rfl, rfl⟩ := hq; rfl) (by kernel_rfl) [2] (by kernel_rfl) (by kernel_rfl) (⟨⟨false, (by kernel_rfl)⟩, True.intro⟩) (by kernel_rfl), True.intro⟩, True.intro⟩ (by kernel_rfl) ?_
  refine AW.ret ?_
  obtain rfl := Option.some.inj h
  exact Kn.r Fm [(3, vb z1261)] [(0, .box true [.d (DL x1260.rects_)])] (by kernel_rfl) (Kn.dn Fm (by kernel_rfl))
/- landaid/region.Meets -/
theorem region_Meets_spec {F : Nat} {x1263 : Region} {x1264 : Region} {r : Bool} (h : region_Meets F x1263 x1264 = some r) :
    FSpec Tryz.prog 65 [.v (.g [.d (DL x1263.rects_)]), .v (.g [.d (DL x1264.rects_)])] [] (vb r) [] := by
  refine FSpec.intro prog_mixed prog_lay Tryz.func65 rfl (by kernel_rfl) fun C Fm => ?_
  unfold region_Meets at h
  refine AW.sg0 Fm 3 [(2, .v (.c (.ptr 2 0))), (3, .v (.c (.ptr 3 0)))] [(2, .box false [.d (DL x1263.rects_)]), (3, .box false [.d (DL x1264.rects_)])] (by kernel_rfl) ?_
  refine AW.join (r := r) (fun z : Bool => region_Meets_k0 F z) (fun z => [(4, vb z)]) (fun z => []) (fun v1273 h => ?_) (fun J1274 hJ1274 => ?_)
  · have h : region_Meets_k0 F v1273 = some r := h
    refine AW.ret ?_
    obtain rfl := Option.some.inj h
    exact Kn.r Fm [(4, vb v1273)] [] (by kernel_rfl) (Kn.dn Fm (by kernel_rfl))
  · obtain ⟨z1265, hz1266, h⟩ := bd_some h
    rcases Bool.eq_false_or_eq_true z1265 with hb1267 | hb1267
    · have h := br_t h hb1267
      obtain ⟨z1268, hz1269, h⟩ := bd_some h
      rcases Bool.eq_false_or_eq_true z1268 with hb1270 | hb1270
      · have h := br_t h hb1270
        obtain ⟨z1271, hz1272, h⟩ := bd_some h
        refine AW.g Fm [.s, .k (cE [] [] (vb z1265) [] []), .w (vb true), .s, .k (cE [] [] (vb z1268) [] []), .s, .w (vb true), .s, .s, .s, .k (cE [] [3] (vb z1271) [] []), .s, .s] (fun K => K 1 ∧ (ALe (vb z1265) (vb true)) ∧ K 4 ∧ (ALe (vb z1268) (vb true)) ∧ K 10 ∧ True) [(4, vb z1271)] [] ⟨KAt.cl (args := [.v (.g [.d (DL x1263.rects_)])]) (region_Valid_spec hz1266) Tryz.call55 [] rfl (by kernel_rfl), ALe.bool hb1267, KAt.cl (args := [.v (.g [.d (DL x1264.rects_)])]) (region_Valid_spec hz1269) Tryz.call55 [] rfl (by kernel_rfl), ALe.bool hb1270, KAt.callX (args := [AL x1263.rects_, .v (.c (.sem (CloOK Tryz.prog (FR_Rect_Bool (fun y0 => region_Meets_1 F y0 x1264)))))]) (slices_ContainsFunc_Rect_spec hz1272) Tryz.call108 [] [3] [.tmp 13, .tmp 14] rfl (by kernel_rfl) (by kernel_rfl) (by kernel_rfl) ⟨ArgT.plain (by kernel_rfl) (ALe.of_eq (by kernel_rfl)) (by kernel_rfl), ArgT.cloX Tryz.call123 [[.d (DL x1264.rects_)]] (fun args r hq => by obtain ⟨y0, y, hq, rfl, rfl⟩ := hq; exact Eq.mp (by kernel_rfl) (region_Meets_1_spec hq)) (fun args r hq => by obtain ⟨y0, y, hq, rfl, rfl⟩ := hq; rfl) (by kernel_rfl) [3] (by kernel_rfl) (by kernel_rfl) (⟨⟨false, (by kernel_rfl)⟩, True.intro⟩) (by kernel_rfl), True.intro⟩, True.intro⟩ (by kernel_rfl) ?_
        exact Kn.r Fm [(4, vb z1271)] [] (by kernel_rfl) (hJ1274 z1271 h)
      · have h := br_f h hb1270
        refine AW.g Fm [.s, .k (cE [] [] (vb z1265) [] []), .w (vb true), .s, .k (cE [] [] (vb z1268) [] []), .s, .w (vb false), .s, .s, .s, .s, .s, .s] (fun K => K 1 ∧ (ALe (vb z1265) (vb true)) ∧ K 4 ∧ (ALe (vb z1268) (vb false)) ∧ True) [(4, vb false)] [] ⟨KAt.cl (args := [.v (.g [.d (DL x1263.rects_)])]) (region_Valid_spec hz1266) Tryz.call55 [] rfl (by kernel_rfl), ALe.bool hb1267, KAt.cl (args := [.v (.g [.d (DL x1264.rects_)])]) (region_Valid_spec hz1269) Tryz.call55 [] rfl (by kernel_rfl), ALe.bool hb1270, True.intro⟩ (by kernel_rfl) ?_
        exact Kn.r Fm [(4, vb false)] [] (by kernel_rfl) (hJ1274 false h)
    · have h := br_f h hb1267
      refine AW.g Fm [.s, .k (cE [] [] (vb z1265) [] []), .w (vb false), .s, .s, .s, .s, .s, .s, .s, .s, .s, .s] (fun K => K 1 ∧ (ALe (vb z1265) (vb false)) ∧ True) [(4, vb false)] [] ⟨KAt.cl (args := [.v (.g [.d (DL x1263.rects_)])]) (region_Valid_spec hz1266) Tryz.call55 [] rfl (by kernel_rfl), ALe.bool hb1267, True.intro⟩ (by kernel_rfl) ?_
      exact Kn.r Fm [(4, vb false)] [] (by kernel_rfl) (hJ1274 false h)
/- landaid/feature.Apart -/
theorem feature_Apart_spec {F : Nat} {x1275 : (List Feature)} {r : Int × Int × Bool × Int} (h : feature_Apart F x1275 = some r) :
    FSpec Tryz.prog 26 [AL x1275] [] (.t [.c (ci r.1), .c (ci r.2.1), .c (.d (.bool r.2.2.1)), .c (ci r.2.2.2)]) [] := by
  refine FSpec.intro prog_mixed prog_lay Tryz.func26 rfl (by kernel_rfl) fun C Fm => ?_
  unfold feature_Apart at h
  refine AW.sg0 Fm 4 [(0, AL x1275)] [] (by kernel_rfl) ?_
  refine AW.seq ?_
  refine AW.seq ?_
  obtain ⟨z1276, hz1277, h⟩ := bd_some h
  refine AW.g Fm [.s, .k (cE [] [] (vi z1276) [] []), .s] (fun K => K 1 ∧ True) [(0, AL x1275), (6, vi z1276)] [] ⟨KAt.cl (args := [AL x1275]) (feature_Check_spec hz1277) Tryz.call78 [] rfl (by kernel_rfl), True.intro⟩ (by kernel_rfl) ?_
  refine AW.sg0 Fm 2 [(0, AL x1275), (6, vi z1276), (14, vb (z1276 != (0 : Int)))] [] (by kernel_rfl) ?_
  refine AW.cond (b := (z1276 != (0 : Int))) (by kernel_rfl) (fun hb1278 => ?_) (fun hb1278 => ?_)
  · have h := br_t h hb1278
    refine AW.sg0 Fm 5 [(2, vi (0 : Int)), (3, vi (0 : Int)), (4, vb false), (5, vi z1276)] [] (by kernel_rfl) ?_
    refine AW.ret ?_
    obtain rfl := Option.some.inj h
    exact Kn.r Fm [(2, vi (0 : Int)), (3, vi (0 : Int)), (4, vb false), (5, vi z1276)] [] (by kernel_rfl) (Kn.dn Fm (by kernel_rfl))
  · have h := br_f h hb1278
    refine AW.skip ?_
    refine AW.join (r := r) (fun z : Unit => feature_Apart_k4 F) (fun z => []) (fun z => []) (fun z h => ?_) (fun J1340 hJ1340 => ?_)
    · have h : feature_Apart_k4 F = some r := h
      refine AW.sg0 Fm 4 [(2, vi (0 : Int)), (3, vi (0 : Int)), (4, vb false), (5, vi (0 : Int))] [] (by kernel_rfl) ?_
      refine AW.ret ?_
      obtain rfl := Option.some.inj h
      exact Kn.r Fm [(2, vi (0 : Int)), (3, vi (0 : Int)), (4, vb false), (5, vi (0 : Int))] [] (by kernel_rfl) (Kn.dn Fm (by kernel_rfl))
    · refine AW.sg0 Fm 3 [(0, AL x1275), (16, AL x1275), (17, vi ((List.length x1275 : Nat) : Int)), (18, vi (0 : Int))] [] (by kernel_rfl) ?_
      refine AW.block ?_
      refine Kn.r Fm [(0, AL x1275), (16, AL x1275), (17, vi ((List.length x1275 : Nat) : Int)), (18, vi (0 : Int))] [] (by kernel_rfl) ?_
      have h : loopN (fun again (z : Int) => feature_Apart_b0 F x1275 again z) F (0 : Int) = some r := h
      refine AW.loopF (E' := fun z => [(0, AL x1275), (16, AL x1275), (17, vi ((List.length x1275 : Nat) : Int)), (18, vi z)]) (S' := fun z => []) (fun ag_feature_Apart_b0 v1309 J1310 hJ1310 h => ?_) h
      have h : feature_Apart_b0 F x1275 ag_feature_Apart_b0 v1309 = some r := h
      refine AW.sg0 Fm 1 [(0, AL x1275), (16, AL x1275), (17, vi ((List.length x1275 : Nat) : Int)), (18, vi v1309), (19, vb (decide (v1309 < ((List.length x1275 : Nat) : Int))))] [] (by kernel_rfl) ?_
      refine AW.seq ?_
      refine AW.cond (b := (decide (v1309 < ((List.length x1275 : Nat) : Int)))) (by kernel_rfl) (fun hb1311 => ?_) (fun hb1311 => ?_)
      · have h := br_t h hb1311
        refine AW.skip ?_
        refine AW.join (r := r) (fun z : Unit => feature_Apart_k3 F v1309 ag_feature_Apart_b0) (fun z => [(0, AL x1275), (16, AL x1275), (17, vi ((List.length x1275 : Nat) : Int)), (18, vi v1309)]) (fun z => []) (fun z h => ?_) (fun J1338 hJ1338 => ?_)
        · have h : feature_Apart_k3 F v1309 ag_feature_Apart_b0 = some r := h
          obtain ⟨hg1339, h⟩ := gd_some h
          refine AW.g Fm [.s, .s] (fun K => (I64 (v1309 + (1 : Int)) ∧ True) ∧ True) [(0, AL x1275), (16, AL x1275), (17, vi ((List.length x1275 : Nat) : Int)), (18, vi (v1309 + (1 : Int)))] [] ⟨⟨hg1339, True.intro⟩, True.intro⟩ (by kernel_rfl) ?_
          exact Kn.r Fm [(0, AL x1275), (16, AL x1275), (17, vi ((List.length x1275 : Nat) : Int)), (18, vi (v1309 + (1 : Int)))] [] (by kernel_rfl) (hJ1310 (v1309 + (1 : Int)) h)
        · refine AW.block ?_
          obtain ⟨hg1312, h⟩ := gd_some h
          refine AW.sg Fm [.s, .s, .s, .s, .s, .s] (fun K => (0 ≤ v1309 ∧ v1309 < ((List.length x1275 : Nat) : Int)) ∧ True) [(0, AL x1275), (7, vi v1309), (8, .v (.c (.ptr 8 0))), (16, AL x1275), (17, vi ((List.length x1275 : Nat) : Int)), (18, vi v1309)] [(8, .box false [ci ((gl x1275 v1309.toNat).number_), ci ((gl x1275 v1309.toNat).kind_), ci ((gl x1275 v1309.toNat).from_), ci ((gl x1275 v1309.toNat).until_), .d (DL (α := Rect) (gl x1275 v1309.toNat).region_.rects_)])] ⟨hg1312, True.intro⟩ (by kernel_rfl) ?_
          obtain ⟨hg1313, h⟩ := gd_some h
          obtain ⟨hg1314, h⟩ := gd_some h
          refine AW.sg Fm [.s, .s, .s, .w (AL (α := Feature) (x1275.drop (v1309 + (1 : Int)).toNat)), .s, .s] (fun K => (I64 (v1309 + (1 : Int)) ∧ True) ∧ (((sl (List.length x1275) (LF x1275) (some (v1309 + (1 : Int))) none).2 ∧ ∀ j, j < List.length x1275 → (LF x1275 j).length = 5)) ∧ (ALe (.v (.c (.d (.lst (sl (List.length x1275) (LF x1275) (some (v1309 + (1 : Int))) none).1.1 (sl (List.length x1275) (LF x1275) (some (v1309 + (1 : Int))) none).1.2)))) (AL (α := Feature) (x1275.drop (v1309 + (1 : Int)).toNat))) ∧ True) [(0, AL x1275), (8, .v (.c (.ptr 8 0))), (16, AL x1275), (17, vi ((List.length x1275 : Nat) : Int)), (18, vi v1309), (26, AL (α := Feature) (x1275.drop (v1309 + (1 : Int)).toNat)), (27, vi ((List.length (x1275.drop (v1309 + (1 : Int)).toNat) : Nat) : Int)), (28, vi (0 : Int))] [(8, .box false [ci ((gl x1275 v1309.toNat).number_), ci ((gl x1275 v1309.toNat).kind_), ci ((gl x1275 v1309.toNat).from_), ci ((gl x1275 v1309.toNat).until_), .d (DL (α := Rect) (gl x1275 v1309.toNat).region_.rects_)])] ⟨⟨hg1313, True.intro⟩, ⟨hg1314, (Is.refl x1275).len⟩, ALe.lst (sl_is x1275 (some (v1309 + (1 : Int))) none hg1314), True.intro⟩ (by kernel_rfl) ?_
          refine AW.block ?_
          refine Kn.r Fm [(0, AL x1275), (8, .v (.c (.ptr 8 0))), (16, AL x1275), (17, vi ((List.length x1275 : Nat) : Int)), (18, vi v1309), (26, AL (α := Feature) (x1275.drop (v1309 + (1 : Int)).toNat)), (27, vi ((List.length (x1275.drop (v1309 + (1 : Int)).toNat) : Nat) : Int)), (28, vi (0 : Int))] [(8, .box false [ci ((gl x1275 v1309.toNat).number_), ci ((gl x1275 v1309.toNat).kind_), ci ((gl x1275 v1309.toNat).from_), ci ((gl x1275 v1309.toNat).until_), .d (DL (α := Rect) (gl x1275 v1309.toNat).region_.rects_)])] (by kernel_rfl) ?_
          have h : loopN (fun again (z : Int) => feature_Apart_b1 F x1275 v1309 ag_feature_Apart_b0 again z) F (0 : Int) = some r := h
          refine AW.loopF (E' := fun z => [(0, AL x1275), (8, .v (.c (.ptr 8 0))), (16, AL x1275), (17, vi ((List.length x1275 : Nat) : Int)), (18, vi v1309), (26, AL (α := Feature) (x1275.drop (v1309 + (1 : Int)).toNat)), (27, vi ((List.length (x1275.drop (v1309 + (1 : Int)).toNat) : Nat) : Int)), (28, vi z)]) (S' := fun z => [(8, .box false [ci ((gl x1275 v1309.toNat).number_), ci ((gl x1275 v1309.toNat).kind_), ci ((gl x1275 v1309.toNat).from_), ci ((gl x1275 v1309.toNat).until_), .d (DL (α := Rect) (gl x1275 v1309.toNat).region_.rects_)])]) (fun ag_feature_Apart_b1 v1326 J1327 hJ1327 h => ?_) h
          have h : feature_Apart_b1 F x1275 v1309 ag_feature_Apart_b0 ag_feature_Apart_b1 v1326 = some r := h
          refine AW.sg0 Fm 1 [(0, AL x1275), (8, .v (.c (.ptr 8 0))), (16, AL x1275), (17, vi ((List.length x1275 : Nat) : Int)), (18, vi v1309), (26, AL (α := Feature) (x1275.drop (v1309 + (1 : Int)).toNat)), (27, vi ((List.length (x1275.drop (v1309 + (1 : Int)).toNat) : Nat) : Int)), (28, vi v1326), (29, vb (decide (v1326 < ((List.length (x1275.drop (v1309 + (1 : Int)).toNat) : Nat) : Int))))] [(8, .box false [ci ((gl x1275 v1309.toNat).number_), ci ((gl x1275 v1309.toNat).kind_), ci ((gl x1275 v1309.toNat).from_), ci ((gl x1275 v1309.toNat).until_), .d (DL (α := Rect) (gl x1275 v1309.toNat).region_.rects_)])] (by kernel_rfl) ?_
          refine AW.seq ?_
          refine AW.cond (b := (decide (v1326 < ((List.length (x1275.drop (v1309 + (1 : Int)).toNat) : Nat) : Int)))) (by kernel_rfl) (fun hb1328 => ?_) (fun hb1328 => ?_)
          · have h := br_t h hb1328
            refine AW.skip ?_
            refine AW.seq ?_
            refine AW.block ?_
            obtain ⟨hg1329, h⟩ := gd_some h
            refine AW.sg Fm [.s, .s, .s, .s] (fun K => (0 ≤ v1326 ∧ v1326 < ((List.length (x1275.drop (v1309 + (1 : Int)).toNat) : Nat) : Int)) ∧ True) [(0, AL x1275), (8, .v (.c (.ptr 8 0))), (10, .v (.c (.ptr 10 0))), (16, AL x1275), (17, vi ((List.length x1275 : Nat) : Int)), (18, vi v1309), (26, AL (α := Feature) (x1275.drop (v1309 + (1 : Int)).toNat)), (27, vi ((List.length (x1275.drop (v1309 + (1 : Int)).toNat) : Nat) : Int)), (28, vi v1326)] [(8, .box false [ci ((gl x1275 v1309.toNat).number_), ci ((gl x1275 v1309.toNat).kind_), ci ((gl x1275 v1309.toNat).from_), ci ((gl x1275 v1309.toNat).until_), .d (DL (α := Rect) (gl x1275 v1309.toNat).region_.rects_)]), (10, .box false [ci ((gl (x1275.drop (v1309 + (1 : Int)).toNat) v1326.toNat).number_), ci ((gl (x1275.drop (v1309 + (1 : Int)).toNat) v1326.toNat).kind_), ci ((gl (x1275.drop (v1309 + (1 : Int)).toNat) v1326.toNat).from_), ci ((gl (x1275.drop (v1309 + (1 : Int)).toNat) v1326.toNat).until_), .d (DL (α := Rect) (gl (x1275.drop (v1309 + (1 : Int)).toNat) v1326.toNat).region_.rects_)])] ⟨hg1329, True.intro⟩ (by kernel_rfl) ?_
            refine AW.join (r := r) (fun z : Bool => feature_Apart_k2 F x1275 v1309 v1326 ag_feature_Apart_b1 z) (fun z => [(0, AL x1275), (8, .v (.c (.ptr 8 0))), (10, .v (.c (.ptr 10 0))), (16, AL x1275), (17, vi ((List.length x1275 : Nat) : Int)), (18, vi v1309), (26, AL (α := Feature) (x1275.drop (v1309 + (1 : Int)).toNat)), (27, vi ((List.length (x1275.drop (v1309 + (1 : Int)).toNat) : Nat) : Int)), (28, vi v1326), (50, vb z)]) (fun z => [(8, .box false [ci ((gl x1275 v1309.toNat).number_), ci ((gl x1275 v1309.toNat).kind_), ci ((gl x1275 v1309.toNat).from_), ci ((gl x1275 v1309.toNat).until_), .d (DL (α := Rect) (gl x1275 v1309.toNat).region_.rects_)]), (10, .box false [ci ((gl (x1275.drop (v1309 + (1 : Int)).toNat) v1326.toNat).number_), ci ((gl (x1275.drop (v1309 + (1 : Int)).toNat) v1326.toNat).kind_), ci ((gl (x1275.drop (v1309 + (1 : Int)).toNat) v1326.toNat).from_), ci ((gl (x1275.drop (v1309 + (1 : Int)).toNat) v1326.toNat).until_), .d (DL (α := Rect) (gl (x1275.drop (v1309 + (1 : Int)).toNat) v1326.toNat).region_.rects_)])]) (fun v1334 h => ?_) (fun J1335 hJ1335 => ?_)
            · have h : feature_Apart_k2 F x1275 v1309 v1326 ag_feature_Apart_b1 v1334 = some r := h
              refine AW.cond (b := v1334) (by kernel_rfl) (fun hb1336 => ?_) (fun hb1336 => ?_)
              · have h := br_t h hb1336
                refine AW.sg0 Fm 8 [(2, vi (gl x1275 v1309.toNat).number_), (3, vi (gl (x1275.drop (v1309 + (1 : Int)).toNat) v1326.toNat).number_), (4, vb true), (5, vi (0 : Int))] [] (by kernel_rfl) ?_
                refine AW.ret ?_
                obtain rfl := Option.some.inj h
                exact Kn.r Fm [(2, vi (gl x1275 v1309.toNat).number_), (3, vi (gl (x1275.drop (v1309 + (1 : Int)).toNat) v1326.toNat).number_), (4, vb true), (5, vi (0 : Int))] [] (by kernel_rfl) (Kn.dn Fm (by kernel_rfl))
              · have h := br_f h hb1336
                refine AW.skip ?_
                obtain ⟨hg1337, h⟩ := gd_some h
                refine AW.g Fm [.s, .s] (fun K => (I64 (v1326 + (1 : Int)) ∧ True) ∧ True) [(0, AL x1275), (8, .v (.c (.ptr 8 0))), (16, AL x1275), (17, vi ((List.length x1275 : Nat) : Int)), (18, vi v1309), (26, AL (α := Feature) (x1275.drop (v1309 + (1 : Int)).toNat)), (27, vi ((List.length (x1275.drop (v1309 + (1 : Int)).toNat) : Nat) : Int)), (28, vi (v1326 + (1 : Int)))] [(8, .box false [ci ((gl x1275 v1309.toNat).number_), ci ((gl x1275 v1309.toNat).kind_), ci ((gl x1275 v1309.toNat).from_), ci ((gl x1275 v1309.toNat).until_), .d (DL (α := Rect) (gl x1275 v1309.toNat).region_.rects_)])] ⟨⟨hg1337, True.intro⟩, True.intro⟩ (by kernel_rfl) ?_
                exact Kn.r Fm [(0, AL x1275), (8, .v (.c (.ptr 8 0))), (16, AL x1275), (17, vi ((List.length x1275 : Nat) : Int)), (18, vi v1309), (26, AL (α := Feature) (x1275.drop (v1309 + (1 : Int)).toNat)), (27, vi ((List.length (x1275.drop (v1309 + (1 : Int)).toNat) : Nat) : Int)), (28, vi (v1326 + (1 : Int)))] [(8, .box false [ci ((gl x1275 v1309.toNat).number_), ci ((gl x1275 v1309.toNat).kind_), ci ((gl x1275 v1309.toNat).from_), ci ((gl x1275 v1309.toNat).until_), .d (DL (α := Rect) (gl x1275 v1309.toNat).region_.rects_)])] (by kernel_rfl) (hJ1327 (v1326 + (1 : Int)) h)
            · rcases Bool.eq_false_or_eq_true (decide (((gl x1275 v1309.toNat).from_) < ((gl (x1275.drop (v1309 + (1 : Int)).toNat) v1326.toNat).until_))) with hb1330 | hb1330
              · have h := br_t h hb1330
                rcases Bool.eq_false_or_eq_true (decide (((gl (x1275.drop (v1309 + (1 : Int)).toNat) v1326.toNat).from_) < ((gl x1275 v1309.toNat).until_))) with hb1331 | hb1331
                · have h := br_t h hb1331
                  obtain ⟨z1332, hz1333, h⟩ := bd_some h
                  refine AW.g Fm [.s, .s, .s, .s, .s, .w (vb true), .s, .s, .s, .s, .s, .s, .w (vb true), .s, .s, .s, .s, .k (cE [] [] (vb z1332) [] []), .s] (fun K => (ALe (vb (decide (((gl x1275 v1309.toNat).from_) < ((gl (x1275.drop (v1309 + (1 : Int)).toNat) v1326.toNat).until_)))) (vb true)) ∧ (ALe (vb (decide (((gl (x1275.drop (v1309 + (1 : Int)).toNat) v1326.toNat).from_) < ((gl x1275 v1309.toNat).until_)))) (vb true)) ∧ K 17 ∧ True) [(0, AL x1275), (8, .v (.c (.ptr 8 0))), (10, .v (.c (.ptr 10 0))), (16, AL x1275), (17, vi ((List.length x1275 : Nat) : Int)), (18, vi v1309), (26, AL (α := Feature) (x1275.drop (v1309 + (1 : Int)).toNat)), (27, vi ((List.length (x1275.drop (v1309 + (1 : Int)).toNat) : Nat) : Int)), (28, vi v1326), (38, .v (.c (.ptr 10 2))), (39, vi (gl (x1275.drop (v1309 + (1 : Int)).toNat) v1326.toNat).from_), (40, .v (.c (.ptr 8 3))), (41, vi (gl x1275 v1309.toNat).until_), (42, vb (decide (((gl (x1275.drop (v1309 + (1 : Int)).toNat) v1326.toNat).from_) < ((gl x1275 v1309.toNat).until_)))), (45, .v (.c (.ptr 8 4))), (46, .v (.g [.d (DL (α := Rect) (gl x1275 v1309.toNat).region_.rects_)])), (47, .v (.c (.ptr 10 4))), (48, .v (.g [.d (DL (α := Rect) (gl (x1275.drop (v1309 + (1 : Int)).toNat) v1326.toNat).region_.rects_)])), (49, vb z1332), (50, vb z1332)] [(8, .box false [ci ((gl x1275 v1309.toNat).number_), ci ((gl x1275 v1309.toNat).kind_), ci ((gl x1275 v1309.toNat).from_), ci ((gl x1275 v1309.toNat).until_), .d (DL (α := Rect) (gl x1275 v1309.toNat).region_.rects_)]), (10, .box false [ci ((gl (x1275.drop (v1309 + (1 : Int)).toNat) v1326.toNat).number_), ci ((gl (x1275.drop (v1309 + (1 : Int)).toNat) v1326.toNat).kind_), ci ((gl (x1275.drop (v1309 + (1 : Int)).toNat) v1326.toNat).from_), ci ((gl (x1275.drop (v1309 + (1 : Int)).toNat) v1326.toNat).until_), .d (DL (α := Rect) (gl (x1275.drop (v1309 + (1 : Int)).toNat) v1326.toNat).region_.rects_)])] ⟨ALe.bool hb1330, ALe.bool hb1331, KAt.cl (args := [.v (.g [.d (DL (α := Rect) (gl x1275 v1309.toNat).region_.rects_)]), .v (.g [.d (DL (α := Rect) (gl (x1275.drop (v1309 + (1 : Int)).toNat) v1326.toNat).region_.rects_)])]) (region_Meets_spec hz1333) Tryz.call65 [] rfl (by kernel_rfl), True.intro⟩ (by kernel_rfl) ?_
                  exact Kn.r Fm [(0, AL x1275), (8, .v (.c (.ptr 8 0))), (10, .v (.c (.ptr 10 0))), (16, AL x1275), (17, vi ((List.length x1275 : Nat) : Int)), (18, vi v1309), (26, AL (α := Feature) (x1275.drop (v1309 + (1 : Int)).toNat)), (27, vi ((List.length (x1275.drop (v1309 + (1 : Int)).toNat) : Nat) : Int)), (28, vi v1326), (50, vb z1332)] [(8, .box false [ci ((gl x1275 v1309.toNat).number_), ci ((gl x1275 v1309.toNat).kind_), ci ((gl x1275 v1309.toNat).from_), ci ((gl x1275 v1309.toNat).until_), .d (DL (α := Rect) (gl x1275 v1309.toNat).region_.rects_)]), (10, .box false [ci ((gl (x1275.drop (v1309 + (1 : Int)).toNat) v1326.toNat).number_), ci ((gl (x1275.drop (v1309 + (1 : Int)).toNat) v1326.toNat).kind_), ci ((gl (x1275.drop (v1309 + (1 : Int)).toNat) v1326.toNat).from_), ci ((gl (x1275.drop (v1309 + (1 : Int)).toNat) v1326.toNat).until_), .d (DL (α := Rect) (gl (x1275.drop (v1309 + (1 : Int)).toNat) v1326.toNat).region_.rects_)])] (by kernel_rfl) (hJ1335 z1332 h)
                · have h := br_f h hb1331
                  refine AW.g Fm [.s, .s, .s, .s, .s, .w (vb true), .s, .s, .s, .s, .s, .s, .w (vb false), .s, .s, .s, .s, .s, .s] (fun K => (ALe (vb (decide (((gl x1275 v1309.toNat).from_) < ((gl (x1275.drop (v1309 + (1 : Int)).toNat) v1326.toNat).until_)))) (vb true)) ∧ (ALe (vb (decide (((gl (x1275.drop (v1309 + (1 : Int)).toNat) v1326.toNat).from_) < ((gl x1275 v1309.toNat).until_)))) (vb false)) ∧ True) [(0, AL x1275), (8, .v (.c (.ptr 8 0))), (10, .v (.c (.ptr 10 0))), (16, AL x1275), (17, vi ((List.length x1275 : Nat) : Int)), (18, vi v1309), (26, AL (α := Feature) (x1275.drop (v1309 + (1 : Int)).toNat)), (27, vi ((List.length (x1275.drop (v1309 + (1 : Int)).toNat) : Nat) : Int)), (28, vi v1326), (38, .v (.c (.ptr 10 2))), (39, vi (gl (x1275.drop (v1309 + (1 : Int)).toNat) v1326.toNat).from_), (40, .v (.c (.ptr 8 3))), (41, vi (gl x1275 v1309.toNat).until_), (42, vb (decide (((gl (x1275.drop (v1309 + (1 : Int)).toNat) v1326.toNat).from_) < ((gl x1275 v1309.toNat).until_)))), (50, vb false)] [(8, .box false [ci ((gl x1275 v1309.toNat).number_), ci ((gl x1275 v1309.toNat).kind_), ci ((gl x1275 v1309.toNat).from_), ci ((gl x1275 v1309.toNat).until_), .d (DL (α := Rect) (gl x1275 v1309.toNat).region_.rects_)]), (10, .box false [ci ((gl (x1275.drop (v1309 + (1 : Int)).toNat) v1326.toNat).number_), ci ((gl (x1275.drop (v1309 + (1 : Int)).toNat) v1326.toNat).kind_), ci ((gl (x1275.drop (v1309 + (1 : Int)).toNat) v1326.toNat).from_), ci ((gl (x1275.drop (v1309 + (1 : Int)).toNat) v1326.toNat).until_), .d (DL (α := Rect) (gl (x1275.drop (v1309 + (1 : Int)).toNat) v1326.toNat).region_.rects_)])] ⟨ALe.bool hb1330, ALe.bool hb1331, True.intro⟩ (by kernel_rfl) ?_
                  exact Kn.r Fm [(0, AL x1275), (8, .v (.c (.ptr 8 0))), (10, .v (.c (.ptr 10 0))), (16, AL x1275), (17, vi ((List.length x1275 : Nat) : Int)), (18, vi v1309), (26, AL (α := Feature) (x1275.drop (v1309 + (1 : Int)).toNat)), (27, vi ((List.length (x1275.drop (v1309 + (1 : Int)).toNat) : Nat) : Int)), (28, vi v1326), (50, vb false)] [(8, .box false [ci ((gl x1275 v1309.toNat).number_), ci ((gl x1275 v1309.toNat).kind_), ci ((gl x1275 v1309.toNat).from_), ci ((gl x1275 v1309.toNat).until_), .d (DL (α := Rect) (gl x1275 v1309.toNat).region_.rects_)]), (10, .box false [ci ((gl (x1275.drop (v1309 + (1 : Int)).toNat) v1326.toNat).number_), ci ((gl (x1275.drop (v1309 + (1 : Int)).toNat) v1326.toNat).kind_), ci ((gl (x1275.drop (v1309 + (1 : Int)).toNat) v1326.toNat).from_), ci ((gl (x1275.drop (v1309 + (1 : Int)).toNat) v1326.toNat).until_), .d (DL (α := Rect) (gl (x1275.drop (v1309 + (1 : Int)).toNat) v1326.toNat).region_.rects_)])] (by kernel_rfl) (hJ1335 false h)
              · have h := br_f h hb1330
                refine AW.g Fm [.s, .s, .s, .s, .s, .w (vb false), .s, .s, .s, .s, .s, .s, .s, .s, .s, .s, .s, .s, .s] (fun K => (ALe (vb (decide (((gl x1275 v1309.toNat).from_) < ((gl (x1275.drop (v1309 + (1 : Int)).toNat) v1326.toNat).until_)))) (vb false)) ∧ True) [(0, AL x1275), (8, .v (.c (.ptr 8 0))), (10, .v (.c (.ptr 10 0))), (16, AL x1275), (17, vi ((List.length x1275 : Nat) : Int)), (18, vi v1309), (26, AL (α := Feature) (x1275.drop (v1309 + (1 : Int)).toNat)), (27, vi ((List.length (x1275.drop (v1309 + (1 : Int)).toNat) : Nat) : Int)), (28, vi v1326), (50, vb false)] [(8, .box false [ci ((gl x1275 v1309.toNat).number_), ci ((gl x1275 v1309.toNat).kind_), ci ((gl x1275 v1309.toNat).from_), ci ((gl x1275 v1309.toNat).until_), .d (DL (α := Rect) (gl x1275 v1309.toNat).region_.rects_)]), (10, .box false [ci ((gl (x1275.drop (v1309 + (1 : Int)).toNat) v1326.toNat).number_), ci ((gl (x1275.drop (v1309 + (1 : Int)).toNat) v1326.toNat).kind_), ci ((gl (x1275.drop (v1309 + (1 : Int)).toNat) v1326.toNat).from_), ci ((gl (x1275.drop (v1309 + (1 : Int)).toNat) v1326.toNat).until_), .d (DL (α := Rect) (gl (x1275.drop (v1309 + (1 : Int)).toNat) v1326.toNat).region_.rects_)])] ⟨ALe.bool hb1330, True.intro⟩ (by kernel_rfl) ?_
                exact Kn.r Fm [(0, AL x1275), (8, .v (.c (.ptr 8 0))), (10, .v (.c (.ptr 10 0))), (16, AL x1275), (17, vi ((List.length x1275 : Nat) : Int)), (18, vi v1309), (26, AL (α := Feature) (x1275.drop (v1309 + (1 : Int)).toNat)), (27, vi ((List.length (x1275.drop (v1309 + (1 : Int)).toNat) : Nat) : Int)), (28, vi v1326), (50, vb false)] [(8, .box false [ci ((gl x1275 v1309.toNat).number_), ci ((gl x1275 v1309.toNat).kind_), ci ((gl x1275 v1309.toNat).from_), ci ((gl x1275 v1309.toNat).until_), .d (DL (α := Rect) (gl x1275 v1309.toNat).region_.rects_)]), (10, .box false [ci ((gl (x1275.drop (v1309 + (1 : Int)).toNat) v1326.toNat).number_), ci ((gl (x1275.drop (v1309 + (1 : Int)).toNat) v1326.toNat).kind_), ci ((gl (x1275.drop (v1309 + (1 : Int)).toNat) v1326.toNat).from_), ci ((gl (x1275.drop (v1309 + (1 : Int)).toNat) v1326.toNat).until_), .d (DL (α := Rect) (gl (x1275.drop (v1309 + (1 : Int)).toNat) v1326.toNat).region_.rects_)])] (by kernel_rfl) (hJ1335 false h)
          · have h := br_f h hb1328
            refine AW.exit ?_
            exact Kn.r Fm [(0, AL x1275), (16, AL x1275), (17, vi ((List.length x1275 : Nat) : Int)), (18, vi v1309)] [] (by kernel_rfl) (hJ1338 () h)
      · have h := br_f h hb1311
        refine AW.exit ?_
        exact Kn.r Fm [] [] (by kernel_rfl) (hJ1340 () h)
/- landaid/landaidref04.Meets -/
theorem ref04_Meets_spec {F : Nat} {x1341 : Region} {x1342 : Region} {r : Bool} (h : ref04_Meets F x1341 x1342 = some r) :
    FSpec Tryz.prog 27 [.v (.g [.d (DL x1341.rects_)]), .v (.g [.d (DL x1342.rects_)])] [] (vb r) [] := by
  refine FSpec.intro prog_mixed prog_lay Tryz.func27 rfl (by kernel_rfl) fun C Fm => ?_
  unfold ref04_Meets at h
  refine AW.sg0 Fm 3 [(2, .v (.c (.ptr 2 0))), (3, .v (.c (.ptr 3 0)))] [(2, .box false [.d (DL x1341.rects_)]), (3, .box false [.d (DL x1342.rects_)])] (by kernel_rfl) ?_
  refine AW.join (r := r) (fun z : Bool => ref04_Meets_k0 F z) (fun z => [(4, vb z)]) (fun z => []) (fun v1351 h => ?_) (fun J1352 hJ1352 => ?_)
  · have h : ref04_Meets_k0 F v1351 = some r := h
    refine AW.ret ?_
    obtain rfl := Option.some.inj h
    exact Kn.r Fm [(4, vb v1351)] [] (by kernel_rfl) (Kn.dn Fm (by kernel_rfl))
  · obtain ⟨z1343, hz1344, h⟩ := bd_some h
    rcases Bool.eq_false_or_eq_true z1343 with hb1345 | hb1345
    · have h := br_t h hb1345
      obtain ⟨z1346, hz1347, h⟩ := bd_some h
      rcases Bool.eq_false_or_eq_true z1346 with hb1348 | hb1348
      · have h := br_t h hb1348
        obtain ⟨z1349, hz1350, h⟩ := bd_some h
        refine AW.g Fm [.s, .k (cE [] [] (vb z1343) [] []), .w (vb true), .s, .k (cE [] [] (vb z1346) [] []), .s, .w (vb true), .s, .s, .s, .s, .k (cE [] [] (AL z1349) [] []), .s, .s, .s, .s] (fun K => K 1 ∧ (ALe (vb z1343) (vb true)) ∧ K 4 ∧ (ALe (vb z1346) (vb true)) ∧ K 11 ∧ True) [(4, vb (decide ((0 : Int) < ((List.length z1349 : Nat) : Int))))] [] ⟨KAt.cl (args := [.v (.g [.d (DL x1341.rects_)])]) (ref04_Valid_spec hz1344) Tryz.call15 [] rfl (by kernel_rfl), ALe.bool hb1345, KAt.cl (args := [.v (.g [.d (DL x1342.rects_)])]) (ref04_Valid_spec hz1347) Tryz.call15 [] rfl (by kernel_rfl), ALe.bool hb1348, KAt.cl (args := [AL x1341.rects_, AL x1342.rects_, vi (2 : Int)]) (ref04_Combine_spec hz1350) Tryz.call64 [] rfl (by kernel_rfl), True.intro⟩ (by kernel_rfl) ?_
        exact Kn.r Fm [(4, vb (decide ((0 : Int) < ((List.length z1349 : Nat) : Int))))] [] (by kernel_rfl) (hJ1352 (decide ((0 : Int) < ((List.length z1349 : Nat) : Int))) h)
      · have h := br_f h hb1348
        refine AW.g Fm [.s, .k (cE [] [] (vb z1343) [] []), .w (vb true), .s, .k (cE [] [] (vb z1346) [] []), .s, .w (vb false), .s, .s, .s, .s, .s, .s, .s, .s, .s] (fun K => K 1 ∧ (ALe (vb z1343) (vb true)) ∧ K 4 ∧ (ALe (vb z1346) (vb false)) ∧ True) [(4, vb false)] [] ⟨KAt.cl (args := [.v (.g [.d (DL x1341.rects_)])]) (ref04_Valid_spec hz1344) Tryz.call15 [] rfl (by kernel_rfl), ALe.bool hb1345, KAt.cl (args := [.v (.g [.d (DL x1342.rects_)])]) (ref04_Valid_spec hz1347) Tryz.call15 [] rfl (by kernel_rfl), ALe.bool hb1348, True.intro⟩ (by kernel_rfl) ?_
        exact Kn.r Fm [(4, vb false)] [] (by kernel_rfl) (hJ1352 false h)
    · have h := br_f h hb1345
      refine AW.g Fm [.s, .k (cE [] [] (vb z1343) [] []), .w (vb false), .s, .s, .s, .s, .s, .s, .s, .s, .s, .s, .s, .s, .s] (fun K => K 1 ∧ (ALe (vb z1343) (vb false)) ∧ True) [(4, vb false)] [] ⟨KAt.cl (args := [.v (.g [.d (DL x1341.rects_)])]) (ref04_Valid_spec hz1344) Tryz.call15 [] rfl (by kernel_rfl), ALe.bool hb1345, True.intro⟩ (by kernel_rfl) ?_
      exact Kn.r Fm [(4, vb false)] [] (by kernel_rfl) (hJ1352 false h)
/- slices.Clone[[]landaid/api.Rect,landaid/api.Rect] -/
theorem slices_Clone_Rect_spec {F : Nat} {x1353 : (List Rect)} {r : (List Rect)} (h : slices_Clone_Rect F x1353 = some r) :
    FSpec Tryz.prog 113 [AL x1353] [] (AL (α := Rect) r) [] := by
  refine FSpec.intro prog_mixed prog_lay Tryz.func113 rfl (by kernel_rfl) fun C Fm => ?_
  unfold slices_Clone_Rect at h
  refine AW.sg0 Fm 1 [(0, AL x1353)] [] (by kernel_rfl) ?_
  refine AW.seq ?_
  refine AW.sg Fm [.s, .k (sE (nb (List.length x1353)))] (fun K => K 1 ∧ True) [(0, AL x1353), (4, .v (.c (.sem (nbP (List.length x1353)))))] [] ⟨KAt.nil (t := 23) (el := 73) (n := List.length x1353) (by kernel_rfl) rfl rfl (by kernel_rfl) (by kernel_rfl) (by kernel_rfl), True.intro⟩ (by kernel_rfl) ?_
  refine AW.condNil (n := List.length x1353) (by kernel_rfl) (fun hn1354 => ?_) ?_
  · have h := brN_t h hn1354
    refine AW.sg0 Fm 1 [(2, .v (.c (.fl 0 fun _ => [])))] [] (by kernel_rfl) ?_
    refine AW.ret ?_
    obtain rfl := Option.some.inj h
    refine Kn.r Fm [(2, .v (.c (.fl 0 fun _ => [])))] [] (by kernel_rfl) ?_
    refine Kn.wk [(2, AL (α := Rect) [])] [] ⟨rfl, ALe.c (CLe.fl .nil), True.intro⟩ True.intro ?_
    exact Kn.r Fm [(2, AL (α := Rect) [])] [] (by kernel_rfl) (Kn.dn Fm (by kernel_rfl))
  · have h := brN_f h
    refine AW.skip ?_
    obtain ⟨hg1355, h⟩ := gd_some h
    refine AW.sg Fm [.m, .s, .s, .s] (fun K => ((0) + (List.length (α := Rect) x1353) ≤ LIM ∧ (∀ j, j < List.length (α := Rect) x1353 → ((LF (α := Rect) x1353) j).length = 4) ∧ (True)) ∧ True) [(2, .v (.c (.own 7)))] [(7, .arr 4 ((0) + (List.length (α := Rect) x1353)) (appF (0) (litF 4 []) (LF (α := Rect) x1353)))] ⟨⟨hg1355, (Is.refl x1353 : Is (List.length (α := Rect) x1353) (LF (α := Rect) x1353) x1353).len, True.intro⟩, True.intro⟩ (by kernel_rfl) ?_
    refine Kn.wk [(2, .v (.c (.own 7)))] [(7, AO (α := Rect) (([] : List Rect) ++ x1353))] (FE.refl _) (⟨rfl, OLe.is (Is.app (Is.lit ([] : List Rect) (by kernel_rfl)) (Is.refl x1353)), True.intro⟩) ?_
    refine AW.ret ?_
    obtain rfl := Option.some.inj h
    refine Kn.r Fm [(2, .v (.c (.own 7)))] [(7, AO (α := Rect) (([] : List Rect) ++ x1353))] (by kernel_rfl) ?_
    refine Kn.frz [(2, AL (α := Rect) (([] : List Rect) ++ x1353))] [] (by kernel_rfl) (by kernel_rfl) (by kernel_rfl) ?_
    exact Kn.r Fm [(2, AL (α := Rect) (([] : List Rect) ++ x1353))] [] (by kernel_rfl) (Kn.dn Fm (by kernel_rfl))
/- landaid/feature.copied -/
theorem feature_copied_spec {F : Nat} {x1356 : Feature} {r : Feature} (h : feature_copied F x1356 = some r) :
    FSpec Tryz.prog 168 [gE x1356] [] (gE r) [] := by
  refine FSpec.intro prog_mixed prog_lay Tryz.func168 rfl (by kernel_rfl) fun C Fm => ?_
  unfold feature_copied at h
  refine AW.sg0 Fm 2 [(1, .v (.c (.ptr 1 0))), (2, .v (.c (.ptr 2 0)))] [(1, .box false (gC x1356)), (2, .box false [ci 0, ci 0, ci 0, ci 0, .fl 0 fun _ => []])] (by kernel_rfl) ?_
  refine AW.seq ?_
  obtain ⟨z1357, hz1358, h⟩ := bd_some h
  refine AW.g Fm [.s, .s, .s, .k (cE [] [] (AL z1357) [] []), .s, .s, .s] (fun K => K 3 ∧ True) [(1, .v (.c (.ptr 1 0))), (2, .v (.c (.ptr 2 0)))] [(1, .box false [ci x1356.number_, ci x1356.kind_, ci x1356.from_, ci x1356.until_, .d (DL z1357)]), (2, .box false [ci 0, ci 0, ci 0, ci 0, .fl 0 fun _ => []])] ⟨KAt.cl (args := [AL x1356.region_.rects_]) (slices_Clone_Rect_spec hz1358) Tryz.call113 [] rfl (by kernel_rfl), True.intro⟩ (by kernel_rfl) ?_
  refine AW.sg0 Fm 2 [(2, .v (.c (.ptr 2 0)))] [(2, .box false [ci x1356.number_, ci x1356.kind_, ci x1356.from_, ci x1356.until_, .d (DL z1357)])] (by kernel_rfl) ?_
  refine AW.ret ?_
  obtain rfl := Option.some.inj h
  exact Kn.r Fm [(2, .v (.c (.ptr 2 0)))] [(2, .box false [ci x1356.number_, ci x1356.kind_, ci x1356.from_, ci x1356.until_, .d (DL z1357)])] (by kernel_rfl) (Kn.dn Fm (by kernel_rfl))
/- landaid/feature.all -/
theorem feature_all_spec {F : Nat} {x1359 : (List Feature)} {r : (List Feature)} (h : feature_all F x1359 = some r) :
    FSpec Tryz.prog 132 [AL x1359] [] (.v (.c (.own 100))) [(100, AO (α := Feature) r)] := by
  refine FSpec.intro prog_mixed prog_lay Tryz.func132 rfl (by kernel_rfl) fun C Fm => ?_
  unfold feature_all at h
  refine AW.sg0 Fm 1 [(0, AL x1359)] [] (by kernel_rfl) ?_
  refine AW.sg Fm [.m] (fun K => True) [(0, AL x1359), (3, .v (.c (.own 3)))] [(3, .arr 5 (0) (fun _ => []))] True.intro (by kernel_rfl) ?_
  refine Kn.wk [(0, AL x1359), (3, .v (.c (.own 3)))] [(3, AO (α := Feature) ([] : List Feature))] (FE.refl _) (⟨rfl, OLe.is ((Is.nil (α := Feature))), True.intro⟩) ?_
  refine AW.join (r := r) (fun z : (List Feature) => feature_all_k1 F z) (fun z => [(3, .v (.c (.own 3)))]) (fun z => [(3, AO z)]) (fun v1376 h => ?_) (fun J1377 hJ1377 => ?_)
  · have h : feature_all_k1 F v1376 = some r := h
    refine AW.sg0 Fm 2 [(2, .v (.c (.own 3)))] [(3, AO v1376)] (by kernel_rfl) ?_
    refine AW.ret ?_
    obtain rfl := Option.some.inj h
    exact Kn.re Fm [(100, 3)] [(2, .v (.c (.own 100)))] [(100, AO v1376)] (by kernel_rfl) (by kernel_rfl) (by kernel_rfl) (by kernel_rfl) (Kn.dn Fm (by kernel_rfl))
  · refine AW.sg0 Fm 3 [(3, .v (.c (.own 3))), (6, AL x1359), (7, vi ((List.length x1359 : Nat) : Int)), (8, vi (0 : Int))] [(3, AO (α := Feature) ([] : List Feature))] (by kernel_rfl) ?_
    refine AW.block ?_
    refine Kn.r Fm [(3, .v (.c (.own 3))), (6, AL x1359), (7, vi ((List.length x1359 : Nat) : Int)), (8, vi (0 : Int))] [(3, AO ([] : List Feature))] (by kernel_rfl) ?_
    have h : loopN (fun again (z : Int × (List Feature)) => feature_all_b0 F x1359 again z.1 z.2) F ((0 : Int), ([] : List Feature)) = some r := h
    refine AW.loopF (E' := fun z => [(3, .v (.c (.own 3))), (6, AL x1359), (7, vi ((List.length x1359 : Nat) : Int)), (8, vi z.1)]) (S' := fun z => [(3, AO z.2)]) (fun ag_feature_all_b0 z J1369 hJ1369 h => ?_) h
    obtain ⟨v1367, v1368⟩ := z
    have h : feature_all_b0 F x1359 ag_feature_all_b0 v1367 v1368 = some r := h
    refine AW.sg0 Fm 1 [(3, .v (.c (.own 3))), (6, AL x1359), (7, vi ((List.length x1359 : Nat) : Int)), (8, vi v1367), (9, vb (decide (v1367 < ((List.length x1359 : Nat) : Int))))] [(3, AO v1368)] (by kernel_rfl) ?_
    refine AW.seq ?_
    refine AW.cond (b := (decide (v1367 < ((List.length x1359 : Nat) : Int)))) (by kernel_rfl) (fun hb1370 => ?_) (fun hb1370 => ?_)
    · have h := br_t h hb1370
      refine AW.skip ?_
      refine AW.seq ?_
      refine AW.block ?_
      obtain ⟨hg1371, h⟩ := gd_some h
      refine AW.sg Fm [.s, .s, .s, .s] (fun K => (0 ≤ v1367 ∧ v1367 < ((List.length x1359 : Nat) : Int)) ∧ True) [(3, .v (.c (.own 3))), (5, .v (.c (.ptr 5 0))), (6, AL x1359), (7, vi ((List.length x1359 : Nat) : Int)), (8, vi v1367)] [(3, AO v1368), (5, .box false [ci ((gl x1359 v1367.toNat).number_), ci ((gl x1359 v1367.toNat).kind_), ci ((gl x1359 v1367.toNat).from_), ci ((gl x1359 v1367.toNat).until_), .d (DL (α := Rect) (gl x1359 v1367.toNat).region_.rects_)])] ⟨hg1371, True.intro⟩ (by kernel_rfl) ?_
      obtain ⟨z1372, hz1373, h⟩ := bd_some h
      obtain ⟨hg1374, h⟩ := gd_some h
      refine AW.g Fm [.s, .s, .k (cE [] [] (gE z1372) [] []), .w (AL (α := Feature) ([z1372] : List Feature)), .s, .s] (fun K => K 2 ∧ (ALe (.v (.c (.d (.lst 1 (litF 5 [.int .i64 z1372.number_, .int .i64 z1372.kind_, .int .i64 z1372.from_, .int .i64 z1372.until_, DL z1372.region_.rects_]))))) (AL (α := Feature) ([z1372] : List Feature))) ∧ ((List.length (α := Feature) v1368) + (List.length (α := Feature) ([z1372] : List Feature)) ≤ LIM ∧ (∀ j, j < List.length (α := Feature) ([z1372] : List Feature) → ((LF (α := Feature) ([z1372] : List Feature)) j).length = 5) ∧ (True)) ∧ True) [(3, .v (.c (.own 16))), (6, AL x1359), (7, vi ((List.length x1359 : Nat) : Int)), (8, vi v1367)] [(16, .arr 5 ((List.length (α := Feature) v1368) + (List.length (α := Feature) ([z1372] : List Feature))) (appF (List.length (α := Feature) v1368) (LF (α := Feature) v1368) (LF (α := Feature) ([z1372] : List Feature))))] ⟨KAt.cl (args := [.v (.g [ci ((gl x1359 v1367.toNat).number_), ci ((gl x1359 v1367.toNat).kind_), ci ((gl x1359 v1367.toNat).from_), ci ((gl x1359 v1367.toNat).until_), .d (DL (α := Rect) (gl x1359 v1367.toNat).region_.rects_)])]) (feature_copied_spec hz1373) Tryz.call168 [] rfl (by kernel_rfl), ALe.lst (.lit ([z1372] : List Feature) (by kernel_rfl)), ⟨hg1374, (Is.refl ([z1372] : List Feature) : Is (List.length (α := Feature) ([z1372] : List Feature)) (LF (α := Feature) ([z1372] : List Feature)) ([z1372] : List Feature)).len, True.intro⟩, True.intro⟩ (by kernel_rfl) ?_
      refine Kn.wk [(3, .v (.c (.own 16))), (6, AL x1359), (7, vi ((List.length x1359 : Nat) : Int)), (8, vi v1367)] [(16, AO (α := Feature) (v1368 ++ ([z1372] : List Feature)))] (FE.refl _) (⟨rfl, OLe.is (Is.app (Is.refl v1368) (Is.refl ([z1372] : List Feature))), True.intro⟩) ?_
      obtain ⟨hg1375, h⟩ := gd_some h
      refine AW.g Fm [.s, .s] (fun K => (I64 (v1367 + (1 : Int)) ∧ True) ∧ True) [(3, .v (.c (.own 16))), (6, AL x1359), (7, vi ((List.length x1359 : Nat) : Int)), (8, vi (v1367 + (1 : Int)))] [(16, AO (α := Feature) (v1368 ++ ([z1372] : List Feature)))] ⟨⟨hg1375, True.intro⟩, True.intro⟩ (by kernel_rfl) ?_
      exact Kn.re Fm [(3, 16)] [(3, .v (.c (.own 3))), (6, AL x1359), (7, vi ((List.length x1359 : Nat) : Int)), (8, vi (v1367 + (1 : Int)))] [(3, AO (v1368 ++ ([z1372] : List Feature)))] (by kernel_rfl) (by kernel_rfl) (by kernel_rfl) (by kernel_rfl) (hJ1369 ((v1367 + (1 : Int)), (v1368 ++ ([z1372] : List Feature))) h)
    · have h := br_f h hb1370
      refine AW.exit ?_
      exact Kn.r Fm [(3, .v (.c (.own 3)))] [(3, AO v1368)] (by kernel_rfl) (hJ1377 v1368 h)
/- landaid/feature.On$1 -/
theorem feature_On_1_spec {F : Nat} {x1378 : Feature} {x1379 : Int} {r : Bool} (h : feature_On_1 F x1378 x1379 = some r) :
    FSpec Tryz.prog 133 [gE x1378, .v (.c (.ptr 0 0))] [(0, .box true [ci x1379])] (vb r) [(0, .box true [ci x1379])] := by
  refine FSpec.intro prog_mixed prog_lay Tryz.func133 rfl (by kernel_rfl) fun C Fm => ?_
  unfold feature_On_1 at h
  refine AW.sg0 Fm 2 [(1, .v (.c (.ptr 0 0))), (2, .v (.c (.ptr 2 0)))] [(0, .box true [ci x1379]), (2, .box false (gC x1378))] (by kernel_rfl) ?_
  refine AW.seq ?_
  obtain ⟨z1380, hz1381, h⟩ := bd_some h
  refine AW.g Fm [.s, .s, .k (cE [] [] (vb z1380) [] []), .s, .s] (fun K => K 2 ∧ True) [(3, vb (!z1380))] [(0, .box true [ci x1379])] ⟨KAt.cl (args := [gE x1378, vi x1379]) (feature_there_spec hz1381) Tryz.call129 [] rfl (by kernel_rfl), True.intro⟩ (by kernel_rfl) ?_
  refine AW.ret ?_
  obtain rfl := Option.some.inj h
  exact Kn.r Fm [(3, vb (!z1380))] [(0, .box true [ci x1379])] (by kernel_rfl) (Kn.dn Fm (by kernel_rfl))
/- slices.IndexFunc[[]landaid/api.Feature,landaid/api.Feature] -/
theorem slices_IndexFunc_Feature_spec {F : Nat} {x1382 : (List Feature)} {x1383 : Feature → Option Bool} {r : Int} (h : slices_IndexFunc_Feature F x1382 x1383 = some r) :
    FSpec Tryz.prog 167 [AL x1382, .v (.c (.sem (CloOK Tryz.prog (FR_Feature_Bool x1383))))] [] (vi r) [] := by
  refine FSpec.intro prog_mixed prog_lay Tryz.func167 rfl (by kernel_rfl) fun C Fm => ?_
  unfold slices_IndexFunc_Feature at h
  refine AW.sg0 Fm 1 [(0, AL x1382), (1, .v (.c (.sem (CloOK Tryz.prog (FR_Feature_Bool x1383)))))] [] (by kernel_rfl) ?_
  refine AW.join (r := r) (fun z : Unit => slices_IndexFunc_Feature_k1 F) (fun z => []) (fun z => []) (fun z h => ?_) (fun J1399 hJ1399 => ?_)
  · have h : slices_IndexFunc_Feature_k1 F = some r := h
    refine AW.sg0 Fm 1 [(4, vi (-1 : Int))] [] (by kernel_rfl) ?_
    refine AW.ret ?_
    obtain rfl := Option.some.inj h
    exact Kn.r Fm [(4, vi (-1 : Int))] [] (by kernel_rfl) (Kn.dn Fm (by kernel_rfl))
  · refine AW.sg0 Fm 3 [(0, AL x1382), (1, .v (.c (.sem (CloOK Tryz.prog (FR_Feature_Bool x1383))))), (7, vi ((List.length x1382 : Nat) : Int)), (8, vi (0 : Int))] [] (by kernel_rfl) ?_
    refine AW.block ?_
    refine Kn.r Fm [(0, AL x1382), (1, .v (.c (.sem (CloOK Tryz.prog (FR_Feature_Bool x1383))))), (7, vi ((List.length x1382 : Nat) : Int)), (8, vi (0 : Int))] [] (by kernel_rfl) ?_
    have h : loopN (fun again (z : Int) => slices_IndexFunc_Feature_b0 F x1382 x1383 again z) F (0 : Int) = some r := h
    refine AW.loopF (E' := fun z => [(0, AL x1382), (1, .v (.c (.sem (CloOK Tryz.prog (FR_Feature_Bool x1383))))), (7, vi ((List.length x1382 : Nat) : Int)), (8, vi z)]) (S' := fun z => []) (fun ag_slices_IndexFunc_Feature_b0 v1391 J1392 hJ1392 h => ?_) h
    have h : slices_IndexFunc_Feature_b0 F x1382 x1383 ag_slices_IndexFunc_Feature_b0 v1391 = some r := h
    refine AW.sg0 Fm 1 [(0, AL x1382), (1, .v (.c (.sem (CloOK Tryz.prog (FR_Feature_Bool x1383))))), (7, vi ((List.length x1382 : Nat) : Int)), (8, vi v1391), (9, vb (decide (v1391 < ((List.length x1382 : Nat) : Int))))] [] (by kernel_rfl) ?_
    refine AW.seq ?_
    refine AW.cond (b := (decide (v1391 < ((List.length x1382 : Nat) : Int)))) (by kernel_rfl) (fun hb1393 => ?_) (fun hb1393 => ?_)
    · have h := br_t h hb1393
      refine AW.skip ?_
      refine AW.seq ?_
      refine AW.block ?_
      refine AW.sg0 Fm 2 [(0, AL x1382), (1, .v (.c (.sem (CloOK Tryz.prog (FR_Feature_Bool x1383))))), (5, vi v1391), (7, vi ((List.length x1382 : Nat) : Int)), (8, vi v1391)] [] (by kernel_rfl) ?_
      refine AW.seq ?_
      obtain ⟨hg1394, h⟩ := gd_some h
      obtain ⟨z1395, hz1396, h⟩ := bd_some h
      refine AW.g Fm [.s, .s, .s, .s, .s, .k (sE (vb z1395))] (fun K => (0 ≤ v1391 ∧ v1391 < ((List.length x1382 : Nat) : Int)) ∧ K 5 ∧ True) [(0, AL x1382), (1, .v (.c (.sem (CloOK Tryz.prog (FR_Feature_Bool x1383))))), (5, vi v1391), (7, vi ((List.length x1382 : Nat) : Int)), (8, vi v1391), (16, vb z1395)] [] ⟨hg1394, KAt.sem (F := (FR_Feature_Bool x1383)) (args := [.v (.g [ci ((gl x1382 v1391.toNat).number_), ci ((gl x1382 v1391.toNat).kind_), ci ((gl x1382 v1391.toNat).from_), ci ((gl x1382 v1391.toNat).until_), .d (DL (α := Rect) (gl x1382 v1391.toNat).region_.rects_)])]) ⟨(gl x1382 v1391.toNat), z1395, hz1396, rfl, rfl⟩ rfl (by kernel_rfl) (by kernel_rfl) (by kernel_rfl), True.intro⟩ (by kernel_rfl) ?_
      refine AW.cond (b := z1395) (by kernel_rfl) (fun hb1397 => ?_) (fun hb1397 => ?_)
      · have h := br_t h hb1397
        refine AW.sg0 Fm 2 [(4, vi v1391)] [] (by kernel_rfl) ?_
        refine AW.ret ?_
        obtain rfl := Option.some.inj h
        exact Kn.r Fm [(4, vi v1391)] [] (by kernel_rfl) (Kn.dn Fm (by kernel_rfl))
      · have h := br_f h hb1397
        refine AW.skip ?_
        obtain ⟨hg1398, h⟩ := gd_some h
        refine AW.g Fm [.s, .s] (fun K => (I64 (v1391 + (1 : Int)) ∧ True) ∧ True) [(0, AL x1382), (1, .v (.c (.sem (CloOK Tryz.prog (FR_Feature_Bool x1383))))), (7, vi ((List.length x1382 : Nat) : Int)), (8, vi (v1391 + (1 : Int)))] [] ⟨⟨hg1398, True.intro⟩, True.intro⟩ (by kernel_rfl) ?_
        exact Kn.r Fm [(0, AL x1382), (1, .v (.c (.sem (CloOK Tryz.prog (FR_Feature_Bool x1383))))), (7, vi ((List.length x1382 : Nat) : Int)), (8, vi (v1391 + (1 : Int)))] [] (by kernel_rfl) (hJ1392 (v1391 + (1 : Int)) h)
    · have h := br_f h hb1393
      refine AW.exit ?_
      exact Kn.r Fm [] [] (by kernel_rfl) (hJ1399 () h)
/- slices.DeleteFunc[[]landaid/api.Feature,landaid/api.Feature] -/
theorem slices_DeleteFunc_Feature_spec {F : Nat} {x1400 : (List Feature)} {x1401 : Feature → Option Bool} {r : (List Feature)} (h : slices_DeleteFunc_Feature F x1400 x1401 = some r) :
    FSpec Tryz.prog 131 [.v (.c (.own 0)), .v (.c (.sem (CloOK Tryz.prog (FR_Feature_Bool x1401))))] [(0, AO x1400)] (.v (.c (.own 100))) [(100, AO (α := Feature) r)] := by
  refine FSpec.intro prog_mixed prog_lay Tryz.func131 rfl (by kernel_rfl) fun C Fm => ?_
  unfold slices_DeleteFunc_Feature at h
  refine AW.sg0 Fm 1 [(0, .v (.c (.own 0))), (1, .v (.c (.sem (CloOK Tryz.prog (FR_Feature_Bool x1401)))))] [(0, AO x1400)] (by kernel_rfl) ?_
  refine AW.seq ?_
  obtain ⟨z1402, hz1403, h⟩ := bd_some h
  refine AW.g Fm [.s, .s, .k (sE (vi z1402)), .s] (fun K => K 2 ∧ True) [(0, .v (.c (.own 0))), (1, .v (.c (.sem (CloOK Tryz.prog (FR_Feature_Bool x1401))))), (5, vi z1402)] [(0, AO x1400)] ⟨KAt.callBX (args := [AL x1400, .v (.c (.sem (CloOK Tryz.prog (FR_Feature_Bool x1401))))]) (slices_IndexFunc_Feature_spec hz1403) Tryz.call167 [0] [.tmp 8, .tmp 9] rfl (by kernel_rfl) (by kernel_rfl) ⟨ArgB.own 0 (es := 5) (n := List.length x1400) (f := LF x1400) (by kernel_rfl) (by kernel_rfl) (by kernel_rfl) (by kernel_rfl), ArgB.sem (by kernel_rfl) (by kernel_rfl), True.intro⟩, True.intro⟩ (by kernel_rfl) ?_
  refine AW.seq ?_
  refine AW.sg0 Fm 2 [(0, .v (.c (.own 0))), (1, .v (.c (.sem (CloOK Tryz.prog (FR_Feature_Bool x1401))))), (5, vi z1402), (12, vb (z1402 == (-1 : Int)))] [(0, AO x1400)] (by kernel_rfl) ?_
  refine AW.cond (b := (z1402 == (-1 : Int))) (by kernel_rfl) (fun hb1404 => ?_) (fun hb1404 => ?_)
  · have h := br_t h hb1404
    refine AW.sg0 Fm 2 [(4, .v (.c (.own 0)))] [(0, AO x1400)] (by kernel_rfl) ?_
    refine AW.ret ?_
    obtain rfl := Option.some.inj h
    exact Kn.re Fm [(100, 0)] [(4, .v (.c (.own 100)))] [(100, AO x1400)] (by kernel_rfl) (by kernel_rfl) (by kernel_rfl) (by kernel_rfl) (Kn.dn Fm (by kernel_rfl))
  · have h := br_f h hb1404
    refine AW.skip ?_
    refine AW.join (r := r) (fun z : Int × (List Feature) => slices_DeleteFunc_Feature_k2 F z.1 z.2) (fun z => [(0, .v (.c (.own 0))), (5, vi z.1)]) (fun z => [(0, AO z.2)]) (fun z h => ?_) (fun J1435 hJ1435 => ?_)
    · obtain ⟨v1433, v1434⟩ := z
      have h : slices_DeleteFunc_Feature_k2 F v1433 v1434 = some r := h
      obtain ⟨hg1436, h⟩ := gd_some h
      refine AW.sg Fm [.s, .s, .k (rE { v := .v (.c (.sub 0 5 (0 + (v1433).toNat) ((List.length (α := Feature) v1434) - (v1433).toNat))) }), .k (rE { v := .any, upd := some (0, .arr 5 (List.length (α := Feature) v1434) (fun i => if (0 + (v1433).toNat) ≤ i ∧ i < (0 + (v1433).toNat) + ((List.length (α := Feature) v1434) - (v1433).toNat) then (fun _ => [.int .i64 0, .int .i64 0, .int .i64 0, .int .i64 0, DL (α := Rect) []]) (i - (0 + (v1433).toNat)) else (LF (α := Feature) v1434) i)) })] (fun K => K 2 ∧ K 3 ∧ True) [(0, .v (.c (.own 0))), (5, vi v1433)] [(0, .arr 5 (List.length (α := Feature) v1434) (fun i => if (0 + (v1433).toNat) ≤ i ∧ i < (0 + (v1433).toNat) + ((List.length (α := Feature) v1434) - (v1433).toNat) then (fun _ => [.int .i64 0, .int .i64 0, .int .i64 0, .int .i64 0, DL (α := Rect) []]) (i - (0 + (v1433).toNat)) else (LF (α := Feature) v1434) i))] ⟨KAt.vslice (l := (some v1433)) (u := none) (id := 0) (lo0 := 0) (n := (List.length (α := Feature) v1434)) (N := List.length (α := Feature) v1434) (f := LF (α := Feature) v1434) prog_lay slT45 rfl rfl (by kernel_rfl) (by kernel_rfl) (by kernel_rfl) (by kernel_rfl) (by kernel_rfl) hg1436 (by kernel_rfl), KAt.vclear (id := 0) (lo0 := (0 + (v1433).toNat)) (n := ((List.length (α := Feature) v1434) - (v1433).toNat)) (N := List.length (α := Feature) v1434) (f := (LF (α := Feature) v1434)) prog_lay slT45 [.int .i64 0, .int .i64 0, .int .i64 0, .int .i64 0, .lst 0 fun _ => []] [.int .i64 0, .int .i64 0, .int .i64 0, .int .i64 0, DL (α := Rect) []] ⟨DLe.refl _, DLe.refl _, DLe.refl _, DLe.refl _, DLe.nil _ _, True.intro⟩ rfl rfl (by kernel_rfl) (Nat.succ_pos _) (by kernel_rfl) (by kernel_rfl) (by kernel_rfl) (by kernel_rfl) rfl, True.intro⟩ (by kernel_rfl) ?_
      refine Kn.wk [(0, .v (.c (.own 0))), (5, vi v1433)] [(0, AO (α := Feature) (clr v1434 (0 + (v1433).toNat) ((List.length (α := Feature) v1434) - (v1433).toNat)))] (FE.refl _) (⟨rfl, OLe.is (Is.clr (l := v1434) (0 + (v1433).toNat) ((List.length (α := Feature) v1434) - (v1433).toNat) (zd := [.int .i64 0, .int .i64 0, .int .i64 0, .int .i64 0, DL (α := Rect) []]) (by kernel_rfl)), True.intro⟩) ?_
      obtain ⟨hg1437, h⟩ := gd_some h
      refine AW.sg Fm [.s, .s, .m, .s] (fun K => (0 ≤ v1433 ∧ v1433 ≤ ((List.length (clr v1434 (0 + (v1433).toNat) ((List.length (α := Feature) v1434) - (v1433).toNat)) : Nat) : Int)) ∧ True) [(4, .v (.c (.own 41)))] [(41, .arr 5 ((v1433).toNat) (LF (α := Feature) (clr v1434 (0 + (v1433).toNat) ((List.length (α := Feature) v1434) - (v1433).toNat))))] ⟨hg1437, True.intro⟩ (by kernel_rfl) ?_
      refine Kn.wk [(4, .v (.c (.own 41)))] [(41, AO (α := Feature) ((clr v1434 (0 + (v1433).toNat) ((List.length (α := Feature) v1434) - (v1433).toNat)).take (v1433).toNat))] (FE.refl _) (⟨rfl, OLe.is (Is.take (Is.refl (clr v1434 (0 + (v1433).toNat) ((List.length (α := Feature) v1434) - (v1433).toNat))) hg1437.2), True.intro⟩) ?_
      refine AW.ret ?_
      obtain rfl := Option.some.inj h
      exact Kn.re Fm [(100, 41)] [(4, .v (.c (.own 100)))] [(100, AO (α := Feature) ((clr v1434 (0 + (v1433).toNat) ((List.length (α := Feature) v1434) - (v1433).toNat)).take (v1433).toNat))] (by kernel_rfl) (by kernel_rfl) (by kernel_rfl) (by kernel_rfl) (Kn.dn Fm (by kernel_rfl))
    · obtain ⟨hg1405, h⟩ := gd_some h
      refine AW.sg Fm [.s, .s, .s] (fun K => (I64 (z1402 + (1 : Int)) ∧ True) ∧ True) [(0, .v (.c (.own 0))), (1, .v (.c (.sem (CloOK Tryz.prog (FR_Feature_Bool x1401))))), (5, vi z1402), (6, vi (z1402 + (1 : Int)))] [(0, AO x1400)] ⟨⟨hg1405, True.intro⟩, True.intro⟩ (by kernel_rfl) ?_
      refine AW.block ?_
      refine Kn.r Fm [(0, .v (.c (.own 0))), (1, .v (.c (.sem (CloOK Tryz.prog (FR_Feature_Bool x1401))))), (5, vi z1402), (6, vi (z1402 + (1 : Int)))] [(0, AO x1400)] (by kernel_rfl) ?_
      have h : loopN (fun again (z : Int × Int × (List Feature)) => slices_DeleteFunc_Feature_b0 F x1401 again z.1 z.2.1 z.2.2) F (z1402, (z1402 + (1 : Int)), x1400) = some r := h
      refine AW.loopF (E' := fun z => [(0, .v (.c (.own 0))), (1, .v (.c (.sem (CloOK Tryz.prog (FR_Feature_Bool x1401))))), (5, vi z.1), (6, vi z.2.1)]) (S' := fun z => [(0, AO z.2.2)]) (fun ag_slices_DeleteFunc_Feature_b0 z J1421 hJ1421 h => ?_) h
      obtain ⟨v1418, v1419, v1420⟩ := z
      have h : slices_DeleteFunc_Feature_b0 F x1401 ag_slices_DeleteFunc_Feature_b0 v1418 v1419 v1420 = some r := h
      refine AW.seq ?_
      refine AW.sg0 Fm 4 [(0, .v (.c (.own 0))), (1, .v (.c (.sem (CloOK Tryz.prog (FR_Feature_Bool x1401))))), (5, vi v1418), (6, vi v1419), (19, vb (decide (v1419 < ((List.length v1420 : Nat) : Int))))] [(0, AO v1420)] (by kernel_rfl) ?_
      refine AW.cond (b := (decide (v1419 < ((List.length v1420 : Nat) : Int)))) (by kernel_rfl) (fun hb1422 => ?_) (fun hb1422 => ?_)
      · have h := br_t h hb1422
        refine AW.skip ?_
        refine AW.join (r := r) (fun z : Int × (List Feature) => slices_DeleteFunc_Feature_k1 F v1419 ag_slices_DeleteFunc_Feature_b0 z.1 z.2) (fun z => [(0, .v (.c (.own 0))), (1, .v (.c (.sem (CloOK Tryz.prog (FR_Feature_Bool x1401))))), (5, vi z.1), (6, vi v1419)]) (fun z => [(0, AO z.2)]) (fun z h => ?_) (fun J1431 hJ1431 => ?_)
        · obtain ⟨v1429, v1430⟩ := z
          have h : slices_DeleteFunc_Feature_k1 F v1419 ag_slices_DeleteFunc_Feature_b0 v1429 v1430 = some r := h
          obtain ⟨hg1432, h⟩ := gd_some h
          refine AW.g Fm [.s, .s, .s] (fun K => (I64 (v1419 + (1 : Int)) ∧ True) ∧ True) [(0, .v (.c (.own 0))), (1, .v (.c (.sem (CloOK Tryz.prog (FR_Feature_Bool x1401))))), (5, vi v1429), (6, vi (v1419 + (1 : Int)))] [(0, AO v1430)] ⟨⟨hg1432, True.intro⟩, True.intro⟩ (by kernel_rfl) ?_
          exact Kn.r Fm [(0, .v (.c (.own 0))), (1, .v (.c (.sem (CloOK Tryz.prog (FR_Feature_Bool x1401))))), (5, vi v1429), (6, vi (v1419 + (1 : Int)))] [(0, AO v1430)] (by kernel_rfl) (hJ1421 (v1429, (v1419 + (1 : Int)), v1430) h)
        · refine AW.block ?_
          obtain ⟨hg1423, h⟩ := gd_some h
          refine AW.sg Fm [.s, .s, .s, .s, .s, .s] (fun K => (0 ≤ v1419 ∧ v1419 < ((List.length v1420 : Nat) : Int)) ∧ (v1419.toNat < List.length v1420) ∧ True) [(0, .v (.c (.own 0))), (1, .v (.c (.sem (CloOK Tryz.prog (FR_Feature_Bool x1401))))), (5, vi v1418), (6, vi v1419), (7, .v (.c (.ptr 7 0)))] [(0, AO v1420), (7, .box false [ci ((gl v1420 v1419.toNat).number_), ci ((gl v1420 v1419.toNat).kind_), ci ((gl v1420 v1419.toNat).from_), ci ((gl v1420 v1419.toNat).until_), .d (DL (α := Rect) (gl v1420 v1419.toNat).region_.rects_)])] ⟨hg1423, (toNat_lt hg1423), True.intro⟩ (by kernel_rfl) ?_
          refine AW.seq ?_
          obtain ⟨z1424, hz1425, h⟩ := bd_some h
          refine AW.g Fm [.s, .s, .k (sE (vb z1424)), .s] (fun K => K 2 ∧ True) [(0, .v (.c (.own 0))), (1, .v (.c (.sem (CloOK Tryz.prog (FR_Feature_Bool x1401))))), (5, vi v1418), (6, vi v1419), (7, .v (.c (.ptr 7 0))), (29, vb (!z1424))] [(0, AO v1420), (7, .box false [ci ((gl v1420 v1419.toNat).number_), ci ((gl v1420 v1419.toNat).kind_), ci ((gl v1420 v1419.toNat).from_), ci ((gl v1420 v1419.toNat).until_), .d (DL (α := Rect) (gl v1420 v1419.toNat).region_.rects_)])] ⟨KAt.sem (F := (FR_Feature_Bool x1401)) (args := [.v (.g [ci ((gl v1420 v1419.toNat).number_), ci ((gl v1420 v1419.toNat).kind_), ci ((gl v1420 v1419.toNat).from_), ci ((gl v1420 v1419.toNat).until_), .d (DL (α := Rect) (gl v1420 v1419.toNat).region_.rects_)])]) ⟨(gl v1420 v1419.toNat), z1424, hz1425, rfl, rfl⟩ rfl (by kernel_rfl) (by kernel_rfl) (by kernel_rfl), True.intro⟩ (by kernel_rfl) ?_
          refine AW.cond (b := (!z1424)) (by kernel_rfl) (fun hb1426 => ?_) (fun hb1426 => ?_)
          · have h := br_t h hb1426
            obtain ⟨hg1427, h⟩ := gd_some h
            refine AW.sg Fm [.s, .s, .s, .s, .s] (fun K => (0 ≤ v1418 ∧ v1418 < ((List.length v1420 : Nat) : Int)) ∧ (v1418.toNat < List.length v1420) ∧ True) [(0, .v (.c (.own 0))), (1, .v (.c (.sem (CloOK Tryz.prog (FR_Feature_Bool x1401))))), (5, vi v1418), (6, vi v1419)] [(0, .arr 5 (List.length (α := Feature) v1420) (fun j => if j = v1418.toNat then splice ((LF (α := Feature) v1420) v1418.toNat) 0 [.int .i64 (gl v1420 v1419.toNat).number_, .int .i64 (gl v1420 v1419.toNat).kind_, .int .i64 (gl v1420 v1419.toNat).from_, .int .i64 (gl v1420 v1419.toNat).until_, DL (α := Rect) (gl v1420 v1419.toNat).region_.rects_] else (LF (α := Feature) v1420) j))] ⟨hg1427, (toNat_lt hg1427), True.intro⟩ (by kernel_rfl) ?_
            refine Kn.wk [(0, .v (.c (.own 0))), (1, .v (.c (.sem (CloOK Tryz.prog (FR_Feature_Bool x1401))))), (5, vi v1418), (6, vi v1419)] [(0, AO (α := Feature) (List.set v1420 v1418.toNat (gl v1420 v1419.toNat)))] (FE.refl _) (⟨rfl, OLe.is (Is.set (Is.refl v1420) (toNat_lt hg1427) (gl v1420 v1419.toNat) (by kernel_rfl)), True.intro⟩) ?_
            obtain ⟨hg1428, h⟩ := gd_some h
            refine AW.g Fm [.s, .s, .s] (fun K => (I64 (v1418 + (1 : Int)) ∧ True) ∧ True) [(0, .v (.c (.own 0))), (1, .v (.c (.sem (CloOK Tryz.prog (FR_Feature_Bool x1401))))), (5, vi (v1418 + (1 : Int))), (6, vi v1419)] [(0, AO (α := Feature) (List.set v1420 v1418.toNat (gl v1420 v1419.toNat)))] ⟨⟨hg1428, True.intro⟩, True.intro⟩ (by kernel_rfl) ?_
            exact Kn.r Fm [(0, .v (.c (.own 0))), (1, .v (.c (.sem (CloOK Tryz.prog (FR_Feature_Bool x1401))))), (5, vi (v1418 + (1 : Int))), (6, vi v1419)] [(0, AO (List.set v1420 v1418.toNat (gl v1420 v1419.toNat)))] (by kernel_rfl) (hJ1431 ((v1418 + (1 : Int)), (List.set v1420 v1418.toNat (gl v1420 v1419.toNat))) h)
          · have h := br_f h hb1426
            refine AW.skip ?_
            exact Kn.r Fm [(0, .v (.c (.own 0))), (1, .v (.c (.sem (CloOK Tryz.prog (FR_Feature_Bool x1401))))), (5, vi v1418), (6, vi v1419)] [(0, AO v1420)] (by kernel_rfl) (hJ1431 (v1418, v1420) h)
      · have h := br_f h hb1422
        refine AW.exit ?_
        exact Kn.r Fm [(0, .v (.c (.own 0))), (5, vi v1418)] [(0, AO v1420)] (by kernel_rfl) (hJ1435 (v1418, v1420) h)
/- landaid/feature.On -/
theorem feature_On_spec {F : Nat} {x1438 : (List Feature)} {x1439 : Int} {r : (List Feature) × Int} (h : feature_On F x1438 x1439 = some r) :
    FSpec Tryz.prog 79 [AL x1438, vi x1439] [] (.t [.c (.d (DL (α := Feature) r.1)), .c (ci r.2)]) [] := by
  refine FSpec.intro prog_mixed prog_lay Tryz.func79 rfl (by kernel_rfl) fun C Fm => ?_
  unfold feature_On at h
  refine AW.sg0 Fm 3 [(0, AL x1438), (3, .v (.c (.ptr 3 0)))] [(3, .box false [ci x1439])] (by kernel_rfl) ?_
  refine AW.seq ?_
  refine AW.seq ?_
  obtain ⟨z1440, hz1441, h⟩ := bd_some h
  refine AW.g Fm [.s, .s, .k (cE [] [] (vi z1440) [] []), .s] (fun K => K 2 ∧ True) [(0, AL x1438), (3, .v (.c (.ptr 3 0))), (6, vi z1440)] [(3, .box false [ci x1439])] ⟨KAt.cl (args := [AL x1438, vi x1439]) (feature_right_spec hz1441) Tryz.call73 [] rfl (by kernel_rfl), True.intro⟩ (by kernel_rfl) ?_
  refine AW.sg0 Fm 2 [(0, AL x1438), (3, .v (.c (.ptr 3 0))), (6, vi z1440), (11, vb (z1440 != (0 : Int)))] [(3, .box false [ci x1439])] (by kernel_rfl) ?_
  refine AW.cond (b := (z1440 != (0 : Int))) (by kernel_rfl) (fun hb1442 => ?_) (fun hb1442 => ?_)
  · have h := br_t h hb1442
    refine AW.sg0 Fm 3 [(4, .v (.c (.fl 0 fun _ => []))), (5, vi z1440)] [] (by kernel_rfl) ?_
    refine AW.ret ?_
    obtain rfl := Option.some.inj h
    refine Kn.r Fm [(4, .v (.c (.fl 0 fun _ => []))), (5, vi z1440)] [] (by kernel_rfl) ?_
    refine Kn.wk [(4, AL (α := Feature) []), (5, vi z1440)] [] ⟨rfl, ALe.c (CLe.fl .nil), ⟨rfl, ALe.c (CLe.refl _), True.intro⟩⟩ True.intro ?_
    exact Kn.r Fm [(4, AL (α := Feature) []), (5, vi z1440)] [] (by kernel_rfl) (Kn.dn Fm (by kernel_rfl))
  · have h := br_f h hb1442
    refine AW.skip ?_
    refine AW.seq ?_
    obtain ⟨z1443, hz1444, h⟩ := bd_some h
    obtain ⟨z1445, hz1446, h⟩ := bd_some h
    refine AW.g Fm [.s, .k (cE [(100, 14)] [] (.v (.c (.own 100))) [] [(100, AO z1443)]), .s, .k (cE [(0, 14), (100, 16)] [3] (.v (.c (.own 100))) [(0, AO z1443)] [(100, AO z1445)]), .s, .s] (fun K => K 1 ∧ K 3 ∧ True) [(4, .v (.c (.own 16))), (5, vi (0 : Int))] [(16, AO z1445)] ⟨KAt.cl (args := [AL x1438]) (feature_all_spec hz1444) Tryz.call132 [(100, 14)] rfl (by kernel_rfl), KAt.callX (args := [.v (.c (.own 0)), .v (.c (.sem (CloOK Tryz.prog (FR_Feature_Bool (fun y0 => feature_On_1 F y0 x1439)))))]) (slices_DeleteFunc_Feature_spec hz1446) Tryz.call131 [(0, 14), (100, 16)] [3] [.tmp 14, .tmp 15] rfl (by kernel_rfl) (by kernel_rfl) (by kernel_rfl) ⟨ArgT.plain (by kernel_rfl) (ALe.of_eq (by kernel_rfl)) (by kernel_rfl), ArgT.cloX Tryz.call133 [[ci x1439]] (fun args r hq => by obtain ⟨y0, y, hq, rfl, rfl⟩ := hq; exact Eq.mp (by kernel_rfl) (feature_On_1_spec hq)) (fun args r hq => by obtain ⟨y0, y, hq, rfl, rfl⟩ := hq; rfl) (by kernel_rfl) [3] (by kernel_rfl) (by kernel_rfl) (⟨⟨false, (by kernel_rfl)⟩, True.intro⟩) (by kernel_rfl), True.intro⟩, True.intro⟩ (by kernel_rfl) ?_
    refine AW.ret ?_
    obtain rfl := Option.some.inj h
    refine Kn.r Fm [(4, .v (.c (.own 16))), (5, vi (0 : Int))] [(16, AO z1445)] (by kernel_rfl) ?_
    refine Kn.frz [(4, AL z1445), (5, vi (0 : Int))] [] (by kernel_rfl) (by kernel_rfl) (by kernel_rfl) ?_
    exact Kn.r Fm [(4, AL z1445), (5, vi (0 : Int))] [] (by kernel_rfl) (Kn.dn Fm (by kernel_rfl))
/- slices.BinarySearchFunc[[]landaid/api.Feature,landaid/api.Feature,landaid/api.Feature] -/
theorem slices_BinarySearchFunc_Feature_spec {F : Nat} {x1447 : (List Feature)} {x1448 : Feature} {x1449 : Feature → Feature → Option Int} {r : Int × Bool} (h : slices_BinarySearchFunc_Feature F x1447 x1448 x1449 = some r) :
    FSpec Tryz.prog 134 [AL x1447, gE x1448, .v (.c (.sem (CloOK Tryz.prog (FR_Feature_Feature_Int x1449))))] [] (.t [.c (ci r.1), .c (.d (.bool r.2))]) [] := by
  refine FSpec.intro prog_mixed prog_lay Tryz.func134 rfl (by kernel_rfl) fun C Fm => ?_
  unfold slices_BinarySearchFunc_Feature at h
  refine AW.sg0 Fm 3 [(0, AL x1447), (2, .v (.c (.sem (CloOK Tryz.prog (FR_Feature_Feature_Int x1449))))), (4, .v (.c (.ptr 4 0)))] [(4, .box false (gC x1448))] (by kernel_rfl) ?_
  refine AW.sg0 Fm 3 [(0, AL x1447), (2, .v (.c (.sem (CloOK Tryz.prog (FR_Feature_Feature_Int x1449))))), (4, .v (.c (.ptr 4 0))), (8, vi ((List.length x1447 : Nat) : Int))] [(4, .box false (gC x1448))] (by kernel_rfl) ?_
  refine AW.sg0 Fm 3 [(0, AL x1447), (2, .v (.c (.sem (CloOK Tryz.prog (FR_Feature_Feature_Int x1449))))), (4, .v (.c (.ptr 4 0))), (8, vi ((List.length x1447 : Nat) : Int)), (9, vi (0 : Int)), (10, vi ((List.length x1447 : Nat) : Int))] [(4, .box false (gC x1448))] (by kernel_rfl) ?_
  refine AW.join (r := r) (fun z : Int => slices_BinarySearchFunc_Feature_k1 F x1447 x1448 x1449 z) (fun z => [(0, AL x1447), (2, .v (.c (.sem (CloOK Tryz.prog (FR_Feature_Feature_Int x1449))))), (4, .v (.c (.ptr 4 0))), (8, vi ((List.length x1447 : Nat) : Int)), (9, vi z)]) (fun z => [(4, .box false (gC x1448))]) (fun v1472 h => ?_) (fun J1473 hJ1473 => ?_)
  · have h : slices_BinarySearchFunc_Feature_k1 F x1447 x1448 x1449 v1472 = some r := h
    refine AW.join (r := r) (fun z : Bool => slices_BinarySearchFunc_Feature_k2 F v1472 z) (fun z => [(6, vi v1472), (7, vb z)]) (fun z => []) (fun v1478 h => ?_) (fun J1479 hJ1479 => ?_)
    · have h : slices_BinarySearchFunc_Feature_k2 F v1472 v1478 = some r := h
      refine AW.ret ?_
      obtain rfl := Option.some.inj h
      exact Kn.r Fm [(6, vi v1472), (7, vb v1478)] [] (by kernel_rfl) (Kn.dn Fm (by kernel_rfl))
    · rcases Bool.eq_false_or_eq_true (decide (v1472 < ((List.length x1447 : Nat) : Int))) with hb1474 | hb1474
      · have h := br_t h hb1474
        obtain ⟨hg1475, h⟩ := gd_some h
        obtain ⟨z1476, hz1477, h⟩ := bd_some h
        refine AW.g Fm [.s, .s, .s, .s, .w (vb true), .s, .s, .s, .s, .s, .s, .k (sE (vi z1476)), .s, .s, .s, .s] (fun K => (ALe (vb (decide (v1472 < ((List.length x1447 : Nat) : Int)))) (vb true)) ∧ (0 ≤ v1472 ∧ v1472 < ((List.length x1447 : Nat) : Int)) ∧ K 11 ∧ True) [(6, vi v1472), (7, vb (z1476 == (0 : Int)))] [] ⟨ALe.bool hb1474, hg1475, KAt.sem (F := (FR_Feature_Feature_Int x1449)) (args := [.v (.g [ci ((gl x1447 v1472.toNat).number_), ci ((gl x1447 v1472.toNat).kind_), ci ((gl x1447 v1472.toNat).from_), ci ((gl x1447 v1472.toNat).until_), .d (DL (α := Rect) (gl x1447 v1472.toNat).region_.rects_)]), gE x1448]) ⟨(gl x1447 v1472.toNat), x1448, z1476, hz1477, rfl, rfl⟩ rfl (by kernel_rfl) (by kernel_rfl) (by kernel_rfl), True.intro⟩ (by kernel_rfl) ?_
        exact Kn.r Fm [(6, vi v1472), (7, vb (z1476 == (0 : Int)))] [] (by kernel_rfl) (hJ1479 (z1476 == (0 : Int)) h)
      · have h := br_f h hb1474
        refine AW.g Fm [.s, .s, .s, .s, .w (vb false), .s, .s, .s, .s, .s, .s, .s, .s, .s, .s, .s] (fun K => (ALe (vb (decide (v1472 < ((List.length x1447 : Nat) : Int)))) (vb false)) ∧ True) [(6, vi v1472), (7, vb false)] [] ⟨ALe.bool hb1474, True.intro⟩ (by kernel_rfl) ?_
        exact Kn.r Fm [(6, vi v1472), (7, vb false)] [] (by kernel_rfl) (hJ1479 false h)
  · refine AW.block ?_
    refine Kn.r Fm [(0, AL x1447), (2, .v (.c (.sem (CloOK Tryz.prog (FR_Feature_Feature_Int x1449))))), (4, .v (.c (.ptr 4 0))), (8, vi ((List.length x1447 : Nat) : Int)), (9, vi (0 : Int)), (10, vi ((List.length x1447 : Nat) : Int))] [(4, .box false (gC x1448))] (by kernel_rfl) ?_
    have h : loopN (fun again (z : Int × Int) => slices_BinarySearchFunc_Feature_b0 F x1447 x1448 x1449 again z.1 z.2) F ((0 : Int), ((List.length x1447 : Nat) : Int)) = some r := h
    refine AW.loopF (E' := fun z => [(0, AL x1447), (2, .v (.c (.sem (CloOK Tryz.prog (FR_Feature_Feature_Int x1449))))), (4, .v (.c (.ptr 4 0))), (8, vi ((List.length x1447 : Nat) : Int)), (9, vi z.1), (10, vi z.2)]) (S' := fun z => [(4, .box false (gC x1448))]) (fun ag_slices_BinarySearchFunc_Feature_b0 z J1462 hJ1462 h => ?_) h
    obtain ⟨v1460, v1461⟩ := z
    have h : slices_BinarySearchFunc_Feature_b0 F x1447 x1448 x1449 ag_slices_BinarySearchFunc_Feature_b0 v1460 v1461 = some r := h
    refine AW.seq ?_
    refine AW.sg0 Fm 3 [(0, AL x1447), (2, .v (.c (.sem (CloOK Tryz.prog (FR_Feature_Feature_Int x1449))))), (4, .v (.c (.ptr 4 0))), (8, vi ((List.length x1447 : Nat) : Int)), (9, vi v1460), (10, vi v1461), (17, vb (decide (v1460 < v1461)))] [(4, .box false (gC x1448))] (by kernel_rfl) ?_
    refine AW.cond (b := (decide (v1460 < v1461))) (by kernel_rfl) (fun hb1463 => ?_) (fun hb1463 => ?_)
    · have h := br_t h hb1463
      refine AW.skip ?_
      refine AW.block ?_
      obtain ⟨hg1464, h⟩ := gd_some h
      obtain ⟨hg1465, h⟩ := gd_some h
      obtain ⟨hg1466, h⟩ := gd_some h
      refine AW.sg Fm [.s, .s, .s, .s, .s, .s, .s] (fun K => (I64 (v1460 + v1461) ∧ True) ∧ (True) ∧ (0 ≤ (1 : Int)) ∧ (I64 ((IntKind.wrap .u64 (v1460 + v1461)).fdiv (2 ^ (min ((1 : Int)).toNat (IntKind.bits .u64)))) ∧ True) ∧ True) [(0, AL x1447), (2, .v (.c (.sem (CloOK Tryz.prog (FR_Feature_Feature_Int x1449))))), (4, .v (.c (.ptr 4 0))), (8, vi ((List.length x1447 : Nat) : Int)), (9, vi v1460), (10, vi v1461), (11, vi ((IntKind.wrap .u64 (v1460 + v1461)).fdiv (2 ^ (min ((1 : Int)).toNat (IntKind.bits .u64)))))] [(4, .box false (gC x1448))] ⟨⟨hg1464, True.intro⟩, True.intro, hg1465, ⟨hg1466, True.intro⟩, True.intro⟩ (by kernel_rfl) ?_
      refine AW.seq ?_
      obtain ⟨hg1467, h⟩ := gd_some h
      obtain ⟨z1468, hz1469, h⟩ := bd_some h
      refine AW.g Fm [.s, .s, .s, .s, .s, .s, .k (sE (vi z1468)), .s] (fun K => (0 ≤ ((IntKind.wrap .u64 (v1460 + v1461)).fdiv (2 ^ (min ((1 : Int)).toNat (IntKind.bits .u64)))) ∧ ((IntKind.wrap .u64 (v1460 + v1461)).fdiv (2 ^ (min ((1 : Int)).toNat (IntKind.bits .u64)))) < ((List.length x1447 : Nat) : Int)) ∧ K 6 ∧ True) [(0, AL x1447), (2, .v (.c (.sem (CloOK Tryz.prog (FR_Feature_Feature_Int x1449))))), (4, .v (.c (.ptr 4 0))), (8, vi ((List.length x1447 : Nat) : Int)), (9, vi v1460), (10, vi v1461), (11, vi ((IntKind.wrap .u64 (v1460 + v1461)).fdiv (2 ^ (min ((1 : Int)).toNat (IntKind.bits .u64))))), (31, vb (decide (z1468 < (0 : Int))))] [(4, .box false (gC x1448))] ⟨hg1467, KAt.sem (F := (FR_Feature_Feature_Int x1449)) (args := [.v (.g [ci ((gl x1447 ((IntKind.wrap .u64 (v1460 + v1461)).fdiv (2 ^ (min ((1 : Int)).toNat (IntKind.bits .u64)))).toNat).number_), ci ((gl x1447 ((IntKind.wrap .u64 (v1460 + v1461)).fdiv (2 ^ (min ((1 : Int)).toNat (IntKind.bits .u64)))).toNat).kind_), ci ((gl x1447 ((IntKind.wrap .u64 (v1460 + v1461)).fdiv (2 ^ (min ((1 : Int)).toNat (IntKind.bits .u64)))).toNat).from_), ci ((gl x1447 ((IntKind.wrap .u64 (v1460 + v1461)).fdiv (2 ^ (min ((1 : Int)).toNat (IntKind.bits .u64)))).toNat).until_), .d (DL (α := Rect) (gl x1447 ((IntKind.wrap .u64 (v1460 + v1461)).fdiv (2 ^ (min ((1 : Int)).toNat (IntKind.bits .u64)))).toNat).region_.rects_)]), gE x1448]) ⟨(gl x1447 ((IntKind.wrap .u64 (v1460 + v1461)).fdiv (2 ^ (min ((1 : Int)).toNat (IntKind.bits .u64)))).toNat), x1448, z1468, hz1469, rfl, rfl⟩ rfl (by kernel_rfl) (by kernel_rfl) (by kernel_rfl), True.intro⟩ (by kernel_rfl) ?_
      refine AW.cond (b := (decide (z1468 < (0 : Int)))) (by kernel_rfl) (fun hb1470 => ?_) (fun hb1470 => ?_)
      · have h := br_t h hb1470
        obtain ⟨hg1471, h⟩ := gd_some h
        refine AW.g Fm [.s, .s, .s] (fun K => (I64 (((IntKind.wrap .u64 (v1460 + v1461)).fdiv (2 ^ (min ((1 : Int)).toNat (IntKind.bits .u64)))) + (1 : Int)) ∧ True) ∧ True) [(0, AL x1447), (2, .v (.c (.sem (CloOK Tryz.prog (FR_Feature_Feature_Int x1449))))), (4, .v (.c (.ptr 4 0))), (8, vi ((List.length x1447 : Nat) : Int)), (9, vi (((IntKind.wrap .u64 (v1460 + v1461)).fdiv (2 ^ (min ((1 : Int)).toNat (IntKind.bits .u64)))) + (1 : Int))), (10, vi v1461)] [(4, .box false (gC x1448))] ⟨⟨hg1471, True.intro⟩, True.intro⟩ (by kernel_rfl) ?_
        exact Kn.r Fm [(0, AL x1447), (2, .v (.c (.sem (CloOK Tryz.prog (FR_Feature_Feature_Int x1449))))), (4, .v (.c (.ptr 4 0))), (8, vi ((List.length x1447 : Nat) : Int)), (9, vi (((IntKind.wrap .u64 (v1460 + v1461)).fdiv (2 ^ (min ((1 : Int)).toNat (IntKind.bits .u64)))) + (1 : Int))), (10, vi v1461)] [(4, .box false (gC x1448))] (by kernel_rfl) (hJ1462 ((((IntKind.wrap .u64 (v1460 + v1461)).fdiv (2 ^ (min ((1 : Int)).toNat (IntKind.bits .u64)))) + (1 : Int)), v1461) h)
      · have h := br_f h hb1470
        refine AW.g0 Fm 2 [(0, AL x1447), (2, .v (.c (.sem (CloOK Tryz.prog (FR_Feature_Feature_Int x1449))))), (4, .v (.c (.ptr 4 0))), (8, vi ((List.length x1447 : Nat) : Int)), (9, vi v1460), (10, vi ((IntKind.wrap .u64 (v1460 + v1461)).fdiv (2 ^ (min ((1 : Int)).toNat (IntKind.bits .u64)))))] [(4, .box false (gC x1448))] (by kernel_rfl) ?_
        exact Kn.r Fm [(0, AL x1447), (2, .v (.c (.sem (CloOK Tryz.prog (FR_Feature_Feature_Int x1449))))), (4, .v (.c (.ptr 4 0))), (8, vi ((List.length x1447 : Nat) : Int)), (9, vi v1460), (10, vi ((IntKind.wrap .u64 (v1460 + v1461)).fdiv (2 ^ (min ((1 : Int)).toNat (IntKind.bits .u64)))))] [(4, .box false (gC x1448))] (by kernel_rfl) (hJ1462 (v1460, ((IntKind.wrap .u64 (v1460 + v1461)).fdiv (2 ^ (min ((1 : Int)).toNat (IntKind.bits .u64))))) h)
    · have h := br_f h hb1463
      refine AW.exit ?_
      exact Kn.r Fm [(0, AL x1447), (2, .v (.c (.sem (CloOK Tryz.prog (FR_Feature_Feature_Int x1449))))), (4, .v (.c (.ptr 4 0))), (8, vi ((List.length x1447 : Nat) : Int)), (9, vi v1460)] [(4, .box false (gC x1448))] (by kernel_rfl) (hJ1473 v1460 h)
/- landaid/feature.compare -/
theorem feature_compare_spec {F : Nat} {x1480 : Feature} {x1481 : Feature} {r : Int} (h : feature_compare F x1480 x1481 = some r) :
    FSpec Tryz.prog 135 [gE x1480, gE x1481] [] (vi r) [] := by
  refine FSpec.intro prog_mixed prog_lay Tryz.func135 rfl (by kernel_rfl) fun C Fm => ?_
  unfold feature_compare at h
  refine AW.sg0 Fm 3 [(2, .v (.c (.ptr 2 0))), (3, .v (.c (.ptr 3 0)))] [(2, .box false (gC x1480)), (3, .box false (gC x1481))] (by kernel_rfl) ?_
  refine AW.seq ?_
  obtain ⟨z1482, hz1483, h⟩ := bd_some h
  refine AW.g Fm [.s, .s, .s, .s, .k (cE [] [] (vi z1482) [] []), .s] (fun K => K 4 ∧ True) [(4, vi z1482)] [] ⟨KAt.cl (args := [vi x1480.number_, vi x1481.number_]) (cmp_Compare_int_spec hz1483) Tryz.call61 [] rfl (by kernel_rfl), True.intro⟩ (by kernel_rfl) ?_
  refine AW.ret ?_
  obtain rfl := Option.some.inj h
  exact Kn.r Fm [(4, vi z1482)] [] (by kernel_rfl) (Kn.dn Fm (by kernel_rfl))
/- slices.Delete[[]landaid/api.Feature,landaid/api.Feature] -/
theorem slices_Delete_Feature_spec {F : Nat} {x1484 : (List Feature)} {x1485 : Int} {x1486 : Int} {r : (List Feature)} (h : slices_Delete_Feature F x1484 x1485 x1486 = some r) :
    FSpec Tryz.prog 136 [.v (.c (.own 0)), vi x1485, vi x1486] [(0, AO x1484)] (.v (.c (.own 100))) [(100, AO (α := Feature) r)] := by
  refine FSpec.intro prog_mixed prog_lay Tryz.func136 rfl (by kernel_rfl) fun C Fm => ?_
  unfold slices_Delete_Feature at h
  refine AW.sg0 Fm 1 [(0, .v (.c (.own 0))), (1, vi x1485), (2, vi x1486)] [(0, AO x1484)] (by kernel_rfl) ?_
  obtain ⟨hg1487, h⟩ := gd_some h
  refine AW.sg Fm [.s, .s, .s, .s, .s, .k (rE { v := .any })] (fun K => K 5 ∧ True) [(0, .v (.c (.own 0))), (1, vi x1485), (2, vi x1486)] [(0, AO x1484)] ⟨KAt.vslice3 (l := x1485) (u := x1486) (m := ((List.length x1484 : Nat) : Int)) (id := 0) (lo0 := 0) (n := (List.length (α := Feature) x1484)) (N := List.length (α := Feature) x1484) (f := LF (α := Feature) x1484) prog_lay slT45 rfl rfl (by kernel_rfl) (by kernel_rfl) (by kernel_rfl) (by kernel_rfl) (by kernel_rfl) (by kernel_rfl) hg1487, True.intro⟩ (by kernel_rfl) ?_
  refine AW.seq ?_
  refine AW.sg0 Fm 3 [(0, .v (.c (.own 0))), (1, vi x1485), (2, vi x1486), (16, vb (x1485 == x1486))] [(0, AO x1484)] (by kernel_rfl) ?_
  refine AW.cond (b := (x1485 == x1486)) (by kernel_rfl) (fun hb1488 => ?_) (fun hb1488 => ?_)
  · have h := br_t h hb1488
    refine AW.sg0 Fm 2 [(6, .v (.c (.own 0)))] [(0, AO x1484)] (by kernel_rfl) ?_
    refine AW.ret ?_
    obtain rfl := Option.some.inj h
    exact Kn.re Fm [(100, 0)] [(6, .v (.c (.own 100)))] [(100, AO x1484)] (by kernel_rfl) (by kernel_rfl) (by kernel_rfl) (by kernel_rfl) (Kn.dn Fm (by kernel_rfl))
  · have h := br_f h hb1488
    refine AW.skip ?_
    refine AW.sg0 Fm 3 [(0, .v (.c (.own 0))), (1, vi x1485), (2, vi x1486), (7, vi ((List.length x1484 : Nat) : Int))] [(0, AO x1484)] (by kernel_rfl) ?_
    obtain ⟨hg1489, h⟩ := gd_some h
    obtain ⟨hg1490, h⟩ := gd_some h
    obtain ⟨hg1491, h⟩ := gd_some h
    refine AW.sg Fm [.s, .s, .k (rE { v := .v (.c (.sub 0 5 0 ((x1485).toNat))) }), .s, .s, .k (rE { v := .v (.c (.sub 0 5 (0 + (x1486).toNat) ((List.length (α := Feature) x1484) - (x1486).toNat))) }), .k (rE { v := .v (.c (.sub 0 5 0 (((x1485).toNat) + ((List.length (α := Feature) x1484) - (x1486).toNat)))), upd := some (0, .arr 5 (List.length (α := Feature) x1484) (fun i => if 0 + ((x1485).toNat) ≤ i ∧ i < 0 + ((x1485).toNat) + ((List.length (α := Feature) x1484) - (x1486).toNat) then (fun j => (LF (α := Feature) x1484) ((0 + (x1486).toNat) + j)) (i - (0 + ((x1485).toNat))) else (LF (α := Feature) x1484) i)) }), .s] (fun K => K 2 ∧ K 5 ∧ K 6 ∧ True) [(0, .v (.c (.sub 0 5 0 (((x1485).toNat) + ((List.length (α := Feature) x1484) - (x1486).toNat))))), (7, vi ((List.length x1484 : Nat) : Int))] [(0, .arr 5 (List.length (α := Feature) x1484) (fun i => if 0 + ((x1485).toNat) ≤ i ∧ i < 0 + ((x1485).toNat) + ((List.length (α := Feature) x1484) - (x1486).toNat) then (fun j => (LF (α := Feature) x1484) ((0 + (x1486).toNat) + j)) (i - (0 + ((x1485).toNat))) else (LF (α := Feature) x1484) i))] ⟨KAt.vslice (l := none) (u := (some x1485)) (id := 0) (lo0 := 0) (n := (List.length (α := Feature) x1484)) (N := List.length (α := Feature) x1484) (f := LF (α := Feature) x1484) prog_lay slT45 rfl rfl (by kernel_rfl) (by kernel_rfl) (by kernel_rfl) (by kernel_rfl) (by kernel_rfl) hg1489 (by kernel_rfl), KAt.vslice (l := (some x1486)) (u := none) (id := 0) (lo0 := 0) (n := (List.length (α := Feature) x1484)) (N := List.length (α := Feature) x1484) (f := LF (α := Feature) x1484) prog_lay slT45 rfl rfl (by kernel_rfl) (by kernel_rfl) (by kernel_rfl) (by kernel_rfl) (by kernel_rfl) hg1490 (by kernel_rfl), KAt.vappend (id := 0) (lo0 := 0) (n := ((x1485).toNat)) (lo2 := (0 + (x1486).toNat)) (m := ((List.length (α := Feature) x1484) - (x1486).toNat)) (N := List.length (α := Feature) x1484) (f := (LF (α := Feature) x1484)) prog_lay slT45 rfl rfl (by kernel_rfl) (by kernel_rfl) (by kernel_rfl) (by kernel_rfl) hg1491.1 rfl rfl, True.intro⟩ (by kernel_rfl) ?_
    refine Kn.wk [(0, .v (.c (.sub 0 5 0 (((x1485).toNat) + ((List.length (α := Feature) x1484) - (x1486).toNat))))), (7, vi ((List.length x1484 : Nat) : Int))] [(0, AO (α := Feature) (mvl x1484 (0 + ((x1485).toNat)) (0 + (x1486).toNat) ((List.length (α := Feature) x1484) - (x1486).toNat)))] (FE.refl _) (⟨rfl, OLe.is (Is.mvl (l := x1484) (m := 0 + ((x1485).toNat)) (lo := (0 + (x1486).toNat)) (k := ((List.length (α := Feature) x1484) - (x1486).toNat)) hg1491.2), True.intro⟩) ?_
    obtain ⟨hg1492, h⟩ := gd_some h
    refine AW.sg Fm [.s, .s, .k (rE { v := vi (((((x1485).toNat) + ((List.length (α := Feature) x1484) - (x1486).toNat)) : Nat) : Int) }), .s, .k (rE { v := .v (.c (.sub 0 5 (0 + ((((((x1485).toNat) + ((List.length (α := Feature) x1484) - (x1486).toNat)) : Nat) : Int)).toNat) ((((List.length x1484 : Nat) : Int)).toNat - ((((((x1485).toNat) + ((List.length (α := Feature) x1484) - (x1486).toNat)) : Nat) : Int)).toNat))) }), .k (rE { v := .any, upd := some (0, .arr 5 (List.length (α := Feature) (mvl x1484 (0 + ((x1485).toNat)) (0 + (x1486).toNat) ((List.length (α := Feature) x1484) - (x1486).toNat))) (fun i => if (0 + ((((((x1485).toNat) + ((List.length (α := Feature) x1484) - (x1486).toNat)) : Nat) : Int)).toNat) ≤ i ∧ i < (0 + ((((((x1485).toNat) + ((List.length (α := Feature) x1484) - (x1486).toNat)) : Nat) : Int)).toNat) + ((((List.length x1484 : Nat) : Int)).toNat - ((((((x1485).toNat) + ((List.length (α := Feature) x1484) - (x1486).toNat)) : Nat) : Int)).toNat) then (fun _ => [.int .i64 0, .int .i64 0, .int .i64 0, .int .i64 0, DL (α := Rect) []]) (i - (0 + ((((((x1485).toNat) + ((List.length (α := Feature) x1484) - (x1486).toNat)) : Nat) : Int)).toNat)) else (LF (α := Feature) (mvl x1484 (0 + ((x1485).toNat)) (0 + (x1486).toNat) ((List.length (α := Feature) x1484) - (x1486).toNat))) i)) })] (fun K => K 2 ∧ K 4 ∧ K 5 ∧ True) [(0, .v (.c (.sub 0 5 0 (((x1485).toNat) + ((List.length (α := Feature) x1484) - (x1486).toNat)))))] [(0, .arr 5 (List.length (α := Feature) (mvl x1484 (0 + ((x1485).toNat)) (0 + (x1486).toNat) ((List.length (α := Feature) x1484) - (x1486).toNat))) (fun i => if (0 + ((((((x1485).toNat) + ((List.length (α := Feature) x1484) - (x1486).toNat)) : Nat) : Int)).toNat) ≤ i ∧ i < (0 + ((((((x1485).toNat) + ((List.length (α := Feature) x1484) - (x1486).toNat)) : Nat) : Int)).toNat) + ((((List.length x1484 : Nat) : Int)).toNat - ((((((x1485).toNat) + ((List.length (α := Feature) x1484) - (x1486).toNat)) : Nat) : Int)).toNat) then (fun _ => [.int .i64 0, .int .i64 0, .int .i64 0, .int .i64 0, DL (α := Rect) []]) (i - (0 + ((((((x1485).toNat) + ((List.length (α := Feature) x1484) - (x1486).toNat)) : Nat) : Int)).toNat)) else (LF (α := Feature) (mvl x1484 (0 + ((x1485).toNat)) (0 + (x1486).toNat) ((List.length (α := Feature) x1484) - (x1486).toNat))) i))] ⟨KAt.vlen (es := 5) (id := 0) (lo0 := 0) (n := (((x1485).toNat) + ((List.length (α := Feature) x1484) - (x1486).toNat))) (N := List.length (α := Feature) (mvl x1484 (0 + ((x1485).toNat)) (0 + (x1486).toNat) ((List.length (α := Feature) x1484) - (x1486).toNat))) (f := LF (α := Feature) (mvl x1484 (0 + ((x1485).toNat)) (0 + (x1486).toNat) ((List.length (α := Feature) x1484) - (x1486).toNat))) prog_lay slT45 rfl rfl (by kernel_rfl) (by kernel_rfl) (by kernel_rfl), KAt.vslice (l := (some (((((x1485).toNat) + ((List.length (α := Feature) x1484) - (x1486).toNat)) : Nat) : Int))) (u := (some ((List.length x1484 : Nat) : Int))) (id := 0) (lo0 := 0) (n := (((x1485).toNat) + ((List.length (α := Feature) x1484) - (x1486).toNat))) (N := List.length (α := Feature) (mvl x1484 (0 + ((x1485).toNat)) (0 + (x1486).toNat) ((List.length (α := Feature) x1484) - (x1486).toNat))) (f := LF (α := Feature) (mvl x1484 (0 + ((x1485).toNat)) (0 + (x1486).toNat) ((List.length (α := Feature) x1484) - (x1486).toNat))) prog_lay slT45 rfl rfl (by kernel_rfl) (by kernel_rfl) (by kernel_rfl) (by kernel_rfl) (by kernel_rfl) hg1492 (by kernel_rfl), KAt.vclear (id := 0) (lo0 := (0 + ((((((x1485).toNat) + ((List.length (α := Feature) x1484) - (x1486).toNat)) : Nat) : Int)).toNat)) (n := ((((List.length x1484 : Nat) : Int)).toNat - ((((((x1485).toNat) + ((List.length (α := Feature) x1484) - (x1486).toNat)) : Nat) : Int)).toNat)) (N := List.length (α := Feature) (mvl x1484 (0 + ((x1485).toNat)) (0 + (x1486).toNat) ((List.length (α := Feature) x1484) - (x1486).toNat))) (f := (LF (α := Feature) (mvl x1484 (0 + ((x1485).toNat)) (0 + (x1486).toNat) ((List.length (α := Feature) x1484) - (x1486).toNat)))) prog_lay slT45 [.int .i64 0, .int .i64 0, .int .i64 0, .int .i64 0, .lst 0 fun _ => []] [.int .i64 0, .int .i64 0, .int .i64 0, .int .i64 0, DL (α := Rect) []] ⟨DLe.refl _, DLe.refl _, DLe.refl _, DLe.refl _, DLe.nil _ _, True.intro⟩ rfl rfl (by kernel_rfl) (Nat.succ_pos _) (by kernel_rfl) (by kernel_rfl) (by kernel_rfl) (by kernel_rfl) rfl, True.intro⟩ (by kernel_rfl) ?_
    refine Kn.wk [(0, .v (.c (.sub 0 5 0 (((x1485).toNat) + ((List.length (α := Feature) x1484) - (x1486).toNat)))))] [(0, AO (α := Feature) (clr (mvl x1484 (0 + ((x1485).toNat)) (0 + (x1486).toNat) ((List.length (α := Feature) x1484) - (x1486).toNat)) (0 + ((((((x1485).toNat) + ((List.length (α := Feature) x1484) - (x1486).toNat)) : Nat) : Int)).toNat) ((((List.length x1484 : Nat) : Int)).toNat - ((((((x1485).toNat) + ((List.length (α := Feature) x1484) - (x1486).toNat)) : Nat) : Int)).toNat)))] (FE.refl _) (⟨rfl, OLe.is (Is.clr (l := (mvl x1484 (0 + ((x1485).toNat)) (0 + (x1486).toNat) ((List.length (α := Feature) x1484) - (x1486).toNat))) (0 + ((((((x1485).toNat) + ((List.length (α := Feature) x1484) - (x1486).toNat)) : Nat) : Int)).toNat) ((((List.length x1484 : Nat) : Int)).toNat - ((((((x1485).toNat) + ((List.length (α := Feature) x1484) - (x1486).toNat)) : Nat) : Int)).toNat) (zd := [.int .i64 0, .int .i64 0, .int .i64 0, .int .i64 0, DL (α := Rect) []]) (by kernel_rfl)), True.intro⟩) ?_
    refine AW.sg0 Fm 2 [(6, .v (.c (.sub 0 5 0 (((x1485).toNat) + ((List.length (α := Feature) x1484) - (x1486).toNat)))))] [(0, AO (α := Feature) (clr (mvl x1484 (0 + ((x1485).toNat)) (0 + (x1486).toNat) ((List.length (α := Feature) x1484) - (x1486).toNat)) (0 + ((((((x1485).toNat) + ((List.length (α := Feature) x1484) - (x1486).toNat)) : Nat) : Int)).toNat) ((((List.length x1484 : Nat) : Int)).toNat - ((((((x1485).toNat) + ((List.length (α := Feature) x1484) - (x1486).toNat)) : Nat) : Int)).toNat)))] (by kernel_rfl) ?_
    refine AW.ret ?_
    obtain ⟨hg1493, h⟩ := gd_some h
    refine Kn.r Fm ((6, .v (.c (.sub 0 5 0 (((x1485).toNat) + ((List.length (α := Feature) x1484) - (x1486).toNat))))) :: []) ((0, AO (α := Feature) (clr (mvl x1484 (0 + ((x1485).toNat)) (0 + (x1486).toNat) ((List.length (α := Feature) x1484) - (x1486).toNat)) (0 + ((((((x1485).toNat) + ((List.length (α := Feature) x1484) - (x1486).toNat)) : Nat) : Int)).toNat) ((((List.length x1484 : Nat) : Int)).toNat - ((((((x1485).toNat) + ((List.length (α := Feature) x1484) - (x1486).toNat)) : Nat) : Int)).toNat))) :: []) (by kernel_rfl) ?_
    refine Kn.shrink Fm (k := 1000) (n := (((x1485).toNat) + ((List.length (α := Feature) x1484) - (x1486).toNat))) (by kernel_rfl) (by kernel_rfl) (by kernel_rfl) ?_
    refine Kn.obj (OLe.is (Is.takeN (Is.refl (clr (mvl x1484 (0 + ((x1485).toNat)) (0 + (x1486).toNat) ((List.length (α := Feature) x1484) - (x1486).toNat)) (0 + ((((((x1485).toNat) + ((List.length (α := Feature) x1484) - (x1486).toNat)) : Nat) : Int)).toNat) ((((List.length x1484 : Nat) : Int)).toNat - ((((((x1485).toNat) + ((List.length (α := Feature) x1484) - (x1486).toNat)) : Nat) : Int)).toNat))) hg1493)) ?_
    obtain rfl := Option.some.inj h
    exact Kn.re Fm [(100, 1000)] [(6, .v (.c (.own 100)))] [(100, AO (α := Feature) ((clr (mvl x1484 (0 + ((x1485).toNat)) (0 + (x1486).toNat) ((List.length (α := Feature) x1484) - (x1486).toNat)) (0 + ((((((x1485).toNat) + ((List.length (α := Feature) x1484) - (x1486).toNat)) : Nat) : Int)).toNat) ((((List.length x1484 : Nat) : Int)).toNat - ((((((x1485).toNat) + ((List.length (α := Feature) x1484) - (x1486).toNat)) : Nat) : Int)).toNat)).take (((x1485).toNat) + ((List.length (α := Feature) x1484) - (x1486).toNat))))] (by kernel_rfl) (by kernel_rfl) (by kernel_rfl) (by kernel_rfl) (Kn.dn Fm (by kernel_rfl))
/- landaid/feature.End -/
theorem feature_End_spec {F : Nat} {x1494 : (List Feature)} {x1495 : Int} {x1496 : Int} {r : (List Feature) × Int} (h : feature_End F x1494 x1495 x1496 = some r) :
    FSpec Tryz.prog 80 [AL x1494, vi x1495, vi x1496] [] (.t [.c (.d (DL (α := Feature) r.1)), .c (ci r.2)]) [] := by
  refine FSpec.intro prog_mixed prog_lay Tryz.func80 rfl (by kernel_rfl) fun C Fm => ?_
  unfold feature_End at h
  refine AW.sg0 Fm 2 [(0, AL x1494), (1, vi x1495), (2, vi x1496)] [] (by kernel_rfl) ?_
  refine AW.seq ?_
  refine AW.seq ?_
  obtain ⟨z1497, hz1498, h⟩ := bd_some h
  refine AW.g Fm [.s, .k (cE [] [] (vi z1497) [] []), .s] (fun K => K 1 ∧ True) [(0, AL x1494), (1, vi x1495), (2, vi x1496), (8, vi z1497)] [] ⟨KAt.cl (args := [AL x1494]) (feature_Check_spec hz1498) Tryz.call78 [] rfl (by kernel_rfl), True.intro⟩ (by kernel_rfl) ?_
  refine AW.sg0 Fm 2 [(0, AL x1494), (1, vi x1495), (2, vi x1496), (8, vi z1497), (15, vb (z1497 != (0 : Int)))] [] (by kernel_rfl) ?_
  refine AW.cond (b := (z1497 != (0 : Int))) (by kernel_rfl) (fun hb1499 => ?_) (fun hb1499 => ?_)
  · have h := br_t h hb1499
    refine AW.sg0 Fm 3 [(6, .v (.c (.fl 0 fun _ => []))), (7, vi z1497)] [] (by kernel_rfl) ?_
    refine AW.ret ?_
    obtain rfl := Option.some.inj h
    refine Kn.r Fm [(6, .v (.c (.fl 0 fun _ => []))), (7, vi z1497)] [] (by kernel_rfl) ?_
    refine Kn.wk [(6, AL (α := Feature) []), (7, vi z1497)] [] ⟨rfl, ALe.c (CLe.fl .nil), ⟨rfl, ALe.c (CLe.refl _), True.intro⟩⟩ True.intro ?_
    exact Kn.r Fm [(6, AL (α := Feature) []), (7, vi z1497)] [] (by kernel_rfl) (Kn.dn Fm (by kernel_rfl))
  · have h := br_f h hb1499
    refine AW.skip ?_
    refine AW.seq ?_
    obtain ⟨z1500, hz1501, h⟩ := bd_some h
    refine AW.g Fm [.s, .s, .w (.v (.g [ci x1495, ci 0, ci 0, ci 0, .d (DL (α := Rect) [])])), .k (cE [] [] (.t [.c (ci z1500.1), .c (.d (.bool z1500.2))]) [] []), .s, .s, .s, .s, .s] (fun K => (ALe (.v (.g [ci x1495, ci 0, ci 0, ci 0, .fl 0 fun _ => []])) (.v (.g [ci x1495, ci 0, ci 0, ci 0, .d (DL (α := Rect) [])]))) ∧ K 3 ∧ True) [(0, AL x1494), (2, vi x1496), (9, vi z1500.1), (10, vb z1500.2)] [] ⟨ALe.g ⟨CLe.refl _, CLe.refl _, CLe.refl _, CLe.refl _, CLe.fl .nil, True.intro⟩, KAt.callX (args := [AL x1494, .v (.g [ci ((⟨x1495, 0, 0, 0, (⟨[]⟩ : Region)⟩ : Feature).number_), ci ((⟨x1495, 0, 0, 0, (⟨[]⟩ : Region)⟩ : Feature).kind_), ci ((⟨x1495, 0, 0, 0, (⟨[]⟩ : Region)⟩ : Feature).from_), ci ((⟨x1495, 0, 0, 0, (⟨[]⟩ : Region)⟩ : Feature).until_), .d (DL (α := Rect) (⟨x1495, 0, 0, 0, (⟨[]⟩ : Region)⟩ : Feature).region_.rects_)]), .v (.c (.sem (CloOK Tryz.prog (FR_Feature_Feature_Int (fun y0 y1 => feature_compare F y0 y1)))))]) (slices_BinarySearchFunc_Feature_spec hz1501) Tryz.call134 [] [] [.tmp 18, .tmp 20, .func 135] rfl (by kernel_rfl) (by kernel_rfl) (by kernel_rfl) ⟨ArgT.plain (by kernel_rfl) (ALe.of_eq (by kernel_rfl)) (by kernel_rfl), ArgT.plain (by kernel_rfl) (ALe.of_eq (by kernel_rfl)) (by kernel_rfl), ArgT.cloX Tryz.call135 [] (fun args r hq => by obtain ⟨y0, y1, y, hq, rfl, rfl⟩ := hq; exact Eq.mp (by kernel_rfl) (feature_compare_spec hq)) (fun args r hq => by obtain ⟨y0, y1, y, hq, rfl, rfl⟩ := hq; rfl) (by kernel_rfl) [] (by kernel_rfl) (by kernel_rfl) (True.intro) (by kernel_rfl), True.intro⟩, True.intro⟩ (by kernel_rfl) ?_
    refine AW.seq ?_
    refine AW.block ?_
    refine AW.sg0 Fm 3 [(0, AL x1494), (2, vi x1496), (9, vi z1500.1), (24, vb (!z1500.2))] [] (by kernel_rfl) ?_
    refine AW.cond (b := (!z1500.2)) (by kernel_rfl) (fun hb1502 => ?_) (fun hb1502 => ?_)
    · have h := br_t h hb1502
      refine AW.sg0 Fm 2 [(6, .v (.c (.fl 0 fun _ => []))), (7, vi (10 : Int))] [] (by kernel_rfl) ?_
      refine AW.ret ?_
      obtain rfl := Option.some.inj h
      refine Kn.r Fm [(6, .v (.c (.fl 0 fun _ => []))), (7, vi (10 : Int))] [] (by kernel_rfl) ?_
      refine Kn.wk [(6, AL (α := Feature) []), (7, vi (10 : Int))] [] ⟨rfl, ALe.c (CLe.fl .nil), ⟨rfl, ALe.c (CLe.refl _), True.intro⟩⟩ True.intro ?_
      exact Kn.r Fm [(6, AL (α := Feature) []), (7, vi (10 : Int))] [] (by kernel_rfl) (Kn.dn Fm (by kernel_rfl))
    · have h := br_f h hb1502
      refine AW.seq ?_
      obtain ⟨hg1503, h⟩ := gd_some h
      obtain ⟨z1504, hz1505, h⟩ := bd_some h
      refine AW.g Fm [.s, .s, .s, .s, .s, .k (cE [] [] (vb z1504) [] []), .s, .s] (fun K => (0 ≤ z1500.1 ∧ z1500.1 < ((List.length x1494 : Nat) : Int)) ∧ K 5 ∧ True) [(0, AL x1494), (2, vi x1496), (9, vi z1500.1), (27, vb (!z1504))] [] ⟨hg1503, KAt.cl (args := [.v (.g [ci ((gl x1494 z1500.1.toNat).number_), ci ((gl x1494 z1500.1.toNat).kind_), ci ((gl x1494 z1500.1.toNat).from_), ci ((gl x1494 z1500.1.toNat).until_), .d (DL (α := Rect) (gl x1494 z1500.1.toNat).region_.rects_)]), vi x1496]) (feature_there_spec hz1505) Tryz.call129 [] rfl (by kernel_rfl), True.intro⟩ (by kernel_rfl) ?_
      refine AW.cond (b := (!z1504)) (by kernel_rfl) (fun hb1506 => ?_) (fun hb1506 => ?_)
      · have h := br_t h hb1506
        refine AW.sg0 Fm 2 [(6, .v (.c (.fl 0 fun _ => []))), (7, vi (9 : Int))] [] (by kernel_rfl) ?_
        refine AW.ret ?_
        obtain rfl := Option.some.inj h
        refine Kn.r Fm [(6, .v (.c (.fl 0 fun _ => []))), (7, vi (9 : Int))] [] (by kernel_rfl) ?_
        refine Kn.wk [(6, AL (α := Feature) []), (7, vi (9 : Int))] [] ⟨rfl, ALe.c (CLe.fl .nil), ⟨rfl, ALe.c (CLe.refl _), True.intro⟩⟩ True.intro ?_
        exact Kn.r Fm [(6, AL (α := Feature) []), (7, vi (9 : Int))] [] (by kernel_rfl) (Kn.dn Fm (by kernel_rfl))
      · have h := br_f h hb1506
        refine AW.skip ?_
        refine AW.seq ?_
        obtain ⟨z1507, hz1508, h⟩ := bd_some h
        refine AW.g Fm [.s, .k (cE [(100, 36)] [] (.v (.c (.own 100))) [] [(100, AO z1507)]), .s] (fun K => K 1 ∧ True) [(2, vi x1496), (9, vi z1500.1), (11, .v (.c (.own 36)))] [(36, AO z1507)] ⟨KAt.cl (args := [AL x1494]) (feature_all_spec hz1508) Tryz.call132 [(100, 36)] rfl (by kernel_rfl), True.intro⟩ (by kernel_rfl) ?_
        refine AW.seq ?_
        obtain ⟨hg1509, h⟩ := gd_some h
        refine AW.sg Fm [.s, .s, .s, .s, .s, .s, .s] (fun K => (0 ≤ z1500.1 ∧ z1500.1 < ((List.length z1507 : Nat) : Int)) ∧ (z1500.1.toNat < List.length z1507) ∧ True) [(2, vi x1496), (9, vi z1500.1), (11, .v (.c (.own 36))), (43, vb (((gl z1507 z1500.1.toNat).from_) == x1496))] [(36, AO z1507)] ⟨hg1509, (toNat_lt hg1509), True.intro⟩ (by kernel_rfl) ?_
        refine AW.cond (b := (((gl z1507 z1500.1.toNat).from_) == x1496)) (by kernel_rfl) (fun hb1510 => ?_) (fun hb1510 => ?_)
        · have h := br_t h hb1510
          refine AW.seq ?_
          obtain ⟨hg1511, h⟩ := gd_some h
          obtain ⟨z1512, hz1513, h⟩ := bd_some h
          refine AW.g Fm [.s, .s, .s, .s, .k (cE [(0, 36), (100, 48)] [] (.v (.c (.own 100))) [(0, AO z1507)] [(100, AO z1512)]), .s, .s] (fun K => (I64 (z1500.1 + (1 : Int)) ∧ True) ∧ K 4 ∧ True) [(6, .v (.c (.own 48))), (7, vi (0 : Int))] [(48, AO z1512)] ⟨⟨hg1511, True.intro⟩, KAt.cl (args := [.v (.c (.own 0)), vi z1500.1, vi (z1500.1 + (1 : Int))]) (slices_Delete_Feature_spec hz1513) Tryz.call136 [(0, 36), (100, 48)] rfl (by kernel_rfl), True.intro⟩ (by kernel_rfl) ?_
          refine AW.ret ?_
          obtain rfl := Option.some.inj h
          refine Kn.r Fm [(6, .v (.c (.own 48))), (7, vi (0 : Int))] [(48, AO z1512)] (by kernel_rfl) ?_
          refine Kn.frz [(6, AL z1512), (7, vi (0 : Int))] [] (by kernel_rfl) (by kernel_rfl) (by kernel_rfl) ?_
          exact Kn.r Fm [(6, AL z1512), (7, vi (0 : Int))] [] (by kernel_rfl) (Kn.dn Fm (by kernel_rfl))
        · have h := br_f h hb1510
          refine AW.skip ?_
          obtain ⟨hg1514, h⟩ := gd_some h
          refine AW.sg Fm [.s, .s, .s, .s, .s, .s] (fun K => (0 ≤ z1500.1 ∧ z1500.1 < ((List.length z1507 : Nat) : Int)) ∧ (z1500.1.toNat < List.length z1507) ∧ True) [(11, .v (.c (.own 36)))] [(36, .arr 5 (List.length (α := Feature) z1507) (fun j => if j = z1500.1.toNat then splice ((LF (α := Feature) z1507) z1500.1.toNat) 3 [.int .i64 x1496] else (LF (α := Feature) z1507) j))] ⟨hg1514, (toNat_lt hg1514), True.intro⟩ (by kernel_rfl) ?_
          refine Kn.wk [(11, .v (.c (.own 36)))] [(36, AO (α := Feature) (List.set z1507 z1500.1.toNat (⟨(gl z1507 z1500.1.toNat).number_, (gl z1507 z1500.1.toNat).kind_, (gl z1507 z1500.1.toNat).from_, x1496, (gl z1507 z1500.1.toNat).region_⟩ : Feature)))] (FE.refl _) (⟨rfl, OLe.is (Is.set (Is.refl z1507) (toNat_lt hg1514) (⟨(gl z1507 z1500.1.toNat).number_, (gl z1507 z1500.1.toNat).kind_, (gl z1507 z1500.1.toNat).from_, x1496, (gl z1507 z1500.1.toNat).region_⟩ : Feature) (by kernel_rfl)), True.intro⟩) ?_
          refine AW.sg0 Fm 3 [(6, .v (.c (.own 36))), (7, vi (0 : Int))] [(36, AO (α := Feature) (List.set z1507 z1500.1.toNat (⟨(gl z1507 z1500.1.toNat).number_, (gl z1507 z1500.1.toNat).kind_, (gl z1507 z1500.1.toNat).from_, x1496, (gl z1507 z1500.1.toNat).region_⟩ : Feature)))] (by kernel_rfl) ?_
          refine AW.ret ?_
          obtain rfl := Option.some.inj h
          refine Kn.r Fm [(6, .v (.c (.own 36))), (7, vi (0 : Int))] [(36, AO (α := Feature) (List.set z1507 z1500.1.toNat (⟨(gl z1507 z1500.1.toNat).number_, (gl z1507 z1500.1.toNat).kind_, (gl z1507 z1500.1.toNat).from_, x1496, (gl z1507 z1500.1.toNat).region_⟩ : Feature)))] (by kernel_rfl) ?_
          refine Kn.frz [(6, AL (α := Feature) (List.set z1507 z1500.1.toNat (⟨(gl z1507 z1500.1.toNat).number_, (gl z1507 z1500.1.toNat).kind_, (gl z1507 z1500.1.toNat).from_, x1496, (gl z1507 z1500.1.toNat).region_⟩ : Feature))), (7, vi (0 : Int))] [] (by kernel_rfl) (by kernel_rfl) (by kernel_rfl) ?_
          exact Kn.r Fm [(6, AL (α := Feature) (List.set z1507 z1500.1.toNat (⟨(gl z1507 z1500.1.toNat).number_, (gl z1507 z1500.1.toNat).kind_, (gl z1507 z1500.1.toNat).from_, x1496, (gl z1507 z1500.1.toNat).region_⟩ : Feature))), (7, vi (0 : Int))] [] (by kernel_rfl) (Kn.dn Fm (by kernel_rfl))
/- landaid/landaidlaw09.awake -/
theorem law09_awake_spec {F : Nat} {r : Bool} (h : law09_awake F = some r) :
    FSpec Tryz.prog 28 [] [] (vb r) [] := by
  refine FSpec.intro prog_mixed prog_lay Tryz.func28 rfl (by kernel_rfl) fun C Fm => ?_
  unfold law09_awake at h
  refine AW.sg0 Fm 1 [] [] (by kernel_rfl) ?_
  refine AW.sg Fm [.s, .w (AL (α := Rect) ([(⟨0, 0, (1 : Int), (1 : Int)⟩ : Rect)] : List Rect)), .s, .s, .w (AL (α := Feature) ([(⟨(1 : Int), 0, (5 : Int), (10 : Int), (⟨([(⟨0, 0, (1 : Int), (1 : Int)⟩ : Rect)] : List Rect)⟩ : Region)⟩ : Feature)] : List Feature)), .s] (fun K => (ALe (.v (.c (.d (.lst 1 (litF 4 [.int .i64 0, .int .i64 0, .int .i64 (1 : Int), .int .i64 (1 : Int)]))))) (AL (α := Rect) ([(⟨0, 0, (1 : Int), (1 : Int)⟩ : Rect)] : List Rect))) ∧ (ALe (.v (.c (.d (.lst 1 (litF 5 [.int .i64 (1 : Int), .int .i64 0, .int .i64 (5 : Int), .int .i64 (10 : Int), DL (α := Rect) ([(⟨0, 0, (1 : Int), (1 : Int)⟩ : Rect)] : List Rect)]))))) (AL (α := Feature) ([(⟨(1 : Int), 0, (5 : Int), (10 : Int), (⟨([(⟨0, 0, (1 : Int), (1 : Int)⟩ : Rect)] : List Rect)⟩ : Region)⟩ : Feature)] : List Feature))) ∧ True) [(1, AL (α := Feature) ([(⟨(1 : Int), 0, (5 : Int), (10 : Int), (⟨([(⟨0, 0, (1 : Int), (1 : Int)⟩ : Rect)] : List Rect)⟩ : Region)⟩ : Feature)] : List Feature))] [] ⟨ALe.lst (.lit ([(⟨0, 0, (1 : Int), (1 : Int)⟩ : Rect)] : List Rect) (by kernel_rfl)), ALe.lst (.lit ([(⟨(1 : Int), 0, (5 : Int), (10 : Int), (⟨([(⟨0, 0, (1 : Int), (1 : Int)⟩ : Rect)] : List Rect)⟩ : Region)⟩ : Feature)] : List Feature) (by kernel_rfl)), True.intro⟩ (by kernel_rfl) ?_
  refine AW.seq ?_
  obtain ⟨z1515, hz1516, h⟩ := bd_some h
  refine AW.g Fm [.s, .k (cE [] [] (.t [.c (.d (DL z1515.1)), .c (ci z1515.2)]) [] []), .s, .s, .s, .s, .s] (fun K => K 1 ∧ True) [(1, AL (α := Feature) ([(⟨(1 : Int), 0, (5 : Int), (10 : Int), (⟨([(⟨0, 0, (1 : Int), (1 : Int)⟩ : Rect)] : List Rect)⟩ : Region)⟩ : Feature)] : List Feature)), (2, AL z1515.1), (3, vi z1515.2)] [] ⟨KAt.cl (args := [AL (α := Feature) ([(⟨(1 : Int), 0, (5 : Int), (10 : Int), (⟨([(⟨0, 0, (1 : Int), (1 : Int)⟩ : Rect)] : List Rect)⟩ : Region)⟩ : Feature)] : List Feature), vi (9 : Int)]) (feature_On_spec hz1516) Tryz.call79 [] rfl (by kernel_rfl), True.intro⟩ (by kernel_rfl) ?_
  refine AW.seq ?_
  obtain ⟨z1517, hz1518, h⟩ := bd_some h
  refine AW.g Fm [.s, .k (cE [] [] (.t [.c (.d (DL z1517.1)), .c (ci z1517.2)]) [] []), .s, .s, .s, .s, .s] (fun K => K 1 ∧ True) [(1, AL (α := Feature) ([(⟨(1 : Int), 0, (5 : Int), (10 : Int), (⟨([(⟨0, 0, (1 : Int), (1 : Int)⟩ : Rect)] : List Rect)⟩ : Region)⟩ : Feature)] : List Feature)), (2, AL z1515.1), (3, vi z1515.2), (4, AL z1517.1), (5, vi z1517.2)] [] ⟨KAt.cl (args := [AL (α := Feature) ([(⟨(1 : Int), 0, (5 : Int), (10 : Int), (⟨([(⟨0, 0, (1 : Int), (1 : Int)⟩ : Rect)] : List Rect)⟩ : Region)⟩ : Feature)] : List Feature), vi (10 : Int)]) (feature_On_spec hz1518) Tryz.call79 [] rfl (by kernel_rfl), True.intro⟩ (by kernel_rfl) ?_
  refine AW.seq ?_
  obtain ⟨z1519, hz1520, h⟩ := bd_some h
  refine AW.g Fm [.s, .k (cE [] [] (.t [.c (.d (DL z1519.1)), .c (ci z1519.2)]) [] []), .s, .s, .s, .s, .s] (fun K => K 1 ∧ True) [(2, AL z1515.1), (3, vi z1515.2), (4, AL z1517.1), (5, vi z1517.2), (6, AL z1519.1), (7, vi z1519.2)] [] ⟨KAt.cl (args := [AL (α := Feature) ([(⟨(1 : Int), 0, (5 : Int), (10 : Int), (⟨([(⟨0, 0, (1 : Int), (1 : Int)⟩ : Rect)] : List Rect)⟩ : Region)⟩ : Feature)] : List Feature), vi (1 : Int), vi (7 : Int)]) (feature_End_spec hz1520) Tryz.call80 [] rfl (by kernel_rfl), True.intro⟩ (by kernel_rfl) ?_
  refine AW.seq ?_
  obtain ⟨z1521, hz1522, h⟩ := bd_some h
  refine AW.g Fm [.s, .k (cE [] [] (.t [.c (.d (DL z1521.1)), .c (ci z1521.2)]) [] []), .s, .s, .s, .s, .s] (fun K => K 1 ∧ True) [(2, AL z1515.1), (3, vi z1515.2), (4, AL z1517.1), (5, vi z1517.2), (6, AL z1519.1), (7, vi z1519.2), (8, AL z1521.1), (9, vi z1521.2)] [] ⟨KAt.cl (args := [AL z1519.1, vi (7 : Int)]) (feature_On_spec hz1522) Tryz.call79 [] rfl (by kernel_rfl), True.intro⟩ (by kernel_rfl) ?_
  refine AW.join (r := r) (fun z : Bool => law09_awake_k0 F z) (fun z => [(0, vb z)]) (fun z => []) (fun v1532 h => ?_) (fun J1533 hJ1533 => ?_)
  · have h : law09_awake_k0 F v1532 = some r := h
    refine AW.ret ?_
    obtain rfl := Option.some.inj h
    exact Kn.r Fm [(0, vb v1532)] [] (by kernel_rfl) (Kn.dn Fm (by kernel_rfl))
  · rcases Bool.eq_false_or_eq_true (z1515.2 == (0 : Int)) with hb1523 | hb1523
    · have h := br_t h hb1523
      rcases Bool.eq_false_or_eq_true (((List.length z1515.1 : Nat) : Int) == (1 : Int)) with hb1524 | hb1524
      · have h := br_t h hb1524
        rcases Bool.eq_false_or_eq_true (z1517.2 == (0 : Int)) with hb1525 | hb1525
        · have h := br_t h hb1525
          rcases Bool.eq_false_or_eq_true (((List.length z1517.1 : Nat) : Int) == (0 : Int)) with hb1526 | hb1526
          · have h := br_t h hb1526
            rcases Bool.eq_false_or_eq_true (z1519.2 == (0 : Int)) with hb1527 | hb1527
            · have h := br_t h hb1527
              rcases Bool.eq_false_or_eq_true (z1521.2 == (0 : Int)) with hb1528 | hb1528
              · have h := br_t h hb1528
                rcases Bool.eq_false_or_eq_true (((List.length z1521.1 : Nat) : Int) == (0 : Int)) with hb1529 | hb1529
                · have h := br_t h hb1529
                  rcases Bool.eq_false_or_eq_true (((List.length z1519.1 : Nat) : Int) == (1 : Int)) with hb1530 | hb1530
                  · have h := br_t h hb1530
                    obtain ⟨hg1531, h⟩ := gd_some h
                    refine AW.g Fm [.s, .s, .w (vb true), .s, .s, .s, .s, .w (vb true), .s, .s, .s, .w (vb true), .s, .s, .s, .s, .w (vb true), .s, .s, .s, .w (vb true), .s, .s, .s, .w (vb true), .s, .s, .s, .s, .w (vb true), .s, .s, .s, .s, .w (vb true), .s, .s, .s, .s, .s, .s, .s] (fun K => (ALe (vb (z1515.2 == (0 : Int))) (vb true)) ∧ (ALe (vb (((List.length z1515.1 : Nat) : Int) == (1 : Int))) (vb true)) ∧ (ALe (vb (z1517.2 == (0 : Int))) (vb true)) ∧ (ALe (vb (((List.length z1517.1 : Nat) : Int) == (0 : Int))) (vb true)) ∧ (ALe (vb (z1519.2 == (0 : Int))) (vb true)) ∧ (ALe (vb (z1521.2 == (0 : Int))) (vb true)) ∧ (ALe (vb (((List.length z1521.1 : Nat) : Int) == (0 : Int))) (vb true)) ∧ (ALe (vb (((List.length z1519.1 : Nat) : Int) == (1 : Int))) (vb true)) ∧ (0 ≤ (0 : Int) ∧ (0 : Int) < ((List.length z1519.1 : Nat) : Int)) ∧ True) [(0, vb (((gl z1519.1 (0 : Int).toNat).until_) == (7 : Int)))] [] ⟨ALe.bool hb1523, ALe.bool hb1524, ALe.bool hb1525, ALe.bool hb1526, ALe.bool hb1527, ALe.bool hb1528, ALe.bool hb1529, ALe.bool hb1530, hg1531, True.intro⟩ (by kernel_rfl) ?_
                    exact Kn.r Fm [(0, vb (((gl z1519.1 (0 : Int).toNat).until_) == (7 : Int)))] [] (by kernel_rfl) (hJ1533 (((gl z1519.1 (0 : Int).toNat).until_) == (7 : Int)) h)
                  · have h := br_f h hb1530
                    refine AW.g Fm [.s, .s, .w (vb true), .s, .s, .s, .s, .w (vb true), .s, .s, .s, .w (vb true), .s, .s, .s, .s, .w (vb true), .s, .s, .s, .w (vb true), .s, .s, .s, .w (vb true), .s, .s, .s, .s, .w (vb true), .s, .s, .s, .s, .w (vb false), .s, .s, .s, .s, .s, .s, .s] (fun K => (ALe (vb (z1515.2 == (0 : Int))) (vb true)) ∧ (ALe (vb (((List.length z1515.1 : Nat) : Int) == (1 : Int))) (vb true)) ∧ (ALe (vb (z1517.2 == (0 : Int))) (vb true)) ∧ (ALe (vb (((List.length z1517.1 : Nat) : Int) == (0 : Int))) (vb true)) ∧ (ALe (vb (z1519.2 == (0 : Int))) (vb true)) ∧ (ALe (vb (z1521.2 == (0 : Int))) (vb true)) ∧ (ALe (vb (((List.length z1521.1 : Nat) : Int) == (0 : Int))) (vb true)) ∧ (ALe (vb (((List.length z1519.1 : Nat) : Int) == (1 : Int))) (vb false)) ∧ True) [(0, vb false)] [] ⟨ALe.bool hb1523, ALe.bool hb1524, ALe.bool hb1525, ALe.bool hb1526, ALe.bool hb1527, ALe.bool hb1528, ALe.bool hb1529, ALe.bool hb1530, True.intro⟩ (by kernel_rfl) ?_
                    exact Kn.r Fm [(0, vb false)] [] (by kernel_rfl) (hJ1533 false h)
                · have h := br_f h hb1529
                  refine AW.g Fm [.s, .s, .w (vb true), .s, .s, .s, .s, .w (vb true), .s, .s, .s, .w (vb true), .s, .s, .s, .s, .w (vb true), .s, .s, .s, .w (vb true), .s, .s, .s, .w (vb true), .s, .s, .s, .s, .w (vb false), .s, .s, .s, .s, .s, .s, .s, .s, .s, .s, .s, .s] (fun K => (ALe (vb (z1515.2 == (0 : Int))) (vb true)) ∧ (ALe (vb (((List.length z1515.1 : Nat) : Int) == (1 : Int))) (vb true)) ∧ (ALe (vb (z1517.2 == (0 : Int))) (vb true)) ∧ (ALe (vb (((List.length z1517.1 : Nat) : Int) == (0 : Int))) (vb true)) ∧ (ALe (vb (z1519.2 == (0 : Int))) (vb true)) ∧ (ALe (vb (z1521.2 == (0 : Int))) (vb true)) ∧ (ALe (vb (((List.length z1521.1 : Nat) : Int) == (0 : Int))) (vb false)) ∧ True) [(0, vb false)] [] ⟨ALe.bool hb1523, ALe.bool hb1524, ALe.bool hb1525, ALe.bool hb1526, ALe.bool hb1527, ALe.bool hb1528, ALe.bool hb1529, True.intro⟩ (by kernel_rfl) ?_
                  exact Kn.r Fm [(0, vb false)] [] (by kernel_rfl) (hJ1533 false h)
              · have h := br_f h hb1528
                refine AW.g Fm [.s, .s, .w (vb true), .s, .s, .s, .s, .w (vb true), .s, .s, .s, .w (vb true), .s, .s, .s, .s, .w (vb true), .s, .s, .s, .w (vb true), .s, .s, .s, .w (vb false), .s, .s, .s, .s, .s, .s, .s, .s, .s, .s, .s, .s, .s, .s, .s, .s, .s] (fun K => (ALe (vb (z1515.2 == (0 : Int))) (vb true)) ∧ (ALe (vb (((List.length z1515.1 : Nat) : Int) == (1 : Int))) (vb true)) ∧ (ALe (vb (z1517.2 == (0 : Int))) (vb true)) ∧ (ALe (vb (((List.length z1517.1 : Nat) : Int) == (0 : Int))) (vb true)) ∧ (ALe (vb (z1519.2 == (0 : Int))) (vb true)) ∧ (ALe (vb (z1521.2 == (0 : Int))) (vb false)) ∧ True) [(0, vb false)] [] ⟨ALe.bool hb1523, ALe.bool hb1524, ALe.bool hb1525, ALe.bool hb1526, ALe.bool hb1527, ALe.bool hb1528, True.intro⟩ (by kernel_rfl) ?_
                exact Kn.r Fm [(0, vb false)] [] (by kernel_rfl) (hJ1533 false h)
            · have h := br_f h hb1527
              refine AW.g Fm [.s, .s, .w (vb true), .s, .s, .s, .s, .w (vb true), .s, .s, .s, .w (vb true), .s, .s, .s, .s, .w (vb true), .s, .s, .s, .w (vb false), .s, .s, .s, .s, .s, .s, .s, .s, .s, .s, .s, .s, .s, .s, .s, .s, .s, .s, .s, .s, .s] (fun K => (ALe (vb (z1515.2 == (0 : Int))) (vb true)) ∧ (ALe (vb (((List.length z1515.1 : Nat) : Int) == (1 : Int))) (vb true)) ∧ (ALe (vb (z1517.2 == (0 : Int))) (vb true)) ∧ (ALe (vb (((List.length z1517.1 : Nat) : Int) == (0 : Int))) (vb true)) ∧ (ALe (vb (z1519.2 == (0 : Int))) (vb false)) ∧ True) [(0, vb false)] [] ⟨ALe.bool hb1523, ALe.bool hb1524, ALe.bool hb1525, ALe.bool hb1526, ALe.bool hb1527, True.intro⟩ (by kernel_rfl) ?_
              exact Kn.r Fm [(0, vb false)] [] (by kernel_rfl) (hJ1533 false h)
          · have h := br_f h hb1526
            refine AW.g Fm [.s, .s, .w (vb true), .s, .s, .s, .s, .w (vb true), .s, .s, .s, .w (vb true), .s, .s, .s, .s, .w (vb false), .s, .s, .s, .s, .s, .s, .s, .s, .s, .s, .s, .s, .s, .s, .s, .s, .s, .s, .s, .s, .s, .s, .s, .s, .s] (fun K => (ALe (vb (z1515.2 == (0 : Int))) (vb true)) ∧ (ALe (vb (((List.length z1515.1 : Nat) : Int) == (1 : Int))) (vb true)) ∧ (ALe (vb (z1517.2 == (0 : Int))) (vb true)) ∧ (ALe (vb (((List.length z1517.1 : Nat) : Int) == (0 : Int))) (vb false)) ∧ True) [(0, vb false)] [] ⟨ALe.bool hb1523, ALe.bool hb1524, ALe.bool hb1525, ALe.bool hb1526, True.intro⟩ (by kernel_rfl) ?_
            exact Kn.r Fm [(0, vb false)] [] (by kernel_rfl) (hJ1533 false h)
        · have h := br_f h hb1525
          refine AW.g Fm [.s, .s, .w (vb true), .s, .s, .s, .s, .w (vb true), .s, .s, .s, .w (vb false), .s, .s, .s, .s, .s, .s, .s, .s, .s, .s, .s, .s, .s, .s, .s, .s, .s, .s, .s, .s, .s, .s, .s, .s, .s, .s, .s, .s, .s, .s] (fun K => (ALe (vb (z1515.2 == (0 : Int))) (vb true)) ∧ (ALe (vb (((List.length z1515.1 : Nat) : Int) == (1 : Int))) (vb true)) ∧ (ALe (vb (z1517.2 == (0 : Int))) (vb false)) ∧ True) [(0, vb false)] [] ⟨ALe.bool hb1523, ALe.bool hb1524, ALe.bool hb1525, True.intro⟩ (by kernel_rfl) ?_
          exact Kn.r Fm [(0, vb false)] [] (by kernel_rfl) (hJ1533 false h)
      · have h := br_f h hb1524
        refine AW.g Fm [.s, .s, .w (vb true), .s, .s, .s, .s, .w (vb false), .s, .s, .s, .s, .s, .s, .s, .s, .s, .s, .s, .s, .s, .s, .s, .s, .s, .s, .s, .s, .s, .s, .s, .s, .s, .s, .s, .s, .s, .s, .s, .s, .s, .s] (fun K => (ALe (vb (z1515.2 == (0 : Int))) (vb true)) ∧ (ALe (vb (((List.length z1515.1 : Nat) : Int) == (1 : Int))) (vb false)) ∧ True) [(0, vb false)] [] ⟨ALe.bool hb1523, ALe.bool hb1524, True.intro⟩ (by kernel_rfl) ?_
        exact Kn.r Fm [(0, vb false)] [] (by kernel_rfl) (hJ1533 false h)
    · have h := br_f h hb1523
      refine AW.g Fm [.s, .s, .w (vb false), .s, .s, .s, .s, .s, .s, .s, .s, .s, .s, .s, .s, .s, .s, .s, .s, .s, .s, .s, .s, .s, .s, .s, .s, .s, .s, .s, .s, .s, .s, .s, .s, .s, .s, .s, .s, .s, .s, .s] (fun K => (ALe (vb (z1515.2 == (0 : Int))) (vb false)) ∧ True) [(0, vb false)] [] ⟨ALe.bool hb1523, True.intro⟩ (by kernel_rfl) ?_
      exact Kn.r Fm [(0, vb false)] [] (by kernel_rfl) (hJ1533 false h)
/- landaid/landaidlaw09.FeatureKinds -/
theorem law09_FeatureKinds_spec {F : Nat} {x1534 : (List Int)} {x1535 : Int} {x1536 : Int} {r : Bool} (h : law09_FeatureKinds F x1534 x1535 x1536 = some r) :
    FSpec Tryz.prog 5 [AL x1534, .v (.c (.d (.int .u8 x1535))), .v (.c (.d (.int .u8 x1536)))] [] (vb r) [] := by
  refine FSpec.intro prog_mixed prog_lay Tryz.func5 rfl (by kernel_rfl) fun C Fm => ?_
  unfold law09_FeatureKinds at h
  refine AW.sg0 Fm 1 [(0, AL x1534), (1, .v (.c (.d (.int .u8 x1535)))), (2, .v (.c (.d (.int .u8 x1536))))] [] (by kernel_rfl) ?_
  refine AW.seq ?_
  obtain ⟨z1537, hz1538, h⟩ := bd_some h
  obtain ⟨z1539, hz1540, h⟩ := bd_some h
  refine AW.g Fm [.s, .k (cE [(100, 28)] [] (.v (.c (.ptr 100 0))) [] [(100, .box false (gC z1537))]), .k (cE [(0, 28)] [] (AL z1539.2) [(0, .box false (gC z1537))] [(0, .box false (gC z1539.1))]), .s] (fun K => K 1 ∧ K 2 ∧ True) [(1, .v (.c (.d (.int .u8 x1535)))), (2, .v (.c (.d (.int .u8 x1536)))), (7, AL z1539.2)] [] ⟨KAt.cl (args := [AL x1534]) (keep_New_spec hz1538) Tryz.call12 [(100, 28)] rfl (by kernel_rfl), KAt.cl (args := [.v (.c (.ptr 0 0)), vi (4 : Int)]) (keep_Tape_Layer_spec hz1540) Tryz.call23 [(0, 28)] rfl (by kernel_rfl), True.intro⟩ (by kernel_rfl) ?_
  obtain ⟨hg1541, h⟩ := gd_some h
  obtain ⟨hg1542, h⟩ := gd_some h
  obtain ⟨hg1543, h⟩ := gd_some h
  obtain ⟨hg1544, h⟩ := gd_some h
  refine AW.sg Fm [.s, .s, .s, .s, .s, .s, .s, .s] (fun K => (I64 x1535 ∧ True) ∧ ((16 : Int) ≠ 0) ∧ (I64 x1536 ∧ True) ∧ ((50 : Int) ≠ 0) ∧ True) [(7, AL z1539.2), (8, vi (x1535.tmod (16 : Int))), (9, vi (x1536.tmod (50 : Int)))] [] ⟨⟨hg1541, True.intro⟩, hg1542, ⟨hg1543, True.intro⟩, hg1544, True.intro⟩ (by kernel_rfl) ?_
  refine AW.seq ?_
  obtain ⟨z1545, hz1546, h⟩ := bd_some h
  refine AW.g Fm [.s, .s, .s, .k (cE [] [] (.t [.g [.d (DL z1545.1.rects_)], .c (ci z1545.2)]) [] []), .s, .s, .s, .s, .s, .s] (fun K => K 3 ∧ True) [(7, AL z1539.2), (8, vi (x1535.tmod (16 : Int))), (9, vi (x1536.tmod (50 : Int))), (10, .v (.c (.ptr 10 0))), (11, vi z1545.2)] [(10, .box false [.d (DL z1545.1.rects_)])] ⟨KAt.cl (args := [AL z1539.2, vi (x1535.tmod (16 : Int)), vi (x1536.tmod (50 : Int))]) (feature_Kind_spec hz1546) Tryz.call24 [] rfl (by kernel_rfl), True.intro⟩ (by kernel_rfl) ?_
  refine AW.seq ?_
  refine AW.sg0 Fm 2 [(7, AL z1539.2), (8, vi (x1535.tmod (16 : Int))), (9, vi (x1536.tmod (50 : Int))), (10, .v (.c (.ptr 10 0))), (44, vb (z1545.2 != (0 : Int)))] [(10, .box false [.d (DL z1545.1.rects_)])] (by kernel_rfl) ?_
  refine AW.cond (b := (z1545.2 != (0 : Int))) (by kernel_rfl) (fun hb1547 => ?_) (fun hb1547 => ?_)
  · have h := br_t h hb1547
    refine AW.sg0 Fm 1 [(6, vb false)] [] (by kernel_rfl) ?_
    refine AW.ret ?_
    obtain rfl := Option.some.inj h
    exact Kn.r Fm [(6, vb false)] [] (by kernel_rfl) (Kn.dn Fm (by kernel_rfl))
  · have h := br_f h hb1547
    refine AW.skip ?_
    refine AW.join (r := r) (fun z : Unit => law09_FeatureKinds_k7 F z1539) (fun z => [(7, AL z1539.2)]) (fun z => []) (fun z h => ?_) (fun J1719 hJ1719 => ?_)
    · have h : law09_FeatureKinds_k7 F z1539 = some r := h
      refine AW.seq ?_
      obtain ⟨z1720, hz1721, h⟩ := bd_some h
      refine AW.g Fm [.s, .k (cE [] [] (.t [.c (ci z1720.1), .c (ci z1720.2.1), .c (.d (.bool z1720.2.2.1)), .c (ci z1720.2.2.2)]) [] []), .s, .s, .s, .s, .s, .s, .s, .s, .s] (fun K => K 1 ∧ True) [(7, AL z1539.2), (17, vi z1720.1), (18, vi z1720.2.1), (19, vb z1720.2.2.1), (20, vi z1720.2.2.2)] [] ⟨KAt.cl (args := [AL z1539.2]) (feature_Apart_spec hz1721) Tryz.call26 [] rfl (by kernel_rfl), True.intro⟩ (by kernel_rfl) ?_
      refine AW.sg0 Fm 1 [(7, AL z1539.2), (17, vi z1720.1), (18, vi z1720.2.1), (19, vb z1720.2.2.1), (20, vi z1720.2.2.2), (21, vb false)] [] (by kernel_rfl) ?_
      refine AW.join (r := r) (fun z : Bool => law09_FeatureKinds_k14 F z1720 z) (fun z => [(17, vi z1720.1), (18, vi z1720.2.1), (19, vb z1720.2.2.1), (20, vi z1720.2.2.2), (21, vb z)]) (fun z => []) (fun v1811 h => ?_) (fun J1812 hJ1812 => ?_)
      · have h : law09_FeatureKinds_k14 F z1720 v1811 = some r := h
        refine AW.join (r := r) (fun z : Bool => law09_FeatureKinds_k15 F z) (fun z => [(6, vb z)]) (fun z => []) (fun v1822 h => ?_) (fun J1823 hJ1823 => ?_)
        · have h : law09_FeatureKinds_k15 F v1822 = some r := h
          refine AW.ret ?_
          obtain rfl := Option.some.inj h
          exact Kn.r Fm [(6, vb v1822)] [] (by kernel_rfl) (Kn.dn Fm (by kernel_rfl))
        · rcases Bool.eq_false_or_eq_true (z1720.2.2.2 == (0 : Int)) with hb1813 | hb1813
          · have h := br_t h hb1813
            rcases Bool.eq_false_or_eq_true (z1720.2.2.1 == v1811) with hb1814 | hb1814
            · have h := br_t h hb1814
              rcases Bool.eq_false_or_eq_true z1720.2.2.1 with hb1815 | hb1815
              · have h := br_t h hb1815
                obtain ⟨z1816, hz1817, h⟩ := bd_some h
                refine AW.g Fm [.s, .s, .w (vb true), .s, .s, .k (sE (vb (z1720.2.2.1 == v1811))), .s, .w (vb true), .s, .w (vb true), .s, .s, .s, .s, .s, .s, .s, .s, .s, .k (cE [] [] (vb z1816) [] []), .s, .s] (fun K => (ALe (vb (z1720.2.2.2 == (0 : Int))) (vb true)) ∧ K 5 ∧ (ALe (vb (z1720.2.2.1 == v1811)) (vb true)) ∧ (ALe (vb z1720.2.2.1) (vb true)) ∧ K 19 ∧ True) [(6, vb z1816)] [] ⟨ALe.bool hb1813, KAt.eqb (t := 4) (by kernel_rfl) true (a := z1720.2.2.1) (b := v1811) rfl rfl (by kernel_rfl) (by kernel_rfl) (by kernel_rfl), ALe.bool hb1814, ALe.bool hb1815, KAt.cl (args := []) (law09_awake_spec hz1817) Tryz.call28 [] rfl (by kernel_rfl), True.intro⟩ (by kernel_rfl) ?_
                exact Kn.r Fm [(6, vb z1816)] [] (by kernel_rfl) (hJ1823 z1816 h)
              · have h := br_f h hb1815
                rcases Bool.eq_false_or_eq_true (z1720.1 == (0 : Int)) with hb1818 | hb1818
                · have h := br_t h hb1818
                  rcases Bool.eq_false_or_eq_true (z1720.2.1 == (0 : Int)) with hb1819 | hb1819
                  · have h := br_t h hb1819
                    obtain ⟨z1820, hz1821, h⟩ := bd_some h
                    refine AW.g Fm [.s, .s, .w (vb true), .s, .s, .k (sE (vb (z1720.2.2.1 == v1811))), .s, .w (vb true), .s, .w (vb false), .s, .s, .w (vb true), .s, .s, .s, .s, .s, .w (vb true), .k (cE [] [] (vb z1820) [] []), .s, .s] (fun K => (ALe (vb (z1720.2.2.2 == (0 : Int))) (vb true)) ∧ K 5 ∧ (ALe (vb (z1720.2.2.1 == v1811)) (vb true)) ∧ (ALe (vb z1720.2.2.1) (vb false)) ∧ (ALe (vb (z1720.1 == (0 : Int))) (vb true)) ∧ (ALe (vb (z1720.2.1 == (0 : Int))) (vb true)) ∧ K 19 ∧ True) [(6, vb z1820)] [] ⟨ALe.bool hb1813, KAt.eqb (t := 4) (by kernel_rfl) true (a := z1720.2.2.1) (b := v1811) rfl rfl (by kernel_rfl) (by kernel_rfl) (by kernel_rfl), ALe.bool hb1814, ALe.bool hb1815, ALe.bool hb1818, ALe.bool hb1819, KAt.cl (args := []) (law09_awake_spec hz1821) Tryz.call28 [] rfl (by kernel_rfl), True.intro⟩ (by kernel_rfl) ?_
                    exact Kn.r Fm [(6, vb z1820)] [] (by kernel_rfl) (hJ1823 z1820 h)
                  · have h := br_f h hb1819
                    refine AW.g Fm [.s, .s, .w (vb true), .s, .s, .k (sE (vb (z1720.2.2.1 == v1811))), .s, .w (vb true), .s, .w (vb false), .s, .s, .w (vb true), .s, .s, .s, .s, .s, .w (vb false), .s, .s, .s] (fun K => (ALe (vb (z1720.2.2.2 == (0 : Int))) (vb true)) ∧ K 5 ∧ (ALe (vb (z1720.2.2.1 == v1811)) (vb true)) ∧ (ALe (vb z1720.2.2.1) (vb false)) ∧ (ALe (vb (z1720.1 == (0 : Int))) (vb true)) ∧ (ALe (vb (z1720.2.1 == (0 : Int))) (vb false)) ∧ True) [(6, vb false)] [] ⟨ALe.bool hb1813, KAt.eqb (t := 4) (by kernel_rfl) true (a := z1720.2.2.1) (b := v1811) rfl rfl (by kernel_rfl) (by kernel_rfl) (by kernel_rfl), ALe.bool hb1814, ALe.bool hb1815, ALe.bool hb1818, ALe.bool hb1819, True.intro⟩ (by kernel_rfl) ?_
                    exact Kn.r Fm [(6, vb false)] [] (by kernel_rfl) (hJ1823 false h)
                · have h := br_f h hb1818
                  refine AW.g Fm [.s, .s, .w (vb true), .s, .s, .k (sE (vb (z1720.2.2.1 == v1811))), .s, .w (vb true), .s, .w (vb false), .s, .s, .w (vb false), .s, .s, .s, .s, .s, .s, .s, .s, .s] (fun K => (ALe (vb (z1720.2.2.2 == (0 : Int))) (vb true)) ∧ K 5 ∧ (ALe (vb (z1720.2.2.1 == v1811)) (vb true)) ∧ (ALe (vb z1720.2.2.1) (vb false)) ∧ (ALe (vb (z1720.1 == (0 : Int))) (vb false)) ∧ True) [(6, vb false)] [] ⟨ALe.bool hb1813, KAt.eqb (t := 4) (by kernel_rfl) true (a := z1720.2.2.1) (b := v1811) rfl rfl (by kernel_rfl) (by kernel_rfl) (by kernel_rfl), ALe.bool hb1814, ALe.bool hb1815, ALe.bool hb1818, True.intro⟩ (by kernel_rfl) ?_
                  exact Kn.r Fm [(6, vb false)] [] (by kernel_rfl) (hJ1823 false h)
            · have h := br_f h hb1814
              refine AW.g Fm [.s, .s, .w (vb true), .s, .s, .k (sE (vb (z1720.2.2.1 == v1811))), .s, .w (vb false), .s, .s, .s, .s, .s, .s, .s, .s, .s, .s, .s, .s, .s, .s] (fun K => (ALe (vb (z1720.2.2.2 == (0 : Int))) (vb true)) ∧ K 5 ∧ (ALe (vb (z1720.2.2.1 == v1811)) (vb false)) ∧ True) [(6, vb false)] [] ⟨ALe.bool hb1813, KAt.eqb (t := 4) (by kernel_rfl) true (a := z1720.2.2.1) (b := v1811) rfl rfl (by kernel_rfl) (by kernel_rfl) (by kernel_rfl), ALe.bool hb1814, True.intro⟩ (by kernel_rfl) ?_
              exact Kn.r Fm [(6, vb false)] [] (by kernel_rfl) (hJ1823 false h)
          · have h := br_f h hb1813
            refine AW.g Fm [.s, .s, .w (vb false), .s, .s, .s, .s, .s, .s, .s, .s, .s, .s, .s, .s, .s, .s, .s, .s, .s, .s, .s] (fun K => (ALe (vb (z1720.2.2.2 == (0 : Int))) (vb false)) ∧ True) [(6, vb false)] [] ⟨ALe.bool hb1813, True.intro⟩ (by kernel_rfl) ?_
            exact Kn.r Fm [(6, vb false)] [] (by kernel_rfl) (hJ1823 false h)
      · refine AW.sg0 Fm 3 [(7, AL z1539.2), (17, vi z1720.1), (18, vi z1720.2.1), (19, vb z1720.2.2.1), (20, vi z1720.2.2.2), (21, vb false), (99, AL z1539.2), (100, vi ((List.length z1539.2 : Nat) : Int)), (101, vi (0 : Int))] [] (by kernel_rfl) ?_
        refine AW.block ?_
        refine Kn.r Fm [(7, AL z1539.2), (17, vi z1720.1), (18, vi z1720.2.1), (19, vb z1720.2.2.1), (20, vi z1720.2.2.2), (21, vb false), (99, AL z1539.2), (100, vi ((List.length z1539.2 : Nat) : Int)), (101, vi (0 : Int))] [] (by kernel_rfl) ?_
        have h : loopN (fun again (z : Bool × Int) => law09_FeatureKinds_b8 F z1539 z1720 again z.1 z.2) F (false, (0 : Int)) = some r := h
        refine AW.loopF (E' := fun z => [(7, AL z1539.2), (17, vi z1720.1), (18, vi z1720.2.1), (19, vb z1720.2.2.1), (20, vi z1720.2.2.2), (21, vb z.1), (99, AL z1539.2), (100, vi ((List.length z1539.2 : Nat) : Int)), (101, vi z.2)]) (S' := fun z => []) (fun ag_law09_FeatureKinds_b8 z J1766 hJ1766 h => ?_) h
        obtain ⟨v1764, v1765⟩ := z
        have h : law09_FeatureKinds_b8 F z1539 z1720 ag_law09_FeatureKinds_b8 v1764 v1765 = some r := h
        refine AW.sg0 Fm 1 [(7, AL z1539.2), (17, vi z1720.1), (18, vi z1720.2.1), (19, vb z1720.2.2.1), (20, vi z1720.2.2.2), (21, vb v1764), (99, AL z1539.2), (100, vi ((List.length z1539.2 : Nat) : Int)), (101, vi v1765), (102, vb (decide (v1765 < ((List.length z1539.2 : Nat) : Int))))] [] (by kernel_rfl) ?_
        refine AW.seq ?_
        refine AW.cond (b := (decide (v1765 < ((List.length z1539.2 : Nat) : Int)))) (by kernel_rfl) (fun hb1767 => ?_) (fun hb1767 => ?_)
        · have h := br_t h hb1767
          refine AW.skip ?_
          refine AW.join (r := r) (fun z : Bool => law09_FeatureKinds_k13 F v1765 ag_law09_FeatureKinds_b8 z) (fun z => [(7, AL z1539.2), (17, vi z1720.1), (18, vi z1720.2.1), (19, vb z1720.2.2.1), (20, vi z1720.2.2.2), (21, vb z), (99, AL z1539.2), (100, vi ((List.length z1539.2 : Nat) : Int)), (101, vi v1765)]) (fun z => []) (fun v1808 h => ?_) (fun J1809 hJ1809 => ?_)
          · have h : law09_FeatureKinds_k13 F v1765 ag_law09_FeatureKinds_b8 v1808 = some r := h
            obtain ⟨hg1810, h⟩ := gd_some h
            refine AW.g Fm [.s, .s] (fun K => (I64 (v1765 + (1 : Int)) ∧ True) ∧ True) [(7, AL z1539.2), (17, vi z1720.1), (18, vi z1720.2.1), (19, vb z1720.2.2.1), (20, vi z1720.2.2.2), (21, vb v1808), (99, AL z1539.2), (100, vi ((List.length z1539.2 : Nat) : Int)), (101, vi (v1765 + (1 : Int)))] [] ⟨⟨hg1810, True.intro⟩, True.intro⟩ (by kernel_rfl) ?_
            exact Kn.r Fm [(7, AL z1539.2), (17, vi z1720.1), (18, vi z1720.2.1), (19, vb z1720.2.2.1), (20, vi z1720.2.2.2), (21, vb v1808), (99, AL z1539.2), (100, vi ((List.length z1539.2 : Nat) : Int)), (101, vi (v1765 + (1 : Int)))] [] (by kernel_rfl) (hJ1766 (v1808, (v1765 + (1 : Int))) h)
          · refine AW.block ?_
            obtain ⟨hg1768, h⟩ := gd_some h
            refine AW.sg Fm [.s, .s, .s, .s, .s, .s] (fun K => (0 ≤ v1765 ∧ v1765 < ((List.length z1539.2 : Nat) : Int)) ∧ True) [(7, AL z1539.2), (17, vi z1720.1), (18, vi z1720.2.1), (19, vb z1720.2.2.1), (20, vi z1720.2.2.2), (21, vb v1764), (22, vi v1765), (23, .v (.c (.ptr 23 0))), (99, AL z1539.2), (100, vi ((List.length z1539.2 : Nat) : Int)), (101, vi v1765)] [(23, .box false [ci ((gl z1539.2 v1765.toNat).number_), ci ((gl z1539.2 v1765.toNat).kind_), ci ((gl z1539.2 v1765.toNat).from_), ci ((gl z1539.2 v1765.toNat).until_), .d (DL (α := Rect) (gl z1539.2 v1765.toNat).region_.rects_)])] ⟨hg1768, True.intro⟩ (by kernel_rfl) ?_
            obtain ⟨hg1769, h⟩ := gd_some h
            refine AW.sg Fm [.s, .s, .w (AL (α := Feature) (z1539.2.take v1765.toNat)), .s, .s] (fun K => (((sl (List.length z1539.2) (LF z1539.2) none (some v1765)).2 ∧ ∀ j, j < List.length z1539.2 → (LF z1539.2 j).length = 5)) ∧ (ALe (.v (.c (.d (.lst (sl (List.length z1539.2) (LF z1539.2) none (some v1765)).1.1 (sl (List.length z1539.2) (LF z1539.2) none (some v1765)).1.2)))) (AL (α := Feature) (z1539.2.take v1765.toNat))) ∧ True) [(7, AL z1539.2), (17, vi z1720.1), (18, vi z1720.2.1), (19, vb z1720.2.2.1), (20, vi z1720.2.2.2), (21, vb v1764), (23, .v (.c (.ptr 23 0))), (99, AL z1539.2), (100, vi ((List.length z1539.2 : Nat) : Int)), (101, vi v1765), (108, AL (α := Feature) (z1539.2.take v1765.toNat)), (109, vi ((List.length (z1539.2.take v1765.toNat) : Nat) : Int)), (110, vi (0 : Int))] [(23, .box false [ci ((gl z1539.2 v1765.toNat).number_), ci ((gl z1539.2 v1765.toNat).kind_), ci ((gl z1539.2 v1765.toNat).from_), ci ((gl z1539.2 v1765.toNat).until_), .d (DL (α := Rect) (gl z1539.2 v1765.toNat).region_.rects_)])] ⟨⟨hg1769, (Is.refl z1539.2).len⟩, ALe.lst (sl_is z1539.2 none (some v1765) hg1769), True.intro⟩ (by kernel_rfl) ?_
            refine AW.block ?_
            refine Kn.r Fm [(7, AL z1539.2), (17, vi z1720.1), (18, vi z1720.2.1), (19, vb z1720.2.2.1), (20, vi z1720.2.2.2), (21, vb v1764), (23, .v (.c (.ptr 23 0))), (99, AL z1539.2), (100, vi ((List.length z1539.2 : Nat) : Int)), (101, vi v1765), (108, AL (α := Feature) (z1539.2.take v1765.toNat)), (109, vi ((List.length (z1539.2.take v1765.toNat) : Nat) : Int)), (110, vi (0 : Int))] [(23, .box false [ci ((gl z1539.2 v1765.toNat).number_), ci ((gl z1539.2 v1765.toNat).kind_), ci ((gl z1539.2 v1765.toNat).from_), ci ((gl z1539.2 v1765.toNat).until_), .d (DL (α := Rect) (gl z1539.2 v1765.toNat).region_.rects_)])] (by kernel_rfl) ?_
            have h : loopN (fun again (z : Bool × Int) => law09_FeatureKinds_b9 F z1539 z1720 v1765 ag_law09_FeatureKinds_b8 again z.1 z.2) F (v1764, (0 : Int)) = some r := h
            refine AW.loopF (E' := fun z => [(7, AL z1539.2), (17, vi z1720.1), (18, vi z1720.2.1), (19, vb z1720.2.2.1), (20, vi z1720.2.2.2), (21, vb z.1), (23, .v (.c (.ptr 23 0))), (99, AL z1539.2), (100, vi ((List.length z1539.2 : Nat) : Int)), (101, vi v1765), (108, AL (α := Feature) (z1539.2.take v1765.toNat)), (109, vi ((List.length (z1539.2.take v1765.toNat) : Nat) : Int)), (110, vi z.2)]) (S' := fun z => [(23, .box false [ci ((gl z1539.2 v1765.toNat).number_), ci ((gl z1539.2 v1765.toNat).kind_), ci ((gl z1539.2 v1765.toNat).from_), ci ((gl z1539.2 v1765.toNat).until_), .d (DL (α := Rect) (gl z1539.2 v1765.toNat).region_.rects_)])]) (fun ag_law09_FeatureKinds_b9 z J1790 hJ1790 h => ?_) h
            obtain ⟨v1788, v1789⟩ := z
            have h : law09_FeatureKinds_b9 F z1539 z1720 v1765 ag_law09_FeatureKinds_b8 ag_law09_FeatureKinds_b9 v1788 v1789 = some r := h
            refine AW.sg0 Fm 1 [(7, AL z1539.2), (17, vi z1720.1), (18, vi z1720.2.1), (19, vb z1720.2.2.1), (20, vi z1720.2.2.2), (21, vb v1788), (23, .v (.c (.ptr 23 0))), (99, AL z1539.2), (100, vi ((List.length z1539.2 : Nat) : Int)), (101, vi v1765), (108, AL (α := Feature) (z1539.2.take v1765.toNat)), (109, vi ((List.length (z1539.2.take v1765.toNat) : Nat) : Int)), (110, vi v1789), (111, vb (decide (v1789 < ((List.length (z1539.2.take v1765.toNat) : Nat) : Int))))] [(23, .box false [ci ((gl z1539.2 v1765.toNat).number_), ci ((gl z1539.2 v1765.toNat).kind_), ci ((gl z1539.2 v1765.toNat).from_), ci ((gl z1539.2 v1765.toNat).until_), .d (DL (α := Rect) (gl z1539.2 v1765.toNat).region_.rects_)])] (by kernel_rfl) ?_
            refine AW.seq ?_
            refine AW.cond (b := (decide (v1789 < ((List.length (z1539.2.take v1765.toNat) : Nat) : Int)))) (by kernel_rfl) (fun hb1791 => ?_) (fun hb1791 => ?_)
            · have h := br_t h hb1791
              refine AW.skip ?_
              refine AW.seq ?_
              refine AW.block ?_
              obtain ⟨hg1792, h⟩ := gd_some h
              refine AW.sg Fm [.s, .s, .s, .s] (fun K => (0 ≤ v1789 ∧ v1789 < ((List.length (z1539.2.take v1765.toNat) : Nat) : Int)) ∧ True) [(7, AL z1539.2), (17, vi z1720.1), (18, vi z1720.2.1), (19, vb z1720.2.2.1), (20, vi z1720.2.2.2), (21, vb v1788), (23, .v (.c (.ptr 23 0))), (25, .v (.c (.ptr 25 0))), (99, AL z1539.2), (100, vi ((List.length z1539.2 : Nat) : Int)), (101, vi v1765), (108, AL (α := Feature) (z1539.2.take v1765.toNat)), (109, vi ((List.length (z1539.2.take v1765.toNat) : Nat) : Int)), (110, vi v1789)] [(23, .box false [ci ((gl z1539.2 v1765.toNat).number_), ci ((gl z1539.2 v1765.toNat).kind_), ci ((gl z1539.2 v1765.toNat).from_), ci ((gl z1539.2 v1765.toNat).until_), .d (DL (α := Rect) (gl z1539.2 v1765.toNat).region_.rects_)]), (25, .box false [ci ((gl (z1539.2.take v1765.toNat) v1789.toNat).number_), ci ((gl (z1539.2.take v1765.toNat) v1789.toNat).kind_), ci ((gl (z1539.2.take v1765.toNat) v1789.toNat).from_), ci ((gl (z1539.2.take v1765.toNat) v1789.toNat).until_), .d (DL (α := Rect) (gl (z1539.2.take v1765.toNat) v1789.toNat).region_.rects_)])] ⟨hg1792, True.intro⟩ (by kernel_rfl) ?_
              refine AW.join (r := r) (fun z : Bool => law09_FeatureKinds_k10 F z1539 z1720 v1765 v1788 v1789 ag_law09_FeatureKinds_b9 z) (fun z => [(7, AL z1539.2), (17, vi z1720.1), (18, vi z1720.2.1), (19, vb z1720.2.2.1), (20, vi z1720.2.2.2), (21, vb v1788), (23, .v (.c (.ptr 23 0))), (25, .v (.c (.ptr 25 0))), (26, vb z), (99, AL z1539.2), (100, vi ((List.length z1539.2 : Nat) : Int)), (101, vi v1765), (108, AL (α := Feature) (z1539.2.take v1765.toNat)), (109, vi ((List.length (z1539.2.take v1765.toNat) : Nat) : Int)), (110, vi v1789)]) (fun z => [(23, .box false [ci ((gl z1539.2 v1765.toNat).number_), ci ((gl z1539.2 v1765.toNat).kind_), ci ((gl z1539.2 v1765.toNat).from_), ci ((gl z1539.2 v1765.toNat).until_), .d (DL (α := Rect) (gl z1539.2 v1765.toNat).region_.rects_)]), (25, .box false [ci ((gl (z1539.2.take v1765.toNat) v1789.toNat).number_), ci ((gl (z1539.2.take v1765.toNat) v1789.toNat).kind_), ci ((gl (z1539.2.take v1765.toNat) v1789.toNat).from_), ci ((gl (z1539.2.take v1765.toNat) v1789.toNat).until_), .d (DL (α := Rect) (gl (z1539.2.take v1765.toNat) v1789.toNat).region_.rects_)])]) (fun v1797 h => ?_) (fun J1798 hJ1798 => ?_)
              · have h : law09_FeatureKinds_k10 F z1539 z1720 v1765 v1788 v1789 ag_law09_FeatureKinds_b9 v1797 = some r := h
                refine AW.join (r := r) (fun z : Bool => law09_FeatureKinds_k11 F z1539 z1720 v1765 v1789 v1797 ag_law09_FeatureKinds_b9 z) (fun z => [(7, AL z1539.2), (17, vi z1720.1), (18, vi z1720.2.1), (19, vb z1720.2.2.1), (20, vi z1720.2.2.2), (21, vb z), (23, .v (.c (.ptr 23 0))), (25, .v (.c (.ptr 25 0))), (26, vb v1797), (99, AL z1539.2), (100, vi ((List.length z1539.2 : Nat) : Int)), (101, vi v1765), (108, AL (α := Feature) (z1539.2.take v1765.toNat)), (109, vi ((List.length (z1539.2.take v1765.toNat) : Nat) : Int)), (110, vi v1789)]) (fun z => [(23, .box false [ci ((gl z1539.2 v1765.toNat).number_), ci ((gl z1539.2 v1765.toNat).kind_), ci ((gl z1539.2 v1765.toNat).from_), ci ((gl z1539.2 v1765.toNat).until_), .d (DL (α := Rect) (gl z1539.2 v1765.toNat).region_.rects_)]), (25, .box false [ci ((gl (z1539.2.take v1765.toNat) v1789.toNat).number_), ci ((gl (z1539.2.take v1765.toNat) v1789.toNat).kind_), ci ((gl (z1539.2.take v1765.toNat) v1789.toNat).from_), ci ((gl (z1539.2.take v1765.toNat) v1789.toNat).until_), .d (DL (α := Rect) (gl (z1539.2.take v1765.toNat) v1789.toNat).region_.rects_)])]) (fun v1800 h => ?_) (fun J1801 hJ1801 => ?_)
                · have h : law09_FeatureKinds_k11 F z1539 z1720 v1765 v1789 v1797 ag_law09_FeatureKinds_b9 v1800 = some r := h
                  refine AW.join (r := r) (fun z : Bool => law09_FeatureKinds_k12 F v1789 v1800 ag_law09_FeatureKinds_b9 z) (fun z => [(7, AL z1539.2), (17, vi z1720.1), (18, vi z1720.2.1), (19, vb z1720.2.2.1), (20, vi z1720.2.2.2), (21, vb v1800), (23, .v (.c (.ptr 23 0))), (99, AL z1539.2), (100, vi ((List.length z1539.2 : Nat) : Int)), (101, vi v1765), (108, AL (α := Feature) (z1539.2.take v1765.toNat)), (109, vi ((List.length (z1539.2.take v1765.toNat) : Nat) : Int)), (110, vi v1789), (146, vb z)]) (fun z => [(23, .box false [ci ((gl z1539.2 v1765.toNat).number_), ci ((gl z1539.2 v1765.toNat).kind_), ci ((gl z1539.2 v1765.toNat).from_), ci ((gl z1539.2 v1765.toNat).until_), .d (DL (α := Rect) (gl z1539.2 v1765.toNat).region_.rects_)])]) (fun v1804 h => ?_) (fun J1805 hJ1805 => ?_)
                  · have h : law09_FeatureKinds_k12 F v1789 v1800 ag_law09_FeatureKinds_b9 v1804 = some r := h
                    refine AW.cond (b := v1804) (by kernel_rfl) (fun hb1806 => ?_) (fun hb1806 => ?_)
                    · have h := br_t h hb1806
                      refine AW.sg0 Fm 1 [(6, vb false)] [] (by kernel_rfl) ?_
                      refine AW.ret ?_
                      obtain rfl := Option.some.inj h
                      exact Kn.r Fm [(6, vb false)] [] (by kernel_rfl) (Kn.dn Fm (by kernel_rfl))
                    · have h := br_f h hb1806
                      refine AW.skip ?_
                      obtain ⟨hg1807, h⟩ := gd_some h
                      refine AW.g Fm [.s, .s] (fun K => (I64 (v1789 + (1 : Int)) ∧ True) ∧ True) [(7, AL z1539.2), (17, vi z1720.1), (18, vi z1720.2.1), (19, vb z1720.2.2.1), (20, vi z1720.2.2.2), (21, vb v1800), (23, .v (.c (.ptr 23 0))), (99, AL z1539.2), (100, vi ((List.length z1539.2 : Nat) : Int)), (101, vi v1765), (108, AL (α := Feature) (z1539.2.take v1765.toNat)), (109, vi ((List.length (z1539.2.take v1765.toNat) : Nat) : Int)), (110, vi (v1789 + (1 : Int)))] [(23, .box false [ci ((gl z1539.2 v1765.toNat).number_), ci ((gl z1539.2 v1765.toNat).kind_), ci ((gl z1539.2 v1765.toNat).from_), ci ((gl z1539.2 v1765.toNat).until_), .d (DL (α := Rect) (gl z1539.2 v1765.toNat).region_.rects_)])] ⟨⟨hg1807, True.intro⟩, True.intro⟩ (by kernel_rfl) ?_
                      exact Kn.r Fm [(7, AL z1539.2), (17, vi z1720.1), (18, vi z1720.2.1), (19, vb z1720.2.2.1), (20, vi z1720.2.2.2), (21, vb v1800), (23, .v (.c (.ptr 23 0))), (99, AL z1539.2), (100, vi ((List.length z1539.2 : Nat) : Int)), (101, vi v1765), (108, AL (α := Feature) (z1539.2.take v1765.toNat)), (109, vi ((List.length (z1539.2.take v1765.toNat) : Nat) : Int)), (110, vi (v1789 + (1 : Int)))] [(23, .box false [ci ((gl z1539.2 v1765.toNat).number_), ci ((gl z1539.2 v1765.toNat).kind_), ci ((gl z1539.2 v1765.toNat).from_), ci ((gl z1539.2 v1765.toNat).until_), .d (DL (α := Rect) (gl z1539.2 v1765.toNat).region_.rects_)])] (by kernel_rfl) (hJ1790 (v1800, (v1789 + (1 : Int))) h)
                  · rcases Bool.eq_false_or_eq_true v1797 with hb1802 | hb1802
                    · have h := br_t h hb1802
                      rcases Bool.eq_false_or_eq_true z1720.2.2.1 with hb1803 | hb1803
                      · have h := br_t h hb1803
                        refine AW.g Fm [.s, .w (vb true), .s, .s, .w (vb true), .s, .s, .s, .s, .s] (fun K => (ALe (vb v1797) (vb true)) ∧ (ALe (vb z1720.2.2.1) (vb true)) ∧ True) [(7, AL z1539.2), (17, vi z1720.1), (18, vi z1720.2.1), (19, vb z1720.2.2.1), (20, vi z1720.2.2.2), (21, vb v1800), (23, .v (.c (.ptr 23 0))), (99, AL z1539.2), (100, vi ((List.length z1539.2 : Nat) : Int)), (101, vi v1765), (108, AL (α := Feature) (z1539.2.take v1765.toNat)), (109, vi ((List.length (z1539.2.take v1765.toNat) : Nat) : Int)), (110, vi v1789), (139, vb z1720.2.2.1), (142, .v (.c (.ptr 25 0))), (143, vi (gl (z1539.2.take v1765.toNat) v1789.toNat).number_), (144, vi z1720.1), (145, vb (decide (((gl (z1539.2.take v1765.toNat) v1789.toNat).number_) < z1720.1))), (146, vb (decide (((gl (z1539.2.take v1765.toNat) v1789.toNat).number_) < z1720.1)))] [(23, .box false [ci ((gl z1539.2 v1765.toNat).number_), ci ((gl z1539.2 v1765.toNat).kind_), ci ((gl z1539.2 v1765.toNat).from_), ci ((gl z1539.2 v1765.toNat).until_), .d (DL (α := Rect) (gl z1539.2 v1765.toNat).region_.rects_)]), (25, .box false [ci ((gl (z1539.2.take v1765.toNat) v1789.toNat).number_), ci ((gl (z1539.2.take v1765.toNat) v1789.toNat).kind_), ci ((gl (z1539.2.take v1765.toNat) v1789.toNat).from_), ci ((gl (z1539.2.take v1765.toNat) v1789.toNat).until_), .d (DL (α := Rect) (gl (z1539.2.take v1765.toNat) v1789.toNat).region_.rects_)])] ⟨ALe.bool hb1802, ALe.bool hb1803, True.intro⟩ (by kernel_rfl) ?_
                        exact Kn.r Fm [(7, AL z1539.2), (17, vi z1720.1), (18, vi z1720.2.1), (19, vb z1720.2.2.1), (20, vi z1720.2.2.2), (21, vb v1800), (23, .v (.c (.ptr 23 0))), (99, AL z1539.2), (100, vi ((List.length z1539.2 : Nat) : Int)), (101, vi v1765), (108, AL (α := Feature) (z1539.2.take v1765.toNat)), (109, vi ((List.length (z1539.2.take v1765.toNat) : Nat) : Int)), (110, vi v1789), (146, vb (decide (((gl (z1539.2.take v1765.toNat) v1789.toNat).number_) < z1720.1)))] [(23, .box false [ci ((gl z1539.2 v1765.toNat).number_), ci ((gl z1539.2 v1765.toNat).kind_), ci ((gl z1539.2 v1765.toNat).from_), ci ((gl z1539.2 v1765.toNat).until_), .d (DL (α := Rect) (gl z1539.2 v1765.toNat).region_.rects_)])] (by kernel_rfl) (hJ1805 (decide (((gl (z1539.2.take v1765.toNat) v1789.toNat).number_) < z1720.1)) h)
                      · have h := br_f h hb1803
                        refine AW.g Fm [.s, .w (vb true), .s, .s, .w (vb false), .s, .s, .s, .s, .s] (fun K => (ALe (vb v1797) (vb true)) ∧ (ALe (vb z1720.2.2.1) (vb false)) ∧ True) [(7, AL z1539.2), (17, vi z1720.1), (18, vi z1720.2.1), (19, vb z1720.2.2.1), (20, vi z1720.2.2.2), (21, vb v1800), (23, .v (.c (.ptr 23 0))), (99, AL z1539.2), (100, vi ((List.length z1539.2 : Nat) : Int)), (101, vi v1765), (108, AL (α := Feature) (z1539.2.take v1765.toNat)), (109, vi ((List.length (z1539.2.take v1765.toNat) : Nat) : Int)), (110, vi v1789), (139, vb z1720.2.2.1), (146, vb false)] [(23, .box false [ci ((gl z1539.2 v1765.toNat).number_), ci ((gl z1539.2 v1765.toNat).kind_), ci ((gl z1539.2 v1765.toNat).from_), ci ((gl z1539.2 v1765.toNat).until_), .d (DL (α := Rect) (gl z1539.2 v1765.toNat).region_.rects_)])] ⟨ALe.bool hb1802, ALe.bool hb1803, True.intro⟩ (by kernel_rfl) ?_
                        exact Kn.r Fm [(7, AL z1539.2), (17, vi z1720.1), (18, vi z1720.2.1), (19, vb z1720.2.2.1), (20, vi z1720.2.2.2), (21, vb v1800), (23, .v (.c (.ptr 23 0))), (99, AL z1539.2), (100, vi ((List.length z1539.2 : Nat) : Int)), (101, vi v1765), (108, AL (α := Feature) (z1539.2.take v1765.toNat)), (109, vi ((List.length (z1539.2.take v1765.toNat) : Nat) : Int)), (110, vi v1789), (146, vb false)] [(23, .box false [ci ((gl z1539.2 v1765.toNat).number_), ci ((gl z1539.2 v1765.toNat).kind_), ci ((gl z1539.2 v1765.toNat).from_), ci ((gl z1539.2 v1765.toNat).until_), .d (DL (α := Rect) (gl z1539.2 v1765.toNat).region_.rects_)])] (by kernel_rfl) (hJ1805 false h)
                    · have h := br_f h hb1802
                      refine AW.g Fm [.s, .w (vb false), .s, .s, .s, .s, .s, .s, .s, .s] (fun K => (ALe (vb v1797) (vb false)) ∧ True) [(7, AL z1539.2), (17, vi z1720.1), (18, vi z1720.2.1), (19, vb z1720.2.2.1), (20, vi z1720.2.2.2), (21, vb v1800), (23, .v (.c (.ptr 23 0))), (99, AL z1539.2), (100, vi ((List.length z1539.2 : Nat) : Int)), (101, vi v1765), (108, AL (α := Feature) (z1539.2.take v1765.toNat)), (109, vi ((List.length (z1539.2.take v1765.toNat) : Nat) : Int)), (110, vi v1789), (146, vb false)] [(23, .box false [ci ((gl z1539.2 v1765.toNat).number_), ci ((gl z1539.2 v1765.toNat).kind_), ci ((gl z1539.2 v1765.toNat).from_), ci ((gl z1539.2 v1765.toNat).until_), .d (DL (α := Rect) (gl z1539.2 v1765.toNat).region_.rects_)])] ⟨ALe.bool hb1802, True.intro⟩ (by kernel_rfl) ?_
                      exact Kn.r Fm [(7, AL z1539.2), (17, vi z1720.1), (18, vi z1720.2.1), (19, vb z1720.2.2.1), (20, vi z1720.2.2.2), (21, vb v1800), (23, .v (.c (.ptr 23 0))), (99, AL z1539.2), (100, vi ((List.length z1539.2 : Nat) : Int)), (101, vi v1765), (108, AL (α := Feature) (z1539.2.take v1765.toNat)), (109, vi ((List.length (z1539.2.take v1765.toNat) : Nat) : Int)), (110, vi v1789), (146, vb false)] [(23, .box false [ci ((gl z1539.2 v1765.toNat).number_), ci ((gl z1539.2 v1765.toNat).kind_), ci ((gl z1539.2 v1765.toNat).from_), ci ((gl z1539.2 v1765.toNat).until_), .d (DL (α := Rect) (gl z1539.2 v1765.toNat).region_.rects_)])] (by kernel_rfl) (hJ1805 false h)
                · rcases Bool.eq_false_or_eq_true v1788 with hb1799 | hb1799
                  · have h := br_t h hb1799
                    refine AW.g Fm [.s, .w (vb true), .s, .s, .s] (fun K => (ALe (vb v1788) (vb true)) ∧ True) [(7, AL z1539.2), (17, vi z1720.1), (18, vi z1720.2.1), (19, vb z1720.2.2.1), (20, vi z1720.2.2.2), (21, vb true), (23, .v (.c (.ptr 23 0))), (25, .v (.c (.ptr 25 0))), (26, vb v1797), (99, AL z1539.2), (100, vi ((List.length z1539.2 : Nat) : Int)), (101, vi v1765), (108, AL (α := Feature) (z1539.2.take v1765.toNat)), (109, vi ((List.length (z1539.2.take v1765.toNat) : Nat) : Int)), (110, vi v1789)] [(23, .box false [ci ((gl z1539.2 v1765.toNat).number_), ci ((gl z1539.2 v1765.toNat).kind_), ci ((gl z1539.2 v1765.toNat).from_), ci ((gl z1539.2 v1765.toNat).until_), .d (DL (α := Rect) (gl z1539.2 v1765.toNat).region_.rects_)]), (25, .box false [ci ((gl (z1539.2.take v1765.toNat) v1789.toNat).number_), ci ((gl (z1539.2.take v1765.toNat) v1789.toNat).kind_), ci ((gl (z1539.2.take v1765.toNat) v1789.toNat).from_), ci ((gl (z1539.2.take v1765.toNat) v1789.toNat).until_), .d (DL (α := Rect) (gl (z1539.2.take v1765.toNat) v1789.toNat).region_.rects_)])] ⟨ALe.bool hb1799, True.intro⟩ (by kernel_rfl) ?_
                    exact Kn.r Fm [(7, AL z1539.2), (17, vi z1720.1), (18, vi z1720.2.1), (19, vb z1720.2.2.1), (20, vi z1720.2.2.2), (21, vb true), (23, .v (.c (.ptr 23 0))), (25, .v (.c (.ptr 25 0))), (26, vb v1797), (99, AL z1539.2), (100, vi ((List.length z1539.2 : Nat) : Int)), (101, vi v1765), (108, AL (α := Feature) (z1539.2.take v1765.toNat)), (109, vi ((List.length (z1539.2.take v1765.toNat) : Nat) : Int)), (110, vi v1789)] [(23, .box false [ci ((gl z1539.2 v1765.toNat).number_), ci ((gl z1539.2 v1765.toNat).kind_), ci ((gl z1539.2 v1765.toNat).from_), ci ((gl z1539.2 v1765.toNat).until_), .d (DL (α := Rect) (gl z1539.2 v1765.toNat).region_.rects_)]), (25, .box false [ci ((gl (z1539.2.take v1765.toNat) v1789.toNat).number_), ci ((gl (z1539.2.take v1765.toNat) v1789.toNat).kind_), ci ((gl (z1539.2.take v1765.toNat) v1789.toNat).from_), ci ((gl (z1539.2.take v1765.toNat) v1789.toNat).until_), .d (DL (α := Rect) (gl (z1539.2.take v1765.toNat) v1789.toNat).region_.rects_)])] (by kernel_rfl) (hJ1801 true h)
                  · have h := br_f h hb1799
                    refine AW.g Fm [.s, .w (vb false), .s, .s, .s] (fun K => (ALe (vb v1788) (vb false)) ∧ True) [(7, AL z1539.2), (17, vi z1720.1), (18, vi z1720.2.1), (19, vb z1720.2.2.1), (20, vi z1720.2.2.2), (21, vb v1797), (23, .v (.c (.ptr 23 0))), (25, .v (.c (.ptr 25 0))), (26, vb v1797), (99, AL z1539.2), (100, vi ((List.length z1539.2 : Nat) : Int)), (101, vi v1765), (108, AL (α := Feature) (z1539.2.take v1765.toNat)), (109, vi ((List.length (z1539.2.take v1765.toNat) : Nat) : Int)), (110, vi v1789), (135, vb v1797)] [(23, .box false [ci ((gl z1539.2 v1765.toNat).number_), ci ((gl z1539.2 v1765.toNat).kind_), ci ((gl z1539.2 v1765.toNat).from_), ci ((gl z1539.2 v1765.toNat).until_), .d (DL (α := Rect) (gl z1539.2 v1765.toNat).region_.rects_)]), (25, .box false [ci ((gl (z1539.2.take v1765.toNat) v1789.toNat).number_), ci ((gl (z1539.2.take v1765.toNat) v1789.toNat).kind_), ci ((gl (z1539.2.take v1765.toNat) v1789.toNat).from_), ci ((gl (z1539.2.take v1765.toNat) v1789.toNat).until_), .d (DL (α := Rect) (gl (z1539.2.take v1765.toNat) v1789.toNat).region_.rects_)])] ⟨ALe.bool hb1799, True.intro⟩ (by kernel_rfl) ?_
                    exact Kn.r Fm [(7, AL z1539.2), (17, vi z1720.1), (18, vi z1720.2.1), (19, vb z1720.2.2.1), (20, vi z1720.2.2.2), (21, vb v1797), (23, .v (.c (.ptr 23 0))), (25, .v (.c (.ptr 25 0))), (26, vb v1797), (99, AL z1539.2), (100, vi ((List.length z1539.2 : Nat) : Int)), (101, vi v1765), (108, AL (α := Feature) (z1539.2.take v1765.toNat)), (109, vi ((List.length (z1539.2.take v1765.toNat) : Nat) : Int)), (110, vi v1789)] [(23, .box false [ci ((gl z1539.2 v1765.toNat).number_), ci ((gl z1539.2 v1765.toNat).kind_), ci ((gl z1539.2 v1765.toNat).from_), ci ((gl z1539.2 v1765.toNat).until_), .d (DL (α := Rect) (gl z1539.2 v1765.toNat).region_.rects_)]), (25, .box false [ci ((gl (z1539.2.take v1765.toNat) v1789.toNat).number_), ci ((gl (z1539.2.take v1765.toNat) v1789.toNat).kind_), ci ((gl (z1539.2.take v1765.toNat) v1789.toNat).from_), ci ((gl (z1539.2.take v1765.toNat) v1789.toNat).until_), .d (DL (α := Rect) (gl (z1539.2.take v1765.toNat) v1789.toNat).region_.rects_)])] (by kernel_rfl) (hJ1801 v1797 h)
              · rcases Bool.eq_false_or_eq_true (decide (((gl z1539.2 v1765.toNat).from_) < ((gl (z1539.2.take v1765.toNat) v1789.toNat).until_))) with hb1793 | hb1793
                · have h := br_t h hb1793
                  rcases Bool.eq_false_or_eq_true (decide (((gl (z1539.2.take v1765.toNat) v1789.toNat).from_) < ((gl z1539.2 v1765.toNat).until_))) with hb1794 | hb1794
                  · have h := br_t h hb1794
                    obtain ⟨z1795, hz1796, h⟩ := bd_some h
                    refine AW.g Fm [.s, .s, .s, .s, .s, .w (vb true), .s, .s, .s, .s, .s, .s, .w (vb true), .s, .s, .s, .s, .k (cE [] [] (vb z1795) [] []), .s, .s] (fun K => (ALe (vb (decide (((gl z1539.2 v1765.toNat).from_) < ((gl (z1539.2.take v1765.toNat) v1789.toNat).until_)))) (vb true)) ∧ (ALe (vb (decide (((gl (z1539.2.take v1765.toNat) v1789.toNat).from_) < ((gl z1539.2 v1765.toNat).until_)))) (vb true)) ∧ K 17 ∧ True) [(7, AL z1539.2), (17, vi z1720.1), (18, vi z1720.2.1), (19, vb z1720.2.2.1), (20, vi z1720.2.2.2), (21, vb v1788), (23, .v (.c (.ptr 23 0))), (25, .v (.c (.ptr 25 0))), (26, vb z1795), (99, AL z1539.2), (100, vi ((List.length z1539.2 : Nat) : Int)), (101, vi v1765), (108, AL (α := Feature) (z1539.2.take v1765.toNat)), (109, vi ((List.length (z1539.2.take v1765.toNat) : Nat) : Int)), (110, vi v1789), (120, .v (.c (.ptr 25 2))), (121, vi (gl (z1539.2.take v1765.toNat) v1789.toNat).from_), (122, .v (.c (.ptr 23 3))), (123, vi (gl z1539.2 v1765.toNat).until_), (124, vb (decide (((gl (z1539.2.take v1765.toNat) v1789.toNat).from_) < ((gl z1539.2 v1765.toNat).until_)))), (127, .v (.c (.ptr 23 4))), (128, .v (.g [.d (DL (α := Rect) (gl z1539.2 v1765.toNat).region_.rects_)])), (129, .v (.c (.ptr 25 4))), (130, .v (.g [.d (DL (α := Rect) (gl (z1539.2.take v1765.toNat) v1789.toNat).region_.rects_)])), (131, vb z1795)] [(23, .box false [ci ((gl z1539.2 v1765.toNat).number_), ci ((gl z1539.2 v1765.toNat).kind_), ci ((gl z1539.2 v1765.toNat).from_), ci ((gl z1539.2 v1765.toNat).until_), .d (DL (α := Rect) (gl z1539.2 v1765.toNat).region_.rects_)]), (25, .box false [ci ((gl (z1539.2.take v1765.toNat) v1789.toNat).number_), ci ((gl (z1539.2.take v1765.toNat) v1789.toNat).kind_), ci ((gl (z1539.2.take v1765.toNat) v1789.toNat).from_), ci ((gl (z1539.2.take v1765.toNat) v1789.toNat).until_), .d (DL (α := Rect) (gl (z1539.2.take v1765.toNat) v1789.toNat).region_.rects_)])] ⟨ALe.bool hb1793, ALe.bool hb1794, KAt.cl (args := [.v (.g [.d (DL (α := Rect) (gl z1539.2 v1765.toNat).region_.rects_)]), .v (.g [.d (DL (α := Rect) (gl (z1539.2.take v1765.toNat) v1789.toNat).region_.rects_)])]) (ref04_Meets_spec hz1796) Tryz.call27 [] rfl (by kernel_rfl), True.intro⟩ (by kernel_rfl) ?_
                    exact Kn.r Fm [(7, AL z1539.2), (17, vi z1720.1), (18, vi z1720.2.1), (19, vb z1720.2.2.1), (20, vi z1720.2.2.2), (21, vb v1788), (23, .v (.c (.ptr 23 0))), (25, .v (.c (.ptr 25 0))), (26, vb z1795), (99, AL z1539.2), (100, vi ((List.length z1539.2 : Nat) : Int)), (101, vi v1765), (108, AL (α := Feature) (z1539.2.take v1765.toNat)), (109, vi ((List.length (z1539.2.take v1765.toNat) : Nat) : Int)), (110, vi v1789)] [(23, .box false [ci ((gl z1539.2 v1765.toNat).number_), ci ((gl z1539.2 v1765.toNat).kind_), ci ((gl z1539.2 v1765.toNat).from_), ci ((gl z1539.2 v1765.toNat).until_), .d (DL (α := Rect) (gl z1539.2 v1765.toNat).region_.rects_)]), (25, .box false [ci ((gl (z1539.2.take v1765.toNat) v1789.toNat).number_), ci ((gl (z1539.2.take v1765.toNat) v1789.toNat).kind_), ci ((gl (z1539.2.take v1765.toNat) v1789.toNat).from_), ci ((gl (z1539.2.take v1765.toNat) v1789.toNat).until_), .d (DL (α := Rect) (gl (z1539.2.take v1765.toNat) v1789.toNat).region_.rects_)])] (by kernel_rfl) (hJ1798 z1795 h)
                  · have h := br_f h hb1794
                    refine AW.g Fm [.s, .s, .s, .s, .s, .w (vb true), .s, .s, .s, .s, .s, .s, .w (vb false), .s, .s, .s, .s, .s, .s, .s] (fun K => (ALe (vb (decide (((gl z1539.2 v1765.toNat).from_) < ((gl (z1539.2.take v1765.toNat) v1789.toNat).until_)))) (vb true)) ∧ (ALe (vb (decide (((gl (z1539.2.take v1765.toNat) v1789.toNat).from_) < ((gl z1539.2 v1765.toNat).until_)))) (vb false)) ∧ True) [(7, AL z1539.2), (17, vi z1720.1), (18, vi z1720.2.1), (19, vb z1720.2.2.1), (20, vi z1720.2.2.2), (21, vb v1788), (23, .v (.c (.ptr 23 0))), (25, .v (.c (.ptr 25 0))), (26, vb false), (99, AL z1539.2), (100, vi ((List.length z1539.2 : Nat) : Int)), (101, vi v1765), (108, AL (α := Feature) (z1539.2.take v1765.toNat)), (109, vi ((List.length (z1539.2.take v1765.toNat) : Nat) : Int)), (110, vi v1789), (120, .v (.c (.ptr 25 2))), (121, vi (gl (z1539.2.take v1765.toNat) v1789.toNat).from_), (122, .v (.c (.ptr 23 3))), (123, vi (gl z1539.2 v1765.toNat).until_), (124, vb (decide (((gl (z1539.2.take v1765.toNat) v1789.toNat).from_) < ((gl z1539.2 v1765.toNat).until_))))] [(23, .box false [ci ((gl z1539.2 v1765.toNat).number_), ci ((gl z1539.2 v1765.toNat).kind_), ci ((gl z1539.2 v1765.toNat).from_), ci ((gl z1539.2 v1765.toNat).until_), .d (DL (α := Rect) (gl z1539.2 v1765.toNat).region_.rects_)]), (25, .box false [ci ((gl (z1539.2.take v1765.toNat) v1789.toNat).number_), ci ((gl (z1539.2.take v1765.toNat) v1789.toNat).kind_), ci ((gl (z1539.2.take v1765.toNat) v1789.toNat).from_), ci ((gl (z1539.2.take v1765.toNat) v1789.toNat).until_), .d (DL (α := Rect) (gl (z1539.2.take v1765.toNat) v1789.toNat).region_.rects_)])] ⟨ALe.bool hb1793, ALe.bool hb1794, True.intro⟩ (by kernel_rfl) ?_
                    exact Kn.r Fm [(7, AL z1539.2), (17, vi z1720.1), (18, vi z1720.2.1), (19, vb z1720.2.2.1), (20, vi z1720.2.2.2), (21, vb v1788), (23, .v (.c (.ptr 23 0))), (25, .v (.c (.ptr 25 0))), (26, vb false), (99, AL z1539.2), (100, vi ((List.length z1539.2 : Nat) : Int)), (101, vi v1765), (108, AL (α := Feature) (z1539.2.take v1765.toNat)), (109, vi ((List.length (z1539.2.take v1765.toNat) : Nat) : Int)), (110, vi v1789)] [(23, .box false [ci ((gl z1539.2 v1765.toNat).number_), ci ((gl z1539.2 v1765.toNat).kind_), ci ((gl z1539.2 v1765.toNat).from_), ci ((gl z1539.2 v1765.toNat).until_), .d (DL (α := Rect) (gl z1539.2 v1765.toNat).region_.rects_)]), (25, .box false [ci ((gl (z1539.2.take v1765.toNat) v1789.toNat).number_), ci ((gl (z1539.2.take v1765.toNat) v1789.toNat).kind_), ci ((gl (z1539.2.take v1765.toNat) v1789.toNat).from_), ci ((gl (z1539.2.take v1765.toNat) v1789.toNat).until_), .d (DL (α := Rect) (gl (z1539.2.take v1765.toNat) v1789.toNat).region_.rects_)])] (by kernel_rfl) (hJ1798 false h)
                · have h := br_f h hb1793
                  refine AW.g Fm [.s, .s, .s, .s, .s, .w (vb false), .s, .s, .s, .s, .s, .s, .s, .s, .s, .s, .s, .s, .s, .s] (fun K => (ALe (vb (decide (((gl z1539.2 v1765.toNat).from_) < ((gl (z1539.2.take v1765.toNat) v1789.toNat).until_)))) (vb false)) ∧ True) [(7, AL z1539.2), (17, vi z1720.1), (18, vi z1720.2.1), (19, vb z1720.2.2.1), (20, vi z1720.2.2.2), (21, vb v1788), (23, .v (.c (.ptr 23 0))), (25, .v (.c (.ptr 25 0))), (26, vb false), (99, AL z1539.2), (100, vi ((List.length z1539.2 : Nat) : Int)), (101, vi v1765), (108, AL (α := Feature) (z1539.2.take v1765.toNat)), (109, vi ((List.length (z1539.2.take v1765.toNat) : Nat) : Int)), (110, vi v1789)] [(23, .box false [ci ((gl z1539.2 v1765.toNat).number_), ci ((gl z1539.2 v1765.toNat).kind_), ci ((gl z1539.2 v1765.toNat).from_), ci ((gl z1539.2 v1765.toNat).until_), .d (DL (α := Rect) (gl z1539.2 v1765.toNat).region_.rects_)]), (25, .box false [ci ((gl (z1539.2.take v1765.toNat) v1789.toNat).number_), ci ((gl (z1539.2.take v1765.toNat) v1789.toNat).kind_), ci ((gl (z1539.2.take v1765.toNat) v1789.toNat).from_), ci ((gl (z1539.2.take v1765.toNat) v1789.toNat).until_), .d (DL (α := Rect) (gl (z1539.2.take v1765.toNat) v1789.toNat).region_.rects_)])] ⟨ALe.bool hb1793, True.intro⟩ (by kernel_rfl) ?_
                  exact Kn.r Fm [(7, AL z1539.2), (17, vi z1720.1), (18, vi z1720.2.1), (19, vb z1720.2.2.1), (20, vi z1720.2.2.2), (21, vb v1788), (23, .v (.c (.ptr 23 0))), (25, .v (.c (.ptr 25 0))), (26, vb false), (99, AL z1539.2), (100, vi ((List.length z1539.2 : Nat) : Int)), (101, vi v1765), (108, AL (α := Feature) (z1539.2.take v1765.toNat)), (109, vi ((List.length (z1539.2.take v1765.toNat) : Nat) : Int)), (110, vi v1789)] [(23, .box false [ci ((gl z1539.2 v1765.toNat).number_), ci ((gl z1539.2 v1765.toNat).kind_), ci ((gl z1539.2 v1765.toNat).from_), ci ((gl z1539.2 v1765.toNat).until_), .d (DL (α := Rect) (gl z1539.2 v1765.toNat).region_.rects_)]), (25, .box false [ci ((gl (z1539.2.take v1765.toNat) v1789.toNat).number_), ci ((gl (z1539.2.take v1765.toNat) v1789.toNat).kind_), ci ((gl (z1539.2.take v1765.toNat) v1789.toNat).from_), ci ((gl (z1539.2.take v1765.toNat) v1789.toNat).until_), .d (DL (α := Rect) (gl (z1539.2.take v1765.toNat) v1789.toNat).region_.rects_)])] (by kernel_rfl) (hJ1798 false h)
            · have h := br_f h hb1791
              refine AW.exit ?_
              exact Kn.r Fm [(7, AL z1539.2), (17, vi z1720.1), (18, vi z1720.2.1), (19, vb z1720.2.2.1), (20, vi z1720.2.2.2), (21, vb v1788), (99, AL z1539.2), (100, vi ((List.length z1539.2 : Nat) : Int)), (101, vi v1765)] [] (by kernel_rfl) (hJ1809 v1788 h)
        · have h := br_f h hb1767
          refine AW.exit ?_
          exact Kn.r Fm [(17, vi z1720.1), (18, vi z1720.2.1), (19, vb z1720.2.2.1), (20, vi z1720.2.2.2), (21, vb v1764)] [] (by kernel_rfl) (hJ1812 v1764 h)
    · refine AW.sg0 Fm 1 [(7, AL z1539.2), (8, vi (x1535.tmod (16 : Int))), (9, vi (x1536.tmod (50 : Int))), (10, .v (.c (.ptr 10 0))), (12, vi (0 : Int))] [(10, .box false [.d (DL z1545.1.rects_)])] (by kernel_rfl) ?_
      refine AW.block ?_
      refine Kn.r Fm [(7, AL z1539.2), (8, vi (x1535.tmod (16 : Int))), (9, vi (x1536.tmod (50 : Int))), (10, .v (.c (.ptr 10 0))), (12, vi (0 : Int))] [(10, .box false [.d (DL z1545.1.rects_)])] (by kernel_rfl) ?_
      have h : loopN (fun again (z : Int) => law09_FeatureKinds_b0 F x1535 x1536 z1539 z1545 again z) F (0 : Int) = some r := h
      refine AW.loopF (E' := fun z => [(7, AL z1539.2), (8, vi (x1535.tmod (16 : Int))), (9, vi (x1536.tmod (50 : Int))), (10, .v (.c (.ptr 10 0))), (12, vi z)]) (S' := fun z => [(10, .box false [.d (DL z1545.1.rects_)])]) (fun ag_law09_FeatureKinds_b0 v1633 J1634 hJ1634 h => ?_) h
      have h : law09_FeatureKinds_b0 F x1535 x1536 z1539 z1545 ag_law09_FeatureKinds_b0 v1633 = some r := h
      refine AW.seq ?_
      refine AW.sg0 Fm 2 [(7, AL z1539.2), (8, vi (x1535.tmod (16 : Int))), (9, vi (x1536.tmod (50 : Int))), (10, .v (.c (.ptr 10 0))), (12, vi v1633), (46, vb (decide (v1633 < (10 : Int))))] [(10, .box false [.d (DL z1545.1.rects_)])] (by kernel_rfl) ?_
      refine AW.cond (b := (decide (v1633 < (10 : Int)))) (by kernel_rfl) (fun hb1635 => ?_) (fun hb1635 => ?_)
      · have h := br_t h hb1635
        refine AW.skip ?_
        refine AW.join (r := r) (fun z : Unit => law09_FeatureKinds_k6 F v1633 ag_law09_FeatureKinds_b0) (fun z => [(7, AL z1539.2), (8, vi (x1535.tmod (16 : Int))), (9, vi (x1536.tmod (50 : Int))), (10, .v (.c (.ptr 10 0))), (12, vi v1633)]) (fun z => [(10, .box false [.d (DL z1545.1.rects_)])]) (fun z h => ?_) (fun J1717 hJ1717 => ?_)
        · have h : law09_FeatureKinds_k6 F v1633 ag_law09_FeatureKinds_b0 = some r := h
          obtain ⟨hg1718, h⟩ := gd_some h
          refine AW.g Fm [.s, .s, .s] (fun K => (I64 (v1633 + (1 : Int)) ∧ True) ∧ True) [(7, AL z1539.2), (8, vi (x1535.tmod (16 : Int))), (9, vi (x1536.tmod (50 : Int))), (10, .v (.c (.ptr 10 0))), (12, vi (v1633 + (1 : Int)))] [(10, .box false [.d (DL z1545.1.rects_)])] ⟨⟨hg1718, True.intro⟩, True.intro⟩ (by kernel_rfl) ?_
          exact Kn.r Fm [(7, AL z1539.2), (8, vi (x1535.tmod (16 : Int))), (9, vi (x1536.tmod (50 : Int))), (10, .v (.c (.ptr 10 0))), (12, vi (v1633 + (1 : Int)))] [(10, .box false [.d (DL z1545.1.rects_)])] (by kernel_rfl) (hJ1634 (v1633 + (1 : Int)) h)
        · refine AW.block ?_
          refine AW.sg0 Fm 1 [(7, AL z1539.2), (8, vi (x1535.tmod (16 : Int))), (9, vi (x1536.tmod (50 : Int))), (10, .v (.c (.ptr 10 0))), (12, vi v1633), (13, vi (0 : Int))] [(10, .box false [.d (DL z1545.1.rects_)])] (by kernel_rfl) ?_
          refine AW.block ?_
          refine Kn.r Fm [(7, AL z1539.2), (8, vi (x1535.tmod (16 : Int))), (9, vi (x1536.tmod (50 : Int))), (10, .v (.c (.ptr 10 0))), (12, vi v1633), (13, vi (0 : Int))] [(10, .box false [.d (DL z1545.1.rects_)])] (by kernel_rfl) ?_
          have h : loopN (fun again (z : Int) => law09_FeatureKinds_b1 F x1535 x1536 z1539 z1545 v1633 ag_law09_FeatureKinds_b0 again z) F (0 : Int) = some r := h
          refine AW.loopF (E' := fun z => [(7, AL z1539.2), (8, vi (x1535.tmod (16 : Int))), (9, vi (x1536.tmod (50 : Int))), (10, .v (.c (.ptr 10 0))), (12, vi v1633), (13, vi z)]) (S' := fun z => [(10, .box false [.d (DL z1545.1.rects_)])]) (fun ag_law09_FeatureKinds_b1 v1676 J1677 hJ1677 h => ?_) h
          have h : law09_FeatureKinds_b1 F x1535 x1536 z1539 z1545 v1633 ag_law09_FeatureKinds_b0 ag_law09_FeatureKinds_b1 v1676 = some r := h
          refine AW.seq ?_
          refine AW.sg0 Fm 2 [(7, AL z1539.2), (8, vi (x1535.tmod (16 : Int))), (9, vi (x1536.tmod (50 : Int))), (10, .v (.c (.ptr 10 0))), (12, vi v1633), (13, vi v1676), (50, vb (decide (v1676 < (10 : Int))))] [(10, .box false [.d (DL z1545.1.rects_)])] (by kernel_rfl) ?_
          refine AW.cond (b := (decide (v1676 < (10 : Int)))) (by kernel_rfl) (fun hb1678 => ?_) (fun hb1678 => ?_)
          · have h := br_t h hb1678
            refine AW.skip ?_
            refine AW.join (r := r) (fun z : Unit => law09_FeatureKinds_k5 F v1676 ag_law09_FeatureKinds_b1) (fun z => [(7, AL z1539.2), (8, vi (x1535.tmod (16 : Int))), (9, vi (x1536.tmod (50 : Int))), (10, .v (.c (.ptr 10 0))), (12, vi v1633), (13, vi v1676)]) (fun z => [(10, .box false [.d (DL z1545.1.rects_)])]) (fun z h => ?_) (fun J1715 hJ1715 => ?_)
            · have h : law09_FeatureKinds_k5 F v1676 ag_law09_FeatureKinds_b1 = some r := h
              obtain ⟨hg1716, h⟩ := gd_some h
              refine AW.g Fm [.s, .s, .s] (fun K => (I64 (v1676 + (1 : Int)) ∧ True) ∧ True) [(7, AL z1539.2), (8, vi (x1535.tmod (16 : Int))), (9, vi (x1536.tmod (50 : Int))), (10, .v (.c (.ptr 10 0))), (12, vi v1633), (13, vi (v1676 + (1 : Int)))] [(10, .box false [.d (DL z1545.1.rects_)])] ⟨⟨hg1716, True.intro⟩, True.intro⟩ (by kernel_rfl) ?_
              exact Kn.r Fm [(7, AL z1539.2), (8, vi (x1535.tmod (16 : Int))), (9, vi (x1536.tmod (50 : Int))), (10, .v (.c (.ptr 10 0))), (12, vi v1633), (13, vi (v1676 + (1 : Int)))] [(10, .box false [.d (DL z1545.1.rects_)])] (by kernel_rfl) (hJ1677 (v1676 + (1 : Int)) h)
            · refine AW.block ?_
              refine AW.sg0 Fm 1 [(7, AL z1539.2), (8, vi (x1535.tmod (16 : Int))), (9, vi (x1536.tmod (50 : Int))), (10, .v (.c (.ptr 10 0))), (12, vi v1633), (13, vi v1676), (14, vb false)] [(10, .box false [.d (DL z1545.1.rects_)])] (by kernel_rfl) ?_
              refine AW.join (r := r) (fun z : Bool => law09_FeatureKinds_k4 F z1545 v1633 v1676 ag_law09_FeatureKinds_b1 z) (fun z => [(7, AL z1539.2), (8, vi (x1535.tmod (16 : Int))), (9, vi (x1536.tmod (50 : Int))), (10, .v (.c (.ptr 10 0))), (12, vi v1633), (13, vi v1676), (14, vb z)]) (fun z => [(10, .box false [.d (DL z1545.1.rects_)])]) (fun v1710 h => ?_) (fun J1711 hJ1711 => ?_)
              · have h : law09_FeatureKinds_k4 F z1545 v1633 v1676 ag_law09_FeatureKinds_b1 v1710 = some r := h
                refine AW.seq ?_
                obtain ⟨z1712, hz1713, h⟩ := bd_some h
                refine AW.g Fm [.s, .s, .s, .k (cE [] [] (vb z1712) [] []), .s, .k (sE (vb (!(z1712 == v1710))))] (fun K => K 3 ∧ K 5 ∧ True) [(7, AL z1539.2), (8, vi (x1535.tmod (16 : Int))), (9, vi (x1536.tmod (50 : Int))), (10, .v (.c (.ptr 10 0))), (12, vi v1633), (13, vi v1676), (91, vb (!(z1712 == v1710)))] [(10, .box false [.d (DL z1545.1.rects_)])] ⟨KAt.cl (args := [.v (.g [.d (DL z1545.1.rects_)]), vi v1633, vi v1676]) (ref04_Has_spec hz1713) Tryz.call25 [] rfl (by kernel_rfl), KAt.eqb (t := 4) (by kernel_rfl) false (a := z1712) (b := v1710) rfl rfl (by kernel_rfl) (by kernel_rfl) (by kernel_rfl), True.intro⟩ (by kernel_rfl) ?_
                refine AW.cond (b := (!(z1712 == v1710))) (by kernel_rfl) (fun hb1714 => ?_) (fun hb1714 => ?_)
                · have h := br_t h hb1714
                  refine AW.sg0 Fm 1 [(6, vb false)] [] (by kernel_rfl) ?_
                  refine AW.ret ?_
                  obtain rfl := Option.some.inj h
                  exact Kn.r Fm [(6, vb false)] [] (by kernel_rfl) (Kn.dn Fm (by kernel_rfl))
                · have h := br_f h hb1714
                  refine AW.skip ?_
                  exact Kn.r Fm [(7, AL z1539.2), (8, vi (x1535.tmod (16 : Int))), (9, vi (x1536.tmod (50 : Int))), (10, .v (.c (.ptr 10 0))), (12, vi v1633), (13, vi v1676)] [(10, .box false [.d (DL z1545.1.rects_)])] (by kernel_rfl) (hJ1715 () h)
              · refine AW.sg0 Fm 3 [(7, AL z1539.2), (8, vi (x1535.tmod (16 : Int))), (9, vi (x1536.tmod (50 : Int))), (10, .v (.c (.ptr 10 0))), (12, vi v1633), (13, vi v1676), (14, vb false), (53, AL z1539.2), (54, vi ((List.length z1539.2 : Nat) : Int)), (55, vi (0 : Int))] [(10, .box false [.d (DL z1545.1.rects_)])] (by kernel_rfl) ?_
                refine AW.block ?_
                refine Kn.r Fm [(7, AL z1539.2), (8, vi (x1535.tmod (16 : Int))), (9, vi (x1536.tmod (50 : Int))), (10, .v (.c (.ptr 10 0))), (12, vi v1633), (13, vi v1676), (14, vb false), (53, AL z1539.2), (54, vi ((List.length z1539.2 : Nat) : Int)), (55, vi (0 : Int))] [(10, .box false [.d (DL z1545.1.rects_)])] (by kernel_rfl) ?_
                have h : loopN (fun again (z : Bool × Int) => law09_FeatureKinds_b2 F x1535 x1536 z1539 z1545 v1633 v1676 ag_law09_FeatureKinds_b1 again z.1 z.2) F (false, (0 : Int)) = some r := h
                refine AW.loopF (E' := fun z => [(7, AL z1539.2), (8, vi (x1535.tmod (16 : Int))), (9, vi (x1536.tmod (50 : Int))), (10, .v (.c (.ptr 10 0))), (12, vi v1633), (13, vi v1676), (14, vb z.1), (53, AL z1539.2), (54, vi ((List.length z1539.2 : Nat) : Int)), (55, vi z.2)]) (S' := fun z => [(10, .box false [.d (DL z1545.1.rects_)])]) (fun ag_law09_FeatureKinds_b2 z J1698 hJ1698 h => ?_) h
                obtain ⟨v1696, v1697⟩ := z
                have h : law09_FeatureKinds_b2 F x1535 x1536 z1539 z1545 v1633 v1676 ag_law09_FeatureKinds_b1 ag_law09_FeatureKinds_b2 v1696 v1697 = some r := h
                refine AW.sg0 Fm 1 [(7, AL z1539.2), (8, vi (x1535.tmod (16 : Int))), (9, vi (x1536.tmod (50 : Int))), (10, .v (.c (.ptr 10 0))), (12, vi v1633), (13, vi v1676), (14, vb v1696), (53, AL z1539.2), (54, vi ((List.length z1539.2 : Nat) : Int)), (55, vi v1697), (56, vb (decide (v1697 < ((List.length z1539.2 : Nat) : Int))))] [(10, .box false [.d (DL z1545.1.rects_)])] (by kernel_rfl) ?_
                refine AW.seq ?_
                refine AW.cond (b := (decide (v1697 < ((List.length z1539.2 : Nat) : Int)))) (by kernel_rfl) (fun hb1699 => ?_) (fun hb1699 => ?_)
                · have h := br_t h hb1699
                  refine AW.skip ?_
                  refine AW.join (r := r) (fun z : Bool => law09_FeatureKinds_k3 F v1697 ag_law09_FeatureKinds_b2 z) (fun z => [(7, AL z1539.2), (8, vi (x1535.tmod (16 : Int))), (9, vi (x1536.tmod (50 : Int))), (10, .v (.c (.ptr 10 0))), (12, vi v1633), (13, vi v1676), (14, vb z), (53, AL z1539.2), (54, vi ((List.length z1539.2 : Nat) : Int)), (55, vi v1697)]) (fun z => [(10, .box false [.d (DL z1545.1.rects_)])]) (fun v1707 h => ?_) (fun J1708 hJ1708 => ?_)
                  · have h : law09_FeatureKinds_k3 F v1697 ag_law09_FeatureKinds_b2 v1707 = some r := h
                    obtain ⟨hg1709, h⟩ := gd_some h
                    refine AW.g Fm [.s, .s] (fun K => (I64 (v1697 + (1 : Int)) ∧ True) ∧ True) [(7, AL z1539.2), (8, vi (x1535.tmod (16 : Int))), (9, vi (x1536.tmod (50 : Int))), (10, .v (.c (.ptr 10 0))), (12, vi v1633), (13, vi v1676), (14, vb v1707), (53, AL z1539.2), (54, vi ((List.length z1539.2 : Nat) : Int)), (55, vi (v1697 + (1 : Int)))] [(10, .box false [.d (DL z1545.1.rects_)])] ⟨⟨hg1709, True.intro⟩, True.intro⟩ (by kernel_rfl) ?_
                    exact Kn.r Fm [(7, AL z1539.2), (8, vi (x1535.tmod (16 : Int))), (9, vi (x1536.tmod (50 : Int))), (10, .v (.c (.ptr 10 0))), (12, vi v1633), (13, vi v1676), (14, vb v1707), (53, AL z1539.2), (54, vi ((List.length z1539.2 : Nat) : Int)), (55, vi (v1697 + (1 : Int)))] [(10, .box false [.d (DL z1545.1.rects_)])] (by kernel_rfl) (hJ1698 (v1707, (v1697 + (1 : Int))) h)
                  · refine AW.block ?_
                    obtain ⟨hg1700, h⟩ := gd_some h
                    refine AW.sg Fm [.s, .s, .s, .s] (fun K => (0 ≤ v1697 ∧ v1697 < ((List.length z1539.2 : Nat) : Int)) ∧ True) [(7, AL z1539.2), (8, vi (x1535.tmod (16 : Int))), (9, vi (x1536.tmod (50 : Int))), (10, .v (.c (.ptr 10 0))), (12, vi v1633), (13, vi v1676), (14, vb v1696), (16, .v (.c (.ptr 16 0))), (53, AL z1539.2), (54, vi ((List.length z1539.2 : Nat) : Int)), (55, vi v1697)] [(10, .box false [.d (DL z1545.1.rects_)]), (16, .box false [ci ((gl z1539.2 v1697.toNat).number_), ci ((gl z1539.2 v1697.toNat).kind_), ci ((gl z1539.2 v1697.toNat).from_), ci ((gl z1539.2 v1697.toNat).until_), .d (DL (α := Rect) (gl z1539.2 v1697.toNat).region_.rects_)])] ⟨hg1700, True.intro⟩ (by kernel_rfl) ?_
                    rcases Bool.eq_false_or_eq_true v1696 with hb1701 | hb1701
                    · have h := br_t h hb1701
                      refine AW.g Fm [.s, .w (vb true), .s, .s, .s, .s, .s, .s, .s, .s, .s, .s, .s, .s, .s, .s, .s, .s, .s, .s, .s, .s, .s, .s, .s, .s, .s] (fun K => (ALe (vb v1696) (vb true)) ∧ True) [(7, AL z1539.2), (8, vi (x1535.tmod (16 : Int))), (9, vi (x1536.tmod (50 : Int))), (10, .v (.c (.ptr 10 0))), (12, vi v1633), (13, vi v1676), (14, vb true), (53, AL z1539.2), (54, vi ((List.length z1539.2 : Nat) : Int)), (55, vi v1697)] [(10, .box false [.d (DL z1545.1.rects_)])] ⟨ALe.bool hb1701, True.intro⟩ (by kernel_rfl) ?_
                      exact Kn.r Fm [(7, AL z1539.2), (8, vi (x1535.tmod (16 : Int))), (9, vi (x1536.tmod (50 : Int))), (10, .v (.c (.ptr 10 0))), (12, vi v1633), (13, vi v1676), (14, vb true), (53, AL z1539.2), (54, vi ((List.length z1539.2 : Nat) : Int)), (55, vi v1697)] [(10, .box false [.d (DL z1545.1.rects_)])] (by kernel_rfl) (hJ1708 true h)
                    · have h := br_f h hb1701
                      rcases Bool.eq_false_or_eq_true (((gl z1539.2 v1697.toNat).kind_) == (x1535.tmod (16 : Int))) with hb1702 | hb1702
                      · have h := br_t h hb1702
                        rcases Bool.eq_false_or_eq_true (decide (((gl z1539.2 v1697.toNat).from_) ≤ (x1536.tmod (50 : Int)))) with hb1703 | hb1703
                        · have h := br_t h hb1703
                          rcases Bool.eq_false_or_eq_true (decide ((x1536.tmod (50 : Int)) < ((gl z1539.2 v1697.toNat).until_))) with hb1704 | hb1704
                          · have h := br_t h hb1704
                            obtain ⟨z1705, hz1706, h⟩ := bd_some h
                            refine AW.g Fm [.s, .w (vb false), .s, .s, .s, .s, .w (vb true), .s, .s, .s, .s, .s, .w (vb true), .s, .s, .s, .s, .s, .w (vb true), .s, .s, .s, .s, .k (cE [] [] (vb z1705) [] []), .s, .s, .s] (fun K => (ALe (vb v1696) (vb false)) ∧ (ALe (vb (((gl z1539.2 v1697.toNat).kind_) == (x1535.tmod (16 : Int)))) (vb true)) ∧ (ALe (vb (decide (((gl z1539.2 v1697.toNat).from_) ≤ (x1536.tmod (50 : Int))))) (vb true)) ∧ (ALe (vb (decide ((x1536.tmod (50 : Int)) < ((gl z1539.2 v1697.toNat).until_)))) (vb true)) ∧ K 23 ∧ True) [(7, AL z1539.2), (8, vi (x1535.tmod (16 : Int))), (9, vi (x1536.tmod (50 : Int))), (10, .v (.c (.ptr 10 0))), (12, vi v1633), (13, vi v1676), (14, vb z1705), (53, AL z1539.2), (54, vi ((List.length z1539.2 : Nat) : Int)), (55, vi v1697), (61, .v (.c (.ptr 16 1))), (62, vi (gl z1539.2 v1697.toNat).kind_), (63, vi (x1535.tmod (16 : Int))), (64, vb (((gl z1539.2 v1697.toNat).kind_) == (x1535.tmod (16 : Int)))), (65, vb true), (66, .v (.c (.ptr 16 2))), (67, vi (gl z1539.2 v1697.toNat).from_), (68, vi (x1536.tmod (50 : Int))), (69, vb (decide (((gl z1539.2 v1697.toNat).from_) ≤ (x1536.tmod (50 : Int))))), (70, vb (decide (((gl z1539.2 v1697.toNat).from_) ≤ (x1536.tmod (50 : Int))))), (71, vb true), (72, vi (x1536.tmod (50 : Int))), (73, .v (.c (.ptr 16 3))), (74, vi (gl z1539.2 v1697.toNat).until_), (75, vb (decide ((x1536.tmod (50 : Int)) < ((gl z1539.2 v1697.toNat).until_)))), (76, vb (decide ((x1536.tmod (50 : Int)) < ((gl z1539.2 v1697.toNat).until_)))), (77, vb true), (78, .v (.c (.ptr 16 4))), (79, .v (.g [.d (DL (α := Rect) (gl z1539.2 v1697.toNat).region_.rects_)])), (80, vi v1633), (81, vi v1676), (82, vb z1705), (83, vb z1705)] [(10, .box false [.d (DL z1545.1.rects_)]), (16, .box false [ci ((gl z1539.2 v1697.toNat).number_), ci ((gl z1539.2 v1697.toNat).kind_), ci ((gl z1539.2 v1697.toNat).from_), ci ((gl z1539.2 v1697.toNat).until_), .d (DL (α := Rect) (gl z1539.2 v1697.toNat).region_.rects_)])] ⟨ALe.bool hb1701, ALe.bool hb1702, ALe.bool hb1703, ALe.bool hb1704, KAt.cl (args := [.v (.g [.d (DL (α := Rect) (gl z1539.2 v1697.toNat).region_.rects_)]), vi v1633, vi v1676]) (ref04_Has_spec hz1706) Tryz.call25 [] rfl (by kernel_rfl), True.intro⟩ (by kernel_rfl) ?_
                            exact Kn.r Fm [(7, AL z1539.2), (8, vi (x1535.tmod (16 : Int))), (9, vi (x1536.tmod (50 : Int))), (10, .v (.c (.ptr 10 0))), (12, vi v1633), (13, vi v1676), (14, vb z1705), (53, AL z1539.2), (54, vi ((List.length z1539.2 : Nat) : Int)), (55, vi v1697)] [(10, .box false [.d (DL z1545.1.rects_)])] (by kernel_rfl) (hJ1708 z1705 h)
                          · have h := br_f h hb1704
                            refine AW.g Fm [.s, .w (vb false), .s, .s, .s, .s, .w (vb true), .s, .s, .s, .s, .s, .w (vb true), .s, .s, .s, .s, .s, .w (vb false), .s, .s, .s, .s, .s, .s, .s, .s] (fun K => (ALe (vb v1696) (vb false)) ∧ (ALe (vb (((gl z1539.2 v1697.toNat).kind_) == (x1535.tmod (16 : Int)))) (vb true)) ∧ (ALe (vb (decide (((gl z1539.2 v1697.toNat).from_) ≤ (x1536.tmod (50 : Int))))) (vb true)) ∧ (ALe (vb (decide ((x1536.tmod (50 : Int)) < ((gl z1539.2 v1697.toNat).until_)))) (vb false)) ∧ True) [(7, AL z1539.2), (8, vi (x1535.tmod (16 : Int))), (9, vi (x1536.tmod (50 : Int))), (10, .v (.c (.ptr 10 0))), (12, vi v1633), (13, vi v1676), (14, vb false), (53, AL z1539.2), (54, vi ((List.length z1539.2 : Nat) : Int)), (55, vi v1697), (61, .v (.c (.ptr 16 1))), (62, vi (gl z1539.2 v1697.toNat).kind_), (63, vi (x1535.tmod (16 : Int))), (64, vb (((gl z1539.2 v1697.toNat).kind_) == (x1535.tmod (16 : Int)))), (65, vb true), (66, .v (.c (.ptr 16 2))), (67, vi (gl z1539.2 v1697.toNat).from_), (68, vi (x1536.tmod (50 : Int))), (69, vb (decide (((gl z1539.2 v1697.toNat).from_) ≤ (x1536.tmod (50 : Int))))), (70, vb (decide (((gl z1539.2 v1697.toNat).from_) ≤ (x1536.tmod (50 : Int))))), (71, vb true), (72, vi (x1536.tmod (50 : Int))), (73, .v (.c (.ptr 16 3))), (74, vi (gl z1539.2 v1697.toNat).until_), (75, vb (decide ((x1536.tmod (50 : Int)) < ((gl z1539.2 v1697.toNat).until_)))), (76, vb (decide ((x1536.tmod (50 : Int)) < ((gl z1539.2 v1697.toNat).until_)))), (77, vb false), (83, vb false)] [(10, .box false [.d (DL z1545.1.rects_)]), (16, .box false [ci ((gl z1539.2 v1697.toNat).number_), ci ((gl z1539.2 v1697.toNat).kind_), ci ((gl z1539.2 v1697.toNat).from_), ci ((gl z1539.2 v1697.toNat).until_), .d (DL (α := Rect) (gl z1539.2 v1697.toNat).region_.rects_)])] ⟨ALe.bool hb1701, ALe.bool hb1702, ALe.bool hb1703, ALe.bool hb1704, True.intro⟩ (by kernel_rfl) ?_
                            exact Kn.r Fm [(7, AL z1539.2), (8, vi (x1535.tmod (16 : Int))), (9, vi (x1536.tmod (50 : Int))), (10, .v (.c (.ptr 10 0))), (12, vi v1633), (13, vi v1676), (14, vb false), (53, AL z1539.2), (54, vi ((List.length z1539.2 : Nat) : Int)), (55, vi v1697)] [(10, .box false [.d (DL z1545.1.rects_)])] (by kernel_rfl) (hJ1708 false h)
                        · have h := br_f h hb1703
                          refine AW.g Fm [.s, .w (vb false), .s, .s, .s, .s, .w (vb true), .s, .s, .s, .s, .s, .w (vb false), .s, .s, .s, .s, .s, .s, .s, .s, .s, .s, .s, .s, .s, .s] (fun K => (ALe (vb v1696) (vb false)) ∧ (ALe (vb (((gl z1539.2 v1697.toNat).kind_) == (x1535.tmod (16 : Int)))) (vb true)) ∧ (ALe (vb (decide (((gl z1539.2 v1697.toNat).from_) ≤ (x1536.tmod (50 : Int))))) (vb false)) ∧ True) [(7, AL z1539.2), (8, vi (x1535.tmod (16 : Int))), (9, vi (x1536.tmod (50 : Int))), (10, .v (.c (.ptr 10 0))), (12, vi v1633), (13, vi v1676), (14, vb false), (53, AL z1539.2), (54, vi ((List.length z1539.2 : Nat) : Int)), (55, vi v1697), (61, .v (.c (.ptr 16 1))), (62, vi (gl z1539.2 v1697.toNat).kind_), (63, vi (x1535.tmod (16 : Int))), (64, vb (((gl z1539.2 v1697.toNat).kind_) == (x1535.tmod (16 : Int)))), (65, vb true), (66, .v (.c (.ptr 16 2))), (67, vi (gl z1539.2 v1697.toNat).from_), (68, vi (x1536.tmod (50 : Int))), (69, vb (decide (((gl z1539.2 v1697.toNat).from_) ≤ (x1536.tmod (50 : Int))))), (70, vb (decide (((gl z1539.2 v1697.toNat).from_) ≤ (x1536.tmod (50 : Int))))), (71, vb false), (76, vb false), (77, vb false), (83, vb false)] [(10, .box false [.d (DL z1545.1.rects_)]), (16, .box false [ci ((gl z1539.2 v1697.toNat).number_), ci ((gl z1539.2 v1697.toNat).kind_), ci ((gl z1539.2 v1697.toNat).from_), ci ((gl z1539.2 v1697.toNat).until_), .d (DL (α := Rect) (gl z1539.2 v1697.toNat).region_.rects_)])] ⟨ALe.bool hb1701, ALe.bool hb1702, ALe.bool hb1703, True.intro⟩ (by kernel_rfl) ?_
                          exact Kn.r Fm [(7, AL z1539.2), (8, vi (x1535.tmod (16 : Int))), (9, vi (x1536.tmod (50 : Int))), (10, .v (.c (.ptr 10 0))), (12, vi v1633), (13, vi v1676), (14, vb false), (53, AL z1539.2), (54, vi ((List.length z1539.2 : Nat) : Int)), (55, vi v1697)] [(10, .box false [.d (DL z1545.1.rects_)])] (by kernel_rfl) (hJ1708 false h)
                      · have h := br_f h hb1702
                        refine AW.g Fm [.s, .w (vb false), .s, .s, .s, .s, .w (vb false), .s, .s, .s, .s, .s, .s, .s, .s, .s, .s, .s, .s, .s, .s, .s, .s, .s, .s, .s, .s] (fun K => (ALe (vb v1696) (vb false)) ∧ (ALe (vb (((gl z1539.2 v1697.toNat).kind_) == (x1535.tmod (16 : Int)))) (vb false)) ∧ True) [(7, AL z1539.2), (8, vi (x1535.tmod (16 : Int))), (9, vi (x1536.tmod (50 : Int))), (10, .v (.c (.ptr 10 0))), (12, vi v1633), (13, vi v1676), (14, vb false), (53, AL z1539.2), (54, vi ((List.length z1539.2 : Nat) : Int)), (55, vi v1697), (61, .v (.c (.ptr 16 1))), (62, vi (gl z1539.2 v1697.toNat).kind_), (63, vi (x1535.tmod (16 : Int))), (64, vb (((gl z1539.2 v1697.toNat).kind_) == (x1535.tmod (16 : Int)))), (65, vb false), (70, vb false), (71, vb false), (76, vb false), (77, vb false), (83, vb false)] [(10, .box false [.d (DL z1545.1.rects_)]), (16, .box false [ci ((gl z1539.2 v1697.toNat).number_), ci ((gl z1539.2 v1697.toNat).kind_), ci ((gl z1539.2 v1697.toNat).from_), ci ((gl z1539.2 v1697.toNat).until_), .d (DL (α := Rect) (gl z1539.2 v1697.toNat).region_.rects_)])] ⟨ALe.bool hb1701, ALe.bool hb1702, True.intro⟩ (by kernel_rfl) ?_
                        exact Kn.r Fm [(7, AL z1539.2), (8, vi (x1535.tmod (16 : Int))), (9, vi (x1536.tmod (50 : Int))), (10, .v (.c (.ptr 10 0))), (12, vi v1633), (13, vi v1676), (14, vb false), (53, AL z1539.2), (54, vi ((List.length z1539.2 : Nat) : Int)), (55, vi v1697)] [(10, .box false [.d (DL z1545.1.rects_)])] (by kernel_rfl) (hJ1708 false h)
                · have h := br_f h hb1699
                  refine AW.exit ?_
                  exact Kn.r Fm [(7, AL z1539.2), (8, vi (x1535.tmod (16 : Int))), (9, vi (x1536.tmod (50 : Int))), (10, .v (.c (.ptr 10 0))), (12, vi v1633), (13, vi v1676), (14, vb v1696)] [(10, .box false [.d (DL z1545.1.rects_)])] (by kernel_rfl) (hJ1711 v1696 h)
          · have h := br_f h hb1678
            refine AW.exit ?_
            exact Kn.r Fm [(7, AL z1539.2), (8, vi (x1535.tmod (16 : Int))), (9, vi (x1536.tmod (50 : Int))), (10, .v (.c (.ptr 10 0))), (12, vi v1633)] [(10, .box false [.d (DL z1545.1.rects_)])] (by kernel_rfl) (hJ1717 () h)
      · have h := br_f h hb1635
        refine AW.exit ?_
        exact Kn.r Fm [(7, AL z1539.2)] [] (by kernel_rfl) (hJ1719 () h)
end Go.Ab
end
