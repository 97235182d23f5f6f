/- The code follows the plain programs: whenever the plain program has a result. -/
import Derived.Test.YthifkkpkmdpoiaaGreatBaA
set_option linter.unusedVariables false
set_option linter.unusedSimpArgs false
section
namespace Go.Ab
open Go.Proofs
set_option linter.unusedVariables false
set_option maxRecDepth 100000
theorem keep_New_spec {F : Nat} {x1 : (List Int)} {r : Tape} (h : keep_New F x1 = some r) :
    FSpec Tryz.prog 12 [AL x1] [] (.v (.c (.ptr 100 0))) [(100, .box false (gC r))] := by
  refine FSpec.intro prog_mixed prog_lay Tryz.func12 rfl (by kernel_rfl) fun C Fm => ?_
  unfold keep_New at h
  refine AW.sg0 Fm 1 [(0, AL x1)] [] (by kernel_rfl) ?_
  obtain ⟨hg2, h⟩ := gd_some h
  refine AW.sg Fm [.s, .s, .s, .s, .w (AL (α := Int) (x1.take (gmin ((List.length x1 : Nat) : Int) (400 : Int)).toNat)), .s, .s, .s] (fun K => (((sl (List.length x1) (LF x1) none (some (gmin ((List.length x1 : Nat) : Int) (400 : Int)))).2 ∧ ∀ j, j < List.length x1 → (LF x1 j).length = 1)) ∧ (ALe (.v (.c (.d (.lst (sl (List.length x1) (LF x1) none (some (gmin ((List.length x1 : Nat) : Int) (400 : Int)))).1.1 (sl (List.length x1) (LF x1) none (some (gmin ((List.length x1 : Nat) : Int) (400 : Int)))).1.2)))) (AL (α := Int) (x1.take (gmin ((List.length x1 : Nat) : Int) (400 : Int)).toNat))) ∧ True) [(2, .v (.c (.ptr 9 0)))] [(9, .box false [.d (DL (α := Int) (x1.take (gmin ((List.length x1 : Nat) : Int) (400 : Int)).toNat)), ci 0])] ⟨⟨hg2, (Is.refl x1).len⟩, ALe.lst (sl_is x1 none (some (gmin ((List.length x1 : Nat) : Int) (400 : Int))) hg2), True.intro⟩ (by kernel_rfl) ?_
  refine AW.ret ?_
  obtain rfl := Option.some.inj h
  exact Kn.re Fm [(100, 9)] [(2, .v (.c (.ptr 100 0)))] [(100, .box false [.d (DL (α := Int) (x1.take (gmin ((List.length x1 : Nat) : Int) (400 : Int)).toNat)), ci 0])] (by kernel_rfl) (by kernel_rfl) (by kernel_rfl) (by kernel_rfl) (Kn.dn Fm (by kernel_rfl))
theorem keep_Mod_spec {F : Nat} {x3 : Int} {x4 : Int} {r : Int} (h : keep_Mod F x3 x4 = some r) :
    FSpec Tryz.prog 51 [vi x3, vi x4] [] (vi r) [] := by
  refine FSpec.intro prog_mixed prog_lay Tryz.func51 rfl (by kernel_rfl) fun C Fm => ?_
  unfold keep_Mod at h
  refine AW.sg0 Fm 1 [(0, vi x3), (1, vi x4)] [] (by kernel_rfl) ?_
  refine AW.seq ?_
  refine AW.sg0 Fm 2 [(0, vi x3), (1, vi x4), (6, vb (decide (x4 < (1 : Int))))] [] (by kernel_rfl) ?_
  refine AW.cond (b := (decide (x4 < (1 : Int)))) (by kernel_rfl) (fun hb5 => ?_) (fun hb5 => ?_)
  · have h := br_t h hb5
    refine AW.sg0 Fm 1 [(4, vi (0 : Int))] [] (by kernel_rfl) ?_
    refine AW.ret ?_
    obtain rfl := Option.some.inj h
    exact Kn.r Fm [(4, vi (0 : Int))] [] (by kernel_rfl) (Kn.dn Fm (by kernel_rfl))
  · have h := br_f h hb5
    refine AW.skip ?_
    obtain ⟨hg6, h⟩ := gd_some h
    refine AW.sg Fm [.s, .s, .s, .s] (fun K => (x4 ≠ 0) ∧ True) [(0, vi (x3.tmod x4)), (1, vi x4)] [] ⟨hg6, True.intro⟩ (by kernel_rfl) ?_
    refine AW.join (r := r) (fun z : Int => keep_Mod_k0 F z) (fun z => [(0, vi z)]) (fun z => []) (fun v9 h => ?_) (fun J10 hJ10 => ?_)
    · have h : keep_Mod_k0 F v9 = some r := h
      refine AW.sg0 Fm 2 [(4, vi v9)] [] (by kernel_rfl) ?_
      refine AW.ret ?_
      obtain rfl := Option.some.inj h
      exact Kn.r Fm [(4, vi v9)] [] (by kernel_rfl) (Kn.dn Fm (by kernel_rfl))
    · refine AW.sg0 Fm 2 [(0, vi (x3.tmod x4)), (1, vi x4), (11, vb (decide ((x3.tmod x4) < (0 : Int))))] [] (by kernel_rfl) ?_
      refine AW.cond (b := (decide ((x3.tmod x4) < (0 : Int)))) (by kernel_rfl) (fun hb7 => ?_) (fun hb7 => ?_)
      · have h := br_t h hb7
        obtain ⟨hg8, h⟩ := gd_some h
        refine AW.g Fm [.s, .s, .s, .s] (fun K => (I64 ((x3.tmod x4) + x4) ∧ True) ∧ True) [(0, vi ((x3.tmod x4) + x4))] [] ⟨⟨hg8, True.intro⟩, True.intro⟩ (by kernel_rfl) ?_
        exact Kn.r Fm [(0, vi ((x3.tmod x4) + x4))] [] (by kernel_rfl) (hJ10 ((x3.tmod x4) + x4) h)
      · have h := br_f h hb7
        refine AW.skip ?_
        exact Kn.r Fm [(0, vi (x3.tmod x4))] [] (by kernel_rfl) (hJ10 (x3.tmod x4) h)
theorem keep_Tape_Next_spec {F : Nat} {x11 : Tape} {x12 : Int} {r : Tape × Int} (h : keep_Tape_Next F x11 x12 = some r) :
    FSpec Tryz.prog 30 [.v (.c (.ptr 0 0)), vi x12] [(0, .box false (gC x11))] (vi r.2) [(0, .box false (gC r.1))] := by
  refine FSpec.intro prog_mixed prog_lay Tryz.func30 rfl (by kernel_rfl) fun C Fm => ?_
  unfold keep_Tape_Next at h
  refine AW.sg0 Fm 1 [(0, .v (.c (.ptr 0 0))), (1, vi x12)] [(0, .box false (gC x11))] (by kernel_rfl) ?_
  refine AW.seq ?_
  refine AW.sg0 Fm 10 [(0, .v (.c (.ptr 0 0))), (1, vi x12), (14, vb (decide (((List.length x11.l_ : Nat) : Int) ≤ x11.at_)))] [(0, .box false (gC x11))] (by kernel_rfl) ?_
  refine AW.cond (b := (decide (((List.length x11.l_ : Nat) : Int) ≤ x11.at_))) (by kernel_rfl) (fun hb13 => ?_) (fun hb13 => ?_)
  · have h := br_t h hb13
    refine AW.sg0 Fm 1 [(4, vi (0 : Int))] [(0, .box false (gC x11))] (by kernel_rfl) ?_
    refine AW.ret ?_
    obtain rfl := Option.some.inj h
    exact Kn.r Fm [(4, vi (0 : Int))] [(0, .box false (gC x11))] (by kernel_rfl) (Kn.dn Fm (by kernel_rfl))
  · have h := br_f h hb13
    refine AW.skip ?_
    obtain ⟨hg14, h⟩ := gd_some h
    refine AW.sg Fm [.s, .s, .s, .s, .s, .s, .s, .s] (fun K => (I64 (x11.at_ + (1 : Int)) ∧ True) ∧ True) [(0, .v (.c (.ptr 0 0))), (1, vi x12)] [(0, .box false [.d (DL x11.l_), ci (x11.at_ + (1 : Int))])] ⟨⟨hg14, True.intro⟩, True.intro⟩ (by kernel_rfl) ?_
    refine AW.seq ?_
    obtain ⟨hg15, h⟩ := gd_some h
    obtain ⟨hg16, h⟩ := gd_some h
    obtain ⟨z17, hz18, h⟩ := bd_some h
    refine AW.g Fm [.s, .s, .s, .s, .s, .s, .s, .s, .s, .s, .s, .s, .k (cE [] [] (vi z17) [] []), .s] (fun K => (I64 ((x11.at_ + (1 : Int)) - (1 : Int)) ∧ True) ∧ (0 ≤ ((x11.at_ + (1 : Int)) - (1 : Int)) ∧ ((x11.at_ + (1 : Int)) - (1 : Int)) < ((List.length x11.l_ : Nat) : Int)) ∧ K 12 ∧ True) [(4, vi z17)] [(0, .box false [.d (DL x11.l_), ci (x11.at_ + (1 : Int))])] ⟨⟨hg15, True.intro⟩, hg16, KAt.cl (args := [vi (gl x11.l_ ((x11.at_ + (1 : Int)) - (1 : Int)).toNat), vi x12]) (keep_Mod_spec hz18) Tryz.call51 [] rfl (by kernel_rfl), True.intro⟩ (by kernel_rfl) ?_
    refine AW.ret ?_
    obtain rfl := Option.some.inj h
    exact Kn.r Fm [(4, vi z17)] [(0, .box false [.d (DL x11.l_), ci (x11.at_ + (1 : Int))])] (by kernel_rfl) (Kn.dn Fm (by kernel_rfl))
theorem keep_Tape_Rect_spec {F : Nat} {x27 : Tape} {x28 : Int} {r : Tape × Rect} (h : keep_Tape_Rect F x27 x28 = some r) :
    FSpec Tryz.prog 54 [.v (.c (.ptr 0 0)), vi x28] [(0, .box false (gC x27))] (gE r.2) [(0, .box false (gC r.1))] := by
  refine FSpec.intro prog_mixed prog_lay Tryz.func54 rfl (by kernel_rfl) fun C Fm => ?_
  unfold keep_Tape_Rect at h
  refine AW.sg0 Fm 1 [(0, .v (.c (.ptr 0 0))), (1, vi x28), (4, .v (.c (.ptr 4 0)))] [(0, .box false (gC x27)), (4, .box false [ci 0, ci 0, ci 0, ci 0])] (by kernel_rfl) ?_
  refine AW.seq ?_
  obtain ⟨z29, hz30, h⟩ := bd_some h
  obtain ⟨z31, hz32, h⟩ := bd_some h
  refine AW.g Fm [.s, .s, .k (cE [(0, 0)] [] (vi z29.2) [(0, .box false (gC x27))] [(0, .box false (gC z29.1))]), .s, .s, .k (cE [(0, 0)] [] (vi z31.2) [(0, .box false (gC z29.1))] [(0, .box false (gC z31.1))]), .s, .s] (fun K => K 2 ∧ K 5 ∧ True) [(0, .v (.c (.ptr 0 0))), (1, vi x28), (4, .v (.c (.ptr 4 0))), (5, vi z29.2), (6, vi z31.2)] [(0, .box false (gC z31.1)), (4, .box false [ci 0, ci 0, ci 0, ci 0])] ⟨KAt.cl (args := [.v (.c (.ptr 0 0)), vi x28]) (keep_Tape_Next_spec hz30) Tryz.call30 [(0, 0)] rfl (by kernel_rfl), KAt.cl (args := [.v (.c (.ptr 0 0)), vi x28]) (keep_Tape_Next_spec hz32) Tryz.call30 [(0, 0)] rfl (by kernel_rfl), True.intro⟩ (by kernel_rfl) ?_
  refine AW.seq ?_
  obtain ⟨hg33, h⟩ := gd_some h
  obtain ⟨hg34, h⟩ := gd_some h
  obtain ⟨z35, hz36, h⟩ := bd_some h
  obtain ⟨hg37, h⟩ := gd_some h
  obtain ⟨hg38, h⟩ := gd_some h
  obtain ⟨hg39, h⟩ := gd_some h
  obtain ⟨z40, hz41, h⟩ := bd_some h
  obtain ⟨hg42, h⟩ := gd_some h
  refine AW.g Fm [.s, .s, .s, .s, .s, .s, .s, .s, .k (cE [(0, 0)] [] (vi z35.2) [(0, .box false (gC z31.1))] [(0, .box false (gC z35.1))]), .s, .s, .s, .s, .s, .s, .s, .k (cE [(0, 0)] [] (vi z40.2) [(0, .box false (gC z35.1))] [(0, .box false (gC z40.1))]), .s, .s, .s] (fun K => (I64 (z29.2 + (1 : Int)) ∧ True) ∧ (I64 (x28 - z29.2) ∧ True) ∧ K 8 ∧ (I64 ((z29.2 + (1 : Int)) + z35.2) ∧ True) ∧ (I64 (z31.2 + (1 : Int)) ∧ True) ∧ (I64 (x28 - z31.2) ∧ True) ∧ K 16 ∧ (I64 ((z31.2 + (1 : Int)) + z40.2) ∧ True) ∧ True) [(4, .v (.c (.ptr 4 0)))] [(0, .box false (gC z40.1)), (4, .box false [ci z29.2, ci z31.2, ci ((z29.2 + (1 : Int)) + z35.2), ci ((z31.2 + (1 : Int)) + z40.2)])] ⟨⟨hg33, True.intro⟩, ⟨hg34, True.intro⟩, KAt.cl (args := [.v (.c (.ptr 0 0)), vi (x28 - z29.2)]) (keep_Tape_Next_spec hz36) Tryz.call30 [(0, 0)] rfl (by kernel_rfl), ⟨hg37, True.intro⟩, ⟨hg38, True.intro⟩, ⟨hg39, True.intro⟩, KAt.cl (args := [.v (.c (.ptr 0 0)), vi (x28 - z31.2)]) (keep_Tape_Next_spec hz41) Tryz.call30 [(0, 0)] rfl (by kernel_rfl), ⟨hg42, True.intro⟩, True.intro⟩ (by kernel_rfl) ?_
  refine AW.ret ?_
  obtain rfl := Option.some.inj h
  exact Kn.r Fm [(4, .v (.c (.ptr 4 0)))] [(0, .box false (gC z40.1)), (4, .box false [ci z29.2, ci z31.2, ci ((z29.2 + (1 : Int)) + z35.2), ci ((z31.2 + (1 : Int)) + z40.2)])] (by kernel_rfl) (Kn.dn Fm (by kernel_rfl))
theorem ref04_proper_spec {F : Nat} {x43 : Rect} {r : Bool} (h : ref04_proper F x43 = some r) :
    FSpec Tryz.prog 62 [gE x43] [] (vb r) [] := by
  refine FSpec.intro prog_mixed prog_lay Tryz.func62 rfl (by kernel_rfl) fun C Fm => ?_
  unfold ref04_proper at h
  refine AW.sg0 Fm 2 [(1, .v (.c (.ptr 1 0)))] [(1, .box false (gC x43))] (by kernel_rfl) ?_
  refine AW.join (r := r) (fun z : Bool => ref04_proper_k0 F z) (fun z => [(2, vb z)]) (fun z => []) (fun v49 h => ?_) (fun J50 hJ50 => ?_)
  · have h : ref04_proper_k0 F v49 = some r := h
    refine AW.ret ?_
    obtain rfl := Option.some.inj h
    exact Kn.r Fm [(2, vb v49)] [] (by kernel_rfl) (Kn.dn Fm (by kernel_rfl))
  · rcases Bool.eq_false_or_eq_true (decide ((0 : Int) ≤ x43.left_)) with hb44 | hb44
    · have h := br_t h hb44
      rcases Bool.eq_false_or_eq_true (decide (x43.left_ < x43.right_)) with hb45 | hb45
      · have h := br_t h hb45
        rcases Bool.eq_false_or_eq_true (decide (x43.right_ ≤ (16384 : Int))) with hb46 | hb46
        · have h := br_t h hb46
          rcases Bool.eq_false_or_eq_true (decide ((0 : Int) ≤ x43.low_)) with hb47 | hb47
          · have h := br_t h hb47
            rcases Bool.eq_false_or_eq_true (decide (x43.low_ < x43.high_)) with hb48 | hb48
            · have h := br_t h hb48
              refine AW.g Fm [.s, .s, .s, .w (vb true), .s, .s, .s, .s, .s, .s, .w (vb true), .s, .s, .s, .s, .w (vb true), .s, .s, .s, .s, .w (vb true), .s, .s, .s, .s, .s, .s, .w (vb true), .s, .s, .s, .s, .s] (fun K => (ALe (vb (decide ((0 : Int) ≤ x43.left_))) (vb true)) ∧ (ALe (vb (decide (x43.left_ < x43.right_))) (vb true)) ∧ (ALe (vb (decide (x43.right_ ≤ (16384 : Int)))) (vb true)) ∧ (ALe (vb (decide ((0 : Int) ≤ x43.low_))) (vb true)) ∧ (ALe (vb (decide (x43.low_ < x43.high_))) (vb true)) ∧ True) [(2, vb (decide (x43.high_ ≤ (16384 : Int))))] [] ⟨ALe.bool hb44, ALe.bool hb45, ALe.bool hb46, ALe.bool hb47, ALe.bool hb48, True.intro⟩ (by kernel_rfl) ?_
              exact Kn.r Fm [(2, vb (decide (x43.high_ ≤ (16384 : Int))))] [] (by kernel_rfl) (hJ50 (decide (x43.high_ ≤ (16384 : Int))) h)
            · have h := br_f h hb48
              refine AW.g Fm [.s, .s, .s, .w (vb true), .s, .s, .s, .s, .s, .s, .w (vb true), .s, .s, .s, .s, .w (vb true), .s, .s, .s, .s, .w (vb true), .s, .s, .s, .s, .s, .s, .w (vb false), .s, .s, .s, .s, .s] (fun K => (ALe (vb (decide ((0 : Int) ≤ x43.left_))) (vb true)) ∧ (ALe (vb (decide (x43.left_ < x43.right_))) (vb true)) ∧ (ALe (vb (decide (x43.right_ ≤ (16384 : Int)))) (vb true)) ∧ (ALe (vb (decide ((0 : Int) ≤ x43.low_))) (vb true)) ∧ (ALe (vb (decide (x43.low_ < x43.high_))) (vb false)) ∧ True) [(2, vb false)] [] ⟨ALe.bool hb44, ALe.bool hb45, ALe.bool hb46, ALe.bool hb47, ALe.bool hb48, True.intro⟩ (by kernel_rfl) ?_
              exact Kn.r Fm [(2, vb false)] [] (by kernel_rfl) (hJ50 false h)
          · have h := br_f h hb47
            refine AW.g Fm [.s, .s, .s, .w (vb true), .s, .s, .s, .s, .s, .s, .w (vb true), .s, .s, .s, .s, .w (vb true), .s, .s, .s, .s, .w (vb false), .s, .s, .s, .s, .s, .s, .s, .s, .s, .s, .s, .s] (fun K => (ALe (vb (decide ((0 : Int) ≤ x43.left_))) (vb true)) ∧ (ALe (vb (decide (x43.left_ < x43.right_))) (vb true)) ∧ (ALe (vb (decide (x43.right_ ≤ (16384 : Int)))) (vb true)) ∧ (ALe (vb (decide ((0 : Int) ≤ x43.low_))) (vb false)) ∧ True) [(2, vb false)] [] ⟨ALe.bool hb44, ALe.bool hb45, ALe.bool hb46, ALe.bool hb47, True.intro⟩ (by kernel_rfl) ?_
            exact Kn.r Fm [(2, vb false)] [] (by kernel_rfl) (hJ50 false h)
        · have h := br_f h hb46
          refine AW.g Fm [.s, .s, .s, .w (vb true), .s, .s, .s, .s, .s, .s, .w (vb true), .s, .s, .s, .s, .w (vb false), .s, .s, .s, .s, .s, .s, .s, .s, .s, .s, .s, .s, .s, .s, .s, .s, .s] (fun K => (ALe (vb (decide ((0 : Int) ≤ x43.left_))) (vb true)) ∧ (ALe (vb (decide (x43.left_ < x43.right_))) (vb true)) ∧ (ALe (vb (decide (x43.right_ ≤ (16384 : Int)))) (vb false)) ∧ True) [(2, vb false)] [] ⟨ALe.bool hb44, ALe.bool hb45, ALe.bool hb46, True.intro⟩ (by kernel_rfl) ?_
          exact Kn.r Fm [(2, vb false)] [] (by kernel_rfl) (hJ50 false h)
      · have h := br_f h hb45
        refine AW.g Fm [.s, .s, .s, .w (vb true), .s, .s, .s, .s, .s, .s, .w (vb false), .s, .s, .s, .s, .s, .s, .s, .s, .s, .s, .s, .s, .s, .s, .s, .s, .s, .s, .s, .s, .s, .s] (fun K => (ALe (vb (decide ((0 : Int) ≤ x43.left_))) (vb true)) ∧ (ALe (vb (decide (x43.left_ < x43.right_))) (vb false)) ∧ True) [(2, vb false)] [] ⟨ALe.bool hb44, ALe.bool hb45, True.intro⟩ (by kernel_rfl) ?_
        exact Kn.r Fm [(2, vb false)] [] (by kernel_rfl) (hJ50 false h)
    · have h := br_f h hb44
      refine AW.g Fm [.s, .s, .s, .w (vb false), .s, .s, .s, .s, .s, .s, .s, .s, .s, .s, .s, .s, .s, .s, .s, .s, .s, .s, .s, .s, .s, .s, .s, .s, .s, .s, .s, .s, .s] (fun K => (ALe (vb (decide ((0 : Int) ≤ x43.left_))) (vb false)) ∧ True) [(2, vb false)] [] ⟨ALe.bool hb44, True.intro⟩ (by kernel_rfl) ?_
      exact Kn.r Fm [(2, vb false)] [] (by kernel_rfl) (hJ50 false h)
theorem ref01_Put_spec {F : Nat} {x51 : (List Int)} {x52 : Int} {r : (List Int)} (h : ref01_Put F x51 x52 = some r) :
    FSpec Tryz.prog 120 [AL x51, vi x52] [] (AL (α := Int) r) [] := by
  refine FSpec.intro prog_mixed prog_lay Tryz.func120 rfl (by kernel_rfl) fun C Fm => ?_
  unfold ref01_Put at h
  refine AW.sg0 Fm 1 [(0, AL x51), (1, vi x52)] [] (by kernel_rfl) ?_
  refine AW.sg0 Fm 1 [(0, AL x51), (1, vi x52), (5, vi (0 : Int))] [] (by kernel_rfl) ?_
  refine AW.join (r := r) (fun z : Int => ref01_Put_k2 F x51 x52 z) (fun z => [(0, AL x51), (1, vi x52), (5, vi z)]) (fun z => []) (fun v68 h => ?_) (fun J69 hJ69 => ?_)
  · have h : ref01_Put_k2 F x51 x52 v68 = some r := h
    refine AW.seq ?_
    refine AW.join (r := r) (fun z : Bool => ref01_Put_k3 F x51 x52 v68 z) (fun z => [(0, AL x51), (1, vi x52), (5, vi v68), (31, vb z)]) (fun z => []) (fun v72 h => ?_) (fun J73 hJ73 => ?_)
    · have h : ref01_Put_k3 F x51 x52 v68 v72 = some r := h
      refine AW.cond (b := v72) (by kernel_rfl) (fun hb74 => ?_) (fun hb74 => ?_)
      · have h := br_t h hb74
        refine AW.sg0 Fm 2 [(4, AL x51)] [] (by kernel_rfl) ?_
        refine AW.ret ?_
        obtain rfl := Option.some.inj h
        exact Kn.r Fm [(4, AL x51)] [] (by kernel_rfl) (Kn.dn Fm (by kernel_rfl))
      · have h := br_f h hb74
        refine AW.skip ?_
        obtain ⟨hg75, h⟩ := gd_some h
        obtain ⟨hg76, h⟩ := gd_some h
        obtain ⟨hg77, h⟩ := gd_some h
        obtain ⟨hg78, h⟩ := gd_some h
        obtain ⟨hg79, h⟩ := gd_some h
        refine AW.sg Fm [.m, .s, .s, .w (AL (α := Int) (x51.take v68.toNat)), .s, .s, .w (AL (α := Int) ([x52] : List Int)), .s, .s, .s, .w (AL (α := Int) (x51.drop v68.toNat)), .s, .s] (fun K => (((sl (List.length x51) (LF x51) none (some v68)).2 ∧ ∀ j, j < List.length x51 → (LF x51 j).length = 1)) ∧ (ALe (.v (.c (.d (.lst (sl (List.length x51) (LF x51) none (some v68)).1.1 (sl (List.length x51) (LF x51) none (some v68)).1.2)))) (AL (α := Int) (x51.take v68.toNat))) ∧ ((0) + (List.length (α := Int) (x51.take v68.toNat)) ≤ LIM ∧ (∀ j, j < List.length (α := Int) (x51.take v68.toNat) → ((LF (α := Int) (x51.take v68.toNat)) j).length = 1) ∧ (True)) ∧ (ALe (.v (.c (.d (.lst 1 (litF 1 [.int .i64 x52]))))) (AL (α := Int) ([x52] : List Int))) ∧ (((0) + (List.length (α := Int) (x51.take v68.toNat))) + (List.length (α := Int) ([x52] : List Int)) ≤ LIM ∧ (∀ j, j < List.length (α := Int) ([x52] : List Int) → ((LF (α := Int) ([x52] : List Int)) j).length = 1) ∧ (True)) ∧ (((sl (List.length x51) (LF x51) (some v68) none).2 ∧ ∀ j, j < List.length x51 → (LF x51 j).length = 1)) ∧ (ALe (.v (.c (.d (.lst (sl (List.length x51) (LF x51) (some v68) none).1.1 (sl (List.length x51) (LF x51) (some v68) none).1.2)))) (AL (α := Int) (x51.drop v68.toNat))) ∧ ((((0) + (List.length (α := Int) (x51.take v68.toNat))) + (List.length (α := Int) ([x52] : List Int))) + (List.length (α := Int) (x51.drop v68.toNat)) ≤ LIM ∧ (∀ j, j < List.length (α := Int) (x51.drop v68.toNat) → ((LF (α := Int) (x51.drop v68.toNat)) j).length = 1) ∧ (True)) ∧ True) [(4, .v (.c (.own 44)))] [(44, .arr 1 ((((0) + (List.length (α := Int) (x51.take v68.toNat))) + (List.length (α := Int) ([x52] : List Int))) + (List.length (α := Int) (x51.drop v68.toNat))) (appF (((0) + (List.length (α := Int) (x51.take v68.toNat))) + (List.length (α := Int) ([x52] : List Int))) (appF ((0) + (List.length (α := Int) (x51.take v68.toNat))) (appF (0) (litF 1 []) (LF (α := Int) (x51.take v68.toNat))) (LF (α := Int) ([x52] : List Int))) (LF (α := Int) (x51.drop v68.toNat))))] ⟨⟨hg75, (Is.refl x51).len⟩, ALe.lst (sl_is x51 none (some v68) hg75), ⟨hg76, (Is.refl (x51.take v68.toNat) : Is (List.length (α := Int) (x51.take v68.toNat)) (LF (α := Int) (x51.take v68.toNat)) (x51.take v68.toNat)).len, True.intro⟩, ALe.lst (.lit ([x52] : List Int) (by kernel_rfl)), ⟨hg77, (Is.refl ([x52] : List Int) : Is (List.length (α := Int) ([x52] : List Int)) (LF (α := Int) ([x52] : List Int)) ([x52] : List Int)).len, True.intro⟩, ⟨hg78, (Is.refl x51).len⟩, ALe.lst (sl_is x51 (some v68) none hg78), ⟨hg79, (Is.refl (x51.drop v68.toNat) : Is (List.length (α := Int) (x51.drop v68.toNat)) (LF (α := Int) (x51.drop v68.toNat)) (x51.drop v68.toNat)).len, True.intro⟩, True.intro⟩ (by kernel_rfl) ?_
        refine Kn.wk [(4, .v (.c (.own 44)))] [(44, AO (α := Int) (((([] : List Int) ++ (x51.take v68.toNat)) ++ ([x52] : List Int)) ++ (x51.drop v68.toNat)))] (FE.refl _) (⟨rfl, OLe.is (Is.app (Is.app (Is.app (Is.lit ([] : List Int) (by kernel_rfl)) (Is.refl (x51.take v68.toNat))) (Is.refl ([x52] : List Int))) (Is.refl (x51.drop v68.toNat))), True.intro⟩) ?_
        refine AW.ret ?_
        obtain rfl := Option.some.inj h
        refine Kn.r Fm [(4, .v (.c (.own 44)))] [(44, AO (α := Int) (((([] : List Int) ++ (x51.take v68.toNat)) ++ ([x52] : List Int)) ++ (x51.drop v68.toNat)))] (by kernel_rfl) ?_
        refine Kn.frz [(4, AL (α := Int) (((([] : List Int) ++ (x51.take v68.toNat)) ++ ([x52] : List Int)) ++ (x51.drop v68.toNat)))] [] (by kernel_rfl) (by kernel_rfl) (by kernel_rfl) ?_
        exact Kn.r Fm [(4, AL (α := Int) (((([] : List Int) ++ (x51.take v68.toNat)) ++ ([x52] : List Int)) ++ (x51.drop v68.toNat)))] [] (by kernel_rfl) (Kn.dn Fm (by kernel_rfl))
    · rcases Bool.eq_false_or_eq_true (decide (v68 < ((List.length x51 : Nat) : Int))) with hb70 | hb70
      · have h := br_t h hb70
        obtain ⟨hg71, h⟩ := gd_some h
        refine AW.g Fm [.s, .s, .s, .s, .w (vb true), .s, .s, .s, .s, .s, .s, .s] (fun K => (ALe (vb (decide (v68 < ((List.length x51 : Nat) : Int)))) (vb true)) ∧ (0 ≤ v68 ∧ v68 < ((List.length x51 : Nat) : Int)) ∧ True) [(0, AL x51), (1, vi x52), (5, vi v68), (31, vb ((gl x51 v68.toNat) == x52))] [] ⟨ALe.bool hb70, hg71, True.intro⟩ (by kernel_rfl) ?_
        exact Kn.r Fm [(0, AL x51), (1, vi x52), (5, vi v68), (31, vb ((gl x51 v68.toNat) == x52))] [] (by kernel_rfl) (hJ73 ((gl x51 v68.toNat) == x52) h)
      · have h := br_f h hb70
        refine AW.g Fm [.s, .s, .s, .s, .w (vb false), .s, .s, .s, .s, .s, .s, .s] (fun K => (ALe (vb (decide (v68 < ((List.length x51 : Nat) : Int)))) (vb false)) ∧ True) [(0, AL x51), (1, vi x52), (5, vi v68), (31, vb false)] [] ⟨ALe.bool hb70, True.intro⟩ (by kernel_rfl) ?_
        exact Kn.r Fm [(0, AL x51), (1, vi x52), (5, vi v68), (31, vb false)] [] (by kernel_rfl) (hJ73 false h)
  · refine AW.block ?_
    refine Kn.r Fm [(0, AL x51), (1, vi x52), (5, vi (0 : Int))] [] (by kernel_rfl) ?_
    have h : loopN (fun again (z : Int) => ref01_Put_b0 F x51 x52 again z) F (0 : Int) = some r := h
    refine AW.loopF (E' := fun z => [(0, AL x51), (1, vi x52), (5, vi z)]) (S' := fun z => []) (fun ag_ref01_Put_b0 v60 J61 hJ61 h => ?_) h
    have h : ref01_Put_b0 F x51 x52 ag_ref01_Put_b0 v60 = some r := h
    refine AW.seq ?_
    refine AW.join (r := r) (fun z : Bool => ref01_Put_k1 F x51 x52 v60 ag_ref01_Put_b0 z) (fun z => [(0, AL x51), (1, vi x52), (5, vi v60), (17, vb z)]) (fun z => []) (fun v64 h => ?_) (fun J65 hJ65 => ?_)
    · have h : ref01_Put_k1 F x51 x52 v60 ag_ref01_Put_b0 v64 = some r := h
      refine AW.cond (b := v64) (by kernel_rfl) (fun hb66 => ?_) (fun hb66 => ?_)
      · have h := br_t h hb66
        refine AW.skip ?_
        refine AW.block ?_
        obtain ⟨hg67, h⟩ := gd_some h
        refine AW.g Fm [.s, .s, .s] (fun K => (I64 (v60 + (1 : Int)) ∧ True) ∧ True) [(0, AL x51), (1, vi x52), (5, vi (v60 + (1 : Int)))] [] ⟨⟨hg67, True.intro⟩, True.intro⟩ (by kernel_rfl) ?_
        exact Kn.r Fm [(0, AL x51), (1, vi x52), (5, vi (v60 + (1 : Int)))] [] (by kernel_rfl) (hJ61 (v60 + (1 : Int)) h)
      · have h := br_f h hb66
        refine AW.exit ?_
        exact Kn.r Fm [(0, AL x51), (1, vi x52), (5, vi v60)] [] (by kernel_rfl) (hJ69 v60 h)
    · rcases Bool.eq_false_or_eq_true (decide (v60 < ((List.length x51 : Nat) : Int))) with hb62 | hb62
      · have h := br_t h hb62
        obtain ⟨hg63, h⟩ := gd_some h
        refine AW.g Fm [.s, .s, .s, .s, .w (vb true), .s, .s, .s, .s, .s, .s, .s] (fun K => (ALe (vb (decide (v60 < ((List.length x51 : Nat) : Int)))) (vb true)) ∧ (0 ≤ v60 ∧ v60 < ((List.length x51 : Nat) : Int)) ∧ True) [(0, AL x51), (1, vi x52), (5, vi v60), (11, AL x51), (12, vi v60), (13, .v (.c (.elm [.int .i64 (gl x51 v60.toNat)]))), (14, vi (gl x51 v60.toNat)), (15, vi x52), (16, vb (decide ((gl x51 v60.toNat) < x52))), (17, vb (decide ((gl x51 v60.toNat) < x52)))] [] ⟨ALe.bool hb62, hg63, True.intro⟩ (by kernel_rfl) ?_
        exact Kn.r Fm [(0, AL x51), (1, vi x52), (5, vi v60), (17, vb (decide ((gl x51 v60.toNat) < x52)))] [] (by kernel_rfl) (hJ65 (decide ((gl x51 v60.toNat) < x52)) h)
      · have h := br_f h hb62
        refine AW.g Fm [.s, .s, .s, .s, .w (vb false), .s, .s, .s, .s, .s, .s, .s] (fun K => (ALe (vb (decide (v60 < ((List.length x51 : Nat) : Int)))) (vb false)) ∧ True) [(0, AL x51), (1, vi x52), (5, vi v60), (17, vb false)] [] ⟨ALe.bool hb62, True.intro⟩ (by kernel_rfl) ?_
        exact Kn.r Fm [(0, AL x51), (1, vi x52), (5, vi v60), (17, vb false)] [] (by kernel_rfl) (hJ65 false h)
theorem ref04_inside_spec {F : Nat} {x80 : (List Rect)} {x81 : Int} {x82 : Int} {r : Bool} (h : ref04_inside F x80 x81 x82 = some r) :
    FSpec Tryz.prog 77 [AL x80, vi x81, vi x82] [] (vb r) [] := by
  refine FSpec.intro prog_mixed prog_lay Tryz.func77 rfl (by kernel_rfl) fun C Fm => ?_
  unfold ref04_inside at h
  refine AW.sg0 Fm 1 [(0, AL x80), (1, vi x81), (2, vi x82)] [] (by kernel_rfl) ?_
  refine AW.join (r := r) (fun z : Unit => ref04_inside_k2 F) (fun z => []) (fun z => []) (fun z h => ?_) (fun J104 hJ104 => ?_)
  · have h : ref04_inside_k2 F = some r := h
    refine AW.sg0 Fm 1 [(6, vb false)] [] (by kernel_rfl) ?_
    refine AW.ret ?_
    obtain rfl := Option.some.inj h
    exact Kn.r Fm [(6, vb false)] [] (by kernel_rfl) (Kn.dn Fm (by kernel_rfl))
  · refine AW.sg0 Fm 3 [(1, vi x81), (2, vi x82), (9, AL x80), (10, vi ((List.length x80 : Nat) : Int)), (11, vi (0 : Int))] [] (by kernel_rfl) ?_
    refine AW.block ?_
    refine Kn.r Fm [(1, vi x81), (2, vi x82), (9, AL x80), (10, vi ((List.length x80 : Nat) : Int)), (11, vi (0 : Int))] [] (by kernel_rfl) ?_
    have h : loopN (fun again (z : Int) => ref04_inside_b0 F x80 x81 x82 again z) F (0 : Int) = some r := h
    refine AW.loopF (E' := fun z => [(1, vi x81), (2, vi x82), (9, AL x80), (10, vi ((List.length x80 : Nat) : Int)), (11, vi z)]) (S' := fun z => []) (fun ag_ref04_inside_b0 v93 J94 hJ94 h => ?_) h
    have h : ref04_inside_b0 F x80 x81 x82 ag_ref04_inside_b0 v93 = some r := h
    refine AW.sg0 Fm 1 [(1, vi x81), (2, vi x82), (9, AL x80), (10, vi ((List.length x80 : Nat) : Int)), (11, vi v93), (12, vb (decide (v93 < ((List.length x80 : Nat) : Int))))] [] (by kernel_rfl) ?_
    refine AW.seq ?_
    refine AW.cond (b := (decide (v93 < ((List.length x80 : Nat) : Int)))) (by kernel_rfl) (fun hb95 => ?_) (fun hb95 => ?_)
    · have h := br_t h hb95
      refine AW.skip ?_
      refine AW.seq ?_
      refine AW.block ?_
      obtain ⟨hg96, h⟩ := gd_some h
      refine AW.sg Fm [.s, .s, .s, .s] (fun K => (0 ≤ v93 ∧ v93 < ((List.length x80 : Nat) : Int)) ∧ True) [(1, vi x81), (2, vi x82), (8, .v (.c (.ptr 8 0))), (9, AL x80), (10, vi ((List.length x80 : Nat) : Int)), (11, vi v93)] [(8, .box false [ci ((gl x80 v93.toNat).left_), ci ((gl x80 v93.toNat).low_), ci ((gl x80 v93.toNat).right_), ci ((gl x80 v93.toNat).high_)])] ⟨hg96, True.intro⟩ (by kernel_rfl) ?_
      refine AW.join (r := r) (fun z : Bool => ref04_inside_k1 F v93 ag_ref04_inside_b0 z) (fun z => [(1, vi x81), (2, vi x82), (9, AL x80), (10, vi ((List.length x80 : Nat) : Int)), (11, vi v93), (36, vb z)]) (fun z => []) (fun v100 h => ?_) (fun J101 hJ101 => ?_)
      · have h : ref04_inside_k1 F v93 ag_ref04_inside_b0 v100 = some r := h
        refine AW.cond (b := v100) (by kernel_rfl) (fun hb102 => ?_) (fun hb102 => ?_)
        · have h := br_t h hb102
          refine AW.sg0 Fm 1 [(6, vb true)] [] (by kernel_rfl) ?_
          refine AW.ret ?_
          obtain rfl := Option.some.inj h
          exact Kn.r Fm [(6, vb true)] [] (by kernel_rfl) (Kn.dn Fm (by kernel_rfl))
        · have h := br_f h hb102
          refine AW.skip ?_
          obtain ⟨hg103, h⟩ := gd_some h
          refine AW.g Fm [.s, .s] (fun K => (I64 (v93 + (1 : Int)) ∧ True) ∧ True) [(1, vi x81), (2, vi x82), (9, AL x80), (10, vi ((List.length x80 : Nat) : Int)), (11, vi (v93 + (1 : Int)))] [] ⟨⟨hg103, True.intro⟩, True.intro⟩ (by kernel_rfl) ?_
          exact Kn.r Fm [(1, vi x81), (2, vi x82), (9, AL x80), (10, vi ((List.length x80 : Nat) : Int)), (11, vi (v93 + (1 : Int)))] [] (by kernel_rfl) (hJ94 (v93 + (1 : Int)) h)
      · rcases Bool.eq_false_or_eq_true (decide (((gl x80 v93.toNat).left_) ≤ x81)) with hb97 | hb97
        · have h := br_t h hb97
          rcases Bool.eq_false_or_eq_true (decide (x81 < ((gl x80 v93.toNat).right_))) with hb98 | hb98
          · have h := br_t h hb98
            rcases Bool.eq_false_or_eq_true (decide (((gl x80 v93.toNat).low_) ≤ x82)) with hb99 | hb99
            · have h := br_t h hb99
              refine AW.g Fm [.s, .s, .s, .s, .w (vb true), .s, .s, .s, .s, .s, .w (vb true), .s, .s, .s, .s, .s, .w (vb true), .s, .s, .s, .s, .s] (fun K => (ALe (vb (decide (((gl x80 v93.toNat).left_) ≤ x81))) (vb true)) ∧ (ALe (vb (decide (x81 < ((gl x80 v93.toNat).right_)))) (vb true)) ∧ (ALe (vb (decide (((gl x80 v93.toNat).low_) ≤ x82))) (vb true)) ∧ True) [(1, vi x81), (2, vi x82), (9, AL x80), (10, vi ((List.length x80 : Nat) : Int)), (11, vi v93), (20, vi x81), (21, .v (.c (.ptr 8 2))), (22, vi (gl x80 v93.toNat).right_), (23, vb (decide (x81 < ((gl x80 v93.toNat).right_)))), (26, .v (.c (.ptr 8 1))), (27, vi (gl x80 v93.toNat).low_), (28, vi x82), (29, vb (decide (((gl x80 v93.toNat).low_) ≤ x82))), (32, vi x82), (33, .v (.c (.ptr 8 3))), (34, vi (gl x80 v93.toNat).high_), (35, vb (decide (x82 < ((gl x80 v93.toNat).high_)))), (36, vb (decide (x82 < ((gl x80 v93.toNat).high_))))] [(8, .box false [ci ((gl x80 v93.toNat).left_), ci ((gl x80 v93.toNat).low_), ci ((gl x80 v93.toNat).right_), ci ((gl x80 v93.toNat).high_)])] ⟨ALe.bool hb97, ALe.bool hb98, ALe.bool hb99, True.intro⟩ (by kernel_rfl) ?_
              exact Kn.r Fm [(1, vi x81), (2, vi x82), (9, AL x80), (10, vi ((List.length x80 : Nat) : Int)), (11, vi v93), (36, vb (decide (x82 < ((gl x80 v93.toNat).high_))))] [] (by kernel_rfl) (hJ101 (decide (x82 < ((gl x80 v93.toNat).high_))) h)
            · have h := br_f h hb99
              refine AW.g Fm [.s, .s, .s, .s, .w (vb true), .s, .s, .s, .s, .s, .w (vb true), .s, .s, .s, .s, .s, .w (vb false), .s, .s, .s, .s, .s] (fun K => (ALe (vb (decide (((gl x80 v93.toNat).left_) ≤ x81))) (vb true)) ∧ (ALe (vb (decide (x81 < ((gl x80 v93.toNat).right_)))) (vb true)) ∧ (ALe (vb (decide (((gl x80 v93.toNat).low_) ≤ x82))) (vb false)) ∧ True) [(1, vi x81), (2, vi x82), (9, AL x80), (10, vi ((List.length x80 : Nat) : Int)), (11, vi v93), (20, vi x81), (21, .v (.c (.ptr 8 2))), (22, vi (gl x80 v93.toNat).right_), (23, vb (decide (x81 < ((gl x80 v93.toNat).right_)))), (26, .v (.c (.ptr 8 1))), (27, vi (gl x80 v93.toNat).low_), (28, vi x82), (29, vb (decide (((gl x80 v93.toNat).low_) ≤ x82))), (36, vb false)] [(8, .box false [ci ((gl x80 v93.toNat).left_), ci ((gl x80 v93.toNat).low_), ci ((gl x80 v93.toNat).right_), ci ((gl x80 v93.toNat).high_)])] ⟨ALe.bool hb97, ALe.bool hb98, ALe.bool hb99, True.intro⟩ (by kernel_rfl) ?_
              exact Kn.r Fm [(1, vi x81), (2, vi x82), (9, AL x80), (10, vi ((List.length x80 : Nat) : Int)), (11, vi v93), (36, vb false)] [] (by kernel_rfl) (hJ101 false h)
          · have h := br_f h hb98
            refine AW.g Fm [.s, .s, .s, .s, .w (vb true), .s, .s, .s, .s, .s, .w (vb false), .s, .s, .s, .s, .s, .s, .s, .s, .s, .s, .s] (fun K => (ALe (vb (decide (((gl x80 v93.toNat).left_) ≤ x81))) (vb true)) ∧ (ALe (vb (decide (x81 < ((gl x80 v93.toNat).right_)))) (vb false)) ∧ True) [(1, vi x81), (2, vi x82), (9, AL x80), (10, vi ((List.length x80 : Nat) : Int)), (11, vi v93), (20, vi x81), (21, .v (.c (.ptr 8 2))), (22, vi (gl x80 v93.toNat).right_), (23, vb (decide (x81 < ((gl x80 v93.toNat).right_)))), (36, vb false)] [(8, .box false [ci ((gl x80 v93.toNat).left_), ci ((gl x80 v93.toNat).low_), ci ((gl x80 v93.toNat).right_), ci ((gl x80 v93.toNat).high_)])] ⟨ALe.bool hb97, ALe.bool hb98, True.intro⟩ (by kernel_rfl) ?_
            exact Kn.r Fm [(1, vi x81), (2, vi x82), (9, AL x80), (10, vi ((List.length x80 : Nat) : Int)), (11, vi v93), (36, vb false)] [] (by kernel_rfl) (hJ101 false h)
        · have h := br_f h hb97
          refine AW.g Fm [.s, .s, .s, .s, .w (vb false), .s, .s, .s, .s, .s, .s, .s, .s, .s, .s, .s, .s, .s, .s, .s, .s, .s] (fun K => (ALe (vb (decide (((gl x80 v93.toNat).left_) ≤ x81))) (vb false)) ∧ True) [(1, vi x81), (2, vi x82), (9, AL x80), (10, vi ((List.length x80 : Nat) : Int)), (11, vi v93), (36, vb false)] [] ⟨ALe.bool hb97, True.intro⟩ (by kernel_rfl) ?_
          exact Kn.r Fm [(1, vi x81), (2, vi x82), (9, AL x80), (10, vi ((List.length x80 : Nat) : Int)), (11, vi v93), (36, vb false)] [] (by kernel_rfl) (hJ101 false h)
    · have h := br_f h hb95
      refine AW.exit ?_
      exact Kn.r Fm [] [] (by kernel_rfl) (hJ104 () h)
theorem ref04_keep_spec {F : Nat} {x105 : Bool} {x106 : Bool} {x107 : Int} {r : Bool} (h : ref04_keep F x105 x106 x107 = some r) :
    FSpec Tryz.prog 121 [vb x105, vb x106, vi x107] [] (vb r) [] := by
  refine FSpec.intro prog_mixed prog_lay Tryz.func121 rfl (by kernel_rfl) fun C Fm => ?_
  unfold ref04_keep at h
  refine AW.sg0 Fm 1 [(0, vb x105), (1, vb x106), (2, vi x107)] [] (by kernel_rfl) ?_
  refine AW.seq ?_
  refine AW.sg0 Fm 1 [(0, vb x105), (1, vb x106), (7, vi x107)] [] (by kernel_rfl) ?_
  refine AW.block ?_
  refine AW.sg0 Fm 2 [(0, vb x105), (1, vb x106), (7, vi x107), (8, vb (x107 == (1 : Int)))] [] (by kernel_rfl) ?_
  refine AW.cond (b := (x107 == (1 : Int))) (by kernel_rfl) (fun hb108 => ?_) (fun hb108 => ?_)
  · have h := br_t h hb108
    refine AW.join (r := r) (fun z : Bool => ref04_keep_k0 F z) (fun z => [(6, vb z)]) (fun z => []) (fun v110 h => ?_) (fun J111 hJ111 => ?_)
    · have h : ref04_keep_k0 F v110 = some r := h
      refine AW.ret ?_
      obtain rfl := Option.some.inj h
      exact Kn.r Fm [(6, vb v110)] [] (by kernel_rfl) (Kn.dn Fm (by kernel_rfl))
    · rcases Bool.eq_false_or_eq_true x105 with hb109 | hb109
      · have h := br_t h hb109
        refine AW.g Fm [.s, .w (vb true), .s, .s, .s] (fun K => (ALe (vb x105) (vb true)) ∧ True) [(6, vb true)] [] ⟨ALe.bool hb109, True.intro⟩ (by kernel_rfl) ?_
        exact Kn.r Fm [(6, vb true)] [] (by kernel_rfl) (hJ111 true h)
      · have h := br_f h hb109
        refine AW.g Fm [.s, .w (vb false), .s, .s, .s] (fun K => (ALe (vb x105) (vb false)) ∧ True) [(6, vb x106)] [] ⟨ALe.bool hb109, True.intro⟩ (by kernel_rfl) ?_
        exact Kn.r Fm [(6, vb x106)] [] (by kernel_rfl) (hJ111 x106 h)
  · have h := br_f h hb108
    refine AW.sg0 Fm 2 [(0, vb x105), (1, vb x106), (14, vb (x107 == (2 : Int)))] [] (by kernel_rfl) ?_
    refine AW.cond (b := (x107 == (2 : Int))) (by kernel_rfl) (fun hb112 => ?_) (fun hb112 => ?_)
    · have h := br_t h hb112
      refine AW.join (r := r) (fun z : Bool => ref04_keep_k1 F z) (fun z => [(6, vb z)]) (fun z => []) (fun v114 h => ?_) (fun J115 hJ115 => ?_)
      · have h : ref04_keep_k1 F v114 = some r := h
        refine AW.ret ?_
        obtain rfl := Option.some.inj h
        exact Kn.r Fm [(6, vb v114)] [] (by kernel_rfl) (Kn.dn Fm (by kernel_rfl))
      · rcases Bool.eq_false_or_eq_true x105 with hb113 | hb113
        · have h := br_t h hb113
          refine AW.g Fm [.s, .w (vb true), .s, .s, .s] (fun K => (ALe (vb x105) (vb true)) ∧ True) [(6, vb x106)] [] ⟨ALe.bool hb113, True.intro⟩ (by kernel_rfl) ?_
          exact Kn.r Fm [(6, vb x106)] [] (by kernel_rfl) (hJ115 x106 h)
        · have h := br_f h hb113
          refine AW.g Fm [.s, .w (vb false), .s, .s, .s] (fun K => (ALe (vb x105) (vb false)) ∧ True) [(6, vb false)] [] ⟨ALe.bool hb113, True.intro⟩ (by kernel_rfl) ?_
          exact Kn.r Fm [(6, vb false)] [] (by kernel_rfl) (hJ115 false h)
    · have h := br_f h hb112
      refine AW.skip ?_
      refine AW.join (r := r) (fun z : Bool => ref04_keep_k2 F z) (fun z => [(6, vb z)]) (fun z => []) (fun v117 h => ?_) (fun J118 hJ118 => ?_)
      · have h : ref04_keep_k2 F v117 = some r := h
        refine AW.ret ?_
        obtain rfl := Option.some.inj h
        exact Kn.r Fm [(6, vb v117)] [] (by kernel_rfl) (Kn.dn Fm (by kernel_rfl))
      · rcases Bool.eq_false_or_eq_true x105 with hb116 | hb116
        · have h := br_t h hb116
          refine AW.g Fm [.s, .w (vb true), .s, .s, .s, .s] (fun K => (ALe (vb x105) (vb true)) ∧ True) [(6, vb (!x106))] [] ⟨ALe.bool hb116, True.intro⟩ (by kernel_rfl) ?_
          exact Kn.r Fm [(6, vb (!x106))] [] (by kernel_rfl) (hJ118 (!x106) h)
        · have h := br_f h hb116
          refine AW.g Fm [.s, .w (vb false), .s, .s, .s, .s] (fun K => (ALe (vb x105) (vb false)) ∧ True) [(6, vb false)] [] ⟨ALe.bool hb116, True.intro⟩ (by kernel_rfl) ?_
          exact Kn.r Fm [(6, vb false)] [] (by kernel_rfl) (hJ118 false h)
theorem ref04_same_spec {F : Nat} {x119 : (List Rect)} {x120 : (List Rect)} {r : Bool} (h : ref04_same F x119 x120 = some r) :
    FSpec Tryz.prog 122 [AL x119, AL x120] [] (vb r) [] := by
  refine FSpec.intro prog_mixed prog_lay Tryz.func122 rfl (by kernel_rfl) fun C Fm => ?_
  unfold ref04_same at h
  refine AW.sg0 Fm 1 [(0, AL x119), (1, AL x120)] [] (by kernel_rfl) ?_
  refine AW.seq ?_
  refine AW.sg0 Fm 5 [(0, AL x119), (1, AL x120), (10, vb (((List.length x119 : Nat) : Int) != ((List.length x120 : Nat) : Int)))] [] (by kernel_rfl) ?_
  refine AW.cond (b := (((List.length x119 : Nat) : Int) != ((List.length x120 : Nat) : Int))) (by kernel_rfl) (fun hb121 => ?_) (fun hb121 => ?_)
  · have h := br_t h hb121
    refine AW.sg0 Fm 1 [(4, vb false)] [] (by kernel_rfl) ?_
    refine AW.ret ?_
    obtain rfl := Option.some.inj h
    exact Kn.r Fm [(4, vb false)] [] (by kernel_rfl) (Kn.dn Fm (by kernel_rfl))
  · have h := br_f h hb121
    refine AW.skip ?_
    refine AW.join (r := r) (fun z : Unit => ref04_same_k2 F) (fun z => []) (fun z => []) (fun z h => ?_) (fun J145 hJ145 => ?_)
    · have h : ref04_same_k2 F = some r := h
      refine AW.sg0 Fm 1 [(4, vb true)] [] (by kernel_rfl) ?_
      refine AW.ret ?_
      obtain rfl := Option.some.inj h
      exact Kn.r Fm [(4, vb true)] [] (by kernel_rfl) (Kn.dn Fm (by kernel_rfl))
    · refine AW.sg0 Fm 3 [(0, AL x119), (1, AL x120), (12, vi ((List.length x119 : Nat) : Int)), (13, vi (0 : Int))] [] (by kernel_rfl) ?_
      refine AW.block ?_
      refine Kn.r Fm [(0, AL x119), (1, AL x120), (12, vi ((List.length x119 : Nat) : Int)), (13, vi (0 : Int))] [] (by kernel_rfl) ?_
      have h : loopN (fun again (z : Int) => ref04_same_b0 F x119 x120 again z) F (0 : Int) = some r := h
      refine AW.loopF (E' := fun z => [(0, AL x119), (1, AL x120), (12, vi ((List.length x119 : Nat) : Int)), (13, vi z)]) (S' := fun z => []) (fun ag_ref04_same_b0 v133 J134 hJ134 h => ?_) h
      have h : ref04_same_b0 F x119 x120 ag_ref04_same_b0 v133 = some r := h
      refine AW.sg0 Fm 1 [(0, AL x119), (1, AL x120), (12, vi ((List.length x119 : Nat) : Int)), (13, vi v133), (14, vb (decide (v133 < ((List.length x119 : Nat) : Int))))] [] (by kernel_rfl) ?_
      refine AW.seq ?_
      refine AW.cond (b := (decide (v133 < ((List.length x119 : Nat) : Int)))) (by kernel_rfl) (fun hb135 => ?_) (fun hb135 => ?_)
      · have h := br_t h hb135
        refine AW.skip ?_
        refine AW.seq ?_
        refine AW.block ?_
        refine AW.sg0 Fm 2 [(0, AL x119), (1, AL x120), (5, vi v133), (12, vi ((List.length x119 : Nat) : Int)), (13, vi v133)] [] (by kernel_rfl) ?_
        refine AW.join (r := r) (fun z : Bool => ref04_same_k1 F v133 ag_ref04_same_b0 z) (fun z => [(0, AL x119), (1, AL x120), (12, vi ((List.length x119 : Nat) : Int)), (13, vi v133), (39, vb z)]) (fun z => []) (fun v141 h => ?_) (fun J142 hJ142 => ?_)
        · have h : ref04_same_k1 F v133 ag_ref04_same_b0 v141 = some r := h
          refine AW.cond (b := v141) (by kernel_rfl) (fun hb143 => ?_) (fun hb143 => ?_)
          · have h := br_t h hb143
            refine AW.sg0 Fm 1 [(4, vb false)] [] (by kernel_rfl) ?_
            refine AW.ret ?_
            obtain rfl := Option.some.inj h
            exact Kn.r Fm [(4, vb false)] [] (by kernel_rfl) (Kn.dn Fm (by kernel_rfl))
          · have h := br_f h hb143
            refine AW.skip ?_
            obtain ⟨hg144, h⟩ := gd_some h
            refine AW.g Fm [.s, .s] (fun K => (I64 (v133 + (1 : Int)) ∧ True) ∧ True) [(0, AL x119), (1, AL x120), (12, vi ((List.length x119 : Nat) : Int)), (13, vi (v133 + (1 : Int)))] [] ⟨⟨hg144, True.intro⟩, True.intro⟩ (by kernel_rfl) ?_
            exact Kn.r Fm [(0, AL x119), (1, AL x120), (12, vi ((List.length x119 : Nat) : Int)), (13, vi (v133 + (1 : Int)))] [] (by kernel_rfl) (hJ134 (v133 + (1 : Int)) h)
        · obtain ⟨hg136, h⟩ := gd_some h
          obtain ⟨hg137, h⟩ := gd_some h
          rcases Bool.eq_false_or_eq_true (((gl x119 v133.toNat).left_) != ((gl x120 v133.toNat).left_)) with hb138 | hb138
          · have h := br_t h hb138
            refine AW.g Fm [.s, .s, .s, .s, .s, .s, .s, .s, .s, .s, .s, .w (vb true), .s, .s, .s, .s, .s, .s, .s, .s, .s, .s, .s, .s] (fun K => (0 ≤ v133 ∧ v133 < ((List.length x119 : Nat) : Int)) ∧ (0 ≤ v133 ∧ v133 < ((List.length x120 : Nat) : Int)) ∧ (ALe (vb (((gl x119 v133.toNat).left_) != ((gl x120 v133.toNat).left_))) (vb true)) ∧ True) [(0, AL x119), (1, AL x120), (12, vi ((List.length x119 : Nat) : Int)), (13, vi v133), (39, vb true)] [] ⟨hg136, hg137, ALe.bool hb138, True.intro⟩ (by kernel_rfl) ?_
            exact Kn.r Fm [(0, AL x119), (1, AL x120), (12, vi ((List.length x119 : Nat) : Int)), (13, vi v133), (39, vb true)] [] (by kernel_rfl) (hJ142 true h)
          · have h := br_f h hb138
            obtain ⟨hg139, h⟩ := gd_some h
            obtain ⟨hg140, h⟩ := gd_some h
            refine AW.g Fm [.s, .s, .s, .s, .s, .s, .s, .s, .s, .s, .s, .w (vb false), .s, .s, .s, .s, .s, .s, .s, .s, .s, .s, .s, .s] (fun K => (0 ≤ v133 ∧ v133 < ((List.length x119 : Nat) : Int)) ∧ (0 ≤ v133 ∧ v133 < ((List.length x120 : Nat) : Int)) ∧ (ALe (vb (((gl x119 v133.toNat).left_) != ((gl x120 v133.toNat).left_))) (vb false)) ∧ (0 ≤ v133 ∧ v133 < ((List.length x119 : Nat) : Int)) ∧ (0 ≤ v133 ∧ v133 < ((List.length x120 : Nat) : Int)) ∧ True) [(0, AL x119), (1, AL x120), (12, vi ((List.length x119 : Nat) : Int)), (13, vi v133), (28, AL x119), (29, vi v133), (30, .v (.c (.elm [.int .i64 (gl x119 v133.toNat).left_, .int .i64 (gl x119 v133.toNat).low_, .int .i64 (gl x119 v133.toNat).right_, .int .i64 (gl x119 v133.toNat).high_]))), (31, .v (.c (.elm [.int .i64 (gl x119 v133.toNat).right_, .int .i64 (gl x119 v133.toNat).high_]))), (32, vi (gl x119 v133.toNat).right_), (33, AL x120), (34, vi v133), (35, .v (.c (.elm [.int .i64 (gl x120 v133.toNat).left_, .int .i64 (gl x120 v133.toNat).low_, .int .i64 (gl x120 v133.toNat).right_, .int .i64 (gl x120 v133.toNat).high_]))), (36, .v (.c (.elm [.int .i64 (gl x120 v133.toNat).right_, .int .i64 (gl x120 v133.toNat).high_]))), (37, vi (gl x120 v133.toNat).right_), (38, vb (((gl x119 v133.toNat).right_) != ((gl x120 v133.toNat).right_))), (39, vb (((gl x119 v133.toNat).right_) != ((gl x120 v133.toNat).right_)))] [] ⟨hg136, hg137, ALe.bool hb138, hg139, hg140, True.intro⟩ (by kernel_rfl) ?_
            exact Kn.r Fm [(0, AL x119), (1, AL x120), (12, vi ((List.length x119 : Nat) : Int)), (13, vi v133), (39, vb (((gl x119 v133.toNat).right_) != ((gl x120 v133.toNat).right_)))] [] (by kernel_rfl) (hJ142 (((gl x119 v133.toNat).right_) != ((gl x120 v133.toNat).right_)) h)
      · have h := br_f h hb135
        refine AW.exit ?_
        exact Kn.r Fm [] [] (by kernel_rfl) (hJ145 () h)
theorem ref04_Combine_spec {F : Nat} {x146 : (List Rect)} {x147 : (List Rect)} {x148 : Int} {r : (List Rect)} (h : ref04_Combine F x146 x147 x148 = some r) :
    FSpec Tryz.prog 64 [AL x146, AL x147, vi x148] [] (AL (α := Rect) r) [] := by
  refine FSpec.intro prog_mixed prog_lay Tryz.func64 rfl (by kernel_rfl) fun C Fm => ?_
  unfold ref04_Combine at h
  refine AW.sg0 Fm 1 [(0, AL x146), (1, AL x147), (2, vi x148)] [] (by kernel_rfl) ?_
  refine AW.sg Fm [.m, .m] (fun K => True) [(0, AL x146), (1, AL x147), (2, vi x148), (7, .v (.c (.own 7))), (8, .v (.c (.own 8)))] [(7, .arr 1 (0) (fun _ => [])), (8, .arr 1 (0) (fun _ => []))] True.intro (by kernel_rfl) ?_
  refine Kn.wk [(0, AL x146), (1, AL x147), (2, vi x148), (7, .v (.c (.own 7))), (8, .v (.c (.own 8)))] [(7, AO (α := Int) ([] : List Int)), (8, AO (α := Int) ([] : List Int))] (FE.refl _) (⟨rfl, OLe.is ((Is.nil (α := Int))), ⟨rfl, OLe.is ((Is.nil (α := Int))), True.intro⟩⟩) ?_
  refine AW.join (r := r) (fun z : (List Int) × (List Int) => ref04_Combine_k3 F x146 x147 x148 z.1 z.2) (fun z => [(0, AL x146), (1, AL x147), (2, vi x148), (7, AL z.1), (8, AL z.2)]) (fun z => []) (fun z h => ?_) (fun J226 hJ226 => ?_)
  · obtain ⟨v224, v225⟩ := z
    have h : ref04_Combine_k3 F x146 x147 x148 v224 v225 = some r := h
    refine AW.sg Fm [.m, .m] (fun K => True) [(0, AL x146), (1, AL x147), (2, vi x148), (7, AL v224), (8, AL v225), (13, .v (.c (.own 13))), (14, .v (.c (.own 14)))] [(13, .arr 4 (0) (fun _ => [])), (14, .arr 4 (0) (fun _ => []))] True.intro (by kernel_rfl) ?_
    refine Kn.wk [(0, AL x146), (1, AL x147), (2, vi x148), (7, AL v224), (8, AL v225), (13, .v (.c (.own 13))), (14, .v (.c (.own 14)))] [(13, AO (α := Rect) ([] : List Rect)), (14, AO (α := Rect) ([] : List Rect))] (FE.refl _) (⟨rfl, OLe.is ((Is.nil (α := Rect))), ⟨rfl, OLe.is ((Is.nil (α := Rect))), True.intro⟩⟩) ?_
    refine AW.join (r := r) (fun z : (List Rect) × (List Rect) => ref04_Combine_k14 F z.1 z.2) (fun z => [(13, .v (.c (.own 13))), (14, .v (.c (.own 14)))]) (fun z => [(13, AO z.1), (14, AO z.2)]) (fun z h => ?_) (fun J448 hJ448 => ?_)
    · obtain ⟨v446, v447⟩ := z
      have h : ref04_Combine_k14 F v446 v447 = some r := h
      obtain ⟨hg449, h⟩ := gd_some h
      refine AW.sg Fm [.s, .s, .s, .s] (fun K => ((List.length (α := Rect) v446) + (List.length (α := Rect) v447) ≤ LIM ∧ (∀ j, j < List.length (α := Rect) v447 → ((LF (α := Rect) v447) j).length = 4) ∧ (True)) ∧ True) [(6, .v (.c (.own 176)))] [(176, .arr 4 ((List.length (α := Rect) v446) + (List.length (α := Rect) v447)) (appF (List.length (α := Rect) v446) (LF (α := Rect) v446) (LF (α := Rect) v447)))] ⟨⟨hg449, (Is.refl v447 : Is (List.length (α := Rect) v447) (LF (α := Rect) v447) v447).len, True.intro⟩, True.intro⟩ (by kernel_rfl) ?_
      refine Kn.wk [(6, .v (.c (.own 176)))] [(176, AO (α := Rect) (v446 ++ v447))] (FE.refl _) (⟨rfl, OLe.is (Is.app (Is.refl v446) (Is.refl v447)), True.intro⟩) ?_
      refine AW.ret ?_
      obtain rfl := Option.some.inj h
      refine Kn.r Fm [(6, .v (.c (.own 176)))] [(176, AO (α := Rect) (v446 ++ v447))] (by kernel_rfl) ?_
      refine Kn.frz [(6, AL (α := Rect) (v446 ++ v447))] [] (by kernel_rfl) (by kernel_rfl) (by kernel_rfl) ?_
      exact Kn.r Fm [(6, AL (α := Rect) (v446 ++ v447))] [] (by kernel_rfl) (Kn.dn Fm (by kernel_rfl))
    · refine AW.sg0 Fm 1 [(0, AL x146), (1, AL x147), (2, vi x148), (7, AL v224), (8, AL v225), (13, .v (.c (.own 13))), (14, .v (.c (.own 14))), (15, vi (0 : Int))] [(13, AO (α := Rect) ([] : List Rect)), (14, AO (α := Rect) ([] : List Rect))] (by kernel_rfl) ?_
      refine AW.block ?_
      refine Kn.r Fm [(0, AL x146), (1, AL x147), (2, vi x148), (7, AL v224), (8, AL v225), (13, .v (.c (.own 13))), (14, .v (.c (.own 14))), (15, vi (0 : Int))] [(13, AO ([] : List Rect)), (14, AO ([] : List Rect))] (by kernel_rfl) ?_
      have h : loopN (fun again (z : Int × (List Rect) × (List Rect)) => ref04_Combine_b4 F x146 x147 x148 v224 v225 again z.1 z.2.1 z.2.2) F ((0 : Int), ([] : List Rect), ([] : List Rect)) = some r := h
      refine AW.loopF (E' := fun z => [(0, AL x146), (1, AL x147), (2, vi x148), (7, AL v224), (8, AL v225), (13, .v (.c (.own 13))), (14, .v (.c (.own 14))), (15, vi z.1)]) (S' := fun z => [(13, AO z.2.1), (14, AO z.2.2)]) (fun ag_ref04_Combine_b4 z J338 hJ338 h => ?_) h
      obtain ⟨v335, v336, v337⟩ := z
      have h : ref04_Combine_b4 F x146 x147 x148 v224 v225 ag_ref04_Combine_b4 v335 v336 v337 = some r := h
      refine AW.seq ?_
      obtain ⟨hg339, h⟩ := gd_some h
      refine AW.sg Fm [.s, .s, .s, .s, .s] (fun K => (I64 (v335 + (1 : Int)) ∧ True) ∧ True) [(0, AL x146), (1, AL x147), (2, vi x148), (7, AL v224), (8, AL v225), (13, .v (.c (.own 13))), (14, .v (.c (.own 14))), (15, vi v335), (54, vb (decide ((v335 + (1 : Int)) < ((List.length v225 : Nat) : Int))))] [(13, AO v336), (14, AO v337)] ⟨⟨hg339, True.intro⟩, True.intro⟩ (by kernel_rfl) ?_
      refine AW.cond (b := (decide ((v335 + (1 : Int)) < ((List.length v225 : Nat) : Int)))) (by kernel_rfl) (fun hb340 => ?_) (fun hb340 => ?_)
      · have h := br_t h hb340
        refine AW.skip ?_
        refine AW.join (r := r) (fun z : (List Rect) × (List Rect) => ref04_Combine_k13 F v335 ag_ref04_Combine_b4 z.1 z.2) (fun z => [(0, AL x146), (1, AL x147), (2, vi x148), (7, AL v224), (8, AL v225), (13, .v (.c (.own 13))), (14, .v (.c (.own 14))), (15, vi v335)]) (fun z => [(13, AO z.1), (14, AO z.2)]) (fun z h => ?_) (fun J444 hJ444 => ?_)
        · obtain ⟨v442, v443⟩ := z
          have h : ref04_Combine_k13 F v335 ag_ref04_Combine_b4 v442 v443 = some r := h
          obtain ⟨hg445, h⟩ := gd_some h
          refine AW.g Fm [.s, .s, .s] (fun K => (I64 (v335 + (1 : Int)) ∧ True) ∧ True) [(0, AL x146), (1, AL x147), (2, vi x148), (7, AL v224), (8, AL v225), (13, .v (.c (.own 13))), (14, .v (.c (.own 14))), (15, vi (v335 + (1 : Int)))] [(13, AO v442), (14, AO v443)] ⟨⟨hg445, True.intro⟩, True.intro⟩ (by kernel_rfl) ?_
          exact Kn.r Fm [(0, AL x146), (1, AL x147), (2, vi x148), (7, AL v224), (8, AL v225), (13, .v (.c (.own 13))), (14, .v (.c (.own 14))), (15, vi (v335 + (1 : Int)))] [(13, AO v442), (14, AO v443)] (by kernel_rfl) (hJ338 ((v335 + (1 : Int)), v442, v443) h)
        · refine AW.block ?_
          refine AW.sg Fm [.m] (fun K => True) [(0, AL x146), (1, AL x147), (2, vi x148), (7, AL v224), (8, AL v225), (13, .v (.c (.own 13))), (14, .v (.c (.own 14))), (15, vi v335), (16, .v (.c (.own 16)))] [(13, AO v336), (14, AO v337), (16, .arr 4 (0) (fun _ => []))] True.intro (by kernel_rfl) ?_
          refine Kn.wk [(0, AL x146), (1, AL x147), (2, vi x148), (7, AL v224), (8, AL v225), (13, .v (.c (.own 13))), (14, .v (.c (.own 14))), (15, vi v335), (16, .v (.c (.own 16)))] [(13, AO v336), (14, AO v337), (16, AO (α := Rect) ([] : List Rect))] (FE.refl _) (⟨rfl, OLe.refl _, ⟨rfl, OLe.refl _, ⟨rfl, OLe.is ((Is.nil (α := Rect))), True.intro⟩⟩⟩) ?_
          refine AW.join (r := r) (fun z : (List Rect) => ref04_Combine_k8 F v225 v335 v336 v337 ag_ref04_Combine_b4 z) (fun z => [(0, AL x146), (1, AL x147), (2, vi x148), (7, AL v224), (8, AL v225), (13, .v (.c (.own 13))), (14, .v (.c (.own 14))), (15, vi v335), (16, .v (.c (.own 16)))]) (fun z => [(13, AO v336), (14, AO v337), (16, AO z)]) (fun v413 h => ?_) (fun J414 hJ414 => ?_)
          · have h : ref04_Combine_k8 F v225 v335 v336 v337 ag_ref04_Combine_b4 v413 = some r := h
            refine AW.join (r := r) (fun z : Unit => ref04_Combine_k12 F v335 v336 v337 v413 ag_ref04_Combine_b4) (fun z => [(0, AL x146), (1, AL x147), (2, vi x148), (7, AL v224), (8, AL v225), (13, .v (.c (.own 13))), (14, .v (.c (.own 14))), (15, vi v335), (16, .v (.c (.own 16)))]) (fun z => [(13, AO v336), (14, AO v337), (16, AO v413)]) (fun z h => ?_) (fun J440 hJ440 => ?_)
            · have h : ref04_Combine_k12 F v335 v336 v337 v413 ag_ref04_Combine_b4 = some r := h
              obtain ⟨hg441, h⟩ := gd_some h
              refine AW.sg Fm [.s, .s, .s, .s] (fun K => ((List.length (α := Rect) v336) + (List.length (α := Rect) v337) ≤ LIM ∧ (∀ j, j < List.length (α := Rect) v337 → ((LF (α := Rect) v337) j).length = 4) ∧ (True)) ∧ True) [(0, AL x146), (1, AL x147), (2, vi x148), (7, AL v224), (8, AL v225), (13, .v (.c (.own 172))), (15, vi v335), (16, .v (.c (.own 16)))] [(16, AO v413), (172, .arr 4 ((List.length (α := Rect) v336) + (List.length (α := Rect) v337)) (appF (List.length (α := Rect) v336) (LF (α := Rect) v336) (LF (α := Rect) v337)))] ⟨⟨hg441, (Is.refl v337 : Is (List.length (α := Rect) v337) (LF (α := Rect) v337) v337).len, True.intro⟩, True.intro⟩ (by kernel_rfl) ?_
              refine Kn.wk [(0, AL x146), (1, AL x147), (2, vi x148), (7, AL v224), (8, AL v225), (13, .v (.c (.own 172))), (15, vi v335), (16, .v (.c (.own 16)))] [(16, AO v413), (172, AO (α := Rect) (v336 ++ v337))] (FE.refl _) (⟨rfl, OLe.refl _, ⟨rfl, OLe.is (Is.app (Is.refl v336) (Is.refl v337)), True.intro⟩⟩) ?_
              refine AW.g0 Fm 2 [(0, AL x146), (1, AL x147), (2, vi x148), (7, AL v224), (8, AL v225), (13, .v (.c (.own 172))), (14, .v (.c (.own 16))), (15, vi v335)] [(16, AO v413), (172, AO (α := Rect) (v336 ++ v337))] (by kernel_rfl) ?_
              exact Kn.re Fm [(13, 172), (14, 16)] [(0, AL x146), (1, AL x147), (2, vi x148), (7, AL v224), (8, AL v225), (13, .v (.c (.own 13))), (14, .v (.c (.own 14))), (15, vi v335)] [(13, AO (v336 ++ v337)), (14, AO v413)] (by kernel_rfl) (by kernel_rfl) (by kernel_rfl) (by kernel_rfl) (hJ444 ((v336 ++ v337), v413) h)
            · refine AW.join (r := r) (fun z : Bool => ref04_Combine_k9 F v225 v335 v336 v337 v413 ag_ref04_Combine_b4 z) (fun z => [(0, AL x146), (1, AL x147), (2, vi x148), (7, AL v224), (8, AL v225), (13, .v (.c (.own 13))), (14, .v (.c (.own 14))), (15, vi v335), (16, .v (.c (.own 16))), (154, vb z)]) (fun z => [(13, AO v336), (14, AO v337), (16, AO v413)]) (fun v421 h => ?_) (fun J422 hJ422 => ?_)
              · have h : ref04_Combine_k9 F v225 v335 v336 v337 v413 ag_ref04_Combine_b4 v421 = some r := h
                refine AW.cond (b := v421) (by kernel_rfl) (fun hb423 => ?_) (fun hb423 => ?_)
                · have h := br_t h hb423
                  refine AW.join (r := r) (fun z : (List Rect) => ref04_Combine_k11 F v335 v336 ag_ref04_Combine_b4 z) (fun z => [(0, AL x146), (1, AL x147), (2, vi x148), (7, AL v224), (8, AL v225), (13, .v (.c (.own 13))), (14, .v (.c (.own 14))), (15, vi v335)]) (fun z => [(13, AO v336), (14, AO z)]) (fun v438 h => ?_) (fun J439 hJ439 => ?_)
                  · have h : ref04_Combine_k11 F v335 v336 ag_ref04_Combine_b4 v438 = some r := h
                    refine AW.exit ?_
                    exact Kn.r Fm [(0, AL x146), (1, AL x147), (2, vi x148), (7, AL v224), (8, AL v225), (13, .v (.c (.own 13))), (14, .v (.c (.own 14))), (15, vi v335)] [(13, AO v336), (14, AO v438)] (by kernel_rfl) (hJ444 (v336, v438) h)
                  · refine AW.sg0 Fm 3 [(0, AL x146), (1, AL x147), (2, vi x148), (7, AL v224), (8, AL v225), (13, .v (.c (.own 13))), (14, .v (.c (.own 14))), (15, vi v335), (156, vi ((List.length v337 : Nat) : Int)), (157, vi (0 : Int))] [(13, AO v336), (14, AO v337)] (by kernel_rfl) ?_
                    refine AW.block ?_
                    refine Kn.r Fm [(0, AL x146), (1, AL x147), (2, vi x148), (7, AL v224), (8, AL v225), (13, .v (.c (.own 13))), (14, .v (.c (.own 14))), (15, vi v335), (156, vi ((List.length v337 : Nat) : Int)), (157, vi (0 : Int))] [(13, AO v336), (14, AO v337)] (by kernel_rfl) ?_
                    have h : loopN (fun again (z : Int × (List Rect)) => ref04_Combine_b10 F v225 v335 v336 v337 ag_ref04_Combine_b4 again z.1 z.2) F ((0 : Int), v337) = some r := h
                    refine AW.loopF (E' := fun z => [(0, AL x146), (1, AL x147), (2, vi x148), (7, AL v224), (8, AL v225), (13, .v (.c (.own 13))), (14, .v (.c (.own 14))), (15, vi v335), (156, vi ((List.length v337 : Nat) : Int)), (157, vi z.1)]) (S' := fun z => [(13, AO v336), (14, AO z.2)]) (fun ag_ref04_Combine_b10 z J432 hJ432 h => ?_) h
                    obtain ⟨v430, v431⟩ := z
                    have h : ref04_Combine_b10 F v225 v335 v336 v337 ag_ref04_Combine_b4 ag_ref04_Combine_b10 v430 v431 = some r := h
                    refine AW.sg0 Fm 1 [(0, AL x146), (1, AL x147), (2, vi x148), (7, AL v224), (8, AL v225), (13, .v (.c (.own 13))), (14, .v (.c (.own 14))), (15, vi v335), (156, vi ((List.length v337 : Nat) : Int)), (157, vi v430), (158, vb (decide (v430 < ((List.length v337 : Nat) : Int))))] [(13, AO v336), (14, AO v431)] (by kernel_rfl) ?_
                    refine AW.seq ?_
                    refine AW.cond (b := (decide (v430 < ((List.length v337 : Nat) : Int)))) (by kernel_rfl) (fun hb433 => ?_) (fun hb433 => ?_)
                    · have h := br_t h hb433
                      refine AW.skip ?_
                      refine AW.seq ?_
                      refine AW.block ?_
                      refine AW.sg0 Fm 2 [(0, AL x146), (1, AL x147), (2, vi x148), (7, AL v224), (8, AL v225), (13, .v (.c (.own 13))), (14, .v (.c (.own 14))), (15, vi v335), (19, vi v430), (156, vi ((List.length v337 : Nat) : Int)), (157, vi v430)] [(13, AO v336), (14, AO v431)] (by kernel_rfl) ?_
                      obtain ⟨hg434, h⟩ := gd_some h
                      obtain ⟨hg435, h⟩ := gd_some h
                      obtain ⟨hg436, h⟩ := gd_some h
                      refine AW.g Fm [.s, .s, .s, .s, .s, .s, .s, .s, .s, .s] (fun K => (I64 (v335 + (1 : Int)) ∧ True) ∧ (0 ≤ (v335 + (1 : Int)) ∧ (v335 + (1 : Int)) < ((List.length v225 : Nat) : Int)) ∧ (0 ≤ v430 ∧ v430 < ((List.length v431 : Nat) : Int)) ∧ (v430.toNat < List.length v431) ∧ True) [(0, AL x146), (1, AL x147), (2, vi x148), (7, AL v224), (8, AL v225), (13, .v (.c (.own 13))), (14, .v (.c (.own 14))), (15, vi v335), (156, vi ((List.length v337 : Nat) : Int)), (157, vi v430)] [(13, AO v336), (14, .arr 4 (List.length (α := Rect) v431) (fun j => if j = v430.toNat then splice ((LF (α := Rect) v431) v430.toNat) 3 [.int .i64 (gl v225 (v335 + (1 : Int)).toNat)] else (LF (α := Rect) v431) j))] ⟨⟨hg434, True.intro⟩, hg435, hg436, (toNat_lt hg436), True.intro⟩ (by kernel_rfl) ?_
                      refine Kn.wk [(0, AL x146), (1, AL x147), (2, vi x148), (7, AL v224), (8, AL v225), (13, .v (.c (.own 13))), (14, .v (.c (.own 14))), (15, vi v335), (156, vi ((List.length v337 : Nat) : Int)), (157, vi v430)] [(13, AO v336), (14, AO (α := Rect) (List.set v431 v430.toNat (⟨(gl v431 v430.toNat).left_, (gl v431 v430.toNat).low_, (gl v431 v430.toNat).right_, (gl v225 (v335 + (1 : Int)).toNat)⟩ : Rect)))] (FE.refl _) (⟨rfl, OLe.refl _, ⟨rfl, OLe.is (Is.set (Is.refl v431) (toNat_lt hg436) (⟨(gl v431 v430.toNat).left_, (gl v431 v430.toNat).low_, (gl v431 v430.toNat).right_, (gl v225 (v335 + (1 : Int)).toNat)⟩ : Rect) (by kernel_rfl)), True.intro⟩⟩) ?_
                      obtain ⟨hg437, h⟩ := gd_some h
                      refine AW.g Fm [.s, .s] (fun K => (I64 (v430 + (1 : Int)) ∧ True) ∧ True) [(0, AL x146), (1, AL x147), (2, vi x148), (7, AL v224), (8, AL v225), (13, .v (.c (.own 13))), (14, .v (.c (.own 14))), (15, vi v335), (156, vi ((List.length v337 : Nat) : Int)), (157, vi (v430 + (1 : Int)))] [(13, AO v336), (14, AO (α := Rect) (List.set v431 v430.toNat (⟨(gl v431 v430.toNat).left_, (gl v431 v430.toNat).low_, (gl v431 v430.toNat).right_, (gl v225 (v335 + (1 : Int)).toNat)⟩ : Rect)))] ⟨⟨hg437, True.intro⟩, True.intro⟩ (by kernel_rfl) ?_
                      exact Kn.r Fm [(0, AL x146), (1, AL x147), (2, vi x148), (7, AL v224), (8, AL v225), (13, .v (.c (.own 13))), (14, .v (.c (.own 14))), (15, vi v335), (156, vi ((List.length v337 : Nat) : Int)), (157, vi (v430 + (1 : Int)))] [(13, AO v336), (14, AO (List.set v431 v430.toNat (⟨(gl v431 v430.toNat).left_, (gl v431 v430.toNat).low_, (gl v431 v430.toNat).right_, (gl v225 (v335 + (1 : Int)).toNat)⟩ : Rect)))] (by kernel_rfl) (hJ432 ((v430 + (1 : Int)), (List.set v431 v430.toNat (⟨(gl v431 v430.toNat).left_, (gl v431 v430.toNat).low_, (gl v431 v430.toNat).right_, (gl v225 (v335 + (1 : Int)).toNat)⟩ : Rect))) h)
                    · have h := br_f h hb433
                      refine AW.exit ?_
                      exact Kn.r Fm [(0, AL x146), (1, AL x147), (2, vi x148), (7, AL v224), (8, AL v225), (13, .v (.c (.own 13))), (14, .v (.c (.own 14))), (15, vi v335)] [(13, AO v336), (14, AO v431)] (by kernel_rfl) (hJ439 v431 h)
                · have h := br_f h hb423
                  refine AW.skip ?_
                  exact Kn.r Fm [(0, AL x146), (1, AL x147), (2, vi x148), (7, AL v224), (8, AL v225), (13, .v (.c (.own 13))), (14, .v (.c (.own 14))), (15, vi v335), (16, .v (.c (.own 16)))] [(13, AO v336), (14, AO v337), (16, AO v413)] (by kernel_rfl) (hJ440 () h)
              · rcases Bool.eq_false_or_eq_true (decide ((0 : Int) < ((List.length v337 : Nat) : Int))) with hb415 | hb415
                · have h := br_t h hb415
                  obtain ⟨z416, hz417, h⟩ := bd_some h
                  rcases Bool.eq_false_or_eq_true z416 with hb418 | hb418
                  · have h := br_t h hb418
                    obtain ⟨hg419, h⟩ := gd_some h
                    obtain ⟨hg420, h⟩ := gd_some h
                    refine AW.g Fm [.s, .s, .s, .w (vb true), .s, .s, .k (sE (vb z416)), .s, .w (vb true), .s, .s, .s, .s, .s, .s, .s, .s, .s, .s] (fun K => (ALe (vb (decide ((0 : Int) < ((List.length v337 : Nat) : Int)))) (vb true)) ∧ K 6 ∧ (ALe (vb z416) (vb true)) ∧ (0 ≤ (0 : Int) ∧ (0 : Int) < ((List.length v337 : Nat) : Int)) ∧ ((0 : Int).toNat < List.length v337) ∧ (0 ≤ v335 ∧ v335 < ((List.length v225 : Nat) : Int)) ∧ True) [(0, AL x146), (1, AL x147), (2, vi x148), (7, AL v224), (8, AL v225), (13, .v (.c (.own 13))), (14, .v (.c (.own 14))), (15, vi v335), (16, .v (.c (.own 16))), (140, .v (.c (.own 14))), (141, .v (.c (.own 16))), (142, vb z416), (145, .v (.c (.own 14))), (146, .v (.c (.pte 14 4 ((0 : Int).toNat) 0))), (147, .v (.c (.pte 14 4 ((0 : Int).toNat) 3))), (148, vi (gl v337 (0 : Int).toNat).high_), (149, AL v225), (150, vi v335), (151, .v (.c (.elm [.int .i64 (gl v225 v335.toNat)]))), (152, vi (gl v225 v335.toNat)), (153, vb (((gl v337 (0 : Int).toNat).high_) == (gl v225 v335.toNat))), (154, vb (((gl v337 (0 : Int).toNat).high_) == (gl v225 v335.toNat)))] [(13, AO v336), (14, AO v337), (16, AO v413)] ⟨ALe.bool hb415, KAt.callBX (args := [AL v337, AL v413]) (ref04_same_spec hz417) Tryz.call122 [14, 16] [.tmp 140, .tmp 141] rfl (by kernel_rfl) (by kernel_rfl) ⟨ArgB.own 14 (es := 4) (n := List.length v337) (f := LF v337) (by kernel_rfl) (by kernel_rfl) (by kernel_rfl) (by kernel_rfl), ArgB.own 16 (es := 4) (n := List.length v413) (f := LF v413) (by kernel_rfl) (by kernel_rfl) (by kernel_rfl) (by kernel_rfl), True.intro⟩, ALe.bool hb418, hg419, (toNat_lt hg419), hg420, True.intro⟩ (by kernel_rfl) ?_
                    exact Kn.r Fm [(0, AL x146), (1, AL x147), (2, vi x148), (7, AL v224), (8, AL v225), (13, .v (.c (.own 13))), (14, .v (.c (.own 14))), (15, vi v335), (16, .v (.c (.own 16))), (154, vb (((gl v337 (0 : Int).toNat).high_) == (gl v225 v335.toNat)))] [(13, AO v336), (14, AO v337), (16, AO v413)] (by kernel_rfl) (hJ422 (((gl v337 (0 : Int).toNat).high_) == (gl v225 v335.toNat)) h)
                  · have h := br_f h hb418
                    refine AW.g Fm [.s, .s, .s, .w (vb true), .s, .s, .k (sE (vb z416)), .s, .w (vb false), .s, .s, .s, .s, .s, .s, .s, .s, .s, .s] (fun K => (ALe (vb (decide ((0 : Int) < ((List.length v337 : Nat) : Int)))) (vb true)) ∧ K 6 ∧ (ALe (vb z416) (vb false)) ∧ True) [(0, AL x146), (1, AL x147), (2, vi x148), (7, AL v224), (8, AL v225), (13, .v (.c (.own 13))), (14, .v (.c (.own 14))), (15, vi v335), (16, .v (.c (.own 16))), (140, .v (.c (.own 14))), (141, .v (.c (.own 16))), (142, vb z416), (154, vb false)] [(13, AO v336), (14, AO v337), (16, AO v413)] ⟨ALe.bool hb415, KAt.callBX (args := [AL v337, AL v413]) (ref04_same_spec hz417) Tryz.call122 [14, 16] [.tmp 140, .tmp 141] rfl (by kernel_rfl) (by kernel_rfl) ⟨ArgB.own 14 (es := 4) (n := List.length v337) (f := LF v337) (by kernel_rfl) (by kernel_rfl) (by kernel_rfl) (by kernel_rfl), ArgB.own 16 (es := 4) (n := List.length v413) (f := LF v413) (by kernel_rfl) (by kernel_rfl) (by kernel_rfl) (by kernel_rfl), True.intro⟩, ALe.bool hb418, True.intro⟩ (by kernel_rfl) ?_
                    exact Kn.r Fm [(0, AL x146), (1, AL x147), (2, vi x148), (7, AL v224), (8, AL v225), (13, .v (.c (.own 13))), (14, .v (.c (.own 14))), (15, vi v335), (16, .v (.c (.own 16))), (154, vb false)] [(13, AO v336), (14, AO v337), (16, AO v413)] (by kernel_rfl) (hJ422 false h)
                · have h := br_f h hb415
                  refine AW.g Fm [.s, .s, .s, .w (vb false), .s, .s, .s, .s, .s, .s, .s, .s, .s, .s, .s, .s, .s, .s, .s] (fun K => (ALe (vb (decide ((0 : Int) < ((List.length v337 : Nat) : Int)))) (vb false)) ∧ True) [(0, AL x146), (1, AL x147), (2, vi x148), (7, AL v224), (8, AL v225), (13, .v (.c (.own 13))), (14, .v (.c (.own 14))), (15, vi v335), (16, .v (.c (.own 16))), (154, vb false)] [(13, AO v336), (14, AO v337), (16, AO v413)] ⟨ALe.bool hb415, True.intro⟩ (by kernel_rfl) ?_
                  exact Kn.r Fm [(0, AL x146), (1, AL x147), (2, vi x148), (7, AL v224), (8, AL v225), (13, .v (.c (.own 13))), (14, .v (.c (.own 14))), (15, vi v335), (16, .v (.c (.own 16))), (154, vb false)] [(13, AO v336), (14, AO v337), (16, AO v413)] (by kernel_rfl) (hJ422 false h)
          · refine AW.sg0 Fm 1 [(0, AL x146), (1, AL x147), (2, vi x148), (7, AL v224), (8, AL v225), (13, .v (.c (.own 13))), (14, .v (.c (.own 14))), (15, vi v335), (16, .v (.c (.own 16))), (17, vi (0 : Int))] [(13, AO v336), (14, AO v337), (16, AO (α := Rect) ([] : List Rect))] (by kernel_rfl) ?_
            refine AW.block ?_
            refine Kn.r Fm [(0, AL x146), (1, AL x147), (2, vi x148), (7, AL v224), (8, AL v225), (13, .v (.c (.own 13))), (14, .v (.c (.own 14))), (15, vi v335), (16, .v (.c (.own 16))), (17, vi (0 : Int))] [(13, AO v336), (14, AO v337), (16, AO ([] : List Rect))] (by kernel_rfl) ?_
            have h : loopN (fun again (z : Int × (List Rect)) => ref04_Combine_b5 F x146 x147 x148 v224 v225 v335 v336 v337 ag_ref04_Combine_b4 again z.1 z.2) F ((0 : Int), ([] : List Rect)) = some r := h
            refine AW.loopF (E' := fun z => [(0, AL x146), (1, AL x147), (2, vi x148), (7, AL v224), (8, AL v225), (13, .v (.c (.own 13))), (14, .v (.c (.own 14))), (15, vi v335), (16, .v (.c (.own 16))), (17, vi z.1)]) (S' := fun z => [(13, AO v336), (14, AO v337), (16, AO z.2)]) (fun ag_ref04_Combine_b5 z J378 hJ378 h => ?_) h
            obtain ⟨v376, v377⟩ := z
            have h : ref04_Combine_b5 F x146 x147 x148 v224 v225 v335 v336 v337 ag_ref04_Combine_b4 ag_ref04_Combine_b5 v376 v377 = some r := h
            refine AW.seq ?_
            obtain ⟨hg379, h⟩ := gd_some h
            refine AW.sg Fm [.s, .s, .s, .s, .s] (fun K => (I64 (v376 + (1 : Int)) ∧ True) ∧ True) [(0, AL x146), (1, AL x147), (2, vi x148), (7, AL v224), (8, AL v225), (13, .v (.c (.own 13))), (14, .v (.c (.own 14))), (15, vi v335), (16, .v (.c (.own 16))), (17, vi v376), (61, vb (decide ((v376 + (1 : Int)) < ((List.length v224 : Nat) : Int))))] [(13, AO v336), (14, AO v337), (16, AO v377)] ⟨⟨hg379, True.intro⟩, True.intro⟩ (by kernel_rfl) ?_
            refine AW.cond (b := (decide ((v376 + (1 : Int)) < ((List.length v224 : Nat) : Int)))) (by kernel_rfl) (fun hb380 => ?_) (fun hb380 => ?_)
            · have h := br_t h hb380
              refine AW.skip ?_
              refine AW.join (r := r) (fun z : (List Rect) => ref04_Combine_k7 F v376 ag_ref04_Combine_b5 z) (fun z => [(0, AL x146), (1, AL x147), (2, vi x148), (7, AL v224), (8, AL v225), (13, .v (.c (.own 13))), (14, .v (.c (.own 14))), (15, vi v335), (16, .v (.c (.own 16))), (17, vi v376)]) (fun z => [(13, AO v336), (14, AO v337), (16, AO z)]) (fun v410 h => ?_) (fun J411 hJ411 => ?_)
              · have h : ref04_Combine_k7 F v376 ag_ref04_Combine_b5 v410 = some r := h
                obtain ⟨hg412, h⟩ := gd_some h
                refine AW.g Fm [.s, .s, .s] (fun K => (I64 (v376 + (1 : Int)) ∧ True) ∧ True) [(0, AL x146), (1, AL x147), (2, vi x148), (7, AL v224), (8, AL v225), (13, .v (.c (.own 13))), (14, .v (.c (.own 14))), (15, vi v335), (16, .v (.c (.own 16))), (17, vi (v376 + (1 : Int)))] [(13, AO v336), (14, AO v337), (16, AO v410)] ⟨⟨hg412, True.intro⟩, True.intro⟩ (by kernel_rfl) ?_
                exact Kn.r Fm [(0, AL x146), (1, AL x147), (2, vi x148), (7, AL v224), (8, AL v225), (13, .v (.c (.own 13))), (14, .v (.c (.own 14))), (15, vi v335), (16, .v (.c (.own 16))), (17, vi (v376 + (1 : Int)))] [(13, AO v336), (14, AO v337), (16, AO v410)] (by kernel_rfl) (hJ378 ((v376 + (1 : Int)), v410) h)
              · refine AW.block ?_
                refine AW.seq ?_
                refine AW.seq ?_
                obtain ⟨hg381, h⟩ := gd_some h
                obtain ⟨hg382, h⟩ := gd_some h
                obtain ⟨z383, hz384, h⟩ := bd_some h
                obtain ⟨hg385, h⟩ := gd_some h
                obtain ⟨hg386, h⟩ := gd_some h
                obtain ⟨z387, hz388, h⟩ := bd_some h
                obtain ⟨z389, hz390, h⟩ := bd_some h
                refine AW.g Fm [.s, .s, .s, .s, .s, .s, .s, .s, .s, .k (cE [] [] (vb z383) [] []), .s, .s, .s, .s, .s, .s, .s, .s, .s, .k (cE [] [] (vb z387) [] []), .s, .k (cE [] [] (vb z389) [] []), .s] (fun K => (0 ≤ v376 ∧ v376 < ((List.length v224 : Nat) : Int)) ∧ (0 ≤ v335 ∧ v335 < ((List.length v225 : Nat) : Int)) ∧ K 9 ∧ (0 ≤ v376 ∧ v376 < ((List.length v224 : Nat) : Int)) ∧ (0 ≤ v335 ∧ v335 < ((List.length v225 : Nat) : Int)) ∧ K 19 ∧ K 21 ∧ True) [(0, AL x146), (1, AL x147), (2, vi x148), (7, AL v224), (8, AL v225), (13, .v (.c (.own 13))), (14, .v (.c (.own 14))), (15, vi v335), (16, .v (.c (.own 16))), (17, vi v376), (86, vb (!z389))] [(13, AO v336), (14, AO v337), (16, AO v377)] ⟨hg381, hg382, KAt.cl (args := [AL x146, vi (gl v224 v376.toNat), vi (gl v225 v335.toNat)]) (ref04_inside_spec hz384) Tryz.call77 [] rfl (by kernel_rfl), hg385, hg386, KAt.cl (args := [AL x147, vi (gl v224 v376.toNat), vi (gl v225 v335.toNat)]) (ref04_inside_spec hz388) Tryz.call77 [] rfl (by kernel_rfl), KAt.cl (args := [vb z383, vb z387, vi x148]) (ref04_keep_spec hz390) Tryz.call121 [] rfl (by kernel_rfl), True.intro⟩ (by kernel_rfl) ?_
                refine AW.cond (b := (!z389)) (by kernel_rfl) (fun hb391 => ?_) (fun hb391 => ?_)
                · have h := br_t h hb391
                  refine AW.exit ?_
                  exact Kn.r Fm [(0, AL x146), (1, AL x147), (2, vi x148), (7, AL v224), (8, AL v225), (13, .v (.c (.own 13))), (14, .v (.c (.own 14))), (15, vi v335), (16, .v (.c (.own 16))), (17, vi v376)] [(13, AO v336), (14, AO v337), (16, AO v377)] (by kernel_rfl) (hJ411 v377 h)
                · have h := br_f h hb391
                  refine AW.skip ?_
                  refine AW.sg0 Fm 3 [(0, AL x146), (1, AL x147), (2, vi x148), (7, AL v224), (8, AL v225), (13, .v (.c (.own 13))), (14, .v (.c (.own 14))), (15, vi v335), (16, .v (.c (.own 16))), (17, vi v376), (18, vi ((List.length v377 : Nat) : Int))] [(13, AO v336), (14, AO v337), (16, AO v377)] (by kernel_rfl) ?_
                  refine AW.join (r := r) (fun z : Bool => ref04_Combine_k6 F v224 v225 v335 v376 v377 ag_ref04_Combine_b5 z) (fun z => [(0, AL x146), (1, AL x147), (2, vi x148), (7, AL v224), (8, AL v225), (13, .v (.c (.own 13))), (14, .v (.c (.own 14))), (15, vi v335), (16, .v (.c (.own 16))), (17, vi v376), (18, vi ((List.length v377 : Nat) : Int)), (103, vb z)]) (fun z => [(13, AO v336), (14, AO v337), (16, AO v377)]) (fun v396 h => ?_) (fun J397 hJ397 => ?_)
                  · have h : ref04_Combine_k6 F v224 v225 v335 v376 v377 ag_ref04_Combine_b5 v396 = some r := h
                    refine AW.cond (b := v396) (by kernel_rfl) (fun hb398 => ?_) (fun hb398 => ?_)
                    · have h := br_t h hb398
                      obtain ⟨hg399, h⟩ := gd_some h
                      obtain ⟨hg400, h⟩ := gd_some h
                      obtain ⟨hg401, h⟩ := gd_some h
                      obtain ⟨hg402, h⟩ := gd_some h
                      refine AW.g Fm [.s, .s, .s, .s, .s, .s, .s, .s, .s, .s, .s] (fun K => (I64 (((List.length v377 : Nat) : Int) - (1 : Int)) ∧ True) ∧ (I64 (v376 + (1 : Int)) ∧ True) ∧ (0 ≤ (v376 + (1 : Int)) ∧ (v376 + (1 : Int)) < ((List.length v224 : Nat) : Int)) ∧ (0 ≤ (((List.length v377 : Nat) : Int) - (1 : Int)) ∧ (((List.length v377 : Nat) : Int) - (1 : Int)) < ((List.length v377 : Nat) : Int)) ∧ ((((List.length v377 : Nat) : Int) - (1 : Int)).toNat < List.length v377) ∧ True) [(0, AL x146), (1, AL x147), (2, vi x148), (7, AL v224), (8, AL v225), (13, .v (.c (.own 13))), (14, .v (.c (.own 14))), (15, vi v335), (16, .v (.c (.own 16))), (17, vi v376)] [(13, AO v336), (14, AO v337), (16, .arr 4 (List.length (α := Rect) v377) (fun j => if j = (((List.length v377 : Nat) : Int) - (1 : Int)).toNat then splice ((LF (α := Rect) v377) (((List.length v377 : Nat) : Int) - (1 : Int)).toNat) 2 [.int .i64 (gl v224 (v376 + (1 : Int)).toNat)] else (LF (α := Rect) v377) j))] ⟨⟨hg399, True.intro⟩, ⟨hg400, True.intro⟩, hg401, hg402, (toNat_lt hg402), True.intro⟩ (by kernel_rfl) ?_
                      refine Kn.wk [(0, AL x146), (1, AL x147), (2, vi x148), (7, AL v224), (8, AL v225), (13, .v (.c (.own 13))), (14, .v (.c (.own 14))), (15, vi v335), (16, .v (.c (.own 16))), (17, vi v376)] [(13, AO v336), (14, AO v337), (16, AO (α := Rect) (List.set v377 (((List.length v377 : Nat) : Int) - (1 : Int)).toNat (⟨(gl v377 (((List.length v377 : Nat) : Int) - (1 : Int)).toNat).left_, (gl v377 (((List.length v377 : Nat) : Int) - (1 : Int)).toNat).low_, (gl v224 (v376 + (1 : Int)).toNat), (gl v377 (((List.length v377 : Nat) : Int) - (1 : Int)).toNat).high_⟩ : Rect)))] (FE.refl _) (⟨rfl, OLe.refl _, ⟨rfl, OLe.refl _, ⟨rfl, OLe.is (Is.set (Is.refl v377) (toNat_lt hg402) (⟨(gl v377 (((List.length v377 : Nat) : Int) - (1 : Int)).toNat).left_, (gl v377 (((List.length v377 : Nat) : Int) - (1 : Int)).toNat).low_, (gl v224 (v376 + (1 : Int)).toNat), (gl v377 (((List.length v377 : Nat) : Int) - (1 : Int)).toNat).high_⟩ : Rect) (by kernel_rfl)), True.intro⟩⟩⟩) ?_
                      exact Kn.r Fm [(0, AL x146), (1, AL x147), (2, vi x148), (7, AL v224), (8, AL v225), (13, .v (.c (.own 13))), (14, .v (.c (.own 14))), (15, vi v335), (16, .v (.c (.own 16))), (17, vi v376)] [(13, AO v336), (14, AO v337), (16, AO (List.set v377 (((List.length v377 : Nat) : Int) - (1 : Int)).toNat (⟨(gl v377 (((List.length v377 : Nat) : Int) - (1 : Int)).toNat).left_, (gl v377 (((List.length v377 : Nat) : Int) - (1 : Int)).toNat).low_, (gl v224 (v376 + (1 : Int)).toNat), (gl v377 (((List.length v377 : Nat) : Int) - (1 : Int)).toNat).high_⟩ : Rect)))] (by kernel_rfl) (hJ411 (List.set v377 (((List.length v377 : Nat) : Int) - (1 : Int)).toNat (⟨(gl v377 (((List.length v377 : Nat) : Int) - (1 : Int)).toNat).left_, (gl v377 (((List.length v377 : Nat) : Int) - (1 : Int)).toNat).low_, (gl v224 (v376 + (1 : Int)).toNat), (gl v377 (((List.length v377 : Nat) : Int) - (1 : Int)).toNat).high_⟩ : Rect)) h)
                    · have h := br_f h hb398
                      obtain ⟨hg403, h⟩ := gd_some h
                      obtain ⟨hg404, h⟩ := gd_some h
                      obtain ⟨hg405, h⟩ := gd_some h
                      obtain ⟨hg406, h⟩ := gd_some h
                      obtain ⟨hg407, h⟩ := gd_some h
                      obtain ⟨hg408, h⟩ := gd_some h
                      obtain ⟨hg409, h⟩ := gd_some h
                      refine AW.g Fm [.s, .s, .s, .s, .s, .s, .s, .s, .s, .s, .s, .s, .s, .s, .s, .s, .s, .s, .s, .s, .w (AL (α := Rect) ([(⟨(gl v224 v376.toNat), (gl v225 v335.toNat), (gl v224 (v376 + (1 : Int)).toNat), (gl v225 (v335 + (1 : Int)).toNat)⟩ : Rect)] : List Rect)), .s, .s] (fun K => (0 ≤ v376 ∧ v376 < ((List.length v224 : Nat) : Int)) ∧ (0 ≤ v335 ∧ v335 < ((List.length v225 : Nat) : Int)) ∧ (I64 (v376 + (1 : Int)) ∧ True) ∧ (0 ≤ (v376 + (1 : Int)) ∧ (v376 + (1 : Int)) < ((List.length v224 : Nat) : Int)) ∧ (I64 (v335 + (1 : Int)) ∧ True) ∧ (0 ≤ (v335 + (1 : Int)) ∧ (v335 + (1 : Int)) < ((List.length v225 : Nat) : Int)) ∧ (ALe (.v (.c (.d (.lst 1 (litF 4 [.int .i64 (gl v224 v376.toNat), .int .i64 (gl v225 v335.toNat), .int .i64 (gl v224 (v376 + (1 : Int)).toNat), .int .i64 (gl v225 (v335 + (1 : Int)).toNat)]))))) (AL (α := Rect) ([(⟨(gl v224 v376.toNat), (gl v225 v335.toNat), (gl v224 (v376 + (1 : Int)).toNat), (gl v225 (v335 + (1 : Int)).toNat)⟩ : Rect)] : List Rect))) ∧ ((List.length (α := Rect) v377) + (List.length (α := Rect) ([(⟨(gl v224 v376.toNat), (gl v225 v335.toNat), (gl v224 (v376 + (1 : Int)).toNat), (gl v225 (v335 + (1 : Int)).toNat)⟩ : Rect)] : List Rect)) ≤ LIM ∧ (∀ j, j < List.length (α := Rect) ([(⟨(gl v224 v376.toNat), (gl v225 v335.toNat), (gl v224 (v376 + (1 : Int)).toNat), (gl v225 (v335 + (1 : Int)).toNat)⟩ : Rect)] : List Rect) → ((LF (α := Rect) ([(⟨(gl v224 v376.toNat), (gl v225 v335.toNat), (gl v224 (v376 + (1 : Int)).toNat), (gl v225 (v335 + (1 : Int)).toNat)⟩ : Rect)] : List Rect)) j).length = 4) ∧ (True)) ∧ True) [(0, AL x146), (1, AL x147), (2, vi x148), (7, AL v224), (8, AL v225), (13, .v (.c (.own 13))), (14, .v (.c (.own 14))), (15, vi v335), (16, .v (.c (.own 135))), (17, vi v376)] [(13, AO v336), (14, AO v337), (135, .arr 4 ((List.length (α := Rect) v377) + (List.length (α := Rect) ([(⟨(gl v224 v376.toNat), (gl v225 v335.toNat), (gl v224 (v376 + (1 : Int)).toNat), (gl v225 (v335 + (1 : Int)).toNat)⟩ : Rect)] : List Rect))) (appF (List.length (α := Rect) v377) (LF (α := Rect) v377) (LF (α := Rect) ([(⟨(gl v224 v376.toNat), (gl v225 v335.toNat), (gl v224 (v376 + (1 : Int)).toNat), (gl v225 (v335 + (1 : Int)).toNat)⟩ : Rect)] : List Rect))))] ⟨hg403, hg404, ⟨hg405, True.intro⟩, hg406, ⟨hg407, True.intro⟩, hg408, ALe.lst (.lit ([(⟨(gl v224 v376.toNat), (gl v225 v335.toNat), (gl v224 (v376 + (1 : Int)).toNat), (gl v225 (v335 + (1 : Int)).toNat)⟩ : Rect)] : List Rect) (by kernel_rfl)), ⟨hg409, (Is.refl ([(⟨(gl v224 v376.toNat), (gl v225 v335.toNat), (gl v224 (v376 + (1 : Int)).toNat), (gl v225 (v335 + (1 : Int)).toNat)⟩ : Rect)] : List Rect) : Is (List.length (α := Rect) ([(⟨(gl v224 v376.toNat), (gl v225 v335.toNat), (gl v224 (v376 + (1 : Int)).toNat), (gl v225 (v335 + (1 : Int)).toNat)⟩ : Rect)] : List Rect)) (LF (α := Rect) ([(⟨(gl v224 v376.toNat), (gl v225 v335.toNat), (gl v224 (v376 + (1 : Int)).toNat), (gl v225 (v335 + (1 : Int)).toNat)⟩ : Rect)] : List Rect)) ([(⟨(gl v224 v376.toNat), (gl v225 v335.toNat), (gl v224 (v376 + (1 : Int)).toNat), (gl v225 (v335 + (1 : Int)).toNat)⟩ : Rect)] : List Rect)).len, True.intro⟩, True.intro⟩ (by kernel_rfl) ?_
                      refine Kn.wk [(0, AL x146), (1, AL x147), (2, vi x148), (7, AL v224), (8, AL v225), (13, .v (.c (.own 13))), (14, .v (.c (.own 14))), (15, vi v335), (16, .v (.c (.own 135))), (17, vi v376)] [(13, AO v336), (14, AO v337), (135, AO (α := Rect) (v377 ++ ([(⟨(gl v224 v376.toNat), (gl v225 v335.toNat), (gl v224 (v376 + (1 : Int)).toNat), (gl v225 (v335 + (1 : Int)).toNat)⟩ : Rect)] : List Rect)))] (FE.refl _) (⟨rfl, OLe.refl _, ⟨rfl, OLe.refl _, ⟨rfl, OLe.is (Is.app (Is.refl v377) (Is.refl ([(⟨(gl v224 v376.toNat), (gl v225 v335.toNat), (gl v224 (v376 + (1 : Int)).toNat), (gl v225 (v335 + (1 : Int)).toNat)⟩ : Rect)] : List Rect))), True.intro⟩⟩⟩) ?_
                      exact Kn.re Fm [(16, 135)] [(0, AL x146), (1, AL x147), (2, vi x148), (7, AL v224), (8, AL v225), (13, .v (.c (.own 13))), (14, .v (.c (.own 14))), (15, vi v335), (16, .v (.c (.own 16))), (17, vi v376)] [(13, AO v336), (14, AO v337), (16, AO (v377 ++ ([(⟨(gl v224 v376.toNat), (gl v225 v335.toNat), (gl v224 (v376 + (1 : Int)).toNat), (gl v225 (v335 + (1 : Int)).toNat)⟩ : Rect)] : List Rect)))] (by kernel_rfl) (by kernel_rfl) (by kernel_rfl) (by kernel_rfl) (hJ411 (v377 ++ ([(⟨(gl v224 v376.toNat), (gl v225 v335.toNat), (gl v224 (v376 + (1 : Int)).toNat), (gl v225 (v335 + (1 : Int)).toNat)⟩ : Rect)] : List Rect)) h)
                  · rcases Bool.eq_false_or_eq_true (decide ((0 : Int) < ((List.length v377 : Nat) : Int))) with hb392 | hb392
                    · have h := br_t h hb392
                      obtain ⟨hg393, h⟩ := gd_some h
                      obtain ⟨hg394, h⟩ := gd_some h
                      obtain ⟨hg395, h⟩ := gd_some h
                      refine AW.g Fm [.s, .s, .w (vb true), .s, .s, .s, .s, .s, .s, .s, .s, .s, .s, .s, .s] (fun K => (ALe (vb (decide ((0 : Int) < ((List.length v377 : Nat) : Int)))) (vb true)) ∧ (I64 (((List.length v377 : Nat) : Int) - (1 : Int)) ∧ True) ∧ (0 ≤ (((List.length v377 : Nat) : Int) - (1 : Int)) ∧ (((List.length v377 : Nat) : Int) - (1 : Int)) < ((List.length v377 : Nat) : Int)) ∧ ((((List.length v377 : Nat) : Int) - (1 : Int)).toNat < List.length v377) ∧ (0 ≤ v376 ∧ v376 < ((List.length v224 : Nat) : Int)) ∧ True) [(0, AL x146), (1, AL x147), (2, vi x148), (7, AL v224), (8, AL v225), (13, .v (.c (.own 13))), (14, .v (.c (.own 14))), (15, vi v335), (16, .v (.c (.own 16))), (17, vi v376), (18, vi ((List.length v377 : Nat) : Int)), (92, .v (.c (.own 16))), (93, vi ((List.length v377 : Nat) : Int)), (94, vi (((List.length v377 : Nat) : Int) - (1 : Int))), (95, .v (.c (.pte 16 4 ((((List.length v377 : Nat) : Int) - (1 : Int)).toNat) 0))), (96, .v (.c (.pte 16 4 ((((List.length v377 : Nat) : Int) - (1 : Int)).toNat) 2))), (97, vi (gl v377 (((List.length v377 : Nat) : Int) - (1 : Int)).toNat).right_), (98, AL v224), (99, vi v376), (100, .v (.c (.elm [.int .i64 (gl v224 v376.toNat)]))), (101, vi (gl v224 v376.toNat)), (102, vb (((gl v377 (((List.length v377 : Nat) : Int) - (1 : Int)).toNat).right_) == (gl v224 v376.toNat))), (103, vb (((gl v377 (((List.length v377 : Nat) : Int) - (1 : Int)).toNat).right_) == (gl v224 v376.toNat)))] [(13, AO v336), (14, AO v337), (16, AO v377)] ⟨ALe.bool hb392, ⟨hg393, True.intro⟩, hg394, (toNat_lt hg394), hg395, True.intro⟩ (by kernel_rfl) ?_
                      exact Kn.r Fm [(0, AL x146), (1, AL x147), (2, vi x148), (7, AL v224), (8, AL v225), (13, .v (.c (.own 13))), (14, .v (.c (.own 14))), (15, vi v335), (16, .v (.c (.own 16))), (17, vi v376), (18, vi ((List.length v377 : Nat) : Int)), (103, vb (((gl v377 (((List.length v377 : Nat) : Int) - (1 : Int)).toNat).right_) == (gl v224 v376.toNat)))] [(13, AO v336), (14, AO v337), (16, AO v377)] (by kernel_rfl) (hJ397 (((gl v377 (((List.length v377 : Nat) : Int) - (1 : Int)).toNat).right_) == (gl v224 v376.toNat)) h)
                    · have h := br_f h hb392
                      refine AW.g Fm [.s, .s, .w (vb false), .s, .s, .s, .s, .s, .s, .s, .s, .s, .s, .s, .s] (fun K => (ALe (vb (decide ((0 : Int) < ((List.length v377 : Nat) : Int)))) (vb false)) ∧ True) [(0, AL x146), (1, AL x147), (2, vi x148), (7, AL v224), (8, AL v225), (13, .v (.c (.own 13))), (14, .v (.c (.own 14))), (15, vi v335), (16, .v (.c (.own 16))), (17, vi v376), (18, vi ((List.length v377 : Nat) : Int)), (103, vb false)] [(13, AO v336), (14, AO v337), (16, AO v377)] ⟨ALe.bool hb392, True.intro⟩ (by kernel_rfl) ?_
                      exact Kn.r Fm [(0, AL x146), (1, AL x147), (2, vi x148), (7, AL v224), (8, AL v225), (13, .v (.c (.own 13))), (14, .v (.c (.own 14))), (15, vi v335), (16, .v (.c (.own 16))), (17, vi v376), (18, vi ((List.length v377 : Nat) : Int)), (103, vb false)] [(13, AO v336), (14, AO v337), (16, AO v377)] (by kernel_rfl) (hJ397 false h)
            · have h := br_f h hb380
              refine AW.exit ?_
              exact Kn.r Fm [(0, AL x146), (1, AL x147), (2, vi x148), (7, AL v224), (8, AL v225), (13, .v (.c (.own 13))), (14, .v (.c (.own 14))), (15, vi v335), (16, .v (.c (.own 16)))] [(13, AO v336), (14, AO v337), (16, AO v377)] (by kernel_rfl) (hJ414 v377 h)
      · have h := br_f h hb340
        refine AW.exit ?_
        exact Kn.r Fm [(13, .v (.c (.own 13))), (14, .v (.c (.own 14)))] [(13, AO v336), (14, AO v337)] (by kernel_rfl) (hJ448 (v336, v337) h)
  · refine AW.sg Fm [.s, .s, .w (AL (α := (List Rect)) ([x146, x147] : List (List Rect))), .s, .s] (fun K => (ALe (.v (.c (.d (.lst 2 (litF 1 [DL x146, DL x147]))))) (AL (α := (List Rect)) ([x146, x147] : List (List Rect)))) ∧ True) [(0, AL x146), (1, AL x147), (2, vi x148), (7, .v (.c (.own 7))), (8, .v (.c (.own 8))), (22, AL (α := (List Rect)) ([x146, x147] : List (List Rect))), (23, vi ((List.length ([x146, x147] : List (List Rect)) : Nat) : Int)), (24, vi (0 : Int))] [(7, AO (α := Int) ([] : List Int)), (8, AO (α := Int) ([] : List Int))] ⟨ALe.lst (.lit ([x146, x147] : List (List Rect)) (by kernel_rfl)), True.intro⟩ (by kernel_rfl) ?_
    refine AW.block ?_
    refine Kn.r Fm [(0, AL x146), (1, AL x147), (2, vi x148), (7, .v (.c (.own 7))), (8, .v (.c (.own 8))), (22, AL (α := (List Rect)) ([x146, x147] : List (List Rect))), (23, vi ((List.length ([x146, x147] : List (List Rect)) : Nat) : Int)), (24, vi (0 : Int))] [(7, AO (α := Int) ([] : List Int)), (8, AO (α := Int) ([] : List Int))] (by kernel_rfl) ?_
    refine Kn.frz [(0, AL x146), (1, AL x147), (2, vi x148), (7, AL (α := Int) ([] : List Int)), (8, .v (.c (.own 8))), (22, AL (α := (List Rect)) ([x146, x147] : List (List Rect))), (23, vi ((List.length ([x146, x147] : List (List Rect)) : Nat) : Int)), (24, vi (0 : Int))] [(8, AO (α := Int) ([] : List Int))] (by kernel_rfl) (by kernel_rfl) (by kernel_rfl) ?_
    refine Kn.r Fm [(0, AL x146), (1, AL x147), (2, vi x148), (7, AL (α := Int) ([] : List Int)), (8, .v (.c (.own 8))), (22, AL (α := (List Rect)) ([x146, x147] : List (List Rect))), (23, vi ((List.length ([x146, x147] : List (List Rect)) : Nat) : Int)), (24, vi (0 : Int))] [(8, AO (α := Int) ([] : List Int))] (by kernel_rfl) ?_
    refine Kn.frz [(0, AL x146), (1, AL x147), (2, vi x148), (7, AL (α := Int) ([] : List Int)), (8, AL (α := Int) ([] : List Int)), (22, AL (α := (List Rect)) ([x146, x147] : List (List Rect))), (23, vi ((List.length ([x146, x147] : List (List Rect)) : Nat) : Int)), (24, vi (0 : Int))] [] (by kernel_rfl) (by kernel_rfl) (by kernel_rfl) ?_
    refine Kn.r Fm [(0, AL x146), (1, AL x147), (2, vi x148), (7, AL ([] : List Int)), (8, AL ([] : List Int)), (22, AL (α := (List Rect)) ([x146, x147] : List (List Rect))), (23, vi ((List.length ([x146, x147] : List (List Rect)) : Nat) : Int)), (24, vi (0 : Int))] [] (by kernel_rfl) ?_
    have h : loopN (fun again (z : (List Int) × (List Int) × Int) => ref04_Combine_b0 F x146 x147 x148 again z.1 z.2.1 z.2.2) F (([] : List Int), ([] : List Int), (0 : Int)) = some r := h
    refine AW.loopF (E' := fun z => [(0, AL x146), (1, AL x147), (2, vi x148), (7, AL z.1), (8, AL z.2.1), (22, AL (α := (List Rect)) ([x146, x147] : List (List Rect))), (23, vi ((List.length ([x146, x147] : List (List Rect)) : Nat) : Int)), (24, vi z.2.2)]) (S' := fun z => []) (fun ag_ref04_Combine_b0 z J190 hJ190 h => ?_) h
    obtain ⟨v187, v188, v189⟩ := z
    have h : ref04_Combine_b0 F x146 x147 x148 ag_ref04_Combine_b0 v187 v188 v189 = some r := h
    refine AW.sg0 Fm 1 [(0, AL x146), (1, AL x147), (2, vi x148), (7, AL v187), (8, AL v188), (22, AL (α := (List Rect)) ([x146, x147] : List (List Rect))), (23, vi ((List.length ([x146, x147] : List (List Rect)) : Nat) : Int)), (24, vi v189), (25, vb (decide (v189 < ((List.length ([x146, x147] : List (List Rect)) : Nat) : Int))))] [] (by kernel_rfl) ?_
    refine AW.seq ?_
    refine AW.cond (b := (decide (v189 < ((List.length ([x146, x147] : List (List Rect)) : Nat) : Int)))) (by kernel_rfl) (fun hb191 => ?_) (fun hb191 => ?_)
    · have h := br_t h hb191
      refine AW.skip ?_
      refine AW.join (r := r) (fun z : (List Int) × (List Int) => ref04_Combine_k2 F v189 ag_ref04_Combine_b0 z.1 z.2) (fun z => [(0, AL x146), (1, AL x147), (2, vi x148), (7, AL z.1), (8, AL z.2), (22, AL (α := (List Rect)) ([x146, x147] : List (List Rect))), (23, vi ((List.length ([x146, x147] : List (List Rect)) : Nat) : Int)), (24, vi v189)]) (fun z => []) (fun z h => ?_) (fun J222 hJ222 => ?_)
      · obtain ⟨v220, v221⟩ := z
        have h : ref04_Combine_k2 F v189 ag_ref04_Combine_b0 v220 v221 = some r := h
        obtain ⟨hg223, h⟩ := gd_some h
        refine AW.g Fm [.s, .s] (fun K => (I64 (v189 + (1 : Int)) ∧ True) ∧ True) [(0, AL x146), (1, AL x147), (2, vi x148), (7, AL v220), (8, AL v221), (22, AL (α := (List Rect)) ([x146, x147] : List (List Rect))), (23, vi ((List.length ([x146, x147] : List (List Rect)) : Nat) : Int)), (24, vi (v189 + (1 : Int)))] [] ⟨⟨hg223, True.intro⟩, True.intro⟩ (by kernel_rfl) ?_
        exact Kn.r Fm [(0, AL x146), (1, AL x147), (2, vi x148), (7, AL v220), (8, AL v221), (22, AL (α := (List Rect)) ([x146, x147] : List (List Rect))), (23, vi ((List.length ([x146, x147] : List (List Rect)) : Nat) : Int)), (24, vi (v189 + (1 : Int)))] [] (by kernel_rfl) (hJ190 (v220, v221, (v189 + (1 : Int))) h)
      · refine AW.block ?_
        obtain ⟨hg192, h⟩ := gd_some h
        refine AW.sg Fm [.s, .s, .s] (fun K => (0 ≤ v189 ∧ v189 < ((List.length ([x146, x147] : List (List Rect)) : Nat) : Int)) ∧ True) [(0, AL x146), (1, AL x147), (2, vi x148), (7, AL v187), (8, AL v188), (10, AL (α := Rect) (gl ([x146, x147] : List (List Rect)) v189.toNat)), (22, AL (α := (List Rect)) ([x146, x147] : List (List Rect))), (23, vi ((List.length ([x146, x147] : List (List Rect)) : Nat) : Int)), (24, vi v189)] [] ⟨hg192, True.intro⟩ (by kernel_rfl) ?_
        refine AW.sg0 Fm 3 [(0, AL x146), (1, AL x147), (2, vi x148), (7, AL v187), (8, AL v188), (22, AL (α := (List Rect)) ([x146, x147] : List (List Rect))), (23, vi ((List.length ([x146, x147] : List (List Rect)) : Nat) : Int)), (24, vi v189), (28, AL (α := Rect) (gl ([x146, x147] : List (List Rect)) v189.toNat)), (29, vi ((List.length (gl ([x146, x147] : List (List Rect)) v189.toNat) : Nat) : Int)), (30, vi (0 : Int))] [] (by kernel_rfl) ?_
        refine AW.block ?_
        refine Kn.r Fm [(0, AL x146), (1, AL x147), (2, vi x148), (7, AL v187), (8, AL v188), (22, AL (α := (List Rect)) ([x146, x147] : List (List Rect))), (23, vi ((List.length ([x146, x147] : List (List Rect)) : Nat) : Int)), (24, vi v189), (28, AL (α := Rect) (gl ([x146, x147] : List (List Rect)) v189.toNat)), (29, vi ((List.length (gl ([x146, x147] : List (List Rect)) v189.toNat) : Nat) : Int)), (30, vi (0 : Int))] [] (by kernel_rfl) ?_
        have h : loopN (fun again (z : (List Int) × (List Int) × Int) => ref04_Combine_b1 F x146 x147 v189 ag_ref04_Combine_b0 again z.1 z.2.1 z.2.2) F (v187, v188, (0 : Int)) = some r := h
        refine AW.loopF (E' := fun z => [(0, AL x146), (1, AL x147), (2, vi x148), (7, AL z.1), (8, AL z.2.1), (22, AL (α := (List Rect)) ([x146, x147] : List (List Rect))), (23, vi ((List.length ([x146, x147] : List (List Rect)) : Nat) : Int)), (24, vi v189), (28, AL (α := Rect) (gl ([x146, x147] : List (List Rect)) v189.toNat)), (29, vi ((List.length (gl ([x146, x147] : List (List Rect)) v189.toNat) : Nat) : Int)), (30, vi z.2.2)]) (S' := fun z => []) (fun ag_ref04_Combine_b1 z J208 hJ208 h => ?_) h
        obtain ⟨v205, v206, v207⟩ := z
        have h : ref04_Combine_b1 F x146 x147 v189 ag_ref04_Combine_b0 ag_ref04_Combine_b1 v205 v206 v207 = some r := h
        refine AW.sg0 Fm 1 [(0, AL x146), (1, AL x147), (2, vi x148), (7, AL v205), (8, AL v206), (22, AL (α := (List Rect)) ([x146, x147] : List (List Rect))), (23, vi ((List.length ([x146, x147] : List (List Rect)) : Nat) : Int)), (24, vi v189), (28, AL (α := Rect) (gl ([x146, x147] : List (List Rect)) v189.toNat)), (29, vi ((List.length (gl ([x146, x147] : List (List Rect)) v189.toNat) : Nat) : Int)), (30, vi v207), (31, vb (decide (v207 < ((List.length (gl ([x146, x147] : List (List Rect)) v189.toNat) : Nat) : Int))))] [] (by kernel_rfl) ?_
        refine AW.seq ?_
        refine AW.cond (b := (decide (v207 < ((List.length (gl ([x146, x147] : List (List Rect)) v189.toNat) : Nat) : Int)))) (by kernel_rfl) (fun hb209 => ?_) (fun hb209 => ?_)
        · have h := br_t h hb209
          refine AW.skip ?_
          refine AW.seq ?_
          refine AW.block ?_
          obtain ⟨hg210, h⟩ := gd_some h
          refine AW.sg Fm [.s, .s, .s, .s] (fun K => (0 ≤ v207 ∧ v207 < ((List.length (gl ([x146, x147] : List (List Rect)) v189.toNat) : Nat) : Int)) ∧ True) [(0, AL x146), (1, AL x147), (2, vi x148), (7, AL v205), (8, AL v206), (12, .v (.c (.ptr 12 0))), (22, AL (α := (List Rect)) ([x146, x147] : List (List Rect))), (23, vi ((List.length ([x146, x147] : List (List Rect)) : Nat) : Int)), (24, vi v189), (28, AL (α := Rect) (gl ([x146, x147] : List (List Rect)) v189.toNat)), (29, vi ((List.length (gl ([x146, x147] : List (List Rect)) v189.toNat) : Nat) : Int)), (30, vi v207)] [(12, .box false [ci ((gl (gl ([x146, x147] : List (List Rect)) v189.toNat) v207.toNat).left_), ci ((gl (gl ([x146, x147] : List (List Rect)) v189.toNat) v207.toNat).low_), ci ((gl (gl ([x146, x147] : List (List Rect)) v189.toNat) v207.toNat).right_), ci ((gl (gl ([x146, x147] : List (List Rect)) v189.toNat) v207.toNat).high_)])] ⟨hg210, True.intro⟩ (by kernel_rfl) ?_
          obtain ⟨z211, hz212, h⟩ := bd_some h
          obtain ⟨z213, hz214, h⟩ := bd_some h
          obtain ⟨z215, hz216, h⟩ := bd_some h
          obtain ⟨z217, hz218, h⟩ := bd_some h
          refine AW.g Fm [.s, .s, .s, .k (cE [] [] (AL z211) [] []), .s, .s, .k (cE [] [] (AL z213) [] []), .s, .s, .s, .k (cE [] [] (AL z215) [] []), .s, .s, .k (cE [] [] (AL z217) [] []), .s, .s] (fun K => K 3 ∧ K 6 ∧ K 10 ∧ K 13 ∧ True) [(0, AL x146), (1, AL x147), (2, vi x148), (7, AL z213), (8, AL z217), (22, AL (α := (List Rect)) ([x146, x147] : List (List Rect))), (23, vi ((List.length ([x146, x147] : List (List Rect)) : Nat) : Int)), (24, vi v189), (28, AL (α := Rect) (gl ([x146, x147] : List (List Rect)) v189.toNat)), (29, vi ((List.length (gl ([x146, x147] : List (List Rect)) v189.toNat) : Nat) : Int)), (30, vi v207)] [] ⟨KAt.cl (args := [AL v205, vi (gl (gl ([x146, x147] : List (List Rect)) v189.toNat) v207.toNat).left_]) (ref01_Put_spec hz212) Tryz.call120 [] rfl (by kernel_rfl), KAt.cl (args := [AL z211, vi (gl (gl ([x146, x147] : List (List Rect)) v189.toNat) v207.toNat).right_]) (ref01_Put_spec hz214) Tryz.call120 [] rfl (by kernel_rfl), KAt.cl (args := [AL v206, vi (gl (gl ([x146, x147] : List (List Rect)) v189.toNat) v207.toNat).low_]) (ref01_Put_spec hz216) Tryz.call120 [] rfl (by kernel_rfl), KAt.cl (args := [AL z215, vi (gl (gl ([x146, x147] : List (List Rect)) v189.toNat) v207.toNat).high_]) (ref01_Put_spec hz218) Tryz.call120 [] rfl (by kernel_rfl), True.intro⟩ (by kernel_rfl) ?_
          obtain ⟨hg219, h⟩ := gd_some h
          refine AW.g Fm [.s, .s] (fun K => (I64 (v207 + (1 : Int)) ∧ True) ∧ True) [(0, AL x146), (1, AL x147), (2, vi x148), (7, AL z213), (8, AL z217), (22, AL (α := (List Rect)) ([x146, x147] : List (List Rect))), (23, vi ((List.length ([x146, x147] : List (List Rect)) : Nat) : Int)), (24, vi v189), (28, AL (α := Rect) (gl ([x146, x147] : List (List Rect)) v189.toNat)), (29, vi ((List.length (gl ([x146, x147] : List (List Rect)) v189.toNat) : Nat) : Int)), (30, vi (v207 + (1 : Int)))] [] ⟨⟨hg219, True.intro⟩, True.intro⟩ (by kernel_rfl) ?_
          exact Kn.r Fm [(0, AL x146), (1, AL x147), (2, vi x148), (7, AL z213), (8, AL z217), (22, AL (α := (List Rect)) ([x146, x147] : List (List Rect))), (23, vi ((List.length ([x146, x147] : List (List Rect)) : Nat) : Int)), (24, vi v189), (28, AL (α := Rect) (gl ([x146, x147] : List (List Rect)) v189.toNat)), (29, vi ((List.length (gl ([x146, x147] : List (List Rect)) v189.toNat) : Nat) : Int)), (30, vi (v207 + (1 : Int)))] [] (by kernel_rfl) (hJ208 (z213, z217, (v207 + (1 : Int))) h)
        · have h := br_f h hb209
          refine AW.exit ?_
          exact Kn.r Fm [(0, AL x146), (1, AL x147), (2, vi x148), (7, AL v205), (8, AL v206), (22, AL (α := (List Rect)) ([x146, x147] : List (List Rect))), (23, vi ((List.length ([x146, x147] : List (List Rect)) : Nat) : Int)), (24, vi v189)] [] (by kernel_rfl) (hJ222 (v205, v206) h)
    · have h := br_f h hb191
      refine AW.exit ?_
      exact Kn.r Fm [(0, AL x146), (1, AL x147), (2, vi x148), (7, AL v187), (8, AL v188)] [] (by kernel_rfl) (hJ226 (v187, v188) h)
theorem ref04_Bound_spec {F : Nat} {x450 : (List Rect)} {r : Region × Int} (h : ref04_Bound F x450 = some r) :
    FSpec Tryz.prog 67 [AL x450] [] (.t [.g [.d (DL (α := Rect) r.1.rects_)], .c (ci r.2)]) [] := by
  refine FSpec.intro prog_mixed prog_lay Tryz.func67 rfl (by kernel_rfl) fun C Fm => ?_
  unfold ref04_Bound at h
  refine AW.sg0 Fm 2 [(0, AL x450), (2, .v (.c (.ptr 2 0)))] [(2, .box false [.fl 0 fun _ => []])] (by kernel_rfl) ?_
  refine AW.seq ?_
  refine AW.sg0 Fm 3 [(0, AL x450), (2, .v (.c (.ptr 2 0))), (6, vb (decide ((120 : Int) < ((List.length x450 : Nat) : Int))))] [(2, .box false [.fl 0 fun _ => []])] (by kernel_rfl) ?_
  refine AW.cond (b := (decide ((120 : Int) < ((List.length x450 : Nat) : Int)))) (by kernel_rfl) (fun hb451 => ?_) (fun hb451 => ?_)
  · have h := br_t h hb451
    refine AW.sg Fm [.w (.v (.g [.d (DL (α := Rect) [])])), .s, .s] (fun K => (ALe (.v (.g [.fl 0 fun _ => []])) (.v (.g [.d (DL (α := Rect) [])]))) ∧ True) [(2, .v (.c (.ptr 2 0))), (3, vi (1 : Int))] [(2, .box false [.d (DL (α := Rect) [])])] ⟨ALe.g ⟨CLe.fl .nil, True.intro⟩, True.intro⟩ (by kernel_rfl) ?_
    refine AW.ret ?_
    obtain rfl := Option.some.inj h
    exact Kn.r Fm [(2, .v (.c (.ptr 2 0))), (3, vi (1 : Int))] [(2, .box false [.d (DL (α := Rect) [])])] (by kernel_rfl) (Kn.dn Fm (by kernel_rfl))
  · have h := br_f h hb451
    refine AW.skip ?_
    refine AW.sg0 Fm 4 [(2, .v (.c (.ptr 2 0))), (3, vi (0 : Int))] [(2, .box false [.d (DL x450)])] (by kernel_rfl) ?_
    refine AW.ret ?_
    obtain rfl := Option.some.inj h
    exact Kn.r Fm [(2, .v (.c (.ptr 2 0))), (3, vi (0 : Int))] [(2, .box false [.d (DL x450)])] (by kernel_rfl) (Kn.dn Fm (by kernel_rfl))
theorem ref04_Of_spec {F : Nat} {x452 : (List Rect)} {r : Region × Int} (h : ref04_Of F x452 = some r) :
    FSpec Tryz.prog 18 [AL x452] [] (.t [.g [.d (DL (α := Rect) r.1.rects_)], .c (ci r.2)]) [] := by
  refine FSpec.intro prog_mixed prog_lay Tryz.func18 rfl (by kernel_rfl) fun C Fm => ?_
  unfold ref04_Of at h
  refine AW.sg0 Fm 2 [(0, AL x452), (2, .v (.c (.ptr 2 0)))] [(2, .box false [.fl 0 fun _ => []])] (by kernel_rfl) ?_
  refine AW.seq ?_
  refine AW.sg0 Fm 3 [(0, AL x452), (2, .v (.c (.ptr 2 0))), (8, vb (decide ((120 : Int) < ((List.length x452 : Nat) : Int))))] [(2, .box false [.fl 0 fun _ => []])] (by kernel_rfl) ?_
  refine AW.cond (b := (decide ((120 : Int) < ((List.length x452 : Nat) : Int)))) (by kernel_rfl) (fun hb453 => ?_) (fun hb453 => ?_)
  · have h := br_t h hb453
    refine AW.sg Fm [.w (.v (.g [.d (DL (α := Rect) [])])), .s, .s] (fun K => (ALe (.v (.g [.fl 0 fun _ => []])) (.v (.g [.d (DL (α := Rect) [])]))) ∧ True) [(2, .v (.c (.ptr 2 0))), (3, vi (1 : Int))] [(2, .box false [.d (DL (α := Rect) [])])] ⟨ALe.g ⟨CLe.fl .nil, True.intro⟩, True.intro⟩ (by kernel_rfl) ?_
    refine AW.ret ?_
    obtain rfl := Option.some.inj h
    exact Kn.r Fm [(2, .v (.c (.ptr 2 0))), (3, vi (1 : Int))] [(2, .box false [.d (DL (α := Rect) [])])] (by kernel_rfl) (Kn.dn Fm (by kernel_rfl))
  · have h := br_f h hb453
    refine AW.skip ?_
    refine AW.join (r := r) (fun z : Unit => ref04_Of_k1 F x452) (fun z => [(0, AL x452), (2, .v (.c (.ptr 2 0)))]) (fun z => [(2, .box false [.fl 0 fun _ => []])]) (fun z h => ?_) (fun J469 hJ469 => ?_)
    · have h : ref04_Of_k1 F x452 = some r := h
      refine AW.seq ?_
      obtain ⟨z470, hz471, h⟩ := bd_some h
      obtain ⟨z472, hz473, h⟩ := bd_some h
      refine AW.g Fm [.s, .k (cE [] [] (AL z470) [] []), .k (cE [] [] (.t [.g [.d (DL z472.1.rects_)], .c (ci z472.2)]) [] []), .s, .s, .s, .s] (fun K => K 1 ∧ K 2 ∧ True) [(2, .v (.c (.ptr 2 0))), (3, vi z472.2)] [(2, .box false [.d (DL z472.1.rects_)])] ⟨KAt.callX (args := [AL x452, AL (α := Rect) [], vi (1 : Int)]) (ref04_Combine_spec hz471) Tryz.call64 [] [] [.tmp 21, .const (.slice none 0 0), .const (.int .i64 1)] rfl (by kernel_rfl) (by kernel_rfl) (by kernel_rfl) ⟨ArgT.plain (by kernel_rfl) (ALe.of_eq (by kernel_rfl)) (by kernel_rfl), ArgT.plain (by kernel_rfl) (ALe.c (CLe.fl .nil)) (by kernel_rfl), ArgT.plain (by kernel_rfl) (ALe.of_eq (by kernel_rfl)) (by kernel_rfl), True.intro⟩, KAt.cl (args := [AL z470]) (ref04_Bound_spec hz473) Tryz.call67 [] rfl (by kernel_rfl), True.intro⟩ (by kernel_rfl) ?_
      refine AW.ret ?_
      obtain rfl := Option.some.inj h
      exact Kn.r Fm [(2, .v (.c (.ptr 2 0))), (3, vi z472.2)] [(2, .box false [.d (DL z472.1.rects_)])] (by kernel_rfl) (Kn.dn Fm (by kernel_rfl))
    · refine AW.sg0 Fm 3 [(0, AL x452), (2, .v (.c (.ptr 2 0))), (10, AL x452), (11, vi ((List.length x452 : Nat) : Int)), (12, vi (0 : Int))] [(2, .box false [.fl 0 fun _ => []])] (by kernel_rfl) ?_
      refine AW.block ?_
      refine Kn.r Fm [(0, AL x452), (2, .v (.c (.ptr 2 0))), (10, AL x452), (11, vi ((List.length x452 : Nat) : Int)), (12, vi (0 : Int))] [(2, .box false [.fl 0 fun _ => []])] (by kernel_rfl) ?_
      have h : loopN (fun again (z : Int) => ref04_Of_b0 F x452 again z) F (0 : Int) = some r := h
      refine AW.loopF (E' := fun z => [(0, AL x452), (2, .v (.c (.ptr 2 0))), (10, AL x452), (11, vi ((List.length x452 : Nat) : Int)), (12, vi z)]) (S' := fun z => [(2, .box false [.fl 0 fun _ => []])]) (fun ag_ref04_Of_b0 v461 J462 hJ462 h => ?_) h
      have h : ref04_Of_b0 F x452 ag_ref04_Of_b0 v461 = some r := h
      refine AW.sg0 Fm 1 [(0, AL x452), (2, .v (.c (.ptr 2 0))), (10, AL x452), (11, vi ((List.length x452 : Nat) : Int)), (12, vi v461), (13, vb (decide (v461 < ((List.length x452 : Nat) : Int))))] [(2, .box false [.fl 0 fun _ => []])] (by kernel_rfl) ?_
      refine AW.seq ?_
      refine AW.cond (b := (decide (v461 < ((List.length x452 : Nat) : Int)))) (by kernel_rfl) (fun hb463 => ?_) (fun hb463 => ?_)
      · have h := br_t h hb463
        refine AW.skip ?_
        refine AW.seq ?_
        refine AW.block ?_
        obtain ⟨hg464, h⟩ := gd_some h
        refine AW.sg Fm [.s, .s, .s, .s] (fun K => (0 ≤ v461 ∧ v461 < ((List.length x452 : Nat) : Int)) ∧ True) [(0, AL x452), (2, .v (.c (.ptr 2 0))), (5, .v (.c (.ptr 5 0))), (10, AL x452), (11, vi ((List.length x452 : Nat) : Int)), (12, vi v461)] [(2, .box false [.fl 0 fun _ => []]), (5, .box false [ci ((gl x452 v461.toNat).left_), ci ((gl x452 v461.toNat).low_), ci ((gl x452 v461.toNat).right_), ci ((gl x452 v461.toNat).high_)])] ⟨hg464, True.intro⟩ (by kernel_rfl) ?_
        refine AW.seq ?_
        obtain ⟨z465, hz466, h⟩ := bd_some h
        refine AW.g Fm [.s, .k (cE [] [] (vb z465) [] []), .s] (fun K => K 1 ∧ True) [(0, AL x452), (2, .v (.c (.ptr 2 0))), (10, AL x452), (11, vi ((List.length x452 : Nat) : Int)), (12, vi v461), (18, vb (!z465))] [(2, .box false [.fl 0 fun _ => []])] ⟨KAt.cl (args := [.v (.g [ci ((gl x452 v461.toNat).left_), ci ((gl x452 v461.toNat).low_), ci ((gl x452 v461.toNat).right_), ci ((gl x452 v461.toNat).high_)])]) (ref04_proper_spec hz466) Tryz.call62 [] rfl (by kernel_rfl), True.intro⟩ (by kernel_rfl) ?_
        refine AW.cond (b := (!z465)) (by kernel_rfl) (fun hb467 => ?_) (fun hb467 => ?_)
        · have h := br_t h hb467
          refine AW.sg Fm [.w (.v (.g [.d (DL (α := Rect) [])])), .s, .s] (fun K => (ALe (.v (.g [.fl 0 fun _ => []])) (.v (.g [.d (DL (α := Rect) [])]))) ∧ True) [(2, .v (.c (.ptr 2 0))), (3, vi (2 : Int))] [(2, .box false [.d (DL (α := Rect) [])])] ⟨ALe.g ⟨CLe.fl .nil, True.intro⟩, True.intro⟩ (by kernel_rfl) ?_
          refine AW.ret ?_
          obtain rfl := Option.some.inj h
          exact Kn.r Fm [(2, .v (.c (.ptr 2 0))), (3, vi (2 : Int))] [(2, .box false [.d (DL (α := Rect) [])])] (by kernel_rfl) (Kn.dn Fm (by kernel_rfl))
        · have h := br_f h hb467
          refine AW.skip ?_
          obtain ⟨hg468, h⟩ := gd_some h
          refine AW.g Fm [.s, .s] (fun K => (I64 (v461 + (1 : Int)) ∧ True) ∧ True) [(0, AL x452), (2, .v (.c (.ptr 2 0))), (10, AL x452), (11, vi ((List.length x452 : Nat) : Int)), (12, vi (v461 + (1 : Int)))] [(2, .box false [.fl 0 fun _ => []])] ⟨⟨hg468, True.intro⟩, True.intro⟩ (by kernel_rfl) ?_
          exact Kn.r Fm [(0, AL x452), (2, .v (.c (.ptr 2 0))), (10, AL x452), (11, vi ((List.length x452 : Nat) : Int)), (12, vi (v461 + (1 : Int)))] [(2, .box false [.fl 0 fun _ => []])] (by kernel_rfl) (hJ462 (v461 + (1 : Int)) h)
      · have h := br_f h hb463
        refine AW.exit ?_
        exact Kn.r Fm [(0, AL x452), (2, .v (.c (.ptr 2 0)))] [(2, .box false [.fl 0 fun _ => []])] (by kernel_rfl) (hJ469 () h)
theorem keep_Tape_Region_spec {F : Nat} {x474 : Tape} {x475 : Int} {x476 : Int} {r : Tape × Region} (h : keep_Tape_Region F x474 x475 x476 = some r) :
    FSpec Tryz.prog 13 [.v (.c (.ptr 0 0)), vi x475, vi x476] [(0, .box false (gC x474))] (.v (.g [.d (DL (α := Rect) r.2.rects_)])) [(0, .box false (gC r.1))] := by
  refine FSpec.intro prog_mixed prog_lay Tryz.func13 rfl (by kernel_rfl) fun C Fm => ?_
  unfold keep_Tape_Region at h
  refine AW.sg0 Fm 1 [(0, .v (.c (.ptr 0 0))), (1, vi x475), (2, vi x476), (6, .v (.c (.ptr 6 0)))] [(0, .box false (gC x474)), (6, .box false [.fl 0 fun _ => []])] (by kernel_rfl) ?_
  refine AW.sg Fm [.m] (fun K => True) [(0, .v (.c (.ptr 0 0))), (1, vi x475), (2, vi x476), (6, .v (.c (.ptr 6 0))), (7, .v (.c (.own 7)))] [(0, .box false (gC x474)), (6, .box false [.fl 0 fun _ => []]), (7, .arr 4 (0) (fun _ => []))] True.intro (by kernel_rfl) ?_
  refine Kn.wk [(0, .v (.c (.ptr 0 0))), (1, vi x475), (2, vi x476), (6, .v (.c (.ptr 6 0))), (7, .v (.c (.own 7)))] [(0, .box false (gC x474)), (6, .box false [.fl 0 fun _ => []]), (7, AO (α := Rect) ([] : List Rect))] (FE.refl _) (⟨rfl, OLe.refl _, ⟨rfl, OLe.refl _, ⟨rfl, OLe.is ((Is.nil (α := Rect))), True.intro⟩⟩⟩) ?_
  refine AW.join (r := r) (fun z : (List Rect) × (List Int) × Int => keep_Tape_Region_k1 F z.1 z.2.1 z.2.2) (fun z => [(6, .v (.c (.ptr 6 0))), (7, .v (.c (.own 7)))]) (fun z => [(0, .box false [.d (DL z.2.1), ci z.2.2]), (6, .box false [.fl 0 fun _ => []]), (7, AO z.1)]) (fun z h => ?_) (fun J499 hJ499 => ?_)
  · obtain ⟨v496, v497, v498⟩ := z
    have h : keep_Tape_Region_k1 F v496 v497 v498 = some r := h
    refine AW.seq ?_
    refine Kn.r Fm [(6, .v (.c (.ptr 6 0))), (7, .v (.c (.own 7)))] [(7, AO v496), (0, .box false [.d (DL v497), ci v498]), (6, .box false [.fl 0 fun _ => []])] (by kernel_rfl) ?_
    refine Kn.frz [(6, .v (.c (.ptr 6 0))), (7, AL v496)] [(0, .box false [.d (DL v497), ci v498]), (6, .box false [.fl 0 fun _ => []])] (by kernel_rfl) (by kernel_rfl) (by kernel_rfl) ?_
    obtain ⟨z500, hz501, h⟩ := bd_some h
    refine AW.g Fm [.s, .k (cE [] [] (.t [.g [.d (DL z500.1.rects_)], .c (ci z500.2)]) [] []), .s, .s, .s, .s, .s, .s] (fun K => K 1 ∧ True) [(6, .v (.c (.ptr 6 0))), (9, .v (.c (.ptr 9 0)))] [(0, .box false [.d (DL v497), ci v498]), (6, .box false [.fl 0 fun _ => []]), (9, .box false [.d (DL z500.1.rects_)])] ⟨KAt.cl (args := [AL v496]) (ref04_Of_spec hz501) Tryz.call18 [] rfl (by kernel_rfl), True.intro⟩ (by kernel_rfl) ?_
    refine AW.sg0 Fm 2 [(6, .v (.c (.ptr 6 0)))] [(0, .box false [.d (DL v497), ci v498]), (6, .box false [.d (DL z500.1.rects_)])] (by kernel_rfl) ?_
    refine AW.ret ?_
    obtain rfl := Option.some.inj h
    exact Kn.r Fm [(6, .v (.c (.ptr 6 0)))] [(0, .box false [.d (DL v497), ci v498]), (6, .box false [.d (DL z500.1.rects_)])] (by kernel_rfl) (Kn.dn Fm (by kernel_rfl))
  · refine AW.seq ?_
    obtain ⟨hg477, h⟩ := gd_some h
    obtain ⟨z478, hz479, h⟩ := bd_some h
    refine AW.g Fm [.s, .s, .s, .k (cE [(0, 0)] [] (vi z478.2) [(0, .box false (gC x474))] [(0, .box false (gC z478.1))]), .s] (fun K => (I64 (x476 + (1 : Int)) ∧ True) ∧ K 3 ∧ True) [(0, .v (.c (.ptr 0 0))), (1, vi x475), (6, .v (.c (.ptr 6 0))), (7, .v (.c (.own 7))), (8, vi z478.2)] [(0, .box false (gC z478.1)), (6, .box false [.fl 0 fun _ => []]), (7, AO (α := Rect) ([] : List Rect))] ⟨⟨hg477, True.intro⟩, KAt.cl (args := [.v (.c (.ptr 0 0)), vi (x476 + (1 : Int))]) (keep_Tape_Next_spec hz479) Tryz.call30 [(0, 0)] rfl (by kernel_rfl), True.intro⟩ (by kernel_rfl) ?_
    refine AW.block ?_
    refine Kn.r Fm [(0, .v (.c (.ptr 0 0))), (1, vi x475), (6, .v (.c (.ptr 6 0))), (7, .v (.c (.own 7))), (8, vi z478.2)] [(0, .box false [.d (DL z478.1.l_), ci z478.1.at_]), (6, .box false [.fl 0 fun _ => []]), (7, AO ([] : List Rect))] (by kernel_rfl) ?_
    have h : loopN (fun again (z : Int × (List Int) × Int × (List Rect)) => keep_Tape_Region_b0 F x475 again z.1 z.2.1 z.2.2.1 z.2.2.2) F (z478.2, z478.1.l_, z478.1.at_, ([] : List Rect)) = some r := h
    refine AW.loopF (E' := fun z => [(0, .v (.c (.ptr 0 0))), (1, vi x475), (6, .v (.c (.ptr 6 0))), (7, .v (.c (.own 7))), (8, vi z.1)]) (S' := fun z => [(0, .box false [.d (DL z.2.1), ci z.2.2.1]), (6, .box false [.fl 0 fun _ => []]), (7, AO z.2.2.2)]) (fun ag_keep_Tape_Region_b0 z J490 hJ490 h => ?_) h
    obtain ⟨v486, v487, v488, v489⟩ := z
    have h : keep_Tape_Region_b0 F x475 ag_keep_Tape_Region_b0 v486 v487 v488 v489 = some r := h
    refine AW.seq ?_
    refine AW.sg0 Fm 2 [(0, .v (.c (.ptr 0 0))), (1, vi x475), (6, .v (.c (.ptr 6 0))), (7, .v (.c (.own 7))), (8, vi v486), (16, vb (decide ((0 : Int) < v486)))] [(0, .box false [.d (DL v487), ci v488]), (6, .box false [.fl 0 fun _ => []]), (7, AO v489)] (by kernel_rfl) ?_
    refine AW.cond (b := (decide ((0 : Int) < v486))) (by kernel_rfl) (fun hb491 => ?_) (fun hb491 => ?_)
    · have h := br_t h hb491
      refine AW.skip ?_
      refine AW.seq ?_
      refine AW.block ?_
      obtain ⟨z492, hz493, h⟩ := bd_some h
      obtain ⟨hg494, h⟩ := gd_some h
      refine AW.g Fm [.s, .s, .s, .k (cE [(0, 0)] [] (gE z492.2) [(0, .box false [.d (DL (α := Int) (⟨v487, v488⟩ : Tape).l_), ci ((⟨v487, v488⟩ : Tape).at_)])] [(0, .box false (gC z492.1))]), .w (AL (α := Rect) ([z492.2] : List Rect)), .s, .s] (fun K => K 3 ∧ (ALe (.v (.c (.d (.lst 1 (litF 4 [.int .i64 z492.2.left_, .int .i64 z492.2.low_, .int .i64 z492.2.right_, .int .i64 z492.2.high_]))))) (AL (α := Rect) ([z492.2] : List Rect))) ∧ ((List.length (α := Rect) v489) + (List.length (α := Rect) ([z492.2] : List Rect)) ≤ LIM ∧ (∀ j, j < List.length (α := Rect) ([z492.2] : List Rect) → ((LF (α := Rect) ([z492.2] : List Rect)) j).length = 4) ∧ (True)) ∧ True) [(0, .v (.c (.ptr 0 0))), (1, vi x475), (6, .v (.c (.ptr 6 0))), (7, .v (.c (.own 24))), (8, vi v486)] [(0, .box false (gC z492.1)), (6, .box false [.fl 0 fun _ => []]), (24, .arr 4 ((List.length (α := Rect) v489) + (List.length (α := Rect) ([z492.2] : List Rect))) (appF (List.length (α := Rect) v489) (LF (α := Rect) v489) (LF (α := Rect) ([z492.2] : List Rect))))] ⟨KAt.cl (args := [.v (.c (.ptr 0 0)), vi x475]) (keep_Tape_Rect_spec hz493) Tryz.call54 [(0, 0)] rfl (by kernel_rfl), ALe.lst (.lit ([z492.2] : List Rect) (by kernel_rfl)), ⟨hg494, (Is.refl ([z492.2] : List Rect) : Is (List.length (α := Rect) ([z492.2] : List Rect)) (LF (α := Rect) ([z492.2] : List Rect)) ([z492.2] : List Rect)).len, True.intro⟩, True.intro⟩ (by kernel_rfl) ?_
      refine Kn.wk [(0, .v (.c (.ptr 0 0))), (1, vi x475), (6, .v (.c (.ptr 6 0))), (7, .v (.c (.own 24))), (8, vi v486)] [(0, .box false (gC z492.1)), (6, .box false [.fl 0 fun _ => []]), (24, AO (α := Rect) (v489 ++ ([z492.2] : List Rect)))] (FE.refl _) (⟨rfl, OLe.refl _, ⟨rfl, OLe.refl _, ⟨rfl, OLe.is (Is.app (Is.refl v489) (Is.refl ([z492.2] : List Rect))), True.intro⟩⟩⟩) ?_
      obtain ⟨hg495, h⟩ := gd_some h
      refine AW.g Fm [.s, .s, .s] (fun K => (I64 (v486 - (1 : Int)) ∧ True) ∧ True) [(0, .v (.c (.ptr 0 0))), (1, vi x475), (6, .v (.c (.ptr 6 0))), (7, .v (.c (.own 24))), (8, vi (v486 - (1 : Int)))] [(0, .box false (gC z492.1)), (6, .box false [.fl 0 fun _ => []]), (24, AO (α := Rect) (v489 ++ ([z492.2] : List Rect)))] ⟨⟨hg495, True.intro⟩, True.intro⟩ (by kernel_rfl) ?_
      exact Kn.re Fm [(7, 24)] [(0, .v (.c (.ptr 0 0))), (1, vi x475), (6, .v (.c (.ptr 6 0))), (7, .v (.c (.own 7))), (8, vi (v486 - (1 : Int)))] [(0, .box false [.d (DL z492.1.l_), ci z492.1.at_]), (6, .box false [.fl 0 fun _ => []]), (7, AO (v489 ++ ([z492.2] : List Rect)))] (by kernel_rfl) (by kernel_rfl) (by kernel_rfl) (by kernel_rfl) (hJ490 ((v486 - (1 : Int)), z492.1.l_, z492.1.at_, (v489 ++ ([z492.2] : List Rect))) h)
    · have h := br_f h hb491
      refine AW.exit ?_
      exact Kn.r Fm [(6, .v (.c (.ptr 6 0))), (7, .v (.c (.own 7)))] [(0, .box false [.d (DL v487), ci v488]), (6, .box false [.fl 0 fun _ => []]), (7, AO v489)] (by kernel_rfl) (hJ499 (v489, v487, v488) h)
theorem ref04_Rects_spec {F : Nat} {x525 : (List Rect)} {x526 : (List Rect)} {r : Bool} (h : ref04_Rects F x525 x526 = some r) :
    FSpec Tryz.prog 63 [AL x525, AL x526] [] (vb r) [] := by
  refine FSpec.intro prog_mixed prog_lay Tryz.func63 rfl (by kernel_rfl) fun C Fm => ?_
  unfold ref04_Rects at h
  refine AW.sg0 Fm 1 [(0, AL x525), (1, AL x526)] [] (by kernel_rfl) ?_
  refine AW.seq ?_
  refine AW.sg0 Fm 5 [(0, AL x525), (1, AL x526), (10, vb (((List.length x525 : Nat) : Int) != ((List.length x526 : Nat) : Int)))] [] (by kernel_rfl) ?_
  refine AW.cond (b := (((List.length x525 : Nat) : Int) != ((List.length x526 : Nat) : Int))) (by kernel_rfl) (fun hb527 => ?_) (fun hb527 => ?_)
  · have h := br_t h hb527
    refine AW.sg0 Fm 1 [(4, vb false)] [] (by kernel_rfl) ?_
    refine AW.ret ?_
    obtain rfl := Option.some.inj h
    exact Kn.r Fm [(4, vb false)] [] (by kernel_rfl) (Kn.dn Fm (by kernel_rfl))
  · have h := br_f h hb527
    refine AW.skip ?_
    refine AW.join (r := r) (fun z : Unit => ref04_Rects_k1 F) (fun z => []) (fun z => []) (fun z h => ?_) (fun J541 hJ541 => ?_)
    · have h : ref04_Rects_k1 F = some r := h
      refine AW.sg0 Fm 1 [(4, vb true)] [] (by kernel_rfl) ?_
      refine AW.ret ?_
      obtain rfl := Option.some.inj h
      exact Kn.r Fm [(4, vb true)] [] (by kernel_rfl) (Kn.dn Fm (by kernel_rfl))
    · refine AW.sg0 Fm 3 [(0, AL x525), (1, AL x526), (12, vi ((List.length x525 : Nat) : Int)), (13, vi (0 : Int))] [] (by kernel_rfl) ?_
      refine AW.block ?_
      refine Kn.r Fm [(0, AL x525), (1, AL x526), (12, vi ((List.length x525 : Nat) : Int)), (13, vi (0 : Int))] [] (by kernel_rfl) ?_
      have h : loopN (fun again (z : Int) => ref04_Rects_b0 F x525 x526 again z) F (0 : Int) = some r := h
      refine AW.loopF (E' := fun z => [(0, AL x525), (1, AL x526), (12, vi ((List.length x525 : Nat) : Int)), (13, vi z)]) (S' := fun z => []) (fun ag_ref04_Rects_b0 v534 J535 hJ535 h => ?_) h
      have h : ref04_Rects_b0 F x525 x526 ag_ref04_Rects_b0 v534 = some r := h
      refine AW.sg0 Fm 1 [(0, AL x525), (1, AL x526), (12, vi ((List.length x525 : Nat) : Int)), (13, vi v534), (14, vb (decide (v534 < ((List.length x525 : Nat) : Int))))] [] (by kernel_rfl) ?_
      refine AW.seq ?_
      refine AW.cond (b := (decide (v534 < ((List.length x525 : Nat) : Int)))) (by kernel_rfl) (fun hb536 => ?_) (fun hb536 => ?_)
      · have h := br_t h hb536
        refine AW.skip ?_
        refine AW.seq ?_
        refine AW.block ?_
        refine AW.sg0 Fm 2 [(0, AL x525), (1, AL x526), (5, vi v534), (12, vi ((List.length x525 : Nat) : Int)), (13, vi v534)] [] (by kernel_rfl) ?_
        obtain ⟨hg537, h⟩ := gd_some h
        obtain ⟨hg538, h⟩ := gd_some h
        refine AW.sg Fm [.s, .s, .s, .s, .s, .s, .s, .s, .k (sE (vb (!((((gl x525 v534.toNat).left_) == ((gl x526 v534.toNat).left_)) && ((((gl x525 v534.toNat).low_) == ((gl x526 v534.toNat).low_)) && ((((gl x525 v534.toNat).right_) == ((gl x526 v534.toNat).right_)) && ((((gl x525 v534.toNat).high_) == ((gl x526 v534.toNat).high_)) && true)))))))] (fun K => (0 ≤ v534 ∧ v534 < ((List.length x525 : Nat) : Int)) ∧ (0 ≤ v534 ∧ v534 < ((List.length x526 : Nat) : Int)) ∧ K 8 ∧ True) [(0, AL x525), (1, AL x526), (12, vi ((List.length x525 : Nat) : Int)), (13, vi v534), (24, vb (!((((gl x525 v534.toNat).left_) == ((gl x526 v534.toNat).left_)) && ((((gl x525 v534.toNat).low_) == ((gl x526 v534.toNat).low_)) && ((((gl x525 v534.toNat).right_) == ((gl x526 v534.toNat).right_)) && ((((gl x525 v534.toNat).high_) == ((gl x526 v534.toNat).high_)) && true))))))] [] ⟨hg537, hg538, KAt.eq (xs := [ci ((gl x525 v534.toNat).left_), ci ((gl x525 v534.toNat).low_), ci ((gl x525 v534.toNat).right_), ci ((gl x525 v534.toNat).high_)]) (ys := [ci ((gl x526 v534.toNat).left_), ci ((gl x526 v534.toNat).low_), ci ((gl x526 v534.toNat).right_), ci ((gl x526 v534.toNat).high_)]) eqT73 false (b := ((((gl x525 v534.toNat).left_) == ((gl x526 v534.toNat).left_)) && ((((gl x525 v534.toNat).low_) == ((gl x526 v534.toNat).low_)) && ((((gl x525 v534.toNat).right_) == ((gl x526 v534.toNat).right_)) && ((((gl x525 v534.toNat).high_) == ((gl x526 v534.toNat).high_)) && true))))) rfl rfl (by kernel_rfl) (by kernel_rfl) (by kernel_rfl) (by kernel_rfl), True.intro⟩ (by kernel_rfl) ?_
        refine AW.cond (b := (!((((gl x525 v534.toNat).left_) == ((gl x526 v534.toNat).left_)) && ((((gl x525 v534.toNat).low_) == ((gl x526 v534.toNat).low_)) && ((((gl x525 v534.toNat).right_) == ((gl x526 v534.toNat).right_)) && ((((gl x525 v534.toNat).high_) == ((gl x526 v534.toNat).high_)) && true)))))) (by kernel_rfl) (fun hb539 => ?_) (fun hb539 => ?_)
        · have h := br_t h hb539
          refine AW.sg0 Fm 1 [(4, vb false)] [] (by kernel_rfl) ?_
          refine AW.ret ?_
          obtain rfl := Option.some.inj h
          exact Kn.r Fm [(4, vb false)] [] (by kernel_rfl) (Kn.dn Fm (by kernel_rfl))
        · have h := br_f h hb539
          refine AW.skip ?_
          obtain ⟨hg540, h⟩ := gd_some h
          refine AW.g Fm [.s, .s] (fun K => (I64 (v534 + (1 : Int)) ∧ True) ∧ True) [(0, AL x525), (1, AL x526), (12, vi ((List.length x525 : Nat) : Int)), (13, vi (v534 + (1 : Int)))] [] ⟨⟨hg540, True.intro⟩, True.intro⟩ (by kernel_rfl) ?_
          exact Kn.r Fm [(0, AL x525), (1, AL x526), (12, vi ((List.length x525 : Nat) : Int)), (13, vi (v534 + (1 : Int)))] [] (by kernel_rfl) (hJ535 (v534 + (1 : Int)) h)
      · have h := br_f h hb536
        refine AW.exit ?_
        exact Kn.r Fm [] [] (by kernel_rfl) (hJ541 () h)
theorem ref04_Valid_spec {F : Nat} {x542 : Region} {r : Bool} (h : ref04_Valid F x542 = some r) :
    FSpec Tryz.prog 15 [.v (.g [.d (DL x542.rects_)])] [] (vb r) [] := by
  refine FSpec.intro prog_mixed prog_lay Tryz.func15 rfl (by kernel_rfl) fun C Fm => ?_
  unfold ref04_Valid at h
  refine AW.sg0 Fm 2 [(1, .v (.c (.ptr 1 0)))] [(1, .box false [.d (DL x542.rects_)])] (by kernel_rfl) ?_
  refine AW.seq ?_
  refine AW.sg0 Fm 4 [(1, .v (.c (.ptr 1 0))), (8, vb (decide ((120 : Int) < ((List.length x542.rects_ : Nat) : Int))))] [(1, .box false [.d (DL x542.rects_)])] (by kernel_rfl) ?_
  refine AW.cond (b := (decide ((120 : Int) < ((List.length x542.rects_ : Nat) : Int)))) (by kernel_rfl) (fun hb543 => ?_) (fun hb543 => ?_)
  · have h := br_t h hb543
    refine AW.sg0 Fm 1 [(2, vb false)] [] (by kernel_rfl) ?_
    refine AW.ret ?_
    obtain rfl := Option.some.inj h
    exact Kn.r Fm [(2, vb false)] [] (by kernel_rfl) (Kn.dn Fm (by kernel_rfl))
  · have h := br_f h hb543
    refine AW.skip ?_
    refine AW.join (r := r) (fun z : Unit => ref04_Valid_k1 F x542) (fun z => [(1, .v (.c (.ptr 1 0)))]) (fun z => [(1, .box false [.d (DL x542.rects_)])]) (fun z h => ?_) (fun J559 hJ559 => ?_)
    · have h : ref04_Valid_k1 F x542 = some r := h
      refine AW.seq ?_
      obtain ⟨z560, hz561, h⟩ := bd_some h
      obtain ⟨z562, hz563, h⟩ := bd_some h
      refine AW.g Fm [.s, .s, .k (cE [] [] (AL z560) [] []), .s, .s, .k (cE [] [] (vb z562) [] []), .s] (fun K => K 2 ∧ K 5 ∧ True) [(2, vb z562)] [] ⟨KAt.callX (args := [AL x542.rects_, AL (α := Rect) [], vi (1 : Int)]) (ref04_Combine_spec hz561) Tryz.call64 [] [] [.tmp 21, .const (.slice none 0 0), .const (.int .i64 1)] rfl (by kernel_rfl) (by kernel_rfl) (by kernel_rfl) ⟨ArgT.plain (by kernel_rfl) (ALe.of_eq (by kernel_rfl)) (by kernel_rfl), ArgT.plain (by kernel_rfl) (ALe.c (CLe.fl .nil)) (by kernel_rfl), ArgT.plain (by kernel_rfl) (ALe.of_eq (by kernel_rfl)) (by kernel_rfl), True.intro⟩, KAt.cl (args := [AL z560, AL x542.rects_]) (ref04_Rects_spec hz563) Tryz.call63 [] rfl (by kernel_rfl), True.intro⟩ (by kernel_rfl) ?_
      refine AW.ret ?_
      obtain rfl := Option.some.inj h
      exact Kn.r Fm [(2, vb z562)] [] (by kernel_rfl) (Kn.dn Fm (by kernel_rfl))
    · refine AW.sg0 Fm 4 [(1, .v (.c (.ptr 1 0))), (10, AL x542.rects_), (11, vi ((List.length x542.rects_ : Nat) : Int)), (12, vi (0 : Int))] [(1, .box false [.d (DL x542.rects_)])] (by kernel_rfl) ?_
      refine AW.block ?_
      refine Kn.r Fm [(1, .v (.c (.ptr 1 0))), (10, AL x542.rects_), (11, vi ((List.length x542.rects_ : Nat) : Int)), (12, vi (0 : Int))] [(1, .box false [.d (DL x542.rects_)])] (by kernel_rfl) ?_
      have h : loopN (fun again (z : Int) => ref04_Valid_b0 F x542 again z) F (0 : Int) = some r := h
      refine AW.loopF (E' := fun z => [(1, .v (.c (.ptr 1 0))), (10, AL x542.rects_), (11, vi ((List.length x542.rects_ : Nat) : Int)), (12, vi z)]) (S' := fun z => [(1, .box false [.d (DL x542.rects_)])]) (fun ag_ref04_Valid_b0 v551 J552 hJ552 h => ?_) h
      have h : ref04_Valid_b0 F x542 ag_ref04_Valid_b0 v551 = some r := h
      refine AW.sg0 Fm 1 [(1, .v (.c (.ptr 1 0))), (10, AL x542.rects_), (11, vi ((List.length x542.rects_ : Nat) : Int)), (12, vi v551), (13, vb (decide (v551 < ((List.length x542.rects_ : Nat) : Int))))] [(1, .box false [.d (DL x542.rects_)])] (by kernel_rfl) ?_
      refine AW.seq ?_
      refine AW.cond (b := (decide (v551 < ((List.length x542.rects_ : Nat) : Int)))) (by kernel_rfl) (fun hb553 => ?_) (fun hb553 => ?_)
      · have h := br_t h hb553
        refine AW.skip ?_
        refine AW.seq ?_
        refine AW.block ?_
        obtain ⟨hg554, h⟩ := gd_some h
        refine AW.sg Fm [.s, .s, .s, .s] (fun K => (0 ≤ v551 ∧ v551 < ((List.length x542.rects_ : Nat) : Int)) ∧ True) [(1, .v (.c (.ptr 1 0))), (4, .v (.c (.ptr 4 0))), (10, AL x542.rects_), (11, vi ((List.length x542.rects_ : Nat) : Int)), (12, vi v551)] [(1, .box false [.d (DL x542.rects_)]), (4, .box false [ci ((gl x542.rects_ v551.toNat).left_), ci ((gl x542.rects_ v551.toNat).low_), ci ((gl x542.rects_ v551.toNat).right_), ci ((gl x542.rects_ v551.toNat).high_)])] ⟨hg554, True.intro⟩ (by kernel_rfl) ?_
        refine AW.seq ?_
        obtain ⟨z555, hz556, h⟩ := bd_some h
        refine AW.g Fm [.s, .k (cE [] [] (vb z555) [] []), .s] (fun K => K 1 ∧ True) [(1, .v (.c (.ptr 1 0))), (10, AL x542.rects_), (11, vi ((List.length x542.rects_ : Nat) : Int)), (12, vi v551), (18, vb (!z555))] [(1, .box false [.d (DL x542.rects_)])] ⟨KAt.cl (args := [.v (.g [ci ((gl x542.rects_ v551.toNat).left_), ci ((gl x542.rects_ v551.toNat).low_), ci ((gl x542.rects_ v551.toNat).right_), ci ((gl x542.rects_ v551.toNat).high_)])]) (ref04_proper_spec hz556) Tryz.call62 [] rfl (by kernel_rfl), True.intro⟩ (by kernel_rfl) ?_
        refine AW.cond (b := (!z555)) (by kernel_rfl) (fun hb557 => ?_) (fun hb557 => ?_)
        · have h := br_t h hb557
          refine AW.sg0 Fm 1 [(2, vb false)] [] (by kernel_rfl) ?_
          refine AW.ret ?_
          obtain rfl := Option.some.inj h
          exact Kn.r Fm [(2, vb false)] [] (by kernel_rfl) (Kn.dn Fm (by kernel_rfl))
        · have h := br_f h hb557
          refine AW.skip ?_
          obtain ⟨hg558, h⟩ := gd_some h
          refine AW.g Fm [.s, .s] (fun K => (I64 (v551 + (1 : Int)) ∧ True) ∧ True) [(1, .v (.c (.ptr 1 0))), (10, AL x542.rects_), (11, vi ((List.length x542.rects_ : Nat) : Int)), (12, vi (v551 + (1 : Int)))] [(1, .box false [.d (DL x542.rects_)])] ⟨⟨hg558, True.intro⟩, True.intro⟩ (by kernel_rfl) ?_
          exact Kn.r Fm [(1, .v (.c (.ptr 1 0))), (10, AL x542.rects_), (11, vi ((List.length x542.rects_ : Nat) : Int)), (12, vi (v551 + (1 : Int)))] [(1, .box false [.d (DL x542.rects_)])] (by kernel_rfl) (hJ552 (v551 + (1 : Int)) h)
      · have h := br_f h hb553
        refine AW.exit ?_
        exact Kn.r Fm [(1, .v (.c (.ptr 1 0)))] [(1, .box false [.d (DL x542.rects_)])] (by kernel_rfl) (hJ559 () h)
theorem slices_IndexFunc_Rect_spec {F : Nat} {x695 : (List Rect)} {x696 : Rect → Option Bool} {r : Int} (h : slices_IndexFunc_Rect F x695 x696 = some r) :
    FSpec Tryz.prog 155 [AL x695, .v (.c (.sem (CloOK Tryz.prog (FR_Rect_Bool x696))))] [] (vi r) [] := by
  refine FSpec.intro prog_mixed prog_lay Tryz.func155 rfl (by kernel_rfl) fun C Fm => ?_
  unfold slices_IndexFunc_Rect at h
  refine AW.sg0 Fm 1 [(0, AL x695), (1, .v (.c (.sem (CloOK Tryz.prog (FR_Rect_Bool x696)))))] [] (by kernel_rfl) ?_
  refine AW.join (r := r) (fun z : Unit => slices_IndexFunc_Rect_k1 F) (fun z => []) (fun z => []) (fun z h => ?_) (fun J712 hJ712 => ?_)
  · have h : slices_IndexFunc_Rect_k1 F = some r := h
    refine AW.sg0 Fm 1 [(4, vi (-1 : Int))] [] (by kernel_rfl) ?_
    refine AW.ret ?_
    obtain rfl := Option.some.inj h
    exact Kn.r Fm [(4, vi (-1 : Int))] [] (by kernel_rfl) (Kn.dn Fm (by kernel_rfl))
  · refine AW.sg0 Fm 3 [(0, AL x695), (1, .v (.c (.sem (CloOK Tryz.prog (FR_Rect_Bool x696))))), (7, vi ((List.length x695 : Nat) : Int)), (8, vi (0 : Int))] [] (by kernel_rfl) ?_
    refine AW.block ?_
    refine Kn.r Fm [(0, AL x695), (1, .v (.c (.sem (CloOK Tryz.prog (FR_Rect_Bool x696))))), (7, vi ((List.length x695 : Nat) : Int)), (8, vi (0 : Int))] [] (by kernel_rfl) ?_
    have h : loopN (fun again (z : Int) => slices_IndexFunc_Rect_b0 F x695 x696 again z) F (0 : Int) = some r := h
    refine AW.loopF (E' := fun z => [(0, AL x695), (1, .v (.c (.sem (CloOK Tryz.prog (FR_Rect_Bool x696))))), (7, vi ((List.length x695 : Nat) : Int)), (8, vi z)]) (S' := fun z => []) (fun ag_slices_IndexFunc_Rect_b0 v704 J705 hJ705 h => ?_) h
    have h : slices_IndexFunc_Rect_b0 F x695 x696 ag_slices_IndexFunc_Rect_b0 v704 = some r := h
    refine AW.sg0 Fm 1 [(0, AL x695), (1, .v (.c (.sem (CloOK Tryz.prog (FR_Rect_Bool x696))))), (7, vi ((List.length x695 : Nat) : Int)), (8, vi v704), (9, vb (decide (v704 < ((List.length x695 : Nat) : Int))))] [] (by kernel_rfl) ?_
    refine AW.seq ?_
    refine AW.cond (b := (decide (v704 < ((List.length x695 : Nat) : Int)))) (by kernel_rfl) (fun hb706 => ?_) (fun hb706 => ?_)
    · have h := br_t h hb706
      refine AW.skip ?_
      refine AW.seq ?_
      refine AW.block ?_
      refine AW.sg0 Fm 2 [(0, AL x695), (1, .v (.c (.sem (CloOK Tryz.prog (FR_Rect_Bool x696))))), (5, vi v704), (7, vi ((List.length x695 : Nat) : Int)), (8, vi v704)] [] (by kernel_rfl) ?_
      refine AW.seq ?_
      obtain ⟨hg707, h⟩ := gd_some h
      obtain ⟨z708, hz709, h⟩ := bd_some h
      refine AW.g Fm [.s, .s, .s, .s, .s, .k (sE (vb z708))] (fun K => (0 ≤ v704 ∧ v704 < ((List.length x695 : Nat) : Int)) ∧ K 5 ∧ True) [(0, AL x695), (1, .v (.c (.sem (CloOK Tryz.prog (FR_Rect_Bool x696))))), (5, vi v704), (7, vi ((List.length x695 : Nat) : Int)), (8, vi v704), (16, vb z708)] [] ⟨hg707, KAt.sem (F := (FR_Rect_Bool x696)) (args := [.v (.g [ci ((gl x695 v704.toNat).left_), ci ((gl x695 v704.toNat).low_), ci ((gl x695 v704.toNat).right_), ci ((gl x695 v704.toNat).high_)])]) ⟨(gl x695 v704.toNat), z708, hz709, rfl, rfl⟩ rfl (by kernel_rfl) (by kernel_rfl) (by kernel_rfl), True.intro⟩ (by kernel_rfl) ?_
      refine AW.cond (b := z708) (by kernel_rfl) (fun hb710 => ?_) (fun hb710 => ?_)
      · have h := br_t h hb710
        refine AW.sg0 Fm 2 [(4, vi v704)] [] (by kernel_rfl) ?_
        refine AW.ret ?_
        obtain rfl := Option.some.inj h
        exact Kn.r Fm [(4, vi v704)] [] (by kernel_rfl) (Kn.dn Fm (by kernel_rfl))
      · have h := br_f h hb710
        refine AW.skip ?_
        obtain ⟨hg711, h⟩ := gd_some h
        refine AW.g Fm [.s, .s] (fun K => (I64 (v704 + (1 : Int)) ∧ True) ∧ True) [(0, AL x695), (1, .v (.c (.sem (CloOK Tryz.prog (FR_Rect_Bool x696))))), (7, vi ((List.length x695 : Nat) : Int)), (8, vi (v704 + (1 : Int)))] [] ⟨⟨hg711, True.intro⟩, True.intro⟩ (by kernel_rfl) ?_
        exact Kn.r Fm [(0, AL x695), (1, .v (.c (.sem (CloOK Tryz.prog (FR_Rect_Bool x696))))), (7, vi ((List.length x695 : Nat) : Int)), (8, vi (v704 + (1 : Int)))] [] (by kernel_rfl) (hJ705 (v704 + (1 : Int)) h)
    · have h := br_f h hb706
      refine AW.exit ?_
      exact Kn.r Fm [] [] (by kernel_rfl) (hJ712 () h)
theorem slices_ContainsFunc_Rect_spec {F : Nat} {x713 : (List Rect)} {x714 : Rect → Option Bool} {r : Bool} (h : slices_ContainsFunc_Rect F x713 x714 = some r) :
    FSpec Tryz.prog 108 [AL x713, .v (.c (.sem (CloOK Tryz.prog (FR_Rect_Bool x714))))] [] (vb r) [] := by
  refine FSpec.intro prog_mixed prog_lay Tryz.func108 rfl (by kernel_rfl) fun C Fm => ?_
  unfold slices_ContainsFunc_Rect at h
  refine AW.sg0 Fm 1 [(0, AL x713), (1, .v (.c (.sem (CloOK Tryz.prog (FR_Rect_Bool x714)))))] [] (by kernel_rfl) ?_
  refine AW.seq ?_
  obtain ⟨z715, hz716, h⟩ := bd_some h
  refine AW.g Fm [.s, .s, .k (cE [] [] (vi z715) [] []), .s, .s] (fun K => K 2 ∧ True) [(4, vb (decide ((0 : Int) ≤ z715)))] [] ⟨KAt.callX (args := [AL x713, .v (.c (.sem (CloOK Tryz.prog (FR_Rect_Bool x714))))]) (slices_IndexFunc_Rect_spec hz716) Tryz.call155 [] [] [.tmp 5, .tmp 6] rfl (by kernel_rfl) (by kernel_rfl) (by kernel_rfl) ⟨ArgT.plain (by kernel_rfl) (ALe.of_eq (by kernel_rfl)) (by kernel_rfl), ArgT.semX (by kernel_rfl) (by kernel_rfl) (by kernel_rfl), True.intro⟩, True.intro⟩ (by kernel_rfl) ?_
  refine AW.ret ?_
  obtain rfl := Option.some.inj h
  exact Kn.r Fm [(4, vb (decide ((0 : Int) ≤ z715)))] [] (by kernel_rfl) (Kn.dn Fm (by kernel_rfl))
theorem region_proper_spec {F : Nat} {x717 : Rect} {r : Bool} (h : region_proper F x717 = some r) :
    FSpec Tryz.prog 110 [gE x717] [] (vb r) [] := by
  refine FSpec.intro prog_mixed prog_lay Tryz.func110 rfl (by kernel_rfl) fun C Fm => ?_
  unfold region_proper at h
  refine AW.sg0 Fm 2 [(1, .v (.c (.ptr 1 0)))] [(1, .box false (gC x717))] (by kernel_rfl) ?_
  refine AW.join (r := r) (fun z : Bool => region_proper_k0 F z) (fun z => [(2, vb z)]) (fun z => []) (fun v723 h => ?_) (fun J724 hJ724 => ?_)
  · have h : region_proper_k0 F v723 = some r := h
    refine AW.ret ?_
    obtain rfl := Option.some.inj h
    exact Kn.r Fm [(2, vb v723)] [] (by kernel_rfl) (Kn.dn Fm (by kernel_rfl))
  · rcases Bool.eq_false_or_eq_true (decide ((0 : Int) ≤ x717.left_)) with hb718 | hb718
    · have h := br_t h hb718
      rcases Bool.eq_false_or_eq_true (decide (x717.left_ < x717.right_)) with hb719 | hb719
      · have h := br_t h hb719
        rcases Bool.eq_false_or_eq_true (decide (x717.right_ ≤ (16384 : Int))) with hb720 | hb720
        · have h := br_t h hb720
          rcases Bool.eq_false_or_eq_true (decide ((0 : Int) ≤ x717.low_)) with hb721 | hb721
          · have h := br_t h hb721
            rcases Bool.eq_false_or_eq_true (decide (x717.low_ < x717.high_)) with hb722 | hb722
            · have h := br_t h hb722
              refine AW.g Fm [.s, .s, .s, .w (vb true), .s, .s, .s, .s, .s, .s, .w (vb true), .s, .s, .s, .s, .w (vb true), .s, .s, .s, .s, .w (vb true), .s, .s, .s, .s, .s, .s, .w (vb true), .s, .s, .s, .s, .s] (fun K => (ALe (vb (decide ((0 : Int) ≤ x717.left_))) (vb true)) ∧ (ALe (vb (decide (x717.left_ < x717.right_))) (vb true)) ∧ (ALe (vb (decide (x717.right_ ≤ (16384 : Int)))) (vb true)) ∧ (ALe (vb (decide ((0 : Int) ≤ x717.low_))) (vb true)) ∧ (ALe (vb (decide (x717.low_ < x717.high_))) (vb true)) ∧ True) [(2, vb (decide (x717.high_ ≤ (16384 : Int))))] [] ⟨ALe.bool hb718, ALe.bool hb719, ALe.bool hb720, ALe.bool hb721, ALe.bool hb722, True.intro⟩ (by kernel_rfl) ?_
              exact Kn.r Fm [(2, vb (decide (x717.high_ ≤ (16384 : Int))))] [] (by kernel_rfl) (hJ724 (decide (x717.high_ ≤ (16384 : Int))) h)
            · have h := br_f h hb722
              refine AW.g Fm [.s, .s, .s, .w (vb true), .s, .s, .s, .s, .s, .s, .w (vb true), .s, .s, .s, .s, .w (vb true), .s, .s, .s, .s, .w (vb true), .s, .s, .s, .s, .s, .s, .w (vb false), .s, .s, .s, .s, .s] (fun K => (ALe (vb (decide ((0 : Int) ≤ x717.left_))) (vb true)) ∧ (ALe (vb (decide (x717.left_ < x717.right_))) (vb true)) ∧ (ALe (vb (decide (x717.right_ ≤ (16384 : Int)))) (vb true)) ∧ (ALe (vb (decide ((0 : Int) ≤ x717.low_))) (vb true)) ∧ (ALe (vb (decide (x717.low_ < x717.high_))) (vb false)) ∧ True) [(2, vb false)] [] ⟨ALe.bool hb718, ALe.bool hb719, ALe.bool hb720, ALe.bool hb721, ALe.bool hb722, True.intro⟩ (by kernel_rfl) ?_
              exact Kn.r Fm [(2, vb false)] [] (by kernel_rfl) (hJ724 false h)
          · have h := br_f h hb721
            refine AW.g Fm [.s, .s, .s, .w (vb true), .s, .s, .s, .s, .s, .s, .w (vb true), .s, .s, .s, .s, .w (vb true), .s, .s, .s, .s, .w (vb false), .s, .s, .s, .s, .s, .s, .s, .s, .s, .s, .s, .s] (fun K => (ALe (vb (decide ((0 : Int) ≤ x717.left_))) (vb true)) ∧ (ALe (vb (decide (x717.left_ < x717.right_))) (vb true)) ∧ (ALe (vb (decide (x717.right_ ≤ (16384 : Int)))) (vb true)) ∧ (ALe (vb (decide ((0 : Int) ≤ x717.low_))) (vb false)) ∧ True) [(2, vb false)] [] ⟨ALe.bool hb718, ALe.bool hb719, ALe.bool hb720, ALe.bool hb721, True.intro⟩ (by kernel_rfl) ?_
            exact Kn.r Fm [(2, vb false)] [] (by kernel_rfl) (hJ724 false h)
        · have h := br_f h hb720
          refine AW.g Fm [.s, .s, .s, .w (vb true), .s, .s, .s, .s, .s, .s, .w (vb true), .s, .s, .s, .s, .w (vb false), .s, .s, .s, .s, .s, .s, .s, .s, .s, .s, .s, .s, .s, .s, .s, .s, .s] (fun K => (ALe (vb (decide ((0 : Int) ≤ x717.left_))) (vb true)) ∧ (ALe (vb (decide (x717.left_ < x717.right_))) (vb true)) ∧ (ALe (vb (decide (x717.right_ ≤ (16384 : Int)))) (vb false)) ∧ True) [(2, vb false)] [] ⟨ALe.bool hb718, ALe.bool hb719, ALe.bool hb720, True.intro⟩ (by kernel_rfl) ?_
          exact Kn.r Fm [(2, vb false)] [] (by kernel_rfl) (hJ724 false h)
      · have h := br_f h hb719
        refine AW.g Fm [.s, .s, .s, .w (vb true), .s, .s, .s, .s, .s, .s, .w (vb false), .s, .s, .s, .s, .s, .s, .s, .s, .s, .s, .s, .s, .s, .s, .s, .s, .s, .s, .s, .s, .s, .s] (fun K => (ALe (vb (decide ((0 : Int) ≤ x717.left_))) (vb true)) ∧ (ALe (vb (decide (x717.left_ < x717.right_))) (vb false)) ∧ True) [(2, vb false)] [] ⟨ALe.bool hb718, ALe.bool hb719, True.intro⟩ (by kernel_rfl) ?_
        exact Kn.r Fm [(2, vb false)] [] (by kernel_rfl) (hJ724 false h)
    · have h := br_f h hb718
      refine AW.g Fm [.s, .s, .s, .w (vb false), .s, .s, .s, .s, .s, .s, .s, .s, .s, .s, .s, .s, .s, .s, .s, .s, .s, .s, .s, .s, .s, .s, .s, .s, .s, .s, .s, .s, .s] (fun K => (ALe (vb (decide ((0 : Int) ≤ x717.left_))) (vb false)) ∧ True) [(2, vb false)] [] ⟨ALe.bool hb718, True.intro⟩ (by kernel_rfl) ?_
      exact Kn.r Fm [(2, vb false)] [] (by kernel_rfl) (hJ724 false h)
theorem region_Valid_1_spec {F : Nat} {x725 : Rect} {r : Bool} (h : region_Valid_1 F x725 = some r) :
    FSpec Tryz.prog 109 [gE x725] [] (vb r) [] := by
  refine FSpec.intro prog_mixed prog_lay Tryz.func109 rfl (by kernel_rfl) fun C Fm => ?_
  unfold region_Valid_1 at h
  refine AW.sg0 Fm 2 [(1, .v (.c (.ptr 1 0)))] [(1, .box false (gC x725))] (by kernel_rfl) ?_
  refine AW.seq ?_
  obtain ⟨z726, hz727, h⟩ := bd_some h
  refine AW.g Fm [.s, .k (cE [] [] (vb z726) [] []), .s, .s] (fun K => K 1 ∧ True) [(2, vb (!z726))] [] ⟨KAt.cl (args := [gE x725]) (region_proper_spec hz727) Tryz.call110 [] rfl (by kernel_rfl), True.intro⟩ (by kernel_rfl) ?_
  refine AW.ret ?_
  obtain rfl := Option.some.inj h
  exact Kn.r Fm [(2, vb (!z726))] [] (by kernel_rfl) (Kn.dn Fm (by kernel_rfl))
theorem slices_Compact_int_spec {F : Nat} {x728 : (List Int)} {r : (List Int)} (h : slices_Compact_int F x728 = some r) :
    FSpec Tryz.prog 172 [.v (.c (.own 0))] [(0, AO x728)] (.v (.c (.own 100))) [(100, AO (α := Int) r)] := by
  refine FSpec.intro prog_mixed prog_lay Tryz.func172 rfl (by kernel_rfl) fun C Fm => ?_
  unfold slices_Compact_int at h
  refine AW.sg Fm [.m] (fun K => True) [(0, .v (.c (.own 0)))] [(0, AO x728)] True.intro (by kernel_rfl) ?_
  refine AW.seq ?_
  refine AW.sg0 Fm 3 [(0, .v (.c (.own 0))), (8, vb (decide (((List.length x728 : Nat) : Int) < (2 : Int))))] [(0, AO x728)] (by kernel_rfl) ?_
  refine AW.cond (b := (decide (((List.length x728 : Nat) : Int) < (2 : Int)))) (by kernel_rfl) (fun hb729 => ?_) (fun hb729 => ?_)
  · have h := br_t h hb729
    refine AW.sg0 Fm 2 [(2, .v (.c (.own 0)))] [(0, AO x728)] (by kernel_rfl) ?_
    refine AW.ret ?_
    obtain rfl := Option.some.inj h
    exact Kn.re Fm [(100, 0)] [(2, .v (.c (.own 100)))] [(100, AO x728)] (by kernel_rfl) (by kernel_rfl) (by kernel_rfl) (by kernel_rfl) (Kn.dn Fm (by kernel_rfl))
  · have h := br_f h hb729
    refine AW.skip ?_
    refine AW.join (r := r) (fun z : Unit => slices_Compact_int_k5 F x728) (fun z => [(0, .v (.c (.own 0)))]) (fun z => [(0, AO x728)]) (fun z h => ?_) (fun J829 hJ829 => ?_)
    · have h : slices_Compact_int_k5 F x728 = some r := h
      refine AW.sg0 Fm 2 [(2, .v (.c (.own 0)))] [(0, AO x728)] (by kernel_rfl) ?_
      refine AW.ret ?_
      obtain rfl := Option.some.inj h
      exact Kn.re Fm [(100, 0)] [(2, .v (.c (.own 100)))] [(100, AO x728)] (by kernel_rfl) (by kernel_rfl) (by kernel_rfl) (by kernel_rfl) (Kn.dn Fm (by kernel_rfl))
    · refine AW.sg0 Fm 1 [(0, .v (.c (.own 0))), (3, vi (1 : Int))] [(0, AO x728)] (by kernel_rfl) ?_
      refine AW.block ?_
      refine Kn.r Fm [(0, .v (.c (.own 0))), (3, vi (1 : Int))] [(0, AO x728)] (by kernel_rfl) ?_
      have h : loopN (fun again (z : Int) => slices_Compact_int_b0 F x728 again z) F (1 : Int) = some r := h
      refine AW.loopF (E' := fun z => [(0, .v (.c (.own 0))), (3, vi z)]) (S' := fun z => [(0, AO x728)]) (fun ag_slices_Compact_int_b0 v779 J780 hJ780 h => ?_) h
      have h : slices_Compact_int_b0 F x728 ag_slices_Compact_int_b0 v779 = some r := h
      refine AW.seq ?_
      refine AW.sg0 Fm 4 [(0, .v (.c (.own 0))), (3, vi v779), (13, vb (decide (v779 < ((List.length x728 : Nat) : Int))))] [(0, AO x728)] (by kernel_rfl) ?_
      refine AW.cond (b := (decide (v779 < ((List.length x728 : Nat) : Int)))) (by kernel_rfl) (fun hb781 => ?_) (fun hb781 => ?_)
      · have h := br_t h hb781
        refine AW.skip ?_
        refine AW.join (r := r) (fun z : Unit => slices_Compact_int_k4 F v779 ag_slices_Compact_int_b0) (fun z => [(0, .v (.c (.own 0))), (3, vi v779)]) (fun z => [(0, AO x728)]) (fun z h => ?_) (fun J827 hJ827 => ?_)
        · have h : slices_Compact_int_k4 F v779 ag_slices_Compact_int_b0 = some r := h
          obtain ⟨hg828, h⟩ := gd_some h
          refine AW.g Fm [.s, .s, .s] (fun K => (I64 (v779 + (1 : Int)) ∧ True) ∧ True) [(0, .v (.c (.own 0))), (3, vi (v779 + (1 : Int)))] [(0, AO x728)] ⟨⟨hg828, True.intro⟩, True.intro⟩ (by kernel_rfl) ?_
          exact Kn.r Fm [(0, .v (.c (.own 0))), (3, vi (v779 + (1 : Int)))] [(0, AO x728)] (by kernel_rfl) (hJ780 (v779 + (1 : Int)) h)
        · refine AW.block ?_
          obtain ⟨hg782, h⟩ := gd_some h
          obtain ⟨hg783, h⟩ := gd_some h
          obtain ⟨hg784, h⟩ := gd_some h
          refine AW.sg Fm [.s, .s, .s, .s, .s, .s, .s, .s, .s, .s] (fun K => (0 ≤ v779 ∧ v779 < ((List.length x728 : Nat) : Int)) ∧ (v779.toNat < List.length x728) ∧ (I64 (v779 - (1 : Int)) ∧ True) ∧ (0 ≤ (v779 - (1 : Int)) ∧ (v779 - (1 : Int)) < ((List.length x728 : Nat) : Int)) ∧ ((v779 - (1 : Int)).toNat < List.length x728) ∧ True) [(0, .v (.c (.own 0))), (3, vi v779), (25, vb ((gl x728 v779.toNat) == (gl x728 (v779 - (1 : Int)).toNat)))] [(0, AO x728)] ⟨hg782, (toNat_lt hg782), ⟨hg783, True.intro⟩, hg784, (toNat_lt hg784), True.intro⟩ (by kernel_rfl) ?_
          refine AW.cond (b := ((gl x728 v779.toNat) == (gl x728 (v779 - (1 : Int)).toNat))) (by kernel_rfl) (fun hb785 => ?_) (fun hb785 => ?_)
          · have h := br_t h hb785
            obtain ⟨hg786, h⟩ := gd_some h
            refine AW.sg Fm [.s, .s, .k (rE { v := .v (.c (.sub 0 1 (0 + (v779).toNat) ((List.length (α := Int) x728) - (v779).toNat))) }), .s] (fun K => K 2 ∧ True) [(0, .v (.c (.own 0))), (3, vi v779), (4, .v (.c (.sub 0 1 (0 + (v779).toNat) ((List.length (α := Int) x728) - (v779).toNat))))] [(0, AO x728)] ⟨KAt.vslice (l := (some v779)) (u := none) (id := 0) (lo0 := 0) (n := (List.length (α := Int) x728)) (N := List.length (α := Int) x728) (f := LF (α := Int) x728) prog_lay slT22 rfl rfl (by kernel_rfl) (by kernel_rfl) (by kernel_rfl) (by kernel_rfl) (by kernel_rfl) hg786 (by kernel_rfl), True.intro⟩ (by kernel_rfl) ?_
            refine AW.join (r := r) (fun z : Int × (List Int) => slices_Compact_int_k3 F z.1 z.2) (fun z => [(0, .v (.c (.own 0))), (3, vi z.1)]) (fun z => [(0, AO z.2)]) (fun z h => ?_) (fun J824 hJ824 => ?_)
            · obtain ⟨v822, v823⟩ := z
              have h : slices_Compact_int_k3 F v822 v823 = some r := h
              obtain ⟨hg825, h⟩ := gd_some h
              refine AW.sg Fm [.s, .s, .k (rE { v := .v (.c (.sub 0 1 (0 + (v822).toNat) ((List.length (α := Int) v823) - (v822).toNat))) }), .k (rE { v := .any, upd := some (0, .arr 1 (List.length (α := Int) v823) (fun i => if (0 + (v822).toNat) ≤ i ∧ i < (0 + (v822).toNat) + ((List.length (α := Int) v823) - (v822).toNat) then (fun _ => [.int .i64 0]) (i - (0 + (v822).toNat)) else (LF (α := Int) v823) i)) })] (fun K => K 2 ∧ K 3 ∧ True) [(0, .v (.c (.own 0))), (3, vi v822)] [(0, .arr 1 (List.length (α := Int) v823) (fun i => if (0 + (v822).toNat) ≤ i ∧ i < (0 + (v822).toNat) + ((List.length (α := Int) v823) - (v822).toNat) then (fun _ => [.int .i64 0]) (i - (0 + (v822).toNat)) else (LF (α := Int) v823) i))] ⟨KAt.vslice (l := (some v822)) (u := none) (id := 0) (lo0 := 0) (n := (List.length (α := Int) v823)) (N := List.length (α := Int) v823) (f := LF (α := Int) v823) prog_lay slT22 rfl rfl (by kernel_rfl) (by kernel_rfl) (by kernel_rfl) (by kernel_rfl) (by kernel_rfl) hg825 (by kernel_rfl), KAt.vclear (id := 0) (lo0 := (0 + (v822).toNat)) (n := ((List.length (α := Int) v823) - (v822).toNat)) (N := List.length (α := Int) v823) (f := (LF (α := Int) v823)) prog_lay slT22 [.int .i64 0] [.int .i64 0] ⟨DLe.refl _, True.intro⟩ rfl rfl (by kernel_rfl) (Nat.succ_pos _) (by kernel_rfl) (by kernel_rfl) (by kernel_rfl) (by kernel_rfl) rfl, True.intro⟩ (by kernel_rfl) ?_
              refine Kn.wk [(0, .v (.c (.own 0))), (3, vi v822)] [(0, AO (α := Int) (clr v823 (0 + (v822).toNat) ((List.length (α := Int) v823) - (v822).toNat)))] (FE.refl _) (⟨rfl, OLe.is (Is.clr (l := v823) (0 + (v822).toNat) ((List.length (α := Int) v823) - (v822).toNat) (zd := [.int .i64 0]) (by kernel_rfl)), True.intro⟩) ?_
              obtain ⟨hg826, h⟩ := gd_some h
              refine AW.sg Fm [.s, .s, .m, .s] (fun K => (0 ≤ v822 ∧ v822 ≤ ((List.length (clr v823 (0 + (v822).toNat) ((List.length (α := Int) v823) - (v822).toNat)) : Nat) : Int)) ∧ True) [(2, .v (.c (.own 59)))] [(59, .arr 1 ((v822).toNat) (LF (α := Int) (clr v823 (0 + (v822).toNat) ((List.length (α := Int) v823) - (v822).toNat))))] ⟨hg826, True.intro⟩ (by kernel_rfl) ?_
              refine Kn.wk [(2, .v (.c (.own 59)))] [(59, AO (α := Int) ((clr v823 (0 + (v822).toNat) ((List.length (α := Int) v823) - (v822).toNat)).take (v822).toNat))] (FE.refl _) (⟨rfl, OLe.is (Is.take (Is.refl (clr v823 (0 + (v822).toNat) ((List.length (α := Int) v823) - (v822).toNat))) hg826.2), True.intro⟩) ?_
              refine AW.ret ?_
              obtain rfl := Option.some.inj h
              exact Kn.re Fm [(100, 59)] [(2, .v (.c (.own 100)))] [(100, AO (α := Int) ((clr v823 (0 + (v822).toNat) ((List.length (α := Int) v823) - (v822).toNat)).take (v822).toNat))] (by kernel_rfl) (by kernel_rfl) (by kernel_rfl) (by kernel_rfl) (Kn.dn Fm (by kernel_rfl))
            · refine AW.sg0 Fm 1 [(0, .v (.c (.own 0))), (3, vi v779), (4, .v (.c (.sub 0 1 (0 + (v779).toNat) ((List.length (α := Int) x728) - (v779).toNat)))), (5, vi (1 : Int))] [(0, AO x728)] (by kernel_rfl) ?_
              refine AW.block ?_
              refine Kn.r Fm [(0, .v (.c (.own 0))), (3, vi v779), (4, .v (.c (.sub 0 1 (0 + (v779).toNat) ((List.length (α := Int) x728) - (v779).toNat)))), (5, vi (1 : Int))] [(0, AO x728)] (by kernel_rfl) ?_
              have h : loopN (fun again (z : Int × Int × (List Int)) => slices_Compact_int_b1 F x728 v779 again z.1 z.2.1 z.2.2) F (v779, (1 : Int), x728) = some r := h
              refine AW.loopF (E' := fun z => [(0, .v (.c (.own 0))), (3, vi z.1), (4, .v (.c (.sub 0 1 (0 + (v779).toNat) ((List.length (α := Int) x728) - (v779).toNat)))), (5, vi z.2.1)]) (S' := fun z => [(0, AO z.2.2)]) (fun ag_slices_Compact_int_b1 z J806 hJ806 h => ?_) h
              obtain ⟨v803, v804, v805⟩ := z
              have h : slices_Compact_int_b1 F x728 v779 ag_slices_Compact_int_b1 v803 v804 v805 = some r := h
              refine AW.seq ?_
              refine AW.sg Fm [.s, .s, .k (rE { v := vi ((((List.length (α := Int) x728) - (v779).toNat) : Nat) : Int) }), .s] (fun K => K 2 ∧ True) [(0, .v (.c (.own 0))), (3, vi v803), (4, .v (.c (.sub 0 1 (0 + (v779).toNat) ((List.length (α := Int) x728) - (v779).toNat)))), (5, vi v804), (32, vb (decide (v804 < ((((List.length (α := Int) x728) - (v779).toNat) : Nat) : Int))))] [(0, AO v805)] ⟨KAt.vlen (es := 1) (id := 0) (lo0 := (0 + (v779).toNat)) (n := ((List.length (α := Int) x728) - (v779).toNat)) (N := List.length (α := Int) v805) (f := LF (α := Int) v805) prog_lay slT22 rfl rfl (by kernel_rfl) (by kernel_rfl) (by kernel_rfl), True.intro⟩ (by kernel_rfl) ?_
              refine AW.cond (b := (decide (v804 < ((((List.length (α := Int) x728) - (v779).toNat) : Nat) : Int)))) (by kernel_rfl) (fun hb807 => ?_) (fun hb807 => ?_)
              · have h := br_t h hb807
                refine AW.skip ?_
                refine AW.join (r := r) (fun z : Int × (List Int) => slices_Compact_int_k2 F v804 ag_slices_Compact_int_b1 z.1 z.2) (fun z => [(0, .v (.c (.own 0))), (3, vi z.1), (4, .v (.c (.sub 0 1 (0 + (v779).toNat) ((List.length (α := Int) x728) - (v779).toNat)))), (5, vi v804)]) (fun z => [(0, AO z.2)]) (fun z h => ?_) (fun J820 hJ820 => ?_)
                · obtain ⟨v818, v819⟩ := z
                  have h : slices_Compact_int_k2 F v804 ag_slices_Compact_int_b1 v818 v819 = some r := h
                  obtain ⟨hg821, h⟩ := gd_some h
                  refine AW.g Fm [.s, .s, .s] (fun K => (I64 (v804 + (1 : Int)) ∧ True) ∧ True) [(0, .v (.c (.own 0))), (3, vi v818), (4, .v (.c (.sub 0 1 (0 + (v779).toNat) ((List.length (α := Int) x728) - (v779).toNat)))), (5, vi (v804 + (1 : Int)))] [(0, AO v819)] ⟨⟨hg821, True.intro⟩, True.intro⟩ (by kernel_rfl) ?_
                  exact Kn.r Fm [(0, .v (.c (.own 0))), (3, vi v818), (4, .v (.c (.sub 0 1 (0 + (v779).toNat) ((List.length (α := Int) x728) - (v779).toNat)))), (5, vi (v804 + (1 : Int)))] [(0, AO v819)] (by kernel_rfl) (hJ806 (v818, (v804 + (1 : Int)), v819) h)
                · refine AW.block ?_
                  obtain ⟨hg808, h⟩ := gd_some h
                  obtain ⟨hg809, h⟩ := gd_some h
                  obtain ⟨hg810, h⟩ := gd_some h
                  obtain ⟨hg811, h⟩ := gd_some h
                  obtain ⟨hg812, h⟩ := gd_some h
                  refine AW.sg Fm [.s, .s, .k (rE { v := .v (.c (.pte 0 1 ((0 + (v779).toNat) + (v804).toNat) 0)) }), .s, .s, .s, .s, .k (rE { v := .v (.c (.pte 0 1 ((0 + (v779).toNat) + ((v804 - (1 : Int))).toNat) 0)) }), .s, .s] (fun K => K 2 ∧ (((0 + (v779).toNat) + (v804).toNat) < List.length v805) ∧ (I64 (v804 - (1 : Int)) ∧ True) ∧ K 7 ∧ (((0 + (v779).toNat) + ((v804 - (1 : Int))).toNat) < List.length v805) ∧ True) [(0, .v (.c (.own 0))), (3, vi v803), (4, .v (.c (.sub 0 1 (0 + (v779).toNat) ((List.length (α := Int) x728) - (v779).toNat)))), (5, vi v804), (44, vb ((gl v805 ((0 + (v779).toNat) + (v804).toNat)) != (gl v805 ((0 + (v779).toNat) + ((v804 - (1 : Int))).toNat))))] [(0, AO v805)] ⟨KAt.vindex (m := v804) (id := 0) (lo0 := (0 + (v779).toNat)) (n := ((List.length (α := Int) x728) - (v779).toNat)) (N := List.length (α := Int) v805) (f := LF (α := Int) v805) prog_lay slT22 rfl rfl (by kernel_rfl) (by kernel_rfl) (by kernel_rfl) (by kernel_rfl) hg808 (by kernel_rfl), hg809, ⟨hg810, True.intro⟩, KAt.vindex (m := (v804 - (1 : Int))) (id := 0) (lo0 := (0 + (v779).toNat)) (n := ((List.length (α := Int) x728) - (v779).toNat)) (N := List.length (α := Int) v805) (f := LF (α := Int) v805) prog_lay slT22 rfl rfl (by kernel_rfl) (by kernel_rfl) (by kernel_rfl) (by kernel_rfl) hg811 (by kernel_rfl), hg812, True.intro⟩ (by kernel_rfl) ?_
                  refine AW.cond (b := ((gl v805 ((0 + (v779).toNat) + (v804).toNat)) != (gl v805 ((0 + (v779).toNat) + ((v804 - (1 : Int))).toNat)))) (by kernel_rfl) (fun hb813 => ?_) (fun hb813 => ?_)
                  · have h := br_t h hb813
                    obtain ⟨hg814, h⟩ := gd_some h
                    obtain ⟨hg815, h⟩ := gd_some h
                    obtain ⟨hg816, h⟩ := gd_some h
                    refine AW.sg Fm [.s, .s, .s, .s, .k (rE { v := .v (.c (.pte 0 1 ((0 + (v779).toNat) + (v804).toNat) 0)) }), .s, .s, .s] (fun K => K 4 ∧ (((0 + (v779).toNat) + (v804).toNat) < List.length v805) ∧ (0 ≤ v803 ∧ v803 < ((List.length v805 : Nat) : Int)) ∧ (v803.toNat < List.length v805) ∧ True) [(0, .v (.c (.own 0))), (3, vi v803), (4, .v (.c (.sub 0 1 (0 + (v779).toNat) ((List.length (α := Int) x728) - (v779).toNat)))), (5, vi v804)] [(0, .arr 1 (List.length (α := Int) v805) (fun j => if j = v803.toNat then splice ((LF (α := Int) v805) v803.toNat) 0 [.int .i64 (gl v805 ((0 + (v779).toNat) + (v804).toNat))] else (LF (α := Int) v805) j))] ⟨KAt.vindex (m := v804) (id := 0) (lo0 := (0 + (v779).toNat)) (n := ((List.length (α := Int) x728) - (v779).toNat)) (N := List.length (α := Int) v805) (f := LF (α := Int) v805) prog_lay slT22 rfl rfl (by kernel_rfl) (by kernel_rfl) (by kernel_rfl) (by kernel_rfl) hg814 (by kernel_rfl), hg815, hg816, (toNat_lt hg816), True.intro⟩ (by kernel_rfl) ?_
                    refine Kn.wk [(0, .v (.c (.own 0))), (3, vi v803), (4, .v (.c (.sub 0 1 (0 + (v779).toNat) ((List.length (α := Int) x728) - (v779).toNat)))), (5, vi v804)] [(0, AO (α := Int) (List.set v805 v803.toNat (gl v805 ((0 + (v779).toNat) + (v804).toNat))))] (FE.refl _) (⟨rfl, OLe.is (Is.set (Is.refl v805) (toNat_lt hg816) (gl v805 ((0 + (v779).toNat) + (v804).toNat)) (by kernel_rfl)), True.intro⟩) ?_
                    obtain ⟨hg817, h⟩ := gd_some h
                    refine AW.g Fm [.s, .s, .s] (fun K => (I64 (v803 + (1 : Int)) ∧ True) ∧ True) [(0, .v (.c (.own 0))), (3, vi (v803 + (1 : Int))), (4, .v (.c (.sub 0 1 (0 + (v779).toNat) ((List.length (α := Int) x728) - (v779).toNat)))), (5, vi v804)] [(0, AO (α := Int) (List.set v805 v803.toNat (gl v805 ((0 + (v779).toNat) + (v804).toNat))))] ⟨⟨hg817, True.intro⟩, True.intro⟩ (by kernel_rfl) ?_
                    exact Kn.r Fm [(0, .v (.c (.own 0))), (3, vi (v803 + (1 : Int))), (4, .v (.c (.sub 0 1 (0 + (v779).toNat) ((List.length (α := Int) x728) - (v779).toNat)))), (5, vi v804)] [(0, AO (List.set v805 v803.toNat (gl v805 ((0 + (v779).toNat) + (v804).toNat))))] (by kernel_rfl) (hJ820 ((v803 + (1 : Int)), (List.set v805 v803.toNat (gl v805 ((0 + (v779).toNat) + (v804).toNat)))) h)
                  · have h := br_f h hb813
                    refine AW.skip ?_
                    exact Kn.r Fm [(0, .v (.c (.own 0))), (3, vi v803), (4, .v (.c (.sub 0 1 (0 + (v779).toNat) ((List.length (α := Int) x728) - (v779).toNat)))), (5, vi v804)] [(0, AO v805)] (by kernel_rfl) (hJ820 (v803, v805) h)
              · have h := br_f h hb807
                refine AW.exit ?_
                exact Kn.r Fm [(0, .v (.c (.own 0))), (3, vi v803)] [(0, AO v805)] (by kernel_rfl) (hJ824 (v803, v805) h)
          · have h := br_f h hb785
            refine AW.skip ?_
            exact Kn.r Fm [(0, .v (.c (.own 0))), (3, vi v779)] [(0, AO x728)] (by kernel_rfl) (hJ827 () h)
      · have h := br_f h hb781
        refine AW.exit ?_
        exact Kn.r Fm [(0, .v (.c (.own 0)))] [(0, AO x728)] (by kernel_rfl) (hJ829 () h)
theorem region_Cuts_spec {F : Nat} {x830 : (List (List Rect))} {r : (List Int)} (h : region_Cuts F x830 = some r) :
    FSpec Tryz.prog 138 [AL x830] [] (AL (α := Int) r) [] := by
  refine FSpec.intro prog_mixed prog_lay Tryz.func138 rfl (by kernel_rfl) fun C Fm => ?_
  unfold region_Cuts at h
  refine AW.sg0 Fm 1 [(0, AL x830)] [] (by kernel_rfl) ?_
  refine AW.sg Fm [.m] (fun K => True) [(0, AL x830), (3, .v (.c (.own 3)))] [(3, .arr 1 (0) (fun _ => []))] True.intro (by kernel_rfl) ?_
  refine Kn.wk [(0, AL x830), (3, .v (.c (.own 3)))] [(3, AO (α := Int) ([] : List Int))] (FE.refl _) (⟨rfl, OLe.is ((Is.nil (α := Int))), True.intro⟩) ?_
  refine AW.join (r := r) (fun z : (List Int) => region_Cuts_k3 F z) (fun z => [(3, .v (.c (.own 3)))]) (fun z => [(3, AO z)]) (fun v869 h => ?_) (fun J870 hJ870 => ?_)
  · have h : region_Cuts_k3 F v869 = some r := h
    refine AW.seq ?_
    obtain ⟨z871, hz872, h⟩ := bd_some h
    refine AW.g Fm [.s, .k (cE [(0, 3)] [] (.any) [(0, AO v869)] [(0, AO z871)])] (fun K => K 1 ∧ True) [(3, .v (.c (.own 3)))] [(3, AO z871)] ⟨KAt.cl (args := [.v (.c (.own 0))]) (sortI_spec hz872) Tryz.call171 [(0, 3)] rfl (by kernel_rfl), True.intro⟩ (by kernel_rfl) ?_
    refine AW.seq ?_
    obtain ⟨z873, hz874, h⟩ := bd_some h
    refine AW.g Fm [.s, .k (cE [(0, 3), (100, 32)] [] (.v (.c (.own 100))) [(0, AO z871)] [(100, AO z873)]), .s] (fun K => K 1 ∧ True) [(2, .v (.c (.own 32)))] [(32, AO z873)] ⟨KAt.cl (args := [.v (.c (.own 0))]) (slices_Compact_int_spec hz874) Tryz.call172 [(0, 3), (100, 32)] rfl (by kernel_rfl), True.intro⟩ (by kernel_rfl) ?_
    refine AW.ret ?_
    obtain rfl := Option.some.inj h
    refine Kn.r Fm [(2, .v (.c (.own 32)))] [(32, AO z873)] (by kernel_rfl) ?_
    refine Kn.frz [(2, AL z873)] [] (by kernel_rfl) (by kernel_rfl) (by kernel_rfl) ?_
    exact Kn.r Fm [(2, AL z873)] [] (by kernel_rfl) (Kn.dn Fm (by kernel_rfl))
  · refine AW.sg0 Fm 3 [(3, .v (.c (.own 3))), (8, AL x830), (9, vi ((List.length x830 : Nat) : Int)), (10, vi (0 : Int))] [(3, AO (α := Int) ([] : List Int))] (by kernel_rfl) ?_
    refine AW.block ?_
    refine Kn.r Fm [(3, .v (.c (.own 3))), (8, AL x830), (9, vi ((List.length x830 : Nat) : Int)), (10, vi (0 : Int))] [(3, AO ([] : List Int))] (by kernel_rfl) ?_
    have h : loopN (fun again (z : Int × (List Int)) => region_Cuts_b0 F x830 again z.1 z.2) F ((0 : Int), ([] : List Int)) = some r := h
    refine AW.loopF (E' := fun z => [(3, .v (.c (.own 3))), (8, AL x830), (9, vi ((List.length x830 : Nat) : Int)), (10, vi z.1)]) (S' := fun z => [(3, AO z.2)]) (fun ag_region_Cuts_b0 z J851 hJ851 h => ?_) h
    obtain ⟨v849, v850⟩ := z
    have h : region_Cuts_b0 F x830 ag_region_Cuts_b0 v849 v850 = some r := h
    refine AW.sg0 Fm 1 [(3, .v (.c (.own 3))), (8, AL x830), (9, vi ((List.length x830 : Nat) : Int)), (10, vi v849), (11, vb (decide (v849 < ((List.length x830 : Nat) : Int))))] [(3, AO v850)] (by kernel_rfl) ?_
    refine AW.seq ?_
    refine AW.cond (b := (decide (v849 < ((List.length x830 : Nat) : Int)))) (by kernel_rfl) (fun hb852 => ?_) (fun hb852 => ?_)
    · have h := br_t h hb852
      refine AW.skip ?_
      refine AW.join (r := r) (fun z : (List Int) => region_Cuts_k2 F v849 ag_region_Cuts_b0 z) (fun z => [(3, .v (.c (.own 3))), (8, AL x830), (9, vi ((List.length x830 : Nat) : Int)), (10, vi v849)]) (fun z => [(3, AO z)]) (fun v866 h => ?_) (fun J867 hJ867 => ?_)
      · have h : region_Cuts_k2 F v849 ag_region_Cuts_b0 v866 = some r := h
        obtain ⟨hg868, h⟩ := gd_some h
        refine AW.g Fm [.s, .s] (fun K => (I64 (v849 + (1 : Int)) ∧ True) ∧ True) [(3, .v (.c (.own 3))), (8, AL x830), (9, vi ((List.length x830 : Nat) : Int)), (10, vi (v849 + (1 : Int)))] [(3, AO v866)] ⟨⟨hg868, True.intro⟩, True.intro⟩ (by kernel_rfl) ?_
        exact Kn.r Fm [(3, .v (.c (.own 3))), (8, AL x830), (9, vi ((List.length x830 : Nat) : Int)), (10, vi (v849 + (1 : Int)))] [(3, AO v866)] (by kernel_rfl) (hJ851 ((v849 + (1 : Int)), v866) h)
      · refine AW.block ?_
        obtain ⟨hg853, h⟩ := gd_some h
        refine AW.sg Fm [.s, .s, .s] (fun K => (0 ≤ v849 ∧ v849 < ((List.length x830 : Nat) : Int)) ∧ True) [(3, .v (.c (.own 3))), (5, AL (α := Rect) (gl x830 v849.toNat)), (8, AL x830), (9, vi ((List.length x830 : Nat) : Int)), (10, vi v849)] [(3, AO v850)] ⟨hg853, True.intro⟩ (by kernel_rfl) ?_
        refine AW.sg0 Fm 3 [(3, .v (.c (.own 3))), (8, AL x830), (9, vi ((List.length x830 : Nat) : Int)), (10, vi v849), (14, AL (α := Rect) (gl x830 v849.toNat)), (15, vi ((List.length (gl x830 v849.toNat) : Nat) : Int)), (16, vi (0 : Int))] [(3, AO v850)] (by kernel_rfl) ?_
        refine AW.block ?_
        refine Kn.r Fm [(3, .v (.c (.own 3))), (8, AL x830), (9, vi ((List.length x830 : Nat) : Int)), (10, vi v849), (14, AL (α := Rect) (gl x830 v849.toNat)), (15, vi ((List.length (gl x830 v849.toNat) : Nat) : Int)), (16, vi (0 : Int))] [(3, AO v850)] (by kernel_rfl) ?_
        have h : loopN (fun again (z : Int × (List Int)) => region_Cuts_b1 F x830 v849 ag_region_Cuts_b0 again z.1 z.2) F ((0 : Int), v850) = some r := h
        refine AW.loopF (E' := fun z => [(3, .v (.c (.own 3))), (8, AL x830), (9, vi ((List.length x830 : Nat) : Int)), (10, vi v849), (14, AL (α := Rect) (gl x830 v849.toNat)), (15, vi ((List.length (gl x830 v849.toNat) : Nat) : Int)), (16, vi z.1)]) (S' := fun z => [(3, AO z.2)]) (fun ag_region_Cuts_b1 z J861 hJ861 h => ?_) h
        obtain ⟨v859, v860⟩ := z
        have h : region_Cuts_b1 F x830 v849 ag_region_Cuts_b0 ag_region_Cuts_b1 v859 v860 = some r := h
        refine AW.sg0 Fm 1 [(3, .v (.c (.own 3))), (8, AL x830), (9, vi ((List.length x830 : Nat) : Int)), (10, vi v849), (14, AL (α := Rect) (gl x830 v849.toNat)), (15, vi ((List.length (gl x830 v849.toNat) : Nat) : Int)), (16, vi v859), (17, vb (decide (v859 < ((List.length (gl x830 v849.toNat) : Nat) : Int))))] [(3, AO v860)] (by kernel_rfl) ?_
        refine AW.seq ?_
        refine AW.cond (b := (decide (v859 < ((List.length (gl x830 v849.toNat) : Nat) : Int)))) (by kernel_rfl) (fun hb862 => ?_) (fun hb862 => ?_)
        · have h := br_t h hb862
          refine AW.skip ?_
          refine AW.seq ?_
          refine AW.block ?_
          obtain ⟨hg863, h⟩ := gd_some h
          refine AW.sg Fm [.s, .s, .s, .s] (fun K => (0 ≤ v859 ∧ v859 < ((List.length (gl x830 v849.toNat) : Nat) : Int)) ∧ True) [(3, .v (.c (.own 3))), (7, .v (.c (.ptr 7 0))), (8, AL x830), (9, vi ((List.length x830 : Nat) : Int)), (10, vi v849), (14, AL (α := Rect) (gl x830 v849.toNat)), (15, vi ((List.length (gl x830 v849.toNat) : Nat) : Int)), (16, vi v859)] [(3, AO v860), (7, .box false [ci ((gl (gl x830 v849.toNat) v859.toNat).left_), ci ((gl (gl x830 v849.toNat) v859.toNat).low_), ci ((gl (gl x830 v849.toNat) v859.toNat).right_), ci ((gl (gl x830 v849.toNat) v859.toNat).high_)])] ⟨hg863, True.intro⟩ (by kernel_rfl) ?_
          obtain ⟨hg864, h⟩ := gd_some h
          refine AW.g Fm [.s, .s, .s, .s, .s, .w (AL (α := Int) ([(gl (gl x830 v849.toNat) v859.toNat).low_, (gl (gl x830 v849.toNat) v859.toNat).high_] : List Int)), .s, .s] (fun K => (ALe (.v (.c (.d (.lst 2 (litF 1 [.int .i64 (gl (gl x830 v849.toNat) v859.toNat).low_, .int .i64 (gl (gl x830 v849.toNat) v859.toNat).high_]))))) (AL (α := Int) ([(gl (gl x830 v849.toNat) v859.toNat).low_, (gl (gl x830 v849.toNat) v859.toNat).high_] : List Int))) ∧ ((List.length (α := Int) v860) + (List.length (α := Int) ([(gl (gl x830 v849.toNat) v859.toNat).low_, (gl (gl x830 v849.toNat) v859.toNat).high_] : List Int)) ≤ LIM ∧ (∀ j, j < List.length (α := Int) ([(gl (gl x830 v849.toNat) v859.toNat).low_, (gl (gl x830 v849.toNat) v859.toNat).high_] : List Int) → ((LF (α := Int) ([(gl (gl x830 v849.toNat) v859.toNat).low_, (gl (gl x830 v849.toNat) v859.toNat).high_] : List Int)) j).length = 1) ∧ (True)) ∧ True) [(3, .v (.c (.own 26))), (8, AL x830), (9, vi ((List.length x830 : Nat) : Int)), (10, vi v849), (14, AL (α := Rect) (gl x830 v849.toNat)), (15, vi ((List.length (gl x830 v849.toNat) : Nat) : Int)), (16, vi v859)] [(26, .arr 1 ((List.length (α := Int) v860) + (List.length (α := Int) ([(gl (gl x830 v849.toNat) v859.toNat).low_, (gl (gl x830 v849.toNat) v859.toNat).high_] : List Int))) (appF (List.length (α := Int) v860) (LF (α := Int) v860) (LF (α := Int) ([(gl (gl x830 v849.toNat) v859.toNat).low_, (gl (gl x830 v849.toNat) v859.toNat).high_] : List Int))))] ⟨ALe.lst (.lit ([(gl (gl x830 v849.toNat) v859.toNat).low_, (gl (gl x830 v849.toNat) v859.toNat).high_] : List Int) (by kernel_rfl)), ⟨hg864, (Is.refl ([(gl (gl x830 v849.toNat) v859.toNat).low_, (gl (gl x830 v849.toNat) v859.toNat).high_] : List Int) : Is (List.length (α := Int) ([(gl (gl x830 v849.toNat) v859.toNat).low_, (gl (gl x830 v849.toNat) v859.toNat).high_] : List Int)) (LF (α := Int) ([(gl (gl x830 v849.toNat) v859.toNat).low_, (gl (gl x830 v849.toNat) v859.toNat).high_] : List Int)) ([(gl (gl x830 v849.toNat) v859.toNat).low_, (gl (gl x830 v849.toNat) v859.toNat).high_] : List Int)).len, True.intro⟩, True.intro⟩ (by kernel_rfl) ?_
          refine Kn.wk [(3, .v (.c (.own 26))), (8, AL x830), (9, vi ((List.length x830 : Nat) : Int)), (10, vi v849), (14, AL (α := Rect) (gl x830 v849.toNat)), (15, vi ((List.length (gl x830 v849.toNat) : Nat) : Int)), (16, vi v859)] [(26, AO (α := Int) (v860 ++ ([(gl (gl x830 v849.toNat) v859.toNat).low_, (gl (gl x830 v849.toNat) v859.toNat).high_] : List Int)))] (FE.refl _) (⟨rfl, OLe.is (Is.app (Is.refl v860) (Is.refl ([(gl (gl x830 v849.toNat) v859.toNat).low_, (gl (gl x830 v849.toNat) v859.toNat).high_] : List Int))), True.intro⟩) ?_
          obtain ⟨hg865, h⟩ := gd_some h
          refine AW.g Fm [.s, .s] (fun K => (I64 (v859 + (1 : Int)) ∧ True) ∧ True) [(3, .v (.c (.own 26))), (8, AL x830), (9, vi ((List.length x830 : Nat) : Int)), (10, vi v849), (14, AL (α := Rect) (gl x830 v849.toNat)), (15, vi ((List.length (gl x830 v849.toNat) : Nat) : Int)), (16, vi (v859 + (1 : Int)))] [(26, AO (α := Int) (v860 ++ ([(gl (gl x830 v849.toNat) v859.toNat).low_, (gl (gl x830 v849.toNat) v859.toNat).high_] : List Int)))] ⟨⟨hg865, True.intro⟩, True.intro⟩ (by kernel_rfl) ?_
          exact Kn.re Fm [(3, 26)] [(3, .v (.c (.own 3))), (8, AL x830), (9, vi ((List.length x830 : Nat) : Int)), (10, vi v849), (14, AL (α := Rect) (gl x830 v849.toNat)), (15, vi ((List.length (gl x830 v849.toNat) : Nat) : Int)), (16, vi (v859 + (1 : Int)))] [(3, AO (v860 ++ ([(gl (gl x830 v849.toNat) v859.toNat).low_, (gl (gl x830 v849.toNat) v859.toNat).high_] : List Int)))] (by kernel_rfl) (by kernel_rfl) (by kernel_rfl) (by kernel_rfl) (hJ861 ((v859 + (1 : Int)), (v860 ++ ([(gl (gl x830 v849.toNat) v859.toNat).low_, (gl (gl x830 v849.toNat) v859.toNat).high_] : List Int))) h)
        · have h := br_f h hb862
          refine AW.exit ?_
          exact Kn.r Fm [(3, .v (.c (.own 3))), (8, AL x830), (9, vi ((List.length x830 : Nat) : Int)), (10, vi v849)] [(3, AO v860)] (by kernel_rfl) (hJ867 v860 h)
    · have h := br_f h hb852
      refine AW.exit ?_
      exact Kn.r Fm [(3, .v (.c (.own 3)))] [(3, AO v850)] (by kernel_rfl) (hJ870 v850 h)
theorem cmp_isNaN_int_spec {F : Nat} {x875 : Int} {r : Bool} (h : cmp_isNaN_int F x875 = some r) :
    FSpec Tryz.prog 119 [vi x875] [] (vb r) [] := by
  refine FSpec.intro prog_mixed prog_lay Tryz.func119 rfl (by kernel_rfl) fun C Fm => ?_
  unfold cmp_isNaN_int at h
  refine AW.sg0 Fm 1 [(0, vi x875)] [] (by kernel_rfl) ?_
  refine AW.sg0 Fm 4 [(2, vb (x875 != x875))] [] (by kernel_rfl) ?_
  refine AW.ret ?_
  obtain rfl := Option.some.inj h
  exact Kn.r Fm [(2, vb (x875 != x875))] [] (by kernel_rfl) (Kn.dn Fm (by kernel_rfl))
theorem cmp_Compare_int_spec {F : Nat} {x876 : Int} {x877 : Int} {r : Int} (h : cmp_Compare_int F x876 x877 = some r) :
    FSpec Tryz.prog 61 [vi x876, vi x877] [] (vi r) [] := by
  refine FSpec.intro prog_mixed prog_lay Tryz.func61 rfl (by kernel_rfl) fun C Fm => ?_
  unfold cmp_Compare_int at h
  refine AW.sg0 Fm 1 [(0, vi x876), (1, vi x877)] [] (by kernel_rfl) ?_
  refine AW.seq ?_
  obtain ⟨z878, hz879, h⟩ := bd_some h
  refine AW.g Fm [.s, .k (cE [] [] (vb z878) [] []), .s] (fun K => K 1 ∧ True) [(0, vi x876), (1, vi x877), (5, vb z878)] [] ⟨KAt.cl (args := [vi x876]) (cmp_isNaN_int_spec hz879) Tryz.call119 [] rfl (by kernel_rfl), True.intro⟩ (by kernel_rfl) ?_
  refine AW.seq ?_
  obtain ⟨z880, hz881, h⟩ := bd_some h
  refine AW.g Fm [.s, .k (cE [] [] (vb z880) [] []), .s] (fun K => K 1 ∧ True) [(0, vi x876), (1, vi x877), (5, vb z878), (6, vb z880)] [] ⟨KAt.cl (args := [vi x877]) (cmp_isNaN_int_spec hz881) Tryz.call119 [] rfl (by kernel_rfl), True.intro⟩ (by kernel_rfl) ?_
  refine AW.seq ?_
  refine AW.sg0 Fm 1 [(0, vi x876), (1, vi x877), (6, vb z880), (11, vb z878)] [] (by kernel_rfl) ?_
  refine AW.cond (b := z878) (by kernel_rfl) (fun hb882 => ?_) (fun hb882 => ?_)
  · have h := br_t h hb882
    refine AW.seq ?_
    refine AW.sg0 Fm 1 [(12, vb z880)] [] (by kernel_rfl) ?_
    refine AW.cond (b := z880) (by kernel_rfl) (fun hb883 => ?_) (fun hb883 => ?_)
    · have h := br_t h hb883
      refine AW.sg0 Fm 1 [(4, vi (0 : Int))] [] (by kernel_rfl) ?_
      refine AW.ret ?_
      obtain rfl := Option.some.inj h
      exact Kn.r Fm [(4, vi (0 : Int))] [] (by kernel_rfl) (Kn.dn Fm (by kernel_rfl))
    · have h := br_f h hb883
      refine AW.skip ?_
      refine AW.sg0 Fm 1 [(4, vi (-1 : Int))] [] (by kernel_rfl) ?_
      refine AW.ret ?_
      obtain rfl := Option.some.inj h
      exact Kn.r Fm [(4, vi (-1 : Int))] [] (by kernel_rfl) (Kn.dn Fm (by kernel_rfl))
  · have h := br_f h hb882
    refine AW.skip ?_
    refine AW.seq ?_
    refine AW.sg0 Fm 1 [(0, vi x876), (1, vi x877), (13, vb z880)] [] (by kernel_rfl) ?_
    refine AW.cond (b := z880) (by kernel_rfl) (fun hb884 => ?_) (fun hb884 => ?_)
    · have h := br_t h hb884
      refine AW.sg0 Fm 1 [(4, vi (1 : Int))] [] (by kernel_rfl) ?_
      refine AW.ret ?_
      obtain rfl := Option.some.inj h
      exact Kn.r Fm [(4, vi (1 : Int))] [] (by kernel_rfl) (Kn.dn Fm (by kernel_rfl))
    · have h := br_f h hb884
      refine AW.skip ?_
      refine AW.seq ?_
      refine AW.sg0 Fm 3 [(0, vi x876), (1, vi x877), (16, vb (decide (x876 < x877)))] [] (by kernel_rfl) ?_
      refine AW.cond (b := (decide (x876 < x877))) (by kernel_rfl) (fun hb885 => ?_) (fun hb885 => ?_)
      · have h := br_t h hb885
        refine AW.sg0 Fm 1 [(4, vi (-1 : Int))] [] (by kernel_rfl) ?_
        refine AW.ret ?_
        obtain rfl := Option.some.inj h
        exact Kn.r Fm [(4, vi (-1 : Int))] [] (by kernel_rfl) (Kn.dn Fm (by kernel_rfl))
      · have h := br_f h hb885
        refine AW.skip ?_
        refine AW.seq ?_
        refine AW.sg0 Fm 3 [(19, vb (decide (x877 < x876)))] [] (by kernel_rfl) ?_
        refine AW.cond (b := (decide (x877 < x876))) (by kernel_rfl) (fun hb886 => ?_) (fun hb886 => ?_)
        · have h := br_t h hb886
          refine AW.sg0 Fm 1 [(4, vi (1 : Int))] [] (by kernel_rfl) ?_
          refine AW.ret ?_
          obtain rfl := Option.some.inj h
          exact Kn.r Fm [(4, vi (1 : Int))] [] (by kernel_rfl) (Kn.dn Fm (by kernel_rfl))
        · have h := br_f h hb886
          refine AW.skip ?_
          refine AW.sg0 Fm 1 [(4, vi (0 : Int))] [] (by kernel_rfl) ?_
          refine AW.ret ?_
          obtain rfl := Option.some.inj h
          exact Kn.r Fm [(4, vi (0 : Int))] [] (by kernel_rfl) (Kn.dn Fm (by kernel_rfl))
theorem region_Row_1_spec {F : Nat} {x887 : Span} {x888 : Span} {r : Int} (h : region_Row_1 F x887 x888 = some r) :
    FSpec Tryz.prog 176 [gE x887, gE x888] [] (vi r) [] := by
  refine FSpec.intro prog_mixed prog_lay Tryz.func176 rfl (by kernel_rfl) fun C Fm => ?_
  unfold region_Row_1 at h
  refine AW.sg0 Fm 3 [(2, .v (.c (.ptr 2 0))), (3, .v (.c (.ptr 3 0)))] [(2, .box false (gC x887)), (3, .box false (gC x888))] (by kernel_rfl) ?_
  refine AW.seq ?_
  obtain ⟨z889, hz890, h⟩ := bd_some h
  refine AW.g Fm [.s, .s, .s, .s, .k (cE [] [] (vi z889) [] []), .s] (fun K => K 4 ∧ True) [(4, vi z889)] [] ⟨KAt.cl (args := [vi x887.left_, vi x888.left_]) (cmp_Compare_int_spec hz890) Tryz.call61 [] rfl (by kernel_rfl), True.intro⟩ (by kernel_rfl) ?_
  refine AW.ret ?_
  obtain rfl := Option.some.inj h
  exact Kn.r Fm [(4, vi z889)] [] (by kernel_rfl) (Kn.dn Fm (by kernel_rfl))
theorem region_Row_spec {F : Nat} {x891 : (List Rect)} {x892 : Int} {r : (List Span)} (h : region_Row F x891 x892 = some r) :
    FSpec Tryz.prog 141 [AL x891, vi x892] [] (AL (α := Span) r) [] := by
  refine FSpec.intro prog_mixed prog_lay Tryz.func141 rfl (by kernel_rfl) fun C Fm => ?_
  unfold region_Row at h
  refine AW.sg0 Fm 1 [(0, AL x891), (1, vi x892)] [] (by kernel_rfl) ?_
  refine AW.sg Fm [.m] (fun K => True) [(0, AL x891), (1, vi x892), (5, .v (.c (.own 5)))] [(5, .arr 2 (0) (fun _ => []))] True.intro (by kernel_rfl) ?_
  refine Kn.wk [(0, AL x891), (1, vi x892), (5, .v (.c (.own 5)))] [(5, AO (α := Span) ([] : List Span))] (FE.refl _) (⟨rfl, OLe.is ((Is.nil (α := Span))), True.intro⟩) ?_
  refine AW.join (r := r) (fun z : (List Span) => region_Row_k3 F z) (fun z => [(5, .v (.c (.own 5)))]) (fun z => [(5, AO z)]) (fun v917 h => ?_) (fun J918 hJ918 => ?_)
  · have h : region_Row_k3 F v917 = some r := h
    refine AW.seq ?_
    obtain ⟨z919, hz920, h⟩ := bd_some h
    refine AW.g Fm [.s, .k (cE [(0, 5)] [] (.any) [(0, AO v917)] [(0, AO z919)])] (fun K => K 1 ∧ True) [(5, .v (.c (.own 5)))] [(5, AO z919)] ⟨KAt.callX (args := [.v (.c (.own 0)), .v (.c (.sem (CloOK Tryz.prog (FR_Span_Span_Int (fun y0 y1 => region_Row_1 F y0 y1)))))]) (sortF_spec hz920) Tryz.call175 [(0, 5)] [] [.tmp 37, .func 176] rfl (by kernel_rfl) (by kernel_rfl) (by kernel_rfl) ⟨ArgT.plain (by kernel_rfl) (ALe.of_eq (by kernel_rfl)) (by kernel_rfl), ArgT.cloX Tryz.call176 [] (fun args r hq => by obtain ⟨y0, y1, y, hq, rfl, rfl⟩ := hq; exact Eq.mp (by kernel_rfl) (region_Row_1_spec hq)) (fun args r hq => by obtain ⟨y0, y1, y, hq, rfl, rfl⟩ := hq; rfl) (by kernel_rfl) [] (by kernel_rfl) (by kernel_rfl) (True.intro) (by kernel_rfl), True.intro⟩, True.intro⟩ (by kernel_rfl) ?_
    refine AW.sg Fm [.m] (fun K => True) [(5, .v (.c (.own 5))), (8, .v (.c (.own 8)))] [(5, AO z919), (8, .arr 2 (0) (fun _ => []))] True.intro (by kernel_rfl) ?_
    refine Kn.wk [(5, .v (.c (.own 5))), (8, .v (.c (.own 8)))] [(5, AO z919), (8, AO (α := Span) ([] : List Span))] (FE.refl _) (⟨rfl, OLe.refl _, ⟨rfl, OLe.is ((Is.nil (α := Span))), True.intro⟩⟩) ?_
    refine AW.join (r := r) (fun z : (List Span) => region_Row_k7 F z) (fun z => [(8, .v (.c (.own 8)))]) (fun z => [(8, AO z)]) (fun v957 h => ?_) (fun J958 hJ958 => ?_)
    · have h : region_Row_k7 F v957 = some r := h
      refine AW.sg0 Fm 2 [(4, .v (.c (.own 8)))] [(8, AO v957)] (by kernel_rfl) ?_
      refine AW.ret ?_
      obtain rfl := Option.some.inj h
      refine Kn.r Fm [(4, .v (.c (.own 8)))] [(8, AO v957)] (by kernel_rfl) ?_
      refine Kn.frz [(4, AL v957)] [] (by kernel_rfl) (by kernel_rfl) (by kernel_rfl) ?_
      exact Kn.r Fm [(4, AL v957)] [] (by kernel_rfl) (Kn.dn Fm (by kernel_rfl))
    · refine AW.sg0 Fm 3 [(8, .v (.c (.own 8))), (39, .v (.c (.own 5))), (40, vi ((List.length z919 : Nat) : Int)), (41, vi (0 : Int))] [(5, AO z919), (8, AO (α := Span) ([] : List Span))] (by kernel_rfl) ?_
      refine AW.block ?_
      refine Kn.r Fm [(8, .v (.c (.own 8))), (39, .v (.c (.own 5))), (40, vi ((List.length z919 : Nat) : Int)), (41, vi (0 : Int))] [(5, AO z919), (8, AO ([] : List Span))] (by kernel_rfl) ?_
      have h : loopN (fun again (z : Int × (List Span)) => region_Row_b4 F z919 again z.1 z.2) F ((0 : Int), ([] : List Span)) = some r := h
      refine AW.loopF (E' := fun z => [(8, .v (.c (.own 8))), (39, .v (.c (.own 5))), (40, vi ((List.length z919 : Nat) : Int)), (41, vi z.1)]) (S' := fun z => [(5, AO z919), (8, AO z.2)]) (fun ag_region_Row_b4 z J940 hJ940 h => ?_) h
      obtain ⟨v938, v939⟩ := z
      have h : region_Row_b4 F z919 ag_region_Row_b4 v938 v939 = some r := h
      refine AW.sg0 Fm 1 [(8, .v (.c (.own 8))), (39, .v (.c (.own 5))), (40, vi ((List.length z919 : Nat) : Int)), (41, vi v938), (42, vb (decide (v938 < ((List.length z919 : Nat) : Int))))] [(5, AO z919), (8, AO v939)] (by kernel_rfl) ?_
      refine AW.seq ?_
      refine AW.cond (b := (decide (v938 < ((List.length z919 : Nat) : Int)))) (by kernel_rfl) (fun hb941 => ?_) (fun hb941 => ?_)
      · have h := br_t h hb941
        refine AW.skip ?_
        refine AW.join (r := r) (fun z : (List Span) => region_Row_k6 F v938 ag_region_Row_b4 z) (fun z => [(8, .v (.c (.own 8))), (39, .v (.c (.own 5))), (40, vi ((List.length z919 : Nat) : Int)), (41, vi v938)]) (fun z => [(5, AO z919), (8, AO z)]) (fun v954 h => ?_) (fun J955 hJ955 => ?_)
        · have h : region_Row_k6 F v938 ag_region_Row_b4 v954 = some r := h
          obtain ⟨hg956, h⟩ := gd_some h
          refine AW.g Fm [.s, .s] (fun K => (I64 (v938 + (1 : Int)) ∧ True) ∧ True) [(8, .v (.c (.own 8))), (39, .v (.c (.own 5))), (40, vi ((List.length z919 : Nat) : Int)), (41, vi (v938 + (1 : Int)))] [(5, AO z919), (8, AO v954)] ⟨⟨hg956, True.intro⟩, True.intro⟩ (by kernel_rfl) ?_
          exact Kn.r Fm [(8, .v (.c (.own 8))), (39, .v (.c (.own 5))), (40, vi ((List.length z919 : Nat) : Int)), (41, vi (v938 + (1 : Int)))] [(5, AO z919), (8, AO v954)] (by kernel_rfl) (hJ940 ((v938 + (1 : Int)), v954) h)
        · refine AW.block ?_
          obtain ⟨hg942, h⟩ := gd_some h
          refine AW.sg Fm [.s, .s, .s, .s] (fun K => (0 ≤ v938 ∧ v938 < ((List.length z919 : Nat) : Int)) ∧ (v938.toNat < List.length z919) ∧ True) [(8, .v (.c (.own 8))), (10, .v (.c (.ptr 10 0))), (39, .v (.c (.own 5))), (40, vi ((List.length z919 : Nat) : Int)), (41, vi v938)] [(5, AO z919), (8, AO v939), (10, .box false [ci ((gl z919 v938.toNat).left_), ci ((gl z919 v938.toNat).right_)])] ⟨hg942, (toNat_lt hg942), True.intro⟩ (by kernel_rfl) ?_
          refine AW.sg0 Fm 3 [(8, .v (.c (.own 8))), (10, .v (.c (.ptr 10 0))), (11, vi ((List.length v939 : Nat) : Int)), (39, .v (.c (.own 5))), (40, vi ((List.length z919 : Nat) : Int)), (41, vi v938)] [(5, AO z919), (8, AO v939), (10, .box false [ci ((gl z919 v938.toNat).left_), ci ((gl z919 v938.toNat).right_)])] (by kernel_rfl) ?_
          refine AW.join (r := r) (fun z : Bool => region_Row_k5 F z919 v938 v939 ag_region_Row_b4 z) (fun z => [(8, .v (.c (.own 8))), (10, .v (.c (.ptr 10 0))), (11, vi ((List.length v939 : Nat) : Int)), (39, .v (.c (.own 5))), (40, vi ((List.length z919 : Nat) : Int)), (41, vi v938), (59, vb z)]) (fun z => [(5, AO z919), (8, AO v939), (10, .box false [ci ((gl z919 v938.toNat).left_), ci ((gl z919 v938.toNat).right_)])]) (fun v946 h => ?_) (fun J947 hJ947 => ?_)
          · have h : region_Row_k5 F z919 v938 v939 ag_region_Row_b4 v946 = some r := h
            refine AW.cond (b := v946) (by kernel_rfl) (fun hb948 => ?_) (fun hb948 => ?_)
            · have h := br_t h hb948
              obtain ⟨hg949, h⟩ := gd_some h
              obtain ⟨hg950, h⟩ := gd_some h
              obtain ⟨hg951, h⟩ := gd_some h
              obtain ⟨hg952, h⟩ := gd_some h
              refine AW.g Fm [.s, .s, .s, .s, .s, .s, .s, .s, .s, .s, .s, .s, .s, .s, .s] (fun K => (I64 (((List.length v939 : Nat) : Int) - (1 : Int)) ∧ True) ∧ (I64 (((List.length v939 : Nat) : Int) - (1 : Int)) ∧ True) ∧ (0 ≤ (((List.length v939 : Nat) : Int) - (1 : Int)) ∧ (((List.length v939 : Nat) : Int) - (1 : Int)) < ((List.length v939 : Nat) : Int)) ∧ ((((List.length v939 : Nat) : Int) - (1 : Int)).toNat < List.length v939) ∧ (0 ≤ (((List.length v939 : Nat) : Int) - (1 : Int)) ∧ (((List.length v939 : Nat) : Int) - (1 : Int)) < ((List.length v939 : Nat) : Int)) ∧ ((((List.length v939 : Nat) : Int) - (1 : Int)).toNat < List.length v939) ∧ True) [(8, .v (.c (.own 8))), (39, .v (.c (.own 5))), (40, vi ((List.length z919 : Nat) : Int)), (41, vi v938)] [(5, AO z919), (8, .arr 2 (List.length (α := Span) v939) (fun j => if j = (((List.length v939 : Nat) : Int) - (1 : Int)).toNat then splice ((LF (α := Span) v939) (((List.length v939 : Nat) : Int) - (1 : Int)).toNat) 1 [.int .i64 (gmax ((gl v939 (((List.length v939 : Nat) : Int) - (1 : Int)).toNat).right_) ((gl z919 v938.toNat).right_))] else (LF (α := Span) v939) j))] ⟨⟨hg949, True.intro⟩, ⟨hg950, True.intro⟩, hg951, (toNat_lt hg951), hg952, (toNat_lt hg952), True.intro⟩ (by kernel_rfl) ?_
              refine Kn.wk [(8, .v (.c (.own 8))), (39, .v (.c (.own 5))), (40, vi ((List.length z919 : Nat) : Int)), (41, vi v938)] [(5, AO z919), (8, AO (α := Span) (List.set v939 (((List.length v939 : Nat) : Int) - (1 : Int)).toNat (⟨(gl v939 (((List.length v939 : Nat) : Int) - (1 : Int)).toNat).left_, (gmax ((gl v939 (((List.length v939 : Nat) : Int) - (1 : Int)).toNat).right_) ((gl z919 v938.toNat).right_))⟩ : Span)))] (FE.refl _) (⟨rfl, OLe.refl _, ⟨rfl, OLe.is (Is.set (Is.refl v939) (toNat_lt hg952) (⟨(gl v939 (((List.length v939 : Nat) : Int) - (1 : Int)).toNat).left_, (gmax ((gl v939 (((List.length v939 : Nat) : Int) - (1 : Int)).toNat).right_) ((gl z919 v938.toNat).right_))⟩ : Span) (by kernel_rfl)), True.intro⟩⟩) ?_
              exact Kn.r Fm [(8, .v (.c (.own 8))), (39, .v (.c (.own 5))), (40, vi ((List.length z919 : Nat) : Int)), (41, vi v938)] [(5, AO z919), (8, AO (List.set v939 (((List.length v939 : Nat) : Int) - (1 : Int)).toNat (⟨(gl v939 (((List.length v939 : Nat) : Int) - (1 : Int)).toNat).left_, (gmax ((gl v939 (((List.length v939 : Nat) : Int) - (1 : Int)).toNat).right_) ((gl z919 v938.toNat).right_))⟩ : Span)))] (by kernel_rfl) (hJ955 (List.set v939 (((List.length v939 : Nat) : Int) - (1 : Int)).toNat (⟨(gl v939 (((List.length v939 : Nat) : Int) - (1 : Int)).toNat).left_, (gmax ((gl v939 (((List.length v939 : Nat) : Int) - (1 : Int)).toNat).right_) ((gl z919 v938.toNat).right_))⟩ : Span)) h)
            · have h := br_f h hb948
              obtain ⟨hg953, h⟩ := gd_some h
              refine AW.g Fm [.s, .s, .w (AL (α := Span) ([(gl z919 v938.toNat)] : List Span)), .s, .s] (fun K => (ALe (.v (.c (.d (.lst 1 (litF 2 [.int .i64 (gl z919 v938.toNat).left_, .int .i64 (gl z919 v938.toNat).right_]))))) (AL (α := Span) ([(gl z919 v938.toNat)] : List Span))) ∧ ((List.length (α := Span) v939) + (List.length (α := Span) ([(gl z919 v938.toNat)] : List Span)) ≤ LIM ∧ (∀ j, j < List.length (α := Span) ([(gl z919 v938.toNat)] : List Span) → ((LF (α := Span) ([(gl z919 v938.toNat)] : List Span)) j).length = 2) ∧ (True)) ∧ True) [(8, .v (.c (.own 77))), (39, .v (.c (.own 5))), (40, vi ((List.length z919 : Nat) : Int)), (41, vi v938)] [(5, AO z919), (77, .arr 2 ((List.length (α := Span) v939) + (List.length (α := Span) ([(gl z919 v938.toNat)] : List Span))) (appF (List.length (α := Span) v939) (LF (α := Span) v939) (LF (α := Span) ([(gl z919 v938.toNat)] : List Span))))] ⟨ALe.lst (.lit ([(gl z919 v938.toNat)] : List Span) (by kernel_rfl)), ⟨hg953, (Is.refl ([(gl z919 v938.toNat)] : List Span) : Is (List.length (α := Span) ([(gl z919 v938.toNat)] : List Span)) (LF (α := Span) ([(gl z919 v938.toNat)] : List Span)) ([(gl z919 v938.toNat)] : List Span)).len, True.intro⟩, True.intro⟩ (by kernel_rfl) ?_
              refine Kn.wk [(8, .v (.c (.own 77))), (39, .v (.c (.own 5))), (40, vi ((List.length z919 : Nat) : Int)), (41, vi v938)] [(5, AO z919), (77, AO (α := Span) (v939 ++ ([(gl z919 v938.toNat)] : List Span)))] (FE.refl _) (⟨rfl, OLe.refl _, ⟨rfl, OLe.is (Is.app (Is.refl v939) (Is.refl ([(gl z919 v938.toNat)] : List Span))), True.intro⟩⟩) ?_
              exact Kn.re Fm [(8, 77)] [(8, .v (.c (.own 8))), (39, .v (.c (.own 5))), (40, vi ((List.length z919 : Nat) : Int)), (41, vi v938)] [(5, AO z919), (8, AO (v939 ++ ([(gl z919 v938.toNat)] : List Span)))] (by kernel_rfl) (by kernel_rfl) (by kernel_rfl) (by kernel_rfl) (hJ955 (v939 ++ ([(gl z919 v938.toNat)] : List Span)) h)
          · rcases Bool.eq_false_or_eq_true (decide ((0 : Int) < ((List.length v939 : Nat) : Int))) with hb943 | hb943
            · have h := br_t h hb943
              obtain ⟨hg944, h⟩ := gd_some h
              obtain ⟨hg945, h⟩ := gd_some h
              refine AW.g Fm [.s, .s, .w (vb true), .s, .s, .s, .s, .s, .s, .s, .s, .s, .s] (fun K => (ALe (vb (decide ((0 : Int) < ((List.length v939 : Nat) : Int)))) (vb true)) ∧ (I64 (((List.length v939 : Nat) : Int) - (1 : Int)) ∧ True) ∧ (0 ≤ (((List.length v939 : Nat) : Int) - (1 : Int)) ∧ (((List.length v939 : Nat) : Int) - (1 : Int)) < ((List.length v939 : Nat) : Int)) ∧ ((((List.length v939 : Nat) : Int) - (1 : Int)).toNat < List.length v939) ∧ True) [(8, .v (.c (.own 8))), (10, .v (.c (.ptr 10 0))), (11, vi ((List.length v939 : Nat) : Int)), (39, .v (.c (.own 5))), (40, vi ((List.length z919 : Nat) : Int)), (41, vi v938), (50, .v (.c (.ptr 10 0))), (51, vi (gl z919 v938.toNat).left_), (52, .v (.c (.own 8))), (53, vi ((List.length v939 : Nat) : Int)), (54, vi (((List.length v939 : Nat) : Int) - (1 : Int))), (55, .v (.c (.pte 8 2 ((((List.length v939 : Nat) : Int) - (1 : Int)).toNat) 0))), (56, .v (.c (.pte 8 2 ((((List.length v939 : Nat) : Int) - (1 : Int)).toNat) 1))), (57, vi (gl v939 (((List.length v939 : Nat) : Int) - (1 : Int)).toNat).right_), (58, vb (decide (((gl z919 v938.toNat).left_) ≤ ((gl v939 (((List.length v939 : Nat) : Int) - (1 : Int)).toNat).right_)))), (59, vb (decide (((gl z919 v938.toNat).left_) ≤ ((gl v939 (((List.length v939 : Nat) : Int) - (1 : Int)).toNat).right_))))] [(5, AO z919), (8, AO v939), (10, .box false [ci ((gl z919 v938.toNat).left_), ci ((gl z919 v938.toNat).right_)])] ⟨ALe.bool hb943, ⟨hg944, True.intro⟩, hg945, (toNat_lt hg945), True.intro⟩ (by kernel_rfl) ?_
              exact Kn.r Fm [(8, .v (.c (.own 8))), (10, .v (.c (.ptr 10 0))), (11, vi ((List.length v939 : Nat) : Int)), (39, .v (.c (.own 5))), (40, vi ((List.length z919 : Nat) : Int)), (41, vi v938), (59, vb (decide (((gl z919 v938.toNat).left_) ≤ ((gl v939 (((List.length v939 : Nat) : Int) - (1 : Int)).toNat).right_))))] [(5, AO z919), (8, AO v939), (10, .box false [ci ((gl z919 v938.toNat).left_), ci ((gl z919 v938.toNat).right_)])] (by kernel_rfl) (hJ947 (decide (((gl z919 v938.toNat).left_) ≤ ((gl v939 (((List.length v939 : Nat) : Int) - (1 : Int)).toNat).right_))) h)
            · have h := br_f h hb943
              refine AW.g Fm [.s, .s, .w (vb false), .s, .s, .s, .s, .s, .s, .s, .s, .s, .s] (fun K => (ALe (vb (decide ((0 : Int) < ((List.length v939 : Nat) : Int)))) (vb false)) ∧ True) [(8, .v (.c (.own 8))), (10, .v (.c (.ptr 10 0))), (11, vi ((List.length v939 : Nat) : Int)), (39, .v (.c (.own 5))), (40, vi ((List.length z919 : Nat) : Int)), (41, vi v938), (59, vb false)] [(5, AO z919), (8, AO v939), (10, .box false [ci ((gl z919 v938.toNat).left_), ci ((gl z919 v938.toNat).right_)])] ⟨ALe.bool hb943, True.intro⟩ (by kernel_rfl) ?_
              exact Kn.r Fm [(8, .v (.c (.own 8))), (10, .v (.c (.ptr 10 0))), (11, vi ((List.length v939 : Nat) : Int)), (39, .v (.c (.own 5))), (40, vi ((List.length z919 : Nat) : Int)), (41, vi v938), (59, vb false)] [(5, AO z919), (8, AO v939), (10, .box false [ci ((gl z919 v938.toNat).left_), ci ((gl z919 v938.toNat).right_)])] (by kernel_rfl) (hJ947 false h)
      · have h := br_f h hb941
        refine AW.exit ?_
        exact Kn.r Fm [(8, .v (.c (.own 8)))] [(8, AO v939)] (by kernel_rfl) (hJ958 v939 h)
  · refine AW.sg0 Fm 3 [(1, vi x892), (5, .v (.c (.own 5))), (12, AL x891), (13, vi ((List.length x891 : Nat) : Int)), (14, vi (0 : Int))] [(5, AO (α := Span) ([] : List Span))] (by kernel_rfl) ?_
    refine AW.block ?_
    refine Kn.r Fm [(1, vi x892), (5, .v (.c (.own 5))), (12, AL x891), (13, vi ((List.length x891 : Nat) : Int)), (14, vi (0 : Int))] [(5, AO ([] : List Span))] (by kernel_rfl) ?_
    have h : loopN (fun again (z : Int × (List Span)) => region_Row_b0 F x891 x892 again z.1 z.2) F ((0 : Int), ([] : List Span)) = some r := h
    refine AW.loopF (E' := fun z => [(1, vi x892), (5, .v (.c (.own 5))), (12, AL x891), (13, vi ((List.length x891 : Nat) : Int)), (14, vi z.1)]) (S' := fun z => [(5, AO z.2)]) (fun ag_region_Row_b0 z J906 hJ906 h => ?_) h
    obtain ⟨v904, v905⟩ := z
    have h : region_Row_b0 F x891 x892 ag_region_Row_b0 v904 v905 = some r := h
    refine AW.sg0 Fm 1 [(1, vi x892), (5, .v (.c (.own 5))), (12, AL x891), (13, vi ((List.length x891 : Nat) : Int)), (14, vi v904), (15, vb (decide (v904 < ((List.length x891 : Nat) : Int))))] [(5, AO v905)] (by kernel_rfl) ?_
    refine AW.seq ?_
    refine AW.cond (b := (decide (v904 < ((List.length x891 : Nat) : Int)))) (by kernel_rfl) (fun hb907 => ?_) (fun hb907 => ?_)
    · have h := br_t h hb907
      refine AW.skip ?_
      refine AW.join (r := r) (fun z : (List Span) => region_Row_k2 F v904 ag_region_Row_b0 z) (fun z => [(1, vi x892), (5, .v (.c (.own 35))), (12, AL x891), (13, vi ((List.length x891 : Nat) : Int)), (14, vi v904)]) (fun z => [(35, AO z)]) (fun v914 h => ?_) (fun J915 hJ915 => ?_)
      · have h : region_Row_k2 F v904 ag_region_Row_b0 v914 = some r := h
        obtain ⟨hg916, h⟩ := gd_some h
        refine AW.g Fm [.s, .s] (fun K => (I64 (v904 + (1 : Int)) ∧ True) ∧ True) [(1, vi x892), (5, .v (.c (.own 35))), (12, AL x891), (13, vi ((List.length x891 : Nat) : Int)), (14, vi (v904 + (1 : Int)))] [(35, AO v914)] ⟨⟨hg916, True.intro⟩, True.intro⟩ (by kernel_rfl) ?_
        exact Kn.re Fm [(5, 35)] [(1, vi x892), (5, .v (.c (.own 5))), (12, AL x891), (13, vi ((List.length x891 : Nat) : Int)), (14, vi (v904 + (1 : Int)))] [(5, AO v914)] (by kernel_rfl) (by kernel_rfl) (by kernel_rfl) (by kernel_rfl) (hJ906 ((v904 + (1 : Int)), v914) h)
      · refine AW.block ?_
        obtain ⟨hg908, h⟩ := gd_some h
        refine AW.sg Fm [.s, .s, .s, .s] (fun K => (0 ≤ v904 ∧ v904 < ((List.length x891 : Nat) : Int)) ∧ True) [(1, vi x892), (5, .v (.c (.own 5))), (7, .v (.c (.ptr 7 0))), (12, AL x891), (13, vi ((List.length x891 : Nat) : Int)), (14, vi v904)] [(5, AO v905), (7, .box false [ci ((gl x891 v904.toNat).left_), ci ((gl x891 v904.toNat).low_), ci ((gl x891 v904.toNat).right_), ci ((gl x891 v904.toNat).high_)])] ⟨hg908, True.intro⟩ (by kernel_rfl) ?_
        refine AW.join (r := r) (fun z : Bool => region_Row_k1 F x891 v904 v905 ag_region_Row_b0 z) (fun z => [(1, vi x892), (5, .v (.c (.own 5))), (7, .v (.c (.ptr 7 0))), (12, AL x891), (13, vi ((List.length x891 : Nat) : Int)), (14, vi v904), (27, vb z)]) (fun z => [(5, AO v905), (7, .box false [ci ((gl x891 v904.toNat).left_), ci ((gl x891 v904.toNat).low_), ci ((gl x891 v904.toNat).right_), ci ((gl x891 v904.toNat).high_)])]) (fun v910 h => ?_) (fun J911 hJ911 => ?_)
        · have h : region_Row_k1 F x891 v904 v905 ag_region_Row_b0 v910 = some r := h
          refine AW.cond (b := v910) (by kernel_rfl) (fun hb912 => ?_) (fun hb912 => ?_)
          · have h := br_t h hb912
            obtain ⟨hg913, h⟩ := gd_some h
            refine AW.g Fm [.s, .s, .s, .s, .s, .s, .w (AL (α := Span) ([(⟨(gl x891 v904.toNat).left_, (gl x891 v904.toNat).right_⟩ : Span)] : List Span)), .s, .s] (fun K => (ALe (.v (.c (.d (.lst 1 (litF 2 [.int .i64 (gl x891 v904.toNat).left_, .int .i64 (gl x891 v904.toNat).right_]))))) (AL (α := Span) ([(⟨(gl x891 v904.toNat).left_, (gl x891 v904.toNat).right_⟩ : Span)] : List Span))) ∧ ((List.length (α := Span) v905) + (List.length (α := Span) ([(⟨(gl x891 v904.toNat).left_, (gl x891 v904.toNat).right_⟩ : Span)] : List Span)) ≤ LIM ∧ (∀ j, j < List.length (α := Span) ([(⟨(gl x891 v904.toNat).left_, (gl x891 v904.toNat).right_⟩ : Span)] : List Span) → ((LF (α := Span) ([(⟨(gl x891 v904.toNat).left_, (gl x891 v904.toNat).right_⟩ : Span)] : List Span)) j).length = 2) ∧ (True)) ∧ True) [(1, vi x892), (5, .v (.c (.own 35))), (12, AL x891), (13, vi ((List.length x891 : Nat) : Int)), (14, vi v904)] [(35, .arr 2 ((List.length (α := Span) v905) + (List.length (α := Span) ([(⟨(gl x891 v904.toNat).left_, (gl x891 v904.toNat).right_⟩ : Span)] : List Span))) (appF (List.length (α := Span) v905) (LF (α := Span) v905) (LF (α := Span) ([(⟨(gl x891 v904.toNat).left_, (gl x891 v904.toNat).right_⟩ : Span)] : List Span))))] ⟨ALe.lst (.lit ([(⟨(gl x891 v904.toNat).left_, (gl x891 v904.toNat).right_⟩ : Span)] : List Span) (by kernel_rfl)), ⟨hg913, (Is.refl ([(⟨(gl x891 v904.toNat).left_, (gl x891 v904.toNat).right_⟩ : Span)] : List Span) : Is (List.length (α := Span) ([(⟨(gl x891 v904.toNat).left_, (gl x891 v904.toNat).right_⟩ : Span)] : List Span)) (LF (α := Span) ([(⟨(gl x891 v904.toNat).left_, (gl x891 v904.toNat).right_⟩ : Span)] : List Span)) ([(⟨(gl x891 v904.toNat).left_, (gl x891 v904.toNat).right_⟩ : Span)] : List Span)).len, True.intro⟩, True.intro⟩ (by kernel_rfl) ?_
            refine Kn.wk [(1, vi x892), (5, .v (.c (.own 35))), (12, AL x891), (13, vi ((List.length x891 : Nat) : Int)), (14, vi v904)] [(35, AO (α := Span) (v905 ++ ([(⟨(gl x891 v904.toNat).left_, (gl x891 v904.toNat).right_⟩ : Span)] : List Span)))] (FE.refl _) (⟨rfl, OLe.is (Is.app (Is.refl v905) (Is.refl ([(⟨(gl x891 v904.toNat).left_, (gl x891 v904.toNat).right_⟩ : Span)] : List Span))), True.intro⟩) ?_
            exact Kn.r Fm [(1, vi x892), (5, .v (.c (.own 35))), (12, AL x891), (13, vi ((List.length x891 : Nat) : Int)), (14, vi v904)] [(35, AO (v905 ++ ([(⟨(gl x891 v904.toNat).left_, (gl x891 v904.toNat).right_⟩ : Span)] : List Span)))] (by kernel_rfl) (hJ915 (v905 ++ ([(⟨(gl x891 v904.toNat).left_, (gl x891 v904.toNat).right_⟩ : Span)] : List Span)) h)
          · have h := br_f h hb912
            refine AW.skip ?_
            exact Kn.re Fm [(35, 5)] [(1, vi x892), (5, .v (.c (.own 35))), (12, AL x891), (13, vi ((List.length x891 : Nat) : Int)), (14, vi v904)] [(35, AO v905)] (by kernel_rfl) (by kernel_rfl) (by kernel_rfl) (by kernel_rfl) (hJ915 v905 h)
        · rcases Bool.eq_false_or_eq_true (decide (((gl x891 v904.toNat).low_) ≤ x892)) with hb909 | hb909
          · have h := br_t h hb909
            refine AW.g Fm [.s, .s, .s, .s, .w (vb true), .s, .s, .s, .s, .s] (fun K => (ALe (vb (decide (((gl x891 v904.toNat).low_) ≤ x892))) (vb true)) ∧ True) [(1, vi x892), (5, .v (.c (.own 5))), (7, .v (.c (.ptr 7 0))), (12, AL x891), (13, vi ((List.length x891 : Nat) : Int)), (14, vi v904), (23, vi x892), (24, .v (.c (.ptr 7 3))), (25, vi (gl x891 v904.toNat).high_), (26, vb (decide (x892 < ((gl x891 v904.toNat).high_)))), (27, vb (decide (x892 < ((gl x891 v904.toNat).high_))))] [(5, AO v905), (7, .box false [ci ((gl x891 v904.toNat).left_), ci ((gl x891 v904.toNat).low_), ci ((gl x891 v904.toNat).right_), ci ((gl x891 v904.toNat).high_)])] ⟨ALe.bool hb909, True.intro⟩ (by kernel_rfl) ?_
            exact Kn.r Fm [(1, vi x892), (5, .v (.c (.own 5))), (7, .v (.c (.ptr 7 0))), (12, AL x891), (13, vi ((List.length x891 : Nat) : Int)), (14, vi v904), (27, vb (decide (x892 < ((gl x891 v904.toNat).high_))))] [(5, AO v905), (7, .box false [ci ((gl x891 v904.toNat).left_), ci ((gl x891 v904.toNat).low_), ci ((gl x891 v904.toNat).right_), ci ((gl x891 v904.toNat).high_)])] (by kernel_rfl) (hJ911 (decide (x892 < ((gl x891 v904.toNat).high_))) h)
          · have h := br_f h hb909
            refine AW.g Fm [.s, .s, .s, .s, .w (vb false), .s, .s, .s, .s, .s] (fun K => (ALe (vb (decide (((gl x891 v904.toNat).low_) ≤ x892))) (vb false)) ∧ True) [(1, vi x892), (5, .v (.c (.own 5))), (7, .v (.c (.ptr 7 0))), (12, AL x891), (13, vi ((List.length x891 : Nat) : Int)), (14, vi v904), (27, vb false)] [(5, AO v905), (7, .box false [ci ((gl x891 v904.toNat).left_), ci ((gl x891 v904.toNat).low_), ci ((gl x891 v904.toNat).right_), ci ((gl x891 v904.toNat).high_)])] ⟨ALe.bool hb909, True.intro⟩ (by kernel_rfl) ?_
            exact Kn.r Fm [(1, vi x892), (5, .v (.c (.own 5))), (7, .v (.c (.ptr 7 0))), (12, AL x891), (13, vi ((List.length x891 : Nat) : Int)), (14, vi v904), (27, vb false)] [(5, AO v905), (7, .box false [ci ((gl x891 v904.toNat).left_), ci ((gl x891 v904.toNat).low_), ci ((gl x891 v904.toNat).right_), ci ((gl x891 v904.toNat).high_)])] (by kernel_rfl) (hJ911 false h)
    · have h := br_f h hb907
      refine AW.exit ?_
      exact Kn.r Fm [(5, .v (.c (.own 5)))] [(5, AO v905)] (by kernel_rfl) (hJ918 v905 h)
theorem region_canonical_1_spec {F : Nat} {x959 : Int} {x960 : (List Rect)} {r : (List Span)} (h : region_canonical_1 F x959 x960 = some r) :
    FSpec Tryz.prog 156 [vi x959, .v (.c (.ptr 0 0))] [(0, .box true [.d (DL x960)])] (AL (α := Span) r) [(0, .box true [.d (DL x960)])] := by
  refine FSpec.intro prog_mixed prog_lay Tryz.func156 rfl (by kernel_rfl) fun C Fm => ?_
  unfold region_canonical_1 at h
  refine AW.sg0 Fm 1 [(0, vi x959), (1, .v (.c (.ptr 0 0)))] [(0, .box true [.d (DL x960)])] (by kernel_rfl) ?_
  refine AW.seq ?_
  obtain ⟨z961, hz962, h⟩ := bd_some h
  refine AW.g Fm [.s, .s, .k (cE [] [] (AL z961) [] []), .s] (fun K => K 2 ∧ True) [(3, AL z961)] [(0, .box true [.d (DL x960)])] ⟨KAt.cl (args := [AL x960, vi x959]) (region_Row_spec hz962) Tryz.call141 [] rfl (by kernel_rfl), True.intro⟩ (by kernel_rfl) ?_
  refine AW.ret ?_
  obtain rfl := Option.some.inj h
  exact Kn.r Fm [(3, AL z961)] [(0, .box true [.d (DL x960)])] (by kernel_rfl) (Kn.dn Fm (by kernel_rfl))
theorem slices_Equal_Span_spec {F : Nat} {x963 : (List Span)} {x964 : (List Span)} {r : Bool} (h : slices_Equal_Span F x963 x964 = some r) :
    FSpec Tryz.prog 169 [AL x963, AL x964] [] (vb r) [] := by
  refine FSpec.intro prog_mixed prog_lay Tryz.func169 rfl (by kernel_rfl) fun C Fm => ?_
  unfold slices_Equal_Span at h
  refine AW.sg0 Fm 1 [(0, AL x963), (1, AL x964)] [] (by kernel_rfl) ?_
  refine AW.seq ?_
  refine AW.sg0 Fm 5 [(0, AL x963), (1, AL x964), (10, vb (((List.length x963 : Nat) : Int) != ((List.length x964 : Nat) : Int)))] [] (by kernel_rfl) ?_
  refine AW.cond (b := (((List.length x963 : Nat) : Int) != ((List.length x964 : Nat) : Int))) (by kernel_rfl) (fun hb965 => ?_) (fun hb965 => ?_)
  · have h := br_t h hb965
    refine AW.sg0 Fm 1 [(4, vb false)] [] (by kernel_rfl) ?_
    refine AW.ret ?_
    obtain rfl := Option.some.inj h
    exact Kn.r Fm [(4, vb false)] [] (by kernel_rfl) (Kn.dn Fm (by kernel_rfl))
  · have h := br_f h hb965
    refine AW.skip ?_
    refine AW.join (r := r) (fun z : Unit => slices_Equal_Span_k1 F) (fun z => []) (fun z => []) (fun z h => ?_) (fun J979 hJ979 => ?_)
    · have h : slices_Equal_Span_k1 F = some r := h
      refine AW.sg0 Fm 1 [(4, vb true)] [] (by kernel_rfl) ?_
      refine AW.ret ?_
      obtain rfl := Option.some.inj h
      exact Kn.r Fm [(4, vb true)] [] (by kernel_rfl) (Kn.dn Fm (by kernel_rfl))
    · refine AW.sg0 Fm 3 [(0, AL x963), (1, AL x964), (12, vi ((List.length x963 : Nat) : Int)), (13, vi (0 : Int))] [] (by kernel_rfl) ?_
      refine AW.block ?_
      refine Kn.r Fm [(0, AL x963), (1, AL x964), (12, vi ((List.length x963 : Nat) : Int)), (13, vi (0 : Int))] [] (by kernel_rfl) ?_
      have h : loopN (fun again (z : Int) => slices_Equal_Span_b0 F x963 x964 again z) F (0 : Int) = some r := h
      refine AW.loopF (E' := fun z => [(0, AL x963), (1, AL x964), (12, vi ((List.length x963 : Nat) : Int)), (13, vi z)]) (S' := fun z => []) (fun ag_slices_Equal_Span_b0 v972 J973 hJ973 h => ?_) h
      have h : slices_Equal_Span_b0 F x963 x964 ag_slices_Equal_Span_b0 v972 = some r := h
      refine AW.sg0 Fm 1 [(0, AL x963), (1, AL x964), (12, vi ((List.length x963 : Nat) : Int)), (13, vi v972), (14, vb (decide (v972 < ((List.length x963 : Nat) : Int))))] [] (by kernel_rfl) ?_
      refine AW.seq ?_
      refine AW.cond (b := (decide (v972 < ((List.length x963 : Nat) : Int)))) (by kernel_rfl) (fun hb974 => ?_) (fun hb974 => ?_)
      · have h := br_t h hb974
        refine AW.skip ?_
        refine AW.seq ?_
        refine AW.block ?_
        refine AW.sg0 Fm 2 [(0, AL x963), (1, AL x964), (5, vi v972), (12, vi ((List.length x963 : Nat) : Int)), (13, vi v972)] [] (by kernel_rfl) ?_
        obtain ⟨hg975, h⟩ := gd_some h
        obtain ⟨hg976, h⟩ := gd_some h
        refine AW.sg Fm [.s, .s, .s, .s, .s, .s, .s, .s, .k (sE (vb (!((((gl x963 v972.toNat).left_) == ((gl x964 v972.toNat).left_)) && ((((gl x963 v972.toNat).right_) == ((gl x964 v972.toNat).right_)) && true)))))] (fun K => (0 ≤ v972 ∧ v972 < ((List.length x963 : Nat) : Int)) ∧ (0 ≤ v972 ∧ v972 < ((List.length x964 : Nat) : Int)) ∧ K 8 ∧ True) [(0, AL x963), (1, AL x964), (12, vi ((List.length x963 : Nat) : Int)), (13, vi v972), (24, vb (!((((gl x963 v972.toNat).left_) == ((gl x964 v972.toNat).left_)) && ((((gl x963 v972.toNat).right_) == ((gl x964 v972.toNat).right_)) && true))))] [] ⟨hg975, hg976, KAt.eq (xs := [ci ((gl x963 v972.toNat).left_), ci ((gl x963 v972.toNat).right_)]) (ys := [ci ((gl x964 v972.toNat).left_), ci ((gl x964 v972.toNat).right_)]) eqT182 false (b := ((((gl x963 v972.toNat).left_) == ((gl x964 v972.toNat).left_)) && ((((gl x963 v972.toNat).right_) == ((gl x964 v972.toNat).right_)) && true))) rfl rfl (by kernel_rfl) (by kernel_rfl) (by kernel_rfl) (by kernel_rfl), True.intro⟩ (by kernel_rfl) ?_
        refine AW.cond (b := (!((((gl x963 v972.toNat).left_) == ((gl x964 v972.toNat).left_)) && ((((gl x963 v972.toNat).right_) == ((gl x964 v972.toNat).right_)) && true)))) (by kernel_rfl) (fun hb977 => ?_) (fun hb977 => ?_)
        · have h := br_t h hb977
          refine AW.sg0 Fm 1 [(4, vb false)] [] (by kernel_rfl) ?_
          refine AW.ret ?_
          obtain rfl := Option.some.inj h
          exact Kn.r Fm [(4, vb false)] [] (by kernel_rfl) (Kn.dn Fm (by kernel_rfl))
        · have h := br_f h hb977
          refine AW.skip ?_
          obtain ⟨hg978, h⟩ := gd_some h
          refine AW.g Fm [.s, .s] (fun K => (I64 (v972 + (1 : Int)) ∧ True) ∧ True) [(0, AL x963), (1, AL x964), (12, vi ((List.length x963 : Nat) : Int)), (13, vi (v972 + (1 : Int)))] [] ⟨⟨hg978, True.intro⟩, True.intro⟩ (by kernel_rfl) ?_
          exact Kn.r Fm [(0, AL x963), (1, AL x964), (12, vi ((List.length x963 : Nat) : Int)), (13, vi (v972 + (1 : Int)))] [] (by kernel_rfl) (hJ973 (v972 + (1 : Int)) h)
      · have h := br_f h hb974
        refine AW.exit ?_
        exact Kn.r Fm [] [] (by kernel_rfl) (hJ979 () h)
theorem region_rects_spec {F : Nat} {x980 : (List Band)} {r : (List Rect)} (h : region_rects F x980 = some r) :
    FSpec Tryz.prog 170 [AL x980] [] (AL (α := Rect) r) [] := by
  refine FSpec.intro prog_mixed prog_lay Tryz.func170 rfl (by kernel_rfl) fun C Fm => ?_
  unfold region_rects at h
  refine AW.sg0 Fm 1 [(0, AL x980)] [] (by kernel_rfl) ?_
  refine AW.sg Fm [.m] (fun K => True) [(0, AL x980), (3, .v (.c (.own 3)))] [(3, .arr 4 (0) (fun _ => []))] True.intro (by kernel_rfl) ?_
  refine Kn.wk [(0, AL x980), (3, .v (.c (.own 3)))] [(3, AO (α := Rect) ([] : List Rect))] (FE.refl _) (⟨rfl, OLe.is ((Is.nil (α := Rect))), True.intro⟩) ?_
  refine AW.join (r := r) (fun z : (List Rect) => region_rects_k3 F z) (fun z => [(3, .v (.c (.own 3)))]) (fun z => [(3, AO z)]) (fun v1019 h => ?_) (fun J1020 hJ1020 => ?_)
  · have h : region_rects_k3 F v1019 = some r := h
    refine AW.sg0 Fm 2 [(2, .v (.c (.own 3)))] [(3, AO v1019)] (by kernel_rfl) ?_
    refine AW.ret ?_
    obtain rfl := Option.some.inj h
    refine Kn.r Fm [(2, .v (.c (.own 3)))] [(3, AO v1019)] (by kernel_rfl) ?_
    refine Kn.frz [(2, AL v1019)] [] (by kernel_rfl) (by kernel_rfl) (by kernel_rfl) ?_
    exact Kn.r Fm [(2, AL v1019)] [] (by kernel_rfl) (Kn.dn Fm (by kernel_rfl))
  · refine AW.sg0 Fm 3 [(3, .v (.c (.own 3))), (8, AL x980), (9, vi ((List.length x980 : Nat) : Int)), (10, vi (0 : Int))] [(3, AO (α := Rect) ([] : List Rect))] (by kernel_rfl) ?_
    refine AW.block ?_
    refine Kn.r Fm [(3, .v (.c (.own 3))), (8, AL x980), (9, vi ((List.length x980 : Nat) : Int)), (10, vi (0 : Int))] [(3, AO ([] : List Rect))] (by kernel_rfl) ?_
    have h : loopN (fun again (z : Int × (List Rect)) => region_rects_b0 F x980 again z.1 z.2) F ((0 : Int), ([] : List Rect)) = some r := h
    refine AW.loopF (E' := fun z => [(3, .v (.c (.own 3))), (8, AL x980), (9, vi ((List.length x980 : Nat) : Int)), (10, vi z.1)]) (S' := fun z => [(3, AO z.2)]) (fun ag_region_rects_b0 z J1001 hJ1001 h => ?_) h
    obtain ⟨v999, v1000⟩ := z
    have h : region_rects_b0 F x980 ag_region_rects_b0 v999 v1000 = some r := h
    refine AW.sg0 Fm 1 [(3, .v (.c (.own 3))), (8, AL x980), (9, vi ((List.length x980 : Nat) : Int)), (10, vi v999), (11, vb (decide (v999 < ((List.length x980 : Nat) : Int))))] [(3, AO v1000)] (by kernel_rfl) ?_
    refine AW.seq ?_
    refine AW.cond (b := (decide (v999 < ((List.length x980 : Nat) : Int)))) (by kernel_rfl) (fun hb1002 => ?_) (fun hb1002 => ?_)
    · have h := br_t h hb1002
      refine AW.skip ?_
      refine AW.join (r := r) (fun z : (List Rect) => region_rects_k2 F v999 ag_region_rects_b0 z) (fun z => [(3, .v (.c (.own 3))), (8, AL x980), (9, vi ((List.length x980 : Nat) : Int)), (10, vi v999)]) (fun z => [(3, AO z)]) (fun v1016 h => ?_) (fun J1017 hJ1017 => ?_)
      · have h : region_rects_k2 F v999 ag_region_rects_b0 v1016 = some r := h
        obtain ⟨hg1018, h⟩ := gd_some h
        refine AW.g Fm [.s, .s] (fun K => (I64 (v999 + (1 : Int)) ∧ True) ∧ True) [(3, .v (.c (.own 3))), (8, AL x980), (9, vi ((List.length x980 : Nat) : Int)), (10, vi (v999 + (1 : Int)))] [(3, AO v1016)] ⟨⟨hg1018, True.intro⟩, True.intro⟩ (by kernel_rfl) ?_
        exact Kn.r Fm [(3, .v (.c (.own 3))), (8, AL x980), (9, vi ((List.length x980 : Nat) : Int)), (10, vi (v999 + (1 : Int)))] [(3, AO v1016)] (by kernel_rfl) (hJ1001 ((v999 + (1 : Int)), v1016) h)
      · refine AW.block ?_
        obtain ⟨hg1003, h⟩ := gd_some h
        refine AW.sg Fm [.s, .s, .s, .s] (fun K => (0 ≤ v999 ∧ v999 < ((List.length x980 : Nat) : Int)) ∧ True) [(3, .v (.c (.own 3))), (5, .v (.c (.ptr 5 0))), (8, AL x980), (9, vi ((List.length x980 : Nat) : Int)), (10, vi v999)] [(3, AO v1000), (5, .box false [ci ((gl x980 v999.toNat).low_), ci ((gl x980 v999.toNat).high_), .d (DL (α := Span) (gl x980 v999.toNat).spans_)])] ⟨hg1003, True.intro⟩ (by kernel_rfl) ?_
        refine AW.sg0 Fm 4 [(3, .v (.c (.own 3))), (5, .v (.c (.ptr 5 0))), (8, AL x980), (9, vi ((List.length x980 : Nat) : Int)), (10, vi v999), (15, AL (α := Span) (gl x980 v999.toNat).spans_), (16, vi ((List.length ((gl x980 v999.toNat).spans_) : Nat) : Int)), (17, vi (0 : Int))] [(3, AO v1000), (5, .box false [ci ((gl x980 v999.toNat).low_), ci ((gl x980 v999.toNat).high_), .d (DL (α := Span) (gl x980 v999.toNat).spans_)])] (by kernel_rfl) ?_
        refine AW.block ?_
        refine Kn.r Fm [(3, .v (.c (.own 3))), (5, .v (.c (.ptr 5 0))), (8, AL x980), (9, vi ((List.length x980 : Nat) : Int)), (10, vi v999), (15, AL (α := Span) (gl x980 v999.toNat).spans_), (16, vi ((List.length ((gl x980 v999.toNat).spans_) : Nat) : Int)), (17, vi (0 : Int))] [(3, AO v1000), (5, .box false [ci ((gl x980 v999.toNat).low_), ci ((gl x980 v999.toNat).high_), .d (DL (α := Span) (gl x980 v999.toNat).spans_)])] (by kernel_rfl) ?_
        have h : loopN (fun again (z : Int × (List Rect)) => region_rects_b1 F x980 v999 ag_region_rects_b0 again z.1 z.2) F ((0 : Int), v1000) = some r := h
        refine AW.loopF (E' := fun z => [(3, .v (.c (.own 3))), (5, .v (.c (.ptr 5 0))), (8, AL x980), (9, vi ((List.length x980 : Nat) : Int)), (10, vi v999), (15, AL (α := Span) (gl x980 v999.toNat).spans_), (16, vi ((List.length ((gl x980 v999.toNat).spans_) : Nat) : Int)), (17, vi z.1)]) (S' := fun z => [(3, AO z.2), (5, .box false [ci ((gl x980 v999.toNat).low_), ci ((gl x980 v999.toNat).high_), .d (DL (α := Span) (gl x980 v999.toNat).spans_)])]) (fun ag_region_rects_b1 z J1011 hJ1011 h => ?_) h
        obtain ⟨v1009, v1010⟩ := z
        have h : region_rects_b1 F x980 v999 ag_region_rects_b0 ag_region_rects_b1 v1009 v1010 = some r := h
        refine AW.sg0 Fm 1 [(3, .v (.c (.own 3))), (5, .v (.c (.ptr 5 0))), (8, AL x980), (9, vi ((List.length x980 : Nat) : Int)), (10, vi v999), (15, AL (α := Span) (gl x980 v999.toNat).spans_), (16, vi ((List.length ((gl x980 v999.toNat).spans_) : Nat) : Int)), (17, vi v1009), (18, vb (decide (v1009 < ((List.length ((gl x980 v999.toNat).spans_) : Nat) : Int))))] [(3, AO v1010), (5, .box false [ci ((gl x980 v999.toNat).low_), ci ((gl x980 v999.toNat).high_), .d (DL (α := Span) (gl x980 v999.toNat).spans_)])] (by kernel_rfl) ?_
        refine AW.seq ?_
        refine AW.cond (b := (decide (v1009 < ((List.length ((gl x980 v999.toNat).spans_) : Nat) : Int)))) (by kernel_rfl) (fun hb1012 => ?_) (fun hb1012 => ?_)
        · have h := br_t h hb1012
          refine AW.skip ?_
          refine AW.seq ?_
          refine AW.block ?_
          obtain ⟨hg1013, h⟩ := gd_some h
          refine AW.sg Fm [.s, .s, .s, .s] (fun K => (0 ≤ v1009 ∧ v1009 < ((List.length ((gl x980 v999.toNat).spans_) : Nat) : Int)) ∧ True) [(3, .v (.c (.own 3))), (5, .v (.c (.ptr 5 0))), (7, .v (.c (.ptr 7 0))), (8, AL x980), (9, vi ((List.length x980 : Nat) : Int)), (10, vi v999), (15, AL (α := Span) (gl x980 v999.toNat).spans_), (16, vi ((List.length ((gl x980 v999.toNat).spans_) : Nat) : Int)), (17, vi v1009)] [(3, AO v1010), (5, .box false [ci ((gl x980 v999.toNat).low_), ci ((gl x980 v999.toNat).high_), .d (DL (α := Span) (gl x980 v999.toNat).spans_)]), (7, .box false [ci ((gl ((gl x980 v999.toNat).spans_) v1009.toNat).left_), ci ((gl ((gl x980 v999.toNat).spans_) v1009.toNat).right_)])] ⟨hg1013, True.intro⟩ (by kernel_rfl) ?_
          obtain ⟨hg1014, h⟩ := gd_some h
          refine AW.g Fm [.s, .s, .s, .s, .s, .s, .s, .s, .s, .s, .w (AL (α := Rect) ([(⟨(gl ((gl x980 v999.toNat).spans_) v1009.toNat).left_, (gl x980 v999.toNat).low_, (gl ((gl x980 v999.toNat).spans_) v1009.toNat).right_, (gl x980 v999.toNat).high_⟩ : Rect)] : List Rect)), .s, .s] (fun K => (ALe (.v (.c (.d (.lst 1 (litF 4 [.int .i64 (gl ((gl x980 v999.toNat).spans_) v1009.toNat).left_, .int .i64 (gl x980 v999.toNat).low_, .int .i64 (gl ((gl x980 v999.toNat).spans_) v1009.toNat).right_, .int .i64 (gl x980 v999.toNat).high_]))))) (AL (α := Rect) ([(⟨(gl ((gl x980 v999.toNat).spans_) v1009.toNat).left_, (gl x980 v999.toNat).low_, (gl ((gl x980 v999.toNat).spans_) v1009.toNat).right_, (gl x980 v999.toNat).high_⟩ : Rect)] : List Rect))) ∧ ((List.length (α := Rect) v1010) + (List.length (α := Rect) ([(⟨(gl ((gl x980 v999.toNat).spans_) v1009.toNat).left_, (gl x980 v999.toNat).low_, (gl ((gl x980 v999.toNat).spans_) v1009.toNat).right_, (gl x980 v999.toNat).high_⟩ : Rect)] : List Rect)) ≤ LIM ∧ (∀ j, j < List.length (α := Rect) ([(⟨(gl ((gl x980 v999.toNat).spans_) v1009.toNat).left_, (gl x980 v999.toNat).low_, (gl ((gl x980 v999.toNat).spans_) v1009.toNat).right_, (gl x980 v999.toNat).high_⟩ : Rect)] : List Rect) → ((LF (α := Rect) ([(⟨(gl ((gl x980 v999.toNat).spans_) v1009.toNat).left_, (gl x980 v999.toNat).low_, (gl ((gl x980 v999.toNat).spans_) v1009.toNat).right_, (gl x980 v999.toNat).high_⟩ : Rect)] : List Rect)) j).length = 4) ∧ (True)) ∧ True) [(3, .v (.c (.own 32))), (5, .v (.c (.ptr 5 0))), (8, AL x980), (9, vi ((List.length x980 : Nat) : Int)), (10, vi v999), (15, AL (α := Span) (gl x980 v999.toNat).spans_), (16, vi ((List.length ((gl x980 v999.toNat).spans_) : Nat) : Int)), (17, vi v1009)] [(5, .box false [ci ((gl x980 v999.toNat).low_), ci ((gl x980 v999.toNat).high_), .d (DL (α := Span) (gl x980 v999.toNat).spans_)]), (32, .arr 4 ((List.length (α := Rect) v1010) + (List.length (α := Rect) ([(⟨(gl ((gl x980 v999.toNat).spans_) v1009.toNat).left_, (gl x980 v999.toNat).low_, (gl ((gl x980 v999.toNat).spans_) v1009.toNat).right_, (gl x980 v999.toNat).high_⟩ : Rect)] : List Rect))) (appF (List.length (α := Rect) v1010) (LF (α := Rect) v1010) (LF (α := Rect) ([(⟨(gl ((gl x980 v999.toNat).spans_) v1009.toNat).left_, (gl x980 v999.toNat).low_, (gl ((gl x980 v999.toNat).spans_) v1009.toNat).right_, (gl x980 v999.toNat).high_⟩ : Rect)] : List Rect))))] ⟨ALe.lst (.lit ([(⟨(gl ((gl x980 v999.toNat).spans_) v1009.toNat).left_, (gl x980 v999.toNat).low_, (gl ((gl x980 v999.toNat).spans_) v1009.toNat).right_, (gl x980 v999.toNat).high_⟩ : Rect)] : List Rect) (by kernel_rfl)), ⟨hg1014, (Is.refl ([(⟨(gl ((gl x980 v999.toNat).spans_) v1009.toNat).left_, (gl x980 v999.toNat).low_, (gl ((gl x980 v999.toNat).spans_) v1009.toNat).right_, (gl x980 v999.toNat).high_⟩ : Rect)] : List Rect) : Is (List.length (α := Rect) ([(⟨(gl ((gl x980 v999.toNat).spans_) v1009.toNat).left_, (gl x980 v999.toNat).low_, (gl ((gl x980 v999.toNat).spans_) v1009.toNat).right_, (gl x980 v999.toNat).high_⟩ : Rect)] : List Rect)) (LF (α := Rect) ([(⟨(gl ((gl x980 v999.toNat).spans_) v1009.toNat).left_, (gl x980 v999.toNat).low_, (gl ((gl x980 v999.toNat).spans_) v1009.toNat).right_, (gl x980 v999.toNat).high_⟩ : Rect)] : List Rect)) ([(⟨(gl ((gl x980 v999.toNat).spans_) v1009.toNat).left_, (gl x980 v999.toNat).low_, (gl ((gl x980 v999.toNat).spans_) v1009.toNat).right_, (gl x980 v999.toNat).high_⟩ : Rect)] : List Rect)).len, True.intro⟩, True.intro⟩ (by kernel_rfl) ?_
          refine Kn.wk [(3, .v (.c (.own 32))), (5, .v (.c (.ptr 5 0))), (8, AL x980), (9, vi ((List.length x980 : Nat) : Int)), (10, vi v999), (15, AL (α := Span) (gl x980 v999.toNat).spans_), (16, vi ((List.length ((gl x980 v999.toNat).spans_) : Nat) : Int)), (17, vi v1009)] [(5, .box false [ci ((gl x980 v999.toNat).low_), ci ((gl x980 v999.toNat).high_), .d (DL (α := Span) (gl x980 v999.toNat).spans_)]), (32, AO (α := Rect) (v1010 ++ ([(⟨(gl ((gl x980 v999.toNat).spans_) v1009.toNat).left_, (gl x980 v999.toNat).low_, (gl ((gl x980 v999.toNat).spans_) v1009.toNat).right_, (gl x980 v999.toNat).high_⟩ : Rect)] : List Rect)))] (FE.refl _) (⟨rfl, OLe.refl _, ⟨rfl, OLe.is (Is.app (Is.refl v1010) (Is.refl ([(⟨(gl ((gl x980 v999.toNat).spans_) v1009.toNat).left_, (gl x980 v999.toNat).low_, (gl ((gl x980 v999.toNat).spans_) v1009.toNat).right_, (gl x980 v999.toNat).high_⟩ : Rect)] : List Rect))), True.intro⟩⟩) ?_
          obtain ⟨hg1015, h⟩ := gd_some h
          refine AW.g Fm [.s, .s] (fun K => (I64 (v1009 + (1 : Int)) ∧ True) ∧ True) [(3, .v (.c (.own 32))), (5, .v (.c (.ptr 5 0))), (8, AL x980), (9, vi ((List.length x980 : Nat) : Int)), (10, vi v999), (15, AL (α := Span) (gl x980 v999.toNat).spans_), (16, vi ((List.length ((gl x980 v999.toNat).spans_) : Nat) : Int)), (17, vi (v1009 + (1 : Int)))] [(5, .box false [ci ((gl x980 v999.toNat).low_), ci ((gl x980 v999.toNat).high_), .d (DL (α := Span) (gl x980 v999.toNat).spans_)]), (32, AO (α := Rect) (v1010 ++ ([(⟨(gl ((gl x980 v999.toNat).spans_) v1009.toNat).left_, (gl x980 v999.toNat).low_, (gl ((gl x980 v999.toNat).spans_) v1009.toNat).right_, (gl x980 v999.toNat).high_⟩ : Rect)] : List Rect)))] ⟨⟨hg1015, True.intro⟩, True.intro⟩ (by kernel_rfl) ?_
          exact Kn.re Fm [(3, 32)] [(3, .v (.c (.own 3))), (5, .v (.c (.ptr 5 0))), (8, AL x980), (9, vi ((List.length x980 : Nat) : Int)), (10, vi v999), (15, AL (α := Span) (gl x980 v999.toNat).spans_), (16, vi ((List.length ((gl x980 v999.toNat).spans_) : Nat) : Int)), (17, vi (v1009 + (1 : Int)))] [(3, AO (v1010 ++ ([(⟨(gl ((gl x980 v999.toNat).spans_) v1009.toNat).left_, (gl x980 v999.toNat).low_, (gl ((gl x980 v999.toNat).spans_) v1009.toNat).right_, (gl x980 v999.toNat).high_⟩ : Rect)] : List Rect))), (5, .box false [ci ((gl x980 v999.toNat).low_), ci ((gl x980 v999.toNat).high_), .d (DL (α := Span) (gl x980 v999.toNat).spans_)])] (by kernel_rfl) (by kernel_rfl) (by kernel_rfl) (by kernel_rfl) (hJ1011 ((v1009 + (1 : Int)), (v1010 ++ ([(⟨(gl ((gl x980 v999.toNat).spans_) v1009.toNat).left_, (gl x980 v999.toNat).low_, (gl ((gl x980 v999.toNat).spans_) v1009.toNat).right_, (gl x980 v999.toNat).high_⟩ : Rect)] : List Rect))) h)
        · have h := br_f h hb1012
          refine AW.exit ?_
          exact Kn.r Fm [(3, .v (.c (.own 3))), (8, AL x980), (9, vi ((List.length x980 : Nat) : Int)), (10, vi v999)] [(3, AO v1010)] (by kernel_rfl) (hJ1017 v1010 h)
    · have h := br_f h hb1002
      refine AW.exit ?_
      exact Kn.r Fm [(3, .v (.c (.own 3)))] [(3, AO v1000)] (by kernel_rfl) (hJ1020 v1000 h)
theorem region_Build_spec {F : Nat} {x1021 : (List Int)} {x1022 : Int → Option (List Span)} {r : (List Rect)} (h : region_Build F x1021 x1022 = some r) :
    FSpec Tryz.prog 137 [AL x1021, .v (.c (.sem (CloOK Tryz.prog (FR_Int_ListSpan x1022))))] [] (AL (α := Rect) r) [] := by
  refine FSpec.intro prog_mixed prog_lay Tryz.func137 rfl (by kernel_rfl) fun C Fm => ?_
  unfold region_Build at h
  refine AW.sg0 Fm 1 [(0, AL x1021), (1, .v (.c (.sem (CloOK Tryz.prog (FR_Int_ListSpan x1022)))))] [] (by kernel_rfl) ?_
  refine AW.sg Fm [.m] (fun K => True) [(0, AL x1021), (1, .v (.c (.sem (CloOK Tryz.prog (FR_Int_ListSpan x1022))))), (5, .v (.c (.own 5)))] [(5, .arr 3 (0) (fun _ => []))] True.intro (by kernel_rfl) ?_
  refine Kn.wk [(0, AL x1021), (1, .v (.c (.sem (CloOK Tryz.prog (FR_Int_ListSpan x1022))))), (5, .v (.c (.own 5)))] [(5, AO (α := Band) ([] : List Band))] (FE.refl _) (⟨rfl, OLe.is ((Is.nil (α := Band))), True.intro⟩) ?_
  refine AW.join (r := r) (fun z : (List Band) => region_Build_k3 F z) (fun z => [(5, .v (.c (.own 5)))]) (fun z => [(5, AO z)]) (fun v1077 h => ?_) (fun J1078 hJ1078 => ?_)
  · have h : region_Build_k3 F v1077 = some r := h
    refine AW.seq ?_
    refine Kn.r Fm [(5, .v (.c (.own 5)))] [(5, AO v1077)] (by kernel_rfl) ?_
    refine Kn.frz [(5, AL v1077)] [] (by kernel_rfl) (by kernel_rfl) (by kernel_rfl) ?_
    obtain ⟨z1079, hz1080, h⟩ := bd_some h
    refine AW.g Fm [.s, .k (cE [] [] (AL z1079) [] []), .s] (fun K => K 1 ∧ True) [(4, AL z1079)] [] ⟨KAt.cl (args := [AL v1077]) (region_rects_spec hz1080) Tryz.call170 [] rfl (by kernel_rfl), True.intro⟩ (by kernel_rfl) ?_
    refine AW.ret ?_
    obtain rfl := Option.some.inj h
    exact Kn.r Fm [(4, AL z1079)] [] (by kernel_rfl) (Kn.dn Fm (by kernel_rfl))
  · refine AW.sg0 Fm 1 [(0, AL x1021), (1, .v (.c (.sem (CloOK Tryz.prog (FR_Int_ListSpan x1022))))), (5, .v (.c (.own 5))), (6, vi (1 : Int))] [(5, AO (α := Band) ([] : List Band))] (by kernel_rfl) ?_
    refine AW.block ?_
    refine Kn.r Fm [(0, AL x1021), (1, .v (.c (.sem (CloOK Tryz.prog (FR_Int_ListSpan x1022))))), (5, .v (.c (.own 5))), (6, vi (1 : Int))] [(5, AO ([] : List Band))] (by kernel_rfl) ?_
    have h : loopN (fun again (z : Int × (List Band)) => region_Build_b0 F x1021 x1022 again z.1 z.2) F ((1 : Int), ([] : List Band)) = some r := h
    refine AW.loopF (E' := fun z => [(0, AL x1021), (1, .v (.c (.sem (CloOK Tryz.prog (FR_Int_ListSpan x1022))))), (5, .v (.c (.own 5))), (6, vi z.1)]) (S' := fun z => [(5, AO z.2)]) (fun ag_region_Build_b0 z J1051 hJ1051 h => ?_) h
    obtain ⟨v1049, v1050⟩ := z
    have h : region_Build_b0 F x1021 x1022 ag_region_Build_b0 v1049 v1050 = some r := h
    refine AW.seq ?_
    refine AW.sg0 Fm 4 [(0, AL x1021), (1, .v (.c (.sem (CloOK Tryz.prog (FR_Int_ListSpan x1022))))), (5, .v (.c (.own 5))), (6, vi v1049), (12, vb (decide (v1049 < ((List.length x1021 : Nat) : Int))))] [(5, AO v1050)] (by kernel_rfl) ?_
    refine AW.cond (b := (decide (v1049 < ((List.length x1021 : Nat) : Int)))) (by kernel_rfl) (fun hb1052 => ?_) (fun hb1052 => ?_)
    · have h := br_t h hb1052
      refine AW.skip ?_
      refine AW.join (r := r) (fun z : (List Band) => region_Build_k2 F v1049 ag_region_Build_b0 z) (fun z => [(0, AL x1021), (1, .v (.c (.sem (CloOK Tryz.prog (FR_Int_ListSpan x1022))))), (5, .v (.c (.own 5))), (6, vi v1049)]) (fun z => [(5, AO z)]) (fun v1074 h => ?_) (fun J1075 hJ1075 => ?_)
      · have h : region_Build_k2 F v1049 ag_region_Build_b0 v1074 = some r := h
        obtain ⟨hg1076, h⟩ := gd_some h
        refine AW.g Fm [.s, .s, .s] (fun K => (I64 (v1049 + (1 : Int)) ∧ True) ∧ True) [(0, AL x1021), (1, .v (.c (.sem (CloOK Tryz.prog (FR_Int_ListSpan x1022))))), (5, .v (.c (.own 5))), (6, vi (v1049 + (1 : Int)))] [(5, AO v1074)] ⟨⟨hg1076, True.intro⟩, True.intro⟩ (by kernel_rfl) ?_
        exact Kn.r Fm [(0, AL x1021), (1, .v (.c (.sem (CloOK Tryz.prog (FR_Int_ListSpan x1022))))), (5, .v (.c (.own 5))), (6, vi (v1049 + (1 : Int)))] [(5, AO v1074)] (by kernel_rfl) (hJ1051 ((v1049 + (1 : Int)), v1074) h)
      · refine AW.block ?_
        refine AW.seq ?_
        obtain ⟨hg1053, h⟩ := gd_some h
        obtain ⟨hg1054, h⟩ := gd_some h
        obtain ⟨hg1055, h⟩ := gd_some h
        obtain ⟨hg1056, h⟩ := gd_some h
        obtain ⟨hg1057, h⟩ := gd_some h
        obtain ⟨z1058, hz1059, h⟩ := bd_some h
        refine AW.g Fm [.s, .s, .s, .s, .s, .s, .s, .s, .s, .s, .s, .s, .s, .s, .s, .k (sE (AL z1058)), .s, .s, .s] (fun K => (I64 (v1049 - (1 : Int)) ∧ True) ∧ (0 ≤ (v1049 - (1 : Int)) ∧ (v1049 - (1 : Int)) < ((List.length x1021 : Nat) : Int)) ∧ (0 ≤ v1049 ∧ v1049 < ((List.length x1021 : Nat) : Int)) ∧ (I64 (v1049 - (1 : Int)) ∧ True) ∧ (0 ≤ (v1049 - (1 : Int)) ∧ (v1049 - (1 : Int)) < ((List.length x1021 : Nat) : Int)) ∧ K 15 ∧ True) [(0, AL x1021), (1, .v (.c (.sem (CloOK Tryz.prog (FR_Int_ListSpan x1022))))), (5, .v (.c (.own 5))), (6, vi v1049), (7, .v (.c (.ptr 7 0)))] [(5, AO v1050), (7, .box false [ci (gl x1021 (v1049 - (1 : Int)).toNat), ci (gl x1021 v1049.toNat), .d (DL z1058)])] ⟨⟨hg1053, True.intro⟩, hg1054, hg1055, ⟨hg1056, True.intro⟩, hg1057, KAt.sem (F := (FR_Int_ListSpan x1022)) (args := [vi (gl x1021 (v1049 - (1 : Int)).toNat)]) ⟨(gl x1021 (v1049 - (1 : Int)).toNat), z1058, hz1059, rfl, rfl⟩ rfl (by kernel_rfl) (by kernel_rfl) (by kernel_rfl), True.intro⟩ (by kernel_rfl) ?_
        refine AW.sg0 Fm 3 [(0, AL x1021), (1, .v (.c (.sem (CloOK Tryz.prog (FR_Int_ListSpan x1022))))), (5, .v (.c (.own 5))), (6, vi v1049), (7, .v (.c (.ptr 7 0))), (8, vi ((List.length v1050 : Nat) : Int))] [(5, AO v1050), (7, .box false [ci (gl x1021 (v1049 - (1 : Int)).toNat), ci (gl x1021 v1049.toNat), .d (DL z1058)])] (by kernel_rfl) ?_
        refine AW.join (r := r) (fun z : Bool => region_Build_k1 F x1021 v1049 v1050 z1058 ag_region_Build_b0 z) (fun z => [(0, AL x1021), (1, .v (.c (.sem (CloOK Tryz.prog (FR_Int_ListSpan x1022))))), (5, .v (.c (.own 5))), (6, vi v1049), (7, .v (.c (.ptr 7 0))), (8, vi ((List.length v1050 : Nat) : Int)), (57, vb z)]) (fun z => [(5, AO v1050), (7, .box false [ci (gl x1021 (v1049 - (1 : Int)).toNat), ci (gl x1021 v1049.toNat), .d (DL z1058)])]) (fun v1068 h => ?_) (fun J1069 hJ1069 => ?_)
        · have h : region_Build_k1 F x1021 v1049 v1050 z1058 ag_region_Build_b0 v1068 = some r := h
          refine AW.cond (b := v1068) (by kernel_rfl) (fun hb1070 => ?_) (fun hb1070 => ?_)
          · have h := br_t h hb1070
            obtain ⟨hg1071, h⟩ := gd_some h
            obtain ⟨hg1072, h⟩ := gd_some h
            refine AW.g Fm [.s, .s, .s, .s, .s, .s, .s, .s] (fun K => (I64 (((List.length v1050 : Nat) : Int) - (1 : Int)) ∧ True) ∧ (0 ≤ (((List.length v1050 : Nat) : Int) - (1 : Int)) ∧ (((List.length v1050 : Nat) : Int) - (1 : Int)) < ((List.length v1050 : Nat) : Int)) ∧ ((((List.length v1050 : Nat) : Int) - (1 : Int)).toNat < List.length v1050) ∧ True) [(0, AL x1021), (1, .v (.c (.sem (CloOK Tryz.prog (FR_Int_ListSpan x1022))))), (5, .v (.c (.own 5))), (6, vi v1049)] [(5, .arr 3 (List.length (α := Band) v1050) (fun j => if j = (((List.length v1050 : Nat) : Int) - (1 : Int)).toNat then splice ((LF (α := Band) v1050) (((List.length v1050 : Nat) : Int) - (1 : Int)).toNat) 1 [.int .i64 (gl x1021 v1049.toNat)] else (LF (α := Band) v1050) j))] ⟨⟨hg1071, True.intro⟩, hg1072, (toNat_lt hg1072), True.intro⟩ (by kernel_rfl) ?_
            refine Kn.wk [(0, AL x1021), (1, .v (.c (.sem (CloOK Tryz.prog (FR_Int_ListSpan x1022))))), (5, .v (.c (.own 5))), (6, vi v1049)] [(5, AO (α := Band) (List.set v1050 (((List.length v1050 : Nat) : Int) - (1 : Int)).toNat (⟨(gl v1050 (((List.length v1050 : Nat) : Int) - (1 : Int)).toNat).low_, (gl x1021 v1049.toNat), (gl v1050 (((List.length v1050 : Nat) : Int) - (1 : Int)).toNat).spans_⟩ : Band)))] (FE.refl _) (⟨rfl, OLe.is (Is.set (Is.refl v1050) (toNat_lt hg1072) (⟨(gl v1050 (((List.length v1050 : Nat) : Int) - (1 : Int)).toNat).low_, (gl x1021 v1049.toNat), (gl v1050 (((List.length v1050 : Nat) : Int) - (1 : Int)).toNat).spans_⟩ : Band) (by kernel_rfl)), True.intro⟩) ?_
            exact Kn.r Fm [(0, AL x1021), (1, .v (.c (.sem (CloOK Tryz.prog (FR_Int_ListSpan x1022))))), (5, .v (.c (.own 5))), (6, vi v1049)] [(5, AO (List.set v1050 (((List.length v1050 : Nat) : Int) - (1 : Int)).toNat (⟨(gl v1050 (((List.length v1050 : Nat) : Int) - (1 : Int)).toNat).low_, (gl x1021 v1049.toNat), (gl v1050 (((List.length v1050 : Nat) : Int) - (1 : Int)).toNat).spans_⟩ : Band)))] (by kernel_rfl) (hJ1075 (List.set v1050 (((List.length v1050 : Nat) : Int) - (1 : Int)).toNat (⟨(gl v1050 (((List.length v1050 : Nat) : Int) - (1 : Int)).toNat).low_, (gl x1021 v1049.toNat), (gl v1050 (((List.length v1050 : Nat) : Int) - (1 : Int)).toNat).spans_⟩ : Band)) h)
          · have h := br_f h hb1070
            obtain ⟨hg1073, h⟩ := gd_some h
            refine AW.g Fm [.s, .s, .w (AL (α := Band) ([(⟨(gl x1021 (v1049 - (1 : Int)).toNat), (gl x1021 v1049.toNat), z1058⟩ : Band)] : List Band)), .s, .s] (fun K => (ALe (.v (.c (.d (.lst 1 (litF 3 [.int .i64 (gl x1021 (v1049 - (1 : Int)).toNat), .int .i64 (gl x1021 v1049.toNat), DL z1058]))))) (AL (α := Band) ([(⟨(gl x1021 (v1049 - (1 : Int)).toNat), (gl x1021 v1049.toNat), z1058⟩ : Band)] : List Band))) ∧ ((List.length (α := Band) v1050) + (List.length (α := Band) ([(⟨(gl x1021 (v1049 - (1 : Int)).toNat), (gl x1021 v1049.toNat), z1058⟩ : Band)] : List Band)) ≤ LIM ∧ (∀ j, j < List.length (α := Band) ([(⟨(gl x1021 (v1049 - (1 : Int)).toNat), (gl x1021 v1049.toNat), z1058⟩ : Band)] : List Band) → ((LF (α := Band) ([(⟨(gl x1021 (v1049 - (1 : Int)).toNat), (gl x1021 v1049.toNat), z1058⟩ : Band)] : List Band)) j).length = 3) ∧ (True)) ∧ True) [(0, AL x1021), (1, .v (.c (.sem (CloOK Tryz.prog (FR_Int_ListSpan x1022))))), (5, .v (.c (.own 68))), (6, vi v1049)] [(68, .arr 3 ((List.length (α := Band) v1050) + (List.length (α := Band) ([(⟨(gl x1021 (v1049 - (1 : Int)).toNat), (gl x1021 v1049.toNat), z1058⟩ : Band)] : List Band))) (appF (List.length (α := Band) v1050) (LF (α := Band) v1050) (LF (α := Band) ([(⟨(gl x1021 (v1049 - (1 : Int)).toNat), (gl x1021 v1049.toNat), z1058⟩ : Band)] : List Band))))] ⟨ALe.lst (.lit ([(⟨(gl x1021 (v1049 - (1 : Int)).toNat), (gl x1021 v1049.toNat), z1058⟩ : Band)] : List Band) (by kernel_rfl)), ⟨hg1073, (Is.refl ([(⟨(gl x1021 (v1049 - (1 : Int)).toNat), (gl x1021 v1049.toNat), z1058⟩ : Band)] : List Band) : Is (List.length (α := Band) ([(⟨(gl x1021 (v1049 - (1 : Int)).toNat), (gl x1021 v1049.toNat), z1058⟩ : Band)] : List Band)) (LF (α := Band) ([(⟨(gl x1021 (v1049 - (1 : Int)).toNat), (gl x1021 v1049.toNat), z1058⟩ : Band)] : List Band)) ([(⟨(gl x1021 (v1049 - (1 : Int)).toNat), (gl x1021 v1049.toNat), z1058⟩ : Band)] : List Band)).len, True.intro⟩, True.intro⟩ (by kernel_rfl) ?_
            refine Kn.wk [(0, AL x1021), (1, .v (.c (.sem (CloOK Tryz.prog (FR_Int_ListSpan x1022))))), (5, .v (.c (.own 68))), (6, vi v1049)] [(68, AO (α := Band) (v1050 ++ ([(⟨(gl x1021 (v1049 - (1 : Int)).toNat), (gl x1021 v1049.toNat), z1058⟩ : Band)] : List Band)))] (FE.refl _) (⟨rfl, OLe.is (Is.app (Is.refl v1050) (Is.refl ([(⟨(gl x1021 (v1049 - (1 : Int)).toNat), (gl x1021 v1049.toNat), z1058⟩ : Band)] : List Band))), True.intro⟩) ?_
            exact Kn.re Fm [(5, 68)] [(0, AL x1021), (1, .v (.c (.sem (CloOK Tryz.prog (FR_Int_ListSpan x1022))))), (5, .v (.c (.own 5))), (6, vi v1049)] [(5, AO (v1050 ++ ([(⟨(gl x1021 (v1049 - (1 : Int)).toNat), (gl x1021 v1049.toNat), z1058⟩ : Band)] : List Band)))] (by kernel_rfl) (by kernel_rfl) (by kernel_rfl) (by kernel_rfl) (hJ1075 (v1050 ++ ([(⟨(gl x1021 (v1049 - (1 : Int)).toNat), (gl x1021 v1049.toNat), z1058⟩ : Band)] : List Band)) h)
        · rcases Bool.eq_false_or_eq_true (decide ((0 : Int) < ((List.length v1050 : Nat) : Int))) with hb1060 | hb1060
          · have h := br_t h hb1060
            obtain ⟨hg1061, h⟩ := gd_some h
            obtain ⟨hg1062, h⟩ := gd_some h
            rcases Bool.eq_false_or_eq_true (((gl v1050 (((List.length v1050 : Nat) : Int) - (1 : Int)).toNat).high_) == (gl x1021 (v1049 - (1 : Int)).toNat)) with hb1063 | hb1063
            · have h := br_t h hb1063
              obtain ⟨hg1064, h⟩ := gd_some h
              obtain ⟨hg1065, h⟩ := gd_some h
              obtain ⟨z1066, hz1067, h⟩ := bd_some h
              refine AW.g Fm [.s, .s, .w (vb true), .s, .s, .s, .s, .s, .s, .s, .s, .s, .s, .w (vb true), .s, .s, .s, .s, .s, .s, .s, .s, .k (cE [] [] (vb z1066) [] []), .s] (fun K => (ALe (vb (decide ((0 : Int) < ((List.length v1050 : Nat) : Int)))) (vb true)) ∧ (I64 (((List.length v1050 : Nat) : Int) - (1 : Int)) ∧ True) ∧ (0 ≤ (((List.length v1050 : Nat) : Int) - (1 : Int)) ∧ (((List.length v1050 : Nat) : Int) - (1 : Int)) < ((List.length v1050 : Nat) : Int)) ∧ ((((List.length v1050 : Nat) : Int) - (1 : Int)).toNat < List.length v1050) ∧ (ALe (vb (((gl v1050 (((List.length v1050 : Nat) : Int) - (1 : Int)).toNat).high_) == (gl x1021 (v1049 - (1 : Int)).toNat))) (vb true)) ∧ (I64 (((List.length v1050 : Nat) : Int) - (1 : Int)) ∧ True) ∧ (0 ≤ (((List.length v1050 : Nat) : Int) - (1 : Int)) ∧ (((List.length v1050 : Nat) : Int) - (1 : Int)) < ((List.length v1050 : Nat) : Int)) ∧ ((((List.length v1050 : Nat) : Int) - (1 : Int)).toNat < List.length v1050) ∧ K 22 ∧ True) [(0, AL x1021), (1, .v (.c (.sem (CloOK Tryz.prog (FR_Int_ListSpan x1022))))), (5, .v (.c (.own 5))), (6, vi v1049), (7, .v (.c (.ptr 7 0))), (8, vi ((List.length v1050 : Nat) : Int)), (37, .v (.c (.own 5))), (38, vi ((List.length v1050 : Nat) : Int)), (39, vi (((List.length v1050 : Nat) : Int) - (1 : Int))), (40, .v (.c (.pte 5 3 ((((List.length v1050 : Nat) : Int) - (1 : Int)).toNat) 0))), (41, .v (.c (.pte 5 3 ((((List.length v1050 : Nat) : Int) - (1 : Int)).toNat) 1))), (42, vi (gl v1050 (((List.length v1050 : Nat) : Int) - (1 : Int)).toNat).high_), (43, .v (.c (.ptr 7 0))), (44, vi (gl x1021 (v1049 - (1 : Int)).toNat)), (45, vb (((gl v1050 (((List.length v1050 : Nat) : Int) - (1 : Int)).toNat).high_) == (gl x1021 (v1049 - (1 : Int)).toNat))), (48, .v (.c (.own 5))), (49, vi ((List.length v1050 : Nat) : Int)), (50, vi (((List.length v1050 : Nat) : Int) - (1 : Int))), (51, .v (.c (.pte 5 3 ((((List.length v1050 : Nat) : Int) - (1 : Int)).toNat) 0))), (52, .v (.c (.pte 5 3 ((((List.length v1050 : Nat) : Int) - (1 : Int)).toNat) 2))), (53, AL (α := Span) (gl v1050 (((List.length v1050 : Nat) : Int) - (1 : Int)).toNat).spans_), (54, .v (.c (.ptr 7 2))), (55, AL z1058), (56, vb z1066), (57, vb z1066)] [(5, AO v1050), (7, .box false [ci (gl x1021 (v1049 - (1 : Int)).toNat), ci (gl x1021 v1049.toNat), .d (DL z1058)])] ⟨ALe.bool hb1060, ⟨hg1061, True.intro⟩, hg1062, (toNat_lt hg1062), ALe.bool hb1063, ⟨hg1064, True.intro⟩, hg1065, (toNat_lt hg1065), KAt.cl (args := [AL (α := Span) (gl v1050 (((List.length v1050 : Nat) : Int) - (1 : Int)).toNat).spans_, AL z1058]) (slices_Equal_Span_spec hz1067) Tryz.call169 [] rfl (by kernel_rfl), True.intro⟩ (by kernel_rfl) ?_
              exact Kn.r Fm [(0, AL x1021), (1, .v (.c (.sem (CloOK Tryz.prog (FR_Int_ListSpan x1022))))), (5, .v (.c (.own 5))), (6, vi v1049), (7, .v (.c (.ptr 7 0))), (8, vi ((List.length v1050 : Nat) : Int)), (57, vb z1066)] [(5, AO v1050), (7, .box false [ci (gl x1021 (v1049 - (1 : Int)).toNat), ci (gl x1021 v1049.toNat), .d (DL z1058)])] (by kernel_rfl) (hJ1069 z1066 h)
            · have h := br_f h hb1063
              refine AW.g Fm [.s, .s, .w (vb true), .s, .s, .s, .s, .s, .s, .s, .s, .s, .s, .w (vb false), .s, .s, .s, .s, .s, .s, .s, .s, .s, .s] (fun K => (ALe (vb (decide ((0 : Int) < ((List.length v1050 : Nat) : Int)))) (vb true)) ∧ (I64 (((List.length v1050 : Nat) : Int) - (1 : Int)) ∧ True) ∧ (0 ≤ (((List.length v1050 : Nat) : Int) - (1 : Int)) ∧ (((List.length v1050 : Nat) : Int) - (1 : Int)) < ((List.length v1050 : Nat) : Int)) ∧ ((((List.length v1050 : Nat) : Int) - (1 : Int)).toNat < List.length v1050) ∧ (ALe (vb (((gl v1050 (((List.length v1050 : Nat) : Int) - (1 : Int)).toNat).high_) == (gl x1021 (v1049 - (1 : Int)).toNat))) (vb false)) ∧ True) [(0, AL x1021), (1, .v (.c (.sem (CloOK Tryz.prog (FR_Int_ListSpan x1022))))), (5, .v (.c (.own 5))), (6, vi v1049), (7, .v (.c (.ptr 7 0))), (8, vi ((List.length v1050 : Nat) : Int)), (37, .v (.c (.own 5))), (38, vi ((List.length v1050 : Nat) : Int)), (39, vi (((List.length v1050 : Nat) : Int) - (1 : Int))), (40, .v (.c (.pte 5 3 ((((List.length v1050 : Nat) : Int) - (1 : Int)).toNat) 0))), (41, .v (.c (.pte 5 3 ((((List.length v1050 : Nat) : Int) - (1 : Int)).toNat) 1))), (42, vi (gl v1050 (((List.length v1050 : Nat) : Int) - (1 : Int)).toNat).high_), (43, .v (.c (.ptr 7 0))), (44, vi (gl x1021 (v1049 - (1 : Int)).toNat)), (45, vb (((gl v1050 (((List.length v1050 : Nat) : Int) - (1 : Int)).toNat).high_) == (gl x1021 (v1049 - (1 : Int)).toNat))), (57, vb false)] [(5, AO v1050), (7, .box false [ci (gl x1021 (v1049 - (1 : Int)).toNat), ci (gl x1021 v1049.toNat), .d (DL z1058)])] ⟨ALe.bool hb1060, ⟨hg1061, True.intro⟩, hg1062, (toNat_lt hg1062), ALe.bool hb1063, True.intro⟩ (by kernel_rfl) ?_
              exact Kn.r Fm [(0, AL x1021), (1, .v (.c (.sem (CloOK Tryz.prog (FR_Int_ListSpan x1022))))), (5, .v (.c (.own 5))), (6, vi v1049), (7, .v (.c (.ptr 7 0))), (8, vi ((List.length v1050 : Nat) : Int)), (57, vb false)] [(5, AO v1050), (7, .box false [ci (gl x1021 (v1049 - (1 : Int)).toNat), ci (gl x1021 v1049.toNat), .d (DL z1058)])] (by kernel_rfl) (hJ1069 false h)
          · have h := br_f h hb1060
            refine AW.g Fm [.s, .s, .w (vb false), .s, .s, .s, .s, .s, .s, .s, .s, .s, .s, .s, .s, .s, .s, .s, .s, .s, .s, .s, .s, .s] (fun K => (ALe (vb (decide ((0 : Int) < ((List.length v1050 : Nat) : Int)))) (vb false)) ∧ True) [(0, AL x1021), (1, .v (.c (.sem (CloOK Tryz.prog (FR_Int_ListSpan x1022))))), (5, .v (.c (.own 5))), (6, vi v1049), (7, .v (.c (.ptr 7 0))), (8, vi ((List.length v1050 : Nat) : Int)), (57, vb false)] [(5, AO v1050), (7, .box false [ci (gl x1021 (v1049 - (1 : Int)).toNat), ci (gl x1021 v1049.toNat), .d (DL z1058)])] ⟨ALe.bool hb1060, True.intro⟩ (by kernel_rfl) ?_
            exact Kn.r Fm [(0, AL x1021), (1, .v (.c (.sem (CloOK Tryz.prog (FR_Int_ListSpan x1022))))), (5, .v (.c (.own 5))), (6, vi v1049), (7, .v (.c (.ptr 7 0))), (8, vi ((List.length v1050 : Nat) : Int)), (57, vb false)] [(5, AO v1050), (7, .box false [ci (gl x1021 (v1049 - (1 : Int)).toNat), ci (gl x1021 v1049.toNat), .d (DL z1058)])] (by kernel_rfl) (hJ1069 false h)
    · have h := br_f h hb1052
      refine AW.exit ?_
      exact Kn.r Fm [(5, .v (.c (.own 5)))] [(5, AO v1050)] (by kernel_rfl) (hJ1078 v1050 h)
theorem region_canonical_spec {F : Nat} {x1081 : (List Rect)} {r : (List Rect)} (h : region_canonical F x1081 = some r) :
    FSpec Tryz.prog 112 [AL x1081] [] (AL (α := Rect) r) [] := by
  refine FSpec.intro prog_mixed prog_lay Tryz.func112 rfl (by kernel_rfl) fun C Fm => ?_
  unfold region_canonical at h
  refine AW.sg0 Fm 2 [(1, .v (.c (.ptr 1 0)))] [(1, .box false [.d (DL x1081)])] (by kernel_rfl) ?_
  refine AW.seq ?_
  obtain ⟨z1082, hz1083, h⟩ := bd_some h
  obtain ⟨z1084, hz1085, h⟩ := bd_some h
  refine AW.g Fm [.s, .w (AL (α := (List Rect)) ([x1081] : List (List Rect))), .k (cE [] [] (AL z1082) [] []), .s, .k (cE [] [1] (AL z1084) [] []), .s] (fun K => (ALe (.v (.c (.d (.lst 1 (litF 1 [DL x1081]))))) (AL (α := (List Rect)) ([x1081] : List (List Rect)))) ∧ K 2 ∧ K 4 ∧ True) [(2, AL z1084)] [] ⟨ALe.lst (.lit ([x1081] : List (List Rect)) (by kernel_rfl)), KAt.cl (args := [AL (α := (List Rect)) ([x1081] : List (List Rect))]) (region_Cuts_spec hz1083) Tryz.call138 [] rfl (by kernel_rfl), KAt.callX (args := [AL z1082, .v (.c (.sem (CloOK Tryz.prog (FR_Int_ListSpan (fun y0 => region_canonical_1 F y0 x1081)))))]) (region_Build_spec hz1085) Tryz.call137 [] [1] [.tmp 5, .tmp 6] rfl (by kernel_rfl) (by kernel_rfl) (by kernel_rfl) ⟨ArgT.plain (by kernel_rfl) (ALe.of_eq (by kernel_rfl)) (by kernel_rfl), ArgT.cloX Tryz.call156 [[.d (DL x1081)]] (fun args r hq => by obtain ⟨y0, y, hq, rfl, rfl⟩ := hq; exact Eq.mp (by kernel_rfl) (region_canonical_1_spec hq)) (fun args r hq => by obtain ⟨y0, y, hq, rfl, rfl⟩ := hq; rfl) (by kernel_rfl) [1] (by kernel_rfl) (by kernel_rfl) (⟨⟨false, (by kernel_rfl)⟩, True.intro⟩) (by kernel_rfl), True.intro⟩, True.intro⟩ (by kernel_rfl) ?_
  refine AW.ret ?_
  obtain rfl := Option.some.inj h
  exact Kn.r Fm [(2, AL z1084)] [] (by kernel_rfl) (Kn.dn Fm (by kernel_rfl))
theorem slices_Equal_Rect_spec {F : Nat} {x1086 : (List Rect)} {x1087 : (List Rect)} {r : Bool} (h : slices_Equal_Rect F x1086 x1087 = some r) :
    FSpec Tryz.prog 111 [AL x1086, AL x1087] [] (vb r) [] := by
  refine FSpec.intro prog_mixed prog_lay Tryz.func111 rfl (by kernel_rfl) fun C Fm => ?_
  unfold slices_Equal_Rect at h
  refine AW.sg0 Fm 1 [(0, AL x1086), (1, AL x1087)] [] (by kernel_rfl) ?_
  refine AW.seq ?_
  refine AW.sg0 Fm 5 [(0, AL x1086), (1, AL x1087), (10, vb (((List.length x1086 : Nat) : Int) != ((List.length x1087 : Nat) : Int)))] [] (by kernel_rfl) ?_
  refine AW.cond (b := (((List.length x1086 : Nat) : Int) != ((List.length x1087 : Nat) : Int))) (by kernel_rfl) (fun hb1088 => ?_) (fun hb1088 => ?_)
  · have h := br_t h hb1088
    refine AW.sg0 Fm 1 [(4, vb false)] [] (by kernel_rfl) ?_
    refine AW.ret ?_
    obtain rfl := Option.some.inj h
    exact Kn.r Fm [(4, vb false)] [] (by kernel_rfl) (Kn.dn Fm (by kernel_rfl))
  · have h := br_f h hb1088
    refine AW.skip ?_
    refine AW.join (r := r) (fun z : Unit => slices_Equal_Rect_k1 F) (fun z => []) (fun z => []) (fun z h => ?_) (fun J1102 hJ1102 => ?_)
    · have h : slices_Equal_Rect_k1 F = some r := h
      refine AW.sg0 Fm 1 [(4, vb true)] [] (by kernel_rfl) ?_
      refine AW.ret ?_
      obtain rfl := Option.some.inj h
      exact Kn.r Fm [(4, vb true)] [] (by kernel_rfl) (Kn.dn Fm (by kernel_rfl))
    · refine AW.sg0 Fm 3 [(0, AL x1086), (1, AL x1087), (12, vi ((List.length x1086 : Nat) : Int)), (13, vi (0 : Int))] [] (by kernel_rfl) ?_
      refine AW.block ?_
      refine Kn.r Fm [(0, AL x1086), (1, AL x1087), (12, vi ((List.length x1086 : Nat) : Int)), (13, vi (0 : Int))] [] (by kernel_rfl) ?_
      have h : loopN (fun again (z : Int) => slices_Equal_Rect_b0 F x1086 x1087 again z) F (0 : Int) = some r := h
      refine AW.loopF (E' := fun z => [(0, AL x1086), (1, AL x1087), (12, vi ((List.length x1086 : Nat) : Int)), (13, vi z)]) (S' := fun z => []) (fun ag_slices_Equal_Rect_b0 v1095 J1096 hJ1096 h => ?_) h
      have h : slices_Equal_Rect_b0 F x1086 x1087 ag_slices_Equal_Rect_b0 v1095 = some r := h
      refine AW.sg0 Fm 1 [(0, AL x1086), (1, AL x1087), (12, vi ((List.length x1086 : Nat) : Int)), (13, vi v1095), (14, vb (decide (v1095 < ((List.length x1086 : Nat) : Int))))] [] (by kernel_rfl) ?_
      refine AW.seq ?_
      refine AW.cond (b := (decide (v1095 < ((List.length x1086 : Nat) : Int)))) (by kernel_rfl) (fun hb1097 => ?_) (fun hb1097 => ?_)
      · have h := br_t h hb1097
        refine AW.skip ?_
        refine AW.seq ?_
        refine AW.block ?_
        refine AW.sg0 Fm 2 [(0, AL x1086), (1, AL x1087), (5, vi v1095), (12, vi ((List.length x1086 : Nat) : Int)), (13, vi v1095)] [] (by kernel_rfl) ?_
        obtain ⟨hg1098, h⟩ := gd_some h
        obtain ⟨hg1099, h⟩ := gd_some h
        refine AW.sg Fm [.s, .s, .s, .s, .s, .s, .s, .s, .k (sE (vb (!((((gl x1086 v1095.toNat).left_) == ((gl x1087 v1095.toNat).left_)) && ((((gl x1086 v1095.toNat).low_) == ((gl x1087 v1095.toNat).low_)) && ((((gl x1086 v1095.toNat).right_) == ((gl x1087 v1095.toNat).right_)) && ((((gl x1086 v1095.toNat).high_) == ((gl x1087 v1095.toNat).high_)) && true)))))))] (fun K => (0 ≤ v1095 ∧ v1095 < ((List.length x1086 : Nat) : Int)) ∧ (0 ≤ v1095 ∧ v1095 < ((List.length x1087 : Nat) : Int)) ∧ K 8 ∧ True) [(0, AL x1086), (1, AL x1087), (12, vi ((List.length x1086 : Nat) : Int)), (13, vi v1095), (24, vb (!((((gl x1086 v1095.toNat).left_) == ((gl x1087 v1095.toNat).left_)) && ((((gl x1086 v1095.toNat).low_) == ((gl x1087 v1095.toNat).low_)) && ((((gl x1086 v1095.toNat).right_) == ((gl x1087 v1095.toNat).right_)) && ((((gl x1086 v1095.toNat).high_) == ((gl x1087 v1095.toNat).high_)) && true))))))] [] ⟨hg1098, hg1099, KAt.eq (xs := [ci ((gl x1086 v1095.toNat).left_), ci ((gl x1086 v1095.toNat).low_), ci ((gl x1086 v1095.toNat).right_), ci ((gl x1086 v1095.toNat).high_)]) (ys := [ci ((gl x1087 v1095.toNat).left_), ci ((gl x1087 v1095.toNat).low_), ci ((gl x1087 v1095.toNat).right_), ci ((gl x1087 v1095.toNat).high_)]) eqT73 false (b := ((((gl x1086 v1095.toNat).left_) == ((gl x1087 v1095.toNat).left_)) && ((((gl x1086 v1095.toNat).low_) == ((gl x1087 v1095.toNat).low_)) && ((((gl x1086 v1095.toNat).right_) == ((gl x1087 v1095.toNat).right_)) && ((((gl x1086 v1095.toNat).high_) == ((gl x1087 v1095.toNat).high_)) && true))))) rfl rfl (by kernel_rfl) (by kernel_rfl) (by kernel_rfl) (by kernel_rfl), True.intro⟩ (by kernel_rfl) ?_
        refine AW.cond (b := (!((((gl x1086 v1095.toNat).left_) == ((gl x1087 v1095.toNat).left_)) && ((((gl x1086 v1095.toNat).low_) == ((gl x1087 v1095.toNat).low_)) && ((((gl x1086 v1095.toNat).right_) == ((gl x1087 v1095.toNat).right_)) && ((((gl x1086 v1095.toNat).high_) == ((gl x1087 v1095.toNat).high_)) && true)))))) (by kernel_rfl) (fun hb1100 => ?_) (fun hb1100 => ?_)
        · have h := br_t h hb1100
          refine AW.sg0 Fm 1 [(4, vb false)] [] (by kernel_rfl) ?_
          refine AW.ret ?_
          obtain rfl := Option.some.inj h
          exact Kn.r Fm [(4, vb false)] [] (by kernel_rfl) (Kn.dn Fm (by kernel_rfl))
        · have h := br_f h hb1100
          refine AW.skip ?_
          obtain ⟨hg1101, h⟩ := gd_some h
          refine AW.g Fm [.s, .s] (fun K => (I64 (v1095 + (1 : Int)) ∧ True) ∧ True) [(0, AL x1086), (1, AL x1087), (12, vi ((List.length x1086 : Nat) : Int)), (13, vi (v1095 + (1 : Int)))] [] ⟨⟨hg1101, True.intro⟩, True.intro⟩ (by kernel_rfl) ?_
          exact Kn.r Fm [(0, AL x1086), (1, AL x1087), (12, vi ((List.length x1086 : Nat) : Int)), (13, vi (v1095 + (1 : Int)))] [] (by kernel_rfl) (hJ1096 (v1095 + (1 : Int)) h)
      · have h := br_f h hb1097
        refine AW.exit ?_
        exact Kn.r Fm [] [] (by kernel_rfl) (hJ1102 () h)
theorem region_Valid_spec {F : Nat} {x1103 : Region} {r : Bool} (h : region_Valid F x1103 = some r) :
    FSpec Tryz.prog 55 [.v (.g [.d (DL x1103.rects_)])] [] (vb r) [] := by
  refine FSpec.intro prog_mixed prog_lay Tryz.func55 rfl (by kernel_rfl) fun C Fm => ?_
  unfold region_Valid at h
  refine AW.sg0 Fm 2 [(1, .v (.c (.ptr 1 0)))] [(1, .box false [.d (DL x1103.rects_)])] (by kernel_rfl) ?_
  refine AW.seq ?_
  refine AW.join (r := r) (fun z : Bool => region_Valid_k0 F x1103 z) (fun z => [(1, .v (.c (.ptr 1 0))), (11, vb z)]) (fun z => [(1, .box false [.d (DL x1103.rects_)])]) (fun v1107 h => ?_) (fun J1108 hJ1108 => ?_)
  · have h : region_Valid_k0 F x1103 v1107 = some r := h
    refine AW.cond (b := v1107) (by kernel_rfl) (fun hb1109 => ?_) (fun hb1109 => ?_)
    · have h := br_t h hb1109
      refine AW.sg0 Fm 1 [(2, vb false)] [] (by kernel_rfl) ?_
      refine AW.ret ?_
      obtain rfl := Option.some.inj h
      exact Kn.r Fm [(2, vb false)] [] (by kernel_rfl) (Kn.dn Fm (by kernel_rfl))
    · have h := br_f h hb1109
      refine AW.skip ?_
      refine AW.seq ?_
      obtain ⟨z1110, hz1111, h⟩ := bd_some h
      obtain ⟨z1112, hz1113, h⟩ := bd_some h
      refine AW.g Fm [.s, .s, .k (cE [] [] (AL z1110) [] []), .s, .s, .k (cE [] [] (vb z1112) [] []), .s] (fun K => K 2 ∧ K 5 ∧ True) [(2, vb z1112)] [] ⟨KAt.cl (args := [AL x1103.rects_]) (region_canonical_spec hz1111) Tryz.call112 [] rfl (by kernel_rfl), KAt.cl (args := [AL z1110, AL x1103.rects_]) (slices_Equal_Rect_spec hz1113) Tryz.call111 [] rfl (by kernel_rfl), True.intro⟩ (by kernel_rfl) ?_
      refine AW.ret ?_
      obtain rfl := Option.some.inj h
      exact Kn.r Fm [(2, vb z1112)] [] (by kernel_rfl) (Kn.dn Fm (by kernel_rfl))
  · rcases Bool.eq_false_or_eq_true (decide ((120 : Int) < ((List.length x1103.rects_ : Nat) : Int))) with hb1104 | hb1104
    · have h := br_t h hb1104
      refine AW.g Fm [.s, .s, .s, .s, .w (vb true), .s, .s, .s, .s] (fun K => (ALe (vb (decide ((120 : Int) < ((List.length x1103.rects_ : Nat) : Int)))) (vb true)) ∧ True) [(1, .v (.c (.ptr 1 0))), (11, vb true)] [(1, .box false [.d (DL x1103.rects_)])] ⟨ALe.bool hb1104, True.intro⟩ (by kernel_rfl) ?_
      exact Kn.r Fm [(1, .v (.c (.ptr 1 0))), (11, vb true)] [(1, .box false [.d (DL x1103.rects_)])] (by kernel_rfl) (hJ1108 true h)
    · have h := br_f h hb1104
      obtain ⟨z1105, hz1106, h⟩ := bd_some h
      refine AW.g Fm [.s, .s, .s, .s, .w (vb false), .s, .s, .k (cE [] [] (vb z1105) [] []), .s] (fun K => (ALe (vb (decide ((120 : Int) < ((List.length x1103.rects_ : Nat) : Int)))) (vb false)) ∧ K 7 ∧ True) [(1, .v (.c (.ptr 1 0))), (11, vb z1105)] [(1, .box false [.d (DL x1103.rects_)])] ⟨ALe.bool hb1104, KAt.callX (args := [AL x1103.rects_, .v (.c (.sem (CloOK Tryz.prog (FR_Rect_Bool (fun y0 => region_Valid_1 F y0)))))]) (slices_ContainsFunc_Rect_spec hz1106) Tryz.call108 [] [] [.tmp 9, .func 109] rfl (by kernel_rfl) (by kernel_rfl) (by kernel_rfl) ⟨ArgT.plain (by kernel_rfl) (ALe.of_eq (by kernel_rfl)) (by kernel_rfl), ArgT.cloX Tryz.call109 [] (fun args r hq => by obtain ⟨y0, y, hq, rfl, rfl⟩ := hq; exact Eq.mp (by kernel_rfl) (region_Valid_1_spec hq)) (fun args r hq => by obtain ⟨y0, y, hq, rfl, rfl⟩ := hq; rfl) (by kernel_rfl) [] (by kernel_rfl) (by kernel_rfl) (True.intro) (by kernel_rfl), True.intro⟩, True.intro⟩ (by kernel_rfl) ?_
      exact Kn.r Fm [(1, .v (.c (.ptr 1 0))), (11, vb z1105)] [(1, .box false [.d (DL x1103.rects_)])] (by kernel_rfl) (hJ1108 z1105 h)
theorem region_Limited_spec {F : Nat} {x1217 : (List Rect)} {r : Region × Int} (h : region_Limited F x1217 = some r) :
    FSpec Tryz.prog 98 [AL x1217] [] (.t [.g [.d (DL (α := Rect) r.1.rects_)], .c (ci r.2)]) [] := by
  refine FSpec.intro prog_mixed prog_lay Tryz.func98 rfl (by kernel_rfl) fun C Fm => ?_
  unfold region_Limited at h
  refine AW.sg0 Fm 2 [(0, AL x1217), (2, .v (.c (.ptr 2 0)))] [(2, .box false [.fl 0 fun _ => []])] (by kernel_rfl) ?_
  refine AW.seq ?_
  refine AW.sg0 Fm 3 [(0, AL x1217), (2, .v (.c (.ptr 2 0))), (6, vb (decide ((120 : Int) < ((List.length x1217 : Nat) : Int))))] [(2, .box false [.fl 0 fun _ => []])] (by kernel_rfl) ?_
  refine AW.cond (b := (decide ((120 : Int) < ((List.length x1217 : Nat) : Int)))) (by kernel_rfl) (fun hb1218 => ?_) (fun hb1218 => ?_)
  · have h := br_t h hb1218
    refine AW.sg Fm [.w (.v (.g [.d (DL (α := Rect) [])])), .s, .s] (fun K => (ALe (.v (.g [.fl 0 fun _ => []])) (.v (.g [.d (DL (α := Rect) [])]))) ∧ True) [(2, .v (.c (.ptr 2 0))), (3, vi (1 : Int))] [(2, .box false [.d (DL (α := Rect) [])])] ⟨ALe.g ⟨CLe.fl .nil, True.intro⟩, True.intro⟩ (by kernel_rfl) ?_
    refine AW.ret ?_
    obtain rfl := Option.some.inj h
    exact Kn.r Fm [(2, .v (.c (.ptr 2 0))), (3, vi (1 : Int))] [(2, .box false [.d (DL (α := Rect) [])])] (by kernel_rfl) (Kn.dn Fm (by kernel_rfl))
  · have h := br_f h hb1218
    refine AW.skip ?_
    refine AW.sg0 Fm 4 [(2, .v (.c (.ptr 2 0))), (3, vi (0 : Int))] [(2, .box false [.d (DL x1217)])] (by kernel_rfl) ?_
    refine AW.ret ?_
    obtain rfl := Option.some.inj h
    exact Kn.r Fm [(2, .v (.c (.ptr 2 0))), (3, vi (0 : Int))] [(2, .box false [.d (DL x1217)])] (by kernel_rfl) (Kn.dn Fm (by kernel_rfl))
theorem region_overlap_spec {F : Nat} {x1248 : Rect} {x1249 : Rect} {r : Bool} (h : region_overlap F x1248 x1249 = some r) :
    FSpec Tryz.prog 125 [gE x1248, gE x1249] [] (vb r) [] := by
  refine FSpec.intro prog_mixed prog_lay Tryz.func125 rfl (by kernel_rfl) fun C Fm => ?_
  unfold region_overlap at h
  refine AW.sg0 Fm 3 [(2, .v (.c (.ptr 2 0))), (3, .v (.c (.ptr 3 0)))] [(2, .box false (gC x1248)), (3, .box false (gC x1249))] (by kernel_rfl) ?_
  refine AW.join (r := r) (fun z : Bool => region_overlap_k0 F z) (fun z => [(4, vb z)]) (fun z => []) (fun v1253 h => ?_) (fun J1254 hJ1254 => ?_)
  · have h : region_overlap_k0 F v1253 = some r := h
    refine AW.ret ?_
    obtain rfl := Option.some.inj h
    exact Kn.r Fm [(4, vb v1253)] [] (by kernel_rfl) (Kn.dn Fm (by kernel_rfl))
  · rcases Bool.eq_false_or_eq_true (decide (x1248.left_ < x1249.right_)) with hb1250 | hb1250
    · have h := br_t h hb1250
      rcases Bool.eq_false_or_eq_true (decide (x1249.left_ < x1248.right_)) with hb1251 | hb1251
      · have h := br_t h hb1251
        rcases Bool.eq_false_or_eq_true (decide (x1248.low_ < x1249.high_)) with hb1252 | hb1252
        · have h := br_t h hb1252
          refine AW.g Fm [.s, .s, .s, .s, .s, .w (vb true), .s, .s, .s, .s, .s, .s, .w (vb true), .s, .s, .s, .s, .s, .s, .w (vb true), .s, .s, .s, .s, .s, .s, .s] (fun K => (ALe (vb (decide (x1248.left_ < x1249.right_))) (vb true)) ∧ (ALe (vb (decide (x1249.left_ < x1248.right_))) (vb true)) ∧ (ALe (vb (decide (x1248.low_ < x1249.high_))) (vb true)) ∧ True) [(4, vb (decide (x1249.low_ < x1248.high_)))] [] ⟨ALe.bool hb1250, ALe.bool hb1251, ALe.bool hb1252, True.intro⟩ (by kernel_rfl) ?_
          exact Kn.r Fm [(4, vb (decide (x1249.low_ < x1248.high_)))] [] (by kernel_rfl) (hJ1254 (decide (x1249.low_ < x1248.high_)) h)
        · have h := br_f h hb1252
          refine AW.g Fm [.s, .s, .s, .s, .s, .w (vb true), .s, .s, .s, .s, .s, .s, .w (vb true), .s, .s, .s, .s, .s, .s, .w (vb false), .s, .s, .s, .s, .s, .s, .s] (fun K => (ALe (vb (decide (x1248.left_ < x1249.right_))) (vb true)) ∧ (ALe (vb (decide (x1249.left_ < x1248.right_))) (vb true)) ∧ (ALe (vb (decide (x1248.low_ < x1249.high_))) (vb false)) ∧ True) [(4, vb false)] [] ⟨ALe.bool hb1250, ALe.bool hb1251, ALe.bool hb1252, True.intro⟩ (by kernel_rfl) ?_
          exact Kn.r Fm [(4, vb false)] [] (by kernel_rfl) (hJ1254 false h)
      · have h := br_f h hb1251
        refine AW.g Fm [.s, .s, .s, .s, .s, .w (vb true), .s, .s, .s, .s, .s, .s, .w (vb false), .s, .s, .s, .s, .s, .s, .s, .s, .s, .s, .s, .s, .s, .s] (fun K => (ALe (vb (decide (x1248.left_ < x1249.right_))) (vb true)) ∧ (ALe (vb (decide (x1249.left_ < x1248.right_))) (vb false)) ∧ True) [(4, vb false)] [] ⟨ALe.bool hb1250, ALe.bool hb1251, True.intro⟩ (by kernel_rfl) ?_
        exact Kn.r Fm [(4, vb false)] [] (by kernel_rfl) (hJ1254 false h)
    · have h := br_f h hb1250
      refine AW.g Fm [.s, .s, .s, .s, .s, .w (vb false), .s, .s, .s, .s, .s, .s, .s, .s, .s, .s, .s, .s, .s, .s, .s, .s, .s, .s, .s, .s, .s] (fun K => (ALe (vb (decide (x1248.left_ < x1249.right_))) (vb false)) ∧ True) [(4, vb false)] [] ⟨ALe.bool hb1250, True.intro⟩ (by kernel_rfl) ?_
      exact Kn.r Fm [(4, vb false)] [] (by kernel_rfl) (hJ1254 false h)
theorem region_Meets_1_1_spec {F : Nat} {x1255 : Rect} {x1256 : Rect} {r : Bool} (h : region_Meets_1_1 F x1255 x1256 = some r) :
    FSpec Tryz.prog 124 [gE x1255, .v (.c (.ptr 0 0))] [(0, .box true (gC x1256))] (vb r) [(0, .box true (gC x1256))] := by
  refine FSpec.intro prog_mixed prog_lay Tryz.func124 rfl (by kernel_rfl) fun C Fm => ?_
  unfold region_Meets_1_1 at h
  refine AW.sg0 Fm 2 [(1, .v (.c (.ptr 0 0))), (2, .v (.c (.ptr 2 0)))] [(0, .box true (gC x1256)), (2, .box false (gC x1255))] (by kernel_rfl) ?_
  refine AW.seq ?_
  obtain ⟨z1257, hz1258, h⟩ := bd_some h
  refine AW.g Fm [.s, .s, .k (cE [] [] (vb z1257) [] []), .s] (fun K => K 2 ∧ True) [(3, vb z1257)] [(0, .box true (gC x1256))] ⟨KAt.cl (args := [gE x1256, gE x1255]) (region_overlap_spec hz1258) Tryz.call125 [] rfl (by kernel_rfl), True.intro⟩ (by kernel_rfl) ?_
  refine AW.ret ?_
  obtain rfl := Option.some.inj h
  exact Kn.r Fm [(3, vb z1257)] [(0, .box true (gC x1256))] (by kernel_rfl) (Kn.dn Fm (by kernel_rfl))
theorem region_Meets_1_spec {F : Nat} {x1259 : Rect} {x1260 : Region} {r : Bool} (h : region_Meets_1 F x1259 x1260 = some r) :
    FSpec Tryz.prog 123 [gE x1259, .v (.c (.ptr 0 0))] [(0, .box true [.d (DL x1260.rects_)])] (vb r) [(0, .box true [.d (DL x1260.rects_)])] := by
  refine FSpec.intro prog_mixed prog_lay Tryz.func123 rfl (by kernel_rfl) fun C Fm => ?_
  unfold region_Meets_1 at h
  refine AW.sg0 Fm 2 [(1, .v (.c (.ptr 0 0))), (2, .v (.c (.ptr 2 0)))] [(0, .box true [.d (DL x1260.rects_)]), (2, .box false (gC x1259))] (by kernel_rfl) ?_
  refine AW.seq ?_
  obtain ⟨z1261, hz1262, h⟩ := bd_some h
  refine AW.g Fm [.s, .s, .s, .k (cE [] [2] (vb z1261) [] []), .s] (fun K => K 3 ∧ True) [(3, vb z1261)] [(0, .box true [.d (DL x1260.rects_)])] ⟨KAt.callX (args := [AL x1260.rects_, .v (.c (.sem (CloOK Tryz.prog (FR_Rect_Bool (fun y0 => region_Meets_1_1 F y0 x1259)))))]) (slices_ContainsFunc_Rect_spec hz1262) Tryz.call108 [] [2] [.tmp 5, .tmp 6] rfl (by kernel_rfl) (by kernel_rfl) (by kernel_rfl) ⟨ArgT.plain (by kernel_rfl) (ALe.of_eq (by kernel_rfl)) (by kernel_rfl), ArgT.cloX Tryz.call124 [[ci x1259.left_, ci x1259.low_, ci x1259.right_, ci x1259.high_]] (fun args r hq => by obtain ⟨y0, y, hq, rfl, rfl⟩ := hq; exact Eq.mp (by kernel_rfl) (region_Meets_1_1_spec hq)) (fun args r hq => by obtain ⟨y0, y, hq, rfl, rfl⟩ := hq; rfl) (by kernel_rfl) [2] (by kernel_rfl) (by kernel_rfl) (⟨⟨false, (by kernel_rfl)⟩, True.intro⟩) (by kernel_rfl), True.intro⟩, True.intro⟩ (by kernel_rfl) ?_
  refine AW.ret ?_
  obtain rfl := Option.some.inj h
  exact Kn.r Fm [(3, vb z1261)] [(0, .box true [.d (DL x1260.rects_)])] (by kernel_rfl) (Kn.dn Fm (by kernel_rfl))
theorem region_Meets_spec {F : Nat} {x1263 : Region} {x1264 : Region} {r : Bool} (h : region_Meets F x1263 x1264 = some r) :
    FSpec Tryz.prog 65 [.v (.g [.d (DL x1263.rects_)]), .v (.g [.d (DL x1264.rects_)])] [] (vb r) [] := by
  refine FSpec.intro prog_mixed prog_lay Tryz.func65 rfl (by kernel_rfl) fun C Fm => ?_
  unfold region_Meets at h
  refine AW.sg0 Fm 3 [(2, .v (.c (.ptr 2 0))), (3, .v (.c (.ptr 3 0)))] [(2, .box false [.d (DL x1263.rects_)]), (3, .box false [.d (DL x1264.rects_)])] (by kernel_rfl) ?_
  refine AW.join (r := r) (fun z : Bool => region_Meets_k0 F z) (fun z => [(4, vb z)]) (fun z => []) (fun v1273 h => ?_) (fun J1274 hJ1274 => ?_)
  · have h : region_Meets_k0 F v1273 = some r := h
    refine AW.ret ?_
    obtain rfl := Option.some.inj h
    exact Kn.r Fm [(4, vb v1273)] [] (by kernel_rfl) (Kn.dn Fm (by kernel_rfl))
  · obtain ⟨z1265, hz1266, h⟩ := bd_some h
    rcases Bool.eq_false_or_eq_true z1265 with hb1267 | hb1267
    · have h := br_t h hb1267
      obtain ⟨z1268, hz1269, h⟩ := bd_some h
      rcases Bool.eq_false_or_eq_true z1268 with hb1270 | hb1270
      · have h := br_t h hb1270
        obtain ⟨z1271, hz1272, h⟩ := bd_some h
        refine AW.g Fm [.s, .k (cE [] [] (vb z1265) [] []), .w (vb true), .s, .k (cE [] [] (vb z1268) [] []), .s, .w (vb true), .s, .s, .s, .k (cE [] [3] (vb z1271) [] []), .s, .s] (fun K => K 1 ∧ (ALe (vb z1265) (vb true)) ∧ K 4 ∧ (ALe (vb z1268) (vb true)) ∧ K 10 ∧ True) [(4, vb z1271)] [] ⟨KAt.cl (args := [.v (.g [.d (DL x1263.rects_)])]) (region_Valid_spec hz1266) Tryz.call55 [] rfl (by kernel_rfl), ALe.bool hb1267, KAt.cl (args := [.v (.g [.d (DL x1264.rects_)])]) (region_Valid_spec hz1269) Tryz.call55 [] rfl (by kernel_rfl), ALe.bool hb1270, KAt.callX (args := [AL x1263.rects_, .v (.c (.sem (CloOK Tryz.prog (FR_Rect_Bool (fun y0 => region_Meets_1 F y0 x1264)))))]) (slices_ContainsFunc_Rect_spec hz1272) Tryz.call108 [] [3] [.tmp 13, .tmp 14] rfl (by kernel_rfl) (by kernel_rfl) (by kernel_rfl) ⟨ArgT.plain (by kernel_rfl) (ALe.of_eq (by kernel_rfl)) (by kernel_rfl), ArgT.cloX Tryz.call123 [[.d (DL x1264.rects_)]] (fun args r hq => by obtain ⟨y0, y, hq, rfl, rfl⟩ := hq; exact Eq.mp (by kernel_rfl) (region_Meets_1_spec hq)) (fun args r hq => by obtain ⟨y0, y, hq, rfl, rfl⟩ := hq; rfl) (by kernel_rfl) [3] (by kernel_rfl) (by kernel_rfl) (⟨⟨false, (by kernel_rfl)⟩, True.intro⟩) (by kernel_rfl), True.intro⟩, True.intro⟩ (by kernel_rfl) ?_
        exact Kn.r Fm [(4, vb z1271)] [] (by kernel_rfl) (hJ1274 z1271 h)
      · have h := br_f h hb1270
        refine AW.g Fm [.s, .k (cE [] [] (vb z1265) [] []), .w (vb true), .s, .k (cE [] [] (vb z1268) [] []), .s, .w (vb false), .s, .s, .s, .s, .s, .s] (fun K => K 1 ∧ (ALe (vb z1265) (vb true)) ∧ K 4 ∧ (ALe (vb z1268) (vb false)) ∧ True) [(4, vb false)] [] ⟨KAt.cl (args := [.v (.g [.d (DL x1263.rects_)])]) (region_Valid_spec hz1266) Tryz.call55 [] rfl (by kernel_rfl), ALe.bool hb1267, KAt.cl (args := [.v (.g [.d (DL x1264.rects_)])]) (region_Valid_spec hz1269) Tryz.call55 [] rfl (by kernel_rfl), ALe.bool hb1270, True.intro⟩ (by kernel_rfl) ?_
        exact Kn.r Fm [(4, vb false)] [] (by kernel_rfl) (hJ1274 false h)
    · have h := br_f h hb1267
      refine AW.g Fm [.s, .k (cE [] [] (vb z1265) [] []), .w (vb false), .s, .s, .s, .s, .s, .s, .s, .s, .s, .s] (fun K => K 1 ∧ (ALe (vb z1265) (vb false)) ∧ True) [(4, vb false)] [] ⟨KAt.cl (args := [.v (.g [.d (DL x1263.rects_)])]) (region_Valid_spec hz1266) Tryz.call55 [] rfl (by kernel_rfl), ALe.bool hb1267, True.intro⟩ (by kernel_rfl) ?_
      exact Kn.r Fm [(4, vb false)] [] (by kernel_rfl) (hJ1274 false h)
end Go.Ab
end
