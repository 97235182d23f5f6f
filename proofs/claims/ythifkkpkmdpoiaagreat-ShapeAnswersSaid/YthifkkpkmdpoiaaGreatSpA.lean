/- The code follows the plain programs: whenever the plain program has a result. -/
import Derived.Test.YthifkkpkmdpoiaaGreatBaA
set_option linter.unusedVariables false
set_option linter.unusedSimpArgs false
section
namespace Go.Ab
open Go.Proofs
set_option linter.unusedVariables false
set_option maxRecDepth 100000
theorem keep_New_spec {F : Nat} {x1 : (List Int)} {r : Tape} (h : keep_New F x1 = some r) :
  FSpec Tryz.prog 12 [AL x1] [] (pt 100) [(100, bx (gC r))] := by
 refine FSpec.intro prog_mixed prog_lay Tryz.func12 rfl (by kernel_rfl) fun C Fm => ?_
 unfold keep_New at h
 refine AW.SG0 Fm 1 [(0, AL x1)] [] ?_
 obtain ⟨hg2, h⟩ := gd_some h
 refine AW.SG Fm [.s, .s, .s, .s, .w (AL (α := Int) (x1.take (gmin ((List.length x1 : Nat) : Int) (400 : Int)).toNat)), .s, .s, .s] (fun K => (((sl (List.length x1) (LF x1) none (some (gmin ((List.length x1 : Nat) : Int) (400 : Int)))).2 ∧ ∀ j, j < List.length x1 → (LF x1 j).length = 1)) ∧ (ALe (.v (.c (.d (.lst (sl (List.length x1) (LF x1) none (some (gmin ((List.length x1 : Nat) : Int) (400 : Int)))).1.1 (sl (List.length x1) (LF x1) none (some (gmin ((List.length x1 : Nat) : Int) (400 : Int)))).1.2)))) (AL (α := Int) (x1.take (gmin ((List.length x1 : Nat) : Int) (400 : Int)).toNat))) ∧ True) [(2, pt 9)] [(9, bx [.d (DL (α := Int) (x1.take (gmin ((List.length x1 : Nat) : Int) (400 : Int)).toNat)), ci 0])] ⟨⟨hg2, (Is.refl x1).len⟩, ALe.lst (sl_is x1 none (some (gmin ((List.length x1 : Nat) : Int) (400 : Int))) hg2), ⟨⟩⟩ ?_
 refine AW.ret ?_
 obtain rfl := Option.some.inj h
 exact Kn.re Fm [(100, 9)] [(2, pt 100)] [(100, bx [.d (DL (α := Int) (x1.take (gmin ((List.length x1 : Nat) : Int) (400 : Int)).toNat)), ci 0])] (by kernel_rfl) (by kernel_rfl) (by kernel_rfl) (by kernel_rfl) (Kn.dn Fm (by kernel_rfl))
theorem keep_Mod_spec {F : Nat} {x3 : Int} {x4 : Int} {r : Int} (h : keep_Mod F x3 x4 = some r) :
  FSpec Tryz.prog 51 [vi x3, vi x4] [] (vi r) [] := by
 refine FSpec.intro prog_mixed prog_lay Tryz.func51 rfl (by kernel_rfl) fun C Fm => ?_
 unfold keep_Mod at h
 refine AW.SG0 Fm 1 [(0, vi x3), (1, vi x4)] [] ?_
 refine AW.seq ?_
 refine AW.SG0 Fm 2 [(0, vi x3), (1, vi x4), (6, vb (decide (x4 < (1 : Int))))] [] ?_
 refine AW.cond (b := (decide (x4 < (1 : Int)))) (by kernel_rfl) (fun hb5 => ?_) (fun hb5 => ?_)
 ·have h := br_t h hb5
  refine AW.SG0 Fm 1 [(4, vi (0 : Int))] [] ?_
  refine AW.ret ?_
  obtain rfl := Option.some.inj h
  exact Kn.D Fm
 ·have h := br_f h hb5
  refine AW.skip ?_
  obtain ⟨hg6, h⟩ := gd_some h
  refine AW.SG Fm [.s, .s, .s, .s] (fun K => _ ∧ True) [(0, vi (x3.tmod x4)), (1, vi x4)] [] ⟨hg6, ⟨⟩⟩ ?_
  refine AW.join (r := r) (fun z : Int => keep_Mod_k0 F z) (fun z => [(0, vi z)]) (fun z => []) (fun v9 h => ?_) (fun c a => ?_)
  ·refine AW.SG0 Fm 2 [(4, vi v9)] [] ?_
   refine AW.ret ?_
   obtain rfl := Option.some.inj h
   exact Kn.D Fm
  ·refine AW.SG0 Fm 2 [(0, vi (x3.tmod x4)), (1, vi x4), (11, vb (decide ((x3.tmod x4) < (0 : Int))))] [] ?_
   refine AW.cond (b := (decide ((x3.tmod x4) < (0 : Int)))) (by kernel_rfl) (fun hb7 => ?_) (fun hb7 => ?_)
   ·have h := br_t h hb7
    obtain ⟨hg8, h⟩ := gd_some h
    refine AW.G Fm [.s, .s, .s, .s] (fun K => (I64 ((x3.tmod x4) + x4) ∧ True) ∧ True) [(0, vi ((x3.tmod x4) + x4))] [] ⟨⟨hg8, ⟨⟩⟩, ⟨⟩⟩ ?_
    exact Kn.R Fm (a ((x3.tmod x4) + x4) h)
   ·have h := br_f h hb7
    refine AW.skip ?_
    exact Kn.R Fm (a (x3.tmod x4) h)
theorem keep_Tape_Next_spec {F : Nat} {a : Tape} {c : Int} {r : Tape × Int} (h : keep_Tape_Next F a c = some r) :
  FSpec Tryz.prog 30 [pt 0, vi c] [(0, bx (gC a))] (vi r.2) [(0, bx (gC r.1))] := by
 refine FSpec.intro prog_mixed prog_lay Tryz.func30 rfl (by kernel_rfl) fun C Fm => ?_
 unfold keep_Tape_Next at h
 refine AW.SG0 Fm 1 [(0, pt 0), (1, vi c)] [(0, bx (gC a))] ?_
 refine AW.seq ?_
 refine AW.SG0 Fm 10 [(0, pt 0), (1, vi c), (14, vb (decide (((List.length a.l_ : Nat) : Int) ≤ a.at_)))] [(0, bx (gC a))] ?_
 refine AW.cond (b := (decide (((List.length a.l_ : Nat) : Int) ≤ a.at_))) (by kernel_rfl) (fun e => ?_) (fun e => ?_)
 ·have h := br_t h e
  refine AW.SG0 Fm 1 [(4, vi (0 : Int))] [(0, bx (gC a))] ?_
  refine AW.ret ?_
  obtain rfl := Option.some.inj h
  exact Kn.D Fm
 ·have h := br_f h e
  refine AW.skip ?_
  obtain ⟨j, h⟩ := gd_some h
  refine AW.SG Fm [.s, .s, .s, .s, .s, .s, .s, .s] (fun K => (I64 (a.at_ + (1 : Int)) ∧ True) ∧ True) [(0, pt 0), (1, vi c)] [(0, bx [.d (DL a.l_), ci (a.at_ + (1 : Int))])] ⟨⟨j, ⟨⟩⟩, ⟨⟩⟩ ?_
  refine AW.seq ?_
  obtain ⟨l, h⟩ := gd_some h
  obtain ⟨m, h⟩ := gd_some h
  obtain ⟨i, n, h⟩ := bd_some h
  refine AW.G Fm [.s, .s, .s, .s, .s, .s, .s, .s, .s, .s, .s, .s, .k (cE [] [] (vi i) [] []), .s] (fun K => (I64 ((a.at_ + (1 : Int)) - (1 : Int)) ∧ True) ∧ _ ∧ K 12 ∧ True) [(4, vi i)] [(0, bx [.d (DL a.l_), ci (a.at_ + (1 : Int))])] ⟨⟨l, ⟨⟩⟩, m, KAt.CC (keep_Mod_spec n) Tryz.call51 [], ⟨⟩⟩ ?_
  refine AW.ret ?_
  obtain rfl := Option.some.inj h
  exact Kn.D Fm
theorem keep_Tape_Rect_spec {F : Nat} {i : Tape} {c : Int} {r : Tape × Rect} (h : keep_Tape_Rect F i c = some r) :
  FSpec Tryz.prog 54 [pt 0, vi c] [(0, bx (gC i))] (gE r.2) [(0, bx (gC r.1))] := by
 refine FSpec.intro prog_mixed prog_lay Tryz.func54 rfl (by kernel_rfl) fun C Fm => ?_
 unfold keep_Tape_Rect at h
 refine AW.SG0 Fm 1 [(0, pt 0), (1, vi c), (4, pt 4)] [(0, bx (gC i)), (4, bx [ci 0, ci 0, ci 0, ci 0])] ?_
 refine AW.seq ?_
 obtain ⟨b, q, h⟩ := bd_some h
 obtain ⟨a, t, h⟩ := bd_some h
 refine AW.G Fm [.s, .s, .k (cE [(0, 0)] [] (vi b.2) [(0, bx (gC i))] [(0, bx (gC b.1))]), .s, .s, .k (cE [(0, 0)] [] (vi a.2) [(0, bx (gC b.1))] [(0, bx (gC a.1))]), .s, .s] (fun K => K 2 ∧ K 5 ∧ True) [(0, pt 0), (1, vi c), (4, pt 4), (5, vi b.2), (6, vi a.2)] [(0, bx (gC a.1)), (4, bx [ci 0, ci 0, ci 0, ci 0])] ⟨KAt.CC (keep_Tape_Next_spec q) Tryz.call30 [(0, 0)], KAt.CC (keep_Tape_Next_spec t) Tryz.call30 [(0, 0)], ⟨⟩⟩ ?_
 refine AW.seq ?_
 obtain ⟨j, h⟩ := gd_some h
 obtain ⟨l, h⟩ := gd_some h
 obtain ⟨d, u, h⟩ := bd_some h
 obtain ⟨m, h⟩ := gd_some h
 obtain ⟨n, h⟩ := gd_some h
 obtain ⟨o, h⟩ := gd_some h
 obtain ⟨e, w, h⟩ := bd_some h
 obtain ⟨p, h⟩ := gd_some h
 refine AW.G Fm [.s, .s, .s, .s, .s, .s, .s, .s, .k (cE [(0, 0)] [] (vi d.2) [(0, bx (gC a.1))] [(0, bx (gC d.1))]), .s, .s, .s, .s, .s, .s, .s, .k (cE [(0, 0)] [] (vi e.2) [(0, bx (gC d.1))] [(0, bx (gC e.1))]), .s, .s, .s] (fun K => (I64 (b.2 + (1 : Int)) ∧ True) ∧ (I64 (c - b.2) ∧ True) ∧ K 8 ∧ (I64 ((b.2 + (1 : Int)) + d.2) ∧ True) ∧ (I64 (a.2 + (1 : Int)) ∧ True) ∧ (I64 (c - a.2) ∧ True) ∧ K 16 ∧ (I64 ((a.2 + (1 : Int)) + e.2) ∧ True) ∧ True) [(4, pt 4)] [(0, bx (gC e.1)), (4, bx [ci b.2, ci a.2, ci ((b.2 + (1 : Int)) + d.2), ci ((a.2 + (1 : Int)) + e.2)])] ⟨⟨j, ⟨⟩⟩, ⟨l, ⟨⟩⟩, KAt.CC (keep_Tape_Next_spec u) Tryz.call30 [(0, 0)], ⟨m, ⟨⟩⟩, ⟨n, ⟨⟩⟩, ⟨o, ⟨⟩⟩, KAt.CC (keep_Tape_Next_spec w) Tryz.call30 [(0, 0)], ⟨p, ⟨⟩⟩, ⟨⟩⟩ ?_
 refine AW.ret ?_
 obtain rfl := Option.some.inj h
 exact Kn.D Fm
theorem ref04_proper_spec {F : Nat} {a : Rect} {r : Bool} (h : ref04_proper F a = some r) :
  FSpec Tryz.prog 62 [gE a] [] (vb r) [] := by
 refine FSpec.intro prog_mixed prog_lay Tryz.func62 rfl (by kernel_rfl) fun C Fm => ?_
 unfold ref04_proper at h
 refine AW.SG0 Fm 2 [(1, pt 1)] [(1, bx (gC a))] ?_
 refine AW.join (r := r) (fun z : Bool => ref04_proper_k0 F z) (fun z => [(2, vb z)]) (fun z => []) (fun l h => ?_) (fun k e => ?_)
 ·refine AW.ret ?_
  obtain rfl := Option.some.inj h
  exact Kn.D Fm
 ·rcases Bool.eq_false_or_eq_true (decide ((0 : Int) ≤ a.left_)) with b | b
  ·have h := br_t h b
   rcases Bool.eq_false_or_eq_true (decide (a.left_ < a.right_)) with c | c
   ·have h := br_t h c
    rcases Bool.eq_false_or_eq_true (decide (a.right_ ≤ (16384 : Int))) with d | d
    ·have h := br_t h d
     rcases Bool.eq_false_or_eq_true (decide ((0 : Int) ≤ a.low_)) with i | i
     ·have h := br_t h i
      rcases Bool.eq_false_or_eq_true (decide (a.low_ < a.high_)) with j | j
      ·have h := br_t h j
       refine AW.G Fm [.s, .s, .s, .w (vb true), .s, .s, .s, .s, .s, .s, .w (vb true), .s, .s, .s, .s, .w (vb true), .s, .s, .s, .s, .w (vb true), .s, .s, .s, .s, .s, .s, .w (vb true), .s, .s, .s, .s, .s] (fun K => (ALe (vb (decide ((0 : Int) ≤ a.left_))) (vb true)) ∧ (ALe (vb (decide (a.left_ < a.right_))) (vb true)) ∧ (ALe (vb (decide (a.right_ ≤ (16384 : Int)))) (vb true)) ∧ (ALe (vb (decide ((0 : Int) ≤ a.low_))) (vb true)) ∧ (ALe (vb (decide (a.low_ < a.high_))) (vb true)) ∧ True) [(2, vb (decide (a.high_ ≤ (16384 : Int))))] [] ⟨ALe.bool b, ALe.bool c, ALe.bool d, ALe.bool i, ALe.bool j, ⟨⟩⟩ ?_
       exact Kn.R Fm (e (decide (a.high_ ≤ (16384 : Int))) h)
      ·have h := br_f h j
       refine AW.G Fm [.s, .s, .s, .w (vb true), .s, .s, .s, .s, .s, .s, .w (vb true), .s, .s, .s, .s, .w (vb true), .s, .s, .s, .s, .w (vb true), .s, .s, .s, .s, .s, .s, .w (vb false), .s, .s, .s, .s, .s] (fun K => (ALe (vb (decide ((0 : Int) ≤ a.left_))) (vb true)) ∧ (ALe (vb (decide (a.left_ < a.right_))) (vb true)) ∧ (ALe (vb (decide (a.right_ ≤ (16384 : Int)))) (vb true)) ∧ (ALe (vb (decide ((0 : Int) ≤ a.low_))) (vb true)) ∧ (ALe (vb (decide (a.low_ < a.high_))) (vb false)) ∧ True) [(2, vb false)] [] ⟨ALe.bool b, ALe.bool c, ALe.bool d, ALe.bool i, ALe.bool j, ⟨⟩⟩ ?_
       exact Kn.R Fm (e false h)
     ·have h := br_f h i
      refine AW.G Fm [.s, .s, .s, .w (vb true), .s, .s, .s, .s, .s, .s, .w (vb true), .s, .s, .s, .s, .w (vb true), .s, .s, .s, .s, .w (vb false), .s, .s, .s, .s, .s, .s, .s, .s, .s, .s, .s, .s] (fun K => (ALe (vb (decide ((0 : Int) ≤ a.left_))) (vb true)) ∧ (ALe (vb (decide (a.left_ < a.right_))) (vb true)) ∧ (ALe (vb (decide (a.right_ ≤ (16384 : Int)))) (vb true)) ∧ (ALe (vb (decide ((0 : Int) ≤ a.low_))) (vb false)) ∧ True) [(2, vb false)] [] ⟨ALe.bool b, ALe.bool c, ALe.bool d, ALe.bool i, ⟨⟩⟩ ?_
      exact Kn.R Fm (e false h)
    ·have h := br_f h d
     refine AW.G Fm [.s, .s, .s, .w (vb true), .s, .s, .s, .s, .s, .s, .w (vb true), .s, .s, .s, .s, .w (vb false), .s, .s, .s, .s, .s, .s, .s, .s, .s, .s, .s, .s, .s, .s, .s, .s, .s] (fun K => (ALe (vb (decide ((0 : Int) ≤ a.left_))) (vb true)) ∧ (ALe (vb (decide (a.left_ < a.right_))) (vb true)) ∧ (ALe (vb (decide (a.right_ ≤ (16384 : Int)))) (vb false)) ∧ True) [(2, vb false)] [] ⟨ALe.bool b, ALe.bool c, ALe.bool d, ⟨⟩⟩ ?_
     exact Kn.R Fm (e false h)
   ·have h := br_f h c
    refine AW.G Fm [.s, .s, .s, .w (vb true), .s, .s, .s, .s, .s, .s, .w (vb false), .s, .s, .s, .s, .s, .s, .s, .s, .s, .s, .s, .s, .s, .s, .s, .s, .s, .s, .s, .s, .s, .s] (fun K => (ALe (vb (decide ((0 : Int) ≤ a.left_))) (vb true)) ∧ (ALe (vb (decide (a.left_ < a.right_))) (vb false)) ∧ True) [(2, vb false)] [] ⟨ALe.bool b, ALe.bool c, ⟨⟩⟩ ?_
    exact Kn.R Fm (e false h)
  ·have h := br_f h b
   refine AW.G Fm [.s, .s, .s, .w (vb false), .s, .s, .s, .s, .s, .s, .s, .s, .s, .s, .s, .s, .s, .s, .s, .s, .s, .s, .s, .s, .s, .s, .s, .s, .s, .s, .s, .s, .s] (fun K => (ALe (vb (decide ((0 : Int) ≤ a.left_))) (vb false)) ∧ True) [(2, vb false)] [] ⟨ALe.bool b, ⟨⟩⟩ ?_
   exact Kn.R Fm (e false h)
theorem ref01_Put_spec {F : Nat} {a : (List Int)} {i : Int} {r : (List Int)} (h : ref01_Put F a i = some r) :
  FSpec Tryz.prog 120 [AL a, vi i] [] (AL (α := Int) r) [] := by
 refine FSpec.intro prog_mixed prog_lay Tryz.func120 rfl (by kernel_rfl) fun C Fm => ?_
 unfold ref01_Put at h
 refine AW.SG0 Fm 1 [(0, AL a), (1, vi i)] [] ?_
 refine AW.SG0 Fm 1 [(0, AL a), (1, vi i), (5, vi (0 : Int))] [] ?_
 refine AW.join (r := r) (fun z : Int => ref01_Put_k2 F a i z) (fun z => [(0, AL a), (1, vi i), (5, vi z)]) (fun z => []) (fun e h => ?_) (fun W E => ?_)
 ·refine AW.seq ?_
  refine AW.join (r := r) (fun z : Bool => ref01_Put_k3 F a i e z) (fun z => [(0, AL a), (1, vi i), (5, vi e), (31, vb z)]) (fun z => []) (fun T h => ?_) (fun X t => ?_)
  ·refine AW.cond (b := T) (by kernel_rfl) (fun p => ?_) (fun p => ?_)
   ·have h := br_t h p
    refine AW.SG0 Fm 2 [(4, AL a)] [] ?_
    refine AW.ret ?_
    obtain rfl := Option.some.inj h
    exact Kn.D Fm
   ·have h := br_f h p
    refine AW.skip ?_
    obtain ⟨u, h⟩ := gd_some h
    obtain ⟨M, h⟩ := gd_some h
    obtain ⟨N, h⟩ := gd_some h
    obtain ⟨y, h⟩ := gd_some h
    obtain ⟨O, h⟩ := gd_some h
    refine AW.SG Fm [.m, .s, .s, .w (AL (α := Int) (a.take e.toNat)), .s, .s, .w (AL (α := Int) ([i] : List Int)), .s, .s, .s, .w (AL (α := Int) (a.drop e.toNat)), .s, .s] (fun K => (((sl (List.length a) (LF a) none (some e)).2 ∧ ∀ j, j < List.length a → (LF a j).length = 1)) ∧ (ALe (.v (.c (.d (.lst (sl (List.length a) (LF a) none (some e)).1.1 (sl (List.length a) (LF a) none (some e)).1.2)))) (AL (α := Int) (a.take e.toNat))) ∧ ((0) + (List.length (α := Int) (a.take e.toNat)) ≤ LIM ∧ (∀ j, j < List.length (α := Int) (a.take e.toNat) → ((LF (α := Int) (a.take e.toNat)) j).length = 1) ∧ (True)) ∧ (ALe (.v (.c (.d (.lst 1 (litF 1 [.int .i64 i]))))) (AL (α := Int) ([i] : List Int))) ∧ (((0) + (List.length (α := Int) (a.take e.toNat))) + (List.length (α := Int) ([i] : List Int)) ≤ LIM ∧ (∀ j, j < List.length (α := Int) ([i] : List Int) → ((LF (α := Int) ([i] : List Int)) j).length = 1) ∧ (True)) ∧ (((sl (List.length a) (LF a) (some e) none).2 ∧ ∀ j, j < List.length a → (LF a j).length = 1)) ∧ (ALe (.v (.c (.d (.lst (sl (List.length a) (LF a) (some e) none).1.1 (sl (List.length a) (LF a) (some e) none).1.2)))) (AL (α := Int) (a.drop e.toNat))) ∧ ((((0) + (List.length (α := Int) (a.take e.toNat))) + (List.length (α := Int) ([i] : List Int))) + (List.length (α := Int) (a.drop e.toNat)) ≤ LIM ∧ (∀ j, j < List.length (α := Int) (a.drop e.toNat) → ((LF (α := Int) (a.drop e.toNat)) j).length = 1) ∧ (True)) ∧ True) [(4, ow 44)] [(44, .arr 1 ((((0) + (List.length (α := Int) (a.take e.toNat))) + (List.length (α := Int) ([i] : List Int))) + (List.length (α := Int) (a.drop e.toNat))) (appF (((0) + (List.length (α := Int) (a.take e.toNat))) + (List.length (α := Int) ([i] : List Int))) (appF ((0) + (List.length (α := Int) (a.take e.toNat))) (appF (0) (litF 1 []) (LF (α := Int) (a.take e.toNat))) (LF (α := Int) ([i] : List Int))) (LF (α := Int) (a.drop e.toNat))))] ⟨⟨u, (Is.refl a).len⟩, ALe.lst (sl_is a none (some e) u), ⟨M, (Is.refl (a.take e.toNat) : Is (List.length (α := Int) (a.take e.toNat)) (LF (α := Int) (a.take e.toNat)) (a.take e.toNat)).len, ⟨⟩⟩, ALe.lst (.lit ([i] : List Int) (by kernel_rfl)), ⟨N, (Is.refl ([i] : List Int) : Is (List.length (α := Int) ([i] : List Int)) (LF (α := Int) ([i] : List Int)) ([i] : List Int)).len, ⟨⟩⟩, ⟨y, (Is.refl a).len⟩, ALe.lst (sl_is a (some e) none y), ⟨O, (Is.refl (a.drop e.toNat) : Is (List.length (α := Int) (a.drop e.toNat)) (LF (α := Int) (a.drop e.toNat)) (a.drop e.toNat)).len, ⟨⟩⟩, ⟨⟩⟩ ?_
    refine Kn.wk [(4, ow 44)] [(44, AO (α := Int) (((([] : List Int) ++ (a.take e.toNat)) ++ ([i] : List Int)) ++ (a.drop e.toNat)))] (FE.refl _) (⟨rfl, OLe.is (Is.app (Is.app (Is.app (Is.lit ([] : List Int) (by kernel_rfl)) (Is.refl (a.take e.toNat))) (Is.refl ([i] : List Int))) (Is.refl (a.drop e.toNat))), ⟨⟩⟩) ?_
    refine AW.ret ?_
    obtain rfl := Option.some.inj h
    refine Kn.r Fm [(4, ow 44)] [(44, AO (α := Int) (((([] : List Int) ++ (a.take e.toNat)) ++ ([i] : List Int)) ++ (a.drop e.toNat)))] (by kernel_rfl) ?_
    refine Kn.frz [(4, AL (α := Int) (((([] : List Int) ++ (a.take e.toNat)) ++ ([i] : List Int)) ++ (a.drop e.toNat)))] [] (by kernel_rfl) (by kernel_rfl) (by kernel_rfl) ?_
    exact Kn.D Fm
  ·rcases Bool.eq_false_or_eq_true (decide (e < ((List.length a : Nat) : Int))) with n | n
   ·have h := br_t h n
    obtain ⟨L, h⟩ := gd_some h
    refine AW.G Fm [.s, .s, .s, .s, .w (vb true), .s, .s, .s, .s, .s, .s, .s] (fun K => (ALe (vb (decide (e < ((List.length a : Nat) : Int)))) (vb true)) ∧ _ ∧ True) [(0, AL a), (1, vi i), (5, vi e), (31, vb ((gl a e.toNat) == i))] [] ⟨ALe.bool n, L, ⟨⟩⟩ ?_
    exact Kn.R Fm (t ((gl a e.toNat) == i) h)
   ·have h := br_f h n
    refine AW.G Fm [.s, .s, .s, .s, .w (vb false), .s, .s, .s, .s, .s, .s, .s] (fun K => (ALe (vb (decide (e < ((List.length a : Nat) : Int)))) (vb false)) ∧ True) [(0, AL a), (1, vi i), (5, vi e), (31, vb false)] [] ⟨ALe.bool n, ⟨⟩⟩ ?_
    exact Kn.R Fm (t false h)
 ·refine AW.block ?_
  refine Kn.r Fm [(0, AL a), (1, vi i), (5, vi (0 : Int))] [] (by kernel_rfl) ?_
  refine AW.loopF (E' := fun z => [(0, AL a), (1, vi i), (5, vi z)]) (S' := fun z => []) (fun A k U B h => ?_) h
  refine AW.seq ?_
  refine AW.join (r := r) (fun z : Bool => ref01_Put_k1 F a i k A z) (fun z => [(0, AL a), (1, vi i), (5, vi k), (17, vb z)]) (fun z => []) (fun P h => ?_) (fun V q => ?_)
  ·refine AW.cond (b := P) (by kernel_rfl) (fun o => ?_) (fun o => ?_)
   ·have h := br_t h o
    refine AW.skip ?_
    refine AW.block ?_
    obtain ⟨I, h⟩ := gd_some h
    refine AW.G Fm [.s, .s, .s] (fun K => (I64 (k + (1 : Int)) ∧ True) ∧ True) [(0, AL a), (1, vi i), (5, vi (k + (1 : Int)))] [] ⟨⟨I, ⟨⟩⟩, ⟨⟩⟩ ?_
    exact Kn.R Fm (B (k + (1 : Int)) h)
   ·have h := br_f h o
    refine AW.exit ?_
    exact Kn.R Fm (E k h)
  ·rcases Bool.eq_false_or_eq_true (decide (k < ((List.length a : Nat) : Int))) with l | l
   ·have h := br_t h l
    obtain ⟨H, h⟩ := gd_some h
    refine AW.G Fm [.s, .s, .s, .s, .w (vb true), .s, .s, .s, .s, .s, .s, .s] (fun K => (ALe (vb (decide (k < ((List.length a : Nat) : Int)))) (vb true)) ∧ _ ∧ True) [(0, AL a), (1, vi i), (5, vi k), (11, AL a), (12, vi k), (13, .v (.c (.elm [.int .i64 (gl a k.toNat)]))), (14, vi (gl a k.toNat)), (15, vi i), (16, vb (decide ((gl a k.toNat) < i))), (17, vb (decide ((gl a k.toNat) < i)))] [] ⟨ALe.bool l, H, ⟨⟩⟩ ?_
    exact Kn.R Fm (q (decide ((gl a k.toNat) < i)) h)
   ·have h := br_f h l
    refine AW.G Fm [.s, .s, .s, .s, .w (vb false), .s, .s, .s, .s, .s, .s, .s] (fun K => (ALe (vb (decide (k < ((List.length a : Nat) : Int)))) (vb false)) ∧ True) [(0, AL a), (1, vi i), (5, vi k), (17, vb false)] [] ⟨ALe.bool l, ⟨⟩⟩ ?_
    exact Kn.R Fm (q false h)
theorem ref04_inside_spec {F : Nat} {a : (List Rect)} {e : Int} {i : Int} {r : Bool} (h : ref04_inside F a e i = some r) :
  FSpec Tryz.prog 77 [AL a, vi e, vi i] [] (vb r) [] := by
 refine FSpec.intro prog_mixed prog_lay Tryz.func77 rfl (by kernel_rfl) fun C Fm => ?_
 unfold ref04_inside at h
 refine AW.SG0 Fm 1 [(0, AL a), (1, vi e), (2, vi i)] [] ?_
 refine AW.join (r := r) (fun z : Unit => ref04_inside_k2 F) (fun z => []) (fun z => []) (fun z h => ?_) (fun E q => ?_)
 ·refine AW.SG0 Fm 1 [(6, vb false)] [] ?_
  refine AW.ret ?_
  obtain rfl := Option.some.inj h
  exact Kn.D Fm
 ·refine AW.SG0 Fm 3 [(1, vi e), (2, vi i), (9, AL a), (10, vi ((List.length a : Nat) : Int)), (11, vi (0 : Int))] [] ?_
  refine AW.block ?_
  refine Kn.r Fm [(1, vi e), (2, vi i), (9, AL a), (10, vi ((List.length a : Nat) : Int)), (11, vi (0 : Int))] [] (by kernel_rfl) ?_
  refine AW.loopF (E' := fun z => [(1, vi e), (2, vi i), (9, AL a), (10, vi ((List.length a : Nat) : Int)), (11, vi z)]) (S' := fun z => []) (fun p d H t h => ?_) h
  refine AW.SG0 Fm 1 [(1, vi e), (2, vi i), (9, AL a), (10, vi ((List.length a : Nat) : Int)), (11, vi d), (12, vb (decide (d < ((List.length a : Nat) : Int))))] [] ?_
  refine AW.seq ?_
  refine AW.cond (b := (decide (d < ((List.length a : Nat) : Int)))) (by kernel_rfl) (fun o => ?_) (fun o => ?_)
  ·have h := br_t h o
   refine AW.skip ?_
   refine AW.seq ?_
   refine AW.block ?_
   obtain ⟨y, h⟩ := gd_some h
   refine AW.SG Fm [.s, .s, .s, .s] (fun K => _ ∧ True) [(1, vi e), (2, vi i), (8, pt 8), (9, AL a), (10, vi ((List.length a : Nat) : Int)), (11, vi d)] [(8, bx [ci ((gl a d.toNat).left_), ci ((gl a d.toNat).low_), ci ((gl a d.toNat).right_), ci ((gl a d.toNat).high_)])] ⟨y, ⟨⟩⟩ ?_
   refine AW.join (r := r) (fun z : Bool => ref04_inside_k1 F d p z) (fun z => [(1, vi e), (2, vi i), (9, AL a), (10, vi ((List.length a : Nat) : Int)), (11, vi d), (36, vb z)]) (fun z => []) (fun A h => ?_) (fun B m => ?_)
   ·refine AW.cond (b := A) (by kernel_rfl) (fun n => ?_) (fun n => ?_)
    ·have h := br_t h n
     refine AW.SG0 Fm 1 [(6, vb true)] [] ?_
     refine AW.ret ?_
     obtain rfl := Option.some.inj h
     exact Kn.D Fm
    ·have h := br_f h n
     refine AW.skip ?_
     obtain ⟨u, h⟩ := gd_some h
     refine AW.G Fm [.s, .s] (fun K => (I64 (d + (1 : Int)) ∧ True) ∧ True) [(1, vi e), (2, vi i), (9, AL a), (10, vi ((List.length a : Nat) : Int)), (11, vi (d + (1 : Int)))] [] ⟨⟨u, ⟨⟩⟩, ⟨⟩⟩ ?_
     exact Kn.R Fm (t (d + (1 : Int)) h)
   ·rcases Bool.eq_false_or_eq_true (decide (((gl a d.toNat).left_) ≤ e)) with j | j
    ·have h := br_t h j
     rcases Bool.eq_false_or_eq_true (decide (e < ((gl a d.toNat).right_))) with k | k
     ·have h := br_t h k
      rcases Bool.eq_false_or_eq_true (decide (((gl a d.toNat).low_) ≤ i)) with l | l
      ·have h := br_t h l
       refine AW.G Fm [.s, .s, .s, .s, .w (vb true), .s, .s, .s, .s, .s, .w (vb true), .s, .s, .s, .s, .s, .w (vb true), .s, .s, .s, .s, .s] (fun K => (ALe (vb (decide (((gl a d.toNat).left_) ≤ e))) (vb true)) ∧ (ALe (vb (decide (e < ((gl a d.toNat).right_)))) (vb true)) ∧ (ALe (vb (decide (((gl a d.toNat).low_) ≤ i))) (vb true)) ∧ True) [(1, vi e), (2, vi i), (9, AL a), (10, vi ((List.length a : Nat) : Int)), (11, vi d), (20, vi e), (21, .v (.c (.ptr 8 2))), (22, vi (gl a d.toNat).right_), (23, vb (decide (e < ((gl a d.toNat).right_)))), (26, .v (.c (.ptr 8 1))), (27, vi (gl a d.toNat).low_), (28, vi i), (29, vb (decide (((gl a d.toNat).low_) ≤ i))), (32, vi i), (33, .v (.c (.ptr 8 3))), (34, vi (gl a d.toNat).high_), (35, vb (decide (i < ((gl a d.toNat).high_)))), (36, vb (decide (i < ((gl a d.toNat).high_))))] [(8, bx [ci ((gl a d.toNat).left_), ci ((gl a d.toNat).low_), ci ((gl a d.toNat).right_), ci ((gl a d.toNat).high_)])] ⟨ALe.bool j, ALe.bool k, ALe.bool l, ⟨⟩⟩ ?_
       exact Kn.R Fm (m (decide (i < ((gl a d.toNat).high_))) h)
      ·have h := br_f h l
       refine AW.G Fm [.s, .s, .s, .s, .w (vb true), .s, .s, .s, .s, .s, .w (vb true), .s, .s, .s, .s, .s, .w (vb false), .s, .s, .s, .s, .s] (fun K => (ALe (vb (decide (((gl a d.toNat).left_) ≤ e))) (vb true)) ∧ (ALe (vb (decide (e < ((gl a d.toNat).right_)))) (vb true)) ∧ (ALe (vb (decide (((gl a d.toNat).low_) ≤ i))) (vb false)) ∧ True) [(1, vi e), (2, vi i), (9, AL a), (10, vi ((List.length a : Nat) : Int)), (11, vi d), (20, vi e), (21, .v (.c (.ptr 8 2))), (22, vi (gl a d.toNat).right_), (23, vb (decide (e < ((gl a d.toNat).right_)))), (26, .v (.c (.ptr 8 1))), (27, vi (gl a d.toNat).low_), (28, vi i), (29, vb (decide (((gl a d.toNat).low_) ≤ i))), (36, vb false)] [(8, bx [ci ((gl a d.toNat).left_), ci ((gl a d.toNat).low_), ci ((gl a d.toNat).right_), ci ((gl a d.toNat).high_)])] ⟨ALe.bool j, ALe.bool k, ALe.bool l, ⟨⟩⟩ ?_
       exact Kn.R Fm (m false h)
     ·have h := br_f h k
      refine AW.G Fm [.s, .s, .s, .s, .w (vb true), .s, .s, .s, .s, .s, .w (vb false), .s, .s, .s, .s, .s, .s, .s, .s, .s, .s, .s] (fun K => (ALe (vb (decide (((gl a d.toNat).left_) ≤ e))) (vb true)) ∧ (ALe (vb (decide (e < ((gl a d.toNat).right_)))) (vb false)) ∧ True) [(1, vi e), (2, vi i), (9, AL a), (10, vi ((List.length a : Nat) : Int)), (11, vi d), (20, vi e), (21, .v (.c (.ptr 8 2))), (22, vi (gl a d.toNat).right_), (23, vb (decide (e < ((gl a d.toNat).right_)))), (36, vb false)] [(8, bx [ci ((gl a d.toNat).left_), ci ((gl a d.toNat).low_), ci ((gl a d.toNat).right_), ci ((gl a d.toNat).high_)])] ⟨ALe.bool j, ALe.bool k, ⟨⟩⟩ ?_
      exact Kn.R Fm (m false h)
    ·have h := br_f h j
     refine AW.G Fm [.s, .s, .s, .s, .w (vb false), .s, .s, .s, .s, .s, .s, .s, .s, .s, .s, .s, .s, .s, .s, .s, .s, .s] (fun K => (ALe (vb (decide (((gl a d.toNat).left_) ≤ e))) (vb false)) ∧ True) [(1, vi e), (2, vi i), (9, AL a), (10, vi ((List.length a : Nat) : Int)), (11, vi d), (36, vb false)] [] ⟨ALe.bool j, ⟨⟩⟩ ?_
     exact Kn.R Fm (m false h)
  ·have h := br_f h o
   refine AW.exit ?_
   exact Kn.R Fm (q () h)
theorem ref04_keep_spec {F : Nat} {a : Bool} {c : Bool} {d : Int} {r : Bool} (h : ref04_keep F a c d = some r) :
  FSpec Tryz.prog 121 [vb a, vb c, vi d] [] (vb r) [] := by
 refine FSpec.intro prog_mixed prog_lay Tryz.func121 rfl (by kernel_rfl) fun C Fm => ?_
 unfold ref04_keep at h
 refine AW.SG0 Fm 1 [(0, vb a), (1, vb c), (2, vi d)] [] ?_
 refine AW.seq ?_
 refine AW.SG0 Fm 1 [(0, vb a), (1, vb c), (7, vi d)] [] ?_
 refine AW.block ?_
 refine AW.SG0 Fm 2 [(0, vb a), (1, vb c), (7, vi d), (8, vb (d == (1 : Int)))] [] ?_
 refine AW.cond (b := (d == (1 : Int))) (by kernel_rfl) (fun k => ?_) (fun k => ?_)
 ·have h := br_t h k
  refine AW.join (r := r) (fun z : Bool => ref04_keep_k0 F z) (fun z => [(6, vb z)]) (fun z => []) (fun u h => ?_) (fun p m => ?_)
  ·refine AW.ret ?_
   obtain rfl := Option.some.inj h
   exact Kn.D Fm
  ·rcases Bool.eq_false_or_eq_true a with e | e
   ·have h := br_t h e
    refine AW.G Fm [.s, .w (vb true), .s, .s, .s] (fun K => (ALe (vb a) (vb true)) ∧ True) [(6, vb true)] [] ⟨ALe.bool e, ⟨⟩⟩ ?_
    exact Kn.R Fm (m true h)
   ·have h := br_f h e
    refine AW.G Fm [.s, .w (vb false), .s, .s, .s] (fun K => (ALe (vb a) (vb false)) ∧ True) [(6, vb c)] [] ⟨ALe.bool e, ⟨⟩⟩ ?_
    exact Kn.R Fm (m c h)
 ·have h := br_f h k
  refine AW.SG0 Fm 2 [(0, vb a), (1, vb c), (14, vb (d == (2 : Int)))] [] ?_
  refine AW.cond (b := (d == (2 : Int))) (by kernel_rfl) (fun l => ?_) (fun l => ?_)
  ·have h := br_t h l
   refine AW.join (r := r) (fun z : Bool => ref04_keep_k1 F z) (fun z => [(6, vb z)]) (fun z => []) (fun y h => ?_) (fun q n => ?_)
   ·refine AW.ret ?_
    obtain rfl := Option.some.inj h
    exact Kn.D Fm
   ·rcases Bool.eq_false_or_eq_true a with i | i
    ·have h := br_t h i
     refine AW.G Fm [.s, .w (vb true), .s, .s, .s] (fun K => (ALe (vb a) (vb true)) ∧ True) [(6, vb c)] [] ⟨ALe.bool i, ⟨⟩⟩ ?_
     exact Kn.R Fm (n c h)
    ·have h := br_f h i
     refine AW.G Fm [.s, .w (vb false), .s, .s, .s] (fun K => (ALe (vb a) (vb false)) ∧ True) [(6, vb false)] [] ⟨ALe.bool i, ⟨⟩⟩ ?_
     exact Kn.R Fm (n false h)
  ·have h := br_f h l
   refine AW.skip ?_
   refine AW.join (r := r) (fun z : Bool => ref04_keep_k2 F z) (fun z => [(6, vb z)]) (fun z => []) (fun A h => ?_) (fun t o => ?_)
   ·refine AW.ret ?_
    obtain rfl := Option.some.inj h
    exact Kn.D Fm
   ·rcases Bool.eq_false_or_eq_true a with j | j
    ·have h := br_t h j
     refine AW.G Fm [.s, .w (vb true), .s, .s, .s, .s] (fun K => (ALe (vb a) (vb true)) ∧ True) [(6, vb (!c))] [] ⟨ALe.bool j, ⟨⟩⟩ ?_
     exact Kn.R Fm (o (!c) h)
    ·have h := br_f h j
     refine AW.G Fm [.s, .w (vb false), .s, .s, .s, .s] (fun K => (ALe (vb a) (vb false)) ∧ True) [(6, vb false)] [] ⟨ALe.bool j, ⟨⟩⟩ ?_
     exact Kn.R Fm (o false h)
theorem ref04_same_spec {F : Nat} {d : (List Rect)} {e : (List Rect)} {r : Bool} (h : ref04_same F d e = some r) :
  FSpec Tryz.prog 122 [AL d, AL e] [] (vb r) [] := by
 refine FSpec.intro prog_mixed prog_lay Tryz.func122 rfl (by kernel_rfl) fun C Fm => ?_
 unfold ref04_same at h
 refine AW.SG0 Fm 1 [(0, AL d), (1, AL e)] [] ?_
 refine AW.seq ?_
 refine AW.SG0 Fm 5 [(0, AL d), (1, AL e), (10, vb (((List.length d : Nat) : Int) != ((List.length e : Nat) : Int)))] [] ?_
 refine AW.cond (b := (((List.length d : Nat) : Int) != ((List.length e : Nat) : Int))) (by kernel_rfl) (fun j => ?_) (fun j => ?_)
 ·have h := br_t h j
  refine AW.SG0 Fm 1 [(4, vb false)] [] ?_
  refine AW.ret ?_
  obtain rfl := Option.some.inj h
  exact Kn.D Fm
 ·have h := br_f h j
  refine AW.skip ?_
  refine AW.join (r := r) (fun z : Unit => ref04_same_k2 F) (fun z => []) (fun z => []) (fun z h => ?_) (fun I t => ?_)
  ·refine AW.SG0 Fm 1 [(4, vb true)] [] ?_
   refine AW.ret ?_
   obtain rfl := Option.some.inj h
   exact Kn.D Fm
  ·refine AW.SG0 Fm 3 [(0, AL d), (1, AL e), (12, vi ((List.length d : Nat) : Int)), (13, vi (0 : Int))] [] ?_
   refine AW.block ?_
   refine Kn.r Fm [(0, AL d), (1, AL e), (12, vi ((List.length d : Nat) : Int)), (13, vi (0 : Int))] [] (by kernel_rfl) ?_
   refine AW.loopF (E' := fun z => [(0, AL d), (1, AL e), (12, vi ((List.length d : Nat) : Int)), (13, vi z)]) (S' := fun z => []) (fun p a E q h => ?_) h
   refine AW.SG0 Fm 1 [(0, AL d), (1, AL e), (12, vi ((List.length d : Nat) : Int)), (13, vi a), (14, vb (decide (a < ((List.length d : Nat) : Int))))] [] ?_
   refine AW.seq ?_
   refine AW.cond (b := (decide (a < ((List.length d : Nat) : Int)))) (by kernel_rfl) (fun k => ?_) (fun k => ?_)
   ·have h := br_t h k
    refine AW.skip ?_
    refine AW.seq ?_
    refine AW.block ?_
    refine AW.SG0 Fm 2 [(0, AL d), (1, AL e), (5, vi a), (12, vi ((List.length d : Nat) : Int)), (13, vi a)] [] ?_
    refine AW.join (r := r) (fun z : Bool => ref04_same_k1 F a p z) (fun z => [(0, AL d), (1, AL e), (12, vi ((List.length d : Nat) : Int)), (13, vi a), (39, vb z)]) (fun z => []) (fun B h => ?_) (fun H m => ?_)
    ·refine AW.cond (b := B) (by kernel_rfl) (fun l => ?_) (fun l => ?_)
     ·have h := br_t h l
      refine AW.SG0 Fm 1 [(4, vb false)] [] ?_
      refine AW.ret ?_
      obtain rfl := Option.some.inj h
      exact Kn.D Fm
     ·have h := br_f h l
      refine AW.skip ?_
      obtain ⟨A, h⟩ := gd_some h
      refine AW.G Fm [.s, .s] (fun K => (I64 (a + (1 : Int)) ∧ True) ∧ True) [(0, AL d), (1, AL e), (12, vi ((List.length d : Nat) : Int)), (13, vi (a + (1 : Int)))] [] ⟨⟨A, ⟨⟩⟩, ⟨⟩⟩ ?_
      exact Kn.R Fm (q (a + (1 : Int)) h)
    ·obtain ⟨n, h⟩ := gd_some h
     obtain ⟨o, h⟩ := gd_some h
     rcases Bool.eq_false_or_eq_true (((gl d a.toNat).left_) != ((gl e a.toNat).left_)) with i | i
     ·have h := br_t h i
      refine AW.G Fm [.s, .s, .s, .s, .s, .s, .s, .s, .s, .s, .s, .w (vb true), .s, .s, .s, .s, .s, .s, .s, .s, .s, .s, .s, .s] (fun K => _ ∧ _ ∧ (ALe (vb (((gl d a.toNat).left_) != ((gl e a.toNat).left_))) (vb true)) ∧ True) [(0, AL d), (1, AL e), (12, vi ((List.length d : Nat) : Int)), (13, vi a), (39, vb true)] [] ⟨n, o, ALe.bool i, ⟨⟩⟩ ?_
      exact Kn.R Fm (m true h)
     ·have h := br_f h i
      obtain ⟨u, h⟩ := gd_some h
      obtain ⟨y, h⟩ := gd_some h
      refine AW.G Fm [.s, .s, .s, .s, .s, .s, .s, .s, .s, .s, .s, .w (vb false), .s, .s, .s, .s, .s, .s, .s, .s, .s, .s, .s, .s] (fun K => _ ∧ _ ∧ (ALe (vb (((gl d a.toNat).left_) != ((gl e a.toNat).left_))) (vb false)) ∧ _ ∧ _ ∧ True) [(0, AL d), (1, AL e), (12, vi ((List.length d : Nat) : Int)), (13, vi a), (28, AL d), (29, vi a), (30, .v (.c (.elm [.int .i64 (gl d a.toNat).left_, .int .i64 (gl d a.toNat).low_, .int .i64 (gl d a.toNat).right_, .int .i64 (gl d a.toNat).high_]))), (31, .v (.c (.elm [.int .i64 (gl d a.toNat).right_, .int .i64 (gl d a.toNat).high_]))), (32, vi (gl d a.toNat).right_), (33, AL e), (34, vi a), (35, .v (.c (.elm [.int .i64 (gl e a.toNat).left_, .int .i64 (gl e a.toNat).low_, .int .i64 (gl e a.toNat).right_, .int .i64 (gl e a.toNat).high_]))), (36, .v (.c (.elm [.int .i64 (gl e a.toNat).right_, .int .i64 (gl e a.toNat).high_]))), (37, vi (gl e a.toNat).right_), (38, vb (((gl d a.toNat).right_) != ((gl e a.toNat).right_))), (39, vb (((gl d a.toNat).right_) != ((gl e a.toNat).right_)))] [] ⟨n, o, ALe.bool i, u, y, ⟨⟩⟩ ?_
      exact Kn.R Fm (m (((gl d a.toNat).right_) != ((gl e a.toNat).right_)) h)
   ·have h := br_f h k
    refine AW.exit ?_
    exact Kn.R Fm (t () h)
theorem ref04_Combine_spec {F : Nat} {a : (List Rect)} {e : (List Rect)} {q : Int} {r : (List Rect)} (h : ref04_Combine F a e q = some r) :
  FSpec Tryz.prog 64 [AL a, AL e, vi q] [] (AL (α := Rect) r) [] := by
 refine FSpec.intro prog_mixed prog_lay Tryz.func64 rfl (by kernel_rfl) fun C Fm => ?_
 unfold ref04_Combine at h
 refine AW.SG0 Fm 1 [(0, AL a), (1, AL e), (2, vi q)] [] ?_
 refine AW.SG Fm [.m, .m] (fun K => True) [(0, AL a), (1, AL e), (2, vi q), (7, ow 7), (8, ow 8)] [(7, .arr 1 (0) (fun _ => [])), (8, .arr 1 (0) (fun _ => []))] True.intro ?_
 refine Kn.wk [(0, AL a), (1, AL e), (2, vi q), (7, ow 7), (8, ow 8)] [(7, AO (α := Int) ([] : List Int)), (8, AO (α := Int) ([] : List Int))] (FE.refl _) (⟨rfl, OLe.is ((Is.nil (α := Int))), ⟨rfl, OLe.is ((Is.nil (α := Int))), ⟨⟩⟩⟩) ?_
 refine AW.join (r := r) (fun z : (List Int) × (List Int) => ref04_Combine_k3 F a e q z.1 z.2) (fun z => [(0, AL a), (1, AL e), (2, vi q), (7, AL z.1), (8, AL z.2)]) (fun z => []) (fun z h => ?_) (fun i2 O0 => ?_)
 ·obtain ⟨o, l⟩ := z
  refine AW.SG Fm [.m, .m] (fun K => True) [(0, AL a), (1, AL e), (2, vi q), (7, AL o), (8, AL l), (13, ow 13), (14, ow 14)] [(13, .arr 4 (0) (fun _ => [])), (14, .arr 4 (0) (fun _ => []))] True.intro ?_
  refine Kn.wk [(0, AL a), (1, AL e), (2, vi q), (7, AL o), (8, AL l), (13, ow 13), (14, ow 14)] [(13, AO (α := Rect) ([] : List Rect)), (14, AO (α := Rect) ([] : List Rect))] (FE.refl _) (⟨rfl, OLe.is ((Is.nil (α := Rect))), ⟨rfl, OLe.is ((Is.nil (α := Rect))), ⟨⟩⟩⟩) ?_
  refine AW.join (r := r) (fun z : (List Rect) × (List Rect) => ref04_Combine_k14 F z.1 z.2) (fun z => [(13, ow 13), (14, ow 14)]) (fun z => [(13, AO z.1), (14, AO z.2)]) (fun z h => ?_) (fun u2 X0 => ?_)
  ·obtain ⟨M, I⟩ := z
   obtain ⟨L1, h⟩ := gd_some h
   refine AW.SG Fm [.s, .s, .s, .s] (fun K => ((List.length (α := Rect) M) + (List.length (α := Rect) I) ≤ LIM ∧ (∀ j, j < List.length (α := Rect) I → ((LF (α := Rect) I) j).length = 4) ∧ (True)) ∧ True) [(6, ow 176)] [(176, .arr 4 ((List.length (α := Rect) M) + (List.length (α := Rect) I)) (appF (List.length (α := Rect) M) (LF (α := Rect) M) (LF (α := Rect) I)))] ⟨⟨L1, (Is.refl I : Is (List.length (α := Rect) I) (LF (α := Rect) I) I).len, ⟨⟩⟩, ⟨⟩⟩ ?_
   refine Kn.wk [(6, ow 176)] [(176, AO (α := Rect) (M ++ I))] (FE.refl _) (⟨rfl, OLe.is (Is.app (Is.refl M) (Is.refl I)), ⟨⟩⟩) ?_
   refine AW.ret ?_
   obtain rfl := Option.some.inj h
   refine Kn.r Fm [(6, ow 176)] [(176, AO (α := Rect) (M ++ I))] (by kernel_rfl) ?_
   refine Kn.frz [(6, AL (α := Rect) (M ++ I))] [] (by kernel_rfl) (by kernel_rfl) (by kernel_rfl) ?_
   exact Kn.D Fm
  ·refine AW.SG0 Fm 1 [(0, AL a), (1, AL e), (2, vi q), (7, AL o), (8, AL l), (13, ow 13), (14, ow 14), (15, vi (0 : Int))] [(13, AO (α := Rect) ([] : List Rect)), (14, AO (α := Rect) ([] : List Rect))] ?_
   refine AW.block ?_
   refine Kn.r Fm [(0, AL a), (1, AL e), (2, vi q), (7, AL o), (8, AL l), (13, ow 13), (14, ow 14), (15, vi (0 : Int))] [(13, AO ([] : List Rect)), (14, AO ([] : List Rect))] (by kernel_rfl) ?_
   refine AW.loopF (E' := fun z => [(0, AL a), (1, AL e), (2, vi q), (7, AL o), (8, AL l), (13, ow 13), (14, ow 14), (15, vi z.1)]) (S' := fun z => [(13, AO z.2.1), (14, AO z.2.2)]) (fun P z j2 P0 h => ?_) h
   obtain ⟨i, y, t⟩ := z
   refine AW.seq ?_
   obtain ⟨c1, h⟩ := gd_some h
   refine AW.SG Fm [.s, .s, .s, .s, .s] (fun K => (I64 (i + (1 : Int)) ∧ True) ∧ True) [(0, AL a), (1, AL e), (2, vi q), (7, AL o), (8, AL l), (13, ow 13), (14, ow 14), (15, vi i), (54, vb (decide ((i + (1 : Int)) < ((List.length l : Nat) : Int))))] [(13, AO y), (14, AO t)] ⟨⟨c1, ⟨⟩⟩, ⟨⟩⟩ ?_
   refine AW.cond (b := (decide ((i + (1 : Int)) < ((List.length l : Nat) : Int)))) (by kernel_rfl) (fun d0 => ?_) (fun d0 => ?_)
   ·have h := br_t h d0
    refine AW.skip ?_
    refine AW.join (r := r) (fun z : (List Rect) × (List Rect) => ref04_Combine_k13 F i P z.1 z.2) (fun z => [(0, AL a), (1, AL e), (2, vi q), (7, AL o), (8, AL l), (13, ow 13), (14, ow 14), (15, vi i)]) (fun z => [(13, AO z.1), (14, AO z.2)]) (fun z h => ?_) (fun t2 u0 => ?_)
    ·obtain ⟨H0, I0⟩ := z
     obtain ⟨K1, h⟩ := gd_some h
     refine AW.G Fm [.s, .s, .s] (fun K => (I64 (i + (1 : Int)) ∧ True) ∧ True) [(0, AL a), (1, AL e), (2, vi q), (7, AL o), (8, AL l), (13, ow 13), (14, ow 14), (15, vi (i + (1 : Int)))] [(13, AO H0), (14, AO I0)] ⟨⟨K1, ⟨⟩⟩, ⟨⟩⟩ ?_
     exact Kn.R Fm (P0 ((i + (1 : Int)), H0, I0) h)
    ·refine AW.block ?_
     refine AW.SG Fm [.m] (fun K => True) [(0, AL a), (1, AL e), (2, vi q), (7, AL o), (8, AL l), (13, ow 13), (14, ow 14), (15, vi i), (16, ow 16)] [(13, AO y), (14, AO t), (16, .arr 4 (0) (fun _ => []))] True.intro ?_
     refine Kn.wk [(0, AL a), (1, AL e), (2, vi q), (7, AL o), (8, AL l), (13, ow 13), (14, ow 14), (15, vi i), (16, ow 16)] [(13, AO y), (14, AO t), (16, AO (α := Rect) ([] : List Rect))] (FE.refl _) (⟨rfl, OLe.refl _, ⟨rfl, OLe.refl _, ⟨rfl, OLe.is ((Is.nil (α := Rect))), ⟨⟩⟩⟩⟩) ?_
     refine AW.join (r := r) (fun z : (List Rect) => ref04_Combine_k8 F l i y t P z) (fun z => [(0, AL a), (1, AL e), (2, vi q), (7, AL o), (8, AL l), (13, ow 13), (14, ow 14), (15, vi i), (16, ow 16)]) (fun z => [(13, AO y), (14, AO t), (16, AO z)]) (fun H h => ?_) (fun n2 T0 => ?_)
     ·refine AW.join (r := r) (fun z : Unit => ref04_Combine_k12 F i y t H P) (fun z => [(0, AL a), (1, AL e), (2, vi q), (7, AL o), (8, AL l), (13, ow 13), (14, ow 14), (15, vi i), (16, ow 16)]) (fun z => [(13, AO y), (14, AO t), (16, AO H)]) (fun z h => ?_) (fun s2 W0 => ?_)
      ·obtain ⟨I1, h⟩ := gd_some h
       refine AW.SG Fm [.s, .s, .s, .s] (fun K => ((List.length (α := Rect) y) + (List.length (α := Rect) t) ≤ LIM ∧ (∀ j, j < List.length (α := Rect) t → ((LF (α := Rect) t) j).length = 4) ∧ (True)) ∧ True) [(0, AL a), (1, AL e), (2, vi q), (7, AL o), (8, AL l), (13, ow 172), (15, vi i), (16, ow 16)] [(16, AO H), (172, .arr 4 ((List.length (α := Rect) y) + (List.length (α := Rect) t)) (appF (List.length (α := Rect) y) (LF (α := Rect) y) (LF (α := Rect) t)))] ⟨⟨I1, (Is.refl t : Is (List.length (α := Rect) t) (LF (α := Rect) t) t).len, ⟨⟩⟩, ⟨⟩⟩ ?_
       refine Kn.wk [(0, AL a), (1, AL e), (2, vi q), (7, AL o), (8, AL l), (13, ow 172), (15, vi i), (16, ow 16)] [(16, AO H), (172, AO (α := Rect) (y ++ t))] (FE.refl _) (⟨rfl, OLe.refl _, ⟨rfl, OLe.is (Is.app (Is.refl y) (Is.refl t)), ⟨⟩⟩⟩) ?_
       refine AW.G0 Fm 2 [(0, AL a), (1, AL e), (2, vi q), (7, AL o), (8, AL l), (13, ow 172), (14, ow 16), (15, vi i)] [(16, AO H), (172, AO (α := Rect) (y ++ t))] ?_
       exact Kn.RE Fm [(13, 172), (14, 16)] (u0 ((y ++ t), H) h)
      ·refine AW.join (r := r) (fun z : Bool => ref04_Combine_k9 F l i y t H P z) (fun z => [(0, AL a), (1, AL e), (2, vi q), (7, AL o), (8, AL l), (13, ow 13), (14, ow 14), (15, vi i), (16, ow 16), (154, vb z)]) (fun z => [(13, AO y), (14, AO t), (16, AO H)]) (fun W1 h => ?_) (fun o2 a0 => ?_)
       ·refine AW.cond (b := W1) (by kernel_rfl) (fun k0 => ?_) (fun k0 => ?_)
        ·have h := br_t h k0
         refine AW.join (r := r) (fun z : (List Rect) => ref04_Combine_k11 F i y P z) (fun z => [(0, AL a), (1, AL e), (2, vi q), (7, AL o), (8, AL l), (13, ow 13), (14, ow 14), (15, vi i)]) (fun z => [(13, AO y), (14, AO z)]) (fun X1 h => ?_) (fun q2 V0 => ?_)
         ·refine AW.exit ?_
          exact Kn.R Fm (u0 (y, X1) h)
         ·refine AW.SG0 Fm 3 [(0, AL a), (1, AL e), (2, vi q), (7, AL o), (8, AL l), (13, ow 13), (14, ow 14), (15, vi i), (156, vi ((List.length t : Nat) : Int)), (157, vi (0 : Int))] [(13, AO y), (14, AO t)] ?_
          refine AW.block ?_
          refine Kn.r Fm [(0, AL a), (1, AL e), (2, vi q), (7, AL o), (8, AL l), (13, ow 13), (14, ow 14), (15, vi i), (156, vi ((List.length t : Nat) : Int)), (157, vi (0 : Int))] [(13, AO y), (14, AO t)] (by kernel_rfl) ?_
          refine AW.loopF (E' := fun z => [(0, AL a), (1, AL e), (2, vi q), (7, AL o), (8, AL l), (13, ow 13), (14, ow 14), (15, vi i), (156, vi ((List.length t : Nat) : Int)), (157, vi z.1)]) (S' := fun z => [(13, AO y), (14, AO z.2)]) (fun y2 z p2 U0 h => ?_) h
          obtain ⟨B, E⟩ := z
          refine AW.SG0 Fm 1 [(0, AL a), (1, AL e), (2, vi q), (7, AL o), (8, AL l), (13, ow 13), (14, ow 14), (15, vi i), (156, vi ((List.length t : Nat) : Int)), (157, vi B), (158, vb (decide (B < ((List.length t : Nat) : Int))))] [(13, AO y), (14, AO E)] ?_
          refine AW.seq ?_
          refine AW.cond (b := (decide (B < ((List.length t : Nat) : Int)))) (by kernel_rfl) (fun l0 => ?_) (fun l0 => ?_)
          ·have h := br_t h l0
           refine AW.skip ?_
           refine AW.seq ?_
           refine AW.block ?_
           refine AW.SG0 Fm 2 [(0, AL a), (1, AL e), (2, vi q), (7, AL o), (8, AL l), (13, ow 13), (14, ow 14), (15, vi i), (19, vi B), (156, vi ((List.length t : Nat) : Int)), (157, vi B)] [(13, AO y), (14, AO E)] ?_
           obtain ⟨E1, h⟩ := gd_some h
           obtain ⟨G1, h⟩ := gd_some h
           obtain ⟨n0, h⟩ := gd_some h
           refine AW.G Fm [.s, .s, .s, .s, .s, .s, .s, .s, .s, .s] (fun K => (I64 (i + (1 : Int)) ∧ True) ∧ _ ∧ _ ∧ (B.toNat < List.length E) ∧ True) [(0, AL a), (1, AL e), (2, vi q), (7, AL o), (8, AL l), (13, ow 13), (14, ow 14), (15, vi i), (156, vi ((List.length t : Nat) : Int)), (157, vi B)] [(13, AO y), (14, .arr 4 (List.length (α := Rect) E) (fun j => if j = B.toNat then splice ((LF (α := Rect) E) B.toNat) 3 [.int .i64 (gl l (i + (1 : Int)).toNat)] else (LF (α := Rect) E) j))] ⟨⟨E1, ⟨⟩⟩, G1, n0, (toNat_lt n0), ⟨⟩⟩ ?_
           refine Kn.wk [(0, AL a), (1, AL e), (2, vi q), (7, AL o), (8, AL l), (13, ow 13), (14, ow 14), (15, vi i), (156, vi ((List.length t : Nat) : Int)), (157, vi B)] [(13, AO y), (14, AO (α := Rect) (List.set E B.toNat (⟨(gl E B.toNat).left_, (gl E B.toNat).low_, (gl E B.toNat).right_, (gl l (i + (1 : Int)).toNat)⟩ : Rect)))] (FE.refl _) (⟨rfl, OLe.refl _, ⟨rfl, OLe.is (Is.set (Is.refl E) (toNat_lt n0) (⟨(gl E B.toNat).left_, (gl E B.toNat).low_, (gl E B.toNat).right_, (gl l (i + (1 : Int)).toNat)⟩ : Rect) (by kernel_rfl)), ⟨⟩⟩⟩) ?_
           obtain ⟨H1, h⟩ := gd_some h
           refine AW.G Fm [.s, .s] (fun K => (I64 (B + (1 : Int)) ∧ True) ∧ True) [(0, AL a), (1, AL e), (2, vi q), (7, AL o), (8, AL l), (13, ow 13), (14, ow 14), (15, vi i), (156, vi ((List.length t : Nat) : Int)), (157, vi (B + (1 : Int)))] [(13, AO y), (14, AO (α := Rect) (List.set E B.toNat (⟨(gl E B.toNat).left_, (gl E B.toNat).low_, (gl E B.toNat).right_, (gl l (i + (1 : Int)).toNat)⟩ : Rect)))] ⟨⟨H1, ⟨⟩⟩, ⟨⟩⟩ ?_
           exact Kn.R Fm (U0 ((B + (1 : Int)), (List.set E B.toNat (⟨(gl E B.toNat).left_, (gl E B.toNat).low_, (gl E B.toNat).right_, (gl l (i + (1 : Int)).toNat)⟩ : Rect))) h)
          ·have h := br_f h l0
           refine AW.exit ?_
           exact Kn.R Fm (V0 E h)
        ·have h := br_f h k0
         refine AW.skip ?_
         exact Kn.R Fm (W0 () h)
       ·rcases Bool.eq_false_or_eq_true (decide ((0 : Int) < ((List.length t : Nat) : Int))) with O | O
        ·have h := br_t h O
         obtain ⟨N, A0, h⟩ := bd_some h
         rcases Bool.eq_false_or_eq_true N with U | U
         ·have h := br_t h U
          obtain ⟨y0, h⟩ := gd_some h
          obtain ⟨D1, h⟩ := gd_some h
          refine AW.G Fm [.s, .s, .s, .w (vb true), .s, .s, .k (sE (vb N)), .s, .w (vb true), .s, .s, .s, .s, .s, .s, .s, .s, .s, .s] (fun K => (ALe (vb (decide ((0 : Int) < ((List.length t : Nat) : Int)))) (vb true)) ∧ K 6 ∧ (ALe (vb N) (vb true)) ∧ _ ∧ ((0 : Int).toNat < List.length t) ∧ _ ∧ True) [(0, AL a), (1, AL e), (2, vi q), (7, AL o), (8, AL l), (13, ow 13), (14, ow 14), (15, vi i), (16, ow 16), (140, ow 14), (141, ow 16), (142, vb N), (145, ow 14), (146, .v (.c (.pte 14 4 ((0 : Int).toNat) 0))), (147, .v (.c (.pte 14 4 ((0 : Int).toNat) 3))), (148, vi (gl t (0 : Int).toNat).high_), (149, AL l), (150, vi i), (151, .v (.c (.elm [.int .i64 (gl l i.toNat)]))), (152, vi (gl l i.toNat)), (153, vb (((gl t (0 : Int).toNat).high_) == (gl l i.toNat))), (154, vb (((gl t (0 : Int).toNat).high_) == (gl l i.toNat)))] [(13, AO y), (14, AO t), (16, AO H)] ⟨ALe.bool O, KAt.callBX (ref04_same_spec A0) Tryz.call122 [14, 16] [.tmp 140, .tmp 141] rfl (by kernel_rfl) (by kernel_rfl) ⟨ArgB.own 14 (es := 4) (n := List.length t) (f := LF t) (by kernel_rfl) (by kernel_rfl) (by kernel_rfl) (by kernel_rfl), ArgB.own 16 (es := 4) (n := List.length H) (f := LF H) (by kernel_rfl) (by kernel_rfl) (by kernel_rfl) (by kernel_rfl), ⟨⟩⟩, ALe.bool U, y0, (toNat_lt y0), D1, ⟨⟩⟩ ?_
          exact Kn.R Fm (a0 (((gl t (0 : Int).toNat).high_) == (gl l i.toNat)) h)
         ·have h := br_f h U
          refine AW.G Fm [.s, .s, .s, .w (vb true), .s, .s, .k (sE (vb N)), .s, .w (vb false), .s, .s, .s, .s, .s, .s, .s, .s, .s, .s] (fun K => (ALe (vb (decide ((0 : Int) < ((List.length t : Nat) : Int)))) (vb true)) ∧ K 6 ∧ (ALe (vb N) (vb false)) ∧ True) [(0, AL a), (1, AL e), (2, vi q), (7, AL o), (8, AL l), (13, ow 13), (14, ow 14), (15, vi i), (16, ow 16), (140, ow 14), (141, ow 16), (142, vb N), (154, vb false)] [(13, AO y), (14, AO t), (16, AO H)] ⟨ALe.bool O, KAt.callBX (ref04_same_spec A0) Tryz.call122 [14, 16] [.tmp 140, .tmp 141] rfl (by kernel_rfl) (by kernel_rfl) ⟨ArgB.own 14 (es := 4) (n := List.length t) (f := LF t) (by kernel_rfl) (by kernel_rfl) (by kernel_rfl) (by kernel_rfl), ArgB.own 16 (es := 4) (n := List.length H) (f := LF H) (by kernel_rfl) (by kernel_rfl) (by kernel_rfl) (by kernel_rfl), ⟨⟩⟩, ALe.bool U, ⟨⟩⟩ ?_
          exact Kn.R Fm (a0 false h)
        ·have h := br_f h O
         refine AW.G Fm [.s, .s, .s, .w (vb false), .s, .s, .s, .s, .s, .s, .s, .s, .s, .s, .s, .s, .s, .s, .s] (fun K => (ALe (vb (decide ((0 : Int) < ((List.length t : Nat) : Int)))) (vb false)) ∧ True) [(0, AL a), (1, AL e), (2, vi q), (7, AL o), (8, AL l), (13, ow 13), (14, ow 14), (15, vi i), (16, ow 16), (154, vb false)] [(13, AO y), (14, AO t), (16, AO H)] ⟨ALe.bool O, ⟨⟩⟩ ?_
         exact Kn.R Fm (a0 false h)
     ·refine AW.SG0 Fm 1 [(0, AL a), (1, AL e), (2, vi q), (7, AL o), (8, AL l), (13, ow 13), (14, ow 14), (15, vi i), (16, ow 16), (17, vi (0 : Int))] [(13, AO y), (14, AO t), (16, AO (α := Rect) ([] : List Rect))] ?_
      refine AW.block ?_
      refine Kn.r Fm [(0, AL a), (1, AL e), (2, vi q), (7, AL o), (8, AL l), (13, ow 13), (14, ow 14), (15, vi i), (16, ow 16), (17, vi (0 : Int))] [(13, AO y), (14, AO t), (16, AO ([] : List Rect))] (by kernel_rfl) ?_
      refine AW.loopF (E' := fun z => [(0, AL a), (1, AL e), (2, vi q), (7, AL o), (8, AL l), (13, ow 13), (14, ow 14), (15, vi i), (16, ow 16), (17, vi z.1)]) (S' := fun z => [(13, AO y), (14, AO t), (16, AO z.2)]) (fun s0 z k2 R0 h => ?_) h
      obtain ⟨u, p⟩ := z
      refine AW.seq ?_
      obtain ⟨d1, h⟩ := gd_some h
      refine AW.SG Fm [.s, .s, .s, .s, .s] (fun K => (I64 (u + (1 : Int)) ∧ True) ∧ True) [(0, AL a), (1, AL e), (2, vi q), (7, AL o), (8, AL l), (13, ow 13), (14, ow 14), (15, vi i), (16, ow 16), (17, vi u), (61, vb (decide ((u + (1 : Int)) < ((List.length o : Nat) : Int))))] [(13, AO y), (14, AO t), (16, AO p)] ⟨⟨d1, ⟨⟩⟩, ⟨⟩⟩ ?_
      refine AW.cond (b := (decide ((u + (1 : Int)) < ((List.length o : Nat) : Int)))) (by kernel_rfl) (fun e0 => ?_) (fun e0 => ?_)
      ·have h := br_t h e0
       refine AW.skip ?_
       refine AW.join (r := r) (fun z : (List Rect) => ref04_Combine_k7 F u s0 z) (fun z => [(0, AL a), (1, AL e), (2, vi q), (7, AL o), (8, AL l), (13, ow 13), (14, ow 14), (15, vi i), (16, ow 16), (17, vi u)]) (fun z => [(13, AO y), (14, AO t), (16, AO z)]) (fun E0 h => ?_) (fun m2 Z => ?_)
       ·obtain ⟨B1, h⟩ := gd_some h
        refine AW.G Fm [.s, .s, .s] (fun K => (I64 (u + (1 : Int)) ∧ True) ∧ True) [(0, AL a), (1, AL e), (2, vi q), (7, AL o), (8, AL l), (13, ow 13), (14, ow 14), (15, vi i), (16, ow 16), (17, vi (u + (1 : Int)))] [(13, AO y), (14, AO t), (16, AO E0)] ⟨⟨B1, ⟨⟩⟩, ⟨⟩⟩ ?_
        exact Kn.R Fm (R0 ((u + (1 : Int)), E0) h)
       ·refine AW.block ?_
        refine AW.seq ?_
        refine AW.seq ?_
        obtain ⟨e1, h⟩ := gd_some h
        obtain ⟨i1, h⟩ := gd_some h
        obtain ⟨a2, R1, h⟩ := bd_some h
        obtain ⟨j1, h⟩ := gd_some h
        obtain ⟨k1, h⟩ := gd_some h
        obtain ⟨b2, T1, h⟩ := bd_some h
        obtain ⟨q0, U1, h⟩ := bd_some h
        refine AW.G Fm [.s, .s, .s, .s, .s, .s, .s, .s, .s, .k (cE [] [] (vb a2) [] []), .s, .s, .s, .s, .s, .s, .s, .s, .s, .k (cE [] [] (vb b2) [] []), .s, .k (cE [] [] (vb q0) [] []), .s] (fun K => _ ∧ _ ∧ K 9 ∧ _ ∧ _ ∧ K 19 ∧ K 21 ∧ True) [(0, AL a), (1, AL e), (2, vi q), (7, AL o), (8, AL l), (13, ow 13), (14, ow 14), (15, vi i), (16, ow 16), (17, vi u), (86, vb (!q0))] [(13, AO y), (14, AO t), (16, AO p)] ⟨e1, i1, KAt.CC (ref04_inside_spec R1) Tryz.call77 [], j1, k1, KAt.CC (ref04_inside_spec T1) Tryz.call77 [], KAt.CC (ref04_keep_spec U1) Tryz.call121 [], ⟨⟩⟩ ?_
        refine AW.cond (b := (!q0)) (by kernel_rfl) (fun i0 => ?_) (fun i0 => ?_)
        ·have h := br_t h i0
         refine AW.exit ?_
         exact Kn.R Fm (Z p h)
        ·have h := br_f h i0
         refine AW.skip ?_
         refine AW.SG0 Fm 3 [(0, AL a), (1, AL e), (2, vi q), (7, AL o), (8, AL l), (13, ow 13), (14, ow 14), (15, vi i), (16, ow 16), (17, vi u), (18, vi ((List.length p : Nat) : Int))] [(13, AO y), (14, AO t), (16, AO p)] ?_
         refine AW.join (r := r) (fun z : Bool => ref04_Combine_k6 F o l i u p s0 z) (fun z => [(0, AL a), (1, AL e), (2, vi q), (7, AL o), (8, AL l), (13, ow 13), (14, ow 14), (15, vi i), (16, ow 16), (17, vi u), (18, vi ((List.length p : Nat) : Int)), (103, vb z)]) (fun z => [(13, AO y), (14, AO t), (16, AO p)]) (fun V1 h => ?_) (fun l2 t0 => ?_)
         ·refine AW.cond (b := V1) (by kernel_rfl) (fun j0 => ?_) (fun j0 => ?_)
          ·have h := br_t h j0
           obtain ⟨n1, h⟩ := gd_some h
           obtain ⟨o1, h⟩ := gd_some h
           obtain ⟨p1, h⟩ := gd_some h
           obtain ⟨m0, h⟩ := gd_some h
           refine AW.G Fm [.s, .s, .s, .s, .s, .s, .s, .s, .s, .s, .s] (fun K => (I64 (((List.length p : Nat) : Int) - (1 : Int)) ∧ True) ∧ (I64 (u + (1 : Int)) ∧ True) ∧ _ ∧ _ ∧ ((((List.length p : Nat) : Int) - (1 : Int)).toNat < List.length p) ∧ True) [(0, AL a), (1, AL e), (2, vi q), (7, AL o), (8, AL l), (13, ow 13), (14, ow 14), (15, vi i), (16, ow 16), (17, vi u)] [(13, AO y), (14, AO t), (16, .arr 4 (List.length (α := Rect) p) (fun j => if j = (((List.length p : Nat) : Int) - (1 : Int)).toNat then splice ((LF (α := Rect) p) (((List.length p : Nat) : Int) - (1 : Int)).toNat) 2 [.int .i64 (gl o (u + (1 : Int)).toNat)] else (LF (α := Rect) p) j))] ⟨⟨n1, ⟨⟩⟩, ⟨o1, ⟨⟩⟩, p1, m0, (toNat_lt m0), ⟨⟩⟩ ?_
           refine Kn.wk [(0, AL a), (1, AL e), (2, vi q), (7, AL o), (8, AL l), (13, ow 13), (14, ow 14), (15, vi i), (16, ow 16), (17, vi u)] [(13, AO y), (14, AO t), (16, AO (α := Rect) (List.set p (((List.length p : Nat) : Int) - (1 : Int)).toNat (⟨(gl p (((List.length p : Nat) : Int) - (1 : Int)).toNat).left_, (gl p (((List.length p : Nat) : Int) - (1 : Int)).toNat).low_, (gl o (u + (1 : Int)).toNat), (gl p (((List.length p : Nat) : Int) - (1 : Int)).toNat).high_⟩ : Rect)))] (FE.refl _) (⟨rfl, OLe.refl _, ⟨rfl, OLe.refl _, ⟨rfl, OLe.is (Is.set (Is.refl p) (toNat_lt m0) (⟨(gl p (((List.length p : Nat) : Int) - (1 : Int)).toNat).left_, (gl p (((List.length p : Nat) : Int) - (1 : Int)).toNat).low_, (gl o (u + (1 : Int)).toNat), (gl p (((List.length p : Nat) : Int) - (1 : Int)).toNat).high_⟩ : Rect) (by kernel_rfl)), ⟨⟩⟩⟩⟩) ?_
           exact Kn.R Fm (Z (List.set p (((List.length p : Nat) : Int) - (1 : Int)).toNat (⟨(gl p (((List.length p : Nat) : Int) - (1 : Int)).toNat).left_, (gl p (((List.length p : Nat) : Int) - (1 : Int)).toNat).low_, (gl o (u + (1 : Int)).toNat), (gl p (((List.length p : Nat) : Int) - (1 : Int)).toNat).high_⟩ : Rect)) h)
          ·have h := br_f h j0
           obtain ⟨q1, h⟩ := gd_some h
           obtain ⟨s1, h⟩ := gd_some h
           obtain ⟨t1, h⟩ := gd_some h
           obtain ⟨u1, h⟩ := gd_some h
           obtain ⟨w1, h⟩ := gd_some h
           obtain ⟨y1, h⟩ := gd_some h
           obtain ⟨A1, h⟩ := gd_some h
           refine AW.G Fm [.s, .s, .s, .s, .s, .s, .s, .s, .s, .s, .s, .s, .s, .s, .s, .s, .s, .s, .s, .s, .w (AL (α := Rect) ([(⟨(gl o u.toNat), (gl l i.toNat), (gl o (u + (1 : Int)).toNat), (gl l (i + (1 : Int)).toNat)⟩ : Rect)] : List Rect)), .s, .s] (fun K => _ ∧ _ ∧ (I64 (u + (1 : Int)) ∧ True) ∧ _ ∧ (I64 (i + (1 : Int)) ∧ True) ∧ _ ∧ (ALe (.v (.c (.d (.lst 1 (litF 4 [.int .i64 (gl o u.toNat), .int .i64 (gl l i.toNat), .int .i64 (gl o (u + (1 : Int)).toNat), .int .i64 (gl l (i + (1 : Int)).toNat)]))))) (AL (α := Rect) ([(⟨(gl o u.toNat), (gl l i.toNat), (gl o (u + (1 : Int)).toNat), (gl l (i + (1 : Int)).toNat)⟩ : Rect)] : List Rect))) ∧ ((List.length (α := Rect) p) + (List.length (α := Rect) ([(⟨(gl o u.toNat), (gl l i.toNat), (gl o (u + (1 : Int)).toNat), (gl l (i + (1 : Int)).toNat)⟩ : Rect)] : List Rect)) ≤ LIM ∧ (∀ j, j < List.length (α := Rect) ([(⟨(gl o u.toNat), (gl l i.toNat), (gl o (u + (1 : Int)).toNat), (gl l (i + (1 : Int)).toNat)⟩ : Rect)] : List Rect) → ((LF (α := Rect) ([(⟨(gl o u.toNat), (gl l i.toNat), (gl o (u + (1 : Int)).toNat), (gl l (i + (1 : Int)).toNat)⟩ : Rect)] : List Rect)) j).length = 4) ∧ (True)) ∧ True) [(0, AL a), (1, AL e), (2, vi q), (7, AL o), (8, AL l), (13, ow 13), (14, ow 14), (15, vi i), (16, ow 135), (17, vi u)] [(13, AO y), (14, AO t), (135, .arr 4 ((List.length (α := Rect) p) + (List.length (α := Rect) ([(⟨(gl o u.toNat), (gl l i.toNat), (gl o (u + (1 : Int)).toNat), (gl l (i + (1 : Int)).toNat)⟩ : Rect)] : List Rect))) (appF (List.length (α := Rect) p) (LF (α := Rect) p) (LF (α := Rect) ([(⟨(gl o u.toNat), (gl l i.toNat), (gl o (u + (1 : Int)).toNat), (gl l (i + (1 : Int)).toNat)⟩ : Rect)] : List Rect))))] ⟨q1, s1, ⟨t1, ⟨⟩⟩, u1, ⟨w1, ⟨⟩⟩, y1, ALe.lst (.lit ([(⟨(gl o u.toNat), (gl l i.toNat), (gl o (u + (1 : Int)).toNat), (gl l (i + (1 : Int)).toNat)⟩ : Rect)] : List Rect) (by kernel_rfl)), ⟨A1, (Is.refl ([(⟨(gl o u.toNat), (gl l i.toNat), (gl o (u + (1 : Int)).toNat), (gl l (i + (1 : Int)).toNat)⟩ : Rect)] : List Rect) : Is (List.length (α := Rect) ([(⟨(gl o u.toNat), (gl l i.toNat), (gl o (u + (1 : Int)).toNat), (gl l (i + (1 : Int)).toNat)⟩ : Rect)] : List Rect)) (LF (α := Rect) ([(⟨(gl o u.toNat), (gl l i.toNat), (gl o (u + (1 : Int)).toNat), (gl l (i + (1 : Int)).toNat)⟩ : Rect)] : List Rect)) ([(⟨(gl o u.toNat), (gl l i.toNat), (gl o (u + (1 : Int)).toNat), (gl l (i + (1 : Int)).toNat)⟩ : Rect)] : List Rect)).len, ⟨⟩⟩, ⟨⟩⟩ ?_
           refine Kn.wk [(0, AL a), (1, AL e), (2, vi q), (7, AL o), (8, AL l), (13, ow 13), (14, ow 14), (15, vi i), (16, ow 135), (17, vi u)] [(13, AO y), (14, AO t), (135, AO (α := Rect) (p ++ ([(⟨(gl o u.toNat), (gl l i.toNat), (gl o (u + (1 : Int)).toNat), (gl l (i + (1 : Int)).toNat)⟩ : Rect)] : List Rect)))] (FE.refl _) (⟨rfl, OLe.refl _, ⟨rfl, OLe.refl _, ⟨rfl, OLe.is (Is.app (Is.refl p) (Is.refl ([(⟨(gl o u.toNat), (gl l i.toNat), (gl o (u + (1 : Int)).toNat), (gl l (i + (1 : Int)).toNat)⟩ : Rect)] : List Rect))), ⟨⟩⟩⟩⟩) ?_
           exact Kn.RE Fm [(16, 135)] (Z (p ++ ([(⟨(gl o u.toNat), (gl l i.toNat), (gl o (u + (1 : Int)).toNat), (gl l (i + (1 : Int)).toNat)⟩ : Rect)] : List Rect)) h)
         ·rcases Bool.eq_false_or_eq_true (decide ((0 : Int) < ((List.length p : Nat) : Int))) with T | T
          ·have h := br_t h T
           obtain ⟨l1, h⟩ := gd_some h
           obtain ⟨w0, h⟩ := gd_some h
           obtain ⟨m1, h⟩ := gd_some h
           refine AW.G Fm [.s, .s, .w (vb true), .s, .s, .s, .s, .s, .s, .s, .s, .s, .s, .s, .s] (fun K => (ALe (vb (decide ((0 : Int) < ((List.length p : Nat) : Int)))) (vb true)) ∧ (I64 (((List.length p : Nat) : Int) - (1 : Int)) ∧ True) ∧ _ ∧ ((((List.length p : Nat) : Int) - (1 : Int)).toNat < List.length p) ∧ _ ∧ True) [(0, AL a), (1, AL e), (2, vi q), (7, AL o), (8, AL l), (13, ow 13), (14, ow 14), (15, vi i), (16, ow 16), (17, vi u), (18, vi ((List.length p : Nat) : Int)), (92, ow 16), (93, vi ((List.length p : Nat) : Int)), (94, vi (((List.length p : Nat) : Int) - (1 : Int))), (95, .v (.c (.pte 16 4 ((((List.length p : Nat) : Int) - (1 : Int)).toNat) 0))), (96, .v (.c (.pte 16 4 ((((List.length p : Nat) : Int) - (1 : Int)).toNat) 2))), (97, vi (gl p (((List.length p : Nat) : Int) - (1 : Int)).toNat).right_), (98, AL o), (99, vi u), (100, .v (.c (.elm [.int .i64 (gl o u.toNat)]))), (101, vi (gl o u.toNat)), (102, vb (((gl p (((List.length p : Nat) : Int) - (1 : Int)).toNat).right_) == (gl o u.toNat))), (103, vb (((gl p (((List.length p : Nat) : Int) - (1 : Int)).toNat).right_) == (gl o u.toNat)))] [(13, AO y), (14, AO t), (16, AO p)] ⟨ALe.bool T, ⟨l1, ⟨⟩⟩, w0, (toNat_lt w0), m1, ⟨⟩⟩ ?_
           exact Kn.R Fm (t0 (((gl p (((List.length p : Nat) : Int) - (1 : Int)).toNat).right_) == (gl o u.toNat)) h)
          ·have h := br_f h T
           refine AW.G Fm [.s, .s, .w (vb false), .s, .s, .s, .s, .s, .s, .s, .s, .s, .s, .s, .s] (fun K => (ALe (vb (decide ((0 : Int) < ((List.length p : Nat) : Int)))) (vb false)) ∧ True) [(0, AL a), (1, AL e), (2, vi q), (7, AL o), (8, AL l), (13, ow 13), (14, ow 14), (15, vi i), (16, ow 16), (17, vi u), (18, vi ((List.length p : Nat) : Int)), (103, vb false)] [(13, AO y), (14, AO t), (16, AO p)] ⟨ALe.bool T, ⟨⟩⟩ ?_
           exact Kn.R Fm (t0 false h)
      ·have h := br_f h e0
       refine AW.exit ?_
       exact Kn.R Fm (T0 p h)
   ·have h := br_f h d0
    refine AW.exit ?_
    exact Kn.R Fm (X0 (y, t) h)
 ·refine AW.SG Fm [.s, .s, .w (AL (α := (List Rect)) ([a, e] : List (List Rect))), .s, .s] (fun K => (ALe (.v (.c (.d (.lst 2 (litF 1 [DL a, DL e]))))) (AL (α := (List Rect)) ([a, e] : List (List Rect)))) ∧ True) [(0, AL a), (1, AL e), (2, vi q), (7, ow 7), (8, ow 8), (22, AL (α := (List Rect)) ([a, e] : List (List Rect))), (23, vi ((List.length ([a, e] : List (List Rect)) : Nat) : Int)), (24, vi (0 : Int))] [(7, AO (α := Int) ([] : List Int)), (8, AO (α := Int) ([] : List Int))] ⟨ALe.lst (.lit ([a, e] : List (List Rect)) (by kernel_rfl)), ⟨⟩⟩ ?_
  refine AW.block ?_
  refine Kn.r Fm [(0, AL a), (1, AL e), (2, vi q), (7, ow 7), (8, ow 8), (22, AL (α := (List Rect)) ([a, e] : List (List Rect))), (23, vi ((List.length ([a, e] : List (List Rect)) : Nat) : Int)), (24, vi (0 : Int))] [(7, AO (α := Int) ([] : List Int)), (8, AO (α := Int) ([] : List Int))] (by kernel_rfl) ?_
  refine Kn.frz [(0, AL a), (1, AL e), (2, vi q), (7, AL (α := Int) ([] : List Int)), (8, ow 8), (22, AL (α := (List Rect)) ([a, e] : List (List Rect))), (23, vi ((List.length ([a, e] : List (List Rect)) : Nat) : Int)), (24, vi (0 : Int))] [(8, AO (α := Int) ([] : List Int))] (by kernel_rfl) (by kernel_rfl) (by kernel_rfl) ?_
  refine Kn.r Fm [(0, AL a), (1, AL e), (2, vi q), (7, AL (α := Int) ([] : List Int)), (8, ow 8), (22, AL (α := (List Rect)) ([a, e] : List (List Rect))), (23, vi ((List.length ([a, e] : List (List Rect)) : Nat) : Int)), (24, vi (0 : Int))] [(8, AO (α := Int) ([] : List Int))] (by kernel_rfl) ?_
  refine Kn.frz [(0, AL a), (1, AL e), (2, vi q), (7, AL (α := Int) ([] : List Int)), (8, AL (α := Int) ([] : List Int)), (22, AL (α := (List Rect)) ([a, e] : List (List Rect))), (23, vi ((List.length ([a, e] : List (List Rect)) : Nat) : Int)), (24, vi (0 : Int))] [] (by kernel_rfl) (by kernel_rfl) (by kernel_rfl) ?_
  refine Kn.r Fm [(0, AL a), (1, AL e), (2, vi q), (7, AL ([] : List Int)), (8, AL ([] : List Int)), (22, AL (α := (List Rect)) ([a, e] : List (List Rect))), (23, vi ((List.length ([a, e] : List (List Rect)) : Nat) : Int)), (24, vi (0 : Int))] [] (by kernel_rfl) ?_
  refine AW.loopF (E' := fun z => [(0, AL a), (1, AL e), (2, vi q), (7, AL z.1), (8, AL z.2.1), (22, AL (α := (List Rect)) ([a, e] : List (List Rect))), (23, vi ((List.length ([a, e] : List (List Rect)) : Nat) : Int)), (24, vi z.2.2)]) (S' := fun z => []) (fun K0 z c2 L0 h => ?_) h
  obtain ⟨V, W, A⟩ := z
  refine AW.SG0 Fm 1 [(0, AL a), (1, AL e), (2, vi q), (7, AL V), (8, AL W), (22, AL (α := (List Rect)) ([a, e] : List (List Rect))), (23, vi ((List.length ([a, e] : List (List Rect)) : Nat) : Int)), (24, vi A), (25, vb (decide (A < ((List.length ([a, e] : List (List Rect)) : Nat) : Int))))] [] ?_
  refine AW.seq ?_
  refine AW.cond (b := (decide (A < ((List.length ([a, e] : List (List Rect)) : Nat) : Int)))) (by kernel_rfl) (fun b0 => ?_) (fun b0 => ?_)
  ·have h := br_t h b0
   refine AW.skip ?_
   refine AW.join (r := r) (fun z : (List Int) × (List Int) => ref04_Combine_k2 F A K0 z.1 z.2) (fun z => [(0, AL a), (1, AL e), (2, vi q), (7, AL z.1), (8, AL z.2), (22, AL (α := (List Rect)) ([a, e] : List (List Rect))), (23, vi ((List.length ([a, e] : List (List Rect)) : Nat) : Int)), (24, vi A)]) (fun z => []) (fun z h => ?_) (fun e2 N0 => ?_)
   ·obtain ⟨B0, D0⟩ := z
    obtain ⟨b1, h⟩ := gd_some h
    refine AW.G Fm [.s, .s] (fun K => (I64 (A + (1 : Int)) ∧ True) ∧ True) [(0, AL a), (1, AL e), (2, vi q), (7, AL B0), (8, AL D0), (22, AL (α := (List Rect)) ([a, e] : List (List Rect))), (23, vi ((List.length ([a, e] : List (List Rect)) : Nat) : Int)), (24, vi (A + (1 : Int)))] [] ⟨⟨b1, ⟨⟩⟩, ⟨⟩⟩ ?_
    exact Kn.R Fm (L0 (B0, D0, (A + (1 : Int))) h)
   ·refine AW.block ?_
    obtain ⟨Y0, h⟩ := gd_some h
    refine AW.SG Fm [.s, .s, .s] (fun K => _ ∧ True) [(0, AL a), (1, AL e), (2, vi q), (7, AL V), (8, AL W), (10, AL (α := Rect) (gl ([a, e] : List (List Rect)) A.toNat)), (22, AL (α := (List Rect)) ([a, e] : List (List Rect))), (23, vi ((List.length ([a, e] : List (List Rect)) : Nat) : Int)), (24, vi A)] [] ⟨Y0, ⟨⟩⟩ ?_
    refine AW.SG0 Fm 3 [(0, AL a), (1, AL e), (2, vi q), (7, AL V), (8, AL W), (22, AL (α := (List Rect)) ([a, e] : List (List Rect))), (23, vi ((List.length ([a, e] : List (List Rect)) : Nat) : Int)), (24, vi A), (28, AL (α := Rect) (gl ([a, e] : List (List Rect)) A.toNat)), (29, vi ((List.length (gl ([a, e] : List (List Rect)) A.toNat) : Nat) : Int)), (30, vi (0 : Int))] [] ?_
    refine AW.block ?_
    refine Kn.r Fm [(0, AL a), (1, AL e), (2, vi q), (7, AL V), (8, AL W), (22, AL (α := (List Rect)) ([a, e] : List (List Rect))), (23, vi ((List.length ([a, e] : List (List Rect)) : Nat) : Int)), (24, vi A), (28, AL (α := Rect) (gl ([a, e] : List (List Rect)) A.toNat)), (29, vi ((List.length (gl ([a, e] : List (List Rect)) A.toNat) : Nat) : Int)), (30, vi (0 : Int))] [] (by kernel_rfl) ?_
    refine AW.loopF (E' := fun z => [(0, AL a), (1, AL e), (2, vi q), (7, AL z.1), (8, AL z.2.1), (22, AL (α := (List Rect)) ([a, e] : List (List Rect))), (23, vi ((List.length ([a, e] : List (List Rect)) : Nat) : Int)), (24, vi A), (28, AL (α := Rect) (gl ([a, e] : List (List Rect)) A.toNat)), (29, vi ((List.length (gl ([a, e] : List (List Rect)) A.toNat) : Nat) : Int)), (30, vi z.2.2)]) (S' := fun z => []) (fun w2 z d2 M0 h => ?_) h
    obtain ⟨o0, p0, L⟩ := z
    refine AW.SG0 Fm 1 [(0, AL a), (1, AL e), (2, vi q), (7, AL o0), (8, AL p0), (22, AL (α := (List Rect)) ([a, e] : List (List Rect))), (23, vi ((List.length ([a, e] : List (List Rect)) : Nat) : Int)), (24, vi A), (28, AL (α := Rect) (gl ([a, e] : List (List Rect)) A.toNat)), (29, vi ((List.length (gl ([a, e] : List (List Rect)) A.toNat) : Nat) : Int)), (30, vi L), (31, vb (decide (L < ((List.length (gl ([a, e] : List (List Rect)) A.toNat) : Nat) : Int))))] [] ?_
    refine AW.seq ?_
    refine AW.cond (b := (decide (L < ((List.length (gl ([a, e] : List (List Rect)) A.toNat) : Nat) : Int)))) (by kernel_rfl) (fun c0 => ?_) (fun c0 => ?_)
    ·have h := br_t h c0
     refine AW.skip ?_
     refine AW.seq ?_
     refine AW.block ?_
     obtain ⟨Z0, h⟩ := gd_some h
     refine AW.SG Fm [.s, .s, .s, .s] (fun K => _ ∧ True) [(0, AL a), (1, AL e), (2, vi q), (7, AL o0), (8, AL p0), (12, pt 12), (22, AL (α := (List Rect)) ([a, e] : List (List Rect))), (23, vi ((List.length ([a, e] : List (List Rect)) : Nat) : Int)), (24, vi A), (28, AL (α := Rect) (gl ([a, e] : List (List Rect)) A.toNat)), (29, vi ((List.length (gl ([a, e] : List (List Rect)) A.toNat) : Nat) : Int)), (30, vi L)] [(12, bx [ci ((gl (gl ([a, e] : List (List Rect)) A.toNat) L.toNat).left_), ci ((gl (gl ([a, e] : List (List Rect)) A.toNat) L.toNat).low_), ci ((gl (gl ([a, e] : List (List Rect)) A.toNat) L.toNat).right_), ci ((gl (gl ([a, e] : List (List Rect)) A.toNat) L.toNat).high_)])] ⟨Z0, ⟨⟩⟩ ?_
     obtain ⟨Y1, M1, h⟩ := bd_some h
     obtain ⟨X, N1, h⟩ := bd_some h
     obtain ⟨Z1, O1, h⟩ := bd_some h
     obtain ⟨Y, P1, h⟩ := bd_some h
     refine AW.G Fm [.s, .s, .s, .k (cE [] [] (AL Y1) [] []), .s, .s, .k (cE [] [] (AL X) [] []), .s, .s, .s, .k (cE [] [] (AL Z1) [] []), .s, .s, .k (cE [] [] (AL Y) [] []), .s, .s] (fun K => K 3 ∧ K 6 ∧ K 10 ∧ K 13 ∧ True) [(0, AL a), (1, AL e), (2, vi q), (7, AL X), (8, AL Y), (22, AL (α := (List Rect)) ([a, e] : List (List Rect))), (23, vi ((List.length ([a, e] : List (List Rect)) : Nat) : Int)), (24, vi A), (28, AL (α := Rect) (gl ([a, e] : List (List Rect)) A.toNat)), (29, vi ((List.length (gl ([a, e] : List (List Rect)) A.toNat) : Nat) : Int)), (30, vi L)] [] ⟨KAt.CC (ref01_Put_spec M1) Tryz.call120 [], KAt.CC (ref01_Put_spec N1) Tryz.call120 [], KAt.CC (ref01_Put_spec O1) Tryz.call120 [], KAt.CC (ref01_Put_spec P1) Tryz.call120 [], ⟨⟩⟩ ?_
     obtain ⟨a1, h⟩ := gd_some h
     refine AW.G Fm [.s, .s] (fun K => (I64 (L + (1 : Int)) ∧ True) ∧ True) [(0, AL a), (1, AL e), (2, vi q), (7, AL X), (8, AL Y), (22, AL (α := (List Rect)) ([a, e] : List (List Rect))), (23, vi ((List.length ([a, e] : List (List Rect)) : Nat) : Int)), (24, vi A), (28, AL (α := Rect) (gl ([a, e] : List (List Rect)) A.toNat)), (29, vi ((List.length (gl ([a, e] : List (List Rect)) A.toNat) : Nat) : Int)), (30, vi (L + (1 : Int)))] [] ⟨⟨a1, ⟨⟩⟩, ⟨⟩⟩ ?_
     exact Kn.R Fm (M0 (X, Y, (L + (1 : Int))) h)
    ·have h := br_f h c0
     refine AW.exit ?_
     exact Kn.R Fm (N0 (o0, p0) h)
  ·have h := br_f h b0
   refine AW.exit ?_
   exact Kn.R Fm (O0 (V, W) h)
theorem ref04_Bound_spec {F : Nat} {a : (List Rect)} {r : Region × Int} (h : ref04_Bound F a = some r) :
  FSpec Tryz.prog 67 [AL a] [] (.t [.g [.d (DL (α := Rect) r.1.rects_)], .c (ci r.2)]) [] := by
 refine FSpec.intro prog_mixed prog_lay Tryz.func67 rfl (by kernel_rfl) fun C Fm => ?_
 unfold ref04_Bound at h
 refine AW.SG0 Fm 2 [(0, AL a), (2, pt 2)] [(2, bx [.fl 0 fun _ => []])] ?_
 refine AW.seq ?_
 refine AW.SG0 Fm 3 [(0, AL a), (2, pt 2), (6, vb (decide ((120 : Int) < ((List.length a : Nat) : Int))))] [(2, bx [.fl 0 fun _ => []])] ?_
 refine AW.cond (b := (decide ((120 : Int) < ((List.length a : Nat) : Int)))) (by kernel_rfl) (fun e => ?_) (fun e => ?_)
 ·have h := br_t h e
  refine AW.SG Fm [.w (.v (.g [.d (DL (α := Rect) [])])), .s, .s] (fun K => (ALe (.v (.g [.fl 0 fun _ => []])) (.v (.g [.d (DL (α := Rect) [])]))) ∧ True) [(2, pt 2), (3, vi (1 : Int))] [(2, bx [.d (DL (α := Rect) [])])] ⟨ALe.g ⟨CLe.fl .nil, ⟨⟩⟩, ⟨⟩⟩ ?_
  refine AW.ret ?_
  obtain rfl := Option.some.inj h
  exact Kn.D Fm
 ·have h := br_f h e
  refine AW.skip ?_
  refine AW.SG0 Fm 4 [(2, pt 2), (3, vi (0 : Int))] [(2, bx [.d (DL a)])] ?_
  refine AW.ret ?_
  obtain rfl := Option.some.inj h
  exact Kn.D Fm
theorem ref04_Of_spec {F : Nat} {a : (List Rect)} {r : Region × Int} (h : ref04_Of F a = some r) :
  FSpec Tryz.prog 18 [AL a] [] (.t [.g [.d (DL (α := Rect) r.1.rects_)], .c (ci r.2)]) [] := by
 refine FSpec.intro prog_mixed prog_lay Tryz.func18 rfl (by kernel_rfl) fun C Fm => ?_
 unfold ref04_Of at h
 refine AW.SG0 Fm 2 [(0, AL a), (2, pt 2)] [(2, bx [.fl 0 fun _ => []])] ?_
 refine AW.seq ?_
 refine AW.SG0 Fm 3 [(0, AL a), (2, pt 2), (8, vb (decide ((120 : Int) < ((List.length a : Nat) : Int))))] [(2, bx [.fl 0 fun _ => []])] ?_
 refine AW.cond (b := (decide ((120 : Int) < ((List.length a : Nat) : Int)))) (by kernel_rfl) (fun j => ?_) (fun j => ?_)
 ·have h := br_t h j
  refine AW.SG Fm [.w (.v (.g [.d (DL (α := Rect) [])])), .s, .s] (fun K => (ALe (.v (.g [.fl 0 fun _ => []])) (.v (.g [.d (DL (α := Rect) [])]))) ∧ True) [(2, pt 2), (3, vi (1 : Int))] [(2, bx [.d (DL (α := Rect) [])])] ⟨ALe.g ⟨CLe.fl .nil, ⟨⟩⟩, ⟨⟩⟩ ?_
  refine AW.ret ?_
  obtain rfl := Option.some.inj h
  exact Kn.D Fm
 ·have h := br_f h j
  refine AW.skip ?_
  refine AW.join (r := r) (fun z : Unit => ref04_Of_k1 F a) (fun z => [(0, AL a), (2, pt 2)]) (fun z => [(2, bx [.fl 0 fun _ => []])]) (fun z h => ?_) (fun L q => ?_)
  ·refine AW.seq ?_
   obtain ⟨H, B, h⟩ := bd_some h
   obtain ⟨i, E, h⟩ := bd_some h
   refine AW.G Fm [.s, .k (cE [] [] (AL H) [] []), .k (cE [] [] (.t [.g [.d (DL i.1.rects_)], .c (ci i.2)]) [] []), .s, .s, .s, .s] (fun K => K 1 ∧ K 2 ∧ True) [(2, pt 2), (3, vi i.2)] [(2, bx [.d (DL i.1.rects_)])] ⟨KAt.callX (ref04_Combine_spec B) Tryz.call64 [] [] [.tmp 21, .const (.slice none 0 0), .const (.int .i64 1)] rfl (by kernel_rfl) (by kernel_rfl) (by kernel_rfl) ⟨.p, ArgT.plain (by kernel_rfl) (ALe.c (CLe.fl .nil)) (by kernel_rfl), .p, ⟨⟩⟩, KAt.CC (ref04_Bound_spec E) Tryz.call67 [], ⟨⟩⟩ ?_
   refine AW.ret ?_
   obtain rfl := Option.some.inj h
   exact Kn.D Fm
  ·refine AW.SG0 Fm 3 [(0, AL a), (2, pt 2), (10, AL a), (11, vi ((List.length a : Nat) : Int)), (12, vi (0 : Int))] [(2, bx [.fl 0 fun _ => []])] ?_
   refine AW.block ?_
   refine Kn.r Fm [(0, AL a), (2, pt 2), (10, AL a), (11, vi ((List.length a : Nat) : Int)), (12, vi (0 : Int))] [(2, bx [.fl 0 fun _ => []])] (by kernel_rfl) ?_
   refine AW.loopF (E' := fun z => [(0, AL a), (2, pt 2), (10, AL a), (11, vi ((List.length a : Nat) : Int)), (12, vi z)]) (S' := fun z => [(2, bx [.fl 0 fun _ => []])]) (fun M e I o h => ?_) h
   refine AW.SG0 Fm 1 [(0, AL a), (2, pt 2), (10, AL a), (11, vi ((List.length a : Nat) : Int)), (12, vi e), (13, vb (decide (e < ((List.length a : Nat) : Int))))] [(2, bx [.fl 0 fun _ => []])] ?_
   refine AW.seq ?_
   refine AW.cond (b := (decide (e < ((List.length a : Nat) : Int)))) (by kernel_rfl) (fun l => ?_) (fun l => ?_)
   ·have h := br_t h l
    refine AW.skip ?_
    refine AW.seq ?_
    refine AW.block ?_
    obtain ⟨u, h⟩ := gd_some h
    refine AW.SG Fm [.s, .s, .s, .s] (fun K => _ ∧ True) [(0, AL a), (2, pt 2), (5, pt 5), (10, AL a), (11, vi ((List.length a : Nat) : Int)), (12, vi e)] [(2, bx [.fl 0 fun _ => []]), (5, bx [ci ((gl a e.toNat).left_), ci ((gl a e.toNat).low_), ci ((gl a e.toNat).right_), ci ((gl a e.toNat).high_)])] ⟨u, ⟨⟩⟩ ?_
    refine AW.seq ?_
    obtain ⟨n, A, h⟩ := bd_some h
    refine AW.G Fm [.s, .k (cE [] [] (vb n) [] []), .s] (fun K => K 1 ∧ True) [(0, AL a), (2, pt 2), (10, AL a), (11, vi ((List.length a : Nat) : Int)), (12, vi e), (18, vb (!n))] [(2, bx [.fl 0 fun _ => []])] ⟨KAt.CC (ref04_proper_spec A) Tryz.call62 [], ⟨⟩⟩ ?_
    refine AW.cond (b := (!n)) (by kernel_rfl) (fun m => ?_) (fun m => ?_)
    ·have h := br_t h m
     refine AW.SG Fm [.w (.v (.g [.d (DL (α := Rect) [])])), .s, .s] (fun K => (ALe (.v (.g [.fl 0 fun _ => []])) (.v (.g [.d (DL (α := Rect) [])]))) ∧ True) [(2, pt 2), (3, vi (2 : Int))] [(2, bx [.d (DL (α := Rect) [])])] ⟨ALe.g ⟨CLe.fl .nil, ⟨⟩⟩, ⟨⟩⟩ ?_
     refine AW.ret ?_
     obtain rfl := Option.some.inj h
     exact Kn.D Fm
    ·have h := br_f h m
     refine AW.skip ?_
     obtain ⟨y, h⟩ := gd_some h
     refine AW.G Fm [.s, .s] (fun K => (I64 (e + (1 : Int)) ∧ True) ∧ True) [(0, AL a), (2, pt 2), (10, AL a), (11, vi ((List.length a : Nat) : Int)), (12, vi (e + (1 : Int)))] [(2, bx [.fl 0 fun _ => []])] ⟨⟨y, ⟨⟩⟩, ⟨⟩⟩ ?_
     exact Kn.R Fm (o (e + (1 : Int)) h)
   ·have h := br_f h l
    refine AW.exit ?_
    exact Kn.R Fm (q () h)
theorem keep_Tape_Region_spec {F : Nat} {o : Tape} {e : Int} {p : Int} {r : Tape × Region} (h : keep_Tape_Region F o e p = some r) :
  FSpec Tryz.prog 13 [pt 0, vi e, vi p] [(0, bx (gC o))] (.v (.g [.d (DL (α := Rect) r.2.rects_)])) [(0, bx (gC r.1))] := by
 refine FSpec.intro prog_mixed prog_lay Tryz.func13 rfl (by kernel_rfl) fun C Fm => ?_
 unfold keep_Tape_Region at h
 refine AW.SG0 Fm 1 [(0, pt 0), (1, vi e), (2, vi p), (6, pt 6)] [(0, bx (gC o)), (6, bx [.fl 0 fun _ => []])] ?_
 refine AW.SG Fm [.m] (fun K => True) [(0, pt 0), (1, vi e), (2, vi p), (6, pt 6), (7, ow 7)] [(0, bx (gC o)), (6, bx [.fl 0 fun _ => []]), (7, .arr 4 (0) (fun _ => []))] True.intro ?_
 refine Kn.wk [(0, pt 0), (1, vi e), (2, vi p), (6, pt 6), (7, ow 7)] [(0, bx (gC o)), (6, bx [.fl 0 fun _ => []]), (7, AO (α := Rect) ([] : List Rect))] (FE.refl _) (⟨rfl, OLe.refl _, ⟨rfl, OLe.refl _, ⟨rfl, OLe.is ((Is.nil (α := Rect))), ⟨⟩⟩⟩⟩) ?_
 refine AW.join (r := r) (fun z : (List Rect) × (List Int) × Int => keep_Tape_Region_k1 F z.1 z.2.1 z.2.2) (fun z => [(6, pt 6), (7, ow 7)]) (fun z => [(0, bx [.d (DL z.2.1), ci z.2.2]), (6, bx [.fl 0 fun _ => []]), (7, AO z.1)]) (fun z h => ?_) (fun W L => ?_)
 ·obtain ⟨H, y, A⟩ := z
  refine AW.seq ?_
  refine Kn.r Fm [(6, pt 6), (7, ow 7)] [(7, AO H), (0, bx [.d (DL y), ci A]), (6, bx [.fl 0 fun _ => []])] (by kernel_rfl) ?_
  refine Kn.frz [(6, pt 6), (7, AL H)] [(0, bx [.d (DL y), ci A]), (6, bx [.fl 0 fun _ => []])] (by kernel_rfl) (by kernel_rfl) (by kernel_rfl) ?_
  obtain ⟨B, U, h⟩ := bd_some h
  refine AW.G Fm [.s, .k (cE [] [] (.t [.g [.d (DL B.1.rects_)], .c (ci B.2)]) [] []), .s, .s, .s, .s, .s, .s] (fun K => K 1 ∧ True) [(6, pt 6), (9, pt 9)] [(0, bx [.d (DL y), ci A]), (6, bx [.fl 0 fun _ => []]), (9, bx [.d (DL B.1.rects_)])] ⟨KAt.CC (ref04_Of_spec U) Tryz.call18 [], ⟨⟩⟩ ?_
  refine AW.SG0 Fm 2 [(6, pt 6)] [(0, bx [.d (DL y), ci A]), (6, bx [.d (DL B.1.rects_)])] ?_
  refine AW.ret ?_
  obtain rfl := Option.some.inj h
  exact Kn.D Fm
 ·refine AW.seq ?_
  obtain ⟨M, h⟩ := gd_some h
  obtain ⟨n, P, h⟩ := bd_some h
  refine AW.G Fm [.s, .s, .s, .k (cE [(0, 0)] [] (vi n.2) [(0, bx (gC o))] [(0, bx (gC n.1))]), .s] (fun K => (I64 (p + (1 : Int)) ∧ True) ∧ K 3 ∧ True) [(0, pt 0), (1, vi e), (6, pt 6), (7, ow 7), (8, vi n.2)] [(0, bx (gC n.1)), (6, bx [.fl 0 fun _ => []]), (7, AO (α := Rect) ([] : List Rect))] ⟨⟨M, ⟨⟩⟩, KAt.CC (keep_Tape_Next_spec P) Tryz.call30 [(0, 0)], ⟨⟩⟩ ?_
  refine AW.block ?_
  refine Kn.r Fm [(0, pt 0), (1, vi e), (6, pt 6), (7, ow 7), (8, vi n.2)] [(0, bx [.d (DL n.1.l_), ci n.1.at_]), (6, bx [.fl 0 fun _ => []]), (7, AO ([] : List Rect))] (by kernel_rfl) ?_
  refine AW.loopF (E' := fun z => [(0, pt 0), (1, vi e), (6, pt 6), (7, ow 7), (8, vi z.1)]) (S' := fun z => [(0, bx [.d (DL z.2.1), ci z.2.2.1]), (6, bx [.fl 0 fun _ => []]), (7, AO z.2.2.2)]) (fun X z V I h => ?_) h
  obtain ⟨l, q, u, i⟩ := z
  refine AW.seq ?_
  refine AW.SG0 Fm 2 [(0, pt 0), (1, vi e), (6, pt 6), (7, ow 7), (8, vi l), (16, vb (decide ((0 : Int) < l)))] [(0, bx [.d (DL q), ci u]), (6, bx [.fl 0 fun _ => []]), (7, AO i)] ?_
  refine AW.cond (b := (decide ((0 : Int) < l))) (by kernel_rfl) (fun E => ?_) (fun E => ?_)
  ·have h := br_t h E
   refine AW.skip ?_
   refine AW.seq ?_
   refine AW.block ?_
   obtain ⟨a, T, h⟩ := bd_some h
   obtain ⟨N, h⟩ := gd_some h
   refine AW.G Fm [.s, .s, .s, .k (cE [(0, 0)] [] (gE a.2) [(0, bx [.d (DL (α := Int) (⟨q, u⟩ : Tape).l_), ci ((⟨q, u⟩ : Tape).at_)])] [(0, bx (gC a.1))]), .w (AL (α := Rect) ([a.2] : List Rect)), .s, .s] (fun K => K 3 ∧ (ALe (.v (.c (.d (.lst 1 (litF 4 [.int .i64 a.2.left_, .int .i64 a.2.low_, .int .i64 a.2.right_, .int .i64 a.2.high_]))))) (AL (α := Rect) ([a.2] : List Rect))) ∧ ((List.length (α := Rect) i) + (List.length (α := Rect) ([a.2] : List Rect)) ≤ LIM ∧ (∀ j, j < List.length (α := Rect) ([a.2] : List Rect) → ((LF (α := Rect) ([a.2] : List Rect)) j).length = 4) ∧ (True)) ∧ True) [(0, pt 0), (1, vi e), (6, pt 6), (7, ow 24), (8, vi l)] [(0, bx (gC a.1)), (6, bx [.fl 0 fun _ => []]), (24, .arr 4 ((List.length (α := Rect) i) + (List.length (α := Rect) ([a.2] : List Rect))) (appF (List.length (α := Rect) i) (LF (α := Rect) i) (LF (α := Rect) ([a.2] : List Rect))))] ⟨KAt.CC (keep_Tape_Rect_spec T) Tryz.call54 [(0, 0)], ALe.lst (.lit ([a.2] : List Rect) (by kernel_rfl)), ⟨N, (Is.refl ([a.2] : List Rect) : Is (List.length (α := Rect) ([a.2] : List Rect)) (LF (α := Rect) ([a.2] : List Rect)) ([a.2] : List Rect)).len, ⟨⟩⟩, ⟨⟩⟩ ?_
   refine Kn.wk [(0, pt 0), (1, vi e), (6, pt 6), (7, ow 24), (8, vi l)] [(0, bx (gC a.1)), (6, bx [.fl 0 fun _ => []]), (24, AO (α := Rect) (i ++ ([a.2] : List Rect)))] (FE.refl _) (⟨rfl, OLe.refl _, ⟨rfl, OLe.refl _, ⟨rfl, OLe.is (Is.app (Is.refl i) (Is.refl ([a.2] : List Rect))), ⟨⟩⟩⟩⟩) ?_
   obtain ⟨O, h⟩ := gd_some h
   refine AW.G Fm [.s, .s, .s] (fun K => (I64 (l - (1 : Int)) ∧ True) ∧ True) [(0, pt 0), (1, vi e), (6, pt 6), (7, ow 24), (8, vi (l - (1 : Int)))] [(0, bx (gC a.1)), (6, bx [.fl 0 fun _ => []]), (24, AO (α := Rect) (i ++ ([a.2] : List Rect)))] ⟨⟨O, ⟨⟩⟩, ⟨⟩⟩ ?_
   exact Kn.RE Fm [(7, 24)] (I ((l - (1 : Int)), a.1.l_, a.1.at_, (i ++ ([a.2] : List Rect))) h)
  ·have h := br_f h E
   refine AW.exit ?_
   exact Kn.R Fm (L (i, q, u) h)
theorem ref04_Rects_spec {F : Nat} {c : (List Rect)} {d : (List Rect)} {r : Bool} (h : ref04_Rects F c d = some r) :
  FSpec Tryz.prog 63 [AL c, AL d] [] (vb r) [] := by
 refine FSpec.intro prog_mixed prog_lay Tryz.func63 rfl (by kernel_rfl) fun C Fm => ?_
 unfold ref04_Rects at h
 refine AW.SG0 Fm 1 [(0, AL c), (1, AL d)] [] ?_
 refine AW.seq ?_
 refine AW.SG0 Fm 5 [(0, AL c), (1, AL d), (10, vb (((List.length c : Nat) : Int) != ((List.length d : Nat) : Int)))] [] ?_
 refine AW.cond (b := (((List.length c : Nat) : Int) != ((List.length d : Nat) : Int))) (by kernel_rfl) (fun e => ?_) (fun e => ?_)
 ·have h := br_t h e
  refine AW.SG0 Fm 1 [(4, vb false)] [] ?_
  refine AW.ret ?_
  obtain rfl := Option.some.inj h
  exact Kn.D Fm
 ·have h := br_f h e
  refine AW.skip ?_
  refine AW.join (r := r) (fun z : Unit => ref04_Rects_k1 F) (fun z => []) (fun z => []) (fun z h => ?_) (fun t m => ?_)
  ·refine AW.SG0 Fm 1 [(4, vb true)] [] ?_
   refine AW.ret ?_
   obtain rfl := Option.some.inj h
   exact Kn.D Fm
  ·refine AW.SG0 Fm 3 [(0, AL c), (1, AL d), (12, vi ((List.length c : Nat) : Int)), (13, vi (0 : Int))] [] ?_
   refine AW.block ?_
   refine Kn.r Fm [(0, AL c), (1, AL d), (12, vi ((List.length c : Nat) : Int)), (13, vi (0 : Int))] [] (by kernel_rfl) ?_
   refine AW.loopF (E' := fun z => [(0, AL c), (1, AL d), (12, vi ((List.length c : Nat) : Int)), (13, vi z)]) (S' := fun z => []) (fun u a q l h => ?_) h
   refine AW.SG0 Fm 1 [(0, AL c), (1, AL d), (12, vi ((List.length c : Nat) : Int)), (13, vi a), (14, vb (decide (a < ((List.length c : Nat) : Int))))] [] ?_
   refine AW.seq ?_
   refine AW.cond (b := (decide (a < ((List.length c : Nat) : Int)))) (by kernel_rfl) (fun i => ?_) (fun i => ?_)
   ·have h := br_t h i
    refine AW.skip ?_
    refine AW.seq ?_
    refine AW.block ?_
    refine AW.SG0 Fm 2 [(0, AL c), (1, AL d), (5, vi a), (12, vi ((List.length c : Nat) : Int)), (13, vi a)] [] ?_
    obtain ⟨n, h⟩ := gd_some h
    obtain ⟨o, h⟩ := gd_some h
    refine AW.SG Fm [.s, .s, .s, .s, .s, .s, .s, .s, .k (sE (vb (!((((gl c a.toNat).left_) == ((gl d a.toNat).left_)) && ((((gl c a.toNat).low_) == ((gl d a.toNat).low_)) && ((((gl c a.toNat).right_) == ((gl d a.toNat).right_)) && ((((gl c a.toNat).high_) == ((gl d a.toNat).high_)) && true)))))))] (fun K => _ ∧ _ ∧ K 8 ∧ True) [(0, AL c), (1, AL d), (12, vi ((List.length c : Nat) : Int)), (13, vi a), (24, vb (!((((gl c a.toNat).left_) == ((gl d a.toNat).left_)) && ((((gl c a.toNat).low_) == ((gl d a.toNat).low_)) && ((((gl c a.toNat).right_) == ((gl d a.toNat).right_)) && ((((gl c a.toNat).high_) == ((gl d a.toNat).high_)) && true))))))] [] ⟨n, o, KAt.eq (xs := [ci ((gl c a.toNat).left_), ci ((gl c a.toNat).low_), ci ((gl c a.toNat).right_), ci ((gl c a.toNat).high_)]) (ys := [ci ((gl d a.toNat).left_), ci ((gl d a.toNat).low_), ci ((gl d a.toNat).right_), ci ((gl d a.toNat).high_)]) eqT73 false (b := ((((gl c a.toNat).left_) == ((gl d a.toNat).left_)) && ((((gl c a.toNat).low_) == ((gl d a.toNat).low_)) && ((((gl c a.toNat).right_) == ((gl d a.toNat).right_)) && ((((gl c a.toNat).high_) == ((gl d a.toNat).high_)) && true))))) rfl rfl (by kernel_rfl) (by kernel_rfl) (by kernel_rfl) (by kernel_rfl), ⟨⟩⟩ ?_
    refine AW.cond (b := (!((((gl c a.toNat).left_) == ((gl d a.toNat).left_)) && ((((gl c a.toNat).low_) == ((gl d a.toNat).low_)) && ((((gl c a.toNat).right_) == ((gl d a.toNat).right_)) && ((((gl c a.toNat).high_) == ((gl d a.toNat).high_)) && true)))))) (by kernel_rfl) (fun j => ?_) (fun j => ?_)
    ·have h := br_t h j
     refine AW.SG0 Fm 1 [(4, vb false)] [] ?_
     refine AW.ret ?_
     obtain rfl := Option.some.inj h
     exact Kn.D Fm
    ·have h := br_f h j
     refine AW.skip ?_
     obtain ⟨p, h⟩ := gd_some h
     refine AW.G Fm [.s, .s] (fun K => (I64 (a + (1 : Int)) ∧ True) ∧ True) [(0, AL c), (1, AL d), (12, vi ((List.length c : Nat) : Int)), (13, vi (a + (1 : Int)))] [] ⟨⟨p, ⟨⟩⟩, ⟨⟩⟩ ?_
     exact Kn.R Fm (l (a + (1 : Int)) h)
   ·have h := br_f h i
    refine AW.exit ?_
    exact Kn.R Fm (m () h)
theorem ref04_Valid_spec {F : Nat} {a : Region} {r : Bool} (h : ref04_Valid F a = some r) :
  FSpec Tryz.prog 15 [.v (.g [.d (DL a.rects_)])] [] (vb r) [] := by
 refine FSpec.intro prog_mixed prog_lay Tryz.func15 rfl (by kernel_rfl) fun C Fm => ?_
 unfold ref04_Valid at h
 refine AW.SG0 Fm 2 [(1, pt 1)] [(1, bx [.d (DL a.rects_)])] ?_
 refine AW.seq ?_
 refine AW.SG0 Fm 4 [(1, pt 1), (8, vb (decide ((120 : Int) < ((List.length a.rects_ : Nat) : Int))))] [(1, bx [.d (DL a.rects_)])] ?_
 refine AW.cond (b := (decide ((120 : Int) < ((List.length a.rects_ : Nat) : Int)))) (by kernel_rfl) (fun i => ?_) (fun i => ?_)
 ·have h := br_t h i
  refine AW.SG0 Fm 1 [(2, vb false)] [] ?_
  refine AW.ret ?_
  obtain rfl := Option.some.inj h
  exact Kn.D Fm
 ·have h := br_f h i
  refine AW.skip ?_
  refine AW.join (r := r) (fun z : Unit => ref04_Valid_k1 F a) (fun z => [(1, pt 1)]) (fun z => [(1, bx [.d (DL a.rects_)])]) (fun z h => ?_) (fun H q => ?_)
  ·refine AW.seq ?_
   obtain ⟨B, y, h⟩ := bd_some h
   obtain ⟨n, A, h⟩ := bd_some h
   refine AW.G Fm [.s, .s, .k (cE [] [] (AL B) [] []), .s, .s, .k (cE [] [] (vb n) [] []), .s] (fun K => K 2 ∧ K 5 ∧ True) [(2, vb n)] [] ⟨KAt.callX (ref04_Combine_spec y) Tryz.call64 [] [] [.tmp 21, .const (.slice none 0 0), .const (.int .i64 1)] rfl (by kernel_rfl) (by kernel_rfl) (by kernel_rfl) ⟨.p, ArgT.plain (by kernel_rfl) (ALe.c (CLe.fl .nil)) (by kernel_rfl), .p, ⟨⟩⟩, KAt.CC (ref04_Rects_spec A) Tryz.call63 [], ⟨⟩⟩ ?_
   refine AW.ret ?_
   obtain rfl := Option.some.inj h
   exact Kn.D Fm
  ·refine AW.SG0 Fm 4 [(1, pt 1), (10, AL a.rects_), (11, vi ((List.length a.rects_ : Nat) : Int)), (12, vi (0 : Int))] [(1, bx [.d (DL a.rects_)])] ?_
   refine AW.block ?_
   refine Kn.r Fm [(1, pt 1), (10, AL a.rects_), (11, vi ((List.length a.rects_ : Nat) : Int)), (12, vi (0 : Int))] [(1, bx [.d (DL a.rects_)])] (by kernel_rfl) ?_
   refine AW.loopF (E' := fun z => [(1, pt 1), (10, AL a.rects_), (11, vi ((List.length a.rects_ : Nat) : Int)), (12, vi z)]) (S' := fun z => [(1, bx [.d (DL a.rects_)])]) (fun I e E o h => ?_) h
   refine AW.SG0 Fm 1 [(1, pt 1), (10, AL a.rects_), (11, vi ((List.length a.rects_ : Nat) : Int)), (12, vi e), (13, vb (decide (e < ((List.length a.rects_ : Nat) : Int))))] [(1, bx [.d (DL a.rects_)])] ?_
   refine AW.seq ?_
   refine AW.cond (b := (decide (e < ((List.length a.rects_ : Nat) : Int)))) (by kernel_rfl) (fun j => ?_) (fun j => ?_)
   ·have h := br_t h j
    refine AW.skip ?_
    refine AW.seq ?_
    refine AW.block ?_
    obtain ⟨t, h⟩ := gd_some h
    refine AW.SG Fm [.s, .s, .s, .s] (fun K => _ ∧ True) [(1, pt 1), (4, pt 4), (10, AL a.rects_), (11, vi ((List.length a.rects_ : Nat) : Int)), (12, vi e)] [(1, bx [.d (DL a.rects_)]), (4, bx [ci ((gl a.rects_ e.toNat).left_), ci ((gl a.rects_ e.toNat).low_), ci ((gl a.rects_ e.toNat).right_), ci ((gl a.rects_ e.toNat).high_)])] ⟨t, ⟨⟩⟩ ?_
    refine AW.seq ?_
    obtain ⟨m, w, h⟩ := bd_some h
    refine AW.G Fm [.s, .k (cE [] [] (vb m) [] []), .s] (fun K => K 1 ∧ True) [(1, pt 1), (10, AL a.rects_), (11, vi ((List.length a.rects_ : Nat) : Int)), (12, vi e), (18, vb (!m))] [(1, bx [.d (DL a.rects_)])] ⟨KAt.CC (ref04_proper_spec w) Tryz.call62 [], ⟨⟩⟩ ?_
    refine AW.cond (b := (!m)) (by kernel_rfl) (fun l => ?_) (fun l => ?_)
    ·have h := br_t h l
     refine AW.SG0 Fm 1 [(2, vb false)] [] ?_
     refine AW.ret ?_
     obtain rfl := Option.some.inj h
     exact Kn.D Fm
    ·have h := br_f h l
     refine AW.skip ?_
     obtain ⟨u, h⟩ := gd_some h
     refine AW.G Fm [.s, .s] (fun K => (I64 (e + (1 : Int)) ∧ True) ∧ True) [(1, pt 1), (10, AL a.rects_), (11, vi ((List.length a.rects_ : Nat) : Int)), (12, vi (e + (1 : Int)))] [(1, bx [.d (DL a.rects_)])] ⟨⟨u, ⟨⟩⟩, ⟨⟩⟩ ?_
     exact Kn.R Fm (o (e + (1 : Int)) h)
   ·have h := br_f h j
    refine AW.exit ?_
    exact Kn.R Fm (q () h)
theorem slices_IndexFunc_Rect_spec {F : Nat} {a : (List Rect)} {e : Rect → Option Bool} {r : Int} (h : slices_IndexFunc_Rect F a e = some r) :
  FSpec Tryz.prog 155 [AL a, .v (.c (.sem (CloOK Tryz.prog (FR_Rect_Bool e))))] [] (vi r) [] := by
 refine FSpec.intro prog_mixed prog_lay Tryz.func155 rfl (by kernel_rfl) fun C Fm => ?_
 unfold slices_IndexFunc_Rect at h
 refine AW.SG0 Fm 1 [(0, AL a), (1, .v (.c (.sem (CloOK Tryz.prog (FR_Rect_Bool e)))))] [] ?_
 refine AW.join (r := r) (fun z : Unit => slices_IndexFunc_Rect_k1 F) (fun z => []) (fun z => []) (fun z h => ?_) (fun u n => ?_)
 ·refine AW.SG0 Fm 1 [(4, vi (-1 : Int))] [] ?_
  refine AW.ret ?_
  obtain rfl := Option.some.inj h
  exact Kn.D Fm
 ·refine AW.SG0 Fm 3 [(0, AL a), (1, .v (.c (.sem (CloOK Tryz.prog (FR_Rect_Bool e))))), (7, vi ((List.length a : Nat) : Int)), (8, vi (0 : Int))] [] ?_
  refine AW.block ?_
  refine Kn.r Fm [(0, AL a), (1, .v (.c (.sem (CloOK Tryz.prog (FR_Rect_Bool e))))), (7, vi ((List.length a : Nat) : Int)), (8, vi (0 : Int))] [] (by kernel_rfl) ?_
  refine AW.loopF (E' := fun z => [(0, AL a), (1, .v (.c (.sem (CloOK Tryz.prog (FR_Rect_Bool e))))), (7, vi ((List.length a : Nat) : Int)), (8, vi z)]) (S' := fun z => []) (fun w d t m h => ?_) h
  refine AW.SG0 Fm 1 [(0, AL a), (1, .v (.c (.sem (CloOK Tryz.prog (FR_Rect_Bool e))))), (7, vi ((List.length a : Nat) : Int)), (8, vi d), (9, vb (decide (d < ((List.length a : Nat) : Int))))] [] ?_
  refine AW.seq ?_
  refine AW.cond (b := (decide (d < ((List.length a : Nat) : Int)))) (by kernel_rfl) (fun j => ?_) (fun j => ?_)
  ·have h := br_t h j
   refine AW.skip ?_
   refine AW.seq ?_
   refine AW.block ?_
   refine AW.SG0 Fm 2 [(0, AL a), (1, .v (.c (.sem (CloOK Tryz.prog (FR_Rect_Bool e))))), (5, vi d), (7, vi ((List.length a : Nat) : Int)), (8, vi d)] [] ?_
   refine AW.seq ?_
   obtain ⟨o, h⟩ := gd_some h
   obtain ⟨i, q, h⟩ := bd_some h
   refine AW.G Fm [.s, .s, .s, .s, .s, .k (sE (vb i))] (fun K => _ ∧ K 5 ∧ True) [(0, AL a), (1, .v (.c (.sem (CloOK Tryz.prog (FR_Rect_Bool e))))), (5, vi d), (7, vi ((List.length a : Nat) : Int)), (8, vi d), (16, vb i)] [] ⟨o, KAt.sem (F := (FR_Rect_Bool e)) (args := [.v (.g [ci ((gl a d.toNat).left_), ci ((gl a d.toNat).low_), ci ((gl a d.toNat).right_), ci ((gl a d.toNat).high_)])]) ⟨(gl a d.toNat), i, q, rfl, rfl⟩ rfl (by kernel_rfl) (by kernel_rfl) (by kernel_rfl), ⟨⟩⟩ ?_
   refine AW.cond (b := i) (by kernel_rfl) (fun l => ?_) (fun l => ?_)
   ·have h := br_t h l
    refine AW.SG0 Fm 2 [(4, vi d)] [] ?_
    refine AW.ret ?_
    obtain rfl := Option.some.inj h
    exact Kn.D Fm
   ·have h := br_f h l
    refine AW.skip ?_
    obtain ⟨p, h⟩ := gd_some h
    refine AW.G Fm [.s, .s] (fun K => (I64 (d + (1 : Int)) ∧ True) ∧ True) [(0, AL a), (1, .v (.c (.sem (CloOK Tryz.prog (FR_Rect_Bool e))))), (7, vi ((List.length a : Nat) : Int)), (8, vi (d + (1 : Int)))] [] ⟨⟨p, ⟨⟩⟩, ⟨⟩⟩ ?_
    exact Kn.R Fm (m (d + (1 : Int)) h)
  ·have h := br_f h j
   refine AW.exit ?_
   exact Kn.R Fm (n () h)
theorem slices_ContainsFunc_Rect_spec {F : Nat} {a : (List Rect)} {b : Rect → Option Bool} {r : Bool} (h : slices_ContainsFunc_Rect F a b = some r) :
  FSpec Tryz.prog 108 [AL a, .v (.c (.sem (CloOK Tryz.prog (FR_Rect_Bool b))))] [] (vb r) [] := by
 refine FSpec.intro prog_mixed prog_lay Tryz.func108 rfl (by kernel_rfl) fun C Fm => ?_
 unfold slices_ContainsFunc_Rect at h
 refine AW.SG0 Fm 1 [(0, AL a), (1, .v (.c (.sem (CloOK Tryz.prog (FR_Rect_Bool b)))))] [] ?_
 refine AW.seq ?_
 obtain ⟨d, e, h⟩ := bd_some h
 refine AW.G Fm [.s, .s, .k (cE [] [] (vi d) [] []), .s, .s] (fun K => K 2 ∧ True) [(4, vb (decide ((0 : Int) ≤ d)))] [] ⟨KAt.callX (slices_IndexFunc_Rect_spec e) Tryz.call155 [] [] [.tmp 5, .tmp 6] rfl (by kernel_rfl) (by kernel_rfl) (by kernel_rfl) ⟨.p, ArgT.semX (by kernel_rfl) (by kernel_rfl) (by kernel_rfl), ⟨⟩⟩, ⟨⟩⟩ ?_
 refine AW.ret ?_
 obtain rfl := Option.some.inj h
 exact Kn.D Fm
theorem region_proper_spec {F : Nat} {a : Rect} {r : Bool} (h : region_proper F a = some r) :
  FSpec Tryz.prog 110 [gE a] [] (vb r) [] := by
 refine FSpec.intro prog_mixed prog_lay Tryz.func110 rfl (by kernel_rfl) fun C Fm => ?_
 unfold region_proper at h
 refine AW.SG0 Fm 2 [(1, pt 1)] [(1, bx (gC a))] ?_
 refine AW.join (r := r) (fun z : Bool => region_proper_k0 F z) (fun z => [(2, vb z)]) (fun z => []) (fun l h => ?_) (fun k e => ?_)
 ·refine AW.ret ?_
  obtain rfl := Option.some.inj h
  exact Kn.D Fm
 ·rcases Bool.eq_false_or_eq_true (decide ((0 : Int) ≤ a.left_)) with b | b
  ·have h := br_t h b
   rcases Bool.eq_false_or_eq_true (decide (a.left_ < a.right_)) with c | c
   ·have h := br_t h c
    rcases Bool.eq_false_or_eq_true (decide (a.right_ ≤ (16384 : Int))) with d | d
    ·have h := br_t h d
     rcases Bool.eq_false_or_eq_true (decide ((0 : Int) ≤ a.low_)) with i | i
     ·have h := br_t h i
      rcases Bool.eq_false_or_eq_true (decide (a.low_ < a.high_)) with j | j
      ·have h := br_t h j
       refine AW.G Fm [.s, .s, .s, .w (vb true), .s, .s, .s, .s, .s, .s, .w (vb true), .s, .s, .s, .s, .w (vb true), .s, .s, .s, .s, .w (vb true), .s, .s, .s, .s, .s, .s, .w (vb true), .s, .s, .s, .s, .s] (fun K => (ALe (vb (decide ((0 : Int) ≤ a.left_))) (vb true)) ∧ (ALe (vb (decide (a.left_ < a.right_))) (vb true)) ∧ (ALe (vb (decide (a.right_ ≤ (16384 : Int)))) (vb true)) ∧ (ALe (vb (decide ((0 : Int) ≤ a.low_))) (vb true)) ∧ (ALe (vb (decide (a.low_ < a.high_))) (vb true)) ∧ True) [(2, vb (decide (a.high_ ≤ (16384 : Int))))] [] ⟨ALe.bool b, ALe.bool c, ALe.bool d, ALe.bool i, ALe.bool j, ⟨⟩⟩ ?_
       exact Kn.R Fm (e (decide (a.high_ ≤ (16384 : Int))) h)
      ·have h := br_f h j
       refine AW.G Fm [.s, .s, .s, .w (vb true), .s, .s, .s, .s, .s, .s, .w (vb true), .s, .s, .s, .s, .w (vb true), .s, .s, .s, .s, .w (vb true), .s, .s, .s, .s, .s, .s, .w (vb false), .s, .s, .s, .s, .s] (fun K => (ALe (vb (decide ((0 : Int) ≤ a.left_))) (vb true)) ∧ (ALe (vb (decide (a.left_ < a.right_))) (vb true)) ∧ (ALe (vb (decide (a.right_ ≤ (16384 : Int)))) (vb true)) ∧ (ALe (vb (decide ((0 : Int) ≤ a.low_))) (vb true)) ∧ (ALe (vb (decide (a.low_ < a.high_))) (vb false)) ∧ True) [(2, vb false)] [] ⟨ALe.bool b, ALe.bool c, ALe.bool d, ALe.bool i, ALe.bool j, ⟨⟩⟩ ?_
       exact Kn.R Fm (e false h)
     ·have h := br_f h i
      refine AW.G Fm [.s, .s, .s, .w (vb true), .s, .s, .s, .s, .s, .s, .w (vb true), .s, .s, .s, .s, .w (vb true), .s, .s, .s, .s, .w (vb false), .s, .s, .s, .s, .s, .s, .s, .s, .s, .s, .s, .s] (fun K => (ALe (vb (decide ((0 : Int) ≤ a.left_))) (vb true)) ∧ (ALe (vb (decide (a.left_ < a.right_))) (vb true)) ∧ (ALe (vb (decide (a.right_ ≤ (16384 : Int)))) (vb true)) ∧ (ALe (vb (decide ((0 : Int) ≤ a.low_))) (vb false)) ∧ True) [(2, vb false)] [] ⟨ALe.bool b, ALe.bool c, ALe.bool d, ALe.bool i, ⟨⟩⟩ ?_
      exact Kn.R Fm (e false h)
    ·have h := br_f h d
     refine AW.G Fm [.s, .s, .s, .w (vb true), .s, .s, .s, .s, .s, .s, .w (vb true), .s, .s, .s, .s, .w (vb false), .s, .s, .s, .s, .s, .s, .s, .s, .s, .s, .s, .s, .s, .s, .s, .s, .s] (fun K => (ALe (vb (decide ((0 : Int) ≤ a.left_))) (vb true)) ∧ (ALe (vb (decide (a.left_ < a.right_))) (vb true)) ∧ (ALe (vb (decide (a.right_ ≤ (16384 : Int)))) (vb false)) ∧ True) [(2, vb false)] [] ⟨ALe.bool b, ALe.bool c, ALe.bool d, ⟨⟩⟩ ?_
     exact Kn.R Fm (e false h)
   ·have h := br_f h c
    refine AW.G Fm [.s, .s, .s, .w (vb true), .s, .s, .s, .s, .s, .s, .w (vb false), .s, .s, .s, .s, .s, .s, .s, .s, .s, .s, .s, .s, .s, .s, .s, .s, .s, .s, .s, .s, .s, .s] (fun K => (ALe (vb (decide ((0 : Int) ≤ a.left_))) (vb true)) ∧ (ALe (vb (decide (a.left_ < a.right_))) (vb false)) ∧ True) [(2, vb false)] [] ⟨ALe.bool b, ALe.bool c, ⟨⟩⟩ ?_
    exact Kn.R Fm (e false h)
  ·have h := br_f h b
   refine AW.G Fm [.s, .s, .s, .w (vb false), .s, .s, .s, .s, .s, .s, .s, .s, .s, .s, .s, .s, .s, .s, .s, .s, .s, .s, .s, .s, .s, .s, .s, .s, .s, .s, .s, .s, .s] (fun K => (ALe (vb (decide ((0 : Int) ≤ a.left_))) (vb false)) ∧ True) [(2, vb false)] [] ⟨ALe.bool b, ⟨⟩⟩ ?_
   exact Kn.R Fm (e false h)
theorem region_Valid_1_spec {F : Nat} {a : Rect} {r : Bool} (h : region_Valid_1 F a = some r) :
  FSpec Tryz.prog 109 [gE a] [] (vb r) [] := by
 refine FSpec.intro prog_mixed prog_lay Tryz.func109 rfl (by kernel_rfl) fun C Fm => ?_
 unfold region_Valid_1 at h
 refine AW.SG0 Fm 2 [(1, pt 1)] [(1, bx (gC a))] ?_
 refine AW.seq ?_
 obtain ⟨b, c, h⟩ := bd_some h
 refine AW.G Fm [.s, .k (cE [] [] (vb b) [] []), .s, .s] (fun K => K 1 ∧ True) [(2, vb (!b))] [] ⟨KAt.CC (region_proper_spec c) Tryz.call110 [], ⟨⟩⟩ ?_
 refine AW.ret ?_
 obtain rfl := Option.some.inj h
 exact Kn.D Fm
theorem slices_Compact_int_spec {F : Nat} {d : (List Int)} {r : (List Int)} (h : slices_Compact_int F d = some r) :
  FSpec Tryz.prog 172 [ow 0] [(0, AO d)] (ow 100) [(100, AO (α := Int) r)] := by
 refine FSpec.intro prog_mixed prog_lay Tryz.func172 rfl (by kernel_rfl) fun C Fm => ?_
 unfold slices_Compact_int at h
 refine AW.SG Fm [.m] (fun K => True) [(0, ow 0)] [(0, AO d)] True.intro ?_
 refine AW.seq ?_
 refine AW.SG0 Fm 3 [(0, ow 0), (8, vb (decide (((List.length d : Nat) : Int) < (2 : Int))))] [(0, AO d)] ?_
 refine AW.cond (b := (decide (((List.length d : Nat) : Int) < (2 : Int)))) (by kernel_rfl) (fun w => ?_) (fun w => ?_)
 ·have h := br_t h w
  refine AW.SG0 Fm 2 [(2, ow 0)] [(0, AO d)] ?_
  refine AW.ret ?_
  obtain rfl := Option.some.inj h
  exact Kn.re Fm [(100, 0)] [(2, ow 100)] [(100, AO d)] (by kernel_rfl) (by kernel_rfl) (by kernel_rfl) (by kernel_rfl) (Kn.dn Fm (by kernel_rfl))
 ·have h := br_f h w
  refine AW.skip ?_
  refine AW.join (r := r) (fun z : Unit => slices_Compact_int_k5 F d) (fun z => [(0, ow 0)]) (fun z => [(0, AO d)]) (fun z h => ?_) (fun y0 Z => ?_)
  ·refine AW.SG0 Fm 2 [(2, ow 0)] [(0, AO d)] ?_
   refine AW.ret ?_
   obtain rfl := Option.some.inj h
   exact Kn.re Fm [(100, 0)] [(2, ow 100)] [(100, AO d)] (by kernel_rfl) (by kernel_rfl) (by kernel_rfl) (by kernel_rfl) (Kn.dn Fm (by kernel_rfl))
  ·refine AW.SG0 Fm 1 [(0, ow 0), (3, vi (1 : Int))] [(0, AO d)] ?_
   refine AW.block ?_
   refine Kn.r Fm [(0, ow 0), (3, vi (1 : Int))] [(0, AO d)] (by kernel_rfl) ?_
   refine AW.loopF (E' := fun z => [(0, ow 0), (3, vi z)]) (S' := fun z => [(0, AO d)]) (fun T a q0 V h => ?_) h
   refine AW.seq ?_
   refine AW.SG0 Fm 4 [(0, ow 0), (3, vi a), (13, vb (decide (a < ((List.length d : Nat) : Int))))] [(0, AO d)] ?_
   refine AW.cond (b := (decide (a < ((List.length d : Nat) : Int)))) (by kernel_rfl) (fun y => ?_) (fun y => ?_)
   ·have h := br_t h y
    refine AW.skip ?_
    refine AW.join (r := r) (fun z : Unit => slices_Compact_int_k4 F a T) (fun z => [(0, ow 0), (3, vi a)]) (fun z => [(0, AO d)]) (fun z h => ?_) (fun w0 Y => ?_)
    ·obtain ⟨p0, h⟩ := gd_some h
     refine AW.G Fm [.s, .s, .s] (fun K => (I64 (a + (1 : Int)) ∧ True) ∧ True) [(0, ow 0), (3, vi (a + (1 : Int)))] [(0, AO d)] ⟨⟨p0, ⟨⟩⟩, ⟨⟩⟩ ?_
     exact Kn.R Fm (V (a + (1 : Int)) h)
    ·refine AW.block ?_
     obtain ⟨I, h⟩ := gd_some h
     obtain ⟨a0, h⟩ := gd_some h
     obtain ⟨L, h⟩ := gd_some h
     refine AW.SG Fm [.s, .s, .s, .s, .s, .s, .s, .s, .s, .s] (fun K => _ ∧ (a.toNat < List.length d) ∧ (I64 (a - (1 : Int)) ∧ True) ∧ _ ∧ ((a - (1 : Int)).toNat < List.length d) ∧ True) [(0, ow 0), (3, vi a), (25, vb ((gl d a.toNat) == (gl d (a - (1 : Int)).toNat)))] [(0, AO d)] ⟨I, (toNat_lt I), ⟨a0, ⟨⟩⟩, L, (toNat_lt L), ⟨⟩⟩ ?_
     refine AW.cond (b := ((gl d a.toNat) == (gl d (a - (1 : Int)).toNat))) (by kernel_rfl) (fun A => ?_) (fun A => ?_)
     ·have h := br_t h A
      obtain ⟨b0, h⟩ := gd_some h
      refine AW.SG Fm [.s, .s, .k (rE { v := .v (.c (.sub 0 1 (0 + (a).toNat) ((List.length (α := Int) d) - (a).toNat))) }), .s] (fun K => K 2 ∧ True) [(0, ow 0), (3, vi a), (4, .v (.c (.sub 0 1 (0 + (a).toNat) ((List.length (α := Int) d) - (a).toNat))))] [(0, AO d)] ⟨KAt.vslice (l := (some a)) (u := none) (id := 0) (lo0 := 0) (n := (List.length (α := Int) d)) (N := List.length (α := Int) d) (f := LF (α := Int) d) prog_lay slT22 rfl rfl (by kernel_rfl) (by kernel_rfl) (by kernel_rfl) (by kernel_rfl) (by kernel_rfl) b0 (by kernel_rfl), ⟨⟩⟩ ?_
      refine AW.join (r := r) (fun z : Int × (List Int) => slices_Compact_int_k3 F z.1 z.2) (fun z => [(0, ow 0), (3, vi z.1)]) (fun z => [(0, AO z.2)]) (fun z h => ?_) (fun u0 X => ?_)
      ·obtain ⟨e, q⟩ := z
       obtain ⟨o0, h⟩ := gd_some h
       refine AW.SG Fm [.s, .s, .k (rE { v := .v (.c (.sub 0 1 (0 + (e).toNat) ((List.length (α := Int) q) - (e).toNat))) }), .k (rE { v := .any, upd := some (0, .arr 1 (List.length (α := Int) q) (fun i => if (0 + (e).toNat) ≤ i ∧ i < (0 + (e).toNat) + ((List.length (α := Int) q) - (e).toNat) then (fun _ => [.int .i64 0]) (i - (0 + (e).toNat)) else (LF (α := Int) q) i)) })] (fun K => K 2 ∧ K 3 ∧ True) [(0, ow 0), (3, vi e)] [(0, .arr 1 (List.length (α := Int) q) (fun i => if (0 + (e).toNat) ≤ i ∧ i < (0 + (e).toNat) + ((List.length (α := Int) q) - (e).toNat) then (fun _ => [.int .i64 0]) (i - (0 + (e).toNat)) else (LF (α := Int) q) i))] ⟨KAt.vslice (l := (some e)) (u := none) (id := 0) (lo0 := 0) (n := (List.length (α := Int) q)) (N := List.length (α := Int) q) (f := LF (α := Int) q) prog_lay slT22 rfl rfl (by kernel_rfl) (by kernel_rfl) (by kernel_rfl) (by kernel_rfl) (by kernel_rfl) o0 (by kernel_rfl), KAt.vclear (id := 0) (lo0 := (0 + (e).toNat)) (n := ((List.length (α := Int) q) - (e).toNat)) (N := List.length (α := Int) q) (f := (LF (α := Int) q)) prog_lay slT22 [.int .i64 0] [.int .i64 0] ⟨DLe.refl _, ⟨⟩⟩ rfl rfl (by kernel_rfl) (Nat.succ_pos _) (by kernel_rfl) (by kernel_rfl) (by kernel_rfl) (by kernel_rfl) rfl, ⟨⟩⟩ ?_
       refine Kn.wk [(0, ow 0), (3, vi e)] [(0, AO (α := Int) (clr q (0 + (e).toNat) ((List.length (α := Int) q) - (e).toNat)))] (FE.refl _) (⟨rfl, OLe.is (Is.clr (l := q) (0 + (e).toNat) ((List.length (α := Int) q) - (e).toNat) (zd := [.int .i64 0]) (by kernel_rfl)), ⟨⟩⟩) ?_
       obtain ⟨M, h⟩ := gd_some h
       refine AW.SG Fm [.s, .s, .m, .s] (fun K => _ ∧ True) [(2, ow 59)] [(59, .arr 1 ((e).toNat) (LF (α := Int) (clr q (0 + (e).toNat) ((List.length (α := Int) q) - (e).toNat))))] ⟨M, ⟨⟩⟩ ?_
       refine Kn.wk [(2, ow 59)] [(59, AO (α := Int) ((clr q (0 + (e).toNat) ((List.length (α := Int) q) - (e).toNat)).take (e).toNat))] (FE.refl _) (⟨rfl, OLe.is (Is.take (Is.refl (clr q (0 + (e).toNat) ((List.length (α := Int) q) - (e).toNat))) M.2), ⟨⟩⟩) ?_
       refine AW.ret ?_
       obtain rfl := Option.some.inj h
       exact Kn.re Fm [(100, 59)] [(2, ow 100)] [(100, AO (α := Int) ((clr q (0 + (e).toNat) ((List.length (α := Int) q) - (e).toNat)).take (e).toNat))] (by kernel_rfl) (by kernel_rfl) (by kernel_rfl) (by kernel_rfl) (Kn.dn Fm (by kernel_rfl))
      ·refine AW.SG0 Fm 1 [(0, ow 0), (3, vi a), (4, .v (.c (.sub 0 1 (0 + (a).toNat) ((List.length (α := Int) d) - (a).toNat)))), (5, vi (1 : Int))] [(0, AO d)] ?_
       refine AW.block ?_
       refine Kn.r Fm [(0, ow 0), (3, vi a), (4, .v (.c (.sub 0 1 (0 + (a).toNat) ((List.length (α := Int) d) - (a).toNat)))), (5, vi (1 : Int))] [(0, AO d)] (by kernel_rfl) ?_
       refine AW.loopF (E' := fun z => [(0, ow 0), (3, vi z.1), (4, .v (.c (.sub 0 1 (0 + (a).toNat) ((List.length (α := Int) d) - (a).toNat)))), (5, vi z.2.1)]) (S' := fun z => [(0, AO z.2.2)]) (fun U z s0 W h => ?_) h
       obtain ⟨t, p, o⟩ := z
       refine AW.seq ?_
       refine AW.SG Fm [.s, .s, .k (rE { v := vi ((((List.length (α := Int) d) - (a).toNat) : Nat) : Int) }), .s] (fun K => K 2 ∧ True) [(0, ow 0), (3, vi t), (4, .v (.c (.sub 0 1 (0 + (a).toNat) ((List.length (α := Int) d) - (a).toNat)))), (5, vi p), (32, vb (decide (p < ((((List.length (α := Int) d) - (a).toNat) : Nat) : Int))))] [(0, AO o)] ⟨KAt.vlen (es := 1) (id := 0) (lo0 := (0 + (a).toNat)) (n := ((List.length (α := Int) d) - (a).toNat)) (N := List.length (α := Int) o) (f := LF (α := Int) o) prog_lay slT22 rfl rfl (by kernel_rfl) (by kernel_rfl) (by kernel_rfl), ⟨⟩⟩ ?_
       refine AW.cond (b := (decide (p < ((((List.length (α := Int) d) - (a).toNat) : Nat) : Int)))) (by kernel_rfl) (fun B => ?_) (fun B => ?_)
       ·have h := br_t h B
        refine AW.skip ?_
        refine AW.join (r := r) (fun z : Int × (List Int) => slices_Compact_int_k2 F p U z.1 z.2) (fun z => [(0, ow 0), (3, vi z.1), (4, .v (.c (.sub 0 1 (0 + (a).toNat) ((List.length (α := Int) d) - (a).toNat)))), (5, vi p)]) (fun z => [(0, AO z.2)]) (fun z h => ?_) (fun t0 H => ?_)
        ·obtain ⟨O, P⟩ := z
         obtain ⟨n0, h⟩ := gd_some h
         refine AW.G Fm [.s, .s, .s] (fun K => (I64 (p + (1 : Int)) ∧ True) ∧ True) [(0, ow 0), (3, vi O), (4, .v (.c (.sub 0 1 (0 + (a).toNat) ((List.length (α := Int) d) - (a).toNat)))), (5, vi (p + (1 : Int)))] [(0, AO P)] ⟨⟨n0, ⟨⟩⟩, ⟨⟩⟩ ?_
         exact Kn.R Fm (W (O, (p + (1 : Int)), P) h)
        ·refine AW.block ?_
         obtain ⟨c0, h⟩ := gd_some h
         obtain ⟨d0, h⟩ := gd_some h
         obtain ⟨e0, h⟩ := gd_some h
         obtain ⟨i0, h⟩ := gd_some h
         obtain ⟨j0, h⟩ := gd_some h
         refine AW.SG Fm [.s, .s, .k (rE { v := .v (.c (.pte 0 1 ((0 + (a).toNat) + (p).toNat) 0)) }), .s, .s, .s, .s, .k (rE { v := .v (.c (.pte 0 1 ((0 + (a).toNat) + ((p - (1 : Int))).toNat) 0)) }), .s, .s] (fun K => K 2 ∧ _ ∧ (I64 (p - (1 : Int)) ∧ True) ∧ K 7 ∧ _ ∧ True) [(0, ow 0), (3, vi t), (4, .v (.c (.sub 0 1 (0 + (a).toNat) ((List.length (α := Int) d) - (a).toNat)))), (5, vi p), (44, vb ((gl o ((0 + (a).toNat) + (p).toNat)) != (gl o ((0 + (a).toNat) + ((p - (1 : Int))).toNat))))] [(0, AO o)] ⟨KAt.vindex (m := p) (id := 0) (lo0 := (0 + (a).toNat)) (n := ((List.length (α := Int) d) - (a).toNat)) (N := List.length (α := Int) o) (f := LF (α := Int) o) prog_lay slT22 rfl rfl (by kernel_rfl) (by kernel_rfl) (by kernel_rfl) (by kernel_rfl) c0 (by kernel_rfl), d0, ⟨e0, ⟨⟩⟩, KAt.vindex (m := (p - (1 : Int))) (id := 0) (lo0 := (0 + (a).toNat)) (n := ((List.length (α := Int) d) - (a).toNat)) (N := List.length (α := Int) o) (f := LF (α := Int) o) prog_lay slT22 rfl rfl (by kernel_rfl) (by kernel_rfl) (by kernel_rfl) (by kernel_rfl) i0 (by kernel_rfl), j0, ⟨⟩⟩ ?_
         refine AW.cond (b := ((gl o ((0 + (a).toNat) + (p).toNat)) != (gl o ((0 + (a).toNat) + ((p - (1 : Int))).toNat)))) (by kernel_rfl) (fun D => ?_) (fun D => ?_)
         ·have h := br_t h D
          obtain ⟨k0, h⟩ := gd_some h
          obtain ⟨l0, h⟩ := gd_some h
          obtain ⟨E, h⟩ := gd_some h
          refine AW.SG Fm [.s, .s, .s, .s, .k (rE { v := .v (.c (.pte 0 1 ((0 + (a).toNat) + (p).toNat) 0)) }), .s, .s, .s] (fun K => K 4 ∧ _ ∧ _ ∧ (t.toNat < List.length o) ∧ True) [(0, ow 0), (3, vi t), (4, .v (.c (.sub 0 1 (0 + (a).toNat) ((List.length (α := Int) d) - (a).toNat)))), (5, vi p)] [(0, .arr 1 (List.length (α := Int) o) (fun j => if j = t.toNat then splice ((LF (α := Int) o) t.toNat) 0 [.int .i64 (gl o ((0 + (a).toNat) + (p).toNat))] else (LF (α := Int) o) j))] ⟨KAt.vindex (m := p) (id := 0) (lo0 := (0 + (a).toNat)) (n := ((List.length (α := Int) d) - (a).toNat)) (N := List.length (α := Int) o) (f := LF (α := Int) o) prog_lay slT22 rfl rfl (by kernel_rfl) (by kernel_rfl) (by kernel_rfl) (by kernel_rfl) k0 (by kernel_rfl), l0, E, (toNat_lt E), ⟨⟩⟩ ?_
          refine Kn.wk [(0, ow 0), (3, vi t), (4, .v (.c (.sub 0 1 (0 + (a).toNat) ((List.length (α := Int) d) - (a).toNat)))), (5, vi p)] [(0, AO (α := Int) (List.set o t.toNat (gl o ((0 + (a).toNat) + (p).toNat))))] (FE.refl _) (⟨rfl, OLe.is (Is.set (Is.refl o) (toNat_lt E) (gl o ((0 + (a).toNat) + (p).toNat)) (by kernel_rfl)), ⟨⟩⟩) ?_
          obtain ⟨m0, h⟩ := gd_some h
          refine AW.G Fm [.s, .s, .s] (fun K => (I64 (t + (1 : Int)) ∧ True) ∧ True) [(0, ow 0), (3, vi (t + (1 : Int))), (4, .v (.c (.sub 0 1 (0 + (a).toNat) ((List.length (α := Int) d) - (a).toNat)))), (5, vi p)] [(0, AO (α := Int) (List.set o t.toNat (gl o ((0 + (a).toNat) + (p).toNat))))] ⟨⟨m0, ⟨⟩⟩, ⟨⟩⟩ ?_
          exact Kn.R Fm (H ((t + (1 : Int)), (List.set o t.toNat (gl o ((0 + (a).toNat) + (p).toNat)))) h)
         ·have h := br_f h D
          refine AW.skip ?_
          exact Kn.R Fm (H (t, o) h)
       ·have h := br_f h B
        refine AW.exit ?_
        exact Kn.R Fm (X (t, o) h)
     ·have h := br_f h A
      refine AW.skip ?_
      exact Kn.R Fm (Y () h)
   ·have h := br_f h y
    refine AW.exit ?_
    exact Kn.R Fm (Z () h)
theorem region_Cuts_spec {F : Nat} {a : (List (List Rect))} {r : (List Int)} (h : region_Cuts F a = some r) :
  FSpec Tryz.prog 138 [AL a] [] (AL (α := Int) r) [] := by
 refine FSpec.intro prog_mixed prog_lay Tryz.func138 rfl (by kernel_rfl) fun C Fm => ?_
 unfold region_Cuts at h
 refine AW.SG0 Fm 1 [(0, AL a)] [] ?_
 refine AW.SG Fm [.m] (fun K => True) [(0, AL a), (3, ow 3)] [(3, .arr 1 (0) (fun _ => []))] True.intro ?_
 refine Kn.wk [(0, AL a), (3, ow 3)] [(3, AO (α := Int) ([] : List Int))] (FE.refl _) (⟨rfl, OLe.is ((Is.nil (α := Int))), ⟨⟩⟩) ?_
 refine AW.join (r := r) (fun z : (List Int) => region_Cuts_k3 F z) (fun z => [(3, ow 3)]) (fun z => [(3, AO z)]) (fun U h => ?_) (fun Y H => ?_)
 ·refine AW.seq ?_
  obtain ⟨t, P, h⟩ := bd_some h
  refine AW.G Fm [.s, .k (cE [(0, 3)] [] (.any) [(0, AO U)] [(0, AO t)])] (fun K => K 1 ∧ True) [(3, ow 3)] [(3, AO t)] ⟨KAt.CC (sortI_spec P) Tryz.call171 [(0, 3)], ⟨⟩⟩ ?_
  refine AW.seq ?_
  obtain ⟨o, T, h⟩ := bd_some h
  refine AW.G Fm [.s, .k (cE [(0, 3), (100, 32)] [] (ow 100) [(0, AO t)] [(100, AO o)]), .s] (fun K => K 1 ∧ True) [(2, ow 32)] [(32, AO o)] ⟨KAt.CC (slices_Compact_int_spec T) Tryz.call172 [(0, 3), (100, 32)], ⟨⟩⟩ ?_
  refine AW.ret ?_
  obtain rfl := Option.some.inj h
  refine Kn.r Fm [(2, ow 32)] [(32, AO o)] (by kernel_rfl) ?_
  refine Kn.frz [(2, AL o)] [] (by kernel_rfl) (by kernel_rfl) (by kernel_rfl) ?_
  exact Kn.D Fm
 ·refine AW.SG0 Fm 3 [(3, ow 3), (8, AL a), (9, vi ((List.length a : Nat) : Int)), (10, vi (0 : Int))] [(3, AO (α := Int) ([] : List Int))] ?_
  refine AW.block ?_
  refine Kn.r Fm [(3, ow 3), (8, AL a), (9, vi ((List.length a : Nat) : Int)), (10, vi (0 : Int))] [(3, AO ([] : List Int))] (by kernel_rfl) ?_
  refine AW.loopF (E' := fun z => [(3, ow 3), (8, AL a), (9, vi ((List.length a : Nat) : Int)), (10, vi z.1)]) (S' := fun z => [(3, AO z.2)]) (fun y z V A h => ?_) h
  obtain ⟨e, n⟩ := z
  refine AW.SG0 Fm 1 [(3, ow 3), (8, AL a), (9, vi ((List.length a : Nat) : Int)), (10, vi e), (11, vb (decide (e < ((List.length a : Nat) : Int))))] [(3, AO n)] ?_
  refine AW.seq ?_
  refine AW.cond (b := (decide (e < ((List.length a : Nat) : Int)))) (by kernel_rfl) (fun p => ?_) (fun p => ?_)
  ·have h := br_t h p
   refine AW.skip ?_
   refine AW.join (r := r) (fun z : (List Int) => region_Cuts_k2 F e y z) (fun z => [(3, ow 3), (8, AL a), (9, vi ((List.length a : Nat) : Int)), (10, vi e)]) (fun z => [(3, AO z)]) (fun u h => ?_) (fun X E => ?_)
   ·obtain ⟨O, h⟩ := gd_some h
    refine AW.G Fm [.s, .s] (fun K => (I64 (e + (1 : Int)) ∧ True) ∧ True) [(3, ow 3), (8, AL a), (9, vi ((List.length a : Nat) : Int)), (10, vi (e + (1 : Int)))] [(3, AO u)] ⟨⟨O, ⟨⟩⟩, ⟨⟩⟩ ?_
    exact Kn.R Fm (A ((e + (1 : Int)), u) h)
   ·refine AW.block ?_
    obtain ⟨I, h⟩ := gd_some h
    refine AW.SG Fm [.s, .s, .s] (fun K => _ ∧ True) [(3, ow 3), (5, AL (α := Rect) (gl a e.toNat)), (8, AL a), (9, vi ((List.length a : Nat) : Int)), (10, vi e)] [(3, AO n)] ⟨I, ⟨⟩⟩ ?_
    refine AW.SG0 Fm 3 [(3, ow 3), (8, AL a), (9, vi ((List.length a : Nat) : Int)), (10, vi e), (14, AL (α := Rect) (gl a e.toNat)), (15, vi ((List.length (gl a e.toNat) : Nat) : Int)), (16, vi (0 : Int))] [(3, AO n)] ?_
    refine AW.block ?_
    refine Kn.r Fm [(3, ow 3), (8, AL a), (9, vi ((List.length a : Nat) : Int)), (10, vi e), (14, AL (α := Rect) (gl a e.toNat)), (15, vi ((List.length (gl a e.toNat) : Nat) : Int)), (16, vi (0 : Int))] [(3, AO n)] (by kernel_rfl) ?_
    refine AW.loopF (E' := fun z => [(3, ow 3), (8, AL a), (9, vi ((List.length a : Nat) : Int)), (10, vi e), (14, AL (α := Rect) (gl a e.toNat)), (15, vi ((List.length (gl a e.toNat) : Nat) : Int)), (16, vi z.1)]) (S' := fun z => [(3, AO z.2)]) (fun Z z W B h => ?_) h
    obtain ⟨i, l⟩ := z
    refine AW.SG0 Fm 1 [(3, ow 3), (8, AL a), (9, vi ((List.length a : Nat) : Int)), (10, vi e), (14, AL (α := Rect) (gl a e.toNat)), (15, vi ((List.length (gl a e.toNat) : Nat) : Int)), (16, vi i), (17, vb (decide (i < ((List.length (gl a e.toNat) : Nat) : Int))))] [(3, AO l)] ?_
    refine AW.seq ?_
    refine AW.cond (b := (decide (i < ((List.length (gl a e.toNat) : Nat) : Int)))) (by kernel_rfl) (fun q => ?_) (fun q => ?_)
    ·have h := br_t h q
     refine AW.skip ?_
     refine AW.seq ?_
     refine AW.block ?_
     obtain ⟨L, h⟩ := gd_some h
     refine AW.SG Fm [.s, .s, .s, .s] (fun K => _ ∧ True) [(3, ow 3), (7, pt 7), (8, AL a), (9, vi ((List.length a : Nat) : Int)), (10, vi e), (14, AL (α := Rect) (gl a e.toNat)), (15, vi ((List.length (gl a e.toNat) : Nat) : Int)), (16, vi i)] [(3, AO l), (7, bx [ci ((gl (gl a e.toNat) i.toNat).left_), ci ((gl (gl a e.toNat) i.toNat).low_), ci ((gl (gl a e.toNat) i.toNat).right_), ci ((gl (gl a e.toNat) i.toNat).high_)])] ⟨L, ⟨⟩⟩ ?_
     obtain ⟨M, h⟩ := gd_some h
     refine AW.G Fm [.s, .s, .s, .s, .s, .w (AL (α := Int) ([(gl (gl a e.toNat) i.toNat).low_, (gl (gl a e.toNat) i.toNat).high_] : List Int)), .s, .s] (fun K => (ALe (.v (.c (.d (.lst 2 (litF 1 [.int .i64 (gl (gl a e.toNat) i.toNat).low_, .int .i64 (gl (gl a e.toNat) i.toNat).high_]))))) (AL (α := Int) ([(gl (gl a e.toNat) i.toNat).low_, (gl (gl a e.toNat) i.toNat).high_] : List Int))) ∧ ((List.length (α := Int) l) + (List.length (α := Int) ([(gl (gl a e.toNat) i.toNat).low_, (gl (gl a e.toNat) i.toNat).high_] : List Int)) ≤ LIM ∧ (∀ j, j < List.length (α := Int) ([(gl (gl a e.toNat) i.toNat).low_, (gl (gl a e.toNat) i.toNat).high_] : List Int) → ((LF (α := Int) ([(gl (gl a e.toNat) i.toNat).low_, (gl (gl a e.toNat) i.toNat).high_] : List Int)) j).length = 1) ∧ (True)) ∧ True) [(3, ow 26), (8, AL a), (9, vi ((List.length a : Nat) : Int)), (10, vi e), (14, AL (α := Rect) (gl a e.toNat)), (15, vi ((List.length (gl a e.toNat) : Nat) : Int)), (16, vi i)] [(26, .arr 1 ((List.length (α := Int) l) + (List.length (α := Int) ([(gl (gl a e.toNat) i.toNat).low_, (gl (gl a e.toNat) i.toNat).high_] : List Int))) (appF (List.length (α := Int) l) (LF (α := Int) l) (LF (α := Int) ([(gl (gl a e.toNat) i.toNat).low_, (gl (gl a e.toNat) i.toNat).high_] : List Int))))] ⟨ALe.lst (.lit ([(gl (gl a e.toNat) i.toNat).low_, (gl (gl a e.toNat) i.toNat).high_] : List Int) (by kernel_rfl)), ⟨M, (Is.refl ([(gl (gl a e.toNat) i.toNat).low_, (gl (gl a e.toNat) i.toNat).high_] : List Int) : Is (List.length (α := Int) ([(gl (gl a e.toNat) i.toNat).low_, (gl (gl a e.toNat) i.toNat).high_] : List Int)) (LF (α := Int) ([(gl (gl a e.toNat) i.toNat).low_, (gl (gl a e.toNat) i.toNat).high_] : List Int)) ([(gl (gl a e.toNat) i.toNat).low_, (gl (gl a e.toNat) i.toNat).high_] : List Int)).len, ⟨⟩⟩, ⟨⟩⟩ ?_
     refine Kn.wk [(3, ow 26), (8, AL a), (9, vi ((List.length a : Nat) : Int)), (10, vi e), (14, AL (α := Rect) (gl a e.toNat)), (15, vi ((List.length (gl a e.toNat) : Nat) : Int)), (16, vi i)] [(26, AO (α := Int) (l ++ ([(gl (gl a e.toNat) i.toNat).low_, (gl (gl a e.toNat) i.toNat).high_] : List Int)))] (FE.refl _) (⟨rfl, OLe.is (Is.app (Is.refl l) (Is.refl ([(gl (gl a e.toNat) i.toNat).low_, (gl (gl a e.toNat) i.toNat).high_] : List Int))), ⟨⟩⟩) ?_
     obtain ⟨N, h⟩ := gd_some h
     refine AW.G Fm [.s, .s] (fun K => (I64 (i + (1 : Int)) ∧ True) ∧ True) [(3, ow 26), (8, AL a), (9, vi ((List.length a : Nat) : Int)), (10, vi e), (14, AL (α := Rect) (gl a e.toNat)), (15, vi ((List.length (gl a e.toNat) : Nat) : Int)), (16, vi (i + (1 : Int)))] [(26, AO (α := Int) (l ++ ([(gl (gl a e.toNat) i.toNat).low_, (gl (gl a e.toNat) i.toNat).high_] : List Int)))] ⟨⟨N, ⟨⟩⟩, ⟨⟩⟩ ?_
     exact Kn.RE Fm [(3, 26)] (B ((i + (1 : Int)), (l ++ ([(gl (gl a e.toNat) i.toNat).low_, (gl (gl a e.toNat) i.toNat).high_] : List Int))) h)
    ·have h := br_f h q
     refine AW.exit ?_
     exact Kn.R Fm (E l h)
  ·have h := br_f h p
   refine AW.exit ?_
   exact Kn.R Fm (H n h)
theorem cmp_isNaN_int_spec {F : Nat} {a : Int} {r : Bool} (h : cmp_isNaN_int F a = some r) :
  FSpec Tryz.prog 119 [vi a] [] (vb r) [] := by
 refine FSpec.intro prog_mixed prog_lay Tryz.func119 rfl (by kernel_rfl) fun C Fm => ?_
 unfold cmp_isNaN_int at h
 refine AW.SG0 Fm 1 [(0, vi a)] [] ?_
 refine AW.SG0 Fm 4 [(2, vb (a != a))] [] ?_
 refine AW.ret ?_
 obtain rfl := Option.some.inj h
 exact Kn.D Fm
theorem cmp_Compare_int_spec {F : Nat} {a : Int} {c : Int} {r : Int} (h : cmp_Compare_int F a c = some r) :
  FSpec Tryz.prog 61 [vi a, vi c] [] (vi r) [] := by
 refine FSpec.intro prog_mixed prog_lay Tryz.func61 rfl (by kernel_rfl) fun C Fm => ?_
 unfold cmp_Compare_int at h
 refine AW.SG0 Fm 1 [(0, vi a), (1, vi c)] [] ?_
 refine AW.seq ?_
 obtain ⟨e, o, h⟩ := bd_some h
 refine AW.G Fm [.s, .k (cE [] [] (vb e) [] []), .s] (fun K => K 1 ∧ True) [(0, vi a), (1, vi c), (5, vb e)] [] ⟨KAt.CC (cmp_isNaN_int_spec o) Tryz.call119 [], ⟨⟩⟩ ?_
 refine AW.seq ?_
 obtain ⟨d, p, h⟩ := bd_some h
 refine AW.G Fm [.s, .k (cE [] [] (vb d) [] []), .s] (fun K => K 1 ∧ True) [(0, vi a), (1, vi c), (5, vb e), (6, vb d)] [] ⟨KAt.CC (cmp_isNaN_int_spec p) Tryz.call119 [], ⟨⟩⟩ ?_
 refine AW.seq ?_
 refine AW.SG0 Fm 1 [(0, vi a), (1, vi c), (6, vb d), (11, vb e)] [] ?_
 refine AW.cond (b := e) (by kernel_rfl) (fun i => ?_) (fun i => ?_)
 ·have h := br_t h i
  refine AW.seq ?_
  refine AW.SG0 Fm 1 [(12, vb d)] [] ?_
  refine AW.cond (b := d) (by kernel_rfl) (fun j => ?_) (fun j => ?_)
  ·have h := br_t h j
   refine AW.SG0 Fm 1 [(4, vi (0 : Int))] [] ?_
   refine AW.ret ?_
   obtain rfl := Option.some.inj h
   exact Kn.D Fm
  ·have h := br_f h j
   refine AW.skip ?_
   refine AW.SG0 Fm 1 [(4, vi (-1 : Int))] [] ?_
   refine AW.ret ?_
   obtain rfl := Option.some.inj h
   exact Kn.D Fm
 ·have h := br_f h i
  refine AW.skip ?_
  refine AW.seq ?_
  refine AW.SG0 Fm 1 [(0, vi a), (1, vi c), (13, vb d)] [] ?_
  refine AW.cond (b := d) (by kernel_rfl) (fun l => ?_) (fun l => ?_)
  ·have h := br_t h l
   refine AW.SG0 Fm 1 [(4, vi (1 : Int))] [] ?_
   refine AW.ret ?_
   obtain rfl := Option.some.inj h
   exact Kn.D Fm
  ·have h := br_f h l
   refine AW.skip ?_
   refine AW.seq ?_
   refine AW.SG0 Fm 3 [(0, vi a), (1, vi c), (16, vb (decide (a < c)))] [] ?_
   refine AW.cond (b := (decide (a < c))) (by kernel_rfl) (fun m => ?_) (fun m => ?_)
   ·have h := br_t h m
    refine AW.SG0 Fm 1 [(4, vi (-1 : Int))] [] ?_
    refine AW.ret ?_
    obtain rfl := Option.some.inj h
    exact Kn.D Fm
   ·have h := br_f h m
    refine AW.skip ?_
    refine AW.seq ?_
    refine AW.SG0 Fm 3 [(19, vb (decide (c < a)))] [] ?_
    refine AW.cond (b := (decide (c < a))) (by kernel_rfl) (fun n => ?_) (fun n => ?_)
    ·have h := br_t h n
     refine AW.SG0 Fm 1 [(4, vi (1 : Int))] [] ?_
     refine AW.ret ?_
     obtain rfl := Option.some.inj h
     exact Kn.D Fm
    ·have h := br_f h n
     refine AW.skip ?_
     refine AW.SG0 Fm 1 [(4, vi (0 : Int))] [] ?_
     refine AW.ret ?_
     obtain rfl := Option.some.inj h
     exact Kn.D Fm
theorem region_Row_1_spec {F : Nat} {a : Span} {b : Span} {r : Int} (h : region_Row_1 F a b = some r) :
  FSpec Tryz.prog 176 [gE a, gE b] [] (vi r) [] := by
 refine FSpec.intro prog_mixed prog_lay Tryz.func176 rfl (by kernel_rfl) fun C Fm => ?_
 unfold region_Row_1 at h
 refine AW.SG0 Fm 3 [(2, pt 2), (3, pt 3)] [(2, bx (gC a)), (3, bx (gC b))] ?_
 refine AW.seq ?_
 obtain ⟨c, d, h⟩ := bd_some h
 refine AW.G Fm [.s, .s, .s, .s, .k (cE [] [] (vi c) [] []), .s] (fun K => K 4 ∧ True) [(4, vi c)] [] ⟨KAt.CC (cmp_Compare_int_spec d) Tryz.call61 [], ⟨⟩⟩ ?_
 refine AW.ret ?_
 obtain rfl := Option.some.inj h
 exact Kn.D Fm
theorem region_Row_spec {F : Nat} {a : (List Rect)} {o : Int} {r : (List Span)} (h : region_Row F a o = some r) :
  FSpec Tryz.prog 141 [AL a, vi o] [] (AL (α := Span) r) [] := by
 refine FSpec.intro prog_mixed prog_lay Tryz.func141 rfl (by kernel_rfl) fun C Fm => ?_
 unfold region_Row at h
 refine AW.SG0 Fm 1 [(0, AL a), (1, vi o)] [] ?_
 refine AW.SG Fm [.m] (fun K => True) [(0, AL a), (1, vi o), (5, ow 5)] [(5, .arr 2 (0) (fun _ => []))] True.intro ?_
 refine Kn.wk [(0, AL a), (1, vi o), (5, ow 5)] [(5, AO (α := Span) ([] : List Span))] (FE.refl _) (⟨rfl, OLe.is ((Is.nil (α := Span))), ⟨⟩⟩) ?_
 refine AW.join (r := r) (fun z : (List Span) => region_Row_k3 F z) (fun z => [(5, ow 5)]) (fun z => [(5, AO z)]) (fun s0 h => ?_) (fun B0 b0 => ?_)
 ·refine AW.seq ?_
  obtain ⟨e, p0, h⟩ := bd_some h
  refine AW.G Fm [.s, .k (cE [(0, 5)] [] (.any) [(0, AO s0)] [(0, AO e)])] (fun K => K 1 ∧ True) [(5, ow 5)] [(5, AO e)] ⟨KAt.callX (sortF_spec p0) Tryz.call175 [(0, 5)] [] [.tmp 37, .func 176] rfl (by kernel_rfl) (by kernel_rfl) (by kernel_rfl) ⟨.p, ArgT.cloX Tryz.call176 [] (fun args r hq => by obtain ⟨y0, y1, y, hq, rfl, rfl⟩ := hq; exact Eq.mp (by kernel_rfl) (region_Row_1_spec hq)) (fun args r hq => by obtain ⟨y0, y1, y, hq, rfl, rfl⟩ := hq; rfl) (by kernel_rfl) [] (by kernel_rfl) (by kernel_rfl) (True.intro) (by kernel_rfl), ⟨⟩⟩, ⟨⟩⟩ ?_
  refine AW.SG Fm [.m] (fun K => True) [(5, ow 5), (8, ow 8)] [(5, AO e), (8, .arr 2 (0) (fun _ => []))] True.intro ?_
  refine Kn.wk [(5, ow 5), (8, ow 8)] [(5, AO e), (8, AO (α := Span) ([] : List Span))] (FE.refl _) (⟨rfl, OLe.refl _, ⟨rfl, OLe.is ((Is.nil (α := Span))), ⟨⟩⟩⟩) ?_
  refine AW.join (r := r) (fun z : (List Span) => region_Row_k7 F z) (fun z => [(8, ow 8)]) (fun z => [(8, AO z)]) (fun L h => ?_) (fun H0 d0 => ?_)
  ·refine AW.SG0 Fm 2 [(4, ow 8)] [(8, AO L)] ?_
   refine AW.ret ?_
   obtain rfl := Option.some.inj h
   refine Kn.r Fm [(4, ow 8)] [(8, AO L)] (by kernel_rfl) ?_
   refine Kn.frz [(4, AL L)] [] (by kernel_rfl) (by kernel_rfl) (by kernel_rfl) ?_
   exact Kn.D Fm
  ·refine AW.SG0 Fm 3 [(8, ow 8), (39, ow 5), (40, vi ((List.length e : Nat) : Int)), (41, vi (0 : Int))] [(5, AO e), (8, AO (α := Span) ([] : List Span))] ?_
   refine AW.block ?_
   refine Kn.r Fm [(8, ow 8), (39, ow 5), (40, vi ((List.length e : Nat) : Int)), (41, vi (0 : Int))] [(5, AO e), (8, AO ([] : List Span))] (by kernel_rfl) ?_
   refine AW.loopF (E' := fun z => [(8, ow 8), (39, ow 5), (40, vi ((List.length e : Nat) : Int)), (41, vi z.1)]) (S' := fun z => [(5, AO e), (8, AO z.2)]) (fun N z D0 c0 h => ?_) h
   obtain ⟨n, l⟩ := z
   refine AW.SG0 Fm 1 [(8, ow 8), (39, ow 5), (40, vi ((List.length e : Nat) : Int)), (41, vi n), (42, vb (decide (n < ((List.length e : Nat) : Int))))] [(5, AO e), (8, AO l)] ?_
   refine AW.seq ?_
   refine AW.cond (b := (decide (n < ((List.length e : Nat) : Int)))) (by kernel_rfl) (fun E => ?_) (fun E => ?_)
   ·have h := br_t h E
    refine AW.skip ?_
    refine AW.join (r := r) (fun z : (List Span) => region_Row_k6 F n N z) (fun z => [(8, ow 8), (39, ow 5), (40, vi ((List.length e : Nat) : Int)), (41, vi n)]) (fun z => [(5, AO e), (8, AO z)]) (fun Z h => ?_) (fun G0 U => ?_)
    ·obtain ⟨o0, h⟩ := gd_some h
     refine AW.G Fm [.s, .s] (fun K => (I64 (n + (1 : Int)) ∧ True) ∧ True) [(8, ow 8), (39, ow 5), (40, vi ((List.length e : Nat) : Int)), (41, vi (n + (1 : Int)))] [(5, AO e), (8, AO Z)] ⟨⟨o0, ⟨⟩⟩, ⟨⟩⟩ ?_
     exact Kn.R Fm (c0 ((n + (1 : Int)), Z) h)
    ·refine AW.block ?_
     obtain ⟨V, h⟩ := gd_some h
     refine AW.SG Fm [.s, .s, .s, .s] (fun K => _ ∧ (n.toNat < List.length e) ∧ True) [(8, ow 8), (10, pt 10), (39, ow 5), (40, vi ((List.length e : Nat) : Int)), (41, vi n)] [(5, AO e), (8, AO l), (10, bx [ci ((gl e n.toNat).left_), ci ((gl e n.toNat).right_)])] ⟨V, (toNat_lt V), ⟨⟩⟩ ?_
     refine AW.SG0 Fm 3 [(8, ow 8), (10, pt 10), (11, vi ((List.length l : Nat) : Int)), (39, ow 5), (40, vi ((List.length e : Nat) : Int)), (41, vi n)] [(5, AO e), (8, AO l), (10, bx [ci ((gl e n.toNat).left_), ci ((gl e n.toNat).right_)])] ?_
     refine AW.join (r := r) (fun z : Bool => region_Row_k5 F e n l N z) (fun z => [(8, ow 8), (10, pt 10), (11, vi ((List.length l : Nat) : Int)), (39, ow 5), (40, vi ((List.length e : Nat) : Int)), (41, vi n), (59, vb z)]) (fun z => [(5, AO e), (8, AO l), (10, bx [ci ((gl e n.toNat).left_), ci ((gl e n.toNat).right_)])]) (fun t0 h => ?_) (fun E0 T => ?_)
     ·refine AW.cond (b := t0) (by kernel_rfl) (fun H => ?_) (fun H => ?_)
      ·have h := br_t h H
       obtain ⟨l0, h⟩ := gd_some h
       obtain ⟨m0, h⟩ := gd_some h
       obtain ⟨X, h⟩ := gd_some h
       obtain ⟨I, h⟩ := gd_some h
       refine AW.G Fm [.s, .s, .s, .s, .s, .s, .s, .s, .s, .s, .s, .s, .s, .s, .s] (fun K => (I64 (((List.length l : Nat) : Int) - (1 : Int)) ∧ True) ∧ (I64 (((List.length l : Nat) : Int) - (1 : Int)) ∧ True) ∧ _ ∧ ((((List.length l : Nat) : Int) - (1 : Int)).toNat < List.length l) ∧ _ ∧ ((((List.length l : Nat) : Int) - (1 : Int)).toNat < List.length l) ∧ True) [(8, ow 8), (39, ow 5), (40, vi ((List.length e : Nat) : Int)), (41, vi n)] [(5, AO e), (8, .arr 2 (List.length (α := Span) l) (fun j => if j = (((List.length l : Nat) : Int) - (1 : Int)).toNat then splice ((LF (α := Span) l) (((List.length l : Nat) : Int) - (1 : Int)).toNat) 1 [.int .i64 (gmax ((gl l (((List.length l : Nat) : Int) - (1 : Int)).toNat).right_) ((gl e n.toNat).right_))] else (LF (α := Span) l) j))] ⟨⟨l0, ⟨⟩⟩, ⟨m0, ⟨⟩⟩, X, (toNat_lt X), I, (toNat_lt I), ⟨⟩⟩ ?_
       refine Kn.wk [(8, ow 8), (39, ow 5), (40, vi ((List.length e : Nat) : Int)), (41, vi n)] [(5, AO e), (8, AO (α := Span) (List.set l (((List.length l : Nat) : Int) - (1 : Int)).toNat (⟨(gl l (((List.length l : Nat) : Int) - (1 : Int)).toNat).left_, (gmax ((gl l (((List.length l : Nat) : Int) - (1 : Int)).toNat).right_) ((gl e n.toNat).right_))⟩ : Span)))] (FE.refl _) (⟨rfl, OLe.refl _, ⟨rfl, OLe.is (Is.set (Is.refl l) (toNat_lt I) (⟨(gl l (((List.length l : Nat) : Int) - (1 : Int)).toNat).left_, (gmax ((gl l (((List.length l : Nat) : Int) - (1 : Int)).toNat).right_) ((gl e n.toNat).right_))⟩ : Span) (by kernel_rfl)), ⟨⟩⟩⟩) ?_
       exact Kn.R Fm (U (List.set l (((List.length l : Nat) : Int) - (1 : Int)).toNat (⟨(gl l (((List.length l : Nat) : Int) - (1 : Int)).toNat).left_, (gmax ((gl l (((List.length l : Nat) : Int) - (1 : Int)).toNat).right_) ((gl e n.toNat).right_))⟩ : Span)) h)
      ·have h := br_f h H
       obtain ⟨n0, h⟩ := gd_some h
       refine AW.G Fm [.s, .s, .w (AL (α := Span) ([(gl e n.toNat)] : List Span)), .s, .s] (fun K => (ALe (.v (.c (.d (.lst 1 (litF 2 [.int .i64 (gl e n.toNat).left_, .int .i64 (gl e n.toNat).right_]))))) (AL (α := Span) ([(gl e n.toNat)] : List Span))) ∧ ((List.length (α := Span) l) + (List.length (α := Span) ([(gl e n.toNat)] : List Span)) ≤ LIM ∧ (∀ j, j < List.length (α := Span) ([(gl e n.toNat)] : List Span) → ((LF (α := Span) ([(gl e n.toNat)] : List Span)) j).length = 2) ∧ (True)) ∧ True) [(8, ow 77), (39, ow 5), (40, vi ((List.length e : Nat) : Int)), (41, vi n)] [(5, AO e), (77, .arr 2 ((List.length (α := Span) l) + (List.length (α := Span) ([(gl e n.toNat)] : List Span))) (appF (List.length (α := Span) l) (LF (α := Span) l) (LF (α := Span) ([(gl e n.toNat)] : List Span))))] ⟨ALe.lst (.lit ([(gl e n.toNat)] : List Span) (by kernel_rfl)), ⟨n0, (Is.refl ([(gl e n.toNat)] : List Span) : Is (List.length (α := Span) ([(gl e n.toNat)] : List Span)) (LF (α := Span) ([(gl e n.toNat)] : List Span)) ([(gl e n.toNat)] : List Span)).len, ⟨⟩⟩, ⟨⟩⟩ ?_
       refine Kn.wk [(8, ow 77), (39, ow 5), (40, vi ((List.length e : Nat) : Int)), (41, vi n)] [(5, AO e), (77, AO (α := Span) (l ++ ([(gl e n.toNat)] : List Span)))] (FE.refl _) (⟨rfl, OLe.refl _, ⟨rfl, OLe.is (Is.app (Is.refl l) (Is.refl ([(gl e n.toNat)] : List Span))), ⟨⟩⟩⟩) ?_
       exact Kn.RE Fm [(8, 77)] (U (l ++ ([(gl e n.toNat)] : List Span)) h)
     ·rcases Bool.eq_false_or_eq_true (decide ((0 : Int) < ((List.length l : Nat) : Int))) with u | u
      ·have h := br_t h u
       obtain ⟨k0, h⟩ := gd_some h
       obtain ⟨W, h⟩ := gd_some h
       refine AW.G Fm [.s, .s, .w (vb true), .s, .s, .s, .s, .s, .s, .s, .s, .s, .s] (fun K => (ALe (vb (decide ((0 : Int) < ((List.length l : Nat) : Int)))) (vb true)) ∧ (I64 (((List.length l : Nat) : Int) - (1 : Int)) ∧ True) ∧ _ ∧ ((((List.length l : Nat) : Int) - (1 : Int)).toNat < List.length l) ∧ True) [(8, ow 8), (10, pt 10), (11, vi ((List.length l : Nat) : Int)), (39, ow 5), (40, vi ((List.length e : Nat) : Int)), (41, vi n), (50, pt 10), (51, vi (gl e n.toNat).left_), (52, ow 8), (53, vi ((List.length l : Nat) : Int)), (54, vi (((List.length l : Nat) : Int) - (1 : Int))), (55, .v (.c (.pte 8 2 ((((List.length l : Nat) : Int) - (1 : Int)).toNat) 0))), (56, .v (.c (.pte 8 2 ((((List.length l : Nat) : Int) - (1 : Int)).toNat) 1))), (57, vi (gl l (((List.length l : Nat) : Int) - (1 : Int)).toNat).right_), (58, vb (decide (((gl e n.toNat).left_) ≤ ((gl l (((List.length l : Nat) : Int) - (1 : Int)).toNat).right_)))), (59, vb (decide (((gl e n.toNat).left_) ≤ ((gl l (((List.length l : Nat) : Int) - (1 : Int)).toNat).right_))))] [(5, AO e), (8, AO l), (10, bx [ci ((gl e n.toNat).left_), ci ((gl e n.toNat).right_)])] ⟨ALe.bool u, ⟨k0, ⟨⟩⟩, W, (toNat_lt W), ⟨⟩⟩ ?_
       exact Kn.R Fm (T (decide (((gl e n.toNat).left_) ≤ ((gl l (((List.length l : Nat) : Int) - (1 : Int)).toNat).right_))) h)
      ·have h := br_f h u
       refine AW.G Fm [.s, .s, .w (vb false), .s, .s, .s, .s, .s, .s, .s, .s, .s, .s] (fun K => (ALe (vb (decide ((0 : Int) < ((List.length l : Nat) : Int)))) (vb false)) ∧ True) [(8, ow 8), (10, pt 10), (11, vi ((List.length l : Nat) : Int)), (39, ow 5), (40, vi ((List.length e : Nat) : Int)), (41, vi n), (59, vb false)] [(5, AO e), (8, AO l), (10, bx [ci ((gl e n.toNat).left_), ci ((gl e n.toNat).right_)])] ⟨ALe.bool u, ⟨⟩⟩ ?_
       exact Kn.R Fm (T false h)
   ·have h := br_f h E
    refine AW.exit ?_
    exact Kn.R Fm (d0 l h)
 ·refine AW.SG0 Fm 3 [(1, vi o), (5, ow 5), (12, AL a), (13, vi ((List.length a : Nat) : Int)), (14, vi (0 : Int))] [(5, AO (α := Span) ([] : List Span))] ?_
  refine AW.block ?_
  refine Kn.r Fm [(1, vi o), (5, ow 5), (12, AL a), (13, vi ((List.length a : Nat) : Int)), (14, vi (0 : Int))] [(5, AO ([] : List Span))] (by kernel_rfl) ?_
  refine AW.loopF (E' := fun z => [(1, vi o), (5, ow 5), (12, AL a), (13, vi ((List.length a : Nat) : Int)), (14, vi z.1)]) (S' := fun z => [(5, AO z.2)]) (fun M z u0 a0 h => ?_) h
  obtain ⟨i, q⟩ := z
  refine AW.SG0 Fm 1 [(1, vi o), (5, ow 5), (12, AL a), (13, vi ((List.length a : Nat) : Int)), (14, vi i), (15, vb (decide (i < ((List.length a : Nat) : Int))))] [(5, AO q)] ?_
  refine AW.seq ?_
  refine AW.cond (b := (decide (i < ((List.length a : Nat) : Int)))) (by kernel_rfl) (fun A => ?_) (fun A => ?_)
  ·have h := br_t h A
   refine AW.skip ?_
   refine AW.join (r := r) (fun z : (List Span) => region_Row_k2 F i M z) (fun z => [(1, vi o), (5, ow 35), (12, AL a), (13, vi ((List.length a : Nat) : Int)), (14, vi i)]) (fun z => [(35, AO z)]) (fun Y h => ?_) (fun A0 P => ?_)
   ·obtain ⟨j0, h⟩ := gd_some h
    refine AW.G Fm [.s, .s] (fun K => (I64 (i + (1 : Int)) ∧ True) ∧ True) [(1, vi o), (5, ow 35), (12, AL a), (13, vi ((List.length a : Nat) : Int)), (14, vi (i + (1 : Int)))] [(35, AO Y)] ⟨⟨j0, ⟨⟩⟩, ⟨⟩⟩ ?_
    exact Kn.RE Fm [(5, 35)] (a0 ((i + (1 : Int)), Y) h)
   ·refine AW.block ?_
    obtain ⟨e0, h⟩ := gd_some h
    refine AW.SG Fm [.s, .s, .s, .s] (fun K => _ ∧ True) [(1, vi o), (5, ow 5), (7, pt 7), (12, AL a), (13, vi ((List.length a : Nat) : Int)), (14, vi i)] [(5, AO q), (7, bx [ci ((gl a i.toNat).left_), ci ((gl a i.toNat).low_), ci ((gl a i.toNat).right_), ci ((gl a i.toNat).high_)])] ⟨e0, ⟨⟩⟩ ?_
    refine AW.join (r := r) (fun z : Bool => region_Row_k1 F a i q M z) (fun z => [(1, vi o), (5, ow 5), (7, pt 7), (12, AL a), (13, vi ((List.length a : Nat) : Int)), (14, vi i), (27, vb z)]) (fun z => [(5, AO q), (7, bx [ci ((gl a i.toNat).left_), ci ((gl a i.toNat).low_), ci ((gl a i.toNat).right_), ci ((gl a i.toNat).high_)])]) (fun q0 h => ?_) (fun w0 O => ?_)
    ·refine AW.cond (b := q0) (by kernel_rfl) (fun B => ?_) (fun B => ?_)
     ·have h := br_t h B
      obtain ⟨i0, h⟩ := gd_some h
      refine AW.G Fm [.s, .s, .s, .s, .s, .s, .w (AL (α := Span) ([(⟨(gl a i.toNat).left_, (gl a i.toNat).right_⟩ : Span)] : List Span)), .s, .s] (fun K => (ALe (.v (.c (.d (.lst 1 (litF 2 [.int .i64 (gl a i.toNat).left_, .int .i64 (gl a i.toNat).right_]))))) (AL (α := Span) ([(⟨(gl a i.toNat).left_, (gl a i.toNat).right_⟩ : Span)] : List Span))) ∧ ((List.length (α := Span) q) + (List.length (α := Span) ([(⟨(gl a i.toNat).left_, (gl a i.toNat).right_⟩ : Span)] : List Span)) ≤ LIM ∧ (∀ j, j < List.length (α := Span) ([(⟨(gl a i.toNat).left_, (gl a i.toNat).right_⟩ : Span)] : List Span) → ((LF (α := Span) ([(⟨(gl a i.toNat).left_, (gl a i.toNat).right_⟩ : Span)] : List Span)) j).length = 2) ∧ (True)) ∧ True) [(1, vi o), (5, ow 35), (12, AL a), (13, vi ((List.length a : Nat) : Int)), (14, vi i)] [(35, .arr 2 ((List.length (α := Span) q) + (List.length (α := Span) ([(⟨(gl a i.toNat).left_, (gl a i.toNat).right_⟩ : Span)] : List Span))) (appF (List.length (α := Span) q) (LF (α := Span) q) (LF (α := Span) ([(⟨(gl a i.toNat).left_, (gl a i.toNat).right_⟩ : Span)] : List Span))))] ⟨ALe.lst (.lit ([(⟨(gl a i.toNat).left_, (gl a i.toNat).right_⟩ : Span)] : List Span) (by kernel_rfl)), ⟨i0, (Is.refl ([(⟨(gl a i.toNat).left_, (gl a i.toNat).right_⟩ : Span)] : List Span) : Is (List.length (α := Span) ([(⟨(gl a i.toNat).left_, (gl a i.toNat).right_⟩ : Span)] : List Span)) (LF (α := Span) ([(⟨(gl a i.toNat).left_, (gl a i.toNat).right_⟩ : Span)] : List Span)) ([(⟨(gl a i.toNat).left_, (gl a i.toNat).right_⟩ : Span)] : List Span)).len, ⟨⟩⟩, ⟨⟩⟩ ?_
      refine Kn.wk [(1, vi o), (5, ow 35), (12, AL a), (13, vi ((List.length a : Nat) : Int)), (14, vi i)] [(35, AO (α := Span) (q ++ ([(⟨(gl a i.toNat).left_, (gl a i.toNat).right_⟩ : Span)] : List Span)))] (FE.refl _) (⟨rfl, OLe.is (Is.app (Is.refl q) (Is.refl ([(⟨(gl a i.toNat).left_, (gl a i.toNat).right_⟩ : Span)] : List Span))), ⟨⟩⟩) ?_
      exact Kn.R Fm (P (q ++ ([(⟨(gl a i.toNat).left_, (gl a i.toNat).right_⟩ : Span)] : List Span)) h)
     ·have h := br_f h B
      refine AW.skip ?_
      exact Kn.RE Fm [(35, 5)] (P q h)
    ·rcases Bool.eq_false_or_eq_true (decide (((gl a i.toNat).low_) ≤ o)) with t | t
     ·have h := br_t h t
      refine AW.G Fm [.s, .s, .s, .s, .w (vb true), .s, .s, .s, .s, .s] (fun K => (ALe (vb (decide (((gl a i.toNat).low_) ≤ o))) (vb true)) ∧ True) [(1, vi o), (5, ow 5), (7, pt 7), (12, AL a), (13, vi ((List.length a : Nat) : Int)), (14, vi i), (23, vi o), (24, .v (.c (.ptr 7 3))), (25, vi (gl a i.toNat).high_), (26, vb (decide (o < ((gl a i.toNat).high_)))), (27, vb (decide (o < ((gl a i.toNat).high_))))] [(5, AO q), (7, bx [ci ((gl a i.toNat).left_), ci ((gl a i.toNat).low_), ci ((gl a i.toNat).right_), ci ((gl a i.toNat).high_)])] ⟨ALe.bool t, ⟨⟩⟩ ?_
      exact Kn.R Fm (O (decide (o < ((gl a i.toNat).high_))) h)
     ·have h := br_f h t
      refine AW.G Fm [.s, .s, .s, .s, .w (vb false), .s, .s, .s, .s, .s] (fun K => (ALe (vb (decide (((gl a i.toNat).low_) ≤ o))) (vb false)) ∧ True) [(1, vi o), (5, ow 5), (7, pt 7), (12, AL a), (13, vi ((List.length a : Nat) : Int)), (14, vi i), (27, vb false)] [(5, AO q), (7, bx [ci ((gl a i.toNat).left_), ci ((gl a i.toNat).low_), ci ((gl a i.toNat).right_), ci ((gl a i.toNat).high_)])] ⟨ALe.bool t, ⟨⟩⟩ ?_
      exact Kn.R Fm (O false h)
  ·have h := br_f h A
   refine AW.exit ?_
   exact Kn.R Fm (b0 q h)
theorem region_canonical_1_spec {F : Nat} {b : Int} {a : (List Rect)} {r : (List Span)} (h : region_canonical_1 F b a = some r) :
  FSpec Tryz.prog 156 [vi b, pt 0] [(0, .box true [.d (DL a)])] (AL (α := Span) r) [(0, .box true [.d (DL a)])] := by
 refine FSpec.intro prog_mixed prog_lay Tryz.func156 rfl (by kernel_rfl) fun C Fm => ?_
 unfold region_canonical_1 at h
 refine AW.SG0 Fm 1 [(0, vi b), (1, pt 0)] [(0, .box true [.d (DL a)])] ?_
 refine AW.seq ?_
 obtain ⟨c, e, h⟩ := bd_some h
 refine AW.G Fm [.s, .s, .k (cE [] [] (AL c) [] []), .s] (fun K => K 2 ∧ True) [(3, AL c)] [(0, .box true [.d (DL a)])] ⟨KAt.CC (region_Row_spec e) Tryz.call141 [], ⟨⟩⟩ ?_
 refine AW.ret ?_
 obtain rfl := Option.some.inj h
 exact Kn.D Fm
theorem slices_Equal_Span_spec {F : Nat} {a : (List Span)} {d : (List Span)} {r : Bool} (h : slices_Equal_Span F a d = some r) :
  FSpec Tryz.prog 169 [AL a, AL d] [] (vb r) [] := by
 refine FSpec.intro prog_mixed prog_lay Tryz.func169 rfl (by kernel_rfl) fun C Fm => ?_
 unfold slices_Equal_Span at h
 refine AW.SG0 Fm 1 [(0, AL a), (1, AL d)] [] ?_
 refine AW.seq ?_
 refine AW.SG0 Fm 5 [(0, AL a), (1, AL d), (10, vb (((List.length a : Nat) : Int) != ((List.length d : Nat) : Int)))] [] ?_
 refine AW.cond (b := (((List.length a : Nat) : Int) != ((List.length d : Nat) : Int))) (by kernel_rfl) (fun e => ?_) (fun e => ?_)
 ·have h := br_t h e
  refine AW.SG0 Fm 1 [(4, vb false)] [] ?_
  refine AW.ret ?_
  obtain rfl := Option.some.inj h
  exact Kn.D Fm
 ·have h := br_f h e
  refine AW.skip ?_
  refine AW.join (r := r) (fun z : Unit => slices_Equal_Span_k1 F) (fun z => []) (fun z => []) (fun z h => ?_) (fun t m => ?_)
  ·refine AW.SG0 Fm 1 [(4, vb true)] [] ?_
   refine AW.ret ?_
   obtain rfl := Option.some.inj h
   exact Kn.D Fm
  ·refine AW.SG0 Fm 3 [(0, AL a), (1, AL d), (12, vi ((List.length a : Nat) : Int)), (13, vi (0 : Int))] [] ?_
   refine AW.block ?_
   refine Kn.r Fm [(0, AL a), (1, AL d), (12, vi ((List.length a : Nat) : Int)), (13, vi (0 : Int))] [] (by kernel_rfl) ?_
   refine AW.loopF (E' := fun z => [(0, AL a), (1, AL d), (12, vi ((List.length a : Nat) : Int)), (13, vi z)]) (S' := fun z => []) (fun u c q l h => ?_) h
   refine AW.SG0 Fm 1 [(0, AL a), (1, AL d), (12, vi ((List.length a : Nat) : Int)), (13, vi c), (14, vb (decide (c < ((List.length a : Nat) : Int))))] [] ?_
   refine AW.seq ?_
   refine AW.cond (b := (decide (c < ((List.length a : Nat) : Int)))) (by kernel_rfl) (fun i => ?_) (fun i => ?_)
   ·have h := br_t h i
    refine AW.skip ?_
    refine AW.seq ?_
    refine AW.block ?_
    refine AW.SG0 Fm 2 [(0, AL a), (1, AL d), (5, vi c), (12, vi ((List.length a : Nat) : Int)), (13, vi c)] [] ?_
    obtain ⟨n, h⟩ := gd_some h
    obtain ⟨o, h⟩ := gd_some h
    refine AW.SG Fm [.s, .s, .s, .s, .s, .s, .s, .s, .k (sE (vb (!((((gl a c.toNat).left_) == ((gl d c.toNat).left_)) && ((((gl a c.toNat).right_) == ((gl d c.toNat).right_)) && true)))))] (fun K => _ ∧ _ ∧ K 8 ∧ True) [(0, AL a), (1, AL d), (12, vi ((List.length a : Nat) : Int)), (13, vi c), (24, vb (!((((gl a c.toNat).left_) == ((gl d c.toNat).left_)) && ((((gl a c.toNat).right_) == ((gl d c.toNat).right_)) && true))))] [] ⟨n, o, KAt.eq (xs := [ci ((gl a c.toNat).left_), ci ((gl a c.toNat).right_)]) (ys := [ci ((gl d c.toNat).left_), ci ((gl d c.toNat).right_)]) eqT182 false (b := ((((gl a c.toNat).left_) == ((gl d c.toNat).left_)) && ((((gl a c.toNat).right_) == ((gl d c.toNat).right_)) && true))) rfl rfl (by kernel_rfl) (by kernel_rfl) (by kernel_rfl) (by kernel_rfl), ⟨⟩⟩ ?_
    refine AW.cond (b := (!((((gl a c.toNat).left_) == ((gl d c.toNat).left_)) && ((((gl a c.toNat).right_) == ((gl d c.toNat).right_)) && true)))) (by kernel_rfl) (fun j => ?_) (fun j => ?_)
    ·have h := br_t h j
     refine AW.SG0 Fm 1 [(4, vb false)] [] ?_
     refine AW.ret ?_
     obtain rfl := Option.some.inj h
     exact Kn.D Fm
    ·have h := br_f h j
     refine AW.skip ?_
     obtain ⟨p, h⟩ := gd_some h
     refine AW.G Fm [.s, .s] (fun K => (I64 (c + (1 : Int)) ∧ True) ∧ True) [(0, AL a), (1, AL d), (12, vi ((List.length a : Nat) : Int)), (13, vi (c + (1 : Int)))] [] ⟨⟨p, ⟨⟩⟩, ⟨⟩⟩ ?_
     exact Kn.R Fm (l (c + (1 : Int)) h)
   ·have h := br_f h i
    refine AW.exit ?_
    exact Kn.R Fm (m () h)
theorem region_rects_spec {F : Nat} {a : (List Band)} {r : (List Rect)} (h : region_rects F a = some r) :
  FSpec Tryz.prog 170 [AL a] [] (AL (α := Rect) r) [] := by
 refine FSpec.intro prog_mixed prog_lay Tryz.func170 rfl (by kernel_rfl) fun C Fm => ?_
 unfold region_rects at h
 refine AW.SG0 Fm 1 [(0, AL a)] [] ?_
 refine AW.SG Fm [.m] (fun K => True) [(0, AL a), (3, ow 3)] [(3, .arr 4 (0) (fun _ => []))] True.intro ?_
 refine Kn.wk [(0, AL a), (3, ow 3)] [(3, AO (α := Rect) ([] : List Rect))] (FE.refl _) (⟨rfl, OLe.is ((Is.nil (α := Rect))), ⟨⟩⟩) ?_
 refine AW.join (r := r) (fun z : (List Rect) => region_rects_k3 F z) (fun z => [(3, ow 3)]) (fun z => [(3, AO z)]) (fun p h => ?_) (fun T B => ?_)
 ·refine AW.SG0 Fm 2 [(2, ow 3)] [(3, AO p)] ?_
  refine AW.ret ?_
  obtain rfl := Option.some.inj h
  refine Kn.r Fm [(2, ow 3)] [(3, AO p)] (by kernel_rfl) ?_
  refine Kn.frz [(2, AL p)] [] (by kernel_rfl) (by kernel_rfl) (by kernel_rfl) ?_
  exact Kn.D Fm
 ·refine AW.SG0 Fm 3 [(3, ow 3), (8, AL a), (9, vi ((List.length a : Nat) : Int)), (10, vi (0 : Int))] [(3, AO (α := Rect) ([] : List Rect))] ?_
  refine AW.block ?_
  refine Kn.r Fm [(3, ow 3), (8, AL a), (9, vi ((List.length a : Nat) : Int)), (10, vi (0 : Int))] [(3, AO ([] : List Rect))] (by kernel_rfl) ?_
  refine AW.loopF (E' := fun z => [(3, ow 3), (8, AL a), (9, vi ((List.length a : Nat) : Int)), (10, vi z.1)]) (S' := fun z => [(3, AO z.2)]) (fun t z N u h => ?_) h
  obtain ⟨e, l⟩ := z
  refine AW.SG0 Fm 1 [(3, ow 3), (8, AL a), (9, vi ((List.length a : Nat) : Int)), (10, vi e), (11, vb (decide (e < ((List.length a : Nat) : Int))))] [(3, AO l)] ?_
  refine AW.seq ?_
  refine AW.cond (b := (decide (e < ((List.length a : Nat) : Int)))) (by kernel_rfl) (fun n => ?_) (fun n => ?_)
  ·have h := br_t h n
   refine AW.skip ?_
   refine AW.join (r := r) (fun z : (List Rect) => region_rects_k2 F e t z) (fun z => [(3, ow 3), (8, AL a), (9, vi ((List.length a : Nat) : Int)), (10, vi e)]) (fun z => [(3, AO z)]) (fun q h => ?_) (fun P A => ?_)
   ·obtain ⟨M, h⟩ := gd_some h
    refine AW.G Fm [.s, .s] (fun K => (I64 (e + (1 : Int)) ∧ True) ∧ True) [(3, ow 3), (8, AL a), (9, vi ((List.length a : Nat) : Int)), (10, vi (e + (1 : Int)))] [(3, AO q)] ⟨⟨M, ⟨⟩⟩, ⟨⟩⟩ ?_
    exact Kn.R Fm (u ((e + (1 : Int)), q) h)
   ·refine AW.block ?_
    obtain ⟨E, h⟩ := gd_some h
    refine AW.SG Fm [.s, .s, .s, .s] (fun K => _ ∧ True) [(3, ow 3), (5, pt 5), (8, AL a), (9, vi ((List.length a : Nat) : Int)), (10, vi e)] [(3, AO l), (5, bx [ci ((gl a e.toNat).low_), ci ((gl a e.toNat).high_), .d (DL (α := Span) (gl a e.toNat).spans_)])] ⟨E, ⟨⟩⟩ ?_
    refine AW.SG0 Fm 4 [(3, ow 3), (5, pt 5), (8, AL a), (9, vi ((List.length a : Nat) : Int)), (10, vi e), (15, AL (α := Span) (gl a e.toNat).spans_), (16, vi ((List.length ((gl a e.toNat).spans_) : Nat) : Int)), (17, vi (0 : Int))] [(3, AO l), (5, bx [ci ((gl a e.toNat).low_), ci ((gl a e.toNat).high_), .d (DL (α := Span) (gl a e.toNat).spans_)])] ?_
    refine AW.block ?_
    refine Kn.r Fm [(3, ow 3), (5, pt 5), (8, AL a), (9, vi ((List.length a : Nat) : Int)), (10, vi e), (15, AL (α := Span) (gl a e.toNat).spans_), (16, vi ((List.length ((gl a e.toNat).spans_) : Nat) : Int)), (17, vi (0 : Int))] [(3, AO l), (5, bx [ci ((gl a e.toNat).low_), ci ((gl a e.toNat).high_), .d (DL (α := Span) (gl a e.toNat).spans_)])] (by kernel_rfl) ?_
    refine AW.loopF (E' := fun z => [(3, ow 3), (5, pt 5), (8, AL a), (9, vi ((List.length a : Nat) : Int)), (10, vi e), (15, AL (α := Span) (gl a e.toNat).spans_), (16, vi ((List.length ((gl a e.toNat).spans_) : Nat) : Int)), (17, vi z.1)]) (S' := fun z => [(3, AO z.2), (5, bx [ci ((gl a e.toNat).low_), ci ((gl a e.toNat).high_), .d (DL (α := Span) (gl a e.toNat).spans_)])]) (fun U z O y h => ?_) h
    obtain ⟨i, k⟩ := z
    refine AW.SG0 Fm 1 [(3, ow 3), (5, pt 5), (8, AL a), (9, vi ((List.length a : Nat) : Int)), (10, vi e), (15, AL (α := Span) (gl a e.toNat).spans_), (16, vi ((List.length ((gl a e.toNat).spans_) : Nat) : Int)), (17, vi i), (18, vb (decide (i < ((List.length ((gl a e.toNat).spans_) : Nat) : Int))))] [(3, AO k), (5, bx [ci ((gl a e.toNat).low_), ci ((gl a e.toNat).high_), .d (DL (α := Span) (gl a e.toNat).spans_)])] ?_
    refine AW.seq ?_
    refine AW.cond (b := (decide (i < ((List.length ((gl a e.toNat).spans_) : Nat) : Int)))) (by kernel_rfl) (fun o => ?_) (fun o => ?_)
    ·have h := br_t h o
     refine AW.skip ?_
     refine AW.seq ?_
     refine AW.block ?_
     obtain ⟨H, h⟩ := gd_some h
     refine AW.SG Fm [.s, .s, .s, .s] (fun K => _ ∧ True) [(3, ow 3), (5, pt 5), (7, pt 7), (8, AL a), (9, vi ((List.length a : Nat) : Int)), (10, vi e), (15, AL (α := Span) (gl a e.toNat).spans_), (16, vi ((List.length ((gl a e.toNat).spans_) : Nat) : Int)), (17, vi i)] [(3, AO k), (5, bx [ci ((gl a e.toNat).low_), ci ((gl a e.toNat).high_), .d (DL (α := Span) (gl a e.toNat).spans_)]), (7, bx [ci ((gl ((gl a e.toNat).spans_) i.toNat).left_), ci ((gl ((gl a e.toNat).spans_) i.toNat).right_)])] ⟨H, ⟨⟩⟩ ?_
     obtain ⟨I, h⟩ := gd_some h
     refine AW.G Fm [.s, .s, .s, .s, .s, .s, .s, .s, .s, .s, .w (AL (α := Rect) ([(⟨(gl ((gl a e.toNat).spans_) i.toNat).left_, (gl a e.toNat).low_, (gl ((gl a e.toNat).spans_) i.toNat).right_, (gl a e.toNat).high_⟩ : Rect)] : List Rect)), .s, .s] (fun K => (ALe (.v (.c (.d (.lst 1 (litF 4 [.int .i64 (gl ((gl a e.toNat).spans_) i.toNat).left_, .int .i64 (gl a e.toNat).low_, .int .i64 (gl ((gl a e.toNat).spans_) i.toNat).right_, .int .i64 (gl a e.toNat).high_]))))) (AL (α := Rect) ([(⟨(gl ((gl a e.toNat).spans_) i.toNat).left_, (gl a e.toNat).low_, (gl ((gl a e.toNat).spans_) i.toNat).right_, (gl a e.toNat).high_⟩ : Rect)] : List Rect))) ∧ ((List.length (α := Rect) k) + (List.length (α := Rect) ([(⟨(gl ((gl a e.toNat).spans_) i.toNat).left_, (gl a e.toNat).low_, (gl ((gl a e.toNat).spans_) i.toNat).right_, (gl a e.toNat).high_⟩ : Rect)] : List Rect)) ≤ LIM ∧ (∀ j, j < List.length (α := Rect) ([(⟨(gl ((gl a e.toNat).spans_) i.toNat).left_, (gl a e.toNat).low_, (gl ((gl a e.toNat).spans_) i.toNat).right_, (gl a e.toNat).high_⟩ : Rect)] : List Rect) → ((LF (α := Rect) ([(⟨(gl ((gl a e.toNat).spans_) i.toNat).left_, (gl a e.toNat).low_, (gl ((gl a e.toNat).spans_) i.toNat).right_, (gl a e.toNat).high_⟩ : Rect)] : List Rect)) j).length = 4) ∧ (True)) ∧ True) [(3, ow 32), (5, pt 5), (8, AL a), (9, vi ((List.length a : Nat) : Int)), (10, vi e), (15, AL (α := Span) (gl a e.toNat).spans_), (16, vi ((List.length ((gl a e.toNat).spans_) : Nat) : Int)), (17, vi i)] [(5, bx [ci ((gl a e.toNat).low_), ci ((gl a e.toNat).high_), .d (DL (α := Span) (gl a e.toNat).spans_)]), (32, .arr 4 ((List.length (α := Rect) k) + (List.length (α := Rect) ([(⟨(gl ((gl a e.toNat).spans_) i.toNat).left_, (gl a e.toNat).low_, (gl ((gl a e.toNat).spans_) i.toNat).right_, (gl a e.toNat).high_⟩ : Rect)] : List Rect))) (appF (List.length (α := Rect) k) (LF (α := Rect) k) (LF (α := Rect) ([(⟨(gl ((gl a e.toNat).spans_) i.toNat).left_, (gl a e.toNat).low_, (gl ((gl a e.toNat).spans_) i.toNat).right_, (gl a e.toNat).high_⟩ : Rect)] : List Rect))))] ⟨ALe.lst (.lit ([(⟨(gl ((gl a e.toNat).spans_) i.toNat).left_, (gl a e.toNat).low_, (gl ((gl a e.toNat).spans_) i.toNat).right_, (gl a e.toNat).high_⟩ : Rect)] : List Rect) (by kernel_rfl)), ⟨I, (Is.refl ([(⟨(gl ((gl a e.toNat).spans_) i.toNat).left_, (gl a e.toNat).low_, (gl ((gl a e.toNat).spans_) i.toNat).right_, (gl a e.toNat).high_⟩ : Rect)] : List Rect) : Is (List.length (α := Rect) ([(⟨(gl ((gl a e.toNat).spans_) i.toNat).left_, (gl a e.toNat).low_, (gl ((gl a e.toNat).spans_) i.toNat).right_, (gl a e.toNat).high_⟩ : Rect)] : List Rect)) (LF (α := Rect) ([(⟨(gl ((gl a e.toNat).spans_) i.toNat).left_, (gl a e.toNat).low_, (gl ((gl a e.toNat).spans_) i.toNat).right_, (gl a e.toNat).high_⟩ : Rect)] : List Rect)) ([(⟨(gl ((gl a e.toNat).spans_) i.toNat).left_, (gl a e.toNat).low_, (gl ((gl a e.toNat).spans_) i.toNat).right_, (gl a e.toNat).high_⟩ : Rect)] : List Rect)).len, ⟨⟩⟩, ⟨⟩⟩ ?_
     refine Kn.wk [(3, ow 32), (5, pt 5), (8, AL a), (9, vi ((List.length a : Nat) : Int)), (10, vi e), (15, AL (α := Span) (gl a e.toNat).spans_), (16, vi ((List.length ((gl a e.toNat).spans_) : Nat) : Int)), (17, vi i)] [(5, bx [ci ((gl a e.toNat).low_), ci ((gl a e.toNat).high_), .d (DL (α := Span) (gl a e.toNat).spans_)]), (32, AO (α := Rect) (k ++ ([(⟨(gl ((gl a e.toNat).spans_) i.toNat).left_, (gl a e.toNat).low_, (gl ((gl a e.toNat).spans_) i.toNat).right_, (gl a e.toNat).high_⟩ : Rect)] : List Rect)))] (FE.refl _) (⟨rfl, OLe.refl _, ⟨rfl, OLe.is (Is.app (Is.refl k) (Is.refl ([(⟨(gl ((gl a e.toNat).spans_) i.toNat).left_, (gl a e.toNat).low_, (gl ((gl a e.toNat).spans_) i.toNat).right_, (gl a e.toNat).high_⟩ : Rect)] : List Rect))), ⟨⟩⟩⟩) ?_
     obtain ⟨L, h⟩ := gd_some h
     refine AW.G Fm [.s, .s] (fun K => (I64 (i + (1 : Int)) ∧ True) ∧ True) [(3, ow 32), (5, pt 5), (8, AL a), (9, vi ((List.length a : Nat) : Int)), (10, vi e), (15, AL (α := Span) (gl a e.toNat).spans_), (16, vi ((List.length ((gl a e.toNat).spans_) : Nat) : Int)), (17, vi (i + (1 : Int)))] [(5, bx [ci ((gl a e.toNat).low_), ci ((gl a e.toNat).high_), .d (DL (α := Span) (gl a e.toNat).spans_)]), (32, AO (α := Rect) (k ++ ([(⟨(gl ((gl a e.toNat).spans_) i.toNat).left_, (gl a e.toNat).low_, (gl ((gl a e.toNat).spans_) i.toNat).right_, (gl a e.toNat).high_⟩ : Rect)] : List Rect)))] ⟨⟨L, ⟨⟩⟩, ⟨⟩⟩ ?_
     exact Kn.RE Fm [(3, 32)] (y ((i + (1 : Int)), (k ++ ([(⟨(gl ((gl a e.toNat).spans_) i.toNat).left_, (gl a e.toNat).low_, (gl ((gl a e.toNat).spans_) i.toNat).right_, (gl a e.toNat).high_⟩ : Rect)] : List Rect))) h)
    ·have h := br_f h o
     refine AW.exit ?_
     exact Kn.R Fm (A k h)
  ·have h := br_f h n
   refine AW.exit ?_
   exact Kn.R Fm (B l h)
theorem region_Build_spec {F : Nat} {e : (List Int)} {n : Int → Option (List Span)} {r : (List Rect)} (h : region_Build F e n = some r) :
  FSpec Tryz.prog 137 [AL e, .v (.c (.sem (CloOK Tryz.prog (FR_Int_ListSpan n))))] [] (AL (α := Rect) r) [] := by
 refine FSpec.intro prog_mixed prog_lay Tryz.func137 rfl (by kernel_rfl) fun C Fm => ?_
 unfold region_Build at h
 refine AW.SG0 Fm 1 [(0, AL e), (1, .v (.c (.sem (CloOK Tryz.prog (FR_Int_ListSpan n)))))] [] ?_
 refine AW.SG Fm [.m] (fun K => True) [(0, AL e), (1, .v (.c (.sem (CloOK Tryz.prog (FR_Int_ListSpan n))))), (5, ow 5)] [(5, .arr 3 (0) (fun _ => []))] True.intro ?_
 refine Kn.wk [(0, AL e), (1, .v (.c (.sem (CloOK Tryz.prog (FR_Int_ListSpan n))))), (5, ow 5)] [(5, AO (α := Band) ([] : List Band))] (FE.refl _) (⟨rfl, OLe.is ((Is.nil (α := Band))), ⟨⟩⟩) ?_
 refine AW.join (r := r) (fun z : (List Band) => region_Build_k3 F z) (fun z => [(5, ow 5)]) (fun z => [(5, AO z)]) (fun N h => ?_) (fun n0 T => ?_)
 ·refine AW.seq ?_
  refine Kn.r Fm [(5, ow 5)] [(5, AO N)] (by kernel_rfl) ?_
  refine Kn.frz [(5, AL N)] [] (by kernel_rfl) (by kernel_rfl) (by kernel_rfl) ?_
  obtain ⟨O, i0, h⟩ := bd_some h
  refine AW.G Fm [.s, .k (cE [] [] (AL O) [] []), .s] (fun K => K 1 ∧ True) [(4, AL O)] [] ⟨KAt.CC (region_rects_spec i0) Tryz.call170 [], ⟨⟩⟩ ?_
  refine AW.ret ?_
  obtain rfl := Option.some.inj h
  exact Kn.D Fm
 ·refine AW.SG0 Fm 1 [(0, AL e), (1, .v (.c (.sem (CloOK Tryz.prog (FR_Int_ListSpan n))))), (5, ow 5), (6, vi (1 : Int))] [(5, AO (α := Band) ([] : List Band))] ?_
  refine AW.block ?_
  refine Kn.r Fm [(0, AL e), (1, .v (.c (.sem (CloOK Tryz.prog (FR_Int_ListSpan n))))), (5, ow 5), (6, vi (1 : Int))] [(5, AO ([] : List Band))] (by kernel_rfl) ?_
  refine AW.loopF (E' := fun z => [(0, AL e), (1, .v (.c (.sem (CloOK Tryz.prog (FR_Int_ListSpan n))))), (5, ow 5), (6, vi z.1)]) (S' := fun z => [(5, AO z.2)]) (fun E z k0 P h => ?_) h
  obtain ⟨i, a⟩ := z
  refine AW.seq ?_
  refine AW.SG0 Fm 4 [(0, AL e), (1, .v (.c (.sem (CloOK Tryz.prog (FR_Int_ListSpan n))))), (5, ow 5), (6, vi i), (12, vb (decide (i < ((List.length e : Nat) : Int))))] [(5, AO a)] ?_
  refine AW.cond (b := (decide (i < ((List.length e : Nat) : Int)))) (by kernel_rfl) (fun y => ?_) (fun y => ?_)
  ·have h := br_t h y
   refine AW.skip ?_
   refine AW.join (r := r) (fun z : (List Band) => region_Build_k2 F i E z) (fun z => [(0, AL e), (1, .v (.c (.sem (CloOK Tryz.prog (FR_Int_ListSpan n))))), (5, ow 5), (6, vi i)]) (fun z => [(5, AO z)]) (fun M h => ?_) (fun m0 H => ?_)
   ·obtain ⟨c0, h⟩ := gd_some h
    refine AW.G Fm [.s, .s, .s] (fun K => (I64 (i + (1 : Int)) ∧ True) ∧ True) [(0, AL e), (1, .v (.c (.sem (CloOK Tryz.prog (FR_Int_ListSpan n))))), (5, ow 5), (6, vi (i + (1 : Int)))] [(5, AO M)] ⟨⟨c0, ⟨⟩⟩, ⟨⟩⟩ ?_
    exact Kn.R Fm (P ((i + (1 : Int)), M) h)
   ·refine AW.block ?_
    refine AW.seq ?_
    obtain ⟨U, h⟩ := gd_some h
    obtain ⟨V, h⟩ := gd_some h
    obtain ⟨W, h⟩ := gd_some h
    obtain ⟨X, h⟩ := gd_some h
    obtain ⟨Y, h⟩ := gd_some h
    obtain ⟨l, d0, h⟩ := bd_some h
    refine AW.G Fm [.s, .s, .s, .s, .s, .s, .s, .s, .s, .s, .s, .s, .s, .s, .s, .k (sE (AL l)), .s, .s, .s] (fun K => (I64 (i - (1 : Int)) ∧ True) ∧ _ ∧ _ ∧ (I64 (i - (1 : Int)) ∧ True) ∧ _ ∧ K 15 ∧ True) [(0, AL e), (1, .v (.c (.sem (CloOK Tryz.prog (FR_Int_ListSpan n))))), (5, ow 5), (6, vi i), (7, pt 7)] [(5, AO a), (7, bx [ci (gl e (i - (1 : Int)).toNat), ci (gl e i.toNat), .d (DL l)])] ⟨⟨U, ⟨⟩⟩, V, W, ⟨X, ⟨⟩⟩, Y, KAt.sem (F := (FR_Int_ListSpan n)) (args := [vi (gl e (i - (1 : Int)).toNat)]) ⟨(gl e (i - (1 : Int)).toNat), l, d0, rfl, rfl⟩ rfl (by kernel_rfl) (by kernel_rfl) (by kernel_rfl), ⟨⟩⟩ ?_
    refine AW.SG0 Fm 3 [(0, AL e), (1, .v (.c (.sem (CloOK Tryz.prog (FR_Int_ListSpan n))))), (5, ow 5), (6, vi i), (7, pt 7), (8, vi ((List.length a : Nat) : Int))] [(5, AO a), (7, bx [ci (gl e (i - (1 : Int)).toNat), ci (gl e i.toNat), .d (DL l)])] ?_
    refine AW.join (r := r) (fun z : Bool => region_Build_k1 F e i a l E z) (fun z => [(0, AL e), (1, .v (.c (.sem (CloOK Tryz.prog (FR_Int_ListSpan n))))), (5, ow 5), (6, vi i), (7, pt 7), (8, vi ((List.length a : Nat) : Int)), (57, vb z)]) (fun z => [(5, AO a), (7, bx [ci (gl e (i - (1 : Int)).toNat), ci (gl e i.toNat), .d (DL l)])]) (fun j0 h => ?_) (fun l0 u => ?_)
    ·refine AW.cond (b := j0) (by kernel_rfl) (fun A => ?_) (fun A => ?_)
     ·have h := br_t h A
      obtain ⟨a0, h⟩ := gd_some h
      obtain ⟨B, h⟩ := gd_some h
      refine AW.G Fm [.s, .s, .s, .s, .s, .s, .s, .s] (fun K => (I64 (((List.length a : Nat) : Int) - (1 : Int)) ∧ True) ∧ _ ∧ ((((List.length a : Nat) : Int) - (1 : Int)).toNat < List.length a) ∧ True) [(0, AL e), (1, .v (.c (.sem (CloOK Tryz.prog (FR_Int_ListSpan n))))), (5, ow 5), (6, vi i)] [(5, .arr 3 (List.length (α := Band) a) (fun j => if j = (((List.length a : Nat) : Int) - (1 : Int)).toNat then splice ((LF (α := Band) a) (((List.length a : Nat) : Int) - (1 : Int)).toNat) 1 [.int .i64 (gl e i.toNat)] else (LF (α := Band) a) j))] ⟨⟨a0, ⟨⟩⟩, B, (toNat_lt B), ⟨⟩⟩ ?_
      refine Kn.wk [(0, AL e), (1, .v (.c (.sem (CloOK Tryz.prog (FR_Int_ListSpan n))))), (5, ow 5), (6, vi i)] [(5, AO (α := Band) (List.set a (((List.length a : Nat) : Int) - (1 : Int)).toNat (⟨(gl a (((List.length a : Nat) : Int) - (1 : Int)).toNat).low_, (gl e i.toNat), (gl a (((List.length a : Nat) : Int) - (1 : Int)).toNat).spans_⟩ : Band)))] (FE.refl _) (⟨rfl, OLe.is (Is.set (Is.refl a) (toNat_lt B) (⟨(gl a (((List.length a : Nat) : Int) - (1 : Int)).toNat).low_, (gl e i.toNat), (gl a (((List.length a : Nat) : Int) - (1 : Int)).toNat).spans_⟩ : Band) (by kernel_rfl)), ⟨⟩⟩) ?_
      exact Kn.R Fm (H (List.set a (((List.length a : Nat) : Int) - (1 : Int)).toNat (⟨(gl a (((List.length a : Nat) : Int) - (1 : Int)).toNat).low_, (gl e i.toNat), (gl a (((List.length a : Nat) : Int) - (1 : Int)).toNat).spans_⟩ : Band)) h)
     ·have h := br_f h A
      obtain ⟨b0, h⟩ := gd_some h
      refine AW.G Fm [.s, .s, .w (AL (α := Band) ([(⟨(gl e (i - (1 : Int)).toNat), (gl e i.toNat), l⟩ : Band)] : List Band)), .s, .s] (fun K => (ALe (.v (.c (.d (.lst 1 (litF 3 [.int .i64 (gl e (i - (1 : Int)).toNat), .int .i64 (gl e i.toNat), DL l]))))) (AL (α := Band) ([(⟨(gl e (i - (1 : Int)).toNat), (gl e i.toNat), l⟩ : Band)] : List Band))) ∧ ((List.length (α := Band) a) + (List.length (α := Band) ([(⟨(gl e (i - (1 : Int)).toNat), (gl e i.toNat), l⟩ : Band)] : List Band)) ≤ LIM ∧ (∀ j, j < List.length (α := Band) ([(⟨(gl e (i - (1 : Int)).toNat), (gl e i.toNat), l⟩ : Band)] : List Band) → ((LF (α := Band) ([(⟨(gl e (i - (1 : Int)).toNat), (gl e i.toNat), l⟩ : Band)] : List Band)) j).length = 3) ∧ (True)) ∧ True) [(0, AL e), (1, .v (.c (.sem (CloOK Tryz.prog (FR_Int_ListSpan n))))), (5, ow 68), (6, vi i)] [(68, .arr 3 ((List.length (α := Band) a) + (List.length (α := Band) ([(⟨(gl e (i - (1 : Int)).toNat), (gl e i.toNat), l⟩ : Band)] : List Band))) (appF (List.length (α := Band) a) (LF (α := Band) a) (LF (α := Band) ([(⟨(gl e (i - (1 : Int)).toNat), (gl e i.toNat), l⟩ : Band)] : List Band))))] ⟨ALe.lst (.lit ([(⟨(gl e (i - (1 : Int)).toNat), (gl e i.toNat), l⟩ : Band)] : List Band) (by kernel_rfl)), ⟨b0, (Is.refl ([(⟨(gl e (i - (1 : Int)).toNat), (gl e i.toNat), l⟩ : Band)] : List Band) : Is (List.length (α := Band) ([(⟨(gl e (i - (1 : Int)).toNat), (gl e i.toNat), l⟩ : Band)] : List Band)) (LF (α := Band) ([(⟨(gl e (i - (1 : Int)).toNat), (gl e i.toNat), l⟩ : Band)] : List Band)) ([(⟨(gl e (i - (1 : Int)).toNat), (gl e i.toNat), l⟩ : Band)] : List Band)).len, ⟨⟩⟩, ⟨⟩⟩ ?_
      refine Kn.wk [(0, AL e), (1, .v (.c (.sem (CloOK Tryz.prog (FR_Int_ListSpan n))))), (5, ow 68), (6, vi i)] [(68, AO (α := Band) (a ++ ([(⟨(gl e (i - (1 : Int)).toNat), (gl e i.toNat), l⟩ : Band)] : List Band)))] (FE.refl _) (⟨rfl, OLe.is (Is.app (Is.refl a) (Is.refl ([(⟨(gl e (i - (1 : Int)).toNat), (gl e i.toNat), l⟩ : Band)] : List Band))), ⟨⟩⟩) ?_
      exact Kn.RE Fm [(5, 68)] (H (a ++ ([(⟨(gl e (i - (1 : Int)).toNat), (gl e i.toNat), l⟩ : Band)] : List Band)) h)
    ·rcases Bool.eq_false_or_eq_true (decide ((0 : Int) < ((List.length a : Nat) : Int))) with o | o
     ·have h := br_t h o
      obtain ⟨I, h⟩ := gd_some h
      obtain ⟨q, h⟩ := gd_some h
      rcases Bool.eq_false_or_eq_true (((gl a (((List.length a : Nat) : Int) - (1 : Int)).toNat).high_) == (gl e (i - (1 : Int)).toNat)) with p | p
      ·have h := br_t h p
       obtain ⟨Z, h⟩ := gd_some h
       obtain ⟨L, h⟩ := gd_some h
       obtain ⟨t, e0, h⟩ := bd_some h
       refine AW.G Fm [.s, .s, .w (vb true), .s, .s, .s, .s, .s, .s, .s, .s, .s, .s, .w (vb true), .s, .s, .s, .s, .s, .s, .s, .s, .k (cE [] [] (vb t) [] []), .s] (fun K => (ALe (vb (decide ((0 : Int) < ((List.length a : Nat) : Int)))) (vb true)) ∧ (I64 (((List.length a : Nat) : Int) - (1 : Int)) ∧ True) ∧ _ ∧ ((((List.length a : Nat) : Int) - (1 : Int)).toNat < List.length a) ∧ (ALe (vb (((gl a (((List.length a : Nat) : Int) - (1 : Int)).toNat).high_) == (gl e (i - (1 : Int)).toNat))) (vb true)) ∧ (I64 (((List.length a : Nat) : Int) - (1 : Int)) ∧ True) ∧ _ ∧ ((((List.length a : Nat) : Int) - (1 : Int)).toNat < List.length a) ∧ K 22 ∧ True) [(0, AL e), (1, .v (.c (.sem (CloOK Tryz.prog (FR_Int_ListSpan n))))), (5, ow 5), (6, vi i), (7, pt 7), (8, vi ((List.length a : Nat) : Int)), (37, ow 5), (38, vi ((List.length a : Nat) : Int)), (39, vi (((List.length a : Nat) : Int) - (1 : Int))), (40, .v (.c (.pte 5 3 ((((List.length a : Nat) : Int) - (1 : Int)).toNat) 0))), (41, .v (.c (.pte 5 3 ((((List.length a : Nat) : Int) - (1 : Int)).toNat) 1))), (42, vi (gl a (((List.length a : Nat) : Int) - (1 : Int)).toNat).high_), (43, pt 7), (44, vi (gl e (i - (1 : Int)).toNat)), (45, vb (((gl a (((List.length a : Nat) : Int) - (1 : Int)).toNat).high_) == (gl e (i - (1 : Int)).toNat))), (48, ow 5), (49, vi ((List.length a : Nat) : Int)), (50, vi (((List.length a : Nat) : Int) - (1 : Int))), (51, .v (.c (.pte 5 3 ((((List.length a : Nat) : Int) - (1 : Int)).toNat) 0))), (52, .v (.c (.pte 5 3 ((((List.length a : Nat) : Int) - (1 : Int)).toNat) 2))), (53, AL (α := Span) (gl a (((List.length a : Nat) : Int) - (1 : Int)).toNat).spans_), (54, .v (.c (.ptr 7 2))), (55, AL l), (56, vb t), (57, vb t)] [(5, AO a), (7, bx [ci (gl e (i - (1 : Int)).toNat), ci (gl e i.toNat), .d (DL l)])] ⟨ALe.bool o, ⟨I, ⟨⟩⟩, q, (toNat_lt q), ALe.bool p, ⟨Z, ⟨⟩⟩, L, (toNat_lt L), KAt.CC (slices_Equal_Span_spec e0) Tryz.call169 [], ⟨⟩⟩ ?_
       exact Kn.R Fm (u t h)
      ·have h := br_f h p
       refine AW.G Fm [.s, .s, .w (vb true), .s, .s, .s, .s, .s, .s, .s, .s, .s, .s, .w (vb false), .s, .s, .s, .s, .s, .s, .s, .s, .s, .s] (fun K => (ALe (vb (decide ((0 : Int) < ((List.length a : Nat) : Int)))) (vb true)) ∧ (I64 (((List.length a : Nat) : Int) - (1 : Int)) ∧ True) ∧ _ ∧ ((((List.length a : Nat) : Int) - (1 : Int)).toNat < List.length a) ∧ (ALe (vb (((gl a (((List.length a : Nat) : Int) - (1 : Int)).toNat).high_) == (gl e (i - (1 : Int)).toNat))) (vb false)) ∧ True) [(0, AL e), (1, .v (.c (.sem (CloOK Tryz.prog (FR_Int_ListSpan n))))), (5, ow 5), (6, vi i), (7, pt 7), (8, vi ((List.length a : Nat) : Int)), (37, ow 5), (38, vi ((List.length a : Nat) : Int)), (39, vi (((List.length a : Nat) : Int) - (1 : Int))), (40, .v (.c (.pte 5 3 ((((List.length a : Nat) : Int) - (1 : Int)).toNat) 0))), (41, .v (.c (.pte 5 3 ((((List.length a : Nat) : Int) - (1 : Int)).toNat) 1))), (42, vi (gl a (((List.length a : Nat) : Int) - (1 : Int)).toNat).high_), (43, pt 7), (44, vi (gl e (i - (1 : Int)).toNat)), (45, vb (((gl a (((List.length a : Nat) : Int) - (1 : Int)).toNat).high_) == (gl e (i - (1 : Int)).toNat))), (57, vb false)] [(5, AO a), (7, bx [ci (gl e (i - (1 : Int)).toNat), ci (gl e i.toNat), .d (DL l)])] ⟨ALe.bool o, ⟨I, ⟨⟩⟩, q, (toNat_lt q), ALe.bool p, ⟨⟩⟩ ?_
       exact Kn.R Fm (u false h)
     ·have h := br_f h o
      refine AW.G Fm [.s, .s, .w (vb false), .s, .s, .s, .s, .s, .s, .s, .s, .s, .s, .s, .s, .s, .s, .s, .s, .s, .s, .s, .s, .s] (fun K => (ALe (vb (decide ((0 : Int) < ((List.length a : Nat) : Int)))) (vb false)) ∧ True) [(0, AL e), (1, .v (.c (.sem (CloOK Tryz.prog (FR_Int_ListSpan n))))), (5, ow 5), (6, vi i), (7, pt 7), (8, vi ((List.length a : Nat) : Int)), (57, vb false)] [(5, AO a), (7, bx [ci (gl e (i - (1 : Int)).toNat), ci (gl e i.toNat), .d (DL l)])] ⟨ALe.bool o, ⟨⟩⟩ ?_
      exact Kn.R Fm (u false h)
  ·have h := br_f h y
   refine AW.exit ?_
   exact Kn.R Fm (T a h)
theorem region_canonical_spec {F : Nat} {a : (List Rect)} {r : (List Rect)} (h : region_canonical F a = some r) :
  FSpec Tryz.prog 112 [AL a] [] (AL (α := Rect) r) [] := by
 refine FSpec.intro prog_mixed prog_lay Tryz.func112 rfl (by kernel_rfl) fun C Fm => ?_
 unfold region_canonical at h
 refine AW.SG0 Fm 2 [(1, pt 1)] [(1, bx [.d (DL a)])] ?_
 refine AW.seq ?_
 obtain ⟨j, e, h⟩ := bd_some h
 obtain ⟨b, i, h⟩ := bd_some h
 refine AW.G Fm [.s, .w (AL (α := (List Rect)) ([a] : List (List Rect))), .k (cE [] [] (AL j) [] []), .s, .k (cE [] [1] (AL b) [] []), .s] (fun K => (ALe (.v (.c (.d (.lst 1 (litF 1 [DL a]))))) (AL (α := (List Rect)) ([a] : List (List Rect)))) ∧ K 2 ∧ K 4 ∧ True) [(2, AL b)] [] ⟨ALe.lst (.lit ([a] : List (List Rect)) (by kernel_rfl)), KAt.CC (region_Cuts_spec e) Tryz.call138 [], KAt.callX (region_Build_spec i) Tryz.call137 [] [1] [.tmp 5, .tmp 6] rfl (by kernel_rfl) (by kernel_rfl) (by kernel_rfl) ⟨.p, ArgT.cloX Tryz.call156 [[.d (DL a)]] (fun args r hq => by obtain ⟨y0, y, hq, rfl, rfl⟩ := hq; exact Eq.mp (by kernel_rfl) (region_canonical_1_spec hq)) (fun args r hq => by obtain ⟨y0, y, hq, rfl, rfl⟩ := hq; rfl) (by kernel_rfl) [1] (by kernel_rfl) (by kernel_rfl) (⟨⟨false, (by kernel_rfl)⟩, ⟨⟩⟩) (by kernel_rfl), ⟨⟩⟩, ⟨⟩⟩ ?_
 refine AW.ret ?_
 obtain rfl := Option.some.inj h
 exact Kn.D Fm
theorem slices_Equal_Rect_spec {F : Nat} {c : (List Rect)} {d : (List Rect)} {r : Bool} (h : slices_Equal_Rect F c d = some r) :
  FSpec Tryz.prog 111 [AL c, AL d] [] (vb r) [] := by
 refine FSpec.intro prog_mixed prog_lay Tryz.func111 rfl (by kernel_rfl) fun C Fm => ?_
 unfold slices_Equal_Rect at h
 refine AW.SG0 Fm 1 [(0, AL c), (1, AL d)] [] ?_
 refine AW.seq ?_
 refine AW.SG0 Fm 5 [(0, AL c), (1, AL d), (10, vb (((List.length c : Nat) : Int) != ((List.length d : Nat) : Int)))] [] ?_
 refine AW.cond (b := (((List.length c : Nat) : Int) != ((List.length d : Nat) : Int))) (by kernel_rfl) (fun e => ?_) (fun e => ?_)
 ·have h := br_t h e
  refine AW.SG0 Fm 1 [(4, vb false)] [] ?_
  refine AW.ret ?_
  obtain rfl := Option.some.inj h
  exact Kn.D Fm
 ·have h := br_f h e
  refine AW.skip ?_
  refine AW.join (r := r) (fun z : Unit => slices_Equal_Rect_k1 F) (fun z => []) (fun z => []) (fun z h => ?_) (fun t m => ?_)
  ·refine AW.SG0 Fm 1 [(4, vb true)] [] ?_
   refine AW.ret ?_
   obtain rfl := Option.some.inj h
   exact Kn.D Fm
  ·refine AW.SG0 Fm 3 [(0, AL c), (1, AL d), (12, vi ((List.length c : Nat) : Int)), (13, vi (0 : Int))] [] ?_
   refine AW.block ?_
   refine Kn.r Fm [(0, AL c), (1, AL d), (12, vi ((List.length c : Nat) : Int)), (13, vi (0 : Int))] [] (by kernel_rfl) ?_
   refine AW.loopF (E' := fun z => [(0, AL c), (1, AL d), (12, vi ((List.length c : Nat) : Int)), (13, vi z)]) (S' := fun z => []) (fun u a q l h => ?_) h
   refine AW.SG0 Fm 1 [(0, AL c), (1, AL d), (12, vi ((List.length c : Nat) : Int)), (13, vi a), (14, vb (decide (a < ((List.length c : Nat) : Int))))] [] ?_
   refine AW.seq ?_
   refine AW.cond (b := (decide (a < ((List.length c : Nat) : Int)))) (by kernel_rfl) (fun i => ?_) (fun i => ?_)
   ·have h := br_t h i
    refine AW.skip ?_
    refine AW.seq ?_
    refine AW.block ?_
    refine AW.SG0 Fm 2 [(0, AL c), (1, AL d), (5, vi a), (12, vi ((List.length c : Nat) : Int)), (13, vi a)] [] ?_
    obtain ⟨n, h⟩ := gd_some h
    obtain ⟨o, h⟩ := gd_some h
    refine AW.SG Fm [.s, .s, .s, .s, .s, .s, .s, .s, .k (sE (vb (!((((gl c a.toNat).left_) == ((gl d a.toNat).left_)) && ((((gl c a.toNat).low_) == ((gl d a.toNat).low_)) && ((((gl c a.toNat).right_) == ((gl d a.toNat).right_)) && ((((gl c a.toNat).high_) == ((gl d a.toNat).high_)) && true)))))))] (fun K => _ ∧ _ ∧ K 8 ∧ True) [(0, AL c), (1, AL d), (12, vi ((List.length c : Nat) : Int)), (13, vi a), (24, vb (!((((gl c a.toNat).left_) == ((gl d a.toNat).left_)) && ((((gl c a.toNat).low_) == ((gl d a.toNat).low_)) && ((((gl c a.toNat).right_) == ((gl d a.toNat).right_)) && ((((gl c a.toNat).high_) == ((gl d a.toNat).high_)) && true))))))] [] ⟨n, o, KAt.eq (xs := [ci ((gl c a.toNat).left_), ci ((gl c a.toNat).low_), ci ((gl c a.toNat).right_), ci ((gl c a.toNat).high_)]) (ys := [ci ((gl d a.toNat).left_), ci ((gl d a.toNat).low_), ci ((gl d a.toNat).right_), ci ((gl d a.toNat).high_)]) eqT73 false (b := ((((gl c a.toNat).left_) == ((gl d a.toNat).left_)) && ((((gl c a.toNat).low_) == ((gl d a.toNat).low_)) && ((((gl c a.toNat).right_) == ((gl d a.toNat).right_)) && ((((gl c a.toNat).high_) == ((gl d a.toNat).high_)) && true))))) rfl rfl (by kernel_rfl) (by kernel_rfl) (by kernel_rfl) (by kernel_rfl), ⟨⟩⟩ ?_
    refine AW.cond (b := (!((((gl c a.toNat).left_) == ((gl d a.toNat).left_)) && ((((gl c a.toNat).low_) == ((gl d a.toNat).low_)) && ((((gl c a.toNat).right_) == ((gl d a.toNat).right_)) && ((((gl c a.toNat).high_) == ((gl d a.toNat).high_)) && true)))))) (by kernel_rfl) (fun j => ?_) (fun j => ?_)
    ·have h := br_t h j
     refine AW.SG0 Fm 1 [(4, vb false)] [] ?_
     refine AW.ret ?_
     obtain rfl := Option.some.inj h
     exact Kn.D Fm
    ·have h := br_f h j
     refine AW.skip ?_
     obtain ⟨p, h⟩ := gd_some h
     refine AW.G Fm [.s, .s] (fun K => (I64 (a + (1 : Int)) ∧ True) ∧ True) [(0, AL c), (1, AL d), (12, vi ((List.length c : Nat) : Int)), (13, vi (a + (1 : Int)))] [] ⟨⟨p, ⟨⟩⟩, ⟨⟩⟩ ?_
     exact Kn.R Fm (l (a + (1 : Int)) h)
   ·have h := br_f h i
    refine AW.exit ?_
    exact Kn.R Fm (m () h)
theorem region_Valid_spec {F : Nat} {a : Region} {r : Bool} (h : region_Valid F a = some r) :
  FSpec Tryz.prog 55 [.v (.g [.d (DL a.rects_)])] [] (vb r) [] := by
 refine FSpec.intro prog_mixed prog_lay Tryz.func55 rfl (by kernel_rfl) fun C Fm => ?_
 unfold region_Valid at h
 refine AW.SG0 Fm 2 [(1, pt 1)] [(1, bx [.d (DL a.rects_)])] ?_
 refine AW.seq ?_
 refine AW.join (r := r) (fun z : Bool => region_Valid_k0 F a z) (fun z => [(1, pt 1), (11, vb z)]) (fun z => [(1, bx [.d (DL a.rects_)])]) (fun q h => ?_) (fun u j => ?_)
 ·refine AW.cond (b := q) (by kernel_rfl) (fun e => ?_) (fun e => ?_)
  ·have h := br_t h e
   refine AW.SG0 Fm 1 [(2, vb false)] [] ?_
   refine AW.ret ?_
   obtain rfl := Option.some.inj h
   exact Kn.D Fm
  ·have h := br_f h e
   refine AW.skip ?_
   refine AW.seq ?_
   obtain ⟨t, n, h⟩ := bd_some h
   obtain ⟨l, o, h⟩ := bd_some h
   refine AW.G Fm [.s, .s, .k (cE [] [] (AL t) [] []), .s, .s, .k (cE [] [] (vb l) [] []), .s] (fun K => K 2 ∧ K 5 ∧ True) [(2, vb l)] [] ⟨KAt.CC (region_canonical_spec n) Tryz.call112 [], KAt.CC (slices_Equal_Rect_spec o) Tryz.call111 [], ⟨⟩⟩ ?_
   refine AW.ret ?_
   obtain rfl := Option.some.inj h
   exact Kn.D Fm
 ·rcases Bool.eq_false_or_eq_true (decide ((120 : Int) < ((List.length a.rects_ : Nat) : Int))) with c | c
  ·have h := br_t h c
   refine AW.G Fm [.s, .s, .s, .s, .w (vb true), .s, .s, .s, .s] (fun K => (ALe (vb (decide ((120 : Int) < ((List.length a.rects_ : Nat) : Int)))) (vb true)) ∧ True) [(1, pt 1), (11, vb true)] [(1, bx [.d (DL a.rects_)])] ⟨ALe.bool c, ⟨⟩⟩ ?_
   exact Kn.R Fm (j true h)
  ·have h := br_f h c
   obtain ⟨i, m, h⟩ := bd_some h
   refine AW.G Fm [.s, .s, .s, .s, .w (vb false), .s, .s, .k (cE [] [] (vb i) [] []), .s] (fun K => (ALe (vb (decide ((120 : Int) < ((List.length a.rects_ : Nat) : Int)))) (vb false)) ∧ K 7 ∧ True) [(1, pt 1), (11, vb i)] [(1, bx [.d (DL a.rects_)])] ⟨ALe.bool c, KAt.callX (slices_ContainsFunc_Rect_spec m) Tryz.call108 [] [] [.tmp 9, .func 109] rfl (by kernel_rfl) (by kernel_rfl) (by kernel_rfl) ⟨.p, ArgT.cloX Tryz.call109 [] (fun args r hq => by obtain ⟨y0, y, hq, rfl, rfl⟩ := hq; exact Eq.mp (by kernel_rfl) (region_Valid_1_spec hq)) (fun args r hq => by obtain ⟨y0, y, hq, rfl, rfl⟩ := hq; rfl) (by kernel_rfl) [] (by kernel_rfl) (by kernel_rfl) (True.intro) (by kernel_rfl), ⟨⟩⟩, ⟨⟩⟩ ?_
   exact Kn.R Fm (j i h)
theorem region_Limited_spec {F : Nat} {a : (List Rect)} {r : Region × Int} (h : region_Limited F a = some r) :
  FSpec Tryz.prog 98 [AL a] [] (.t [.g [.d (DL (α := Rect) r.1.rects_)], .c (ci r.2)]) [] := by
 refine FSpec.intro prog_mixed prog_lay Tryz.func98 rfl (by kernel_rfl) fun C Fm => ?_
 unfold region_Limited at h
 refine AW.SG0 Fm 2 [(0, AL a), (2, pt 2)] [(2, bx [.fl 0 fun _ => []])] ?_
 refine AW.seq ?_
 refine AW.SG0 Fm 3 [(0, AL a), (2, pt 2), (6, vb (decide ((120 : Int) < ((List.length a : Nat) : Int))))] [(2, bx [.fl 0 fun _ => []])] ?_
 refine AW.cond (b := (decide ((120 : Int) < ((List.length a : Nat) : Int)))) (by kernel_rfl) (fun e => ?_) (fun e => ?_)
 ·have h := br_t h e
  refine AW.SG Fm [.w (.v (.g [.d (DL (α := Rect) [])])), .s, .s] (fun K => (ALe (.v (.g [.fl 0 fun _ => []])) (.v (.g [.d (DL (α := Rect) [])]))) ∧ True) [(2, pt 2), (3, vi (1 : Int))] [(2, bx [.d (DL (α := Rect) [])])] ⟨ALe.g ⟨CLe.fl .nil, ⟨⟩⟩, ⟨⟩⟩ ?_
  refine AW.ret ?_
  obtain rfl := Option.some.inj h
  exact Kn.D Fm
 ·have h := br_f h e
  refine AW.skip ?_
  refine AW.SG0 Fm 4 [(2, pt 2), (3, vi (0 : Int))] [(2, bx [.d (DL a)])] ?_
  refine AW.ret ?_
  obtain rfl := Option.some.inj h
  exact Kn.D Fm
theorem region_overlap_spec {F : Nat} {a : Rect} {b : Rect} {r : Bool} (h : region_overlap F a b = some r) :
  FSpec Tryz.prog 125 [gE a, gE b] [] (vb r) [] := by
 refine FSpec.intro prog_mixed prog_lay Tryz.func125 rfl (by kernel_rfl) fun C Fm => ?_
 unfold region_overlap at h
 refine AW.SG0 Fm 3 [(2, pt 2), (3, pt 3)] [(2, bx (gC a)), (3, bx (gC b))] ?_
 refine AW.join (r := r) (fun z : Bool => region_overlap_k0 F z) (fun z => [(4, vb z)]) (fun z => []) (fun k h => ?_) (fun j i => ?_)
 ·refine AW.ret ?_
  obtain rfl := Option.some.inj h
  exact Kn.D Fm
 ·rcases Bool.eq_false_or_eq_true (decide (a.left_ < b.right_)) with c | c
  ·have h := br_t h c
   rcases Bool.eq_false_or_eq_true (decide (b.left_ < a.right_)) with d | d
   ·have h := br_t h d
    rcases Bool.eq_false_or_eq_true (decide (a.low_ < b.high_)) with e | e
    ·have h := br_t h e
     refine AW.G Fm [.s, .s, .s, .s, .s, .w (vb true), .s, .s, .s, .s, .s, .s, .w (vb true), .s, .s, .s, .s, .s, .s, .w (vb true), .s, .s, .s, .s, .s, .s, .s] (fun K => (ALe (vb (decide (a.left_ < b.right_))) (vb true)) ∧ (ALe (vb (decide (b.left_ < a.right_))) (vb true)) ∧ (ALe (vb (decide (a.low_ < b.high_))) (vb true)) ∧ True) [(4, vb (decide (b.low_ < a.high_)))] [] ⟨ALe.bool c, ALe.bool d, ALe.bool e, ⟨⟩⟩ ?_
     exact Kn.R Fm (i (decide (b.low_ < a.high_)) h)
    ·have h := br_f h e
     refine AW.G Fm [.s, .s, .s, .s, .s, .w (vb true), .s, .s, .s, .s, .s, .s, .w (vb true), .s, .s, .s, .s, .s, .s, .w (vb false), .s, .s, .s, .s, .s, .s, .s] (fun K => (ALe (vb (decide (a.left_ < b.right_))) (vb true)) ∧ (ALe (vb (decide (b.left_ < a.right_))) (vb true)) ∧ (ALe (vb (decide (a.low_ < b.high_))) (vb false)) ∧ True) [(4, vb false)] [] ⟨ALe.bool c, ALe.bool d, ALe.bool e, ⟨⟩⟩ ?_
     exact Kn.R Fm (i false h)
   ·have h := br_f h d
    refine AW.G Fm [.s, .s, .s, .s, .s, .w (vb true), .s, .s, .s, .s, .s, .s, .w (vb false), .s, .s, .s, .s, .s, .s, .s, .s, .s, .s, .s, .s, .s, .s] (fun K => (ALe (vb (decide (a.left_ < b.right_))) (vb true)) ∧ (ALe (vb (decide (b.left_ < a.right_))) (vb false)) ∧ True) [(4, vb false)] [] ⟨ALe.bool c, ALe.bool d, ⟨⟩⟩ ?_
    exact Kn.R Fm (i false h)
  ·have h := br_f h c
   refine AW.G Fm [.s, .s, .s, .s, .s, .w (vb false), .s, .s, .s, .s, .s, .s, .s, .s, .s, .s, .s, .s, .s, .s, .s, .s, .s, .s, .s, .s, .s] (fun K => (ALe (vb (decide (a.left_ < b.right_))) (vb false)) ∧ True) [(4, vb false)] [] ⟨ALe.bool c, ⟨⟩⟩ ?_
   exact Kn.R Fm (i false h)
theorem region_Meets_1_1_spec {F : Nat} {b : Rect} {a : Rect} {r : Bool} (h : region_Meets_1_1 F b a = some r) :
  FSpec Tryz.prog 124 [gE b, pt 0] [(0, .box true (gC a))] (vb r) [(0, .box true (gC a))] := by
 refine FSpec.intro prog_mixed prog_lay Tryz.func124 rfl (by kernel_rfl) fun C Fm => ?_
 unfold region_Meets_1_1 at h
 refine AW.SG0 Fm 2 [(1, pt 0), (2, pt 2)] [(0, .box true (gC a)), (2, bx (gC b))] ?_
 refine AW.seq ?_
 obtain ⟨c, d, h⟩ := bd_some h
 refine AW.G Fm [.s, .s, .k (cE [] [] (vb c) [] []), .s] (fun K => K 2 ∧ True) [(3, vb c)] [(0, .box true (gC a))] ⟨KAt.CC (region_overlap_spec d) Tryz.call125 [], ⟨⟩⟩ ?_
 refine AW.ret ?_
 obtain rfl := Option.some.inj h
 exact Kn.D Fm
theorem region_Meets_1_spec {F : Nat} {a : Rect} {b : Region} {r : Bool} (h : region_Meets_1 F a b = some r) :
  FSpec Tryz.prog 123 [gE a, pt 0] [(0, .box true [.d (DL b.rects_)])] (vb r) [(0, .box true [.d (DL b.rects_)])] := by
 refine FSpec.intro prog_mixed prog_lay Tryz.func123 rfl (by kernel_rfl) fun C Fm => ?_
 unfold region_Meets_1 at h
 refine AW.SG0 Fm 2 [(1, pt 0), (2, pt 2)] [(0, .box true [.d (DL b.rects_)]), (2, bx (gC a))] ?_
 refine AW.seq ?_
 obtain ⟨c, e, h⟩ := bd_some h
 refine AW.G Fm [.s, .s, .s, .k (cE [] [2] (vb c) [] []), .s] (fun K => K 3 ∧ True) [(3, vb c)] [(0, .box true [.d (DL b.rects_)])] ⟨KAt.callX (slices_ContainsFunc_Rect_spec e) Tryz.call108 [] [2] [.tmp 5, .tmp 6] rfl (by kernel_rfl) (by kernel_rfl) (by kernel_rfl) ⟨.p, ArgT.cloX Tryz.call124 [[ci a.left_, ci a.low_, ci a.right_, ci a.high_]] (fun args r hq => by obtain ⟨y0, y, hq, rfl, rfl⟩ := hq; exact Eq.mp (by kernel_rfl) (region_Meets_1_1_spec hq)) (fun args r hq => by obtain ⟨y0, y, hq, rfl, rfl⟩ := hq; rfl) (by kernel_rfl) [2] (by kernel_rfl) (by kernel_rfl) (⟨⟨false, (by kernel_rfl)⟩, ⟨⟩⟩) (by kernel_rfl), ⟨⟩⟩, ⟨⟩⟩ ?_
 refine AW.ret ?_
 obtain rfl := Option.some.inj h
 exact Kn.D Fm
theorem region_Meets_spec {F : Nat} {m : Region} {i : Region} {r : Bool} (h : region_Meets F m i = some r) :
  FSpec Tryz.prog 65 [.v (.g [.d (DL m.rects_)]), .v (.g [.d (DL i.rects_)])] [] (vb r) [] := by
 refine FSpec.intro prog_mixed prog_lay Tryz.func65 rfl (by kernel_rfl) fun C Fm => ?_
 unfold region_Meets at h
 refine AW.SG0 Fm 3 [(2, pt 2), (3, pt 3)] [(2, bx [.d (DL m.rects_)]), (3, bx [.d (DL i.rects_)])] ?_
 refine AW.join (r := r) (fun z : Bool => region_Meets_k0 F z) (fun z => [(4, vb z)]) (fun z => []) (fun u h => ?_) (fun t j => ?_)
 ·refine AW.ret ?_
  obtain rfl := Option.some.inj h
  exact Kn.D Fm
 ·obtain ⟨a, l, h⟩ := bd_some h
  rcases Bool.eq_false_or_eq_true a with b | b
  ·have h := br_t h b
   obtain ⟨e, o, h⟩ := bd_some h
   rcases Bool.eq_false_or_eq_true e with c | c
   ·have h := br_t h c
    obtain ⟨n, q, h⟩ := bd_some h
    refine AW.G Fm [.s, .k (cE [] [] (vb a) [] []), .w (vb true), .s, .k (cE [] [] (vb e) [] []), .s, .w (vb true), .s, .s, .s, .k (cE [] [3] (vb n) [] []), .s, .s] (fun K => K 1 ∧ (ALe (vb a) (vb true)) ∧ K 4 ∧ (ALe (vb e) (vb true)) ∧ K 10 ∧ True) [(4, vb n)] [] ⟨KAt.CC (region_Valid_spec l) Tryz.call55 [], ALe.bool b, KAt.CC (region_Valid_spec o) Tryz.call55 [], ALe.bool c, KAt.callX (slices_ContainsFunc_Rect_spec q) Tryz.call108 [] [3] [.tmp 13, .tmp 14] rfl (by kernel_rfl) (by kernel_rfl) (by kernel_rfl) ⟨.p, ArgT.cloX Tryz.call123 [[.d (DL i.rects_)]] (fun args r hq => by obtain ⟨y0, y, hq, rfl, rfl⟩ := hq; exact Eq.mp (by kernel_rfl) (region_Meets_1_spec hq)) (fun args r hq => by obtain ⟨y0, y, hq, rfl, rfl⟩ := hq; rfl) (by kernel_rfl) [3] (by kernel_rfl) (by kernel_rfl) (⟨⟨false, (by kernel_rfl)⟩, ⟨⟩⟩) (by kernel_rfl), ⟨⟩⟩, ⟨⟩⟩ ?_
    exact Kn.R Fm (j n h)
   ·have h := br_f h c
    refine AW.G Fm [.s, .k (cE [] [] (vb a) [] []), .w (vb true), .s, .k (cE [] [] (vb e) [] []), .s, .w (vb false), .s, .s, .s, .s, .s, .s] (fun K => K 1 ∧ (ALe (vb a) (vb true)) ∧ K 4 ∧ (ALe (vb e) (vb false)) ∧ True) [(4, vb false)] [] ⟨KAt.CC (region_Valid_spec l) Tryz.call55 [], ALe.bool b, KAt.CC (region_Valid_spec o) Tryz.call55 [], ALe.bool c, ⟨⟩⟩ ?_
    exact Kn.R Fm (j false h)
  ·have h := br_f h b
   refine AW.G Fm [.s, .k (cE [] [] (vb a) [] []), .w (vb false), .s, .s, .s, .s, .s, .s, .s, .s, .s, .s] (fun K => K 1 ∧ (ALe (vb a) (vb false)) ∧ True) [(4, vb false)] [] ⟨KAt.CC (region_Valid_spec l) Tryz.call55 [], ALe.bool b, ⟨⟩⟩ ?_
   exact Kn.R Fm (j false h)
theorem ref04_Meets_spec {F : Nat} {l : Region} {m : Region} {r : Bool} (h : ref04_Meets F l m = some r) :
  FSpec Tryz.prog 27 [.v (.g [.d (DL l.rects_)]), .v (.g [.d (DL m.rects_)])] [] (vb r) [] := by
 refine FSpec.intro prog_mixed prog_lay Tryz.func27 rfl (by kernel_rfl) fun C Fm => ?_
 unfold ref04_Meets at h
 refine AW.SG0 Fm 3 [(2, pt 2), (3, pt 3)] [(2, bx [.d (DL l.rects_)]), (3, bx [.d (DL m.rects_)])] ?_
 refine AW.join (r := r) (fun z : Bool => ref04_Meets_k0 F z) (fun z => [(4, vb z)]) (fun z => []) (fun t h => ?_) (fun q i => ?_)
 ·refine AW.ret ?_
  obtain rfl := Option.some.inj h
  exact Kn.D Fm
 ·obtain ⟨a, j, h⟩ := bd_some h
  rcases Bool.eq_false_or_eq_true a with b | b
  ·have h := br_t h b
   obtain ⟨e, o, h⟩ := bd_some h
   rcases Bool.eq_false_or_eq_true e with c | c
   ·have h := br_t h c
    obtain ⟨n, p, h⟩ := bd_some h
    refine AW.G Fm [.s, .k (cE [] [] (vb a) [] []), .w (vb true), .s, .k (cE [] [] (vb e) [] []), .s, .w (vb true), .s, .s, .s, .s, .k (cE [] [] (AL n) [] []), .s, .s, .s, .s] (fun K => K 1 ∧ (ALe (vb a) (vb true)) ∧ K 4 ∧ (ALe (vb e) (vb true)) ∧ K 11 ∧ True) [(4, vb (decide ((0 : Int) < ((List.length n : Nat) : Int))))] [] ⟨KAt.CC (ref04_Valid_spec j) Tryz.call15 [], ALe.bool b, KAt.CC (ref04_Valid_spec o) Tryz.call15 [], ALe.bool c, KAt.CC (ref04_Combine_spec p) Tryz.call64 [], ⟨⟩⟩ ?_
    exact Kn.R Fm (i (decide ((0 : Int) < ((List.length n : Nat) : Int))) h)
   ·have h := br_f h c
    refine AW.G Fm [.s, .k (cE [] [] (vb a) [] []), .w (vb true), .s, .k (cE [] [] (vb e) [] []), .s, .w (vb false), .s, .s, .s, .s, .s, .s, .s, .s, .s] (fun K => K 1 ∧ (ALe (vb a) (vb true)) ∧ K 4 ∧ (ALe (vb e) (vb false)) ∧ True) [(4, vb false)] [] ⟨KAt.CC (ref04_Valid_spec j) Tryz.call15 [], ALe.bool b, KAt.CC (ref04_Valid_spec o) Tryz.call15 [], ALe.bool c, ⟨⟩⟩ ?_
    exact Kn.R Fm (i false h)
  ·have h := br_f h b
   refine AW.G Fm [.s, .k (cE [] [] (vb a) [] []), .w (vb false), .s, .s, .s, .s, .s, .s, .s, .s, .s, .s, .s, .s, .s] (fun K => K 1 ∧ (ALe (vb a) (vb false)) ∧ True) [(4, vb false)] [] ⟨KAt.CC (ref04_Valid_spec j) Tryz.call15 [], ALe.bool b, ⟨⟩⟩ ?_
   exact Kn.R Fm (i false h)
theorem shape_common_spec {F : Nat} {a : Rect} {c : Rect} {r : Int} (h : shape_common F a c = some r) :
  FSpec Tryz.prog 66 [gE a, gE c] [] (vi r) [] := by
 refine FSpec.intro prog_mixed prog_lay Tryz.func66 rfl (by kernel_rfl) fun C Fm => ?_
 unfold shape_common at h
 refine AW.SG0 Fm 3 [(2, pt 2), (3, pt 3)] [(2, bx (gC a)), (3, bx (gC c))] ?_
 refine AW.SG0 Fm 1 [(2, pt 2), (3, pt 3), (5, vi (0 : Int))] [(2, bx (gC a)), (3, bx (gC c))] ?_
 refine AW.join (r := r) (fun z : Int => shape_common_k1 F a c z) (fun z => [(2, pt 2), (3, pt 3), (5, vi z)]) (fun z => [(2, bx (gC a)), (3, bx (gC c))]) (fun d h => ?_) (fun H m => ?_)
 ·refine AW.join (r := r) (fun z : Int => shape_common_k3 F z) (fun z => [(5, vi z)]) (fun z => []) (fun B h => ?_) (fun L o => ?_)
  ·refine AW.SG0 Fm 2 [(4, vi B)] [] ?_
   refine AW.ret ?_
   obtain rfl := Option.some.inj h
   exact Kn.D Fm
  ·refine AW.join (r := r) (fun z : Bool => shape_common_k2 F a c d z) (fun z => [(2, pt 2), (3, pt 3), (5, vi d), (43, vb z)]) (fun z => [(2, bx (gC a)), (3, bx (gC c))]) (fun A h => ?_) (fun I n => ?_)
   ·refine AW.cond (b := A) (by kernel_rfl) (fun k => ?_) (fun k => ?_)
    ·have h := br_t h k
     obtain ⟨t, h⟩ := gd_some h
     obtain ⟨u, h⟩ := gd_some h
     refine AW.G Fm [.s, .s, .s, .s, .s, .s, .s, .s, .s, .s, .s, .s, .s, .s, .s] (fun K => (I64 ((gmin a.right_ c.right_) - (gmax a.left_ c.left_)) ∧ True) ∧ (I64 (d + (gmax (0 : Int) ((gmin a.right_ c.right_) - (gmax a.left_ c.left_)))) ∧ True) ∧ True) [(5, vi (d + (gmax (0 : Int) ((gmin a.right_ c.right_) - (gmax a.left_ c.left_)))))] [] ⟨⟨t, ⟨⟩⟩, ⟨u, ⟨⟩⟩, ⟨⟩⟩ ?_
     exact Kn.R Fm (o (d + (gmax (0 : Int) ((gmin a.right_ c.right_) - (gmax a.left_ c.left_)))) h)
    ·have h := br_f h k
     refine AW.skip ?_
     exact Kn.R Fm (o d h)
   ·rcases Bool.eq_false_or_eq_true (a.high_ == c.low_) with i | i
    ·have h := br_t h i
     refine AW.G Fm [.s, .s, .s, .s, .s, .w (vb true), .s, .s, .s, .s, .s, .s] (fun K => (ALe (vb (a.high_ == c.low_)) (vb true)) ∧ True) [(2, pt 2), (3, pt 3), (5, vi d), (43, vb true)] [(2, bx (gC a)), (3, bx (gC c))] ⟨ALe.bool i, ⟨⟩⟩ ?_
     exact Kn.R Fm (n true h)
    ·have h := br_f h i
     refine AW.G Fm [.s, .s, .s, .s, .s, .w (vb false), .s, .s, .s, .s, .s, .s] (fun K => (ALe (vb (a.high_ == c.low_)) (vb false)) ∧ True) [(2, pt 2), (3, pt 3), (5, vi d), (43, vb (c.high_ == a.low_))] [(2, bx (gC a)), (3, bx (gC c))] ⟨ALe.bool i, ⟨⟩⟩ ?_
     exact Kn.R Fm (n (c.high_ == a.low_) h)
 ·refine AW.join (r := r) (fun z : Bool => shape_common_k0 F a c z) (fun z => [(2, pt 2), (3, pt 3), (5, vi (0 : Int)), (17, vb z)]) (fun z => [(2, bx (gC a)), (3, bx (gC c))]) (fun y h => ?_) (fun E l => ?_)
  ·refine AW.cond (b := y) (by kernel_rfl) (fun j => ?_) (fun j => ?_)
   ·have h := br_t h j
    obtain ⟨p, h⟩ := gd_some h
    obtain ⟨q, h⟩ := gd_some h
    refine AW.G Fm [.s, .s, .s, .s, .s, .s, .s, .s, .s, .s, .s, .s, .s, .s, .s] (fun K => (I64 ((gmin a.high_ c.high_) - (gmax a.low_ c.low_)) ∧ True) ∧ (I64 ((0 : Int) + (gmax (0 : Int) ((gmin a.high_ c.high_) - (gmax a.low_ c.low_)))) ∧ True) ∧ True) [(2, pt 2), (3, pt 3), (5, vi ((0 : Int) + (gmax (0 : Int) ((gmin a.high_ c.high_) - (gmax a.low_ c.low_)))))] [(2, bx (gC a)), (3, bx (gC c))] ⟨⟨p, ⟨⟩⟩, ⟨q, ⟨⟩⟩, ⟨⟩⟩ ?_
    exact Kn.R Fm (m ((0 : Int) + (gmax (0 : Int) ((gmin a.high_ c.high_) - (gmax a.low_ c.low_)))) h)
   ·have h := br_f h j
    refine AW.skip ?_
    exact Kn.R Fm (m (0 : Int) h)
  ·rcases Bool.eq_false_or_eq_true (a.right_ == c.left_) with e | e
   ·have h := br_t h e
    refine AW.G Fm [.s, .s, .s, .s, .s, .w (vb true), .s, .s, .s, .s, .s, .s] (fun K => (ALe (vb (a.right_ == c.left_)) (vb true)) ∧ True) [(2, pt 2), (3, pt 3), (5, vi (0 : Int)), (17, vb true)] [(2, bx (gC a)), (3, bx (gC c))] ⟨ALe.bool e, ⟨⟩⟩ ?_
    exact Kn.R Fm (l true h)
   ·have h := br_f h e
    refine AW.G Fm [.s, .s, .s, .s, .s, .w (vb false), .s, .s, .s, .s, .s, .s] (fun K => (ALe (vb (a.right_ == c.left_)) (vb false)) ∧ True) [(2, pt 2), (3, pt 3), (5, vi (0 : Int)), (17, vb (c.right_ == a.left_))] [(2, bx (gC a)), (3, bx (gC c))] ⟨ALe.bool e, ⟨⟩⟩ ?_
    exact Kn.R Fm (l (c.right_ == a.left_) h)
theorem shape_Joined_1_spec {F : Nat} {a : Rect} {e : (List Rect)} {i : Int} {r : (List Rect) × Bool} (h : shape_Joined_1 F a e i = some r) :
  FSpec Tryz.prog 115 [gE a, pt 0, pt 1] [(0, bx [.ap 60]), (1, bx [ci i]), (60, AP e)] (vb r.2) [(0, bx [.ap 70]), (1, bx [ci i]), (70, AP (α := Rect) r.1)] := by
 refine FSpec.intro prog_mixed prog_lay Tryz.func115 rfl (by kernel_rfl) fun C Fm => ?_
 unfold shape_Joined_1 at h
 refine Kn.re Fm [(960, 60)] [(0, gE a), (1, pt 0), (2, pt 1)] [(0, bx [.ap 960]), (1, bx [ci i]), (960, AP e)] (by kernel_rfl) (by kernel_rfl) (by kernel_rfl) (by kernel_rfl) ?_
 refine AW.SG0 Fm 2 [(1, pt 0), (2, pt 1), (3, pt 3)] [(0, bx [.ap 960]), (1, bx [ci i]), (3, bx (gC a)), (960, AP e)] ?_
 refine AW.join (r := r) (fun z : Bool => shape_Joined_1_k0 F a e z) (fun z => [(1, pt 0), (3, pt 3), (5, vb z)]) (fun z => [(0, bx [.ap 960]), (1, bx [ci i]), (3, bx (gC a)), (960, AP e)]) (fun l h => ?_) (fun D A => ?_)
 ·refine AW.join (r := r) (fun z : (List Rect) => shape_Joined_1_k1 F l z) (fun z => [(5, vb l)]) (fun z => [(0, bx [.ap 17]), (1, bx [ci i]), (17, AP z)]) (fun B h => ?_) (fun E q => ?_)
  ·refine AW.SG0 Fm 2 [(4, vb l)] [(0, bx [.ap 17]), (1, bx [ci i]), (17, AP B)] ?_
   refine AW.ret ?_
   obtain rfl := Option.some.inj h
   exact Kn.re Fm [(70, 17)] [(4, vb l)] [(0, bx [.ap 70]), (1, bx [ci i]), (70, AP B)] (by kernel_rfl) (by kernel_rfl) (by kernel_rfl) (by kernel_rfl) (Kn.dn Fm (by kernel_rfl))
  ·refine AW.SG0 Fm 1 [(1, pt 0), (3, pt 3), (5, vb l), (13, vb l)] [(0, bx [.ap 960]), (1, bx [ci i]), (3, bx (gC a)), (960, AP e)] ?_
   refine AW.cond (b := l) (by kernel_rfl) (fun t => ?_) (fun t => ?_)
   ·have h := br_t h t
    refine Kn.r Fm [(1, pt 0), (3, pt 3), (5, vb l), (13, vb l)] [(960, AP e), (0, bx [.ap 960]), (1, bx [ci i]), (3, bx (gC a))] (by kernel_rfl) ?_
    refine Kn.ap_split (by kernel_rfl) ?_ ?_
    ·refine Kn.r Fm [(1, pt 0), (3, pt 3), (5, vb l), (13, vb l)] [(0, bx [.own 960]), (1, bx [ci i]), (3, bx (gC a)), (960, AO e)] (by kernel_rfl) ?_
     obtain ⟨u, h⟩ := gd_some h
     refine AW.G Fm [.s, .s, .w (AL (α := Rect) ([a] : List Rect)), .s, .s] (fun K => (ALe (.v (.c (.d (.lst 1 (litF 4 [.int .i64 a.left_, .int .i64 a.low_, .int .i64 a.right_, .int .i64 a.high_]))))) (AL (α := Rect) ([a] : List Rect))) ∧ ((List.length (α := Rect) e) + (List.length (α := Rect) ([a] : List Rect)) ≤ LIM ∧ (∀ j, j < List.length (α := Rect) ([a] : List Rect) → ((LF (α := Rect) ([a] : List Rect)) j).length = 4) ∧ (True)) ∧ True) [(5, vb l)] [(0, bx [.own 17]), (1, bx [ci i]), (17, .arr 4 ((List.length (α := Rect) e) + (List.length (α := Rect) ([a] : List Rect))) (appF (List.length (α := Rect) e) (LF (α := Rect) e) (LF (α := Rect) ([a] : List Rect))))] ⟨ALe.lst (.lit ([a] : List Rect) (by kernel_rfl)), ⟨u, (Is.refl ([a] : List Rect) : Is (List.length (α := Rect) ([a] : List Rect)) (LF (α := Rect) ([a] : List Rect)) ([a] : List Rect)).len, ⟨⟩⟩, ⟨⟩⟩ ?_
     refine Kn.wk [(5, vb l)] [(0, bx [.own 17]), (1, bx [ci i]), (17, AO (α := Rect) (e ++ ([a] : List Rect)))] (FE.refl _) (⟨rfl, OLe.refl _, ⟨rfl, OLe.refl _, ⟨rfl, OLe.is (Is.app (Is.refl e) (Is.refl ([a] : List Rect))), ⟨⟩⟩⟩⟩) ?_
     refine Kn.r Fm [(5, vb l)] [(0, bx [.own 17]), (1, bx [ci i]), (17, AO (α := Rect) (e ++ ([a] : List Rect)))] (by kernel_rfl) ?_
     refine Kn.wk [(5, vb l)] [(0, bx [.ap 17]), (1, bx [ci i]), (17, AP (α := Rect) (e ++ ([a] : List Rect)))] ⟨rfl, ALe.refl _, ⟨⟩⟩ ⟨rfl, OLe.box ⟨CLe.ap 17, ⟨⟩⟩, ⟨rfl, OLe.refl _, ⟨rfl, OLe.ap _ _ _, ⟨⟩⟩⟩⟩ ?_
     exact Kn.R Fm (q (e ++ ([a] : List Rect)) h)
    ·refine Kn.r Fm [(1, pt 0), (3, pt 3), (5, vb l), (13, vb l)] [(0, bx [.fl (List.length (α := Rect) e) (LF (α := Rect) e)]), (1, bx [ci i]), (3, bx (gC a))] (by kernel_rfl) ?_
     obtain ⟨u, h⟩ := gd_some h
     refine AW.G Fm [.s, .s, .w (AL (α := Rect) ([a] : List Rect)), .k (rE { v := .v (.c (.own 17)), new := some (.arr 4 ((List.length (α := Rect) e) + (List.length (α := Rect) ([a] : List Rect))) (appF (List.length (α := Rect) e) (LF (α := Rect) e) (LF (α := Rect) ([a] : List Rect)))) }), .s] (fun K => (ALe (.v (.c (.d (.lst 1 (litF 4 [.int .i64 a.left_, .int .i64 a.low_, .int .i64 a.right_, .int .i64 a.high_]))))) (AL (α := Rect) ([a] : List Rect))) ∧ K 3 ∧ True) [(5, vb l)] [(0, bx [.own 17]), (1, bx [ci i]), (17, .arr 4 ((List.length (α := Rect) e) + (List.length (α := Rect) ([a] : List Rect))) (appF (List.length (α := Rect) e) (LF (α := Rect) e) (LF (α := Rect) ([a] : List Rect))))] ⟨ALe.lst (.lit ([a] : List Rect) (by kernel_rfl)), KAt.fappend (n := List.length (α := Rect) e) (m := List.length (α := Rect) ([a] : List Rect)) (f := LF (α := Rect) e) (g := LF (α := Rect) ([a] : List Rect)) prog_lay slT23 rfl rfl (by kernel_rfl) (by kernel_rfl) (by kernel_rfl) (Nat.succ_pos _) u (Is.refl ([a] : List Rect) : Is (List.length (α := Rect) ([a] : List Rect)) (LF (α := Rect) ([a] : List Rect)) ([a] : List Rect)).len (Is.refl e : Is (List.length (α := Rect) e) (LF (α := Rect) e) e).len, ⟨⟩⟩ ?_
     refine Kn.wk [(5, vb l)] [(0, bx [.own 17]), (1, bx [ci i]), (17, AO (α := Rect) (e ++ ([a] : List Rect)))] (FE.refl _) (⟨rfl, OLe.refl _, ⟨rfl, OLe.refl _, ⟨rfl, OLe.is (Is.app (Is.refl e) (Is.refl ([a] : List Rect))), ⟨⟩⟩⟩⟩) ?_
     refine Kn.r Fm [(5, vb l)] [(0, bx [.own 17]), (1, bx [ci i]), (17, AO (α := Rect) (e ++ ([a] : List Rect)))] (by kernel_rfl) ?_
     refine Kn.wk [(5, vb l)] [(0, bx [.ap 17]), (1, bx [ci i]), (17, AP (α := Rect) (e ++ ([a] : List Rect)))] ⟨rfl, ALe.refl _, ⟨⟩⟩ ⟨rfl, OLe.box ⟨CLe.ap 17, ⟨⟩⟩, ⟨rfl, OLe.refl _, ⟨rfl, OLe.ap _ _ _, ⟨⟩⟩⟩⟩ ?_
     exact Kn.R Fm (q (e ++ ([a] : List Rect)) h)
   ·have h := br_f h t
    refine AW.skip ?_
    exact Kn.RE Fm [(17, 960)] (q e h)
 ·refine Kn.r Fm [(1, pt 0), (2, pt 1), (3, pt 3)] [(960, AP e), (0, bx [.ap 960]), (1, bx [ci i]), (3, bx (gC a))] (by kernel_rfl) ?_
  refine Kn.ap_split (by kernel_rfl) ?_ ?_
  ·refine Kn.r Fm [(1, pt 0), (2, pt 1), (3, pt 3)] [(0, bx [.own 960]), (1, bx [ci i]), (3, bx (gC a)), (960, AO e)] (by kernel_rfl) ?_
   obtain ⟨p, h⟩ := gd_some h
   obtain ⟨o, y, h⟩ := bd_some h
   refine AW.G Fm [.s, .s, .s, .s, .s, .k (cE [] [] (vi o) [] []), .s, .s] (fun K => _ ∧ (i.toNat < List.length e) ∧ K 5 ∧ True) [(1, pt 0), (3, pt 3), (5, vb (decide ((0 : Int) < o)))] [(0, bx [.own 960]), (1, bx [ci i]), (3, bx (gC a)), (960, AO e)] ⟨p, (toNat_lt p), KAt.CC (shape_common_spec y) Tryz.call66 [], ⟨⟩⟩ ?_
   refine Kn.r Fm [(1, pt 0), (3, pt 3), (5, vb (decide ((0 : Int) < o)))] [(0, bx [.own 960]), (1, bx [ci i]), (3, bx (gC a)), (960, AO e)] (by kernel_rfl) ?_
   refine Kn.wk [(1, pt 0), (3, pt 3), (5, vb (decide ((0 : Int) < o)))] [(0, bx [.ap 960]), (1, bx [ci i]), (3, bx (gC a)), (960, AP e)] ⟨rfl, ALe.refl _, ⟨rfl, ALe.refl _, ⟨rfl, ALe.refl _, ⟨⟩⟩⟩⟩ ⟨rfl, OLe.box ⟨CLe.ap 960, ⟨⟩⟩, ⟨rfl, OLe.refl _, ⟨rfl, OLe.refl _, ⟨rfl, OLe.ap _ _ _, ⟨⟩⟩⟩⟩⟩ ?_
   exact Kn.R Fm (A (decide ((0 : Int) < o)) h)
  ·refine Kn.r Fm [(1, pt 0), (2, pt 1), (3, pt 3)] [(0, bx [.fl (List.length (α := Rect) e) (LF (α := Rect) e)]), (1, bx [ci i]), (3, bx (gC a))] (by kernel_rfl) ?_
   obtain ⟨p, h⟩ := gd_some h
   obtain ⟨o, y, h⟩ := bd_some h
   refine AW.G Fm [.s, .s, .s, .s, .s, .k (cE [] [] (vi o) [] []), .s, .s] (fun K => _ ∧ K 5 ∧ True) [(1, pt 0), (3, pt 3), (5, vb (decide ((0 : Int) < o)))] [(0, bx [.fl (List.length (α := Rect) e) (LF (α := Rect) e)]), (1, bx [ci i]), (3, bx (gC a))] ⟨p, KAt.CC (shape_common_spec y) Tryz.call66 [], ⟨⟩⟩ ?_
   refine Kn.r Fm [(1, pt 0), (3, pt 3), (5, vb (decide ((0 : Int) < o)))] [(0, bx [.fl (List.length (α := Rect) e) (LF (α := Rect) e)]), (1, bx [ci i]), (3, bx (gC a))] (by kernel_rfl) ?_
   refine Kn.ap0 Fm (k := 960) (es := 4) (j := 0) (by kernel_rfl) (by kernel_rfl) (by simp) rfl ?_
   refine Kn.r Fm [(1, pt 0), (3, pt 3), (5, vb (decide ((0 : Int) < o)))] [(0, bx [.ap 960]), (1, bx [ci i]), (3, bx (gC a)), (960, AP e)] (by kernel_rfl) ?_
   exact Kn.R Fm (A (decide ((0 : Int) < o)) h)
theorem slices_Clone_Rect_O_spec {F : Nat} {a : (List Rect)} {r : (List Rect)} (h : slices_Clone_Rect_O F a = some r) :
  FSpec Tryz.prog 113 [AL a] [] (ow 100) [(100, AO (α := Rect) r)] := by
 refine FSpec.intro prog_mixed prog_lay Tryz.func113 rfl (by kernel_rfl) fun C Fm => ?_
 unfold slices_Clone_Rect_O at h
 refine AW.SG Fm [.m] (fun K => True) [(0, AL a)] [] True.intro ?_
 refine AW.seq ?_
 refine AW.SG Fm [.s, .k (sE (nb (List.length a)))] (fun K => K 1 ∧ True) [(0, AL a), (4, .v (.c (.sem (nbP (List.length a)))))] [] ⟨KAt.nil (t := 23) (el := 73) (n := List.length a) (by kernel_rfl) rfl rfl (by kernel_rfl) (by kernel_rfl) (by kernel_rfl), ⟨⟩⟩ ?_
 refine AW.condNil (n := List.length a) (by kernel_rfl) (fun d => ?_) ?_
 ·have h := brN_t h d
  refine AW.SG Fm [.m] (fun K => True) [(2, ow 2)] [(2, .arr 4 (0) (fun _ => []))] True.intro ?_
  refine Kn.wk [(2, ow 2)] [(2, AO (α := Rect) ([] : List Rect))] (FE.refl _) (⟨rfl, OLe.is ((Is.nil (α := Rect))), ⟨⟩⟩) ?_
  refine AW.ret ?_
  obtain rfl := Option.some.inj h
  exact Kn.re Fm [(100, 2)] [(2, ow 100)] [(100, AO (α := Rect) ([] : List Rect))] (by kernel_rfl) (by kernel_rfl) (by kernel_rfl) (by kernel_rfl) (Kn.dn Fm (by kernel_rfl))
 ·have h := brN_f h
  refine AW.skip ?_
  obtain ⟨b, h⟩ := gd_some h
  refine AW.SG Fm [.m, .s, .s, .s] (fun K => ((0) + (List.length (α := Rect) a) ≤ LIM ∧ (∀ j, j < List.length (α := Rect) a → ((LF (α := Rect) a) j).length = 4) ∧ (True)) ∧ True) [(2, ow 7)] [(7, .arr 4 ((0) + (List.length (α := Rect) a)) (appF (0) (litF 4 []) (LF (α := Rect) a)))] ⟨⟨b, (Is.refl a : Is (List.length (α := Rect) a) (LF (α := Rect) a) a).len, ⟨⟩⟩, ⟨⟩⟩ ?_
  refine Kn.wk [(2, ow 7)] [(7, AO (α := Rect) (([] : List Rect) ++ a))] (FE.refl _) (⟨rfl, OLe.is (Is.app (Is.lit ([] : List Rect) (by kernel_rfl)) (Is.refl a)), ⟨⟩⟩) ?_
  refine AW.ret ?_
  obtain rfl := Option.some.inj h
  exact Kn.re Fm [(100, 7)] [(2, ow 100)] [(100, AO (α := Rect) (([] : List Rect) ++ a))] (by kernel_rfl) (by kernel_rfl) (by kernel_rfl) (by kernel_rfl) (Kn.dn Fm (by kernel_rfl))
theorem slices_IndexFunc_Rect_J_spec {F : Nat} {a : (List Rect)} {j : (List Rect)} {d : Int} {r : (List Rect) × (List Rect) × Int} (h : slices_IndexFunc_Rect_J F a j d = some r) :
  FSpec Tryz.prog 155 [ow 0, .v (.c (.clo 115 [50, 51]))] [(0, AO a), (50, bx [.ap 60]), (51, bx [ci d]), (60, AP j)] (vi r.2.2) [(0, AO (α := Rect) r.1), (50, bx [.ap 70]), (51, bx [ci d]), (70, AP (α := Rect) r.2.1)] := by
 refine FSpec.intro prog_mixed prog_lay Tryz.func155 rfl (by kernel_rfl) fun C Fm => ?_
 unfold slices_IndexFunc_Rect_J at h
 refine Kn.re Fm [(960, 60)] [(0, ow 0), (1, .v (.c (.clo 115 [50, 51])))] [(0, AO a), (50, bx [.ap 960]), (51, bx [ci d]), (960, AP j)] (by kernel_rfl) (by kernel_rfl) (by kernel_rfl) (by kernel_rfl) ?_
 refine AW.SG0 Fm 1 [(0, ow 0), (1, .v (.c (.clo 115 [50, 51])))] [(0, AO a), (50, bx [.ap 960]), (51, bx [ci d]), (960, AP j)] ?_
 refine AW.join (r := r) (fun z : (List Rect) => slices_IndexFunc_Rect_J_k1 F a z) (fun z => []) (fun z => [(0, AO a), (50, bx [.ap 960]), (51, bx [ci d]), (960, AP z)]) (fun p h => ?_) (fun A t => ?_)
 ·refine AW.SG0 Fm 1 [(4, vi (-1 : Int))] [(0, AO a), (50, bx [.ap 960]), (51, bx [ci d]), (960, AP p)] ?_
  refine AW.ret ?_
  obtain rfl := Option.some.inj h
  exact Kn.re Fm [(70, 960)] [(4, vi (-1 : Int))] [(0, AO a), (50, bx [.ap 70]), (51, bx [ci d]), (70, AP p)] (by kernel_rfl) (by kernel_rfl) (by kernel_rfl) (by kernel_rfl) (Kn.dn Fm (by kernel_rfl))
 ·refine AW.SG0 Fm 3 [(0, ow 0), (1, .v (.c (.clo 115 [50, 51]))), (7, vi ((List.length a : Nat) : Int)), (8, vi (0 : Int))] [(0, AO a), (50, bx [.ap 960]), (51, bx [ci d]), (960, AP j)] ?_
  refine AW.block ?_
  refine Kn.r Fm [(0, ow 0), (1, .v (.c (.clo 115 [50, 51]))), (7, vi ((List.length a : Nat) : Int)), (8, vi (0 : Int))] [(0, AO a), (50, bx [.ap 960]), (51, bx [ci d]), (960, AP j)] (by kernel_rfl) ?_
  refine AW.loopF (E' := fun z => [(0, ow 0), (1, .v (.c (.clo 115 [50, 51]))), (7, vi ((List.length a : Nat) : Int)), (8, vi z.1)]) (S' := fun z => [(0, AO a), (50, bx [.ap 960]), (51, bx [ci d]), (960, AP z.2)]) (fun B z y q h => ?_) h
  obtain ⟨e, l⟩ := z
  refine AW.SG0 Fm 1 [(0, ow 0), (1, .v (.c (.clo 115 [50, 51]))), (7, vi ((List.length a : Nat) : Int)), (8, vi e), (9, vb (decide (e < ((List.length a : Nat) : Int))))] [(0, AO a), (50, bx [.ap 960]), (51, bx [ci d]), (960, AP l)] ?_
  refine AW.seq ?_
  refine AW.cond (b := (decide (e < ((List.length a : Nat) : Int)))) (by kernel_rfl) (fun m => ?_) (fun m => ?_)
  ·have h := br_t h m
   refine AW.skip ?_
   refine AW.seq ?_
   refine AW.block ?_
   refine AW.SG0 Fm 2 [(0, ow 0), (1, .v (.c (.clo 115 [50, 51]))), (5, vi e), (7, vi ((List.length a : Nat) : Int)), (8, vi e)] [(0, AO a), (50, bx [.ap 960]), (51, bx [ci d]), (960, AP l)] ?_
   refine AW.seq ?_
   obtain ⟨o, h⟩ := gd_some h
   obtain ⟨i, w, h⟩ := bd_some h
   refine AW.G Fm [.s, .s, .s, .s, .s, .k (cE [(0, 50), (60, 960), (70, 1016), (1, 51)] [] (vb i.2) [(0, bx [.ap 60]), (1, bx [ci d]), (60, AP l)] [(0, bx [.ap 70]), (1, bx [ci d]), (70, AP i.1)])] (fun K => _ ∧ (e.toNat < List.length a) ∧ K 5 ∧ True) [(0, ow 0), (1, .v (.c (.clo 115 [50, 51]))), (5, vi e), (7, vi ((List.length a : Nat) : Int)), (8, vi e), (16, vb i.2)] [(0, AO a), (50, bx [.ap 1016]), (51, bx [ci d]), (1016, AP i.1)] ⟨o, (toNat_lt o), KAt.clC (args := [.v (.g [ci ((gl a e.toNat).left_), ci ((gl a e.toNat).low_), ci ((gl a e.toNat).right_), ci ((gl a e.toNat).high_)])]) (caps := [0, 1]) (shape_Joined_1_spec w) Tryz.call115 [(0, 50), (60, 960), (70, 1016), (1, 51)] rfl (by kernel_rfl), ⟨⟩⟩ ?_
   refine AW.cond (b := i.2) (by kernel_rfl) (fun n => ?_) (fun n => ?_)
   ·have h := br_t h n
    refine AW.SG0 Fm 2 [(4, vi e)] [(0, AO a), (50, bx [.ap 1016]), (51, bx [ci d]), (1016, AP i.1)] ?_
    refine AW.ret ?_
    obtain rfl := Option.some.inj h
    exact Kn.re Fm [(70, 1016)] [(4, vi e)] [(0, AO a), (50, bx [.ap 70]), (51, bx [ci d]), (70, AP i.1)] (by kernel_rfl) (by kernel_rfl) (by kernel_rfl) (by kernel_rfl) (Kn.dn Fm (by kernel_rfl))
   ·have h := br_f h n
    refine AW.skip ?_
    obtain ⟨u, h⟩ := gd_some h
    refine AW.G Fm [.s, .s] (fun K => (I64 (e + (1 : Int)) ∧ True) ∧ True) [(0, ow 0), (1, .v (.c (.clo 115 [50, 51]))), (7, vi ((List.length a : Nat) : Int)), (8, vi (e + (1 : Int)))] [(0, AO a), (50, bx [.ap 1016]), (51, bx [ci d]), (1016, AP i.1)] ⟨⟨u, ⟨⟩⟩, ⟨⟩⟩ ?_
    exact Kn.RE Fm [(960, 1016)] (q ((e + (1 : Int)), i.1) h)
  ·have h := br_f h m
   refine AW.exit ?_
   exact Kn.R Fm (t l h)
theorem slices_DeleteFunc_Rect_J_spec {F : Nat} {A : (List Rect)} {B : (List Rect)} {o : Int} {r : (List Rect) × (List Rect)} (h : slices_DeleteFunc_Rect_J F A B o = some r) :
  FSpec Tryz.prog 114 [ow 0, .v (.c (.clo 115 [50, 51]))] [(0, AO A), (50, bx [.ap 60]), (51, bx [ci o]), (60, AP B)] (ow 100) [(50, bx [.ap 70]), (51, bx [ci o]), (70, AP (α := Rect) r.1), (100, AO (α := Rect) r.2)] := by
 refine FSpec.intro prog_mixed prog_lay Tryz.func114 rfl (by kernel_rfl) fun C Fm => ?_
 unfold slices_DeleteFunc_Rect_J at h
 refine Kn.re Fm [(960, 60)] [(0, ow 0), (1, .v (.c (.clo 115 [50, 51])))] [(0, AO A), (50, bx [.ap 960]), (51, bx [ci o]), (960, AP B)] (by kernel_rfl) (by kernel_rfl) (by kernel_rfl) (by kernel_rfl) ?_
 refine AW.SG Fm [.m] (fun K => True) [(0, ow 0), (1, .v (.c (.clo 115 [50, 51])))] [(0, AO A), (50, bx [.ap 960]), (51, bx [ci o]), (960, AP B)] True.intro ?_
 refine AW.seq ?_
 obtain ⟨q, d0, h⟩ := bd_some h
 refine AW.G Fm [.s, .s, .k (cE [(0, 0), (50, 50), (60, 960), (70, 1010), (51, 51)] [] (vi q.2.2) [(0, AO A), (50, bx [.ap 60]), (51, bx [ci o]), (60, AP B)] [(0, AO q.1), (50, bx [.ap 70]), (51, bx [ci o]), (70, AP q.2.1)]), .s] (fun K => K 2 ∧ True) [(0, ow 0), (1, .v (.c (.clo 115 [50, 51]))), (5, vi q.2.2)] [(0, AO q.1), (50, bx [.ap 1010]), (51, bx [ci o]), (1010, AP q.2.1)] ⟨KAt.CC (slices_IndexFunc_Rect_J_spec d0) Tryz.call155 [(0, 0), (50, 50), (60, 960), (70, 1010), (51, 51)], ⟨⟩⟩ ?_
 refine AW.seq ?_
 refine AW.SG0 Fm 2 [(0, ow 0), (1, .v (.c (.clo 115 [50, 51]))), (5, vi q.2.2), (12, vb (q.2.2 == (-1 : Int)))] [(0, AO q.1), (50, bx [.ap 1010]), (51, bx [ci o]), (1010, AP q.2.1)] ?_
 refine AW.cond (b := (q.2.2 == (-1 : Int))) (by kernel_rfl) (fun E => ?_) (fun E => ?_)
 ·have h := br_t h E
  refine AW.SG0 Fm 2 [(4, ow 0)] [(0, AO q.1), (50, bx [.ap 1010]), (51, bx [ci o]), (1010, AP q.2.1)] ?_
  refine AW.ret ?_
  obtain rfl := Option.some.inj h
  exact Kn.re Fm [(70, 1010), (100, 0)] [(4, ow 100)] [(50, bx [.ap 70]), (51, bx [ci o]), (70, AP q.2.1), (100, AO q.1)] (by kernel_rfl) (by kernel_rfl) (by kernel_rfl) (by kernel_rfl) (Kn.dn Fm (by kernel_rfl))
 ·have h := br_f h E
  refine AW.skip ?_
  refine AW.join (r := r) (fun z : Int × (List Rect) × (List Rect) => slices_DeleteFunc_Rect_J_k2 F z.1 z.2.1 z.2.2) (fun z => [(0, ow 0), (5, vi z.1)]) (fun z => [(0, AO z.2.1), (50, bx [.ap 1010]), (51, bx [ci o]), (1010, AP z.2.2)]) (fun z h => ?_) (fun k0 Y => ?_)
  ·obtain ⟨e, p, y⟩ := z
   obtain ⟨c0, h⟩ := gd_some h
   refine AW.SG Fm [.s, .s, .k (rE { v := .v (.c (.sub 0 4 (0 + (e).toNat) ((List.length (α := Rect) p) - (e).toNat))) }), .k (rE { v := .any, upd := some (0, .arr 4 (List.length (α := Rect) p) (fun i => if (0 + (e).toNat) ≤ i ∧ i < (0 + (e).toNat) + ((List.length (α := Rect) p) - (e).toNat) then (fun _ => [.int .i64 0, .int .i64 0, .int .i64 0, .int .i64 0]) (i - (0 + (e).toNat)) else (LF (α := Rect) p) i)) })] (fun K => K 2 ∧ K 3 ∧ True) [(0, ow 0), (5, vi e)] [(0, .arr 4 (List.length (α := Rect) p) (fun i => if (0 + (e).toNat) ≤ i ∧ i < (0 + (e).toNat) + ((List.length (α := Rect) p) - (e).toNat) then (fun _ => [.int .i64 0, .int .i64 0, .int .i64 0, .int .i64 0]) (i - (0 + (e).toNat)) else (LF (α := Rect) p) i)), (50, bx [.ap 1010]), (51, bx [ci o]), (1010, AP y)] ⟨KAt.vslice (l := (some e)) (u := none) (id := 0) (lo0 := 0) (n := (List.length (α := Rect) p)) (N := List.length (α := Rect) p) (f := LF (α := Rect) p) prog_lay slT23 rfl rfl (by kernel_rfl) (by kernel_rfl) (by kernel_rfl) (by kernel_rfl) (by kernel_rfl) c0 (by kernel_rfl), KAt.vclear (id := 0) (lo0 := (0 + (e).toNat)) (n := ((List.length (α := Rect) p) - (e).toNat)) (N := List.length (α := Rect) p) (f := (LF (α := Rect) p)) prog_lay slT23 [.int .i64 0, .int .i64 0, .int .i64 0, .int .i64 0] [.int .i64 0, .int .i64 0, .int .i64 0, .int .i64 0] ⟨DLe.refl _, DLe.refl _, DLe.refl _, DLe.refl _, ⟨⟩⟩ rfl rfl (by kernel_rfl) (Nat.succ_pos _) (by kernel_rfl) (by kernel_rfl) (by kernel_rfl) (by kernel_rfl) rfl, ⟨⟩⟩ ?_
   refine Kn.wk [(0, ow 0), (5, vi e)] [(0, AO (α := Rect) (clr p (0 + (e).toNat) ((List.length (α := Rect) p) - (e).toNat))), (50, bx [.ap 1010]), (51, bx [ci o]), (1010, AP y)] (FE.refl _) (⟨rfl, OLe.is (Is.clr (l := p) (0 + (e).toNat) ((List.length (α := Rect) p) - (e).toNat) (zd := [.int .i64 0, .int .i64 0, .int .i64 0, .int .i64 0]) (by kernel_rfl)), ⟨rfl, OLe.refl _, ⟨rfl, OLe.refl _, ⟨rfl, OLe.refl _, ⟨⟩⟩⟩⟩⟩) ?_
   obtain ⟨P, h⟩ := gd_some h
   refine AW.SG Fm [.s, .s, .m, .s] (fun K => _ ∧ True) [(4, ow 41)] [(41, .arr 4 ((e).toNat) (LF (α := Rect) (clr p (0 + (e).toNat) ((List.length (α := Rect) p) - (e).toNat)))), (50, bx [.ap 1010]), (51, bx [ci o]), (1010, AP y)] ⟨P, ⟨⟩⟩ ?_
   refine Kn.wk [(4, ow 41)] [(41, AO (α := Rect) ((clr p (0 + (e).toNat) ((List.length (α := Rect) p) - (e).toNat)).take (e).toNat)), (50, bx [.ap 1010]), (51, bx [ci o]), (1010, AP y)] (FE.refl _) (⟨rfl, OLe.is (Is.take (Is.refl (clr p (0 + (e).toNat) ((List.length (α := Rect) p) - (e).toNat))) P.2), ⟨rfl, OLe.refl _, ⟨rfl, OLe.refl _, ⟨rfl, OLe.refl _, ⟨⟩⟩⟩⟩⟩) ?_
   refine AW.ret ?_
   obtain rfl := Option.some.inj h
   exact Kn.re Fm [(70, 1010), (100, 41)] [(4, ow 100)] [(50, bx [.ap 70]), (51, bx [ci o]), (70, AP y), (100, AO (α := Rect) ((clr p (0 + (e).toNat) ((List.length (α := Rect) p) - (e).toNat)).take (e).toNat))] (by kernel_rfl) (by kernel_rfl) (by kernel_rfl) (by kernel_rfl) (Kn.dn Fm (by kernel_rfl))
  ·obtain ⟨Z, h⟩ := gd_some h
   refine AW.SG Fm [.s, .s, .s] (fun K => (I64 (q.2.2 + (1 : Int)) ∧ True) ∧ True) [(0, ow 0), (1, .v (.c (.clo 115 [50, 51]))), (5, vi q.2.2), (6, vi (q.2.2 + (1 : Int)))] [(0, AO q.1), (50, bx [.ap 1010]), (51, bx [ci o]), (1010, AP q.2.1)] ⟨⟨Z, ⟨⟩⟩, ⟨⟩⟩ ?_
   refine AW.block ?_
   refine Kn.r Fm [(0, ow 0), (1, .v (.c (.clo 115 [50, 51]))), (5, vi q.2.2), (6, vi (q.2.2 + (1 : Int)))] [(0, AO q.1), (50, bx [.ap 1010]), (51, bx [ci o]), (1010, AP q.2.1)] (by kernel_rfl) ?_
   refine AW.loopF (E' := fun z => [(0, ow 0), (1, .v (.c (.clo 115 [50, 51]))), (5, vi z.1), (6, vi z.2.1)]) (S' := fun z => [(0, AO z.2.2.1), (50, bx [.ap 1010]), (51, bx [ci o]), (1010, AP z.2.2.2)]) (fun W z i0 X h => ?_) h
   obtain ⟨t, d, a, D⟩ := z
   refine AW.seq ?_
   refine AW.SG0 Fm 4 [(0, ow 0), (1, .v (.c (.clo 115 [50, 51]))), (5, vi t), (6, vi d), (19, vb (decide (d < ((List.length a : Nat) : Int))))] [(0, AO a), (50, bx [.ap 1010]), (51, bx [ci o]), (1010, AP D)] ?_
   refine AW.cond (b := (decide (d < ((List.length a : Nat) : Int)))) (by kernel_rfl) (fun H => ?_) (fun H => ?_)
   ·have h := br_t h H
    refine AW.skip ?_
    refine AW.join (r := r) (fun z : Int × (List Rect) × (List Rect) => slices_DeleteFunc_Rect_J_k1 F d W z.1 z.2.1 z.2.2) (fun z => [(0, ow 0), (1, .v (.c (.clo 115 [50, 51]))), (5, vi z.1), (6, vi d)]) (fun z => [(0, AO z.2.1), (50, bx [.ap 1028]), (51, bx [ci o]), (1028, AP z.2.2)]) (fun z h => ?_) (fun j0 M => ?_)
    ·obtain ⟨T, U, V⟩ := z
     obtain ⟨b0, h⟩ := gd_some h
     refine AW.G Fm [.s, .s, .s] (fun K => (I64 (d + (1 : Int)) ∧ True) ∧ True) [(0, ow 0), (1, .v (.c (.clo 115 [50, 51]))), (5, vi T), (6, vi (d + (1 : Int)))] [(0, AO U), (50, bx [.ap 1028]), (51, bx [ci o]), (1028, AP V)] ⟨⟨b0, ⟨⟩⟩, ⟨⟩⟩ ?_
     exact Kn.RE Fm [(1010, 1028)] (X (T, (d + (1 : Int)), U, V) h)
    ·refine AW.block ?_
     obtain ⟨O, h⟩ := gd_some h
     refine AW.SG Fm [.s, .s, .s, .s, .s, .s] (fun K => _ ∧ (d.toNat < List.length a) ∧ True) [(0, ow 0), (1, .v (.c (.clo 115 [50, 51]))), (5, vi t), (6, vi d), (7, pt 7)] [(0, AO a), (7, bx [ci ((gl a d.toNat).left_), ci ((gl a d.toNat).low_), ci ((gl a d.toNat).right_), ci ((gl a d.toNat).high_)]), (50, bx [.ap 1010]), (51, bx [ci o]), (1010, AP D)] ⟨O, (toNat_lt O), ⟨⟩⟩ ?_
     refine AW.seq ?_
     obtain ⟨w, e0, h⟩ := bd_some h
     refine AW.G Fm [.s, .s, .k (cE [(0, 50), (60, 1010), (70, 1028), (1, 51)] [] (vb w.2) [(0, bx [.ap 60]), (1, bx [ci o]), (60, AP D)] [(0, bx [.ap 70]), (1, bx [ci o]), (70, AP w.1)]), .s] (fun K => K 2 ∧ True) [(0, ow 0), (1, .v (.c (.clo 115 [50, 51]))), (5, vi t), (6, vi d), (7, pt 7), (29, vb (!w.2))] [(0, AO a), (7, bx [ci ((gl a d.toNat).left_), ci ((gl a d.toNat).low_), ci ((gl a d.toNat).right_), ci ((gl a d.toNat).high_)]), (50, bx [.ap 1028]), (51, bx [ci o]), (1028, AP w.1)] ⟨KAt.clC (args := [.v (.g [ci ((gl a d.toNat).left_), ci ((gl a d.toNat).low_), ci ((gl a d.toNat).right_), ci ((gl a d.toNat).high_)])]) (caps := [0, 1]) (shape_Joined_1_spec e0) Tryz.call115 [(0, 50), (60, 1010), (70, 1028), (1, 51)] rfl (by kernel_rfl), ⟨⟩⟩ ?_
     refine AW.cond (b := (!w.2)) (by kernel_rfl) (fun I => ?_) (fun I => ?_)
     ·have h := br_t h I
      obtain ⟨L, h⟩ := gd_some h
      refine AW.SG Fm [.s, .s, .s, .s, .s] (fun K => _ ∧ (t.toNat < List.length a) ∧ True) [(0, ow 0), (1, .v (.c (.clo 115 [50, 51]))), (5, vi t), (6, vi d)] [(0, .arr 4 (List.length (α := Rect) a) (fun j => if j = t.toNat then splice ((LF (α := Rect) a) t.toNat) 0 [.int .i64 (gl a d.toNat).left_, .int .i64 (gl a d.toNat).low_, .int .i64 (gl a d.toNat).right_, .int .i64 (gl a d.toNat).high_] else (LF (α := Rect) a) j)), (50, bx [.ap 1028]), (51, bx [ci o]), (1028, AP w.1)] ⟨L, (toNat_lt L), ⟨⟩⟩ ?_
      refine Kn.wk [(0, ow 0), (1, .v (.c (.clo 115 [50, 51]))), (5, vi t), (6, vi d)] [(0, AO (α := Rect) (List.set a t.toNat (gl a d.toNat))), (50, bx [.ap 1028]), (51, bx [ci o]), (1028, AP w.1)] (FE.refl _) (⟨rfl, OLe.is (Is.set (Is.refl a) (toNat_lt L) (gl a d.toNat) (by kernel_rfl)), ⟨rfl, OLe.refl _, ⟨rfl, OLe.refl _, ⟨rfl, OLe.refl _, ⟨⟩⟩⟩⟩⟩) ?_
      obtain ⟨a0, h⟩ := gd_some h
      refine AW.G Fm [.s, .s, .s] (fun K => (I64 (t + (1 : Int)) ∧ True) ∧ True) [(0, ow 0), (1, .v (.c (.clo 115 [50, 51]))), (5, vi (t + (1 : Int))), (6, vi d)] [(0, AO (α := Rect) (List.set a t.toNat (gl a d.toNat))), (50, bx [.ap 1028]), (51, bx [ci o]), (1028, AP w.1)] ⟨⟨a0, ⟨⟩⟩, ⟨⟩⟩ ?_
      exact Kn.R Fm (M ((t + (1 : Int)), (List.set a t.toNat (gl a d.toNat)), w.1) h)
     ·have h := br_f h I
      refine AW.skip ?_
      exact Kn.R Fm (M (t, a, w.1) h)
   ·have h := br_f h H
    refine AW.exit ?_
    exact Kn.R Fm (Y (t, a, D) h)
theorem shape_Joined_spec {F : Nat} {a : (List Rect)} {r : (List Rect) × (List Rect)} (h : shape_Joined F a = some r) :
  FSpec Tryz.prog 56 [AL a] [] (.t [.c (.d (DL (α := Rect) r.1)), .c (.d (DL (α := Rect) r.2))]) [] := by
 refine FSpec.intro prog_mixed prog_lay Tryz.func56 rfl (by kernel_rfl) fun C Fm => ?_
 unfold shape_Joined at h
 refine AW.SG0 Fm 2 [(0, AL a)] [] ?_
 refine AW.seq ?_
 obtain ⟨y, h⟩ := gd_some h
 obtain ⟨A, h⟩ := gd_some h
 obtain ⟨p, L, h⟩ := bd_some h
 refine AW.G Fm [.s, .w (.v (.c (.fl (List.length (α := Rect) (a.take ((1 : Int)).toNat)) (LF (α := Rect) (a.take ((1 : Int)).toNat))))), .s, .w (AL (α := Rect) (a.drop (1 : Int).toNat)), .k (cE [(100, 11)] [] (ow 100) [] [(100, AO p)]), .s, .s, .s] (fun K => (((1 : Int) ≤ ((List.length a : Nat) : Int) ∧ ∀ j, j < List.length a → (LF a j).length = 4)) ∧ (ALe (.v (.c (.fl ((1 : Int)).toNat (LF a)))) (.v (.c (.fl (List.length (α := Rect) (a.take ((1 : Int)).toNat)) (LF (α := Rect) (a.take ((1 : Int)).toNat)))))) ∧ (((sl (List.length a) (LF a) (some (1 : Int)) none).2 ∧ ∀ j, j < List.length a → (LF a j).length = 4)) ∧ (ALe (.v (.c (.d (.lst (sl (List.length a) (LF a) (some (1 : Int)) none).1.1 (sl (List.length a) (LF a) (some (1 : Int)) none).1.2)))) (AL (α := Rect) (a.drop (1 : Int).toNat))) ∧ K 4 ∧ True) [(4, pt 4), (5, ow 11)] [(4, bx [.fl (List.length (α := Rect) (a.take ((1 : Int)).toNat)) (LF (α := Rect) (a.take ((1 : Int)).toNat))]), (11, AO p)] ⟨⟨y, (Is.refl a).len⟩, ALe.c (CLe.fls (Is.take (Is.refl a) y)), ⟨A, (Is.refl a).len⟩, ALe.lst (sl_is a (some (1 : Int)) none A), KAt.CC (slices_Clone_Rect_O_spec L) Tryz.call113 [(100, 11)], ⟨⟩⟩ ?_
 refine AW.join (r := r) (fun z : (List Rect) × (List Rect) => shape_Joined_k2 F z.1 z.2) (fun z => [(4, pt 4), (5, ow 11)]) (fun z => [(4, bx [.ap 900]), (11, AO z.1), (900, AP z.2)]) (fun z h => ?_) (fun P H => ?_)
 ·obtain ⟨n, l⟩ := z
  refine AW.SG0 Fm 4 [(2, .v (.c (.ap 900))), (3, ow 11)] [(11, AO n), (900, AP l)] ?_
  refine AW.ret ?_
  refine Kn.r Fm [(2, .v (.c (.ap 900))), (3, ow 11)] [(900, AP l), (11, AO n)] (by kernel_rfl) ?_
  refine Kn.ap_split (by kernel_rfl) ?_ ?_
  ·refine Kn.r Fm [(2, ow 900), (3, ow 11)] [(11, AO n), (900, AO l)] (by kernel_rfl) ?_
   obtain rfl := Option.some.inj h
   refine Kn.r Fm [(2, ow 900), (3, ow 11)] [(900, AO l), (11, AO n)] (by kernel_rfl) ?_
   refine Kn.frz [(2, AL l), (3, ow 11)] [(11, AO n)] (by kernel_rfl) (by kernel_rfl) (by kernel_rfl) ?_
   refine Kn.r Fm [(2, AL l), (3, ow 11)] [(11, AO n)] (by kernel_rfl) ?_
   refine Kn.frz [(2, AL l), (3, AL n)] [] (by kernel_rfl) (by kernel_rfl) (by kernel_rfl) ?_
   exact Kn.D Fm
  ·refine Kn.r Fm [(2, .v (.c (.fl (List.length (α := Rect) l) (LF (α := Rect) l)))), (3, ow 11)] [(11, AO n)] (by kernel_rfl) ?_
   obtain rfl := Option.some.inj h
   refine Kn.r Fm [(2, .v (.c (.fl (List.length (α := Rect) l) (LF (α := Rect) l)))), (3, ow 11)] [(11, AO n)] (by kernel_rfl) ?_
   refine Kn.frz [(2, .v (.c (.fl (List.length (α := Rect) l) (LF (α := Rect) l)))), (3, AL n)] [] (by kernel_rfl) (by kernel_rfl) (by kernel_rfl) ?_
   refine Kn.r Fm [(2, .v (.c (.fl (List.length (α := Rect) l) (LF (α := Rect) l)))), (3, AL n)] [] (by kernel_rfl) ?_
   refine Kn.wk [(2, AL l), (3, AL n)] [] ⟨rfl, ALe.c (CLe.fl (.refl _)), ⟨rfl, ALe.c (CLe.refl _), ⟨⟩⟩⟩ True.intro ?_
   exact Kn.D Fm
 ·refine AW.SG0 Fm 2 [(4, pt 4), (5, ow 11), (6, pt 6)] [(4, bx [.fl (List.length (α := Rect) (a.take ((1 : Int)).toNat)) (LF (α := Rect) (a.take ((1 : Int)).toNat))]), (6, bx [ci (0 : Int)]), (11, AO p)] ?_
  refine AW.block ?_
  refine Kn.r Fm [(4, pt 4), (5, ow 11), (6, pt 6)] [(4, bx [.fl (List.length (α := Rect) (a.take ((1 : Int)).toNat)) (LF (α := Rect) (a.take ((1 : Int)).toNat))]), (6, bx [ci (0 : Int)]), (11, AO p)] (by kernel_rfl) ?_
  refine Kn.ap0 Fm (k := 900) (es := 4) (j := 0) (by kernel_rfl) (by kernel_rfl) (by simp) rfl ?_
  refine Kn.r Fm [(4, pt 4), (5, ow 11), (6, pt 6)] [(4, bx [.ap 900]), (6, bx [ci (0 : Int)]), (11, AO p), (900, AP (α := Rect) (a.take ((1 : Int)).toNat))] (by kernel_rfl) ?_
  refine Kn.r Fm [(4, pt 4), (5, ow 11), (6, pt 6)] [(4, bx [.ap 900]), (6, bx [ci (0 : Int)]), (11, AO p), (900, AP (a.take ((1 : Int)).toNat))] (by kernel_rfl) ?_
  refine AW.loopF (E' := fun z => [(4, pt 4), (5, ow 11), (6, pt 6)]) (S' := fun z => [(4, bx [.ap 900]), (6, bx [ci z.2.1]), (11, AO z.1), (900, AP z.2.2)]) (fun B z N E h => ?_) h
  obtain ⟨m, e, i⟩ := z
  refine AW.seq ?_
  refine AW.join (r := r) (fun z : Unit => shape_Joined_k1 F m e i B) (fun z => [(4, pt 4), (5, ow 11), (6, pt 6), (15, vb (decide (e < ((List.length i : Nat) : Int))))]) (fun z => [(4, bx [.ap 900]), (6, bx [ci e]), (11, AO m), (900, AP i)]) (fun z h => ?_) (fun O u => ?_)
  ·refine AW.cond (b := (decide (e < ((List.length i : Nat) : Int)))) (by kernel_rfl) (fun q => ?_) (fun q => ?_)
   ·have h := br_t h q
    refine AW.skip ?_
    refine AW.seq ?_
    refine AW.block ?_
    obtain ⟨o, M, h⟩ := bd_some h
    refine AW.G Fm [.s, .s, .k (cE [(0, 11), (50, 4), (60, 900), (70, 1020), (51, 6), (100, 20)] [] (ow 100) [(0, AO m), (50, bx [.ap 60]), (51, bx [ci e]), (60, AP i)] [(50, bx [.ap 70]), (51, bx [ci e]), (70, AP o.1), (100, AO o.2)]), .s] (fun K => K 2 ∧ True) [(4, pt 4), (5, ow 20), (6, pt 6)] [(4, bx [.ap 1020]), (6, bx [ci e]), (20, AO o.2), (1020, AP o.1)] ⟨KAt.CC (slices_DeleteFunc_Rect_J_spec M) Tryz.call114 [(0, 11), (50, 4), (60, 900), (70, 1020), (51, 6), (100, 20)], ⟨⟩⟩ ?_
    refine AW.seq ?_
    refine AW.SG0 Fm 1 [(4, pt 4), (5, ow 20), (21, vi e)] [(4, bx [.ap 1020]), (20, AO o.2), (1020, AP o.1)] ?_
    refine AW.G0 Fm 2 [(4, pt 4), (5, ow 20), (6, pt 6)] [(4, bx [.ap 1020]), (6, bx [ci e]), (20, AO o.2), (1020, AP o.1)] ?_
    obtain ⟨I, h⟩ := gd_some h
    refine AW.G Fm [.s, .s, .s] (fun K => (I64 (e + (1 : Int)) ∧ True) ∧ True) [(4, pt 4), (5, ow 20), (6, pt 6)] [(4, bx [.ap 1020]), (6, bx [ci (e + (1 : Int))]), (20, AO o.2), (1020, AP o.1)] ⟨⟨I, ⟨⟩⟩, ⟨⟩⟩ ?_
    exact Kn.RE Fm [(11, 20), (900, 1020)] (E (o.2, (e + (1 : Int)), o.1) h)
   ·have h := br_f h q
    refine AW.exit ?_
    exact Kn.R Fm (H (m, i) h)
  ·refine Kn.r Fm [(4, pt 4), (5, ow 11), (6, pt 6)] [(900, AP i), (4, bx [.ap 900]), (6, bx [ci e]), (11, AO m)] (by kernel_rfl) ?_
   refine Kn.ap_split (by kernel_rfl) ?_ ?_
   ·refine Kn.r Fm [(4, pt 4), (5, ow 11), (6, pt 6)] [(4, bx [.own 900]), (6, bx [ci e]), (11, AO m), (900, AO i)] (by kernel_rfl) ?_
    refine AW.G0 Fm 4 [(4, pt 4), (5, ow 11), (6, pt 6), (15, vb (decide (e < ((List.length i : Nat) : Int))))] [(4, bx [.own 900]), (6, bx [ci e]), (11, AO m), (900, AO i)] ?_
    refine Kn.r Fm [(4, pt 4), (5, ow 11), (6, pt 6), (15, vb (decide (e < ((List.length i : Nat) : Int))))] [(4, bx [.own 900]), (6, bx [ci e]), (11, AO m), (900, AO i)] (by kernel_rfl) ?_
    refine Kn.wk [(4, pt 4), (5, ow 11), (6, pt 6), (15, vb (decide (e < ((List.length i : Nat) : Int))))] [(4, bx [.ap 900]), (6, bx [ci e]), (11, AO m), (900, AP i)] ⟨rfl, ALe.refl _, ⟨rfl, ALe.refl _, ⟨rfl, ALe.refl _, ⟨rfl, ALe.refl _, ⟨⟩⟩⟩⟩⟩ ⟨rfl, OLe.box ⟨CLe.ap 900, ⟨⟩⟩, ⟨rfl, OLe.refl _, ⟨rfl, OLe.refl _, ⟨rfl, OLe.ap _ _ _, ⟨⟩⟩⟩⟩⟩ ?_
    exact Kn.R Fm (u () h)
   ·refine Kn.r Fm [(4, pt 4), (5, ow 11), (6, pt 6)] [(4, bx [.fl (List.length (α := Rect) i) (LF (α := Rect) i)]), (6, bx [ci e]), (11, AO m)] (by kernel_rfl) ?_
    refine AW.G0 Fm 4 [(4, pt 4), (5, ow 11), (6, pt 6), (15, vb (decide (e < ((List.length i : Nat) : Int))))] [(4, bx [.fl (List.length (α := Rect) i) (LF (α := Rect) i)]), (6, bx [ci e]), (11, AO m)] ?_
    refine Kn.r Fm [(4, pt 4), (5, ow 11), (6, pt 6), (15, vb (decide (e < ((List.length i : Nat) : Int))))] [(4, bx [.fl (List.length (α := Rect) i) (LF (α := Rect) i)]), (6, bx [ci e]), (11, AO m)] (by kernel_rfl) ?_
    refine Kn.ap0 Fm (k := 900) (es := 4) (j := 0) (by kernel_rfl) (by kernel_rfl) (by simp) rfl ?_
    refine Kn.r Fm [(4, pt 4), (5, ow 11), (6, pt 6), (15, vb (decide (e < ((List.length i : Nat) : Int))))] [(4, bx [.ap 900]), (6, bx [ci e]), (11, AO m), (900, AP i)] (by kernel_rfl) ?_
    exact Kn.R Fm (u () h)
theorem region_Of_1_spec {F : Nat} {a : Rect} {r : Bool} (h : region_Of_1 F a = some r) :
  FSpec Tryz.prog 116 [gE a] [] (vb r) [] := by
 refine FSpec.intro prog_mixed prog_lay Tryz.func116 rfl (by kernel_rfl) fun C Fm => ?_
 unfold region_Of_1 at h
 refine AW.SG0 Fm 2 [(1, pt 1)] [(1, bx (gC a))] ?_
 refine AW.seq ?_
 obtain ⟨b, c, h⟩ := bd_some h
 refine AW.G Fm [.s, .k (cE [] [] (vb b) [] []), .s, .s] (fun K => K 1 ∧ True) [(2, vb (!b))] [] ⟨KAt.CC (region_proper_spec c) Tryz.call110 [], ⟨⟩⟩ ?_
 refine AW.ret ?_
 obtain rfl := Option.some.inj h
 exact Kn.D Fm
theorem region_Of_spec {F : Nat} {a : (List Rect)} {r : Region × Int} (h : region_Of F a = some r) :
  FSpec Tryz.prog 57 [AL a] [] (.t [.g [.d (DL (α := Rect) r.1.rects_)], .c (ci r.2)]) [] := by
 refine FSpec.intro prog_mixed prog_lay Tryz.func57 rfl (by kernel_rfl) fun C Fm => ?_
 unfold region_Of at h
 refine AW.SG0 Fm 2 [(0, AL a), (2, pt 2)] [(2, bx [.fl 0 fun _ => []])] ?_
 refine AW.seq ?_
 refine AW.SG0 Fm 3 [(0, AL a), (2, pt 2), (6, vb (decide ((120 : Int) < ((List.length a : Nat) : Int))))] [(2, bx [.fl 0 fun _ => []])] ?_
 refine AW.cond (b := (decide ((120 : Int) < ((List.length a : Nat) : Int)))) (by kernel_rfl) (fun i => ?_) (fun i => ?_)
 ·have h := br_t h i
  refine AW.SG Fm [.w (.v (.g [.d (DL (α := Rect) [])])), .s, .s] (fun K => (ALe (.v (.g [.fl 0 fun _ => []])) (.v (.g [.d (DL (α := Rect) [])]))) ∧ True) [(2, pt 2), (3, vi (1 : Int))] [(2, bx [.d (DL (α := Rect) [])])] ⟨ALe.g ⟨CLe.fl .nil, ⟨⟩⟩, ⟨⟩⟩ ?_
  refine AW.ret ?_
  obtain rfl := Option.some.inj h
  exact Kn.D Fm
 ·have h := br_f h i
  refine AW.skip ?_
  refine AW.seq ?_
  refine AW.seq ?_
  obtain ⟨l, m, h⟩ := bd_some h
  refine AW.G Fm [.s, .k (cE [] [] (vb l) [] [])] (fun K => K 1 ∧ True) [(0, AL a), (2, pt 2), (9, vb l)] [(2, bx [.fl 0 fun _ => []])] ⟨KAt.callX (slices_ContainsFunc_Rect_spec m) Tryz.call108 [] [] [.tmp 8, .func 116] rfl (by kernel_rfl) (by kernel_rfl) (by kernel_rfl) ⟨.p, ArgT.cloX Tryz.call116 [] (fun args r hq => by obtain ⟨y0, y, hq, rfl, rfl⟩ := hq; exact Eq.mp (by kernel_rfl) (region_Of_1_spec hq)) (fun args r hq => by obtain ⟨y0, y, hq, rfl, rfl⟩ := hq; rfl) (by kernel_rfl) [] (by kernel_rfl) (by kernel_rfl) (True.intro) (by kernel_rfl), ⟨⟩⟩, ⟨⟩⟩ ?_
  refine AW.cond (b := l) (by kernel_rfl) (fun j => ?_) (fun j => ?_)
  ·have h := br_t h j
   refine AW.SG Fm [.w (.v (.g [.d (DL (α := Rect) [])])), .s, .s] (fun K => (ALe (.v (.g [.fl 0 fun _ => []])) (.v (.g [.d (DL (α := Rect) [])]))) ∧ True) [(2, pt 2), (3, vi (2 : Int))] [(2, bx [.d (DL (α := Rect) [])])] ⟨ALe.g ⟨CLe.fl .nil, ⟨⟩⟩, ⟨⟩⟩ ?_
   refine AW.ret ?_
   obtain rfl := Option.some.inj h
   exact Kn.D Fm
  ·have h := br_f h j
   refine AW.skip ?_
   refine AW.seq ?_
   obtain ⟨q, n, h⟩ := bd_some h
   obtain ⟨e, o, h⟩ := bd_some h
   refine AW.G Fm [.s, .k (cE [] [] (AL q) [] []), .k (cE [] [] (.t [.g [.d (DL e.1.rects_)], .c (ci e.2)]) [] []), .s, .s, .s, .s] (fun K => K 1 ∧ K 2 ∧ True) [(2, pt 2), (3, vi e.2)] [(2, bx [.d (DL e.1.rects_)])] ⟨KAt.CC (region_canonical_spec n) Tryz.call112 [], KAt.CC (region_Limited_spec o) Tryz.call98 [], ⟨⟩⟩ ?_
   refine AW.ret ?_
   obtain rfl := Option.some.inj h
   exact Kn.D Fm
theorem cmp_Or_int_spec {F : Nat} {a : (List Int)} {r : Int} (h : cmp_Or_int F a = some r) :
  FSpec Tryz.prog 60 [AL a] [] (vi r) [] := by
 refine FSpec.intro prog_mixed prog_lay Tryz.func60 rfl (by kernel_rfl) fun C Fm => ?_
 unfold cmp_Or_int at h
 refine AW.SG0 Fm 1 [(0, AL a)] [] ?_
 refine AW.SG0 Fm 1 [(0, AL a), (3, vi (0 : Int))] [] ?_
 refine AW.join (r := r) (fun z : Unit => cmp_Or_int_k1 F) (fun z => [(3, vi (0 : Int))]) (fun z => []) (fun z h => ?_) (fun n j => ?_)
 ·refine AW.SG0 Fm 2 [(2, vi (0 : Int))] [] ?_
  refine AW.ret ?_
  obtain rfl := Option.some.inj h
  exact Kn.D Fm
 ·refine AW.SG0 Fm 3 [(3, vi (0 : Int)), (6, AL a), (7, vi ((List.length a : Nat) : Int)), (8, vi (0 : Int))] [] ?_
  refine AW.block ?_
  refine Kn.r Fm [(3, vi (0 : Int)), (6, AL a), (7, vi ((List.length a : Nat) : Int)), (8, vi (0 : Int))] [] (by kernel_rfl) ?_
  refine AW.loopF (E' := fun z => [(3, vi (0 : Int)), (6, AL a), (7, vi ((List.length a : Nat) : Int)), (8, vi z)]) (S' := fun z => []) (fun o c m i h => ?_) h
  refine AW.SG0 Fm 1 [(3, vi (0 : Int)), (6, AL a), (7, vi ((List.length a : Nat) : Int)), (8, vi c), (9, vb (decide (c < ((List.length a : Nat) : Int))))] [] ?_
  refine AW.seq ?_
  refine AW.cond (b := (decide (c < ((List.length a : Nat) : Int)))) (by kernel_rfl) (fun d => ?_) (fun d => ?_)
  ·have h := br_t h d
   refine AW.skip ?_
   refine AW.seq ?_
   refine AW.block ?_
   obtain ⟨k, h⟩ := gd_some h
   refine AW.SG Fm [.s, .s, .s] (fun K => _ ∧ True) [(3, vi (0 : Int)), (5, vi (gl a c.toNat)), (6, AL a), (7, vi ((List.length a : Nat) : Int)), (8, vi c)] [] ⟨k, ⟨⟩⟩ ?_
   refine AW.SG0 Fm 3 [(3, vi (0 : Int)), (5, vi (gl a c.toNat)), (6, AL a), (7, vi ((List.length a : Nat) : Int)), (8, vi c), (14, vb ((gl a c.toNat) != (0 : Int)))] [] ?_
   refine AW.cond (b := ((gl a c.toNat) != (0 : Int))) (by kernel_rfl) (fun e => ?_) (fun e => ?_)
   ·have h := br_t h e
    refine AW.SG0 Fm 2 [(2, vi (gl a c.toNat))] [] ?_
    refine AW.ret ?_
    obtain rfl := Option.some.inj h
    exact Kn.D Fm
   ·have h := br_f h e
    refine AW.skip ?_
    obtain ⟨l, h⟩ := gd_some h
    refine AW.G Fm [.s, .s] (fun K => (I64 (c + (1 : Int)) ∧ True) ∧ True) [(3, vi (0 : Int)), (6, AL a), (7, vi ((List.length a : Nat) : Int)), (8, vi (c + (1 : Int)))] [] ⟨⟨l, ⟨⟩⟩, ⟨⟩⟩ ?_
    exact Kn.R Fm (i (c + (1 : Int)) h)
  ·have h := br_f h d
   refine AW.exit ?_
   exact Kn.R Fm (j () h)
theorem shape_Parts_1_spec {F : Nat} {e : Region} {i : Region} {r : Int} (h : shape_Parts_1 F e i = some r) :
  FSpec Tryz.prog 59 [.v (.g [.d (DL e.rects_)]), .v (.g [.d (DL i.rects_)])] [] (vi r) [] := by
 refine FSpec.intro prog_mixed prog_lay Tryz.func59 rfl (by kernel_rfl) fun C Fm => ?_
 unfold shape_Parts_1 at h
 refine AW.SG0 Fm 3 [(2, pt 2), (3, pt 3)] [(2, bx [.d (DL e.rects_)]), (3, bx [.d (DL i.rects_)])] ?_
 refine AW.seq ?_
 obtain ⟨l, h⟩ := gd_some h
 obtain ⟨m, h⟩ := gd_some h
 obtain ⟨a, p, h⟩ := bd_some h
 obtain ⟨n, h⟩ := gd_some h
 obtain ⟨o, h⟩ := gd_some h
 obtain ⟨b, q, h⟩ := bd_some h
 obtain ⟨j, t, h⟩ := bd_some h
 refine AW.G Fm [.s, .s, .s, .s, .s, .s, .s, .s, .s, .s, .k (cE [] [] (vi a) [] []), .s, .s, .s, .s, .s, .s, .s, .s, .s, .s, .k (cE [] [] (vi b) [] []), .w (AL (α := Int) ([a, b] : List Int)), .k (cE [] [] (vi j) [] []), .s] (fun K => _ ∧ _ ∧ K 10 ∧ _ ∧ _ ∧ K 21 ∧ (ALe (.v (.c (.d (.lst 2 (litF 1 [.int .i64 a, .int .i64 b]))))) (AL (α := Int) ([a, b] : List Int))) ∧ K 23 ∧ True) [(4, vi j)] [] ⟨l, m, KAt.CC (cmp_Compare_int_spec p) Tryz.call61 [], n, o, KAt.CC (cmp_Compare_int_spec q) Tryz.call61 [], ALe.lst (.lit ([a, b] : List Int) (by kernel_rfl)), KAt.CC (cmp_Or_int_spec t) Tryz.call60 [], ⟨⟩⟩ ?_
 refine AW.ret ?_
 obtain rfl := Option.some.inj h
 exact Kn.D Fm
theorem shape_Parts_spec {F : Nat} {l : Region} {r : (List Region) × Int} (h : shape_Parts F l = some r) :
  FSpec Tryz.prog 14 [.v (.g [.d (DL l.rects_)])] [] (.t [.c (.d (DL (α := Region) r.1)), .c (ci r.2)]) [] := by
 refine FSpec.intro prog_mixed prog_lay Tryz.func14 rfl (by kernel_rfl) fun C Fm => ?_
 unfold shape_Parts at h
 refine AW.SG0 Fm 3 [(1, pt 1)] [(1, bx [.d (DL l.rects_)])] ?_
 refine AW.seq ?_
 refine AW.seq ?_
 obtain ⟨B, L, h⟩ := bd_some h
 refine AW.G Fm [.s, .k (cE [] [] (vb B) [] []), .s] (fun K => K 1 ∧ True) [(1, pt 1), (11, vb (!B))] [(1, bx [.d (DL l.rects_)])] ⟨KAt.CC (region_Valid_spec L) Tryz.call55 [], ⟨⟩⟩ ?_
 refine AW.cond (b := (!B)) (by kernel_rfl) (fun q => ?_) (fun q => ?_)
 ·have h := br_t h q
  refine AW.SG0 Fm 2 [(2, .v (.c (.fl 0 fun _ => []))), (3, vi (7 : Int))] [] ?_
  refine AW.ret ?_
  obtain rfl := Option.some.inj h
  refine Kn.r Fm [(2, .v (.c (.fl 0 fun _ => []))), (3, vi (7 : Int))] [] (by kernel_rfl) ?_
  refine Kn.wk [(2, AL (α := Region) []), (3, vi (7 : Int))] [] ⟨rfl, ALe.c (CLe.fl .nil), ⟨rfl, ALe.c (CLe.refl _), ⟨⟩⟩⟩ True.intro ?_
  exact Kn.D Fm
 ·have h := br_f h q
  refine AW.skip ?_
  refine AW.SG Fm [.m] (fun K => True) [(1, pt 1), (4, ow 4)] [(1, bx [.d (DL l.rects_)]), (4, .arr 1 (0) (fun _ => []))] True.intro ?_
  refine Kn.wk [(1, pt 1), (4, ow 4)] [(1, bx [.d (DL l.rects_)]), (4, AO (α := Region) ([] : List Region))] (FE.refl _) (⟨rfl, OLe.refl _, ⟨rfl, OLe.is ((Is.nil (α := Region))), ⟨⟩⟩⟩) ?_
  refine AW.join (r := r) (fun z : (List Region) => shape_Parts_k1 F z) (fun z => [(4, ow 4)]) (fun z => [(4, AO z)]) (fun P h => ?_) (fun U H => ?_)
  ·refine AW.seq ?_
   obtain ⟨n, O, h⟩ := bd_some h
   refine AW.G Fm [.s, .k (cE [(0, 4)] [] (.any) [(0, AO P)] [(0, AO n)])] (fun K => K 1 ∧ True) [(4, ow 4)] [(4, AO n)] ⟨KAt.callX (sortG_Region_spec O) Tryz.call58 [(0, 4)] [] [.tmp 34, .func 59] rfl (by kernel_rfl) (by kernel_rfl) (by kernel_rfl) ⟨.p, ArgT.cloX Tryz.call59 [] (fun args r hq => by obtain ⟨y0, y1, y, hq, rfl, rfl⟩ := hq; exact Eq.mp (by kernel_rfl) (shape_Parts_1_spec hq)) (fun args r hq => by obtain ⟨y0, y1, y, hq, rfl, rfl⟩ := hq; rfl) (by kernel_rfl) [] (by kernel_rfl) (by kernel_rfl) (True.intro) (by kernel_rfl), ⟨⟩⟩, ⟨⟩⟩ ?_
   refine AW.SG0 Fm 3 [(2, ow 4), (3, vi (0 : Int))] [(4, AO n)] ?_
   refine AW.ret ?_
   obtain rfl := Option.some.inj h
   refine Kn.r Fm [(2, ow 4), (3, vi (0 : Int))] [(4, AO n)] (by kernel_rfl) ?_
   refine Kn.frz [(2, AL n), (3, vi (0 : Int))] [] (by kernel_rfl) (by kernel_rfl) (by kernel_rfl) ?_
   exact Kn.D Fm
  ·refine AW.SG0 Fm 3 [(4, ow 4), (5, AL l.rects_)] [(4, AO (α := Region) ([] : List Region))] ?_
   refine AW.block ?_
   refine Kn.r Fm [(4, ow 4), (5, AL l.rects_)] [(4, AO ([] : List Region))] (by kernel_rfl) ?_
   refine AW.loopF (E' := fun z => [(4, ow 4), (5, AL z.1)]) (S' := fun z => [(4, AO z.2)]) (fun V z T E h => ?_) h
   obtain ⟨o, e⟩ := z
   refine AW.seq ?_
   refine AW.SG0 Fm 3 [(4, ow 4), (5, AL o), (16, vb (decide ((0 : Int) < ((List.length o : Nat) : Int))))] [(4, AO e)] ?_
   refine AW.cond (b := (decide ((0 : Int) < ((List.length o : Nat) : Int)))) (by kernel_rfl) (fun u => ?_) (fun u => ?_)
   ·have h := br_t h u
    refine AW.skip ?_
    refine AW.block ?_
    refine AW.SG Fm [.m] (fun K => True) [(4, ow 4), (5, AL o)] [(4, AO e)] True.intro ?_
    refine AW.seq ?_
    obtain ⟨i, M, h⟩ := bd_some h
    refine AW.G Fm [.s, .k (cE [] [] (.t [.c (.d (DL i.1)), .c (.d (DL i.2))]) [] []), .s, .s, .s, .s, .s] (fun K => K 1 ∧ True) [(4, ow 4), (5, AL i.2), (6, AL i.1)] [(4, AO e)] ⟨KAt.CC (shape_Joined_spec M) Tryz.call56 [], ⟨⟩⟩ ?_
    refine AW.seq ?_
    obtain ⟨a, N, h⟩ := bd_some h
    refine AW.G Fm [.s, .k (cE [] [] (.t [.g [.d (DL a.1.rects_)], .c (ci a.2)]) [] []), .s, .s, .s, .s, .s, .s] (fun K => K 1 ∧ True) [(4, ow 4), (5, AL i.2), (7, pt 7), (8, vi a.2)] [(4, AO e), (7, bx [.d (DL a.1.rects_)])] ⟨KAt.CC (region_Of_spec N) Tryz.call57 [], ⟨⟩⟩ ?_
    refine AW.seq ?_
    refine AW.SG0 Fm 2 [(4, ow 4), (5, AL i.2), (7, pt 7), (8, vi a.2), (28, vb (a.2 != (0 : Int)))] [(4, AO e), (7, bx [.d (DL a.1.rects_)])] ?_
    refine AW.cond (b := (a.2 != (0 : Int))) (by kernel_rfl) (fun A => ?_) (fun A => ?_)
    ·have h := br_t h A
     refine AW.SG0 Fm 3 [(2, .v (.c (.fl 0 fun _ => []))), (3, vi a.2)] [] ?_
     refine AW.ret ?_
     obtain rfl := Option.some.inj h
     refine Kn.r Fm [(2, .v (.c (.fl 0 fun _ => []))), (3, vi a.2)] [] (by kernel_rfl) ?_
     refine Kn.wk [(2, AL (α := Region) []), (3, vi a.2)] [] ⟨rfl, ALe.c (CLe.fl .nil), ⟨rfl, ALe.c (CLe.refl _), ⟨⟩⟩⟩ True.intro ?_
     exact Kn.D Fm
    ·have h := br_f h A
     refine AW.skip ?_
     obtain ⟨I, h⟩ := gd_some h
     refine AW.G Fm [.s, .s, .w (AL (α := Region) ([a.1] : List Region)), .s, .s] (fun K => (ALe (.v (.c (.d (.lst 1 (litF 1 [DL a.1.rects_]))))) (AL (α := Region) ([a.1] : List Region))) ∧ ((List.length (α := Region) e) + (List.length (α := Region) ([a.1] : List Region)) ≤ LIM ∧ (∀ j, j < List.length (α := Region) ([a.1] : List Region) → ((LF (α := Region) ([a.1] : List Region)) j).length = 1) ∧ (True)) ∧ True) [(4, ow 33), (5, AL i.2)] [(33, .arr 1 ((List.length (α := Region) e) + (List.length (α := Region) ([a.1] : List Region))) (appF (List.length (α := Region) e) (LF (α := Region) e) (LF (α := Region) ([a.1] : List Region))))] ⟨ALe.lst (.lit ([a.1] : List Region) (by kernel_rfl)), ⟨I, (Is.refl ([a.1] : List Region) : Is (List.length (α := Region) ([a.1] : List Region)) (LF (α := Region) ([a.1] : List Region)) ([a.1] : List Region)).len, ⟨⟩⟩, ⟨⟩⟩ ?_
     refine Kn.wk [(4, ow 33), (5, AL i.2)] [(33, AO (α := Region) (e ++ ([a.1] : List Region)))] (FE.refl _) (⟨rfl, OLe.is (Is.app (Is.refl e) (Is.refl ([a.1] : List Region))), ⟨⟩⟩) ?_
     exact Kn.RE Fm [(4, 33)] (E (i.2, (e ++ ([a.1] : List Region))) h)
   ·have h := br_f h u
    refine AW.exit ?_
    exact Kn.R Fm (H e h)
theorem ref04_Same_spec {F : Nat} {a : Region} {b : Region} {r : Bool} (h : ref04_Same F a b = some r) :
  FSpec Tryz.prog 16 [.v (.g [.d (DL a.rects_)]), .v (.g [.d (DL b.rects_)])] [] (vb r) [] := by
 refine FSpec.intro prog_mixed prog_lay Tryz.func16 rfl (by kernel_rfl) fun C Fm => ?_
 unfold ref04_Same at h
 refine AW.SG0 Fm 3 [(2, pt 2), (3, pt 3)] [(2, bx [.d (DL a.rects_)]), (3, bx [.d (DL b.rects_)])] ?_
 refine AW.seq ?_
 obtain ⟨c, e, h⟩ := bd_some h
 refine AW.G Fm [.s, .s, .s, .s, .k (cE [] [] (vb c) [] []), .s] (fun K => K 4 ∧ True) [(4, vb c)] [] ⟨KAt.CC (ref04_Rects_spec e) Tryz.call63 [], ⟨⟩⟩ ?_
 refine AW.ret ?_
 obtain rfl := Option.some.inj h
 exact Kn.D Fm
theorem shape_Touch_spec {F : Nat} {a : Region} {i : Region} {r : Int × Int} (h : shape_Touch F a i = some r) :
  FSpec Tryz.prog 17 [.v (.g [.d (DL a.rects_)]), .v (.g [.d (DL i.rects_)])] [] (.t [.c (ci r.1), .c (ci r.2)]) [] := by
 refine FSpec.intro prog_mixed prog_lay Tryz.func17 rfl (by kernel_rfl) fun C Fm => ?_
 unfold shape_Touch at h
 refine AW.SG0 Fm 4 [(2, pt 2), (3, pt 3)] [(2, bx [.d (DL a.rects_)]), (3, bx [.d (DL i.rects_)])] ?_
 refine AW.seq ?_
 refine AW.block ?_
 refine AW.join (r := r) (fun z : Bool => shape_Touch_k0 F a i z) (fun z => [(2, pt 2), (3, pt 3), (11, vb z)]) (fun z => [(2, bx [.d (DL a.rects_)]), (3, bx [.d (DL i.rects_)])]) (fun c0 h => ?_) (fun e0 H => ?_)
 ·refine AW.cond (b := c0) (by kernel_rfl) (fun q => ?_) (fun q => ?_)
  ·have h := br_t h q
   refine AW.SG0 Fm 2 [(4, vi (0 : Int)), (5, vi (7 : Int))] [] ?_
   refine AW.ret ?_
   obtain rfl := Option.some.inj h
   exact Kn.D Fm
  ·have h := br_f h q
   refine AW.seq ?_
   obtain ⟨E, a0, h⟩ := bd_some h
   refine AW.G Fm [.s, .s, .k (cE [] [] (vb E) [] []), .s] (fun K => K 2 ∧ True) [(2, pt 2), (3, pt 3), (20, vb E)] [(2, bx [.d (DL a.rects_)]), (3, bx [.d (DL i.rects_)])] ⟨KAt.CC (region_Meets_spec a0) Tryz.call65 [], ⟨⟩⟩ ?_
   refine AW.cond (b := E) (by kernel_rfl) (fun u => ?_) (fun u => ?_)
   ·have h := br_t h u
    refine AW.SG0 Fm 2 [(4, vi (0 : Int)), (5, vi (11 : Int))] [] ?_
    refine AW.ret ?_
    obtain rfl := Option.some.inj h
    exact Kn.D Fm
   ·have h := br_f h u
    refine AW.skip ?_
    refine AW.SG0 Fm 1 [(2, pt 2), (3, pt 3), (6, vi (0 : Int))] [(2, bx [.d (DL a.rects_)]), (3, bx [.d (DL i.rects_)])] ?_
    refine AW.join (r := r) (fun z : Int => shape_Touch_k4 F z) (fun z => [(6, vi z)]) (fun z => []) (fun d0 h => ?_) (fun l0 T => ?_)
    ·refine AW.SG0 Fm 3 [(4, vi d0), (5, vi (0 : Int))] [] ?_
     refine AW.ret ?_
     obtain rfl := Option.some.inj h
     exact Kn.D Fm
    ·refine AW.SG0 Fm 4 [(3, pt 3), (6, vi (0 : Int)), (25, AL a.rects_), (26, vi ((List.length a.rects_ : Nat) : Int)), (27, vi (0 : Int))] [(3, bx [.d (DL i.rects_)])] ?_
     refine AW.block ?_
     refine Kn.r Fm [(3, pt 3), (6, vi (0 : Int)), (25, AL a.rects_), (26, vi ((List.length a.rects_ : Nat) : Int)), (27, vi (0 : Int))] [(3, bx [.d (DL i.rects_)])] (by kernel_rfl) ?_
     refine AW.loopF (E' := fun z => [(3, pt 3), (6, vi z.1), (25, AL a.rects_), (26, vi ((List.length a.rects_ : Nat) : Int)), (27, vi z.2)]) (S' := fun z => [(3, bx [.d (DL i.rects_)])]) (fun M z i0 N h => ?_) h
     obtain ⟨n, e⟩ := z
     refine AW.SG0 Fm 1 [(3, pt 3), (6, vi n), (25, AL a.rects_), (26, vi ((List.length a.rects_ : Nat) : Int)), (27, vi e), (28, vb (decide (e < ((List.length a.rects_ : Nat) : Int))))] [(3, bx [.d (DL i.rects_)])] ?_
     refine AW.seq ?_
     refine AW.cond (b := (decide (e < ((List.length a.rects_ : Nat) : Int)))) (by kernel_rfl) (fun y => ?_) (fun y => ?_)
     ·have h := br_t h y
      refine AW.skip ?_
      refine AW.join (r := r) (fun z : Int => shape_Touch_k3 F e M z) (fun z => [(3, pt 3), (6, vi z), (25, AL a.rects_), (26, vi ((List.length a.rects_ : Nat) : Int)), (27, vi e)]) (fun z => [(3, bx [.d (DL i.rects_)])]) (fun L h => ?_) (fun k0 P => ?_)
      ·obtain ⟨Y, h⟩ := gd_some h
       refine AW.G Fm [.s, .s] (fun K => (I64 (e + (1 : Int)) ∧ True) ∧ True) [(3, pt 3), (6, vi L), (25, AL a.rects_), (26, vi ((List.length a.rects_ : Nat) : Int)), (27, vi (e + (1 : Int)))] [(3, bx [.d (DL i.rects_)])] ⟨⟨Y, ⟨⟩⟩, ⟨⟩⟩ ?_
       exact Kn.R Fm (N (L, (e + (1 : Int))) h)
      ·refine AW.block ?_
       obtain ⟨U, h⟩ := gd_some h
       refine AW.SG Fm [.s, .s, .s, .s] (fun K => _ ∧ True) [(3, pt 3), (6, vi n), (8, pt 8), (25, AL a.rects_), (26, vi ((List.length a.rects_ : Nat) : Int)), (27, vi e)] [(3, bx [.d (DL i.rects_)]), (8, bx [ci ((gl a.rects_ e.toNat).left_), ci ((gl a.rects_ e.toNat).low_), ci ((gl a.rects_ e.toNat).right_), ci ((gl a.rects_ e.toNat).high_)])] ⟨U, ⟨⟩⟩ ?_
       refine AW.SG0 Fm 4 [(3, pt 3), (6, vi n), (8, pt 8), (25, AL a.rects_), (26, vi ((List.length a.rects_ : Nat) : Int)), (27, vi e), (32, AL i.rects_), (33, vi ((List.length i.rects_ : Nat) : Int)), (34, vi (0 : Int))] [(3, bx [.d (DL i.rects_)]), (8, bx [ci ((gl a.rects_ e.toNat).left_), ci ((gl a.rects_ e.toNat).low_), ci ((gl a.rects_ e.toNat).right_), ci ((gl a.rects_ e.toNat).high_)])] ?_
       refine AW.block ?_
       refine Kn.r Fm [(3, pt 3), (6, vi n), (8, pt 8), (25, AL a.rects_), (26, vi ((List.length a.rects_ : Nat) : Int)), (27, vi e), (32, AL i.rects_), (33, vi ((List.length i.rects_ : Nat) : Int)), (34, vi (0 : Int))] [(3, bx [.d (DL i.rects_)]), (8, bx [ci ((gl a.rects_ e.toNat).left_), ci ((gl a.rects_ e.toNat).low_), ci ((gl a.rects_ e.toNat).right_), ci ((gl a.rects_ e.toNat).high_)])] (by kernel_rfl) ?_
       refine AW.loopF (E' := fun z => [(3, pt 3), (6, vi z.1), (8, pt 8), (25, AL a.rects_), (26, vi ((List.length a.rects_ : Nat) : Int)), (27, vi e), (32, AL i.rects_), (33, vi ((List.length i.rects_ : Nat) : Int)), (34, vi z.2)]) (S' := fun z => [(3, bx [.d (DL i.rects_)]), (8, bx [ci ((gl a.rects_ e.toNat).left_), ci ((gl a.rects_ e.toNat).low_), ci ((gl a.rects_ e.toNat).right_), ci ((gl a.rects_ e.toNat).high_)])]) (fun m0 z j0 O h => ?_) h
       obtain ⟨l, j⟩ := z
       refine AW.SG0 Fm 1 [(3, pt 3), (6, vi l), (8, pt 8), (25, AL a.rects_), (26, vi ((List.length a.rects_ : Nat) : Int)), (27, vi e), (32, AL i.rects_), (33, vi ((List.length i.rects_ : Nat) : Int)), (34, vi j), (35, vb (decide (j < ((List.length i.rects_ : Nat) : Int))))] [(3, bx [.d (DL i.rects_)]), (8, bx [ci ((gl a.rects_ e.toNat).left_), ci ((gl a.rects_ e.toNat).low_), ci ((gl a.rects_ e.toNat).right_), ci ((gl a.rects_ e.toNat).high_)])] ?_
       refine AW.seq ?_
       refine AW.cond (b := (decide (j < ((List.length i.rects_ : Nat) : Int)))) (by kernel_rfl) (fun A => ?_) (fun A => ?_)
       ·have h := br_t h A
        refine AW.skip ?_
        refine AW.seq ?_
        refine AW.block ?_
        obtain ⟨V, h⟩ := gd_some h
        refine AW.SG Fm [.s, .s, .s, .s] (fun K => _ ∧ True) [(3, pt 3), (6, vi l), (8, pt 8), (10, pt 10), (25, AL a.rects_), (26, vi ((List.length a.rects_ : Nat) : Int)), (27, vi e), (32, AL i.rects_), (33, vi ((List.length i.rects_ : Nat) : Int)), (34, vi j)] [(3, bx [.d (DL i.rects_)]), (8, bx [ci ((gl a.rects_ e.toNat).left_), ci ((gl a.rects_ e.toNat).low_), ci ((gl a.rects_ e.toNat).right_), ci ((gl a.rects_ e.toNat).high_)]), (10, bx [ci ((gl i.rects_ j.toNat).left_), ci ((gl i.rects_ j.toNat).low_), ci ((gl i.rects_ j.toNat).right_), ci ((gl i.rects_ j.toNat).high_)])] ⟨V, ⟨⟩⟩ ?_
        obtain ⟨p, b0, h⟩ := bd_some h
        obtain ⟨W, h⟩ := gd_some h
        refine AW.G Fm [.s, .s, .s, .k (cE [] [] (vi p) [] []), .s, .s] (fun K => K 3 ∧ (I64 (l + p) ∧ True) ∧ True) [(3, pt 3), (6, vi (l + p)), (8, pt 8), (25, AL a.rects_), (26, vi ((List.length a.rects_ : Nat) : Int)), (27, vi e), (32, AL i.rects_), (33, vi ((List.length i.rects_ : Nat) : Int)), (34, vi j)] [(3, bx [.d (DL i.rects_)]), (8, bx [ci ((gl a.rects_ e.toNat).left_), ci ((gl a.rects_ e.toNat).low_), ci ((gl a.rects_ e.toNat).right_), ci ((gl a.rects_ e.toNat).high_)])] ⟨KAt.CC (shape_common_spec b0) Tryz.call66 [], ⟨W, ⟨⟩⟩, ⟨⟩⟩ ?_
        obtain ⟨X, h⟩ := gd_some h
        refine AW.G Fm [.s, .s] (fun K => (I64 (j + (1 : Int)) ∧ True) ∧ True) [(3, pt 3), (6, vi (l + p)), (8, pt 8), (25, AL a.rects_), (26, vi ((List.length a.rects_ : Nat) : Int)), (27, vi e), (32, AL i.rects_), (33, vi ((List.length i.rects_ : Nat) : Int)), (34, vi (j + (1 : Int)))] [(3, bx [.d (DL i.rects_)]), (8, bx [ci ((gl a.rects_ e.toNat).left_), ci ((gl a.rects_ e.toNat).low_), ci ((gl a.rects_ e.toNat).right_), ci ((gl a.rects_ e.toNat).high_)])] ⟨⟨X, ⟨⟩⟩, ⟨⟩⟩ ?_
        exact Kn.R Fm (O ((l + p), (j + (1 : Int))) h)
       ·have h := br_f h A
        refine AW.exit ?_
        exact Kn.R Fm (P l h)
     ·have h := br_f h y
      refine AW.exit ?_
      exact Kn.R Fm (T n h)
 ·obtain ⟨o, I, h⟩ := bd_some h
  rcases Bool.eq_false_or_eq_true (!o) with m | m
  ·have h := br_t h m
   refine AW.G Fm [.s, .k (cE [] [] (vb o) [] []), .s, .w (vb true), .s, .s, .s, .s, .s] (fun K => K 1 ∧ (ALe (vb (!o)) (vb true)) ∧ True) [(2, pt 2), (3, pt 3), (11, vb true)] [(2, bx [.d (DL a.rects_)]), (3, bx [.d (DL i.rects_)])] ⟨KAt.CC (region_Valid_spec I) Tryz.call55 [], ALe.bool m, ⟨⟩⟩ ?_
   exact Kn.R Fm (H true h)
  ·have h := br_f h m
   obtain ⟨B, Z, h⟩ := bd_some h
   refine AW.G Fm [.s, .k (cE [] [] (vb o) [] []), .s, .w (vb false), .s, .k (cE [] [] (vb B) [] []), .s, .s, .s] (fun K => K 1 ∧ (ALe (vb (!o)) (vb false)) ∧ K 5 ∧ True) [(2, pt 2), (3, pt 3), (11, vb (!B))] [(2, bx [.d (DL a.rects_)]), (3, bx [.d (DL i.rects_)])] ⟨KAt.CC (region_Valid_spec I) Tryz.call55 [], ALe.bool m, KAt.CC (region_Valid_spec Z) Tryz.call55 [], ⟨⟩⟩ ?_
   exact Kn.R Fm (H (!B) h)
theorem shape_check_spec {F : Nat} {j : Region} {a : Int} {r : Int} (h : shape_check F j a = some r) :
  FSpec Tryz.prog 95 [.v (.g [.d (DL j.rects_)]), vi a] [] (vi r) [] := by
 refine FSpec.intro prog_mixed prog_lay Tryz.func95 rfl (by kernel_rfl) fun C Fm => ?_
 unfold shape_check at h
 refine AW.SG0 Fm 2 [(1, vi a), (2, pt 2)] [(2, bx [.d (DL j.rects_)])] ?_
 refine AW.seq ?_
 refine AW.block ?_
 refine AW.seq ?_
 obtain ⟨l, n, h⟩ := bd_some h
 refine AW.G Fm [.s, .k (cE [] [] (vb l) [] []), .s, .s] (fun K => K 1 ∧ True) [(1, vi a), (5, vb (!l))] [] ⟨KAt.CC (region_Valid_spec n) Tryz.call55 [], ⟨⟩⟩ ?_
 refine AW.cond (b := (!l)) (by kernel_rfl) (fun e => ?_) (fun e => ?_)
 ·have h := br_t h e
  refine AW.SG0 Fm 1 [(4, vi (7 : Int))] [] ?_
  refine AW.ret ?_
  obtain rfl := Option.some.inj h
  exact Kn.D Fm
 ·have h := br_f h e
  refine AW.join (r := r) (fun z : Bool => shape_check_k0 F z) (fun z => [(9, vb z)]) (fun z => []) (fun o h => ?_) (fun p m => ?_)
  ·refine AW.cond (b := o) (by kernel_rfl) (fun i => ?_) (fun i => ?_)
   ·have h := br_t h i
    refine AW.SG0 Fm 1 [(4, vi (2 : Int))] [] ?_
    refine AW.ret ?_
    obtain rfl := Option.some.inj h
    exact Kn.D Fm
   ·have h := br_f h i
    refine AW.skip ?_
    refine AW.SG0 Fm 1 [(4, vi (0 : Int))] [] ?_
    refine AW.ret ?_
    obtain rfl := Option.some.inj h
    exact Kn.D Fm
  ·rcases Bool.eq_false_or_eq_true (decide (a < (0 : Int))) with c | c
   ·have h := br_t h c
    refine AW.G Fm [.s, .s, .w (vb true), .s, .s, .s, .s] (fun K => (ALe (vb (decide (a < (0 : Int)))) (vb true)) ∧ True) [(9, vb true)] [] ⟨ALe.bool c, ⟨⟩⟩ ?_
    exact Kn.R Fm (m true h)
   ·have h := br_f h c
    refine AW.G Fm [.s, .s, .w (vb false), .s, .s, .s, .s] (fun K => (ALe (vb (decide (a < (0 : Int)))) (vb false)) ∧ True) [(9, vb (decide ((64 : Int) < a)))] [] ⟨ALe.bool c, ⟨⟩⟩ ?_
    exact Kn.R Fm (m (decide ((64 : Int) < a)) h)
theorem shape_wider_spec {F : Nat} {a : (List Rect)} {i : Int} {r : (List Rect)} (h : shape_wider F a i = some r) :
  FSpec Tryz.prog 96 [AL a, vi i] [] (ow 100) [(100, AO (α := Rect) r)] := by
 refine FSpec.intro prog_mixed prog_lay Tryz.func96 rfl (by kernel_rfl) fun C Fm => ?_
 unfold shape_wider at h
 refine AW.SG Fm [.m] (fun K => True) [(0, AL a), (1, vi i)] [] True.intro ?_
 refine AW.SG Fm [.m] (fun K => True) [(0, AL a), (1, vi i), (5, ow 5)] [(5, .arr 4 (0) (fun _ => []))] True.intro ?_
 refine Kn.wk [(0, AL a), (1, vi i), (5, ow 5)] [(5, AO (α := Rect) ([] : List Rect))] (FE.refl _) (⟨rfl, OLe.is ((Is.nil (α := Rect))), ⟨⟩⟩) ?_
 refine AW.join (r := r) (fun z : (List Rect) => shape_wider_k1 F z) (fun z => [(5, ow 5)]) (fun z => [(5, AO z)]) (fun n h => ?_) (fun H p => ?_)
 ·refine AW.SG0 Fm 2 [(4, ow 5)] [(5, AO n)] ?_
  refine AW.ret ?_
  obtain rfl := Option.some.inj h
  exact Kn.re Fm [(100, 5)] [(4, ow 100)] [(100, AO n)] (by kernel_rfl) (by kernel_rfl) (by kernel_rfl) (by kernel_rfl) (Kn.dn Fm (by kernel_rfl))
 ·refine AW.SG0 Fm 3 [(1, vi i), (5, ow 5), (8, AL a), (9, vi ((List.length a : Nat) : Int)), (10, vi (0 : Int))] [(5, AO (α := Rect) ([] : List Rect))] ?_
  refine AW.block ?_
  refine Kn.r Fm [(1, vi i), (5, ow 5), (8, AL a), (9, vi ((List.length a : Nat) : Int)), (10, vi (0 : Int))] [(5, AO ([] : List Rect))] (by kernel_rfl) ?_
  refine AW.loopF (E' := fun z => [(1, vi i), (5, ow 5), (8, AL a), (9, vi ((List.length a : Nat) : Int)), (10, vi z.1)]) (S' := fun z => [(5, AO z.2)]) (fun I z E o h => ?_) h
  obtain ⟨e, k⟩ := z
  refine AW.SG0 Fm 1 [(1, vi i), (5, ow 5), (8, AL a), (9, vi ((List.length a : Nat) : Int)), (10, vi e), (11, vb (decide (e < ((List.length a : Nat) : Int))))] [(5, AO k)] ?_
  refine AW.seq ?_
  refine AW.cond (b := (decide (e < ((List.length a : Nat) : Int)))) (by kernel_rfl) (fun l => ?_) (fun l => ?_)
  ·have h := br_t h l
   refine AW.skip ?_
   refine AW.seq ?_
   refine AW.block ?_
   obtain ⟨q, h⟩ := gd_some h
   refine AW.SG Fm [.s, .s, .s, .s] (fun K => _ ∧ True) [(1, vi i), (5, ow 5), (7, pt 7), (8, AL a), (9, vi ((List.length a : Nat) : Int)), (10, vi e)] [(5, AO k), (7, bx [ci ((gl a e.toNat).left_), ci ((gl a e.toNat).low_), ci ((gl a e.toNat).right_), ci ((gl a e.toNat).high_)])] ⟨q, ⟨⟩⟩ ?_
   obtain ⟨t, h⟩ := gd_some h
   obtain ⟨u, h⟩ := gd_some h
   obtain ⟨y, h⟩ := gd_some h
   obtain ⟨A, h⟩ := gd_some h
   obtain ⟨B, h⟩ := gd_some h
   refine AW.G Fm [.s, .s, .s, .s, .s, .s, .s, .s, .s, .s, .s, .s, .s, .s, .s, .s, .s, .s, .w (AL (α := Rect) ([(⟨(((gl a e.toNat).left_) - i), (((gl a e.toNat).low_) - i), (((gl a e.toNat).right_) + i), (((gl a e.toNat).high_) + i)⟩ : Rect)] : List Rect)), .s, .s] (fun K => (I64 (((gl a e.toNat).left_) - i) ∧ True) ∧ (I64 (((gl a e.toNat).low_) - i) ∧ True) ∧ (I64 (((gl a e.toNat).right_) + i) ∧ True) ∧ (I64 (((gl a e.toNat).high_) + i) ∧ True) ∧ (ALe (.v (.c (.d (.lst 1 (litF 4 [.int .i64 (((gl a e.toNat).left_) - i), .int .i64 (((gl a e.toNat).low_) - i), .int .i64 (((gl a e.toNat).right_) + i), .int .i64 (((gl a e.toNat).high_) + i)]))))) (AL (α := Rect) ([(⟨(((gl a e.toNat).left_) - i), (((gl a e.toNat).low_) - i), (((gl a e.toNat).right_) + i), (((gl a e.toNat).high_) + i)⟩ : Rect)] : List Rect))) ∧ ((List.length (α := Rect) k) + (List.length (α := Rect) ([(⟨(((gl a e.toNat).left_) - i), (((gl a e.toNat).low_) - i), (((gl a e.toNat).right_) + i), (((gl a e.toNat).high_) + i)⟩ : Rect)] : List Rect)) ≤ LIM ∧ (∀ j, j < List.length (α := Rect) ([(⟨(((gl a e.toNat).left_) - i), (((gl a e.toNat).low_) - i), (((gl a e.toNat).right_) + i), (((gl a e.toNat).high_) + i)⟩ : Rect)] : List Rect) → ((LF (α := Rect) ([(⟨(((gl a e.toNat).left_) - i), (((gl a e.toNat).low_) - i), (((gl a e.toNat).right_) + i), (((gl a e.toNat).high_) + i)⟩ : Rect)] : List Rect)) j).length = 4) ∧ (True)) ∧ True) [(1, vi i), (5, ow 33), (8, AL a), (9, vi ((List.length a : Nat) : Int)), (10, vi e)] [(33, .arr 4 ((List.length (α := Rect) k) + (List.length (α := Rect) ([(⟨(((gl a e.toNat).left_) - i), (((gl a e.toNat).low_) - i), (((gl a e.toNat).right_) + i), (((gl a e.toNat).high_) + i)⟩ : Rect)] : List Rect))) (appF (List.length (α := Rect) k) (LF (α := Rect) k) (LF (α := Rect) ([(⟨(((gl a e.toNat).left_) - i), (((gl a e.toNat).low_) - i), (((gl a e.toNat).right_) + i), (((gl a e.toNat).high_) + i)⟩ : Rect)] : List Rect))))] ⟨⟨t, ⟨⟩⟩, ⟨u, ⟨⟩⟩, ⟨y, ⟨⟩⟩, ⟨A, ⟨⟩⟩, ALe.lst (.lit ([(⟨(((gl a e.toNat).left_) - i), (((gl a e.toNat).low_) - i), (((gl a e.toNat).right_) + i), (((gl a e.toNat).high_) + i)⟩ : Rect)] : List Rect) (by kernel_rfl)), ⟨B, (Is.refl ([(⟨(((gl a e.toNat).left_) - i), (((gl a e.toNat).low_) - i), (((gl a e.toNat).right_) + i), (((gl a e.toNat).high_) + i)⟩ : Rect)] : List Rect) : Is (List.length (α := Rect) ([(⟨(((gl a e.toNat).left_) - i), (((gl a e.toNat).low_) - i), (((gl a e.toNat).right_) + i), (((gl a e.toNat).high_) + i)⟩ : Rect)] : List Rect)) (LF (α := Rect) ([(⟨(((gl a e.toNat).left_) - i), (((gl a e.toNat).low_) - i), (((gl a e.toNat).right_) + i), (((gl a e.toNat).high_) + i)⟩ : Rect)] : List Rect)) ([(⟨(((gl a e.toNat).left_) - i), (((gl a e.toNat).low_) - i), (((gl a e.toNat).right_) + i), (((gl a e.toNat).high_) + i)⟩ : Rect)] : List Rect)).len, ⟨⟩⟩, ⟨⟩⟩ ?_
   refine Kn.wk [(1, vi i), (5, ow 33), (8, AL a), (9, vi ((List.length a : Nat) : Int)), (10, vi e)] [(33, AO (α := Rect) (k ++ ([(⟨(((gl a e.toNat).left_) - i), (((gl a e.toNat).low_) - i), (((gl a e.toNat).right_) + i), (((gl a e.toNat).high_) + i)⟩ : Rect)] : List Rect)))] (FE.refl _) (⟨rfl, OLe.is (Is.app (Is.refl k) (Is.refl ([(⟨(((gl a e.toNat).left_) - i), (((gl a e.toNat).low_) - i), (((gl a e.toNat).right_) + i), (((gl a e.toNat).high_) + i)⟩ : Rect)] : List Rect))), ⟨⟩⟩) ?_
   obtain ⟨D, h⟩ := gd_some h
   refine AW.G Fm [.s, .s] (fun K => (I64 (e + (1 : Int)) ∧ True) ∧ True) [(1, vi i), (5, ow 33), (8, AL a), (9, vi ((List.length a : Nat) : Int)), (10, vi (e + (1 : Int)))] [(33, AO (α := Rect) (k ++ ([(⟨(((gl a e.toNat).left_) - i), (((gl a e.toNat).low_) - i), (((gl a e.toNat).right_) + i), (((gl a e.toNat).high_) + i)⟩ : Rect)] : List Rect)))] ⟨⟨D, ⟨⟩⟩, ⟨⟩⟩ ?_
   exact Kn.RE Fm [(5, 33)] (o ((e + (1 : Int)), (k ++ ([(⟨(((gl a e.toNat).left_) - i), (((gl a e.toNat).low_) - i), (((gl a e.toNat).right_) + i), (((gl a e.toNat).high_) + i)⟩ : Rect)] : List Rect))) h)
  ·have h := br_f h l
   refine AW.exit ?_
   exact Kn.R Fm (p k h)
end Go.Ab
end
