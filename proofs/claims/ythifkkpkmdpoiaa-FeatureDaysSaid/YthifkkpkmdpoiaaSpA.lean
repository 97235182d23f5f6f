/- The code follows the plain programs: whenever the plain program has a result. -/
import Derived.Test.YthifkkpkmdpoiaaBaB
set_option linter.unusedVariables false
set_option linter.unusedSimpArgs false
section
namespace Go.Ab
open Go.Proofs
set_option linter.unusedVariables false
set_option maxRecDepth 100000
theorem keep_New_spec {F : Nat} {x1 : (List Int)} {r : Tape} (h : keep_New F x1 = some r) :
  FSpec Try.prog 5 [AL x1] [] (pt 100) [(100, bx (gC r))] := by
 refine FSpec.intro prog_mixed prog_lay Try.func5 rfl (by kernel_rfl) fun C Fm => ?_
 unfold keep_New at h
 refine AW.SG0 Fm 1 [(0, AL x1)] [] ?_
 obtain ⟨hg2, h⟩ := gd_some h
 refine AW.SG Fm [.s, .s, .s, .s, .w (AL (α := Int) (x1.take (gmin ((List.length x1 : Nat) : Int) (400 : Int)).toNat)), .s, .s, .s] (fun K => (((sl (List.length x1) (LF x1) none (some (gmin ((List.length x1 : Nat) : Int) (400 : Int)))).2 ∧ ∀ j, j < List.length x1 → (LF x1 j).length = 1)) ∧ (ALe (.v (.c (.d (.lst (sl (List.length x1) (LF x1) none (some (gmin ((List.length x1 : Nat) : Int) (400 : Int)))).1.1 (sl (List.length x1) (LF x1) none (some (gmin ((List.length x1 : Nat) : Int) (400 : Int)))).1.2)))) (AL (α := Int) (x1.take (gmin ((List.length x1 : Nat) : Int) (400 : Int)).toNat))) ∧ True) [(2, pt 9)] [(9, bx [.d (DL (α := Int) (x1.take (gmin ((List.length x1 : Nat) : Int) (400 : Int)).toNat)), ci 0])] ⟨⟨hg2, (Is.refl x1).len⟩, ALe.lst (sl_is x1 none (some (gmin ((List.length x1 : Nat) : Int) (400 : Int))) hg2), ⟨⟩⟩ ?_
 refine AW.ret ?_
 obtain rfl := Option.some.inj h
 exact Kn.re Fm [(100, 9)] [(2, pt 100)] [(100, bx [.d (DL (α := Int) (x1.take (gmin ((List.length x1 : Nat) : Int) (400 : Int)).toNat)), ci 0])] (by kernel_rfl) (by kernel_rfl) (by kernel_rfl) (by kernel_rfl) (Kn.dn Fm (by kernel_rfl))
theorem keep_Mod_spec {F : Nat} {x3 : Int} {x4 : Int} {r : Int} (h : keep_Mod F x3 x4 = some r) :
  FSpec Try.prog 30 [vi x3, vi x4] [] (vi r) [] := by
 refine FSpec.intro prog_mixed prog_lay Try.func30 rfl (by kernel_rfl) fun C Fm => ?_
 unfold keep_Mod at h
 refine AW.SG0 Fm 1 [(0, vi x3), (1, vi x4)] [] ?_
 refine AW.seq ?_
 refine AW.SG0 Fm 2 [(0, vi x3), (1, vi x4), (6, vb (decide (x4 < (1 : Int))))] [] ?_
 refine AW.cond (b := (decide (x4 < (1 : Int)))) (by kernel_rfl) (fun hb5 => ?_) (fun hb5 => ?_)
 ·have h := br_t h hb5
  refine AW.SG0 Fm 1 [(4, vi (0 : Int))] [] ?_
  refine AW.ret ?_
  obtain rfl := Option.some.inj h
  exact Kn.D Fm
 ·have h := br_f h hb5
  refine AW.skip ?_
  obtain ⟨hg6, h⟩ := gd_some h
  refine AW.SG Fm [.s, .s, .s, .s] (fun K => _ ∧ True) [(0, vi (x3.tmod x4)), (1, vi x4)] [] ⟨hg6, ⟨⟩⟩ ?_
  refine AW.join (r := r) (fun z : Int => keep_Mod_k0 F z) (fun z => [(0, vi z)]) (fun z => []) (fun v9 h => ?_) (fun c a => ?_)
  ·refine AW.SG0 Fm 2 [(4, vi v9)] [] ?_
   refine AW.ret ?_
   obtain rfl := Option.some.inj h
   exact Kn.D Fm
  ·refine AW.SG0 Fm 2 [(0, vi (x3.tmod x4)), (1, vi x4), (11, vb (decide ((x3.tmod x4) < (0 : Int))))] [] ?_
   refine AW.cond (b := (decide ((x3.tmod x4) < (0 : Int)))) (by kernel_rfl) (fun hb7 => ?_) (fun hb7 => ?_)
   ·have h := br_t h hb7
    obtain ⟨hg8, h⟩ := gd_some h
    refine AW.G Fm [.s, .s, .s, .s] (fun K => (I64 ((x3.tmod x4) + x4) ∧ True) ∧ True) [(0, vi ((x3.tmod x4) + x4))] [] ⟨⟨hg8, ⟨⟩⟩, ⟨⟩⟩ ?_
    exact Kn.R Fm (a ((x3.tmod x4) + x4) h)
   ·have h := br_f h hb7
    refine AW.skip ?_
    exact Kn.R Fm (a (x3.tmod x4) h)
theorem keep_Tape_Next_spec {F : Nat} {a : Tape} {c : Int} {r : Tape × Int} (h : keep_Tape_Next F a c = some r) :
  FSpec Try.prog 14 [pt 0, vi c] [(0, bx (gC a))] (vi r.2) [(0, bx (gC r.1))] := by
 refine FSpec.intro prog_mixed prog_lay Try.func14 rfl (by kernel_rfl) fun C Fm => ?_
 unfold keep_Tape_Next at h
 refine AW.SG0 Fm 1 [(0, pt 0), (1, vi c)] [(0, bx (gC a))] ?_
 refine AW.seq ?_
 refine AW.SG0 Fm 10 [(0, pt 0), (1, vi c), (14, vb (decide (((List.length a.l_ : Nat) : Int) ≤ a.at_)))] [(0, bx (gC a))] ?_
 refine AW.cond (b := (decide (((List.length a.l_ : Nat) : Int) ≤ a.at_))) (by kernel_rfl) (fun e => ?_) (fun e => ?_)
 ·have h := br_t h e
  refine AW.SG0 Fm 1 [(4, vi (0 : Int))] [(0, bx (gC a))] ?_
  refine AW.ret ?_
  obtain rfl := Option.some.inj h
  exact Kn.D Fm
 ·have h := br_f h e
  refine AW.skip ?_
  obtain ⟨j, h⟩ := gd_some h
  refine AW.SG Fm [.s, .s, .s, .s, .s, .s, .s, .s] (fun K => (I64 (a.at_ + (1 : Int)) ∧ True) ∧ True) [(0, pt 0), (1, vi c)] [(0, bx [.d (DL a.l_), ci (a.at_ + (1 : Int))])] ⟨⟨j, ⟨⟩⟩, ⟨⟩⟩ ?_
  refine AW.seq ?_
  obtain ⟨l, h⟩ := gd_some h
  obtain ⟨m, h⟩ := gd_some h
  obtain ⟨i, n, h⟩ := bd_some h
  refine AW.G Fm [.s, .s, .s, .s, .s, .s, .s, .s, .s, .s, .s, .s, .k (cE [] [] (vi i) [] []), .s] (fun K => (I64 ((a.at_ + (1 : Int)) - (1 : Int)) ∧ True) ∧ _ ∧ K 12 ∧ True) [(4, vi i)] [(0, bx [.d (DL a.l_), ci (a.at_ + (1 : Int))])] ⟨⟨l, ⟨⟩⟩, m, KAt.CC (keep_Mod_spec n) Try.call30 [], ⟨⟩⟩ ?_
  refine AW.ret ?_
  obtain rfl := Option.some.inj h
  exact Kn.D Fm
theorem keep_Tape_Range_spec {F : Nat} {d : Tape} {a : Int} {b : Int} {r : Tape × Int} (h : keep_Tape_Range F d a b = some r) :
  FSpec Try.prog 17 [pt 0, vi a, vi b] [(0, bx (gC d))] (vi r.2) [(0, bx (gC r.1))] := by
 refine FSpec.intro prog_mixed prog_lay Try.func17 rfl (by kernel_rfl) fun C Fm => ?_
 unfold keep_Tape_Range at h
 refine AW.SG0 Fm 1 [(0, pt 0), (1, vi a), (2, vi b)] [(0, bx (gC d))] ?_
 refine AW.seq ?_
 obtain ⟨e, h⟩ := gd_some h
 obtain ⟨i, h⟩ := gd_some h
 obtain ⟨c, l, h⟩ := bd_some h
 obtain ⟨j, h⟩ := gd_some h
 refine AW.G Fm [.s, .s, .s, .s, .s, .s, .k (cE [(0, 0)] [] (vi c.2) [(0, bx (gC d))] [(0, bx (gC c.1))]), .s, .s] (fun K => (I64 (b - a) ∧ True) ∧ (I64 ((b - a) + (1 : Int)) ∧ True) ∧ K 6 ∧ (I64 (a + c.2) ∧ True) ∧ True) [(6, vi (a + c.2))] [(0, bx (gC c.1))] ⟨⟨e, ⟨⟩⟩, ⟨i, ⟨⟩⟩, KAt.CC (keep_Tape_Next_spec l) Try.call14 [(0, 0)], ⟨j, ⟨⟩⟩, ⟨⟩⟩ ?_
 refine AW.ret ?_
 obtain rfl := Option.some.inj h
 exact Kn.D Fm
theorem keep_Tape_Rect_spec {F : Nat} {i : Tape} {c : Int} {r : Tape × Rect} (h : keep_Tape_Rect F i c = some r) :
  FSpec Try.prog 44 [pt 0, vi c] [(0, bx (gC i))] (gE r.2) [(0, bx (gC r.1))] := by
 refine FSpec.intro prog_mixed prog_lay Try.func44 rfl (by kernel_rfl) fun C Fm => ?_
 unfold keep_Tape_Rect at h
 refine AW.SG0 Fm 1 [(0, pt 0), (1, vi c), (4, pt 4)] [(0, bx (gC i)), (4, bx [ci 0, ci 0, ci 0, ci 0])] ?_
 refine AW.seq ?_
 obtain ⟨b, q, h⟩ := bd_some h
 obtain ⟨a, t, h⟩ := bd_some h
 refine AW.G Fm [.s, .s, .k (cE [(0, 0)] [] (vi b.2) [(0, bx (gC i))] [(0, bx (gC b.1))]), .s, .s, .k (cE [(0, 0)] [] (vi a.2) [(0, bx (gC b.1))] [(0, bx (gC a.1))]), .s, .s] (fun K => K 2 ∧ K 5 ∧ True) [(0, pt 0), (1, vi c), (4, pt 4), (5, vi b.2), (6, vi a.2)] [(0, bx (gC a.1)), (4, bx [ci 0, ci 0, ci 0, ci 0])] ⟨KAt.CC (keep_Tape_Next_spec q) Try.call14 [(0, 0)], KAt.CC (keep_Tape_Next_spec t) Try.call14 [(0, 0)], ⟨⟩⟩ ?_
 refine AW.seq ?_
 obtain ⟨j, h⟩ := gd_some h
 obtain ⟨l, h⟩ := gd_some h
 obtain ⟨d, u, h⟩ := bd_some h
 obtain ⟨m, h⟩ := gd_some h
 obtain ⟨n, h⟩ := gd_some h
 obtain ⟨o, h⟩ := gd_some h
 obtain ⟨e, w, h⟩ := bd_some h
 obtain ⟨p, h⟩ := gd_some h
 refine AW.G Fm [.s, .s, .s, .s, .s, .s, .s, .s, .k (cE [(0, 0)] [] (vi d.2) [(0, bx (gC a.1))] [(0, bx (gC d.1))]), .s, .s, .s, .s, .s, .s, .s, .k (cE [(0, 0)] [] (vi e.2) [(0, bx (gC d.1))] [(0, bx (gC e.1))]), .s, .s, .s] (fun K => (I64 (b.2 + (1 : Int)) ∧ True) ∧ (I64 (c - b.2) ∧ True) ∧ K 8 ∧ (I64 ((b.2 + (1 : Int)) + d.2) ∧ True) ∧ (I64 (a.2 + (1 : Int)) ∧ True) ∧ (I64 (c - a.2) ∧ True) ∧ K 16 ∧ (I64 ((a.2 + (1 : Int)) + e.2) ∧ True) ∧ True) [(4, pt 4)] [(0, bx (gC e.1)), (4, bx [ci b.2, ci a.2, ci ((b.2 + (1 : Int)) + d.2), ci ((a.2 + (1 : Int)) + e.2)])] ⟨⟨j, ⟨⟩⟩, ⟨l, ⟨⟩⟩, KAt.CC (keep_Tape_Next_spec u) Try.call14 [(0, 0)], ⟨m, ⟨⟩⟩, ⟨n, ⟨⟩⟩, ⟨o, ⟨⟩⟩, KAt.CC (keep_Tape_Next_spec w) Try.call14 [(0, 0)], ⟨p, ⟨⟩⟩, ⟨⟩⟩ ?_
 refine AW.ret ?_
 obtain rfl := Option.some.inj h
 exact Kn.D Fm
theorem ref04_proper_spec {F : Nat} {a : Rect} {r : Bool} (h : ref04_proper F a = some r) :
  FSpec Try.prog 55 [gE a] [] (vb r) [] := by
 refine FSpec.intro prog_mixed prog_lay Try.func55 rfl (by kernel_rfl) fun C Fm => ?_
 unfold ref04_proper at h
 refine AW.SG0 Fm 2 [(1, pt 1)] [(1, bx (gC a))] ?_
 refine AW.join (r := r) (fun z : Bool => ref04_proper_k0 F z) (fun z => [(2, vb z)]) (fun z => []) (fun l h => ?_) (fun k e => ?_)
 ·refine AW.ret ?_
  obtain rfl := Option.some.inj h
  exact Kn.D Fm
 ·rcases Bool.eq_false_or_eq_true (decide ((0 : Int) ≤ a.left_)) with b | b
  ·have h := br_t h b
   rcases Bool.eq_false_or_eq_true (decide (a.left_ < a.right_)) with c | c
   ·have h := br_t h c
    rcases Bool.eq_false_or_eq_true (decide (a.right_ ≤ (16384 : Int))) with d | d
    ·have h := br_t h d
     rcases Bool.eq_false_or_eq_true (decide ((0 : Int) ≤ a.low_)) with i | i
     ·have h := br_t h i
      rcases Bool.eq_false_or_eq_true (decide (a.low_ < a.high_)) with j | j
      ·have h := br_t h j
       refine AW.G Fm [.s, .s, .s, .w (vb true), .s, .s, .s, .s, .s, .s, .w (vb true), .s, .s, .s, .s, .w (vb true), .s, .s, .s, .s, .w (vb true), .s, .s, .s, .s, .s, .s, .w (vb true), .s, .s, .s, .s, .s] (fun K => (ALe (vb (decide ((0 : Int) ≤ a.left_))) (vb true)) ∧ (ALe (vb (decide (a.left_ < a.right_))) (vb true)) ∧ (ALe (vb (decide (a.right_ ≤ (16384 : Int)))) (vb true)) ∧ (ALe (vb (decide ((0 : Int) ≤ a.low_))) (vb true)) ∧ (ALe (vb (decide (a.low_ < a.high_))) (vb true)) ∧ True) [(2, vb (decide (a.high_ ≤ (16384 : Int))))] [] ⟨ALe.bool b, ALe.bool c, ALe.bool d, ALe.bool i, ALe.bool j, ⟨⟩⟩ ?_
       exact Kn.R Fm (e (decide (a.high_ ≤ (16384 : Int))) h)
      ·have h := br_f h j
       refine AW.G Fm [.s, .s, .s, .w (vb true), .s, .s, .s, .s, .s, .s, .w (vb true), .s, .s, .s, .s, .w (vb true), .s, .s, .s, .s, .w (vb true), .s, .s, .s, .s, .s, .s, .w (vb false), .s, .s, .s, .s, .s] (fun K => (ALe (vb (decide ((0 : Int) ≤ a.left_))) (vb true)) ∧ (ALe (vb (decide (a.left_ < a.right_))) (vb true)) ∧ (ALe (vb (decide (a.right_ ≤ (16384 : Int)))) (vb true)) ∧ (ALe (vb (decide ((0 : Int) ≤ a.low_))) (vb true)) ∧ (ALe (vb (decide (a.low_ < a.high_))) (vb false)) ∧ True) [(2, vb false)] [] ⟨ALe.bool b, ALe.bool c, ALe.bool d, ALe.bool i, ALe.bool j, ⟨⟩⟩ ?_
       exact Kn.R Fm (e false h)
     ·have h := br_f h i
      refine AW.G Fm [.s, .s, .s, .w (vb true), .s, .s, .s, .s, .s, .s, .w (vb true), .s, .s, .s, .s, .w (vb true), .s, .s, .s, .s, .w (vb false), .s, .s, .s, .s, .s, .s, .s, .s, .s, .s, .s, .s] (fun K => (ALe (vb (decide ((0 : Int) ≤ a.left_))) (vb true)) ∧ (ALe (vb (decide (a.left_ < a.right_))) (vb true)) ∧ (ALe (vb (decide (a.right_ ≤ (16384 : Int)))) (vb true)) ∧ (ALe (vb (decide ((0 : Int) ≤ a.low_))) (vb false)) ∧ True) [(2, vb false)] [] ⟨ALe.bool b, ALe.bool c, ALe.bool d, ALe.bool i, ⟨⟩⟩ ?_
      exact Kn.R Fm (e false h)
    ·have h := br_f h d
     refine AW.G Fm [.s, .s, .s, .w (vb true), .s, .s, .s, .s, .s, .s, .w (vb true), .s, .s, .s, .s, .w (vb false), .s, .s, .s, .s, .s, .s, .s, .s, .s, .s, .s, .s, .s, .s, .s, .s, .s] (fun K => (ALe (vb (decide ((0 : Int) ≤ a.left_))) (vb true)) ∧ (ALe (vb (decide (a.left_ < a.right_))) (vb true)) ∧ (ALe (vb (decide (a.right_ ≤ (16384 : Int)))) (vb false)) ∧ True) [(2, vb false)] [] ⟨ALe.bool b, ALe.bool c, ALe.bool d, ⟨⟩⟩ ?_
     exact Kn.R Fm (e false h)
   ·have h := br_f h c
    refine AW.G Fm [.s, .s, .s, .w (vb true), .s, .s, .s, .s, .s, .s, .w (vb false), .s, .s, .s, .s, .s, .s, .s, .s, .s, .s, .s, .s, .s, .s, .s, .s, .s, .s, .s, .s, .s, .s] (fun K => (ALe (vb (decide ((0 : Int) ≤ a.left_))) (vb true)) ∧ (ALe (vb (decide (a.left_ < a.right_))) (vb false)) ∧ True) [(2, vb false)] [] ⟨ALe.bool b, ALe.bool c, ⟨⟩⟩ ?_
    exact Kn.R Fm (e false h)
  ·have h := br_f h b
   refine AW.G Fm [.s, .s, .s, .w (vb false), .s, .s, .s, .s, .s, .s, .s, .s, .s, .s, .s, .s, .s, .s, .s, .s, .s, .s, .s, .s, .s, .s, .s, .s, .s, .s, .s, .s, .s] (fun K => (ALe (vb (decide ((0 : Int) ≤ a.left_))) (vb false)) ∧ True) [(2, vb false)] [] ⟨ALe.bool b, ⟨⟩⟩ ?_
   exact Kn.R Fm (e false h)
theorem ref01_Put_spec {F : Nat} {a : (List Int)} {i : Int} {r : (List Int)} (h : ref01_Put F a i = some r) :
  FSpec Try.prog 74 [AL a, vi i] [] (AL (α := Int) r) [] := by
 refine FSpec.intro prog_mixed prog_lay Try.func74 rfl (by kernel_rfl) fun C Fm => ?_
 unfold ref01_Put at h
 refine AW.SG0 Fm 1 [(0, AL a), (1, vi i)] [] ?_
 refine AW.SG0 Fm 1 [(0, AL a), (1, vi i), (5, vi (0 : Int))] [] ?_
 refine AW.join (r := r) (fun z : Int => ref01_Put_k2 F a i z) (fun z => [(0, AL a), (1, vi i), (5, vi z)]) (fun z => []) (fun e h => ?_) (fun W E => ?_)
 ·refine AW.seq ?_
  refine AW.join (r := r) (fun z : Bool => ref01_Put_k3 F a i e z) (fun z => [(0, AL a), (1, vi i), (5, vi e), (31, vb z)]) (fun z => []) (fun T h => ?_) (fun X t => ?_)
  ·refine AW.cond (b := T) (by kernel_rfl) (fun p => ?_) (fun p => ?_)
   ·have h := br_t h p
    refine AW.SG0 Fm 2 [(4, AL a)] [] ?_
    refine AW.ret ?_
    obtain rfl := Option.some.inj h
    exact Kn.D Fm
   ·have h := br_f h p
    refine AW.skip ?_
    obtain ⟨u, h⟩ := gd_some h
    obtain ⟨M, h⟩ := gd_some h
    obtain ⟨N, h⟩ := gd_some h
    obtain ⟨y, h⟩ := gd_some h
    obtain ⟨O, h⟩ := gd_some h
    refine AW.SG Fm [.m, .s, .s, .w (AL (α := Int) (a.take e.toNat)), .s, .s, .w (AL (α := Int) ([i] : List Int)), .s, .s, .s, .w (AL (α := Int) (a.drop e.toNat)), .s, .s] (fun K => (((sl (List.length a) (LF a) none (some e)).2 ∧ ∀ j, j < List.length a → (LF a j).length = 1)) ∧ (ALe (.v (.c (.d (.lst (sl (List.length a) (LF a) none (some e)).1.1 (sl (List.length a) (LF a) none (some e)).1.2)))) (AL (α := Int) (a.take e.toNat))) ∧ ((0) + (List.length (α := Int) (a.take e.toNat)) ≤ LIM ∧ (∀ j, j < List.length (α := Int) (a.take e.toNat) → ((LF (α := Int) (a.take e.toNat)) j).length = 1) ∧ (True)) ∧ (ALe (.v (.c (.d (.lst 1 (litF 1 [.int .i64 i]))))) (AL (α := Int) ([i] : List Int))) ∧ (((0) + (List.length (α := Int) (a.take e.toNat))) + (List.length (α := Int) ([i] : List Int)) ≤ LIM ∧ (∀ j, j < List.length (α := Int) ([i] : List Int) → ((LF (α := Int) ([i] : List Int)) j).length = 1) ∧ (True)) ∧ (((sl (List.length a) (LF a) (some e) none).2 ∧ ∀ j, j < List.length a → (LF a j).length = 1)) ∧ (ALe (.v (.c (.d (.lst (sl (List.length a) (LF a) (some e) none).1.1 (sl (List.length a) (LF a) (some e) none).1.2)))) (AL (α := Int) (a.drop e.toNat))) ∧ ((((0) + (List.length (α := Int) (a.take e.toNat))) + (List.length (α := Int) ([i] : List Int))) + (List.length (α := Int) (a.drop e.toNat)) ≤ LIM ∧ (∀ j, j < List.length (α := Int) (a.drop e.toNat) → ((LF (α := Int) (a.drop e.toNat)) j).length = 1) ∧ (True)) ∧ True) [(4, ow 44)] [(44, .arr 1 ((((0) + (List.length (α := Int) (a.take e.toNat))) + (List.length (α := Int) ([i] : List Int))) + (List.length (α := Int) (a.drop e.toNat))) (appF (((0) + (List.length (α := Int) (a.take e.toNat))) + (List.length (α := Int) ([i] : List Int))) (appF ((0) + (List.length (α := Int) (a.take e.toNat))) (appF (0) (litF 1 []) (LF (α := Int) (a.take e.toNat))) (LF (α := Int) ([i] : List Int))) (LF (α := Int) (a.drop e.toNat))))] ⟨⟨u, (Is.refl a).len⟩, ALe.lst (sl_is a none (some e) u), ⟨M, (Is.refl (a.take e.toNat) : Is (List.length (α := Int) (a.take e.toNat)) (LF (α := Int) (a.take e.toNat)) (a.take e.toNat)).len, ⟨⟩⟩, ALe.lst (.lit ([i] : List Int) (by kernel_rfl)), ⟨N, (Is.refl ([i] : List Int) : Is (List.length (α := Int) ([i] : List Int)) (LF (α := Int) ([i] : List Int)) ([i] : List Int)).len, ⟨⟩⟩, ⟨y, (Is.refl a).len⟩, ALe.lst (sl_is a (some e) none y), ⟨O, (Is.refl (a.drop e.toNat) : Is (List.length (α := Int) (a.drop e.toNat)) (LF (α := Int) (a.drop e.toNat)) (a.drop e.toNat)).len, ⟨⟩⟩, ⟨⟩⟩ ?_
    refine Kn.wk [(4, ow 44)] [(44, AO (α := Int) (((([] : List Int) ++ (a.take e.toNat)) ++ ([i] : List Int)) ++ (a.drop e.toNat)))] (FE.refl _) (⟨rfl, OLe.is (Is.app (Is.app (Is.app (Is.lit ([] : List Int) (by kernel_rfl)) (Is.refl (a.take e.toNat))) (Is.refl ([i] : List Int))) (Is.refl (a.drop e.toNat))), ⟨⟩⟩) ?_
    refine AW.ret ?_
    obtain rfl := Option.some.inj h
    refine Kn.r Fm [(4, ow 44)] [(44, AO (α := Int) (((([] : List Int) ++ (a.take e.toNat)) ++ ([i] : List Int)) ++ (a.drop e.toNat)))] (by kernel_rfl) ?_
    refine Kn.frz [(4, AL (α := Int) (((([] : List Int) ++ (a.take e.toNat)) ++ ([i] : List Int)) ++ (a.drop e.toNat)))] [] (by kernel_rfl) (by kernel_rfl) (by kernel_rfl) ?_
    exact Kn.D Fm
  ·rcases Bool.eq_false_or_eq_true (decide (e < ((List.length a : Nat) : Int))) with n | n
   ·have h := br_t h n
    obtain ⟨L, h⟩ := gd_some h
    refine AW.G Fm [.s, .s, .s, .s, .w (vb true), .s, .s, .s, .s, .s, .s, .s] (fun K => (ALe (vb (decide (e < ((List.length a : Nat) : Int)))) (vb true)) ∧ _ ∧ True) [(0, AL a), (1, vi i), (5, vi e), (31, vb ((gl a e.toNat) == i))] [] ⟨ALe.bool n, L, ⟨⟩⟩ ?_
    exact Kn.R Fm (t ((gl a e.toNat) == i) h)
   ·have h := br_f h n
    refine AW.G Fm [.s, .s, .s, .s, .w (vb false), .s, .s, .s, .s, .s, .s, .s] (fun K => (ALe (vb (decide (e < ((List.length a : Nat) : Int)))) (vb false)) ∧ True) [(0, AL a), (1, vi i), (5, vi e), (31, vb false)] [] ⟨ALe.bool n, ⟨⟩⟩ ?_
    exact Kn.R Fm (t false h)
 ·refine AW.block ?_
  refine Kn.r Fm [(0, AL a), (1, vi i), (5, vi (0 : Int))] [] (by kernel_rfl) ?_
  refine AW.loopF (E' := fun z => [(0, AL a), (1, vi i), (5, vi z)]) (S' := fun z => []) (fun A k U B h => ?_) h
  refine AW.seq ?_
  refine AW.join (r := r) (fun z : Bool => ref01_Put_k1 F a i k A z) (fun z => [(0, AL a), (1, vi i), (5, vi k), (17, vb z)]) (fun z => []) (fun P h => ?_) (fun V q => ?_)
  ·refine AW.cond (b := P) (by kernel_rfl) (fun o => ?_) (fun o => ?_)
   ·have h := br_t h o
    refine AW.skip ?_
    refine AW.block ?_
    obtain ⟨I, h⟩ := gd_some h
    refine AW.G Fm [.s, .s, .s] (fun K => (I64 (k + (1 : Int)) ∧ True) ∧ True) [(0, AL a), (1, vi i), (5, vi (k + (1 : Int)))] [] ⟨⟨I, ⟨⟩⟩, ⟨⟩⟩ ?_
    exact Kn.R Fm (B (k + (1 : Int)) h)
   ·have h := br_f h o
    refine AW.exit ?_
    exact Kn.R Fm (E k h)
  ·rcases Bool.eq_false_or_eq_true (decide (k < ((List.length a : Nat) : Int))) with l | l
   ·have h := br_t h l
    obtain ⟨H, h⟩ := gd_some h
    refine AW.G Fm [.s, .s, .s, .s, .w (vb true), .s, .s, .s, .s, .s, .s, .s] (fun K => (ALe (vb (decide (k < ((List.length a : Nat) : Int)))) (vb true)) ∧ _ ∧ True) [(0, AL a), (1, vi i), (5, vi k), (11, AL a), (12, vi k), (13, .v (.c (.elm [.int .i64 (gl a k.toNat)]))), (14, vi (gl a k.toNat)), (15, vi i), (16, vb (decide ((gl a k.toNat) < i))), (17, vb (decide ((gl a k.toNat) < i)))] [] ⟨ALe.bool l, H, ⟨⟩⟩ ?_
    exact Kn.R Fm (q (decide ((gl a k.toNat) < i)) h)
   ·have h := br_f h l
    refine AW.G Fm [.s, .s, .s, .s, .w (vb false), .s, .s, .s, .s, .s, .s, .s] (fun K => (ALe (vb (decide (k < ((List.length a : Nat) : Int)))) (vb false)) ∧ True) [(0, AL a), (1, vi i), (5, vi k), (17, vb false)] [] ⟨ALe.bool l, ⟨⟩⟩ ?_
    exact Kn.R Fm (q false h)
theorem ref04_inside_spec {F : Nat} {a : (List Rect)} {e : Int} {i : Int} {r : Bool} (h : ref04_inside F a e i = some r) :
  FSpec Try.prog 76 [AL a, vi e, vi i] [] (vb r) [] := by
 refine FSpec.intro prog_mixed prog_lay Try.func76 rfl (by kernel_rfl) fun C Fm => ?_
 unfold ref04_inside at h
 refine AW.SG0 Fm 1 [(0, AL a), (1, vi e), (2, vi i)] [] ?_
 refine AW.join (r := r) (fun z : Unit => ref04_inside_k2 F) (fun z => []) (fun z => []) (fun z h => ?_) (fun E q => ?_)
 ·refine AW.SG0 Fm 1 [(6, vb false)] [] ?_
  refine AW.ret ?_
  obtain rfl := Option.some.inj h
  exact Kn.D Fm
 ·refine AW.SG0 Fm 3 [(1, vi e), (2, vi i), (9, AL a), (10, vi ((List.length a : Nat) : Int)), (11, vi (0 : Int))] [] ?_
  refine AW.block ?_
  refine Kn.r Fm [(1, vi e), (2, vi i), (9, AL a), (10, vi ((List.length a : Nat) : Int)), (11, vi (0 : Int))] [] (by kernel_rfl) ?_
  refine AW.loopF (E' := fun z => [(1, vi e), (2, vi i), (9, AL a), (10, vi ((List.length a : Nat) : Int)), (11, vi z)]) (S' := fun z => []) (fun p d H t h => ?_) h
  refine AW.SG0 Fm 1 [(1, vi e), (2, vi i), (9, AL a), (10, vi ((List.length a : Nat) : Int)), (11, vi d), (12, vb (decide (d < ((List.length a : Nat) : Int))))] [] ?_
  refine AW.seq ?_
  refine AW.cond (b := (decide (d < ((List.length a : Nat) : Int)))) (by kernel_rfl) (fun o => ?_) (fun o => ?_)
  ·have h := br_t h o
   refine AW.skip ?_
   refine AW.seq ?_
   refine AW.block ?_
   obtain ⟨y, h⟩ := gd_some h
   refine AW.SG Fm [.s, .s, .s, .s] (fun K => _ ∧ True) [(1, vi e), (2, vi i), (8, pt 8), (9, AL a), (10, vi ((List.length a : Nat) : Int)), (11, vi d)] [(8, bx [ci ((gl a d.toNat).left_), ci ((gl a d.toNat).low_), ci ((gl a d.toNat).right_), ci ((gl a d.toNat).high_)])] ⟨y, ⟨⟩⟩ ?_
   refine AW.join (r := r) (fun z : Bool => ref04_inside_k1 F d p z) (fun z => [(1, vi e), (2, vi i), (9, AL a), (10, vi ((List.length a : Nat) : Int)), (11, vi d), (36, vb z)]) (fun z => []) (fun A h => ?_) (fun B m => ?_)
   ·refine AW.cond (b := A) (by kernel_rfl) (fun n => ?_) (fun n => ?_)
    ·have h := br_t h n
     refine AW.SG0 Fm 1 [(6, vb true)] [] ?_
     refine AW.ret ?_
     obtain rfl := Option.some.inj h
     exact Kn.D Fm
    ·have h := br_f h n
     refine AW.skip ?_
     obtain ⟨u, h⟩ := gd_some h
     refine AW.G Fm [.s, .s] (fun K => (I64 (d + (1 : Int)) ∧ True) ∧ True) [(1, vi e), (2, vi i), (9, AL a), (10, vi ((List.length a : Nat) : Int)), (11, vi (d + (1 : Int)))] [] ⟨⟨u, ⟨⟩⟩, ⟨⟩⟩ ?_
     exact Kn.R Fm (t (d + (1 : Int)) h)
   ·rcases Bool.eq_false_or_eq_true (decide (((gl a d.toNat).left_) ≤ e)) with j | j
    ·have h := br_t h j
     rcases Bool.eq_false_or_eq_true (decide (e < ((gl a d.toNat).right_))) with k | k
     ·have h := br_t h k
      rcases Bool.eq_false_or_eq_true (decide (((gl a d.toNat).low_) ≤ i)) with l | l
      ·have h := br_t h l
       refine AW.G Fm [.s, .s, .s, .s, .w (vb true), .s, .s, .s, .s, .s, .w (vb true), .s, .s, .s, .s, .s, .w (vb true), .s, .s, .s, .s, .s] (fun K => (ALe (vb (decide (((gl a d.toNat).left_) ≤ e))) (vb true)) ∧ (ALe (vb (decide (e < ((gl a d.toNat).right_)))) (vb true)) ∧ (ALe (vb (decide (((gl a d.toNat).low_) ≤ i))) (vb true)) ∧ True) [(1, vi e), (2, vi i), (9, AL a), (10, vi ((List.length a : Nat) : Int)), (11, vi d), (20, vi e), (21, .v (.c (.ptr 8 2))), (22, vi (gl a d.toNat).right_), (23, vb (decide (e < ((gl a d.toNat).right_)))), (26, .v (.c (.ptr 8 1))), (27, vi (gl a d.toNat).low_), (28, vi i), (29, vb (decide (((gl a d.toNat).low_) ≤ i))), (32, vi i), (33, .v (.c (.ptr 8 3))), (34, vi (gl a d.toNat).high_), (35, vb (decide (i < ((gl a d.toNat).high_)))), (36, vb (decide (i < ((gl a d.toNat).high_))))] [(8, bx [ci ((gl a d.toNat).left_), ci ((gl a d.toNat).low_), ci ((gl a d.toNat).right_), ci ((gl a d.toNat).high_)])] ⟨ALe.bool j, ALe.bool k, ALe.bool l, ⟨⟩⟩ ?_
       exact Kn.R Fm (m (decide (i < ((gl a d.toNat).high_))) h)
      ·have h := br_f h l
       refine AW.G Fm [.s, .s, .s, .s, .w (vb true), .s, .s, .s, .s, .s, .w (vb true), .s, .s, .s, .s, .s, .w (vb false), .s, .s, .s, .s, .s] (fun K => (ALe (vb (decide (((gl a d.toNat).left_) ≤ e))) (vb true)) ∧ (ALe (vb (decide (e < ((gl a d.toNat).right_)))) (vb true)) ∧ (ALe (vb (decide (((gl a d.toNat).low_) ≤ i))) (vb false)) ∧ True) [(1, vi e), (2, vi i), (9, AL a), (10, vi ((List.length a : Nat) : Int)), (11, vi d), (20, vi e), (21, .v (.c (.ptr 8 2))), (22, vi (gl a d.toNat).right_), (23, vb (decide (e < ((gl a d.toNat).right_)))), (26, .v (.c (.ptr 8 1))), (27, vi (gl a d.toNat).low_), (28, vi i), (29, vb (decide (((gl a d.toNat).low_) ≤ i))), (36, vb false)] [(8, bx [ci ((gl a d.toNat).left_), ci ((gl a d.toNat).low_), ci ((gl a d.toNat).right_), ci ((gl a d.toNat).high_)])] ⟨ALe.bool j, ALe.bool k, ALe.bool l, ⟨⟩⟩ ?_
       exact Kn.R Fm (m false h)
     ·have h := br_f h k
      refine AW.G Fm [.s, .s, .s, .s, .w (vb true), .s, .s, .s, .s, .s, .w (vb false), .s, .s, .s, .s, .s, .s, .s, .s, .s, .s, .s] (fun K => (ALe (vb (decide (((gl a d.toNat).left_) ≤ e))) (vb true)) ∧ (ALe (vb (decide (e < ((gl a d.toNat).right_)))) (vb false)) ∧ True) [(1, vi e), (2, vi i), (9, AL a), (10, vi ((List.length a : Nat) : Int)), (11, vi d), (20, vi e), (21, .v (.c (.ptr 8 2))), (22, vi (gl a d.toNat).right_), (23, vb (decide (e < ((gl a d.toNat).right_)))), (36, vb false)] [(8, bx [ci ((gl a d.toNat).left_), ci ((gl a d.toNat).low_), ci ((gl a d.toNat).right_), ci ((gl a d.toNat).high_)])] ⟨ALe.bool j, ALe.bool k, ⟨⟩⟩ ?_
      exact Kn.R Fm (m false h)
    ·have h := br_f h j
     refine AW.G Fm [.s, .s, .s, .s, .w (vb false), .s, .s, .s, .s, .s, .s, .s, .s, .s, .s, .s, .s, .s, .s, .s, .s, .s] (fun K => (ALe (vb (decide (((gl a d.toNat).left_) ≤ e))) (vb false)) ∧ True) [(1, vi e), (2, vi i), (9, AL a), (10, vi ((List.length a : Nat) : Int)), (11, vi d), (36, vb false)] [] ⟨ALe.bool j, ⟨⟩⟩ ?_
     exact Kn.R Fm (m false h)
  ·have h := br_f h o
   refine AW.exit ?_
   exact Kn.R Fm (q () h)
theorem ref04_keep_spec {F : Nat} {a : Bool} {c : Bool} {d : Int} {r : Bool} (h : ref04_keep F a c d = some r) :
  FSpec Try.prog 75 [vb a, vb c, vi d] [] (vb r) [] := by
 refine FSpec.intro prog_mixed prog_lay Try.func75 rfl (by kernel_rfl) fun C Fm => ?_
 unfold ref04_keep at h
 refine AW.SG0 Fm 1 [(0, vb a), (1, vb c), (2, vi d)] [] ?_
 refine AW.seq ?_
 refine AW.SG0 Fm 1 [(0, vb a), (1, vb c), (7, vi d)] [] ?_
 refine AW.block ?_
 refine AW.SG0 Fm 2 [(0, vb a), (1, vb c), (7, vi d), (8, vb (d == (1 : Int)))] [] ?_
 refine AW.cond (b := (d == (1 : Int))) (by kernel_rfl) (fun k => ?_) (fun k => ?_)
 ·have h := br_t h k
  refine AW.join (r := r) (fun z : Bool => ref04_keep_k0 F z) (fun z => [(6, vb z)]) (fun z => []) (fun u h => ?_) (fun p m => ?_)
  ·refine AW.ret ?_
   obtain rfl := Option.some.inj h
   exact Kn.D Fm
  ·rcases Bool.eq_false_or_eq_true a with e | e
   ·have h := br_t h e
    refine AW.G Fm [.s, .w (vb true), .s, .s, .s] (fun K => (ALe (vb a) (vb true)) ∧ True) [(6, vb true)] [] ⟨ALe.bool e, ⟨⟩⟩ ?_
    exact Kn.R Fm (m true h)
   ·have h := br_f h e
    refine AW.G Fm [.s, .w (vb false), .s, .s, .s] (fun K => (ALe (vb a) (vb false)) ∧ True) [(6, vb c)] [] ⟨ALe.bool e, ⟨⟩⟩ ?_
    exact Kn.R Fm (m c h)
 ·have h := br_f h k
  refine AW.SG0 Fm 2 [(0, vb a), (1, vb c), (14, vb (d == (2 : Int)))] [] ?_
  refine AW.cond (b := (d == (2 : Int))) (by kernel_rfl) (fun l => ?_) (fun l => ?_)
  ·have h := br_t h l
   refine AW.join (r := r) (fun z : Bool => ref04_keep_k1 F z) (fun z => [(6, vb z)]) (fun z => []) (fun y h => ?_) (fun q n => ?_)
   ·refine AW.ret ?_
    obtain rfl := Option.some.inj h
    exact Kn.D Fm
   ·rcases Bool.eq_false_or_eq_true a with i | i
    ·have h := br_t h i
     refine AW.G Fm [.s, .w (vb true), .s, .s, .s] (fun K => (ALe (vb a) (vb true)) ∧ True) [(6, vb c)] [] ⟨ALe.bool i, ⟨⟩⟩ ?_
     exact Kn.R Fm (n c h)
    ·have h := br_f h i
     refine AW.G Fm [.s, .w (vb false), .s, .s, .s] (fun K => (ALe (vb a) (vb false)) ∧ True) [(6, vb false)] [] ⟨ALe.bool i, ⟨⟩⟩ ?_
     exact Kn.R Fm (n false h)
  ·have h := br_f h l
   refine AW.skip ?_
   refine AW.join (r := r) (fun z : Bool => ref04_keep_k2 F z) (fun z => [(6, vb z)]) (fun z => []) (fun A h => ?_) (fun t o => ?_)
   ·refine AW.ret ?_
    obtain rfl := Option.some.inj h
    exact Kn.D Fm
   ·rcases Bool.eq_false_or_eq_true a with j | j
    ·have h := br_t h j
     refine AW.G Fm [.s, .w (vb true), .s, .s, .s, .s] (fun K => (ALe (vb a) (vb true)) ∧ True) [(6, vb (!c))] [] ⟨ALe.bool j, ⟨⟩⟩ ?_
     exact Kn.R Fm (o (!c) h)
    ·have h := br_f h j
     refine AW.G Fm [.s, .w (vb false), .s, .s, .s, .s] (fun K => (ALe (vb a) (vb false)) ∧ True) [(6, vb false)] [] ⟨ALe.bool j, ⟨⟩⟩ ?_
     exact Kn.R Fm (o false h)
theorem ref04_same_spec {F : Nat} {d : (List Rect)} {e : (List Rect)} {r : Bool} (h : ref04_same F d e = some r) :
  FSpec Try.prog 77 [AL d, AL e] [] (vb r) [] := by
 refine FSpec.intro prog_mixed prog_lay Try.func77 rfl (by kernel_rfl) fun C Fm => ?_
 unfold ref04_same at h
 refine AW.SG0 Fm 1 [(0, AL d), (1, AL e)] [] ?_
 refine AW.seq ?_
 refine AW.SG0 Fm 5 [(0, AL d), (1, AL e), (10, vb (((List.length d : Nat) : Int) != ((List.length e : Nat) : Int)))] [] ?_
 refine AW.cond (b := (((List.length d : Nat) : Int) != ((List.length e : Nat) : Int))) (by kernel_rfl) (fun j => ?_) (fun j => ?_)
 ·have h := br_t h j
  refine AW.SG0 Fm 1 [(4, vb false)] [] ?_
  refine AW.ret ?_
  obtain rfl := Option.some.inj h
  exact Kn.D Fm
 ·have h := br_f h j
  refine AW.skip ?_
  refine AW.join (r := r) (fun z : Unit => ref04_same_k2 F) (fun z => []) (fun z => []) (fun z h => ?_) (fun I t => ?_)
  ·refine AW.SG0 Fm 1 [(4, vb true)] [] ?_
   refine AW.ret ?_
   obtain rfl := Option.some.inj h
   exact Kn.D Fm
  ·refine AW.SG0 Fm 3 [(0, AL d), (1, AL e), (12, vi ((List.length d : Nat) : Int)), (13, vi (0 : Int))] [] ?_
   refine AW.block ?_
   refine Kn.r Fm [(0, AL d), (1, AL e), (12, vi ((List.length d : Nat) : Int)), (13, vi (0 : Int))] [] (by kernel_rfl) ?_
   refine AW.loopF (E' := fun z => [(0, AL d), (1, AL e), (12, vi ((List.length d : Nat) : Int)), (13, vi z)]) (S' := fun z => []) (fun p a E q h => ?_) h
   refine AW.SG0 Fm 1 [(0, AL d), (1, AL e), (12, vi ((List.length d : Nat) : Int)), (13, vi a), (14, vb (decide (a < ((List.length d : Nat) : Int))))] [] ?_
   refine AW.seq ?_
   refine AW.cond (b := (decide (a < ((List.length d : Nat) : Int)))) (by kernel_rfl) (fun k => ?_) (fun k => ?_)
   ·have h := br_t h k
    refine AW.skip ?_
    refine AW.seq ?_
    refine AW.block ?_
    refine AW.SG0 Fm 2 [(0, AL d), (1, AL e), (5, vi a), (12, vi ((List.length d : Nat) : Int)), (13, vi a)] [] ?_
    refine AW.join (r := r) (fun z : Bool => ref04_same_k1 F a p z) (fun z => [(0, AL d), (1, AL e), (12, vi ((List.length d : Nat) : Int)), (13, vi a), (39, vb z)]) (fun z => []) (fun B h => ?_) (fun H m => ?_)
    ·refine AW.cond (b := B) (by kernel_rfl) (fun l => ?_) (fun l => ?_)
     ·have h := br_t h l
      refine AW.SG0 Fm 1 [(4, vb false)] [] ?_
      refine AW.ret ?_
      obtain rfl := Option.some.inj h
      exact Kn.D Fm
     ·have h := br_f h l
      refine AW.skip ?_
      obtain ⟨A, h⟩ := gd_some h
      refine AW.G Fm [.s, .s] (fun K => (I64 (a + (1 : Int)) ∧ True) ∧ True) [(0, AL d), (1, AL e), (12, vi ((List.length d : Nat) : Int)), (13, vi (a + (1 : Int)))] [] ⟨⟨A, ⟨⟩⟩, ⟨⟩⟩ ?_
      exact Kn.R Fm (q (a + (1 : Int)) h)
    ·obtain ⟨n, h⟩ := gd_some h
     obtain ⟨o, h⟩ := gd_some h
     rcases Bool.eq_false_or_eq_true (((gl d a.toNat).left_) != ((gl e a.toNat).left_)) with i | i
     ·have h := br_t h i
      refine AW.G Fm [.s, .s, .s, .s, .s, .s, .s, .s, .s, .s, .s, .w (vb true), .s, .s, .s, .s, .s, .s, .s, .s, .s, .s, .s, .s] (fun K => _ ∧ _ ∧ (ALe (vb (((gl d a.toNat).left_) != ((gl e a.toNat).left_))) (vb true)) ∧ True) [(0, AL d), (1, AL e), (12, vi ((List.length d : Nat) : Int)), (13, vi a), (39, vb true)] [] ⟨n, o, ALe.bool i, ⟨⟩⟩ ?_
      exact Kn.R Fm (m true h)
     ·have h := br_f h i
      obtain ⟨u, h⟩ := gd_some h
      obtain ⟨y, h⟩ := gd_some h
      refine AW.G Fm [.s, .s, .s, .s, .s, .s, .s, .s, .s, .s, .s, .w (vb false), .s, .s, .s, .s, .s, .s, .s, .s, .s, .s, .s, .s] (fun K => _ ∧ _ ∧ (ALe (vb (((gl d a.toNat).left_) != ((gl e a.toNat).left_))) (vb false)) ∧ _ ∧ _ ∧ True) [(0, AL d), (1, AL e), (12, vi ((List.length d : Nat) : Int)), (13, vi a), (28, AL d), (29, vi a), (30, .v (.c (.elm [.int .i64 (gl d a.toNat).left_, .int .i64 (gl d a.toNat).low_, .int .i64 (gl d a.toNat).right_, .int .i64 (gl d a.toNat).high_]))), (31, .v (.c (.elm [.int .i64 (gl d a.toNat).right_, .int .i64 (gl d a.toNat).high_]))), (32, vi (gl d a.toNat).right_), (33, AL e), (34, vi a), (35, .v (.c (.elm [.int .i64 (gl e a.toNat).left_, .int .i64 (gl e a.toNat).low_, .int .i64 (gl e a.toNat).right_, .int .i64 (gl e a.toNat).high_]))), (36, .v (.c (.elm [.int .i64 (gl e a.toNat).right_, .int .i64 (gl e a.toNat).high_]))), (37, vi (gl e a.toNat).right_), (38, vb (((gl d a.toNat).right_) != ((gl e a.toNat).right_))), (39, vb (((gl d a.toNat).right_) != ((gl e a.toNat).right_)))] [] ⟨n, o, ALe.bool i, u, y, ⟨⟩⟩ ?_
      exact Kn.R Fm (m (((gl d a.toNat).right_) != ((gl e a.toNat).right_)) h)
   ·have h := br_f h k
    refine AW.exit ?_
    exact Kn.R Fm (t () h)
theorem ref04_Combine_spec {F : Nat} {a : (List Rect)} {e : (List Rect)} {q : Int} {r : (List Rect)} (h : ref04_Combine F a e q = some r) :
  FSpec Try.prog 56 [AL a, AL e, vi q] [] (AL (α := Rect) r) [] := by
 refine FSpec.intro prog_mixed prog_lay Try.func56 rfl (by kernel_rfl) fun C Fm => ?_
 unfold ref04_Combine at h
 refine AW.SG0 Fm 1 [(0, AL a), (1, AL e), (2, vi q)] [] ?_
 refine AW.SG Fm [.m, .m] (fun K => True) [(0, AL a), (1, AL e), (2, vi q), (7, ow 7), (8, ow 8)] [(7, .arr 1 (0) (fun _ => [])), (8, .arr 1 (0) (fun _ => []))] True.intro ?_
 refine Kn.wk [(0, AL a), (1, AL e), (2, vi q), (7, ow 7), (8, ow 8)] [(7, AO (α := Int) ([] : List Int)), (8, AO (α := Int) ([] : List Int))] (FE.refl _) (⟨rfl, OLe.is ((Is.nil (α := Int))), ⟨rfl, OLe.is ((Is.nil (α := Int))), ⟨⟩⟩⟩) ?_
 refine AW.join (r := r) (fun z : (List Int) × (List Int) => ref04_Combine_k3 F a e q z.1 z.2) (fun z => [(0, AL a), (1, AL e), (2, vi q), (7, AL z.1), (8, AL z.2)]) (fun z => []) (fun z h => ?_) (fun i2 O0 => ?_)
 ·obtain ⟨o, l⟩ := z
  refine AW.SG Fm [.m, .m] (fun K => True) [(0, AL a), (1, AL e), (2, vi q), (7, AL o), (8, AL l), (13, ow 13), (14, ow 14)] [(13, .arr 4 (0) (fun _ => [])), (14, .arr 4 (0) (fun _ => []))] True.intro ?_
  refine Kn.wk [(0, AL a), (1, AL e), (2, vi q), (7, AL o), (8, AL l), (13, ow 13), (14, ow 14)] [(13, AO (α := Rect) ([] : List Rect)), (14, AO (α := Rect) ([] : List Rect))] (FE.refl _) (⟨rfl, OLe.is ((Is.nil (α := Rect))), ⟨rfl, OLe.is ((Is.nil (α := Rect))), ⟨⟩⟩⟩) ?_
  refine AW.join (r := r) (fun z : (List Rect) × (List Rect) => ref04_Combine_k14 F z.1 z.2) (fun z => [(13, ow 13), (14, ow 14)]) (fun z => [(13, AO z.1), (14, AO z.2)]) (fun z h => ?_) (fun u2 X0 => ?_)
  ·obtain ⟨M, I⟩ := z
   obtain ⟨L1, h⟩ := gd_some h
   refine AW.SG Fm [.s, .s, .s, .s] (fun K => ((List.length (α := Rect) M) + (List.length (α := Rect) I) ≤ LIM ∧ (∀ j, j < List.length (α := Rect) I → ((LF (α := Rect) I) j).length = 4) ∧ (True)) ∧ True) [(6, ow 176)] [(176, .arr 4 ((List.length (α := Rect) M) + (List.length (α := Rect) I)) (appF (List.length (α := Rect) M) (LF (α := Rect) M) (LF (α := Rect) I)))] ⟨⟨L1, (Is.refl I : Is (List.length (α := Rect) I) (LF (α := Rect) I) I).len, ⟨⟩⟩, ⟨⟩⟩ ?_
   refine Kn.wk [(6, ow 176)] [(176, AO (α := Rect) (M ++ I))] (FE.refl _) (⟨rfl, OLe.is (Is.app (Is.refl M) (Is.refl I)), ⟨⟩⟩) ?_
   refine AW.ret ?_
   obtain rfl := Option.some.inj h
   refine Kn.r Fm [(6, ow 176)] [(176, AO (α := Rect) (M ++ I))] (by kernel_rfl) ?_
   refine Kn.frz [(6, AL (α := Rect) (M ++ I))] [] (by kernel_rfl) (by kernel_rfl) (by kernel_rfl) ?_
   exact Kn.D Fm
  ·refine AW.SG0 Fm 1 [(0, AL a), (1, AL e), (2, vi q), (7, AL o), (8, AL l), (13, ow 13), (14, ow 14), (15, vi (0 : Int))] [(13, AO (α := Rect) ([] : List Rect)), (14, AO (α := Rect) ([] : List Rect))] ?_
   refine AW.block ?_
   refine Kn.r Fm [(0, AL a), (1, AL e), (2, vi q), (7, AL o), (8, AL l), (13, ow 13), (14, ow 14), (15, vi (0 : Int))] [(13, AO ([] : List Rect)), (14, AO ([] : List Rect))] (by kernel_rfl) ?_
   refine AW.loopF (E' := fun z => [(0, AL a), (1, AL e), (2, vi q), (7, AL o), (8, AL l), (13, ow 13), (14, ow 14), (15, vi z.1)]) (S' := fun z => [(13, AO z.2.1), (14, AO z.2.2)]) (fun P z j2 P0 h => ?_) h
   obtain ⟨i, y, t⟩ := z
   refine AW.seq ?_
   obtain ⟨c1, h⟩ := gd_some h
   refine AW.SG Fm [.s, .s, .s, .s, .s] (fun K => (I64 (i + (1 : Int)) ∧ True) ∧ True) [(0, AL a), (1, AL e), (2, vi q), (7, AL o), (8, AL l), (13, ow 13), (14, ow 14), (15, vi i), (54, vb (decide ((i + (1 : Int)) < ((List.length l : Nat) : Int))))] [(13, AO y), (14, AO t)] ⟨⟨c1, ⟨⟩⟩, ⟨⟩⟩ ?_
   refine AW.cond (b := (decide ((i + (1 : Int)) < ((List.length l : Nat) : Int)))) (by kernel_rfl) (fun d0 => ?_) (fun d0 => ?_)
   ·have h := br_t h d0
    refine AW.skip ?_
    refine AW.join (r := r) (fun z : (List Rect) × (List Rect) => ref04_Combine_k13 F i P z.1 z.2) (fun z => [(0, AL a), (1, AL e), (2, vi q), (7, AL o), (8, AL l), (13, ow 13), (14, ow 14), (15, vi i)]) (fun z => [(13, AO z.1), (14, AO z.2)]) (fun z h => ?_) (fun t2 u0 => ?_)
    ·obtain ⟨H0, I0⟩ := z
     obtain ⟨K1, h⟩ := gd_some h
     refine AW.G Fm [.s, .s, .s] (fun K => (I64 (i + (1 : Int)) ∧ True) ∧ True) [(0, AL a), (1, AL e), (2, vi q), (7, AL o), (8, AL l), (13, ow 13), (14, ow 14), (15, vi (i + (1 : Int)))] [(13, AO H0), (14, AO I0)] ⟨⟨K1, ⟨⟩⟩, ⟨⟩⟩ ?_
     exact Kn.R Fm (P0 ((i + (1 : Int)), H0, I0) h)
    ·refine AW.block ?_
     refine AW.SG Fm [.m] (fun K => True) [(0, AL a), (1, AL e), (2, vi q), (7, AL o), (8, AL l), (13, ow 13), (14, ow 14), (15, vi i), (16, ow 16)] [(13, AO y), (14, AO t), (16, .arr 4 (0) (fun _ => []))] True.intro ?_
     refine Kn.wk [(0, AL a), (1, AL e), (2, vi q), (7, AL o), (8, AL l), (13, ow 13), (14, ow 14), (15, vi i), (16, ow 16)] [(13, AO y), (14, AO t), (16, AO (α := Rect) ([] : List Rect))] (FE.refl _) (⟨rfl, OLe.refl _, ⟨rfl, OLe.refl _, ⟨rfl, OLe.is ((Is.nil (α := Rect))), ⟨⟩⟩⟩⟩) ?_
     refine AW.join (r := r) (fun z : (List Rect) => ref04_Combine_k8 F l i y t P z) (fun z => [(0, AL a), (1, AL e), (2, vi q), (7, AL o), (8, AL l), (13, ow 13), (14, ow 14), (15, vi i), (16, ow 16)]) (fun z => [(13, AO y), (14, AO t), (16, AO z)]) (fun H h => ?_) (fun n2 T0 => ?_)
     ·refine AW.join (r := r) (fun z : Unit => ref04_Combine_k12 F i y t H P) (fun z => [(0, AL a), (1, AL e), (2, vi q), (7, AL o), (8, AL l), (13, ow 13), (14, ow 14), (15, vi i), (16, ow 16)]) (fun z => [(13, AO y), (14, AO t), (16, AO H)]) (fun z h => ?_) (fun s2 W0 => ?_)
      ·obtain ⟨I1, h⟩ := gd_some h
       refine AW.SG Fm [.s, .s, .s, .s] (fun K => ((List.length (α := Rect) y) + (List.length (α := Rect) t) ≤ LIM ∧ (∀ j, j < List.length (α := Rect) t → ((LF (α := Rect) t) j).length = 4) ∧ (True)) ∧ True) [(0, AL a), (1, AL e), (2, vi q), (7, AL o), (8, AL l), (13, ow 172), (15, vi i), (16, ow 16)] [(16, AO H), (172, .arr 4 ((List.length (α := Rect) y) + (List.length (α := Rect) t)) (appF (List.length (α := Rect) y) (LF (α := Rect) y) (LF (α := Rect) t)))] ⟨⟨I1, (Is.refl t : Is (List.length (α := Rect) t) (LF (α := Rect) t) t).len, ⟨⟩⟩, ⟨⟩⟩ ?_
       refine Kn.wk [(0, AL a), (1, AL e), (2, vi q), (7, AL o), (8, AL l), (13, ow 172), (15, vi i), (16, ow 16)] [(16, AO H), (172, AO (α := Rect) (y ++ t))] (FE.refl _) (⟨rfl, OLe.refl _, ⟨rfl, OLe.is (Is.app (Is.refl y) (Is.refl t)), ⟨⟩⟩⟩) ?_
       refine AW.G0 Fm 2 [(0, AL a), (1, AL e), (2, vi q), (7, AL o), (8, AL l), (13, ow 172), (14, ow 16), (15, vi i)] [(16, AO H), (172, AO (α := Rect) (y ++ t))] ?_
       exact Kn.RE Fm [(13, 172), (14, 16)] (u0 ((y ++ t), H) h)
      ·refine AW.join (r := r) (fun z : Bool => ref04_Combine_k9 F l i y t H P z) (fun z => [(0, AL a), (1, AL e), (2, vi q), (7, AL o), (8, AL l), (13, ow 13), (14, ow 14), (15, vi i), (16, ow 16), (154, vb z)]) (fun z => [(13, AO y), (14, AO t), (16, AO H)]) (fun W1 h => ?_) (fun o2 a0 => ?_)
       ·refine AW.cond (b := W1) (by kernel_rfl) (fun k0 => ?_) (fun k0 => ?_)
        ·have h := br_t h k0
         refine AW.join (r := r) (fun z : (List Rect) => ref04_Combine_k11 F i y P z) (fun z => [(0, AL a), (1, AL e), (2, vi q), (7, AL o), (8, AL l), (13, ow 13), (14, ow 14), (15, vi i)]) (fun z => [(13, AO y), (14, AO z)]) (fun X1 h => ?_) (fun q2 V0 => ?_)
         ·refine AW.exit ?_
          exact Kn.R Fm (u0 (y, X1) h)
         ·refine AW.SG0 Fm 3 [(0, AL a), (1, AL e), (2, vi q), (7, AL o), (8, AL l), (13, ow 13), (14, ow 14), (15, vi i), (156, vi ((List.length t : Nat) : Int)), (157, vi (0 : Int))] [(13, AO y), (14, AO t)] ?_
          refine AW.block ?_
          refine Kn.r Fm [(0, AL a), (1, AL e), (2, vi q), (7, AL o), (8, AL l), (13, ow 13), (14, ow 14), (15, vi i), (156, vi ((List.length t : Nat) : Int)), (157, vi (0 : Int))] [(13, AO y), (14, AO t)] (by kernel_rfl) ?_
          refine AW.loopF (E' := fun z => [(0, AL a), (1, AL e), (2, vi q), (7, AL o), (8, AL l), (13, ow 13), (14, ow 14), (15, vi i), (156, vi ((List.length t : Nat) : Int)), (157, vi z.1)]) (S' := fun z => [(13, AO y), (14, AO z.2)]) (fun y2 z p2 U0 h => ?_) h
          obtain ⟨B, E⟩ := z
          refine AW.SG0 Fm 1 [(0, AL a), (1, AL e), (2, vi q), (7, AL o), (8, AL l), (13, ow 13), (14, ow 14), (15, vi i), (156, vi ((List.length t : Nat) : Int)), (157, vi B), (158, vb (decide (B < ((List.length t : Nat) : Int))))] [(13, AO y), (14, AO E)] ?_
          refine AW.seq ?_
          refine AW.cond (b := (decide (B < ((List.length t : Nat) : Int)))) (by kernel_rfl) (fun l0 => ?_) (fun l0 => ?_)
          ·have h := br_t h l0
           refine AW.skip ?_
           refine AW.seq ?_
           refine AW.block ?_
           refine AW.SG0 Fm 2 [(0, AL a), (1, AL e), (2, vi q), (7, AL o), (8, AL l), (13, ow 13), (14, ow 14), (15, vi i), (19, vi B), (156, vi ((List.length t : Nat) : Int)), (157, vi B)] [(13, AO y), (14, AO E)] ?_
           obtain ⟨E1, h⟩ := gd_some h
           obtain ⟨G1, h⟩ := gd_some h
           obtain ⟨n0, h⟩ := gd_some h
           refine AW.G Fm [.s, .s, .s, .s, .s, .s, .s, .s, .s, .s] (fun K => (I64 (i + (1 : Int)) ∧ True) ∧ _ ∧ _ ∧ (B.toNat < List.length E) ∧ True) [(0, AL a), (1, AL e), (2, vi q), (7, AL o), (8, AL l), (13, ow 13), (14, ow 14), (15, vi i), (156, vi ((List.length t : Nat) : Int)), (157, vi B)] [(13, AO y), (14, .arr 4 (List.length (α := Rect) E) (fun j => if j = B.toNat then splice ((LF (α := Rect) E) B.toNat) 3 [.int .i64 (gl l (i + (1 : Int)).toNat)] else (LF (α := Rect) E) j))] ⟨⟨E1, ⟨⟩⟩, G1, n0, (toNat_lt n0), ⟨⟩⟩ ?_
           refine Kn.wk [(0, AL a), (1, AL e), (2, vi q), (7, AL o), (8, AL l), (13, ow 13), (14, ow 14), (15, vi i), (156, vi ((List.length t : Nat) : Int)), (157, vi B)] [(13, AO y), (14, AO (α := Rect) (List.set E B.toNat (⟨(gl E B.toNat).left_, (gl E B.toNat).low_, (gl E B.toNat).right_, (gl l (i + (1 : Int)).toNat)⟩ : Rect)))] (FE.refl _) (⟨rfl, OLe.refl _, ⟨rfl, OLe.is (Is.set (Is.refl E) (toNat_lt n0) (⟨(gl E B.toNat).left_, (gl E B.toNat).low_, (gl E B.toNat).right_, (gl l (i + (1 : Int)).toNat)⟩ : Rect) (by kernel_rfl)), ⟨⟩⟩⟩) ?_
           obtain ⟨H1, h⟩ := gd_some h
           refine AW.G Fm [.s, .s] (fun K => (I64 (B + (1 : Int)) ∧ True) ∧ True) [(0, AL a), (1, AL e), (2, vi q), (7, AL o), (8, AL l), (13, ow 13), (14, ow 14), (15, vi i), (156, vi ((List.length t : Nat) : Int)), (157, vi (B + (1 : Int)))] [(13, AO y), (14, AO (α := Rect) (List.set E B.toNat (⟨(gl E B.toNat).left_, (gl E B.toNat).low_, (gl E B.toNat).right_, (gl l (i + (1 : Int)).toNat)⟩ : Rect)))] ⟨⟨H1, ⟨⟩⟩, ⟨⟩⟩ ?_
           exact Kn.R Fm (U0 ((B + (1 : Int)), (List.set E B.toNat (⟨(gl E B.toNat).left_, (gl E B.toNat).low_, (gl E B.toNat).right_, (gl l (i + (1 : Int)).toNat)⟩ : Rect))) h)
          ·have h := br_f h l0
           refine AW.exit ?_
           exact Kn.R Fm (V0 E h)
        ·have h := br_f h k0
         refine AW.skip ?_
         exact Kn.R Fm (W0 () h)
       ·rcases Bool.eq_false_or_eq_true (decide ((0 : Int) < ((List.length t : Nat) : Int))) with O | O
        ·have h := br_t h O
         obtain ⟨N, A0, h⟩ := bd_some h
         rcases Bool.eq_false_or_eq_true N with U | U
         ·have h := br_t h U
          obtain ⟨y0, h⟩ := gd_some h
          obtain ⟨D1, h⟩ := gd_some h
          refine AW.G Fm [.s, .s, .s, .w (vb true), .s, .s, .k (sE (vb N)), .s, .w (vb true), .s, .s, .s, .s, .s, .s, .s, .s, .s, .s] (fun K => (ALe (vb (decide ((0 : Int) < ((List.length t : Nat) : Int)))) (vb true)) ∧ K 6 ∧ (ALe (vb N) (vb true)) ∧ _ ∧ ((0 : Int).toNat < List.length t) ∧ _ ∧ True) [(0, AL a), (1, AL e), (2, vi q), (7, AL o), (8, AL l), (13, ow 13), (14, ow 14), (15, vi i), (16, ow 16), (140, ow 14), (141, ow 16), (142, vb N), (145, ow 14), (146, .v (.c (.pte 14 4 ((0 : Int).toNat) 0))), (147, .v (.c (.pte 14 4 ((0 : Int).toNat) 3))), (148, vi (gl t (0 : Int).toNat).high_), (149, AL l), (150, vi i), (151, .v (.c (.elm [.int .i64 (gl l i.toNat)]))), (152, vi (gl l i.toNat)), (153, vb (((gl t (0 : Int).toNat).high_) == (gl l i.toNat))), (154, vb (((gl t (0 : Int).toNat).high_) == (gl l i.toNat)))] [(13, AO y), (14, AO t), (16, AO H)] ⟨ALe.bool O, KAt.callBX (ref04_same_spec A0) Try.call77 [14, 16] [.tmp 140, .tmp 141] rfl (by kernel_rfl) (by kernel_rfl) ⟨ArgB.own 14 (es := 4) (n := List.length t) (f := LF t) (by kernel_rfl) (by kernel_rfl) (by kernel_rfl) (by kernel_rfl), ArgB.own 16 (es := 4) (n := List.length H) (f := LF H) (by kernel_rfl) (by kernel_rfl) (by kernel_rfl) (by kernel_rfl), ⟨⟩⟩, ALe.bool U, y0, (toNat_lt y0), D1, ⟨⟩⟩ ?_
          exact Kn.R Fm (a0 (((gl t (0 : Int).toNat).high_) == (gl l i.toNat)) h)
         ·have h := br_f h U
          refine AW.G Fm [.s, .s, .s, .w (vb true), .s, .s, .k (sE (vb N)), .s, .w (vb false), .s, .s, .s, .s, .s, .s, .s, .s, .s, .s] (fun K => (ALe (vb (decide ((0 : Int) < ((List.length t : Nat) : Int)))) (vb true)) ∧ K 6 ∧ (ALe (vb N) (vb false)) ∧ True) [(0, AL a), (1, AL e), (2, vi q), (7, AL o), (8, AL l), (13, ow 13), (14, ow 14), (15, vi i), (16, ow 16), (140, ow 14), (141, ow 16), (142, vb N), (154, vb false)] [(13, AO y), (14, AO t), (16, AO H)] ⟨ALe.bool O, KAt.callBX (ref04_same_spec A0) Try.call77 [14, 16] [.tmp 140, .tmp 141] rfl (by kernel_rfl) (by kernel_rfl) ⟨ArgB.own 14 (es := 4) (n := List.length t) (f := LF t) (by kernel_rfl) (by kernel_rfl) (by kernel_rfl) (by kernel_rfl), ArgB.own 16 (es := 4) (n := List.length H) (f := LF H) (by kernel_rfl) (by kernel_rfl) (by kernel_rfl) (by kernel_rfl), ⟨⟩⟩, ALe.bool U, ⟨⟩⟩ ?_
          exact Kn.R Fm (a0 false h)
        ·have h := br_f h O
         refine AW.G Fm [.s, .s, .s, .w (vb false), .s, .s, .s, .s, .s, .s, .s, .s, .s, .s, .s, .s, .s, .s, .s] (fun K => (ALe (vb (decide ((0 : Int) < ((List.length t : Nat) : Int)))) (vb false)) ∧ True) [(0, AL a), (1, AL e), (2, vi q), (7, AL o), (8, AL l), (13, ow 13), (14, ow 14), (15, vi i), (16, ow 16), (154, vb false)] [(13, AO y), (14, AO t), (16, AO H)] ⟨ALe.bool O, ⟨⟩⟩ ?_
         exact Kn.R Fm (a0 false h)
     ·refine AW.SG0 Fm 1 [(0, AL a), (1, AL e), (2, vi q), (7, AL o), (8, AL l), (13, ow 13), (14, ow 14), (15, vi i), (16, ow 16), (17, vi (0 : Int))] [(13, AO y), (14, AO t), (16, AO (α := Rect) ([] : List Rect))] ?_
      refine AW.block ?_
      refine Kn.r Fm [(0, AL a), (1, AL e), (2, vi q), (7, AL o), (8, AL l), (13, ow 13), (14, ow 14), (15, vi i), (16, ow 16), (17, vi (0 : Int))] [(13, AO y), (14, AO t), (16, AO ([] : List Rect))] (by kernel_rfl) ?_
      refine AW.loopF (E' := fun z => [(0, AL a), (1, AL e), (2, vi q), (7, AL o), (8, AL l), (13, ow 13), (14, ow 14), (15, vi i), (16, ow 16), (17, vi z.1)]) (S' := fun z => [(13, AO y), (14, AO t), (16, AO z.2)]) (fun s0 z k2 R0 h => ?_) h
      obtain ⟨u, p⟩ := z
      refine AW.seq ?_
      obtain ⟨d1, h⟩ := gd_some h
      refine AW.SG Fm [.s, .s, .s, .s, .s] (fun K => (I64 (u + (1 : Int)) ∧ True) ∧ True) [(0, AL a), (1, AL e), (2, vi q), (7, AL o), (8, AL l), (13, ow 13), (14, ow 14), (15, vi i), (16, ow 16), (17, vi u), (61, vb (decide ((u + (1 : Int)) < ((List.length o : Nat) : Int))))] [(13, AO y), (14, AO t), (16, AO p)] ⟨⟨d1, ⟨⟩⟩, ⟨⟩⟩ ?_
      refine AW.cond (b := (decide ((u + (1 : Int)) < ((List.length o : Nat) : Int)))) (by kernel_rfl) (fun e0 => ?_) (fun e0 => ?_)
      ·have h := br_t h e0
       refine AW.skip ?_
       refine AW.join (r := r) (fun z : (List Rect) => ref04_Combine_k7 F u s0 z) (fun z => [(0, AL a), (1, AL e), (2, vi q), (7, AL o), (8, AL l), (13, ow 13), (14, ow 14), (15, vi i), (16, ow 16), (17, vi u)]) (fun z => [(13, AO y), (14, AO t), (16, AO z)]) (fun E0 h => ?_) (fun m2 Z => ?_)
       ·obtain ⟨B1, h⟩ := gd_some h
        refine AW.G Fm [.s, .s, .s] (fun K => (I64 (u + (1 : Int)) ∧ True) ∧ True) [(0, AL a), (1, AL e), (2, vi q), (7, AL o), (8, AL l), (13, ow 13), (14, ow 14), (15, vi i), (16, ow 16), (17, vi (u + (1 : Int)))] [(13, AO y), (14, AO t), (16, AO E0)] ⟨⟨B1, ⟨⟩⟩, ⟨⟩⟩ ?_
        exact Kn.R Fm (R0 ((u + (1 : Int)), E0) h)
       ·refine AW.block ?_
        refine AW.seq ?_
        refine AW.seq ?_
        obtain ⟨e1, h⟩ := gd_some h
        obtain ⟨i1, h⟩ := gd_some h
        obtain ⟨a2, R1, h⟩ := bd_some h
        obtain ⟨j1, h⟩ := gd_some h
        obtain ⟨k1, h⟩ := gd_some h
        obtain ⟨b2, T1, h⟩ := bd_some h
        obtain ⟨q0, U1, h⟩ := bd_some h
        refine AW.G Fm [.s, .s, .s, .s, .s, .s, .s, .s, .s, .k (cE [] [] (vb a2) [] []), .s, .s, .s, .s, .s, .s, .s, .s, .s, .k (cE [] [] (vb b2) [] []), .s, .k (cE [] [] (vb q0) [] []), .s] (fun K => _ ∧ _ ∧ K 9 ∧ _ ∧ _ ∧ K 19 ∧ K 21 ∧ True) [(0, AL a), (1, AL e), (2, vi q), (7, AL o), (8, AL l), (13, ow 13), (14, ow 14), (15, vi i), (16, ow 16), (17, vi u), (86, vb (!q0))] [(13, AO y), (14, AO t), (16, AO p)] ⟨e1, i1, KAt.CC (ref04_inside_spec R1) Try.call76 [], j1, k1, KAt.CC (ref04_inside_spec T1) Try.call76 [], KAt.CC (ref04_keep_spec U1) Try.call75 [], ⟨⟩⟩ ?_
        refine AW.cond (b := (!q0)) (by kernel_rfl) (fun i0 => ?_) (fun i0 => ?_)
        ·have h := br_t h i0
         refine AW.exit ?_
         exact Kn.R Fm (Z p h)
        ·have h := br_f h i0
         refine AW.skip ?_
         refine AW.SG0 Fm 3 [(0, AL a), (1, AL e), (2, vi q), (7, AL o), (8, AL l), (13, ow 13), (14, ow 14), (15, vi i), (16, ow 16), (17, vi u), (18, vi ((List.length p : Nat) : Int))] [(13, AO y), (14, AO t), (16, AO p)] ?_
         refine AW.join (r := r) (fun z : Bool => ref04_Combine_k6 F o l i u p s0 z) (fun z => [(0, AL a), (1, AL e), (2, vi q), (7, AL o), (8, AL l), (13, ow 13), (14, ow 14), (15, vi i), (16, ow 16), (17, vi u), (18, vi ((List.length p : Nat) : Int)), (103, vb z)]) (fun z => [(13, AO y), (14, AO t), (16, AO p)]) (fun V1 h => ?_) (fun l2 t0 => ?_)
         ·refine AW.cond (b := V1) (by kernel_rfl) (fun j0 => ?_) (fun j0 => ?_)
          ·have h := br_t h j0
           obtain ⟨n1, h⟩ := gd_some h
           obtain ⟨o1, h⟩ := gd_some h
           obtain ⟨p1, h⟩ := gd_some h
           obtain ⟨m0, h⟩ := gd_some h
           refine AW.G Fm [.s, .s, .s, .s, .s, .s, .s, .s, .s, .s, .s] (fun K => (I64 (((List.length p : Nat) : Int) - (1 : Int)) ∧ True) ∧ (I64 (u + (1 : Int)) ∧ True) ∧ _ ∧ _ ∧ ((((List.length p : Nat) : Int) - (1 : Int)).toNat < List.length p) ∧ True) [(0, AL a), (1, AL e), (2, vi q), (7, AL o), (8, AL l), (13, ow 13), (14, ow 14), (15, vi i), (16, ow 16), (17, vi u)] [(13, AO y), (14, AO t), (16, .arr 4 (List.length (α := Rect) p) (fun j => if j = (((List.length p : Nat) : Int) - (1 : Int)).toNat then splice ((LF (α := Rect) p) (((List.length p : Nat) : Int) - (1 : Int)).toNat) 2 [.int .i64 (gl o (u + (1 : Int)).toNat)] else (LF (α := Rect) p) j))] ⟨⟨n1, ⟨⟩⟩, ⟨o1, ⟨⟩⟩, p1, m0, (toNat_lt m0), ⟨⟩⟩ ?_
           refine Kn.wk [(0, AL a), (1, AL e), (2, vi q), (7, AL o), (8, AL l), (13, ow 13), (14, ow 14), (15, vi i), (16, ow 16), (17, vi u)] [(13, AO y), (14, AO t), (16, AO (α := Rect) (List.set p (((List.length p : Nat) : Int) - (1 : Int)).toNat (⟨(gl p (((List.length p : Nat) : Int) - (1 : Int)).toNat).left_, (gl p (((List.length p : Nat) : Int) - (1 : Int)).toNat).low_, (gl o (u + (1 : Int)).toNat), (gl p (((List.length p : Nat) : Int) - (1 : Int)).toNat).high_⟩ : Rect)))] (FE.refl _) (⟨rfl, OLe.refl _, ⟨rfl, OLe.refl _, ⟨rfl, OLe.is (Is.set (Is.refl p) (toNat_lt m0) (⟨(gl p (((List.length p : Nat) : Int) - (1 : Int)).toNat).left_, (gl p (((List.length p : Nat) : Int) - (1 : Int)).toNat).low_, (gl o (u + (1 : Int)).toNat), (gl p (((List.length p : Nat) : Int) - (1 : Int)).toNat).high_⟩ : Rect) (by kernel_rfl)), ⟨⟩⟩⟩⟩) ?_
           exact Kn.R Fm (Z (List.set p (((List.length p : Nat) : Int) - (1 : Int)).toNat (⟨(gl p (((List.length p : Nat) : Int) - (1 : Int)).toNat).left_, (gl p (((List.length p : Nat) : Int) - (1 : Int)).toNat).low_, (gl o (u + (1 : Int)).toNat), (gl p (((List.length p : Nat) : Int) - (1 : Int)).toNat).high_⟩ : Rect)) h)
          ·have h := br_f h j0
           obtain ⟨q1, h⟩ := gd_some h
           obtain ⟨s1, h⟩ := gd_some h
           obtain ⟨t1, h⟩ := gd_some h
           obtain ⟨u1, h⟩ := gd_some h
           obtain ⟨w1, h⟩ := gd_some h
           obtain ⟨y1, h⟩ := gd_some h
           obtain ⟨A1, h⟩ := gd_some h
           refine AW.G Fm [.s, .s, .s, .s, .s, .s, .s, .s, .s, .s, .s, .s, .s, .s, .s, .s, .s, .s, .s, .s, .w (AL (α := Rect) ([(⟨(gl o u.toNat), (gl l i.toNat), (gl o (u + (1 : Int)).toNat), (gl l (i + (1 : Int)).toNat)⟩ : Rect)] : List Rect)), .s, .s] (fun K => _ ∧ _ ∧ (I64 (u + (1 : Int)) ∧ True) ∧ _ ∧ (I64 (i + (1 : Int)) ∧ True) ∧ _ ∧ (ALe (.v (.c (.d (.lst 1 (litF 4 [.int .i64 (gl o u.toNat), .int .i64 (gl l i.toNat), .int .i64 (gl o (u + (1 : Int)).toNat), .int .i64 (gl l (i + (1 : Int)).toNat)]))))) (AL (α := Rect) ([(⟨(gl o u.toNat), (gl l i.toNat), (gl o (u + (1 : Int)).toNat), (gl l (i + (1 : Int)).toNat)⟩ : Rect)] : List Rect))) ∧ ((List.length (α := Rect) p) + (List.length (α := Rect) ([(⟨(gl o u.toNat), (gl l i.toNat), (gl o (u + (1 : Int)).toNat), (gl l (i + (1 : Int)).toNat)⟩ : Rect)] : List Rect)) ≤ LIM ∧ (∀ j, j < List.length (α := Rect) ([(⟨(gl o u.toNat), (gl l i.toNat), (gl o (u + (1 : Int)).toNat), (gl l (i + (1 : Int)).toNat)⟩ : Rect)] : List Rect) → ((LF (α := Rect) ([(⟨(gl o u.toNat), (gl l i.toNat), (gl o (u + (1 : Int)).toNat), (gl l (i + (1 : Int)).toNat)⟩ : Rect)] : List Rect)) j).length = 4) ∧ (True)) ∧ True) [(0, AL a), (1, AL e), (2, vi q), (7, AL o), (8, AL l), (13, ow 13), (14, ow 14), (15, vi i), (16, ow 135), (17, vi u)] [(13, AO y), (14, AO t), (135, .arr 4 ((List.length (α := Rect) p) + (List.length (α := Rect) ([(⟨(gl o u.toNat), (gl l i.toNat), (gl o (u + (1 : Int)).toNat), (gl l (i + (1 : Int)).toNat)⟩ : Rect)] : List Rect))) (appF (List.length (α := Rect) p) (LF (α := Rect) p) (LF (α := Rect) ([(⟨(gl o u.toNat), (gl l i.toNat), (gl o (u + (1 : Int)).toNat), (gl l (i + (1 : Int)).toNat)⟩ : Rect)] : List Rect))))] ⟨q1, s1, ⟨t1, ⟨⟩⟩, u1, ⟨w1, ⟨⟩⟩, y1, ALe.lst (.lit ([(⟨(gl o u.toNat), (gl l i.toNat), (gl o (u + (1 : Int)).toNat), (gl l (i + (1 : Int)).toNat)⟩ : Rect)] : List Rect) (by kernel_rfl)), ⟨A1, (Is.refl ([(⟨(gl o u.toNat), (gl l i.toNat), (gl o (u + (1 : Int)).toNat), (gl l (i + (1 : Int)).toNat)⟩ : Rect)] : List Rect) : Is (List.length (α := Rect) ([(⟨(gl o u.toNat), (gl l i.toNat), (gl o (u + (1 : Int)).toNat), (gl l (i + (1 : Int)).toNat)⟩ : Rect)] : List Rect)) (LF (α := Rect) ([(⟨(gl o u.toNat), (gl l i.toNat), (gl o (u + (1 : Int)).toNat), (gl l (i + (1 : Int)).toNat)⟩ : Rect)] : List Rect)) ([(⟨(gl o u.toNat), (gl l i.toNat), (gl o (u + (1 : Int)).toNat), (gl l (i + (1 : Int)).toNat)⟩ : Rect)] : List Rect)).len, ⟨⟩⟩, ⟨⟩⟩ ?_
           refine Kn.wk [(0, AL a), (1, AL e), (2, vi q), (7, AL o), (8, AL l), (13, ow 13), (14, ow 14), (15, vi i), (16, ow 135), (17, vi u)] [(13, AO y), (14, AO t), (135, AO (α := Rect) (p ++ ([(⟨(gl o u.toNat), (gl l i.toNat), (gl o (u + (1 : Int)).toNat), (gl l (i + (1 : Int)).toNat)⟩ : Rect)] : List Rect)))] (FE.refl _) (⟨rfl, OLe.refl _, ⟨rfl, OLe.refl _, ⟨rfl, OLe.is (Is.app (Is.refl p) (Is.refl ([(⟨(gl o u.toNat), (gl l i.toNat), (gl o (u + (1 : Int)).toNat), (gl l (i + (1 : Int)).toNat)⟩ : Rect)] : List Rect))), ⟨⟩⟩⟩⟩) ?_
           exact Kn.RE Fm [(16, 135)] (Z (p ++ ([(⟨(gl o u.toNat), (gl l i.toNat), (gl o (u + (1 : Int)).toNat), (gl l (i + (1 : Int)).toNat)⟩ : Rect)] : List Rect)) h)
         ·rcases Bool.eq_false_or_eq_true (decide ((0 : Int) < ((List.length p : Nat) : Int))) with T | T
          ·have h := br_t h T
           obtain ⟨l1, h⟩ := gd_some h
           obtain ⟨w0, h⟩ := gd_some h
           obtain ⟨m1, h⟩ := gd_some h
           refine AW.G Fm [.s, .s, .w (vb true), .s, .s, .s, .s, .s, .s, .s, .s, .s, .s, .s, .s] (fun K => (ALe (vb (decide ((0 : Int) < ((List.length p : Nat) : Int)))) (vb true)) ∧ (I64 (((List.length p : Nat) : Int) - (1 : Int)) ∧ True) ∧ _ ∧ ((((List.length p : Nat) : Int) - (1 : Int)).toNat < List.length p) ∧ _ ∧ True) [(0, AL a), (1, AL e), (2, vi q), (7, AL o), (8, AL l), (13, ow 13), (14, ow 14), (15, vi i), (16, ow 16), (17, vi u), (18, vi ((List.length p : Nat) : Int)), (92, ow 16), (93, vi ((List.length p : Nat) : Int)), (94, vi (((List.length p : Nat) : Int) - (1 : Int))), (95, .v (.c (.pte 16 4 ((((List.length p : Nat) : Int) - (1 : Int)).toNat) 0))), (96, .v (.c (.pte 16 4 ((((List.length p : Nat) : Int) - (1 : Int)).toNat) 2))), (97, vi (gl p (((List.length p : Nat) : Int) - (1 : Int)).toNat).right_), (98, AL o), (99, vi u), (100, .v (.c (.elm [.int .i64 (gl o u.toNat)]))), (101, vi (gl o u.toNat)), (102, vb (((gl p (((List.length p : Nat) : Int) - (1 : Int)).toNat).right_) == (gl o u.toNat))), (103, vb (((gl p (((List.length p : Nat) : Int) - (1 : Int)).toNat).right_) == (gl o u.toNat)))] [(13, AO y), (14, AO t), (16, AO p)] ⟨ALe.bool T, ⟨l1, ⟨⟩⟩, w0, (toNat_lt w0), m1, ⟨⟩⟩ ?_
           exact Kn.R Fm (t0 (((gl p (((List.length p : Nat) : Int) - (1 : Int)).toNat).right_) == (gl o u.toNat)) h)
          ·have h := br_f h T
           refine AW.G Fm [.s, .s, .w (vb false), .s, .s, .s, .s, .s, .s, .s, .s, .s, .s, .s, .s] (fun K => (ALe (vb (decide ((0 : Int) < ((List.length p : Nat) : Int)))) (vb false)) ∧ True) [(0, AL a), (1, AL e), (2, vi q), (7, AL o), (8, AL l), (13, ow 13), (14, ow 14), (15, vi i), (16, ow 16), (17, vi u), (18, vi ((List.length p : Nat) : Int)), (103, vb false)] [(13, AO y), (14, AO t), (16, AO p)] ⟨ALe.bool T, ⟨⟩⟩ ?_
           exact Kn.R Fm (t0 false h)
      ·have h := br_f h e0
       refine AW.exit ?_
       exact Kn.R Fm (T0 p h)
   ·have h := br_f h d0
    refine AW.exit ?_
    exact Kn.R Fm (X0 (y, t) h)
 ·refine AW.SG Fm [.s, .s, .w (AL (α := (List Rect)) ([a, e] : List (List Rect))), .s, .s] (fun K => (ALe (.v (.c (.d (.lst 2 (litF 1 [DL a, DL e]))))) (AL (α := (List Rect)) ([a, e] : List (List Rect)))) ∧ True) [(0, AL a), (1, AL e), (2, vi q), (7, ow 7), (8, ow 8), (22, AL (α := (List Rect)) ([a, e] : List (List Rect))), (23, vi ((List.length ([a, e] : List (List Rect)) : Nat) : Int)), (24, vi (0 : Int))] [(7, AO (α := Int) ([] : List Int)), (8, AO (α := Int) ([] : List Int))] ⟨ALe.lst (.lit ([a, e] : List (List Rect)) (by kernel_rfl)), ⟨⟩⟩ ?_
  refine AW.block ?_
  refine Kn.r Fm [(0, AL a), (1, AL e), (2, vi q), (7, ow 7), (8, ow 8), (22, AL (α := (List Rect)) ([a, e] : List (List Rect))), (23, vi ((List.length ([a, e] : List (List Rect)) : Nat) : Int)), (24, vi (0 : Int))] [(7, AO (α := Int) ([] : List Int)), (8, AO (α := Int) ([] : List Int))] (by kernel_rfl) ?_
  refine Kn.frz [(0, AL a), (1, AL e), (2, vi q), (7, AL (α := Int) ([] : List Int)), (8, ow 8), (22, AL (α := (List Rect)) ([a, e] : List (List Rect))), (23, vi ((List.length ([a, e] : List (List Rect)) : Nat) : Int)), (24, vi (0 : Int))] [(8, AO (α := Int) ([] : List Int))] (by kernel_rfl) (by kernel_rfl) (by kernel_rfl) ?_
  refine Kn.r Fm [(0, AL a), (1, AL e), (2, vi q), (7, AL (α := Int) ([] : List Int)), (8, ow 8), (22, AL (α := (List Rect)) ([a, e] : List (List Rect))), (23, vi ((List.length ([a, e] : List (List Rect)) : Nat) : Int)), (24, vi (0 : Int))] [(8, AO (α := Int) ([] : List Int))] (by kernel_rfl) ?_
  refine Kn.frz [(0, AL a), (1, AL e), (2, vi q), (7, AL (α := Int) ([] : List Int)), (8, AL (α := Int) ([] : List Int)), (22, AL (α := (List Rect)) ([a, e] : List (List Rect))), (23, vi ((List.length ([a, e] : List (List Rect)) : Nat) : Int)), (24, vi (0 : Int))] [] (by kernel_rfl) (by kernel_rfl) (by kernel_rfl) ?_
  refine Kn.r Fm [(0, AL a), (1, AL e), (2, vi q), (7, AL ([] : List Int)), (8, AL ([] : List Int)), (22, AL (α := (List Rect)) ([a, e] : List (List Rect))), (23, vi ((List.length ([a, e] : List (List Rect)) : Nat) : Int)), (24, vi (0 : Int))] [] (by kernel_rfl) ?_
  refine AW.loopF (E' := fun z => [(0, AL a), (1, AL e), (2, vi q), (7, AL z.1), (8, AL z.2.1), (22, AL (α := (List Rect)) ([a, e] : List (List Rect))), (23, vi ((List.length ([a, e] : List (List Rect)) : Nat) : Int)), (24, vi z.2.2)]) (S' := fun z => []) (fun K0 z c2 L0 h => ?_) h
  obtain ⟨V, W, A⟩ := z
  refine AW.SG0 Fm 1 [(0, AL a), (1, AL e), (2, vi q), (7, AL V), (8, AL W), (22, AL (α := (List Rect)) ([a, e] : List (List Rect))), (23, vi ((List.length ([a, e] : List (List Rect)) : Nat) : Int)), (24, vi A), (25, vb (decide (A < ((List.length ([a, e] : List (List Rect)) : Nat) : Int))))] [] ?_
  refine AW.seq ?_
  refine AW.cond (b := (decide (A < ((List.length ([a, e] : List (List Rect)) : Nat) : Int)))) (by kernel_rfl) (fun b0 => ?_) (fun b0 => ?_)
  ·have h := br_t h b0
   refine AW.skip ?_
   refine AW.join (r := r) (fun z : (List Int) × (List Int) => ref04_Combine_k2 F A K0 z.1 z.2) (fun z => [(0, AL a), (1, AL e), (2, vi q), (7, AL z.1), (8, AL z.2), (22, AL (α := (List Rect)) ([a, e] : List (List Rect))), (23, vi ((List.length ([a, e] : List (List Rect)) : Nat) : Int)), (24, vi A)]) (fun z => []) (fun z h => ?_) (fun e2 N0 => ?_)
   ·obtain ⟨B0, D0⟩ := z
    obtain ⟨b1, h⟩ := gd_some h
    refine AW.G Fm [.s, .s] (fun K => (I64 (A + (1 : Int)) ∧ True) ∧ True) [(0, AL a), (1, AL e), (2, vi q), (7, AL B0), (8, AL D0), (22, AL (α := (List Rect)) ([a, e] : List (List Rect))), (23, vi ((List.length ([a, e] : List (List Rect)) : Nat) : Int)), (24, vi (A + (1 : Int)))] [] ⟨⟨b1, ⟨⟩⟩, ⟨⟩⟩ ?_
    exact Kn.R Fm (L0 (B0, D0, (A + (1 : Int))) h)
   ·refine AW.block ?_
    obtain ⟨Y0, h⟩ := gd_some h
    refine AW.SG Fm [.s, .s, .s] (fun K => _ ∧ True) [(0, AL a), (1, AL e), (2, vi q), (7, AL V), (8, AL W), (10, AL (α := Rect) (gl ([a, e] : List (List Rect)) A.toNat)), (22, AL (α := (List Rect)) ([a, e] : List (List Rect))), (23, vi ((List.length ([a, e] : List (List Rect)) : Nat) : Int)), (24, vi A)] [] ⟨Y0, ⟨⟩⟩ ?_
    refine AW.SG0 Fm 3 [(0, AL a), (1, AL e), (2, vi q), (7, AL V), (8, AL W), (22, AL (α := (List Rect)) ([a, e] : List (List Rect))), (23, vi ((List.length ([a, e] : List (List Rect)) : Nat) : Int)), (24, vi A), (28, AL (α := Rect) (gl ([a, e] : List (List Rect)) A.toNat)), (29, vi ((List.length (gl ([a, e] : List (List Rect)) A.toNat) : Nat) : Int)), (30, vi (0 : Int))] [] ?_
    refine AW.block ?_
    refine Kn.r Fm [(0, AL a), (1, AL e), (2, vi q), (7, AL V), (8, AL W), (22, AL (α := (List Rect)) ([a, e] : List (List Rect))), (23, vi ((List.length ([a, e] : List (List Rect)) : Nat) : Int)), (24, vi A), (28, AL (α := Rect) (gl ([a, e] : List (List Rect)) A.toNat)), (29, vi ((List.length (gl ([a, e] : List (List Rect)) A.toNat) : Nat) : Int)), (30, vi (0 : Int))] [] (by kernel_rfl) ?_
    refine AW.loopF (E' := fun z => [(0, AL a), (1, AL e), (2, vi q), (7, AL z.1), (8, AL z.2.1), (22, AL (α := (List Rect)) ([a, e] : List (List Rect))), (23, vi ((List.length ([a, e] : List (List Rect)) : Nat) : Int)), (24, vi A), (28, AL (α := Rect) (gl ([a, e] : List (List Rect)) A.toNat)), (29, vi ((List.length (gl ([a, e] : List (List Rect)) A.toNat) : Nat) : Int)), (30, vi z.2.2)]) (S' := fun z => []) (fun w2 z d2 M0 h => ?_) h
    obtain ⟨o0, p0, L⟩ := z
    refine AW.SG0 Fm 1 [(0, AL a), (1, AL e), (2, vi q), (7, AL o0), (8, AL p0), (22, AL (α := (List Rect)) ([a, e] : List (List Rect))), (23, vi ((List.length ([a, e] : List (List Rect)) : Nat) : Int)), (24, vi A), (28, AL (α := Rect) (gl ([a, e] : List (List Rect)) A.toNat)), (29, vi ((List.length (gl ([a, e] : List (List Rect)) A.toNat) : Nat) : Int)), (30, vi L), (31, vb (decide (L < ((List.length (gl ([a, e] : List (List Rect)) A.toNat) : Nat) : Int))))] [] ?_
    refine AW.seq ?_
    refine AW.cond (b := (decide (L < ((List.length (gl ([a, e] : List (List Rect)) A.toNat) : Nat) : Int)))) (by kernel_rfl) (fun c0 => ?_) (fun c0 => ?_)
    ·have h := br_t h c0
     refine AW.skip ?_
     refine AW.seq ?_
     refine AW.block ?_
     obtain ⟨Z0, h⟩ := gd_some h
     refine AW.SG Fm [.s, .s, .s, .s] (fun K => _ ∧ True) [(0, AL a), (1, AL e), (2, vi q), (7, AL o0), (8, AL p0), (12, pt 12), (22, AL (α := (List Rect)) ([a, e] : List (List Rect))), (23, vi ((List.length ([a, e] : List (List Rect)) : Nat) : Int)), (24, vi A), (28, AL (α := Rect) (gl ([a, e] : List (List Rect)) A.toNat)), (29, vi ((List.length (gl ([a, e] : List (List Rect)) A.toNat) : Nat) : Int)), (30, vi L)] [(12, bx [ci ((gl (gl ([a, e] : List (List Rect)) A.toNat) L.toNat).left_), ci ((gl (gl ([a, e] : List (List Rect)) A.toNat) L.toNat).low_), ci ((gl (gl ([a, e] : List (List Rect)) A.toNat) L.toNat).right_), ci ((gl (gl ([a, e] : List (List Rect)) A.toNat) L.toNat).high_)])] ⟨Z0, ⟨⟩⟩ ?_
     obtain ⟨Y1, M1, h⟩ := bd_some h
     obtain ⟨X, N1, h⟩ := bd_some h
     obtain ⟨Z1, O1, h⟩ := bd_some h
     obtain ⟨Y, P1, h⟩ := bd_some h
     refine AW.G Fm [.s, .s, .s, .k (cE [] [] (AL Y1) [] []), .s, .s, .k (cE [] [] (AL X) [] []), .s, .s, .s, .k (cE [] [] (AL Z1) [] []), .s, .s, .k (cE [] [] (AL Y) [] []), .s, .s] (fun K => K 3 ∧ K 6 ∧ K 10 ∧ K 13 ∧ True) [(0, AL a), (1, AL e), (2, vi q), (7, AL X), (8, AL Y), (22, AL (α := (List Rect)) ([a, e] : List (List Rect))), (23, vi ((List.length ([a, e] : List (List Rect)) : Nat) : Int)), (24, vi A), (28, AL (α := Rect) (gl ([a, e] : List (List Rect)) A.toNat)), (29, vi ((List.length (gl ([a, e] : List (List Rect)) A.toNat) : Nat) : Int)), (30, vi L)] [] ⟨KAt.CC (ref01_Put_spec M1) Try.call74 [], KAt.CC (ref01_Put_spec N1) Try.call74 [], KAt.CC (ref01_Put_spec O1) Try.call74 [], KAt.CC (ref01_Put_spec P1) Try.call74 [], ⟨⟩⟩ ?_
     obtain ⟨a1, h⟩ := gd_some h
     refine AW.G Fm [.s, .s] (fun K => (I64 (L + (1 : Int)) ∧ True) ∧ True) [(0, AL a), (1, AL e), (2, vi q), (7, AL X), (8, AL Y), (22, AL (α := (List Rect)) ([a, e] : List (List Rect))), (23, vi ((List.length ([a, e] : List (List Rect)) : Nat) : Int)), (24, vi A), (28, AL (α := Rect) (gl ([a, e] : List (List Rect)) A.toNat)), (29, vi ((List.length (gl ([a, e] : List (List Rect)) A.toNat) : Nat) : Int)), (30, vi (L + (1 : Int)))] [] ⟨⟨a1, ⟨⟩⟩, ⟨⟩⟩ ?_
     exact Kn.R Fm (M0 (X, Y, (L + (1 : Int))) h)
    ·have h := br_f h c0
     refine AW.exit ?_
     exact Kn.R Fm (N0 (o0, p0) h)
  ·have h := br_f h b0
   refine AW.exit ?_
   exact Kn.R Fm (O0 (V, W) h)
theorem ref04_Bound_spec {F : Nat} {a : (List Rect)} {r : Region × Int} (h : ref04_Bound F a = some r) :
  FSpec Try.prog 78 [AL a] [] (.t [.g [.d (DL (α := Rect) r.1.rects_)], .c (ci r.2)]) [] := by
 refine FSpec.intro prog_mixed prog_lay Try.func78 rfl (by kernel_rfl) fun C Fm => ?_
 unfold ref04_Bound at h
 refine AW.SG0 Fm 2 [(0, AL a), (2, pt 2)] [(2, bx [.fl 0 fun _ => []])] ?_
 refine AW.seq ?_
 refine AW.SG0 Fm 3 [(0, AL a), (2, pt 2), (6, vb (decide ((120 : Int) < ((List.length a : Nat) : Int))))] [(2, bx [.fl 0 fun _ => []])] ?_
 refine AW.cond (b := (decide ((120 : Int) < ((List.length a : Nat) : Int)))) (by kernel_rfl) (fun e => ?_) (fun e => ?_)
 ·have h := br_t h e
  refine AW.SG Fm [.w (.v (.g [.d (DL (α := Rect) [])])), .s, .s] (fun K => (ALe (.v (.g [.fl 0 fun _ => []])) (.v (.g [.d (DL (α := Rect) [])]))) ∧ True) [(2, pt 2), (3, vi (1 : Int))] [(2, bx [.d (DL (α := Rect) [])])] ⟨ALe.g ⟨CLe.fl .nil, ⟨⟩⟩, ⟨⟩⟩ ?_
  refine AW.ret ?_
  obtain rfl := Option.some.inj h
  exact Kn.D Fm
 ·have h := br_f h e
  refine AW.skip ?_
  refine AW.SG0 Fm 4 [(2, pt 2), (3, vi (0 : Int))] [(2, bx [.d (DL a)])] ?_
  refine AW.ret ?_
  obtain rfl := Option.some.inj h
  exact Kn.D Fm
theorem ref04_Of_spec {F : Nat} {a : (List Rect)} {r : Region × Int} (h : ref04_Of F a = some r) :
  FSpec Try.prog 57 [AL a] [] (.t [.g [.d (DL (α := Rect) r.1.rects_)], .c (ci r.2)]) [] := by
 refine FSpec.intro prog_mixed prog_lay Try.func57 rfl (by kernel_rfl) fun C Fm => ?_
 unfold ref04_Of at h
 refine AW.SG0 Fm 2 [(0, AL a), (2, pt 2)] [(2, bx [.fl 0 fun _ => []])] ?_
 refine AW.seq ?_
 refine AW.SG0 Fm 3 [(0, AL a), (2, pt 2), (8, vb (decide ((120 : Int) < ((List.length a : Nat) : Int))))] [(2, bx [.fl 0 fun _ => []])] ?_
 refine AW.cond (b := (decide ((120 : Int) < ((List.length a : Nat) : Int)))) (by kernel_rfl) (fun j => ?_) (fun j => ?_)
 ·have h := br_t h j
  refine AW.SG Fm [.w (.v (.g [.d (DL (α := Rect) [])])), .s, .s] (fun K => (ALe (.v (.g [.fl 0 fun _ => []])) (.v (.g [.d (DL (α := Rect) [])]))) ∧ True) [(2, pt 2), (3, vi (1 : Int))] [(2, bx [.d (DL (α := Rect) [])])] ⟨ALe.g ⟨CLe.fl .nil, ⟨⟩⟩, ⟨⟩⟩ ?_
  refine AW.ret ?_
  obtain rfl := Option.some.inj h
  exact Kn.D Fm
 ·have h := br_f h j
  refine AW.skip ?_
  refine AW.join (r := r) (fun z : Unit => ref04_Of_k1 F a) (fun z => [(0, AL a), (2, pt 2)]) (fun z => [(2, bx [.fl 0 fun _ => []])]) (fun z h => ?_) (fun L q => ?_)
  ·refine AW.seq ?_
   obtain ⟨H, B, h⟩ := bd_some h
   obtain ⟨i, E, h⟩ := bd_some h
   refine AW.G Fm [.s, .k (cE [] [] (AL H) [] []), .k (cE [] [] (.t [.g [.d (DL i.1.rects_)], .c (ci i.2)]) [] []), .s, .s, .s, .s] (fun K => K 1 ∧ K 2 ∧ True) [(2, pt 2), (3, vi i.2)] [(2, bx [.d (DL i.1.rects_)])] ⟨KAt.callX (ref04_Combine_spec B) Try.call56 [] [] [.tmp 21, .const (.slice none 0 0), .const (.int .i64 1)] rfl (by kernel_rfl) (by kernel_rfl) (by kernel_rfl) ⟨.p, ArgT.plain (by kernel_rfl) (ALe.c (CLe.fl .nil)) (by kernel_rfl), .p, ⟨⟩⟩, KAt.CC (ref04_Bound_spec E) Try.call78 [], ⟨⟩⟩ ?_
   refine AW.ret ?_
   obtain rfl := Option.some.inj h
   exact Kn.D Fm
  ·refine AW.SG0 Fm 3 [(0, AL a), (2, pt 2), (10, AL a), (11, vi ((List.length a : Nat) : Int)), (12, vi (0 : Int))] [(2, bx [.fl 0 fun _ => []])] ?_
   refine AW.block ?_
   refine Kn.r Fm [(0, AL a), (2, pt 2), (10, AL a), (11, vi ((List.length a : Nat) : Int)), (12, vi (0 : Int))] [(2, bx [.fl 0 fun _ => []])] (by kernel_rfl) ?_
   refine AW.loopF (E' := fun z => [(0, AL a), (2, pt 2), (10, AL a), (11, vi ((List.length a : Nat) : Int)), (12, vi z)]) (S' := fun z => [(2, bx [.fl 0 fun _ => []])]) (fun M e I o h => ?_) h
   refine AW.SG0 Fm 1 [(0, AL a), (2, pt 2), (10, AL a), (11, vi ((List.length a : Nat) : Int)), (12, vi e), (13, vb (decide (e < ((List.length a : Nat) : Int))))] [(2, bx [.fl 0 fun _ => []])] ?_
   refine AW.seq ?_
   refine AW.cond (b := (decide (e < ((List.length a : Nat) : Int)))) (by kernel_rfl) (fun l => ?_) (fun l => ?_)
   ·have h := br_t h l
    refine AW.skip ?_
    refine AW.seq ?_
    refine AW.block ?_
    obtain ⟨u, h⟩ := gd_some h
    refine AW.SG Fm [.s, .s, .s, .s] (fun K => _ ∧ True) [(0, AL a), (2, pt 2), (5, pt 5), (10, AL a), (11, vi ((List.length a : Nat) : Int)), (12, vi e)] [(2, bx [.fl 0 fun _ => []]), (5, bx [ci ((gl a e.toNat).left_), ci ((gl a e.toNat).low_), ci ((gl a e.toNat).right_), ci ((gl a e.toNat).high_)])] ⟨u, ⟨⟩⟩ ?_
    refine AW.seq ?_
    obtain ⟨n, A, h⟩ := bd_some h
    refine AW.G Fm [.s, .k (cE [] [] (vb n) [] []), .s] (fun K => K 1 ∧ True) [(0, AL a), (2, pt 2), (10, AL a), (11, vi ((List.length a : Nat) : Int)), (12, vi e), (18, vb (!n))] [(2, bx [.fl 0 fun _ => []])] ⟨KAt.CC (ref04_proper_spec A) Try.call55 [], ⟨⟩⟩ ?_
    refine AW.cond (b := (!n)) (by kernel_rfl) (fun m => ?_) (fun m => ?_)
    ·have h := br_t h m
     refine AW.SG Fm [.w (.v (.g [.d (DL (α := Rect) [])])), .s, .s] (fun K => (ALe (.v (.g [.fl 0 fun _ => []])) (.v (.g [.d (DL (α := Rect) [])]))) ∧ True) [(2, pt 2), (3, vi (2 : Int))] [(2, bx [.d (DL (α := Rect) [])])] ⟨ALe.g ⟨CLe.fl .nil, ⟨⟩⟩, ⟨⟩⟩ ?_
     refine AW.ret ?_
     obtain rfl := Option.some.inj h
     exact Kn.D Fm
    ·have h := br_f h m
     refine AW.skip ?_
     obtain ⟨y, h⟩ := gd_some h
     refine AW.G Fm [.s, .s] (fun K => (I64 (e + (1 : Int)) ∧ True) ∧ True) [(0, AL a), (2, pt 2), (10, AL a), (11, vi ((List.length a : Nat) : Int)), (12, vi (e + (1 : Int)))] [(2, bx [.fl 0 fun _ => []])] ⟨⟨y, ⟨⟩⟩, ⟨⟩⟩ ?_
     exact Kn.R Fm (o (e + (1 : Int)) h)
   ·have h := br_f h l
    refine AW.exit ?_
    exact Kn.R Fm (q () h)
theorem keep_Tape_Region_spec {F : Nat} {o : Tape} {e : Int} {p : Int} {r : Tape × Region} (h : keep_Tape_Region F o e p = some r) :
  FSpec Try.prog 43 [pt 0, vi e, vi p] [(0, bx (gC o))] (.v (.g [.d (DL (α := Rect) r.2.rects_)])) [(0, bx (gC r.1))] := by
 refine FSpec.intro prog_mixed prog_lay Try.func43 rfl (by kernel_rfl) fun C Fm => ?_
 unfold keep_Tape_Region at h
 refine AW.SG0 Fm 1 [(0, pt 0), (1, vi e), (2, vi p), (6, pt 6)] [(0, bx (gC o)), (6, bx [.fl 0 fun _ => []])] ?_
 refine AW.SG Fm [.m] (fun K => True) [(0, pt 0), (1, vi e), (2, vi p), (6, pt 6), (7, ow 7)] [(0, bx (gC o)), (6, bx [.fl 0 fun _ => []]), (7, .arr 4 (0) (fun _ => []))] True.intro ?_
 refine Kn.wk [(0, pt 0), (1, vi e), (2, vi p), (6, pt 6), (7, ow 7)] [(0, bx (gC o)), (6, bx [.fl 0 fun _ => []]), (7, AO (α := Rect) ([] : List Rect))] (FE.refl _) (⟨rfl, OLe.refl _, ⟨rfl, OLe.refl _, ⟨rfl, OLe.is ((Is.nil (α := Rect))), ⟨⟩⟩⟩⟩) ?_
 refine AW.join (r := r) (fun z : (List Rect) × (List Int) × Int => keep_Tape_Region_k1 F z.1 z.2.1 z.2.2) (fun z => [(6, pt 6), (7, ow 7)]) (fun z => [(0, bx [.d (DL z.2.1), ci z.2.2]), (6, bx [.fl 0 fun _ => []]), (7, AO z.1)]) (fun z h => ?_) (fun W L => ?_)
 ·obtain ⟨H, y, A⟩ := z
  refine AW.seq ?_
  refine Kn.r Fm [(6, pt 6), (7, ow 7)] [(7, AO H), (0, bx [.d (DL y), ci A]), (6, bx [.fl 0 fun _ => []])] (by kernel_rfl) ?_
  refine Kn.frz [(6, pt 6), (7, AL H)] [(0, bx [.d (DL y), ci A]), (6, bx [.fl 0 fun _ => []])] (by kernel_rfl) (by kernel_rfl) (by kernel_rfl) ?_
  obtain ⟨B, U, h⟩ := bd_some h
  refine AW.G Fm [.s, .k (cE [] [] (.t [.g [.d (DL B.1.rects_)], .c (ci B.2)]) [] []), .s, .s, .s, .s, .s, .s] (fun K => K 1 ∧ True) [(6, pt 6), (9, pt 9)] [(0, bx [.d (DL y), ci A]), (6, bx [.fl 0 fun _ => []]), (9, bx [.d (DL B.1.rects_)])] ⟨KAt.CC (ref04_Of_spec U) Try.call57 [], ⟨⟩⟩ ?_
  refine AW.SG0 Fm 2 [(6, pt 6)] [(0, bx [.d (DL y), ci A]), (6, bx [.d (DL B.1.rects_)])] ?_
  refine AW.ret ?_
  obtain rfl := Option.some.inj h
  exact Kn.D Fm
 ·refine AW.seq ?_
  obtain ⟨M, h⟩ := gd_some h
  obtain ⟨n, P, h⟩ := bd_some h
  refine AW.G Fm [.s, .s, .s, .k (cE [(0, 0)] [] (vi n.2) [(0, bx (gC o))] [(0, bx (gC n.1))]), .s] (fun K => (I64 (p + (1 : Int)) ∧ True) ∧ K 3 ∧ True) [(0, pt 0), (1, vi e), (6, pt 6), (7, ow 7), (8, vi n.2)] [(0, bx (gC n.1)), (6, bx [.fl 0 fun _ => []]), (7, AO (α := Rect) ([] : List Rect))] ⟨⟨M, ⟨⟩⟩, KAt.CC (keep_Tape_Next_spec P) Try.call14 [(0, 0)], ⟨⟩⟩ ?_
  refine AW.block ?_
  refine Kn.r Fm [(0, pt 0), (1, vi e), (6, pt 6), (7, ow 7), (8, vi n.2)] [(0, bx [.d (DL n.1.l_), ci n.1.at_]), (6, bx [.fl 0 fun _ => []]), (7, AO ([] : List Rect))] (by kernel_rfl) ?_
  refine AW.loopF (E' := fun z => [(0, pt 0), (1, vi e), (6, pt 6), (7, ow 7), (8, vi z.1)]) (S' := fun z => [(0, bx [.d (DL z.2.1), ci z.2.2.1]), (6, bx [.fl 0 fun _ => []]), (7, AO z.2.2.2)]) (fun X z V I h => ?_) h
  obtain ⟨l, q, u, i⟩ := z
  refine AW.seq ?_
  refine AW.SG0 Fm 2 [(0, pt 0), (1, vi e), (6, pt 6), (7, ow 7), (8, vi l), (16, vb (decide ((0 : Int) < l)))] [(0, bx [.d (DL q), ci u]), (6, bx [.fl 0 fun _ => []]), (7, AO i)] ?_
  refine AW.cond (b := (decide ((0 : Int) < l))) (by kernel_rfl) (fun E => ?_) (fun E => ?_)
  ·have h := br_t h E
   refine AW.skip ?_
   refine AW.seq ?_
   refine AW.block ?_
   obtain ⟨a, T, h⟩ := bd_some h
   obtain ⟨N, h⟩ := gd_some h
   refine AW.G Fm [.s, .s, .s, .k (cE [(0, 0)] [] (gE a.2) [(0, bx [.d (DL (α := Int) (⟨q, u⟩ : Tape).l_), ci ((⟨q, u⟩ : Tape).at_)])] [(0, bx (gC a.1))]), .w (AL (α := Rect) ([a.2] : List Rect)), .s, .s] (fun K => K 3 ∧ (ALe (.v (.c (.d (.lst 1 (litF 4 [.int .i64 a.2.left_, .int .i64 a.2.low_, .int .i64 a.2.right_, .int .i64 a.2.high_]))))) (AL (α := Rect) ([a.2] : List Rect))) ∧ ((List.length (α := Rect) i) + (List.length (α := Rect) ([a.2] : List Rect)) ≤ LIM ∧ (∀ j, j < List.length (α := Rect) ([a.2] : List Rect) → ((LF (α := Rect) ([a.2] : List Rect)) j).length = 4) ∧ (True)) ∧ True) [(0, pt 0), (1, vi e), (6, pt 6), (7, ow 24), (8, vi l)] [(0, bx (gC a.1)), (6, bx [.fl 0 fun _ => []]), (24, .arr 4 ((List.length (α := Rect) i) + (List.length (α := Rect) ([a.2] : List Rect))) (appF (List.length (α := Rect) i) (LF (α := Rect) i) (LF (α := Rect) ([a.2] : List Rect))))] ⟨KAt.CC (keep_Tape_Rect_spec T) Try.call44 [(0, 0)], ALe.lst (.lit ([a.2] : List Rect) (by kernel_rfl)), ⟨N, (Is.refl ([a.2] : List Rect) : Is (List.length (α := Rect) ([a.2] : List Rect)) (LF (α := Rect) ([a.2] : List Rect)) ([a.2] : List Rect)).len, ⟨⟩⟩, ⟨⟩⟩ ?_
   refine Kn.wk [(0, pt 0), (1, vi e), (6, pt 6), (7, ow 24), (8, vi l)] [(0, bx (gC a.1)), (6, bx [.fl 0 fun _ => []]), (24, AO (α := Rect) (i ++ ([a.2] : List Rect)))] (FE.refl _) (⟨rfl, OLe.refl _, ⟨rfl, OLe.refl _, ⟨rfl, OLe.is (Is.app (Is.refl i) (Is.refl ([a.2] : List Rect))), ⟨⟩⟩⟩⟩) ?_
   obtain ⟨O, h⟩ := gd_some h
   refine AW.G Fm [.s, .s, .s] (fun K => (I64 (l - (1 : Int)) ∧ True) ∧ True) [(0, pt 0), (1, vi e), (6, pt 6), (7, ow 24), (8, vi (l - (1 : Int)))] [(0, bx (gC a.1)), (6, bx [.fl 0 fun _ => []]), (24, AO (α := Rect) (i ++ ([a.2] : List Rect)))] ⟨⟨O, ⟨⟩⟩, ⟨⟩⟩ ?_
   exact Kn.RE Fm [(7, 24)] (I ((l - (1 : Int)), a.1.l_, a.1.at_, (i ++ ([a.2] : List Rect))) h)
  ·have h := br_f h E
   refine AW.exit ?_
   exact Kn.R Fm (L (i, q, u) h)
theorem keep_Tape_Land_spec {F : Nat} {j : Tape} {i : Int} {m : Int} {r : Tape × Region} (h : keep_Tape_Land F j i m = some r) :
  FSpec Try.prog 33 [pt 0, vi i, vi m] [(0, bx (gC j))] (.v (.g [.d (DL (α := Rect) r.2.rects_)])) [(0, bx (gC r.1))] := by
 refine FSpec.intro prog_mixed prog_lay Try.func33 rfl (by kernel_rfl) fun C Fm => ?_
 unfold keep_Tape_Land at h
 refine AW.SG0 Fm 1 [(0, pt 0), (1, vi i), (2, vi m), (6, pt 6)] [(0, bx (gC j)), (6, bx [.fl 0 fun _ => []])] ?_
 refine AW.seq ?_
 obtain ⟨e, o, h⟩ := bd_some h
 refine AW.G Fm [.s, .s, .s, .k (cE [(0, 0)] [] (.v (.g [.d (DL e.2.rects_)])) [(0, bx (gC j))] [(0, bx (gC e.1))]), .s, .s] (fun K => K 3 ∧ True) [(0, pt 0), (1, vi i), (6, pt 6), (7, pt 7)] [(0, bx (gC e.1)), (6, bx [.fl 0 fun _ => []]), (7, bx [.d (DL e.2.rects_)])] ⟨KAt.CC (keep_Tape_Region_spec o) Try.call43 [(0, 0)], ⟨⟩⟩ ?_
 refine AW.join (r := r) (fun z : (List Rect) × (List Int) × Int => keep_Tape_Land_k0 F z.1 z.2.1 z.2.2) (fun z => [(6, pt 6), (7, pt 7)]) (fun z => [(0, bx [.d (DL z.2.1), ci z.2.2]), (6, bx [.fl 0 fun _ => []]), (7, bx [.d (DL z.1)])]) (fun z h => ?_) (fun y n => ?_)
 ·obtain ⟨q, t, u⟩ := z
  refine AW.SG0 Fm 2 [(6, pt 6)] [(0, bx [.d (DL t), ci u]), (6, bx [.d (DL q)])] ?_
  refine AW.ret ?_
  obtain rfl := Option.some.inj h
  exact Kn.D Fm
 ·refine AW.SG0 Fm 4 [(0, pt 0), (1, vi i), (6, pt 6), (7, pt 7), (15, vb (((List.length e.2.rects_ : Nat) : Int) == (0 : Int)))] [(0, bx (gC e.1)), (6, bx [.fl 0 fun _ => []]), (7, bx [.d (DL e.2.rects_)])] ?_
  refine AW.cond (b := (((List.length e.2.rects_ : Nat) : Int) == (0 : Int))) (by kernel_rfl) (fun l => ?_) (fun l => ?_)
  ·have h := br_t h l
   obtain ⟨a, p, h⟩ := bd_some h
   refine AW.G Fm [.s, .s, .k (cE [(0, 0)] [] (gE a.2) [(0, bx (gC e.1))] [(0, bx (gC a.1))]), .w (AL (α := Rect) ([a.2] : List Rect)), .s, .s] (fun K => K 2 ∧ (ALe (.v (.c (.d (.lst 1 (litF 4 [.int .i64 a.2.left_, .int .i64 a.2.low_, .int .i64 a.2.right_, .int .i64 a.2.high_]))))) (AL (α := Rect) ([a.2] : List Rect))) ∧ True) [(6, pt 6), (7, pt 7)] [(0, bx (gC a.1)), (6, bx [.fl 0 fun _ => []]), (7, bx [.d (DL (α := Rect) ([a.2] : List Rect))])] ⟨KAt.CC (keep_Tape_Rect_spec p) Try.call44 [(0, 0)], ALe.lst (.lit ([a.2] : List Rect) (by kernel_rfl)), ⟨⟩⟩ ?_
   exact Kn.R Fm (n (([a.2] : List Rect), a.1.l_, a.1.at_) h)
  ·have h := br_f h l
   refine AW.skip ?_
   exact Kn.R Fm (n (e.2.rects_, e.1.l_, e.1.at_) h)
theorem keep_Tape_Feature_spec {F : Nat} {e : Tape} {b : Int} {r : Tape × Feature} (h : keep_Tape_Feature F e b = some r) :
  FSpec Try.prog 16 [pt 0, vi b] [(0, bx (gC e))] (gE r.2) [(0, bx (gC r.1))] := by
 refine FSpec.intro prog_mixed prog_lay Try.func16 rfl (by kernel_rfl) fun C Fm => ?_
 unfold keep_Tape_Feature at h
 refine AW.SG0 Fm 1 [(0, pt 0), (1, vi b), (4, pt 4)] [(0, bx (gC e)), (4, bx [ci 0, ci 0, ci 0, ci 0, .fl 0 fun _ => []])] ?_
 refine AW.seq ?_
 obtain ⟨a, m, h⟩ := bd_some h
 refine AW.G Fm [.s, .k (cE [(0, 0)] [] (vi a.2) [(0, bx (gC e))] [(0, bx (gC a.1))]), .s] (fun K => K 1 ∧ True) [(0, pt 0), (1, vi b), (4, pt 4), (5, vi a.2)] [(0, bx (gC a.1)), (4, bx [ci 0, ci 0, ci 0, ci 0, .fl 0 fun _ => []])] ⟨KAt.CC (keep_Tape_Next_spec m) Try.call14 [(0, 0)], ⟨⟩⟩ ?_
 refine AW.seq ?_
 obtain ⟨i, n, h⟩ := bd_some h
 obtain ⟨c, o, h⟩ := bd_some h
 obtain ⟨l, h⟩ := gd_some h
 obtain ⟨j, p, h⟩ := bd_some h
 refine AW.G Fm [.s, .s, .k (cE [(0, 0)] [] (vi i.2) [(0, bx (gC a.1))] [(0, bx (gC i.1))]), .s, .s, .s, .k (cE [(0, 0)] [] (vi c.2) [(0, bx (gC i.1))] [(0, bx (gC c.1))]), .s, .s, .k (cE [(0, 0)] [] (.v (.g [.d (DL j.2.rects_)])) [(0, bx (gC c.1))] [(0, bx (gC j.1))]), .s, .s] (fun K => K 2 ∧ K 6 ∧ (I64 (a.2 + c.2) ∧ True) ∧ K 9 ∧ True) [(4, pt 4)] [(0, bx (gC j.1)), (4, bx [ci b, ci i.2, ci a.2, ci (a.2 + c.2), .d (DL j.2.rects_)])] ⟨KAt.CC (keep_Tape_Next_spec n) Try.call14 [(0, 0)], KAt.CC (keep_Tape_Range_spec o) Try.call17 [(0, 0)], ⟨l, ⟨⟩⟩, KAt.CC (keep_Tape_Land_spec p) Try.call33 [(0, 0)], ⟨⟩⟩ ?_
 refine AW.ret ?_
 obtain rfl := Option.some.inj h
 exact Kn.D Fm
theorem ref04_Rects_spec {F : Nat} {c : (List Rect)} {d : (List Rect)} {r : Bool} (h : ref04_Rects F c d = some r) :
  FSpec Try.prog 38 [AL c, AL d] [] (vb r) [] := by
 refine FSpec.intro prog_mixed prog_lay Try.func38 rfl (by kernel_rfl) fun C Fm => ?_
 unfold ref04_Rects at h
 refine AW.SG0 Fm 1 [(0, AL c), (1, AL d)] [] ?_
 refine AW.seq ?_
 refine AW.SG0 Fm 5 [(0, AL c), (1, AL d), (10, vb (((List.length c : Nat) : Int) != ((List.length d : Nat) : Int)))] [] ?_
 refine AW.cond (b := (((List.length c : Nat) : Int) != ((List.length d : Nat) : Int))) (by kernel_rfl) (fun e => ?_) (fun e => ?_)
 ·have h := br_t h e
  refine AW.SG0 Fm 1 [(4, vb false)] [] ?_
  refine AW.ret ?_
  obtain rfl := Option.some.inj h
  exact Kn.D Fm
 ·have h := br_f h e
  refine AW.skip ?_
  refine AW.join (r := r) (fun z : Unit => ref04_Rects_k1 F) (fun z => []) (fun z => []) (fun z h => ?_) (fun t m => ?_)
  ·refine AW.SG0 Fm 1 [(4, vb true)] [] ?_
   refine AW.ret ?_
   obtain rfl := Option.some.inj h
   exact Kn.D Fm
  ·refine AW.SG0 Fm 3 [(0, AL c), (1, AL d), (12, vi ((List.length c : Nat) : Int)), (13, vi (0 : Int))] [] ?_
   refine AW.block ?_
   refine Kn.r Fm [(0, AL c), (1, AL d), (12, vi ((List.length c : Nat) : Int)), (13, vi (0 : Int))] [] (by kernel_rfl) ?_
   refine AW.loopF (E' := fun z => [(0, AL c), (1, AL d), (12, vi ((List.length c : Nat) : Int)), (13, vi z)]) (S' := fun z => []) (fun u a q l h => ?_) h
   refine AW.SG0 Fm 1 [(0, AL c), (1, AL d), (12, vi ((List.length c : Nat) : Int)), (13, vi a), (14, vb (decide (a < ((List.length c : Nat) : Int))))] [] ?_
   refine AW.seq ?_
   refine AW.cond (b := (decide (a < ((List.length c : Nat) : Int)))) (by kernel_rfl) (fun i => ?_) (fun i => ?_)
   ·have h := br_t h i
    refine AW.skip ?_
    refine AW.seq ?_
    refine AW.block ?_
    refine AW.SG0 Fm 2 [(0, AL c), (1, AL d), (5, vi a), (12, vi ((List.length c : Nat) : Int)), (13, vi a)] [] ?_
    obtain ⟨n, h⟩ := gd_some h
    obtain ⟨o, h⟩ := gd_some h
    refine AW.SG Fm [.s, .s, .s, .s, .s, .s, .s, .s, .k (sE (vb (!((((gl c a.toNat).left_) == ((gl d a.toNat).left_)) && ((((gl c a.toNat).low_) == ((gl d a.toNat).low_)) && ((((gl c a.toNat).right_) == ((gl d a.toNat).right_)) && ((((gl c a.toNat).high_) == ((gl d a.toNat).high_)) && true)))))))] (fun K => _ ∧ _ ∧ K 8 ∧ True) [(0, AL c), (1, AL d), (12, vi ((List.length c : Nat) : Int)), (13, vi a), (24, vb (!((((gl c a.toNat).left_) == ((gl d a.toNat).left_)) && ((((gl c a.toNat).low_) == ((gl d a.toNat).low_)) && ((((gl c a.toNat).right_) == ((gl d a.toNat).right_)) && ((((gl c a.toNat).high_) == ((gl d a.toNat).high_)) && true))))))] [] ⟨n, o, KAt.eq (xs := [ci ((gl c a.toNat).left_), ci ((gl c a.toNat).low_), ci ((gl c a.toNat).right_), ci ((gl c a.toNat).high_)]) (ys := [ci ((gl d a.toNat).left_), ci ((gl d a.toNat).low_), ci ((gl d a.toNat).right_), ci ((gl d a.toNat).high_)]) eqT51 false (b := ((((gl c a.toNat).left_) == ((gl d a.toNat).left_)) && ((((gl c a.toNat).low_) == ((gl d a.toNat).low_)) && ((((gl c a.toNat).right_) == ((gl d a.toNat).right_)) && ((((gl c a.toNat).high_) == ((gl d a.toNat).high_)) && true))))) rfl rfl (by kernel_rfl) (by kernel_rfl) (by kernel_rfl) (by kernel_rfl), ⟨⟩⟩ ?_
    refine AW.cond (b := (!((((gl c a.toNat).left_) == ((gl d a.toNat).left_)) && ((((gl c a.toNat).low_) == ((gl d a.toNat).low_)) && ((((gl c a.toNat).right_) == ((gl d a.toNat).right_)) && ((((gl c a.toNat).high_) == ((gl d a.toNat).high_)) && true)))))) (by kernel_rfl) (fun j => ?_) (fun j => ?_)
    ·have h := br_t h j
     refine AW.SG0 Fm 1 [(4, vb false)] [] ?_
     refine AW.ret ?_
     obtain rfl := Option.some.inj h
     exact Kn.D Fm
    ·have h := br_f h j
     refine AW.skip ?_
     obtain ⟨p, h⟩ := gd_some h
     refine AW.G Fm [.s, .s] (fun K => (I64 (a + (1 : Int)) ∧ True) ∧ True) [(0, AL c), (1, AL d), (12, vi ((List.length c : Nat) : Int)), (13, vi (a + (1 : Int)))] [] ⟨⟨p, ⟨⟩⟩, ⟨⟩⟩ ?_
     exact Kn.R Fm (l (a + (1 : Int)) h)
   ·have h := br_f h i
    refine AW.exit ?_
    exact Kn.R Fm (m () h)
theorem ref04_Valid_spec {F : Nat} {a : Region} {r : Bool} (h : ref04_Valid F a = some r) :
  FSpec Try.prog 42 [.v (.g [.d (DL a.rects_)])] [] (vb r) [] := by
 refine FSpec.intro prog_mixed prog_lay Try.func42 rfl (by kernel_rfl) fun C Fm => ?_
 unfold ref04_Valid at h
 refine AW.SG0 Fm 2 [(1, pt 1)] [(1, bx [.d (DL a.rects_)])] ?_
 refine AW.seq ?_
 refine AW.SG0 Fm 4 [(1, pt 1), (8, vb (decide ((120 : Int) < ((List.length a.rects_ : Nat) : Int))))] [(1, bx [.d (DL a.rects_)])] ?_
 refine AW.cond (b := (decide ((120 : Int) < ((List.length a.rects_ : Nat) : Int)))) (by kernel_rfl) (fun i => ?_) (fun i => ?_)
 ·have h := br_t h i
  refine AW.SG0 Fm 1 [(2, vb false)] [] ?_
  refine AW.ret ?_
  obtain rfl := Option.some.inj h
  exact Kn.D Fm
 ·have h := br_f h i
  refine AW.skip ?_
  refine AW.join (r := r) (fun z : Unit => ref04_Valid_k1 F a) (fun z => [(1, pt 1)]) (fun z => [(1, bx [.d (DL a.rects_)])]) (fun z h => ?_) (fun H q => ?_)
  ·refine AW.seq ?_
   obtain ⟨B, y, h⟩ := bd_some h
   obtain ⟨n, A, h⟩ := bd_some h
   refine AW.G Fm [.s, .s, .k (cE [] [] (AL B) [] []), .s, .s, .k (cE [] [] (vb n) [] []), .s] (fun K => K 2 ∧ K 5 ∧ True) [(2, vb n)] [] ⟨KAt.callX (ref04_Combine_spec y) Try.call56 [] [] [.tmp 21, .const (.slice none 0 0), .const (.int .i64 1)] rfl (by kernel_rfl) (by kernel_rfl) (by kernel_rfl) ⟨.p, ArgT.plain (by kernel_rfl) (ALe.c (CLe.fl .nil)) (by kernel_rfl), .p, ⟨⟩⟩, KAt.CC (ref04_Rects_spec A) Try.call38 [], ⟨⟩⟩ ?_
   refine AW.ret ?_
   obtain rfl := Option.some.inj h
   exact Kn.D Fm
  ·refine AW.SG0 Fm 4 [(1, pt 1), (10, AL a.rects_), (11, vi ((List.length a.rects_ : Nat) : Int)), (12, vi (0 : Int))] [(1, bx [.d (DL a.rects_)])] ?_
   refine AW.block ?_
   refine Kn.r Fm [(1, pt 1), (10, AL a.rects_), (11, vi ((List.length a.rects_ : Nat) : Int)), (12, vi (0 : Int))] [(1, bx [.d (DL a.rects_)])] (by kernel_rfl) ?_
   refine AW.loopF (E' := fun z => [(1, pt 1), (10, AL a.rects_), (11, vi ((List.length a.rects_ : Nat) : Int)), (12, vi z)]) (S' := fun z => [(1, bx [.d (DL a.rects_)])]) (fun I e E o h => ?_) h
   refine AW.SG0 Fm 1 [(1, pt 1), (10, AL a.rects_), (11, vi ((List.length a.rects_ : Nat) : Int)), (12, vi e), (13, vb (decide (e < ((List.length a.rects_ : Nat) : Int))))] [(1, bx [.d (DL a.rects_)])] ?_
   refine AW.seq ?_
   refine AW.cond (b := (decide (e < ((List.length a.rects_ : Nat) : Int)))) (by kernel_rfl) (fun j => ?_) (fun j => ?_)
   ·have h := br_t h j
    refine AW.skip ?_
    refine AW.seq ?_
    refine AW.block ?_
    obtain ⟨t, h⟩ := gd_some h
    refine AW.SG Fm [.s, .s, .s, .s] (fun K => _ ∧ True) [(1, pt 1), (4, pt 4), (10, AL a.rects_), (11, vi ((List.length a.rects_ : Nat) : Int)), (12, vi e)] [(1, bx [.d (DL a.rects_)]), (4, bx [ci ((gl a.rects_ e.toNat).left_), ci ((gl a.rects_ e.toNat).low_), ci ((gl a.rects_ e.toNat).right_), ci ((gl a.rects_ e.toNat).high_)])] ⟨t, ⟨⟩⟩ ?_
    refine AW.seq ?_
    obtain ⟨m, w, h⟩ := bd_some h
    refine AW.G Fm [.s, .k (cE [] [] (vb m) [] []), .s] (fun K => K 1 ∧ True) [(1, pt 1), (10, AL a.rects_), (11, vi ((List.length a.rects_ : Nat) : Int)), (12, vi e), (18, vb (!m))] [(1, bx [.d (DL a.rects_)])] ⟨KAt.CC (ref04_proper_spec w) Try.call55 [], ⟨⟩⟩ ?_
    refine AW.cond (b := (!m)) (by kernel_rfl) (fun l => ?_) (fun l => ?_)
    ·have h := br_t h l
     refine AW.SG0 Fm 1 [(2, vb false)] [] ?_
     refine AW.ret ?_
     obtain rfl := Option.some.inj h
     exact Kn.D Fm
    ·have h := br_f h l
     refine AW.skip ?_
     obtain ⟨u, h⟩ := gd_some h
     refine AW.G Fm [.s, .s] (fun K => (I64 (e + (1 : Int)) ∧ True) ∧ True) [(1, pt 1), (10, AL a.rects_), (11, vi ((List.length a.rects_ : Nat) : Int)), (12, vi (e + (1 : Int)))] [(1, bx [.d (DL a.rects_)])] ⟨⟨u, ⟨⟩⟩, ⟨⟩⟩ ?_
     exact Kn.R Fm (o (e + (1 : Int)) h)
   ·have h := br_f h j
    refine AW.exit ?_
    exact Kn.R Fm (q () h)
theorem ref09_one_spec {F : Nat} {a : Feature} {r : Int} (h : ref09_one F a = some r) :
  FSpec Try.prog 32 [gE a] [] (vi r) [] := by
 refine FSpec.intro prog_mixed prog_lay Try.func32 rfl (by kernel_rfl) fun C Fm => ?_
 unfold ref09_one at h
 refine AW.SG0 Fm 2 [(1, pt 1)] [(1, bx (gC a))] ?_
 refine AW.seq ?_
 refine AW.block ?_
 refine AW.join (r := r) (fun z : Bool => ref09_one_k0 F a z) (fun z => [(1, pt 1), (3, vb z)]) (fun z => [(1, bx (gC a))]) (fun B h => ?_) (fun L t => ?_)
 ·refine AW.cond (b := B) (by kernel_rfl) (fun n => ?_) (fun n => ?_)
  ·have h := br_t h n
   refine AW.SG0 Fm 1 [(2, vi (2 : Int))] [] ?_
   refine AW.ret ?_
   obtain rfl := Option.some.inj h
   exact Kn.D Fm
  ·have h := br_f h n
   refine AW.join (r := r) (fun z : Bool => ref09_one_k1 F a z) (fun z => [(1, pt 1), (12, vb z)]) (fun z => [(1, bx (gC a))]) (fun E h => ?_) (fun M u => ?_)
   ·refine AW.cond (b := E) (by kernel_rfl) (fun o => ?_) (fun o => ?_)
    ·have h := br_t h o
     refine AW.SG0 Fm 1 [(2, vi (14 : Int))] [] ?_
     refine AW.ret ?_
     obtain rfl := Option.some.inj h
     exact Kn.D Fm
    ·have h := br_f h o
     refine AW.join (r := r) (fun z : Bool => ref09_one_k2 F a z) (fun z => [(1, pt 1), (21, vb z)]) (fun z => [(1, bx (gC a))]) (fun H h => ?_) (fun N m => ?_)
     ·refine AW.cond (b := H) (by kernel_rfl) (fun p => ?_) (fun p => ?_)
      ·have h := br_t h p
       refine AW.SG0 Fm 1 [(2, vi (9 : Int))] [] ?_
       refine AW.ret ?_
       obtain rfl := Option.some.inj h
       exact Kn.D Fm
      ·have h := br_f h p
       refine AW.join (r := r) (fun z : Bool => ref09_one_k3 F z) (fun z => [(37, vb z)]) (fun z => []) (fun I h => ?_) (fun O y => ?_)
       ·refine AW.cond (b := I) (by kernel_rfl) (fun q => ?_) (fun q => ?_)
        ·have h := br_t h q
         refine AW.SG0 Fm 1 [(2, vi (7 : Int))] [] ?_
         refine AW.ret ?_
         obtain rfl := Option.some.inj h
         exact Kn.D Fm
        ·have h := br_f h q
         refine AW.skip ?_
         refine AW.SG0 Fm 1 [(2, vi (0 : Int))] [] ?_
         refine AW.ret ?_
         obtain rfl := Option.some.inj h
         exact Kn.D Fm
       ·obtain ⟨l, A, h⟩ := bd_some h
        rcases Bool.eq_false_or_eq_true (!l) with j | j
        ·have h := br_t h j
         refine AW.G Fm [.s, .s, .k (cE [] [] (vb l) [] []), .s, .w (vb true), .s, .s, .s, .s, .s, .s, .s] (fun K => K 2 ∧ (ALe (vb (!l)) (vb true)) ∧ True) [(37, vb true)] [] ⟨KAt.CC (ref04_Valid_spec A) Try.call42 [], ALe.bool j, ⟨⟩⟩ ?_
         exact Kn.R Fm (y true h)
        ·have h := br_f h j
         refine AW.G Fm [.s, .s, .k (cE [] [] (vb l) [] []), .s, .w (vb false), .s, .s, .s, .s, .s, .s, .s] (fun K => K 2 ∧ (ALe (vb (!l)) (vb false)) ∧ True) [(37, vb (((List.length a.region_.rects_ : Nat) : Int) == (0 : Int)))] [] ⟨KAt.CC (ref04_Valid_spec A) Try.call42 [], ALe.bool j, ⟨⟩⟩ ?_
         exact Kn.R Fm (y (((List.length a.region_.rects_ : Nat) : Int) == (0 : Int)) h)
     ·rcases Bool.eq_false_or_eq_true (decide (a.from_ < (0 : Int))) with c | c
      ·have h := br_t h c
       refine AW.G Fm [.s, .s, .s, .w (vb true), .s, .s, .s, .s, .s, .s, .s, .s, .s, .s, .s, .s] (fun K => (ALe (vb (decide (a.from_ < (0 : Int)))) (vb true)) ∧ True) [(1, pt 1), (21, vb true)] [(1, bx (gC a))] ⟨ALe.bool c, ⟨⟩⟩ ?_
       exact Kn.R Fm (m true h)
      ·have h := br_f h c
       rcases Bool.eq_false_or_eq_true (decide (a.until_ ≤ a.from_)) with i | i
       ·have h := br_t h i
        refine AW.G Fm [.s, .s, .s, .w (vb false), .s, .s, .s, .s, .s, .s, .w (vb true), .s, .s, .s, .s, .s] (fun K => (ALe (vb (decide (a.from_ < (0 : Int)))) (vb false)) ∧ (ALe (vb (decide (a.until_ ≤ a.from_))) (vb true)) ∧ True) [(1, pt 1), (21, vb true)] [(1, bx (gC a))] ⟨ALe.bool c, ALe.bool i, ⟨⟩⟩ ?_
        exact Kn.R Fm (m true h)
       ·have h := br_f h i
        refine AW.G Fm [.s, .s, .s, .w (vb false), .s, .s, .s, .s, .s, .s, .w (vb false), .s, .s, .s, .s, .s] (fun K => (ALe (vb (decide (a.from_ < (0 : Int)))) (vb false)) ∧ (ALe (vb (decide (a.until_ ≤ a.from_))) (vb false)) ∧ True) [(1, pt 1), (21, vb (decide ((36865 : Int) < a.until_)))] [(1, bx (gC a))] ⟨ALe.bool c, ALe.bool i, ⟨⟩⟩ ?_
        exact Kn.R Fm (m (decide ((36865 : Int) < a.until_)) h)
   ·rcases Bool.eq_false_or_eq_true (decide (a.kind_ < (0 : Int))) with e | e
    ·have h := br_t h e
     refine AW.G Fm [.s, .s, .s, .w (vb true), .s, .s, .s, .s, .s] (fun K => (ALe (vb (decide (a.kind_ < (0 : Int)))) (vb true)) ∧ True) [(1, pt 1), (12, vb true)] [(1, bx (gC a))] ⟨ALe.bool e, ⟨⟩⟩ ?_
     exact Kn.R Fm (u true h)
    ·have h := br_f h e
     refine AW.G Fm [.s, .s, .s, .w (vb false), .s, .s, .s, .s, .s] (fun K => (ALe (vb (decide (a.kind_ < (0 : Int)))) (vb false)) ∧ True) [(1, pt 1), (12, vb (decide ((15 : Int) < a.kind_)))] [(1, bx (gC a))] ⟨ALe.bool e, ⟨⟩⟩ ?_
     exact Kn.R Fm (u (decide ((15 : Int) < a.kind_)) h)
 ·rcases Bool.eq_false_or_eq_true (decide (a.number_ < (1 : Int))) with d | d
  ·have h := br_t h d
   refine AW.G Fm [.s, .s, .s, .w (vb true), .s, .s, .s, .s, .s] (fun K => (ALe (vb (decide (a.number_ < (1 : Int)))) (vb true)) ∧ True) [(1, pt 1), (3, vb true)] [(1, bx (gC a))] ⟨ALe.bool d, ⟨⟩⟩ ?_
   exact Kn.R Fm (t true h)
  ·have h := br_f h d
   refine AW.G Fm [.s, .s, .s, .w (vb false), .s, .s, .s, .s, .s] (fun K => (ALe (vb (decide (a.number_ < (1 : Int)))) (vb false)) ∧ True) [(1, pt 1), (3, vb (decide ((1073741824 : Int) < a.number_)))] [(1, bx (gC a))] ⟨ALe.bool d, ⟨⟩⟩ ?_
   exact Kn.R Fm (t (decide ((1073741824 : Int) < a.number_)) h)
theorem ref09_Check_spec {F : Nat} {a : (List Feature)} {r : Int} (h : ref09_Check F a = some r) :
  FSpec Try.prog 31 [AL a] [] (vi r) [] := by
 refine FSpec.intro prog_mixed prog_lay Try.func31 rfl (by kernel_rfl) fun C Fm => ?_
 unfold ref09_Check at h
 refine AW.SG0 Fm 1 [(0, AL a)] [] ?_
 refine AW.seq ?_
 refine AW.SG0 Fm 3 [(0, AL a), (8, vb (decide ((60 : Int) < ((List.length a : Nat) : Int))))] [] ?_
 refine AW.cond (b := (decide ((60 : Int) < ((List.length a : Nat) : Int)))) (by kernel_rfl) (fun l => ?_) (fun l => ?_)
 ·have h := br_t h l
  refine AW.SG0 Fm 1 [(2, vi (1 : Int))] [] ?_
  refine AW.ret ?_
  obtain rfl := Option.some.inj h
  exact Kn.D Fm
 ·have h := br_f h l
  refine AW.skip ?_
  refine AW.join (r := r) (fun z : Unit => ref09_Check_k2 F) (fun z => []) (fun z => []) (fun z h => ?_) (fun N u => ?_)
  ·refine AW.SG0 Fm 1 [(2, vi (0 : Int))] [] ?_
   refine AW.ret ?_
   obtain rfl := Option.some.inj h
   exact Kn.D Fm
  ·refine AW.SG0 Fm 3 [(0, AL a), (9, AL a), (10, vi ((List.length a : Nat) : Int)), (11, vi (0 : Int))] [] ?_
   refine AW.block ?_
   refine Kn.r Fm [(0, AL a), (9, AL a), (10, vi ((List.length a : Nat) : Int)), (11, vi (0 : Int))] [] (by kernel_rfl) ?_
   refine AW.loopF (E' := fun z => [(0, AL a), (9, AL a), (10, vi ((List.length a : Nat) : Int)), (11, vi z)]) (S' := fun z => []) (fun q e L t h => ?_) h
   refine AW.SG0 Fm 1 [(0, AL a), (9, AL a), (10, vi ((List.length a : Nat) : Int)), (11, vi e), (12, vb (decide (e < ((List.length a : Nat) : Int))))] [] ?_
   refine AW.seq ?_
   refine AW.cond (b := (decide (e < ((List.length a : Nat) : Int)))) (by kernel_rfl) (fun m => ?_) (fun m => ?_)
   ·have h := br_t h m
    refine AW.skip ?_
    refine AW.seq ?_
    refine AW.block ?_
    obtain ⟨y, h⟩ := gd_some h
    refine AW.SG Fm [.s, .s, .s, .s, .s, .s] (fun K => _ ∧ True) [(0, AL a), (3, vi e), (4, pt 4), (9, AL a), (10, vi ((List.length a : Nat) : Int)), (11, vi e)] [(4, bx [ci ((gl a e.toNat).number_), ci ((gl a e.toNat).kind_), ci ((gl a e.toNat).from_), ci ((gl a e.toNat).until_), .d (DL (α := Rect) (gl a e.toNat).region_.rects_)])] ⟨y, ⟨⟩⟩ ?_
    refine AW.seq ?_
    refine AW.seq ?_
    obtain ⟨i, H, h⟩ := bd_some h
    refine AW.G Fm [.s, .k (cE [] [] (vi i) [] []), .s] (fun K => K 1 ∧ True) [(0, AL a), (3, vi e), (4, pt 4), (5, vi i), (9, AL a), (10, vi ((List.length a : Nat) : Int)), (11, vi e)] [(4, bx [ci ((gl a e.toNat).number_), ci ((gl a e.toNat).kind_), ci ((gl a e.toNat).from_), ci ((gl a e.toNat).until_), .d (DL (α := Rect) (gl a e.toNat).region_.rects_)])] ⟨KAt.CC (ref09_one_spec H) Try.call32 [], ⟨⟩⟩ ?_
    refine AW.SG0 Fm 2 [(0, AL a), (3, vi e), (4, pt 4), (5, vi i), (9, AL a), (10, vi ((List.length a : Nat) : Int)), (11, vi e), (19, vb (i != (0 : Int)))] [(4, bx [ci ((gl a e.toNat).number_), ci ((gl a e.toNat).kind_), ci ((gl a e.toNat).from_), ci ((gl a e.toNat).until_), .d (DL (α := Rect) (gl a e.toNat).region_.rects_)])] ?_
    refine AW.cond (b := (i != (0 : Int))) (by kernel_rfl) (fun n => ?_) (fun n => ?_)
    ·have h := br_t h n
     refine AW.SG0 Fm 2 [(2, vi i)] [] ?_
     refine AW.ret ?_
     obtain rfl := Option.some.inj h
     exact Kn.D Fm
    ·have h := br_f h n
     refine AW.skip ?_
     refine AW.join (r := r) (fun z : Bool => ref09_Check_k1 F e q z) (fun z => [(0, AL a), (9, AL a), (10, vi ((List.length a : Nat) : Int)), (11, vi e), (33, vb z)]) (fun z => []) (fun I h => ?_) (fun M p => ?_)
     ·refine AW.cond (b := I) (by kernel_rfl) (fun o => ?_) (fun o => ?_)
      ·have h := br_t h o
       refine AW.SG0 Fm 1 [(2, vi (3 : Int))] [] ?_
       refine AW.ret ?_
       obtain rfl := Option.some.inj h
       exact Kn.D Fm
      ·have h := br_f h o
       refine AW.skip ?_
       obtain ⟨E, h⟩ := gd_some h
       refine AW.G Fm [.s, .s] (fun K => (I64 (e + (1 : Int)) ∧ True) ∧ True) [(0, AL a), (9, AL a), (10, vi ((List.length a : Nat) : Int)), (11, vi (e + (1 : Int)))] [] ⟨⟨E, ⟨⟩⟩, ⟨⟩⟩ ?_
       exact Kn.R Fm (t (e + (1 : Int)) h)
     ·rcases Bool.eq_false_or_eq_true (decide ((0 : Int) < e)) with j | j
      ·have h := br_t h j
       obtain ⟨A, h⟩ := gd_some h
       obtain ⟨B, h⟩ := gd_some h
       refine AW.G Fm [.s, .s, .w (vb true), .s, .s, .s, .s, .s, .s, .s, .s, .s, .s] (fun K => (ALe (vb (decide ((0 : Int) < e))) (vb true)) ∧ (I64 (e - (1 : Int)) ∧ True) ∧ _ ∧ True) [(0, AL a), (9, AL a), (10, vi ((List.length a : Nat) : Int)), (11, vi e), (24, pt 4), (25, vi (gl a e.toNat).number_), (26, AL a), (27, vi e), (28, vi (e - (1 : Int))), (29, .v (.c (.elm [.int .i64 (gl a (e - (1 : Int)).toNat).number_, .int .i64 (gl a (e - (1 : Int)).toNat).kind_, .int .i64 (gl a (e - (1 : Int)).toNat).from_, .int .i64 (gl a (e - (1 : Int)).toNat).until_, DL (α := Rect) (gl a (e - (1 : Int)).toNat).region_.rects_]))), (30, .v (.c (.elm [.int .i64 (gl a (e - (1 : Int)).toNat).number_, .int .i64 (gl a (e - (1 : Int)).toNat).kind_, .int .i64 (gl a (e - (1 : Int)).toNat).from_, .int .i64 (gl a (e - (1 : Int)).toNat).until_, DL (α := Rect) (gl a (e - (1 : Int)).toNat).region_.rects_]))), (31, vi (gl a (e - (1 : Int)).toNat).number_), (32, vb (decide (((gl a e.toNat).number_) ≤ ((gl a (e - (1 : Int)).toNat).number_)))), (33, vb (decide (((gl a e.toNat).number_) ≤ ((gl a (e - (1 : Int)).toNat).number_))))] [(4, bx [ci ((gl a e.toNat).number_), ci ((gl a e.toNat).kind_), ci ((gl a e.toNat).from_), ci ((gl a e.toNat).until_), .d (DL (α := Rect) (gl a e.toNat).region_.rects_)])] ⟨ALe.bool j, ⟨A, ⟨⟩⟩, B, ⟨⟩⟩ ?_
       exact Kn.R Fm (p (decide (((gl a e.toNat).number_) ≤ ((gl a (e - (1 : Int)).toNat).number_))) h)
      ·have h := br_f h j
       refine AW.G Fm [.s, .s, .w (vb false), .s, .s, .s, .s, .s, .s, .s, .s, .s, .s] (fun K => (ALe (vb (decide ((0 : Int) < e))) (vb false)) ∧ True) [(0, AL a), (9, AL a), (10, vi ((List.length a : Nat) : Int)), (11, vi e), (33, vb false)] [] ⟨ALe.bool j, ⟨⟩⟩ ?_
       exact Kn.R Fm (p false h)
   ·have h := br_f h m
    refine AW.exit ?_
    exact Kn.R Fm (u () h)
theorem ref09_Add_spec {F : Nat} {a : (List Feature)} {i : Feature} {r : (List Feature) × Int} (h : ref09_Add F a i = some r) :
  FSpec Try.prog 15 [AL a, gE i] [] (.t [.c (.d (DL (α := Feature) r.1)), .c (ci r.2)]) [] := by
 refine FSpec.intro prog_mixed prog_lay Try.func15 rfl (by kernel_rfl) fun C Fm => ?_
 unfold ref09_Add at h
 refine AW.SG0 Fm 3 [(0, AL a), (3, pt 3)] [(3, bx (gC i))] ?_
 refine AW.seq ?_
 refine AW.seq ?_
 obtain ⟨n, Z, h⟩ := bd_some h
 refine AW.G Fm [.s, .k (cE [] [] (vi n) [] []), .s] (fun K => K 1 ∧ True) [(0, AL a), (3, pt 3), (6, vi n)] [(3, bx (gC i))] ⟨KAt.CC (ref09_Check_spec Z) Try.call31 [], ⟨⟩⟩ ?_
 refine AW.SG0 Fm 2 [(0, AL a), (3, pt 3), (6, vi n), (12, vb (n != (0 : Int)))] [(3, bx (gC i))] ?_
 refine AW.cond (b := (n != (0 : Int))) (by kernel_rfl) (fun u => ?_) (fun u => ?_)
 ·have h := br_t h u
  refine AW.SG0 Fm 3 [(4, .v (.c (.fl 0 fun _ => []))), (5, vi n)] [] ?_
  refine AW.ret ?_
  obtain rfl := Option.some.inj h
  refine Kn.r Fm [(4, .v (.c (.fl 0 fun _ => []))), (5, vi n)] [] (by kernel_rfl) ?_
  refine Kn.wk [(4, AL (α := Feature) []), (5, vi n)] [] ⟨rfl, ALe.c (CLe.fl .nil), ⟨rfl, ALe.c (CLe.refl _), ⟨⟩⟩⟩ True.intro ?_
  exact Kn.D Fm
 ·have h := br_f h u
  refine AW.skip ?_
  refine AW.seq ?_
  refine AW.seq ?_
  obtain ⟨o, a0, h⟩ := bd_some h
  refine AW.G Fm [.s, .k (cE [] [] (vi o) [] []), .s] (fun K => K 1 ∧ True) [(0, AL a), (3, pt 3), (7, vi o)] [(3, bx (gC i))] ⟨KAt.CC (ref09_one_spec a0) Try.call32 [], ⟨⟩⟩ ?_
  refine AW.SG0 Fm 2 [(0, AL a), (3, pt 3), (7, vi o), (17, vb (o != (0 : Int)))] [(3, bx (gC i))] ?_
  refine AW.cond (b := (o != (0 : Int))) (by kernel_rfl) (fun y => ?_) (fun y => ?_)
  ·have h := br_t h y
   refine AW.SG0 Fm 3 [(4, .v (.c (.fl 0 fun _ => []))), (5, vi o)] [] ?_
   refine AW.ret ?_
   obtain rfl := Option.some.inj h
   refine Kn.r Fm [(4, .v (.c (.fl 0 fun _ => []))), (5, vi o)] [] (by kernel_rfl) ?_
   refine Kn.wk [(4, AL (α := Feature) []), (5, vi o)] [] ⟨rfl, ALe.c (CLe.fl .nil), ⟨rfl, ALe.c (CLe.refl _), ⟨⟩⟩⟩ True.intro ?_
   exact Kn.D Fm
  ·have h := br_f h y
   refine AW.skip ?_
   refine AW.SG0 Fm 1 [(0, AL a), (3, pt 3), (8, vi (0 : Int))] [(3, bx (gC i))] ?_
   refine AW.join (r := r) (fun z : Int => ref09_Add_k2 F a i z) (fun z => [(0, AL a), (3, pt 3), (8, vi z)]) (fun z => [(3, bx (gC i))]) (fun e h => ?_) (fun i0 P => ?_)
   ·refine AW.seq ?_
    refine AW.join (r := r) (fun z : Bool => ref09_Add_k3 F a i e z) (fun z => [(0, AL a), (3, pt 3), (8, vi e), (48, vb z)]) (fun z => [(3, bx (gC i))]) (fun c0 h => ?_) (fun j0 I => ?_)
    ·refine AW.cond (b := c0) (by kernel_rfl) (fun B => ?_) (fun B => ?_)
     ·have h := br_t h B
      refine AW.SG0 Fm 2 [(4, .v (.c (.fl 0 fun _ => []))), (5, vi (6 : Int))] [] ?_
      refine AW.ret ?_
      obtain rfl := Option.some.inj h
      refine Kn.r Fm [(4, .v (.c (.fl 0 fun _ => []))), (5, vi (6 : Int))] [] (by kernel_rfl) ?_
      refine Kn.wk [(4, AL (α := Feature) []), (5, vi (6 : Int))] [] ⟨rfl, ALe.c (CLe.fl .nil), ⟨rfl, ALe.c (CLe.refl _), ⟨⟩⟩⟩ True.intro ?_
      exact Kn.D Fm
     ·have h := br_f h B
      refine AW.skip ?_
      refine AW.seq ?_
      refine AW.SG0 Fm 3 [(0, AL a), (3, pt 3), (8, vi e), (51, vb (((List.length a : Nat) : Int) == (60 : Int)))] [(3, bx (gC i))] ?_
      refine AW.cond (b := (((List.length a : Nat) : Int) == (60 : Int))) (by kernel_rfl) (fun E => ?_) (fun E => ?_)
      ·have h := br_t h E
       refine AW.SG0 Fm 2 [(4, .v (.c (.fl 0 fun _ => []))), (5, vi (1 : Int))] [] ?_
       refine AW.ret ?_
       obtain rfl := Option.some.inj h
       refine Kn.r Fm [(4, .v (.c (.fl 0 fun _ => []))), (5, vi (1 : Int))] [] (by kernel_rfl) ?_
       refine Kn.wk [(4, AL (α := Feature) []), (5, vi (1 : Int))] [] ⟨rfl, ALe.c (CLe.fl .nil), ⟨rfl, ALe.c (CLe.refl _), ⟨⟩⟩⟩ True.intro ?_
       exact Kn.D Fm
      ·have h := br_f h E
       refine AW.skip ?_
       obtain ⟨L, h⟩ := gd_some h
       obtain ⟨W, h⟩ := gd_some h
       obtain ⟨X, h⟩ := gd_some h
       obtain ⟨M, h⟩ := gd_some h
       obtain ⟨Y, h⟩ := gd_some h
       refine AW.SG Fm [.m, .s, .s, .w (AL (α := Feature) (a.take e.toNat)), .s, .s, .w (AL (α := Feature) ([i] : List Feature)), .s, .s, .s, .w (AL (α := Feature) (a.drop e.toNat)), .s, .s, .s] (fun K => (((sl (List.length a) (LF a) none (some e)).2 ∧ ∀ j, j < List.length a → (LF a j).length = 5)) ∧ (ALe (.v (.c (.d (.lst (sl (List.length a) (LF a) none (some e)).1.1 (sl (List.length a) (LF a) none (some e)).1.2)))) (AL (α := Feature) (a.take e.toNat))) ∧ ((0) + (List.length (α := Feature) (a.take e.toNat)) ≤ LIM ∧ (∀ j, j < List.length (α := Feature) (a.take e.toNat) → ((LF (α := Feature) (a.take e.toNat)) j).length = 5) ∧ (True)) ∧ (ALe (.v (.c (.d (.lst 1 (litF 5 [.int .i64 i.number_, .int .i64 i.kind_, .int .i64 i.from_, .int .i64 i.until_, DL i.region_.rects_]))))) (AL (α := Feature) ([i] : List Feature))) ∧ (((0) + (List.length (α := Feature) (a.take e.toNat))) + (List.length (α := Feature) ([i] : List Feature)) ≤ LIM ∧ (∀ j, j < List.length (α := Feature) ([i] : List Feature) → ((LF (α := Feature) ([i] : List Feature)) j).length = 5) ∧ (True)) ∧ (((sl (List.length a) (LF a) (some e) none).2 ∧ ∀ j, j < List.length a → (LF a j).length = 5)) ∧ (ALe (.v (.c (.d (.lst (sl (List.length a) (LF a) (some e) none).1.1 (sl (List.length a) (LF a) (some e) none).1.2)))) (AL (α := Feature) (a.drop e.toNat))) ∧ ((((0) + (List.length (α := Feature) (a.take e.toNat))) + (List.length (α := Feature) ([i] : List Feature))) + (List.length (α := Feature) (a.drop e.toNat)) ≤ LIM ∧ (∀ j, j < List.length (α := Feature) (a.drop e.toNat) → ((LF (α := Feature) (a.drop e.toNat)) j).length = 5) ∧ (True)) ∧ True) [(4, ow 63), (5, vi (0 : Int))] [(63, .arr 5 ((((0) + (List.length (α := Feature) (a.take e.toNat))) + (List.length (α := Feature) ([i] : List Feature))) + (List.length (α := Feature) (a.drop e.toNat))) (appF (((0) + (List.length (α := Feature) (a.take e.toNat))) + (List.length (α := Feature) ([i] : List Feature))) (appF ((0) + (List.length (α := Feature) (a.take e.toNat))) (appF (0) (litF 5 []) (LF (α := Feature) (a.take e.toNat))) (LF (α := Feature) ([i] : List Feature))) (LF (α := Feature) (a.drop e.toNat))))] ⟨⟨L, (Is.refl a).len⟩, ALe.lst (sl_is a none (some e) L), ⟨W, (Is.refl (a.take e.toNat) : Is (List.length (α := Feature) (a.take e.toNat)) (LF (α := Feature) (a.take e.toNat)) (a.take e.toNat)).len, ⟨⟩⟩, ALe.lst (.lit ([i] : List Feature) (by kernel_rfl)), ⟨X, (Is.refl ([i] : List Feature) : Is (List.length (α := Feature) ([i] : List Feature)) (LF (α := Feature) ([i] : List Feature)) ([i] : List Feature)).len, ⟨⟩⟩, ⟨M, (Is.refl a).len⟩, ALe.lst (sl_is a (some e) none M), ⟨Y, (Is.refl (a.drop e.toNat) : Is (List.length (α := Feature) (a.drop e.toNat)) (LF (α := Feature) (a.drop e.toNat)) (a.drop e.toNat)).len, ⟨⟩⟩, ⟨⟩⟩ ?_
       refine Kn.wk [(4, ow 63), (5, vi (0 : Int))] [(63, AO (α := Feature) (((([] : List Feature) ++ (a.take e.toNat)) ++ ([i] : List Feature)) ++ (a.drop e.toNat)))] (FE.refl _) (⟨rfl, OLe.is (Is.app (Is.app (Is.app (Is.lit ([] : List Feature) (by kernel_rfl)) (Is.refl (a.take e.toNat))) (Is.refl ([i] : List Feature))) (Is.refl (a.drop e.toNat))), ⟨⟩⟩) ?_
       refine AW.ret ?_
       obtain rfl := Option.some.inj h
       refine Kn.r Fm [(4, ow 63), (5, vi (0 : Int))] [(63, AO (α := Feature) (((([] : List Feature) ++ (a.take e.toNat)) ++ ([i] : List Feature)) ++ (a.drop e.toNat)))] (by kernel_rfl) ?_
       refine Kn.frz [(4, AL (α := Feature) (((([] : List Feature) ++ (a.take e.toNat)) ++ ([i] : List Feature)) ++ (a.drop e.toNat))), (5, vi (0 : Int))] [] (by kernel_rfl) (by kernel_rfl) (by kernel_rfl) ?_
       exact Kn.D Fm
    ·rcases Bool.eq_false_or_eq_true (decide (e < ((List.length a : Nat) : Int))) with q | q
     ·have h := br_t h q
      obtain ⟨V, h⟩ := gd_some h
      refine AW.G Fm [.s, .s, .s, .s, .w (vb true), .s, .s, .s, .s, .s, .s, .s, .s, .s] (fun K => (ALe (vb (decide (e < ((List.length a : Nat) : Int)))) (vb true)) ∧ _ ∧ True) [(0, AL a), (3, pt 3), (8, vi e), (48, vb (((gl a e.toNat).number_) == i.number_))] [(3, bx (gC i))] ⟨ALe.bool q, V, ⟨⟩⟩ ?_
      exact Kn.R Fm (I (((gl a e.toNat).number_) == i.number_) h)
     ·have h := br_f h q
      refine AW.G Fm [.s, .s, .s, .s, .w (vb false), .s, .s, .s, .s, .s, .s, .s, .s, .s] (fun K => (ALe (vb (decide (e < ((List.length a : Nat) : Int)))) (vb false)) ∧ True) [(0, AL a), (3, pt 3), (8, vi e), (48, vb false)] [(3, bx (gC i))] ⟨ALe.bool q, ⟨⟩⟩ ?_
      exact Kn.R Fm (I false h)
   ·refine AW.block ?_
    refine Kn.r Fm [(0, AL a), (3, pt 3), (8, vi (0 : Int))] [(3, bx (gC i))] (by kernel_rfl) ?_
    refine AW.loopF (E' := fun z => [(0, AL a), (3, pt 3), (8, vi z)]) (S' := fun z => [(3, bx (gC i))]) (fun N l d0 O h => ?_) h
    refine AW.seq ?_
    refine AW.join (r := r) (fun z : Bool => ref09_Add_k1 F a i l N z) (fun z => [(0, AL a), (3, pt 3), (8, vi l), (32, vb z)]) (fun z => [(3, bx (gC i))]) (fun b0 h => ?_) (fun e0 H => ?_)
    ·refine AW.cond (b := b0) (by kernel_rfl) (fun A => ?_) (fun A => ?_)
     ·have h := br_t h A
      refine AW.skip ?_
      refine AW.block ?_
      obtain ⟨U, h⟩ := gd_some h
      refine AW.G Fm [.s, .s, .s] (fun K => (I64 (l + (1 : Int)) ∧ True) ∧ True) [(0, AL a), (3, pt 3), (8, vi (l + (1 : Int)))] [(3, bx (gC i))] ⟨⟨U, ⟨⟩⟩, ⟨⟩⟩ ?_
      exact Kn.R Fm (O (l + (1 : Int)) h)
     ·have h := br_f h A
      refine AW.exit ?_
      exact Kn.R Fm (P l h)
    ·rcases Bool.eq_false_or_eq_true (decide (l < ((List.length a : Nat) : Int))) with p | p
     ·have h := br_t h p
      obtain ⟨T, h⟩ := gd_some h
      refine AW.G Fm [.s, .s, .s, .s, .w (vb true), .s, .s, .s, .s, .s, .s, .s, .s, .s] (fun K => (ALe (vb (decide (l < ((List.length a : Nat) : Int)))) (vb true)) ∧ _ ∧ True) [(0, AL a), (3, pt 3), (8, vi l), (24, AL a), (25, vi l), (26, .v (.c (.elm [.int .i64 (gl a l.toNat).number_, .int .i64 (gl a l.toNat).kind_, .int .i64 (gl a l.toNat).from_, .int .i64 (gl a l.toNat).until_, DL (α := Rect) (gl a l.toNat).region_.rects_]))), (27, .v (.c (.elm [.int .i64 (gl a l.toNat).number_, .int .i64 (gl a l.toNat).kind_, .int .i64 (gl a l.toNat).from_, .int .i64 (gl a l.toNat).until_, DL (α := Rect) (gl a l.toNat).region_.rects_]))), (28, vi (gl a l.toNat).number_), (29, pt 3), (30, vi i.number_), (31, vb (decide (((gl a l.toNat).number_) < i.number_))), (32, vb (decide (((gl a l.toNat).number_) < i.number_)))] [(3, bx (gC i))] ⟨ALe.bool p, T, ⟨⟩⟩ ?_
      exact Kn.R Fm (H (decide (((gl a l.toNat).number_) < i.number_)) h)
     ·have h := br_f h p
      refine AW.G Fm [.s, .s, .s, .s, .w (vb false), .s, .s, .s, .s, .s, .s, .s, .s, .s] (fun K => (ALe (vb (decide (l < ((List.length a : Nat) : Int)))) (vb false)) ∧ True) [(0, AL a), (3, pt 3), (8, vi l), (32, vb false)] [(3, bx (gC i))] ⟨ALe.bool p, ⟨⟩⟩ ?_
      exact Kn.R Fm (H false h)
theorem keep_Tape_Layer_spec {F : Nat} {l : Tape} {n : Int} {r : Tape × (List Feature)} (h : keep_Tape_Layer F l n = some r) :
  FSpec Try.prog 6 [pt 0, vi n] [(0, bx (gC l))] (AL (α := Feature) r.2) [(0, bx (gC r.1))] := by
 refine FSpec.intro prog_mixed prog_lay Try.func6 rfl (by kernel_rfl) fun C Fm => ?_
 unfold keep_Tape_Layer at h
 refine AW.SG0 Fm 1 [(0, pt 0), (1, vi n)] [(0, bx (gC l))] ?_
 refine AW.SG Fm [.m] (fun K => True) [(0, pt 0), (1, vi n), (5, ow 5)] [(0, bx (gC l)), (5, .arr 5 (0) (fun _ => []))] True.intro ?_
 refine Kn.wk [(0, pt 0), (1, vi n), (5, ow 5)] [(0, bx (gC l)), (5, AO (α := Feature) ([] : List Feature))] (FE.refl _) (⟨rfl, OLe.refl _, ⟨rfl, OLe.is ((Is.nil (α := Feature))), ⟨⟩⟩⟩) ?_
 refine AW.join (r := r) (fun z : (List Feature) × (List Int) × Int => keep_Tape_Layer_k2 F z.1 z.2.1 z.2.2) (fun z => [(5, AL z.1)]) (fun z => [(0, bx [.d (DL z.2.1), ci z.2.2])]) (fun z h => ?_) (fun b0 M => ?_)
 ·obtain ⟨W, X, Y⟩ := z
  refine AW.SG0 Fm 2 [(4, AL W)] [(0, bx [.d (DL X), ci Y])] ?_
  refine AW.ret ?_
  obtain rfl := Option.some.inj h
  exact Kn.D Fm
 ·refine AW.seq ?_
  obtain ⟨N, h⟩ := gd_some h
  obtain ⟨e, P, h⟩ := bd_some h
  refine AW.G Fm [.s, .s, .s, .k (cE [(0, 0)] [] (vi e.2) [(0, bx (gC l))] [(0, bx (gC e.1))]), .s] (fun K => (I64 (n + (1 : Int)) ∧ True) ∧ K 3 ∧ True) [(0, pt 0), (5, ow 5), (6, vi e.2)] [(0, bx (gC e.1)), (5, AO (α := Feature) ([] : List Feature))] ⟨⟨N, ⟨⟩⟩, KAt.CC (keep_Tape_Next_spec P) Try.call14 [(0, 0)], ⟨⟩⟩ ?_
  refine AW.block ?_
  refine Kn.r Fm [(0, pt 0), (5, ow 5), (6, vi e.2)] [(5, AO (α := Feature) ([] : List Feature)), (0, bx (gC e.1))] (by kernel_rfl) ?_
  refine Kn.frz [(0, pt 0), (5, AL (α := Feature) ([] : List Feature)), (6, vi e.2)] [(0, bx (gC e.1))] (by kernel_rfl) (by kernel_rfl) (by kernel_rfl) ?_
  refine Kn.r Fm [(0, pt 0), (5, AL ([] : List Feature)), (6, vi e.2)] [(0, bx [.d (DL e.1.l_), ci e.1.at_])] (by kernel_rfl) ?_
  refine AW.loopF (E' := fun z => [(0, pt 0), (5, AL z.1), (6, vi z.2.1)]) (S' := fun z => [(0, bx [.d (DL z.2.2.1), ci z.2.2.2])]) (fun I z Z L h => ?_) h
  obtain ⟨o, a, p, q⟩ := z
  refine AW.seq ?_
  refine AW.SG0 Fm 2 [(0, pt 0), (5, AL o), (6, vi a), (14, vb (decide ((0 : Int) < a)))] [(0, bx [.d (DL p), ci q])] ?_
  refine AW.cond (b := (decide ((0 : Int) < a))) (by kernel_rfl) (fun u => ?_) (fun u => ?_)
  ·have h := br_t h u
   refine AW.skip ?_
   refine AW.join (r := r) (fun z : (List Feature) × (List Int) × Int => keep_Tape_Layer_k1 F a I z.1 z.2.1 z.2.2) (fun z => [(0, pt 0), (5, AL z.1), (6, vi a)]) (fun z => [(0, bx [.d (DL z.2.1), ci z.2.2])]) (fun z h => ?_) (fun a0 A => ?_)
   ·obtain ⟨B, E, H⟩ := z
    obtain ⟨O, h⟩ := gd_some h
    refine AW.G Fm [.s, .s, .s] (fun K => (I64 (a - (1 : Int)) ∧ True) ∧ True) [(0, pt 0), (5, AL B), (6, vi (a - (1 : Int)))] [(0, bx [.d (DL E), ci H])] ⟨⟨O, ⟨⟩⟩, ⟨⟩⟩ ?_
    exact Kn.R Fm (L (B, (a - (1 : Int)), E, H) h)
   ·refine AW.block ?_
    refine AW.seq ?_
    obtain ⟨y, T, h⟩ := bd_some h
    obtain ⟨i, U, h⟩ := bd_some h
    obtain ⟨j, V, h⟩ := bd_some h
    refine AW.G Fm [.s, .s, .s, .k (cE [(0, 0)] [] (vi y.2) [(0, bx [.d (DL (α := Int) (⟨p, q⟩ : Tape).l_), ci ((⟨p, q⟩ : Tape).at_)])] [(0, bx (gC y.1))]), .k (cE [(0, 0)] [] (gE i.2) [(0, bx (gC y.1))] [(0, bx (gC i.1))]), .k (cE [] [] (.t [.c (.d (DL j.1)), .c (ci j.2)]) [] []), .s, .s, .s, .s, .s] (fun K => K 3 ∧ K 4 ∧ K 5 ∧ True) [(0, pt 0), (5, AL o), (6, vi a), (7, AL j.1), (8, vi j.2)] [(0, bx (gC i.1))] ⟨KAt.CC (keep_Tape_Range_spec T) Try.call17 [(0, 0)], KAt.CC (keep_Tape_Feature_spec U) Try.call16 [(0, 0)], KAt.CC (ref09_Add_spec V) Try.call15 [], ⟨⟩⟩ ?_
    refine AW.SG0 Fm 2 [(0, pt 0), (5, AL o), (6, vi a), (7, AL j.1), (27, vb (j.2 == (0 : Int)))] [(0, bx (gC i.1))] ?_
    refine AW.cond (b := (j.2 == (0 : Int))) (by kernel_rfl) (fun w => ?_) (fun w => ?_)
    ·have h := br_t h w
     refine AW.G0 Fm 2 [(0, pt 0), (5, AL j.1), (6, vi a)] [(0, bx (gC i.1))] ?_
     exact Kn.R Fm (A (j.1, i.1.l_, i.1.at_) h)
    ·have h := br_f h w
     refine AW.skip ?_
     exact Kn.R Fm (A (o, i.1.l_, i.1.at_) h)
  ·have h := br_f h u
   refine AW.exit ?_
   exact Kn.R Fm (M (o, p, q) h)
theorem slices_IndexFunc_Rect_spec {F : Nat} {a : (List Rect)} {e : Rect → Option Bool} {r : Int} (h : slices_IndexFunc_Rect F a e = some r) :
  FSpec Try.prog 58 [AL a, .v (.c (.sem (CloOK Try.prog (FR_Rect_Bool e))))] [] (vi r) [] := by
 refine FSpec.intro prog_mixed prog_lay Try.func58 rfl (by kernel_rfl) fun C Fm => ?_
 unfold slices_IndexFunc_Rect at h
 refine AW.SG0 Fm 1 [(0, AL a), (1, .v (.c (.sem (CloOK Try.prog (FR_Rect_Bool e)))))] [] ?_
 refine AW.join (r := r) (fun z : Unit => slices_IndexFunc_Rect_k1 F) (fun z => []) (fun z => []) (fun z h => ?_) (fun u n => ?_)
 ·refine AW.SG0 Fm 1 [(4, vi (-1 : Int))] [] ?_
  refine AW.ret ?_
  obtain rfl := Option.some.inj h
  exact Kn.D Fm
 ·refine AW.SG0 Fm 3 [(0, AL a), (1, .v (.c (.sem (CloOK Try.prog (FR_Rect_Bool e))))), (7, vi ((List.length a : Nat) : Int)), (8, vi (0 : Int))] [] ?_
  refine AW.block ?_
  refine Kn.r Fm [(0, AL a), (1, .v (.c (.sem (CloOK Try.prog (FR_Rect_Bool e))))), (7, vi ((List.length a : Nat) : Int)), (8, vi (0 : Int))] [] (by kernel_rfl) ?_
  refine AW.loopF (E' := fun z => [(0, AL a), (1, .v (.c (.sem (CloOK Try.prog (FR_Rect_Bool e))))), (7, vi ((List.length a : Nat) : Int)), (8, vi z)]) (S' := fun z => []) (fun w d t m h => ?_) h
  refine AW.SG0 Fm 1 [(0, AL a), (1, .v (.c (.sem (CloOK Try.prog (FR_Rect_Bool e))))), (7, vi ((List.length a : Nat) : Int)), (8, vi d), (9, vb (decide (d < ((List.length a : Nat) : Int))))] [] ?_
  refine AW.seq ?_
  refine AW.cond (b := (decide (d < ((List.length a : Nat) : Int)))) (by kernel_rfl) (fun j => ?_) (fun j => ?_)
  ·have h := br_t h j
   refine AW.skip ?_
   refine AW.seq ?_
   refine AW.block ?_
   refine AW.SG0 Fm 2 [(0, AL a), (1, .v (.c (.sem (CloOK Try.prog (FR_Rect_Bool e))))), (5, vi d), (7, vi ((List.length a : Nat) : Int)), (8, vi d)] [] ?_
   refine AW.seq ?_
   obtain ⟨o, h⟩ := gd_some h
   obtain ⟨i, q, h⟩ := bd_some h
   refine AW.G Fm [.s, .s, .s, .s, .s, .k (sE (vb i))] (fun K => _ ∧ K 5 ∧ True) [(0, AL a), (1, .v (.c (.sem (CloOK Try.prog (FR_Rect_Bool e))))), (5, vi d), (7, vi ((List.length a : Nat) : Int)), (8, vi d), (16, vb i)] [] ⟨o, KAt.sem (F := (FR_Rect_Bool e)) (args := [.v (.g [ci ((gl a d.toNat).left_), ci ((gl a d.toNat).low_), ci ((gl a d.toNat).right_), ci ((gl a d.toNat).high_)])]) ⟨(gl a d.toNat), i, q, rfl, rfl⟩ rfl (by kernel_rfl) (by kernel_rfl) (by kernel_rfl), ⟨⟩⟩ ?_
   refine AW.cond (b := i) (by kernel_rfl) (fun l => ?_) (fun l => ?_)
   ·have h := br_t h l
    refine AW.SG0 Fm 2 [(4, vi d)] [] ?_
    refine AW.ret ?_
    obtain rfl := Option.some.inj h
    exact Kn.D Fm
   ·have h := br_f h l
    refine AW.skip ?_
    obtain ⟨p, h⟩ := gd_some h
    refine AW.G Fm [.s, .s] (fun K => (I64 (d + (1 : Int)) ∧ True) ∧ True) [(0, AL a), (1, .v (.c (.sem (CloOK Try.prog (FR_Rect_Bool e))))), (7, vi ((List.length a : Nat) : Int)), (8, vi (d + (1 : Int)))] [] ⟨⟨p, ⟨⟩⟩, ⟨⟩⟩ ?_
    exact Kn.R Fm (m (d + (1 : Int)) h)
  ·have h := br_f h j
   refine AW.exit ?_
   exact Kn.R Fm (n () h)
theorem slices_ContainsFunc_Rect_spec {F : Nat} {a : (List Rect)} {b : Rect → Option Bool} {r : Bool} (h : slices_ContainsFunc_Rect F a b = some r) :
  FSpec Try.prog 47 [AL a, .v (.c (.sem (CloOK Try.prog (FR_Rect_Bool b))))] [] (vb r) [] := by
 refine FSpec.intro prog_mixed prog_lay Try.func47 rfl (by kernel_rfl) fun C Fm => ?_
 unfold slices_ContainsFunc_Rect at h
 refine AW.SG0 Fm 1 [(0, AL a), (1, .v (.c (.sem (CloOK Try.prog (FR_Rect_Bool b)))))] [] ?_
 refine AW.seq ?_
 obtain ⟨d, e, h⟩ := bd_some h
 refine AW.G Fm [.s, .s, .k (cE [] [] (vi d) [] []), .s, .s] (fun K => K 2 ∧ True) [(4, vb (decide ((0 : Int) ≤ d)))] [] ⟨KAt.callX (slices_IndexFunc_Rect_spec e) Try.call58 [] [] [.tmp 5, .tmp 6] rfl (by kernel_rfl) (by kernel_rfl) (by kernel_rfl) ⟨.p, ArgT.semX (by kernel_rfl) (by kernel_rfl) (by kernel_rfl), ⟨⟩⟩, ⟨⟩⟩ ?_
 refine AW.ret ?_
 obtain rfl := Option.some.inj h
 exact Kn.D Fm
theorem region_proper_spec {F : Nat} {a : Rect} {r : Bool} (h : region_proper F a = some r) :
  FSpec Try.prog 49 [gE a] [] (vb r) [] := by
 refine FSpec.intro prog_mixed prog_lay Try.func49 rfl (by kernel_rfl) fun C Fm => ?_
 unfold region_proper at h
 refine AW.SG0 Fm 2 [(1, pt 1)] [(1, bx (gC a))] ?_
 refine AW.join (r := r) (fun z : Bool => region_proper_k0 F z) (fun z => [(2, vb z)]) (fun z => []) (fun l h => ?_) (fun k e => ?_)
 ·refine AW.ret ?_
  obtain rfl := Option.some.inj h
  exact Kn.D Fm
 ·rcases Bool.eq_false_or_eq_true (decide ((0 : Int) ≤ a.left_)) with b | b
  ·have h := br_t h b
   rcases Bool.eq_false_or_eq_true (decide (a.left_ < a.right_)) with c | c
   ·have h := br_t h c
    rcases Bool.eq_false_or_eq_true (decide (a.right_ ≤ (16384 : Int))) with d | d
    ·have h := br_t h d
     rcases Bool.eq_false_or_eq_true (decide ((0 : Int) ≤ a.low_)) with i | i
     ·have h := br_t h i
      rcases Bool.eq_false_or_eq_true (decide (a.low_ < a.high_)) with j | j
      ·have h := br_t h j
       refine AW.G Fm [.s, .s, .s, .w (vb true), .s, .s, .s, .s, .s, .s, .w (vb true), .s, .s, .s, .s, .w (vb true), .s, .s, .s, .s, .w (vb true), .s, .s, .s, .s, .s, .s, .w (vb true), .s, .s, .s, .s, .s] (fun K => (ALe (vb (decide ((0 : Int) ≤ a.left_))) (vb true)) ∧ (ALe (vb (decide (a.left_ < a.right_))) (vb true)) ∧ (ALe (vb (decide (a.right_ ≤ (16384 : Int)))) (vb true)) ∧ (ALe (vb (decide ((0 : Int) ≤ a.low_))) (vb true)) ∧ (ALe (vb (decide (a.low_ < a.high_))) (vb true)) ∧ True) [(2, vb (decide (a.high_ ≤ (16384 : Int))))] [] ⟨ALe.bool b, ALe.bool c, ALe.bool d, ALe.bool i, ALe.bool j, ⟨⟩⟩ ?_
       exact Kn.R Fm (e (decide (a.high_ ≤ (16384 : Int))) h)
      ·have h := br_f h j
       refine AW.G Fm [.s, .s, .s, .w (vb true), .s, .s, .s, .s, .s, .s, .w (vb true), .s, .s, .s, .s, .w (vb true), .s, .s, .s, .s, .w (vb true), .s, .s, .s, .s, .s, .s, .w (vb false), .s, .s, .s, .s, .s] (fun K => (ALe (vb (decide ((0 : Int) ≤ a.left_))) (vb true)) ∧ (ALe (vb (decide (a.left_ < a.right_))) (vb true)) ∧ (ALe (vb (decide (a.right_ ≤ (16384 : Int)))) (vb true)) ∧ (ALe (vb (decide ((0 : Int) ≤ a.low_))) (vb true)) ∧ (ALe (vb (decide (a.low_ < a.high_))) (vb false)) ∧ True) [(2, vb false)] [] ⟨ALe.bool b, ALe.bool c, ALe.bool d, ALe.bool i, ALe.bool j, ⟨⟩⟩ ?_
       exact Kn.R Fm (e false h)
     ·have h := br_f h i
      refine AW.G Fm [.s, .s, .s, .w (vb true), .s, .s, .s, .s, .s, .s, .w (vb true), .s, .s, .s, .s, .w (vb true), .s, .s, .s, .s, .w (vb false), .s, .s, .s, .s, .s, .s, .s, .s, .s, .s, .s, .s] (fun K => (ALe (vb (decide ((0 : Int) ≤ a.left_))) (vb true)) ∧ (ALe (vb (decide (a.left_ < a.right_))) (vb true)) ∧ (ALe (vb (decide (a.right_ ≤ (16384 : Int)))) (vb true)) ∧ (ALe (vb (decide ((0 : Int) ≤ a.low_))) (vb false)) ∧ True) [(2, vb false)] [] ⟨ALe.bool b, ALe.bool c, ALe.bool d, ALe.bool i, ⟨⟩⟩ ?_
      exact Kn.R Fm (e false h)
    ·have h := br_f h d
     refine AW.G Fm [.s, .s, .s, .w (vb true), .s, .s, .s, .s, .s, .s, .w (vb true), .s, .s, .s, .s, .w (vb false), .s, .s, .s, .s, .s, .s, .s, .s, .s, .s, .s, .s, .s, .s, .s, .s, .s] (fun K => (ALe (vb (decide ((0 : Int) ≤ a.left_))) (vb true)) ∧ (ALe (vb (decide (a.left_ < a.right_))) (vb true)) ∧ (ALe (vb (decide (a.right_ ≤ (16384 : Int)))) (vb false)) ∧ True) [(2, vb false)] [] ⟨ALe.bool b, ALe.bool c, ALe.bool d, ⟨⟩⟩ ?_
     exact Kn.R Fm (e false h)
   ·have h := br_f h c
    refine AW.G Fm [.s, .s, .s, .w (vb true), .s, .s, .s, .s, .s, .s, .w (vb false), .s, .s, .s, .s, .s, .s, .s, .s, .s, .s, .s, .s, .s, .s, .s, .s, .s, .s, .s, .s, .s, .s] (fun K => (ALe (vb (decide ((0 : Int) ≤ a.left_))) (vb true)) ∧ (ALe (vb (decide (a.left_ < a.right_))) (vb false)) ∧ True) [(2, vb false)] [] ⟨ALe.bool b, ALe.bool c, ⟨⟩⟩ ?_
    exact Kn.R Fm (e false h)
  ·have h := br_f h b
   refine AW.G Fm [.s, .s, .s, .w (vb false), .s, .s, .s, .s, .s, .s, .s, .s, .s, .s, .s, .s, .s, .s, .s, .s, .s, .s, .s, .s, .s, .s, .s, .s, .s, .s, .s, .s, .s] (fun K => (ALe (vb (decide ((0 : Int) ≤ a.left_))) (vb false)) ∧ True) [(2, vb false)] [] ⟨ALe.bool b, ⟨⟩⟩ ?_
   exact Kn.R Fm (e false h)
theorem region_Valid_1_spec {F : Nat} {a : Rect} {r : Bool} (h : region_Valid_1 F a = some r) :
  FSpec Try.prog 48 [gE a] [] (vb r) [] := by
 refine FSpec.intro prog_mixed prog_lay Try.func48 rfl (by kernel_rfl) fun C Fm => ?_
 unfold region_Valid_1 at h
 refine AW.SG0 Fm 2 [(1, pt 1)] [(1, bx (gC a))] ?_
 refine AW.seq ?_
 obtain ⟨b, c, h⟩ := bd_some h
 refine AW.G Fm [.s, .k (cE [] [] (vb b) [] []), .s, .s] (fun K => K 1 ∧ True) [(2, vb (!b))] [] ⟨KAt.CC (region_proper_spec c) Try.call49 [], ⟨⟩⟩ ?_
 refine AW.ret ?_
 obtain rfl := Option.some.inj h
 exact Kn.D Fm
theorem slices_Compact_int_spec {F : Nat} {d : (List Int)} {r : (List Int)} (h : slices_Compact_int F d = some r) :
  FSpec Try.prog 81 [ow 0] [(0, AO d)] (ow 100) [(100, AO (α := Int) r)] := by
 refine FSpec.intro prog_mixed prog_lay Try.func81 rfl (by kernel_rfl) fun C Fm => ?_
 unfold slices_Compact_int at h
 refine AW.SG Fm [.m] (fun K => True) [(0, ow 0)] [(0, AO d)] True.intro ?_
 refine AW.seq ?_
 refine AW.SG0 Fm 3 [(0, ow 0), (8, vb (decide (((List.length d : Nat) : Int) < (2 : Int))))] [(0, AO d)] ?_
 refine AW.cond (b := (decide (((List.length d : Nat) : Int) < (2 : Int)))) (by kernel_rfl) (fun w => ?_) (fun w => ?_)
 ·have h := br_t h w
  refine AW.SG0 Fm 2 [(2, ow 0)] [(0, AO d)] ?_
  refine AW.ret ?_
  obtain rfl := Option.some.inj h
  exact Kn.re Fm [(100, 0)] [(2, ow 100)] [(100, AO d)] (by kernel_rfl) (by kernel_rfl) (by kernel_rfl) (by kernel_rfl) (Kn.dn Fm (by kernel_rfl))
 ·have h := br_f h w
  refine AW.skip ?_
  refine AW.join (r := r) (fun z : Unit => slices_Compact_int_k5 F d) (fun z => [(0, ow 0)]) (fun z => [(0, AO d)]) (fun z h => ?_) (fun y0 Z => ?_)
  ·refine AW.SG0 Fm 2 [(2, ow 0)] [(0, AO d)] ?_
   refine AW.ret ?_
   obtain rfl := Option.some.inj h
   exact Kn.re Fm [(100, 0)] [(2, ow 100)] [(100, AO d)] (by kernel_rfl) (by kernel_rfl) (by kernel_rfl) (by kernel_rfl) (Kn.dn Fm (by kernel_rfl))
  ·refine AW.SG0 Fm 1 [(0, ow 0), (3, vi (1 : Int))] [(0, AO d)] ?_
   refine AW.block ?_
   refine Kn.r Fm [(0, ow 0), (3, vi (1 : Int))] [(0, AO d)] (by kernel_rfl) ?_
   refine AW.loopF (E' := fun z => [(0, ow 0), (3, vi z)]) (S' := fun z => [(0, AO d)]) (fun T a q0 V h => ?_) h
   refine AW.seq ?_
   refine AW.SG0 Fm 4 [(0, ow 0), (3, vi a), (13, vb (decide (a < ((List.length d : Nat) : Int))))] [(0, AO d)] ?_
   refine AW.cond (b := (decide (a < ((List.length d : Nat) : Int)))) (by kernel_rfl) (fun y => ?_) (fun y => ?_)
   ·have h := br_t h y
    refine AW.skip ?_
    refine AW.join (r := r) (fun z : Unit => slices_Compact_int_k4 F a T) (fun z => [(0, ow 0), (3, vi a)]) (fun z => [(0, AO d)]) (fun z h => ?_) (fun w0 Y => ?_)
    ·obtain ⟨p0, h⟩ := gd_some h
     refine AW.G Fm [.s, .s, .s] (fun K => (I64 (a + (1 : Int)) ∧ True) ∧ True) [(0, ow 0), (3, vi (a + (1 : Int)))] [(0, AO d)] ⟨⟨p0, ⟨⟩⟩, ⟨⟩⟩ ?_
     exact Kn.R Fm (V (a + (1 : Int)) h)
    ·refine AW.block ?_
     obtain ⟨I, h⟩ := gd_some h
     obtain ⟨a0, h⟩ := gd_some h
     obtain ⟨L, h⟩ := gd_some h
     refine AW.SG Fm [.s, .s, .s, .s, .s, .s, .s, .s, .s, .s] (fun K => _ ∧ (a.toNat < List.length d) ∧ (I64 (a - (1 : Int)) ∧ True) ∧ _ ∧ ((a - (1 : Int)).toNat < List.length d) ∧ True) [(0, ow 0), (3, vi a), (25, vb ((gl d a.toNat) == (gl d (a - (1 : Int)).toNat)))] [(0, AO d)] ⟨I, (toNat_lt I), ⟨a0, ⟨⟩⟩, L, (toNat_lt L), ⟨⟩⟩ ?_
     refine AW.cond (b := ((gl d a.toNat) == (gl d (a - (1 : Int)).toNat))) (by kernel_rfl) (fun A => ?_) (fun A => ?_)
     ·have h := br_t h A
      obtain ⟨b0, h⟩ := gd_some h
      refine AW.SG Fm [.s, .s, .k (rE { v := .v (.c (.sub 0 1 (0 + (a).toNat) ((List.length (α := Int) d) - (a).toNat))) }), .s] (fun K => K 2 ∧ True) [(0, ow 0), (3, vi a), (4, .v (.c (.sub 0 1 (0 + (a).toNat) ((List.length (α := Int) d) - (a).toNat))))] [(0, AO d)] ⟨KAt.vslice (l := (some a)) (u := none) (id := 0) (lo0 := 0) (n := (List.length (α := Int) d)) (N := List.length (α := Int) d) (f := LF (α := Int) d) prog_lay slT22 rfl rfl (by kernel_rfl) (by kernel_rfl) (by kernel_rfl) (by kernel_rfl) (by kernel_rfl) b0 (by kernel_rfl), ⟨⟩⟩ ?_
      refine AW.join (r := r) (fun z : Int × (List Int) => slices_Compact_int_k3 F z.1 z.2) (fun z => [(0, ow 0), (3, vi z.1)]) (fun z => [(0, AO z.2)]) (fun z h => ?_) (fun u0 X => ?_)
      ·obtain ⟨e, q⟩ := z
       obtain ⟨o0, h⟩ := gd_some h
       refine AW.SG Fm [.s, .s, .k (rE { v := .v (.c (.sub 0 1 (0 + (e).toNat) ((List.length (α := Int) q) - (e).toNat))) }), .k (rE { v := .any, upd := some (0, .arr 1 (List.length (α := Int) q) (fun i => if (0 + (e).toNat) ≤ i ∧ i < (0 + (e).toNat) + ((List.length (α := Int) q) - (e).toNat) then (fun _ => [.int .i64 0]) (i - (0 + (e).toNat)) else (LF (α := Int) q) i)) })] (fun K => K 2 ∧ K 3 ∧ True) [(0, ow 0), (3, vi e)] [(0, .arr 1 (List.length (α := Int) q) (fun i => if (0 + (e).toNat) ≤ i ∧ i < (0 + (e).toNat) + ((List.length (α := Int) q) - (e).toNat) then (fun _ => [.int .i64 0]) (i - (0 + (e).toNat)) else (LF (α := Int) q) i))] ⟨KAt.vslice (l := (some e)) (u := none) (id := 0) (lo0 := 0) (n := (List.length (α := Int) q)) (N := List.length (α := Int) q) (f := LF (α := Int) q) prog_lay slT22 rfl rfl (by kernel_rfl) (by kernel_rfl) (by kernel_rfl) (by kernel_rfl) (by kernel_rfl) o0 (by kernel_rfl), KAt.vclear (id := 0) (lo0 := (0 + (e).toNat)) (n := ((List.length (α := Int) q) - (e).toNat)) (N := List.length (α := Int) q) (f := (LF (α := Int) q)) prog_lay slT22 [.int .i64 0] [.int .i64 0] ⟨DLe.refl _, ⟨⟩⟩ rfl rfl (by kernel_rfl) (Nat.succ_pos _) (by kernel_rfl) (by kernel_rfl) (by kernel_rfl) (by kernel_rfl) rfl, ⟨⟩⟩ ?_
       refine Kn.wk [(0, ow 0), (3, vi e)] [(0, AO (α := Int) (clr q (0 + (e).toNat) ((List.length (α := Int) q) - (e).toNat)))] (FE.refl _) (⟨rfl, OLe.is (Is.clr (l := q) (0 + (e).toNat) ((List.length (α := Int) q) - (e).toNat) (zd := [.int .i64 0]) (by kernel_rfl)), ⟨⟩⟩) ?_
       obtain ⟨M, h⟩ := gd_some h
       refine AW.SG Fm [.s, .s, .m, .s] (fun K => _ ∧ True) [(2, ow 59)] [(59, .arr 1 ((e).toNat) (LF (α := Int) (clr q (0 + (e).toNat) ((List.length (α := Int) q) - (e).toNat))))] ⟨M, ⟨⟩⟩ ?_
       refine Kn.wk [(2, ow 59)] [(59, AO (α := Int) ((clr q (0 + (e).toNat) ((List.length (α := Int) q) - (e).toNat)).take (e).toNat))] (FE.refl _) (⟨rfl, OLe.is (Is.take (Is.refl (clr q (0 + (e).toNat) ((List.length (α := Int) q) - (e).toNat))) M.2), ⟨⟩⟩) ?_
       refine AW.ret ?_
       obtain rfl := Option.some.inj h
       exact Kn.re Fm [(100, 59)] [(2, ow 100)] [(100, AO (α := Int) ((clr q (0 + (e).toNat) ((List.length (α := Int) q) - (e).toNat)).take (e).toNat))] (by kernel_rfl) (by kernel_rfl) (by kernel_rfl) (by kernel_rfl) (Kn.dn Fm (by kernel_rfl))
      ·refine AW.SG0 Fm 1 [(0, ow 0), (3, vi a), (4, .v (.c (.sub 0 1 (0 + (a).toNat) ((List.length (α := Int) d) - (a).toNat)))), (5, vi (1 : Int))] [(0, AO d)] ?_
       refine AW.block ?_
       refine Kn.r Fm [(0, ow 0), (3, vi a), (4, .v (.c (.sub 0 1 (0 + (a).toNat) ((List.length (α := Int) d) - (a).toNat)))), (5, vi (1 : Int))] [(0, AO d)] (by kernel_rfl) ?_
       refine AW.loopF (E' := fun z => [(0, ow 0), (3, vi z.1), (4, .v (.c (.sub 0 1 (0 + (a).toNat) ((List.length (α := Int) d) - (a).toNat)))), (5, vi z.2.1)]) (S' := fun z => [(0, AO z.2.2)]) (fun U z s0 W h => ?_) h
       obtain ⟨t, p, o⟩ := z
       refine AW.seq ?_
       refine AW.SG Fm [.s, .s, .k (rE { v := vi ((((List.length (α := Int) d) - (a).toNat) : Nat) : Int) }), .s] (fun K => K 2 ∧ True) [(0, ow 0), (3, vi t), (4, .v (.c (.sub 0 1 (0 + (a).toNat) ((List.length (α := Int) d) - (a).toNat)))), (5, vi p), (32, vb (decide (p < ((((List.length (α := Int) d) - (a).toNat) : Nat) : Int))))] [(0, AO o)] ⟨KAt.vlen (es := 1) (id := 0) (lo0 := (0 + (a).toNat)) (n := ((List.length (α := Int) d) - (a).toNat)) (N := List.length (α := Int) o) (f := LF (α := Int) o) prog_lay slT22 rfl rfl (by kernel_rfl) (by kernel_rfl) (by kernel_rfl), ⟨⟩⟩ ?_
       refine AW.cond (b := (decide (p < ((((List.length (α := Int) d) - (a).toNat) : Nat) : Int)))) (by kernel_rfl) (fun B => ?_) (fun B => ?_)
       ·have h := br_t h B
        refine AW.skip ?_
        refine AW.join (r := r) (fun z : Int × (List Int) => slices_Compact_int_k2 F p U z.1 z.2) (fun z => [(0, ow 0), (3, vi z.1), (4, .v (.c (.sub 0 1 (0 + (a).toNat) ((List.length (α := Int) d) - (a).toNat)))), (5, vi p)]) (fun z => [(0, AO z.2)]) (fun z h => ?_) (fun t0 H => ?_)
        ·obtain ⟨O, P⟩ := z
         obtain ⟨n0, h⟩ := gd_some h
         refine AW.G Fm [.s, .s, .s] (fun K => (I64 (p + (1 : Int)) ∧ True) ∧ True) [(0, ow 0), (3, vi O), (4, .v (.c (.sub 0 1 (0 + (a).toNat) ((List.length (α := Int) d) - (a).toNat)))), (5, vi (p + (1 : Int)))] [(0, AO P)] ⟨⟨n0, ⟨⟩⟩, ⟨⟩⟩ ?_
         exact Kn.R Fm (W (O, (p + (1 : Int)), P) h)
        ·refine AW.block ?_
         obtain ⟨c0, h⟩ := gd_some h
         obtain ⟨d0, h⟩ := gd_some h
         obtain ⟨e0, h⟩ := gd_some h
         obtain ⟨i0, h⟩ := gd_some h
         obtain ⟨j0, h⟩ := gd_some h
         refine AW.SG Fm [.s, .s, .k (rE { v := .v (.c (.pte 0 1 ((0 + (a).toNat) + (p).toNat) 0)) }), .s, .s, .s, .s, .k (rE { v := .v (.c (.pte 0 1 ((0 + (a).toNat) + ((p - (1 : Int))).toNat) 0)) }), .s, .s] (fun K => K 2 ∧ _ ∧ (I64 (p - (1 : Int)) ∧ True) ∧ K 7 ∧ _ ∧ True) [(0, ow 0), (3, vi t), (4, .v (.c (.sub 0 1 (0 + (a).toNat) ((List.length (α := Int) d) - (a).toNat)))), (5, vi p), (44, vb ((gl o ((0 + (a).toNat) + (p).toNat)) != (gl o ((0 + (a).toNat) + ((p - (1 : Int))).toNat))))] [(0, AO o)] ⟨KAt.vindex (m := p) (id := 0) (lo0 := (0 + (a).toNat)) (n := ((List.length (α := Int) d) - (a).toNat)) (N := List.length (α := Int) o) (f := LF (α := Int) o) prog_lay slT22 rfl rfl (by kernel_rfl) (by kernel_rfl) (by kernel_rfl) (by kernel_rfl) c0 (by kernel_rfl), d0, ⟨e0, ⟨⟩⟩, KAt.vindex (m := (p - (1 : Int))) (id := 0) (lo0 := (0 + (a).toNat)) (n := ((List.length (α := Int) d) - (a).toNat)) (N := List.length (α := Int) o) (f := LF (α := Int) o) prog_lay slT22 rfl rfl (by kernel_rfl) (by kernel_rfl) (by kernel_rfl) (by kernel_rfl) i0 (by kernel_rfl), j0, ⟨⟩⟩ ?_
         refine AW.cond (b := ((gl o ((0 + (a).toNat) + (p).toNat)) != (gl o ((0 + (a).toNat) + ((p - (1 : Int))).toNat)))) (by kernel_rfl) (fun D => ?_) (fun D => ?_)
         ·have h := br_t h D
          obtain ⟨k0, h⟩ := gd_some h
          obtain ⟨l0, h⟩ := gd_some h
          obtain ⟨E, h⟩ := gd_some h
          refine AW.SG Fm [.s, .s, .s, .s, .k (rE { v := .v (.c (.pte 0 1 ((0 + (a).toNat) + (p).toNat) 0)) }), .s, .s, .s] (fun K => K 4 ∧ _ ∧ _ ∧ (t.toNat < List.length o) ∧ True) [(0, ow 0), (3, vi t), (4, .v (.c (.sub 0 1 (0 + (a).toNat) ((List.length (α := Int) d) - (a).toNat)))), (5, vi p)] [(0, .arr 1 (List.length (α := Int) o) (fun j => if j = t.toNat then splice ((LF (α := Int) o) t.toNat) 0 [.int .i64 (gl o ((0 + (a).toNat) + (p).toNat))] else (LF (α := Int) o) j))] ⟨KAt.vindex (m := p) (id := 0) (lo0 := (0 + (a).toNat)) (n := ((List.length (α := Int) d) - (a).toNat)) (N := List.length (α := Int) o) (f := LF (α := Int) o) prog_lay slT22 rfl rfl (by kernel_rfl) (by kernel_rfl) (by kernel_rfl) (by kernel_rfl) k0 (by kernel_rfl), l0, E, (toNat_lt E), ⟨⟩⟩ ?_
          refine Kn.wk [(0, ow 0), (3, vi t), (4, .v (.c (.sub 0 1 (0 + (a).toNat) ((List.length (α := Int) d) - (a).toNat)))), (5, vi p)] [(0, AO (α := Int) (List.set o t.toNat (gl o ((0 + (a).toNat) + (p).toNat))))] (FE.refl _) (⟨rfl, OLe.is (Is.set (Is.refl o) (toNat_lt E) (gl o ((0 + (a).toNat) + (p).toNat)) (by kernel_rfl)), ⟨⟩⟩) ?_
          obtain ⟨m0, h⟩ := gd_some h
          refine AW.G Fm [.s, .s, .s] (fun K => (I64 (t + (1 : Int)) ∧ True) ∧ True) [(0, ow 0), (3, vi (t + (1 : Int))), (4, .v (.c (.sub 0 1 (0 + (a).toNat) ((List.length (α := Int) d) - (a).toNat)))), (5, vi p)] [(0, AO (α := Int) (List.set o t.toNat (gl o ((0 + (a).toNat) + (p).toNat))))] ⟨⟨m0, ⟨⟩⟩, ⟨⟩⟩ ?_
          exact Kn.R Fm (H ((t + (1 : Int)), (List.set o t.toNat (gl o ((0 + (a).toNat) + (p).toNat)))) h)
         ·have h := br_f h D
          refine AW.skip ?_
          exact Kn.R Fm (H (t, o) h)
       ·have h := br_f h B
        refine AW.exit ?_
        exact Kn.R Fm (X (t, o) h)
     ·have h := br_f h A
      refine AW.skip ?_
      exact Kn.R Fm (Y () h)
   ·have h := br_f h y
    refine AW.exit ?_
    exact Kn.R Fm (Z () h)
theorem region_Cuts_spec {F : Nat} {a : (List (List Rect))} {r : (List Int)} (h : region_Cuts F a = some r) :
  FSpec Try.prog 60 [AL a] [] (AL (α := Int) r) [] := by
 refine FSpec.intro prog_mixed prog_lay Try.func60 rfl (by kernel_rfl) fun C Fm => ?_
 unfold region_Cuts at h
 refine AW.SG0 Fm 1 [(0, AL a)] [] ?_
 refine AW.SG Fm [.m] (fun K => True) [(0, AL a), (3, ow 3)] [(3, .arr 1 (0) (fun _ => []))] True.intro ?_
 refine Kn.wk [(0, AL a), (3, ow 3)] [(3, AO (α := Int) ([] : List Int))] (FE.refl _) (⟨rfl, OLe.is ((Is.nil (α := Int))), ⟨⟩⟩) ?_
 refine AW.join (r := r) (fun z : (List Int) => region_Cuts_k3 F z) (fun z => [(3, ow 3)]) (fun z => [(3, AO z)]) (fun U h => ?_) (fun Y H => ?_)
 ·refine AW.seq ?_
  obtain ⟨t, P, h⟩ := bd_some h
  refine AW.G Fm [.s, .k (cE [(0, 3)] [] (.any) [(0, AO U)] [(0, AO t)])] (fun K => K 1 ∧ True) [(3, ow 3)] [(3, AO t)] ⟨KAt.CC (sortI_spec P) Try.call40 [(0, 3)], ⟨⟩⟩ ?_
  refine AW.seq ?_
  obtain ⟨o, T, h⟩ := bd_some h
  refine AW.G Fm [.s, .k (cE [(0, 3), (100, 32)] [] (ow 100) [(0, AO t)] [(100, AO o)]), .s] (fun K => K 1 ∧ True) [(2, ow 32)] [(32, AO o)] ⟨KAt.CC (slices_Compact_int_spec T) Try.call81 [(0, 3), (100, 32)], ⟨⟩⟩ ?_
  refine AW.ret ?_
  obtain rfl := Option.some.inj h
  refine Kn.r Fm [(2, ow 32)] [(32, AO o)] (by kernel_rfl) ?_
  refine Kn.frz [(2, AL o)] [] (by kernel_rfl) (by kernel_rfl) (by kernel_rfl) ?_
  exact Kn.D Fm
 ·refine AW.SG0 Fm 3 [(3, ow 3), (8, AL a), (9, vi ((List.length a : Nat) : Int)), (10, vi (0 : Int))] [(3, AO (α := Int) ([] : List Int))] ?_
  refine AW.block ?_
  refine Kn.r Fm [(3, ow 3), (8, AL a), (9, vi ((List.length a : Nat) : Int)), (10, vi (0 : Int))] [(3, AO ([] : List Int))] (by kernel_rfl) ?_
  refine AW.loopF (E' := fun z => [(3, ow 3), (8, AL a), (9, vi ((List.length a : Nat) : Int)), (10, vi z.1)]) (S' := fun z => [(3, AO z.2)]) (fun y z V A h => ?_) h
  obtain ⟨e, n⟩ := z
  refine AW.SG0 Fm 1 [(3, ow 3), (8, AL a), (9, vi ((List.length a : Nat) : Int)), (10, vi e), (11, vb (decide (e < ((List.length a : Nat) : Int))))] [(3, AO n)] ?_
  refine AW.seq ?_
  refine AW.cond (b := (decide (e < ((List.length a : Nat) : Int)))) (by kernel_rfl) (fun p => ?_) (fun p => ?_)
  ·have h := br_t h p
   refine AW.skip ?_
   refine AW.join (r := r) (fun z : (List Int) => region_Cuts_k2 F e y z) (fun z => [(3, ow 3), (8, AL a), (9, vi ((List.length a : Nat) : Int)), (10, vi e)]) (fun z => [(3, AO z)]) (fun u h => ?_) (fun X E => ?_)
   ·obtain ⟨O, h⟩ := gd_some h
    refine AW.G Fm [.s, .s] (fun K => (I64 (e + (1 : Int)) ∧ True) ∧ True) [(3, ow 3), (8, AL a), (9, vi ((List.length a : Nat) : Int)), (10, vi (e + (1 : Int)))] [(3, AO u)] ⟨⟨O, ⟨⟩⟩, ⟨⟩⟩ ?_
    exact Kn.R Fm (A ((e + (1 : Int)), u) h)
   ·refine AW.block ?_
    obtain ⟨I, h⟩ := gd_some h
    refine AW.SG Fm [.s, .s, .s] (fun K => _ ∧ True) [(3, ow 3), (5, AL (α := Rect) (gl a e.toNat)), (8, AL a), (9, vi ((List.length a : Nat) : Int)), (10, vi e)] [(3, AO n)] ⟨I, ⟨⟩⟩ ?_
    refine AW.SG0 Fm 3 [(3, ow 3), (8, AL a), (9, vi ((List.length a : Nat) : Int)), (10, vi e), (14, AL (α := Rect) (gl a e.toNat)), (15, vi ((List.length (gl a e.toNat) : Nat) : Int)), (16, vi (0 : Int))] [(3, AO n)] ?_
    refine AW.block ?_
    refine Kn.r Fm [(3, ow 3), (8, AL a), (9, vi ((List.length a : Nat) : Int)), (10, vi e), (14, AL (α := Rect) (gl a e.toNat)), (15, vi ((List.length (gl a e.toNat) : Nat) : Int)), (16, vi (0 : Int))] [(3, AO n)] (by kernel_rfl) ?_
    refine AW.loopF (E' := fun z => [(3, ow 3), (8, AL a), (9, vi ((List.length a : Nat) : Int)), (10, vi e), (14, AL (α := Rect) (gl a e.toNat)), (15, vi ((List.length (gl a e.toNat) : Nat) : Int)), (16, vi z.1)]) (S' := fun z => [(3, AO z.2)]) (fun Z z W B h => ?_) h
    obtain ⟨i, l⟩ := z
    refine AW.SG0 Fm 1 [(3, ow 3), (8, AL a), (9, vi ((List.length a : Nat) : Int)), (10, vi e), (14, AL (α := Rect) (gl a e.toNat)), (15, vi ((List.length (gl a e.toNat) : Nat) : Int)), (16, vi i), (17, vb (decide (i < ((List.length (gl a e.toNat) : Nat) : Int))))] [(3, AO l)] ?_
    refine AW.seq ?_
    refine AW.cond (b := (decide (i < ((List.length (gl a e.toNat) : Nat) : Int)))) (by kernel_rfl) (fun q => ?_) (fun q => ?_)
    ·have h := br_t h q
     refine AW.skip ?_
     refine AW.seq ?_
     refine AW.block ?_
     obtain ⟨L, h⟩ := gd_some h
     refine AW.SG Fm [.s, .s, .s, .s] (fun K => _ ∧ True) [(3, ow 3), (7, pt 7), (8, AL a), (9, vi ((List.length a : Nat) : Int)), (10, vi e), (14, AL (α := Rect) (gl a e.toNat)), (15, vi ((List.length (gl a e.toNat) : Nat) : Int)), (16, vi i)] [(3, AO l), (7, bx [ci ((gl (gl a e.toNat) i.toNat).left_), ci ((gl (gl a e.toNat) i.toNat).low_), ci ((gl (gl a e.toNat) i.toNat).right_), ci ((gl (gl a e.toNat) i.toNat).high_)])] ⟨L, ⟨⟩⟩ ?_
     obtain ⟨M, h⟩ := gd_some h
     refine AW.G Fm [.s, .s, .s, .s, .s, .w (AL (α := Int) ([(gl (gl a e.toNat) i.toNat).low_, (gl (gl a e.toNat) i.toNat).high_] : List Int)), .s, .s] (fun K => (ALe (.v (.c (.d (.lst 2 (litF 1 [.int .i64 (gl (gl a e.toNat) i.toNat).low_, .int .i64 (gl (gl a e.toNat) i.toNat).high_]))))) (AL (α := Int) ([(gl (gl a e.toNat) i.toNat).low_, (gl (gl a e.toNat) i.toNat).high_] : List Int))) ∧ ((List.length (α := Int) l) + (List.length (α := Int) ([(gl (gl a e.toNat) i.toNat).low_, (gl (gl a e.toNat) i.toNat).high_] : List Int)) ≤ LIM ∧ (∀ j, j < List.length (α := Int) ([(gl (gl a e.toNat) i.toNat).low_, (gl (gl a e.toNat) i.toNat).high_] : List Int) → ((LF (α := Int) ([(gl (gl a e.toNat) i.toNat).low_, (gl (gl a e.toNat) i.toNat).high_] : List Int)) j).length = 1) ∧ (True)) ∧ True) [(3, ow 26), (8, AL a), (9, vi ((List.length a : Nat) : Int)), (10, vi e), (14, AL (α := Rect) (gl a e.toNat)), (15, vi ((List.length (gl a e.toNat) : Nat) : Int)), (16, vi i)] [(26, .arr 1 ((List.length (α := Int) l) + (List.length (α := Int) ([(gl (gl a e.toNat) i.toNat).low_, (gl (gl a e.toNat) i.toNat).high_] : List Int))) (appF (List.length (α := Int) l) (LF (α := Int) l) (LF (α := Int) ([(gl (gl a e.toNat) i.toNat).low_, (gl (gl a e.toNat) i.toNat).high_] : List Int))))] ⟨ALe.lst (.lit ([(gl (gl a e.toNat) i.toNat).low_, (gl (gl a e.toNat) i.toNat).high_] : List Int) (by kernel_rfl)), ⟨M, (Is.refl ([(gl (gl a e.toNat) i.toNat).low_, (gl (gl a e.toNat) i.toNat).high_] : List Int) : Is (List.length (α := Int) ([(gl (gl a e.toNat) i.toNat).low_, (gl (gl a e.toNat) i.toNat).high_] : List Int)) (LF (α := Int) ([(gl (gl a e.toNat) i.toNat).low_, (gl (gl a e.toNat) i.toNat).high_] : List Int)) ([(gl (gl a e.toNat) i.toNat).low_, (gl (gl a e.toNat) i.toNat).high_] : List Int)).len, ⟨⟩⟩, ⟨⟩⟩ ?_
     refine Kn.wk [(3, ow 26), (8, AL a), (9, vi ((List.length a : Nat) : Int)), (10, vi e), (14, AL (α := Rect) (gl a e.toNat)), (15, vi ((List.length (gl a e.toNat) : Nat) : Int)), (16, vi i)] [(26, AO (α := Int) (l ++ ([(gl (gl a e.toNat) i.toNat).low_, (gl (gl a e.toNat) i.toNat).high_] : List Int)))] (FE.refl _) (⟨rfl, OLe.is (Is.app (Is.refl l) (Is.refl ([(gl (gl a e.toNat) i.toNat).low_, (gl (gl a e.toNat) i.toNat).high_] : List Int))), ⟨⟩⟩) ?_
     obtain ⟨N, h⟩ := gd_some h
     refine AW.G Fm [.s, .s] (fun K => (I64 (i + (1 : Int)) ∧ True) ∧ True) [(3, ow 26), (8, AL a), (9, vi ((List.length a : Nat) : Int)), (10, vi e), (14, AL (α := Rect) (gl a e.toNat)), (15, vi ((List.length (gl a e.toNat) : Nat) : Int)), (16, vi (i + (1 : Int)))] [(26, AO (α := Int) (l ++ ([(gl (gl a e.toNat) i.toNat).low_, (gl (gl a e.toNat) i.toNat).high_] : List Int)))] ⟨⟨N, ⟨⟩⟩, ⟨⟩⟩ ?_
     exact Kn.RE Fm [(3, 26)] (B ((i + (1 : Int)), (l ++ ([(gl (gl a e.toNat) i.toNat).low_, (gl (gl a e.toNat) i.toNat).high_] : List Int))) h)
    ·have h := br_f h q
     refine AW.exit ?_
     exact Kn.R Fm (E l h)
  ·have h := br_f h p
   refine AW.exit ?_
   exact Kn.R Fm (H n h)
theorem cmp_isNaN_int_spec {F : Nat} {a : Int} {r : Bool} (h : cmp_isNaN_int F a = some r) :
  FSpec Try.prog 45 [vi a] [] (vb r) [] := by
 refine FSpec.intro prog_mixed prog_lay Try.func45 rfl (by kernel_rfl) fun C Fm => ?_
 unfold cmp_isNaN_int at h
 refine AW.SG0 Fm 1 [(0, vi a)] [] ?_
 refine AW.SG0 Fm 4 [(2, vb (a != a))] [] ?_
 refine AW.ret ?_
 obtain rfl := Option.some.inj h
 exact Kn.D Fm
theorem cmp_Compare_int_spec {F : Nat} {a : Int} {c : Int} {r : Int} (h : cmp_Compare_int F a c = some r) :
  FSpec Try.prog 34 [vi a, vi c] [] (vi r) [] := by
 refine FSpec.intro prog_mixed prog_lay Try.func34 rfl (by kernel_rfl) fun C Fm => ?_
 unfold cmp_Compare_int at h
 refine AW.SG0 Fm 1 [(0, vi a), (1, vi c)] [] ?_
 refine AW.seq ?_
 obtain ⟨e, o, h⟩ := bd_some h
 refine AW.G Fm [.s, .k (cE [] [] (vb e) [] []), .s] (fun K => K 1 ∧ True) [(0, vi a), (1, vi c), (5, vb e)] [] ⟨KAt.CC (cmp_isNaN_int_spec o) Try.call45 [], ⟨⟩⟩ ?_
 refine AW.seq ?_
 obtain ⟨d, p, h⟩ := bd_some h
 refine AW.G Fm [.s, .k (cE [] [] (vb d) [] []), .s] (fun K => K 1 ∧ True) [(0, vi a), (1, vi c), (5, vb e), (6, vb d)] [] ⟨KAt.CC (cmp_isNaN_int_spec p) Try.call45 [], ⟨⟩⟩ ?_
 refine AW.seq ?_
 refine AW.SG0 Fm 1 [(0, vi a), (1, vi c), (6, vb d), (11, vb e)] [] ?_
 refine AW.cond (b := e) (by kernel_rfl) (fun i => ?_) (fun i => ?_)
 ·have h := br_t h i
  refine AW.seq ?_
  refine AW.SG0 Fm 1 [(12, vb d)] [] ?_
  refine AW.cond (b := d) (by kernel_rfl) (fun j => ?_) (fun j => ?_)
  ·have h := br_t h j
   refine AW.SG0 Fm 1 [(4, vi (0 : Int))] [] ?_
   refine AW.ret ?_
   obtain rfl := Option.some.inj h
   exact Kn.D Fm
  ·have h := br_f h j
   refine AW.skip ?_
   refine AW.SG0 Fm 1 [(4, vi (-1 : Int))] [] ?_
   refine AW.ret ?_
   obtain rfl := Option.some.inj h
   exact Kn.D Fm
 ·have h := br_f h i
  refine AW.skip ?_
  refine AW.seq ?_
  refine AW.SG0 Fm 1 [(0, vi a), (1, vi c), (13, vb d)] [] ?_
  refine AW.cond (b := d) (by kernel_rfl) (fun l => ?_) (fun l => ?_)
  ·have h := br_t h l
   refine AW.SG0 Fm 1 [(4, vi (1 : Int))] [] ?_
   refine AW.ret ?_
   obtain rfl := Option.some.inj h
   exact Kn.D Fm
  ·have h := br_f h l
   refine AW.skip ?_
   refine AW.seq ?_
   refine AW.SG0 Fm 3 [(0, vi a), (1, vi c), (16, vb (decide (a < c)))] [] ?_
   refine AW.cond (b := (decide (a < c))) (by kernel_rfl) (fun m => ?_) (fun m => ?_)
   ·have h := br_t h m
    refine AW.SG0 Fm 1 [(4, vi (-1 : Int))] [] ?_
    refine AW.ret ?_
    obtain rfl := Option.some.inj h
    exact Kn.D Fm
   ·have h := br_f h m
    refine AW.skip ?_
    refine AW.seq ?_
    refine AW.SG0 Fm 3 [(19, vb (decide (c < a)))] [] ?_
    refine AW.cond (b := (decide (c < a))) (by kernel_rfl) (fun n => ?_) (fun n => ?_)
    ·have h := br_t h n
     refine AW.SG0 Fm 1 [(4, vi (1 : Int))] [] ?_
     refine AW.ret ?_
     obtain rfl := Option.some.inj h
     exact Kn.D Fm
    ·have h := br_f h n
     refine AW.skip ?_
     refine AW.SG0 Fm 1 [(4, vi (0 : Int))] [] ?_
     refine AW.ret ?_
     obtain rfl := Option.some.inj h
     exact Kn.D Fm
theorem region_Row_1_spec {F : Nat} {a : Span} {b : Span} {r : Int} (h : region_Row_1 F a b = some r) :
  FSpec Try.prog 83 [gE a, gE b] [] (vi r) [] := by
 refine FSpec.intro prog_mixed prog_lay Try.func83 rfl (by kernel_rfl) fun C Fm => ?_
 unfold region_Row_1 at h
 refine AW.SG0 Fm 3 [(2, pt 2), (3, pt 3)] [(2, bx (gC a)), (3, bx (gC b))] ?_
 refine AW.seq ?_
 obtain ⟨c, d, h⟩ := bd_some h
 refine AW.G Fm [.s, .s, .s, .s, .k (cE [] [] (vi c) [] []), .s] (fun K => K 4 ∧ True) [(4, vi c)] [] ⟨KAt.CC (cmp_Compare_int_spec d) Try.call34 [], ⟨⟩⟩ ?_
 refine AW.ret ?_
 obtain rfl := Option.some.inj h
 exact Kn.D Fm
theorem region_Row_spec {F : Nat} {a : (List Rect)} {o : Int} {r : (List Span)} (h : region_Row F a o = some r) :
  FSpec Try.prog 62 [AL a, vi o] [] (AL (α := Span) r) [] := by
 refine FSpec.intro prog_mixed prog_lay Try.func62 rfl (by kernel_rfl) fun C Fm => ?_
 unfold region_Row at h
 refine AW.SG0 Fm 1 [(0, AL a), (1, vi o)] [] ?_
 refine AW.SG Fm [.m] (fun K => True) [(0, AL a), (1, vi o), (5, ow 5)] [(5, .arr 2 (0) (fun _ => []))] True.intro ?_
 refine Kn.wk [(0, AL a), (1, vi o), (5, ow 5)] [(5, AO (α := Span) ([] : List Span))] (FE.refl _) (⟨rfl, OLe.is ((Is.nil (α := Span))), ⟨⟩⟩) ?_
 refine AW.join (r := r) (fun z : (List Span) => region_Row_k3 F z) (fun z => [(5, ow 5)]) (fun z => [(5, AO z)]) (fun s0 h => ?_) (fun B0 b0 => ?_)
 ·refine AW.seq ?_
  obtain ⟨e, p0, h⟩ := bd_some h
  refine AW.G Fm [.s, .k (cE [(0, 5)] [] (.any) [(0, AO s0)] [(0, AO e)])] (fun K => K 1 ∧ True) [(5, ow 5)] [(5, AO e)] ⟨KAt.callX (sortF_spec p0) Try.call82 [(0, 5)] [] [.tmp 37, .func 83] rfl (by kernel_rfl) (by kernel_rfl) (by kernel_rfl) ⟨.p, ArgT.cloX Try.call83 [] (fun args r hq => by obtain ⟨y0, y1, y, hq, rfl, rfl⟩ := hq; exact Eq.mp (by kernel_rfl) (region_Row_1_spec hq)) (fun args r hq => by obtain ⟨y0, y1, y, hq, rfl, rfl⟩ := hq; rfl) (by kernel_rfl) [] (by kernel_rfl) (by kernel_rfl) (True.intro) (by kernel_rfl), ⟨⟩⟩, ⟨⟩⟩ ?_
  refine AW.SG Fm [.m] (fun K => True) [(5, ow 5), (8, ow 8)] [(5, AO e), (8, .arr 2 (0) (fun _ => []))] True.intro ?_
  refine Kn.wk [(5, ow 5), (8, ow 8)] [(5, AO e), (8, AO (α := Span) ([] : List Span))] (FE.refl _) (⟨rfl, OLe.refl _, ⟨rfl, OLe.is ((Is.nil (α := Span))), ⟨⟩⟩⟩) ?_
  refine AW.join (r := r) (fun z : (List Span) => region_Row_k7 F z) (fun z => [(8, ow 8)]) (fun z => [(8, AO z)]) (fun L h => ?_) (fun H0 d0 => ?_)
  ·refine AW.SG0 Fm 2 [(4, ow 8)] [(8, AO L)] ?_
   refine AW.ret ?_
   obtain rfl := Option.some.inj h
   refine Kn.r Fm [(4, ow 8)] [(8, AO L)] (by kernel_rfl) ?_
   refine Kn.frz [(4, AL L)] [] (by kernel_rfl) (by kernel_rfl) (by kernel_rfl) ?_
   exact Kn.D Fm
  ·refine AW.SG0 Fm 3 [(8, ow 8), (39, ow 5), (40, vi ((List.length e : Nat) : Int)), (41, vi (0 : Int))] [(5, AO e), (8, AO (α := Span) ([] : List Span))] ?_
   refine AW.block ?_
   refine Kn.r Fm [(8, ow 8), (39, ow 5), (40, vi ((List.length e : Nat) : Int)), (41, vi (0 : Int))] [(5, AO e), (8, AO ([] : List Span))] (by kernel_rfl) ?_
   refine AW.loopF (E' := fun z => [(8, ow 8), (39, ow 5), (40, vi ((List.length e : Nat) : Int)), (41, vi z.1)]) (S' := fun z => [(5, AO e), (8, AO z.2)]) (fun N z D0 c0 h => ?_) h
   obtain ⟨n, l⟩ := z
   refine AW.SG0 Fm 1 [(8, ow 8), (39, ow 5), (40, vi ((List.length e : Nat) : Int)), (41, vi n), (42, vb (decide (n < ((List.length e : Nat) : Int))))] [(5, AO e), (8, AO l)] ?_
   refine AW.seq ?_
   refine AW.cond (b := (decide (n < ((List.length e : Nat) : Int)))) (by kernel_rfl) (fun E => ?_) (fun E => ?_)
   ·have h := br_t h E
    refine AW.skip ?_
    refine AW.join (r := r) (fun z : (List Span) => region_Row_k6 F n N z) (fun z => [(8, ow 8), (39, ow 5), (40, vi ((List.length e : Nat) : Int)), (41, vi n)]) (fun z => [(5, AO e), (8, AO z)]) (fun Z h => ?_) (fun G0 U => ?_)
    ·obtain ⟨o0, h⟩ := gd_some h
     refine AW.G Fm [.s, .s] (fun K => (I64 (n + (1 : Int)) ∧ True) ∧ True) [(8, ow 8), (39, ow 5), (40, vi ((List.length e : Nat) : Int)), (41, vi (n + (1 : Int)))] [(5, AO e), (8, AO Z)] ⟨⟨o0, ⟨⟩⟩, ⟨⟩⟩ ?_
     exact Kn.R Fm (c0 ((n + (1 : Int)), Z) h)
    ·refine AW.block ?_
     obtain ⟨V, h⟩ := gd_some h
     refine AW.SG Fm [.s, .s, .s, .s] (fun K => _ ∧ (n.toNat < List.length e) ∧ True) [(8, ow 8), (10, pt 10), (39, ow 5), (40, vi ((List.length e : Nat) : Int)), (41, vi n)] [(5, AO e), (8, AO l), (10, bx [ci ((gl e n.toNat).left_), ci ((gl e n.toNat).right_)])] ⟨V, (toNat_lt V), ⟨⟩⟩ ?_
     refine AW.SG0 Fm 3 [(8, ow 8), (10, pt 10), (11, vi ((List.length l : Nat) : Int)), (39, ow 5), (40, vi ((List.length e : Nat) : Int)), (41, vi n)] [(5, AO e), (8, AO l), (10, bx [ci ((gl e n.toNat).left_), ci ((gl e n.toNat).right_)])] ?_
     refine AW.join (r := r) (fun z : Bool => region_Row_k5 F e n l N z) (fun z => [(8, ow 8), (10, pt 10), (11, vi ((List.length l : Nat) : Int)), (39, ow 5), (40, vi ((List.length e : Nat) : Int)), (41, vi n), (59, vb z)]) (fun z => [(5, AO e), (8, AO l), (10, bx [ci ((gl e n.toNat).left_), ci ((gl e n.toNat).right_)])]) (fun t0 h => ?_) (fun E0 T => ?_)
     ·refine AW.cond (b := t0) (by kernel_rfl) (fun H => ?_) (fun H => ?_)
      ·have h := br_t h H
       obtain ⟨l0, h⟩ := gd_some h
       obtain ⟨m0, h⟩ := gd_some h
       obtain ⟨X, h⟩ := gd_some h
       obtain ⟨I, h⟩ := gd_some h
       refine AW.G Fm [.s, .s, .s, .s, .s, .s, .s, .s, .s, .s, .s, .s, .s, .s, .s] (fun K => (I64 (((List.length l : Nat) : Int) - (1 : Int)) ∧ True) ∧ (I64 (((List.length l : Nat) : Int) - (1 : Int)) ∧ True) ∧ _ ∧ ((((List.length l : Nat) : Int) - (1 : Int)).toNat < List.length l) ∧ _ ∧ ((((List.length l : Nat) : Int) - (1 : Int)).toNat < List.length l) ∧ True) [(8, ow 8), (39, ow 5), (40, vi ((List.length e : Nat) : Int)), (41, vi n)] [(5, AO e), (8, .arr 2 (List.length (α := Span) l) (fun j => if j = (((List.length l : Nat) : Int) - (1 : Int)).toNat then splice ((LF (α := Span) l) (((List.length l : Nat) : Int) - (1 : Int)).toNat) 1 [.int .i64 (gmax ((gl l (((List.length l : Nat) : Int) - (1 : Int)).toNat).right_) ((gl e n.toNat).right_))] else (LF (α := Span) l) j))] ⟨⟨l0, ⟨⟩⟩, ⟨m0, ⟨⟩⟩, X, (toNat_lt X), I, (toNat_lt I), ⟨⟩⟩ ?_
       refine Kn.wk [(8, ow 8), (39, ow 5), (40, vi ((List.length e : Nat) : Int)), (41, vi n)] [(5, AO e), (8, AO (α := Span) (List.set l (((List.length l : Nat) : Int) - (1 : Int)).toNat (⟨(gl l (((List.length l : Nat) : Int) - (1 : Int)).toNat).left_, (gmax ((gl l (((List.length l : Nat) : Int) - (1 : Int)).toNat).right_) ((gl e n.toNat).right_))⟩ : Span)))] (FE.refl _) (⟨rfl, OLe.refl _, ⟨rfl, OLe.is (Is.set (Is.refl l) (toNat_lt I) (⟨(gl l (((List.length l : Nat) : Int) - (1 : Int)).toNat).left_, (gmax ((gl l (((List.length l : Nat) : Int) - (1 : Int)).toNat).right_) ((gl e n.toNat).right_))⟩ : Span) (by kernel_rfl)), ⟨⟩⟩⟩) ?_
       exact Kn.R Fm (U (List.set l (((List.length l : Nat) : Int) - (1 : Int)).toNat (⟨(gl l (((List.length l : Nat) : Int) - (1 : Int)).toNat).left_, (gmax ((gl l (((List.length l : Nat) : Int) - (1 : Int)).toNat).right_) ((gl e n.toNat).right_))⟩ : Span)) h)
      ·have h := br_f h H
       obtain ⟨n0, h⟩ := gd_some h
       refine AW.G Fm [.s, .s, .w (AL (α := Span) ([(gl e n.toNat)] : List Span)), .s, .s] (fun K => (ALe (.v (.c (.d (.lst 1 (litF 2 [.int .i64 (gl e n.toNat).left_, .int .i64 (gl e n.toNat).right_]))))) (AL (α := Span) ([(gl e n.toNat)] : List Span))) ∧ ((List.length (α := Span) l) + (List.length (α := Span) ([(gl e n.toNat)] : List Span)) ≤ LIM ∧ (∀ j, j < List.length (α := Span) ([(gl e n.toNat)] : List Span) → ((LF (α := Span) ([(gl e n.toNat)] : List Span)) j).length = 2) ∧ (True)) ∧ True) [(8, ow 77), (39, ow 5), (40, vi ((List.length e : Nat) : Int)), (41, vi n)] [(5, AO e), (77, .arr 2 ((List.length (α := Span) l) + (List.length (α := Span) ([(gl e n.toNat)] : List Span))) (appF (List.length (α := Span) l) (LF (α := Span) l) (LF (α := Span) ([(gl e n.toNat)] : List Span))))] ⟨ALe.lst (.lit ([(gl e n.toNat)] : List Span) (by kernel_rfl)), ⟨n0, (Is.refl ([(gl e n.toNat)] : List Span) : Is (List.length (α := Span) ([(gl e n.toNat)] : List Span)) (LF (α := Span) ([(gl e n.toNat)] : List Span)) ([(gl e n.toNat)] : List Span)).len, ⟨⟩⟩, ⟨⟩⟩ ?_
       refine Kn.wk [(8, ow 77), (39, ow 5), (40, vi ((List.length e : Nat) : Int)), (41, vi n)] [(5, AO e), (77, AO (α := Span) (l ++ ([(gl e n.toNat)] : List Span)))] (FE.refl _) (⟨rfl, OLe.refl _, ⟨rfl, OLe.is (Is.app (Is.refl l) (Is.refl ([(gl e n.toNat)] : List Span))), ⟨⟩⟩⟩) ?_
       exact Kn.RE Fm [(8, 77)] (U (l ++ ([(gl e n.toNat)] : List Span)) h)
     ·rcases Bool.eq_false_or_eq_true (decide ((0 : Int) < ((List.length l : Nat) : Int))) with u | u
      ·have h := br_t h u
       obtain ⟨k0, h⟩ := gd_some h
       obtain ⟨W, h⟩ := gd_some h
       refine AW.G Fm [.s, .s, .w (vb true), .s, .s, .s, .s, .s, .s, .s, .s, .s, .s] (fun K => (ALe (vb (decide ((0 : Int) < ((List.length l : Nat) : Int)))) (vb true)) ∧ (I64 (((List.length l : Nat) : Int) - (1 : Int)) ∧ True) ∧ _ ∧ ((((List.length l : Nat) : Int) - (1 : Int)).toNat < List.length l) ∧ True) [(8, ow 8), (10, pt 10), (11, vi ((List.length l : Nat) : Int)), (39, ow 5), (40, vi ((List.length e : Nat) : Int)), (41, vi n), (50, pt 10), (51, vi (gl e n.toNat).left_), (52, ow 8), (53, vi ((List.length l : Nat) : Int)), (54, vi (((List.length l : Nat) : Int) - (1 : Int))), (55, .v (.c (.pte 8 2 ((((List.length l : Nat) : Int) - (1 : Int)).toNat) 0))), (56, .v (.c (.pte 8 2 ((((List.length l : Nat) : Int) - (1 : Int)).toNat) 1))), (57, vi (gl l (((List.length l : Nat) : Int) - (1 : Int)).toNat).right_), (58, vb (decide (((gl e n.toNat).left_) ≤ ((gl l (((List.length l : Nat) : Int) - (1 : Int)).toNat).right_)))), (59, vb (decide (((gl e n.toNat).left_) ≤ ((gl l (((List.length l : Nat) : Int) - (1 : Int)).toNat).right_))))] [(5, AO e), (8, AO l), (10, bx [ci ((gl e n.toNat).left_), ci ((gl e n.toNat).right_)])] ⟨ALe.bool u, ⟨k0, ⟨⟩⟩, W, (toNat_lt W), ⟨⟩⟩ ?_
       exact Kn.R Fm (T (decide (((gl e n.toNat).left_) ≤ ((gl l (((List.length l : Nat) : Int) - (1 : Int)).toNat).right_))) h)
      ·have h := br_f h u
       refine AW.G Fm [.s, .s, .w (vb false), .s, .s, .s, .s, .s, .s, .s, .s, .s, .s] (fun K => (ALe (vb (decide ((0 : Int) < ((List.length l : Nat) : Int)))) (vb false)) ∧ True) [(8, ow 8), (10, pt 10), (11, vi ((List.length l : Nat) : Int)), (39, ow 5), (40, vi ((List.length e : Nat) : Int)), (41, vi n), (59, vb false)] [(5, AO e), (8, AO l), (10, bx [ci ((gl e n.toNat).left_), ci ((gl e n.toNat).right_)])] ⟨ALe.bool u, ⟨⟩⟩ ?_
       exact Kn.R Fm (T false h)
   ·have h := br_f h E
    refine AW.exit ?_
    exact Kn.R Fm (d0 l h)
 ·refine AW.SG0 Fm 3 [(1, vi o), (5, ow 5), (12, AL a), (13, vi ((List.length a : Nat) : Int)), (14, vi (0 : Int))] [(5, AO (α := Span) ([] : List Span))] ?_
  refine AW.block ?_
  refine Kn.r Fm [(1, vi o), (5, ow 5), (12, AL a), (13, vi ((List.length a : Nat) : Int)), (14, vi (0 : Int))] [(5, AO ([] : List Span))] (by kernel_rfl) ?_
  refine AW.loopF (E' := fun z => [(1, vi o), (5, ow 5), (12, AL a), (13, vi ((List.length a : Nat) : Int)), (14, vi z.1)]) (S' := fun z => [(5, AO z.2)]) (fun M z u0 a0 h => ?_) h
  obtain ⟨i, q⟩ := z
  refine AW.SG0 Fm 1 [(1, vi o), (5, ow 5), (12, AL a), (13, vi ((List.length a : Nat) : Int)), (14, vi i), (15, vb (decide (i < ((List.length a : Nat) : Int))))] [(5, AO q)] ?_
  refine AW.seq ?_
  refine AW.cond (b := (decide (i < ((List.length a : Nat) : Int)))) (by kernel_rfl) (fun A => ?_) (fun A => ?_)
  ·have h := br_t h A
   refine AW.skip ?_
   refine AW.join (r := r) (fun z : (List Span) => region_Row_k2 F i M z) (fun z => [(1, vi o), (5, ow 35), (12, AL a), (13, vi ((List.length a : Nat) : Int)), (14, vi i)]) (fun z => [(35, AO z)]) (fun Y h => ?_) (fun A0 P => ?_)
   ·obtain ⟨j0, h⟩ := gd_some h
    refine AW.G Fm [.s, .s] (fun K => (I64 (i + (1 : Int)) ∧ True) ∧ True) [(1, vi o), (5, ow 35), (12, AL a), (13, vi ((List.length a : Nat) : Int)), (14, vi (i + (1 : Int)))] [(35, AO Y)] ⟨⟨j0, ⟨⟩⟩, ⟨⟩⟩ ?_
    exact Kn.RE Fm [(5, 35)] (a0 ((i + (1 : Int)), Y) h)
   ·refine AW.block ?_
    obtain ⟨e0, h⟩ := gd_some h
    refine AW.SG Fm [.s, .s, .s, .s] (fun K => _ ∧ True) [(1, vi o), (5, ow 5), (7, pt 7), (12, AL a), (13, vi ((List.length a : Nat) : Int)), (14, vi i)] [(5, AO q), (7, bx [ci ((gl a i.toNat).left_), ci ((gl a i.toNat).low_), ci ((gl a i.toNat).right_), ci ((gl a i.toNat).high_)])] ⟨e0, ⟨⟩⟩ ?_
    refine AW.join (r := r) (fun z : Bool => region_Row_k1 F a i q M z) (fun z => [(1, vi o), (5, ow 5), (7, pt 7), (12, AL a), (13, vi ((List.length a : Nat) : Int)), (14, vi i), (27, vb z)]) (fun z => [(5, AO q), (7, bx [ci ((gl a i.toNat).left_), ci ((gl a i.toNat).low_), ci ((gl a i.toNat).right_), ci ((gl a i.toNat).high_)])]) (fun q0 h => ?_) (fun w0 O => ?_)
    ·refine AW.cond (b := q0) (by kernel_rfl) (fun B => ?_) (fun B => ?_)
     ·have h := br_t h B
      obtain ⟨i0, h⟩ := gd_some h
      refine AW.G Fm [.s, .s, .s, .s, .s, .s, .w (AL (α := Span) ([(⟨(gl a i.toNat).left_, (gl a i.toNat).right_⟩ : Span)] : List Span)), .s, .s] (fun K => (ALe (.v (.c (.d (.lst 1 (litF 2 [.int .i64 (gl a i.toNat).left_, .int .i64 (gl a i.toNat).right_]))))) (AL (α := Span) ([(⟨(gl a i.toNat).left_, (gl a i.toNat).right_⟩ : Span)] : List Span))) ∧ ((List.length (α := Span) q) + (List.length (α := Span) ([(⟨(gl a i.toNat).left_, (gl a i.toNat).right_⟩ : Span)] : List Span)) ≤ LIM ∧ (∀ j, j < List.length (α := Span) ([(⟨(gl a i.toNat).left_, (gl a i.toNat).right_⟩ : Span)] : List Span) → ((LF (α := Span) ([(⟨(gl a i.toNat).left_, (gl a i.toNat).right_⟩ : Span)] : List Span)) j).length = 2) ∧ (True)) ∧ True) [(1, vi o), (5, ow 35), (12, AL a), (13, vi ((List.length a : Nat) : Int)), (14, vi i)] [(35, .arr 2 ((List.length (α := Span) q) + (List.length (α := Span) ([(⟨(gl a i.toNat).left_, (gl a i.toNat).right_⟩ : Span)] : List Span))) (appF (List.length (α := Span) q) (LF (α := Span) q) (LF (α := Span) ([(⟨(gl a i.toNat).left_, (gl a i.toNat).right_⟩ : Span)] : List Span))))] ⟨ALe.lst (.lit ([(⟨(gl a i.toNat).left_, (gl a i.toNat).right_⟩ : Span)] : List Span) (by kernel_rfl)), ⟨i0, (Is.refl ([(⟨(gl a i.toNat).left_, (gl a i.toNat).right_⟩ : Span)] : List Span) : Is (List.length (α := Span) ([(⟨(gl a i.toNat).left_, (gl a i.toNat).right_⟩ : Span)] : List Span)) (LF (α := Span) ([(⟨(gl a i.toNat).left_, (gl a i.toNat).right_⟩ : Span)] : List Span)) ([(⟨(gl a i.toNat).left_, (gl a i.toNat).right_⟩ : Span)] : List Span)).len, ⟨⟩⟩, ⟨⟩⟩ ?_
      refine Kn.wk [(1, vi o), (5, ow 35), (12, AL a), (13, vi ((List.length a : Nat) : Int)), (14, vi i)] [(35, AO (α := Span) (q ++ ([(⟨(gl a i.toNat).left_, (gl a i.toNat).right_⟩ : Span)] : List Span)))] (FE.refl _) (⟨rfl, OLe.is (Is.app (Is.refl q) (Is.refl ([(⟨(gl a i.toNat).left_, (gl a i.toNat).right_⟩ : Span)] : List Span))), ⟨⟩⟩) ?_
      exact Kn.R Fm (P (q ++ ([(⟨(gl a i.toNat).left_, (gl a i.toNat).right_⟩ : Span)] : List Span)) h)
     ·have h := br_f h B
      refine AW.skip ?_
      exact Kn.RE Fm [(35, 5)] (P q h)
    ·rcases Bool.eq_false_or_eq_true (decide (((gl a i.toNat).low_) ≤ o)) with t | t
     ·have h := br_t h t
      refine AW.G Fm [.s, .s, .s, .s, .w (vb true), .s, .s, .s, .s, .s] (fun K => (ALe (vb (decide (((gl a i.toNat).low_) ≤ o))) (vb true)) ∧ True) [(1, vi o), (5, ow 5), (7, pt 7), (12, AL a), (13, vi ((List.length a : Nat) : Int)), (14, vi i), (23, vi o), (24, .v (.c (.ptr 7 3))), (25, vi (gl a i.toNat).high_), (26, vb (decide (o < ((gl a i.toNat).high_)))), (27, vb (decide (o < ((gl a i.toNat).high_))))] [(5, AO q), (7, bx [ci ((gl a i.toNat).left_), ci ((gl a i.toNat).low_), ci ((gl a i.toNat).right_), ci ((gl a i.toNat).high_)])] ⟨ALe.bool t, ⟨⟩⟩ ?_
      exact Kn.R Fm (O (decide (o < ((gl a i.toNat).high_))) h)
     ·have h := br_f h t
      refine AW.G Fm [.s, .s, .s, .s, .w (vb false), .s, .s, .s, .s, .s] (fun K => (ALe (vb (decide (((gl a i.toNat).low_) ≤ o))) (vb false)) ∧ True) [(1, vi o), (5, ow 5), (7, pt 7), (12, AL a), (13, vi ((List.length a : Nat) : Int)), (14, vi i), (27, vb false)] [(5, AO q), (7, bx [ci ((gl a i.toNat).left_), ci ((gl a i.toNat).low_), ci ((gl a i.toNat).right_), ci ((gl a i.toNat).high_)])] ⟨ALe.bool t, ⟨⟩⟩ ?_
      exact Kn.R Fm (O false h)
  ·have h := br_f h A
   refine AW.exit ?_
   exact Kn.R Fm (b0 q h)
theorem region_canonical_1_spec {F : Nat} {b : Int} {a : (List Rect)} {r : (List Span)} (h : region_canonical_1 F b a = some r) :
  FSpec Try.prog 61 [vi b, pt 0] [(0, .box true [.d (DL a)])] (AL (α := Span) r) [(0, .box true [.d (DL a)])] := by
 refine FSpec.intro prog_mixed prog_lay Try.func61 rfl (by kernel_rfl) fun C Fm => ?_
 unfold region_canonical_1 at h
 refine AW.SG0 Fm 1 [(0, vi b), (1, pt 0)] [(0, .box true [.d (DL a)])] ?_
 refine AW.seq ?_
 obtain ⟨c, e, h⟩ := bd_some h
 refine AW.G Fm [.s, .s, .k (cE [] [] (AL c) [] []), .s] (fun K => K 2 ∧ True) [(3, AL c)] [(0, .box true [.d (DL a)])] ⟨KAt.CC (region_Row_spec e) Try.call62 [], ⟨⟩⟩ ?_
 refine AW.ret ?_
 obtain rfl := Option.some.inj h
 exact Kn.D Fm
theorem slices_Equal_Span_spec {F : Nat} {a : (List Span)} {d : (List Span)} {r : Bool} (h : slices_Equal_Span F a d = some r) :
  FSpec Try.prog 79 [AL a, AL d] [] (vb r) [] := by
 refine FSpec.intro prog_mixed prog_lay Try.func79 rfl (by kernel_rfl) fun C Fm => ?_
 unfold slices_Equal_Span at h
 refine AW.SG0 Fm 1 [(0, AL a), (1, AL d)] [] ?_
 refine AW.seq ?_
 refine AW.SG0 Fm 5 [(0, AL a), (1, AL d), (10, vb (((List.length a : Nat) : Int) != ((List.length d : Nat) : Int)))] [] ?_
 refine AW.cond (b := (((List.length a : Nat) : Int) != ((List.length d : Nat) : Int))) (by kernel_rfl) (fun e => ?_) (fun e => ?_)
 ·have h := br_t h e
  refine AW.SG0 Fm 1 [(4, vb false)] [] ?_
  refine AW.ret ?_
  obtain rfl := Option.some.inj h
  exact Kn.D Fm
 ·have h := br_f h e
  refine AW.skip ?_
  refine AW.join (r := r) (fun z : Unit => slices_Equal_Span_k1 F) (fun z => []) (fun z => []) (fun z h => ?_) (fun t m => ?_)
  ·refine AW.SG0 Fm 1 [(4, vb true)] [] ?_
   refine AW.ret ?_
   obtain rfl := Option.some.inj h
   exact Kn.D Fm
  ·refine AW.SG0 Fm 3 [(0, AL a), (1, AL d), (12, vi ((List.length a : Nat) : Int)), (13, vi (0 : Int))] [] ?_
   refine AW.block ?_
   refine Kn.r Fm [(0, AL a), (1, AL d), (12, vi ((List.length a : Nat) : Int)), (13, vi (0 : Int))] [] (by kernel_rfl) ?_
   refine AW.loopF (E' := fun z => [(0, AL a), (1, AL d), (12, vi ((List.length a : Nat) : Int)), (13, vi z)]) (S' := fun z => []) (fun u c q l h => ?_) h
   refine AW.SG0 Fm 1 [(0, AL a), (1, AL d), (12, vi ((List.length a : Nat) : Int)), (13, vi c), (14, vb (decide (c < ((List.length a : Nat) : Int))))] [] ?_
   refine AW.seq ?_
   refine AW.cond (b := (decide (c < ((List.length a : Nat) : Int)))) (by kernel_rfl) (fun i => ?_) (fun i => ?_)
   ·have h := br_t h i
    refine AW.skip ?_
    refine AW.seq ?_
    refine AW.block ?_
    refine AW.SG0 Fm 2 [(0, AL a), (1, AL d), (5, vi c), (12, vi ((List.length a : Nat) : Int)), (13, vi c)] [] ?_
    obtain ⟨n, h⟩ := gd_some h
    obtain ⟨o, h⟩ := gd_some h
    refine AW.SG Fm [.s, .s, .s, .s, .s, .s, .s, .s, .k (sE (vb (!((((gl a c.toNat).left_) == ((gl d c.toNat).left_)) && ((((gl a c.toNat).right_) == ((gl d c.toNat).right_)) && true)))))] (fun K => _ ∧ _ ∧ K 8 ∧ True) [(0, AL a), (1, AL d), (12, vi ((List.length a : Nat) : Int)), (13, vi c), (24, vb (!((((gl a c.toNat).left_) == ((gl d c.toNat).left_)) && ((((gl a c.toNat).right_) == ((gl d c.toNat).right_)) && true))))] [] ⟨n, o, KAt.eq (xs := [ci ((gl a c.toNat).left_), ci ((gl a c.toNat).right_)]) (ys := [ci ((gl d c.toNat).left_), ci ((gl d c.toNat).right_)]) eqT113 false (b := ((((gl a c.toNat).left_) == ((gl d c.toNat).left_)) && ((((gl a c.toNat).right_) == ((gl d c.toNat).right_)) && true))) rfl rfl (by kernel_rfl) (by kernel_rfl) (by kernel_rfl) (by kernel_rfl), ⟨⟩⟩ ?_
    refine AW.cond (b := (!((((gl a c.toNat).left_) == ((gl d c.toNat).left_)) && ((((gl a c.toNat).right_) == ((gl d c.toNat).right_)) && true)))) (by kernel_rfl) (fun j => ?_) (fun j => ?_)
    ·have h := br_t h j
     refine AW.SG0 Fm 1 [(4, vb false)] [] ?_
     refine AW.ret ?_
     obtain rfl := Option.some.inj h
     exact Kn.D Fm
    ·have h := br_f h j
     refine AW.skip ?_
     obtain ⟨p, h⟩ := gd_some h
     refine AW.G Fm [.s, .s] (fun K => (I64 (c + (1 : Int)) ∧ True) ∧ True) [(0, AL a), (1, AL d), (12, vi ((List.length a : Nat) : Int)), (13, vi (c + (1 : Int)))] [] ⟨⟨p, ⟨⟩⟩, ⟨⟩⟩ ?_
     exact Kn.R Fm (l (c + (1 : Int)) h)
   ·have h := br_f h i
    refine AW.exit ?_
    exact Kn.R Fm (m () h)
theorem region_rects_spec {F : Nat} {a : (List Band)} {r : (List Rect)} (h : region_rects F a = some r) :
  FSpec Try.prog 80 [AL a] [] (AL (α := Rect) r) [] := by
 refine FSpec.intro prog_mixed prog_lay Try.func80 rfl (by kernel_rfl) fun C Fm => ?_
 unfold region_rects at h
 refine AW.SG0 Fm 1 [(0, AL a)] [] ?_
 refine AW.SG Fm [.m] (fun K => True) [(0, AL a), (3, ow 3)] [(3, .arr 4 (0) (fun _ => []))] True.intro ?_
 refine Kn.wk [(0, AL a), (3, ow 3)] [(3, AO (α := Rect) ([] : List Rect))] (FE.refl _) (⟨rfl, OLe.is ((Is.nil (α := Rect))), ⟨⟩⟩) ?_
 refine AW.join (r := r) (fun z : (List Rect) => region_rects_k3 F z) (fun z => [(3, ow 3)]) (fun z => [(3, AO z)]) (fun p h => ?_) (fun T B => ?_)
 ·refine AW.SG0 Fm 2 [(2, ow 3)] [(3, AO p)] ?_
  refine AW.ret ?_
  obtain rfl := Option.some.inj h
  refine Kn.r Fm [(2, ow 3)] [(3, AO p)] (by kernel_rfl) ?_
  refine Kn.frz [(2, AL p)] [] (by kernel_rfl) (by kernel_rfl) (by kernel_rfl) ?_
  exact Kn.D Fm
 ·refine AW.SG0 Fm 3 [(3, ow 3), (8, AL a), (9, vi ((List.length a : Nat) : Int)), (10, vi (0 : Int))] [(3, AO (α := Rect) ([] : List Rect))] ?_
  refine AW.block ?_
  refine Kn.r Fm [(3, ow 3), (8, AL a), (9, vi ((List.length a : Nat) : Int)), (10, vi (0 : Int))] [(3, AO ([] : List Rect))] (by kernel_rfl) ?_
  refine AW.loopF (E' := fun z => [(3, ow 3), (8, AL a), (9, vi ((List.length a : Nat) : Int)), (10, vi z.1)]) (S' := fun z => [(3, AO z.2)]) (fun t z N u h => ?_) h
  obtain ⟨e, l⟩ := z
  refine AW.SG0 Fm 1 [(3, ow 3), (8, AL a), (9, vi ((List.length a : Nat) : Int)), (10, vi e), (11, vb (decide (e < ((List.length a : Nat) : Int))))] [(3, AO l)] ?_
  refine AW.seq ?_
  refine AW.cond (b := (decide (e < ((List.length a : Nat) : Int)))) (by kernel_rfl) (fun n => ?_) (fun n => ?_)
  ·have h := br_t h n
   refine AW.skip ?_
   refine AW.join (r := r) (fun z : (List Rect) => region_rects_k2 F e t z) (fun z => [(3, ow 3), (8, AL a), (9, vi ((List.length a : Nat) : Int)), (10, vi e)]) (fun z => [(3, AO z)]) (fun q h => ?_) (fun P A => ?_)
   ·obtain ⟨M, h⟩ := gd_some h
    refine AW.G Fm [.s, .s] (fun K => (I64 (e + (1 : Int)) ∧ True) ∧ True) [(3, ow 3), (8, AL a), (9, vi ((List.length a : Nat) : Int)), (10, vi (e + (1 : Int)))] [(3, AO q)] ⟨⟨M, ⟨⟩⟩, ⟨⟩⟩ ?_
    exact Kn.R Fm (u ((e + (1 : Int)), q) h)
   ·refine AW.block ?_
    obtain ⟨E, h⟩ := gd_some h
    refine AW.SG Fm [.s, .s, .s, .s] (fun K => _ ∧ True) [(3, ow 3), (5, pt 5), (8, AL a), (9, vi ((List.length a : Nat) : Int)), (10, vi e)] [(3, AO l), (5, bx [ci ((gl a e.toNat).low_), ci ((gl a e.toNat).high_), .d (DL (α := Span) (gl a e.toNat).spans_)])] ⟨E, ⟨⟩⟩ ?_
    refine AW.SG0 Fm 4 [(3, ow 3), (5, pt 5), (8, AL a), (9, vi ((List.length a : Nat) : Int)), (10, vi e), (15, AL (α := Span) (gl a e.toNat).spans_), (16, vi ((List.length ((gl a e.toNat).spans_) : Nat) : Int)), (17, vi (0 : Int))] [(3, AO l), (5, bx [ci ((gl a e.toNat).low_), ci ((gl a e.toNat).high_), .d (DL (α := Span) (gl a e.toNat).spans_)])] ?_
    refine AW.block ?_
    refine Kn.r Fm [(3, ow 3), (5, pt 5), (8, AL a), (9, vi ((List.length a : Nat) : Int)), (10, vi e), (15, AL (α := Span) (gl a e.toNat).spans_), (16, vi ((List.length ((gl a e.toNat).spans_) : Nat) : Int)), (17, vi (0 : Int))] [(3, AO l), (5, bx [ci ((gl a e.toNat).low_), ci ((gl a e.toNat).high_), .d (DL (α := Span) (gl a e.toNat).spans_)])] (by kernel_rfl) ?_
    refine AW.loopF (E' := fun z => [(3, ow 3), (5, pt 5), (8, AL a), (9, vi ((List.length a : Nat) : Int)), (10, vi e), (15, AL (α := Span) (gl a e.toNat).spans_), (16, vi ((List.length ((gl a e.toNat).spans_) : Nat) : Int)), (17, vi z.1)]) (S' := fun z => [(3, AO z.2), (5, bx [ci ((gl a e.toNat).low_), ci ((gl a e.toNat).high_), .d (DL (α := Span) (gl a e.toNat).spans_)])]) (fun U z O y h => ?_) h
    obtain ⟨i, k⟩ := z
    refine AW.SG0 Fm 1 [(3, ow 3), (5, pt 5), (8, AL a), (9, vi ((List.length a : Nat) : Int)), (10, vi e), (15, AL (α := Span) (gl a e.toNat).spans_), (16, vi ((List.length ((gl a e.toNat).spans_) : Nat) : Int)), (17, vi i), (18, vb (decide (i < ((List.length ((gl a e.toNat).spans_) : Nat) : Int))))] [(3, AO k), (5, bx [ci ((gl a e.toNat).low_), ci ((gl a e.toNat).high_), .d (DL (α := Span) (gl a e.toNat).spans_)])] ?_
    refine AW.seq ?_
    refine AW.cond (b := (decide (i < ((List.length ((gl a e.toNat).spans_) : Nat) : Int)))) (by kernel_rfl) (fun o => ?_) (fun o => ?_)
    ·have h := br_t h o
     refine AW.skip ?_
     refine AW.seq ?_
     refine AW.block ?_
     obtain ⟨H, h⟩ := gd_some h
     refine AW.SG Fm [.s, .s, .s, .s] (fun K => _ ∧ True) [(3, ow 3), (5, pt 5), (7, pt 7), (8, AL a), (9, vi ((List.length a : Nat) : Int)), (10, vi e), (15, AL (α := Span) (gl a e.toNat).spans_), (16, vi ((List.length ((gl a e.toNat).spans_) : Nat) : Int)), (17, vi i)] [(3, AO k), (5, bx [ci ((gl a e.toNat).low_), ci ((gl a e.toNat).high_), .d (DL (α := Span) (gl a e.toNat).spans_)]), (7, bx [ci ((gl ((gl a e.toNat).spans_) i.toNat).left_), ci ((gl ((gl a e.toNat).spans_) i.toNat).right_)])] ⟨H, ⟨⟩⟩ ?_
     obtain ⟨I, h⟩ := gd_some h
     refine AW.G Fm [.s, .s, .s, .s, .s, .s, .s, .s, .s, .s, .w (AL (α := Rect) ([(⟨(gl ((gl a e.toNat).spans_) i.toNat).left_, (gl a e.toNat).low_, (gl ((gl a e.toNat).spans_) i.toNat).right_, (gl a e.toNat).high_⟩ : Rect)] : List Rect)), .s, .s] (fun K => (ALe (.v (.c (.d (.lst 1 (litF 4 [.int .i64 (gl ((gl a e.toNat).spans_) i.toNat).left_, .int .i64 (gl a e.toNat).low_, .int .i64 (gl ((gl a e.toNat).spans_) i.toNat).right_, .int .i64 (gl a e.toNat).high_]))))) (AL (α := Rect) ([(⟨(gl ((gl a e.toNat).spans_) i.toNat).left_, (gl a e.toNat).low_, (gl ((gl a e.toNat).spans_) i.toNat).right_, (gl a e.toNat).high_⟩ : Rect)] : List Rect))) ∧ ((List.length (α := Rect) k) + (List.length (α := Rect) ([(⟨(gl ((gl a e.toNat).spans_) i.toNat).left_, (gl a e.toNat).low_, (gl ((gl a e.toNat).spans_) i.toNat).right_, (gl a e.toNat).high_⟩ : Rect)] : List Rect)) ≤ LIM ∧ (∀ j, j < List.length (α := Rect) ([(⟨(gl ((gl a e.toNat).spans_) i.toNat).left_, (gl a e.toNat).low_, (gl ((gl a e.toNat).spans_) i.toNat).right_, (gl a e.toNat).high_⟩ : Rect)] : List Rect) → ((LF (α := Rect) ([(⟨(gl ((gl a e.toNat).spans_) i.toNat).left_, (gl a e.toNat).low_, (gl ((gl a e.toNat).spans_) i.toNat).right_, (gl a e.toNat).high_⟩ : Rect)] : List Rect)) j).length = 4) ∧ (True)) ∧ True) [(3, ow 32), (5, pt 5), (8, AL a), (9, vi ((List.length a : Nat) : Int)), (10, vi e), (15, AL (α := Span) (gl a e.toNat).spans_), (16, vi ((List.length ((gl a e.toNat).spans_) : Nat) : Int)), (17, vi i)] [(5, bx [ci ((gl a e.toNat).low_), ci ((gl a e.toNat).high_), .d (DL (α := Span) (gl a e.toNat).spans_)]), (32, .arr 4 ((List.length (α := Rect) k) + (List.length (α := Rect) ([(⟨(gl ((gl a e.toNat).spans_) i.toNat).left_, (gl a e.toNat).low_, (gl ((gl a e.toNat).spans_) i.toNat).right_, (gl a e.toNat).high_⟩ : Rect)] : List Rect))) (appF (List.length (α := Rect) k) (LF (α := Rect) k) (LF (α := Rect) ([(⟨(gl ((gl a e.toNat).spans_) i.toNat).left_, (gl a e.toNat).low_, (gl ((gl a e.toNat).spans_) i.toNat).right_, (gl a e.toNat).high_⟩ : Rect)] : List Rect))))] ⟨ALe.lst (.lit ([(⟨(gl ((gl a e.toNat).spans_) i.toNat).left_, (gl a e.toNat).low_, (gl ((gl a e.toNat).spans_) i.toNat).right_, (gl a e.toNat).high_⟩ : Rect)] : List Rect) (by kernel_rfl)), ⟨I, (Is.refl ([(⟨(gl ((gl a e.toNat).spans_) i.toNat).left_, (gl a e.toNat).low_, (gl ((gl a e.toNat).spans_) i.toNat).right_, (gl a e.toNat).high_⟩ : Rect)] : List Rect) : Is (List.length (α := Rect) ([(⟨(gl ((gl a e.toNat).spans_) i.toNat).left_, (gl a e.toNat).low_, (gl ((gl a e.toNat).spans_) i.toNat).right_, (gl a e.toNat).high_⟩ : Rect)] : List Rect)) (LF (α := Rect) ([(⟨(gl ((gl a e.toNat).spans_) i.toNat).left_, (gl a e.toNat).low_, (gl ((gl a e.toNat).spans_) i.toNat).right_, (gl a e.toNat).high_⟩ : Rect)] : List Rect)) ([(⟨(gl ((gl a e.toNat).spans_) i.toNat).left_, (gl a e.toNat).low_, (gl ((gl a e.toNat).spans_) i.toNat).right_, (gl a e.toNat).high_⟩ : Rect)] : List Rect)).len, ⟨⟩⟩, ⟨⟩⟩ ?_
     refine Kn.wk [(3, ow 32), (5, pt 5), (8, AL a), (9, vi ((List.length a : Nat) : Int)), (10, vi e), (15, AL (α := Span) (gl a e.toNat).spans_), (16, vi ((List.length ((gl a e.toNat).spans_) : Nat) : Int)), (17, vi i)] [(5, bx [ci ((gl a e.toNat).low_), ci ((gl a e.toNat).high_), .d (DL (α := Span) (gl a e.toNat).spans_)]), (32, AO (α := Rect) (k ++ ([(⟨(gl ((gl a e.toNat).spans_) i.toNat).left_, (gl a e.toNat).low_, (gl ((gl a e.toNat).spans_) i.toNat).right_, (gl a e.toNat).high_⟩ : Rect)] : List Rect)))] (FE.refl _) (⟨rfl, OLe.refl _, ⟨rfl, OLe.is (Is.app (Is.refl k) (Is.refl ([(⟨(gl ((gl a e.toNat).spans_) i.toNat).left_, (gl a e.toNat).low_, (gl ((gl a e.toNat).spans_) i.toNat).right_, (gl a e.toNat).high_⟩ : Rect)] : List Rect))), ⟨⟩⟩⟩) ?_
     obtain ⟨L, h⟩ := gd_some h
     refine AW.G Fm [.s, .s] (fun K => (I64 (i + (1 : Int)) ∧ True) ∧ True) [(3, ow 32), (5, pt 5), (8, AL a), (9, vi ((List.length a : Nat) : Int)), (10, vi e), (15, AL (α := Span) (gl a e.toNat).spans_), (16, vi ((List.length ((gl a e.toNat).spans_) : Nat) : Int)), (17, vi (i + (1 : Int)))] [(5, bx [ci ((gl a e.toNat).low_), ci ((gl a e.toNat).high_), .d (DL (α := Span) (gl a e.toNat).spans_)]), (32, AO (α := Rect) (k ++ ([(⟨(gl ((gl a e.toNat).spans_) i.toNat).left_, (gl a e.toNat).low_, (gl ((gl a e.toNat).spans_) i.toNat).right_, (gl a e.toNat).high_⟩ : Rect)] : List Rect)))] ⟨⟨L, ⟨⟩⟩, ⟨⟩⟩ ?_
     exact Kn.RE Fm [(3, 32)] (y ((i + (1 : Int)), (k ++ ([(⟨(gl ((gl a e.toNat).spans_) i.toNat).left_, (gl a e.toNat).low_, (gl ((gl a e.toNat).spans_) i.toNat).right_, (gl a e.toNat).high_⟩ : Rect)] : List Rect))) h)
    ·have h := br_f h o
     refine AW.exit ?_
     exact Kn.R Fm (A k h)
  ·have h := br_f h n
   refine AW.exit ?_
   exact Kn.R Fm (B l h)
theorem region_Build_spec {F : Nat} {e : (List Int)} {n : Int → Option (List Span)} {r : (List Rect)} (h : region_Build F e n = some r) :
  FSpec Try.prog 59 [AL e, .v (.c (.sem (CloOK Try.prog (FR_Int_ListSpan n))))] [] (AL (α := Rect) r) [] := by
 refine FSpec.intro prog_mixed prog_lay Try.func59 rfl (by kernel_rfl) fun C Fm => ?_
 unfold region_Build at h
 refine AW.SG0 Fm 1 [(0, AL e), (1, .v (.c (.sem (CloOK Try.prog (FR_Int_ListSpan n)))))] [] ?_
 refine AW.SG Fm [.m] (fun K => True) [(0, AL e), (1, .v (.c (.sem (CloOK Try.prog (FR_Int_ListSpan n))))), (5, ow 5)] [(5, .arr 3 (0) (fun _ => []))] True.intro ?_
 refine Kn.wk [(0, AL e), (1, .v (.c (.sem (CloOK Try.prog (FR_Int_ListSpan n))))), (5, ow 5)] [(5, AO (α := Band) ([] : List Band))] (FE.refl _) (⟨rfl, OLe.is ((Is.nil (α := Band))), ⟨⟩⟩) ?_
 refine AW.join (r := r) (fun z : (List Band) => region_Build_k3 F z) (fun z => [(5, ow 5)]) (fun z => [(5, AO z)]) (fun N h => ?_) (fun n0 T => ?_)
 ·refine AW.seq ?_
  refine Kn.r Fm [(5, ow 5)] [(5, AO N)] (by kernel_rfl) ?_
  refine Kn.frz [(5, AL N)] [] (by kernel_rfl) (by kernel_rfl) (by kernel_rfl) ?_
  obtain ⟨O, i0, h⟩ := bd_some h
  refine AW.G Fm [.s, .k (cE [] [] (AL O) [] []), .s] (fun K => K 1 ∧ True) [(4, AL O)] [] ⟨KAt.CC (region_rects_spec i0) Try.call80 [], ⟨⟩⟩ ?_
  refine AW.ret ?_
  obtain rfl := Option.some.inj h
  exact Kn.D Fm
 ·refine AW.SG0 Fm 1 [(0, AL e), (1, .v (.c (.sem (CloOK Try.prog (FR_Int_ListSpan n))))), (5, ow 5), (6, vi (1 : Int))] [(5, AO (α := Band) ([] : List Band))] ?_
  refine AW.block ?_
  refine Kn.r Fm [(0, AL e), (1, .v (.c (.sem (CloOK Try.prog (FR_Int_ListSpan n))))), (5, ow 5), (6, vi (1 : Int))] [(5, AO ([] : List Band))] (by kernel_rfl) ?_
  refine AW.loopF (E' := fun z => [(0, AL e), (1, .v (.c (.sem (CloOK Try.prog (FR_Int_ListSpan n))))), (5, ow 5), (6, vi z.1)]) (S' := fun z => [(5, AO z.2)]) (fun E z k0 P h => ?_) h
  obtain ⟨i, a⟩ := z
  refine AW.seq ?_
  refine AW.SG0 Fm 4 [(0, AL e), (1, .v (.c (.sem (CloOK Try.prog (FR_Int_ListSpan n))))), (5, ow 5), (6, vi i), (12, vb (decide (i < ((List.length e : Nat) : Int))))] [(5, AO a)] ?_
  refine AW.cond (b := (decide (i < ((List.length e : Nat) : Int)))) (by kernel_rfl) (fun y => ?_) (fun y => ?_)
  ·have h := br_t h y
   refine AW.skip ?_
   refine AW.join (r := r) (fun z : (List Band) => region_Build_k2 F i E z) (fun z => [(0, AL e), (1, .v (.c (.sem (CloOK Try.prog (FR_Int_ListSpan n))))), (5, ow 5), (6, vi i)]) (fun z => [(5, AO z)]) (fun M h => ?_) (fun m0 H => ?_)
   ·obtain ⟨c0, h⟩ := gd_some h
    refine AW.G Fm [.s, .s, .s] (fun K => (I64 (i + (1 : Int)) ∧ True) ∧ True) [(0, AL e), (1, .v (.c (.sem (CloOK Try.prog (FR_Int_ListSpan n))))), (5, ow 5), (6, vi (i + (1 : Int)))] [(5, AO M)] ⟨⟨c0, ⟨⟩⟩, ⟨⟩⟩ ?_
    exact Kn.R Fm (P ((i + (1 : Int)), M) h)
   ·refine AW.block ?_
    refine AW.seq ?_
    obtain ⟨U, h⟩ := gd_some h
    obtain ⟨V, h⟩ := gd_some h
    obtain ⟨W, h⟩ := gd_some h
    obtain ⟨X, h⟩ := gd_some h
    obtain ⟨Y, h⟩ := gd_some h
    obtain ⟨l, d0, h⟩ := bd_some h
    refine AW.G Fm [.s, .s, .s, .s, .s, .s, .s, .s, .s, .s, .s, .s, .s, .s, .s, .k (sE (AL l)), .s, .s, .s] (fun K => (I64 (i - (1 : Int)) ∧ True) ∧ _ ∧ _ ∧ (I64 (i - (1 : Int)) ∧ True) ∧ _ ∧ K 15 ∧ True) [(0, AL e), (1, .v (.c (.sem (CloOK Try.prog (FR_Int_ListSpan n))))), (5, ow 5), (6, vi i), (7, pt 7)] [(5, AO a), (7, bx [ci (gl e (i - (1 : Int)).toNat), ci (gl e i.toNat), .d (DL l)])] ⟨⟨U, ⟨⟩⟩, V, W, ⟨X, ⟨⟩⟩, Y, KAt.sem (F := (FR_Int_ListSpan n)) (args := [vi (gl e (i - (1 : Int)).toNat)]) ⟨(gl e (i - (1 : Int)).toNat), l, d0, rfl, rfl⟩ rfl (by kernel_rfl) (by kernel_rfl) (by kernel_rfl), ⟨⟩⟩ ?_
    refine AW.SG0 Fm 3 [(0, AL e), (1, .v (.c (.sem (CloOK Try.prog (FR_Int_ListSpan n))))), (5, ow 5), (6, vi i), (7, pt 7), (8, vi ((List.length a : Nat) : Int))] [(5, AO a), (7, bx [ci (gl e (i - (1 : Int)).toNat), ci (gl e i.toNat), .d (DL l)])] ?_
    refine AW.join (r := r) (fun z : Bool => region_Build_k1 F e i a l E z) (fun z => [(0, AL e), (1, .v (.c (.sem (CloOK Try.prog (FR_Int_ListSpan n))))), (5, ow 5), (6, vi i), (7, pt 7), (8, vi ((List.length a : Nat) : Int)), (57, vb z)]) (fun z => [(5, AO a), (7, bx [ci (gl e (i - (1 : Int)).toNat), ci (gl e i.toNat), .d (DL l)])]) (fun j0 h => ?_) (fun l0 u => ?_)
    ·refine AW.cond (b := j0) (by kernel_rfl) (fun A => ?_) (fun A => ?_)
     ·have h := br_t h A
      obtain ⟨a0, h⟩ := gd_some h
      obtain ⟨B, h⟩ := gd_some h
      refine AW.G Fm [.s, .s, .s, .s, .s, .s, .s, .s] (fun K => (I64 (((List.length a : Nat) : Int) - (1 : Int)) ∧ True) ∧ _ ∧ ((((List.length a : Nat) : Int) - (1 : Int)).toNat < List.length a) ∧ True) [(0, AL e), (1, .v (.c (.sem (CloOK Try.prog (FR_Int_ListSpan n))))), (5, ow 5), (6, vi i)] [(5, .arr 3 (List.length (α := Band) a) (fun j => if j = (((List.length a : Nat) : Int) - (1 : Int)).toNat then splice ((LF (α := Band) a) (((List.length a : Nat) : Int) - (1 : Int)).toNat) 1 [.int .i64 (gl e i.toNat)] else (LF (α := Band) a) j))] ⟨⟨a0, ⟨⟩⟩, B, (toNat_lt B), ⟨⟩⟩ ?_
      refine Kn.wk [(0, AL e), (1, .v (.c (.sem (CloOK Try.prog (FR_Int_ListSpan n))))), (5, ow 5), (6, vi i)] [(5, AO (α := Band) (List.set a (((List.length a : Nat) : Int) - (1 : Int)).toNat (⟨(gl a (((List.length a : Nat) : Int) - (1 : Int)).toNat).low_, (gl e i.toNat), (gl a (((List.length a : Nat) : Int) - (1 : Int)).toNat).spans_⟩ : Band)))] (FE.refl _) (⟨rfl, OLe.is (Is.set (Is.refl a) (toNat_lt B) (⟨(gl a (((List.length a : Nat) : Int) - (1 : Int)).toNat).low_, (gl e i.toNat), (gl a (((List.length a : Nat) : Int) - (1 : Int)).toNat).spans_⟩ : Band) (by kernel_rfl)), ⟨⟩⟩) ?_
      exact Kn.R Fm (H (List.set a (((List.length a : Nat) : Int) - (1 : Int)).toNat (⟨(gl a (((List.length a : Nat) : Int) - (1 : Int)).toNat).low_, (gl e i.toNat), (gl a (((List.length a : Nat) : Int) - (1 : Int)).toNat).spans_⟩ : Band)) h)
     ·have h := br_f h A
      obtain ⟨b0, h⟩ := gd_some h
      refine AW.G Fm [.s, .s, .w (AL (α := Band) ([(⟨(gl e (i - (1 : Int)).toNat), (gl e i.toNat), l⟩ : Band)] : List Band)), .s, .s] (fun K => (ALe (.v (.c (.d (.lst 1 (litF 3 [.int .i64 (gl e (i - (1 : Int)).toNat), .int .i64 (gl e i.toNat), DL l]))))) (AL (α := Band) ([(⟨(gl e (i - (1 : Int)).toNat), (gl e i.toNat), l⟩ : Band)] : List Band))) ∧ ((List.length (α := Band) a) + (List.length (α := Band) ([(⟨(gl e (i - (1 : Int)).toNat), (gl e i.toNat), l⟩ : Band)] : List Band)) ≤ LIM ∧ (∀ j, j < List.length (α := Band) ([(⟨(gl e (i - (1 : Int)).toNat), (gl e i.toNat), l⟩ : Band)] : List Band) → ((LF (α := Band) ([(⟨(gl e (i - (1 : Int)).toNat), (gl e i.toNat), l⟩ : Band)] : List Band)) j).length = 3) ∧ (True)) ∧ True) [(0, AL e), (1, .v (.c (.sem (CloOK Try.prog (FR_Int_ListSpan n))))), (5, ow 68), (6, vi i)] [(68, .arr 3 ((List.length (α := Band) a) + (List.length (α := Band) ([(⟨(gl e (i - (1 : Int)).toNat), (gl e i.toNat), l⟩ : Band)] : List Band))) (appF (List.length (α := Band) a) (LF (α := Band) a) (LF (α := Band) ([(⟨(gl e (i - (1 : Int)).toNat), (gl e i.toNat), l⟩ : Band)] : List Band))))] ⟨ALe.lst (.lit ([(⟨(gl e (i - (1 : Int)).toNat), (gl e i.toNat), l⟩ : Band)] : List Band) (by kernel_rfl)), ⟨b0, (Is.refl ([(⟨(gl e (i - (1 : Int)).toNat), (gl e i.toNat), l⟩ : Band)] : List Band) : Is (List.length (α := Band) ([(⟨(gl e (i - (1 : Int)).toNat), (gl e i.toNat), l⟩ : Band)] : List Band)) (LF (α := Band) ([(⟨(gl e (i - (1 : Int)).toNat), (gl e i.toNat), l⟩ : Band)] : List Band)) ([(⟨(gl e (i - (1 : Int)).toNat), (gl e i.toNat), l⟩ : Band)] : List Band)).len, ⟨⟩⟩, ⟨⟩⟩ ?_
      refine Kn.wk [(0, AL e), (1, .v (.c (.sem (CloOK Try.prog (FR_Int_ListSpan n))))), (5, ow 68), (6, vi i)] [(68, AO (α := Band) (a ++ ([(⟨(gl e (i - (1 : Int)).toNat), (gl e i.toNat), l⟩ : Band)] : List Band)))] (FE.refl _) (⟨rfl, OLe.is (Is.app (Is.refl a) (Is.refl ([(⟨(gl e (i - (1 : Int)).toNat), (gl e i.toNat), l⟩ : Band)] : List Band))), ⟨⟩⟩) ?_
      exact Kn.RE Fm [(5, 68)] (H (a ++ ([(⟨(gl e (i - (1 : Int)).toNat), (gl e i.toNat), l⟩ : Band)] : List Band)) h)
    ·rcases Bool.eq_false_or_eq_true (decide ((0 : Int) < ((List.length a : Nat) : Int))) with o | o
     ·have h := br_t h o
      obtain ⟨I, h⟩ := gd_some h
      obtain ⟨q, h⟩ := gd_some h
      rcases Bool.eq_false_or_eq_true (((gl a (((List.length a : Nat) : Int) - (1 : Int)).toNat).high_) == (gl e (i - (1 : Int)).toNat)) with p | p
      ·have h := br_t h p
       obtain ⟨Z, h⟩ := gd_some h
       obtain ⟨L, h⟩ := gd_some h
       obtain ⟨t, e0, h⟩ := bd_some h
       refine AW.G Fm [.s, .s, .w (vb true), .s, .s, .s, .s, .s, .s, .s, .s, .s, .s, .w (vb true), .s, .s, .s, .s, .s, .s, .s, .s, .k (cE [] [] (vb t) [] []), .s] (fun K => (ALe (vb (decide ((0 : Int) < ((List.length a : Nat) : Int)))) (vb true)) ∧ (I64 (((List.length a : Nat) : Int) - (1 : Int)) ∧ True) ∧ _ ∧ ((((List.length a : Nat) : Int) - (1 : Int)).toNat < List.length a) ∧ (ALe (vb (((gl a (((List.length a : Nat) : Int) - (1 : Int)).toNat).high_) == (gl e (i - (1 : Int)).toNat))) (vb true)) ∧ (I64 (((List.length a : Nat) : Int) - (1 : Int)) ∧ True) ∧ _ ∧ ((((List.length a : Nat) : Int) - (1 : Int)).toNat < List.length a) ∧ K 22 ∧ True) [(0, AL e), (1, .v (.c (.sem (CloOK Try.prog (FR_Int_ListSpan n))))), (5, ow 5), (6, vi i), (7, pt 7), (8, vi ((List.length a : Nat) : Int)), (37, ow 5), (38, vi ((List.length a : Nat) : Int)), (39, vi (((List.length a : Nat) : Int) - (1 : Int))), (40, .v (.c (.pte 5 3 ((((List.length a : Nat) : Int) - (1 : Int)).toNat) 0))), (41, .v (.c (.pte 5 3 ((((List.length a : Nat) : Int) - (1 : Int)).toNat) 1))), (42, vi (gl a (((List.length a : Nat) : Int) - (1 : Int)).toNat).high_), (43, pt 7), (44, vi (gl e (i - (1 : Int)).toNat)), (45, vb (((gl a (((List.length a : Nat) : Int) - (1 : Int)).toNat).high_) == (gl e (i - (1 : Int)).toNat))), (48, ow 5), (49, vi ((List.length a : Nat) : Int)), (50, vi (((List.length a : Nat) : Int) - (1 : Int))), (51, .v (.c (.pte 5 3 ((((List.length a : Nat) : Int) - (1 : Int)).toNat) 0))), (52, .v (.c (.pte 5 3 ((((List.length a : Nat) : Int) - (1 : Int)).toNat) 2))), (53, AL (α := Span) (gl a (((List.length a : Nat) : Int) - (1 : Int)).toNat).spans_), (54, .v (.c (.ptr 7 2))), (55, AL l), (56, vb t), (57, vb t)] [(5, AO a), (7, bx [ci (gl e (i - (1 : Int)).toNat), ci (gl e i.toNat), .d (DL l)])] ⟨ALe.bool o, ⟨I, ⟨⟩⟩, q, (toNat_lt q), ALe.bool p, ⟨Z, ⟨⟩⟩, L, (toNat_lt L), KAt.CC (slices_Equal_Span_spec e0) Try.call79 [], ⟨⟩⟩ ?_
       exact Kn.R Fm (u t h)
      ·have h := br_f h p
       refine AW.G Fm [.s, .s, .w (vb true), .s, .s, .s, .s, .s, .s, .s, .s, .s, .s, .w (vb false), .s, .s, .s, .s, .s, .s, .s, .s, .s, .s] (fun K => (ALe (vb (decide ((0 : Int) < ((List.length a : Nat) : Int)))) (vb true)) ∧ (I64 (((List.length a : Nat) : Int) - (1 : Int)) ∧ True) ∧ _ ∧ ((((List.length a : Nat) : Int) - (1 : Int)).toNat < List.length a) ∧ (ALe (vb (((gl a (((List.length a : Nat) : Int) - (1 : Int)).toNat).high_) == (gl e (i - (1 : Int)).toNat))) (vb false)) ∧ True) [(0, AL e), (1, .v (.c (.sem (CloOK Try.prog (FR_Int_ListSpan n))))), (5, ow 5), (6, vi i), (7, pt 7), (8, vi ((List.length a : Nat) : Int)), (37, ow 5), (38, vi ((List.length a : Nat) : Int)), (39, vi (((List.length a : Nat) : Int) - (1 : Int))), (40, .v (.c (.pte 5 3 ((((List.length a : Nat) : Int) - (1 : Int)).toNat) 0))), (41, .v (.c (.pte 5 3 ((((List.length a : Nat) : Int) - (1 : Int)).toNat) 1))), (42, vi (gl a (((List.length a : Nat) : Int) - (1 : Int)).toNat).high_), (43, pt 7), (44, vi (gl e (i - (1 : Int)).toNat)), (45, vb (((gl a (((List.length a : Nat) : Int) - (1 : Int)).toNat).high_) == (gl e (i - (1 : Int)).toNat))), (57, vb false)] [(5, AO a), (7, bx [ci (gl e (i - (1 : Int)).toNat), ci (gl e i.toNat), .d (DL l)])] ⟨ALe.bool o, ⟨I, ⟨⟩⟩, q, (toNat_lt q), ALe.bool p, ⟨⟩⟩ ?_
       exact Kn.R Fm (u false h)
     ·have h := br_f h o
      refine AW.G Fm [.s, .s, .w (vb false), .s, .s, .s, .s, .s, .s, .s, .s, .s, .s, .s, .s, .s, .s, .s, .s, .s, .s, .s, .s, .s] (fun K => (ALe (vb (decide ((0 : Int) < ((List.length a : Nat) : Int)))) (vb false)) ∧ True) [(0, AL e), (1, .v (.c (.sem (CloOK Try.prog (FR_Int_ListSpan n))))), (5, ow 5), (6, vi i), (7, pt 7), (8, vi ((List.length a : Nat) : Int)), (57, vb false)] [(5, AO a), (7, bx [ci (gl e (i - (1 : Int)).toNat), ci (gl e i.toNat), .d (DL l)])] ⟨ALe.bool o, ⟨⟩⟩ ?_
      exact Kn.R Fm (u false h)
  ·have h := br_f h y
   refine AW.exit ?_
   exact Kn.R Fm (T a h)
theorem region_canonical_spec {F : Nat} {a : (List Rect)} {r : (List Rect)} (h : region_canonical F a = some r) :
  FSpec Try.prog 51 [AL a] [] (AL (α := Rect) r) [] := by
 refine FSpec.intro prog_mixed prog_lay Try.func51 rfl (by kernel_rfl) fun C Fm => ?_
 unfold region_canonical at h
 refine AW.SG0 Fm 2 [(1, pt 1)] [(1, bx [.d (DL a)])] ?_
 refine AW.seq ?_
 obtain ⟨j, e, h⟩ := bd_some h
 obtain ⟨b, i, h⟩ := bd_some h
 refine AW.G Fm [.s, .w (AL (α := (List Rect)) ([a] : List (List Rect))), .k (cE [] [] (AL j) [] []), .s, .k (cE [] [1] (AL b) [] []), .s] (fun K => (ALe (.v (.c (.d (.lst 1 (litF 1 [DL a]))))) (AL (α := (List Rect)) ([a] : List (List Rect)))) ∧ K 2 ∧ K 4 ∧ True) [(2, AL b)] [] ⟨ALe.lst (.lit ([a] : List (List Rect)) (by kernel_rfl)), KAt.CC (region_Cuts_spec e) Try.call60 [], KAt.callX (region_Build_spec i) Try.call59 [] [1] [.tmp 5, .tmp 6] rfl (by kernel_rfl) (by kernel_rfl) (by kernel_rfl) ⟨.p, ArgT.cloX Try.call61 [[.d (DL a)]] (fun args r hq => by obtain ⟨y0, y, hq, rfl, rfl⟩ := hq; exact Eq.mp (by kernel_rfl) (region_canonical_1_spec hq)) (fun args r hq => by obtain ⟨y0, y, hq, rfl, rfl⟩ := hq; rfl) (by kernel_rfl) [1] (by kernel_rfl) (by kernel_rfl) (⟨⟨false, (by kernel_rfl)⟩, ⟨⟩⟩) (by kernel_rfl), ⟨⟩⟩, ⟨⟩⟩ ?_
 refine AW.ret ?_
 obtain rfl := Option.some.inj h
 exact Kn.D Fm
theorem slices_Equal_Rect_spec {F : Nat} {c : (List Rect)} {d : (List Rect)} {r : Bool} (h : slices_Equal_Rect F c d = some r) :
  FSpec Try.prog 50 [AL c, AL d] [] (vb r) [] := by
 refine FSpec.intro prog_mixed prog_lay Try.func50 rfl (by kernel_rfl) fun C Fm => ?_
 unfold slices_Equal_Rect at h
 refine AW.SG0 Fm 1 [(0, AL c), (1, AL d)] [] ?_
 refine AW.seq ?_
 refine AW.SG0 Fm 5 [(0, AL c), (1, AL d), (10, vb (((List.length c : Nat) : Int) != ((List.length d : Nat) : Int)))] [] ?_
 refine AW.cond (b := (((List.length c : Nat) : Int) != ((List.length d : Nat) : Int))) (by kernel_rfl) (fun e => ?_) (fun e => ?_)
 ·have h := br_t h e
  refine AW.SG0 Fm 1 [(4, vb false)] [] ?_
  refine AW.ret ?_
  obtain rfl := Option.some.inj h
  exact Kn.D Fm
 ·have h := br_f h e
  refine AW.skip ?_
  refine AW.join (r := r) (fun z : Unit => slices_Equal_Rect_k1 F) (fun z => []) (fun z => []) (fun z h => ?_) (fun t m => ?_)
  ·refine AW.SG0 Fm 1 [(4, vb true)] [] ?_
   refine AW.ret ?_
   obtain rfl := Option.some.inj h
   exact Kn.D Fm
  ·refine AW.SG0 Fm 3 [(0, AL c), (1, AL d), (12, vi ((List.length c : Nat) : Int)), (13, vi (0 : Int))] [] ?_
   refine AW.block ?_
   refine Kn.r Fm [(0, AL c), (1, AL d), (12, vi ((List.length c : Nat) : Int)), (13, vi (0 : Int))] [] (by kernel_rfl) ?_
   refine AW.loopF (E' := fun z => [(0, AL c), (1, AL d), (12, vi ((List.length c : Nat) : Int)), (13, vi z)]) (S' := fun z => []) (fun u a q l h => ?_) h
   refine AW.SG0 Fm 1 [(0, AL c), (1, AL d), (12, vi ((List.length c : Nat) : Int)), (13, vi a), (14, vb (decide (a < ((List.length c : Nat) : Int))))] [] ?_
   refine AW.seq ?_
   refine AW.cond (b := (decide (a < ((List.length c : Nat) : Int)))) (by kernel_rfl) (fun i => ?_) (fun i => ?_)
   ·have h := br_t h i
    refine AW.skip ?_
    refine AW.seq ?_
    refine AW.block ?_
    refine AW.SG0 Fm 2 [(0, AL c), (1, AL d), (5, vi a), (12, vi ((List.length c : Nat) : Int)), (13, vi a)] [] ?_
    obtain ⟨n, h⟩ := gd_some h
    obtain ⟨o, h⟩ := gd_some h
    refine AW.SG Fm [.s, .s, .s, .s, .s, .s, .s, .s, .k (sE (vb (!((((gl c a.toNat).left_) == ((gl d a.toNat).left_)) && ((((gl c a.toNat).low_) == ((gl d a.toNat).low_)) && ((((gl c a.toNat).right_) == ((gl d a.toNat).right_)) && ((((gl c a.toNat).high_) == ((gl d a.toNat).high_)) && true)))))))] (fun K => _ ∧ _ ∧ K 8 ∧ True) [(0, AL c), (1, AL d), (12, vi ((List.length c : Nat) : Int)), (13, vi a), (24, vb (!((((gl c a.toNat).left_) == ((gl d a.toNat).left_)) && ((((gl c a.toNat).low_) == ((gl d a.toNat).low_)) && ((((gl c a.toNat).right_) == ((gl d a.toNat).right_)) && ((((gl c a.toNat).high_) == ((gl d a.toNat).high_)) && true))))))] [] ⟨n, o, KAt.eq (xs := [ci ((gl c a.toNat).left_), ci ((gl c a.toNat).low_), ci ((gl c a.toNat).right_), ci ((gl c a.toNat).high_)]) (ys := [ci ((gl d a.toNat).left_), ci ((gl d a.toNat).low_), ci ((gl d a.toNat).right_), ci ((gl d a.toNat).high_)]) eqT51 false (b := ((((gl c a.toNat).left_) == ((gl d a.toNat).left_)) && ((((gl c a.toNat).low_) == ((gl d a.toNat).low_)) && ((((gl c a.toNat).right_) == ((gl d a.toNat).right_)) && ((((gl c a.toNat).high_) == ((gl d a.toNat).high_)) && true))))) rfl rfl (by kernel_rfl) (by kernel_rfl) (by kernel_rfl) (by kernel_rfl), ⟨⟩⟩ ?_
    refine AW.cond (b := (!((((gl c a.toNat).left_) == ((gl d a.toNat).left_)) && ((((gl c a.toNat).low_) == ((gl d a.toNat).low_)) && ((((gl c a.toNat).right_) == ((gl d a.toNat).right_)) && ((((gl c a.toNat).high_) == ((gl d a.toNat).high_)) && true)))))) (by kernel_rfl) (fun j => ?_) (fun j => ?_)
    ·have h := br_t h j
     refine AW.SG0 Fm 1 [(4, vb false)] [] ?_
     refine AW.ret ?_
     obtain rfl := Option.some.inj h
     exact Kn.D Fm
    ·have h := br_f h j
     refine AW.skip ?_
     obtain ⟨p, h⟩ := gd_some h
     refine AW.G Fm [.s, .s] (fun K => (I64 (a + (1 : Int)) ∧ True) ∧ True) [(0, AL c), (1, AL d), (12, vi ((List.length c : Nat) : Int)), (13, vi (a + (1 : Int)))] [] ⟨⟨p, ⟨⟩⟩, ⟨⟩⟩ ?_
     exact Kn.R Fm (l (a + (1 : Int)) h)
   ·have h := br_f h i
    refine AW.exit ?_
    exact Kn.R Fm (m () h)
theorem region_Valid_spec {F : Nat} {a : Region} {r : Bool} (h : region_Valid F a = some r) :
  FSpec Try.prog 36 [.v (.g [.d (DL a.rects_)])] [] (vb r) [] := by
 refine FSpec.intro prog_mixed prog_lay Try.func36 rfl (by kernel_rfl) fun C Fm => ?_
 unfold region_Valid at h
 refine AW.SG0 Fm 2 [(1, pt 1)] [(1, bx [.d (DL a.rects_)])] ?_
 refine AW.seq ?_
 refine AW.join (r := r) (fun z : Bool => region_Valid_k0 F a z) (fun z => [(1, pt 1), (11, vb z)]) (fun z => [(1, bx [.d (DL a.rects_)])]) (fun q h => ?_) (fun u j => ?_)
 ·refine AW.cond (b := q) (by kernel_rfl) (fun e => ?_) (fun e => ?_)
  ·have h := br_t h e
   refine AW.SG0 Fm 1 [(2, vb false)] [] ?_
   refine AW.ret ?_
   obtain rfl := Option.some.inj h
   exact Kn.D Fm
  ·have h := br_f h e
   refine AW.skip ?_
   refine AW.seq ?_
   obtain ⟨t, n, h⟩ := bd_some h
   obtain ⟨l, o, h⟩ := bd_some h
   refine AW.G Fm [.s, .s, .k (cE [] [] (AL t) [] []), .s, .s, .k (cE [] [] (vb l) [] []), .s] (fun K => K 2 ∧ K 5 ∧ True) [(2, vb l)] [] ⟨KAt.CC (region_canonical_spec n) Try.call51 [], KAt.CC (slices_Equal_Rect_spec o) Try.call50 [], ⟨⟩⟩ ?_
   refine AW.ret ?_
   obtain rfl := Option.some.inj h
   exact Kn.D Fm
 ·rcases Bool.eq_false_or_eq_true (decide ((120 : Int) < ((List.length a.rects_ : Nat) : Int))) with c | c
  ·have h := br_t h c
   refine AW.G Fm [.s, .s, .s, .s, .w (vb true), .s, .s, .s, .s] (fun K => (ALe (vb (decide ((120 : Int) < ((List.length a.rects_ : Nat) : Int)))) (vb true)) ∧ True) [(1, pt 1), (11, vb true)] [(1, bx [.d (DL a.rects_)])] ⟨ALe.bool c, ⟨⟩⟩ ?_
   exact Kn.R Fm (j true h)
  ·have h := br_f h c
   obtain ⟨i, m, h⟩ := bd_some h
   refine AW.G Fm [.s, .s, .s, .s, .w (vb false), .s, .s, .k (cE [] [] (vb i) [] []), .s] (fun K => (ALe (vb (decide ((120 : Int) < ((List.length a.rects_ : Nat) : Int)))) (vb false)) ∧ K 7 ∧ True) [(1, pt 1), (11, vb i)] [(1, bx [.d (DL a.rects_)])] ⟨ALe.bool c, KAt.callX (slices_ContainsFunc_Rect_spec m) Try.call47 [] [] [.tmp 9, .func 48] rfl (by kernel_rfl) (by kernel_rfl) (by kernel_rfl) ⟨.p, ArgT.cloX Try.call48 [] (fun args r hq => by obtain ⟨y0, y, hq, rfl, rfl⟩ := hq; exact Eq.mp (by kernel_rfl) (region_Valid_1_spec hq)) (fun args r hq => by obtain ⟨y0, y, hq, rfl, rfl⟩ := hq; rfl) (by kernel_rfl) [] (by kernel_rfl) (by kernel_rfl) (True.intro) (by kernel_rfl), ⟨⟩⟩, ⟨⟩⟩ ?_
   exact Kn.R Fm (j i h)
theorem feature_single_spec {F : Nat} {a : Feature} {r : Int} (h : feature_single F a = some r) :
  FSpec Try.prog 23 [gE a] [] (vi r) [] := by
 refine FSpec.intro prog_mixed prog_lay Try.func23 rfl (by kernel_rfl) fun C Fm => ?_
 unfold feature_single at h
 refine AW.SG0 Fm 2 [(1, pt 1)] [(1, bx (gC a))] ?_
 refine AW.seq ?_
 refine AW.block ?_
 refine AW.join (r := r) (fun z : Bool => feature_single_k0 F a z) (fun z => [(1, pt 1), (3, vb z)]) (fun z => [(1, bx (gC a))]) (fun B h => ?_) (fun L t => ?_)
 ·refine AW.cond (b := B) (by kernel_rfl) (fun m => ?_) (fun m => ?_)
  ·have h := br_t h m
   refine AW.SG0 Fm 1 [(2, vi (2 : Int))] [] ?_
   refine AW.ret ?_
   obtain rfl := Option.some.inj h
   exact Kn.D Fm
  ·have h := br_f h m
   refine AW.join (r := r) (fun z : Bool => feature_single_k1 F a z) (fun z => [(1, pt 1), (12, vb z)]) (fun z => [(1, bx (gC a))]) (fun E h => ?_) (fun M u => ?_)
   ·refine AW.cond (b := E) (by kernel_rfl) (fun n => ?_) (fun n => ?_)
    ·have h := br_t h n
     refine AW.SG0 Fm 1 [(2, vi (14 : Int))] [] ?_
     refine AW.ret ?_
     obtain rfl := Option.some.inj h
     exact Kn.D Fm
    ·have h := br_f h n
     refine AW.join (r := r) (fun z : Bool => feature_single_k2 F a z) (fun z => [(1, pt 1), (21, vb z)]) (fun z => [(1, bx (gC a))]) (fun H h => ?_) (fun N l => ?_)
     ·refine AW.cond (b := H) (by kernel_rfl) (fun o => ?_) (fun o => ?_)
      ·have h := br_t h o
       refine AW.SG0 Fm 1 [(2, vi (9 : Int))] [] ?_
       refine AW.ret ?_
       obtain rfl := Option.some.inj h
       exact Kn.D Fm
      ·have h := br_f h o
       refine AW.join (r := r) (fun z : Bool => feature_single_k3 F z) (fun z => [(37, vb z)]) (fun z => []) (fun I h => ?_) (fun O y => ?_)
       ·refine AW.cond (b := I) (by kernel_rfl) (fun p => ?_) (fun p => ?_)
        ·have h := br_t h p
         refine AW.SG0 Fm 1 [(2, vi (7 : Int))] [] ?_
         refine AW.ret ?_
         obtain rfl := Option.some.inj h
         exact Kn.D Fm
        ·have h := br_f h p
         refine AW.skip ?_
         refine AW.SG0 Fm 1 [(2, vi (0 : Int))] [] ?_
         refine AW.ret ?_
         obtain rfl := Option.some.inj h
         exact Kn.D Fm
       ·rcases Bool.eq_false_or_eq_true (((List.length a.region_.rects_ : Nat) : Int) == (0 : Int)) with j | j
        ·have h := br_t h j
         refine AW.G Fm [.s, .s, .s, .s, .s, .w (vb true), .s, .s, .s, .s, .s, .s] (fun K => (ALe (vb (((List.length a.region_.rects_ : Nat) : Int) == (0 : Int))) (vb true)) ∧ True) [(37, vb true)] [] ⟨ALe.bool j, ⟨⟩⟩ ?_
         exact Kn.R Fm (y true h)
        ·have h := br_f h j
         obtain ⟨q, A, h⟩ := bd_some h
         refine AW.G Fm [.s, .s, .s, .s, .s, .w (vb false), .s, .s, .k (cE [] [] (vb q) [] []), .s, .s, .s] (fun K => (ALe (vb (((List.length a.region_.rects_ : Nat) : Int) == (0 : Int))) (vb false)) ∧ K 8 ∧ True) [(37, vb (!q))] [] ⟨ALe.bool j, KAt.CC (region_Valid_spec A) Try.call36 [], ⟨⟩⟩ ?_
         exact Kn.R Fm (y (!q) h)
     ·rcases Bool.eq_false_or_eq_true (decide (a.from_ < (0 : Int))) with c | c
      ·have h := br_t h c
       refine AW.G Fm [.s, .s, .s, .w (vb true), .s, .s, .s, .s, .s, .s, .s, .s, .s, .s, .s, .s] (fun K => (ALe (vb (decide (a.from_ < (0 : Int)))) (vb true)) ∧ True) [(1, pt 1), (21, vb true)] [(1, bx (gC a))] ⟨ALe.bool c, ⟨⟩⟩ ?_
       exact Kn.R Fm (l true h)
      ·have h := br_f h c
       rcases Bool.eq_false_or_eq_true (decide (a.until_ ≤ a.from_)) with i | i
       ·have h := br_t h i
        refine AW.G Fm [.s, .s, .s, .w (vb false), .s, .s, .s, .s, .s, .s, .w (vb true), .s, .s, .s, .s, .s] (fun K => (ALe (vb (decide (a.from_ < (0 : Int)))) (vb false)) ∧ (ALe (vb (decide (a.until_ ≤ a.from_))) (vb true)) ∧ True) [(1, pt 1), (21, vb true)] [(1, bx (gC a))] ⟨ALe.bool c, ALe.bool i, ⟨⟩⟩ ?_
        exact Kn.R Fm (l true h)
       ·have h := br_f h i
        refine AW.G Fm [.s, .s, .s, .w (vb false), .s, .s, .s, .s, .s, .s, .w (vb false), .s, .s, .s, .s, .s] (fun K => (ALe (vb (decide (a.from_ < (0 : Int)))) (vb false)) ∧ (ALe (vb (decide (a.until_ ≤ a.from_))) (vb false)) ∧ True) [(1, pt 1), (21, vb (decide ((36865 : Int) < a.until_)))] [(1, bx (gC a))] ⟨ALe.bool c, ALe.bool i, ⟨⟩⟩ ?_
        exact Kn.R Fm (l (decide ((36865 : Int) < a.until_)) h)
   ·rcases Bool.eq_false_or_eq_true (decide (a.kind_ < (0 : Int))) with e | e
    ·have h := br_t h e
     refine AW.G Fm [.s, .s, .s, .w (vb true), .s, .s, .s, .s, .s] (fun K => (ALe (vb (decide (a.kind_ < (0 : Int)))) (vb true)) ∧ True) [(1, pt 1), (12, vb true)] [(1, bx (gC a))] ⟨ALe.bool e, ⟨⟩⟩ ?_
     exact Kn.R Fm (u true h)
    ·have h := br_f h e
     refine AW.G Fm [.s, .s, .s, .w (vb false), .s, .s, .s, .s, .s] (fun K => (ALe (vb (decide (a.kind_ < (0 : Int)))) (vb false)) ∧ True) [(1, pt 1), (12, vb (decide ((15 : Int) < a.kind_)))] [(1, bx (gC a))] ⟨ALe.bool e, ⟨⟩⟩ ?_
     exact Kn.R Fm (u (decide ((15 : Int) < a.kind_)) h)
 ·rcases Bool.eq_false_or_eq_true (decide (a.number_ < (1 : Int))) with d | d
  ·have h := br_t h d
   refine AW.G Fm [.s, .s, .s, .w (vb true), .s, .s, .s, .s, .s] (fun K => (ALe (vb (decide (a.number_ < (1 : Int)))) (vb true)) ∧ True) [(1, pt 1), (3, vb true)] [(1, bx (gC a))] ⟨ALe.bool d, ⟨⟩⟩ ?_
   exact Kn.R Fm (t true h)
  ·have h := br_f h d
   refine AW.G Fm [.s, .s, .s, .w (vb false), .s, .s, .s, .s, .s] (fun K => (ALe (vb (decide (a.number_ < (1 : Int)))) (vb false)) ∧ True) [(1, pt 1), (3, vb (decide ((1073741824 : Int) < a.number_)))] [(1, bx (gC a))] ⟨ALe.bool d, ⟨⟩⟩ ?_
   exact Kn.R Fm (t (decide ((1073741824 : Int) < a.number_)) h)
theorem feature_Check_spec {F : Nat} {a : (List Feature)} {r : Int} (h : feature_Check F a = some r) :
  FSpec Try.prog 9 [AL a] [] (vi r) [] := by
 refine FSpec.intro prog_mixed prog_lay Try.func9 rfl (by kernel_rfl) fun C Fm => ?_
 unfold feature_Check at h
 refine AW.SG0 Fm 1 [(0, AL a)] [] ?_
 refine AW.seq ?_
 refine AW.SG0 Fm 3 [(0, AL a), (8, vb (decide ((60 : Int) < ((List.length a : Nat) : Int))))] [] ?_
 refine AW.cond (b := (decide ((60 : Int) < ((List.length a : Nat) : Int)))) (by kernel_rfl) (fun l => ?_) (fun l => ?_)
 ·have h := br_t h l
  refine AW.SG0 Fm 1 [(2, vi (1 : Int))] [] ?_
  refine AW.ret ?_
  obtain rfl := Option.some.inj h
  exact Kn.D Fm
 ·have h := br_f h l
  refine AW.skip ?_
  refine AW.join (r := r) (fun z : Unit => feature_Check_k2 F) (fun z => []) (fun z => []) (fun z h => ?_) (fun N u => ?_)
  ·refine AW.SG0 Fm 1 [(2, vi (0 : Int))] [] ?_
   refine AW.ret ?_
   obtain rfl := Option.some.inj h
   exact Kn.D Fm
  ·refine AW.SG0 Fm 3 [(0, AL a), (9, AL a), (10, vi ((List.length a : Nat) : Int)), (11, vi (0 : Int))] [] ?_
   refine AW.block ?_
   refine Kn.r Fm [(0, AL a), (9, AL a), (10, vi ((List.length a : Nat) : Int)), (11, vi (0 : Int))] [] (by kernel_rfl) ?_
   refine AW.loopF (E' := fun z => [(0, AL a), (9, AL a), (10, vi ((List.length a : Nat) : Int)), (11, vi z)]) (S' := fun z => []) (fun q e L t h => ?_) h
   refine AW.SG0 Fm 1 [(0, AL a), (9, AL a), (10, vi ((List.length a : Nat) : Int)), (11, vi e), (12, vb (decide (e < ((List.length a : Nat) : Int))))] [] ?_
   refine AW.seq ?_
   refine AW.cond (b := (decide (e < ((List.length a : Nat) : Int)))) (by kernel_rfl) (fun m => ?_) (fun m => ?_)
   ·have h := br_t h m
    refine AW.skip ?_
    refine AW.seq ?_
    refine AW.block ?_
    obtain ⟨y, h⟩ := gd_some h
    refine AW.SG Fm [.s, .s, .s, .s, .s, .s] (fun K => _ ∧ True) [(0, AL a), (3, vi e), (4, pt 4), (9, AL a), (10, vi ((List.length a : Nat) : Int)), (11, vi e)] [(4, bx [ci ((gl a e.toNat).number_), ci ((gl a e.toNat).kind_), ci ((gl a e.toNat).from_), ci ((gl a e.toNat).until_), .d (DL (α := Rect) (gl a e.toNat).region_.rects_)])] ⟨y, ⟨⟩⟩ ?_
    refine AW.seq ?_
    refine AW.seq ?_
    obtain ⟨i, H, h⟩ := bd_some h
    refine AW.G Fm [.s, .k (cE [] [] (vi i) [] []), .s] (fun K => K 1 ∧ True) [(0, AL a), (3, vi e), (4, pt 4), (5, vi i), (9, AL a), (10, vi ((List.length a : Nat) : Int)), (11, vi e)] [(4, bx [ci ((gl a e.toNat).number_), ci ((gl a e.toNat).kind_), ci ((gl a e.toNat).from_), ci ((gl a e.toNat).until_), .d (DL (α := Rect) (gl a e.toNat).region_.rects_)])] ⟨KAt.CC (feature_single_spec H) Try.call23 [], ⟨⟩⟩ ?_
    refine AW.SG0 Fm 2 [(0, AL a), (3, vi e), (4, pt 4), (5, vi i), (9, AL a), (10, vi ((List.length a : Nat) : Int)), (11, vi e), (19, vb (i != (0 : Int)))] [(4, bx [ci ((gl a e.toNat).number_), ci ((gl a e.toNat).kind_), ci ((gl a e.toNat).from_), ci ((gl a e.toNat).until_), .d (DL (α := Rect) (gl a e.toNat).region_.rects_)])] ?_
    refine AW.cond (b := (i != (0 : Int))) (by kernel_rfl) (fun n => ?_) (fun n => ?_)
    ·have h := br_t h n
     refine AW.SG0 Fm 2 [(2, vi i)] [] ?_
     refine AW.ret ?_
     obtain rfl := Option.some.inj h
     exact Kn.D Fm
    ·have h := br_f h n
     refine AW.skip ?_
     refine AW.join (r := r) (fun z : Bool => feature_Check_k1 F e q z) (fun z => [(0, AL a), (9, AL a), (10, vi ((List.length a : Nat) : Int)), (11, vi e), (33, vb z)]) (fun z => []) (fun I h => ?_) (fun M p => ?_)
     ·refine AW.cond (b := I) (by kernel_rfl) (fun o => ?_) (fun o => ?_)
      ·have h := br_t h o
       refine AW.SG0 Fm 1 [(2, vi (3 : Int))] [] ?_
       refine AW.ret ?_
       obtain rfl := Option.some.inj h
       exact Kn.D Fm
      ·have h := br_f h o
       refine AW.skip ?_
       obtain ⟨E, h⟩ := gd_some h
       refine AW.G Fm [.s, .s] (fun K => (I64 (e + (1 : Int)) ∧ True) ∧ True) [(0, AL a), (9, AL a), (10, vi ((List.length a : Nat) : Int)), (11, vi (e + (1 : Int)))] [] ⟨⟨E, ⟨⟩⟩, ⟨⟩⟩ ?_
       exact Kn.R Fm (t (e + (1 : Int)) h)
     ·rcases Bool.eq_false_or_eq_true (decide ((0 : Int) < e)) with j | j
      ·have h := br_t h j
       obtain ⟨A, h⟩ := gd_some h
       obtain ⟨B, h⟩ := gd_some h
       refine AW.G Fm [.s, .s, .w (vb true), .s, .s, .s, .s, .s, .s, .s, .s, .s, .s] (fun K => (ALe (vb (decide ((0 : Int) < e))) (vb true)) ∧ (I64 (e - (1 : Int)) ∧ True) ∧ _ ∧ True) [(0, AL a), (9, AL a), (10, vi ((List.length a : Nat) : Int)), (11, vi e), (24, pt 4), (25, vi (gl a e.toNat).number_), (26, AL a), (27, vi e), (28, vi (e - (1 : Int))), (29, .v (.c (.elm [.int .i64 (gl a (e - (1 : Int)).toNat).number_, .int .i64 (gl a (e - (1 : Int)).toNat).kind_, .int .i64 (gl a (e - (1 : Int)).toNat).from_, .int .i64 (gl a (e - (1 : Int)).toNat).until_, DL (α := Rect) (gl a (e - (1 : Int)).toNat).region_.rects_]))), (30, .v (.c (.elm [.int .i64 (gl a (e - (1 : Int)).toNat).number_, .int .i64 (gl a (e - (1 : Int)).toNat).kind_, .int .i64 (gl a (e - (1 : Int)).toNat).from_, .int .i64 (gl a (e - (1 : Int)).toNat).until_, DL (α := Rect) (gl a (e - (1 : Int)).toNat).region_.rects_]))), (31, vi (gl a (e - (1 : Int)).toNat).number_), (32, vb (decide (((gl a e.toNat).number_) ≤ ((gl a (e - (1 : Int)).toNat).number_)))), (33, vb (decide (((gl a e.toNat).number_) ≤ ((gl a (e - (1 : Int)).toNat).number_))))] [(4, bx [ci ((gl a e.toNat).number_), ci ((gl a e.toNat).kind_), ci ((gl a e.toNat).from_), ci ((gl a e.toNat).until_), .d (DL (α := Rect) (gl a e.toNat).region_.rects_)])] ⟨ALe.bool j, ⟨A, ⟨⟩⟩, B, ⟨⟩⟩ ?_
       exact Kn.R Fm (p (decide (((gl a e.toNat).number_) ≤ ((gl a (e - (1 : Int)).toNat).number_))) h)
      ·have h := br_f h j
       refine AW.G Fm [.s, .s, .w (vb false), .s, .s, .s, .s, .s, .s, .s, .s, .s, .s] (fun K => (ALe (vb (decide ((0 : Int) < e))) (vb false)) ∧ True) [(0, AL a), (9, AL a), (10, vi ((List.length a : Nat) : Int)), (11, vi e), (33, vb false)] [] ⟨ALe.bool j, ⟨⟩⟩ ?_
       exact Kn.R Fm (p false h)
   ·have h := br_f h m
    refine AW.exit ?_
    exact Kn.R Fm (u () h)
theorem feature_right_spec {F : Nat} {j : (List Feature)} {a : Int} {r : Int} (h : feature_right F j a = some r) :
  FSpec Try.prog 24 [AL j, vi a] [] (vi r) [] := by
 refine FSpec.intro prog_mixed prog_lay Try.func24 rfl (by kernel_rfl) fun C Fm => ?_
 unfold feature_right at h
 refine AW.SG0 Fm 1 [(0, AL j), (1, vi a)] [] ?_
 refine AW.seq ?_
 refine AW.seq ?_
 obtain ⟨c, m, h⟩ := bd_some h
 refine AW.G Fm [.s, .k (cE [] [] (vi c) [] []), .s] (fun K => K 1 ∧ True) [(1, vi a), (5, vi c)] [] ⟨KAt.CC (feature_Check_spec m) Try.call9 [], ⟨⟩⟩ ?_
 refine AW.SG0 Fm 2 [(1, vi a), (5, vi c), (9, vb (c != (0 : Int)))] [] ?_
 refine AW.cond (b := (c != (0 : Int))) (by kernel_rfl) (fun e => ?_) (fun e => ?_)
 ·have h := br_t h e
  refine AW.SG0 Fm 2 [(4, vi c)] [] ?_
  refine AW.ret ?_
  obtain rfl := Option.some.inj h
  exact Kn.D Fm
 ·have h := br_f h e
  refine AW.skip ?_
  refine AW.seq ?_
  refine AW.join (r := r) (fun z : Bool => feature_right_k0 F z) (fun z => [(16, vb z)]) (fun z => []) (fun n h => ?_) (fun o l => ?_)
  ·refine AW.cond (b := n) (by kernel_rfl) (fun i => ?_) (fun i => ?_)
   ·have h := br_t h i
    refine AW.SG0 Fm 1 [(4, vi (9 : Int))] [] ?_
    refine AW.ret ?_
    obtain rfl := Option.some.inj h
    exact Kn.D Fm
   ·have h := br_f h i
    refine AW.skip ?_
    refine AW.SG0 Fm 1 [(4, vi (0 : Int))] [] ?_
    refine AW.ret ?_
    obtain rfl := Option.some.inj h
    exact Kn.D Fm
  ·rcases Bool.eq_false_or_eq_true (decide (a < (0 : Int))) with d | d
   ·have h := br_t h d
    refine AW.G Fm [.s, .s, .w (vb true), .s, .s, .s] (fun K => (ALe (vb (decide (a < (0 : Int)))) (vb true)) ∧ True) [(16, vb true)] [] ⟨ALe.bool d, ⟨⟩⟩ ?_
    exact Kn.R Fm (l true h)
   ·have h := br_f h d
    refine AW.G Fm [.s, .s, .w (vb false), .s, .s, .s] (fun K => (ALe (vb (decide (a < (0 : Int)))) (vb false)) ∧ True) [(16, vb (decide ((36864 : Int) < a)))] [] ⟨ALe.bool d, ⟨⟩⟩ ?_
    exact Kn.R Fm (l (decide ((36864 : Int) < a)) h)
theorem slices_Clone_Rect_spec {F : Nat} {a : (List Rect)} {r : (List Rect)} (h : slices_Clone_Rect F a = some r) :
  FSpec Try.prog 46 [AL a] [] (AL (α := Rect) r) [] := by
 refine FSpec.intro prog_mixed prog_lay Try.func46 rfl (by kernel_rfl) fun C Fm => ?_
 unfold slices_Clone_Rect at h
 refine AW.SG0 Fm 1 [(0, AL a)] [] ?_
 refine AW.seq ?_
 refine AW.SG Fm [.s, .k (sE (nb (List.length a)))] (fun K => K 1 ∧ True) [(0, AL a), (4, .v (.c (.sem (nbP (List.length a)))))] [] ⟨KAt.nil (t := 28) (el := 51) (n := List.length a) (by kernel_rfl) rfl rfl (by kernel_rfl) (by kernel_rfl) (by kernel_rfl), ⟨⟩⟩ ?_
 refine AW.condNil (n := List.length a) (by kernel_rfl) (fun d => ?_) ?_
 ·have h := brN_t h d
  refine AW.SG0 Fm 1 [(2, .v (.c (.fl 0 fun _ => [])))] [] ?_
  refine AW.ret ?_
  obtain rfl := Option.some.inj h
  refine Kn.r Fm [(2, .v (.c (.fl 0 fun _ => [])))] [] (by kernel_rfl) ?_
  refine Kn.wk [(2, AL (α := Rect) [])] [] ⟨rfl, ALe.c (CLe.fl .nil), ⟨⟩⟩ True.intro ?_
  exact Kn.D Fm
 ·have h := brN_f h
  refine AW.skip ?_
  obtain ⟨b, h⟩ := gd_some h
  refine AW.SG Fm [.m, .s, .s, .s] (fun K => ((0) + (List.length (α := Rect) a) ≤ LIM ∧ (∀ j, j < List.length (α := Rect) a → ((LF (α := Rect) a) j).length = 4) ∧ (True)) ∧ True) [(2, ow 7)] [(7, .arr 4 ((0) + (List.length (α := Rect) a)) (appF (0) (litF 4 []) (LF (α := Rect) a)))] ⟨⟨b, (Is.refl a : Is (List.length (α := Rect) a) (LF (α := Rect) a) a).len, ⟨⟩⟩, ⟨⟩⟩ ?_
  refine Kn.wk [(2, ow 7)] [(7, AO (α := Rect) (([] : List Rect) ++ a))] (FE.refl _) (⟨rfl, OLe.is (Is.app (Is.lit ([] : List Rect) (by kernel_rfl)) (Is.refl a)), ⟨⟩⟩) ?_
  refine AW.ret ?_
  obtain rfl := Option.some.inj h
  refine Kn.r Fm [(2, ow 7)] [(7, AO (α := Rect) (([] : List Rect) ++ a))] (by kernel_rfl) ?_
  refine Kn.frz [(2, AL (α := Rect) (([] : List Rect) ++ a))] [] (by kernel_rfl) (by kernel_rfl) (by kernel_rfl) ?_
  exact Kn.D Fm
theorem feature_copied_spec {F : Nat} {a : Feature} {r : Feature} (h : feature_copied F a = some r) :
  FSpec Try.prog 35 [gE a] [] (gE r) [] := by
 refine FSpec.intro prog_mixed prog_lay Try.func35 rfl (by kernel_rfl) fun C Fm => ?_
 unfold feature_copied at h
 refine AW.SG0 Fm 2 [(1, pt 1), (2, pt 2)] [(1, bx (gC a)), (2, bx [ci 0, ci 0, ci 0, ci 0, .fl 0 fun _ => []])] ?_
 refine AW.seq ?_
 obtain ⟨b, c, h⟩ := bd_some h
 refine AW.G Fm [.s, .s, .s, .k (cE [] [] (AL b) [] []), .s, .s, .s] (fun K => K 3 ∧ True) [(1, pt 1), (2, pt 2)] [(1, bx [ci a.number_, ci a.kind_, ci a.from_, ci a.until_, .d (DL b)]), (2, bx [ci 0, ci 0, ci 0, ci 0, .fl 0 fun _ => []])] ⟨KAt.CC (slices_Clone_Rect_spec c) Try.call46 [], ⟨⟩⟩ ?_
 refine AW.SG0 Fm 2 [(2, pt 2)] [(2, bx [ci a.number_, ci a.kind_, ci a.from_, ci a.until_, .d (DL b)])] ?_
 refine AW.ret ?_
 obtain rfl := Option.some.inj h
 exact Kn.D Fm
theorem feature_all_spec {F : Nat} {a : (List Feature)} {r : (List Feature)} (h : feature_all F a = some r) :
  FSpec Try.prog 21 [AL a] [] (ow 100) [(100, AO (α := Feature) r)] := by
 refine FSpec.intro prog_mixed prog_lay Try.func21 rfl (by kernel_rfl) fun C Fm => ?_
 unfold feature_all at h
 refine AW.SG Fm [.m] (fun K => True) [(0, AL a)] [] True.intro ?_
 refine AW.SG Fm [.m] (fun K => True) [(0, AL a), (3, ow 3)] [(3, .arr 5 (0) (fun _ => []))] True.intro ?_
 refine Kn.wk [(0, AL a), (3, ow 3)] [(3, AO (α := Feature) ([] : List Feature))] (FE.refl _) (⟨rfl, OLe.is ((Is.nil (α := Feature))), ⟨⟩⟩) ?_
 refine AW.join (r := r) (fun z : (List Feature) => feature_all_k1 F z) (fun z => [(3, ow 3)]) (fun z => [(3, AO z)]) (fun o h => ?_) (fun D q => ?_)
 ·refine AW.SG0 Fm 2 [(2, ow 3)] [(3, AO o)] ?_
  refine AW.ret ?_
  obtain rfl := Option.some.inj h
  exact Kn.re Fm [(100, 3)] [(2, ow 100)] [(100, AO o)] (by kernel_rfl) (by kernel_rfl) (by kernel_rfl) (by kernel_rfl) (Kn.dn Fm (by kernel_rfl))
 ·refine AW.SG0 Fm 3 [(3, ow 3), (6, AL a), (7, vi ((List.length a : Nat) : Int)), (8, vi (0 : Int))] [(3, AO (α := Feature) ([] : List Feature))] ?_
  refine AW.block ?_
  refine Kn.r Fm [(3, ow 3), (6, AL a), (7, vi ((List.length a : Nat) : Int)), (8, vi (0 : Int))] [(3, AO ([] : List Feature))] (by kernel_rfl) ?_
  refine AW.loopF (E' := fun z => [(3, ow 3), (6, AL a), (7, vi ((List.length a : Nat) : Int)), (8, vi z.1)]) (S' := fun z => [(3, AO z.2)]) (fun E z B p h => ?_) h
  obtain ⟨i, l⟩ := z
  refine AW.SG0 Fm 1 [(3, ow 3), (6, AL a), (7, vi ((List.length a : Nat) : Int)), (8, vi i), (9, vb (decide (i < ((List.length a : Nat) : Int))))] [(3, AO l)] ?_
  refine AW.seq ?_
  refine AW.cond (b := (decide (i < ((List.length a : Nat) : Int)))) (by kernel_rfl) (fun n => ?_) (fun n => ?_)
  ·have h := br_t h n
   refine AW.skip ?_
   refine AW.seq ?_
   refine AW.block ?_
   obtain ⟨t, h⟩ := gd_some h
   refine AW.SG Fm [.s, .s, .s, .s] (fun K => _ ∧ True) [(3, ow 3), (5, pt 5), (6, AL a), (7, vi ((List.length a : Nat) : Int)), (8, vi i)] [(3, AO l), (5, bx [ci ((gl a i.toNat).number_), ci ((gl a i.toNat).kind_), ci ((gl a i.toNat).from_), ci ((gl a i.toNat).until_), .d (DL (α := Rect) (gl a i.toNat).region_.rects_)])] ⟨t, ⟨⟩⟩ ?_
   obtain ⟨e, A, h⟩ := bd_some h
   obtain ⟨u, h⟩ := gd_some h
   refine AW.G Fm [.s, .s, .k (cE [] [] (gE e) [] []), .w (AL (α := Feature) ([e] : List Feature)), .s, .s] (fun K => K 2 ∧ (ALe (.v (.c (.d (.lst 1 (litF 5 [.int .i64 e.number_, .int .i64 e.kind_, .int .i64 e.from_, .int .i64 e.until_, DL e.region_.rects_]))))) (AL (α := Feature) ([e] : List Feature))) ∧ ((List.length (α := Feature) l) + (List.length (α := Feature) ([e] : List Feature)) ≤ LIM ∧ (∀ j, j < List.length (α := Feature) ([e] : List Feature) → ((LF (α := Feature) ([e] : List Feature)) j).length = 5) ∧ (True)) ∧ True) [(3, ow 16), (6, AL a), (7, vi ((List.length a : Nat) : Int)), (8, vi i)] [(16, .arr 5 ((List.length (α := Feature) l) + (List.length (α := Feature) ([e] : List Feature))) (appF (List.length (α := Feature) l) (LF (α := Feature) l) (LF (α := Feature) ([e] : List Feature))))] ⟨KAt.CC (feature_copied_spec A) Try.call35 [], ALe.lst (.lit ([e] : List Feature) (by kernel_rfl)), ⟨u, (Is.refl ([e] : List Feature) : Is (List.length (α := Feature) ([e] : List Feature)) (LF (α := Feature) ([e] : List Feature)) ([e] : List Feature)).len, ⟨⟩⟩, ⟨⟩⟩ ?_
   refine Kn.wk [(3, ow 16), (6, AL a), (7, vi ((List.length a : Nat) : Int)), (8, vi i)] [(16, AO (α := Feature) (l ++ ([e] : List Feature)))] (FE.refl _) (⟨rfl, OLe.is (Is.app (Is.refl l) (Is.refl ([e] : List Feature))), ⟨⟩⟩) ?_
   obtain ⟨y, h⟩ := gd_some h
   refine AW.G Fm [.s, .s] (fun K => (I64 (i + (1 : Int)) ∧ True) ∧ True) [(3, ow 16), (6, AL a), (7, vi ((List.length a : Nat) : Int)), (8, vi (i + (1 : Int)))] [(16, AO (α := Feature) (l ++ ([e] : List Feature)))] ⟨⟨y, ⟨⟩⟩, ⟨⟩⟩ ?_
   exact Kn.RE Fm [(3, 16)] (p ((i + (1 : Int)), (l ++ ([e] : List Feature))) h)
  ·have h := br_f h n
   refine AW.exit ?_
   exact Kn.R Fm (q l h)
theorem feature_there_spec {F : Nat} {a : Feature} {b : Int} {r : Bool} (h : feature_there F a b = some r) :
  FSpec Try.prog 20 [gE a, vi b] [] (vb r) [] := by
 refine FSpec.intro prog_mixed prog_lay Try.func20 rfl (by kernel_rfl) fun C Fm => ?_
 unfold feature_there at h
 refine AW.SG0 Fm 2 [(1, vi b), (2, pt 2)] [(2, bx (gC a))] ?_
 refine AW.join (r := r) (fun z : Bool => feature_there_k0 F z) (fun z => [(4, vb z)]) (fun z => []) (fun i h => ?_) (fun e d => ?_)
 ·refine AW.ret ?_
  obtain rfl := Option.some.inj h
  exact Kn.D Fm
 ·rcases Bool.eq_false_or_eq_true (decide (a.from_ ≤ b)) with c | c
  ·have h := br_t h c
   refine AW.G Fm [.s, .s, .s, .s, .w (vb true), .s, .s, .s, .s, .s, .s] (fun K => (ALe (vb (decide (a.from_ ≤ b))) (vb true)) ∧ True) [(4, vb (decide (b < a.until_)))] [] ⟨ALe.bool c, ⟨⟩⟩ ?_
   exact Kn.R Fm (d (decide (b < a.until_)) h)
  ·have h := br_f h c
   refine AW.G Fm [.s, .s, .s, .s, .w (vb false), .s, .s, .s, .s, .s, .s] (fun K => (ALe (vb (decide (a.from_ ≤ b))) (vb false)) ∧ True) [(4, vb false)] [] ⟨ALe.bool c, ⟨⟩⟩ ?_
   exact Kn.R Fm (d false h)
theorem feature_On_1_spec {F : Nat} {b : Feature} {a : Int} {r : Bool} (h : feature_On_1 F b a = some r) :
  FSpec Try.prog 26 [gE b, pt 0] [(0, .box true [ci a])] (vb r) [(0, .box true [ci a])] := by
 refine FSpec.intro prog_mixed prog_lay Try.func26 rfl (by kernel_rfl) fun C Fm => ?_
 unfold feature_On_1 at h
 refine AW.SG0 Fm 2 [(1, pt 0), (2, pt 2)] [(0, .box true [ci a]), (2, bx (gC b))] ?_
 refine AW.seq ?_
 obtain ⟨c, d, h⟩ := bd_some h
 refine AW.G Fm [.s, .s, .k (cE [] [] (vb c) [] []), .s, .s] (fun K => K 2 ∧ True) [(3, vb (!c))] [(0, .box true [ci a])] ⟨KAt.CC (feature_there_spec d) Try.call20 [], ⟨⟩⟩ ?_
 refine AW.ret ?_
 obtain rfl := Option.some.inj h
 exact Kn.D Fm
theorem slices_IndexFunc_Feature_spec {F : Nat} {a : (List Feature)} {i : Feature → Option Bool} {r : Int} (h : slices_IndexFunc_Feature F a i = some r) :
  FSpec Try.prog 37 [AL a, .v (.c (.sem (CloOK Try.prog (FR_Feature_Bool i))))] [] (vi r) [] := by
 refine FSpec.intro prog_mixed prog_lay Try.func37 rfl (by kernel_rfl) fun C Fm => ?_
 unfold slices_IndexFunc_Feature at h
 refine AW.SG0 Fm 1 [(0, AL a), (1, .v (.c (.sem (CloOK Try.prog (FR_Feature_Bool i)))))] [] ?_
 refine AW.join (r := r) (fun z : Unit => slices_IndexFunc_Feature_k1 F) (fun z => []) (fun z => []) (fun z h => ?_) (fun w o => ?_)
 ·refine AW.SG0 Fm 1 [(4, vi (-1 : Int))] [] ?_
  refine AW.ret ?_
  obtain rfl := Option.some.inj h
  exact Kn.D Fm
 ·refine AW.SG0 Fm 3 [(0, AL a), (1, .v (.c (.sem (CloOK Try.prog (FR_Feature_Bool i))))), (7, vi ((List.length a : Nat) : Int)), (8, vi (0 : Int))] [] ?_
  refine AW.block ?_
  refine Kn.r Fm [(0, AL a), (1, .v (.c (.sem (CloOK Try.prog (FR_Feature_Bool i))))), (7, vi ((List.length a : Nat) : Int)), (8, vi (0 : Int))] [] (by kernel_rfl) ?_
  refine AW.loopF (E' := fun z => [(0, AL a), (1, .v (.c (.sem (CloOK Try.prog (FR_Feature_Bool i))))), (7, vi ((List.length a : Nat) : Int)), (8, vi z)]) (S' := fun z => []) (fun y e u n h => ?_) h
  refine AW.SG0 Fm 1 [(0, AL a), (1, .v (.c (.sem (CloOK Try.prog (FR_Feature_Bool i))))), (7, vi ((List.length a : Nat) : Int)), (8, vi e), (9, vb (decide (e < ((List.length a : Nat) : Int))))] [] ?_
  refine AW.seq ?_
  refine AW.cond (b := (decide (e < ((List.length a : Nat) : Int)))) (by kernel_rfl) (fun l => ?_) (fun l => ?_)
  ·have h := br_t h l
   refine AW.skip ?_
   refine AW.seq ?_
   refine AW.block ?_
   refine AW.SG0 Fm 2 [(0, AL a), (1, .v (.c (.sem (CloOK Try.prog (FR_Feature_Bool i))))), (5, vi e), (7, vi ((List.length a : Nat) : Int)), (8, vi e)] [] ?_
   refine AW.seq ?_
   obtain ⟨p, h⟩ := gd_some h
   obtain ⟨j, t, h⟩ := bd_some h
   refine AW.G Fm [.s, .s, .s, .s, .s, .k (sE (vb j))] (fun K => _ ∧ K 5 ∧ True) [(0, AL a), (1, .v (.c (.sem (CloOK Try.prog (FR_Feature_Bool i))))), (5, vi e), (7, vi ((List.length a : Nat) : Int)), (8, vi e), (16, vb j)] [] ⟨p, KAt.sem (F := (FR_Feature_Bool i)) (args := [.v (.g [ci ((gl a e.toNat).number_), ci ((gl a e.toNat).kind_), ci ((gl a e.toNat).from_), ci ((gl a e.toNat).until_), .d (DL (α := Rect) (gl a e.toNat).region_.rects_)])]) ⟨(gl a e.toNat), j, t, rfl, rfl⟩ rfl (by kernel_rfl) (by kernel_rfl) (by kernel_rfl), ⟨⟩⟩ ?_
   refine AW.cond (b := j) (by kernel_rfl) (fun m => ?_) (fun m => ?_)
   ·have h := br_t h m
    refine AW.SG0 Fm 2 [(4, vi e)] [] ?_
    refine AW.ret ?_
    obtain rfl := Option.some.inj h
    exact Kn.D Fm
   ·have h := br_f h m
    refine AW.skip ?_
    obtain ⟨q, h⟩ := gd_some h
    refine AW.G Fm [.s, .s] (fun K => (I64 (e + (1 : Int)) ∧ True) ∧ True) [(0, AL a), (1, .v (.c (.sem (CloOK Try.prog (FR_Feature_Bool i))))), (7, vi ((List.length a : Nat) : Int)), (8, vi (e + (1 : Int)))] [] ⟨⟨q, ⟨⟩⟩, ⟨⟩⟩ ?_
    exact Kn.R Fm (n (e + (1 : Int)) h)
  ·have h := br_f h l
   refine AW.exit ?_
   exact Kn.R Fm (o () h)
theorem slices_DeleteFunc_Feature_spec {F : Nat} {w : (List Feature)} {q : Feature → Option Bool} {r : (List Feature)} (h : slices_DeleteFunc_Feature F w q = some r) :
  FSpec Try.prog 25 [ow 0, .v (.c (.sem (CloOK Try.prog (FR_Feature_Bool q))))] [(0, AO w)] (ow 100) [(100, AO (α := Feature) r)] := by
 refine FSpec.intro prog_mixed prog_lay Try.func25 rfl (by kernel_rfl) fun C Fm => ?_
 unfold slices_DeleteFunc_Feature at h
 refine AW.SG Fm [.m] (fun K => True) [(0, ow 0), (1, .v (.c (.sem (CloOK Try.prog (FR_Feature_Bool q)))))] [(0, AO w)] True.intro ?_
 refine AW.seq ?_
 obtain ⟨y, a0, h⟩ := bd_some h
 refine AW.G Fm [.s, .s, .k (sE (vi y)), .s] (fun K => K 2 ∧ True) [(0, ow 0), (1, .v (.c (.sem (CloOK Try.prog (FR_Feature_Bool q))))), (5, vi y)] [(0, AO w)] ⟨KAt.callBX (slices_IndexFunc_Feature_spec a0) Try.call37 [0] [.tmp 8, .tmp 9] rfl (by kernel_rfl) (by kernel_rfl) ⟨ArgB.own 0 (es := 5) (n := List.length w) (f := LF w) (by kernel_rfl) (by kernel_rfl) (by kernel_rfl) (by kernel_rfl), ArgB.sem (by kernel_rfl) (by kernel_rfl), ⟨⟩⟩, ⟨⟩⟩ ?_
 refine AW.seq ?_
 refine AW.SG0 Fm 2 [(0, ow 0), (1, .v (.c (.sem (CloOK Try.prog (FR_Feature_Bool q))))), (5, vi y), (12, vb (y == (-1 : Int)))] [(0, AO w)] ?_
 refine AW.cond (b := (y == (-1 : Int))) (by kernel_rfl) (fun B => ?_) (fun B => ?_)
 ·have h := br_t h B
  refine AW.SG0 Fm 2 [(4, ow 0)] [(0, AO w)] ?_
  refine AW.ret ?_
  obtain rfl := Option.some.inj h
  exact Kn.re Fm [(100, 0)] [(4, ow 100)] [(100, AO w)] (by kernel_rfl) (by kernel_rfl) (by kernel_rfl) (by kernel_rfl) (Kn.dn Fm (by kernel_rfl))
 ·have h := br_f h B
  refine AW.skip ?_
  refine AW.join (r := r) (fun z : Int × (List Feature) => slices_DeleteFunc_Feature_k2 F z.1 z.2) (fun z => [(0, ow 0), (5, vi z.1)]) (fun z => [(0, AO z.2)]) (fun z h => ?_) (fun e0 V => ?_)
  ·obtain ⟨o, p⟩ := z
   obtain ⟨Z, h⟩ := gd_some h
   refine AW.SG Fm [.s, .s, .k (rE { v := .v (.c (.sub 0 5 (0 + (o).toNat) ((List.length (α := Feature) p) - (o).toNat))) }), .k (rE { v := .any, upd := some (0, .arr 5 (List.length (α := Feature) p) (fun i => if (0 + (o).toNat) ≤ i ∧ i < (0 + (o).toNat) + ((List.length (α := Feature) p) - (o).toNat) then (fun _ => [.int .i64 0, .int .i64 0, .int .i64 0, .int .i64 0, DL (α := Rect) []]) (i - (0 + (o).toNat)) else (LF (α := Feature) p) i)) })] (fun K => K 2 ∧ K 3 ∧ True) [(0, ow 0), (5, vi o)] [(0, .arr 5 (List.length (α := Feature) p) (fun i => if (0 + (o).toNat) ≤ i ∧ i < (0 + (o).toNat) + ((List.length (α := Feature) p) - (o).toNat) then (fun _ => [.int .i64 0, .int .i64 0, .int .i64 0, .int .i64 0, DL (α := Rect) []]) (i - (0 + (o).toNat)) else (LF (α := Feature) p) i))] ⟨KAt.vslice (l := (some o)) (u := none) (id := 0) (lo0 := 0) (n := (List.length (α := Feature) p)) (N := List.length (α := Feature) p) (f := LF (α := Feature) p) prog_lay slT23 rfl rfl (by kernel_rfl) (by kernel_rfl) (by kernel_rfl) (by kernel_rfl) (by kernel_rfl) Z (by kernel_rfl), KAt.vclear (id := 0) (lo0 := (0 + (o).toNat)) (n := ((List.length (α := Feature) p) - (o).toNat)) (N := List.length (α := Feature) p) (f := (LF (α := Feature) p)) prog_lay slT23 [.int .i64 0, .int .i64 0, .int .i64 0, .int .i64 0, .lst 0 fun _ => []] [.int .i64 0, .int .i64 0, .int .i64 0, .int .i64 0, DL (α := Rect) []] ⟨DLe.refl _, DLe.refl _, DLe.refl _, DLe.refl _, DLe.nil _ _, ⟨⟩⟩ rfl rfl (by kernel_rfl) (Nat.succ_pos _) (by kernel_rfl) (by kernel_rfl) (by kernel_rfl) (by kernel_rfl) rfl, ⟨⟩⟩ ?_
   refine Kn.wk [(0, ow 0), (5, vi o)] [(0, AO (α := Feature) (clr p (0 + (o).toNat) ((List.length (α := Feature) p) - (o).toNat)))] (FE.refl _) (⟨rfl, OLe.is (Is.clr (l := p) (0 + (o).toNat) ((List.length (α := Feature) p) - (o).toNat) (zd := [.int .i64 0, .int .i64 0, .int .i64 0, .int .i64 0, DL (α := Rect) []]) (by kernel_rfl)), ⟨⟩⟩) ?_
   obtain ⟨M, h⟩ := gd_some h
   refine AW.SG Fm [.s, .s, .m, .s] (fun K => _ ∧ True) [(4, ow 41)] [(41, .arr 5 ((o).toNat) (LF (α := Feature) (clr p (0 + (o).toNat) ((List.length (α := Feature) p) - (o).toNat))))] ⟨M, ⟨⟩⟩ ?_
   refine Kn.wk [(4, ow 41)] [(41, AO (α := Feature) ((clr p (0 + (o).toNat) ((List.length (α := Feature) p) - (o).toNat)).take (o).toNat))] (FE.refl _) (⟨rfl, OLe.is (Is.take (Is.refl (clr p (0 + (o).toNat) ((List.length (α := Feature) p) - (o).toNat))) M.2), ⟨⟩⟩) ?_
   refine AW.ret ?_
   obtain rfl := Option.some.inj h
   exact Kn.re Fm [(100, 41)] [(4, ow 100)] [(100, AO (α := Feature) ((clr p (0 + (o).toNat) ((List.length (α := Feature) p) - (o).toNat)).take (o).toNat))] (by kernel_rfl) (by kernel_rfl) (by kernel_rfl) (by kernel_rfl) (Kn.dn Fm (by kernel_rfl))
  ·obtain ⟨W, h⟩ := gd_some h
   refine AW.SG Fm [.s, .s, .s] (fun K => (I64 (y + (1 : Int)) ∧ True) ∧ True) [(0, ow 0), (1, .v (.c (.sem (CloOK Try.prog (FR_Feature_Bool q))))), (5, vi y), (6, vi (y + (1 : Int)))] [(0, AO w)] ⟨⟨W, ⟨⟩⟩, ⟨⟩⟩ ?_
   refine AW.block ?_
   refine Kn.r Fm [(0, ow 0), (1, .v (.c (.sem (CloOK Try.prog (FR_Feature_Bool q))))), (5, vi y), (6, vi (y + (1 : Int)))] [(0, AO w)] (by kernel_rfl) ?_
   refine AW.loopF (E' := fun z => [(0, ow 0), (1, .v (.c (.sem (CloOK Try.prog (FR_Feature_Bool q))))), (5, vi z.1), (6, vi z.2.1)]) (S' := fun z => [(0, AO z.2.2)]) (fun T z c0 U h => ?_) h
   obtain ⟨t, e, a⟩ := z
   refine AW.seq ?_
   refine AW.SG0 Fm 4 [(0, ow 0), (1, .v (.c (.sem (CloOK Try.prog (FR_Feature_Bool q))))), (5, vi t), (6, vi e), (19, vb (decide (e < ((List.length a : Nat) : Int))))] [(0, AO a)] ?_
   refine AW.cond (b := (decide (e < ((List.length a : Nat) : Int)))) (by kernel_rfl) (fun D => ?_) (fun D => ?_)
   ·have h := br_t h D
    refine AW.skip ?_
    refine AW.join (r := r) (fun z : Int × (List Feature) => slices_DeleteFunc_Feature_k1 F e T z.1 z.2) (fun z => [(0, ow 0), (1, .v (.c (.sem (CloOK Try.prog (FR_Feature_Bool q))))), (5, vi z.1), (6, vi e)]) (fun z => [(0, AO z.2)]) (fun z h => ?_) (fun d0 I => ?_)
    ·obtain ⟨O, P⟩ := z
     obtain ⟨Y, h⟩ := gd_some h
     refine AW.G Fm [.s, .s, .s] (fun K => (I64 (e + (1 : Int)) ∧ True) ∧ True) [(0, ow 0), (1, .v (.c (.sem (CloOK Try.prog (FR_Feature_Bool q))))), (5, vi O), (6, vi (e + (1 : Int)))] [(0, AO P)] ⟨⟨Y, ⟨⟩⟩, ⟨⟩⟩ ?_
     exact Kn.R Fm (U (O, (e + (1 : Int)), P) h)
    ·refine AW.block ?_
     obtain ⟨L, h⟩ := gd_some h
     refine AW.SG Fm [.s, .s, .s, .s, .s, .s] (fun K => _ ∧ (e.toNat < List.length a) ∧ True) [(0, ow 0), (1, .v (.c (.sem (CloOK Try.prog (FR_Feature_Bool q))))), (5, vi t), (6, vi e), (7, pt 7)] [(0, AO a), (7, bx [ci ((gl a e.toNat).number_), ci ((gl a e.toNat).kind_), ci ((gl a e.toNat).from_), ci ((gl a e.toNat).until_), .d (DL (α := Rect) (gl a e.toNat).region_.rects_)])] ⟨L, (toNat_lt L), ⟨⟩⟩ ?_
     refine AW.seq ?_
     obtain ⟨A, b0, h⟩ := bd_some h
     refine AW.G Fm [.s, .s, .k (sE (vb A)), .s] (fun K => K 2 ∧ True) [(0, ow 0), (1, .v (.c (.sem (CloOK Try.prog (FR_Feature_Bool q))))), (5, vi t), (6, vi e), (7, pt 7), (29, vb (!A))] [(0, AO a), (7, bx [ci ((gl a e.toNat).number_), ci ((gl a e.toNat).kind_), ci ((gl a e.toNat).from_), ci ((gl a e.toNat).until_), .d (DL (α := Rect) (gl a e.toNat).region_.rects_)])] ⟨KAt.sem (F := (FR_Feature_Bool q)) (args := [.v (.g [ci ((gl a e.toNat).number_), ci ((gl a e.toNat).kind_), ci ((gl a e.toNat).from_), ci ((gl a e.toNat).until_), .d (DL (α := Rect) (gl a e.toNat).region_.rects_)])]) ⟨(gl a e.toNat), A, b0, rfl, rfl⟩ rfl (by kernel_rfl) (by kernel_rfl) (by kernel_rfl), ⟨⟩⟩ ?_
     refine AW.cond (b := (!A)) (by kernel_rfl) (fun E => ?_) (fun E => ?_)
     ·have h := br_t h E
      obtain ⟨H, h⟩ := gd_some h
      refine AW.SG Fm [.s, .s, .s, .s, .s] (fun K => _ ∧ (t.toNat < List.length a) ∧ True) [(0, ow 0), (1, .v (.c (.sem (CloOK Try.prog (FR_Feature_Bool q))))), (5, vi t), (6, vi e)] [(0, .arr 5 (List.length (α := Feature) a) (fun j => if j = t.toNat then splice ((LF (α := Feature) a) t.toNat) 0 [.int .i64 (gl a e.toNat).number_, .int .i64 (gl a e.toNat).kind_, .int .i64 (gl a e.toNat).from_, .int .i64 (gl a e.toNat).until_, DL (α := Rect) (gl a e.toNat).region_.rects_] else (LF (α := Feature) a) j))] ⟨H, (toNat_lt H), ⟨⟩⟩ ?_
      refine Kn.wk [(0, ow 0), (1, .v (.c (.sem (CloOK Try.prog (FR_Feature_Bool q))))), (5, vi t), (6, vi e)] [(0, AO (α := Feature) (List.set a t.toNat (gl a e.toNat)))] (FE.refl _) (⟨rfl, OLe.is (Is.set (Is.refl a) (toNat_lt H) (gl a e.toNat) (by kernel_rfl)), ⟨⟩⟩) ?_
      obtain ⟨X, h⟩ := gd_some h
      refine AW.G Fm [.s, .s, .s] (fun K => (I64 (t + (1 : Int)) ∧ True) ∧ True) [(0, ow 0), (1, .v (.c (.sem (CloOK Try.prog (FR_Feature_Bool q))))), (5, vi (t + (1 : Int))), (6, vi e)] [(0, AO (α := Feature) (List.set a t.toNat (gl a e.toNat)))] ⟨⟨X, ⟨⟩⟩, ⟨⟩⟩ ?_
      exact Kn.R Fm (I ((t + (1 : Int)), (List.set a t.toNat (gl a e.toNat))) h)
     ·have h := br_f h E
      refine AW.skip ?_
      exact Kn.R Fm (I (t, a) h)
   ·have h := br_f h D
    refine AW.exit ?_
    exact Kn.R Fm (V (t, a) h)
theorem feature_On_spec {F : Nat} {i : (List Feature)} {e : Int} {r : (List Feature) × Int} (h : feature_On F i e = some r) :
  FSpec Try.prog 10 [AL i, vi e] [] (.t [.c (.d (DL (α := Feature) r.1)), .c (ci r.2)]) [] := by
 refine FSpec.intro prog_mixed prog_lay Try.func10 rfl (by kernel_rfl) fun C Fm => ?_
 unfold feature_On at h
 refine AW.SG0 Fm 3 [(0, AL i), (3, pt 3)] [(3, bx [ci e])] ?_
 refine AW.seq ?_
 refine AW.seq ?_
 obtain ⟨a, n, h⟩ := bd_some h
 refine AW.G Fm [.s, .s, .k (cE [] [] (vi a) [] []), .s] (fun K => K 2 ∧ True) [(0, AL i), (3, pt 3), (6, vi a)] [(3, bx [ci e])] ⟨KAt.CC (feature_right_spec n) Try.call24 [], ⟨⟩⟩ ?_
 refine AW.SG0 Fm 2 [(0, AL i), (3, pt 3), (6, vi a), (11, vb (a != (0 : Int)))] [(3, bx [ci e])] ?_
 refine AW.cond (b := (a != (0 : Int))) (by kernel_rfl) (fun l => ?_) (fun l => ?_)
 ·have h := br_t h l
  refine AW.SG0 Fm 3 [(4, .v (.c (.fl 0 fun _ => []))), (5, vi a)] [] ?_
  refine AW.ret ?_
  obtain rfl := Option.some.inj h
  refine Kn.r Fm [(4, .v (.c (.fl 0 fun _ => []))), (5, vi a)] [] (by kernel_rfl) ?_
  refine Kn.wk [(4, AL (α := Feature) []), (5, vi a)] [] ⟨rfl, ALe.c (CLe.fl .nil), ⟨rfl, ALe.c (CLe.refl _), ⟨⟩⟩⟩ True.intro ?_
  exact Kn.D Fm
 ·have h := br_f h l
  refine AW.skip ?_
  refine AW.seq ?_
  obtain ⟨m, o, h⟩ := bd_some h
  obtain ⟨j, q, h⟩ := bd_some h
  refine AW.G Fm [.s, .k (cE [(100, 14)] [] (ow 100) [] [(100, AO m)]), .s, .k (cE [(0, 14), (100, 16)] [3] (ow 100) [(0, AO m)] [(100, AO j)]), .s, .s] (fun K => K 1 ∧ K 3 ∧ True) [(4, ow 16), (5, vi (0 : Int))] [(16, AO j)] ⟨KAt.CC (feature_all_spec o) Try.call21 [(100, 14)], KAt.callX (slices_DeleteFunc_Feature_spec q) Try.call25 [(0, 14), (100, 16)] [3] [.tmp 14, .tmp 15] rfl (by kernel_rfl) (by kernel_rfl) (by kernel_rfl) ⟨.p, ArgT.cloX Try.call26 [[ci e]] (fun args r hq => by obtain ⟨y0, y, hq, rfl, rfl⟩ := hq; exact Eq.mp (by kernel_rfl) (feature_On_1_spec hq)) (fun args r hq => by obtain ⟨y0, y, hq, rfl, rfl⟩ := hq; rfl) (by kernel_rfl) [3] (by kernel_rfl) (by kernel_rfl) (⟨⟨false, (by kernel_rfl)⟩, ⟨⟩⟩) (by kernel_rfl), ⟨⟩⟩, ⟨⟩⟩ ?_
  refine AW.ret ?_
  obtain rfl := Option.some.inj h
  refine Kn.r Fm [(4, ow 16), (5, vi (0 : Int))] [(16, AO j)] (by kernel_rfl) ?_
  refine Kn.frz [(4, AL j), (5, vi (0 : Int))] [] (by kernel_rfl) (by kernel_rfl) (by kernel_rfl) ?_
  exact Kn.D Fm
theorem slices_BinarySearchFunc_Feature_spec {F : Nat} {a : (List Feature)} {j : Feature} {l : Feature → Feature → Option Int} {r : Int × Bool} (h : slices_BinarySearchFunc_Feature F a j l = some r) :
  FSpec Try.prog 18 [AL a, gE j, .v (.c (.sem (CloOK Try.prog (FR_Feature_Feature_Int l))))] [] (.t [.c (ci r.1), .c (.d (.bool r.2))]) [] := by
 refine FSpec.intro prog_mixed prog_lay Try.func18 rfl (by kernel_rfl) fun C Fm => ?_
 unfold slices_BinarySearchFunc_Feature at h
 refine AW.SG0 Fm 3 [(0, AL a), (2, .v (.c (.sem (CloOK Try.prog (FR_Feature_Feature_Int l))))), (4, pt 4)] [(4, bx (gC j))] ?_
 refine AW.SG0 Fm 3 [(0, AL a), (2, .v (.c (.sem (CloOK Try.prog (FR_Feature_Feature_Int l))))), (4, pt 4), (8, vi ((List.length a : Nat) : Int))] [(4, bx (gC j))] ?_
 refine AW.SG0 Fm 3 [(0, AL a), (2, .v (.c (.sem (CloOK Try.prog (FR_Feature_Feature_Int l))))), (4, pt 4), (8, vi ((List.length a : Nat) : Int)), (9, vi (0 : Int)), (10, vi ((List.length a : Nat) : Int))] [(4, bx (gC j))] ?_
 refine AW.join (r := r) (fun z : Int => slices_BinarySearchFunc_Feature_k1 F a j l z) (fun z => [(0, AL a), (2, .v (.c (.sem (CloOK Try.prog (FR_Feature_Feature_Int l))))), (4, pt 4), (8, vi ((List.length a : Nat) : Int)), (9, vi z)]) (fun z => [(4, bx (gC j))]) (fun m h => ?_) (fun U B => ?_)
 ·refine AW.join (r := r) (fun z : Bool => slices_BinarySearchFunc_Feature_k2 F m z) (fun z => [(6, vi m), (7, vb z)]) (fun z => []) (fun X h => ?_) (fun V A => ?_)
  ·refine AW.ret ?_
   obtain rfl := Option.some.inj h
   exact Kn.D Fm
  ·rcases Bool.eq_false_or_eq_true (decide (m < ((List.length a : Nat) : Int))) with n | n
   ·have h := br_t h n
    obtain ⟨N, h⟩ := gd_some h
    obtain ⟨p, P, h⟩ := bd_some h
    refine AW.G Fm [.s, .s, .s, .s, .w (vb true), .s, .s, .s, .s, .s, .s, .k (sE (vi p)), .s, .s, .s, .s] (fun K => (ALe (vb (decide (m < ((List.length a : Nat) : Int)))) (vb true)) ∧ _ ∧ K 11 ∧ True) [(6, vi m), (7, vb (p == (0 : Int)))] [] ⟨ALe.bool n, N, KAt.sem (F := (FR_Feature_Feature_Int l)) (args := [.v (.g [ci ((gl a m.toNat).number_), ci ((gl a m.toNat).kind_), ci ((gl a m.toNat).from_), ci ((gl a m.toNat).until_), .d (DL (α := Rect) (gl a m.toNat).region_.rects_)]), gE j]) ⟨(gl a m.toNat), j, p, P, rfl, rfl⟩ rfl (by kernel_rfl) (by kernel_rfl) (by kernel_rfl), ⟨⟩⟩ ?_
    exact Kn.R Fm (A (p == (0 : Int)) h)
   ·have h := br_f h n
    refine AW.G Fm [.s, .s, .s, .s, .w (vb false), .s, .s, .s, .s, .s, .s, .s, .s, .s, .s, .s] (fun K => (ALe (vb (decide (m < ((List.length a : Nat) : Int)))) (vb false)) ∧ True) [(6, vi m), (7, vb false)] [] ⟨ALe.bool n, ⟨⟩⟩ ?_
    exact Kn.R Fm (A false h)
 ·refine AW.block ?_
  refine Kn.r Fm [(0, AL a), (2, .v (.c (.sem (CloOK Try.prog (FR_Feature_Feature_Int l))))), (4, pt 4), (8, vi ((List.length a : Nat) : Int)), (9, vi (0 : Int)), (10, vi ((List.length a : Nat) : Int))] [(4, bx (gC j))] (by kernel_rfl) ?_
  refine AW.loopF (E' := fun z => [(0, AL a), (2, .v (.c (.sem (CloOK Try.prog (FR_Feature_Feature_Int l))))), (4, pt 4), (8, vi ((List.length a : Nat) : Int)), (9, vi z.1), (10, vi z.2)]) (S' := fun z => [(4, bx (gC j))]) (fun W z T y h => ?_) h
  obtain ⟨e, i⟩ := z
  refine AW.seq ?_
  refine AW.SG0 Fm 3 [(0, AL a), (2, .v (.c (.sem (CloOK Try.prog (FR_Feature_Feature_Int l))))), (4, pt 4), (8, vi ((List.length a : Nat) : Int)), (9, vi e), (10, vi i), (17, vb (decide (e < i)))] [(4, bx (gC j))] ?_
  refine AW.cond (b := (decide (e < i))) (by kernel_rfl) (fun q => ?_) (fun q => ?_)
  ·have h := br_t h q
   refine AW.skip ?_
   refine AW.block ?_
   obtain ⟨E, h⟩ := gd_some h
   obtain ⟨H, h⟩ := gd_some h
   obtain ⟨I, h⟩ := gd_some h
   refine AW.SG Fm [.s, .s, .s, .s, .s, .s, .s] (fun K => (I64 (e + i) ∧ True) ∧ (True) ∧ _ ∧ (I64 ((IntKind.wrap .u64 (e + i)).fdiv (2 ^ (min ((1 : Int)).toNat (IntKind.bits .u64)))) ∧ True) ∧ True) [(0, AL a), (2, .v (.c (.sem (CloOK Try.prog (FR_Feature_Feature_Int l))))), (4, pt 4), (8, vi ((List.length a : Nat) : Int)), (9, vi e), (10, vi i), (11, vi ((IntKind.wrap .u64 (e + i)).fdiv (2 ^ (min ((1 : Int)).toNat (IntKind.bits .u64)))))] [(4, bx (gC j))] ⟨⟨E, ⟨⟩⟩, True.intro, H, ⟨I, ⟨⟩⟩, ⟨⟩⟩ ?_
   refine AW.seq ?_
   obtain ⟨L, h⟩ := gd_some h
   obtain ⟨o, O, h⟩ := bd_some h
   refine AW.G Fm [.s, .s, .s, .s, .s, .s, .k (sE (vi o)), .s] (fun K => _ ∧ K 6 ∧ True) [(0, AL a), (2, .v (.c (.sem (CloOK Try.prog (FR_Feature_Feature_Int l))))), (4, pt 4), (8, vi ((List.length a : Nat) : Int)), (9, vi e), (10, vi i), (11, vi ((IntKind.wrap .u64 (e + i)).fdiv (2 ^ (min ((1 : Int)).toNat (IntKind.bits .u64))))), (31, vb (decide (o < (0 : Int))))] [(4, bx (gC j))] ⟨L, KAt.sem (F := (FR_Feature_Feature_Int l)) (args := [.v (.g [ci ((gl a ((IntKind.wrap .u64 (e + i)).fdiv (2 ^ (min ((1 : Int)).toNat (IntKind.bits .u64)))).toNat).number_), ci ((gl a ((IntKind.wrap .u64 (e + i)).fdiv (2 ^ (min ((1 : Int)).toNat (IntKind.bits .u64)))).toNat).kind_), ci ((gl a ((IntKind.wrap .u64 (e + i)).fdiv (2 ^ (min ((1 : Int)).toNat (IntKind.bits .u64)))).toNat).from_), ci ((gl a ((IntKind.wrap .u64 (e + i)).fdiv (2 ^ (min ((1 : Int)).toNat (IntKind.bits .u64)))).toNat).until_), .d (DL (α := Rect) (gl a ((IntKind.wrap .u64 (e + i)).fdiv (2 ^ (min ((1 : Int)).toNat (IntKind.bits .u64)))).toNat).region_.rects_)]), gE j]) ⟨(gl a ((IntKind.wrap .u64 (e + i)).fdiv (2 ^ (min ((1 : Int)).toNat (IntKind.bits .u64)))).toNat), j, o, O, rfl, rfl⟩ rfl (by kernel_rfl) (by kernel_rfl) (by kernel_rfl), ⟨⟩⟩ ?_
   refine AW.cond (b := (decide (o < (0 : Int)))) (by kernel_rfl) (fun u => ?_) (fun u => ?_)
   ·have h := br_t h u
    obtain ⟨M, h⟩ := gd_some h
    refine AW.G Fm [.s, .s, .s] (fun K => (I64 (((IntKind.wrap .u64 (e + i)).fdiv (2 ^ (min ((1 : Int)).toNat (IntKind.bits .u64)))) + (1 : Int)) ∧ True) ∧ True) [(0, AL a), (2, .v (.c (.sem (CloOK Try.prog (FR_Feature_Feature_Int l))))), (4, pt 4), (8, vi ((List.length a : Nat) : Int)), (9, vi (((IntKind.wrap .u64 (e + i)).fdiv (2 ^ (min ((1 : Int)).toNat (IntKind.bits .u64)))) + (1 : Int))), (10, vi i)] [(4, bx (gC j))] ⟨⟨M, ⟨⟩⟩, ⟨⟩⟩ ?_
    exact Kn.R Fm (y ((((IntKind.wrap .u64 (e + i)).fdiv (2 ^ (min ((1 : Int)).toNat (IntKind.bits .u64)))) + (1 : Int)), i) h)
   ·have h := br_f h u
    refine AW.G0 Fm 2 [(0, AL a), (2, .v (.c (.sem (CloOK Try.prog (FR_Feature_Feature_Int l))))), (4, pt 4), (8, vi ((List.length a : Nat) : Int)), (9, vi e), (10, vi ((IntKind.wrap .u64 (e + i)).fdiv (2 ^ (min ((1 : Int)).toNat (IntKind.bits .u64)))))] [(4, bx (gC j))] ?_
    exact Kn.R Fm (y (e, ((IntKind.wrap .u64 (e + i)).fdiv (2 ^ (min ((1 : Int)).toNat (IntKind.bits .u64))))) h)
  ·have h := br_f h q
   refine AW.exit ?_
   exact Kn.R Fm (B e h)
theorem feature_compare_spec {F : Nat} {a : Feature} {b : Feature} {r : Int} (h : feature_compare F a b = some r) :
  FSpec Try.prog 19 [gE a, gE b] [] (vi r) [] := by
 refine FSpec.intro prog_mixed prog_lay Try.func19 rfl (by kernel_rfl) fun C Fm => ?_
 unfold feature_compare at h
 refine AW.SG0 Fm 3 [(2, pt 2), (3, pt 3)] [(2, bx (gC a)), (3, bx (gC b))] ?_
 refine AW.seq ?_
 obtain ⟨c, d, h⟩ := bd_some h
 refine AW.G Fm [.s, .s, .s, .s, .k (cE [] [] (vi c) [] []), .s] (fun K => K 4 ∧ True) [(4, vi c)] [] ⟨KAt.CC (cmp_Compare_int_spec d) Try.call34 [], ⟨⟩⟩ ?_
 refine AW.ret ?_
 obtain rfl := Option.some.inj h
 exact Kn.D Fm
end Go.Ab
end
