/- The code follows the plain programs: whenever the plain program has a result. -/
import Derived.Test.YthifkkpkmdpoiaaGreatSpA
import Derived.Test.YthifkkpkmdpoiaaGreatBaA
set_option linter.unusedVariables false
set_option linter.unusedSimpArgs false
section
namespace Go.Ab
open Go.Proofs
set_option linter.unusedVariables false
set_option maxRecDepth 100000
theorem shape_Grow_spec {F : Nat} {m : Region} {n : Int} {r : Region × Int} (h : shape_Grow F m n = some r) :
  FSpec Tryz.prog 35 [.v (.g [.d (DL m.rects_)]), vi n] [] (.t [.g [.d (DL (α := Rect) r.1.rects_)], .c (ci r.2)]) [] := by
 refine FSpec.intro prog_mixed prog_lay Tryz.func35 rfl (by kernel_rfl) fun C Fm => ?_
 unfold shape_Grow at h
 refine AW.SG0 Fm 3 [(1, vi n), (2, pt 2), (4, pt 4)] [(2, bx [.d (DL m.rects_)]), (4, bx [.fl 0 fun _ => []])] ?_
 refine AW.seq ?_
 refine AW.seq ?_
 obtain ⟨l, I, h⟩ := bd_some h
 refine AW.G Fm [.s, .s, .k (cE [] [] (vi l) [] []), .s] (fun K => K 2 ∧ True) [(1, vi n), (2, pt 2), (4, pt 4), (6, vi l)] [(2, bx [.d (DL m.rects_)]), (4, bx [.fl 0 fun _ => []])] ⟨KAt.CC (shape_check_spec I) Tryz.call95 [], ⟨⟩⟩ ?_
 refine AW.SG0 Fm 2 [(1, vi n), (2, pt 2), (4, pt 4), (6, vi l), (14, vb (l != (0 : Int)))] [(2, bx [.d (DL m.rects_)]), (4, bx [.fl 0 fun _ => []])] ?_
 refine AW.cond (b := (l != (0 : Int))) (by kernel_rfl) (fun p => ?_) (fun p => ?_)
 ·have h := br_t h p
  refine AW.SG Fm [.w (.v (.g [.d (DL (α := Rect) [])])), .s, .s, .s] (fun K => (ALe (.v (.g [.fl 0 fun _ => []])) (.v (.g [.d (DL (α := Rect) [])]))) ∧ True) [(4, pt 4), (5, vi l)] [(4, bx [.d (DL (α := Rect) [])])] ⟨ALe.g ⟨CLe.fl .nil, ⟨⟩⟩, ⟨⟩⟩ ?_
  refine AW.ret ?_
  obtain rfl := Option.some.inj h
  exact Kn.D Fm
 ·have h := br_f h p
  refine AW.skip ?_
  refine AW.seq ?_
  obtain ⟨i, L, h⟩ := bd_some h
  refine AW.G Fm [.s, .s, .s, .k (cE [(100, 20)] [] (ow 100) [] [(100, AO i)]), .s] (fun K => K 3 ∧ True) [(4, pt 4), (7, ow 20)] [(4, bx [.fl 0 fun _ => []]), (20, AO i)] ⟨KAt.CC (shape_wider_spec L) Tryz.call96 [(100, 20)], ⟨⟩⟩ ?_
  refine AW.join (r := r) (fun z : (List Rect) => shape_Grow_k1 F z) (fun z => [(4, pt 4), (7, ow 20)]) (fun z => [(4, bx [.fl 0 fun _ => []]), (20, AO z)]) (fun A h => ?_) (fun O E => ?_)
  ·refine AW.seq ?_
   refine Kn.r Fm [(4, pt 4), (7, ow 20)] [(20, AO A), (4, bx [.fl 0 fun _ => []])] (by kernel_rfl) ?_
   refine Kn.frz [(4, pt 4), (7, AL A)] [(4, bx [.fl 0 fun _ => []])] (by kernel_rfl) (by kernel_rfl) (by kernel_rfl) ?_
   obtain ⟨o, M, h⟩ := bd_some h
   refine AW.G Fm [.s, .k (cE [] [] (.t [.g [.d (DL o.1.rects_)], .c (ci o.2)]) [] []), .s, .s, .s, .s] (fun K => K 1 ∧ True) [(4, pt 4), (5, vi o.2)] [(4, bx [.d (DL o.1.rects_)])] ⟨KAt.CC (region_Of_spec M) Tryz.call57 [], ⟨⟩⟩ ?_
   refine AW.ret ?_
   obtain rfl := Option.some.inj h
   exact Kn.D Fm
  ·refine AW.SG0 Fm 3 [(4, pt 4), (7, ow 20), (21, ow 20), (22, vi ((List.length i : Nat) : Int)), (23, vi (0 : Int))] [(4, bx [.fl 0 fun _ => []]), (20, AO i)] ?_
   refine AW.block ?_
   refine Kn.r Fm [(4, pt 4), (7, ow 20), (21, ow 20), (22, vi ((List.length i : Nat) : Int)), (23, vi (0 : Int))] [(4, bx [.fl 0 fun _ => []]), (20, AO i)] (by kernel_rfl) ?_
   refine AW.loopF (E' := fun z => [(4, pt 4), (7, ow 20), (21, ow 20), (22, vi ((List.length i : Nat) : Int)), (23, vi z.1)]) (S' := fun z => [(4, bx [.fl 0 fun _ => []]), (20, AO z.2)]) (fun P z N B h => ?_) h
   obtain ⟨a, e⟩ := z
   refine AW.SG0 Fm 1 [(4, pt 4), (7, ow 20), (21, ow 20), (22, vi ((List.length i : Nat) : Int)), (23, vi a), (24, vb (decide (a < ((List.length i : Nat) : Int))))] [(4, bx [.fl 0 fun _ => []]), (20, AO e)] ?_
   refine AW.seq ?_
   refine AW.cond (b := (decide (a < ((List.length i : Nat) : Int)))) (by kernel_rfl) (fun q => ?_) (fun q => ?_)
   ·have h := br_t h q
    refine AW.skip ?_
    refine AW.seq ?_
    refine AW.block ?_
    obtain ⟨y, h⟩ := gd_some h
    refine AW.SG Fm [.s, .s, .s, .s, .s, .s] (fun K => _ ∧ (a.toNat < List.length e) ∧ True) [(4, pt 4), (7, ow 20), (8, vi a), (9, pt 9), (21, ow 20), (22, vi ((List.length i : Nat) : Int)), (23, vi a)] [(4, bx [.fl 0 fun _ => []]), (9, bx [ci ((gl e a.toNat).left_), ci ((gl e a.toNat).low_), ci ((gl e a.toNat).right_), ci ((gl e a.toNat).high_)]), (20, AO e)] ⟨y, (toNat_lt y), ⟨⟩⟩ ?_
    obtain ⟨u, h⟩ := gd_some h
    refine AW.G Fm [.s, .s, .s, .s, .s, .s, .s, .s, .s, .s, .s, .s, .s, .s, .s, .s, .s] (fun K => _ ∧ (a.toNat < List.length e) ∧ True) [(4, pt 4), (7, ow 20), (21, ow 20), (22, vi ((List.length i : Nat) : Int)), (23, vi a)] [(4, bx [.fl 0 fun _ => []]), (20, .arr 4 (List.length (α := Rect) e) (fun j => if j = a.toNat then splice ((LF (α := Rect) e) a.toNat) 0 [.int .i64 (gmax (0 : Int) ((gl e a.toNat).left_)), .int .i64 (gmax (0 : Int) ((gl e a.toNat).low_)), .int .i64 (gmin (16384 : Int) ((gl e a.toNat).right_)), .int .i64 (gmin (16384 : Int) ((gl e a.toNat).high_))] else (LF (α := Rect) e) j))] ⟨u, (toNat_lt u), ⟨⟩⟩ ?_
    refine Kn.wk [(4, pt 4), (7, ow 20), (21, ow 20), (22, vi ((List.length i : Nat) : Int)), (23, vi a)] [(4, bx [.fl 0 fun _ => []]), (20, AO (α := Rect) (List.set e a.toNat (⟨(gmax (0 : Int) ((gl e a.toNat).left_)), (gmax (0 : Int) ((gl e a.toNat).low_)), (gmin (16384 : Int) ((gl e a.toNat).right_)), (gmin (16384 : Int) ((gl e a.toNat).high_))⟩ : Rect)))] (FE.refl _) (⟨rfl, OLe.refl _, ⟨rfl, OLe.is (Is.set (Is.refl e) (toNat_lt u) (⟨(gmax (0 : Int) ((gl e a.toNat).left_)), (gmax (0 : Int) ((gl e a.toNat).low_)), (gmin (16384 : Int) ((gl e a.toNat).right_)), (gmin (16384 : Int) ((gl e a.toNat).high_))⟩ : Rect) (by kernel_rfl)), ⟨⟩⟩⟩) ?_
    obtain ⟨H, h⟩ := gd_some h
    refine AW.G Fm [.s, .s] (fun K => (I64 (a + (1 : Int)) ∧ True) ∧ True) [(4, pt 4), (7, ow 20), (21, ow 20), (22, vi ((List.length i : Nat) : Int)), (23, vi (a + (1 : Int)))] [(4, bx [.fl 0 fun _ => []]), (20, AO (α := Rect) (List.set e a.toNat (⟨(gmax (0 : Int) ((gl e a.toNat).left_)), (gmax (0 : Int) ((gl e a.toNat).low_)), (gmin (16384 : Int) ((gl e a.toNat).right_)), (gmin (16384 : Int) ((gl e a.toNat).high_))⟩ : Rect)))] ⟨⟨H, ⟨⟩⟩, ⟨⟩⟩ ?_
    exact Kn.R Fm (B ((a + (1 : Int)), (List.set e a.toNat (⟨(gmax (0 : Int) ((gl e a.toNat).left_)), (gmax (0 : Int) ((gl e a.toNat).low_)), (gmin (16384 : Int) ((gl e a.toNat).right_)), (gmin (16384 : Int) ((gl e a.toNat).high_))⟩ : Rect))) h)
   ·have h := br_f h q
    refine AW.exit ?_
    exact Kn.R Fm (E e h)
theorem law06_awake_spec {F : Nat} {r : Bool} (h : law06_awake F = some r) :
  FSpec Tryz.prog 19 [] [] (vb r) [] := by
 refine FSpec.intro prog_mixed prog_lay Tryz.func19 rfl (by kernel_rfl) fun C Fm => ?_
 unfold law06_awake at h
 refine AW.SG0 Fm 1 [] [] ?_
 refine AW.seq ?_
 obtain ⟨a, n, h⟩ := bd_some h
 refine AW.G Fm [.s, .s, .w (AL (α := Rect) ([(⟨0, 0, (1 : Int), (1 : Int)⟩ : Rect), (⟨(1 : Int), (1 : Int), (2 : Int), (2 : Int)⟩ : Rect)] : List Rect)), .s, .k (cE [] [] (.t [.c (.d (DL a.1)), .c (ci a.2)]) [] []), .s, .s, .s, .s, .s] (fun K => (ALe (.v (.c (.d (.lst 2 (litF 4 [.int .i64 0, .int .i64 0, .int .i64 (1 : Int), .int .i64 (1 : Int), .int .i64 (1 : Int), .int .i64 (1 : Int), .int .i64 (2 : Int), .int .i64 (2 : Int)]))))) (AL (α := Rect) ([(⟨0, 0, (1 : Int), (1 : Int)⟩ : Rect), (⟨(1 : Int), (1 : Int), (2 : Int), (2 : Int)⟩ : Rect)] : List Rect))) ∧ K 4 ∧ True) [(1, AL a.1), (2, vi a.2)] [] ⟨ALe.lst (.lit ([(⟨0, 0, (1 : Int), (1 : Int)⟩ : Rect), (⟨(1 : Int), (1 : Int), (2 : Int), (2 : Int)⟩ : Rect)] : List Rect) (by kernel_rfl)), KAt.CC (shape_Parts_spec n) Tryz.call14 [], ⟨⟩⟩ ?_
 refine AW.seq ?_
 obtain ⟨e, o, h⟩ := bd_some h
 refine AW.G Fm [.s, .w (AL (α := Rect) ([(⟨(5 : Int), (5 : Int), (6 : Int), (6 : Int)⟩ : Rect)] : List Rect)), .s, .k (cE [] [] (.t [.g [.d (DL e.1.rects_)], .c (ci e.2)]) [] []), .s, .s, .s, .s, .s, .s] (fun K => (ALe (.v (.c (.d (.lst 1 (litF 4 [.int .i64 (5 : Int), .int .i64 (5 : Int), .int .i64 (6 : Int), .int .i64 (6 : Int)]))))) (AL (α := Rect) ([(⟨(5 : Int), (5 : Int), (6 : Int), (6 : Int)⟩ : Rect)] : List Rect))) ∧ K 3 ∧ True) [(1, AL a.1), (2, vi a.2), (3, pt 3), (4, vi e.2)] [(3, bx [.d (DL e.1.rects_)])] ⟨ALe.lst (.lit ([(⟨(5 : Int), (5 : Int), (6 : Int), (6 : Int)⟩ : Rect)] : List Rect) (by kernel_rfl)), KAt.CC (shape_Grow_spec o) Tryz.call35 [], ⟨⟩⟩ ?_
 refine AW.join (r := r) (fun z : Bool => law06_awake_k0 F z) (fun z => [(0, vb z)]) (fun z => []) (fun u h => ?_) (fun q l => ?_)
 ·refine AW.ret ?_
  obtain rfl := Option.some.inj h
  exact Kn.D Fm
 ·rcases Bool.eq_false_or_eq_true (a.2 == (0 : Int)) with b | b
  ·have h := br_t h b
   rcases Bool.eq_false_or_eq_true (((List.length a.1 : Nat) : Int) == (2 : Int)) with i | i
   ·have h := br_t h i
    rcases Bool.eq_false_or_eq_true (e.2 == (0 : Int)) with j | j
    ·have h := br_t h j
     obtain ⟨m, p, h⟩ := bd_some h
     refine AW.G Fm [.s, .s, .w (vb true), .s, .s, .s, .s, .w (vb true), .s, .s, .s, .w (vb true), .s, .s, .s, .w (AL (α := Rect) ([(⟨(4 : Int), (4 : Int), (7 : Int), (7 : Int)⟩ : Rect)] : List Rect)), .k (cE [] [] (vb m) [] []), .s, .s] (fun K => (ALe (vb (a.2 == (0 : Int))) (vb true)) ∧ (ALe (vb (((List.length a.1 : Nat) : Int) == (2 : Int))) (vb true)) ∧ (ALe (vb (e.2 == (0 : Int))) (vb true)) ∧ (ALe (.v (.c (.d (.lst 1 (litF 4 [.int .i64 (4 : Int), .int .i64 (4 : Int), .int .i64 (7 : Int), .int .i64 (7 : Int)]))))) (AL (α := Rect) ([(⟨(4 : Int), (4 : Int), (7 : Int), (7 : Int)⟩ : Rect)] : List Rect))) ∧ K 16 ∧ True) [(0, vb m)] [] ⟨ALe.bool b, ALe.bool i, ALe.bool j, ALe.lst (.lit ([(⟨(4 : Int), (4 : Int), (7 : Int), (7 : Int)⟩ : Rect)] : List Rect) (by kernel_rfl)), KAt.CC (ref04_Rects_spec p) Tryz.call63 [], ⟨⟩⟩ ?_
     exact Kn.R Fm (l m h)
    ·have h := br_f h j
     refine AW.G Fm [.s, .s, .w (vb true), .s, .s, .s, .s, .w (vb true), .s, .s, .s, .w (vb false), .s, .s, .s, .s, .s, .s, .s] (fun K => (ALe (vb (a.2 == (0 : Int))) (vb true)) ∧ (ALe (vb (((List.length a.1 : Nat) : Int) == (2 : Int))) (vb true)) ∧ (ALe (vb (e.2 == (0 : Int))) (vb false)) ∧ True) [(0, vb false)] [] ⟨ALe.bool b, ALe.bool i, ALe.bool j, ⟨⟩⟩ ?_
     exact Kn.R Fm (l false h)
   ·have h := br_f h i
    refine AW.G Fm [.s, .s, .w (vb true), .s, .s, .s, .s, .w (vb false), .s, .s, .s, .s, .s, .s, .s, .s, .s, .s, .s] (fun K => (ALe (vb (a.2 == (0 : Int))) (vb true)) ∧ (ALe (vb (((List.length a.1 : Nat) : Int) == (2 : Int))) (vb false)) ∧ True) [(0, vb false)] [] ⟨ALe.bool b, ALe.bool i, ⟨⟩⟩ ?_
    exact Kn.R Fm (l false h)
  ·have h := br_f h b
   refine AW.G Fm [.s, .s, .w (vb false), .s, .s, .s, .s, .s, .s, .s, .s, .s, .s, .s, .s, .s, .s, .s, .s] (fun K => (ALe (vb (a.2 == (0 : Int))) (vb false)) ∧ True) [(0, vb false)] [] ⟨ALe.bool b, ⟨⟩⟩ ?_
   exact Kn.R Fm (l false h)
theorem shape_Bounds_spec {F : Nat} {a : Region} {r : Rect × Bool} (h : shape_Bounds F a = some r) :
  FSpec Tryz.prog 48 [.v (.g [.d (DL a.rects_)])] [] (.t [.g (gC r.1), .c (.d (.bool r.2))]) [] := by
 refine FSpec.intro prog_mixed prog_lay Tryz.func48 rfl (by kernel_rfl) fun C Fm => ?_
 unfold shape_Bounds at h
 refine AW.SG0 Fm 3 [(1, pt 1), (2, pt 2)] [(1, bx [.d (DL a.rects_)]), (2, bx [ci 0, ci 0, ci 0, ci 0])] ?_
 refine AW.seq ?_
 refine AW.join (r := r) (fun z : Bool => shape_Bounds_k0 F a z) (fun z => [(1, pt 1), (2, pt 2), (15, vb z)]) (fun z => [(1, bx [.d (DL a.rects_)]), (2, bx [ci 0, ci 0, ci 0, ci 0])]) (fun L h => ?_) (fun T u => ?_)
 ·refine AW.cond (b := L) (by kernel_rfl) (fun p => ?_) (fun p => ?_)
  ·have h := br_t h p
   refine AW.SG0 Fm 3 [(2, pt 2), (3, vb false)] [(2, bx [ci 0, ci 0, ci 0, ci 0])] ?_
   refine AW.ret ?_
   obtain rfl := Option.some.inj h
   exact Kn.D Fm
  ·have h := br_f h p
   refine AW.skip ?_
   obtain ⟨E, h⟩ := gd_some h
   refine AW.SG Fm [.s, .s, .s, .s, .s, .s] (fun K => _ ∧ True) [(1, pt 1), (2, pt 2), (4, pt 4)] [(1, bx [.d (DL a.rects_)]), (2, bx [ci 0, ci 0, ci 0, ci 0]), (4, bx [ci ((gl a.rects_ (0 : Int).toNat).left_), ci ((gl a.rects_ (0 : Int).toNat).low_), ci ((gl a.rects_ (0 : Int).toNat).right_), ci ((gl a.rects_ (0 : Int).toNat).high_)])] ⟨E, ⟨⟩⟩ ?_
   refine AW.join (r := r) (fun z : Int × Int × Int × Int => shape_Bounds_k2 F z.1 z.2.1 z.2.2.1 z.2.2.2) (fun z => [(2, pt 2), (4, pt 4)]) (fun z => [(2, bx [ci 0, ci 0, ci 0, ci 0]), (4, bx [ci z.1, ci z.2.1, ci z.2.2.1, ci z.2.2.2])]) (fun z h => ?_) (fun V B => ?_)
   ·obtain ⟨M, N, O, P⟩ := z
    refine AW.SG0 Fm 3 [(2, pt 2), (3, vb true)] [(2, bx [ci M, ci N, ci O, ci P])] ?_
    refine AW.ret ?_
    obtain rfl := Option.some.inj h
    exact Kn.D Fm
   ·refine AW.SG0 Fm 4 [(2, pt 2), (4, pt 4), (22, AL a.rects_), (23, vi ((List.length a.rects_ : Nat) : Int)), (24, vi (0 : Int))] [(2, bx [ci 0, ci 0, ci 0, ci 0]), (4, bx [ci ((gl a.rects_ (0 : Int).toNat).left_), ci ((gl a.rects_ (0 : Int).toNat).low_), ci ((gl a.rects_ (0 : Int).toNat).right_), ci ((gl a.rects_ (0 : Int).toNat).high_)])] ?_
    refine AW.block ?_
    refine Kn.r Fm [(2, pt 2), (4, pt 4), (22, AL a.rects_), (23, vi ((List.length a.rects_ : Nat) : Int)), (24, vi (0 : Int))] [(2, bx [ci 0, ci 0, ci 0, ci 0]), (4, bx [ci ((gl a.rects_ (0 : Int).toNat).left_), ci ((gl a.rects_ (0 : Int).toNat).low_), ci ((gl a.rects_ (0 : Int).toNat).right_), ci ((gl a.rects_ (0 : Int).toNat).high_)])] (by kernel_rfl) ?_
    refine AW.loopF (E' := fun z => [(2, pt 2), (4, pt 4), (22, AL a.rects_), (23, vi ((List.length a.rects_ : Nat) : Int)), (24, vi z.1)]) (S' := fun z => [(2, bx [ci 0, ci 0, ci 0, ci 0]), (4, bx [ci z.2.1, ci z.2.2.1, ci z.2.2.2.1, ci z.2.2.2.2])]) (fun W z U A h => ?_) h
    obtain ⟨e, i, j, l, m⟩ := z
    refine AW.SG0 Fm 1 [(2, pt 2), (4, pt 4), (22, AL a.rects_), (23, vi ((List.length a.rects_ : Nat) : Int)), (24, vi e), (25, vb (decide (e < ((List.length a.rects_ : Nat) : Int))))] [(2, bx [ci 0, ci 0, ci 0, ci 0]), (4, bx [ci i, ci j, ci l, ci m])] ?_
    refine AW.seq ?_
    refine AW.cond (b := (decide (e < ((List.length a.rects_ : Nat) : Int)))) (by kernel_rfl) (fun q => ?_) (fun q => ?_)
    ·have h := br_t h q
     refine AW.skip ?_
     refine AW.seq ?_
     refine AW.block ?_
     obtain ⟨H, h⟩ := gd_some h
     refine AW.SG Fm [.s, .s, .s, .s] (fun K => _ ∧ True) [(2, pt 2), (4, pt 4), (6, pt 6), (22, AL a.rects_), (23, vi ((List.length a.rects_ : Nat) : Int)), (24, vi e)] [(2, bx [ci 0, ci 0, ci 0, ci 0]), (4, bx [ci i, ci j, ci l, ci m]), (6, bx [ci ((gl a.rects_ e.toNat).left_), ci ((gl a.rects_ e.toNat).low_), ci ((gl a.rects_ e.toNat).right_), ci ((gl a.rects_ e.toNat).high_)])] ⟨H, ⟨⟩⟩ ?_
     refine AW.G0 Fm 22 [(2, pt 2), (4, pt 4), (22, AL a.rects_), (23, vi ((List.length a.rects_ : Nat) : Int)), (24, vi e)] [(2, bx [ci 0, ci 0, ci 0, ci 0]), (4, bx [ci (gmin i ((gl a.rects_ e.toNat).left_)), ci (gmin j ((gl a.rects_ e.toNat).low_)), ci (gmax l ((gl a.rects_ e.toNat).right_)), ci (gmax m ((gl a.rects_ e.toNat).high_))])] ?_
     obtain ⟨I, h⟩ := gd_some h
     refine AW.G Fm [.s, .s] (fun K => (I64 (e + (1 : Int)) ∧ True) ∧ True) [(2, pt 2), (4, pt 4), (22, AL a.rects_), (23, vi ((List.length a.rects_ : Nat) : Int)), (24, vi (e + (1 : Int)))] [(2, bx [ci 0, ci 0, ci 0, ci 0]), (4, bx [ci (gmin i ((gl a.rects_ e.toNat).left_)), ci (gmin j ((gl a.rects_ e.toNat).low_)), ci (gmax l ((gl a.rects_ e.toNat).right_)), ci (gmax m ((gl a.rects_ e.toNat).high_))])] ⟨⟨I, ⟨⟩⟩, ⟨⟩⟩ ?_
     exact Kn.R Fm (A ((e + (1 : Int)), (gmin i ((gl a.rects_ e.toNat).left_)), (gmin j ((gl a.rects_ e.toNat).low_)), (gmax l ((gl a.rects_ e.toNat).right_)), (gmax m ((gl a.rects_ e.toNat).high_))) h)
    ·have h := br_f h q
     refine AW.exit ?_
     exact Kn.R Fm (B (i, j, l, m) h)
 ·obtain ⟨o, y, h⟩ := bd_some h
  rcases Bool.eq_false_or_eq_true (!o) with n | n
  ·have h := br_t h n
   refine AW.G Fm [.s, .k (cE [] [] (vb o) [] []), .s, .w (vb true), .s, .s, .s, .s, .s] (fun K => K 1 ∧ (ALe (vb (!o)) (vb true)) ∧ True) [(1, pt 1), (2, pt 2), (15, vb true)] [(1, bx [.d (DL a.rects_)]), (2, bx [ci 0, ci 0, ci 0, ci 0])] ⟨KAt.CC (region_Valid_spec y) Tryz.call55 [], ALe.bool n, ⟨⟩⟩ ?_
   exact Kn.R Fm (u true h)
  ·have h := br_f h n
   refine AW.G Fm [.s, .k (cE [] [] (vb o) [] []), .s, .w (vb false), .s, .s, .s, .s, .s] (fun K => K 1 ∧ (ALe (vb (!o)) (vb false)) ∧ True) [(1, pt 1), (2, pt 2), (15, vb (((List.length a.rects_ : Nat) : Int) == (0 : Int)))] [(1, bx [.d (DL a.rects_)]), (2, bx [ci 0, ci 0, ci 0, ci 0])] ⟨KAt.CC (region_Valid_spec y) Tryz.call55 [], ALe.bool n, ⟨⟩⟩ ?_
   exact Kn.R Fm (u (((List.length a.rects_ : Nat) : Int) == (0 : Int)) h)
theorem shape_Move_spec {F : Nat} {a : Region} {e : Int} {m : Int} {r : Region × Int} (h : shape_Move F a e m = some r) :
  FSpec Tryz.prog 21 [.v (.g [.d (DL a.rects_)]), vi e, vi m] [] (.t [.g [.d (DL (α := Rect) r.1.rects_)], .c (ci r.2)]) [] := by
 refine FSpec.intro prog_mixed prog_lay Tryz.func21 rfl (by kernel_rfl) fun C Fm => ?_
 unfold shape_Move at h
 refine AW.SG0 Fm 3 [(1, vi e), (2, vi m), (3, pt 3), (6, pt 6)] [(3, bx [.d (DL a.rects_)]), (6, bx [.fl 0 fun _ => []])] ?_
 refine AW.seq ?_
 refine AW.seq ?_
 obtain ⟨V, k0, h⟩ := bd_some h
 refine AW.G Fm [.s, .k (cE [] [] (vb V) [] []), .s] (fun K => K 1 ∧ True) [(1, vi e), (2, vi m), (3, pt 3), (6, pt 6), (15, vb (!V))] [(3, bx [.d (DL a.rects_)]), (6, bx [.fl 0 fun _ => []])] ⟨KAt.CC (region_Valid_spec k0) Tryz.call55 [], ⟨⟩⟩ ?_
 refine AW.cond (b := (!V)) (by kernel_rfl) (fun M => ?_) (fun M => ?_)
 ·have h := br_t h M
  refine AW.SG Fm [.w (.v (.g [.d (DL (α := Rect) [])])), .s, .s] (fun K => (ALe (.v (.g [.fl 0 fun _ => []])) (.v (.g [.d (DL (α := Rect) [])]))) ∧ True) [(6, pt 6), (7, vi (7 : Int))] [(6, bx [.d (DL (α := Rect) [])])] ⟨ALe.g ⟨CLe.fl .nil, ⟨⟩⟩, ⟨⟩⟩ ?_
  refine AW.ret ?_
  obtain rfl := Option.some.inj h
  exact Kn.D Fm
 ·have h := br_f h M
  refine AW.skip ?_
  refine AW.seq ?_
  refine AW.join (r := r) (fun z : Bool => shape_Move_k0 F a e m z) (fun z => [(1, vi e), (2, vi m), (3, pt 3), (6, pt 6), (30, vb z)]) (fun z => [(3, bx [.d (DL a.rects_)]), (6, bx [.fl 0 fun _ => []])]) (fun m0 h => ?_) (fun o0 I => ?_)
  ·refine AW.cond (b := m0) (by kernel_rfl) (fun N => ?_) (fun N => ?_)
   ·have h := br_t h N
    refine AW.SG Fm [.w (.v (.g [.d (DL (α := Rect) [])])), .s, .s] (fun K => (ALe (.v (.g [.fl 0 fun _ => []])) (.v (.g [.d (DL (α := Rect) [])]))) ∧ True) [(6, pt 6), (7, vi (2 : Int))] [(6, bx [.d (DL (α := Rect) [])])] ⟨ALe.g ⟨CLe.fl .nil, ⟨⟩⟩, ⟨⟩⟩ ?_
    refine AW.ret ?_
    obtain rfl := Option.some.inj h
    exact Kn.D Fm
   ·have h := br_f h N
    refine AW.skip ?_
    refine AW.seq ?_
    refine AW.seq ?_
    obtain ⟨n, l0, h⟩ := bd_some h
    refine AW.G Fm [.s, .k (cE [] [] (.t [.g (gC n.1), .c (.d (.bool n.2))]) [] []), .s, .s, .s, .s, .s, .s] (fun K => K 1 ∧ True) [(1, vi e), (2, vi m), (3, pt 3), (6, pt 6), (8, pt 8), (9, vb n.2)] [(3, bx [.d (DL a.rects_)]), (6, bx [.fl 0 fun _ => []]), (8, bx (gC n.1))] ⟨KAt.CC (shape_Bounds_spec l0) Tryz.call48 [], ⟨⟩⟩ ?_
    refine AW.join (r := r) (fun z : Bool => shape_Move_k1 F a e m z) (fun z => [(1, vi e), (2, vi m), (3, pt 3), (6, pt 6), (65, vb z)]) (fun z => [(3, bx [.d (DL a.rects_)]), (6, bx [.fl 0 fun _ => []])]) (fun n0 h => ?_) (fun p0 B => ?_)
    ·refine AW.cond (b := n0) (by kernel_rfl) (fun O => ?_) (fun O => ?_)
     ·have h := br_t h O
      refine AW.SG Fm [.w (.v (.g [.d (DL (α := Rect) [])])), .s, .s] (fun K => (ALe (.v (.g [.fl 0 fun _ => []])) (.v (.g [.d (DL (α := Rect) [])]))) ∧ True) [(6, pt 6), (7, vi (2 : Int))] [(6, bx [.d (DL (α := Rect) [])])] ⟨ALe.g ⟨CLe.fl .nil, ⟨⟩⟩, ⟨⟩⟩ ?_
      refine AW.ret ?_
      obtain rfl := Option.some.inj h
      exact Kn.D Fm
     ·have h := br_f h O
      refine AW.skip ?_
      refine AW.SG0 Fm 1 [(1, vi e), (2, vi m), (3, pt 3), (6, pt 6), (10, pt 10)] [(3, bx [.d (DL a.rects_)]), (6, bx [.fl 0 fun _ => []]), (10, bx [.fl 0 fun _ => []])] ?_
      refine AW.join (r := r) (fun z : (List Rect) => shape_Move_k3 F z) (fun z => [(6, pt 6), (10, pt 10)]) (fun z => [(6, bx [.own 900]), (10, bx [.own 930]), (900, AO (α := Rect) ([] : List Rect)), (930, AO z)]) (fun U h => ?_) (fun s0 Y => ?_)
      ·refine AW.SG0 Fm 3 [(6, pt 6), (7, vi (0 : Int))] [(6, bx [.own 930]), (930, AO U)] ?_
       refine AW.ret ?_
       obtain rfl := Option.some.inj h
       refine Kn.r Fm [(6, pt 6), (7, vi (0 : Int))] [(930, AO U), (6, bx [.own 930])] (by kernel_rfl) ?_
       refine Kn.frz [(6, pt 6), (7, vi (0 : Int))] [(6, bx [.d (DL U)])] (by kernel_rfl) (by kernel_rfl) (by kernel_rfl) ?_
       exact Kn.D Fm
      ·refine AW.SG0 Fm 4 [(1, vi e), (2, vi m), (6, pt 6), (10, pt 10), (68, AL a.rects_), (69, vi ((List.length a.rects_ : Nat) : Int)), (70, vi (0 : Int))] [(6, bx [.fl 0 fun _ => []]), (10, bx [.fl 0 fun _ => []])] ?_
       refine AW.block ?_
       refine Kn.r Fm [(1, vi e), (2, vi m), (6, pt 6), (10, pt 10), (68, AL a.rects_), (69, vi ((List.length a.rects_ : Nat) : Int)), (70, vi (0 : Int))] [(6, bx [.fl 0 fun _ => []]), (10, bx [.fl 0 fun _ => []])] (by kernel_rfl) ?_
       refine Kn.own0 Fm (i := 6) (k := 900) (es := 4) (j := 0) (f' := LF (α := Rect) []) (by kernel_rfl) (by kernel_rfl) (by decide) rfl ?_
       refine Kn.r Fm [(1, vi e), (2, vi m), (6, pt 6), (10, pt 10), (68, AL a.rects_), (69, vi ((List.length a.rects_ : Nat) : Int)), (70, vi (0 : Int))] [(6, bx [.own 900]), (10, bx [.fl 0 fun _ => []]), (900, AO (α := Rect) ([] : List Rect))] (by kernel_rfl) ?_
       refine Kn.r Fm [(1, vi e), (2, vi m), (6, pt 6), (10, pt 10), (68, AL a.rects_), (69, vi ((List.length a.rects_ : Nat) : Int)), (70, vi (0 : Int))] [(10, bx [.fl 0 fun _ => []]), (6, bx [.own 900]), (900, AO (α := Rect) ([] : List Rect))] (by kernel_rfl) ?_
       refine Kn.own0 Fm (i := 10) (k := 930) (es := 4) (j := 0) (f' := LF (α := Rect) []) (by kernel_rfl) (by kernel_rfl) (by decide) rfl ?_
       refine Kn.r Fm [(1, vi e), (2, vi m), (6, pt 6), (10, pt 10), (68, AL a.rects_), (69, vi ((List.length a.rects_ : Nat) : Int)), (70, vi (0 : Int))] [(6, bx [.own 900]), (10, bx [.own 930]), (900, AO (α := Rect) ([] : List Rect)), (930, AO (α := Rect) ([] : List Rect))] (by kernel_rfl) ?_
       refine Kn.r Fm [(1, vi e), (2, vi m), (6, pt 6), (10, pt 10), (68, AL a.rects_), (69, vi ((List.length a.rects_ : Nat) : Int)), (70, vi (0 : Int))] [(6, bx [.own 900]), (10, bx [.own 930]), (900, AO (α := Rect) ([] : List Rect)), (930, AO ([] : List Rect))] (by kernel_rfl) ?_
       refine AW.loopF (E' := fun z => [(1, vi e), (2, vi m), (6, pt 6), (10, pt 10), (68, AL a.rects_), (69, vi ((List.length a.rects_ : Nat) : Int)), (70, vi z.1)]) (S' := fun z => [(6, bx [.own 900]), (10, bx [.own 930]), (900, AO (α := Rect) ([] : List Rect)), (930, AO z.2)]) (fun t0 z q0 X h => ?_) h
       obtain ⟨l, o⟩ := z
       refine AW.SG0 Fm 1 [(1, vi e), (2, vi m), (6, pt 6), (10, pt 10), (68, AL a.rects_), (69, vi ((List.length a.rects_ : Nat) : Int)), (70, vi l), (71, vb (decide (l < ((List.length a.rects_ : Nat) : Int))))] [(6, bx [.own 900]), (10, bx [.own 930]), (900, AO (α := Rect) ([] : List Rect)), (930, AO o)] ?_
       refine AW.seq ?_
       refine AW.cond (b := (decide (l < ((List.length a.rects_ : Nat) : Int)))) (by kernel_rfl) (fun P => ?_) (fun P => ?_)
       ·have h := br_t h P
        refine AW.skip ?_
        refine AW.seq ?_
        refine AW.block ?_
        obtain ⟨a0, h⟩ := gd_some h
        refine AW.SG Fm [.s, .s, .s, .s] (fun K => _ ∧ True) [(1, vi e), (2, vi m), (6, pt 6), (10, pt 10), (12, pt 12), (68, AL a.rects_), (69, vi ((List.length a.rects_ : Nat) : Int)), (70, vi l)] [(6, bx [.own 900]), (10, bx [.own 930]), (12, bx [ci ((gl a.rects_ l.toNat).left_), ci ((gl a.rects_ l.toNat).low_), ci ((gl a.rects_ l.toNat).right_), ci ((gl a.rects_ l.toNat).high_)]), (900, AO (α := Rect) ([] : List Rect)), (930, AO o)] ⟨a0, ⟨⟩⟩ ?_
        obtain ⟨b0, h⟩ := gd_some h
        obtain ⟨c0, h⟩ := gd_some h
        obtain ⟨d0, h⟩ := gd_some h
        obtain ⟨e0, h⟩ := gd_some h
        obtain ⟨i0, h⟩ := gd_some h
        refine AW.G Fm [.s, .s, .s, .s, .s, .s, .s, .s, .s, .s, .s, .s, .s, .s, .s, .s, .s, .s, .s, .w (AL (α := Rect) ([(⟨(((gl a.rects_ l.toNat).left_) + e), (((gl a.rects_ l.toNat).low_) + m), (((gl a.rects_ l.toNat).right_) + e), (((gl a.rects_ l.toNat).high_) + m)⟩ : Rect)] : List Rect)), .s, .s, .s] (fun K => (I64 (((gl a.rects_ l.toNat).left_) + e) ∧ True) ∧ (I64 (((gl a.rects_ l.toNat).low_) + m) ∧ True) ∧ (I64 (((gl a.rects_ l.toNat).right_) + e) ∧ True) ∧ (I64 (((gl a.rects_ l.toNat).high_) + m) ∧ True) ∧ (ALe (.v (.c (.d (.lst 1 (litF 4 [.int .i64 (((gl a.rects_ l.toNat).left_) + e), .int .i64 (((gl a.rects_ l.toNat).low_) + m), .int .i64 (((gl a.rects_ l.toNat).right_) + e), .int .i64 (((gl a.rects_ l.toNat).high_) + m)]))))) (AL (α := Rect) ([(⟨(((gl a.rects_ l.toNat).left_) + e), (((gl a.rects_ l.toNat).low_) + m), (((gl a.rects_ l.toNat).right_) + e), (((gl a.rects_ l.toNat).high_) + m)⟩ : Rect)] : List Rect))) ∧ ((List.length (α := Rect) o) + (List.length (α := Rect) ([(⟨(((gl a.rects_ l.toNat).left_) + e), (((gl a.rects_ l.toNat).low_) + m), (((gl a.rects_ l.toNat).right_) + e), (((gl a.rects_ l.toNat).high_) + m)⟩ : Rect)] : List Rect)) ≤ LIM ∧ (∀ j, j < List.length (α := Rect) ([(⟨(((gl a.rects_ l.toNat).left_) + e), (((gl a.rects_ l.toNat).low_) + m), (((gl a.rects_ l.toNat).right_) + e), (((gl a.rects_ l.toNat).high_) + m)⟩ : Rect)] : List Rect) → ((LF (α := Rect) ([(⟨(((gl a.rects_ l.toNat).left_) + e), (((gl a.rects_ l.toNat).low_) + m), (((gl a.rects_ l.toNat).right_) + e), (((gl a.rects_ l.toNat).high_) + m)⟩ : Rect)] : List Rect)) j).length = 4) ∧ (True)) ∧ True) [(1, vi e), (2, vi m), (6, pt 6), (10, pt 10), (68, AL a.rects_), (69, vi ((List.length a.rects_ : Nat) : Int)), (70, vi l)] [(6, bx [.own 900]), (10, bx [.own 94]), (94, .arr 4 ((List.length (α := Rect) o) + (List.length (α := Rect) ([(⟨(((gl a.rects_ l.toNat).left_) + e), (((gl a.rects_ l.toNat).low_) + m), (((gl a.rects_ l.toNat).right_) + e), (((gl a.rects_ l.toNat).high_) + m)⟩ : Rect)] : List Rect))) (appF (List.length (α := Rect) o) (LF (α := Rect) o) (LF (α := Rect) ([(⟨(((gl a.rects_ l.toNat).left_) + e), (((gl a.rects_ l.toNat).low_) + m), (((gl a.rects_ l.toNat).right_) + e), (((gl a.rects_ l.toNat).high_) + m)⟩ : Rect)] : List Rect)))), (900, AO (α := Rect) ([] : List Rect))] ⟨⟨b0, ⟨⟩⟩, ⟨c0, ⟨⟩⟩, ⟨d0, ⟨⟩⟩, ⟨e0, ⟨⟩⟩, ALe.lst (.lit ([(⟨(((gl a.rects_ l.toNat).left_) + e), (((gl a.rects_ l.toNat).low_) + m), (((gl a.rects_ l.toNat).right_) + e), (((gl a.rects_ l.toNat).high_) + m)⟩ : Rect)] : List Rect) (by kernel_rfl)), ⟨i0, (Is.refl ([(⟨(((gl a.rects_ l.toNat).left_) + e), (((gl a.rects_ l.toNat).low_) + m), (((gl a.rects_ l.toNat).right_) + e), (((gl a.rects_ l.toNat).high_) + m)⟩ : Rect)] : List Rect) : Is (List.length (α := Rect) ([(⟨(((gl a.rects_ l.toNat).left_) + e), (((gl a.rects_ l.toNat).low_) + m), (((gl a.rects_ l.toNat).right_) + e), (((gl a.rects_ l.toNat).high_) + m)⟩ : Rect)] : List Rect)) (LF (α := Rect) ([(⟨(((gl a.rects_ l.toNat).left_) + e), (((gl a.rects_ l.toNat).low_) + m), (((gl a.rects_ l.toNat).right_) + e), (((gl a.rects_ l.toNat).high_) + m)⟩ : Rect)] : List Rect)) ([(⟨(((gl a.rects_ l.toNat).left_) + e), (((gl a.rects_ l.toNat).low_) + m), (((gl a.rects_ l.toNat).right_) + e), (((gl a.rects_ l.toNat).high_) + m)⟩ : Rect)] : List Rect)).len, ⟨⟩⟩, ⟨⟩⟩ ?_
        refine Kn.wk [(1, vi e), (2, vi m), (6, pt 6), (10, pt 10), (68, AL a.rects_), (69, vi ((List.length a.rects_ : Nat) : Int)), (70, vi l)] [(6, bx [.own 900]), (10, bx [.own 94]), (94, AO (α := Rect) (o ++ ([(⟨(((gl a.rects_ l.toNat).left_) + e), (((gl a.rects_ l.toNat).low_) + m), (((gl a.rects_ l.toNat).right_) + e), (((gl a.rects_ l.toNat).high_) + m)⟩ : Rect)] : List Rect))), (900, AO (α := Rect) ([] : List Rect))] (FE.refl _) (⟨rfl, OLe.refl _, ⟨rfl, OLe.refl _, ⟨rfl, OLe.is (Is.app (Is.refl o) (Is.refl ([(⟨(((gl a.rects_ l.toNat).left_) + e), (((gl a.rects_ l.toNat).low_) + m), (((gl a.rects_ l.toNat).right_) + e), (((gl a.rects_ l.toNat).high_) + m)⟩ : Rect)] : List Rect))), ⟨rfl, OLe.refl _, ⟨⟩⟩⟩⟩⟩) ?_
        obtain ⟨j0, h⟩ := gd_some h
        refine AW.G Fm [.s, .s] (fun K => (I64 (l + (1 : Int)) ∧ True) ∧ True) [(1, vi e), (2, vi m), (6, pt 6), (10, pt 10), (68, AL a.rects_), (69, vi ((List.length a.rects_ : Nat) : Int)), (70, vi (l + (1 : Int)))] [(6, bx [.own 900]), (10, bx [.own 94]), (94, AO (α := Rect) (o ++ ([(⟨(((gl a.rects_ l.toNat).left_) + e), (((gl a.rects_ l.toNat).low_) + m), (((gl a.rects_ l.toNat).right_) + e), (((gl a.rects_ l.toNat).high_) + m)⟩ : Rect)] : List Rect))), (900, AO (α := Rect) ([] : List Rect))] ⟨⟨j0, ⟨⟩⟩, ⟨⟩⟩ ?_
        exact Kn.RE Fm [(930, 94)] (X ((l + (1 : Int)), (o ++ ([(⟨(((gl a.rects_ l.toNat).left_) + e), (((gl a.rects_ l.toNat).low_) + m), (((gl a.rects_ l.toNat).right_) + e), (((gl a.rects_ l.toNat).high_) + m)⟩ : Rect)] : List Rect))) h)
       ·have h := br_f h P
        refine AW.exit ?_
        exact Kn.R Fm (Y o h)
    ·rcases Bool.eq_false_or_eq_true n.2 with p | p
     ·have h := br_t h p
      obtain ⟨L, h⟩ := gd_some h
      rcases Bool.eq_false_or_eq_true (decide ((n.1.left_ + e) < (0 : Int))) with u | u
      ·have h := br_t h u
       refine AW.G Fm [.s, .w (vb true), .s, .s, .s, .s, .s, .w (vb true), .s, .s, .s, .s, .s, .s, .s, .s, .s, .s, .s, .s, .s, .s, .s, .s, .s, .s, .s, .s, .s] (fun K => (ALe (vb n.2) (vb true)) ∧ (I64 (n.1.left_ + e) ∧ True) ∧ (ALe (vb (decide ((n.1.left_ + e) < (0 : Int)))) (vb true)) ∧ True) [(1, vi e), (2, vi m), (3, pt 3), (6, pt 6), (65, vb true)] [(3, bx [.d (DL a.rects_)]), (6, bx [.fl 0 fun _ => []])] ⟨ALe.bool p, ⟨L, ⟨⟩⟩, ALe.bool u, ⟨⟩⟩ ?_
       exact Kn.R Fm (B true h)
      ·have h := br_f h u
       obtain ⟨T, h⟩ := gd_some h
       rcases Bool.eq_false_or_eq_true (decide ((16384 : Int) < (n.1.right_ + e))) with A | A
       ·have h := br_t h A
        refine AW.G Fm [.s, .w (vb true), .s, .s, .s, .s, .s, .w (vb false), .s, .s, .s, .s, .s, .s, .w (vb true), .s, .s, .s, .s, .s, .s, .s, .s, .s, .s, .s, .s, .s, .s] (fun K => (ALe (vb n.2) (vb true)) ∧ (I64 (n.1.left_ + e) ∧ True) ∧ (ALe (vb (decide ((n.1.left_ + e) < (0 : Int)))) (vb false)) ∧ (I64 (n.1.right_ + e) ∧ True) ∧ (ALe (vb (decide ((16384 : Int) < (n.1.right_ + e)))) (vb true)) ∧ True) [(1, vi e), (2, vi m), (3, pt 3), (6, pt 6), (65, vb true)] [(3, bx [.d (DL a.rects_)]), (6, bx [.fl 0 fun _ => []])] ⟨ALe.bool p, ⟨L, ⟨⟩⟩, ALe.bool u, ⟨T, ⟨⟩⟩, ALe.bool A, ⟨⟩⟩ ?_
        exact Kn.R Fm (B true h)
       ·have h := br_f h A
        obtain ⟨W, h⟩ := gd_some h
        rcases Bool.eq_false_or_eq_true (decide ((n.1.low_ + m) < (0 : Int))) with H | H
        ·have h := br_t h H
         refine AW.G Fm [.s, .w (vb true), .s, .s, .s, .s, .s, .w (vb false), .s, .s, .s, .s, .s, .s, .w (vb false), .s, .s, .s, .s, .s, .s, .w (vb true), .s, .s, .s, .s, .s, .s, .s] (fun K => (ALe (vb n.2) (vb true)) ∧ (I64 (n.1.left_ + e) ∧ True) ∧ (ALe (vb (decide ((n.1.left_ + e) < (0 : Int)))) (vb false)) ∧ (I64 (n.1.right_ + e) ∧ True) ∧ (ALe (vb (decide ((16384 : Int) < (n.1.right_ + e)))) (vb false)) ∧ (I64 (n.1.low_ + m) ∧ True) ∧ (ALe (vb (decide ((n.1.low_ + m) < (0 : Int)))) (vb true)) ∧ True) [(1, vi e), (2, vi m), (3, pt 3), (6, pt 6), (65, vb true)] [(3, bx [.d (DL a.rects_)]), (6, bx [.fl 0 fun _ => []])] ⟨ALe.bool p, ⟨L, ⟨⟩⟩, ALe.bool u, ⟨T, ⟨⟩⟩, ALe.bool A, ⟨W, ⟨⟩⟩, ALe.bool H, ⟨⟩⟩ ?_
         exact Kn.R Fm (B true h)
        ·have h := br_f h H
         obtain ⟨Z, h⟩ := gd_some h
         refine AW.G Fm [.s, .w (vb true), .s, .s, .s, .s, .s, .w (vb false), .s, .s, .s, .s, .s, .s, .w (vb false), .s, .s, .s, .s, .s, .s, .w (vb false), .s, .s, .s, .s, .s, .s, .s] (fun K => (ALe (vb n.2) (vb true)) ∧ (I64 (n.1.left_ + e) ∧ True) ∧ (ALe (vb (decide ((n.1.left_ + e) < (0 : Int)))) (vb false)) ∧ (I64 (n.1.right_ + e) ∧ True) ∧ (ALe (vb (decide ((16384 : Int) < (n.1.right_ + e)))) (vb false)) ∧ (I64 (n.1.low_ + m) ∧ True) ∧ (ALe (vb (decide ((n.1.low_ + m) < (0 : Int)))) (vb false)) ∧ (I64 (n.1.high_ + m) ∧ True) ∧ True) [(1, vi e), (2, vi m), (3, pt 3), (6, pt 6), (65, vb (decide ((16384 : Int) < (n.1.high_ + m))))] [(3, bx [.d (DL a.rects_)]), (6, bx [.fl 0 fun _ => []])] ⟨ALe.bool p, ⟨L, ⟨⟩⟩, ALe.bool u, ⟨T, ⟨⟩⟩, ALe.bool A, ⟨W, ⟨⟩⟩, ALe.bool H, ⟨Z, ⟨⟩⟩, ⟨⟩⟩ ?_
         exact Kn.R Fm (B (decide ((16384 : Int) < (n.1.high_ + m))) h)
     ·have h := br_f h p
      refine AW.G Fm [.s, .w (vb false), .s, .s, .s, .s, .s, .s, .s, .s, .s, .s, .s, .s, .s, .s, .s, .s, .s, .s, .s, .s, .s, .s, .s, .s, .s, .s, .s] (fun K => (ALe (vb n.2) (vb false)) ∧ True) [(1, vi e), (2, vi m), (3, pt 3), (6, pt 6), (65, vb false)] [(3, bx [.d (DL a.rects_)]), (6, bx [.fl 0 fun _ => []])] ⟨ALe.bool p, ⟨⟩⟩ ?_
      exact Kn.R Fm (B false h)
  ·rcases Bool.eq_false_or_eq_true (decide (e < (-16384 : Int))) with q | q
   ·have h := br_t h q
    refine AW.G Fm [.s, .s, .w (vb true), .s, .s, .s, .s, .s, .s, .s, .s, .s, .s, .s] (fun K => (ALe (vb (decide (e < (-16384 : Int)))) (vb true)) ∧ True) [(1, vi e), (2, vi m), (3, pt 3), (6, pt 6), (30, vb true)] [(3, bx [.d (DL a.rects_)]), (6, bx [.fl 0 fun _ => []])] ⟨ALe.bool q, ⟨⟩⟩ ?_
    exact Kn.R Fm (I true h)
   ·have h := br_f h q
    rcases Bool.eq_false_or_eq_true (decide ((16384 : Int) < e)) with y | y
    ·have h := br_t h y
     refine AW.G Fm [.s, .s, .w (vb false), .s, .s, .s, .w (vb true), .s, .s, .s, .s, .s, .s, .s] (fun K => (ALe (vb (decide (e < (-16384 : Int)))) (vb false)) ∧ (ALe (vb (decide ((16384 : Int) < e))) (vb true)) ∧ True) [(1, vi e), (2, vi m), (3, pt 3), (6, pt 6), (30, vb true)] [(3, bx [.d (DL a.rects_)]), (6, bx [.fl 0 fun _ => []])] ⟨ALe.bool q, ALe.bool y, ⟨⟩⟩ ?_
     exact Kn.R Fm (I true h)
    ·have h := br_f h y
     rcases Bool.eq_false_or_eq_true (decide (m < (-16384 : Int))) with E | E
     ·have h := br_t h E
      refine AW.G Fm [.s, .s, .w (vb false), .s, .s, .s, .w (vb false), .s, .s, .s, .w (vb true), .s, .s, .s] (fun K => (ALe (vb (decide (e < (-16384 : Int)))) (vb false)) ∧ (ALe (vb (decide ((16384 : Int) < e))) (vb false)) ∧ (ALe (vb (decide (m < (-16384 : Int)))) (vb true)) ∧ True) [(1, vi e), (2, vi m), (3, pt 3), (6, pt 6), (30, vb true)] [(3, bx [.d (DL a.rects_)]), (6, bx [.fl 0 fun _ => []])] ⟨ALe.bool q, ALe.bool y, ALe.bool E, ⟨⟩⟩ ?_
      exact Kn.R Fm (I true h)
     ·have h := br_f h E
      refine AW.G Fm [.s, .s, .w (vb false), .s, .s, .s, .w (vb false), .s, .s, .s, .w (vb false), .s, .s, .s] (fun K => (ALe (vb (decide (e < (-16384 : Int)))) (vb false)) ∧ (ALe (vb (decide ((16384 : Int) < e))) (vb false)) ∧ (ALe (vb (decide (m < (-16384 : Int)))) (vb false)) ∧ True) [(1, vi e), (2, vi m), (3, pt 3), (6, pt 6), (30, vb (decide ((16384 : Int) < m)))] [(3, bx [.d (DL a.rects_)]), (6, bx [.fl 0 fun _ => []])] ⟨ALe.bool q, ALe.bool y, ALe.bool E, ⟨⟩⟩ ?_
      exact Kn.R Fm (I (decide ((16384 : Int) < m)) h)
theorem shape_Shrink_1_spec {F : Nat} {a : Bool} {c : Bool} {r : Bool} (h : shape_Shrink_1 F a c = some r) :
  FSpec Tryz.prog 97 [vb a, vb c] [] (vb r) [] := by
 refine FSpec.intro prog_mixed prog_lay Tryz.func97 rfl (by kernel_rfl) fun C Fm => ?_
 unfold shape_Shrink_1 at h
 refine AW.SG0 Fm 1 [(0, vb a), (1, vb c)] [] ?_
 refine AW.join (r := r) (fun z : Bool => shape_Shrink_1_k0 F z) (fun z => [(4, vb z)]) (fun z => []) (fun i h => ?_) (fun e d => ?_)
 ·refine AW.ret ?_
  obtain rfl := Option.some.inj h
  exact Kn.D Fm
 ·rcases Bool.eq_false_or_eq_true a with b | b
  ·have h := br_t h b
   refine AW.G Fm [.s, .w (vb true), .s, .s, .s, .s] (fun K => (ALe (vb a) (vb true)) ∧ True) [(4, vb (!c))] [] ⟨ALe.bool b, ⟨⟩⟩ ?_
   exact Kn.R Fm (d (!c) h)
  ·have h := br_f h b
   refine AW.G Fm [.s, .w (vb false), .s, .s, .s, .s] (fun K => (ALe (vb a) (vb false)) ∧ True) [(4, vb false)] [] ⟨ALe.bool b, ⟨⟩⟩ ?_
   exact Kn.R Fm (d false h)
theorem slices_Concat_Span_spec {F : Nat} {a : (List (List Span))} {r : (List Span)} (h : slices_Concat_Span F a = some r) :
  FSpec Tryz.prog 173 [AL a] [] (ow 100) [(100, AO (α := Span) r)] := by
 refine FSpec.intro prog_mixed prog_lay Tryz.func173 rfl (by kernel_rfl) fun C Fm => ?_
 unfold slices_Concat_Span at h
 refine AW.SG Fm [.m] (fun K => True) [(0, AL a)] [] True.intro ?_
 refine AW.SG0 Fm 1 [(0, AL a), (3, vi (0 : Int))] [] ?_
 refine AW.join (r := r) (fun z : Int => slices_Concat_Span_k1 F a z) (fun z => [(0, AL a), (3, vi z)]) (fun z => []) (fun V h => ?_) (fun N u => ?_)
 ·refine AW.seq ?_
  obtain ⟨l, L, h⟩ := bd_some h
  refine AW.G Fm [.s, .k (cE [(100, 24)] [] (ow 100) [] [(100, AO l)]), .s] (fun K => K 1 ∧ True) [(0, AL a), (6, ow 24)] [(24, AO l)] ⟨KAt.CC (growN_spec L) Tryz.call198 [(100, 24)], ⟨⟩⟩ ?_
  refine AW.join (r := r) (fun z : (List Span) => slices_Concat_Span_k3 F z) (fun z => [(6, ow 24)]) (fun z => [(24, AO z)]) (fun q h => ?_) (fun P y => ?_)
  ·refine AW.SG0 Fm 2 [(2, ow 24)] [(24, AO q)] ?_
   refine AW.ret ?_
   obtain rfl := Option.some.inj h
   exact Kn.re Fm [(100, 24)] [(2, ow 100)] [(100, AO q)] (by kernel_rfl) (by kernel_rfl) (by kernel_rfl) (by kernel_rfl) (Kn.dn Fm (by kernel_rfl))
  ·refine AW.SG0 Fm 3 [(6, ow 24), (25, AL a), (26, vi ((List.length a : Nat) : Int)), (27, vi (0 : Int))] [(24, AO l)] ?_
   refine AW.block ?_
   refine Kn.r Fm [(6, ow 24), (25, AL a), (26, vi ((List.length a : Nat) : Int)), (27, vi (0 : Int))] [(24, AO l)] (by kernel_rfl) ?_
   refine AW.loopF (E' := fun z => [(6, ow 24), (25, AL a), (26, vi ((List.length a : Nat) : Int)), (27, vi z.1)]) (S' := fun z => [(24, AO z.2)]) (fun U z O w h => ?_) h
   obtain ⟨c, e⟩ := z
   refine AW.SG0 Fm 1 [(6, ow 24), (25, AL a), (26, vi ((List.length a : Nat) : Int)), (27, vi c), (28, vb (decide (c < ((List.length a : Nat) : Int))))] [(24, AO e)] ?_
   refine AW.seq ?_
   refine AW.cond (b := (decide (c < ((List.length a : Nat) : Int)))) (by kernel_rfl) (fun p => ?_) (fun p => ?_)
   ·have h := br_t h p
    refine AW.skip ?_
    refine AW.seq ?_
    refine AW.block ?_
    obtain ⟨E, h⟩ := gd_some h
    refine AW.SG Fm [.s, .s, .s] (fun K => _ ∧ True) [(6, ow 24), (8, AL (α := Span) (gl a c.toNat)), (25, AL a), (26, vi ((List.length a : Nat) : Int)), (27, vi c)] [(24, AO e)] ⟨E, ⟨⟩⟩ ?_
    obtain ⟨H, h⟩ := gd_some h
    refine AW.G Fm [.s, .s, .s, .s] (fun K => ((List.length (α := Span) e) + (List.length (α := Span) (gl a c.toNat)) ≤ LIM ∧ (∀ j, j < List.length (α := Span) (gl a c.toNat) → ((LF (α := Span) (gl a c.toNat)) j).length = 2) ∧ (True)) ∧ True) [(6, ow 33), (25, AL a), (26, vi ((List.length a : Nat) : Int)), (27, vi c)] [(33, .arr 2 ((List.length (α := Span) e) + (List.length (α := Span) (gl a c.toNat))) (appF (List.length (α := Span) e) (LF (α := Span) e) (LF (α := Span) (gl a c.toNat))))] ⟨⟨H, (Is.refl (gl a c.toNat) : Is (List.length (α := Span) (gl a c.toNat)) (LF (α := Span) (gl a c.toNat)) (gl a c.toNat)).len, ⟨⟩⟩, ⟨⟩⟩ ?_
    refine Kn.wk [(6, ow 33), (25, AL a), (26, vi ((List.length a : Nat) : Int)), (27, vi c)] [(33, AO (α := Span) (e ++ (gl a c.toNat)))] (FE.refl _) (⟨rfl, OLe.is (Is.app (Is.refl e) (Is.refl (gl a c.toNat))), ⟨⟩⟩) ?_
    obtain ⟨I, h⟩ := gd_some h
    refine AW.G Fm [.s, .s] (fun K => (I64 (c + (1 : Int)) ∧ True) ∧ True) [(6, ow 33), (25, AL a), (26, vi ((List.length a : Nat) : Int)), (27, vi (c + (1 : Int)))] [(33, AO (α := Span) (e ++ (gl a c.toNat)))] ⟨⟨I, ⟨⟩⟩, ⟨⟩⟩ ?_
    exact Kn.RE Fm [(24, 33)] (w ((c + (1 : Int)), (e ++ (gl a c.toNat))) h)
   ·have h := br_f h p
    refine AW.exit ?_
    exact Kn.R Fm (y e h)
 ·refine AW.SG0 Fm 3 [(0, AL a), (3, vi (0 : Int)), (9, AL a), (10, vi ((List.length a : Nat) : Int)), (11, vi (0 : Int))] [] ?_
  refine AW.block ?_
  refine Kn.r Fm [(0, AL a), (3, vi (0 : Int)), (9, AL a), (10, vi ((List.length a : Nat) : Int)), (11, vi (0 : Int))] [] (by kernel_rfl) ?_
  refine AW.loopF (E' := fun z => [(0, AL a), (3, vi z.1), (9, AL a), (10, vi ((List.length a : Nat) : Int)), (11, vi z.2)]) (S' := fun z => []) (fun T z M t h => ?_) h
  obtain ⟨i, d⟩ := z
  refine AW.SG0 Fm 1 [(0, AL a), (3, vi i), (9, AL a), (10, vi ((List.length a : Nat) : Int)), (11, vi d), (12, vb (decide (d < ((List.length a : Nat) : Int))))] [] ?_
  refine AW.seq ?_
  refine AW.cond (b := (decide (d < ((List.length a : Nat) : Int)))) (by kernel_rfl) (fun n => ?_) (fun n => ?_)
  ·have h := br_t h n
   refine AW.skip ?_
   refine AW.seq ?_
   refine AW.block ?_
   obtain ⟨A, h⟩ := gd_some h
   refine AW.SG Fm [.s, .s, .s] (fun K => _ ∧ True) [(0, AL a), (3, vi i), (5, AL (α := Span) (gl a d.toNat)), (9, AL a), (10, vi ((List.length a : Nat) : Int)), (11, vi d)] [] ⟨A, ⟨⟩⟩ ?_
   obtain ⟨B, h⟩ := gd_some h
   refine AW.SG Fm [.s, .s, .s, .s, .s] (fun K => (I64 (i + ((List.length (gl a d.toNat) : Nat) : Int)) ∧ True) ∧ True) [(0, AL a), (3, vi (i + ((List.length (gl a d.toNat) : Nat) : Int))), (9, AL a), (10, vi ((List.length a : Nat) : Int)), (11, vi d)] [] ⟨⟨B, ⟨⟩⟩, ⟨⟩⟩ ?_
   refine AW.SG0 Fm 2 [(0, AL a), (3, vi (i + ((List.length (gl a d.toNat) : Nat) : Int))), (9, AL a), (10, vi ((List.length a : Nat) : Int)), (11, vi d), (20, vb (decide ((i + ((List.length (gl a d.toNat) : Nat) : Int)) < (0 : Int))))] [] ?_
   refine AW.cond (b := (decide ((i + ((List.length (gl a d.toNat) : Nat) : Int)) < (0 : Int)))) (by kernel_rfl) (fun o => ?_) (fun o => ?_)
   ·have h := br_t h o
    cases h
   ·have h := br_f h o
    refine AW.skip ?_
    obtain ⟨D, h⟩ := gd_some h
    refine AW.G Fm [.s, .s] (fun K => (I64 (d + (1 : Int)) ∧ True) ∧ True) [(0, AL a), (3, vi (i + ((List.length (gl a d.toNat) : Nat) : Int))), (9, AL a), (10, vi ((List.length a : Nat) : Int)), (11, vi (d + (1 : Int)))] [] ⟨⟨D, ⟨⟩⟩, ⟨⟩⟩ ?_
    exact Kn.R Fm (t ((i + ((List.length (gl a d.toNat) : Nat) : Int)), (d + (1 : Int))) h)
  ·have h := br_f h n
   refine AW.exit ?_
   exact Kn.R Fm (u i h)
theorem region_inside_1_spec {F : Nat} {b : Span} {a : Int} {r : Bool} (h : region_inside_1 F b a = some r) :
  FSpec Tryz.prog 200 [gE b, pt 0] [(0, .box true [ci a])] (vb r) [(0, .box true [ci a])] := by
 refine FSpec.intro prog_mixed prog_lay Tryz.func200 rfl (by kernel_rfl) fun C Fm => ?_
 unfold region_inside_1 at h
 refine AW.SG0 Fm 2 [(1, pt 0), (2, pt 2)] [(0, .box true [ci a]), (2, bx (gC b))] ?_
 refine AW.join (r := r) (fun z : Bool => region_inside_1_k0 F z) (fun z => [(3, vb z)]) (fun z => [(0, .box true [ci a])]) (fun i h => ?_) (fun e d => ?_)
 ·refine AW.ret ?_
  obtain rfl := Option.some.inj h
  exact Kn.D Fm
 ·rcases Bool.eq_false_or_eq_true (decide (b.left_ ≤ a)) with c | c
  ·have h := br_t h c
   refine AW.G Fm [.s, .s, .s, .s, .w (vb true), .s, .s, .s, .s, .s, .s] (fun K => (ALe (vb (decide (b.left_ ≤ a))) (vb true)) ∧ True) [(3, vb (decide (a < b.right_)))] [(0, .box true [ci a])] ⟨ALe.bool c, ⟨⟩⟩ ?_
   exact Kn.R Fm (d (decide (a < b.right_)) h)
  ·have h := br_f h c
   refine AW.G Fm [.s, .s, .s, .s, .w (vb false), .s, .s, .s, .s, .s, .s] (fun K => (ALe (vb (decide (b.left_ ≤ a))) (vb false)) ∧ True) [(3, vb false)] [(0, .box true [ci a])] ⟨ALe.bool c, ⟨⟩⟩ ?_
   exact Kn.R Fm (d false h)
theorem slices_IndexFunc_Span_spec {F : Nat} {a : (List Span)} {e : Span → Option Bool} {r : Int} (h : slices_IndexFunc_Span F a e = some r) :
  FSpec Tryz.prog 216 [AL a, .v (.c (.sem (CloOK Tryz.prog (FR_Span_Bool e))))] [] (vi r) [] := by
 refine FSpec.intro prog_mixed prog_lay Tryz.func216 rfl (by kernel_rfl) fun C Fm => ?_
 unfold slices_IndexFunc_Span at h
 refine AW.SG0 Fm 1 [(0, AL a), (1, .v (.c (.sem (CloOK Tryz.prog (FR_Span_Bool e)))))] [] ?_
 refine AW.join (r := r) (fun z : Unit => slices_IndexFunc_Span_k1 F) (fun z => []) (fun z => []) (fun z h => ?_) (fun u n => ?_)
 ·refine AW.SG0 Fm 1 [(4, vi (-1 : Int))] [] ?_
  refine AW.ret ?_
  obtain rfl := Option.some.inj h
  exact Kn.D Fm
 ·refine AW.SG0 Fm 3 [(0, AL a), (1, .v (.c (.sem (CloOK Tryz.prog (FR_Span_Bool e))))), (7, vi ((List.length a : Nat) : Int)), (8, vi (0 : Int))] [] ?_
  refine AW.block ?_
  refine Kn.r Fm [(0, AL a), (1, .v (.c (.sem (CloOK Tryz.prog (FR_Span_Bool e))))), (7, vi ((List.length a : Nat) : Int)), (8, vi (0 : Int))] [] (by kernel_rfl) ?_
  refine AW.loopF (E' := fun z => [(0, AL a), (1, .v (.c (.sem (CloOK Tryz.prog (FR_Span_Bool e))))), (7, vi ((List.length a : Nat) : Int)), (8, vi z)]) (S' := fun z => []) (fun w d t m h => ?_) h
  refine AW.SG0 Fm 1 [(0, AL a), (1, .v (.c (.sem (CloOK Tryz.prog (FR_Span_Bool e))))), (7, vi ((List.length a : Nat) : Int)), (8, vi d), (9, vb (decide (d < ((List.length a : Nat) : Int))))] [] ?_
  refine AW.seq ?_
  refine AW.cond (b := (decide (d < ((List.length a : Nat) : Int)))) (by kernel_rfl) (fun j => ?_) (fun j => ?_)
  ·have h := br_t h j
   refine AW.skip ?_
   refine AW.seq ?_
   refine AW.block ?_
   refine AW.SG0 Fm 2 [(0, AL a), (1, .v (.c (.sem (CloOK Tryz.prog (FR_Span_Bool e))))), (5, vi d), (7, vi ((List.length a : Nat) : Int)), (8, vi d)] [] ?_
   refine AW.seq ?_
   obtain ⟨o, h⟩ := gd_some h
   obtain ⟨i, q, h⟩ := bd_some h
   refine AW.G Fm [.s, .s, .s, .s, .s, .k (sE (vb i))] (fun K => _ ∧ K 5 ∧ True) [(0, AL a), (1, .v (.c (.sem (CloOK Tryz.prog (FR_Span_Bool e))))), (5, vi d), (7, vi ((List.length a : Nat) : Int)), (8, vi d), (16, vb i)] [] ⟨o, KAt.sem (F := (FR_Span_Bool e)) (args := [.v (.g [ci ((gl a d.toNat).left_), ci ((gl a d.toNat).right_)])]) ⟨(gl a d.toNat), i, q, rfl, rfl⟩ rfl (by kernel_rfl) (by kernel_rfl) (by kernel_rfl), ⟨⟩⟩ ?_
   refine AW.cond (b := i) (by kernel_rfl) (fun l => ?_) (fun l => ?_)
   ·have h := br_t h l
    refine AW.SG0 Fm 2 [(4, vi d)] [] ?_
    refine AW.ret ?_
    obtain rfl := Option.some.inj h
    exact Kn.D Fm
   ·have h := br_f h l
    refine AW.skip ?_
    obtain ⟨p, h⟩ := gd_some h
    refine AW.G Fm [.s, .s] (fun K => (I64 (d + (1 : Int)) ∧ True) ∧ True) [(0, AL a), (1, .v (.c (.sem (CloOK Tryz.prog (FR_Span_Bool e))))), (7, vi ((List.length a : Nat) : Int)), (8, vi (d + (1 : Int)))] [] ⟨⟨p, ⟨⟩⟩, ⟨⟩⟩ ?_
    exact Kn.R Fm (m (d + (1 : Int)) h)
  ·have h := br_f h j
   refine AW.exit ?_
   exact Kn.R Fm (n () h)
theorem slices_ContainsFunc_Span_spec {F : Nat} {a : (List Span)} {b : Span → Option Bool} {r : Bool} (h : slices_ContainsFunc_Span F a b = some r) :
  FSpec Tryz.prog 199 [AL a, .v (.c (.sem (CloOK Tryz.prog (FR_Span_Bool b))))] [] (vb r) [] := by
 refine FSpec.intro prog_mixed prog_lay Tryz.func199 rfl (by kernel_rfl) fun C Fm => ?_
 unfold slices_ContainsFunc_Span at h
 refine AW.SG0 Fm 1 [(0, AL a), (1, .v (.c (.sem (CloOK Tryz.prog (FR_Span_Bool b)))))] [] ?_
 refine AW.seq ?_
 obtain ⟨d, e, h⟩ := bd_some h
 refine AW.G Fm [.s, .s, .k (cE [] [] (vi d) [] []), .s, .s] (fun K => K 2 ∧ True) [(4, vb (decide ((0 : Int) ≤ d)))] [] ⟨KAt.callX (slices_IndexFunc_Span_spec e) Tryz.call216 [] [] [.tmp 5, .tmp 6] rfl (by kernel_rfl) (by kernel_rfl) (by kernel_rfl) ⟨.p, ArgT.semX (by kernel_rfl) (by kernel_rfl) (by kernel_rfl), ⟨⟩⟩, ⟨⟩⟩ ?_
 refine AW.ret ?_
 obtain rfl := Option.some.inj h
 exact Kn.D Fm
theorem region_inside_spec {F : Nat} {b : (List Span)} {a : Int} {r : Bool} (h : region_inside F b a = some r) :
  FSpec Tryz.prog 174 [AL b, vi a] [] (vb r) [] := by
 refine FSpec.intro prog_mixed prog_lay Tryz.func174 rfl (by kernel_rfl) fun C Fm => ?_
 unfold region_inside at h
 refine AW.SG0 Fm 2 [(0, AL b), (3, pt 3)] [(3, bx [ci a])] ?_
 refine AW.seq ?_
 obtain ⟨c, d, h⟩ := bd_some h
 refine AW.G Fm [.s, .s, .k (cE [] [3] (vb c) [] []), .s] (fun K => K 2 ∧ True) [(4, vb c)] [] ⟨KAt.callX (slices_ContainsFunc_Span_spec d) Tryz.call199 [] [3] [.tmp 5, .tmp 6] rfl (by kernel_rfl) (by kernel_rfl) (by kernel_rfl) ⟨.p, ArgT.cloX Tryz.call200 [[ci a]] (fun args r hq => by obtain ⟨y0, y, hq, rfl, rfl⟩ := hq; exact Eq.mp (by kernel_rfl) (region_inside_1_spec hq)) (fun args r hq => by obtain ⟨y0, y, hq, rfl, rfl⟩ := hq; rfl) (by kernel_rfl) [3] (by kernel_rfl) (by kernel_rfl) (⟨⟨false, (by kernel_rfl)⟩, ⟨⟩⟩) (by kernel_rfl), ⟨⟩⟩, ⟨⟩⟩ ?_
 refine AW.ret ?_
 obtain rfl := Option.some.inj h
 exact Kn.D Fm
theorem region_merge_spec {F : Nat} {o : (List Span)} {p : (List Span)} {q : Bool → Bool → Option Bool} {r : (List Span)} (h : region_merge F o p q = some r) :
  FSpec Tryz.prog 140 [AL o, AL p, .v (.c (.sem (CloOK Tryz.prog (FR_Bool_Bool_Bool q))))] [] (AL (α := Span) r) [] := by
 refine FSpec.intro prog_mixed prog_lay Tryz.func140 rfl (by kernel_rfl) fun C Fm => ?_
 unfold region_merge at h
 refine AW.SG0 Fm 1 [(0, AL o), (1, AL p), (2, .v (.c (.sem (CloOK Tryz.prog (FR_Bool_Bool_Bool q)))))] [] ?_
 refine AW.SG Fm [.m] (fun K => True) [(0, AL o), (1, AL p), (2, .v (.c (.sem (CloOK Tryz.prog (FR_Bool_Bool_Bool q))))), (7, ow 7)] [(7, .arr 1 (0) (fun _ => []))] True.intro ?_
 refine Kn.wk [(0, AL o), (1, AL p), (2, .v (.c (.sem (CloOK Tryz.prog (FR_Bool_Bool_Bool q))))), (7, ow 7)] [(7, AO (α := Int) ([] : List Int))] (FE.refl _) (⟨rfl, OLe.is ((Is.nil (α := Int))), ⟨⟩⟩) ?_
 refine AW.join (r := r) (fun z : (List Int) => region_merge_k1 F o p q z) (fun z => [(0, AL o), (1, AL p), (2, .v (.c (.sem (CloOK Tryz.prog (FR_Bool_Bool_Bool q))))), (7, ow 7)]) (fun z => [(7, AO z)]) (fun y0 h => ?_) (fun D0 c0 => ?_)
 ·refine AW.seq ?_
  obtain ⟨N, q0, h⟩ := bd_some h
  refine AW.G Fm [.s, .k (cE [(0, 7)] [] (.any) [(0, AO y0)] [(0, AO N)])] (fun K => K 1 ∧ True) [(0, AL o), (1, AL p), (2, .v (.c (.sem (CloOK Tryz.prog (FR_Bool_Bool_Bool q))))), (7, ow 7)] [(7, AO N)] ⟨KAt.CC (sortI_spec q0) Tryz.call171 [(0, 7)], ⟨⟩⟩ ?_
  refine AW.seq ?_
  obtain ⟨a, s0, h⟩ := bd_some h
  refine AW.G Fm [.s, .k (cE [(0, 7), (100, 34)] [] (ow 100) [(0, AO N)] [(100, AO a)]), .s] (fun K => K 1 ∧ True) [(0, AL o), (1, AL p), (2, .v (.c (.sem (CloOK Tryz.prog (FR_Bool_Bool_Bool q))))), (7, ow 34)] [(34, AO a)] ⟨KAt.CC (slices_Compact_int_spec s0) Tryz.call172 [(0, 7), (100, 34)], ⟨⟩⟩ ?_
  refine AW.SG Fm [.m] (fun K => True) [(0, AL o), (1, AL p), (2, .v (.c (.sem (CloOK Tryz.prog (FR_Bool_Bool_Bool q))))), (7, ow 34), (10, ow 10)] [(10, .arr 2 (0) (fun _ => [])), (34, AO a)] True.intro ?_
  refine Kn.wk [(0, AL o), (1, AL p), (2, .v (.c (.sem (CloOK Tryz.prog (FR_Bool_Bool_Bool q))))), (7, ow 34), (10, ow 10)] [(10, AO (α := Span) ([] : List Span)), (34, AO a)] (FE.refl _) (⟨rfl, OLe.is ((Is.nil (α := Span))), ⟨rfl, OLe.refl _, ⟨⟩⟩⟩) ?_
  refine AW.join (r := r) (fun z : (List Span) => region_merge_k5 F z) (fun z => [(10, ow 10)]) (fun z => [(10, AO z)]) (fun M h => ?_) (fun I0 e0 => ?_)
  ·refine AW.SG0 Fm 2 [(6, ow 10)] [(10, AO M)] ?_
   refine AW.ret ?_
   obtain rfl := Option.some.inj h
   refine Kn.r Fm [(6, ow 10)] [(10, AO M)] (by kernel_rfl) ?_
   refine Kn.frz [(6, AL M)] [] (by kernel_rfl) (by kernel_rfl) (by kernel_rfl) ?_
   exact Kn.D Fm
  ·refine AW.SG0 Fm 1 [(0, AL o), (1, AL p), (2, .v (.c (.sem (CloOK Tryz.prog (FR_Bool_Bool_Bool q))))), (7, ow 34), (10, ow 10), (11, vi (1 : Int))] [(10, AO (α := Span) ([] : List Span)), (34, AO a)] ?_
   refine AW.block ?_
   refine Kn.r Fm [(0, AL o), (1, AL p), (2, .v (.c (.sem (CloOK Tryz.prog (FR_Bool_Bool_Bool q))))), (7, ow 34), (10, ow 10), (11, vi (1 : Int))] [(10, AO ([] : List Span)), (34, AO a)] (by kernel_rfl) ?_
   refine AW.loopF (E' := fun z => [(0, AL o), (1, AL p), (2, .v (.c (.sem (CloOK Tryz.prog (FR_Bool_Bool_Bool q))))), (7, ow 34), (10, ow 10), (11, vi z.1)]) (S' := fun z => [(10, AO z.2), (34, AO a)]) (fun T z E0 d0 h => ?_) h
   obtain ⟨e, i⟩ := z
   refine AW.seq ?_
   refine AW.SG0 Fm 4 [(0, AL o), (1, AL p), (2, .v (.c (.sem (CloOK Tryz.prog (FR_Bool_Bool_Bool q))))), (7, ow 34), (10, ow 10), (11, vi e), (38, vb (decide (e < ((List.length a : Nat) : Int))))] [(10, AO i), (34, AO a)] ?_
   refine AW.cond (b := (decide (e < ((List.length a : Nat) : Int)))) (by kernel_rfl) (fun E => ?_) (fun E => ?_)
   ·have h := br_t h E
    refine AW.skip ?_
    refine AW.join (r := r) (fun z : (List Span) => region_merge_k4 F e T z) (fun z => [(0, AL o), (1, AL p), (2, .v (.c (.sem (CloOK Tryz.prog (FR_Bool_Bool_Bool q))))), (7, ow 34), (10, ow 10), (11, vi e)]) (fun z => [(10, AO z), (34, AO a)]) (fun a0 h => ?_) (fun H0 A => ?_)
    ·obtain ⟨o0, h⟩ := gd_some h
     refine AW.G Fm [.s, .s, .s] (fun K => (I64 (e + (1 : Int)) ∧ True) ∧ True) [(0, AL o), (1, AL p), (2, .v (.c (.sem (CloOK Tryz.prog (FR_Bool_Bool_Bool q))))), (7, ow 34), (10, ow 10), (11, vi (e + (1 : Int)))] [(10, AO a0), (34, AO a)] ⟨⟨o0, ⟨⟩⟩, ⟨⟩⟩ ?_
     exact Kn.R Fm (d0 ((e + (1 : Int)), a0) h)
    ·refine AW.block ?_
     obtain ⟨k0, h⟩ := gd_some h
     obtain ⟨W, h⟩ := gd_some h
     refine AW.SG Fm [.s, .s, .s, .s, .s, .s] (fun K => (I64 (e - (1 : Int)) ∧ True) ∧ _ ∧ ((e - (1 : Int)).toNat < List.length a) ∧ True) [(0, AL o), (1, AL p), (2, .v (.c (.sem (CloOK Tryz.prog (FR_Bool_Bool_Bool q))))), (7, ow 34), (10, ow 10), (11, vi e), (12, vi (gl a (e - (1 : Int)).toNat))] [(10, AO i), (34, AO a)] ⟨⟨k0, ⟨⟩⟩, W, (toNat_lt W), ⟨⟩⟩ ?_
     refine AW.seq ?_
     refine AW.seq ?_
     obtain ⟨O, t0, h⟩ := bd_some h
     obtain ⟨P, u0, h⟩ := bd_some h
     obtain ⟨y, w0, h⟩ := bd_some h
     refine AW.G Fm [.s, .s, .s, .k (cE [] [] (vb O) [] []), .s, .s, .k (cE [] [] (vb P) [] []), .k (sE (vb y)), .s] (fun K => K 3 ∧ K 6 ∧ K 7 ∧ True) [(0, AL o), (1, AL p), (2, .v (.c (.sem (CloOK Tryz.prog (FR_Bool_Bool_Bool q))))), (7, ow 34), (10, ow 10), (11, vi e), (12, vi (gl a (e - (1 : Int)).toNat)), (54, vb (!y))] [(10, AO i), (34, AO a)] ⟨KAt.CC (region_inside_spec t0) Tryz.call174 [], KAt.CC (region_inside_spec u0) Tryz.call174 [], KAt.sem (F := (FR_Bool_Bool_Bool q)) (args := [vb O, vb P]) ⟨O, P, y, w0, rfl, rfl⟩ rfl (by kernel_rfl) (by kernel_rfl) (by kernel_rfl), ⟨⟩⟩ ?_
     refine AW.cond (b := (!y)) (by kernel_rfl) (fun H => ?_) (fun H => ?_)
     ·have h := br_t h H
      refine AW.exit ?_
      exact Kn.R Fm (A i h)
     ·have h := br_f h H
      refine AW.skip ?_
      refine AW.SG0 Fm 3 [(0, AL o), (1, AL p), (2, .v (.c (.sem (CloOK Tryz.prog (FR_Bool_Bool_Bool q))))), (7, ow 34), (10, ow 10), (11, vi e), (12, vi (gl a (e - (1 : Int)).toNat)), (13, vi ((List.length i : Nat) : Int))] [(10, AO i), (34, AO a)] ?_
      refine AW.join (r := r) (fun z : Bool => region_merge_k3 F a e i T z) (fun z => [(0, AL o), (1, AL p), (2, .v (.c (.sem (CloOK Tryz.prog (FR_Bool_Bool_Bool q))))), (7, ow 34), (10, ow 10), (11, vi e), (12, vi (gl a (e - (1 : Int)).toNat)), (13, vi ((List.length i : Nat) : Int)), (68, vb z)]) (fun z => [(10, AO i), (34, AO a)]) (fun A0 h => ?_) (fun G0 U => ?_)
      ·refine AW.cond (b := A0) (by kernel_rfl) (fun I => ?_) (fun I => ?_)
       ·have h := br_t h I
        obtain ⟨m0, h⟩ := gd_some h
        obtain ⟨Y, h⟩ := gd_some h
        obtain ⟨L, h⟩ := gd_some h
        refine AW.G Fm [.s, .s, .s, .s, .s, .s, .s, .s, .s, .s] (fun K => (I64 (((List.length i : Nat) : Int) - (1 : Int)) ∧ True) ∧ _ ∧ (e.toNat < List.length a) ∧ _ ∧ ((((List.length i : Nat) : Int) - (1 : Int)).toNat < List.length i) ∧ True) [(0, AL o), (1, AL p), (2, .v (.c (.sem (CloOK Tryz.prog (FR_Bool_Bool_Bool q))))), (7, ow 34), (10, ow 10), (11, vi e)] [(10, .arr 2 (List.length (α := Span) i) (fun j => if j = (((List.length i : Nat) : Int) - (1 : Int)).toNat then splice ((LF (α := Span) i) (((List.length i : Nat) : Int) - (1 : Int)).toNat) 1 [.int .i64 (gl a e.toNat)] else (LF (α := Span) i) j)), (34, AO a)] ⟨⟨m0, ⟨⟩⟩, Y, (toNat_lt Y), L, (toNat_lt L), ⟨⟩⟩ ?_
        refine Kn.wk [(0, AL o), (1, AL p), (2, .v (.c (.sem (CloOK Tryz.prog (FR_Bool_Bool_Bool q))))), (7, ow 34), (10, ow 10), (11, vi e)] [(10, AO (α := Span) (List.set i (((List.length i : Nat) : Int) - (1 : Int)).toNat (⟨(gl i (((List.length i : Nat) : Int) - (1 : Int)).toNat).left_, (gl a e.toNat)⟩ : Span))), (34, AO a)] (FE.refl _) (⟨rfl, OLe.is (Is.set (Is.refl i) (toNat_lt L) (⟨(gl i (((List.length i : Nat) : Int) - (1 : Int)).toNat).left_, (gl a e.toNat)⟩ : Span) (by kernel_rfl)), ⟨rfl, OLe.refl _, ⟨⟩⟩⟩) ?_
        exact Kn.R Fm (A (List.set i (((List.length i : Nat) : Int) - (1 : Int)).toNat (⟨(gl i (((List.length i : Nat) : Int) - (1 : Int)).toNat).left_, (gl a e.toNat)⟩ : Span)) h)
       ·have h := br_f h I
        obtain ⟨Z, h⟩ := gd_some h
        obtain ⟨n0, h⟩ := gd_some h
        refine AW.G Fm [.s, .s, .s, .s, .s, .s, .s, .w (AL (α := Span) ([(⟨(gl a (e - (1 : Int)).toNat), (gl a e.toNat)⟩ : Span)] : List Span)), .s, .s] (fun K => _ ∧ (e.toNat < List.length a) ∧ (ALe (.v (.c (.d (.lst 1 (litF 2 [.int .i64 (gl a (e - (1 : Int)).toNat), .int .i64 (gl a e.toNat)]))))) (AL (α := Span) ([(⟨(gl a (e - (1 : Int)).toNat), (gl a e.toNat)⟩ : Span)] : List Span))) ∧ ((List.length (α := Span) i) + (List.length (α := Span) ([(⟨(gl a (e - (1 : Int)).toNat), (gl a e.toNat)⟩ : Span)] : List Span)) ≤ LIM ∧ (∀ j, j < List.length (α := Span) ([(⟨(gl a (e - (1 : Int)).toNat), (gl a e.toNat)⟩ : Span)] : List Span) → ((LF (α := Span) ([(⟨(gl a (e - (1 : Int)).toNat), (gl a e.toNat)⟩ : Span)] : List Span)) j).length = 2) ∧ (True)) ∧ True) [(0, AL o), (1, AL p), (2, .v (.c (.sem (CloOK Tryz.prog (FR_Bool_Bool_Bool q))))), (7, ow 34), (10, ow 86), (11, vi e)] [(34, AO a), (86, .arr 2 ((List.length (α := Span) i) + (List.length (α := Span) ([(⟨(gl a (e - (1 : Int)).toNat), (gl a e.toNat)⟩ : Span)] : List Span))) (appF (List.length (α := Span) i) (LF (α := Span) i) (LF (α := Span) ([(⟨(gl a (e - (1 : Int)).toNat), (gl a e.toNat)⟩ : Span)] : List Span))))] ⟨Z, (toNat_lt Z), ALe.lst (.lit ([(⟨(gl a (e - (1 : Int)).toNat), (gl a e.toNat)⟩ : Span)] : List Span) (by kernel_rfl)), ⟨n0, (Is.refl ([(⟨(gl a (e - (1 : Int)).toNat), (gl a e.toNat)⟩ : Span)] : List Span) : Is (List.length (α := Span) ([(⟨(gl a (e - (1 : Int)).toNat), (gl a e.toNat)⟩ : Span)] : List Span)) (LF (α := Span) ([(⟨(gl a (e - (1 : Int)).toNat), (gl a e.toNat)⟩ : Span)] : List Span)) ([(⟨(gl a (e - (1 : Int)).toNat), (gl a e.toNat)⟩ : Span)] : List Span)).len, ⟨⟩⟩, ⟨⟩⟩ ?_
        refine Kn.wk [(0, AL o), (1, AL p), (2, .v (.c (.sem (CloOK Tryz.prog (FR_Bool_Bool_Bool q))))), (7, ow 34), (10, ow 86), (11, vi e)] [(34, AO a), (86, AO (α := Span) (i ++ ([(⟨(gl a (e - (1 : Int)).toNat), (gl a e.toNat)⟩ : Span)] : List Span)))] (FE.refl _) (⟨rfl, OLe.refl _, ⟨rfl, OLe.is (Is.app (Is.refl i) (Is.refl ([(⟨(gl a (e - (1 : Int)).toNat), (gl a e.toNat)⟩ : Span)] : List Span))), ⟨⟩⟩⟩) ?_
        exact Kn.RE Fm [(10, 86)] (A (i ++ ([(⟨(gl a (e - (1 : Int)).toNat), (gl a e.toNat)⟩ : Span)] : List Span)) h)
      ·rcases Bool.eq_false_or_eq_true (decide ((0 : Int) < ((List.length i : Nat) : Int))) with u | u
       ·have h := br_t h u
        obtain ⟨l0, h⟩ := gd_some h
        obtain ⟨X, h⟩ := gd_some h
        refine AW.G Fm [.s, .s, .w (vb true), .s, .s, .s, .s, .s, .s, .s, .s, .s] (fun K => (ALe (vb (decide ((0 : Int) < ((List.length i : Nat) : Int)))) (vb true)) ∧ (I64 (((List.length i : Nat) : Int) - (1 : Int)) ∧ True) ∧ _ ∧ ((((List.length i : Nat) : Int) - (1 : Int)).toNat < List.length i) ∧ True) [(0, AL o), (1, AL p), (2, .v (.c (.sem (CloOK Tryz.prog (FR_Bool_Bool_Bool q))))), (7, ow 34), (10, ow 10), (11, vi e), (12, vi (gl a (e - (1 : Int)).toNat)), (13, vi ((List.length i : Nat) : Int)), (60, ow 10), (61, vi ((List.length i : Nat) : Int)), (62, vi (((List.length i : Nat) : Int) - (1 : Int))), (63, .v (.c (.pte 10 2 ((((List.length i : Nat) : Int) - (1 : Int)).toNat) 0))), (64, .v (.c (.pte 10 2 ((((List.length i : Nat) : Int) - (1 : Int)).toNat) 1))), (65, vi (gl i (((List.length i : Nat) : Int) - (1 : Int)).toNat).right_), (66, vi (gl a (e - (1 : Int)).toNat)), (67, vb (((gl i (((List.length i : Nat) : Int) - (1 : Int)).toNat).right_) == (gl a (e - (1 : Int)).toNat))), (68, vb (((gl i (((List.length i : Nat) : Int) - (1 : Int)).toNat).right_) == (gl a (e - (1 : Int)).toNat)))] [(10, AO i), (34, AO a)] ⟨ALe.bool u, ⟨l0, ⟨⟩⟩, X, (toNat_lt X), ⟨⟩⟩ ?_
        exact Kn.R Fm (U (((gl i (((List.length i : Nat) : Int) - (1 : Int)).toNat).right_) == (gl a (e - (1 : Int)).toNat)) h)
       ·have h := br_f h u
        refine AW.G Fm [.s, .s, .w (vb false), .s, .s, .s, .s, .s, .s, .s, .s, .s] (fun K => (ALe (vb (decide ((0 : Int) < ((List.length i : Nat) : Int)))) (vb false)) ∧ True) [(0, AL o), (1, AL p), (2, .v (.c (.sem (CloOK Tryz.prog (FR_Bool_Bool_Bool q))))), (7, ow 34), (10, ow 10), (11, vi e), (12, vi (gl a (e - (1 : Int)).toNat)), (13, vi ((List.length i : Nat) : Int)), (68, vb false)] [(10, AO i), (34, AO a)] ⟨ALe.bool u, ⟨⟩⟩ ?_
        exact Kn.R Fm (U false h)
   ·have h := br_f h E
    refine AW.exit ?_
    exact Kn.R Fm (e0 i h)
 ·refine AW.seq ?_
  obtain ⟨l, p0, h⟩ := bd_some h
  refine AW.G Fm [.s, .s, .w (AL (α := (List Span)) ([o, p] : List (List Span))), .k (cE [(100, 17)] [] (ow 100) [] [(100, AO l)]), .s, .s] (fun K => (ALe (.v (.c (.d (.lst 2 (litF 1 [DL o, DL p]))))) (AL (α := (List Span)) ([o, p] : List (List Span)))) ∧ K 3 ∧ True) [(0, AL o), (1, AL p), (2, .v (.c (.sem (CloOK Tryz.prog (FR_Bool_Bool_Bool q))))), (7, ow 7), (17, ow 17), (18, vi ((List.length l : Nat) : Int)), (19, vi (0 : Int))] [(7, AO (α := Int) ([] : List Int)), (17, AO l)] ⟨ALe.lst (.lit ([o, p] : List (List Span)) (by kernel_rfl)), KAt.CC (slices_Concat_Span_spec p0) Tryz.call173 [(100, 17)], ⟨⟩⟩ ?_
  refine AW.block ?_
  refine Kn.r Fm [(0, AL o), (1, AL p), (2, .v (.c (.sem (CloOK Tryz.prog (FR_Bool_Bool_Bool q))))), (7, ow 7), (17, ow 17), (18, vi ((List.length l : Nat) : Int)), (19, vi (0 : Int))] [(7, AO ([] : List Int)), (17, AO l)] (by kernel_rfl) ?_
  refine AW.loopF (E' := fun z => [(0, AL o), (1, AL p), (2, .v (.c (.sem (CloOK Tryz.prog (FR_Bool_Bool_Bool q))))), (7, ow 7), (17, ow 17), (18, vi ((List.length l : Nat) : Int)), (19, vi z.1)]) (S' := fun z => [(7, AO z.2), (17, AO l)]) (fun K0 z B0 b0 h => ?_) h
  obtain ⟨n, t⟩ := z
  refine AW.SG0 Fm 1 [(0, AL o), (1, AL p), (2, .v (.c (.sem (CloOK Tryz.prog (FR_Bool_Bool_Bool q))))), (7, ow 7), (17, ow 17), (18, vi ((List.length l : Nat) : Int)), (19, vi n), (20, vb (decide (n < ((List.length l : Nat) : Int))))] [(7, AO t), (17, AO l)] ?_
  refine AW.seq ?_
  refine AW.cond (b := (decide (n < ((List.length l : Nat) : Int)))) (by kernel_rfl) (fun B => ?_) (fun B => ?_)
  ·have h := br_t h B
   refine AW.skip ?_
   refine AW.seq ?_
   refine AW.block ?_
   obtain ⟨V, h⟩ := gd_some h
   refine AW.SG Fm [.s, .s, .s, .s] (fun K => _ ∧ (n.toNat < List.length l) ∧ True) [(0, AL o), (1, AL p), (2, .v (.c (.sem (CloOK Tryz.prog (FR_Bool_Bool_Bool q))))), (7, ow 7), (9, pt 9), (17, ow 17), (18, vi ((List.length l : Nat) : Int)), (19, vi n)] [(7, AO t), (9, bx [ci ((gl l n.toNat).left_), ci ((gl l n.toNat).right_)]), (17, AO l)] ⟨V, (toNat_lt V), ⟨⟩⟩ ?_
   obtain ⟨i0, h⟩ := gd_some h
   refine AW.G Fm [.s, .s, .s, .s, .s, .w (AL (α := Int) ([(gl l n.toNat).left_, (gl l n.toNat).right_] : List Int)), .s, .s] (fun K => (ALe (.v (.c (.d (.lst 2 (litF 1 [.int .i64 (gl l n.toNat).left_, .int .i64 (gl l n.toNat).right_]))))) (AL (α := Int) ([(gl l n.toNat).left_, (gl l n.toNat).right_] : List Int))) ∧ ((List.length (α := Int) t) + (List.length (α := Int) ([(gl l n.toNat).left_, (gl l n.toNat).right_] : List Int)) ≤ LIM ∧ (∀ j, j < List.length (α := Int) ([(gl l n.toNat).left_, (gl l n.toNat).right_] : List Int) → ((LF (α := Int) ([(gl l n.toNat).left_, (gl l n.toNat).right_] : List Int)) j).length = 1) ∧ (True)) ∧ True) [(0, AL o), (1, AL p), (2, .v (.c (.sem (CloOK Tryz.prog (FR_Bool_Bool_Bool q))))), (7, ow 29), (17, ow 17), (18, vi ((List.length l : Nat) : Int)), (19, vi n)] [(17, AO l), (29, .arr 1 ((List.length (α := Int) t) + (List.length (α := Int) ([(gl l n.toNat).left_, (gl l n.toNat).right_] : List Int))) (appF (List.length (α := Int) t) (LF (α := Int) t) (LF (α := Int) ([(gl l n.toNat).left_, (gl l n.toNat).right_] : List Int))))] ⟨ALe.lst (.lit ([(gl l n.toNat).left_, (gl l n.toNat).right_] : List Int) (by kernel_rfl)), ⟨i0, (Is.refl ([(gl l n.toNat).left_, (gl l n.toNat).right_] : List Int) : Is (List.length (α := Int) ([(gl l n.toNat).left_, (gl l n.toNat).right_] : List Int)) (LF (α := Int) ([(gl l n.toNat).left_, (gl l n.toNat).right_] : List Int)) ([(gl l n.toNat).left_, (gl l n.toNat).right_] : List Int)).len, ⟨⟩⟩, ⟨⟩⟩ ?_
   refine Kn.wk [(0, AL o), (1, AL p), (2, .v (.c (.sem (CloOK Tryz.prog (FR_Bool_Bool_Bool q))))), (7, ow 29), (17, ow 17), (18, vi ((List.length l : Nat) : Int)), (19, vi n)] [(17, AO l), (29, AO (α := Int) (t ++ ([(gl l n.toNat).left_, (gl l n.toNat).right_] : List Int)))] (FE.refl _) (⟨rfl, OLe.refl _, ⟨rfl, OLe.is (Is.app (Is.refl t) (Is.refl ([(gl l n.toNat).left_, (gl l n.toNat).right_] : List Int))), ⟨⟩⟩⟩) ?_
   obtain ⟨j0, h⟩ := gd_some h
   refine AW.G Fm [.s, .s] (fun K => (I64 (n + (1 : Int)) ∧ True) ∧ True) [(0, AL o), (1, AL p), (2, .v (.c (.sem (CloOK Tryz.prog (FR_Bool_Bool_Bool q))))), (7, ow 29), (17, ow 17), (18, vi ((List.length l : Nat) : Int)), (19, vi (n + (1 : Int)))] [(17, AO l), (29, AO (α := Int) (t ++ ([(gl l n.toNat).left_, (gl l n.toNat).right_] : List Int)))] ⟨⟨j0, ⟨⟩⟩, ⟨⟩⟩ ?_
   exact Kn.RE Fm [(7, 29)] (b0 ((n + (1 : Int)), (t ++ ([(gl l n.toNat).left_, (gl l n.toNat).right_] : List Int))) h)
  ·have h := br_f h B
   refine AW.exit ?_
   exact Kn.R Fm (c0 t h)
theorem region_Choose_1_spec {F : Nat} {e : Int} {a : (List Rect)} {b : (List Rect)} {c : Bool → Bool → Option Bool} {r : (List Span)} (h : region_Choose_1 F e a b c = some r) :
  FSpec Tryz.prog 139 [vi e, pt 0, pt 1, pt 2] [(0, .box true [.d (DL a)]), (1, .box true [.d (DL b)]), (2, .box true [.sem (CloOK Tryz.prog (FR_Bool_Bool_Bool c))])] (AL (α := Span) r) [(0, .box true [.d (DL a)]), (1, .box true [.d (DL b)]), (2, .box true [.sem (CloOK Tryz.prog (FR_Bool_Bool_Bool c))])] := by
 refine FSpec.intro prog_mixed prog_lay Tryz.func139 rfl (by kernel_rfl) fun C Fm => ?_
 unfold region_Choose_1 at h
 refine AW.SG0 Fm 1 [(0, vi e), (1, pt 0), (2, pt 1), (3, pt 2)] [(0, .box true [.d (DL a)]), (1, .box true [.d (DL b)]), (2, .box true [.sem (CloOK Tryz.prog (FR_Bool_Bool_Bool c))])] ?_
 refine AW.seq ?_
 obtain ⟨n, j, h⟩ := bd_some h
 obtain ⟨o, l, h⟩ := bd_some h
 obtain ⟨i, m, h⟩ := bd_some h
 refine AW.G Fm [.s, .s, .k (cE [] [] (AL n) [] []), .s, .s, .k (cE [] [] (AL o) [] []), .s, .k (cE [] [] (AL i) [] []), .s] (fun K => K 2 ∧ K 5 ∧ K 7 ∧ True) [(5, AL i)] [(0, .box true [.d (DL a)]), (1, .box true [.d (DL b)]), (2, .box true [.sem (CloOK Tryz.prog (FR_Bool_Bool_Bool c))])] ⟨KAt.CC (region_Row_spec j) Tryz.call141 [], KAt.CC (region_Row_spec l) Tryz.call141 [], KAt.callX (region_merge_spec m) Tryz.call140 [] [] [.tmp 8, .tmp 11, .tmp 12] rfl (by kernel_rfl) (by kernel_rfl) (by kernel_rfl) ⟨.p, .p, ArgT.semX (by kernel_rfl) (by kernel_rfl) (by kernel_rfl), ⟨⟩⟩, ⟨⟩⟩ ?_
 refine AW.ret ?_
 obtain rfl := Option.some.inj h
 exact Kn.D Fm
theorem region_Choose_spec {F : Nat} {a : (List Rect)} {b : (List Rect)} {e : Bool → Bool → Option Bool} {r : (List Rect)} (h : region_Choose F a b e = some r) :
  FSpec Tryz.prog 81 [AL a, AL b, .v (.c (.sem (CloOK Tryz.prog (FR_Bool_Bool_Bool e))))] [] (AL (α := Rect) r) [] := by
 refine FSpec.intro prog_mixed prog_lay Tryz.func81 rfl (by kernel_rfl) fun C Fm => ?_
 unfold region_Choose at h
 refine AW.SG0 Fm 4 [(3, pt 3), (4, pt 4), (5, pt 5)] [(3, bx [.d (DL a)]), (4, bx [.d (DL b)]), (5, bx [.sem (CloOK Tryz.prog (FR_Bool_Bool_Bool e))])] ?_
 refine AW.seq ?_
 obtain ⟨m, j, h⟩ := bd_some h
 obtain ⟨i, l, h⟩ := bd_some h
 refine AW.G Fm [.s, .s, .w (AL (α := (List Rect)) ([a, b] : List (List Rect))), .k (cE [] [] (AL m) [] []), .s, .k (cE [] [3, 4, 5] (AL i) [] []), .s] (fun K => (ALe (.v (.c (.d (.lst 2 (litF 1 [DL a, DL b]))))) (AL (α := (List Rect)) ([a, b] : List (List Rect)))) ∧ K 3 ∧ K 5 ∧ True) [(6, AL i)] [] ⟨ALe.lst (.lit ([a, b] : List (List Rect)) (by kernel_rfl)), KAt.CC (region_Cuts_spec j) Tryz.call138 [], KAt.callX (region_Build_spec l) Tryz.call137 [] [3, 4, 5] [.tmp 10, .tmp 11] rfl (by kernel_rfl) (by kernel_rfl) (by kernel_rfl) ⟨.p, ArgT.cloXP Tryz.call139 [[.d (DL a)], [.d (DL b)], [.sem (CloOK Tryz.prog (FR_Bool_Bool_Bool e))]] (fun args r hq => by obtain ⟨y0, y, hq, rfl, rfl⟩ := hq; exact Eq.mp (by kernel_rfl) (region_Choose_1_spec hq)) (fun args r hq => by obtain ⟨y0, y, hq, rfl, rfl⟩ := hq; rfl) (by kernel_rfl) [3, 4, 5] (by kernel_rfl) (by kernel_rfl) ⟨⟨.inl (by kernel_rfl), ⟨⟩⟩, ⟨.inl (by kernel_rfl), ⟨⟩⟩, ⟨.inr ⟨_, rfl⟩, ⟨⟩⟩, ⟨⟩⟩ (⟨⟨false, (by kernel_rfl)⟩, ⟨⟨false, (by kernel_rfl)⟩, ⟨⟨false, (by kernel_rfl)⟩, ⟨⟩⟩⟩⟩) (by kernel_rfl), ⟨⟩⟩, ⟨⟩⟩ ?_
 refine AW.ret ?_
 obtain rfl := Option.some.inj h
 exact Kn.D Fm
theorem shape_Shrink_spec {F : Nat} {e : Region} {i : Int} {r : Region × Int} (h : shape_Shrink F e i = some r) :
  FSpec Tryz.prog 36 [.v (.g [.d (DL e.rects_)]), vi i] [] (.t [.g [.d (DL (α := Rect) r.1.rects_)], .c (ci r.2)]) [] := by
 refine FSpec.intro prog_mixed prog_lay Tryz.func36 rfl (by kernel_rfl) fun C Fm => ?_
 unfold shape_Shrink at h
 refine AW.SG0 Fm 3 [(1, vi i), (2, pt 2), (4, pt 4)] [(2, bx [.d (DL e.rects_)]), (4, bx [.fl 0 fun _ => []])] ?_
 refine AW.seq ?_
 refine AW.seq ?_
 obtain ⟨j, q, h⟩ := bd_some h
 refine AW.G Fm [.s, .s, .k (cE [] [] (vi j) [] []), .s] (fun K => K 2 ∧ True) [(1, vi i), (2, pt 2), (4, pt 4), (6, vi j)] [(2, bx [.d (DL e.rects_)]), (4, bx [.fl 0 fun _ => []])] ⟨KAt.CC (shape_check_spec q) Tryz.call95 [], ⟨⟩⟩ ?_
 refine AW.SG0 Fm 2 [(1, vi i), (2, pt 2), (4, pt 4), (6, vi j), (15, vb (j != (0 : Int)))] [(2, bx [.d (DL e.rects_)]), (4, bx [.fl 0 fun _ => []])] ?_
 refine AW.cond (b := (j != (0 : Int))) (by kernel_rfl) (fun m => ?_) (fun m => ?_)
 ·have h := br_t h m
  refine AW.SG Fm [.w (.v (.g [.d (DL (α := Rect) [])])), .s, .s, .s] (fun K => (ALe (.v (.g [.fl 0 fun _ => []])) (.v (.g [.d (DL (α := Rect) [])]))) ∧ True) [(4, pt 4), (5, vi j)] [(4, bx [.d (DL (α := Rect) [])])] ⟨ALe.g ⟨CLe.fl .nil, ⟨⟩⟩, ⟨⟩⟩ ?_
  refine AW.ret ?_
  obtain rfl := Option.some.inj h
  exact Kn.D Fm
 ·have h := br_f h m
  refine AW.skip ?_
  refine AW.seq ?_
  obtain ⟨a, u, h⟩ := bd_some h
  refine AW.G Fm [.s, .k (cE [] [] (.t [.g (gC a.1), .c (.d (.bool a.2))]) [] []), .s, .s, .s, .s, .s, .s] (fun K => K 1 ∧ True) [(1, vi i), (2, pt 2), (4, pt 4), (7, pt 7), (8, vb a.2)] [(2, bx [.d (DL e.rects_)]), (4, bx [.fl 0 fun _ => []]), (7, bx (gC a.1))] ⟨KAt.CC (shape_Bounds_spec u) Tryz.call48 [], ⟨⟩⟩ ?_
  refine AW.seq ?_
  refine AW.SG0 Fm 2 [(1, vi i), (2, pt 2), (4, pt 4), (7, pt 7), (24, vb (!a.2))] [(2, bx [.d (DL e.rects_)]), (4, bx [.fl 0 fun _ => []]), (7, bx (gC a.1))] ?_
  refine AW.cond (b := (!a.2)) (by kernel_rfl) (fun n => ?_) (fun n => ?_)
  ·have h := br_t h n
   refine AW.SG Fm [.w (.v (.g [.d (DL (α := Rect) [])])), .s, .s] (fun K => (ALe (.v (.g [.fl 0 fun _ => []])) (.v (.g [.d (DL (α := Rect) [])]))) ∧ True) [(4, pt 4), (5, vi (0 : Int))] [(4, bx [.d (DL (α := Rect) [])])] ⟨ALe.g ⟨CLe.fl .nil, ⟨⟩⟩, ⟨⟩⟩ ?_
   refine AW.ret ?_
   obtain rfl := Option.some.inj h
   exact Kn.D Fm
  ·have h := br_f h n
   refine AW.skip ?_
   refine AW.SG0 Fm 1 [(1, vi i), (2, pt 2), (4, pt 4), (7, pt 7), (9, .v (.c (.clo 97 [])))] [(2, bx [.d (DL e.rects_)]), (4, bx [.fl 0 fun _ => []]), (7, bx (gC a.1))] ?_
   refine AW.seq ?_
   obtain ⟨L, A, h⟩ := bd_some h
   obtain ⟨o, B, h⟩ := bd_some h
   refine AW.G Fm [.s, .w (AL (α := Rect) ([a.1] : List Rect)), .s, .k (cE [] [] (AL L) [] []), .s, .s, .s, .k (cE [] [] (AL o) [] []), .s] (fun K => (ALe (.v (.c (.d (.lst 1 (litF 4 [.int .i64 a.1.left_, .int .i64 a.1.low_, .int .i64 a.1.right_, .int .i64 a.1.high_]))))) (AL (α := Rect) ([a.1] : List Rect))) ∧ K 3 ∧ K 7 ∧ True) [(1, vi i), (2, pt 2), (4, pt 4), (9, .v (.c (.clo 97 []))), (10, AL o)] [(2, bx [.d (DL e.rects_)]), (4, bx [.fl 0 fun _ => []])] ⟨ALe.lst (.lit ([a.1] : List Rect) (by kernel_rfl)), KAt.CC (FSpec.list (shape_wider_spec A)) Tryz.call96 [], KAt.callX (region_Choose_spec B) Tryz.call81 [] [] [.tmp 29, .tmp 31, .tmp 32] rfl (by kernel_rfl) (by kernel_rfl) (by kernel_rfl) ⟨.p, .p, ArgT.cloX Tryz.call97 [] (fun args r hq => by obtain ⟨y0, y1, y, hq, rfl, rfl⟩ := hq; exact Eq.mp (by kernel_rfl) (shape_Shrink_1_spec hq)) (fun args r hq => by obtain ⟨y0, y1, y, hq, rfl, rfl⟩ := hq; rfl) (by kernel_rfl) [] (by kernel_rfl) (by kernel_rfl) (True.intro) (by kernel_rfl), ⟨⟩⟩, ⟨⟩⟩ ?_
   refine AW.seq ?_
   obtain ⟨M, E, h⟩ := bd_some h
   obtain ⟨N, H, h⟩ := bd_some h
   obtain ⟨l, I, h⟩ := bd_some h
   refine AW.G Fm [.s, .s, .s, .s, .k (cE [] [] (AL M) [] []), .s, .k (cE [] [] (AL N) [] []), .k (cE [] [] (.t [.g [.d (DL l.1.rects_)], .c (ci l.2)]) [] []), .s, .s, .s, .s] (fun K => K 4 ∧ K 6 ∧ K 7 ∧ True) [(4, pt 4), (5, vi l.2)] [(4, bx [.d (DL l.1.rects_)])] ⟨KAt.CC (FSpec.list (shape_wider_spec E)) Tryz.call96 [], KAt.callX (region_Choose_spec H) Tryz.call81 [] [] [.tmp 35, .tmp 38, .tmp 39] rfl (by kernel_rfl) (by kernel_rfl) (by kernel_rfl) ⟨.p, .p, ArgT.cloX Tryz.call97 [] (fun args r hq => by obtain ⟨y0, y1, y, hq, rfl, rfl⟩ := hq; exact Eq.mp (by kernel_rfl) (shape_Shrink_1_spec hq)) (fun args r hq => by obtain ⟨y0, y1, y, hq, rfl, rfl⟩ := hq; rfl) (by kernel_rfl) [] (by kernel_rfl) (by kernel_rfl) (True.intro) (by kernel_rfl), ⟨⟩⟩, KAt.CC (region_Limited_spec I) Tryz.call98 [], ⟨⟩⟩ ?_
   refine AW.ret ?_
   obtain rfl := Option.some.inj h
   exact Kn.D Fm
theorem ref06_Move_spec {F : Nat} {a : Region} {l : Int} {m : Int} {r : Region × Int} (h : ref06_Move F a l m = some r) :
  FSpec Tryz.prog 37 [.v (.g [.d (DL a.rects_)]), vi l, vi m] [] (.t [.g [.d (DL (α := Rect) r.1.rects_)], .c (ci r.2)]) [] := by
 refine FSpec.intro prog_mixed prog_lay Tryz.func37 rfl (by kernel_rfl) fun C Fm => ?_
 unfold ref06_Move at h
 refine AW.SG0 Fm 3 [(1, vi l), (2, vi m), (3, pt 3), (6, pt 6)] [(3, bx [.d (DL a.rects_)]), (6, bx [.fl 0 fun _ => []])] ?_
 refine AW.seq ?_
 refine AW.seq ?_
 obtain ⟨O, c0, h⟩ := bd_some h
 refine AW.G Fm [.s, .k (cE [] [] (vb O) [] []), .s] (fun K => K 1 ∧ True) [(1, vi l), (2, vi m), (3, pt 3), (6, pt 6), (14, vb (!O))] [(3, bx [.d (DL a.rects_)]), (6, bx [.fl 0 fun _ => []])] ⟨KAt.CC (ref04_Valid_spec c0) Tryz.call15 [], ⟨⟩⟩ ?_
 refine AW.cond (b := (!O)) (by kernel_rfl) (fun H => ?_) (fun H => ?_)
 ·have h := br_t h H
  refine AW.SG Fm [.w (.v (.g [.d (DL (α := Rect) [])])), .s, .s] (fun K => (ALe (.v (.g [.fl 0 fun _ => []])) (.v (.g [.d (DL (α := Rect) [])]))) ∧ True) [(6, pt 6), (7, vi (7 : Int))] [(6, bx [.d (DL (α := Rect) [])])] ⟨ALe.g ⟨CLe.fl .nil, ⟨⟩⟩, ⟨⟩⟩ ?_
  refine AW.ret ?_
  obtain rfl := Option.some.inj h
  exact Kn.D Fm
 ·have h := br_f h H
  refine AW.skip ?_
  refine AW.seq ?_
  refine AW.join (r := r) (fun z : Bool => ref06_Move_k0 F a l m z) (fun z => [(1, vi l), (2, vi m), (3, pt 3), (6, pt 6), (29, vb z)]) (fun z => [(3, bx [.d (DL a.rects_)]), (6, bx [.fl 0 fun _ => []])]) (fun d0 h => ?_) (fun i0 B => ?_)
  ·refine AW.cond (b := d0) (by kernel_rfl) (fun I => ?_) (fun I => ?_)
   ·have h := br_t h I
    refine AW.SG Fm [.w (.v (.g [.d (DL (α := Rect) [])])), .s, .s] (fun K => (ALe (.v (.g [.fl 0 fun _ => []])) (.v (.g [.d (DL (α := Rect) [])]))) ∧ True) [(6, pt 6), (7, vi (2 : Int))] [(6, bx [.d (DL (α := Rect) [])])] ⟨ALe.g ⟨CLe.fl .nil, ⟨⟩⟩, ⟨⟩⟩ ?_
    refine AW.ret ?_
    obtain rfl := Option.some.inj h
    exact Kn.D Fm
   ·have h := br_f h I
    refine AW.skip ?_
    refine AW.SG0 Fm 1 [(1, vi l), (2, vi m), (3, pt 3), (6, pt 6), (8, pt 8)] [(3, bx [.d (DL a.rects_)]), (6, bx [.fl 0 fun _ => []]), (8, bx [.fl 0 fun _ => []])] ?_
    refine AW.join (r := r) (fun z : (List Rect) => ref06_Move_k3 F z) (fun z => [(6, pt 6), (8, pt 8)]) (fun z => [(6, bx [.own 900]), (8, bx [.own 930]), (900, AO (α := Rect) ([] : List Rect)), (930, AO z)]) (fun N h => ?_) (fun l0 U => ?_)
    ·refine AW.SG0 Fm 3 [(6, pt 6), (7, vi (0 : Int))] [(6, bx [.own 930]), (930, AO N)] ?_
     refine AW.ret ?_
     obtain rfl := Option.some.inj h
     refine Kn.r Fm [(6, pt 6), (7, vi (0 : Int))] [(930, AO N), (6, bx [.own 930])] (by kernel_rfl) ?_
     refine Kn.frz [(6, pt 6), (7, vi (0 : Int))] [(6, bx [.d (DL N)])] (by kernel_rfl) (by kernel_rfl) (by kernel_rfl) ?_
     exact Kn.D Fm
    ·refine AW.SG0 Fm 4 [(1, vi l), (2, vi m), (6, pt 6), (8, pt 8), (32, AL a.rects_), (33, vi ((List.length a.rects_ : Nat) : Int)), (34, vi (0 : Int))] [(6, bx [.fl 0 fun _ => []]), (8, bx [.fl 0 fun _ => []])] ?_
     refine AW.block ?_
     refine Kn.r Fm [(1, vi l), (2, vi m), (6, pt 6), (8, pt 8), (32, AL a.rects_), (33, vi ((List.length a.rects_ : Nat) : Int)), (34, vi (0 : Int))] [(6, bx [.fl 0 fun _ => []]), (8, bx [.fl 0 fun _ => []])] (by kernel_rfl) ?_
     refine Kn.own0 Fm (i := 6) (k := 900) (es := 4) (j := 0) (f' := LF (α := Rect) []) (by kernel_rfl) (by kernel_rfl) (by decide) rfl ?_
     refine Kn.r Fm [(1, vi l), (2, vi m), (6, pt 6), (8, pt 8), (32, AL a.rects_), (33, vi ((List.length a.rects_ : Nat) : Int)), (34, vi (0 : Int))] [(6, bx [.own 900]), (8, bx [.fl 0 fun _ => []]), (900, AO (α := Rect) ([] : List Rect))] (by kernel_rfl) ?_
     refine Kn.r Fm [(1, vi l), (2, vi m), (6, pt 6), (8, pt 8), (32, AL a.rects_), (33, vi ((List.length a.rects_ : Nat) : Int)), (34, vi (0 : Int))] [(8, bx [.fl 0 fun _ => []]), (6, bx [.own 900]), (900, AO (α := Rect) ([] : List Rect))] (by kernel_rfl) ?_
     refine Kn.own0 Fm (i := 8) (k := 930) (es := 4) (j := 0) (f' := LF (α := Rect) []) (by kernel_rfl) (by kernel_rfl) (by decide) rfl ?_
     refine Kn.r Fm [(1, vi l), (2, vi m), (6, pt 6), (8, pt 8), (32, AL a.rects_), (33, vi ((List.length a.rects_ : Nat) : Int)), (34, vi (0 : Int))] [(6, bx [.own 900]), (8, bx [.own 930]), (900, AO (α := Rect) ([] : List Rect)), (930, AO (α := Rect) ([] : List Rect))] (by kernel_rfl) ?_
     refine Kn.r Fm [(1, vi l), (2, vi m), (6, pt 6), (8, pt 8), (32, AL a.rects_), (33, vi ((List.length a.rects_ : Nat) : Int)), (34, vi (0 : Int))] [(6, bx [.own 900]), (8, bx [.own 930]), (900, AO (α := Rect) ([] : List Rect)), (930, AO ([] : List Rect))] (by kernel_rfl) ?_
     refine AW.loopF (E' := fun z => [(1, vi l), (2, vi m), (6, pt 6), (8, pt 8), (32, AL a.rects_), (33, vi ((List.length a.rects_ : Nat) : Int)), (34, vi z.1)]) (S' := fun z => [(6, bx [.own 900]), (8, bx [.own 930]), (900, AO (α := Rect) ([] : List Rect)), (930, AO z.2)]) (fun P z j0 T h => ?_) h
     obtain ⟨e, n⟩ := z
     refine AW.SG0 Fm 1 [(1, vi l), (2, vi m), (6, pt 6), (8, pt 8), (32, AL a.rects_), (33, vi ((List.length a.rects_ : Nat) : Int)), (34, vi e), (35, vb (decide (e < ((List.length a.rects_ : Nat) : Int))))] [(6, bx [.own 900]), (8, bx [.own 930]), (900, AO (α := Rect) ([] : List Rect)), (930, AO n)] ?_
     refine AW.seq ?_
     refine AW.cond (b := (decide (e < ((List.length a.rects_ : Nat) : Int)))) (by kernel_rfl) (fun L => ?_) (fun L => ?_)
     ·have h := br_t h L
      refine AW.skip ?_
      refine AW.seq ?_
      refine AW.block ?_
      obtain ⟨V, h⟩ := gd_some h
      refine AW.SG Fm [.s, .s, .s, .s] (fun K => _ ∧ True) [(1, vi l), (2, vi m), (6, pt 6), (8, pt 8), (10, pt 10), (32, AL a.rects_), (33, vi ((List.length a.rects_ : Nat) : Int)), (34, vi e)] [(6, bx [.own 900]), (8, bx [.own 930]), (10, bx [ci ((gl a.rects_ e.toNat).left_), ci ((gl a.rects_ e.toNat).low_), ci ((gl a.rects_ e.toNat).right_), ci ((gl a.rects_ e.toNat).high_)]), (900, AO (α := Rect) ([] : List Rect)), (930, AO n)] ⟨V, ⟨⟩⟩ ?_
      obtain ⟨W, h⟩ := gd_some h
      obtain ⟨X, h⟩ := gd_some h
      obtain ⟨Y, h⟩ := gd_some h
      obtain ⟨Z, h⟩ := gd_some h
      refine AW.SG Fm [.s, .s, .s, .s, .s, .s, .s, .s, .s, .s, .s, .s, .s, .s, .s, .s, .s, .s, .s] (fun K => (I64 (((gl a.rects_ e.toNat).left_) + l) ∧ True) ∧ (I64 (((gl a.rects_ e.toNat).low_) + m) ∧ True) ∧ (I64 (((gl a.rects_ e.toNat).right_) + l) ∧ True) ∧ (I64 (((gl a.rects_ e.toNat).high_) + m) ∧ True) ∧ True) [(1, vi l), (2, vi m), (6, pt 6), (8, pt 8), (11, pt 11), (32, AL a.rects_), (33, vi ((List.length a.rects_ : Nat) : Int)), (34, vi e)] [(6, bx [.own 900]), (8, bx [.own 930]), (11, bx [ci (((gl a.rects_ e.toNat).left_) + l), ci (((gl a.rects_ e.toNat).low_) + m), ci (((gl a.rects_ e.toNat).right_) + l), ci (((gl a.rects_ e.toNat).high_) + m)]), (900, AO (α := Rect) ([] : List Rect)), (930, AO n)] ⟨⟨W, ⟨⟩⟩, ⟨X, ⟨⟩⟩, ⟨Y, ⟨⟩⟩, ⟨Z, ⟨⟩⟩, ⟨⟩⟩ ?_
      refine AW.seq ?_
      refine AW.join (r := r) (fun z : Bool => ref06_Move_k2 F a l m e n P z) (fun z => [(1, vi l), (2, vi m), (6, pt 6), (8, pt 8), (11, pt 11), (32, AL a.rects_), (33, vi ((List.length a.rects_ : Nat) : Int)), (34, vi e), (72, vb z)]) (fun z => [(6, bx [.own 900]), (8, bx [.own 930]), (11, bx [ci (((gl a.rects_ e.toNat).left_) + l), ci (((gl a.rects_ e.toNat).low_) + m), ci (((gl a.rects_ e.toNat).right_) + l), ci (((gl a.rects_ e.toNat).high_) + m)]), (900, AO (α := Rect) ([] : List Rect)), (930, AO n)]) (fun e0 h => ?_) (fun k0 E => ?_)
      ·refine AW.cond (b := e0) (by kernel_rfl) (fun M => ?_) (fun M => ?_)
       ·have h := br_t h M
        refine AW.SG Fm [.w (.v (.g [.d (DL (α := Rect) [])])), .s, .s] (fun K => (ALe (.v (.g [.fl 0 fun _ => []])) (.v (.g [.d (DL (α := Rect) [])]))) ∧ True) [(6, pt 6), (7, vi (2 : Int))] [(6, bx [.d (DL (α := Rect) [])])] ⟨ALe.g ⟨CLe.fl .nil, ⟨⟩⟩, ⟨⟩⟩ ?_
        refine AW.ret ?_
        obtain rfl := Option.some.inj h
        exact Kn.D Fm
       ·have h := br_f h M
        refine AW.skip ?_
        obtain ⟨a0, h⟩ := gd_some h
        refine AW.G Fm [.s, .s, .s, .w (AL (α := Rect) ([(⟨(((gl a.rects_ e.toNat).left_) + l), (((gl a.rects_ e.toNat).low_) + m), (((gl a.rects_ e.toNat).right_) + l), (((gl a.rects_ e.toNat).high_) + m)⟩ : Rect)] : List Rect)), .s, .s, .s] (fun K => (ALe (.v (.c (.d (.lst 1 (litF 4 [.int .i64 (((gl a.rects_ e.toNat).left_) + l), .int .i64 (((gl a.rects_ e.toNat).low_) + m), .int .i64 (((gl a.rects_ e.toNat).right_) + l), .int .i64 (((gl a.rects_ e.toNat).high_) + m)]))))) (AL (α := Rect) ([(⟨(((gl a.rects_ e.toNat).left_) + l), (((gl a.rects_ e.toNat).low_) + m), (((gl a.rects_ e.toNat).right_) + l), (((gl a.rects_ e.toNat).high_) + m)⟩ : Rect)] : List Rect))) ∧ ((List.length (α := Rect) n) + (List.length (α := Rect) ([(⟨(((gl a.rects_ e.toNat).left_) + l), (((gl a.rects_ e.toNat).low_) + m), (((gl a.rects_ e.toNat).right_) + l), (((gl a.rects_ e.toNat).high_) + m)⟩ : Rect)] : List Rect)) ≤ LIM ∧ (∀ j, j < List.length (α := Rect) ([(⟨(((gl a.rects_ e.toNat).left_) + l), (((gl a.rects_ e.toNat).low_) + m), (((gl a.rects_ e.toNat).right_) + l), (((gl a.rects_ e.toNat).high_) + m)⟩ : Rect)] : List Rect) → ((LF (α := Rect) ([(⟨(((gl a.rects_ e.toNat).left_) + l), (((gl a.rects_ e.toNat).low_) + m), (((gl a.rects_ e.toNat).right_) + l), (((gl a.rects_ e.toNat).high_) + m)⟩ : Rect)] : List Rect)) j).length = 4) ∧ (True)) ∧ True) [(1, vi l), (2, vi m), (6, pt 6), (8, pt 8), (32, AL a.rects_), (33, vi ((List.length a.rects_ : Nat) : Int)), (34, vi e)] [(6, bx [.own 900]), (8, bx [.own 78]), (78, .arr 4 ((List.length (α := Rect) n) + (List.length (α := Rect) ([(⟨(((gl a.rects_ e.toNat).left_) + l), (((gl a.rects_ e.toNat).low_) + m), (((gl a.rects_ e.toNat).right_) + l), (((gl a.rects_ e.toNat).high_) + m)⟩ : Rect)] : List Rect))) (appF (List.length (α := Rect) n) (LF (α := Rect) n) (LF (α := Rect) ([(⟨(((gl a.rects_ e.toNat).left_) + l), (((gl a.rects_ e.toNat).low_) + m), (((gl a.rects_ e.toNat).right_) + l), (((gl a.rects_ e.toNat).high_) + m)⟩ : Rect)] : List Rect)))), (900, AO (α := Rect) ([] : List Rect))] ⟨ALe.lst (.lit ([(⟨(((gl a.rects_ e.toNat).left_) + l), (((gl a.rects_ e.toNat).low_) + m), (((gl a.rects_ e.toNat).right_) + l), (((gl a.rects_ e.toNat).high_) + m)⟩ : Rect)] : List Rect) (by kernel_rfl)), ⟨a0, (Is.refl ([(⟨(((gl a.rects_ e.toNat).left_) + l), (((gl a.rects_ e.toNat).low_) + m), (((gl a.rects_ e.toNat).right_) + l), (((gl a.rects_ e.toNat).high_) + m)⟩ : Rect)] : List Rect) : Is (List.length (α := Rect) ([(⟨(((gl a.rects_ e.toNat).left_) + l), (((gl a.rects_ e.toNat).low_) + m), (((gl a.rects_ e.toNat).right_) + l), (((gl a.rects_ e.toNat).high_) + m)⟩ : Rect)] : List Rect)) (LF (α := Rect) ([(⟨(((gl a.rects_ e.toNat).left_) + l), (((gl a.rects_ e.toNat).low_) + m), (((gl a.rects_ e.toNat).right_) + l), (((gl a.rects_ e.toNat).high_) + m)⟩ : Rect)] : List Rect)) ([(⟨(((gl a.rects_ e.toNat).left_) + l), (((gl a.rects_ e.toNat).low_) + m), (((gl a.rects_ e.toNat).right_) + l), (((gl a.rects_ e.toNat).high_) + m)⟩ : Rect)] : List Rect)).len, ⟨⟩⟩, ⟨⟩⟩ ?_
        refine Kn.wk [(1, vi l), (2, vi m), (6, pt 6), (8, pt 8), (32, AL a.rects_), (33, vi ((List.length a.rects_ : Nat) : Int)), (34, vi e)] [(6, bx [.own 900]), (8, bx [.own 78]), (78, AO (α := Rect) (n ++ ([(⟨(((gl a.rects_ e.toNat).left_) + l), (((gl a.rects_ e.toNat).low_) + m), (((gl a.rects_ e.toNat).right_) + l), (((gl a.rects_ e.toNat).high_) + m)⟩ : Rect)] : List Rect))), (900, AO (α := Rect) ([] : List Rect))] (FE.refl _) (⟨rfl, OLe.refl _, ⟨rfl, OLe.refl _, ⟨rfl, OLe.is (Is.app (Is.refl n) (Is.refl ([(⟨(((gl a.rects_ e.toNat).left_) + l), (((gl a.rects_ e.toNat).low_) + m), (((gl a.rects_ e.toNat).right_) + l), (((gl a.rects_ e.toNat).high_) + m)⟩ : Rect)] : List Rect))), ⟨rfl, OLe.refl _, ⟨⟩⟩⟩⟩⟩) ?_
        obtain ⟨b0, h⟩ := gd_some h
        refine AW.G Fm [.s, .s] (fun K => (I64 (e + (1 : Int)) ∧ True) ∧ True) [(1, vi l), (2, vi m), (6, pt 6), (8, pt 8), (32, AL a.rects_), (33, vi ((List.length a.rects_ : Nat) : Int)), (34, vi (e + (1 : Int)))] [(6, bx [.own 900]), (8, bx [.own 78]), (78, AO (α := Rect) (n ++ ([(⟨(((gl a.rects_ e.toNat).left_) + l), (((gl a.rects_ e.toNat).low_) + m), (((gl a.rects_ e.toNat).right_) + l), (((gl a.rects_ e.toNat).high_) + m)⟩ : Rect)] : List Rect))), (900, AO (α := Rect) ([] : List Rect))] ⟨⟨b0, ⟨⟩⟩, ⟨⟩⟩ ?_
        exact Kn.RE Fm [(930, 78)] (T ((e + (1 : Int)), (n ++ ([(⟨(((gl a.rects_ e.toNat).left_) + l), (((gl a.rects_ e.toNat).low_) + m), (((gl a.rects_ e.toNat).right_) + l), (((gl a.rects_ e.toNat).high_) + m)⟩ : Rect)] : List Rect))) h)
      ·rcases Bool.eq_false_or_eq_true (decide ((((gl a.rects_ e.toNat).left_) + l) < (0 : Int))) with p | p
       ·have h := br_t h p
        refine AW.G Fm [.s, .s, .s, .w (vb true), .s, .s, .s, .s, .s, .s, .s, .s, .s, .s, .s, .s, .s, .s] (fun K => (ALe (vb (decide ((((gl a.rects_ e.toNat).left_) + l) < (0 : Int)))) (vb true)) ∧ True) [(1, vi l), (2, vi m), (6, pt 6), (8, pt 8), (11, pt 11), (32, AL a.rects_), (33, vi ((List.length a.rects_ : Nat) : Int)), (34, vi e), (72, vb true)] [(6, bx [.own 900]), (8, bx [.own 930]), (11, bx [ci (((gl a.rects_ e.toNat).left_) + l), ci (((gl a.rects_ e.toNat).low_) + m), ci (((gl a.rects_ e.toNat).right_) + l), ci (((gl a.rects_ e.toNat).high_) + m)]), (900, AO (α := Rect) ([] : List Rect)), (930, AO n)] ⟨ALe.bool p, ⟨⟩⟩ ?_
        exact Kn.R Fm (E true h)
       ·have h := br_f h p
        rcases Bool.eq_false_or_eq_true (decide ((((gl a.rects_ e.toNat).low_) + m) < (0 : Int))) with u | u
        ·have h := br_t h u
         refine AW.G Fm [.s, .s, .s, .w (vb false), .s, .s, .s, .s, .w (vb true), .s, .s, .s, .s, .s, .s, .s, .s, .s] (fun K => (ALe (vb (decide ((((gl a.rects_ e.toNat).left_) + l) < (0 : Int)))) (vb false)) ∧ (ALe (vb (decide ((((gl a.rects_ e.toNat).low_) + m) < (0 : Int)))) (vb true)) ∧ True) [(1, vi l), (2, vi m), (6, pt 6), (8, pt 8), (11, pt 11), (32, AL a.rects_), (33, vi ((List.length a.rects_ : Nat) : Int)), (34, vi e), (59, .v (.c (.ptr 11 1))), (60, vi (((gl a.rects_ e.toNat).low_) + m)), (61, vb (decide ((((gl a.rects_ e.toNat).low_) + m) < (0 : Int)))), (72, vb true)] [(6, bx [.own 900]), (8, bx [.own 930]), (11, bx [ci (((gl a.rects_ e.toNat).left_) + l), ci (((gl a.rects_ e.toNat).low_) + m), ci (((gl a.rects_ e.toNat).right_) + l), ci (((gl a.rects_ e.toNat).high_) + m)]), (900, AO (α := Rect) ([] : List Rect)), (930, AO n)] ⟨ALe.bool p, ALe.bool u, ⟨⟩⟩ ?_
         exact Kn.R Fm (E true h)
        ·have h := br_f h u
         rcases Bool.eq_false_or_eq_true (decide ((16384 : Int) < (((gl a.rects_ e.toNat).right_) + l))) with A | A
         ·have h := br_t h A
          refine AW.G Fm [.s, .s, .s, .w (vb false), .s, .s, .s, .s, .w (vb false), .s, .s, .s, .s, .w (vb true), .s, .s, .s, .s] (fun K => (ALe (vb (decide ((((gl a.rects_ e.toNat).left_) + l) < (0 : Int)))) (vb false)) ∧ (ALe (vb (decide ((((gl a.rects_ e.toNat).low_) + m) < (0 : Int)))) (vb false)) ∧ (ALe (vb (decide ((16384 : Int) < (((gl a.rects_ e.toNat).right_) + l)))) (vb true)) ∧ True) [(1, vi l), (2, vi m), (6, pt 6), (8, pt 8), (11, pt 11), (32, AL a.rects_), (33, vi ((List.length a.rects_ : Nat) : Int)), (34, vi e), (59, .v (.c (.ptr 11 1))), (60, vi (((gl a.rects_ e.toNat).low_) + m)), (61, vb (decide ((((gl a.rects_ e.toNat).low_) + m) < (0 : Int)))), (64, .v (.c (.ptr 11 2))), (65, vi (((gl a.rects_ e.toNat).right_) + l)), (66, vb (decide ((16384 : Int) < (((gl a.rects_ e.toNat).right_) + l)))), (72, vb true)] [(6, bx [.own 900]), (8, bx [.own 930]), (11, bx [ci (((gl a.rects_ e.toNat).left_) + l), ci (((gl a.rects_ e.toNat).low_) + m), ci (((gl a.rects_ e.toNat).right_) + l), ci (((gl a.rects_ e.toNat).high_) + m)]), (900, AO (α := Rect) ([] : List Rect)), (930, AO n)] ⟨ALe.bool p, ALe.bool u, ALe.bool A, ⟨⟩⟩ ?_
          exact Kn.R Fm (E true h)
         ·have h := br_f h A
          refine AW.G Fm [.s, .s, .s, .w (vb false), .s, .s, .s, .s, .w (vb false), .s, .s, .s, .s, .w (vb false), .s, .s, .s, .s] (fun K => (ALe (vb (decide ((((gl a.rects_ e.toNat).left_) + l) < (0 : Int)))) (vb false)) ∧ (ALe (vb (decide ((((gl a.rects_ e.toNat).low_) + m) < (0 : Int)))) (vb false)) ∧ (ALe (vb (decide ((16384 : Int) < (((gl a.rects_ e.toNat).right_) + l)))) (vb false)) ∧ True) [(1, vi l), (2, vi m), (6, pt 6), (8, pt 8), (11, pt 11), (32, AL a.rects_), (33, vi ((List.length a.rects_ : Nat) : Int)), (34, vi e), (59, .v (.c (.ptr 11 1))), (60, vi (((gl a.rects_ e.toNat).low_) + m)), (61, vb (decide ((((gl a.rects_ e.toNat).low_) + m) < (0 : Int)))), (64, .v (.c (.ptr 11 2))), (65, vi (((gl a.rects_ e.toNat).right_) + l)), (66, vb (decide ((16384 : Int) < (((gl a.rects_ e.toNat).right_) + l)))), (69, .v (.c (.ptr 11 3))), (70, vi (((gl a.rects_ e.toNat).high_) + m)), (71, vb (decide ((16384 : Int) < (((gl a.rects_ e.toNat).high_) + m)))), (72, vb (decide ((16384 : Int) < (((gl a.rects_ e.toNat).high_) + m))))] [(6, bx [.own 900]), (8, bx [.own 930]), (11, bx [ci (((gl a.rects_ e.toNat).left_) + l), ci (((gl a.rects_ e.toNat).low_) + m), ci (((gl a.rects_ e.toNat).right_) + l), ci (((gl a.rects_ e.toNat).high_) + m)]), (900, AO (α := Rect) ([] : List Rect)), (930, AO n)] ⟨ALe.bool p, ALe.bool u, ALe.bool A, ⟨⟩⟩ ?_
          exact Kn.R Fm (E (decide ((16384 : Int) < (((gl a.rects_ e.toNat).high_) + m))) h)
     ·have h := br_f h L
      refine AW.exit ?_
      exact Kn.R Fm (U n h)
  ·rcases Bool.eq_false_or_eq_true (decide (l < (-16384 : Int))) with o | o
   ·have h := br_t h o
    refine AW.G Fm [.s, .s, .w (vb true), .s, .s, .s, .s, .s, .s, .s, .s, .s, .s, .s] (fun K => (ALe (vb (decide (l < (-16384 : Int)))) (vb true)) ∧ True) [(1, vi l), (2, vi m), (3, pt 3), (6, pt 6), (29, vb true)] [(3, bx [.d (DL a.rects_)]), (6, bx [.fl 0 fun _ => []])] ⟨ALe.bool o, ⟨⟩⟩ ?_
    exact Kn.R Fm (B true h)
   ·have h := br_f h o
    rcases Bool.eq_false_or_eq_true (decide ((16384 : Int) < l)) with q | q
    ·have h := br_t h q
     refine AW.G Fm [.s, .s, .w (vb false), .s, .s, .s, .w (vb true), .s, .s, .s, .s, .s, .s, .s] (fun K => (ALe (vb (decide (l < (-16384 : Int)))) (vb false)) ∧ (ALe (vb (decide ((16384 : Int) < l))) (vb true)) ∧ True) [(1, vi l), (2, vi m), (3, pt 3), (6, pt 6), (29, vb true)] [(3, bx [.d (DL a.rects_)]), (6, bx [.fl 0 fun _ => []])] ⟨ALe.bool o, ALe.bool q, ⟨⟩⟩ ?_
     exact Kn.R Fm (B true h)
    ·have h := br_f h q
     rcases Bool.eq_false_or_eq_true (decide (m < (-16384 : Int))) with y | y
     ·have h := br_t h y
      refine AW.G Fm [.s, .s, .w (vb false), .s, .s, .s, .w (vb false), .s, .s, .s, .w (vb true), .s, .s, .s] (fun K => (ALe (vb (decide (l < (-16384 : Int)))) (vb false)) ∧ (ALe (vb (decide ((16384 : Int) < l))) (vb false)) ∧ (ALe (vb (decide (m < (-16384 : Int)))) (vb true)) ∧ True) [(1, vi l), (2, vi m), (3, pt 3), (6, pt 6), (29, vb true)] [(3, bx [.d (DL a.rects_)]), (6, bx [.fl 0 fun _ => []])] ⟨ALe.bool o, ALe.bool q, ALe.bool y, ⟨⟩⟩ ?_
      exact Kn.R Fm (B true h)
     ·have h := br_f h y
      refine AW.G Fm [.s, .s, .w (vb false), .s, .s, .s, .w (vb false), .s, .s, .s, .w (vb false), .s, .s, .s] (fun K => (ALe (vb (decide (l < (-16384 : Int)))) (vb false)) ∧ (ALe (vb (decide ((16384 : Int) < l))) (vb false)) ∧ (ALe (vb (decide (m < (-16384 : Int)))) (vb false)) ∧ True) [(1, vi l), (2, vi m), (3, pt 3), (6, pt 6), (29, vb (decide ((16384 : Int) < m)))] [(3, bx [.d (DL a.rects_)]), (6, bx [.fl 0 fun _ => []])] ⟨ALe.bool o, ALe.bool q, ALe.bool y, ⟨⟩⟩ ?_
      exact Kn.R Fm (B (decide ((16384 : Int) < m)) h)
theorem keep_Tape_One_spec {F : Nat} {b : Tape} {a : Int} {r : Tape × Bool} (h : keep_Tape_One F b a = some r) :
  FSpec Tryz.prog 104 [pt 0, vi a] [(0, bx (gC b))] (vb r.2) [(0, bx (gC r.1))] := by
 refine FSpec.intro prog_mixed prog_lay Tryz.func104 rfl (by kernel_rfl) fun C Fm => ?_
 unfold keep_Tape_One at h
 refine AW.SG0 Fm 1 [(0, pt 0), (1, vi a)] [(0, bx (gC b))] ?_
 refine AW.seq ?_
 obtain ⟨c, e, h⟩ := bd_some h
 obtain ⟨d, h⟩ := gd_some h
 refine AW.G Fm [.s, .s, .k (cE [(0, 0)] [] (vi c.2) [(0, bx (gC b))] [(0, bx (gC c.1))]), .s, .s, .s, .s] (fun K => K 2 ∧ (I64 (a - (1 : Int)) ∧ True) ∧ True) [(4, vb (c.2 == (a - (1 : Int))))] [(0, bx (gC c.1))] ⟨KAt.CC (keep_Tape_Next_spec e) Tryz.call30 [(0, 0)], ⟨d, ⟨⟩⟩, ⟨⟩⟩ ?_
 refine AW.ret ?_
 obtain rfl := Option.some.inj h
 exact Kn.D Fm
theorem keep_Tape_Broken_spec {F : Nat} {t : Tape} {U : Int} {V : Int} {r : Tape × Region} (h : keep_Tape_Broken F t U V = some r) :
  FSpec Tryz.prog 45 [pt 0, vi U, vi V] [(0, bx (gC t))] (.v (.g [.d (DL (α := Rect) r.2.rects_)])) [(0, bx (gC r.1))] := by
 refine FSpec.intro prog_mixed prog_lay Tryz.func45 rfl (by kernel_rfl) fun C Fm => ?_
 unfold keep_Tape_Broken at h
 refine AW.SG0 Fm 1 [(0, pt 0), (1, vi U), (2, vi V), (6, pt 6)] [(0, bx (gC t)), (6, bx [.fl 0 fun _ => []])] ?_
 refine AW.seq ?_
 obtain ⟨a, i0, h⟩ := bd_some h
 refine AW.G Fm [.s, .s, .s, .k (cE [(0, 0)] [] (.v (.g [.d (DL a.2.rects_)])) [(0, bx (gC t))] [(0, bx (gC a.1))]), .s, .s] (fun K => K 3 ∧ True) [(0, pt 0), (6, pt 6), (7, pt 7)] [(0, bx (gC a.1)), (6, bx [.fl 0 fun _ => []]), (7, bx [.d (DL a.2.rects_)])] ⟨KAt.CC (keep_Tape_Region_spec i0) Tryz.call13 [(0, 0)], ⟨⟩⟩ ?_
 refine AW.seq ?_
 refine AW.join (r := r) (fun z : Bool × (List Int) × Int => keep_Tape_Broken_k0 F a z.1 z.2.1 z.2.2) (fun z => [(0, pt 0), (6, pt 6), (7, pt 7), (22, vb z.1)]) (fun z => [(0, bx [.d (DL z.2.1), ci z.2.2]), (6, bx [.fl 0 fun _ => []]), (7, bx [.d (DL a.2.rects_)])]) (fun z h => ?_) (fun n0 W => ?_)
 ·obtain ⟨m0, p, q⟩ := z
  refine AW.cond (b := m0) (by kernel_rfl) (fun u => ?_) (fun u => ?_)
  ·have h := br_t h u
   refine AW.SG0 Fm 2 [(6, pt 6)] [(0, bx [.d (DL p), ci q]), (6, bx [.d (DL a.2.rects_)])] ?_
   refine AW.ret ?_
   obtain rfl := Option.some.inj h
   exact Kn.D Fm
  ·have h := br_f h u
   refine AW.skip ?_
   obtain ⟨c0, h⟩ := gd_some h
   refine AW.SG Fm [.m, .s, .s, .s, .s] (fun K => ((0) + (List.length (α := Rect) a.2.rects_) ≤ LIM ∧ (∀ j, j < List.length (α := Rect) a.2.rects_ → ((LF (α := Rect) a.2.rects_) j).length = 4) ∧ (True)) ∧ True) [(0, pt 0), (6, pt 6), (8, ow 27)] [(0, bx [.d (DL p), ci q]), (6, bx [.fl 0 fun _ => []]), (27, .arr 4 ((0) + (List.length (α := Rect) a.2.rects_)) (appF (0) (litF 4 []) (LF (α := Rect) a.2.rects_)))] ⟨⟨c0, (Is.refl a.2.rects_ : Is (List.length (α := Rect) a.2.rects_) (LF (α := Rect) a.2.rects_) a.2.rects_).len, ⟨⟩⟩, ⟨⟩⟩ ?_
   refine Kn.wk [(0, pt 0), (6, pt 6), (8, ow 27)] [(0, bx [.d (DL p), ci q]), (6, bx [.fl 0 fun _ => []]), (27, AO (α := Rect) (([] : List Rect) ++ a.2.rects_))] (FE.refl _) (⟨rfl, OLe.refl _, ⟨rfl, OLe.refl _, ⟨rfl, OLe.is (Is.app (Is.lit ([] : List Rect) (by kernel_rfl)) (Is.refl a.2.rects_)), ⟨⟩⟩⟩⟩) ?_
   refine AW.seq ?_
   obtain ⟨e, k0, h⟩ := bd_some h
   refine AW.G Fm [.s, .s, .s, .k (cE [(0, 0)] [] (vi e.2) [(0, bx [.d (DL (α := Int) (⟨p, q⟩ : Tape).l_), ci ((⟨p, q⟩ : Tape).at_)])] [(0, bx (gC e.1))]), .s] (fun K => K 3 ∧ True) [(0, pt 0), (6, pt 6), (8, ow 27), (9, vi e.2)] [(0, bx (gC e.1)), (6, bx [.fl 0 fun _ => []]), (27, AO (α := Rect) (([] : List Rect) ++ a.2.rects_))] ⟨KAt.CC (keep_Tape_Next_spec k0) Tryz.call30 [(0, 0)], ⟨⟩⟩ ?_
   refine AW.join (r := r) (fun z : (List Rect) × (List Int) × Int => keep_Tape_Broken_k1 F z.1 z.2.1 z.2.2) (fun z => [(6, pt 6), (8, ow 27)]) (fun z => [(0, bx [.d (DL z.2.1), ci z.2.2]), (6, bx [.fl 0 fun _ => []]), (27, AO z.1)]) (fun z h => ?_) (fun o0 n => ?_)
   ·obtain ⟨O, P, T⟩ := z
    refine AW.SG0 Fm 3 [(6, pt 6)] [(0, bx [.d (DL P), ci T]), (6, bx [.own 27]), (27, AO O)] ?_
    refine AW.ret ?_
    obtain rfl := Option.some.inj h
    refine Kn.r Fm [(6, pt 6)] [(27, AO O), (0, bx [.d (DL P), ci T]), (6, bx [.own 27])] (by kernel_rfl) ?_
    refine Kn.frz [(6, pt 6)] [(0, bx [.d (DL P), ci T]), (6, bx [.d (DL O)])] (by kernel_rfl) (by kernel_rfl) (by kernel_rfl) ?_
    exact Kn.D Fm
   ·refine AW.seq ?_
    obtain ⟨i, l0, h⟩ := bd_some h
    refine AW.G Fm [.s, .k (cE [(0, 0)] [] (vi i.2) [(0, bx (gC e.1))] [(0, bx (gC i.1))])] (fun K => K 1 ∧ True) [(6, pt 6), (8, ow 27), (9, vi e.2), (33, vi i.2)] [(0, bx (gC i.1)), (6, bx [.fl 0 fun _ => []]), (27, AO (α := Rect) (([] : List Rect) ++ a.2.rects_))] ⟨KAt.CC (keep_Tape_Next_spec l0) Tryz.call30 [(0, 0)], ⟨⟩⟩ ?_
    refine AW.block ?_
    refine AW.SG0 Fm 2 [(6, pt 6), (8, ow 27), (9, vi e.2), (33, vi i.2), (43, vb (i.2 == (0 : Int)))] [(0, bx (gC i.1)), (6, bx [.fl 0 fun _ => []]), (27, AO (α := Rect) (([] : List Rect) ++ a.2.rects_))] ?_
    refine AW.cond (b := (i.2 == (0 : Int))) (by kernel_rfl) (fun y => ?_) (fun y => ?_)
    ·have h := br_t h y
     obtain ⟨X, h⟩ := gd_some h
     obtain ⟨d0, h⟩ := gd_some h
     obtain ⟨H, h⟩ := gd_some h
     refine AW.G Fm [.s, .s, .s, .s, .s, .s, .s, .s, .s] (fun K => _ ∧ (e.2.toNat < List.length (([] : List Rect) ++ a.2.rects_)) ∧ (I64 (((gl (([] : List Rect) ++ a.2.rects_) e.2.toNat).right_) + (1 : Int)) ∧ True) ∧ _ ∧ (e.2.toNat < List.length (([] : List Rect) ++ a.2.rects_)) ∧ True) [(6, pt 6), (8, ow 27)] [(0, bx (gC i.1)), (6, bx [.fl 0 fun _ => []]), (27, .arr 4 (List.length (α := Rect) (([] : List Rect) ++ a.2.rects_)) (fun j => if j = e.2.toNat then splice ((LF (α := Rect) (([] : List Rect) ++ a.2.rects_)) e.2.toNat) 2 [.int .i64 (((gl (([] : List Rect) ++ a.2.rects_) e.2.toNat).right_) + (1 : Int))] else (LF (α := Rect) (([] : List Rect) ++ a.2.rects_)) j))] ⟨X, (toNat_lt X), ⟨d0, ⟨⟩⟩, H, (toNat_lt H), ⟨⟩⟩ ?_
     refine Kn.wk [(6, pt 6), (8, ow 27)] [(0, bx (gC i.1)), (6, bx [.fl 0 fun _ => []]), (27, AO (α := Rect) (List.set (([] : List Rect) ++ a.2.rects_) e.2.toNat (⟨(gl (([] : List Rect) ++ a.2.rects_) e.2.toNat).left_, (gl (([] : List Rect) ++ a.2.rects_) e.2.toNat).low_, (((gl (([] : List Rect) ++ a.2.rects_) e.2.toNat).right_) + (1 : Int)), (gl (([] : List Rect) ++ a.2.rects_) e.2.toNat).high_⟩ : Rect)))] (FE.refl _) (⟨rfl, OLe.refl _, ⟨rfl, OLe.refl _, ⟨rfl, OLe.is (Is.set (Is.refl (([] : List Rect) ++ a.2.rects_)) (toNat_lt H) (⟨(gl (([] : List Rect) ++ a.2.rects_) e.2.toNat).left_, (gl (([] : List Rect) ++ a.2.rects_) e.2.toNat).low_, (((gl (([] : List Rect) ++ a.2.rects_) e.2.toNat).right_) + (1 : Int)), (gl (([] : List Rect) ++ a.2.rects_) e.2.toNat).high_⟩ : Rect) (by kernel_rfl)), ⟨⟩⟩⟩⟩) ?_
     exact Kn.R Fm (n ((List.set (([] : List Rect) ++ a.2.rects_) e.2.toNat (⟨(gl (([] : List Rect) ++ a.2.rects_) e.2.toNat).left_, (gl (([] : List Rect) ++ a.2.rects_) e.2.toNat).low_, (((gl (([] : List Rect) ++ a.2.rects_) e.2.toNat).right_) + (1 : Int)), (gl (([] : List Rect) ++ a.2.rects_) e.2.toNat).high_⟩ : Rect)), i.1.l_, i.1.at_) h)
    ·have h := br_f h y
     refine AW.SG0 Fm 2 [(6, pt 6), (8, ow 27), (9, vi e.2), (33, vi i.2), (53, vb (i.2 == (1 : Int)))] [(0, bx (gC i.1)), (6, bx [.fl 0 fun _ => []]), (27, AO (α := Rect) (([] : List Rect) ++ a.2.rects_))] ?_
     refine AW.cond (b := (i.2 == (1 : Int))) (by kernel_rfl) (fun A => ?_) (fun A => ?_)
     ·have h := br_t h A
      obtain ⟨I, h⟩ := gd_some h
      refine AW.G Fm [.s, .s, .s, .s, .s] (fun K => _ ∧ (e.2.toNat < List.length (([] : List Rect) ++ a.2.rects_)) ∧ True) [(6, pt 6), (8, ow 27)] [(0, bx (gC i.1)), (6, bx [.fl 0 fun _ => []]), (27, .arr 4 (List.length (α := Rect) (([] : List Rect) ++ a.2.rects_)) (fun j => if j = e.2.toNat then splice ((LF (α := Rect) (([] : List Rect) ++ a.2.rects_)) e.2.toNat) 0 [.int .i64 (-1 : Int)] else (LF (α := Rect) (([] : List Rect) ++ a.2.rects_)) j))] ⟨I, (toNat_lt I), ⟨⟩⟩ ?_
      refine Kn.wk [(6, pt 6), (8, ow 27)] [(0, bx (gC i.1)), (6, bx [.fl 0 fun _ => []]), (27, AO (α := Rect) (List.set (([] : List Rect) ++ a.2.rects_) e.2.toNat (⟨(-1 : Int), (gl (([] : List Rect) ++ a.2.rects_) e.2.toNat).low_, (gl (([] : List Rect) ++ a.2.rects_) e.2.toNat).right_, (gl (([] : List Rect) ++ a.2.rects_) e.2.toNat).high_⟩ : Rect)))] (FE.refl _) (⟨rfl, OLe.refl _, ⟨rfl, OLe.refl _, ⟨rfl, OLe.is (Is.set (Is.refl (([] : List Rect) ++ a.2.rects_)) (toNat_lt I) (⟨(-1 : Int), (gl (([] : List Rect) ++ a.2.rects_) e.2.toNat).low_, (gl (([] : List Rect) ++ a.2.rects_) e.2.toNat).right_, (gl (([] : List Rect) ++ a.2.rects_) e.2.toNat).high_⟩ : Rect) (by kernel_rfl)), ⟨⟩⟩⟩⟩) ?_
      exact Kn.R Fm (n ((List.set (([] : List Rect) ++ a.2.rects_) e.2.toNat (⟨(-1 : Int), (gl (([] : List Rect) ++ a.2.rects_) e.2.toNat).low_, (gl (([] : List Rect) ++ a.2.rects_) e.2.toNat).right_, (gl (([] : List Rect) ++ a.2.rects_) e.2.toNat).high_⟩ : Rect)), i.1.l_, i.1.at_) h)
     ·have h := br_f h A
      refine AW.SG0 Fm 2 [(6, pt 6), (8, ow 27), (9, vi e.2), (33, vi i.2), (59, vb (i.2 == (2 : Int)))] [(0, bx (gC i.1)), (6, bx [.fl 0 fun _ => []]), (27, AO (α := Rect) (([] : List Rect) ++ a.2.rects_))] ?_
      refine AW.cond (b := (i.2 == (2 : Int))) (by kernel_rfl) (fun B => ?_) (fun B => ?_)
      ·have h := br_t h B
       obtain ⟨Y, h⟩ := gd_some h
       obtain ⟨e0, h⟩ := gd_some h
       refine AW.G Fm [.s, .s, .s, .s, .s, .w (AL (α := Rect) ([(gl (([] : List Rect) ++ a.2.rects_) e.2.toNat)] : List Rect)), .s, .s] (fun K => _ ∧ (e.2.toNat < List.length (([] : List Rect) ++ a.2.rects_)) ∧ (ALe (.v (.c (.d (.lst 1 (litF 4 [.int .i64 (gl (([] : List Rect) ++ a.2.rects_) e.2.toNat).left_, .int .i64 (gl (([] : List Rect) ++ a.2.rects_) e.2.toNat).low_, .int .i64 (gl (([] : List Rect) ++ a.2.rects_) e.2.toNat).right_, .int .i64 (gl (([] : List Rect) ++ a.2.rects_) e.2.toNat).high_]))))) (AL (α := Rect) ([(gl (([] : List Rect) ++ a.2.rects_) e.2.toNat)] : List Rect))) ∧ ((List.length (α := Rect) (([] : List Rect) ++ a.2.rects_)) + (List.length (α := Rect) ([(gl (([] : List Rect) ++ a.2.rects_) e.2.toNat)] : List Rect)) ≤ LIM ∧ (∀ j, j < List.length (α := Rect) ([(gl (([] : List Rect) ++ a.2.rects_) e.2.toNat)] : List Rect) → ((LF (α := Rect) ([(gl (([] : List Rect) ++ a.2.rects_) e.2.toNat)] : List Rect)) j).length = 4) ∧ (True)) ∧ True) [(6, pt 6), (8, ow 67)] [(0, bx (gC i.1)), (6, bx [.fl 0 fun _ => []]), (67, .arr 4 ((List.length (α := Rect) (([] : List Rect) ++ a.2.rects_)) + (List.length (α := Rect) ([(gl (([] : List Rect) ++ a.2.rects_) e.2.toNat)] : List Rect))) (appF (List.length (α := Rect) (([] : List Rect) ++ a.2.rects_)) (LF (α := Rect) (([] : List Rect) ++ a.2.rects_)) (LF (α := Rect) ([(gl (([] : List Rect) ++ a.2.rects_) e.2.toNat)] : List Rect))))] ⟨Y, (toNat_lt Y), ALe.lst (.lit ([(gl (([] : List Rect) ++ a.2.rects_) e.2.toNat)] : List Rect) (by kernel_rfl)), ⟨e0, (Is.refl ([(gl (([] : List Rect) ++ a.2.rects_) e.2.toNat)] : List Rect) : Is (List.length (α := Rect) ([(gl (([] : List Rect) ++ a.2.rects_) e.2.toNat)] : List Rect)) (LF (α := Rect) ([(gl (([] : List Rect) ++ a.2.rects_) e.2.toNat)] : List Rect)) ([(gl (([] : List Rect) ++ a.2.rects_) e.2.toNat)] : List Rect)).len, ⟨⟩⟩, ⟨⟩⟩ ?_
       refine Kn.wk [(6, pt 6), (8, ow 67)] [(0, bx (gC i.1)), (6, bx [.fl 0 fun _ => []]), (67, AO (α := Rect) ((([] : List Rect) ++ a.2.rects_) ++ ([(gl (([] : List Rect) ++ a.2.rects_) e.2.toNat)] : List Rect)))] (FE.refl _) (⟨rfl, OLe.refl _, ⟨rfl, OLe.refl _, ⟨rfl, OLe.is (Is.app (Is.refl (([] : List Rect) ++ a.2.rects_)) (Is.refl ([(gl (([] : List Rect) ++ a.2.rects_) e.2.toNat)] : List Rect))), ⟨⟩⟩⟩⟩) ?_
       exact Kn.RE Fm [(27, 67)] (n (((([] : List Rect) ++ a.2.rects_) ++ ([(gl (([] : List Rect) ++ a.2.rects_) e.2.toNat)] : List Rect)), i.1.l_, i.1.at_) h)
      ·have h := br_f h B
       refine AW.SG0 Fm 2 [(6, pt 6), (8, ow 27), (9, vi e.2), (68, vb (i.2 == (3 : Int)))] [(0, bx (gC i.1)), (6, bx [.fl 0 fun _ => []]), (27, AO (α := Rect) (([] : List Rect) ++ a.2.rects_))] ?_
       refine AW.cond (b := (i.2 == (3 : Int))) (by kernel_rfl) (fun E => ?_) (fun E => ?_)
       ·have h := br_t h E
        obtain ⟨Z, h⟩ := gd_some h
        obtain ⟨a0, h⟩ := gd_some h
        obtain ⟨L, h⟩ := gd_some h
        obtain ⟨M, h⟩ := gd_some h
        refine AW.G Fm [.s, .s, .s, .s, .s, .s, .s, .s, .s, .s, .s, .k (rE { v := .any, upd := some (27, AO (α := Rect) (List.set (([] : List Rect) ++ a.2.rects_) (0 : Int).toNat (gl (([] : List Rect) ++ a.2.rects_) e.2.toNat))) }), .s, .s] (fun K => _ ∧ (e.2.toNat < List.length (([] : List Rect) ++ a.2.rects_)) ∧ _ ∧ ((0 : Int).toNat < List.length (([] : List Rect) ++ a.2.rects_)) ∧ _ ∧ K 11 ∧ _ ∧ (e.2.toNat < List.length (List.set (([] : List Rect) ++ a.2.rects_) (0 : Int).toNat (gl (([] : List Rect) ++ a.2.rects_) e.2.toNat))) ∧ True) [(6, pt 6), (8, ow 27)] [(0, bx (gC i.1)), (6, bx [.fl 0 fun _ => []]), (27, .arr 4 (List.length (α := Rect) (List.set (([] : List Rect) ++ a.2.rects_) (0 : Int).toNat (gl (([] : List Rect) ++ a.2.rects_) e.2.toNat))) (fun j => if j = e.2.toNat then splice ((LF (α := Rect) (List.set (([] : List Rect) ++ a.2.rects_) (0 : Int).toNat (gl (([] : List Rect) ++ a.2.rects_) e.2.toNat))) e.2.toNat) 0 [.int .i64 (gl (([] : List Rect) ++ a.2.rects_) (0 : Int).toNat).left_, .int .i64 (gl (([] : List Rect) ++ a.2.rects_) (0 : Int).toNat).low_, .int .i64 (gl (([] : List Rect) ++ a.2.rects_) (0 : Int).toNat).right_, .int .i64 (gl (([] : List Rect) ++ a.2.rects_) (0 : Int).toNat).high_] else (LF (α := Rect) (List.set (([] : List Rect) ++ a.2.rects_) (0 : Int).toNat (gl (([] : List Rect) ++ a.2.rects_) e.2.toNat))) j))] ⟨Z, (toNat_lt Z), a0, (toNat_lt a0), L, KAt.upd prog_lay (ob := .arr 4 (List.length (α := Rect) (([] : List Rect) ++ a.2.rects_)) (fun j => if j = (0 : Int).toNat then splice ((LF (α := Rect) (([] : List Rect) ++ a.2.rects_)) (0 : Int).toNat) 0 [.int .i64 (gl (([] : List Rect) ++ a.2.rects_) e.2.toNat).left_, .int .i64 (gl (([] : List Rect) ++ a.2.rects_) e.2.toNat).low_, .int .i64 (gl (([] : List Rect) ++ a.2.rects_) e.2.toNat).right_, .int .i64 (gl (([] : List Rect) ++ a.2.rects_) e.2.toNat).high_] else (LF (α := Rect) (([] : List Rect) ++ a.2.rects_)) j)) (c := (0 : Int).toNat < List.length (([] : List Rect) ++ a.2.rects_)) rfl (by kernel_rfl) (by kernel_rfl) (toNat_lt L) (OLe.is (Is.set (Is.refl (([] : List Rect) ++ a.2.rects_)) (toNat_lt L) (gl (([] : List Rect) ++ a.2.rects_) e.2.toNat) (by kernel_rfl))), M, (toNat_lt M), ⟨⟩⟩ ?_
        refine Kn.wk [(6, pt 6), (8, ow 27)] [(0, bx (gC i.1)), (6, bx [.fl 0 fun _ => []]), (27, AO (α := Rect) (List.set (List.set (([] : List Rect) ++ a.2.rects_) (0 : Int).toNat (gl (([] : List Rect) ++ a.2.rects_) e.2.toNat)) e.2.toNat (gl (([] : List Rect) ++ a.2.rects_) (0 : Int).toNat)))] (FE.refl _) (⟨rfl, OLe.refl _, ⟨rfl, OLe.refl _, ⟨rfl, OLe.is (Is.set (Is.refl (List.set (([] : List Rect) ++ a.2.rects_) (0 : Int).toNat (gl (([] : List Rect) ++ a.2.rects_) e.2.toNat))) (toNat_lt M) (gl (([] : List Rect) ++ a.2.rects_) (0 : Int).toNat) (by kernel_rfl)), ⟨⟩⟩⟩⟩) ?_
        exact Kn.R Fm (n ((List.set (List.set (([] : List Rect) ++ a.2.rects_) (0 : Int).toNat (gl (([] : List Rect) ++ a.2.rects_) e.2.toNat)) e.2.toNat (gl (([] : List Rect) ++ a.2.rects_) (0 : Int).toNat)), i.1.l_, i.1.at_) h)
       ·have h := br_f h E
        obtain ⟨b0, h⟩ := gd_some h
        obtain ⟨N, h⟩ := gd_some h
        refine AW.G Fm [.s, .s, .s, .s, .s, .s, .s, .s, .s, .s] (fun K => _ ∧ (e.2.toNat < List.length (([] : List Rect) ++ a.2.rects_)) ∧ _ ∧ (e.2.toNat < List.length (([] : List Rect) ++ a.2.rects_)) ∧ True) [(6, pt 6), (8, ow 27)] [(0, bx (gC i.1)), (6, bx [.fl 0 fun _ => []]), (27, .arr 4 (List.length (α := Rect) (([] : List Rect) ++ a.2.rects_)) (fun j => if j = e.2.toNat then splice ((LF (α := Rect) (([] : List Rect) ++ a.2.rects_)) e.2.toNat) 3 [.int .i64 (gl (([] : List Rect) ++ a.2.rects_) e.2.toNat).low_] else (LF (α := Rect) (([] : List Rect) ++ a.2.rects_)) j))] ⟨b0, (toNat_lt b0), N, (toNat_lt N), ⟨⟩⟩ ?_
        refine Kn.wk [(6, pt 6), (8, ow 27)] [(0, bx (gC i.1)), (6, bx [.fl 0 fun _ => []]), (27, AO (α := Rect) (List.set (([] : List Rect) ++ a.2.rects_) e.2.toNat (⟨(gl (([] : List Rect) ++ a.2.rects_) e.2.toNat).left_, (gl (([] : List Rect) ++ a.2.rects_) e.2.toNat).low_, (gl (([] : List Rect) ++ a.2.rects_) e.2.toNat).right_, (gl (([] : List Rect) ++ a.2.rects_) e.2.toNat).low_⟩ : Rect)))] (FE.refl _) (⟨rfl, OLe.refl _, ⟨rfl, OLe.refl _, ⟨rfl, OLe.is (Is.set (Is.refl (([] : List Rect) ++ a.2.rects_)) (toNat_lt N) (⟨(gl (([] : List Rect) ++ a.2.rects_) e.2.toNat).left_, (gl (([] : List Rect) ++ a.2.rects_) e.2.toNat).low_, (gl (([] : List Rect) ++ a.2.rects_) e.2.toNat).right_, (gl (([] : List Rect) ++ a.2.rects_) e.2.toNat).low_⟩ : Rect) (by kernel_rfl)), ⟨⟩⟩⟩⟩) ?_
        exact Kn.R Fm (n ((List.set (([] : List Rect) ++ a.2.rects_) e.2.toNat (⟨(gl (([] : List Rect) ++ a.2.rects_) e.2.toNat).left_, (gl (([] : List Rect) ++ a.2.rects_) e.2.toNat).low_, (gl (([] : List Rect) ++ a.2.rects_) e.2.toNat).right_, (gl (([] : List Rect) ++ a.2.rects_) e.2.toNat).low_⟩ : Rect)), i.1.l_, i.1.at_) h)
 ·rcases Bool.eq_false_or_eq_true (((List.length a.2.rects_ : Nat) : Int) == (0 : Int)) with o | o
  ·have h := br_t h o
   refine AW.G Fm [.s, .s, .s, .s, .w (vb true), .s, .s, .s, .s] (fun K => (ALe (vb (((List.length a.2.rects_ : Nat) : Int) == (0 : Int))) (vb true)) ∧ True) [(0, pt 0), (6, pt 6), (7, pt 7), (22, vb true)] [(0, bx (gC a.1)), (6, bx [.fl 0 fun _ => []]), (7, bx [.d (DL a.2.rects_)])] ⟨ALe.bool o, ⟨⟩⟩ ?_
   exact Kn.R Fm (W (true, a.1.l_, a.1.at_) h)
  ·have h := br_f h o
   obtain ⟨l, j0, h⟩ := bd_some h
   refine AW.G Fm [.s, .s, .s, .s, .w (vb false), .s, .k (cE [(0, 0)] [] (vb l.2) [(0, bx (gC a.1))] [(0, bx (gC l.1))]), .s, .s] (fun K => (ALe (vb (((List.length a.2.rects_ : Nat) : Int) == (0 : Int))) (vb false)) ∧ K 6 ∧ True) [(0, pt 0), (6, pt 6), (7, pt 7), (22, vb (!l.2))] [(0, bx (gC l.1)), (6, bx [.fl 0 fun _ => []]), (7, bx [.d (DL a.2.rects_)])] ⟨ALe.bool o, KAt.CC (keep_Tape_One_spec j0) Tryz.call104 [(0, 0)], ⟨⟩⟩ ?_
   exact Kn.R Fm (W ((!l.2), l.1.l_, l.1.at_) h)
theorem ref06_touch_spec {F : Nat} {a : Rect} {c : Rect} {r : Int} (h : ref06_touch F a c = some r) :
  FSpec Tryz.prog 105 [gE a, gE c] [] (vi r) [] := by
 refine FSpec.intro prog_mixed prog_lay Tryz.func105 rfl (by kernel_rfl) fun C Fm => ?_
 unfold ref06_touch at h
 refine AW.SG0 Fm 3 [(2, pt 2), (3, pt 3)] [(2, bx (gC a)), (3, bx (gC c))] ?_
 refine AW.seq ?_
 refine AW.join (r := r) (fun z : Bool => ref06_touch_k0 F a c z) (fun z => [(2, pt 2), (3, pt 3), (16, vb z)]) (fun z => [(2, bx (gC a)), (3, bx (gC c))]) (fun o h => ?_) (fun q k => ?_)
 ·refine AW.cond (b := o) (by kernel_rfl) (fun i => ?_) (fun i => ?_)
  ·have h := br_t h i
   obtain ⟨m, h⟩ := gd_some h
   refine AW.SG Fm [.s, .s, .s, .s, .s, .s, .s, .s, .s, .s, .s, .s, .s] (fun K => (I64 ((gmin a.high_ c.high_) - (gmax a.low_ c.low_)) ∧ True) ∧ True) [(4, vi (gmax (0 : Int) ((gmin a.high_ c.high_) - (gmax a.low_ c.low_))))] [] ⟨⟨m, ⟨⟩⟩, ⟨⟩⟩ ?_
   refine AW.ret ?_
   obtain rfl := Option.some.inj h
   exact Kn.D Fm
  ·have h := br_f h i
   refine AW.skip ?_
   refine AW.seq ?_
   refine AW.join (r := r) (fun z : Bool => ref06_touch_k1 F a c z) (fun z => [(2, pt 2), (3, pt 3), (40, vb z)]) (fun z => [(2, bx (gC a)), (3, bx (gC c))]) (fun p h => ?_) (fun t l => ?_)
   ·refine AW.cond (b := p) (by kernel_rfl) (fun j => ?_) (fun j => ?_)
    ·have h := br_t h j
     obtain ⟨n, h⟩ := gd_some h
     refine AW.SG Fm [.s, .s, .s, .s, .s, .s, .s, .s, .s, .s, .s, .s, .s] (fun K => (I64 ((gmin a.right_ c.right_) - (gmax a.left_ c.left_)) ∧ True) ∧ True) [(4, vi (gmax (0 : Int) ((gmin a.right_ c.right_) - (gmax a.left_ c.left_))))] [] ⟨⟨n, ⟨⟩⟩, ⟨⟩⟩ ?_
     refine AW.ret ?_
     obtain rfl := Option.some.inj h
     exact Kn.D Fm
    ·have h := br_f h j
     refine AW.skip ?_
     refine AW.SG0 Fm 1 [(4, vi (0 : Int))] [] ?_
     refine AW.ret ?_
     obtain rfl := Option.some.inj h
     exact Kn.D Fm
   ·rcases Bool.eq_false_or_eq_true (a.high_ == c.low_) with e | e
    ·have h := br_t h e
     refine AW.G Fm [.s, .s, .s, .s, .s, .w (vb true), .s, .s, .s, .s, .s, .s] (fun K => (ALe (vb (a.high_ == c.low_)) (vb true)) ∧ True) [(2, pt 2), (3, pt 3), (40, vb true)] [(2, bx (gC a)), (3, bx (gC c))] ⟨ALe.bool e, ⟨⟩⟩ ?_
     exact Kn.R Fm (l true h)
    ·have h := br_f h e
     refine AW.G Fm [.s, .s, .s, .s, .s, .w (vb false), .s, .s, .s, .s, .s, .s] (fun K => (ALe (vb (a.high_ == c.low_)) (vb false)) ∧ True) [(2, pt 2), (3, pt 3), (40, vb (c.high_ == a.low_))] [(2, bx (gC a)), (3, bx (gC c))] ⟨ALe.bool e, ⟨⟩⟩ ?_
     exact Kn.R Fm (l (c.high_ == a.low_) h)
 ·rcases Bool.eq_false_or_eq_true (a.right_ == c.left_) with d | d
  ·have h := br_t h d
   refine AW.G Fm [.s, .s, .s, .s, .s, .w (vb true), .s, .s, .s, .s, .s, .s] (fun K => (ALe (vb (a.right_ == c.left_)) (vb true)) ∧ True) [(2, pt 2), (3, pt 3), (16, vb true)] [(2, bx (gC a)), (3, bx (gC c))] ⟨ALe.bool d, ⟨⟩⟩ ?_
   exact Kn.R Fm (k true h)
  ·have h := br_f h d
   refine AW.G Fm [.s, .s, .s, .s, .s, .w (vb false), .s, .s, .s, .s, .s, .s] (fun K => (ALe (vb (a.right_ == c.left_)) (vb false)) ∧ True) [(2, pt 2), (3, pt 3), (16, vb (c.right_ == a.left_))] [(2, bx (gC a)), (3, bx (gC c))] ⟨ALe.bool d, ⟨⟩⟩ ?_
   exact Kn.R Fm (k (c.right_ == a.left_) h)
theorem ref06_Parts_spec {F : Nat} {a : Region} {r : (List Region) × Int} (h : ref06_Parts F a = some r) :
  FSpec Tryz.prog 46 [.v (.g [.d (DL a.rects_)])] [] (.t [.c (.d (DL (α := Region) r.1)), .c (ci r.2)]) [] := by
 refine FSpec.intro prog_mixed prog_lay Tryz.func46 rfl (by kernel_rfl) fun C Fm => ?_
 unfold ref06_Parts at h
 refine AW.SG0 Fm 3 [(1, pt 1)] [(1, bx [.d (DL a.rects_)])] ?_
 refine AW.seq ?_
 refine AW.seq ?_
 obtain ⟨k0, n1, h⟩ := bd_some h
 refine AW.G Fm [.s, .k (cE [] [] (vb k0) [] []), .s] (fun K => K 1 ∧ True) [(1, pt 1), (15, vb (!k0))] [(1, bx [.d (DL a.rects_)])] ⟨KAt.CC (ref04_Valid_spec n1) Tryz.call15 [], ⟨⟩⟩ ?_
 refine AW.cond (b := (!k0)) (by kernel_rfl) (fun U => ?_) (fun U => ?_)
 ·have h := br_t h U
  refine AW.SG0 Fm 2 [(2, .v (.c (.fl 0 fun _ => []))), (3, vi (7 : Int))] [] ?_
  refine AW.ret ?_
  obtain rfl := Option.some.inj h
  refine Kn.r Fm [(2, .v (.c (.fl 0 fun _ => []))), (3, vi (7 : Int))] [] (by kernel_rfl) ?_
  refine Kn.wk [(2, AL (α := Region) []), (3, vi (7 : Int))] [] ⟨rfl, ALe.c (CLe.fl .nil), ⟨rfl, ALe.c (CLe.refl _), ⟨⟩⟩⟩ True.intro ?_
  exact Kn.D Fm
 ·have h := br_f h U
  refine AW.skip ?_
  obtain ⟨s0, h⟩ := gd_some h
  refine AW.SG Fm [.s, .s, .s, .s, .s] (fun K => (0 ≤ ((List.length a.rects_ : Nat) : Int) ∧ ((List.length a.rects_ : Nat) : Int) = ((List.length a.rects_ : Nat) : Int) ∧ ((List.length a.rects_ : Nat) : Int) ≤ ((LIM : Nat) : Int)) ∧ True) [(1, pt 1), (4, ow 19)] [(1, bx [.d (DL a.rects_)]), (19, .arr 1 ((((List.length a.rects_ : Nat) : Int)).toNat) (fun _ => [.int .i64 0]))] ⟨⟨s0.1, rfl, s0.2⟩, ⟨⟩⟩ ?_
  refine Kn.wk [(1, pt 1), (4, ow 19)] [(1, bx [.d (DL a.rects_)]), (19, AO (α := Int) (List.replicate (((List.length a.rects_ : Nat) : Int)).toNat (0 : Int)))] (FE.refl _) (⟨rfl, OLe.refl _, ⟨rfl, OLe.is ((Is.rep (α := Int) (by kernel_rfl) : Is (((List.length a.rects_ : Nat) : Int)).toNat (fun _ => [.int .i64 0]) (List.replicate (((List.length a.rects_ : Nat) : Int)).toNat (0 : Int)))), ⟨⟩⟩⟩) ?_
  refine AW.join (r := r) (fun z : (List Int) => ref06_Parts_k1 F a z) (fun z => [(1, pt 1), (4, ow 19)]) (fun z => [(1, bx [.d (DL a.rects_)]), (19, AO z)]) (fun y0 h => ?_) (fun t1 O0 => ?_)
  ·refine AW.join (r := r) (fun z : (List Int) => ref06_Parts_k8 F a z) (fun z => [(1, pt 1), (4, ow 19)]) (fun z => [(1, bx [.d (DL a.rects_)]), (19, AO z)]) (fun e h => ?_) (fun E1 V0 => ?_)
   ·refine AW.SG Fm [.m] (fun K => True) [(1, pt 1), (4, ow 19), (9, ow 9)] [(1, bx [.d (DL a.rects_)]), (9, .arr 1 (0) (fun _ => [])), (19, AO e)] True.intro ?_
    refine Kn.wk [(1, pt 1), (4, ow 19), (9, ow 9)] [(1, bx [.d (DL a.rects_)]), (9, AO (α := Region) ([] : List Region)), (19, AO e)] (FE.refl _) (⟨rfl, OLe.refl _, ⟨rfl, OLe.is ((Is.nil (α := Region))), ⟨rfl, OLe.refl _, ⟨⟩⟩⟩⟩) ?_
    refine AW.join (r := r) (fun z : (List Region) => ref06_Parts_k14 F z) (fun z => [(9, ow 9)]) (fun z => [(9, AO z)]) (fun j0 h => ?_) (fun M1 Z0 => ?_)
    ·refine AW.SG0 Fm 3 [(2, ow 9), (3, vi (0 : Int))] [(9, AO j0)] ?_
     refine AW.ret ?_
     obtain rfl := Option.some.inj h
     refine Kn.r Fm [(2, ow 9), (3, vi (0 : Int))] [(9, AO j0)] (by kernel_rfl) ?_
     refine Kn.frz [(2, AL j0), (3, vi (0 : Int))] [] (by kernel_rfl) (by kernel_rfl) (by kernel_rfl) ?_
     exact Kn.D Fm
    ·refine AW.SG0 Fm 3 [(1, pt 1), (4, ow 19), (9, ow 9), (74, vi ((List.length e : Nat) : Int)), (75, vi (0 : Int))] [(1, bx [.d (DL a.rects_)]), (9, AO (α := Region) ([] : List Region)), (19, AO e)] ?_
     refine AW.block ?_
     refine Kn.r Fm [(1, pt 1), (4, ow 19), (9, ow 9), (74, vi ((List.length e : Nat) : Int)), (75, vi (0 : Int))] [(1, bx [.d (DL a.rects_)]), (9, AO ([] : List Region)), (19, AO e)] (by kernel_rfl) ?_
     refine AW.loopF (E' := fun z => [(1, pt 1), (4, ow 19), (9, ow 9), (74, vi ((List.length e : Nat) : Int)), (75, vi z.1)]) (S' := fun z => [(1, bx [.d (DL a.rects_)]), (9, AO z.2), (19, AO e)]) (fun m0 z G1 W0 h => ?_) h
     obtain ⟨l, u⟩ := z
     refine AW.SG0 Fm 1 [(1, pt 1), (4, ow 19), (9, ow 9), (74, vi ((List.length e : Nat) : Int)), (75, vi l), (76, vb (decide (l < ((List.length e : Nat) : Int))))] [(1, bx [.d (DL a.rects_)]), (9, AO u), (19, AO e)] ?_
     refine AW.seq ?_
     refine AW.cond (b := (decide (l < ((List.length e : Nat) : Int)))) (by kernel_rfl) (fun a0 => ?_) (fun a0 => ?_)
     ·have h := br_t h a0
      refine AW.skip ?_
      refine AW.join (r := r) (fun z : (List Region) => ref06_Parts_k13 F l m0 z) (fun z => [(1, pt 1), (4, ow 19), (9, ow 9), (74, vi ((List.length e : Nat) : Int)), (75, vi l)]) (fun z => [(1, bx [.d (DL a.rects_)]), (9, AO z), (19, AO e)]) (fun K0 h => ?_) (fun L1 q0 => ?_)
      ·obtain ⟨m1, h⟩ := gd_some h
       refine AW.G Fm [.s, .s] (fun K => (I64 (l + (1 : Int)) ∧ True) ∧ True) [(1, pt 1), (4, ow 19), (9, ow 9), (74, vi ((List.length e : Nat) : Int)), (75, vi (l + (1 : Int)))] [(1, bx [.d (DL a.rects_)]), (9, AO K0), (19, AO e)] ⟨⟨m1, ⟨⟩⟩, ⟨⟩⟩ ?_
       exact Kn.R Fm (W0 ((l + (1 : Int)), K0) h)
      ·refine AW.block ?_
       refine AW.SG0 Fm 2 [(1, pt 1), (4, ow 19), (9, ow 9), (10, vi l), (74, vi ((List.length e : Nat) : Int)), (75, vi l)] [(1, bx [.d (DL a.rects_)]), (9, AO u), (19, AO e)] ?_
       refine AW.seq ?_
       obtain ⟨u0, h⟩ := gd_some h
       refine AW.SG Fm [.s, .s, .s, .s, .s, .s] (fun K => _ ∧ (l.toNat < List.length e) ∧ True) [(1, pt 1), (4, ow 19), (9, ow 9), (10, vi l), (74, vi ((List.length e : Nat) : Int)), (75, vi l), (83, vb ((gl e l.toNat) != l))] [(1, bx [.d (DL a.rects_)]), (9, AO u), (19, AO e)] ⟨u0, (toNat_lt u0), ⟨⟩⟩ ?_
       refine AW.cond (b := ((gl e l.toNat) != l)) (by kernel_rfl) (fun b0 => ?_) (fun b0 => ?_)
       ·have h := br_t h b0
        refine AW.exit ?_
        exact Kn.R Fm (q0 u h)
       ·have h := br_f h b0
        refine AW.skip ?_
        refine AW.SG Fm [.m] (fun K => True) [(1, pt 1), (4, ow 19), (9, ow 9), (10, vi l), (11, ow 11), (74, vi ((List.length e : Nat) : Int)), (75, vi l)] [(1, bx [.d (DL a.rects_)]), (9, AO u), (11, .arr 4 (0) (fun _ => [])), (19, AO e)] True.intro ?_
        refine Kn.wk [(1, pt 1), (4, ow 19), (9, ow 9), (10, vi l), (11, ow 11), (74, vi ((List.length e : Nat) : Int)), (75, vi l)] [(1, bx [.d (DL a.rects_)]), (9, AO u), (11, AO (α := Rect) ([] : List Rect)), (19, AO e)] (FE.refl _) (⟨rfl, OLe.refl _, ⟨rfl, OLe.refl _, ⟨rfl, OLe.is ((Is.nil (α := Rect))), ⟨rfl, OLe.refl _, ⟨⟩⟩⟩⟩⟩) ?_
        refine AW.join (r := r) (fun z : (List Rect) => ref06_Parts_k12 F l u m0 z) (fun z => [(1, pt 1), (4, ow 19), (9, ow 9), (11, ow 11), (74, vi ((List.length e : Nat) : Int)), (75, vi l)]) (fun z => [(1, bx [.d (DL a.rects_)]), (9, AO u), (11, AO z), (19, AO e)]) (fun I0 h => ?_) (fun K1 Y0 => ?_)
        ·refine Kn.r Fm [(1, pt 1), (4, ow 19), (9, ow 9), (11, ow 11), (74, vi ((List.length e : Nat) : Int)), (75, vi l)] [(11, AO I0), (1, bx [.d (DL a.rects_)]), (9, AO u), (19, AO e)] (by kernel_rfl) ?_
         refine Kn.frz [(1, pt 1), (4, ow 19), (9, ow 9), (11, AL I0), (74, vi ((List.length e : Nat) : Int)), (75, vi l)] [(1, bx [.d (DL a.rects_)]), (9, AO u), (19, AO e)] (by kernel_rfl) (by kernel_rfl) (by kernel_rfl) ?_
         obtain ⟨E, p1, h⟩ := bd_some h
         obtain ⟨l1, h⟩ := gd_some h
         refine AW.G Fm [.s, .s, .k (cE [] [] (AL E) [] []), .s, .w (AL (α := Region) ([(⟨E⟩ : Region)] : List Region)), .s, .s] (fun K => K 2 ∧ (ALe (.v (.c (.d (.lst 1 (litF 1 [DL E]))))) (AL (α := Region) ([(⟨E⟩ : Region)] : List Region))) ∧ ((List.length (α := Region) u) + (List.length (α := Region) ([(⟨E⟩ : Region)] : List Region)) ≤ LIM ∧ (∀ j, j < List.length (α := Region) ([(⟨E⟩ : Region)] : List Region) → ((LF (α := Region) ([(⟨E⟩ : Region)] : List Region)) j).length = 1) ∧ (True)) ∧ True) [(1, pt 1), (4, ow 19), (9, ow 109), (74, vi ((List.length e : Nat) : Int)), (75, vi l)] [(1, bx [.d (DL a.rects_)]), (19, AO e), (109, .arr 1 ((List.length (α := Region) u) + (List.length (α := Region) ([(⟨E⟩ : Region)] : List Region))) (appF (List.length (α := Region) u) (LF (α := Region) u) (LF (α := Region) ([(⟨E⟩ : Region)] : List Region))))] ⟨KAt.callX (ref04_Combine_spec p1) Tryz.call64 [] [] [.tmp 105, .const (.slice none 0 0), .const (.int .i64 1)] rfl (by kernel_rfl) (by kernel_rfl) (by kernel_rfl) ⟨.p, ArgT.plain (by kernel_rfl) (ALe.c (CLe.fl .nil)) (by kernel_rfl), .p, ⟨⟩⟩, ALe.lst (.lit ([(⟨E⟩ : Region)] : List Region) (by kernel_rfl)), ⟨l1, (Is.refl ([(⟨E⟩ : Region)] : List Region) : Is (List.length (α := Region) ([(⟨E⟩ : Region)] : List Region)) (LF (α := Region) ([(⟨E⟩ : Region)] : List Region)) ([(⟨E⟩ : Region)] : List Region)).len, ⟨⟩⟩, ⟨⟩⟩ ?_
         refine Kn.wk [(1, pt 1), (4, ow 19), (9, ow 109), (74, vi ((List.length e : Nat) : Int)), (75, vi l)] [(1, bx [.d (DL a.rects_)]), (19, AO e), (109, AO (α := Region) (u ++ ([(⟨E⟩ : Region)] : List Region)))] (FE.refl _) (⟨rfl, OLe.refl _, ⟨rfl, OLe.refl _, ⟨rfl, OLe.is (Is.app (Is.refl u) (Is.refl ([(⟨E⟩ : Region)] : List Region))), ⟨⟩⟩⟩⟩) ?_
         exact Kn.RE Fm [(9, 109)] (q0 (u ++ ([(⟨E⟩ : Region)] : List Region)) h)
        ·refine AW.SG0 Fm 3 [(1, pt 1), (4, ow 19), (9, ow 9), (10, vi l), (11, ow 11), (74, vi ((List.length e : Nat) : Int)), (75, vi l), (85, vi ((List.length e : Nat) : Int)), (86, vi (0 : Int))] [(1, bx [.d (DL a.rects_)]), (9, AO u), (11, AO (α := Rect) ([] : List Rect)), (19, AO e)] ?_
         refine AW.block ?_
         refine Kn.r Fm [(1, pt 1), (4, ow 19), (9, ow 9), (10, vi l), (11, ow 11), (74, vi ((List.length e : Nat) : Int)), (75, vi l), (85, vi ((List.length e : Nat) : Int)), (86, vi (0 : Int))] [(1, bx [.d (DL a.rects_)]), (9, AO u), (11, AO ([] : List Rect)), (19, AO e)] (by kernel_rfl) ?_
         refine AW.loopF (E' := fun z => [(1, pt 1), (4, ow 19), (9, ow 9), (10, vi l), (11, ow 11), (74, vi ((List.length e : Nat) : Int)), (75, vi l), (85, vi ((List.length e : Nat) : Int)), (86, vi z.1)]) (S' := fun z => [(1, bx [.d (DL a.rects_)]), (9, AO u), (11, AO z.2), (19, AO e)]) (fun L0 z H1 X0 h => ?_) h
         obtain ⟨o, H⟩ := z
         refine AW.SG0 Fm 1 [(1, pt 1), (4, ow 19), (9, ow 9), (10, vi l), (11, ow 11), (74, vi ((List.length e : Nat) : Int)), (75, vi l), (85, vi ((List.length e : Nat) : Int)), (86, vi o), (87, vb (decide (o < ((List.length e : Nat) : Int))))] [(1, bx [.d (DL a.rects_)]), (9, AO u), (11, AO H), (19, AO e)] ?_
         refine AW.seq ?_
         refine AW.cond (b := (decide (o < ((List.length e : Nat) : Int)))) (by kernel_rfl) (fun c0 => ?_) (fun c0 => ?_)
         ·have h := br_t h c0
          refine AW.skip ?_
          refine AW.join (r := r) (fun z : (List Rect) => ref06_Parts_k11 F o L0 z) (fun z => [(1, pt 1), (4, ow 19), (9, ow 9), (10, vi l), (11, ow 102), (74, vi ((List.length e : Nat) : Int)), (75, vi l), (85, vi ((List.length e : Nat) : Int)), (86, vi o)]) (fun z => [(1, bx [.d (DL a.rects_)]), (9, AO u), (19, AO e), (102, AO z)]) (fun H0 h => ?_) (fun I1 p0 => ?_)
          ·obtain ⟨k1, h⟩ := gd_some h
           refine AW.G Fm [.s, .s] (fun K => (I64 (o + (1 : Int)) ∧ True) ∧ True) [(1, pt 1), (4, ow 19), (9, ow 9), (10, vi l), (11, ow 102), (74, vi ((List.length e : Nat) : Int)), (75, vi l), (85, vi ((List.length e : Nat) : Int)), (86, vi (o + (1 : Int)))] [(1, bx [.d (DL a.rects_)]), (9, AO u), (19, AO e), (102, AO H0)] ⟨⟨k1, ⟨⟩⟩, ⟨⟩⟩ ?_
           exact Kn.RE Fm [(11, 102)] (X0 ((o + (1 : Int)), H0) h)
          ·refine AW.block ?_
           refine AW.SG0 Fm 2 [(1, pt 1), (4, ow 19), (9, ow 9), (10, vi l), (11, ow 11), (12, vi o), (74, vi ((List.length e : Nat) : Int)), (75, vi l), (85, vi ((List.length e : Nat) : Int)), (86, vi o)] [(1, bx [.d (DL a.rects_)]), (9, AO u), (11, AO H), (19, AO e)] ?_
           obtain ⟨w0, h⟩ := gd_some h
           refine AW.SG Fm [.s, .s, .s, .s, .s, .s] (fun K => _ ∧ (o.toNat < List.length e) ∧ True) [(1, pt 1), (4, ow 19), (9, ow 9), (10, vi l), (11, ow 11), (12, vi o), (74, vi ((List.length e : Nat) : Int)), (75, vi l), (85, vi ((List.length e : Nat) : Int)), (86, vi o), (94, vb ((gl e o.toNat) == l))] [(1, bx [.d (DL a.rects_)]), (9, AO u), (11, AO H), (19, AO e)] ⟨w0, (toNat_lt w0), ⟨⟩⟩ ?_
           refine AW.cond (b := ((gl e o.toNat) == l)) (by kernel_rfl) (fun d0 => ?_) (fun d0 => ?_)
           ·have h := br_t h d0
            obtain ⟨i1, h⟩ := gd_some h
            obtain ⟨j1, h⟩ := gd_some h
            refine AW.G Fm [.s, .s, .s, .s, .s, .s, .w (AL (α := Rect) ([(gl a.rects_ o.toNat)] : List Rect)), .s, .s] (fun K => _ ∧ (ALe (.v (.c (.d (.lst 1 (litF 4 [.int .i64 (gl a.rects_ o.toNat).left_, .int .i64 (gl a.rects_ o.toNat).low_, .int .i64 (gl a.rects_ o.toNat).right_, .int .i64 (gl a.rects_ o.toNat).high_]))))) (AL (α := Rect) ([(gl a.rects_ o.toNat)] : List Rect))) ∧ ((List.length (α := Rect) H) + (List.length (α := Rect) ([(gl a.rects_ o.toNat)] : List Rect)) ≤ LIM ∧ (∀ j, j < List.length (α := Rect) ([(gl a.rects_ o.toNat)] : List Rect) → ((LF (α := Rect) ([(gl a.rects_ o.toNat)] : List Rect)) j).length = 4) ∧ (True)) ∧ True) [(1, pt 1), (4, ow 19), (9, ow 9), (10, vi l), (11, ow 102), (74, vi ((List.length e : Nat) : Int)), (75, vi l), (85, vi ((List.length e : Nat) : Int)), (86, vi o)] [(1, bx [.d (DL a.rects_)]), (9, AO u), (19, AO e), (102, .arr 4 ((List.length (α := Rect) H) + (List.length (α := Rect) ([(gl a.rects_ o.toNat)] : List Rect))) (appF (List.length (α := Rect) H) (LF (α := Rect) H) (LF (α := Rect) ([(gl a.rects_ o.toNat)] : List Rect))))] ⟨i1, ALe.lst (.lit ([(gl a.rects_ o.toNat)] : List Rect) (by kernel_rfl)), ⟨j1, (Is.refl ([(gl a.rects_ o.toNat)] : List Rect) : Is (List.length (α := Rect) ([(gl a.rects_ o.toNat)] : List Rect)) (LF (α := Rect) ([(gl a.rects_ o.toNat)] : List Rect)) ([(gl a.rects_ o.toNat)] : List Rect)).len, ⟨⟩⟩, ⟨⟩⟩ ?_
            refine Kn.wk [(1, pt 1), (4, ow 19), (9, ow 9), (10, vi l), (11, ow 102), (74, vi ((List.length e : Nat) : Int)), (75, vi l), (85, vi ((List.length e : Nat) : Int)), (86, vi o)] [(1, bx [.d (DL a.rects_)]), (9, AO u), (19, AO e), (102, AO (α := Rect) (H ++ ([(gl a.rects_ o.toNat)] : List Rect)))] (FE.refl _) (⟨rfl, OLe.refl _, ⟨rfl, OLe.refl _, ⟨rfl, OLe.refl _, ⟨rfl, OLe.is (Is.app (Is.refl H) (Is.refl ([(gl a.rects_ o.toNat)] : List Rect))), ⟨⟩⟩⟩⟩⟩) ?_
            exact Kn.R Fm (p0 (H ++ ([(gl a.rects_ o.toNat)] : List Rect)) h)
           ·have h := br_f h d0
            refine AW.skip ?_
            exact Kn.RE Fm [(102, 11)] (p0 H h)
         ·have h := br_f h c0
          refine AW.exit ?_
          exact Kn.R Fm (Y0 H h)
     ·have h := br_f h a0
      refine AW.exit ?_
      exact Kn.R Fm (Z0 u h)
   ·refine AW.SG0 Fm 1 [(1, pt 1), (4, ow 19), (6, vb true)] [(1, bx [.d (DL a.rects_)]), (19, AO y0)] ?_
    refine AW.block ?_
    refine Kn.r Fm [(1, pt 1), (4, ow 19), (6, vb true)] [(1, bx [.d (DL a.rects_)]), (19, AO y0)] (by kernel_rfl) ?_
    refine AW.loopF (E' := fun z => [(1, pt 1), (4, ow 19), (6, vb z.1)]) (S' := fun z => [(1, bx [.d (DL a.rects_)]), (19, AO z.2)]) (fun O1 z u1 P0 h => ?_) h
    obtain ⟨A0, y⟩ := z
    refine AW.seq ?_
    refine AW.SG0 Fm 1 [(1, pt 1), (4, ow 19), (30, vb A0)] [(1, bx [.d (DL a.rects_)]), (19, AO y)] ?_
    refine AW.cond (b := A0) (by kernel_rfl) (fun W => ?_) (fun W => ?_)
    ·have h := br_t h W
     refine AW.skip ?_
     refine AW.block ?_
     refine AW.SG0 Fm 1 [(1, pt 1), (4, ow 19), (6, vb false)] [(1, bx [.d (DL a.rects_)]), (19, AO y)] ?_
     refine AW.SG0 Fm 3 [(1, pt 1), (4, ow 19), (6, vb false), (32, vi ((List.length y : Nat) : Int)), (33, vi (0 : Int))] [(1, bx [.d (DL a.rects_)]), (19, AO y)] ?_
     refine AW.block ?_
     refine Kn.r Fm [(1, pt 1), (4, ow 19), (6, vb false), (32, vi ((List.length y : Nat) : Int)), (33, vi (0 : Int))] [(1, bx [.d (DL a.rects_)]), (19, AO y)] (by kernel_rfl) ?_
     refine AW.loopF (E' := fun z => [(1, pt 1), (4, ow 19), (6, vb z.1), (32, vi ((List.length y : Nat) : Int)), (33, vi z.2.1)]) (S' := fun z => [(1, bx [.d (DL a.rects_)]), (19, AO z.2.2)]) (fun M0 z w1 R0 h => ?_) h
     obtain ⟨N, i, B⟩ := z
     refine AW.SG0 Fm 1 [(1, pt 1), (4, ow 19), (6, vb N), (32, vi ((List.length y : Nat) : Int)), (33, vi i), (34, vb (decide (i < ((List.length y : Nat) : Int))))] [(1, bx [.d (DL a.rects_)]), (19, AO B)] ?_
     refine AW.seq ?_
     refine AW.cond (b := (decide (i < ((List.length y : Nat) : Int)))) (by kernel_rfl) (fun X => ?_) (fun X => ?_)
     ·have h := br_t h X
      refine AW.skip ?_
      refine AW.join (r := r) (fun z : Bool × (List Int) => ref06_Parts_k7 F i M0 z.1 z.2) (fun z => [(1, pt 1), (4, ow 19), (6, vb z.1), (32, vi ((List.length y : Nat) : Int)), (33, vi i)]) (fun z => [(1, bx [.d (DL a.rects_)]), (19, AO z.2)]) (fun z h => ?_) (fun D1 U0 => ?_)
      ·obtain ⟨E0, G0⟩ := z
       obtain ⟨e1, h⟩ := gd_some h
       refine AW.G Fm [.s, .s] (fun K => (I64 (i + (1 : Int)) ∧ True) ∧ True) [(1, pt 1), (4, ow 19), (6, vb E0), (32, vi ((List.length y : Nat) : Int)), (33, vi (i + (1 : Int)))] [(1, bx [.d (DL a.rects_)]), (19, AO G0)] ⟨⟨e1, ⟨⟩⟩, ⟨⟩⟩ ?_
       exact Kn.R Fm (R0 (E0, (i + (1 : Int)), G0) h)
      ·refine AW.block ?_
       refine AW.SG0 Fm 2 [(1, pt 1), (4, ow 19), (6, vb N), (7, vi i), (32, vi ((List.length y : Nat) : Int)), (33, vi i)] [(1, bx [.d (DL a.rects_)]), (19, AO B)] ?_
       refine AW.SG0 Fm 3 [(1, pt 1), (4, ow 19), (6, vb N), (7, vi i), (32, vi ((List.length y : Nat) : Int)), (33, vi i), (37, vi ((List.length B : Nat) : Int)), (38, vi (0 : Int))] [(1, bx [.d (DL a.rects_)]), (19, AO B)] ?_
       refine AW.block ?_
       refine Kn.r Fm [(1, pt 1), (4, ow 19), (6, vb N), (7, vi i), (32, vi ((List.length y : Nat) : Int)), (33, vi i), (37, vi ((List.length B : Nat) : Int)), (38, vi (0 : Int))] [(1, bx [.d (DL a.rects_)]), (19, AO B)] (by kernel_rfl) ?_
       refine AW.loopF (E' := fun z => [(1, pt 1), (4, ow 19), (6, vb z.1), (7, vi i), (32, vi ((List.length y : Nat) : Int)), (33, vi i), (37, vi ((List.length B : Nat) : Int)), (38, vi z.2.1)]) (S' := fun z => [(1, bx [.d (DL a.rects_)]), (19, AO z.2.2)]) (fun l0 z y1 T0 h => ?_) h
       obtain ⟨L, n, q⟩ := z
       refine AW.SG0 Fm 1 [(1, pt 1), (4, ow 19), (6, vb L), (7, vi i), (32, vi ((List.length y : Nat) : Int)), (33, vi i), (37, vi ((List.length B : Nat) : Int)), (38, vi n), (39, vb (decide (n < ((List.length B : Nat) : Int))))] [(1, bx [.d (DL a.rects_)]), (19, AO q)] ?_
       refine AW.seq ?_
       refine AW.cond (b := (decide (n < ((List.length B : Nat) : Int)))) (by kernel_rfl) (fun Y => ?_) (fun Y => ?_)
       ·have h := br_t h Y
        refine AW.skip ?_
        refine AW.join (r := r) (fun z : Bool × (List Int) => ref06_Parts_k6 F n l0 z.1 z.2) (fun z => [(1, pt 1), (4, ow 19), (6, vb z.1), (7, vi i), (32, vi ((List.length y : Nat) : Int)), (33, vi i), (37, vi ((List.length B : Nat) : Int)), (38, vi n)]) (fun z => [(1, bx [.d (DL a.rects_)]), (19, AO z.2)]) (fun z h => ?_) (fun B1 o0 => ?_)
        ·obtain ⟨B0, D0⟩ := z
         obtain ⟨d1, h⟩ := gd_some h
         refine AW.G Fm [.s, .s] (fun K => (I64 (n + (1 : Int)) ∧ True) ∧ True) [(1, pt 1), (4, ow 19), (6, vb B0), (7, vi i), (32, vi ((List.length y : Nat) : Int)), (33, vi i), (37, vi ((List.length B : Nat) : Int)), (38, vi (n + (1 : Int)))] [(1, bx [.d (DL a.rects_)]), (19, AO D0)] ⟨⟨d1, ⟨⟩⟩, ⟨⟩⟩ ?_
         exact Kn.R Fm (T0 (B0, (n + (1 : Int)), D0) h)
        ·refine AW.block ?_
         refine AW.SG0 Fm 2 [(1, pt 1), (4, ow 19), (6, vb L), (7, vi i), (8, vi n), (32, vi ((List.length y : Nat) : Int)), (33, vi i), (37, vi ((List.length B : Nat) : Int)), (38, vi n)] [(1, bx [.d (DL a.rects_)]), (19, AO q)] ?_
         refine AW.join (r := r) (fun z : Bool => ref06_Parts_k5 F i L n q l0 z) (fun z => [(1, pt 1), (4, ow 19), (6, vb L), (7, vi i), (8, vi n), (32, vi ((List.length y : Nat) : Int)), (33, vi i), (37, vi ((List.length B : Nat) : Int)), (38, vi n), (63, vb z)]) (fun z => [(1, bx [.d (DL a.rects_)]), (19, AO q)]) (fun q1 h => ?_) (fun A1 n0 => ?_)
         ·refine AW.cond (b := q1) (by kernel_rfl) (fun Z => ?_) (fun Z => ?_)
          ·have h := br_t h Z
           obtain ⟨t0, h⟩ := gd_some h
           obtain ⟨i0, h⟩ := gd_some h
           refine AW.G Fm [.s, .s, .s, .s, .s, .s, .s, .s, .s] (fun K => _ ∧ (n.toNat < List.length q) ∧ _ ∧ (i.toNat < List.length q) ∧ True) [(1, pt 1), (4, ow 19), (6, vb true), (7, vi i), (32, vi ((List.length y : Nat) : Int)), (33, vi i), (37, vi ((List.length B : Nat) : Int)), (38, vi n)] [(1, bx [.d (DL a.rects_)]), (19, .arr 1 (List.length (α := Int) q) (fun j => if j = i.toNat then splice ((LF (α := Int) q) i.toNat) 0 [.int .i64 (gl q n.toNat)] else (LF (α := Int) q) j))] ⟨t0, (toNat_lt t0), i0, (toNat_lt i0), ⟨⟩⟩ ?_
           refine Kn.wk [(1, pt 1), (4, ow 19), (6, vb true), (7, vi i), (32, vi ((List.length y : Nat) : Int)), (33, vi i), (37, vi ((List.length B : Nat) : Int)), (38, vi n)] [(1, bx [.d (DL a.rects_)]), (19, AO (α := Int) (List.set q i.toNat (gl q n.toNat)))] (FE.refl _) (⟨rfl, OLe.refl _, ⟨rfl, OLe.is (Is.set (Is.refl q) (toNat_lt i0) (gl q n.toNat) (by kernel_rfl)), ⟨⟩⟩⟩) ?_
           exact Kn.R Fm (o0 (true, (List.set q i.toNat (gl q n.toNat))) h)
          ·have h := br_f h Z
           refine AW.skip ?_
           exact Kn.R Fm (o0 (L, q) h)
         ·obtain ⟨P, h⟩ := gd_some h
          obtain ⟨T, h⟩ := gd_some h
          rcases Bool.eq_false_or_eq_true (decide ((gl q n.toNat) < (gl q i.toNat))) with M | M
          ·have h := br_t h M
           obtain ⟨b1, h⟩ := gd_some h
           obtain ⟨c1, h⟩ := gd_some h
           obtain ⟨O, o1, h⟩ := bd_some h
           refine AW.G Fm [.s, .s, .s, .s, .s, .s, .s, .s, .s, .w (vb true), .s, .s, .s, .s, .s, .s, .s, .s, .s, .s, .k (cE [] [] (vi O) [] []), .s, .s] (fun K => _ ∧ (n.toNat < List.length q) ∧ _ ∧ (i.toNat < List.length q) ∧ (ALe (vb (decide ((gl q n.toNat) < (gl q i.toNat)))) (vb true)) ∧ _ ∧ _ ∧ K 20 ∧ True) [(1, pt 1), (4, ow 19), (6, vb L), (7, vi i), (8, vi n), (32, vi ((List.length y : Nat) : Int)), (33, vi i), (37, vi ((List.length B : Nat) : Int)), (38, vi n), (51, pt 1), (52, AL a.rects_), (53, vi i), (54, .v (.c (.elm [.int .i64 (gl a.rects_ i.toNat).left_, .int .i64 (gl a.rects_ i.toNat).low_, .int .i64 (gl a.rects_ i.toNat).right_, .int .i64 (gl a.rects_ i.toNat).high_]))), (55, .v (.g [ci ((gl a.rects_ i.toNat).left_), ci ((gl a.rects_ i.toNat).low_), ci ((gl a.rects_ i.toNat).right_), ci ((gl a.rects_ i.toNat).high_)])), (56, pt 1), (57, AL a.rects_), (58, vi n), (59, .v (.c (.elm [.int .i64 (gl a.rects_ n.toNat).left_, .int .i64 (gl a.rects_ n.toNat).low_, .int .i64 (gl a.rects_ n.toNat).right_, .int .i64 (gl a.rects_ n.toNat).high_]))), (60, .v (.g [ci ((gl a.rects_ n.toNat).left_), ci ((gl a.rects_ n.toNat).low_), ci ((gl a.rects_ n.toNat).right_), ci ((gl a.rects_ n.toNat).high_)])), (61, vi O), (62, vb (decide ((0 : Int) < O))), (63, vb (decide ((0 : Int) < O)))] [(1, bx [.d (DL a.rects_)]), (19, AO q)] ⟨P, (toNat_lt P), T, (toNat_lt T), ALe.bool M, b1, c1, KAt.CC (ref06_touch_spec o1) Tryz.call105 [], ⟨⟩⟩ ?_
           exact Kn.R Fm (n0 (decide ((0 : Int) < O)) h)
          ·have h := br_f h M
           refine AW.G Fm [.s, .s, .s, .s, .s, .s, .s, .s, .s, .w (vb false), .s, .s, .s, .s, .s, .s, .s, .s, .s, .s, .s, .s, .s] (fun K => _ ∧ (n.toNat < List.length q) ∧ _ ∧ (i.toNat < List.length q) ∧ (ALe (vb (decide ((gl q n.toNat) < (gl q i.toNat)))) (vb false)) ∧ True) [(1, pt 1), (4, ow 19), (6, vb L), (7, vi i), (8, vi n), (32, vi ((List.length y : Nat) : Int)), (33, vi i), (37, vi ((List.length B : Nat) : Int)), (38, vi n), (63, vb false)] [(1, bx [.d (DL a.rects_)]), (19, AO q)] ⟨P, (toNat_lt P), T, (toNat_lt T), ALe.bool M, ⟨⟩⟩ ?_
           exact Kn.R Fm (n0 false h)
       ·have h := br_f h Y
        refine AW.exit ?_
        exact Kn.R Fm (U0 (L, q) h)
     ·have h := br_f h X
      refine AW.exit ?_
      exact Kn.R Fm (P0 (N, B) h)
    ·have h := br_f h W
     refine AW.exit ?_
     exact Kn.R Fm (V0 y h)
  ·refine AW.SG0 Fm 3 [(1, pt 1), (4, ow 19), (21, vi ((List.length (List.replicate (((List.length a.rects_ : Nat) : Int)).toNat (0 : Int)) : Nat) : Int)), (22, vi (0 : Int))] [(1, bx [.d (DL a.rects_)]), (19, AO (α := Int) (List.replicate (((List.length a.rects_ : Nat) : Int)).toNat (0 : Int)))] ?_
   refine AW.block ?_
   refine Kn.r Fm [(1, pt 1), (4, ow 19), (21, vi ((List.length (List.replicate (((List.length a.rects_ : Nat) : Int)).toNat (0 : Int)) : Nat) : Int)), (22, vi (0 : Int))] [(1, bx [.d (DL a.rects_)]), (19, AO (List.replicate (((List.length a.rects_ : Nat) : Int)).toNat (0 : Int)))] (by kernel_rfl) ?_
   refine AW.loopF (E' := fun z => [(1, pt 1), (4, ow 19), (21, vi ((List.length (List.replicate (((List.length a.rects_ : Nat) : Int)).toNat (0 : Int)) : Nat) : Int)), (22, vi z.1)]) (S' := fun z => [(1, bx [.d (DL a.rects_)]), (19, AO z.2)]) (fun N1 z s1 N0 h => ?_) h
   obtain ⟨A, I⟩ := z
   refine AW.SG0 Fm 1 [(1, pt 1), (4, ow 19), (21, vi ((List.length (List.replicate (((List.length a.rects_ : Nat) : Int)).toNat (0 : Int)) : Nat) : Int)), (22, vi A), (23, vb (decide (A < ((List.length (List.replicate (((List.length a.rects_ : Nat) : Int)).toNat (0 : Int)) : Nat) : Int))))] [(1, bx [.d (DL a.rects_)]), (19, AO I)] ?_
   refine AW.seq ?_
   refine AW.cond (b := (decide (A < ((List.length (List.replicate (((List.length a.rects_ : Nat) : Int)).toNat (0 : Int)) : Nat) : Int)))) (by kernel_rfl) (fun V => ?_) (fun V => ?_)
   ·have h := br_t h V
    refine AW.skip ?_
    refine AW.seq ?_
    refine AW.block ?_
    refine AW.SG0 Fm 2 [(1, pt 1), (4, ow 19), (5, vi A), (21, vi ((List.length (List.replicate (((List.length a.rects_ : Nat) : Int)).toNat (0 : Int)) : Nat) : Int)), (22, vi A)] [(1, bx [.d (DL a.rects_)]), (19, AO I)] ?_
    obtain ⟨e0, h⟩ := gd_some h
    refine AW.G Fm [.s, .s, .s, .s, .s] (fun K => _ ∧ (A.toNat < List.length I) ∧ True) [(1, pt 1), (4, ow 19), (21, vi ((List.length (List.replicate (((List.length a.rects_ : Nat) : Int)).toNat (0 : Int)) : Nat) : Int)), (22, vi A)] [(1, bx [.d (DL a.rects_)]), (19, .arr 1 (List.length (α := Int) I) (fun j => if j = A.toNat then splice ((LF (α := Int) I) A.toNat) 0 [.int .i64 A] else (LF (α := Int) I) j))] ⟨e0, (toNat_lt e0), ⟨⟩⟩ ?_
    refine Kn.wk [(1, pt 1), (4, ow 19), (21, vi ((List.length (List.replicate (((List.length a.rects_ : Nat) : Int)).toNat (0 : Int)) : Nat) : Int)), (22, vi A)] [(1, bx [.d (DL a.rects_)]), (19, AO (α := Int) (List.set I A.toNat A))] (FE.refl _) (⟨rfl, OLe.refl _, ⟨rfl, OLe.is (Is.set (Is.refl I) (toNat_lt e0) A (by kernel_rfl)), ⟨⟩⟩⟩) ?_
    obtain ⟨a1, h⟩ := gd_some h
    refine AW.G Fm [.s, .s] (fun K => (I64 (A + (1 : Int)) ∧ True) ∧ True) [(1, pt 1), (4, ow 19), (21, vi ((List.length (List.replicate (((List.length a.rects_ : Nat) : Int)).toNat (0 : Int)) : Nat) : Int)), (22, vi (A + (1 : Int)))] [(1, bx [.d (DL a.rects_)]), (19, AO (α := Int) (List.set I A.toNat A))] ⟨⟨a1, ⟨⟩⟩, ⟨⟩⟩ ?_
    exact Kn.R Fm (N0 ((A + (1 : Int)), (List.set I A.toNat A)) h)
   ·have h := br_f h V
    refine AW.exit ?_
    exact Kn.R Fm (O0 I h)
theorem ref06_Touch_spec {F : Nat} {a : Region} {i : Region} {r : Int × Int} (h : ref06_Touch F a i = some r) :
  FSpec Tryz.prog 47 [.v (.g [.d (DL a.rects_)]), .v (.g [.d (DL i.rects_)])] [] (.t [.c (ci r.1), .c (ci r.2)]) [] := by
 refine FSpec.intro prog_mixed prog_lay Tryz.func47 rfl (by kernel_rfl) fun C Fm => ?_
 unfold ref06_Touch at h
 refine AW.SG0 Fm 4 [(2, pt 2), (3, pt 3)] [(2, bx [.d (DL a.rects_)]), (3, bx [.d (DL i.rects_)])] ?_
 refine AW.seq ?_
 refine AW.join (r := r) (fun z : Bool => ref06_Touch_k0 F a i z) (fun z => [(2, pt 2), (3, pt 3), (18, vb z)]) (fun z => [(2, bx [.d (DL a.rects_)]), (3, bx [.d (DL i.rects_)])]) (fun c0 h => ?_) (fun e0 H => ?_)
 ·refine AW.cond (b := c0) (by kernel_rfl) (fun q => ?_) (fun q => ?_)
  ·have h := br_t h q
   refine AW.SG0 Fm 2 [(4, vi (0 : Int)), (5, vi (7 : Int))] [] ?_
   refine AW.ret ?_
   obtain rfl := Option.some.inj h
   exact Kn.D Fm
  ·have h := br_f h q
   refine AW.skip ?_
   refine AW.seq ?_
   refine AW.seq ?_
   obtain ⟨E, a0, h⟩ := bd_some h
   refine AW.G Fm [.s, .s, .k (cE [] [] (vb E) [] [])] (fun K => K 2 ∧ True) [(2, pt 2), (3, pt 3), (21, vb E)] [(2, bx [.d (DL a.rects_)]), (3, bx [.d (DL i.rects_)])] ⟨KAt.CC (ref04_Meets_spec a0) Tryz.call27 [], ⟨⟩⟩ ?_
   refine AW.cond (b := E) (by kernel_rfl) (fun u => ?_) (fun u => ?_)
   ·have h := br_t h u
    refine AW.SG0 Fm 2 [(4, vi (0 : Int)), (5, vi (11 : Int))] [] ?_
    refine AW.ret ?_
    obtain rfl := Option.some.inj h
    exact Kn.D Fm
   ·have h := br_f h u
    refine AW.skip ?_
    refine AW.SG0 Fm 1 [(2, pt 2), (3, pt 3), (6, vi (0 : Int))] [(2, bx [.d (DL a.rects_)]), (3, bx [.d (DL i.rects_)])] ?_
    refine AW.join (r := r) (fun z : Int => ref06_Touch_k4 F z) (fun z => [(6, vi z)]) (fun z => []) (fun d0 h => ?_) (fun l0 T => ?_)
    ·refine AW.SG0 Fm 3 [(4, vi d0), (5, vi (0 : Int))] [] ?_
     refine AW.ret ?_
     obtain rfl := Option.some.inj h
     exact Kn.D Fm
    ·refine AW.SG0 Fm 4 [(3, pt 3), (6, vi (0 : Int)), (23, AL a.rects_), (24, vi ((List.length a.rects_ : Nat) : Int)), (25, vi (0 : Int))] [(3, bx [.d (DL i.rects_)])] ?_
     refine AW.block ?_
     refine Kn.r Fm [(3, pt 3), (6, vi (0 : Int)), (23, AL a.rects_), (24, vi ((List.length a.rects_ : Nat) : Int)), (25, vi (0 : Int))] [(3, bx [.d (DL i.rects_)])] (by kernel_rfl) ?_
     refine AW.loopF (E' := fun z => [(3, pt 3), (6, vi z.1), (23, AL a.rects_), (24, vi ((List.length a.rects_ : Nat) : Int)), (25, vi z.2)]) (S' := fun z => [(3, bx [.d (DL i.rects_)])]) (fun M z i0 N h => ?_) h
     obtain ⟨n, e⟩ := z
     refine AW.SG0 Fm 1 [(3, pt 3), (6, vi n), (23, AL a.rects_), (24, vi ((List.length a.rects_ : Nat) : Int)), (25, vi e), (26, vb (decide (e < ((List.length a.rects_ : Nat) : Int))))] [(3, bx [.d (DL i.rects_)])] ?_
     refine AW.seq ?_
     refine AW.cond (b := (decide (e < ((List.length a.rects_ : Nat) : Int)))) (by kernel_rfl) (fun y => ?_) (fun y => ?_)
     ·have h := br_t h y
      refine AW.skip ?_
      refine AW.join (r := r) (fun z : Int => ref06_Touch_k3 F e M z) (fun z => [(3, pt 3), (6, vi z), (23, AL a.rects_), (24, vi ((List.length a.rects_ : Nat) : Int)), (25, vi e)]) (fun z => [(3, bx [.d (DL i.rects_)])]) (fun L h => ?_) (fun k0 P => ?_)
      ·obtain ⟨Y, h⟩ := gd_some h
       refine AW.G Fm [.s, .s] (fun K => (I64 (e + (1 : Int)) ∧ True) ∧ True) [(3, pt 3), (6, vi L), (23, AL a.rects_), (24, vi ((List.length a.rects_ : Nat) : Int)), (25, vi (e + (1 : Int)))] [(3, bx [.d (DL i.rects_)])] ⟨⟨Y, ⟨⟩⟩, ⟨⟩⟩ ?_
       exact Kn.R Fm (N (L, (e + (1 : Int))) h)
      ·refine AW.block ?_
       obtain ⟨U, h⟩ := gd_some h
       refine AW.SG Fm [.s, .s, .s, .s] (fun K => _ ∧ True) [(3, pt 3), (6, vi n), (8, pt 8), (23, AL a.rects_), (24, vi ((List.length a.rects_ : Nat) : Int)), (25, vi e)] [(3, bx [.d (DL i.rects_)]), (8, bx [ci ((gl a.rects_ e.toNat).left_), ci ((gl a.rects_ e.toNat).low_), ci ((gl a.rects_ e.toNat).right_), ci ((gl a.rects_ e.toNat).high_)])] ⟨U, ⟨⟩⟩ ?_
       refine AW.SG0 Fm 4 [(3, pt 3), (6, vi n), (8, pt 8), (23, AL a.rects_), (24, vi ((List.length a.rects_ : Nat) : Int)), (25, vi e), (30, AL i.rects_), (31, vi ((List.length i.rects_ : Nat) : Int)), (32, vi (0 : Int))] [(3, bx [.d (DL i.rects_)]), (8, bx [ci ((gl a.rects_ e.toNat).left_), ci ((gl a.rects_ e.toNat).low_), ci ((gl a.rects_ e.toNat).right_), ci ((gl a.rects_ e.toNat).high_)])] ?_
       refine AW.block ?_
       refine Kn.r Fm [(3, pt 3), (6, vi n), (8, pt 8), (23, AL a.rects_), (24, vi ((List.length a.rects_ : Nat) : Int)), (25, vi e), (30, AL i.rects_), (31, vi ((List.length i.rects_ : Nat) : Int)), (32, vi (0 : Int))] [(3, bx [.d (DL i.rects_)]), (8, bx [ci ((gl a.rects_ e.toNat).left_), ci ((gl a.rects_ e.toNat).low_), ci ((gl a.rects_ e.toNat).right_), ci ((gl a.rects_ e.toNat).high_)])] (by kernel_rfl) ?_
       refine AW.loopF (E' := fun z => [(3, pt 3), (6, vi z.1), (8, pt 8), (23, AL a.rects_), (24, vi ((List.length a.rects_ : Nat) : Int)), (25, vi e), (30, AL i.rects_), (31, vi ((List.length i.rects_ : Nat) : Int)), (32, vi z.2)]) (S' := fun z => [(3, bx [.d (DL i.rects_)]), (8, bx [ci ((gl a.rects_ e.toNat).left_), ci ((gl a.rects_ e.toNat).low_), ci ((gl a.rects_ e.toNat).right_), ci ((gl a.rects_ e.toNat).high_)])]) (fun m0 z j0 O h => ?_) h
       obtain ⟨l, j⟩ := z
       refine AW.SG0 Fm 1 [(3, pt 3), (6, vi l), (8, pt 8), (23, AL a.rects_), (24, vi ((List.length a.rects_ : Nat) : Int)), (25, vi e), (30, AL i.rects_), (31, vi ((List.length i.rects_ : Nat) : Int)), (32, vi j), (33, vb (decide (j < ((List.length i.rects_ : Nat) : Int))))] [(3, bx [.d (DL i.rects_)]), (8, bx [ci ((gl a.rects_ e.toNat).left_), ci ((gl a.rects_ e.toNat).low_), ci ((gl a.rects_ e.toNat).right_), ci ((gl a.rects_ e.toNat).high_)])] ?_
       refine AW.seq ?_
       refine AW.cond (b := (decide (j < ((List.length i.rects_ : Nat) : Int)))) (by kernel_rfl) (fun A => ?_) (fun A => ?_)
       ·have h := br_t h A
        refine AW.skip ?_
        refine AW.seq ?_
        refine AW.block ?_
        obtain ⟨V, h⟩ := gd_some h
        refine AW.SG Fm [.s, .s, .s, .s] (fun K => _ ∧ True) [(3, pt 3), (6, vi l), (8, pt 8), (10, pt 10), (23, AL a.rects_), (24, vi ((List.length a.rects_ : Nat) : Int)), (25, vi e), (30, AL i.rects_), (31, vi ((List.length i.rects_ : Nat) : Int)), (32, vi j)] [(3, bx [.d (DL i.rects_)]), (8, bx [ci ((gl a.rects_ e.toNat).left_), ci ((gl a.rects_ e.toNat).low_), ci ((gl a.rects_ e.toNat).right_), ci ((gl a.rects_ e.toNat).high_)]), (10, bx [ci ((gl i.rects_ j.toNat).left_), ci ((gl i.rects_ j.toNat).low_), ci ((gl i.rects_ j.toNat).right_), ci ((gl i.rects_ j.toNat).high_)])] ⟨V, ⟨⟩⟩ ?_
        obtain ⟨p, b0, h⟩ := bd_some h
        obtain ⟨W, h⟩ := gd_some h
        refine AW.G Fm [.s, .s, .s, .k (cE [] [] (vi p) [] []), .s, .s] (fun K => K 3 ∧ (I64 (l + p) ∧ True) ∧ True) [(3, pt 3), (6, vi (l + p)), (8, pt 8), (23, AL a.rects_), (24, vi ((List.length a.rects_ : Nat) : Int)), (25, vi e), (30, AL i.rects_), (31, vi ((List.length i.rects_ : Nat) : Int)), (32, vi j)] [(3, bx [.d (DL i.rects_)]), (8, bx [ci ((gl a.rects_ e.toNat).left_), ci ((gl a.rects_ e.toNat).low_), ci ((gl a.rects_ e.toNat).right_), ci ((gl a.rects_ e.toNat).high_)])] ⟨KAt.CC (ref06_touch_spec b0) Tryz.call105 [], ⟨W, ⟨⟩⟩, ⟨⟩⟩ ?_
        obtain ⟨X, h⟩ := gd_some h
        refine AW.G Fm [.s, .s] (fun K => (I64 (j + (1 : Int)) ∧ True) ∧ True) [(3, pt 3), (6, vi (l + p)), (8, pt 8), (23, AL a.rects_), (24, vi ((List.length a.rects_ : Nat) : Int)), (25, vi e), (30, AL i.rects_), (31, vi ((List.length i.rects_ : Nat) : Int)), (32, vi (j + (1 : Int)))] [(3, bx [.d (DL i.rects_)]), (8, bx [ci ((gl a.rects_ e.toNat).left_), ci ((gl a.rects_ e.toNat).low_), ci ((gl a.rects_ e.toNat).right_), ci ((gl a.rects_ e.toNat).high_)])] ⟨⟨X, ⟨⟩⟩, ⟨⟩⟩ ?_
        exact Kn.R Fm (O ((l + p), (j + (1 : Int))) h)
       ·have h := br_f h A
        refine AW.exit ?_
        exact Kn.R Fm (P l h)
     ·have h := br_f h y
      refine AW.exit ?_
      exact Kn.R Fm (T n h)
 ·obtain ⟨o, I, h⟩ := bd_some h
  rcases Bool.eq_false_or_eq_true (!o) with m | m
  ·have h := br_t h m
   refine AW.G Fm [.s, .k (cE [] [] (vb o) [] []), .s, .w (vb true), .s, .s, .s, .s] (fun K => K 1 ∧ (ALe (vb (!o)) (vb true)) ∧ True) [(2, pt 2), (3, pt 3), (18, vb true)] [(2, bx [.d (DL a.rects_)]), (3, bx [.d (DL i.rects_)])] ⟨KAt.CC (ref04_Valid_spec I) Tryz.call15 [], ALe.bool m, ⟨⟩⟩ ?_
   exact Kn.R Fm (H true h)
  ·have h := br_f h m
   obtain ⟨B, Z, h⟩ := bd_some h
   refine AW.G Fm [.s, .k (cE [] [] (vb o) [] []), .s, .w (vb false), .s, .k (cE [] [] (vb B) [] []), .s, .s] (fun K => K 1 ∧ (ALe (vb (!o)) (vb false)) ∧ K 5 ∧ True) [(2, pt 2), (3, pt 3), (18, vb (!B))] [(2, bx [.d (DL a.rects_)]), (3, bx [.d (DL i.rects_)])] ⟨KAt.CC (ref04_Valid_spec I) Tryz.call15 [], ALe.bool m, KAt.CC (ref04_Valid_spec Z) Tryz.call15 [], ⟨⟩⟩ ?_
   exact Kn.R Fm (H (!B) h)
theorem ref06_Bounds_spec {F : Nat} {a : Region} {r : Rect × Bool} (h : ref06_Bounds F a = some r) :
  FSpec Tryz.prog 49 [.v (.g [.d (DL a.rects_)])] [] (.t [.g (gC r.1), .c (.d (.bool r.2))]) [] := by
 refine FSpec.intro prog_mixed prog_lay Tryz.func49 rfl (by kernel_rfl) fun C Fm => ?_
 unfold ref06_Bounds at h
 refine AW.SG0 Fm 3 [(1, pt 1), (2, pt 2)] [(1, bx [.d (DL a.rects_)]), (2, bx [ci 0, ci 0, ci 0, ci 0])] ?_
 refine AW.seq ?_
 refine AW.join (r := r) (fun z : Bool => ref06_Bounds_k0 F a z) (fun z => [(1, pt 1), (2, pt 2), (15, vb z)]) (fun z => [(1, bx [.d (DL a.rects_)]), (2, bx [ci 0, ci 0, ci 0, ci 0])]) (fun L h => ?_) (fun T u => ?_)
 ·refine AW.cond (b := L) (by kernel_rfl) (fun p => ?_) (fun p => ?_)
  ·have h := br_t h p
   refine AW.SG0 Fm 3 [(2, pt 2), (3, vb false)] [(2, bx [ci 0, ci 0, ci 0, ci 0])] ?_
   refine AW.ret ?_
   obtain rfl := Option.some.inj h
   exact Kn.D Fm
  ·have h := br_f h p
   refine AW.skip ?_
   obtain ⟨E, h⟩ := gd_some h
   refine AW.SG Fm [.s, .s, .s, .s, .s, .s] (fun K => _ ∧ True) [(1, pt 1), (2, pt 2), (4, pt 4)] [(1, bx [.d (DL a.rects_)]), (2, bx [ci 0, ci 0, ci 0, ci 0]), (4, bx [ci ((gl a.rects_ (0 : Int).toNat).left_), ci ((gl a.rects_ (0 : Int).toNat).low_), ci ((gl a.rects_ (0 : Int).toNat).right_), ci ((gl a.rects_ (0 : Int).toNat).high_)])] ⟨E, ⟨⟩⟩ ?_
   refine AW.join (r := r) (fun z : Int × Int × Int × Int => ref06_Bounds_k2 F z.1 z.2.1 z.2.2.1 z.2.2.2) (fun z => [(2, pt 2), (4, pt 4)]) (fun z => [(2, bx [ci 0, ci 0, ci 0, ci 0]), (4, bx [ci z.1, ci z.2.1, ci z.2.2.1, ci z.2.2.2])]) (fun z h => ?_) (fun V B => ?_)
   ·obtain ⟨M, N, O, P⟩ := z
    refine AW.SG0 Fm 3 [(2, pt 2), (3, vb true)] [(2, bx [ci M, ci N, ci O, ci P])] ?_
    refine AW.ret ?_
    obtain rfl := Option.some.inj h
    exact Kn.D Fm
   ·refine AW.SG0 Fm 4 [(2, pt 2), (4, pt 4), (22, AL a.rects_), (23, vi ((List.length a.rects_ : Nat) : Int)), (24, vi (0 : Int))] [(2, bx [ci 0, ci 0, ci 0, ci 0]), (4, bx [ci ((gl a.rects_ (0 : Int).toNat).left_), ci ((gl a.rects_ (0 : Int).toNat).low_), ci ((gl a.rects_ (0 : Int).toNat).right_), ci ((gl a.rects_ (0 : Int).toNat).high_)])] ?_
    refine AW.block ?_
    refine Kn.r Fm [(2, pt 2), (4, pt 4), (22, AL a.rects_), (23, vi ((List.length a.rects_ : Nat) : Int)), (24, vi (0 : Int))] [(2, bx [ci 0, ci 0, ci 0, ci 0]), (4, bx [ci ((gl a.rects_ (0 : Int).toNat).left_), ci ((gl a.rects_ (0 : Int).toNat).low_), ci ((gl a.rects_ (0 : Int).toNat).right_), ci ((gl a.rects_ (0 : Int).toNat).high_)])] (by kernel_rfl) ?_
    refine AW.loopF (E' := fun z => [(2, pt 2), (4, pt 4), (22, AL a.rects_), (23, vi ((List.length a.rects_ : Nat) : Int)), (24, vi z.1)]) (S' := fun z => [(2, bx [ci 0, ci 0, ci 0, ci 0]), (4, bx [ci z.2.1, ci z.2.2.1, ci z.2.2.2.1, ci z.2.2.2.2])]) (fun W z U A h => ?_) h
    obtain ⟨e, i, j, l, m⟩ := z
    refine AW.SG0 Fm 1 [(2, pt 2), (4, pt 4), (22, AL a.rects_), (23, vi ((List.length a.rects_ : Nat) : Int)), (24, vi e), (25, vb (decide (e < ((List.length a.rects_ : Nat) : Int))))] [(2, bx [ci 0, ci 0, ci 0, ci 0]), (4, bx [ci i, ci j, ci l, ci m])] ?_
    refine AW.seq ?_
    refine AW.cond (b := (decide (e < ((List.length a.rects_ : Nat) : Int)))) (by kernel_rfl) (fun q => ?_) (fun q => ?_)
    ·have h := br_t h q
     refine AW.skip ?_
     refine AW.seq ?_
     refine AW.block ?_
     obtain ⟨H, h⟩ := gd_some h
     refine AW.SG Fm [.s, .s, .s, .s] (fun K => _ ∧ True) [(2, pt 2), (4, pt 4), (6, pt 6), (22, AL a.rects_), (23, vi ((List.length a.rects_ : Nat) : Int)), (24, vi e)] [(2, bx [ci 0, ci 0, ci 0, ci 0]), (4, bx [ci i, ci j, ci l, ci m]), (6, bx [ci ((gl a.rects_ e.toNat).left_), ci ((gl a.rects_ e.toNat).low_), ci ((gl a.rects_ e.toNat).right_), ci ((gl a.rects_ e.toNat).high_)])] ⟨H, ⟨⟩⟩ ?_
     refine AW.G0 Fm 28 [(2, pt 2), (4, pt 4), (22, AL a.rects_), (23, vi ((List.length a.rects_ : Nat) : Int)), (24, vi e)] [(2, bx [ci 0, ci 0, ci 0, ci 0]), (4, bx [ci (gmin i ((gl a.rects_ e.toNat).left_)), ci (gmin j ((gl a.rects_ e.toNat).low_)), ci (gmax l ((gl a.rects_ e.toNat).right_)), ci (gmax m ((gl a.rects_ e.toNat).high_))])] ?_
     obtain ⟨I, h⟩ := gd_some h
     refine AW.G Fm [.s, .s] (fun K => (I64 (e + (1 : Int)) ∧ True) ∧ True) [(2, pt 2), (4, pt 4), (22, AL a.rects_), (23, vi ((List.length a.rects_ : Nat) : Int)), (24, vi (e + (1 : Int)))] [(2, bx [ci 0, ci 0, ci 0, ci 0]), (4, bx [ci (gmin i ((gl a.rects_ e.toNat).left_)), ci (gmin j ((gl a.rects_ e.toNat).low_)), ci (gmax l ((gl a.rects_ e.toNat).right_)), ci (gmax m ((gl a.rects_ e.toNat).high_))])] ⟨⟨I, ⟨⟩⟩, ⟨⟩⟩ ?_
     exact Kn.R Fm (A ((e + (1 : Int)), (gmin i ((gl a.rects_ e.toNat).left_)), (gmin j ((gl a.rects_ e.toNat).low_)), (gmax l ((gl a.rects_ e.toNat).right_)), (gmax m ((gl a.rects_ e.toNat).high_))) h)
    ·have h := br_f h q
     refine AW.exit ?_
     exact Kn.R Fm (B (i, j, l, m) h)
 ·obtain ⟨o, y, h⟩ := bd_some h
  rcases Bool.eq_false_or_eq_true (!o) with n | n
  ·have h := br_t h n
   refine AW.G Fm [.s, .k (cE [] [] (vb o) [] []), .s, .w (vb true), .s, .s, .s, .s, .s] (fun K => K 1 ∧ (ALe (vb (!o)) (vb true)) ∧ True) [(1, pt 1), (2, pt 2), (15, vb true)] [(1, bx [.d (DL a.rects_)]), (2, bx [ci 0, ci 0, ci 0, ci 0])] ⟨KAt.CC (ref04_Valid_spec y) Tryz.call15 [], ALe.bool n, ⟨⟩⟩ ?_
   exact Kn.R Fm (u true h)
  ·have h := br_f h n
   refine AW.G Fm [.s, .k (cE [] [] (vb o) [] []), .s, .w (vb false), .s, .s, .s, .s, .s] (fun K => K 1 ∧ (ALe (vb (!o)) (vb false)) ∧ True) [(1, pt 1), (2, pt 2), (15, vb (((List.length a.rects_ : Nat) : Int) == (0 : Int)))] [(1, bx [.d (DL a.rects_)]), (2, bx [ci 0, ci 0, ci 0, ci 0])] ⟨KAt.CC (ref04_Valid_spec y) Tryz.call15 [], ALe.bool n, ⟨⟩⟩ ?_
   exact Kn.R Fm (u (((List.length a.rects_ : Nat) : Int) == (0 : Int)) h)
theorem ref04_All_spec {F : Nat} {a : (List Region)} {c : (List Region)} {r : Bool} (h : ref04_All F a c = some r) :
  FSpec Tryz.prog 50 [AL a, AL c] [] (vb r) [] := by
 refine FSpec.intro prog_mixed prog_lay Tryz.func50 rfl (by kernel_rfl) fun C Fm => ?_
 unfold ref04_All at h
 refine AW.SG0 Fm 1 [(0, AL a), (1, AL c)] [] ?_
 refine AW.seq ?_
 refine AW.SG0 Fm 5 [(0, AL a), (1, AL c), (10, vb (((List.length a : Nat) : Int) != ((List.length c : Nat) : Int)))] [] ?_
 refine AW.cond (b := (((List.length a : Nat) : Int) != ((List.length c : Nat) : Int))) (by kernel_rfl) (fun e => ?_) (fun e => ?_)
 ·have h := br_t h e
  refine AW.SG0 Fm 1 [(4, vb false)] [] ?_
  refine AW.ret ?_
  obtain rfl := Option.some.inj h
  exact Kn.D Fm
 ·have h := br_f h e
  refine AW.skip ?_
  refine AW.join (r := r) (fun z : Unit => ref04_All_k1 F) (fun z => []) (fun z => []) (fun z h => ?_) (fun w n => ?_)
  ·refine AW.SG0 Fm 1 [(4, vb true)] [] ?_
   refine AW.ret ?_
   obtain rfl := Option.some.inj h
   exact Kn.D Fm
  ·refine AW.SG0 Fm 3 [(0, AL a), (1, AL c), (12, vi ((List.length a : Nat) : Int)), (13, vi (0 : Int))] [] ?_
   refine AW.block ?_
   refine Kn.r Fm [(0, AL a), (1, AL c), (12, vi ((List.length a : Nat) : Int)), (13, vi (0 : Int))] [] (by kernel_rfl) ?_
   refine AW.loopF (E' := fun z => [(0, AL a), (1, AL c), (12, vi ((List.length a : Nat) : Int)), (13, vi z)]) (S' := fun z => []) (fun y d u m h => ?_) h
   refine AW.SG0 Fm 1 [(0, AL a), (1, AL c), (12, vi ((List.length a : Nat) : Int)), (13, vi d), (14, vb (decide (d < ((List.length a : Nat) : Int))))] [] ?_
   refine AW.seq ?_
   refine AW.cond (b := (decide (d < ((List.length a : Nat) : Int)))) (by kernel_rfl) (fun i => ?_) (fun i => ?_)
   ·have h := br_t h i
    refine AW.skip ?_
    refine AW.seq ?_
    refine AW.block ?_
    refine AW.SG0 Fm 2 [(0, AL a), (1, AL c), (5, vi d), (12, vi ((List.length a : Nat) : Int)), (13, vi d)] [] ?_
    refine AW.seq ?_
    obtain ⟨o, h⟩ := gd_some h
    obtain ⟨p, h⟩ := gd_some h
    obtain ⟨l, t, h⟩ := bd_some h
    refine AW.G Fm [.s, .s, .s, .s, .s, .s, .s, .s, .k (cE [] [] (vb l) [] []), .s] (fun K => _ ∧ _ ∧ K 8 ∧ True) [(0, AL a), (1, AL c), (12, vi ((List.length a : Nat) : Int)), (13, vi d), (25, vb (!l))] [] ⟨o, p, KAt.CC (ref04_Same_spec t) Tryz.call16 [], ⟨⟩⟩ ?_
    refine AW.cond (b := (!l)) (by kernel_rfl) (fun j => ?_) (fun j => ?_)
    ·have h := br_t h j
     refine AW.SG0 Fm 1 [(4, vb false)] [] ?_
     refine AW.ret ?_
     obtain rfl := Option.some.inj h
     exact Kn.D Fm
    ·have h := br_f h j
     refine AW.skip ?_
     obtain ⟨q, h⟩ := gd_some h
     refine AW.G Fm [.s, .s] (fun K => (I64 (d + (1 : Int)) ∧ True) ∧ True) [(0, AL a), (1, AL c), (12, vi ((List.length a : Nat) : Int)), (13, vi (d + (1 : Int)))] [] ⟨⟨q, ⟨⟩⟩, ⟨⟩⟩ ?_
     exact Kn.R Fm (m (d + (1 : Int)) h)
   ·have h := br_f h i
    refine AW.exit ?_
    exact Kn.R Fm (n () h)
theorem ref06_wide_spec {F : Nat} {a : (List Rect)} {i : Int} {r : (List Rect)} (h : ref06_wide F a i = some r) :
  FSpec Tryz.prog 106 [AL a, vi i] [] (AL (α := Rect) r) [] := by
 refine FSpec.intro prog_mixed prog_lay Tryz.func106 rfl (by kernel_rfl) fun C Fm => ?_
 unfold ref06_wide at h
 refine AW.SG0 Fm 1 [(0, AL a), (1, vi i)] [] ?_
 refine AW.SG Fm [.m] (fun K => True) [(0, AL a), (1, vi i), (5, ow 5)] [(5, .arr 4 (0) (fun _ => []))] True.intro ?_
 refine Kn.wk [(0, AL a), (1, vi i), (5, ow 5)] [(5, AO (α := Rect) ([] : List Rect))] (FE.refl _) (⟨rfl, OLe.is ((Is.nil (α := Rect))), ⟨⟩⟩) ?_
 refine AW.join (r := r) (fun z : (List Rect) => ref06_wide_k1 F z) (fun z => [(5, ow 5)]) (fun z => [(5, AO z)]) (fun n h => ?_) (fun I p => ?_)
 ·refine AW.SG0 Fm 2 [(4, ow 5)] [(5, AO n)] ?_
  refine AW.ret ?_
  obtain rfl := Option.some.inj h
  refine Kn.r Fm [(4, ow 5)] [(5, AO n)] (by kernel_rfl) ?_
  refine Kn.frz [(4, AL n)] [] (by kernel_rfl) (by kernel_rfl) (by kernel_rfl) ?_
  exact Kn.D Fm
 ·refine AW.SG0 Fm 3 [(1, vi i), (5, ow 5), (8, AL a), (9, vi ((List.length a : Nat) : Int)), (10, vi (0 : Int))] [(5, AO (α := Rect) ([] : List Rect))] ?_
  refine AW.block ?_
  refine Kn.r Fm [(1, vi i), (5, ow 5), (8, AL a), (9, vi ((List.length a : Nat) : Int)), (10, vi (0 : Int))] [(5, AO ([] : List Rect))] (by kernel_rfl) ?_
  refine AW.loopF (E' := fun z => [(1, vi i), (5, ow 5), (8, AL a), (9, vi ((List.length a : Nat) : Int)), (10, vi z.1)]) (S' := fun z => [(5, AO z.2)]) (fun L z H o h => ?_) h
  obtain ⟨e, k⟩ := z
  refine AW.SG0 Fm 1 [(1, vi i), (5, ow 5), (8, AL a), (9, vi ((List.length a : Nat) : Int)), (10, vi e), (11, vb (decide (e < ((List.length a : Nat) : Int))))] [(5, AO k)] ?_
  refine AW.seq ?_
  refine AW.cond (b := (decide (e < ((List.length a : Nat) : Int)))) (by kernel_rfl) (fun l => ?_) (fun l => ?_)
  ·have h := br_t h l
   refine AW.skip ?_
   refine AW.seq ?_
   refine AW.block ?_
   obtain ⟨q, h⟩ := gd_some h
   refine AW.SG Fm [.s, .s, .s, .s] (fun K => _ ∧ True) [(1, vi i), (5, ow 5), (7, pt 7), (8, AL a), (9, vi ((List.length a : Nat) : Int)), (10, vi e)] [(5, AO k), (7, bx [ci ((gl a e.toNat).left_), ci ((gl a e.toNat).low_), ci ((gl a e.toNat).right_), ci ((gl a e.toNat).high_)])] ⟨q, ⟨⟩⟩ ?_
   obtain ⟨t, h⟩ := gd_some h
   obtain ⟨u, h⟩ := gd_some h
   obtain ⟨y, h⟩ := gd_some h
   obtain ⟨A, h⟩ := gd_some h
   obtain ⟨B, h⟩ := gd_some h
   refine AW.G Fm [.s, .s, .s, .s, .s, .s, .s, .s, .s, .s, .s, .s, .s, .s, .s, .s, .s, .s, .w (AL (α := Rect) ([(⟨(((gl a e.toNat).left_) - i), (((gl a e.toNat).low_) - i), (((gl a e.toNat).right_) + i), (((gl a e.toNat).high_) + i)⟩ : Rect)] : List Rect)), .s, .s] (fun K => (I64 (((gl a e.toNat).left_) - i) ∧ True) ∧ (I64 (((gl a e.toNat).low_) - i) ∧ True) ∧ (I64 (((gl a e.toNat).right_) + i) ∧ True) ∧ (I64 (((gl a e.toNat).high_) + i) ∧ True) ∧ (ALe (.v (.c (.d (.lst 1 (litF 4 [.int .i64 (((gl a e.toNat).left_) - i), .int .i64 (((gl a e.toNat).low_) - i), .int .i64 (((gl a e.toNat).right_) + i), .int .i64 (((gl a e.toNat).high_) + i)]))))) (AL (α := Rect) ([(⟨(((gl a e.toNat).left_) - i), (((gl a e.toNat).low_) - i), (((gl a e.toNat).right_) + i), (((gl a e.toNat).high_) + i)⟩ : Rect)] : List Rect))) ∧ ((List.length (α := Rect) k) + (List.length (α := Rect) ([(⟨(((gl a e.toNat).left_) - i), (((gl a e.toNat).low_) - i), (((gl a e.toNat).right_) + i), (((gl a e.toNat).high_) + i)⟩ : Rect)] : List Rect)) ≤ LIM ∧ (∀ j, j < List.length (α := Rect) ([(⟨(((gl a e.toNat).left_) - i), (((gl a e.toNat).low_) - i), (((gl a e.toNat).right_) + i), (((gl a e.toNat).high_) + i)⟩ : Rect)] : List Rect) → ((LF (α := Rect) ([(⟨(((gl a e.toNat).left_) - i), (((gl a e.toNat).low_) - i), (((gl a e.toNat).right_) + i), (((gl a e.toNat).high_) + i)⟩ : Rect)] : List Rect)) j).length = 4) ∧ (True)) ∧ True) [(1, vi i), (5, ow 33), (8, AL a), (9, vi ((List.length a : Nat) : Int)), (10, vi e)] [(33, .arr 4 ((List.length (α := Rect) k) + (List.length (α := Rect) ([(⟨(((gl a e.toNat).left_) - i), (((gl a e.toNat).low_) - i), (((gl a e.toNat).right_) + i), (((gl a e.toNat).high_) + i)⟩ : Rect)] : List Rect))) (appF (List.length (α := Rect) k) (LF (α := Rect) k) (LF (α := Rect) ([(⟨(((gl a e.toNat).left_) - i), (((gl a e.toNat).low_) - i), (((gl a e.toNat).right_) + i), (((gl a e.toNat).high_) + i)⟩ : Rect)] : List Rect))))] ⟨⟨t, ⟨⟩⟩, ⟨u, ⟨⟩⟩, ⟨y, ⟨⟩⟩, ⟨A, ⟨⟩⟩, ALe.lst (.lit ([(⟨(((gl a e.toNat).left_) - i), (((gl a e.toNat).low_) - i), (((gl a e.toNat).right_) + i), (((gl a e.toNat).high_) + i)⟩ : Rect)] : List Rect) (by kernel_rfl)), ⟨B, (Is.refl ([(⟨(((gl a e.toNat).left_) - i), (((gl a e.toNat).low_) - i), (((gl a e.toNat).right_) + i), (((gl a e.toNat).high_) + i)⟩ : Rect)] : List Rect) : Is (List.length (α := Rect) ([(⟨(((gl a e.toNat).left_) - i), (((gl a e.toNat).low_) - i), (((gl a e.toNat).right_) + i), (((gl a e.toNat).high_) + i)⟩ : Rect)] : List Rect)) (LF (α := Rect) ([(⟨(((gl a e.toNat).left_) - i), (((gl a e.toNat).low_) - i), (((gl a e.toNat).right_) + i), (((gl a e.toNat).high_) + i)⟩ : Rect)] : List Rect)) ([(⟨(((gl a e.toNat).left_) - i), (((gl a e.toNat).low_) - i), (((gl a e.toNat).right_) + i), (((gl a e.toNat).high_) + i)⟩ : Rect)] : List Rect)).len, ⟨⟩⟩, ⟨⟩⟩ ?_
   refine Kn.wk [(1, vi i), (5, ow 33), (8, AL a), (9, vi ((List.length a : Nat) : Int)), (10, vi e)] [(33, AO (α := Rect) (k ++ ([(⟨(((gl a e.toNat).left_) - i), (((gl a e.toNat).low_) - i), (((gl a e.toNat).right_) + i), (((gl a e.toNat).high_) + i)⟩ : Rect)] : List Rect)))] (FE.refl _) (⟨rfl, OLe.is (Is.app (Is.refl k) (Is.refl ([(⟨(((gl a e.toNat).left_) - i), (((gl a e.toNat).low_) - i), (((gl a e.toNat).right_) + i), (((gl a e.toNat).high_) + i)⟩ : Rect)] : List Rect))), ⟨⟩⟩) ?_
   obtain ⟨E, h⟩ := gd_some h
   refine AW.G Fm [.s, .s] (fun K => (I64 (e + (1 : Int)) ∧ True) ∧ True) [(1, vi i), (5, ow 33), (8, AL a), (9, vi ((List.length a : Nat) : Int)), (10, vi (e + (1 : Int)))] [(33, AO (α := Rect) (k ++ ([(⟨(((gl a e.toNat).left_) - i), (((gl a e.toNat).low_) - i), (((gl a e.toNat).right_) + i), (((gl a e.toNat).high_) + i)⟩ : Rect)] : List Rect)))] ⟨⟨E, ⟨⟩⟩, ⟨⟩⟩ ?_
   exact Kn.RE Fm [(5, 33)] (o ((e + (1 : Int)), (k ++ ([(⟨(((gl a e.toNat).left_) - i), (((gl a e.toNat).low_) - i), (((gl a e.toNat).right_) + i), (((gl a e.toNat).high_) + i)⟩ : Rect)] : List Rect))) h)
  ·have h := br_f h l
   refine AW.exit ?_
   exact Kn.R Fm (p k h)
theorem ref06_grid_spec {F : Nat} {r : (List Rect)} (h : ref06_grid F = some r) :
  FSpec Tryz.prog 107 [] [] (AL (α := Rect) r) [] := by
 refine FSpec.intro prog_mixed prog_lay Tryz.func107 rfl (by kernel_rfl) fun C Fm => ?_
 unfold ref06_grid at h
 refine AW.SG0 Fm 1 [] [] ?_
 refine AW.SG Fm [.s, .w (AL (α := Rect) ([(⟨0, 0, (16384 : Int), (16384 : Int)⟩ : Rect)] : List Rect)), .s] (fun K => (ALe (.v (.c (.d (.lst 1 (litF 4 [.int .i64 0, .int .i64 0, .int .i64 (16384 : Int), .int .i64 (16384 : Int)]))))) (AL (α := Rect) ([(⟨0, 0, (16384 : Int), (16384 : Int)⟩ : Rect)] : List Rect))) ∧ True) [(0, AL (α := Rect) ([(⟨0, 0, (16384 : Int), (16384 : Int)⟩ : Rect)] : List Rect))] [] ⟨ALe.lst (.lit ([(⟨0, 0, (16384 : Int), (16384 : Int)⟩ : Rect)] : List Rect) (by kernel_rfl)), ⟨⟩⟩ ?_
 refine AW.ret ?_
 obtain rfl := Option.some.inj h
 exact Kn.D Fm
theorem ref06_Grow_spec {F : Nat} {e : Region} {a : Int} {r : Region × Int} (h : ref06_Grow F e a = some r) :
  FSpec Tryz.prog 52 [.v (.g [.d (DL e.rects_)]), vi a] [] (.t [.g [.d (DL (α := Rect) r.1.rects_)], .c (ci r.2)]) [] := by
 refine FSpec.intro prog_mixed prog_lay Tryz.func52 rfl (by kernel_rfl) fun C Fm => ?_
 unfold ref06_Grow at h
 refine AW.SG0 Fm 3 [(1, vi a), (2, pt 2), (4, pt 4)] [(2, bx [.d (DL e.rects_)]), (4, bx [.fl 0 fun _ => []])] ?_
 refine AW.seq ?_
 refine AW.seq ?_
 obtain ⟨n, p, h⟩ := bd_some h
 refine AW.G Fm [.s, .k (cE [] [] (vb n) [] []), .s] (fun K => K 1 ∧ True) [(1, vi a), (2, pt 2), (4, pt 4), (8, vb (!n))] [(2, bx [.d (DL e.rects_)]), (4, bx [.fl 0 fun _ => []])] ⟨KAt.CC (ref04_Valid_spec p) Tryz.call15 [], ⟨⟩⟩ ?_
 refine AW.cond (b := (!n)) (by kernel_rfl) (fun l => ?_) (fun l => ?_)
 ·have h := br_t h l
  refine AW.SG Fm [.w (.v (.g [.d (DL (α := Rect) [])])), .s, .s] (fun K => (ALe (.v (.g [.fl 0 fun _ => []])) (.v (.g [.d (DL (α := Rect) [])]))) ∧ True) [(4, pt 4), (5, vi (7 : Int))] [(4, bx [.d (DL (α := Rect) [])])] ⟨ALe.g ⟨CLe.fl .nil, ⟨⟩⟩, ⟨⟩⟩ ?_
  refine AW.ret ?_
  obtain rfl := Option.some.inj h
  exact Kn.D Fm
 ·have h := br_f h l
  refine AW.skip ?_
  refine AW.seq ?_
  refine AW.join (r := r) (fun z : Bool => ref06_Grow_k0 F e a z) (fun z => [(1, vi a), (2, pt 2), (4, pt 4), (15, vb z)]) (fun z => [(2, bx [.d (DL e.rects_)]), (4, bx [.fl 0 fun _ => []])]) (fun B h => ?_) (fun L o => ?_)
  ·refine AW.cond (b := B) (by kernel_rfl) (fun m => ?_) (fun m => ?_)
   ·have h := br_t h m
    refine AW.SG Fm [.w (.v (.g [.d (DL (α := Rect) [])])), .s, .s] (fun K => (ALe (.v (.g [.fl 0 fun _ => []])) (.v (.g [.d (DL (α := Rect) [])]))) ∧ True) [(4, pt 4), (5, vi (2 : Int))] [(4, bx [.d (DL (α := Rect) [])])] ⟨ALe.g ⟨CLe.fl .nil, ⟨⟩⟩, ⟨⟩⟩ ?_
    refine AW.ret ?_
    obtain rfl := Option.some.inj h
    exact Kn.D Fm
   ·have h := br_f h m
    refine AW.skip ?_
    refine AW.seq ?_
    obtain ⟨E, q, h⟩ := bd_some h
    obtain ⟨H, u, h⟩ := bd_some h
    obtain ⟨I, y, h⟩ := bd_some h
    obtain ⟨j, A, h⟩ := bd_some h
    refine AW.G Fm [.s, .s, .s, .k (cE [] [] (AL E) [] []), .k (cE [] [] (AL H) [] []), .k (cE [] [] (AL I) [] []), .k (cE [] [] (.t [.g [.d (DL j.1.rects_)], .c (ci j.2)]) [] []), .s, .s, .s, .s] (fun K => K 3 ∧ K 4 ∧ K 5 ∧ K 6 ∧ True) [(4, pt 4), (5, vi j.2)] [(4, bx [.d (DL j.1.rects_)])] ⟨KAt.CC (ref06_wide_spec q) Tryz.call106 [], KAt.CC (ref06_grid_spec u) Tryz.call107 [], KAt.CC (ref04_Combine_spec y) Tryz.call64 [], KAt.CC (ref04_Bound_spec A) Tryz.call67 [], ⟨⟩⟩ ?_
    refine AW.ret ?_
    obtain rfl := Option.some.inj h
    exact Kn.D Fm
  ·rcases Bool.eq_false_or_eq_true (decide (a < (0 : Int))) with i | i
   ·have h := br_t h i
    refine AW.G Fm [.s, .s, .w (vb true), .s, .s, .s] (fun K => (ALe (vb (decide (a < (0 : Int)))) (vb true)) ∧ True) [(1, vi a), (2, pt 2), (4, pt 4), (15, vb true)] [(2, bx [.d (DL e.rects_)]), (4, bx [.fl 0 fun _ => []])] ⟨ALe.bool i, ⟨⟩⟩ ?_
    exact Kn.R Fm (o true h)
   ·have h := br_f h i
    refine AW.G Fm [.s, .s, .w (vb false), .s, .s, .s] (fun K => (ALe (vb (decide (a < (0 : Int)))) (vb false)) ∧ True) [(1, vi a), (2, pt 2), (4, pt 4), (15, vb (decide ((64 : Int) < a)))] [(2, bx [.d (DL e.rects_)]), (4, bx [.fl 0 fun _ => []])] ⟨ALe.bool i, ⟨⟩⟩ ?_
    exact Kn.R Fm (o (decide ((64 : Int) < a)) h)
theorem ref06_Shrink_spec {F : Nat} {i : Region} {a : Int} {r : Region × Int} (h : ref06_Shrink F i a = some r) :
  FSpec Tryz.prog 53 [.v (.g [.d (DL i.rects_)]), vi a] [] (.t [.g [.d (DL (α := Rect) r.1.rects_)], .c (ci r.2)]) [] := by
 refine FSpec.intro prog_mixed prog_lay Tryz.func53 rfl (by kernel_rfl) fun C Fm => ?_
 unfold ref06_Shrink at h
 refine AW.SG0 Fm 3 [(1, vi a), (2, pt 2), (4, pt 4)] [(2, bx [.d (DL i.rects_)]), (4, bx [.fl 0 fun _ => []])] ?_
 refine AW.seq ?_
 refine AW.seq ?_
 obtain ⟨p, A, h⟩ := bd_some h
 refine AW.G Fm [.s, .k (cE [] [] (vb p) [] []), .s] (fun K => K 1 ∧ True) [(1, vi a), (2, pt 2), (4, pt 4), (11, vb (!p))] [(2, bx [.d (DL i.rects_)]), (4, bx [.fl 0 fun _ => []])] ⟨KAt.CC (ref04_Valid_spec A) Tryz.call15 [], ⟨⟩⟩ ?_
 refine AW.cond (b := (!p)) (by kernel_rfl) (fun m => ?_) (fun m => ?_)
 ·have h := br_t h m
  refine AW.SG Fm [.w (.v (.g [.d (DL (α := Rect) [])])), .s, .s] (fun K => (ALe (.v (.g [.fl 0 fun _ => []])) (.v (.g [.d (DL (α := Rect) [])]))) ∧ True) [(4, pt 4), (5, vi (7 : Int))] [(4, bx [.d (DL (α := Rect) [])])] ⟨ALe.g ⟨CLe.fl .nil, ⟨⟩⟩, ⟨⟩⟩ ?_
  refine AW.ret ?_
  obtain rfl := Option.some.inj h
  exact Kn.D Fm
 ·have h := br_f h m
  refine AW.skip ?_
  refine AW.seq ?_
  refine AW.join (r := r) (fun z : Bool => ref06_Shrink_k0 F i a z) (fun z => [(1, vi a), (2, pt 2), (4, pt 4), (18, vb z)]) (fun z => [(2, bx [.d (DL i.rects_)]), (4, bx [.fl 0 fun _ => []])]) (fun N h => ?_) (fun U q => ?_)
  ·refine AW.cond (b := N) (by kernel_rfl) (fun n => ?_) (fun n => ?_)
   ·have h := br_t h n
    refine AW.SG Fm [.w (.v (.g [.d (DL (α := Rect) [])])), .s, .s] (fun K => (ALe (.v (.g [.fl 0 fun _ => []])) (.v (.g [.d (DL (α := Rect) [])]))) ∧ True) [(4, pt 4), (5, vi (2 : Int))] [(4, bx [.d (DL (α := Rect) [])])] ⟨ALe.g ⟨CLe.fl .nil, ⟨⟩⟩, ⟨⟩⟩ ?_
    refine AW.ret ?_
    obtain rfl := Option.some.inj h
    exact Kn.D Fm
   ·have h := br_f h n
    refine AW.skip ?_
    refine AW.seq ?_
    obtain ⟨e, B, h⟩ := bd_some h
    refine AW.G Fm [.s, .k (cE [] [] (.t [.g (gC e.1), .c (.d (.bool e.2))]) [] []), .s, .s, .s, .s, .s, .s] (fun K => K 1 ∧ True) [(1, vi a), (2, pt 2), (4, pt 4), (6, pt 6), (7, vb e.2)] [(2, bx [.d (DL i.rects_)]), (4, bx [.fl 0 fun _ => []]), (6, bx (gC e.1))] ⟨KAt.CC (ref06_Bounds_spec B) Tryz.call49 [], ⟨⟩⟩ ?_
    refine AW.seq ?_
    refine AW.SG0 Fm 2 [(1, vi a), (2, pt 2), (4, pt 4), (6, pt 6), (26, vb (!e.2))] [(2, bx [.d (DL i.rects_)]), (4, bx [.fl 0 fun _ => []]), (6, bx (gC e.1))] ?_
    refine AW.cond (b := (!e.2)) (by kernel_rfl) (fun o => ?_) (fun o => ?_)
    ·have h := br_t h o
     refine AW.SG Fm [.w (.v (.g [.d (DL (α := Rect) [])])), .s, .s] (fun K => (ALe (.v (.g [.fl 0 fun _ => []])) (.v (.g [.d (DL (α := Rect) [])]))) ∧ True) [(4, pt 4), (5, vi (0 : Int))] [(4, bx [.d (DL (α := Rect) [])])] ⟨ALe.g ⟨CLe.fl .nil, ⟨⟩⟩, ⟨⟩⟩ ?_
     refine AW.ret ?_
     obtain rfl := Option.some.inj h
     exact Kn.D Fm
    ·have h := br_f h o
     refine AW.skip ?_
     refine AW.seq ?_
     obtain ⟨y, h⟩ := gd_some h
     obtain ⟨O, E, h⟩ := bd_some h
     obtain ⟨u, H, h⟩ := bd_some h
     refine AW.G Fm [.s, .w (AL (α := Rect) ([e.1] : List Rect)), .s, .s, .k (cE [] [] (AL O) [] []), .s, .s, .k (cE [] [] (AL u) [] []), .s] (fun K => (ALe (.v (.c (.d (.lst 1 (litF 4 [.int .i64 e.1.left_, .int .i64 e.1.low_, .int .i64 e.1.right_, .int .i64 e.1.high_]))))) (AL (α := Rect) ([e.1] : List Rect))) ∧ (I64 (a + (1 : Int)) ∧ True) ∧ K 4 ∧ K 7 ∧ True) [(1, vi a), (2, pt 2), (4, pt 4), (8, AL u)] [(2, bx [.d (DL i.rects_)]), (4, bx [.fl 0 fun _ => []])] ⟨ALe.lst (.lit ([e.1] : List Rect) (by kernel_rfl)), ⟨y, ⟨⟩⟩, KAt.CC (ref06_wide_spec E) Tryz.call106 [], KAt.CC (ref04_Combine_spec H) Tryz.call64 [], ⟨⟩⟩ ?_
     refine AW.seq ?_
     obtain ⟨P, I, h⟩ := bd_some h
     obtain ⟨T, L, h⟩ := bd_some h
     obtain ⟨l, M, h⟩ := bd_some h
     refine AW.G Fm [.s, .s, .s, .s, .k (cE [] [] (AL P) [] []), .k (cE [] [] (AL T) [] []), .k (cE [] [] (.t [.g [.d (DL l.1.rects_)], .c (ci l.2)]) [] []), .s, .s, .s, .s] (fun K => K 4 ∧ K 5 ∧ K 6 ∧ True) [(4, pt 4), (5, vi l.2)] [(4, bx [.d (DL l.1.rects_)])] ⟨KAt.CC (ref06_wide_spec I) Tryz.call106 [], KAt.CC (ref04_Combine_spec L) Tryz.call64 [], KAt.CC (ref04_Bound_spec M) Tryz.call67 [], ⟨⟩⟩ ?_
     refine AW.ret ?_
     obtain rfl := Option.some.inj h
     exact Kn.D Fm
  ·rcases Bool.eq_false_or_eq_true (decide (a < (0 : Int))) with j | j
   ·have h := br_t h j
    refine AW.G Fm [.s, .s, .w (vb true), .s, .s, .s] (fun K => (ALe (vb (decide (a < (0 : Int)))) (vb true)) ∧ True) [(1, vi a), (2, pt 2), (4, pt 4), (18, vb true)] [(2, bx [.d (DL i.rects_)]), (4, bx [.fl 0 fun _ => []])] ⟨ALe.bool j, ⟨⟩⟩ ?_
    exact Kn.R Fm (q true h)
   ·have h := br_f h j
    refine AW.G Fm [.s, .s, .w (vb false), .s, .s, .s] (fun K => (ALe (vb (decide (a < (0 : Int)))) (vb false)) ∧ True) [(1, vi a), (2, pt 2), (4, pt 4), (18, vb (decide ((64 : Int) < a)))] [(2, bx [.d (DL i.rects_)]), (4, bx [.fl 0 fun _ => []])] ⟨ALe.bool j, ⟨⟩⟩ ?_
    exact Kn.R Fm (q (decide ((64 : Int) < a)) h)
end Go.Ab
end
