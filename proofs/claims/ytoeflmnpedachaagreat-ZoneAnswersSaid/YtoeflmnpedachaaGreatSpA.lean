/- The code follows the plain programs: whenever the plain program has a result. -/
import Derived.Test.YtoeflmnpedachaaGreatBaA
set_option linter.unusedVariables false
set_option linter.unusedSimpArgs false
section
namespace Go.Ab
open Go.Proofs
set_option linter.unusedVariables false
set_option maxRecDepth 100000
theorem slices_IndexFunc_Rect_spec {F : Nat} {x1 : (List Rect)} {x2 : Rect → Option Bool} {r : Int} (h : slices_IndexFunc_Rect F x1 x2 = some r) :
  FSpec Tryz.prog 229 [AL x1, .v (.c (.sem (CloOK Tryz.prog (FR_Rect_Bool x2))))] [] (vi r) [] := by
 refine FI Tryz.func229 prog_mixed prog_lay fun C Fm => ?_
 unfold slices_IndexFunc_Rect at h
 refine AW.SG0 Fm 1 [(0, AL x1), (1, .v (.c (.sem (CloOK Tryz.prog (FR_Rect_Bool x2)))))] [] ?_
 refine AW.join (r := r) (fun z : Unit => slices_IndexFunc_Rect_k1 F) (fun z => []) (fun z => []) (fun z h => ?_) (fun p e => ?_)
 ·refine AW.SG0 Fm 1 [(4, vi (-1 : Int))] [] ?_
  refine AW.ret ?_
  obtain rfl := Option.some.inj h
  exact Kn.D Fm
 ·refine AW.SG0 Fm 3 [(0, AL x1), (1, .v (.c (.sem (CloOK Tryz.prog (FR_Rect_Bool x2))))), (7, vi (lI x1)), (8, vi 0)] [] ?_
  refine AW.block (AW.loopF (E' := fun z => [(0, AL x1), (1, .v (.c (.sem (CloOK Tryz.prog (FR_Rect_Bool x2))))), (7, vi (lI x1)), (8, vi z)]) (S' := fun z => []) (fun q a o d h => ?_) h)
  refine AW.SG0 Fm 1 [(0, AL x1), (1, .v (.c (.sem (CloOK Tryz.prog (FR_Rect_Bool x2))))), (7, vi (lI x1)), (8, vi a), (9, vb (decide (a < (lI x1))))] [] ?_
  refine AW.seq (AW.cN h (fun i h => ?_) (fun i h => ?_))
  ·refine AW.skip (AW.seq (AW.block (AW.SG0 Fm 2 [(0, AL x1), (1, .v (.c (.sem (CloOK Tryz.prog (FR_Rect_Bool x2))))), (5, vi a), (7, vi (lI x1)), (8, vi a)] [] ?_)))
   refine AW.seq ?_
   obtain ⟨l, h⟩ := gS h
   obtain ⟨b, n, h⟩ := bS h
   refine AW.G Fm [.s, .s, .s, .s, .s, .k (sE (vb b))] (fun K => _ ∧ K 5 ∧ True) [(0, AL x1), (1, .v (.c (.sem (CloOK Tryz.prog (FR_Rect_Bool x2))))), (5, vi a), (7, vi (lI x1)), (8, vi a), (16, vb b)] [] ⟨l, KAt.sem (F := (FR_Rect_Bool x2)) (args := [.v (.g [ci ((gl x1 a.toNat).left_), ci ((gl x1 a.toNat).low_), ci ((gl x1 a.toNat).right_), ci ((gl x1 a.toNat).high_)])]) ⟨(gl x1 a.toNat), b, n, rfl, rfl⟩ rfl (by kernel_rfl) (by kernel_rfl) (by kernel_rfl), ⟨⟩⟩ ?_
   refine AW.cN h (fun j h => ?_) (fun j h => ?_)
   ·refine AW.SG0 Fm 2 [(4, vi a)] [] ?_
    refine AW.ret ?_
    obtain rfl := Option.some.inj h
    exact Kn.D Fm
   ·refine AW.skip ?_
    obtain ⟨m, h⟩ := gS h
    refine AW.pN Fm [.s, .s] [(0, AL x1), (1, .v (.c (.sem (CloOK Tryz.prog (FR_Rect_Bool x2))))), (7, vi (lI x1)), (8, vi (a + 1))] [] (cT (cT m)) ?_
    exact Kn.R Fm (d (a + 1) h)
  ·exact AW.exit (Kn.R Fm (e () h))
theorem slices_ContainsFunc_Rect_spec {F : Nat} {a : (List Rect)} {b : Rect → Option Bool} {r : Bool} (h : slices_ContainsFunc_Rect F a b = some r) :
  FSpec Tryz.prog 171 [AL a, .v (.c (.sem (CloOK Tryz.prog (FR_Rect_Bool b))))] [] (vb r) [] := by
 refine FI Tryz.func171 prog_mixed prog_lay fun C Fm => ?_
 unfold slices_ContainsFunc_Rect at h
 refine AW.SG0 Fm 1 [(0, AL a), (1, .v (.c (.sem (CloOK Tryz.prog (FR_Rect_Bool b)))))] [] ?_
 refine AW.seq ?_
 obtain ⟨d, e, h⟩ := bS h
 refine AW.G Fm [.s, .s, .k (cE [] [] (vi d) [] []), .s, .s] (fun K => K 2 ∧ True) [(4, vb (decide ((0 : Int) ≤ d)))] [] ⟨KAt.callX (slices_IndexFunc_Rect_spec e) Tryz.call229 [] [] [.tmp 5, .tmp 6] rfl (by kernel_rfl) (by kernel_rfl) (by kernel_rfl) ⟨.p, ArgT.semX (by kernel_rfl) (by kernel_rfl) (by kernel_rfl), ⟨⟩⟩, ⟨⟩⟩ ?_
 refine AW.ret ?_
 obtain rfl := Option.some.inj h
 exact Kn.D Fm
theorem region_proper_spec {F : Nat} {e : Rect} {r : Bool} (h : region_proper F e = some r) :
  FSpec Tryz.prog 173 [gE e] [] (vb r) [] := by
 refine FI Tryz.func173 prog_mixed prog_lay fun C Fm => ?_
 unfold region_proper at h
 refine AW.SG0 Fm 2 [(1, pt 1)] [(1, bx (gC e))] ?_
 refine AW.join (r := r) (fun z : Bool => region_proper_k0 F z) (fun z => [(2, vb z)]) (fun z => []) (fun l h => ?_) (fun k b => ?_)
 ·refine AW.ret ?_
  obtain rfl := Option.some.inj h
  exact Kn.D Fm
 ·rcases br_or h with ⟨a, h⟩ | ⟨a, h⟩
  ·rcases br_or h with ⟨c, h⟩ | ⟨c, h⟩
   ·rcases br_or h with ⟨d, h⟩ | ⟨d, h⟩
    ·rcases br_or h with ⟨i, h⟩ | ⟨i, h⟩
     ·rcases br_or h with ⟨j, h⟩ | ⟨j, h⟩
      ·refine AW.pN Fm [.s, .s, .s, .w (vb true), .s, .s, .s, .s, .s, .s, .w (vb true), .s, .s, .s, .s, .w (vb true), .s, .s, .s, .s, .w (vb true), .s, .s, .s, .s, .s, .s, .w (vb true), .s, .s, .s, .s, .s] [(2, vb (decide (e.high_ ≤ (16384 : Int))))] [] (cA (ALe.bool a) (cA (ALe.bool c) (cA (ALe.bool d) (cA (ALe.bool i) (cT (ALe.bool j)))))) ?_
       exact Kn.R Fm (b (decide (e.high_ ≤ (16384 : Int))) h)
      ·refine AW.pN Fm [.s, .s, .s, .w (vb true), .s, .s, .s, .s, .s, .s, .w (vb true), .s, .s, .s, .s, .w (vb true), .s, .s, .s, .s, .w (vb true), .s, .s, .s, .s, .s, .s, .w (vb false), .s, .s, .s, .s, .s] [(2, vb false)] [] (cA (ALe.bool a) (cA (ALe.bool c) (cA (ALe.bool d) (cA (ALe.bool i) (cT (ALe.bool j)))))) ?_
       exact Kn.R Fm (b false h)
     ·refine AW.pN Fm [.s, .s, .s, .w (vb true), .s, .s, .s, .s, .s, .s, .w (vb true), .s, .s, .s, .s, .w (vb true), .s, .s, .s, .s, .w (vb false), .s, .s, .s, .s, .s, .s, .s, .s, .s, .s, .s, .s] [(2, vb false)] [] (cA (ALe.bool a) (cA (ALe.bool c) (cA (ALe.bool d) (cT (ALe.bool i))))) ?_
      exact Kn.R Fm (b false h)
    ·refine AW.pN Fm [.s, .s, .s, .w (vb true), .s, .s, .s, .s, .s, .s, .w (vb true), .s, .s, .s, .s, .w (vb false), .s, .s, .s, .s, .s, .s, .s, .s, .s, .s, .s, .s, .s, .s, .s, .s, .s] [(2, vb false)] [] (cA (ALe.bool a) (cA (ALe.bool c) (cT (ALe.bool d)))) ?_
     exact Kn.R Fm (b false h)
   ·refine AW.pN Fm [.s, .s, .s, .w (vb true), .s, .s, .s, .s, .s, .s, .w (vb false), .s, .s, .s, .s, .s, .s, .s, .s, .s, .s, .s, .s, .s, .s, .s, .s, .s, .s, .s, .s, .s, .s] [(2, vb false)] [] (cA (ALe.bool a) (cT (ALe.bool c))) ?_
    exact Kn.R Fm (b false h)
  ·refine AW.pN Fm [.s, .s, .s, .w (vb false), .s, .s, .s, .s, .s, .s, .s, .s, .s, .s, .s, .s, .s, .s, .s, .s, .s, .s, .s, .s, .s, .s, .s, .s, .s, .s, .s, .s, .s] [(2, vb false)] [] (cT (ALe.bool a)) ?_
   exact Kn.R Fm (b false h)
theorem region_Valid_1_spec {F : Nat} {a : Rect} {r : Bool} (h : region_Valid_1 F a = some r) :
  FSpec Tryz.prog 172 [gE a] [] (vb r) [] := by
 refine FI Tryz.func172 prog_mixed prog_lay fun C Fm => ?_
 unfold region_Valid_1 at h
 refine AW.SG0 Fm 2 [(1, pt 1)] [(1, bx (gC a))] ?_
 refine AW.seq ?_
 obtain ⟨b, c, h⟩ := bS h
 refine AW.G Fm [.s, .k (cE [] [] (vb b) [] []), .s, .s] (fun K => K 1 ∧ True) [(2, vb (!b))] [] ⟨KAt.CC (region_proper_spec c) Tryz.call173 [], ⟨⟩⟩ ?_
 refine AW.ret ?_
 obtain rfl := Option.some.inj h
 exact Kn.D Fm
theorem slices_Compact_int_spec {F : Nat} {b : (List Int)} {r : (List Int)} (h : slices_Compact_int F b = some r) :
  FSpec Tryz.prog 146 [ow 0] [(0, AO b)] (ow 100) [(100, AO (α := Int) r)] := by
 refine FI Tryz.func146 prog_mixed prog_lay fun C Fm => ?_
 unfold slices_Compact_int at h
 refine AW.SG Fm [.m] (fun K => True) [(0, ow 0)] [(0, AO b)] True.intro ?_
 refine AW.seq (AW.SG0 Fm 3 [(0, ow 0), (8, vb (decide ((lI b) < (2 : Int))))] [(0, AO b)] ?_)
 refine AW.cN h (fun V h => ?_) (fun V h => ?_)
 ·refine AW.SG0 Fm 2 [(2, ow 0)] [(0, AO b)] ?_
  refine AW.ret ?_
  obtain rfl := Option.some.inj h
  exact Kn.re Fm [(100, 0)] [(2, ow 100)] [(100, AO b)] (by kernel_rfl) (by kernel_rfl) (by kernel_rfl) (by kernel_rfl) (Kn.dn Fm (by kernel_rfl))
 ·refine AW.skip (AW.join (r := r) (fun z : Unit => slices_Compact_int_k5 F b) (fun z => [(0, ow 0)]) (fun z => [(0, AO b)]) (fun z h => ?_) (fun t0 O => ?_))
  ·refine AW.SG0 Fm 2 [(2, ow 0)] [(0, AO b)] ?_
   refine AW.ret ?_
   obtain rfl := Option.some.inj h
   exact Kn.re Fm [(100, 0)] [(2, ow 100)] [(100, AO b)] (by kernel_rfl) (by kernel_rfl) (by kernel_rfl) (by kernel_rfl) (Kn.dn Fm (by kernel_rfl))
  ·refine AW.SG0 Fm 1 [(0, ow 0), (3, vi 1)] [(0, AO b)] ?_
   refine AW.block (AW.loopF (E' := fun z => [(0, ow 0), (3, vi z)]) (S' := fun z => [(0, AO b)]) (fun G a u0 P h => ?_) h)
   refine AW.seq (AW.SG0 Fm 4 [(0, ow 0), (3, vi a), (13, vb (decide (a < (lI b))))] [(0, AO b)] ?_)
   refine AW.cN h (fun W h => ?_) (fun W h => ?_)
   ·refine AW.skip (AW.join (r := r) (fun z : Unit => slices_Compact_int_k4 F a G) (fun z => [(0, ow 0), (3, vi a)]) (fun z => [(0, AO b)]) (fun z h => ?_) (fun s0 M => ?_))
    ·obtain ⟨l0, h⟩ := gS h
     refine AW.pN Fm [.s, .s, .s] [(0, ow 0), (3, vi (a + 1))] [(0, AO b)] (cT (cT l0)) ?_
     exact Kn.R Fm (P (a + 1) h)
    ·refine AW.block ?_
     obtain ⟨A, m0, B, h⟩ := gS3 h
     refine AW.SP Fm [.s, .s, .s, .s, .s, .s, .s, .s, .s, .s] [(0, ow 0), (3, vi a), (25, vb ((gl b a.toNat) == (gl b (a - 1).toNat)))] [(0, AO b)] (cA A (cA (toNat_lt A) (cA (cT m0) (cA B (cT (toNat_lt B)))))) ?_
     refine AW.cN h (fun X h => ?_) (fun X h => ?_)
     ·obtain ⟨n0, h⟩ := gS h
      refine AW.SG Fm [.s, .s, .k (rE { v := .v (.c (.sub 0 1 (0 + (a).toNat) ((List.length (α := Int) b) - (a).toNat))) }), .s] (fun K => K 2 ∧ True) [(0, ow 0), (3, vi a), (4, .v (.c (.sub 0 1 (0 + (a).toNat) ((List.length (α := Int) b) - (a).toNat))))] [(0, AO b)] ⟨KAt.vslice (l := (some a)) (u := none) (id := 0) (lo0 := 0) (n := (List.length (α := Int) b)) (N := List.length (α := Int) b) (f := LF (α := Int) b) prog_lay slT22 rfl rfl (by kernel_rfl) (by kernel_rfl) (by kernel_rfl) (by kernel_rfl) (by kernel_rfl) n0 (by kernel_rfl), ⟨⟩⟩ ?_
      refine AW.join (r := r) (fun z : Int × (List Int) => slices_Compact_int_k3 F z.1 z.2) (fun z => [(0, ow 0), (3, vi z.1)]) (fun z => [(0, AO z.2)]) (fun z h => ?_) (fun q0 L => ?_)
      ·obtain ⟨d, o⟩ := z
       obtain ⟨k0, h⟩ := gS h
       refine AW.SW Fm [.s, .s, .k (rE { v := .v (.c (.sub 0 1 (0 + (d).toNat) ((List.length (α := Int) o) - (d).toNat))) }), .k (rE { v := .any, upd := some (0, .arr 1 (List.length (α := Int) o) (fun i => if (0 + (d).toNat) ≤ i ∧ i < (0 + (d).toNat) + ((List.length (α := Int) o) - (d).toNat) then (fun _ => [.int .i64 0]) (i - (0 + (d).toNat)) else (LF (α := Int) o) i)) })] (fun K => K 2 ∧ K 3 ∧ True) [(0, ow 0), (3, vi d)] [(0, AO (α := Int) (clr o (0 + (d).toNat) ((List.length (α := Int) o) - (d).toNat)))] ⟨KAt.vslice (l := (some d)) (u := none) (id := 0) (lo0 := 0) (n := (List.length (α := Int) o)) (N := List.length (α := Int) o) (f := LF (α := Int) o) prog_lay slT22 rfl rfl (by kernel_rfl) (by kernel_rfl) (by kernel_rfl) (by kernel_rfl) (by kernel_rfl) k0 (by kernel_rfl), KAt.vclear (id := 0) (lo0 := (0 + (d).toNat)) (n := ((List.length (α := Int) o) - (d).toNat)) (N := List.length (α := Int) o) (f := (LF (α := Int) o)) prog_lay slT22 [.int .i64 0] [.int .i64 0] ⟨DLe.refl _, ⟨⟩⟩ rfl rfl (by kernel_rfl) (Nat.succ_pos _) (by kernel_rfl) (by kernel_rfl) (by kernel_rfl) (by kernel_rfl) rfl, ⟨⟩⟩ [(0, .arr 1 (List.length (α := Int) o) (fun i => if (0 + (d).toNat) ≤ i ∧ i < (0 + (d).toNat) + ((List.length (α := Int) o) - (d).toNat) then (fun _ => [.int .i64 0]) (i - (0 + (d).toNat)) else (LF (α := Int) o) i))] ⟨OLe.is (Is.clr (l := o) (0 + (d).toNat) ((List.length (α := Int) o) - (d).toNat) (zd := [.int .i64 0]) (by kernel_rfl)), ⟨⟩⟩ ?_
       obtain ⟨y, h⟩ := gS h
       refine AW.SV Fm [.s, .s, .m, .s] [(2, ow 59)] [(59, AO (α := Int) ((clr o (0 + (d).toNat) ((List.length (α := Int) o) - (d).toNat)).take (d).toNat))] (cT y) [(59, .arr 1 ((d).toNat) (LF (α := Int) (clr o (0 + (d).toNat) ((List.length (α := Int) o) - (d).toNat))))] ⟨OLe.is (Is.take (Is.refl (clr o (0 + (d).toNat) ((List.length (α := Int) o) - (d).toNat))) y.2), ⟨⟩⟩ ?_
       refine AW.ret ?_
       obtain rfl := Option.some.inj h
       exact Kn.re Fm [(100, 59)] [(2, ow 100)] [(100, AO (α := Int) ((clr o (0 + (d).toNat) ((List.length (α := Int) o) - (d).toNat)).take (d).toNat))] (by kernel_rfl) (by kernel_rfl) (by kernel_rfl) (by kernel_rfl) (Kn.dn Fm (by kernel_rfl))
      ·refine AW.SG0 Fm 1 [(0, ow 0), (3, vi a), (4, .v (.c (.sub 0 1 (0 + (a).toNat) ((List.length (α := Int) b) - (a).toNat)))), (5, vi 1)] [(0, AO b)] ?_
       refine AW.block (AW.loopF (E' := fun z => [(0, ow 0), (3, vi z.1), (4, .v (.c (.sub 0 1 (0 + (a).toNat) ((List.length (α := Int) b) - (a).toNat)))), (5, vi z.2.1)]) (S' := fun z => [(0, AO z.2.2)]) (fun H z o0 I h => ?_) h)
       obtain ⟨q, p, e⟩ := z
       refine AW.seq (AW.SG Fm [.s, .s, .k (rE { v := vi ((((List.length (α := Int) b) - (a).toNat) : Nat) : Int) }), .s] (fun K => K 2 ∧ True) [(0, ow 0), (3, vi q), (4, .v (.c (.sub 0 1 (0 + (a).toNat) ((List.length (α := Int) b) - (a).toNat)))), (5, vi p), (32, vb (decide (p < ((((List.length (α := Int) b) - (a).toNat) : Nat) : Int))))] [(0, AO e)] ⟨KAt.vlen (es := 1) (id := 0) (lo0 := (0 + (a).toNat)) (n := ((List.length (α := Int) b) - (a).toNat)) (N := List.length (α := Int) e) (f := LF (α := Int) e) prog_lay slT22 rfl rfl (by kernel_rfl) (by kernel_rfl) (by kernel_rfl), ⟨⟩⟩ ?_)
       refine AW.cN h (fun T h => ?_) (fun T h => ?_)
       ·refine AW.skip (AW.join (r := r) (fun z : Int × (List Int) => slices_Compact_int_k2 F p H z.1 z.2) (fun z => [(0, ow 0), (3, vi z.1), (4, .v (.c (.sub 0 1 (0 + (a).toNat) ((List.length (α := Int) b) - (a).toNat)))), (5, vi p)]) (fun z => [(0, AO z.2)]) (fun z h => ?_) (fun p0 w => ?_))
        ·obtain ⟨D, E⟩ := z
         obtain ⟨j0, h⟩ := gS h
         refine AW.pN Fm [.s, .s, .s] [(0, ow 0), (3, vi D), (4, .v (.c (.sub 0 1 (0 + (a).toNat) ((List.length (α := Int) b) - (a).toNat)))), (5, vi (p + 1))] [(0, AO E)] (cT (cT j0)) ?_
         exact Kn.R Fm (I (D, (p + 1), E) h)
        ·refine AW.block ?_
         obtain ⟨Y, Z, a0, b0, h⟩ := gS4 h
         obtain ⟨c0, h⟩ := gS h
         refine AW.SG Fm [.s, .s, .k (rE { v := .v (.c (.pte 0 1 ((0 + (a).toNat) + (p).toNat) 0)) }), .s, .s, .s, .s, .k (rE { v := .v (.c (.pte 0 1 ((0 + (a).toNat) + ((p - 1)).toNat) 0)) }), .s, .s] (fun K => K 2 ∧ _ ∧ (_ ∧ True) ∧ K 7 ∧ _ ∧ True) [(0, ow 0), (3, vi q), (4, .v (.c (.sub 0 1 (0 + (a).toNat) ((List.length (α := Int) b) - (a).toNat)))), (5, vi p), (44, vb ((gl e ((0 + (a).toNat) + (p).toNat)) != (gl e ((0 + (a).toNat) + ((p - 1)).toNat))))] [(0, AO e)] ⟨KAt.vindex (m := p) (id := 0) (lo0 := (0 + (a).toNat)) (n := ((List.length (α := Int) b) - (a).toNat)) (N := List.length (α := Int) e) (f := LF (α := Int) e) prog_lay slT22 rfl rfl (by kernel_rfl) (by kernel_rfl) (by kernel_rfl) (by kernel_rfl) Y (by kernel_rfl), Z, ⟨a0, ⟨⟩⟩, KAt.vindex (m := (p - 1)) (id := 0) (lo0 := (0 + (a).toNat)) (n := ((List.length (α := Int) b) - (a).toNat)) (N := List.length (α := Int) e) (f := LF (α := Int) e) prog_lay slT22 rfl rfl (by kernel_rfl) (by kernel_rfl) (by kernel_rfl) (by kernel_rfl) b0 (by kernel_rfl), c0, ⟨⟩⟩ ?_
         refine AW.cN h (fun U h => ?_) (fun U h => ?_)
         ·obtain ⟨d0, e0, t, h⟩ := gS3 h
          refine AW.SW Fm [.s, .s, .s, .s, .k (rE { v := .v (.c (.pte 0 1 ((0 + (a).toNat) + (p).toNat) 0)) }), .s, .s, .s] (fun K => K 4 ∧ _ ∧ _ ∧ _ ∧ True) [(0, ow 0), (3, vi q), (4, .v (.c (.sub 0 1 (0 + (a).toNat) ((List.length (α := Int) b) - (a).toNat)))), (5, vi p)] [(0, AO (α := Int) (List.set e q.toNat (gl e ((0 + (a).toNat) + (p).toNat))))] ⟨KAt.vindex (m := p) (id := 0) (lo0 := (0 + (a).toNat)) (n := ((List.length (α := Int) b) - (a).toNat)) (N := List.length (α := Int) e) (f := LF (α := Int) e) prog_lay slT22 rfl rfl (by kernel_rfl) (by kernel_rfl) (by kernel_rfl) (by kernel_rfl) d0 (by kernel_rfl), e0, t, (toNat_lt t), ⟨⟩⟩ [(0, .arr 1 (List.length (α := Int) e) (fun j => if j = q.toNat then splice ((LF (α := Int) e) q.toNat) 0 [.int .i64 (gl e ((0 + (a).toNat) + (p).toNat))] else (LF (α := Int) e) j))] ⟨OLe.is (Is.set (Is.refl e) (toNat_lt t) (gl e ((0 + (a).toNat) + (p).toNat)) (by kernel_rfl)), ⟨⟩⟩ ?_
          obtain ⟨i0, h⟩ := gS h
          refine AW.pN Fm [.s, .s, .s] [(0, ow 0), (3, vi (q + 1)), (4, .v (.c (.sub 0 1 (0 + (a).toNat) ((List.length (α := Int) b) - (a).toNat)))), (5, vi p)] [(0, AO (α := Int) (List.set e q.toNat (gl e ((0 + (a).toNat) + (p).toNat))))] (cT (cT i0)) ?_
          exact Kn.R Fm (w ((q + 1), (List.set e q.toNat (gl e ((0 + (a).toNat) + (p).toNat)))) h)
         ·exact AW.skip (Kn.R Fm (w (q, e) h))
       ·exact AW.exit (Kn.R Fm (L (q, e) h))
     ·exact AW.skip (Kn.R Fm (M () h))
   ·exact AW.exit (Kn.R Fm (O () h))
theorem region_Cuts_spec {F : Nat} {a : (List (List Rect))} {r : (List Int)} (h : region_Cuts F a = some r) :
  FSpec Tryz.prog 177 [AL a] [] (AL (α := Int) r) [] := by
 refine FI Tryz.func177 prog_mixed prog_lay fun C Fm => ?_
 unfold region_Cuts at h
 refine AW.SG0 Fm 1 [(0, AL a)] [] ?_
 refine AW.SW Fm [.m] (fun K => True) [(0, AL a), (3, ow 3)] [(3, AO (α := Int) ([] : List Int))] True.intro [(3, .arr 1 (0) (fun _ => []))] ⟨OLe.is ((Is.nil (α := Int))), ⟨⟩⟩ ?_
 refine AW.join (r := r) (fun z : (List Int) => region_Cuts_k3 F z) (fun z => [(3, ow 3)]) (fun z => [(3, AO z)]) (fun P h => ?_) (fun W y => ?_)
 ·refine AW.seq ?_
  obtain ⟨n, N, h⟩ := bS h
  refine AW.G Fm [.s, .k (cE [(0, 3)] [] (.any) [(0, AO P)] [(0, AO n)])] (fun K => K 1 ∧ True) [(3, ow 3)] [(3, AO n)] ⟨KAt.CC (sortI_spec N) Tryz.call145 [(0, 3)], ⟨⟩⟩ ?_
  refine AW.seq ?_
  obtain ⟨l, O, h⟩ := bS h
  refine AW.G Fm [.s, .k (cE [(0, 3), (100, 32)] [] (ow 100) [(0, AO n)] [(100, AO l)]), .s] (fun K => K 1 ∧ True) [(2, ow 32)] [(32, AO l)] ⟨KAt.CC (slices_Compact_int_spec O) Tryz.call146 [(0, 3), (100, 32)], ⟨⟩⟩ ?_
  refine AW.ret ?_
  obtain rfl := Option.some.inj h
  refine Kn.r Fm [(2, ow 32)] [(32, AO l)] (by kernel_rfl) ?_
  refine Kn.frz [(2, AL l)] [] (by kernel_rfl) (by kernel_rfl) (by kernel_rfl) ?_
  exact Kn.D Fm
 ·refine AW.SG0 Fm 3 [(3, ow 3), (8, AL a), (9, vi (lI a)), (10, vi 0)] [(3, AO (α := Int) ([] : List Int))] ?_
  refine AW.block (Kn.r Fm [(3, ow 3), (8, AL a), (9, vi (lI a)), (10, vi 0)] [(3, AO ([] : List Int))] (by kernel_rfl) ?_)
  refine AW.loopF (E' := fun z => [(3, ow 3), (8, AL a), (9, vi (lI a)), (10, vi z.1)]) (S' := fun z => [(3, AO z.2)]) (fun p z T q h => ?_) h
  obtain ⟨b, j⟩ := z
  refine AW.SG0 Fm 1 [(3, ow 3), (8, AL a), (9, vi (lI a)), (10, vi b), (11, vb (decide (b < (lI a))))] [(3, AO j)] ?_
  refine AW.seq (AW.cN h (fun A h => ?_) (fun A h => ?_))
  ·refine AW.skip (AW.join (r := r) (fun z : (List Int) => region_Cuts_k2 F b p z) (fun z => [(3, ow 3), (8, AL a), (9, vi (lI a)), (10, vi b)]) (fun z => [(3, AO z)]) (fun o h => ?_) (fun V u => ?_))
   ·obtain ⟨M, h⟩ := gS h
    refine AW.pN Fm [.s, .s] [(3, ow 3), (8, AL a), (9, vi (lI a)), (10, vi (b + 1))] [(3, AO o)] (cT (cT M)) ?_
    exact Kn.R Fm (q ((b + 1), o) h)
   ·refine AW.block ?_
    obtain ⟨E, h⟩ := gS h
    refine AW.SP Fm [.s, .s, .s] [(3, ow 3), (5, AL (α := Rect) (gl a b.toNat)), (8, AL a), (9, vi (lI a)), (10, vi b)] [(3, AO j)] (cT E) ?_
    refine AW.SG0 Fm 3 [(3, ow 3), (8, AL a), (9, vi (lI a)), (10, vi b), (14, AL (α := Rect) (gl a b.toNat)), (15, vi (lI (gl a b.toNat))), (16, vi 0)] [(3, AO j)] ?_
    refine AW.block (AW.loopF (E' := fun z => [(3, ow 3), (8, AL a), (9, vi (lI a)), (10, vi b), (14, AL (α := Rect) (gl a b.toNat)), (15, vi (lI (gl a b.toNat))), (16, vi z.1)]) (S' := fun z => [(3, AO z.2)]) (fun X z U t h => ?_) h)
    obtain ⟨e, i⟩ := z
    refine AW.SG0 Fm 1 [(3, ow 3), (8, AL a), (9, vi (lI a)), (10, vi b), (14, AL (α := Rect) (gl a b.toNat)), (15, vi (lI (gl a b.toNat))), (16, vi e), (17, vb (decide (e < (lI (gl a b.toNat)))))] [(3, AO i)] ?_
    refine AW.seq (AW.cN h (fun B h => ?_) (fun B h => ?_))
    ·refine AW.skip (AW.seq (AW.block ?_))
     obtain ⟨H, h⟩ := gS h
     refine AW.SP Fm [.s, .s, .s, .s] [(3, ow 3), (7, pt 7), (8, AL a), (9, vi (lI a)), (10, vi b), (14, AL (α := Rect) (gl a b.toNat)), (15, vi (lI (gl a b.toNat))), (16, vi e)] [(3, AO i), (7, bx [ci ((gl (gl a b.toNat) e.toNat).left_), ci ((gl (gl a b.toNat) e.toNat).low_), ci ((gl (gl a b.toNat) e.toNat).right_), ci ((gl (gl a b.toNat) e.toNat).high_)])] (cT H) ?_
     obtain ⟨I, h⟩ := gS h
     refine AW.WP Fm [.s, .s, .s, .s, .s, .w (AL (α := Int) ([(gl (gl a b.toNat) e.toNat).low_, (gl (gl a b.toNat) e.toNat).high_] : List Int)), .s, .s] [(3, ow 26), (8, AL a), (9, vi (lI a)), (10, vi b), (14, AL (α := Rect) (gl a b.toNat)), (15, vi (lI (gl a b.toNat))), (16, vi e)] [(26, AO (α := Int) (i ++ ([(gl (gl a b.toNat) e.toNat).low_, (gl (gl a b.toNat) e.toNat).high_] : List Int)))] (cA (ALe.lst (.lit ([(gl (gl a b.toNat) e.toNat).low_, (gl (gl a b.toNat) e.toNat).high_] : List Int) (by kernel_rfl)) : ALe (.v (.c (.d (.lst 2 (litF 1 [.int .i64 (gl (gl a b.toNat) e.toNat).low_, .int .i64 (gl (gl a b.toNat) e.toNat).high_]))))) (AL (α := Int) ([(gl (gl a b.toNat) e.toNat).low_, (gl (gl a b.toNat) e.toNat).high_] : List Int))) (cT (cA I (cT (Is.refl ([(gl (gl a b.toNat) e.toNat).low_, (gl (gl a b.toNat) e.toNat).high_] : List Int) : Is (List.length (α := Int) ([(gl (gl a b.toNat) e.toNat).low_, (gl (gl a b.toNat) e.toNat).high_] : List Int)) (LF (α := Int) ([(gl (gl a b.toNat) e.toNat).low_, (gl (gl a b.toNat) e.toNat).high_] : List Int)) ([(gl (gl a b.toNat) e.toNat).low_, (gl (gl a b.toNat) e.toNat).high_] : List Int)).len)))) [(26, .arr 1 ((List.length (α := Int) i) + (List.length (α := Int) ([(gl (gl a b.toNat) e.toNat).low_, (gl (gl a b.toNat) e.toNat).high_] : List Int))) (appF (List.length (α := Int) i) (LF (α := Int) i) (LF (α := Int) ([(gl (gl a b.toNat) e.toNat).low_, (gl (gl a b.toNat) e.toNat).high_] : List Int))))] ⟨OLe.is (Is.app (Is.refl i) (Is.refl ([(gl (gl a b.toNat) e.toNat).low_, (gl (gl a b.toNat) e.toNat).high_] : List Int))), ⟨⟩⟩ ?_
     obtain ⟨L, h⟩ := gS h
     refine AW.pN Fm [.s, .s] [(3, ow 26), (8, AL a), (9, vi (lI a)), (10, vi b), (14, AL (α := Rect) (gl a b.toNat)), (15, vi (lI (gl a b.toNat))), (16, vi (e + 1))] [(26, AO (α := Int) (i ++ ([(gl (gl a b.toNat) e.toNat).low_, (gl (gl a b.toNat) e.toNat).high_] : List Int)))] (cT (cT L)) ?_
     exact Kn.RE Fm [(3, 26)] (t ((e + 1), (i ++ ([(gl (gl a b.toNat) e.toNat).low_, (gl (gl a b.toNat) e.toNat).high_] : List Int))) h)
    ·exact AW.exit (Kn.R Fm (u i h))
  ·exact AW.exit (Kn.R Fm (y j h))
theorem cmp_isNaN_int_spec {F : Nat} {a : Int} {r : Bool} (h : cmp_isNaN_int F a = some r) :
  FSpec Tryz.prog 247 [vi a] [] (vb r) [] := by
 refine FI Tryz.func247 prog_mixed prog_lay fun C Fm => ?_
 unfold cmp_isNaN_int at h
 refine AW.SG0 Fm 1 [(0, vi a)] [] ?_
 refine AW.SG0 Fm 4 [(2, vb (a != a))] [] ?_
 refine AW.ret ?_
 obtain rfl := Option.some.inj h
 exact Kn.D Fm
theorem cmp_Compare_int_spec {F : Nat} {a : Int} {b : Int} {r : Int} (h : cmp_Compare_int F a b = some r) :
  FSpec Tryz.prog 186 [vi a, vi b] [] (vi r) [] := by
 refine FI Tryz.func186 prog_mixed prog_lay fun C Fm => ?_
 unfold cmp_Compare_int at h
 refine AW.SG0 Fm 1 [(0, vi a), (1, vi b)] [] ?_
 refine AW.seq ?_
 obtain ⟨d, n, h⟩ := bS h
 refine AW.G Fm [.s, .k (cE [] [] (vb d) [] []), .s] (fun K => K 1 ∧ True) [(0, vi a), (1, vi b), (5, vb d)] [] ⟨KAt.CC (cmp_isNaN_int_spec n) Tryz.call247 [], ⟨⟩⟩ ?_
 refine AW.seq ?_
 obtain ⟨c, o, h⟩ := bS h
 refine AW.G Fm [.s, .k (cE [] [] (vb c) [] []), .s] (fun K => K 1 ∧ True) [(0, vi a), (1, vi b), (5, vb d), (6, vb c)] [] ⟨KAt.CC (cmp_isNaN_int_spec o) Tryz.call247 [], ⟨⟩⟩ ?_
 refine AW.seq (AW.SG0 Fm 1 [(0, vi a), (1, vi b), (6, vb c), (11, vb d)] [] ?_)
 refine AW.cN h (fun e h => ?_) (fun e h => ?_)
 ·refine AW.seq (AW.SG0 Fm 1 [(12, vb c)] [] ?_)
  refine AW.cN h (fun i h => ?_) (fun i h => ?_)
  ·refine AW.SG0 Fm 1 [(4, vi 0)] [] ?_
   refine AW.ret ?_
   obtain rfl := Option.some.inj h
   exact Kn.D Fm
  ·refine AW.skip (AW.SG0 Fm 1 [(4, vi (-1 : Int))] [] ?_)
   refine AW.ret ?_
   obtain rfl := Option.some.inj h
   exact Kn.D Fm
 ·refine AW.skip (AW.seq (AW.SG0 Fm 1 [(0, vi a), (1, vi b), (13, vb c)] [] ?_))
  refine AW.cN h (fun j h => ?_) (fun j h => ?_)
  ·refine AW.SG0 Fm 1 [(4, vi 1)] [] ?_
   refine AW.ret ?_
   obtain rfl := Option.some.inj h
   exact Kn.D Fm
  ·refine AW.skip (AW.seq (AW.SG0 Fm 3 [(0, vi a), (1, vi b), (16, vb (decide (a < b)))] [] ?_))
   refine AW.cN h (fun l h => ?_) (fun l h => ?_)
   ·refine AW.SG0 Fm 1 [(4, vi (-1 : Int))] [] ?_
    refine AW.ret ?_
    obtain rfl := Option.some.inj h
    exact Kn.D Fm
   ·refine AW.skip (AW.seq (AW.SG0 Fm 3 [(19, vb (decide (b < a)))] [] ?_))
    refine AW.cN h (fun m h => ?_) (fun m h => ?_)
    ·refine AW.SG0 Fm 1 [(4, vi 1)] [] ?_
     refine AW.ret ?_
     obtain rfl := Option.some.inj h
     exact Kn.D Fm
    ·refine AW.skip (AW.SG0 Fm 1 [(4, vi 0)] [] ?_)
     refine AW.ret ?_
     obtain rfl := Option.some.inj h
     exact Kn.D Fm
theorem region_Row_1_spec {F : Nat} {a : Span} {b : Span} {r : Int} (h : region_Row_1 F a b = some r) :
  FSpec Tryz.prog 236 [gE a, gE b] [] (vi r) [] := by
 refine FI Tryz.func236 prog_mixed prog_lay fun C Fm => ?_
 unfold region_Row_1 at h
 refine AW.SG0 Fm 3 [(2, pt 2), (3, pt 3)] [(2, bx (gC a)), (3, bx (gC b))] ?_
 refine AW.seq ?_
 obtain ⟨c, d, h⟩ := bS h
 refine AW.G Fm [.s, .s, .s, .s, .k (cE [] [] (vi c) [] []), .s] (fun K => K 4 ∧ True) [(4, vi c)] [] ⟨KAt.CC (cmp_Compare_int_spec d) Tryz.call186 [], ⟨⟩⟩ ?_
 refine AW.ret ?_
 obtain rfl := Option.some.inj h
 exact Kn.D Fm
theorem region_Row_spec {F : Nat} {a : (List Rect)} {n : Int} {r : (List Span)} (h : region_Row F a n = some r) :
  FSpec Tryz.prog 180 [AL a, vi n] [] (AL (α := Span) r) [] := by
 refine FI Tryz.func180 prog_mixed prog_lay fun C Fm => ?_
 unfold region_Row at h
 refine AW.SG0 Fm 1 [(0, AL a), (1, vi n)] [] ?_
 refine AW.SW Fm [.m] (fun K => True) [(0, AL a), (1, vi n), (5, ow 5)] [(5, AO (α := Span) ([] : List Span))] True.intro [(5, .arr 2 (0) (fun _ => []))] ⟨OLe.is ((Is.nil (α := Span))), ⟨⟩⟩ ?_
 refine AW.join (r := r) (fun z : (List Span) => region_Row_k3 F z) (fun z => [(5, ow 5)]) (fun z => [(5, AO z)]) (fun p0 h => ?_) (fun u0 W => ?_)
 ·refine AW.seq ?_
  obtain ⟨b, o0, h⟩ := bS h
  refine AW.G Fm [.s, .k (cE [(0, 5)] [] (.any) [(0, AO p0)] [(0, AO b)])] (fun K => K 1 ∧ True) [(5, ow 5)] [(5, AO b)] ⟨KAt.callX (sortF_spec o0) Tryz.call235 [(0, 5)] [] [.tmp 37, .func 236] rfl (by kernel_rfl) (by kernel_rfl) (by kernel_rfl) ⟨.p, ArgT.cloX Tryz.call236 [] (fun args r hq => by obtain ⟨y0, y1, y, hq, rfl, rfl⟩ := hq; exact Eq.mp (by kernel_rfl) (region_Row_1_spec hq)) (fun args r hq => by obtain ⟨y0, y1, y, hq, rfl, rfl⟩ := hq; rfl) (by kernel_rfl) [] (by kernel_rfl) (by kernel_rfl) (True.intro) (by kernel_rfl), ⟨⟩⟩, ⟨⟩⟩ ?_
  refine AW.SW Fm [.m] (fun K => True) [(5, ow 5), (8, ow 8)] [(5, AO b), (8, AO (α := Span) ([] : List Span))] True.intro [(8, .arr 2 (0) (fun _ => []))] ⟨OLe.is ((Is.nil (α := Span))), ⟨⟩⟩ ?_
  refine AW.join (r := r) (fun z : (List Span) => region_Row_k7 F z) (fun z => [(8, ow 8)]) (fun z => [(8, AO z)]) (fun A h => ?_) (fun D0 Y => ?_)
  ·refine AW.SG0 Fm 2 [(4, ow 8)] [(8, AO A)] ?_
   refine AW.ret ?_
   obtain rfl := Option.some.inj h
   refine Kn.r Fm [(4, ow 8)] [(8, AO A)] (by kernel_rfl) ?_
   refine Kn.frz [(4, AL A)] [] (by kernel_rfl) (by kernel_rfl) (by kernel_rfl) ?_
   exact Kn.D Fm
  ·refine AW.SG0 Fm 3 [(8, ow 8), (39, ow 5), (40, vi (lI b)), (41, vi 0)] [(5, AO b), (8, AO (α := Span) ([] : List Span))] ?_
   refine AW.block (Kn.r Fm [(8, ow 8), (39, ow 5), (40, vi (lI b)), (41, vi 0)] [(5, AO b), (8, AO ([] : List Span))] (by kernel_rfl) ?_)
   refine AW.loopF (E' := fun z => [(8, ow 8), (39, ow 5), (40, vi (lI b)), (41, vi z.1)]) (S' := fun z => [(5, AO b), (8, AO z.2)]) (fun E z w0 X h => ?_) h
   obtain ⟨l, i⟩ := z
   refine AW.SG0 Fm 1 [(8, ow 8), (39, ow 5), (40, vi (lI b)), (41, vi l), (42, vb (decide (l < (lI b))))] [(5, AO b), (8, AO i)] ?_
   refine AW.seq (AW.cN h (fun b0 h => ?_) (fun b0 h => ?_))
   ·refine AW.skip (AW.join (r := r) (fun z : (List Span) => region_Row_k6 F l E z) (fun z => [(8, ow 8), (39, ow 5), (40, vi (lI b)), (41, vi l)]) (fun z => [(5, AO b), (8, AO z)]) (fun U h => ?_) (fun B0 M => ?_))
    ·obtain ⟨n0, h⟩ := gS h
     refine AW.pN Fm [.s, .s] [(8, ow 8), (39, ow 5), (40, vi (lI b)), (41, vi (l + 1))] [(5, AO b), (8, AO U)] (cT (cT n0)) ?_
     exact Kn.R Fm (X ((l + 1), U) h)
    ·refine AW.block ?_
     obtain ⟨N, h⟩ := gS h
     refine AW.SP Fm [.s, .s, .s, .s] [(8, ow 8), (10, pt 10), (39, ow 5), (40, vi (lI b)), (41, vi l)] [(5, AO b), (8, AO i), (10, bx [ci ((gl b l.toNat).left_), ci ((gl b l.toNat).right_)])] (cA N (cT (toNat_lt N))) ?_
     refine AW.SG0 Fm 3 [(8, ow 8), (10, pt 10), (11, vi (lI i)), (39, ow 5), (40, vi (lI b)), (41, vi l)] [(5, AO b), (8, AO i), (10, bx [ci ((gl b l.toNat).left_), ci ((gl b l.toNat).right_)])] ?_
     refine AW.join (r := r) (fun z : Bool => region_Row_k5 F b l i E z) (fun z => [(8, ow 8), (10, pt 10), (11, vi (lI i)), (39, ow 5), (40, vi (lI b)), (41, vi l), (59, vb z)]) (fun z => [(5, AO b), (8, AO i), (10, bx [ci ((gl b l.toNat).left_), ci ((gl b l.toNat).right_)])]) (fun G0 h => ?_) (fun A0 L => ?_)
     ·refine AW.cN h (fun c0 h => ?_) (fun c0 h => ?_)
      ·obtain ⟨k0, l0, P, u, h⟩ := gS4 h
       refine AW.WP Fm [.s, .s, .s, .s, .s, .s, .s, .s, .s, .s, .s, .s, .s, .s, .s] [(8, ow 8), (39, ow 5), (40, vi (lI b)), (41, vi l)] [(5, AO b), (8, AO (α := Span) (List.set i ((lI i) - 1).toNat (⟨(gl i ((lI i) - 1).toNat).left_, (gmax ((gl i ((lI i) - 1).toNat).right_) ((gl b l.toNat).right_))⟩ : Span)))] (cA (cT k0) (cA (cT l0) (cA P (cA (toNat_lt P) (cA u (cT (toNat_lt u))))))) [(8, .arr 2 (List.length (α := Span) i) (fun j => if j = ((lI i) - 1).toNat then splice ((LF (α := Span) i) ((lI i) - 1).toNat) 1 [.int .i64 (gmax ((gl i ((lI i) - 1).toNat).right_) ((gl b l.toNat).right_))] else (LF (α := Span) i) j))] ⟨OLe.is (Is.set (Is.refl i) (toNat_lt u) (⟨(gl i ((lI i) - 1).toNat).left_, (gmax ((gl i ((lI i) - 1).toNat).right_) ((gl b l.toNat).right_))⟩ : Span) (by kernel_rfl)), ⟨⟩⟩ ?_
       exact Kn.R Fm (M (List.set i ((lI i) - 1).toNat (⟨(gl i ((lI i) - 1).toNat).left_, (gmax ((gl i ((lI i) - 1).toNat).right_) ((gl b l.toNat).right_))⟩ : Span)) h)
      ·obtain ⟨m0, h⟩ := gS h
       refine AW.WP Fm [.s, .s, .w (AL (α := Span) ([(gl b l.toNat)] : List Span)), .s, .s] [(8, ow 77), (39, ow 5), (40, vi (lI b)), (41, vi l)] [(5, AO b), (77, AO (α := Span) (i ++ ([(gl b l.toNat)] : List Span)))] (cA (ALe.lst (.lit ([(gl b l.toNat)] : List Span) (by kernel_rfl)) : ALe (.v (.c (.d (.lst 1 (litF 2 [.int .i64 (gl b l.toNat).left_, .int .i64 (gl b l.toNat).right_]))))) (AL (α := Span) ([(gl b l.toNat)] : List Span))) (cT (cA m0 (cT (Is.refl ([(gl b l.toNat)] : List Span) : Is (List.length (α := Span) ([(gl b l.toNat)] : List Span)) (LF (α := Span) ([(gl b l.toNat)] : List Span)) ([(gl b l.toNat)] : List Span)).len)))) [(77, .arr 2 ((List.length (α := Span) i) + (List.length (α := Span) ([(gl b l.toNat)] : List Span))) (appF (List.length (α := Span) i) (LF (α := Span) i) (LF (α := Span) ([(gl b l.toNat)] : List Span))))] ⟨OLe.is (Is.app (Is.refl i) (Is.refl ([(gl b l.toNat)] : List Span))), ⟨⟩⟩ ?_
       exact Kn.RE Fm [(8, 77)] (M (i ++ ([(gl b l.toNat)] : List Span)) h)
     ·rcases br_or h with ⟨t, h⟩ | ⟨t, h⟩
      ·obtain ⟨j0, O, h⟩ := gS2 h
       refine AW.pN Fm [.s, .s, .w (vb true), .s, .s, .s, .s, .s, .s, .s, .s, .s, .s] [(8, ow 8), (10, pt 10), (11, vi (lI i)), (39, ow 5), (40, vi (lI b)), (41, vi l), (50, pt 10), (51, vi (gl b l.toNat).left_), (52, ow 8), (53, vi (lI i)), (54, vi ((lI i) - 1)), (55, .v (.c (.pte 8 2 (((lI i) - 1).toNat) 0))), (56, .v (.c (.pte 8 2 (((lI i) - 1).toNat) 1))), (57, vi (gl i ((lI i) - 1).toNat).right_), (58, vb (decide (((gl b l.toNat).left_) ≤ ((gl i ((lI i) - 1).toNat).right_)))), (59, vb (decide (((gl b l.toNat).left_) ≤ ((gl i ((lI i) - 1).toNat).right_))))] [(5, AO b), (8, AO i), (10, bx [ci ((gl b l.toNat).left_), ci ((gl b l.toNat).right_)])] (cA (ALe.bool t) (cA (cT j0) (cA O (cT (toNat_lt O))))) ?_
       exact Kn.R Fm (L (decide (((gl b l.toNat).left_) ≤ ((gl i ((lI i) - 1).toNat).right_))) h)
      ·refine AW.pN Fm [.s, .s, .w (vb false), .s, .s, .s, .s, .s, .s, .s, .s, .s, .s] [(8, ow 8), (10, pt 10), (11, vi (lI i)), (39, ow 5), (40, vi (lI b)), (41, vi l), (59, vb false)] [(5, AO b), (8, AO i), (10, bx [ci ((gl b l.toNat).left_), ci ((gl b l.toNat).right_)])] (cT (ALe.bool t)) ?_
       exact Kn.R Fm (L false h)
   ·exact AW.exit (Kn.R Fm (Y i h))
 ·refine AW.SG0 Fm 3 [(1, vi n), (5, ow 5), (12, AL a), (13, vi (lI a)), (14, vi 0)] [(5, AO (α := Span) ([] : List Span))] ?_
  refine AW.block (Kn.r Fm [(1, vi n), (5, ow 5), (12, AL a), (13, vi (lI a)), (14, vi 0)] [(5, AO ([] : List Span))] (by kernel_rfl) ?_)
  refine AW.loopF (E' := fun z => [(1, vi n), (5, ow 5), (12, AL a), (13, vi (lI a)), (14, vi z.1)]) (S' := fun z => [(5, AO z.2)]) (fun B z q0 V h => ?_) h
  obtain ⟨e, o⟩ := z
  refine AW.SG0 Fm 1 [(1, vi n), (5, ow 5), (12, AL a), (13, vi (lI a)), (14, vi e), (15, vb (decide (e < (lI a))))] [(5, AO o)] ?_
  refine AW.seq (AW.cN h (fun Z h => ?_) (fun Z h => ?_))
  ·refine AW.skip (AW.join (r := r) (fun z : (List Span) => region_Row_k2 F e B z) (fun z => [(1, vi n), (5, ow 35), (12, AL a), (13, vi (lI a)), (14, vi e)]) (fun z => [(35, AO z)]) (fun T h => ?_) (fun t0 I => ?_))
   ·obtain ⟨i0, h⟩ := gS h
    refine AW.pN Fm [.s, .s] [(1, vi n), (5, ow 35), (12, AL a), (13, vi (lI a)), (14, vi (e + 1))] [(35, AO T)] (cT (cT i0)) ?_
    exact Kn.RE Fm [(5, 35)] (V ((e + 1), T) h)
   ·refine AW.block ?_
    obtain ⟨d0, h⟩ := gS h
    refine AW.SP Fm [.s, .s, .s, .s] [(1, vi n), (5, ow 5), (7, pt 7), (12, AL a), (13, vi (lI a)), (14, vi e)] [(5, AO o), (7, bx [ci ((gl a e.toNat).left_), ci ((gl a e.toNat).low_), ci ((gl a e.toNat).right_), ci ((gl a e.toNat).high_)])] (cT d0) ?_
    refine AW.join (r := r) (fun z : Bool => region_Row_k1 F a e o B z) (fun z => [(1, vi n), (5, ow 5), (7, pt 7), (12, AL a), (13, vi (lI a)), (14, vi e), (27, vb z)]) (fun z => [(5, AO o), (7, bx [ci ((gl a e.toNat).left_), ci ((gl a e.toNat).low_), ci ((gl a e.toNat).right_), ci ((gl a e.toNat).high_)])]) (fun E0 h => ?_) (fun s0 H => ?_)
    ·refine AW.cN h (fun a0 h => ?_) (fun a0 h => ?_)
     ·obtain ⟨e0, h⟩ := gS h
      refine AW.WP Fm [.s, .s, .s, .s, .s, .s, .w (AL (α := Span) ([(⟨(gl a e.toNat).left_, (gl a e.toNat).right_⟩ : Span)] : List Span)), .s, .s] [(1, vi n), (5, ow 35), (12, AL a), (13, vi (lI a)), (14, vi e)] [(35, AO (α := Span) (o ++ ([(⟨(gl a e.toNat).left_, (gl a e.toNat).right_⟩ : Span)] : List Span)))] (cA (ALe.lst (.lit ([(⟨(gl a e.toNat).left_, (gl a e.toNat).right_⟩ : Span)] : List Span) (by kernel_rfl)) : ALe (.v (.c (.d (.lst 1 (litF 2 [.int .i64 (gl a e.toNat).left_, .int .i64 (gl a e.toNat).right_]))))) (AL (α := Span) ([(⟨(gl a e.toNat).left_, (gl a e.toNat).right_⟩ : Span)] : List Span))) (cT (cA e0 (cT (Is.refl ([(⟨(gl a e.toNat).left_, (gl a e.toNat).right_⟩ : Span)] : List Span) : Is (List.length (α := Span) ([(⟨(gl a e.toNat).left_, (gl a e.toNat).right_⟩ : Span)] : List Span)) (LF (α := Span) ([(⟨(gl a e.toNat).left_, (gl a e.toNat).right_⟩ : Span)] : List Span)) ([(⟨(gl a e.toNat).left_, (gl a e.toNat).right_⟩ : Span)] : List Span)).len)))) [(35, .arr 2 ((List.length (α := Span) o) + (List.length (α := Span) ([(⟨(gl a e.toNat).left_, (gl a e.toNat).right_⟩ : Span)] : List Span))) (appF (List.length (α := Span) o) (LF (α := Span) o) (LF (α := Span) ([(⟨(gl a e.toNat).left_, (gl a e.toNat).right_⟩ : Span)] : List Span))))] ⟨OLe.is (Is.app (Is.refl o) (Is.refl ([(⟨(gl a e.toNat).left_, (gl a e.toNat).right_⟩ : Span)] : List Span))), ⟨⟩⟩ ?_
      exact Kn.R Fm (I (o ++ ([(⟨(gl a e.toNat).left_, (gl a e.toNat).right_⟩ : Span)] : List Span)) h)
     ·exact AW.skip (Kn.RE Fm [(35, 5)] (I o h))
    ·rcases br_or h with ⟨q, h⟩ | ⟨q, h⟩
     ·refine AW.pN Fm [.s, .s, .s, .s, .w (vb true), .s, .s, .s, .s, .s] [(1, vi n), (5, ow 5), (7, pt 7), (12, AL a), (13, vi (lI a)), (14, vi e), (23, vi n), (24, .v (.c (.ptr 7 3))), (25, vi (gl a e.toNat).high_), (26, vb (decide (n < ((gl a e.toNat).high_)))), (27, vb (decide (n < ((gl a e.toNat).high_))))] [(5, AO o), (7, bx [ci ((gl a e.toNat).left_), ci ((gl a e.toNat).low_), ci ((gl a e.toNat).right_), ci ((gl a e.toNat).high_)])] (cT (ALe.bool q)) ?_
      exact Kn.R Fm (H (decide (n < ((gl a e.toNat).high_))) h)
     ·refine AW.pN Fm [.s, .s, .s, .s, .w (vb false), .s, .s, .s, .s, .s] [(1, vi n), (5, ow 5), (7, pt 7), (12, AL a), (13, vi (lI a)), (14, vi e), (27, vb false)] [(5, AO o), (7, bx [ci ((gl a e.toNat).left_), ci ((gl a e.toNat).low_), ci ((gl a e.toNat).right_), ci ((gl a e.toNat).high_)])] (cT (ALe.bool q)) ?_
      exact Kn.R Fm (H false h)
  ·exact AW.exit (Kn.R Fm (W o h))
theorem region_canonical_1_spec {F : Nat} {b : Int} {a : (List Rect)} {r : (List Span)} (h : region_canonical_1 F b a = some r) :
  FSpec Tryz.prog 230 [vi b, pt 0] [(0, .box true [.d (DL a)])] (AL (α := Span) r) [(0, .box true [.d (DL a)])] := by
 refine FI Tryz.func230 prog_mixed prog_lay fun C Fm => ?_
 unfold region_canonical_1 at h
 refine AW.SG0 Fm 1 [(0, vi b), (1, pt 0)] [(0, .box true [.d (DL a)])] ?_
 refine AW.seq ?_
 obtain ⟨c, e, h⟩ := bS h
 refine AW.G Fm [.s, .s, .k (cE [] [] (AL c) [] []), .s] (fun K => K 2 ∧ True) [(3, AL c)] [(0, .box true [.d (DL a)])] ⟨KAt.CC (region_Row_spec e) Tryz.call180 [], ⟨⟩⟩ ?_
 refine AW.ret ?_
 obtain rfl := Option.some.inj h
 exact Kn.D Fm
theorem slices_Equal_Span_spec {F : Nat} {a : (List Span)} {d : (List Span)} {r : Bool} (h : slices_Equal_Span F a d = some r) :
  FSpec Tryz.prog 231 [AL a, AL d] [] (vb r) [] := by
 refine FI Tryz.func231 prog_mixed prog_lay fun C Fm => ?_
 unfold slices_Equal_Span at h
 refine AW.SG0 Fm 1 [(0, AL a), (1, AL d)] [] ?_
 refine AW.seq (AW.SG0 Fm 5 [(0, AL a), (1, AL d), (10, vb ((lI a) != (lI d)))] [] ?_)
 refine AW.cN h (fun j h => ?_) (fun j h => ?_)
 ·refine AW.SG0 Fm 1 [(4, vb false)] [] ?_
  refine AW.ret ?_
  obtain rfl := Option.some.inj h
  exact Kn.D Fm
 ·refine AW.skip (AW.join (r := r) (fun z : Unit => slices_Equal_Span_k1 F) (fun z => []) (fun z => []) (fun z h => ?_) (fun t i => ?_))
  ·refine AW.SG0 Fm 1 [(4, vb true)] [] ?_
   refine AW.ret ?_
   obtain rfl := Option.some.inj h
   exact Kn.D Fm
  ·refine AW.SG0 Fm 3 [(0, AL a), (1, AL d), (12, vi (lI a)), (13, vi 0)] [] ?_
   refine AW.block (AW.loopF (E' := fun z => [(0, AL a), (1, AL d), (12, vi (lI a)), (13, vi z)]) (S' := fun z => []) (fun u c q e h => ?_) h)
   refine AW.SG0 Fm 1 [(0, AL a), (1, AL d), (12, vi (lI a)), (13, vi c), (14, vb (decide (c < (lI a))))] [] ?_
   refine AW.seq (AW.cN h (fun l h => ?_) (fun l h => ?_))
   ·refine AW.skip (AW.seq (AW.block (AW.SG0 Fm 2 [(0, AL a), (1, AL d), (5, vi c), (12, vi (lI a)), (13, vi c)] [] ?_)))
    obtain ⟨n, o, h⟩ := gS2 h
    refine AW.SG Fm [.s, .s, .s, .s, .s, .s, .s, .s, .k (sE (vb (!((((gl a c.toNat).left_) == ((gl d c.toNat).left_)) && ((((gl a c.toNat).right_) == ((gl d c.toNat).right_)) && true)))))] (fun K => _ ∧ _ ∧ K 8 ∧ True) [(0, AL a), (1, AL d), (12, vi (lI a)), (13, vi c), (24, vb (!((((gl a c.toNat).left_) == ((gl d c.toNat).left_)) && ((((gl a c.toNat).right_) == ((gl d c.toNat).right_)) && true))))] [] ⟨n, o, KAt.eq (xs := [ci ((gl a c.toNat).left_), ci ((gl a c.toNat).right_)]) (ys := [ci ((gl d c.toNat).left_), ci ((gl d c.toNat).right_)]) eqT212 false (b := ((((gl a c.toNat).left_) == ((gl d c.toNat).left_)) && ((((gl a c.toNat).right_) == ((gl d c.toNat).right_)) && true))) rfl rfl (by kernel_rfl) (by kernel_rfl) (by kernel_rfl) (by kernel_rfl), ⟨⟩⟩ ?_
    refine AW.cN h (fun m h => ?_) (fun m h => ?_)
    ·refine AW.SG0 Fm 1 [(4, vb false)] [] ?_
     refine AW.ret ?_
     obtain rfl := Option.some.inj h
     exact Kn.D Fm
    ·refine AW.skip ?_
     obtain ⟨p, h⟩ := gS h
     refine AW.pN Fm [.s, .s] [(0, AL a), (1, AL d), (12, vi (lI a)), (13, vi (c + 1))] [] (cT (cT p)) ?_
     exact Kn.R Fm (e (c + 1) h)
   ·exact AW.exit (Kn.R Fm (i () h))
theorem region_rects_spec {F : Nat} {a : (List Band)} {r : (List Rect)} (h : region_rects F a = some r) :
  FSpec Tryz.prog 232 [AL a] [] (AL (α := Rect) r) [] := by
 refine FI Tryz.func232 prog_mixed prog_lay fun C Fm => ?_
 unfold region_rects at h
 refine AW.SG0 Fm 1 [(0, AL a)] [] ?_
 refine AW.SW Fm [.m] (fun K => True) [(0, AL a), (3, ow 3)] [(3, AO (α := Rect) ([] : List Rect))] True.intro [(3, .arr 4 (0) (fun _ => []))] ⟨OLe.is ((Is.nil (α := Rect))), ⟨⟩⟩ ?_
 refine AW.join (r := r) (fun z : (List Rect) => region_rects_k3 F z) (fun z => [(3, ow 3)]) (fun z => [(3, AO z)]) (fun k h => ?_) (fun N t => ?_)
 ·refine AW.SG0 Fm 2 [(2, ow 3)] [(3, AO k)] ?_
  refine AW.ret ?_
  obtain rfl := Option.some.inj h
  refine Kn.r Fm [(2, ow 3)] [(3, AO k)] (by kernel_rfl) ?_
  refine Kn.frz [(2, AL k)] [] (by kernel_rfl) (by kernel_rfl) (by kernel_rfl) ?_
  exact Kn.D Fm
 ·refine AW.SG0 Fm 3 [(3, ow 3), (8, AL a), (9, vi (lI a)), (10, vi 0)] [(3, AO (α := Rect) ([] : List Rect))] ?_
  refine AW.block (Kn.r Fm [(3, ow 3), (8, AL a), (9, vi (lI a)), (10, vi 0)] [(3, AO ([] : List Rect))] (by kernel_rfl) ?_)
  refine AW.loopF (E' := fun z => [(3, ow 3), (8, AL a), (9, vi (lI a)), (10, vi z.1)]) (S' := fun z => [(3, AO z.2)]) (fun n z I o h => ?_) h
  obtain ⟨b, j⟩ := z
  refine AW.SG0 Fm 1 [(3, ow 3), (8, AL a), (9, vi (lI a)), (10, vi b), (11, vb (decide (b < (lI a))))] [(3, AO j)] ?_
  refine AW.seq (AW.cN h (fun u h => ?_) (fun u h => ?_))
  ·refine AW.skip (AW.join (r := r) (fun z : (List Rect) => region_rects_k2 F b n z) (fun z => [(3, ow 3), (8, AL a), (9, vi (lI a)), (10, vi b)]) (fun z => [(3, AO z)]) (fun l h => ?_) (fun M q => ?_))
   ·obtain ⟨H, h⟩ := gS h
    refine AW.pN Fm [.s, .s] [(3, ow 3), (8, AL a), (9, vi (lI a)), (10, vi (b + 1))] [(3, AO l)] (cT (cT H)) ?_
    exact Kn.R Fm (o ((b + 1), l) h)
   ·refine AW.block ?_
    obtain ⟨A, h⟩ := gS h
    refine AW.SP Fm [.s, .s, .s, .s] [(3, ow 3), (5, pt 5), (8, AL a), (9, vi (lI a)), (10, vi b)] [(3, AO j), (5, bx [ci ((gl a b.toNat).low_), ci ((gl a b.toNat).high_), .d (DL (α := Span) (gl a b.toNat).spans_)])] (cT A) ?_
    refine AW.SG0 Fm 4 [(3, ow 3), (5, pt 5), (8, AL a), (9, vi (lI a)), (10, vi b), (15, AL (α := Span) (gl a b.toNat).spans_), (16, vi (lI ((gl a b.toNat).spans_))), (17, vi 0)] [(3, AO j), (5, bx [ci ((gl a b.toNat).low_), ci ((gl a b.toNat).high_), .d (DL (α := Span) (gl a b.toNat).spans_)])] ?_
    refine AW.block (AW.loopF (E' := fun z => [(3, ow 3), (5, pt 5), (8, AL a), (9, vi (lI a)), (10, vi b), (15, AL (α := Span) (gl a b.toNat).spans_), (16, vi (lI ((gl a b.toNat).spans_))), (17, vi z.1)]) (S' := fun z => [(3, AO z.2), (5, bx [ci ((gl a b.toNat).low_), ci ((gl a b.toNat).high_), .d (DL (α := Span) (gl a b.toNat).spans_)])]) (fun O z L p h => ?_) h)
    obtain ⟨e, i⟩ := z
    refine AW.SG0 Fm 1 [(3, ow 3), (5, pt 5), (8, AL a), (9, vi (lI a)), (10, vi b), (15, AL (α := Span) (gl a b.toNat).spans_), (16, vi (lI ((gl a b.toNat).spans_))), (17, vi e), (18, vb (decide (e < (lI ((gl a b.toNat).spans_)))))] [(3, AO i), (5, bx [ci ((gl a b.toNat).low_), ci ((gl a b.toNat).high_), .d (DL (α := Span) (gl a b.toNat).spans_)])] ?_
    refine AW.seq (AW.cN h (fun y h => ?_) (fun y h => ?_))
    ·refine AW.skip (AW.seq (AW.block ?_))
     obtain ⟨B, h⟩ := gS h
     refine AW.SP Fm [.s, .s, .s, .s] [(3, ow 3), (5, pt 5), (7, pt 7), (8, AL a), (9, vi (lI a)), (10, vi b), (15, AL (α := Span) (gl a b.toNat).spans_), (16, vi (lI ((gl a b.toNat).spans_))), (17, vi e)] [(3, AO i), (5, bx [ci ((gl a b.toNat).low_), ci ((gl a b.toNat).high_), .d (DL (α := Span) (gl a b.toNat).spans_)]), (7, bx [ci ((gl ((gl a b.toNat).spans_) e.toNat).left_), ci ((gl ((gl a b.toNat).spans_) e.toNat).right_)])] (cT B) ?_
     obtain ⟨E, h⟩ := gS h
     refine AW.WP Fm [.s, .s, .s, .s, .s, .s, .s, .s, .s, .s, .w (AL (α := Rect) ([(⟨(gl ((gl a b.toNat).spans_) e.toNat).left_, (gl a b.toNat).low_, (gl ((gl a b.toNat).spans_) e.toNat).right_, (gl a b.toNat).high_⟩ : Rect)] : List Rect)), .s, .s] [(3, ow 32), (5, pt 5), (8, AL a), (9, vi (lI a)), (10, vi b), (15, AL (α := Span) (gl a b.toNat).spans_), (16, vi (lI ((gl a b.toNat).spans_))), (17, vi e)] [(5, bx [ci ((gl a b.toNat).low_), ci ((gl a b.toNat).high_), .d (DL (α := Span) (gl a b.toNat).spans_)]), (32, AO (α := Rect) (i ++ ([(⟨(gl ((gl a b.toNat).spans_) e.toNat).left_, (gl a b.toNat).low_, (gl ((gl a b.toNat).spans_) e.toNat).right_, (gl a b.toNat).high_⟩ : Rect)] : List Rect)))] (cA (ALe.lst (.lit ([(⟨(gl ((gl a b.toNat).spans_) e.toNat).left_, (gl a b.toNat).low_, (gl ((gl a b.toNat).spans_) e.toNat).right_, (gl a b.toNat).high_⟩ : Rect)] : List Rect) (by kernel_rfl)) : ALe (.v (.c (.d (.lst 1 (litF 4 [.int .i64 (gl ((gl a b.toNat).spans_) e.toNat).left_, .int .i64 (gl a b.toNat).low_, .int .i64 (gl ((gl a b.toNat).spans_) e.toNat).right_, .int .i64 (gl a b.toNat).high_]))))) (AL (α := Rect) ([(⟨(gl ((gl a b.toNat).spans_) e.toNat).left_, (gl a b.toNat).low_, (gl ((gl a b.toNat).spans_) e.toNat).right_, (gl a b.toNat).high_⟩ : Rect)] : List Rect))) (cT (cA E (cT (Is.refl ([(⟨(gl ((gl a b.toNat).spans_) e.toNat).left_, (gl a b.toNat).low_, (gl ((gl a b.toNat).spans_) e.toNat).right_, (gl a b.toNat).high_⟩ : Rect)] : List Rect) : Is (List.length (α := Rect) ([(⟨(gl ((gl a b.toNat).spans_) e.toNat).left_, (gl a b.toNat).low_, (gl ((gl a b.toNat).spans_) e.toNat).right_, (gl a b.toNat).high_⟩ : Rect)] : List Rect)) (LF (α := Rect) ([(⟨(gl ((gl a b.toNat).spans_) e.toNat).left_, (gl a b.toNat).low_, (gl ((gl a b.toNat).spans_) e.toNat).right_, (gl a b.toNat).high_⟩ : Rect)] : List Rect)) ([(⟨(gl ((gl a b.toNat).spans_) e.toNat).left_, (gl a b.toNat).low_, (gl ((gl a b.toNat).spans_) e.toNat).right_, (gl a b.toNat).high_⟩ : Rect)] : List Rect)).len)))) [(32, .arr 4 ((List.length (α := Rect) i) + (List.length (α := Rect) ([(⟨(gl ((gl a b.toNat).spans_) e.toNat).left_, (gl a b.toNat).low_, (gl ((gl a b.toNat).spans_) e.toNat).right_, (gl a b.toNat).high_⟩ : Rect)] : List Rect))) (appF (List.length (α := Rect) i) (LF (α := Rect) i) (LF (α := Rect) ([(⟨(gl ((gl a b.toNat).spans_) e.toNat).left_, (gl a b.toNat).low_, (gl ((gl a b.toNat).spans_) e.toNat).right_, (gl a b.toNat).high_⟩ : Rect)] : List Rect))))] ⟨OLe.is (Is.app (Is.refl i) (Is.refl ([(⟨(gl ((gl a b.toNat).spans_) e.toNat).left_, (gl a b.toNat).low_, (gl ((gl a b.toNat).spans_) e.toNat).right_, (gl a b.toNat).high_⟩ : Rect)] : List Rect))), ⟨⟩⟩ ?_
     obtain ⟨G, h⟩ := gS h
     refine AW.pN Fm [.s, .s] [(3, ow 32), (5, pt 5), (8, AL a), (9, vi (lI a)), (10, vi b), (15, AL (α := Span) (gl a b.toNat).spans_), (16, vi (lI ((gl a b.toNat).spans_))), (17, vi (e + 1))] [(5, bx [ci ((gl a b.toNat).low_), ci ((gl a b.toNat).high_), .d (DL (α := Span) (gl a b.toNat).spans_)]), (32, AO (α := Rect) (i ++ ([(⟨(gl ((gl a b.toNat).spans_) e.toNat).left_, (gl a b.toNat).low_, (gl ((gl a b.toNat).spans_) e.toNat).right_, (gl a b.toNat).high_⟩ : Rect)] : List Rect)))] (cT (cT G)) ?_
     exact Kn.RE Fm [(3, 32)] (p ((e + 1), (i ++ ([(⟨(gl ((gl a b.toNat).spans_) e.toNat).left_, (gl a b.toNat).low_, (gl ((gl a b.toNat).spans_) e.toNat).right_, (gl a b.toNat).high_⟩ : Rect)] : List Rect))) h)
    ·exact AW.exit (Kn.R Fm (q i h))
  ·exact AW.exit (Kn.R Fm (t j h))
theorem region_Build_spec {F : Nat} {a : (List Int)} {l : Int → Option (List Span)} {r : (List Rect)} (h : region_Build F a l = some r) :
  FSpec Tryz.prog 176 [AL a, .v (.c (.sem (CloOK Tryz.prog (FR_Int_ListSpan l))))] [] (AL (α := Rect) r) [] := by
 refine FI Tryz.func176 prog_mixed prog_lay fun C Fm => ?_
 unfold region_Build at h
 refine AW.SG0 Fm 1 [(0, AL a), (1, .v (.c (.sem (CloOK Tryz.prog (FR_Int_ListSpan l)))))] [] ?_
 refine AW.SW Fm [.m] (fun K => True) [(0, AL a), (1, .v (.c (.sem (CloOK Tryz.prog (FR_Int_ListSpan l))))), (5, ow 5)] [(5, AO (α := Band) ([] : List Band))] True.intro [(5, .arr 3 (0) (fun _ => []))] ⟨OLe.is ((Is.nil (α := Band))), ⟨⟩⟩ ?_
 refine AW.join (r := r) (fun z : (List Band) => region_Build_k3 F z) (fun z => [(5, ow 5)]) (fun z => [(5, AO z)]) (fun I h => ?_) (fun l0 N => ?_)
 ·refine AW.seq (Kn.r Fm [(5, ow 5)] [(5, AO I)] (by kernel_rfl) ?_)
  refine Kn.frz [(5, AL I)] [] (by kernel_rfl) (by kernel_rfl) (by kernel_rfl) ?_
  obtain ⟨L, e0, h⟩ := bS h
  refine AW.G Fm [.s, .k (cE [] [] (AL L) [] []), .s] (fun K => K 1 ∧ True) [(4, AL L)] [] ⟨KAt.CC (region_rects_spec e0) Tryz.call232 [], ⟨⟩⟩ ?_
  refine AW.ret ?_
  obtain rfl := Option.some.inj h
  exact Kn.D Fm
 ·refine AW.SG0 Fm 1 [(0, AL a), (1, .v (.c (.sem (CloOK Tryz.prog (FR_Int_ListSpan l))))), (5, ow 5), (6, vi 1)] [(5, AO (α := Band) ([] : List Band))] ?_
  refine AW.block (Kn.r Fm [(0, AL a), (1, .v (.c (.sem (CloOK Tryz.prog (FR_Int_ListSpan l))))), (5, ow 5), (6, vi 1)] [(5, AO ([] : List Band))] (by kernel_rfl) ?_)
  refine AW.loopF (E' := fun z => [(0, AL a), (1, .v (.c (.sem (CloOK Tryz.prog (FR_Int_ListSpan l))))), (5, ow 5), (6, vi z.1)]) (S' := fun z => [(5, AO z.2)]) (fun y z i0 M h => ?_) h
  obtain ⟨e, b⟩ := z
  refine AW.seq (AW.SG0 Fm 4 [(0, AL a), (1, .v (.c (.sem (CloOK Tryz.prog (FR_Int_ListSpan l))))), (5, ow 5), (6, vi e), (12, vb (decide (e < (lI a))))] [(5, AO b)] ?_)
  refine AW.cN h (fun O h => ?_) (fun O h => ?_)
  ·refine AW.skip (AW.join (r := r) (fun z : (List Band) => region_Build_k2 F e y z) (fun z => [(0, AL a), (1, .v (.c (.sem (CloOK Tryz.prog (FR_Int_ListSpan l))))), (5, ow 5), (6, vi e)]) (fun z => [(5, AO z)]) (fun H h => ?_) (fun k0 A => ?_))
   ·obtain ⟨b0, h⟩ := gS h
    refine AW.pN Fm [.s, .s, .s] [(0, AL a), (1, .v (.c (.sem (CloOK Tryz.prog (FR_Int_ListSpan l))))), (5, ow 5), (6, vi (e + 1))] [(5, AO H)] (cT (cT b0)) ?_
    exact Kn.R Fm (M ((e + 1), H) h)
   ·refine AW.block (AW.seq ?_)
    obtain ⟨T, U, V, W, h⟩ := gS4 h
    obtain ⟨X, h⟩ := gS h
    obtain ⟨i, c0, h⟩ := bS h
    refine AW.G Fm [.s, .s, .s, .s, .s, .s, .s, .s, .s, .s, .s, .s, .s, .s, .s, .k (sE (AL i)), .s, .s, .s] (fun K => (_ ∧ True) ∧ _ ∧ _ ∧ (_ ∧ True) ∧ _ ∧ K 15 ∧ True) [(0, AL a), (1, .v (.c (.sem (CloOK Tryz.prog (FR_Int_ListSpan l))))), (5, ow 5), (6, vi e), (7, pt 7)] [(5, AO b), (7, bx [ci (gl a (e - 1).toNat), ci (gl a e.toNat), .d (DL i)])] ⟨⟨T, ⟨⟩⟩, U, V, ⟨W, ⟨⟩⟩, X, KAt.sem (F := (FR_Int_ListSpan l)) (args := [vi (gl a (e - 1).toNat)]) ⟨(gl a (e - 1).toNat), i, c0, rfl, rfl⟩ rfl (by kernel_rfl) (by kernel_rfl) (by kernel_rfl), ⟨⟩⟩ ?_
    refine AW.SG0 Fm 3 [(0, AL a), (1, .v (.c (.sem (CloOK Tryz.prog (FR_Int_ListSpan l))))), (5, ow 5), (6, vi e), (7, pt 7), (8, vi (lI b))] [(5, AO b), (7, bx [ci (gl a (e - 1).toNat), ci (gl a e.toNat), .d (DL i)])] ?_
    refine AW.join (r := r) (fun z : Bool => region_Build_k1 F a e b i y z) (fun z => [(0, AL a), (1, .v (.c (.sem (CloOK Tryz.prog (FR_Int_ListSpan l))))), (5, ow 5), (6, vi e), (7, pt 7), (8, vi (lI b)), (57, vb z)]) (fun z => [(5, AO b), (7, bx [ci (gl a (e - 1).toNat), ci (gl a e.toNat), .d (DL i)])]) (fun m0 h => ?_) (fun j0 q => ?_)
    ·refine AW.cN h (fun P h => ?_) (fun P h => ?_)
     ·obtain ⟨Z, u, h⟩ := gS2 h
      refine AW.WP Fm [.s, .s, .s, .s, .s, .s, .s, .s] [(0, AL a), (1, .v (.c (.sem (CloOK Tryz.prog (FR_Int_ListSpan l))))), (5, ow 5), (6, vi e)] [(5, AO (α := Band) (List.set b ((lI b) - 1).toNat (⟨(gl b ((lI b) - 1).toNat).low_, (gl a e.toNat), (gl b ((lI b) - 1).toNat).spans_⟩ : Band)))] (cA (cT Z) (cA u (cT (toNat_lt u)))) [(5, .arr 3 (List.length (α := Band) b) (fun j => if j = ((lI b) - 1).toNat then splice ((LF (α := Band) b) ((lI b) - 1).toNat) 1 [.int .i64 (gl a e.toNat)] else (LF (α := Band) b) j))] ⟨OLe.is (Is.set (Is.refl b) (toNat_lt u) (⟨(gl b ((lI b) - 1).toNat).low_, (gl a e.toNat), (gl b ((lI b) - 1).toNat).spans_⟩ : Band) (by kernel_rfl)), ⟨⟩⟩ ?_
      exact Kn.R Fm (A (List.set b ((lI b) - 1).toNat (⟨(gl b ((lI b) - 1).toNat).low_, (gl a e.toNat), (gl b ((lI b) - 1).toNat).spans_⟩ : Band)) h)
     ·obtain ⟨a0, h⟩ := gS h
      refine AW.WP Fm [.s, .s, .w (AL (α := Band) ([(⟨(gl a (e - 1).toNat), (gl a e.toNat), i⟩ : Band)] : List Band)), .s, .s] [(0, AL a), (1, .v (.c (.sem (CloOK Tryz.prog (FR_Int_ListSpan l))))), (5, ow 68), (6, vi e)] [(68, AO (α := Band) (b ++ ([(⟨(gl a (e - 1).toNat), (gl a e.toNat), i⟩ : Band)] : List Band)))] (cA (ALe.lst (.lit ([(⟨(gl a (e - 1).toNat), (gl a e.toNat), i⟩ : Band)] : List Band) (by kernel_rfl)) : ALe (.v (.c (.d (.lst 1 (litF 3 [.int .i64 (gl a (e - 1).toNat), .int .i64 (gl a e.toNat), DL i]))))) (AL (α := Band) ([(⟨(gl a (e - 1).toNat), (gl a e.toNat), i⟩ : Band)] : List Band))) (cT (cA a0 (cT (Is.refl ([(⟨(gl a (e - 1).toNat), (gl a e.toNat), i⟩ : Band)] : List Band) : Is (List.length (α := Band) ([(⟨(gl a (e - 1).toNat), (gl a e.toNat), i⟩ : Band)] : List Band)) (LF (α := Band) ([(⟨(gl a (e - 1).toNat), (gl a e.toNat), i⟩ : Band)] : List Band)) ([(⟨(gl a (e - 1).toNat), (gl a e.toNat), i⟩ : Band)] : List Band)).len)))) [(68, .arr 3 ((List.length (α := Band) b) + (List.length (α := Band) ([(⟨(gl a (e - 1).toNat), (gl a e.toNat), i⟩ : Band)] : List Band))) (appF (List.length (α := Band) b) (LF (α := Band) b) (LF (α := Band) ([(⟨(gl a (e - 1).toNat), (gl a e.toNat), i⟩ : Band)] : List Band))))] ⟨OLe.is (Is.app (Is.refl b) (Is.refl ([(⟨(gl a (e - 1).toNat), (gl a e.toNat), i⟩ : Band)] : List Band))), ⟨⟩⟩ ?_
      exact Kn.RE Fm [(5, 68)] (A (b ++ ([(⟨(gl a (e - 1).toNat), (gl a e.toNat), i⟩ : Band)] : List Band)) h)
    ·rcases br_or h with ⟨n, h⟩ | ⟨n, h⟩
     ·obtain ⟨B, o, h⟩ := gS2 h
      rcases br_or h with ⟨t, h⟩ | ⟨t, h⟩
      ·obtain ⟨Y, E, h⟩ := gS2 h
       obtain ⟨p, d0, h⟩ := bS h
       refine AW.G Fm [.s, .s, .w (vb true), .s, .s, .s, .s, .s, .s, .s, .s, .s, .s, .w (vb true), .s, .s, .s, .s, .s, .s, .s, .s, .k (cE [] [] (vb p) [] []), .s] (fun K => _ ∧ (_ ∧ True) ∧ _ ∧ _ ∧ _ ∧ (_ ∧ True) ∧ _ ∧ _ ∧ K 22 ∧ True) [(0, AL a), (1, .v (.c (.sem (CloOK Tryz.prog (FR_Int_ListSpan l))))), (5, ow 5), (6, vi e), (7, pt 7), (8, vi (lI b)), (37, ow 5), (38, vi (lI b)), (39, vi ((lI b) - 1)), (40, .v (.c (.pte 5 3 (((lI b) - 1).toNat) 0))), (41, .v (.c (.pte 5 3 (((lI b) - 1).toNat) 1))), (42, vi (gl b ((lI b) - 1).toNat).high_), (43, pt 7), (44, vi (gl a (e - 1).toNat)), (45, vb (((gl b ((lI b) - 1).toNat).high_) == (gl a (e - 1).toNat))), (48, ow 5), (49, vi (lI b)), (50, vi ((lI b) - 1)), (51, .v (.c (.pte 5 3 (((lI b) - 1).toNat) 0))), (52, .v (.c (.pte 5 3 (((lI b) - 1).toNat) 2))), (53, AL (α := Span) (gl b ((lI b) - 1).toNat).spans_), (54, .v (.c (.ptr 7 2))), (55, AL i), (56, vb p), (57, vb p)] [(5, AO b), (7, bx [ci (gl a (e - 1).toNat), ci (gl a e.toNat), .d (DL i)])] ⟨ALe.bool n, ⟨B, ⟨⟩⟩, o, (toNat_lt o), ALe.bool t, ⟨Y, ⟨⟩⟩, E, (toNat_lt E), KAt.CC (slices_Equal_Span_spec d0) Tryz.call231 [], ⟨⟩⟩ ?_
       exact Kn.R Fm (q p h)
      ·refine AW.pN Fm [.s, .s, .w (vb true), .s, .s, .s, .s, .s, .s, .s, .s, .s, .s, .w (vb false), .s, .s, .s, .s, .s, .s, .s, .s, .s, .s] [(0, AL a), (1, .v (.c (.sem (CloOK Tryz.prog (FR_Int_ListSpan l))))), (5, ow 5), (6, vi e), (7, pt 7), (8, vi (lI b)), (37, ow 5), (38, vi (lI b)), (39, vi ((lI b) - 1)), (40, .v (.c (.pte 5 3 (((lI b) - 1).toNat) 0))), (41, .v (.c (.pte 5 3 (((lI b) - 1).toNat) 1))), (42, vi (gl b ((lI b) - 1).toNat).high_), (43, pt 7), (44, vi (gl a (e - 1).toNat)), (45, vb (((gl b ((lI b) - 1).toNat).high_) == (gl a (e - 1).toNat))), (57, vb false)] [(5, AO b), (7, bx [ci (gl a (e - 1).toNat), ci (gl a e.toNat), .d (DL i)])] (cA (ALe.bool n) (cA (cT B) (cA o (cA (toNat_lt o) (cT (ALe.bool t)))))) ?_
       exact Kn.R Fm (q false h)
     ·refine AW.pN Fm [.s, .s, .w (vb false), .s, .s, .s, .s, .s, .s, .s, .s, .s, .s, .s, .s, .s, .s, .s, .s, .s, .s, .s, .s, .s] [(0, AL a), (1, .v (.c (.sem (CloOK Tryz.prog (FR_Int_ListSpan l))))), (5, ow 5), (6, vi e), (7, pt 7), (8, vi (lI b)), (57, vb false)] [(5, AO b), (7, bx [ci (gl a (e - 1).toNat), ci (gl a e.toNat), .d (DL i)])] (cT (ALe.bool n)) ?_
      exact Kn.R Fm (q false h)
  ·exact AW.exit (Kn.R Fm (N b h))
theorem region_canonical_spec {F : Nat} {a : (List Rect)} {r : (List Rect)} (h : region_canonical F a = some r) :
  FSpec Tryz.prog 175 [AL a] [] (AL (α := Rect) r) [] := by
 refine FI Tryz.func175 prog_mixed prog_lay fun C Fm => ?_
 unfold region_canonical at h
 refine AW.SG0 Fm 2 [(1, pt 1)] [(1, bx [.d (DL a)])] ?_
 refine AW.seq ?_
 obtain ⟨j, e, h⟩ := bS h
 obtain ⟨b, i, h⟩ := bS h
 refine AW.G Fm [.s, .w (AL (α := (List Rect)) ([a] : List (List Rect))), .k (cE [] [] (AL j) [] []), .s, .k (cE [] [1] (AL b) [] []), .s] (fun K => (ALe (.v (.c (.d (.lst 1 (litF 1 [DL a]))))) (AL (α := (List Rect)) ([a] : List (List Rect)))) ∧ K 2 ∧ K 4 ∧ True) [(2, AL b)] [] ⟨ALe.lst (.lit ([a] : List (List Rect)) (by kernel_rfl)), KAt.CC (region_Cuts_spec e) Tryz.call177 [], KAt.callX (region_Build_spec i) Tryz.call176 [] [1] [.tmp 5, .tmp 6] rfl (by kernel_rfl) (by kernel_rfl) (by kernel_rfl) ⟨.p, ArgT.cloX Tryz.call230 [[.d (DL a)]] (fun args r hq => by obtain ⟨y0, y, hq, rfl, rfl⟩ := hq; exact Eq.mp (by kernel_rfl) (region_canonical_1_spec hq)) (fun args r hq => by obtain ⟨y0, y, hq, rfl, rfl⟩ := hq; rfl) (by kernel_rfl) [1] (by kernel_rfl) (by kernel_rfl) (⟨⟨false, (by kernel_rfl)⟩, ⟨⟩⟩) (by kernel_rfl), ⟨⟩⟩, ⟨⟩⟩ ?_
 refine AW.ret ?_
 obtain rfl := Option.some.inj h
 exact Kn.D Fm
theorem slices_Equal_Rect_spec {F : Nat} {c : (List Rect)} {d : (List Rect)} {r : Bool} (h : slices_Equal_Rect F c d = some r) :
  FSpec Tryz.prog 174 [AL c, AL d] [] (vb r) [] := by
 refine FI Tryz.func174 prog_mixed prog_lay fun C Fm => ?_
 unfold slices_Equal_Rect at h
 refine AW.SG0 Fm 1 [(0, AL c), (1, AL d)] [] ?_
 refine AW.seq (AW.SG0 Fm 5 [(0, AL c), (1, AL d), (10, vb ((lI c) != (lI d)))] [] ?_)
 refine AW.cN h (fun j h => ?_) (fun j h => ?_)
 ·refine AW.SG0 Fm 1 [(4, vb false)] [] ?_
  refine AW.ret ?_
  obtain rfl := Option.some.inj h
  exact Kn.D Fm
 ·refine AW.skip (AW.join (r := r) (fun z : Unit => slices_Equal_Rect_k1 F) (fun z => []) (fun z => []) (fun z h => ?_) (fun t i => ?_))
  ·refine AW.SG0 Fm 1 [(4, vb true)] [] ?_
   refine AW.ret ?_
   obtain rfl := Option.some.inj h
   exact Kn.D Fm
  ·refine AW.SG0 Fm 3 [(0, AL c), (1, AL d), (12, vi (lI c)), (13, vi 0)] [] ?_
   refine AW.block (AW.loopF (E' := fun z => [(0, AL c), (1, AL d), (12, vi (lI c)), (13, vi z)]) (S' := fun z => []) (fun u a q e h => ?_) h)
   refine AW.SG0 Fm 1 [(0, AL c), (1, AL d), (12, vi (lI c)), (13, vi a), (14, vb (decide (a < (lI c))))] [] ?_
   refine AW.seq (AW.cN h (fun l h => ?_) (fun l h => ?_))
   ·refine AW.skip (AW.seq (AW.block (AW.SG0 Fm 2 [(0, AL c), (1, AL d), (5, vi a), (12, vi (lI c)), (13, vi a)] [] ?_)))
    obtain ⟨n, o, h⟩ := gS2 h
    refine AW.SG Fm [.s, .s, .s, .s, .s, .s, .s, .s, .k (sE (vb (!((((gl c a.toNat).left_) == ((gl d a.toNat).left_)) && ((((gl c a.toNat).low_) == ((gl d a.toNat).low_)) && ((((gl c a.toNat).right_) == ((gl d a.toNat).right_)) && ((((gl c a.toNat).high_) == ((gl d a.toNat).high_)) && true)))))))] (fun K => _ ∧ _ ∧ K 8 ∧ True) [(0, AL c), (1, AL d), (12, vi (lI c)), (13, vi a), (24, vb (!((((gl c a.toNat).left_) == ((gl d a.toNat).left_)) && ((((gl c a.toNat).low_) == ((gl d a.toNat).low_)) && ((((gl c a.toNat).right_) == ((gl d a.toNat).right_)) && ((((gl c a.toNat).high_) == ((gl d a.toNat).high_)) && true))))))] [] ⟨n, o, KAt.eq (xs := [ci ((gl c a.toNat).left_), ci ((gl c a.toNat).low_), ci ((gl c a.toNat).right_), ci ((gl c a.toNat).high_)]) (ys := [ci ((gl d a.toNat).left_), ci ((gl d a.toNat).low_), ci ((gl d a.toNat).right_), ci ((gl d a.toNat).high_)]) eqT108 false (b := ((((gl c a.toNat).left_) == ((gl d a.toNat).left_)) && ((((gl c a.toNat).low_) == ((gl d a.toNat).low_)) && ((((gl c a.toNat).right_) == ((gl d a.toNat).right_)) && ((((gl c a.toNat).high_) == ((gl d a.toNat).high_)) && true))))) rfl rfl (by kernel_rfl) (by kernel_rfl) (by kernel_rfl) (by kernel_rfl), ⟨⟩⟩ ?_
    refine AW.cN h (fun m h => ?_) (fun m h => ?_)
    ·refine AW.SG0 Fm 1 [(4, vb false)] [] ?_
     refine AW.ret ?_
     obtain rfl := Option.some.inj h
     exact Kn.D Fm
    ·refine AW.skip ?_
     obtain ⟨p, h⟩ := gS h
     refine AW.pN Fm [.s, .s] [(0, AL c), (1, AL d), (12, vi (lI c)), (13, vi (a + 1))] [] (cT (cT p)) ?_
     exact Kn.R Fm (e (a + 1) h)
   ·exact AW.exit (Kn.R Fm (i () h))
theorem region_Valid_spec {F : Nat} {a : Region} {r : Bool} (h : region_Valid F a = some r) :
  FSpec Tryz.prog 92 [.v (.g [.d (DL a.rects_)])] [] (vb r) [] := by
 refine FI Tryz.func92 prog_mixed prog_lay fun C Fm => ?_
 unfold region_Valid at h
 refine AW.SG0 Fm 2 [(1, pt 1)] [(1, bx [.d (DL a.rects_)])] ?_
 refine AW.seq (AW.join (r := r) (fun z : Bool => region_Valid_k0 F a z) (fun z => [(1, pt 1), (11, vb z)]) (fun z => [(1, bx [.d (DL a.rects_)])]) (fun t h => ?_) (fun q e => ?_))
 ·refine AW.cN h (fun j h => ?_) (fun j h => ?_)
  ·refine AW.SG0 Fm 1 [(2, vb false)] [] ?_
   refine AW.ret ?_
   obtain rfl := Option.some.inj h
   exact Kn.D Fm
  ·refine AW.skip (AW.seq ?_)
   obtain ⟨o, m, h⟩ := bS h
   obtain ⟨i, n, h⟩ := bS h
   refine AW.G Fm [.s, .s, .k (cE [] [] (AL o) [] []), .s, .s, .k (cE [] [] (vb i) [] []), .s] (fun K => K 2 ∧ K 5 ∧ True) [(2, vb i)] [] ⟨KAt.CC (region_canonical_spec m) Tryz.call175 [], KAt.CC (slices_Equal_Rect_spec n) Tryz.call174 [], ⟨⟩⟩ ?_
   refine AW.ret ?_
   obtain rfl := Option.some.inj h
   exact Kn.D Fm
 ·rcases br_or h with ⟨b, h⟩ | ⟨b, h⟩
  ·refine AW.pN Fm [.s, .s, .s, .s, .w (vb true), .s, .s, .s, .s] [(1, pt 1), (11, vb true)] [(1, bx [.d (DL a.rects_)])] (cT (ALe.bool b)) ?_
   exact Kn.R Fm (e true h)
  ·obtain ⟨c, l, h⟩ := bS h
   refine AW.G Fm [.s, .s, .s, .s, .w (vb false), .s, .s, .k (cE [] [] (vb c) [] []), .s] (fun K => _ ∧ K 7 ∧ True) [(1, pt 1), (11, vb c)] [(1, bx [.d (DL a.rects_)])] ⟨ALe.bool b, KAt.callX (slices_ContainsFunc_Rect_spec l) Tryz.call171 [] [] [.tmp 9, .func 172] rfl (by kernel_rfl) (by kernel_rfl) (by kernel_rfl) ⟨.p, ArgT.cloX Tryz.call172 [] (fun args r hq => by obtain ⟨y0, y, hq, rfl, rfl⟩ := hq; exact Eq.mp (by kernel_rfl) (region_Valid_1_spec hq)) (fun args r hq => by obtain ⟨y0, y, hq, rfl, rfl⟩ := hq; rfl) (by kernel_rfl) [] (by kernel_rfl) (by kernel_rfl) (True.intro) (by kernel_rfl), ⟨⟩⟩, ⟨⟩⟩ ?_
   exact Kn.R Fm (e c h)
theorem feature_single_spec {F : Nat} {a : Feature} {r : Int} (h : feature_single F a = some r) :
  FSpec Tryz.prog 147 [gE a] [] (vi r) [] := by
 refine FI Tryz.func147 prog_mixed prog_lay fun C Fm => ?_
 unfold feature_single at h
 refine AW.SG0 Fm 2 [(1, pt 1)] [(1, bx (gC a))] ?_
 refine AW.seq (AW.block (AW.join (r := r) (fun z : Bool => feature_single_k0 F a z) (fun z => [(1, pt 1), (3, vb z)]) (fun z => [(1, bx (gC a))]) (fun I h => ?_) (fun A m => ?_)))
 ·refine AW.cN h (fun p h => ?_) (fun p h => ?_)
  ·refine AW.SG0 Fm 1 [(2, vi 2)] [] ?_
   refine AW.ret ?_
   obtain rfl := Option.some.inj h
   exact Kn.D Fm
  ·refine AW.join (r := r) (fun z : Bool => feature_single_k1 F a z) (fun z => [(1, pt 1), (12, vb z)]) (fun z => [(1, bx (gC a))]) (fun L h => ?_) (fun B n => ?_)
   ·refine AW.cN h (fun q h => ?_) (fun q h => ?_)
    ·refine AW.SG0 Fm 1 [(2, vi 14)] [] ?_
     refine AW.ret ?_
     obtain rfl := Option.some.inj h
     exact Kn.D Fm
    ·refine AW.join (r := r) (fun z : Bool => feature_single_k2 F a z) (fun z => [(1, pt 1), (21, vb z)]) (fun z => [(1, bx (gC a))]) (fun M h => ?_) (fun E c => ?_)
     ·refine AW.cN h (fun t h => ?_) (fun t h => ?_)
      ·refine AW.SG0 Fm 1 [(2, vi 9)] [] ?_
       refine AW.ret ?_
       obtain rfl := Option.some.inj h
       exact Kn.D Fm
      ·refine AW.join (r := r) (fun z : Bool => feature_single_k3 F z) (fun z => [(37, vb z)]) (fun z => []) (fun N h => ?_) (fun H o => ?_)
       ·refine AW.cN h (fun u h => ?_) (fun u h => ?_)
        ·refine AW.SG0 Fm 1 [(2, vi 7)] [] ?_
         refine AW.ret ?_
         obtain rfl := Option.some.inj h
         exact Kn.D Fm
        ·refine AW.skip (AW.SG0 Fm 1 [(2, vi 0)] [] ?_)
         refine AW.ret ?_
         obtain rfl := Option.some.inj h
         exact Kn.D Fm
       ·rcases br_or h with ⟨j, h⟩ | ⟨j, h⟩
        ·refine AW.pN Fm [.s, .s, .s, .s, .s, .w (vb true), .s, .s, .s, .s, .s, .s] [(37, vb true)] [] (cT (ALe.bool j)) ?_
         exact Kn.R Fm (o true h)
        ·obtain ⟨l, y, h⟩ := bS h
         refine AW.G Fm [.s, .s, .s, .s, .s, .w (vb false), .s, .s, .k (cE [] [] (vb l) [] []), .s, .s, .s] (fun K => _ ∧ K 8 ∧ True) [(37, vb (!l))] [] ⟨ALe.bool j, KAt.CC (region_Valid_spec y) Tryz.call92 [], ⟨⟩⟩ ?_
         exact Kn.R Fm (o (!l) h)
     ·rcases br_or h with ⟨b, h⟩ | ⟨b, h⟩
      ·refine AW.pN Fm [.s, .s, .s, .w (vb true), .s, .s, .s, .s, .s, .s, .s, .s, .s, .s, .s, .s] [(1, pt 1), (21, vb true)] [(1, bx (gC a))] (cT (ALe.bool b)) ?_
       exact Kn.R Fm (c true h)
      ·rcases br_or h with ⟨i, h⟩ | ⟨i, h⟩
       ·refine AW.pN Fm [.s, .s, .s, .w (vb false), .s, .s, .s, .s, .s, .s, .w (vb true), .s, .s, .s, .s, .s] [(1, pt 1), (21, vb true)] [(1, bx (gC a))] (cA (ALe.bool b) (cT (ALe.bool i))) ?_
        exact Kn.R Fm (c true h)
       ·refine AW.pN Fm [.s, .s, .s, .w (vb false), .s, .s, .s, .s, .s, .s, .w (vb false), .s, .s, .s, .s, .s] [(1, pt 1), (21, vb (decide ((36865 : Int) < a.until_)))] [(1, bx (gC a))] (cA (ALe.bool b) (cT (ALe.bool i))) ?_
        exact Kn.R Fm (c (decide ((36865 : Int) < a.until_)) h)
   ·rcases br_or h with ⟨e, h⟩ | ⟨e, h⟩
    ·refine AW.pN Fm [.s, .s, .s, .w (vb true), .s, .s, .s, .s, .s] [(1, pt 1), (12, vb true)] [(1, bx (gC a))] (cT (ALe.bool e)) ?_
     exact Kn.R Fm (n true h)
    ·refine AW.pN Fm [.s, .s, .s, .w (vb false), .s, .s, .s, .s, .s] [(1, pt 1), (12, vb (decide ((15 : Int) < a.kind_)))] [(1, bx (gC a))] (cT (ALe.bool e)) ?_
     exact Kn.R Fm (n (decide ((15 : Int) < a.kind_)) h)
 ·rcases br_or h with ⟨d, h⟩ | ⟨d, h⟩
  ·refine AW.pN Fm [.s, .s, .s, .w (vb true), .s, .s, .s, .s, .s] [(1, pt 1), (3, vb true)] [(1, bx (gC a))] (cT (ALe.bool d)) ?_
   exact Kn.R Fm (m true h)
  ·refine AW.pN Fm [.s, .s, .s, .w (vb false), .s, .s, .s, .s, .s] [(1, pt 1), (3, vb (decide ((1073741824 : Int) < a.number_)))] [(1, bx (gC a))] (cT (ALe.bool d)) ?_
   exact Kn.R Fm (m (decide ((1073741824 : Int) < a.number_)) h)
theorem feature_Check_spec {F : Nat} {a : (List Feature)} {r : Int} (h : feature_Check F a = some r) :
  FSpec Tryz.prog 71 [AL a] [] (vi r) [] := by
 refine FI Tryz.func71 prog_mixed prog_lay fun C Fm => ?_
 unfold feature_Check at h
 refine AW.SG0 Fm 1 [(0, AL a)] [] ?_
 refine AW.seq (AW.SG0 Fm 3 [(0, AL a), (8, vb (decide ((60 : Int) < (lI a))))] [] ?_)
 refine AW.cN h (fun o h => ?_) (fun o h => ?_)
 ·refine AW.SG0 Fm 1 [(2, vi 1)] [] ?_
  refine AW.ret ?_
  obtain rfl := Option.some.inj h
  exact Kn.D Fm
 ·refine AW.skip (AW.join (r := r) (fun z : Unit => feature_Check_k2 F) (fun z => []) (fun z => []) (fun z h => ?_) (fun L n => ?_))
  ·refine AW.SG0 Fm 1 [(2, vi 0)] [] ?_
   refine AW.ret ?_
   obtain rfl := Option.some.inj h
   exact Kn.D Fm
  ·refine AW.SG0 Fm 3 [(0, AL a), (9, AL a), (10, vi (lI a)), (11, vi 0)] [] ?_
   refine AW.block (AW.loopF (E' := fun z => [(0, AL a), (9, AL a), (10, vi (lI a)), (11, vi z)]) (S' := fun z => []) (fun l b H m h => ?_) h)
   refine AW.SG0 Fm 1 [(0, AL a), (9, AL a), (10, vi (lI a)), (11, vi b), (12, vb (decide (b < (lI a))))] [] ?_
   refine AW.seq (AW.cN h (fun p h => ?_) (fun p h => ?_))
   ·refine AW.skip (AW.seq (AW.block ?_))
    obtain ⟨u, h⟩ := gS h
    refine AW.SP Fm [.s, .s, .s, .s, .s, .s] [(0, AL a), (3, vi b), (4, pt 4), (9, AL a), (10, vi (lI a)), (11, vi b)] [(4, bx [ci ((gl a b.toNat).number_), ci ((gl a b.toNat).kind_), ci ((gl a b.toNat).from_), ci ((gl a b.toNat).until_), .d (DL (α := Rect) (gl a b.toNat).region_.rects_)])] (cT u) ?_
    refine AW.seq (AW.seq ?_)
    obtain ⟨e, E, h⟩ := bS h
    refine AW.G Fm [.s, .k (cE [] [] (vi e) [] []), .s] (fun K => K 1 ∧ True) [(0, AL a), (3, vi b), (4, pt 4), (5, vi e), (9, AL a), (10, vi (lI a)), (11, vi b)] [(4, bx [ci ((gl a b.toNat).number_), ci ((gl a b.toNat).kind_), ci ((gl a b.toNat).from_), ci ((gl a b.toNat).until_), .d (DL (α := Rect) (gl a b.toNat).region_.rects_)])] ⟨KAt.CC (feature_single_spec E) Tryz.call147 [], ⟨⟩⟩ ?_
    refine AW.SG0 Fm 2 [(0, AL a), (3, vi b), (4, pt 4), (5, vi e), (9, AL a), (10, vi (lI a)), (11, vi b), (19, vb (e != (0 : Int)))] [(4, bx [ci ((gl a b.toNat).number_), ci ((gl a b.toNat).kind_), ci ((gl a b.toNat).from_), ci ((gl a b.toNat).until_), .d (DL (α := Rect) (gl a b.toNat).region_.rects_)])] ?_
    refine AW.cN h (fun q h => ?_) (fun q h => ?_)
    ·refine AW.SG0 Fm 2 [(2, vi e)] [] ?_
     refine AW.ret ?_
     obtain rfl := Option.some.inj h
     exact Kn.D Fm
    ·refine AW.skip (AW.join (r := r) (fun z : Bool => feature_Check_k1 F b l z) (fun z => [(0, AL a), (9, AL a), (10, vi (lI a)), (11, vi b), (33, vb z)]) (fun z => []) (fun M h => ?_) (fun I j => ?_))
     ·refine AW.cN h (fun t h => ?_) (fun t h => ?_)
      ·refine AW.SG0 Fm 1 [(2, vi 3)] [] ?_
       refine AW.ret ?_
       obtain rfl := Option.some.inj h
       exact Kn.D Fm
      ·refine AW.skip ?_
       obtain ⟨B, h⟩ := gS h
       refine AW.pN Fm [.s, .s] [(0, AL a), (9, AL a), (10, vi (lI a)), (11, vi (b + 1))] [] (cT (cT B)) ?_
       exact Kn.R Fm (m (b + 1) h)
     ·rcases br_or h with ⟨i, h⟩ | ⟨i, h⟩
      ·obtain ⟨y, A, h⟩ := gS2 h
       refine AW.pN Fm [.s, .s, .w (vb true), .s, .s, .s, .s, .s, .s, .s, .s, .s, .s] [(0, AL a), (9, AL a), (10, vi (lI a)), (11, vi b), (24, pt 4), (25, vi (gl a b.toNat).number_), (26, AL a), (27, vi b), (28, vi (b - 1)), (29, .v (.c (.elm [.int .i64 (gl a (b - 1).toNat).number_, .int .i64 (gl a (b - 1).toNat).kind_, .int .i64 (gl a (b - 1).toNat).from_, .int .i64 (gl a (b - 1).toNat).until_, DL (α := Rect) (gl a (b - 1).toNat).region_.rects_]))), (30, .v (.c (.elm [.int .i64 (gl a (b - 1).toNat).number_, .int .i64 (gl a (b - 1).toNat).kind_, .int .i64 (gl a (b - 1).toNat).from_, .int .i64 (gl a (b - 1).toNat).until_, DL (α := Rect) (gl a (b - 1).toNat).region_.rects_]))), (31, vi (gl a (b - 1).toNat).number_), (32, vb (decide (((gl a b.toNat).number_) ≤ ((gl a (b - 1).toNat).number_)))), (33, vb (decide (((gl a b.toNat).number_) ≤ ((gl a (b - 1).toNat).number_))))] [(4, bx [ci ((gl a b.toNat).number_), ci ((gl a b.toNat).kind_), ci ((gl a b.toNat).from_), ci ((gl a b.toNat).until_), .d (DL (α := Rect) (gl a b.toNat).region_.rects_)])] (cA (ALe.bool i) (cA (cT y) (cT A))) ?_
       exact Kn.R Fm (j (decide (((gl a b.toNat).number_) ≤ ((gl a (b - 1).toNat).number_))) h)
      ·refine AW.pN Fm [.s, .s, .w (vb false), .s, .s, .s, .s, .s, .s, .s, .s, .s, .s] [(0, AL a), (9, AL a), (10, vi (lI a)), (11, vi b), (33, vb false)] [] (cT (ALe.bool i)) ?_
       exact Kn.R Fm (j false h)
   ·exact AW.exit (Kn.R Fm (n () h))
theorem feature_right_spec {F : Nat} {d : (List Feature)} {a : Int} {r : Int} (h : feature_right F d a = some r) :
  FSpec Tryz.prog 149 [AL d, vi a] [] (vi r) [] := by
 refine FI Tryz.func149 prog_mixed prog_lay fun C Fm => ?_
 unfold feature_right at h
 refine AW.SG0 Fm 1 [(0, AL d), (1, vi a)] [] ?_
 refine AW.seq (AW.seq ?_)
 obtain ⟨b, l, h⟩ := bS h
 refine AW.G Fm [.s, .k (cE [] [] (vi b) [] []), .s] (fun K => K 1 ∧ True) [(1, vi a), (5, vi b)] [] ⟨KAt.CC (feature_Check_spec l) Tryz.call71 [], ⟨⟩⟩ ?_
 refine AW.SG0 Fm 2 [(1, vi a), (5, vi b), (9, vb (b != (0 : Int)))] [] ?_
 refine AW.cN h (fun i h => ?_) (fun i h => ?_)
 ·refine AW.SG0 Fm 2 [(4, vi b)] [] ?_
  refine AW.ret ?_
  obtain rfl := Option.some.inj h
  exact Kn.D Fm
 ·refine AW.skip (AW.seq (AW.join (r := r) (fun z : Bool => feature_right_k0 F z) (fun z => [(16, vb z)]) (fun z => []) (fun n h => ?_) (fun m e => ?_)))
  ·refine AW.cN h (fun j h => ?_) (fun j h => ?_)
   ·refine AW.SG0 Fm 1 [(4, vi 9)] [] ?_
    refine AW.ret ?_
    obtain rfl := Option.some.inj h
    exact Kn.D Fm
   ·refine AW.skip (AW.SG0 Fm 1 [(4, vi 0)] [] ?_)
    refine AW.ret ?_
    obtain rfl := Option.some.inj h
    exact Kn.D Fm
  ·rcases br_or h with ⟨c, h⟩ | ⟨c, h⟩
   ·refine AW.pN Fm [.s, .s, .w (vb true), .s, .s, .s] [(16, vb true)] [] (cT (ALe.bool c)) ?_
    exact Kn.R Fm (e true h)
   ·refine AW.pN Fm [.s, .s, .w (vb false), .s, .s, .s] [(16, vb (decide ((36864 : Int) < a)))] [] (cT (ALe.bool c)) ?_
    exact Kn.R Fm (e (decide ((36864 : Int) < a)) h)
theorem slices_Clone_Rect_spec {F : Nat} {a : (List Rect)} {r : (List Rect)} (h : slices_Clone_Rect F a = some r) :
  FSpec Tryz.prog 181 [AL a] [] (AL (α := Rect) r) [] := by
 refine FI Tryz.func181 prog_mixed prog_lay fun C Fm => ?_
 unfold slices_Clone_Rect at h
 refine AW.SG0 Fm 1 [(0, AL a)] [] ?_
 refine AW.seq (AW.SG Fm [.s, .k (sE (nb (List.length a)))] (fun K => K 1 ∧ True) [(0, AL a), (4, .v (.c (.sem (nbP (List.length a)))))] [] ⟨KAt.nil (t := 31) (el := 108) (n := List.length a) (by kernel_rfl) rfl rfl (by kernel_rfl) (by kernel_rfl) (by kernel_rfl), ⟨⟩⟩ ?_)
 refine AW.condNil (n := List.length a) (by kernel_rfl) (fun d => ?_) ?_
 ·have h := brN_t h d
  refine AW.SG0 Fm 1 [(2, .v (.c (.fl 0 fun _ => [])))] [] ?_
  refine AW.ret ?_
  obtain rfl := Option.some.inj h
  refine Kn.r Fm [(2, .v (.c (.fl 0 fun _ => [])))] [] (by kernel_rfl) ?_
  refine Kn.wk [(2, AL (α := Rect) [])] [] ⟨rfl, ALe.c (CLe.fl .nil), ⟨⟩⟩ True.intro ?_
  exact Kn.D Fm
 ·have h := brN_f h
  refine AW.skip ?_
  obtain ⟨b, h⟩ := gS h
  refine AW.SV Fm [.m, .s, .s, .s] [(2, ow 7)] [(7, AO (α := Rect) (([] : List Rect) ++ a))] (cT (cA b (cT (Is.refl a : Is (List.length (α := Rect) a) (LF (α := Rect) a) a).len))) [(7, .arr 4 ((0) + (List.length (α := Rect) a)) (appF (0) (litF 4 []) (LF (α := Rect) a)))] ⟨OLe.is (Is.app (Is.lit ([] : List Rect) (by kernel_rfl)) (Is.refl a)), ⟨⟩⟩ ?_
  refine AW.ret ?_
  obtain rfl := Option.some.inj h
  refine Kn.r Fm [(2, ow 7)] [(7, AO (α := Rect) (([] : List Rect) ++ a))] (by kernel_rfl) ?_
  refine Kn.frz [(2, AL (α := Rect) (([] : List Rect) ++ a))] [] (by kernel_rfl) (by kernel_rfl) (by kernel_rfl) ?_
  exact Kn.D Fm
theorem feature_copied_spec {F : Nat} {a : Feature} {r : Feature} (h : feature_copied F a = some r) :
  FSpec Tryz.prog 161 [gE a] [] (gE r) [] := by
 refine FI Tryz.func161 prog_mixed prog_lay fun C Fm => ?_
 unfold feature_copied at h
 refine AW.SG0 Fm 2 [(1, pt 1), (2, pt 2)] [(1, bx (gC a)), (2, bx [ci 0, ci 0, ci 0, ci 0, .fl 0 fun _ => []])] ?_
 refine AW.seq ?_
 obtain ⟨b, c, h⟩ := bS h
 refine AW.G Fm [.s, .s, .s, .k (cE [] [] (AL b) [] []), .s, .s, .s] (fun K => K 3 ∧ True) [(1, pt 1), (2, pt 2)] [(1, bx [ci a.number_, ci a.kind_, ci a.from_, ci a.until_, .d (DL b)]), (2, bx [ci 0, ci 0, ci 0, ci 0, .fl 0 fun _ => []])] ⟨KAt.CC (slices_Clone_Rect_spec c) Tryz.call181 [], ⟨⟩⟩ ?_
 refine AW.SG0 Fm 2 [(2, pt 2)] [(2, bx [ci a.number_, ci a.kind_, ci a.from_, ci a.until_, .d (DL b)])] ?_
 refine AW.ret ?_
 obtain rfl := Option.some.inj h
 exact Kn.D Fm
theorem feature_all_spec {F : Nat} {a : (List Feature)} {r : (List Feature)} (h : feature_all F a = some r) :
  FSpec Tryz.prog 151 [AL a] [] (ow 100) [(100, AO (α := Feature) r)] := by
 refine FI Tryz.func151 prog_mixed prog_lay fun C Fm => ?_
 unfold feature_all at h
 refine AW.SG Fm [.m] (fun K => True) [(0, AL a)] [] True.intro ?_
 refine AW.SW Fm [.m] (fun K => True) [(0, AL a), (3, ow 3)] [(3, AO (α := Feature) ([] : List Feature))] True.intro [(3, .arr 5 (0) (fun _ => []))] ⟨OLe.is ((Is.nil (α := Feature))), ⟨⟩⟩ ?_
 refine AW.join (r := r) (fun z : (List Feature) => feature_all_k1 F z) (fun z => [(3, ow 3)]) (fun z => [(3, AO z)]) (fun j h => ?_) (fun A n => ?_)
 ·refine AW.SG0 Fm 2 [(2, ow 3)] [(3, AO j)] ?_
  refine AW.ret ?_
  obtain rfl := Option.some.inj h
  exact Kn.re Fm [(100, 3)] [(2, ow 100)] [(100, AO j)] (by kernel_rfl) (by kernel_rfl) (by kernel_rfl) (by kernel_rfl) (Kn.dn Fm (by kernel_rfl))
 ·refine AW.SG0 Fm 3 [(3, ow 3), (6, AL a), (7, vi (lI a)), (8, vi 0)] [(3, AO (α := Feature) ([] : List Feature))] ?_
  refine AW.block (Kn.r Fm [(3, ow 3), (6, AL a), (7, vi (lI a)), (8, vi 0)] [(3, AO ([] : List Feature))] (by kernel_rfl) ?_)
  refine AW.loopF (E' := fun z => [(3, ow 3), (6, AL a), (7, vi (lI a)), (8, vi z.1)]) (S' := fun z => [(3, AO z.2)]) (fun B z y l h => ?_) h
  obtain ⟨e, i⟩ := z
  refine AW.SG0 Fm 1 [(3, ow 3), (6, AL a), (7, vi (lI a)), (8, vi e), (9, vb (decide (e < (lI a))))] [(3, AO i)] ?_
  refine AW.seq (AW.cN h (fun o h => ?_) (fun o h => ?_))
  ·refine AW.skip (AW.seq (AW.block ?_))
   obtain ⟨p, h⟩ := gS h
   refine AW.SP Fm [.s, .s, .s, .s] [(3, ow 3), (5, pt 5), (6, AL a), (7, vi (lI a)), (8, vi e)] [(3, AO i), (5, bx [ci ((gl a e.toNat).number_), ci ((gl a e.toNat).kind_), ci ((gl a e.toNat).from_), ci ((gl a e.toNat).until_), .d (DL (α := Rect) (gl a e.toNat).region_.rects_)])] (cT p) ?_
   obtain ⟨b, u, h⟩ := bS h
   obtain ⟨q, h⟩ := gS h
   refine AW.GW Fm [.s, .s, .k (cE [] [] (gE b) [] []), .w (AL (α := Feature) ([b] : List Feature)), .s, .s] (fun K => K 2 ∧ (ALe (.v (.c (.d (.lst 1 (litF 5 [.int .i64 b.number_, .int .i64 b.kind_, .int .i64 b.from_, .int .i64 b.until_, DL b.region_.rects_]))))) (AL (α := Feature) ([b] : List Feature))) ∧ (_ ∧ _ ∧ True) ∧ True) [(3, ow 16), (6, AL a), (7, vi (lI a)), (8, vi e)] [(16, AO (α := Feature) (i ++ ([b] : List Feature)))] ⟨KAt.CC (feature_copied_spec u) Tryz.call161 [], ALe.lst (.lit ([b] : List Feature) (by kernel_rfl)), ⟨q, (Is.refl ([b] : List Feature) : Is (List.length (α := Feature) ([b] : List Feature)) (LF (α := Feature) ([b] : List Feature)) ([b] : List Feature)).len, ⟨⟩⟩, ⟨⟩⟩ [(16, .arr 5 ((List.length (α := Feature) i) + (List.length (α := Feature) ([b] : List Feature))) (appF (List.length (α := Feature) i) (LF (α := Feature) i) (LF (α := Feature) ([b] : List Feature))))] ⟨OLe.is (Is.app (Is.refl i) (Is.refl ([b] : List Feature))), ⟨⟩⟩ ?_
   obtain ⟨t, h⟩ := gS h
   refine AW.pN Fm [.s, .s] [(3, ow 16), (6, AL a), (7, vi (lI a)), (8, vi (e + 1))] [(16, AO (α := Feature) (i ++ ([b] : List Feature)))] (cT (cT t)) ?_
   exact Kn.RE Fm [(3, 16)] (l ((e + 1), (i ++ ([b] : List Feature))) h)
  ·exact AW.exit (Kn.R Fm (n i h))
theorem feature_there_spec {F : Nat} {a : Feature} {b : Int} {r : Bool} (h : feature_there F a b = some r) :
  FSpec Tryz.prog 153 [gE a, vi b] [] (vb r) [] := by
 refine FI Tryz.func153 prog_mixed prog_lay fun C Fm => ?_
 unfold feature_there at h
 refine AW.SG0 Fm 2 [(1, vi b), (2, pt 2)] [(2, bx (gC a))] ?_
 refine AW.join (r := r) (fun z : Bool => feature_there_k0 F z) (fun z => [(4, vb z)]) (fun z => []) (fun i h => ?_) (fun e d => ?_)
 ·refine AW.ret ?_
  obtain rfl := Option.some.inj h
  exact Kn.D Fm
 ·rcases br_or h with ⟨c, h⟩ | ⟨c, h⟩
  ·refine AW.pN Fm [.s, .s, .s, .s, .w (vb true), .s, .s, .s, .s, .s, .s] [(4, vb (decide (b < a.until_)))] [] (cT (ALe.bool c)) ?_
   exact Kn.R Fm (d (decide (b < a.until_)) h)
  ·refine AW.pN Fm [.s, .s, .s, .s, .w (vb false), .s, .s, .s, .s, .s, .s] [(4, vb false)] [] (cT (ALe.bool c)) ?_
   exact Kn.R Fm (d false h)
theorem feature_On_1_spec {F : Nat} {b : Feature} {a : Int} {r : Bool} (h : feature_On_1 F b a = some r) :
  FSpec Tryz.prog 152 [gE b, pt 0] [(0, .box true [ci a])] (vb r) [(0, .box true [ci a])] := by
 refine FI Tryz.func152 prog_mixed prog_lay fun C Fm => ?_
 unfold feature_On_1 at h
 refine AW.SG0 Fm 2 [(1, pt 0), (2, pt 2)] [(0, .box true [ci a]), (2, bx (gC b))] ?_
 refine AW.seq ?_
 obtain ⟨c, d, h⟩ := bS h
 refine AW.G Fm [.s, .s, .k (cE [] [] (vb c) [] []), .s, .s] (fun K => K 2 ∧ True) [(3, vb (!c))] [(0, .box true [ci a])] ⟨KAt.CC (feature_there_spec d) Tryz.call153 [], ⟨⟩⟩ ?_
 refine AW.ret ?_
 obtain rfl := Option.some.inj h
 exact Kn.D Fm
theorem slices_IndexFunc_Feature_spec {F : Nat} {a : (List Feature)} {e : Feature → Option Bool} {r : Int} (h : slices_IndexFunc_Feature F a e = some r) :
  FSpec Tryz.prog 217 [AL a, .v (.c (.sem (CloOK Tryz.prog (FR_Feature_Bool e))))] [] (vi r) [] := by
 refine FI Tryz.func217 prog_mixed prog_lay fun C Fm => ?_
 unfold slices_IndexFunc_Feature at h
 refine AW.SG0 Fm 1 [(0, AL a), (1, .v (.c (.sem (CloOK Tryz.prog (FR_Feature_Bool e)))))] [] ?_
 refine AW.join (r := r) (fun z : Unit => slices_IndexFunc_Feature_k1 F) (fun z => []) (fun z => []) (fun z h => ?_) (fun u l => ?_)
 ·refine AW.SG0 Fm 1 [(4, vi (-1 : Int))] [] ?_
  refine AW.ret ?_
  obtain rfl := Option.some.inj h
  exact Kn.D Fm
 ·refine AW.SG0 Fm 3 [(0, AL a), (1, .v (.c (.sem (CloOK Tryz.prog (FR_Feature_Bool e))))), (7, vi (lI a)), (8, vi 0)] [] ?_
  refine AW.block (AW.loopF (E' := fun z => [(0, AL a), (1, .v (.c (.sem (CloOK Tryz.prog (FR_Feature_Bool e))))), (7, vi (lI a)), (8, vi z)]) (S' := fun z => []) (fun w b t j h => ?_) h)
  refine AW.SG0 Fm 1 [(0, AL a), (1, .v (.c (.sem (CloOK Tryz.prog (FR_Feature_Bool e))))), (7, vi (lI a)), (8, vi b), (9, vb (decide (b < (lI a))))] [] ?_
  refine AW.seq (AW.cN h (fun m h => ?_) (fun m h => ?_))
  ·refine AW.skip (AW.seq (AW.block (AW.SG0 Fm 2 [(0, AL a), (1, .v (.c (.sem (CloOK Tryz.prog (FR_Feature_Bool e))))), (5, vi b), (7, vi (lI a)), (8, vi b)] [] ?_)))
   refine AW.seq ?_
   obtain ⟨o, h⟩ := gS h
   obtain ⟨i, q, h⟩ := bS h
   refine AW.G Fm [.s, .s, .s, .s, .s, .k (sE (vb i))] (fun K => _ ∧ K 5 ∧ True) [(0, AL a), (1, .v (.c (.sem (CloOK Tryz.prog (FR_Feature_Bool e))))), (5, vi b), (7, vi (lI a)), (8, vi b), (16, vb i)] [] ⟨o, KAt.sem (F := (FR_Feature_Bool e)) (args := [.v (.g [ci ((gl a b.toNat).number_), ci ((gl a b.toNat).kind_), ci ((gl a b.toNat).from_), ci ((gl a b.toNat).until_), .d (DL (α := Rect) (gl a b.toNat).region_.rects_)])]) ⟨(gl a b.toNat), i, q, rfl, rfl⟩ rfl (by kernel_rfl) (by kernel_rfl) (by kernel_rfl), ⟨⟩⟩ ?_
   refine AW.cN h (fun n h => ?_) (fun n h => ?_)
   ·refine AW.SG0 Fm 2 [(4, vi b)] [] ?_
    refine AW.ret ?_
    obtain rfl := Option.some.inj h
    exact Kn.D Fm
   ·refine AW.skip ?_
    obtain ⟨p, h⟩ := gS h
    refine AW.pN Fm [.s, .s] [(0, AL a), (1, .v (.c (.sem (CloOK Tryz.prog (FR_Feature_Bool e))))), (7, vi (lI a)), (8, vi (b + 1))] [] (cT (cT p)) ?_
    exact Kn.R Fm (j (b + 1) h)
  ·exact AW.exit (Kn.R Fm (l () h))
theorem slices_DeleteFunc_Feature_spec {F : Nat} {t : (List Feature)} {p : Feature → Option Bool} {r : (List Feature)} (h : slices_DeleteFunc_Feature F t p = some r) :
  FSpec Tryz.prog 150 [ow 0, .v (.c (.sem (CloOK Tryz.prog (FR_Feature_Bool p))))] [(0, AO t)] (ow 100) [(100, AO (α := Feature) r)] := by
 refine FI Tryz.func150 prog_mixed prog_lay fun C Fm => ?_
 unfold slices_DeleteFunc_Feature at h
 refine AW.SG Fm [.m] (fun K => True) [(0, ow 0), (1, .v (.c (.sem (CloOK Tryz.prog (FR_Feature_Bool p)))))] [(0, AO t)] True.intro ?_
 refine AW.seq ?_
 obtain ⟨w, Z, h⟩ := bS h
 refine AW.G Fm [.s, .s, .k (sE (vi w)), .s] (fun K => K 2 ∧ True) [(0, ow 0), (1, .v (.c (.sem (CloOK Tryz.prog (FR_Feature_Bool p))))), (5, vi w)] [(0, AO t)] ⟨KAt.callBX (slices_IndexFunc_Feature_spec Z) Tryz.call217 [0] [.tmp 8, .tmp 9] rfl (by kernel_rfl) (by kernel_rfl) ⟨ArgB.own 0 (es := 5) (n := List.length t) (f := LF t) (by kernel_rfl) (by kernel_rfl) (by kernel_rfl) (by kernel_rfl), ArgB.sem (by kernel_rfl) (by kernel_rfl), ⟨⟩⟩, ⟨⟩⟩ ?_
 refine AW.seq (AW.SG0 Fm 2 [(0, ow 0), (1, .v (.c (.sem (CloOK Tryz.prog (FR_Feature_Bool p))))), (5, vi w), (12, vb (w == (-1 : Int)))] [(0, AO t)] ?_)
 refine AW.cN h (fun P h => ?_) (fun P h => ?_)
 ·refine AW.SG0 Fm 2 [(4, ow 0)] [(0, AO t)] ?_
  refine AW.ret ?_
  obtain rfl := Option.some.inj h
  exact Kn.re Fm [(100, 0)] [(4, ow 100)] [(100, AO t)] (by kernel_rfl) (by kernel_rfl) (by kernel_rfl) (by kernel_rfl) (Kn.dn Fm (by kernel_rfl))
 ·refine AW.skip (AW.join (r := r) (fun z : Int × (List Feature) => slices_DeleteFunc_Feature_k2 F z.1 z.2) (fun z => [(0, ow 0), (5, vi z.1)]) (fun z => [(0, AO z.2)]) (fun z h => ?_) (fun d0 O => ?_))
  ·obtain ⟨e, o⟩ := z
   obtain ⟨Y, h⟩ := gS h
   refine AW.SW Fm [.s, .s, .k (rE { v := .v (.c (.sub 0 5 (0 + (e).toNat) ((List.length (α := Feature) o) - (e).toNat))) }), .k (rE { v := .any, upd := some (0, .arr 5 (List.length (α := Feature) o) (fun i => if (0 + (e).toNat) ≤ i ∧ i < (0 + (e).toNat) + ((List.length (α := Feature) o) - (e).toNat) then (fun _ => [.int .i64 0, .int .i64 0, .int .i64 0, .int .i64 0, DL (α := Rect) []]) (i - (0 + (e).toNat)) else (LF (α := Feature) o) i)) })] (fun K => K 2 ∧ K 3 ∧ True) [(0, ow 0), (5, vi e)] [(0, AO (α := Feature) (clr o (0 + (e).toNat) ((List.length (α := Feature) o) - (e).toNat)))] ⟨KAt.vslice (l := (some e)) (u := none) (id := 0) (lo0 := 0) (n := (List.length (α := Feature) o)) (N := List.length (α := Feature) o) (f := LF (α := Feature) o) prog_lay slT76 rfl rfl (by kernel_rfl) (by kernel_rfl) (by kernel_rfl) (by kernel_rfl) (by kernel_rfl) Y (by kernel_rfl), KAt.vclear (id := 0) (lo0 := (0 + (e).toNat)) (n := ((List.length (α := Feature) o) - (e).toNat)) (N := List.length (α := Feature) o) (f := (LF (α := Feature) o)) prog_lay slT76 [.int .i64 0, .int .i64 0, .int .i64 0, .int .i64 0, .lst 0 fun _ => []] [.int .i64 0, .int .i64 0, .int .i64 0, .int .i64 0, DL (α := Rect) []] ⟨DLe.refl _, DLe.refl _, DLe.refl _, DLe.refl _, DLe.nil _ _, ⟨⟩⟩ rfl rfl (by kernel_rfl) (Nat.succ_pos _) (by kernel_rfl) (by kernel_rfl) (by kernel_rfl) (by kernel_rfl) rfl, ⟨⟩⟩ [(0, .arr 5 (List.length (α := Feature) o) (fun i => if (0 + (e).toNat) ≤ i ∧ i < (0 + (e).toNat) + ((List.length (α := Feature) o) - (e).toNat) then (fun _ => [.int .i64 0, .int .i64 0, .int .i64 0, .int .i64 0, DL (α := Rect) []]) (i - (0 + (e).toNat)) else (LF (α := Feature) o) i))] ⟨OLe.is (Is.clr (l := o) (0 + (e).toNat) ((List.length (α := Feature) o) - (e).toNat) (zd := [.int .i64 0, .int .i64 0, .int .i64 0, .int .i64 0, DL (α := Rect) []]) (by kernel_rfl)), ⟨⟩⟩ ?_
   obtain ⟨E, h⟩ := gS h
   refine AW.SV Fm [.s, .s, .m, .s] [(4, ow 41)] [(41, AO (α := Feature) ((clr o (0 + (e).toNat) ((List.length (α := Feature) o) - (e).toNat)).take (e).toNat))] (cT E) [(41, .arr 5 ((e).toNat) (LF (α := Feature) (clr o (0 + (e).toNat) ((List.length (α := Feature) o) - (e).toNat))))] ⟨OLe.is (Is.take (Is.refl (clr o (0 + (e).toNat) ((List.length (α := Feature) o) - (e).toNat))) E.2), ⟨⟩⟩ ?_
   refine AW.ret ?_
   obtain rfl := Option.some.inj h
   exact Kn.re Fm [(100, 41)] [(4, ow 100)] [(100, AO (α := Feature) ((clr o (0 + (e).toNat) ((List.length (α := Feature) o) - (e).toNat)).take (e).toNat))] (by kernel_rfl) (by kernel_rfl) (by kernel_rfl) (by kernel_rfl) (Kn.dn Fm (by kernel_rfl))
  ·obtain ⟨V, h⟩ := gS h
   refine AW.SP Fm [.s, .s, .s] [(0, ow 0), (1, .v (.c (.sem (CloOK Tryz.prog (FR_Feature_Bool p))))), (5, vi w), (6, vi (w + 1))] [(0, AO t)] (cT (cT V)) ?_
   refine AW.block (AW.loopF (E' := fun z => [(0, ow 0), (1, .v (.c (.sem (CloOK Tryz.prog (FR_Feature_Bool p))))), (5, vi z.1), (6, vi z.2.1)]) (S' := fun z => [(0, AO z.2.2)]) (fun L z b0 M h => ?_) h)
   obtain ⟨q, b, a⟩ := z
   refine AW.seq (AW.SG0 Fm 4 [(0, ow 0), (1, .v (.c (.sem (CloOK Tryz.prog (FR_Feature_Bool p))))), (5, vi q), (6, vi b), (19, vb (decide (b < (lI a))))] [(0, AO a)] ?_)
   refine AW.cN h (fun T h => ?_) (fun T h => ?_)
   ·refine AW.skip (AW.join (r := r) (fun z : Int × (List Feature) => slices_DeleteFunc_Feature_k1 F b L z.1 z.2) (fun z => [(0, ow 0), (1, .v (.c (.sem (CloOK Tryz.prog (FR_Feature_Bool p))))), (5, vi z.1), (6, vi b)]) (fun z => [(0, AO z.2)]) (fun z h => ?_) (fun c0 B => ?_))
    ·obtain ⟨H, I⟩ := z
     obtain ⟨X, h⟩ := gS h
     refine AW.pN Fm [.s, .s, .s] [(0, ow 0), (1, .v (.c (.sem (CloOK Tryz.prog (FR_Feature_Bool p))))), (5, vi H), (6, vi (b + 1))] [(0, AO I)] (cT (cT X)) ?_
     exact Kn.R Fm (M (H, (b + 1), I) h)
    ·refine AW.block ?_
     obtain ⟨D, h⟩ := gS h
     refine AW.SP Fm [.s, .s, .s, .s, .s, .s] [(0, ow 0), (1, .v (.c (.sem (CloOK Tryz.prog (FR_Feature_Bool p))))), (5, vi q), (6, vi b), (7, pt 7)] [(0, AO a), (7, bx [ci ((gl a b.toNat).number_), ci ((gl a b.toNat).kind_), ci ((gl a b.toNat).from_), ci ((gl a b.toNat).until_), .d (DL (α := Rect) (gl a b.toNat).region_.rects_)])] (cA D (cT (toNat_lt D))) ?_
     refine AW.seq ?_
     obtain ⟨A, a0, h⟩ := bS h
     refine AW.G Fm [.s, .s, .k (sE (vb A)), .s] (fun K => K 2 ∧ True) [(0, ow 0), (1, .v (.c (.sem (CloOK Tryz.prog (FR_Feature_Bool p))))), (5, vi q), (6, vi b), (7, pt 7), (29, vb (!A))] [(0, AO a), (7, bx [ci ((gl a b.toNat).number_), ci ((gl a b.toNat).kind_), ci ((gl a b.toNat).from_), ci ((gl a b.toNat).until_), .d (DL (α := Rect) (gl a b.toNat).region_.rects_)])] ⟨KAt.sem (F := (FR_Feature_Bool p)) (args := [.v (.g [ci ((gl a b.toNat).number_), ci ((gl a b.toNat).kind_), ci ((gl a b.toNat).from_), ci ((gl a b.toNat).until_), .d (DL (α := Rect) (gl a b.toNat).region_.rects_)])]) ⟨(gl a b.toNat), A, a0, rfl, rfl⟩ rfl (by kernel_rfl) (by kernel_rfl) (by kernel_rfl), ⟨⟩⟩ ?_
     refine AW.cN h (fun U h => ?_) (fun U h => ?_)
     ·obtain ⟨y, h⟩ := gS h
      refine AW.SV Fm [.s, .s, .s, .s, .s] [(0, ow 0), (1, .v (.c (.sem (CloOK Tryz.prog (FR_Feature_Bool p))))), (5, vi q), (6, vi b)] [(0, AO (α := Feature) (List.set a q.toNat (gl a b.toNat)))] (cA y (cT (toNat_lt y))) [(0, .arr 5 (List.length (α := Feature) a) (fun j => if j = q.toNat then splice ((LF (α := Feature) a) q.toNat) 0 [.int .i64 (gl a b.toNat).number_, .int .i64 (gl a b.toNat).kind_, .int .i64 (gl a b.toNat).from_, .int .i64 (gl a b.toNat).until_, DL (α := Rect) (gl a b.toNat).region_.rects_] else (LF (α := Feature) a) j))] ⟨OLe.is (Is.set (Is.refl a) (toNat_lt y) (gl a b.toNat) (by kernel_rfl)), ⟨⟩⟩ ?_
      obtain ⟨W, h⟩ := gS h
      refine AW.pN Fm [.s, .s, .s] [(0, ow 0), (1, .v (.c (.sem (CloOK Tryz.prog (FR_Feature_Bool p))))), (5, vi (q + 1)), (6, vi b)] [(0, AO (α := Feature) (List.set a q.toNat (gl a b.toNat)))] (cT (cT W)) ?_
      exact Kn.R Fm (B ((q + 1), (List.set a q.toNat (gl a b.toNat))) h)
     ·exact AW.skip (Kn.R Fm (B (q, a) h))
   ·exact AW.exit (Kn.R Fm (O (q, a) h))
theorem feature_On_spec {F : Nat} {e : (List Feature)} {b : Int} {r : (List Feature) × Int} (h : feature_On F e b = some r) :
  FSpec Tryz.prog 73 [AL e, vi b] [] (.t [.c (.d (DL (α := Feature) r.1)), .c (ci r.2)]) [] := by
 refine FI Tryz.func73 prog_mixed prog_lay fun C Fm => ?_
 unfold feature_On at h
 refine AW.SG0 Fm 3 [(0, AL e), (3, pt 3)] [(3, bx [ci b])] ?_
 refine AW.seq (AW.seq ?_)
 obtain ⟨a, m, h⟩ := bS h
 refine AW.G Fm [.s, .s, .k (cE [] [] (vi a) [] []), .s] (fun K => K 2 ∧ True) [(0, AL e), (3, pt 3), (6, vi a)] [(3, bx [ci b])] ⟨KAt.CC (feature_right_spec m) Tryz.call149 [], ⟨⟩⟩ ?_
 refine AW.SG0 Fm 2 [(0, AL e), (3, pt 3), (6, vi a), (11, vb (a != (0 : Int)))] [(3, bx [ci b])] ?_
 refine AW.cN h (fun l h => ?_) (fun l h => ?_)
 ·refine AW.SG0 Fm 3 [(4, .v (.c (.fl 0 fun _ => []))), (5, vi a)] [] ?_
  refine AW.ret ?_
  obtain rfl := Option.some.inj h
  refine Kn.r Fm [(4, .v (.c (.fl 0 fun _ => []))), (5, vi a)] [] (by kernel_rfl) ?_
  refine Kn.wk [(4, AL (α := Feature) []), (5, vi a)] [] ⟨rfl, ALe.c (CLe.fl .nil), ⟨rfl, ALe.c (CLe.refl _), ⟨⟩⟩⟩ True.intro ?_
  exact Kn.D Fm
 ·refine AW.skip (AW.seq ?_)
  obtain ⟨j, n, h⟩ := bS h
  obtain ⟨i, o, h⟩ := bS h
  refine AW.G Fm [.s, .k (cE [(100, 14)] [] (ow 100) [] [(100, AO j)]), .s, .k (cE [(0, 14), (100, 16)] [3] (ow 100) [(0, AO j)] [(100, AO i)]), .s, .s] (fun K => K 1 ∧ K 3 ∧ True) [(4, ow 16), (5, vi 0)] [(16, AO i)] ⟨KAt.CC (feature_all_spec n) Tryz.call151 [(100, 14)], KAt.callX (slices_DeleteFunc_Feature_spec o) Tryz.call150 [(0, 14), (100, 16)] [3] [.tmp 14, .tmp 15] rfl (by kernel_rfl) (by kernel_rfl) (by kernel_rfl) ⟨.p, ArgT.cloX Tryz.call152 [[ci b]] (fun args r hq => by obtain ⟨y0, y, hq, rfl, rfl⟩ := hq; exact Eq.mp (by kernel_rfl) (feature_On_1_spec hq)) (fun args r hq => by obtain ⟨y0, y, hq, rfl, rfl⟩ := hq; rfl) (by kernel_rfl) [3] (by kernel_rfl) (by kernel_rfl) (⟨⟨false, (by kernel_rfl)⟩, ⟨⟩⟩) (by kernel_rfl), ⟨⟩⟩, ⟨⟩⟩ ?_
  refine AW.ret ?_
  obtain rfl := Option.some.inj h
  refine Kn.r Fm [(4, ow 16), (5, vi 0)] [(16, AO i)] (by kernel_rfl) ?_
  refine Kn.frz [(4, AL i), (5, vi 0)] [] (by kernel_rfl) (by kernel_rfl) (by kernel_rfl) ?_
  exact Kn.D Fm
theorem zone_check_spec {F : Nat} {j : (List Feature)} {l : Int} {a : Int} {e : Region} {r : Int} (h : zone_check F j l a e = some r) :
  FSpec Tryz.prog 132 [AL j, vi l, vi a, .v (.g [.d (DL e.rects_)])] [] (vi r) [] := by
 refine FI Tryz.func132 prog_mixed prog_lay fun C Fm => ?_
 unfold zone_check at h
 refine AW.SG0 Fm 2 [(0, AL j), (1, vi l), (2, vi a), (7, pt 7)] [(7, bx [.d (DL e.rects_)])] ?_
 refine AW.seq (AW.seq ?_)
 obtain ⟨b, u, h⟩ := bS h
 refine AW.G Fm [.s, .s, .k (cE [] [] (.t [.c (.d (DL b.1)), .c (ci b.2)]) [] []), .s, .s, .s, .s, .s] (fun K => K 2 ∧ True) [(2, vi a), (7, pt 7), (10, vi b.2)] [(7, bx [.d (DL e.rects_)])] ⟨KAt.CC (feature_On_spec u) Tryz.call73 [], ⟨⟩⟩ ?_
 refine AW.SG0 Fm 2 [(2, vi a), (7, pt 7), (10, vi b.2), (18, vb (b.2 != (0 : Int)))] [(7, bx [.d (DL e.rects_)])] ?_
 refine AW.cN h (fun o h => ?_) (fun o h => ?_)
 ·refine AW.SG0 Fm 2 [(8, vi b.2)] [] ?_
  refine AW.ret ?_
  obtain rfl := Option.some.inj h
  exact Kn.D Fm
 ·refine AW.skip (AW.seq (AW.block (AW.seq ?_)))
  obtain ⟨n, y, h⟩ := bS h
  refine AW.G Fm [.s, .k (cE [] [] (vb n) [] []), .s, .s] (fun K => K 1 ∧ True) [(2, vi a), (20, vb (!n))] [] ⟨KAt.CC (region_Valid_spec y) Tryz.call92 [], ⟨⟩⟩ ?_
  refine AW.cN h (fun p h => ?_) (fun p h => ?_)
  ·refine AW.SG0 Fm 1 [(8, vi 7)] [] ?_
   refine AW.ret ?_
   obtain rfl := Option.some.inj h
   exact Kn.D Fm
  ·refine AW.join (r := r) (fun z : Bool => zone_check_k0 F z) (fun z => [(24, vb z)]) (fun z => []) (fun B h => ?_) (fun A m => ?_)
   ·refine AW.cN h (fun q h => ?_) (fun q h => ?_)
    ·refine AW.SG0 Fm 1 [(8, vi 2)] [] ?_
     refine AW.ret ?_
     obtain rfl := Option.some.inj h
     exact Kn.D Fm
    ·refine AW.skip (AW.SG0 Fm 1 [(8, vi 0)] [] ?_)
     refine AW.ret ?_
     obtain rfl := Option.some.inj h
     exact Kn.D Fm
   ·rcases br_or h with ⟨i, h⟩ | ⟨i, h⟩
    ·refine AW.pN Fm [.s, .s, .w (vb true), .s, .s, .s, .s] [(24, vb true)] [] (cT (ALe.bool i)) ?_
     exact Kn.R Fm (m true h)
    ·refine AW.pN Fm [.s, .s, .w (vb false), .s, .s, .s, .s] [(24, vb (decide ((268435456 : Int) < a)))] [] (cT (ALe.bool i)) ?_
     exact Kn.R Fm (m (decide ((268435456 : Int) < a)) h)
theorem zone_sort_spec {F : Nat} {a : Int} {r : Int} (h : zone_sort F a = some r) :
  FSpec Tryz.prog 205 [vi a] [] (vi r) [] := by
 refine FI Tryz.func205 prog_mixed prog_lay fun C Fm => ?_
 unfold zone_sort at h
 refine AW.SG0 Fm 1 [(0, vi a)] [] ?_
 refine AW.seq (AW.SG0 Fm 1 [(3, vi a)] [] ?_)
 refine AW.block (AW.join (r := r) (fun z : Bool => zone_sort_k0 F a z) (fun z => [(3, vi a), (4, vb z)]) (fun z => []) (fun w h => ?_) (fun t b => ?_))
 ·refine AW.cN h (fun n h => ?_) (fun n h => ?_)
  ·refine AW.SG0 Fm 1 [(2, vi 0)] [] ?_
   refine AW.ret ?_
   obtain rfl := Option.some.inj h
   exact Kn.D Fm
  ·refine AW.join (r := r) (fun z : Bool => zone_sort_k1 F z) (fun z => [(13, vb z)]) (fun z => []) (fun y h => ?_) (fun u c => ?_)
   ·refine AW.cN h (fun s h => ?_) (fun s h => ?_)
    ·refine AW.SG0 Fm 1 [(2, vi 1)] [] ?_
     refine AW.ret ?_
     obtain rfl := Option.some.inj h
     exact Kn.D Fm
    ·refine AW.skip (AW.SG0 Fm 1 [(2, vi 2)] [] ?_)
     refine AW.ret ?_
     obtain rfl := Option.some.inj h
     exact Kn.D Fm
   ·refine AW.SG0 Fm 2 [(3, vi a), (13, vb (a == (8 : Int)))] [] ?_
    refine AW.cN h (fun o h => ?_) (fun o h => ?_)
    ·exact AW.skip (Kn.R Fm (c (a == (8 : Int)) h))
    ·refine AW.SG0 Fm 2 [(3, vi a), (13, vb (a == (9 : Int)))] [] ?_
     refine AW.cN h (fun p h => ?_) (fun p h => ?_)
     ·exact AW.skip (Kn.R Fm (c (a == (9 : Int)) h))
     ·refine AW.SG0 Fm 2 [(3, vi a), (13, vb (a == (10 : Int)))] [] ?_
      refine AW.cN h (fun q h => ?_) (fun q h => ?_)
      ·exact AW.skip (Kn.R Fm (c (a == (10 : Int)) h))
      ·refine AW.G0 Fm 2 [(13, vb (a == (11 : Int)))] [] ?_
       exact Kn.R Fm (c (a == (11 : Int)) h)
 ·refine AW.SG0 Fm 2 [(3, vi a), (4, vb (a == (0 : Int)))] [] ?_
  refine AW.cN h (fun d h => ?_) (fun d h => ?_)
  ·exact AW.skip (Kn.R Fm (b (a == (0 : Int)) h))
  ·refine AW.SG0 Fm 2 [(3, vi a), (4, vb (a == (1 : Int)))] [] ?_
   refine AW.cN h (fun e h => ?_) (fun e h => ?_)
   ·exact AW.skip (Kn.R Fm (b (a == (1 : Int)) h))
   ·refine AW.SG0 Fm 2 [(3, vi a), (4, vb (a == (2 : Int)))] [] ?_
    refine AW.cN h (fun i h => ?_) (fun i h => ?_)
    ·exact AW.skip (Kn.R Fm (b (a == (2 : Int)) h))
    ·refine AW.SG0 Fm 2 [(3, vi a), (4, vb (a == (3 : Int)))] [] ?_
     refine AW.cN h (fun j h => ?_) (fun j h => ?_)
     ·exact AW.skip (Kn.R Fm (b (a == (3 : Int)) h))
     ·refine AW.SG0 Fm 2 [(3, vi a), (4, vb (a == (4 : Int)))] [] ?_
      refine AW.cN h (fun k h => ?_) (fun k h => ?_)
      ·exact AW.skip (Kn.R Fm (b (a == (4 : Int)) h))
      ·refine AW.SG0 Fm 2 [(3, vi a), (4, vb (a == (5 : Int)))] [] ?_
       refine AW.cN h (fun l h => ?_) (fun l h => ?_)
       ·exact AW.skip (Kn.R Fm (b (a == (5 : Int)) h))
       ·refine AW.SG0 Fm 2 [(3, vi a), (4, vb (a == (6 : Int)))] [] ?_
        refine AW.cN h (fun m h => ?_) (fun m h => ?_)
        ·exact AW.skip (Kn.R Fm (b (a == (6 : Int)) h))
        ·refine AW.G0 Fm 2 [(3, vi a), (4, vb (a == (7 : Int)))] [] ?_
         exact Kn.R Fm (b (a == (7 : Int)) h)
theorem zone_of_1_spec {F : Nat} {b : Int} {a : Int} {r : Bool} (h : zone_of_1 F b a = some r) :
  FSpec Tryz.prog 204 [vi b, pt 0] [(0, .box true [ci a])] (vb r) [(0, .box true [ci a])] := by
 refine FI Tryz.func204 prog_mixed prog_lay fun C Fm => ?_
 unfold zone_of_1 at h
 refine AW.SG0 Fm 1 [(0, vi b), (1, pt 0)] [(0, .box true [ci a])] ?_
 refine AW.seq ?_
 obtain ⟨c, d, h⟩ := bS h
 refine AW.G Fm [.s, .k (cE [] [] (vi c) [] []), .s, .s, .s] (fun K => K 1 ∧ True) [(3, vb (c == a))] [(0, .box true [ci a])] ⟨KAt.CC (zone_sort_spec d) Tryz.call205 [], ⟨⟩⟩ ?_
 refine AW.ret ?_
 obtain rfl := Option.some.inj h
 exact Kn.D Fm
theorem feature_Rects_spec {F : Nat} {a : (List Feature)} {i : Int} {e : Int → Option Bool} {r : (List Rect)} (h : feature_Rects F a i e = some r) :
  FSpec Tryz.prog 155 [AL a, vi i, .v (.c (.sem (CloOK Tryz.prog (FR_Int_Bool e))))] [] (AL (α := Rect) r) [] := by
 refine FI Tryz.func155 prog_mixed prog_lay fun C Fm => ?_
 unfold feature_Rects at h
 refine AW.SG0 Fm 1 [(0, AL a), (1, vi i), (2, .v (.c (.sem (CloOK Tryz.prog (FR_Int_Bool e)))))] [] ?_
 refine AW.SW Fm [.m] (fun K => True) [(0, AL a), (1, vi i), (2, .v (.c (.sem (CloOK Tryz.prog (FR_Int_Bool e))))), (7, ow 7)] [(7, AO (α := Rect) ([] : List Rect))] True.intro [(7, .arr 4 (0) (fun _ => []))] ⟨OLe.is ((Is.nil (α := Rect))), ⟨⟩⟩ ?_
 refine AW.join (r := r) (fun z : (List Rect) => feature_Rects_k3 F z) (fun z => [(7, ow 7)]) (fun z => [(7, AO z)]) (fun o h => ?_) (fun V E => ?_)
 ·refine AW.SG0 Fm 2 [(6, ow 7)] [(7, AO o)] ?_
  refine AW.ret ?_
  obtain rfl := Option.some.inj h
  refine Kn.r Fm [(6, ow 7)] [(7, AO o)] (by kernel_rfl) ?_
  refine Kn.frz [(6, AL o)] [] (by kernel_rfl) (by kernel_rfl) (by kernel_rfl) ?_
  exact Kn.D Fm
 ·refine AW.SG0 Fm 3 [(1, vi i), (2, .v (.c (.sem (CloOK Tryz.prog (FR_Int_Bool e))))), (7, ow 7), (10, AL a), (11, vi (lI a)), (12, vi 0)] [(7, AO (α := Rect) ([] : List Rect))] ?_
  refine AW.block (Kn.r Fm [(1, vi i), (2, .v (.c (.sem (CloOK Tryz.prog (FR_Int_Bool e))))), (7, ow 7), (10, AL a), (11, vi (lI a)), (12, vi 0)] [(7, AO ([] : List Rect))] (by kernel_rfl) ?_)
  refine AW.loopF (E' := fun z => [(1, vi i), (2, .v (.c (.sem (CloOK Tryz.prog (FR_Int_Bool e))))), (7, ow 7), (10, AL a), (11, vi (lI a)), (12, vi z.1)]) (S' := fun z => [(7, AO z.2)]) (fun p z P B h => ?_) h
  obtain ⟨b, j⟩ := z
  refine AW.SG0 Fm 1 [(1, vi i), (2, .v (.c (.sem (CloOK Tryz.prog (FR_Int_Bool e))))), (7, ow 7), (10, AL a), (11, vi (lI a)), (12, vi b), (13, vb (decide (b < (lI a))))] [(7, AO j)] ?_
  refine AW.seq (AW.cN h (fun H h => ?_) (fun H h => ?_))
  ·refine AW.skip (AW.join (r := r) (fun z : (List Rect) => feature_Rects_k2 F b p z) (fun z => [(1, vi i), (2, .v (.c (.sem (CloOK Tryz.prog (FR_Int_Bool e))))), (7, ow 29), (10, AL a), (11, vi (lI a)), (12, vi b)]) (fun z => [(29, AO z)]) (fun y h => ?_) (fun U t => ?_))
   ·obtain ⟨N, h⟩ := gS h
    refine AW.pN Fm [.s, .s] [(1, vi i), (2, .v (.c (.sem (CloOK Tryz.prog (FR_Int_Bool e))))), (7, ow 29), (10, AL a), (11, vi (lI a)), (12, vi (b + 1))] [(29, AO y)] (cT (cT N)) ?_
    exact Kn.RE Fm [(7, 29)] (B ((b + 1), y) h)
   ·refine AW.block ?_
    obtain ⟨L, h⟩ := gS h
    refine AW.SP Fm [.s, .s, .s, .s] [(1, vi i), (2, .v (.c (.sem (CloOK Tryz.prog (FR_Int_Bool e))))), (7, ow 7), (9, pt 9), (10, AL a), (11, vi (lI a)), (12, vi b)] [(7, AO j), (9, bx [ci ((gl a b.toNat).number_), ci ((gl a b.toNat).kind_), ci ((gl a b.toNat).from_), ci ((gl a b.toNat).until_), .d (DL (α := Rect) (gl a b.toNat).region_.rects_)])] (cT L) ?_
    refine AW.join (r := r) (fun z : Bool => feature_Rects_k1 F a b j p z) (fun z => [(1, vi i), (2, .v (.c (.sem (CloOK Tryz.prog (FR_Int_Bool e))))), (7, ow 7), (9, pt 9), (10, AL a), (11, vi (lI a)), (12, vi b), (24, vb z)]) (fun z => [(7, AO j), (9, bx [ci ((gl a b.toNat).number_), ci ((gl a b.toNat).kind_), ci ((gl a b.toNat).from_), ci ((gl a b.toNat).until_), .d (DL (α := Rect) (gl a b.toNat).region_.rects_)])]) (fun W h => ?_) (fun T q => ?_)
    ·refine AW.cN h (fun I h => ?_) (fun I h => ?_)
     ·obtain ⟨M, h⟩ := gS h
      refine AW.WP Fm [.s, .s, .s, .s, .s, .s] [(1, vi i), (2, .v (.c (.sem (CloOK Tryz.prog (FR_Int_Bool e))))), (7, ow 29), (10, AL a), (11, vi (lI a)), (12, vi b)] [(29, AO (α := Rect) (j ++ ((gl a b.toNat).region_.rects_)))] (cT (cA M (cT (Is.refl ((gl a b.toNat).region_.rects_) : Is (List.length (α := Rect) ((gl a b.toNat).region_.rects_)) (LF (α := Rect) ((gl a b.toNat).region_.rects_)) ((gl a b.toNat).region_.rects_)).len))) [(29, .arr 4 ((List.length (α := Rect) j) + (List.length (α := Rect) ((gl a b.toNat).region_.rects_))) (appF (List.length (α := Rect) j) (LF (α := Rect) j) (LF (α := Rect) ((gl a b.toNat).region_.rects_))))] ⟨OLe.is (Is.app (Is.refl j) (Is.refl ((gl a b.toNat).region_.rects_))), ⟨⟩⟩ ?_
      exact Kn.R Fm (t (j ++ ((gl a b.toNat).region_.rects_)) h)
     ·exact AW.skip (Kn.RE Fm [(29, 7)] (t j h))
    ·obtain ⟨A, u, h⟩ := bS h
     rcases br_or h with ⟨n, h⟩ | ⟨n, h⟩
     ·obtain ⟨l, O, h⟩ := bS h
      refine AW.G Fm [.s, .s, .k (cE [] [] (vb A) [] []), .w (vb true), .s, .s, .s, .k (sE (vb l)), .s] (fun K => K 2 ∧ _ ∧ K 7 ∧ True) [(1, vi i), (2, .v (.c (.sem (CloOK Tryz.prog (FR_Int_Bool e))))), (7, ow 7), (9, pt 9), (10, AL a), (11, vi (lI a)), (12, vi b), (20, .v (.c (.sem (CloOK Tryz.prog (FR_Int_Bool e))))), (21, .v (.c (.ptr 9 1))), (22, vi (gl a b.toNat).kind_), (23, vb l), (24, vb l)] [(7, AO j), (9, bx [ci ((gl a b.toNat).number_), ci ((gl a b.toNat).kind_), ci ((gl a b.toNat).from_), ci ((gl a b.toNat).until_), .d (DL (α := Rect) (gl a b.toNat).region_.rects_)])] ⟨KAt.CC (feature_there_spec u) Tryz.call153 [], ALe.bool n, KAt.sem (F := (FR_Int_Bool e)) (args := [vi (gl a b.toNat).kind_]) ⟨((gl a b.toNat).kind_), l, O, rfl, rfl⟩ rfl (by kernel_rfl) (by kernel_rfl) (by kernel_rfl), ⟨⟩⟩ ?_
      exact Kn.R Fm (q l h)
     ·refine AW.G Fm [.s, .s, .k (cE [] [] (vb A) [] []), .w (vb false), .s, .s, .s, .s, .s] (fun K => K 2 ∧ _ ∧ True) [(1, vi i), (2, .v (.c (.sem (CloOK Tryz.prog (FR_Int_Bool e))))), (7, ow 7), (9, pt 9), (10, AL a), (11, vi (lI a)), (12, vi b), (24, vb false)] [(7, AO j), (9, bx [ci ((gl a b.toNat).number_), ci ((gl a b.toNat).kind_), ci ((gl a b.toNat).from_), ci ((gl a b.toNat).until_), .d (DL (α := Rect) (gl a b.toNat).region_.rects_)])] ⟨KAt.CC (feature_there_spec u) Tryz.call153 [], ALe.bool n, ⟨⟩⟩ ?_
      exact Kn.R Fm (q false h)
  ·exact AW.exit (Kn.R Fm (E j h))
theorem region_Limited_spec {F : Nat} {a : (List Rect)} {r : Region × Int} (h : region_Limited F a = some r) :
  FSpec Tryz.prog 140 [AL a] [] (.t [.g [.d (DL (α := Rect) r.1.rects_)], .c (ci r.2)]) [] := by
 refine FI Tryz.func140 prog_mixed prog_lay fun C Fm => ?_
 unfold region_Limited at h
 refine AW.SG0 Fm 2 [(0, AL a), (2, pt 2)] [(2, bx [.fl 0 fun _ => []])] ?_
 refine AW.seq (AW.SG0 Fm 3 [(0, AL a), (2, pt 2), (6, vb (decide ((120 : Int) < (lI a))))] [(2, bx [.fl 0 fun _ => []])] ?_)
 refine AW.cN h (fun b h => ?_) (fun b h => ?_)
 ·refine AW.SP Fm [.w (.v (.g [.d (DL (α := Rect) [])])), .s, .s] [(2, pt 2), (3, vi 1)] [(2, bx [.d (DL (α := Rect) [])])] (cT (ALe.g ⟨CLe.fl .nil, ⟨⟩⟩ : ALe (.v (.g [.fl 0 fun _ => []])) (.v (.g [.d (DL (α := Rect) [])])))) ?_
  refine AW.ret ?_
  obtain rfl := Option.some.inj h
  exact Kn.D Fm
 ·refine AW.skip (AW.SG0 Fm 4 [(2, pt 2), (3, vi 0)] [(2, bx [.d (DL a)])] ?_)
  refine AW.ret ?_
  obtain rfl := Option.some.inj h
  exact Kn.D Fm
theorem region_Joined_spec {F : Nat} {b : (List Rect)} {r : Region × Int} (h : region_Joined F b = some r) :
  FSpec Tryz.prog 111 [AL b] [] (.t [.g [.d (DL (α := Rect) r.1.rects_)], .c (ci r.2)]) [] := by
 refine FI Tryz.func111 prog_mixed prog_lay fun C Fm => ?_
 unfold region_Joined at h
 refine AW.SG0 Fm 2 [(0, AL b), (2, pt 2)] [(2, bx [.fl 0 fun _ => []])] ?_
 refine AW.seq ?_
 obtain ⟨j, e, h⟩ := bS h
 obtain ⟨a, i, h⟩ := bS h
 refine AW.G Fm [.s, .k (cE [] [] (AL j) [] []), .k (cE [] [] (.t [.g [.d (DL a.1.rects_)], .c (ci a.2)]) [] []), .s, .s, .s, .s] (fun K => K 1 ∧ K 2 ∧ True) [(2, pt 2), (3, vi a.2)] [(2, bx [.d (DL a.1.rects_)])] ⟨KAt.CC (region_canonical_spec e) Tryz.call175 [], KAt.CC (region_Limited_spec i) Tryz.call140 [], ⟨⟩⟩ ?_
 refine AW.ret ?_
 obtain rfl := Option.some.inj h
 exact Kn.D Fm
theorem zone_of_spec {F : Nat} {e : (List Feature)} {i : Int} {a : Int} {r : Region × Int} (h : zone_of F e i a = some r) :
  FSpec Tryz.prog 133 [AL e, vi i, vi a] [] (.t [.g [.d (DL (α := Rect) r.1.rects_)], .c (ci r.2)]) [] := by
 refine FI Tryz.func133 prog_mixed prog_lay fun C Fm => ?_
 unfold zone_of at h
 refine AW.SG0 Fm 3 [(0, AL e), (1, vi i), (5, pt 5), (6, pt 6)] [(5, bx [ci a]), (6, bx [.fl 0 fun _ => []])] ?_
 refine AW.seq ?_
 obtain ⟨m, j, h⟩ := bS h
 obtain ⟨b, l, h⟩ := bS h
 refine AW.G Fm [.s, .s, .s, .k (cE [] [5] (AL m) [] []), .k (cE [] [] (.t [.g [.d (DL b.1.rects_)], .c (ci b.2)]) [] []), .s, .s, .s, .s] (fun K => K 3 ∧ K 4 ∧ True) [(6, pt 6), (7, vi b.2)] [(6, bx [.d (DL b.1.rects_)])] ⟨KAt.callX (feature_Rects_spec j) Tryz.call155 [] [5] [.tmp 8, .tmp 9, .tmp 10] rfl (by kernel_rfl) (by kernel_rfl) (by kernel_rfl) ⟨.p, .p, ArgT.cloX Tryz.call204 [[ci a]] (fun args r hq => by obtain ⟨y0, y, hq, rfl, rfl⟩ := hq; exact Eq.mp (by kernel_rfl) (zone_of_1_spec hq)) (fun args r hq => by obtain ⟨y0, y, hq, rfl, rfl⟩ := hq; rfl) (by kernel_rfl) [5] (by kernel_rfl) (by kernel_rfl) (⟨⟨false, (by kernel_rfl)⟩, ⟨⟩⟩) (by kernel_rfl), ⟨⟩⟩, KAt.CC (region_Joined_spec l) Tryz.call111 [], ⟨⟩⟩ ?_
 refine AW.ret ?_
 obtain rfl := Option.some.inj h
 exact Kn.D Fm
theorem zone_Hard_spec {F : Nat} {a : (List Feature)} {b : Int} {r : Region × Int} (h : zone_Hard F a b = some r) :
  FSpec Tryz.prog 56 [AL a, vi b] [] (.t [.g [.d (DL (α := Rect) r.1.rects_)], .c (ci r.2)]) [] := by
 refine FI Tryz.func56 prog_mixed prog_lay fun C Fm => ?_
 unfold zone_Hard at h
 refine AW.SG0 Fm 2 [(0, AL a), (1, vi b), (4, pt 4)] [(4, bx [.fl 0 fun _ => []])] ?_
 refine AW.seq (AW.seq ?_)
 obtain ⟨e, l, h⟩ := bS h
 refine AW.G Fm [.s, .s, .w (.v (.g [.d (DL (α := Rect) [])])), .k (cE [] [] (vi e) [] []), .s] (fun K => (ALe (.v (.g [.fl 0 fun _ => []])) (.v (.g [.d (DL (α := Rect) [])]))) ∧ K 3 ∧ True) [(0, AL a), (1, vi b), (4, pt 4), (6, vi e)] [(4, bx [.fl 0 fun _ => []])] ⟨ALe.g ⟨CLe.fl .nil, ⟨⟩⟩, KAt.CC (zone_check_spec l) Tryz.call132 [], ⟨⟩⟩ ?_
 refine AW.SG0 Fm 2 [(0, AL a), (1, vi b), (4, pt 4), (6, vi e), (12, vb (e != (0 : Int)))] [(4, bx [.fl 0 fun _ => []])] ?_
 refine AW.cN h (fun j h => ?_) (fun j h => ?_)
 ·refine AW.SP Fm [.w (.v (.g [.d (DL (α := Rect) [])])), .s, .s, .s] [(4, pt 4), (5, vi e)] [(4, bx [.d (DL (α := Rect) [])])] (cT (ALe.g ⟨CLe.fl .nil, ⟨⟩⟩ : ALe (.v (.g [.fl 0 fun _ => []])) (.v (.g [.d (DL (α := Rect) [])])))) ?_
  refine AW.ret ?_
  obtain rfl := Option.some.inj h
  exact Kn.D Fm
 ·refine AW.skip (AW.seq ?_)
  obtain ⟨i, m, h⟩ := bS h
  refine AW.G Fm [.s, .s, .k (cE [] [] (.t [.g [.d (DL i.1.rects_)], .c (ci i.2)]) [] []), .s, .s, .s, .s] (fun K => K 2 ∧ True) [(4, pt 4), (5, vi i.2)] [(4, bx [.d (DL i.1.rects_)])] ⟨KAt.CC (zone_of_spec m) Tryz.call133 [], ⟨⟩⟩ ?_
  refine AW.ret ?_
  obtain rfl := Option.some.inj h
  exact Kn.D Fm
theorem slices_Concat_Span_spec {F : Nat} {a : (List (List Span))} {r : (List Span)} (h : slices_Concat_Span F a = some r) :
  FSpec Tryz.prog 233 [AL a] [] (ow 100) [(100, AO (α := Span) r)] := by
 refine FI Tryz.func233 prog_mixed prog_lay fun C Fm => ?_
 unfold slices_Concat_Span at h
 refine AW.SG Fm [.m] (fun K => True) [(0, AL a)] [] True.intro ?_
 refine AW.SG0 Fm 1 [(0, AL a), (3, vi 0)] [] ?_
 refine AW.join (r := r) (fun z : Int => slices_Concat_Span_k1 F a z) (fun z => [(0, AL a), (3, vi z)]) (fun z => []) (fun T h => ?_) (fun L n => ?_)
 ·refine AW.seq ?_
  obtain ⟨i, H, h⟩ := bS h
  refine AW.G Fm [.s, .k (cE [(100, 24)] [] (ow 100) [] [(100, AO i)]), .s] (fun K => K 1 ∧ True) [(0, AL a), (6, ow 24)] [(24, AO i)] ⟨KAt.CC (growN_spec H) Tryz.call267 [(100, 24)], ⟨⟩⟩ ?_
  refine AW.join (r := r) (fun z : (List Span) => slices_Concat_Span_k3 F z) (fun z => [(6, ow 24)]) (fun z => [(24, AO z)]) (fun j h => ?_) (fun N p => ?_)
  ·refine AW.SG0 Fm 2 [(2, ow 24)] [(24, AO j)] ?_
   refine AW.ret ?_
   obtain rfl := Option.some.inj h
   exact Kn.re Fm [(100, 24)] [(2, ow 100)] [(100, AO j)] (by kernel_rfl) (by kernel_rfl) (by kernel_rfl) (by kernel_rfl) (Kn.dn Fm (by kernel_rfl))
  ·refine AW.SG0 Fm 3 [(6, ow 24), (25, AL a), (26, vi (lI a)), (27, vi 0)] [(24, AO i)] ?_
   refine AW.block (AW.loopF (E' := fun z => [(6, ow 24), (25, AL a), (26, vi (lI a)), (27, vi z.1)]) (S' := fun z => [(24, AO z.2)]) (fun P z M o h => ?_) h)
   obtain ⟨b, d⟩ := z
   refine AW.SG0 Fm 1 [(6, ow 24), (25, AL a), (26, vi (lI a)), (27, vi b), (28, vb (decide (b < (lI a))))] [(24, AO d)] ?_
   refine AW.seq (AW.cN h (fun u h => ?_) (fun u h => ?_))
   ·refine AW.skip (AW.seq (AW.block ?_))
    obtain ⟨B, h⟩ := gS h
    refine AW.SP Fm [.s, .s, .s] [(6, ow 24), (8, AL (α := Span) (gl a b.toNat)), (25, AL a), (26, vi (lI a)), (27, vi b)] [(24, AO d)] (cT B) ?_
    obtain ⟨D, h⟩ := gS h
    refine AW.WP Fm [.s, .s, .s, .s] [(6, ow 33), (25, AL a), (26, vi (lI a)), (27, vi b)] [(33, AO (α := Span) (d ++ (gl a b.toNat)))] (cT (cA D (cT (Is.refl (gl a b.toNat) : Is (List.length (α := Span) (gl a b.toNat)) (LF (α := Span) (gl a b.toNat)) (gl a b.toNat)).len))) [(33, .arr 2 ((List.length (α := Span) d) + (List.length (α := Span) (gl a b.toNat))) (appF (List.length (α := Span) d) (LF (α := Span) d) (LF (α := Span) (gl a b.toNat))))] ⟨OLe.is (Is.app (Is.refl d) (Is.refl (gl a b.toNat))), ⟨⟩⟩ ?_
    obtain ⟨E, h⟩ := gS h
    refine AW.pN Fm [.s, .s] [(6, ow 33), (25, AL a), (26, vi (lI a)), (27, vi (b + 1))] [(33, AO (α := Span) (d ++ (gl a b.toNat)))] (cT (cT E)) ?_
    exact Kn.RE Fm [(24, 33)] (o ((b + 1), (d ++ (gl a b.toNat))) h)
   ·exact AW.exit (Kn.R Fm (p d h))
 ·refine AW.SG0 Fm 3 [(0, AL a), (3, vi 0), (9, AL a), (10, vi (lI a)), (11, vi 0)] [] ?_
  refine AW.block (AW.loopF (E' := fun z => [(0, AL a), (3, vi z.1), (9, AL a), (10, vi (lI a)), (11, vi z.2)]) (S' := fun z => []) (fun O z I l h => ?_) h)
  obtain ⟨e, c⟩ := z
  refine AW.SG0 Fm 1 [(0, AL a), (3, vi e), (9, AL a), (10, vi (lI a)), (11, vi c), (12, vb (decide (c < (lI a))))] [] ?_
  refine AW.seq (AW.cN h (fun q h => ?_) (fun q h => ?_))
  ·refine AW.skip (AW.seq (AW.block ?_))
   obtain ⟨w, h⟩ := gS h
   refine AW.SP Fm [.s, .s, .s] [(0, AL a), (3, vi e), (5, AL (α := Span) (gl a c.toNat)), (9, AL a), (10, vi (lI a)), (11, vi c)] [] (cT w) ?_
   obtain ⟨y, h⟩ := gS h
   refine AW.SP Fm [.s, .s, .s, .s, .s] [(0, AL a), (3, vi (e + (lI (gl a c.toNat)))), (9, AL a), (10, vi (lI a)), (11, vi c)] [] (cT (cT y)) ?_
   refine AW.SG0 Fm 2 [(0, AL a), (3, vi (e + (lI (gl a c.toNat)))), (9, AL a), (10, vi (lI a)), (11, vi c), (20, vb (decide ((e + (lI (gl a c.toNat))) < (0 : Int))))] [] ?_
   refine AW.cN h (fun t h => ?_) (fun t h => ?_)
   ·cases h
   ·refine AW.skip ?_
    obtain ⟨A, h⟩ := gS h
    refine AW.pN Fm [.s, .s] [(0, AL a), (3, vi (e + (lI (gl a c.toNat)))), (9, AL a), (10, vi (lI a)), (11, vi (c + 1))] [] (cT (cT A)) ?_
    exact Kn.R Fm (l ((e + (lI (gl a c.toNat))), (c + 1)) h)
  ·exact AW.exit (Kn.R Fm (n e h))
theorem region_inside_1_spec {F : Nat} {b : Span} {a : Int} {r : Bool} (h : region_inside_1 F b a = some r) :
  FSpec Tryz.prog 269 [gE b, pt 0] [(0, .box true [ci a])] (vb r) [(0, .box true [ci a])] := by
 refine FI Tryz.func269 prog_mixed prog_lay fun C Fm => ?_
 unfold region_inside_1 at h
 refine AW.SG0 Fm 2 [(1, pt 0), (2, pt 2)] [(0, .box true [ci a]), (2, bx (gC b))] ?_
 refine AW.join (r := r) (fun z : Bool => region_inside_1_k0 F z) (fun z => [(3, vb z)]) (fun z => [(0, .box true [ci a])]) (fun i h => ?_) (fun e d => ?_)
 ·refine AW.ret ?_
  obtain rfl := Option.some.inj h
  exact Kn.D Fm
 ·rcases br_or h with ⟨c, h⟩ | ⟨c, h⟩
  ·refine AW.pN Fm [.s, .s, .s, .s, .w (vb true), .s, .s, .s, .s, .s, .s] [(3, vb (decide (a < b.right_)))] [(0, .box true [ci a])] (cT (ALe.bool c)) ?_
   exact Kn.R Fm (d (decide (a < b.right_)) h)
  ·refine AW.pN Fm [.s, .s, .s, .s, .w (vb false), .s, .s, .s, .s, .s, .s] [(3, vb false)] [(0, .box true [ci a])] (cT (ALe.bool c)) ?_
   exact Kn.R Fm (d false h)
theorem slices_IndexFunc_Span_spec {F : Nat} {a : (List Span)} {d : Span → Option Bool} {r : Int} (h : slices_IndexFunc_Span F a d = some r) :
  FSpec Tryz.prog 290 [AL a, .v (.c (.sem (CloOK Tryz.prog (FR_Span_Bool d))))] [] (vi r) [] := by
 refine FI Tryz.func290 prog_mixed prog_lay fun C Fm => ?_
 unfold slices_IndexFunc_Span at h
 refine AW.SG0 Fm 1 [(0, AL a), (1, .v (.c (.sem (CloOK Tryz.prog (FR_Span_Bool d)))))] [] ?_
 refine AW.join (r := r) (fun z : Unit => slices_IndexFunc_Span_k1 F) (fun z => []) (fun z => []) (fun z h => ?_) (fun t j => ?_)
 ·refine AW.SG0 Fm 1 [(4, vi (-1 : Int))] [] ?_
  refine AW.ret ?_
  obtain rfl := Option.some.inj h
  exact Kn.D Fm
 ·refine AW.SG0 Fm 3 [(0, AL a), (1, .v (.c (.sem (CloOK Tryz.prog (FR_Span_Bool d))))), (7, vi (lI a)), (8, vi 0)] [] ?_
  refine AW.block (AW.loopF (E' := fun z => [(0, AL a), (1, .v (.c (.sem (CloOK Tryz.prog (FR_Span_Bool d))))), (7, vi (lI a)), (8, vi z)]) (S' := fun z => []) (fun u b q i h => ?_) h)
  refine AW.SG0 Fm 1 [(0, AL a), (1, .v (.c (.sem (CloOK Tryz.prog (FR_Span_Bool d))))), (7, vi (lI a)), (8, vi b), (9, vb (decide (b < (lI a))))] [] ?_
  refine AW.seq (AW.cN h (fun l h => ?_) (fun l h => ?_))
  ·refine AW.skip (AW.seq (AW.block (AW.SG0 Fm 2 [(0, AL a), (1, .v (.c (.sem (CloOK Tryz.prog (FR_Span_Bool d))))), (5, vi b), (7, vi (lI a)), (8, vi b)] [] ?_)))
   refine AW.seq ?_
   obtain ⟨n, h⟩ := gS h
   obtain ⟨e, p, h⟩ := bS h
   refine AW.G Fm [.s, .s, .s, .s, .s, .k (sE (vb e))] (fun K => _ ∧ K 5 ∧ True) [(0, AL a), (1, .v (.c (.sem (CloOK Tryz.prog (FR_Span_Bool d))))), (5, vi b), (7, vi (lI a)), (8, vi b), (16, vb e)] [] ⟨n, KAt.sem (F := (FR_Span_Bool d)) (args := [.v (.g [ci ((gl a b.toNat).left_), ci ((gl a b.toNat).right_)])]) ⟨(gl a b.toNat), e, p, rfl, rfl⟩ rfl (by kernel_rfl) (by kernel_rfl) (by kernel_rfl), ⟨⟩⟩ ?_
   refine AW.cN h (fun m h => ?_) (fun m h => ?_)
   ·refine AW.SG0 Fm 2 [(4, vi b)] [] ?_
    refine AW.ret ?_
    obtain rfl := Option.some.inj h
    exact Kn.D Fm
   ·refine AW.skip ?_
    obtain ⟨o, h⟩ := gS h
    refine AW.pN Fm [.s, .s] [(0, AL a), (1, .v (.c (.sem (CloOK Tryz.prog (FR_Span_Bool d))))), (7, vi (lI a)), (8, vi (b + 1))] [] (cT (cT o)) ?_
    exact Kn.R Fm (i (b + 1) h)
  ·exact AW.exit (Kn.R Fm (j () h))
theorem slices_ContainsFunc_Span_spec {F : Nat} {a : (List Span)} {b : Span → Option Bool} {r : Bool} (h : slices_ContainsFunc_Span F a b = some r) :
  FSpec Tryz.prog 268 [AL a, .v (.c (.sem (CloOK Tryz.prog (FR_Span_Bool b))))] [] (vb r) [] := by
 refine FI Tryz.func268 prog_mixed prog_lay fun C Fm => ?_
 unfold slices_ContainsFunc_Span at h
 refine AW.SG0 Fm 1 [(0, AL a), (1, .v (.c (.sem (CloOK Tryz.prog (FR_Span_Bool b)))))] [] ?_
 refine AW.seq ?_
 obtain ⟨d, e, h⟩ := bS h
 refine AW.G Fm [.s, .s, .k (cE [] [] (vi d) [] []), .s, .s] (fun K => K 2 ∧ True) [(4, vb (decide ((0 : Int) ≤ d)))] [] ⟨KAt.callX (slices_IndexFunc_Span_spec e) Tryz.call290 [] [] [.tmp 5, .tmp 6] rfl (by kernel_rfl) (by kernel_rfl) (by kernel_rfl) ⟨.p, ArgT.semX (by kernel_rfl) (by kernel_rfl) (by kernel_rfl), ⟨⟩⟩, ⟨⟩⟩ ?_
 refine AW.ret ?_
 obtain rfl := Option.some.inj h
 exact Kn.D Fm
theorem region_inside_spec {F : Nat} {b : (List Span)} {a : Int} {r : Bool} (h : region_inside F b a = some r) :
  FSpec Tryz.prog 234 [AL b, vi a] [] (vb r) [] := by
 refine FI Tryz.func234 prog_mixed prog_lay fun C Fm => ?_
 unfold region_inside at h
 refine AW.SG0 Fm 2 [(0, AL b), (3, pt 3)] [(3, bx [ci a])] ?_
 refine AW.seq ?_
 obtain ⟨c, d, h⟩ := bS h
 refine AW.G Fm [.s, .s, .k (cE [] [3] (vb c) [] []), .s] (fun K => K 2 ∧ True) [(4, vb c)] [] ⟨KAt.callX (slices_ContainsFunc_Span_spec d) Tryz.call268 [] [3] [.tmp 5, .tmp 6] rfl (by kernel_rfl) (by kernel_rfl) (by kernel_rfl) ⟨.p, ArgT.cloX Tryz.call269 [[ci a]] (fun args r hq => by obtain ⟨y0, y, hq, rfl, rfl⟩ := hq; exact Eq.mp (by kernel_rfl) (region_inside_1_spec hq)) (fun args r hq => by obtain ⟨y0, y, hq, rfl, rfl⟩ := hq; rfl) (by kernel_rfl) [3] (by kernel_rfl) (by kernel_rfl) (⟨⟨false, (by kernel_rfl)⟩, ⟨⟩⟩) (by kernel_rfl), ⟨⟩⟩, ⟨⟩⟩ ?_
 refine AW.ret ?_
 obtain rfl := Option.some.inj h
 exact Kn.D Fm
theorem region_merge_spec {F : Nat} {n : (List Span)} {o : (List Span)} {p : Bool → Bool → Option Bool} {r : (List Span)} (h : region_merge F n o p = some r) :
  FSpec Tryz.prog 179 [AL n, AL o, .v (.c (.sem (CloOK Tryz.prog (FR_Bool_Bool_Bool p))))] [] (AL (α := Span) r) [] := by
 refine FI Tryz.func179 prog_mixed prog_lay fun C Fm => ?_
 unfold region_merge at h
 refine AW.SG0 Fm 1 [(0, AL n), (1, AL o), (2, .v (.c (.sem (CloOK Tryz.prog (FR_Bool_Bool_Bool p)))))] [] ?_
 refine AW.SW Fm [.m] (fun K => True) [(0, AL n), (1, AL o), (2, .v (.c (.sem (CloOK Tryz.prog (FR_Bool_Bool_Bool p))))), (7, ow 7)] [(7, AO (α := Int) ([] : List Int))] True.intro [(7, .arr 1 (0) (fun _ => []))] ⟨OLe.is ((Is.nil (α := Int))), ⟨⟩⟩ ?_
 refine AW.join (r := r) (fun z : (List Int) => region_merge_k1 F n o p z) (fun z => [(0, AL n), (1, AL o), (2, .v (.c (.sem (CloOK Tryz.prog (FR_Bool_Bool_Bool p))))), (7, ow 7)]) (fun z => [(7, AO z)]) (fun w0 h => ?_) (fun A0 X => ?_)
 ·refine AW.seq ?_
  obtain ⟨B, p0, h⟩ := bS h
  refine AW.G Fm [.s, .k (cE [(0, 7)] [] (.any) [(0, AO w0)] [(0, AO B)])] (fun K => K 1 ∧ True) [(0, AL n), (1, AL o), (2, .v (.c (.sem (CloOK Tryz.prog (FR_Bool_Bool_Bool p))))), (7, ow 7)] [(7, AO B)] ⟨KAt.CC (sortI_spec p0) Tryz.call145 [(0, 7)], ⟨⟩⟩ ?_
  refine AW.seq ?_
  obtain ⟨a, q0, h⟩ := bS h
  refine AW.G Fm [.s, .k (cE [(0, 7), (100, 34)] [] (ow 100) [(0, AO B)] [(100, AO a)]), .s] (fun K => K 1 ∧ True) [(0, AL n), (1, AL o), (2, .v (.c (.sem (CloOK Tryz.prog (FR_Bool_Bool_Bool p))))), (7, ow 34)] [(34, AO a)] ⟨KAt.CC (slices_Compact_int_spec q0) Tryz.call146 [(0, 7), (100, 34)], ⟨⟩⟩ ?_
  refine AW.SW Fm [.m] (fun K => True) [(0, AL n), (1, AL o), (2, .v (.c (.sem (CloOK Tryz.prog (FR_Bool_Bool_Bool p))))), (7, ow 34), (10, ow 10)] [(10, AO (α := Span) ([] : List Span)), (34, AO a)] True.intro [(10, .arr 2 (0) (fun _ => []))] ⟨OLe.is ((Is.nil (α := Span))), ⟨⟩⟩ ?_
  refine AW.join (r := r) (fun z : (List Span) => region_merge_k5 F z) (fun z => [(10, ow 10)]) (fun z => [(10, AO z)]) (fun A h => ?_) (fun G0 Z => ?_)
  ·refine AW.SG0 Fm 2 [(6, ow 10)] [(10, AO A)] ?_
   refine AW.ret ?_
   obtain rfl := Option.some.inj h
   refine Kn.r Fm [(6, ow 10)] [(10, AO A)] (by kernel_rfl) ?_
   refine Kn.frz [(6, AL A)] [] (by kernel_rfl) (by kernel_rfl) (by kernel_rfl) ?_
   exact Kn.D Fm
  ·refine AW.SG0 Fm 1 [(0, AL n), (1, AL o), (2, .v (.c (.sem (CloOK Tryz.prog (FR_Bool_Bool_Bool p))))), (7, ow 34), (10, ow 10), (11, vi 1)] [(10, AO (α := Span) ([] : List Span)), (34, AO a)] ?_
   refine AW.block (Kn.r Fm [(0, AL n), (1, AL o), (2, .v (.c (.sem (CloOK Tryz.prog (FR_Bool_Bool_Bool p))))), (7, ow 34), (10, ow 10), (11, vi 1)] [(10, AO ([] : List Span)), (34, AO a)] (by kernel_rfl) ?_)
   refine AW.loopF (E' := fun z => [(0, AL n), (1, AL o), (2, .v (.c (.sem (CloOK Tryz.prog (FR_Bool_Bool_Bool p))))), (7, ow 34), (10, ow 10), (11, vi z.1)]) (S' := fun z => [(10, AO z.2), (34, AO a)]) (fun L z B0 Y h => ?_) h
   obtain ⟨b, e⟩ := z
   refine AW.seq (AW.SG0 Fm 4 [(0, AL n), (1, AL o), (2, .v (.c (.sem (CloOK Tryz.prog (FR_Bool_Bool_Bool p))))), (7, ow 34), (10, ow 10), (11, vi b), (38, vb (decide (b < (lI a))))] [(10, AO e), (34, AO a)] ?_)
   refine AW.cN h (fun b0 h => ?_) (fun b0 h => ?_)
   ·refine AW.skip (AW.join (r := r) (fun z : (List Span) => region_merge_k4 F b L z) (fun z => [(0, AL n), (1, AL o), (2, .v (.c (.sem (CloOK Tryz.prog (FR_Bool_Bool_Bool p))))), (7, ow 34), (10, ow 10), (11, vi b)]) (fun z => [(10, AO z), (34, AO a)]) (fun V h => ?_) (fun E0 t => ?_))
    ·obtain ⟨n0, h⟩ := gS h
     refine AW.pN Fm [.s, .s, .s] [(0, AL n), (1, AL o), (2, .v (.c (.sem (CloOK Tryz.prog (FR_Bool_Bool_Bool p))))), (7, ow 34), (10, ow 10), (11, vi (b + 1))] [(10, AO V), (34, AO a)] (cT (cT n0)) ?_
     exact Kn.R Fm (Y ((b + 1), V) h)
    ·refine AW.block ?_
     obtain ⟨j0, O, h⟩ := gS2 h
     refine AW.SP Fm [.s, .s, .s, .s, .s, .s] [(0, AL n), (1, AL o), (2, .v (.c (.sem (CloOK Tryz.prog (FR_Bool_Bool_Bool p))))), (7, ow 34), (10, ow 10), (11, vi b), (12, vi (gl a (b - 1).toNat))] [(10, AO e), (34, AO a)] (cA (cT j0) (cA O (cT (toNat_lt O)))) ?_
     refine AW.seq (AW.seq ?_)
     obtain ⟨E, s0, h⟩ := bS h
     obtain ⟨H, t0, h⟩ := bS h
     obtain ⟨I, u0, h⟩ := bS h
     refine AW.G Fm [.s, .s, .s, .k (cE [] [] (vb E) [] []), .s, .s, .k (cE [] [] (vb H) [] []), .k (sE (vb I)), .s] (fun K => K 3 ∧ K 6 ∧ K 7 ∧ True) [(0, AL n), (1, AL o), (2, .v (.c (.sem (CloOK Tryz.prog (FR_Bool_Bool_Bool p))))), (7, ow 34), (10, ow 10), (11, vi b), (12, vi (gl a (b - 1).toNat)), (54, vb (!I))] [(10, AO e), (34, AO a)] ⟨KAt.CC (region_inside_spec s0) Tryz.call234 [], KAt.CC (region_inside_spec t0) Tryz.call234 [], KAt.sem (F := (FR_Bool_Bool_Bool p)) (args := [vb E, vb H]) ⟨E, H, I, u0, rfl, rfl⟩ rfl (by kernel_rfl) (by kernel_rfl) (by kernel_rfl), ⟨⟩⟩ ?_
     refine AW.cN h (fun c0 h => ?_) (fun c0 h => ?_)
     ·exact AW.exit (Kn.R Fm (t e h))
     ·refine AW.skip (AW.SG0 Fm 3 [(0, AL n), (1, AL o), (2, .v (.c (.sem (CloOK Tryz.prog (FR_Bool_Bool_Bool p))))), (7, ow 34), (10, ow 10), (11, vi b), (12, vi (gl a (b - 1).toNat)), (13, vi (lI e))] [(10, AO e), (34, AO a)] ?_)
      refine AW.join (r := r) (fun z : Bool => region_merge_k3 F a b e L z) (fun z => [(0, AL n), (1, AL o), (2, .v (.c (.sem (CloOK Tryz.prog (FR_Bool_Bool_Bool p))))), (7, ow 34), (10, ow 10), (11, vi b), (12, vi (gl a (b - 1).toNat)), (13, vi (lI e)), (68, vb z)]) (fun z => [(10, AO e), (34, AO a)]) (fun I0 h => ?_) (fun D0 M => ?_)
      ·refine AW.cN h (fun d0 h => ?_) (fun d0 h => ?_)
       ·obtain ⟨l0, T, y, h⟩ := gS3 h
        refine AW.WP Fm [.s, .s, .s, .s, .s, .s, .s, .s, .s, .s] [(0, AL n), (1, AL o), (2, .v (.c (.sem (CloOK Tryz.prog (FR_Bool_Bool_Bool p))))), (7, ow 34), (10, ow 10), (11, vi b)] [(10, AO (α := Span) (List.set e ((lI e) - 1).toNat (⟨(gl e ((lI e) - 1).toNat).left_, (gl a b.toNat)⟩ : Span))), (34, AO a)] (cA (cT l0) (cA T (cA (toNat_lt T) (cA y (cT (toNat_lt y)))))) [(10, .arr 2 (List.length (α := Span) e) (fun j => if j = ((lI e) - 1).toNat then splice ((LF (α := Span) e) ((lI e) - 1).toNat) 1 [.int .i64 (gl a b.toNat)] else (LF (α := Span) e) j))] ⟨OLe.is (Is.set (Is.refl e) (toNat_lt y) (⟨(gl e ((lI e) - 1).toNat).left_, (gl a b.toNat)⟩ : Span) (by kernel_rfl)), ⟨⟩⟩ ?_
        exact Kn.R Fm (t (List.set e ((lI e) - 1).toNat (⟨(gl e ((lI e) - 1).toNat).left_, (gl a b.toNat)⟩ : Span)) h)
       ·obtain ⟨U, m0, h⟩ := gS2 h
        refine AW.WP Fm [.s, .s, .s, .s, .s, .s, .s, .w (AL (α := Span) ([(⟨(gl a (b - 1).toNat), (gl a b.toNat)⟩ : Span)] : List Span)), .s, .s] [(0, AL n), (1, AL o), (2, .v (.c (.sem (CloOK Tryz.prog (FR_Bool_Bool_Bool p))))), (7, ow 34), (10, ow 86), (11, vi b)] [(34, AO a), (86, AO (α := Span) (e ++ ([(⟨(gl a (b - 1).toNat), (gl a b.toNat)⟩ : Span)] : List Span)))] (cA U (cA (toNat_lt U) (cA (ALe.lst (.lit ([(⟨(gl a (b - 1).toNat), (gl a b.toNat)⟩ : Span)] : List Span) (by kernel_rfl)) : ALe (.v (.c (.d (.lst 1 (litF 2 [.int .i64 (gl a (b - 1).toNat), .int .i64 (gl a b.toNat)]))))) (AL (α := Span) ([(⟨(gl a (b - 1).toNat), (gl a b.toNat)⟩ : Span)] : List Span))) (cT (cA m0 (cT (Is.refl ([(⟨(gl a (b - 1).toNat), (gl a b.toNat)⟩ : Span)] : List Span) : Is (List.length (α := Span) ([(⟨(gl a (b - 1).toNat), (gl a b.toNat)⟩ : Span)] : List Span)) (LF (α := Span) ([(⟨(gl a (b - 1).toNat), (gl a b.toNat)⟩ : Span)] : List Span)) ([(⟨(gl a (b - 1).toNat), (gl a b.toNat)⟩ : Span)] : List Span)).len)))))) [(86, .arr 2 ((List.length (α := Span) e) + (List.length (α := Span) ([(⟨(gl a (b - 1).toNat), (gl a b.toNat)⟩ : Span)] : List Span))) (appF (List.length (α := Span) e) (LF (α := Span) e) (LF (α := Span) ([(⟨(gl a (b - 1).toNat), (gl a b.toNat)⟩ : Span)] : List Span))))] ⟨OLe.is (Is.app (Is.refl e) (Is.refl ([(⟨(gl a (b - 1).toNat), (gl a b.toNat)⟩ : Span)] : List Span))), ⟨⟩⟩ ?_
        exact Kn.RE Fm [(10, 86)] (t (e ++ ([(⟨(gl a (b - 1).toNat), (gl a b.toNat)⟩ : Span)] : List Span)) h)
      ·rcases br_or h with ⟨u, h⟩ | ⟨u, h⟩
       ·obtain ⟨k0, P, h⟩ := gS2 h
        refine AW.pN Fm [.s, .s, .w (vb true), .s, .s, .s, .s, .s, .s, .s, .s, .s] [(0, AL n), (1, AL o), (2, .v (.c (.sem (CloOK Tryz.prog (FR_Bool_Bool_Bool p))))), (7, ow 34), (10, ow 10), (11, vi b), (12, vi (gl a (b - 1).toNat)), (13, vi (lI e)), (60, ow 10), (61, vi (lI e)), (62, vi ((lI e) - 1)), (63, .v (.c (.pte 10 2 (((lI e) - 1).toNat) 0))), (64, .v (.c (.pte 10 2 (((lI e) - 1).toNat) 1))), (65, vi (gl e ((lI e) - 1).toNat).right_), (66, vi (gl a (b - 1).toNat)), (67, vb (((gl e ((lI e) - 1).toNat).right_) == (gl a (b - 1).toNat))), (68, vb (((gl e ((lI e) - 1).toNat).right_) == (gl a (b - 1).toNat)))] [(10, AO e), (34, AO a)] (cA (ALe.bool u) (cA (cT k0) (cA P (cT (toNat_lt P))))) ?_
        exact Kn.R Fm (M (((gl e ((lI e) - 1).toNat).right_) == (gl a (b - 1).toNat)) h)
       ·refine AW.pN Fm [.s, .s, .w (vb false), .s, .s, .s, .s, .s, .s, .s, .s, .s] [(0, AL n), (1, AL o), (2, .v (.c (.sem (CloOK Tryz.prog (FR_Bool_Bool_Bool p))))), (7, ow 34), (10, ow 10), (11, vi b), (12, vi (gl a (b - 1).toNat)), (13, vi (lI e)), (68, vb false)] [(10, AO e), (34, AO a)] (cT (ALe.bool u)) ?_
        exact Kn.R Fm (M false h)
   ·exact AW.exit (Kn.R Fm (Z e h))
 ·refine AW.seq ?_
  obtain ⟨i, o0, h⟩ := bS h
  refine AW.G Fm [.s, .s, .w (AL (α := (List Span)) ([n, o] : List (List Span))), .k (cE [(100, 17)] [] (ow 100) [] [(100, AO i)]), .s, .s] (fun K => (ALe (.v (.c (.d (.lst 2 (litF 1 [DL n, DL o]))))) (AL (α := (List Span)) ([n, o] : List (List Span)))) ∧ K 3 ∧ True) [(0, AL n), (1, AL o), (2, .v (.c (.sem (CloOK Tryz.prog (FR_Bool_Bool_Bool p))))), (7, ow 7), (17, ow 17), (18, vi (lI i)), (19, vi 0)] [(7, AO (α := Int) ([] : List Int)), (17, AO i)] ⟨ALe.lst (.lit ([n, o] : List (List Span)) (by kernel_rfl)), KAt.CC (slices_Concat_Span_spec o0) Tryz.call233 [(100, 17)], ⟨⟩⟩ ?_
  refine AW.block (Kn.r Fm [(0, AL n), (1, AL o), (2, .v (.c (.sem (CloOK Tryz.prog (FR_Bool_Bool_Bool p))))), (7, ow 7), (17, ow 17), (18, vi (lI i)), (19, vi 0)] [(7, AO ([] : List Int)), (17, AO i)] (by kernel_rfl) ?_)
  refine AW.loopF (E' := fun z => [(0, AL n), (1, AL o), (2, .v (.c (.sem (CloOK Tryz.prog (FR_Bool_Bool_Bool p))))), (7, ow 7), (17, ow 17), (18, vi (lI i)), (19, vi z.1)]) (S' := fun z => [(7, AO z.2), (17, AO i)]) (fun H0 z y0 W h => ?_) h
  obtain ⟨l, q⟩ := z
  refine AW.SG0 Fm 1 [(0, AL n), (1, AL o), (2, .v (.c (.sem (CloOK Tryz.prog (FR_Bool_Bool_Bool p))))), (7, ow 7), (17, ow 17), (18, vi (lI i)), (19, vi l), (20, vb (decide (l < (lI i))))] [(7, AO q), (17, AO i)] ?_
  refine AW.seq (AW.cN h (fun a0 h => ?_) (fun a0 h => ?_))
  ·refine AW.skip (AW.seq (AW.block ?_))
   obtain ⟨N, h⟩ := gS h
   refine AW.SP Fm [.s, .s, .s, .s] [(0, AL n), (1, AL o), (2, .v (.c (.sem (CloOK Tryz.prog (FR_Bool_Bool_Bool p))))), (7, ow 7), (9, pt 9), (17, ow 17), (18, vi (lI i)), (19, vi l)] [(7, AO q), (9, bx [ci ((gl i l.toNat).left_), ci ((gl i l.toNat).right_)]), (17, AO i)] (cA N (cT (toNat_lt N))) ?_
   obtain ⟨e0, h⟩ := gS h
   refine AW.WP Fm [.s, .s, .s, .s, .s, .w (AL (α := Int) ([(gl i l.toNat).left_, (gl i l.toNat).right_] : List Int)), .s, .s] [(0, AL n), (1, AL o), (2, .v (.c (.sem (CloOK Tryz.prog (FR_Bool_Bool_Bool p))))), (7, ow 29), (17, ow 17), (18, vi (lI i)), (19, vi l)] [(17, AO i), (29, AO (α := Int) (q ++ ([(gl i l.toNat).left_, (gl i l.toNat).right_] : List Int)))] (cA (ALe.lst (.lit ([(gl i l.toNat).left_, (gl i l.toNat).right_] : List Int) (by kernel_rfl)) : ALe (.v (.c (.d (.lst 2 (litF 1 [.int .i64 (gl i l.toNat).left_, .int .i64 (gl i l.toNat).right_]))))) (AL (α := Int) ([(gl i l.toNat).left_, (gl i l.toNat).right_] : List Int))) (cT (cA e0 (cT (Is.refl ([(gl i l.toNat).left_, (gl i l.toNat).right_] : List Int) : Is (List.length (α := Int) ([(gl i l.toNat).left_, (gl i l.toNat).right_] : List Int)) (LF (α := Int) ([(gl i l.toNat).left_, (gl i l.toNat).right_] : List Int)) ([(gl i l.toNat).left_, (gl i l.toNat).right_] : List Int)).len)))) [(29, .arr 1 ((List.length (α := Int) q) + (List.length (α := Int) ([(gl i l.toNat).left_, (gl i l.toNat).right_] : List Int))) (appF (List.length (α := Int) q) (LF (α := Int) q) (LF (α := Int) ([(gl i l.toNat).left_, (gl i l.toNat).right_] : List Int))))] ⟨OLe.is (Is.app (Is.refl q) (Is.refl ([(gl i l.toNat).left_, (gl i l.toNat).right_] : List Int))), ⟨⟩⟩ ?_
   obtain ⟨i0, h⟩ := gS h
   refine AW.pN Fm [.s, .s] [(0, AL n), (1, AL o), (2, .v (.c (.sem (CloOK Tryz.prog (FR_Bool_Bool_Bool p))))), (7, ow 29), (17, ow 17), (18, vi (lI i)), (19, vi (l + 1))] [(17, AO i), (29, AO (α := Int) (q ++ ([(gl i l.toNat).left_, (gl i l.toNat).right_] : List Int)))] (cT (cT i0)) ?_
   exact Kn.RE Fm [(7, 29)] (W ((l + 1), (q ++ ([(gl i l.toNat).left_, (gl i l.toNat).right_] : List Int))) h)
  ·exact AW.exit (Kn.R Fm (X q h))
theorem region_Choose_1_spec {F : Nat} {e : Int} {a : (List Rect)} {b : (List Rect)} {c : Bool → Bool → Option Bool} {r : (List Span)} (h : region_Choose_1 F e a b c = some r) :
  FSpec Tryz.prog 178 [vi e, pt 0, pt 1, pt 2] [(0, .box true [.d (DL a)]), (1, .box true [.d (DL b)]), (2, .box true [.sem (CloOK Tryz.prog (FR_Bool_Bool_Bool c))])] (AL (α := Span) r) [(0, .box true [.d (DL a)]), (1, .box true [.d (DL b)]), (2, .box true [.sem (CloOK Tryz.prog (FR_Bool_Bool_Bool c))])] := by
 refine FI Tryz.func178 prog_mixed prog_lay fun C Fm => ?_
 unfold region_Choose_1 at h
 refine AW.SG0 Fm 1 [(0, vi e), (1, pt 0), (2, pt 1), (3, pt 2)] [(0, .box true [.d (DL a)]), (1, .box true [.d (DL b)]), (2, .box true [.sem (CloOK Tryz.prog (FR_Bool_Bool_Bool c))])] ?_
 refine AW.seq ?_
 obtain ⟨n, j, h⟩ := bS h
 obtain ⟨o, l, h⟩ := bS h
 obtain ⟨i, m, h⟩ := bS h
 refine AW.G Fm [.s, .s, .k (cE [] [] (AL n) [] []), .s, .s, .k (cE [] [] (AL o) [] []), .s, .k (cE [] [] (AL i) [] []), .s] (fun K => K 2 ∧ K 5 ∧ K 7 ∧ True) [(5, AL i)] [(0, .box true [.d (DL a)]), (1, .box true [.d (DL b)]), (2, .box true [.sem (CloOK Tryz.prog (FR_Bool_Bool_Bool c))])] ⟨KAt.CC (region_Row_spec j) Tryz.call180 [], KAt.CC (region_Row_spec l) Tryz.call180 [], KAt.callX (region_merge_spec m) Tryz.call179 [] [] [.tmp 8, .tmp 11, .tmp 12] rfl (by kernel_rfl) (by kernel_rfl) (by kernel_rfl) ⟨.p, .p, ArgT.semX (by kernel_rfl) (by kernel_rfl) (by kernel_rfl), ⟨⟩⟩, ⟨⟩⟩ ?_
 refine AW.ret ?_
 obtain rfl := Option.some.inj h
 exact Kn.D Fm
theorem region_Choose_spec {F : Nat} {a : (List Rect)} {b : (List Rect)} {e : Bool → Bool → Option Bool} {r : (List Rect)} (h : region_Choose F a b e = some r) :
  FSpec Tryz.prog 93 [AL a, AL b, .v (.c (.sem (CloOK Tryz.prog (FR_Bool_Bool_Bool e))))] [] (AL (α := Rect) r) [] := by
 refine FI Tryz.func93 prog_mixed prog_lay fun C Fm => ?_
 unfold region_Choose at h
 refine AW.SG0 Fm 4 [(3, pt 3), (4, pt 4), (5, pt 5)] [(3, bx [.d (DL a)]), (4, bx [.d (DL b)]), (5, bx [.sem (CloOK Tryz.prog (FR_Bool_Bool_Bool e))])] ?_
 refine AW.seq ?_
 obtain ⟨m, j, h⟩ := bS h
 obtain ⟨i, l, h⟩ := bS h
 refine AW.G Fm [.s, .s, .w (AL (α := (List Rect)) ([a, b] : List (List Rect))), .k (cE [] [] (AL m) [] []), .s, .k (cE [] [3, 4, 5] (AL i) [] []), .s] (fun K => (ALe (.v (.c (.d (.lst 2 (litF 1 [DL a, DL b]))))) (AL (α := (List Rect)) ([a, b] : List (List Rect)))) ∧ K 3 ∧ K 5 ∧ True) [(6, AL i)] [] ⟨ALe.lst (.lit ([a, b] : List (List Rect)) (by kernel_rfl)), KAt.CC (region_Cuts_spec j) Tryz.call177 [], KAt.callX (region_Build_spec l) Tryz.call176 [] [3, 4, 5] [.tmp 10, .tmp 11] rfl (by kernel_rfl) (by kernel_rfl) (by kernel_rfl) ⟨.p, ArgT.cloXP Tryz.call178 [[.d (DL a)], [.d (DL b)], [.sem (CloOK Tryz.prog (FR_Bool_Bool_Bool e))]] (fun args r hq => by obtain ⟨y0, y, hq, rfl, rfl⟩ := hq; exact Eq.mp (by kernel_rfl) (region_Choose_1_spec hq)) (fun args r hq => by obtain ⟨y0, y, hq, rfl, rfl⟩ := hq; rfl) (by kernel_rfl) [3, 4, 5] (by kernel_rfl) (by kernel_rfl) ⟨⟨.inl (by kernel_rfl), ⟨⟩⟩, ⟨.inl (by kernel_rfl), ⟨⟩⟩, ⟨.inr ⟨_, rfl⟩, ⟨⟩⟩, ⟨⟩⟩ (⟨⟨false, (by kernel_rfl)⟩, ⟨⟨false, (by kernel_rfl)⟩, ⟨⟨false, (by kernel_rfl)⟩, ⟨⟩⟩⟩⟩) (by kernel_rfl), ⟨⟩⟩, ⟨⟩⟩ ?_
 refine AW.ret ?_
 obtain rfl := Option.some.inj h
 exact Kn.D Fm
theorem zone_Soft_1_spec {F : Nat} {c : Bool} {a : Bool} {r : Bool} (h : zone_Soft_1 F c a = some r) :
  FSpec Tryz.prog 136 [vb c, vb a] [] (vb r) [] := by
 refine FI Tryz.func136 prog_mixed prog_lay fun C Fm => ?_
 unfold zone_Soft_1 at h
 refine AW.SG0 Fm 1 [(0, vb c), (1, vb a)] [] ?_
 refine AW.join (r := r) (fun z : Bool => zone_Soft_1_k0 F z) (fun z => [(4, vb z)]) (fun z => []) (fun i h => ?_) (fun e d => ?_)
 ·refine AW.ret ?_
  obtain rfl := Option.some.inj h
  exact Kn.D Fm
 ·rcases br_or h with ⟨b, h⟩ | ⟨b, h⟩
  ·refine AW.pN Fm [.s, .w (vb true), .s, .s, .s] [(4, vb a)] [] (cT (ALe.bool b)) ?_
   exact Kn.R Fm (d a h)
  ·refine AW.pN Fm [.s, .w (vb false), .s, .s, .s] [(4, vb false)] [] (cT (ALe.bool b)) ?_
   exact Kn.R Fm (d false h)
theorem shape_common_spec {F : Nat} {a : Rect} {b : Rect} {r : Int} (h : shape_common F a b = some r) :
  FSpec Tryz.prog 208 [gE a, gE b] [] (vi r) [] := by
 refine FI Tryz.func208 prog_mixed prog_lay fun C Fm => ?_
 unfold shape_common at h
 refine AW.SG0 Fm 3 [(2, pt 2), (3, pt 3)] [(2, bx (gC a)), (3, bx (gC b))] ?_
 refine AW.SG0 Fm 1 [(2, pt 2), (3, pt 3), (5, vi 0)] [(2, bx (gC a)), (3, bx (gC b))] ?_
 refine AW.join (r := r) (fun z : Int => shape_common_k1 F a b z) (fun z => [(2, pt 2), (3, pt 3), (5, vi z)]) (fun z => [(2, bx (gC a)), (3, bx (gC b))]) (fun c h => ?_) (fun A j => ?_)
 ·refine AW.join (r := r) (fun z : Int => shape_common_k3 F z) (fun z => [(5, vi z)]) (fun z => []) (fun u h => ?_) (fun E l => ?_)
  ·refine AW.SG0 Fm 2 [(4, vi u)] [] ?_
   refine AW.ret ?_
   obtain rfl := Option.some.inj h
   exact Kn.D Fm
  ·refine AW.join (r := r) (fun z : Bool => shape_common_k2 F a b c z) (fun z => [(2, pt 2), (3, pt 3), (5, vi c), (43, vb z)]) (fun z => [(2, bx (gC a)), (3, bx (gC b))]) (fun H h => ?_) (fun B k => ?_)
   ·refine AW.cN h (fun n h => ?_) (fun n h => ?_)
    ·obtain ⟨q, t, h⟩ := gS2 h
     refine AW.pN Fm [.s, .s, .s, .s, .s, .s, .s, .s, .s, .s, .s, .s, .s, .s, .s] [(5, vi (c + (gmax (0 : Int) ((gmin a.right_ b.right_) - (gmax a.left_ b.left_)))))] [] (cA (cT q) (cT (cT t))) ?_
     exact Kn.R Fm (l (c + (gmax (0 : Int) ((gmin a.right_ b.right_) - (gmax a.left_ b.left_)))) h)
    ·exact AW.skip (Kn.R Fm (l c h))
   ·rcases br_or h with ⟨e, h⟩ | ⟨e, h⟩
    ·refine AW.pN Fm [.s, .s, .s, .s, .s, .w (vb true), .s, .s, .s, .s, .s, .s] [(2, pt 2), (3, pt 3), (5, vi c), (43, vb true)] [(2, bx (gC a)), (3, bx (gC b))] (cT (ALe.bool e)) ?_
     exact Kn.R Fm (k true h)
    ·refine AW.pN Fm [.s, .s, .s, .s, .s, .w (vb false), .s, .s, .s, .s, .s, .s] [(2, pt 2), (3, pt 3), (5, vi c), (43, vb (b.high_ == a.low_))] [(2, bx (gC a)), (3, bx (gC b))] (cT (ALe.bool e)) ?_
     exact Kn.R Fm (k (b.high_ == a.low_) h)
 ·refine AW.join (r := r) (fun z : Bool => shape_common_k0 F a b z) (fun z => [(2, pt 2), (3, pt 3), (5, vi 0), (17, vb z)]) (fun z => [(2, bx (gC a)), (3, bx (gC b))]) (fun G h => ?_) (fun y i => ?_)
  ·refine AW.cN h (fun m h => ?_) (fun m h => ?_)
   ·obtain ⟨o, p, h⟩ := gS2 h
    refine AW.pN Fm [.s, .s, .s, .s, .s, .s, .s, .s, .s, .s, .s, .s, .s, .s, .s] [(2, pt 2), (3, pt 3), (5, vi ((0 : Int) + (gmax (0 : Int) ((gmin a.high_ b.high_) - (gmax a.low_ b.low_)))))] [(2, bx (gC a)), (3, bx (gC b))] (cA (cT o) (cT (cT p))) ?_
    exact Kn.R Fm (j ((0 : Int) + (gmax (0 : Int) ((gmin a.high_ b.high_) - (gmax a.low_ b.low_)))) h)
   ·exact AW.skip (Kn.R Fm (j (0 : Int) h))
  ·rcases br_or h with ⟨d, h⟩ | ⟨d, h⟩
   ·refine AW.pN Fm [.s, .s, .s, .s, .s, .w (vb true), .s, .s, .s, .s, .s, .s] [(2, pt 2), (3, pt 3), (5, vi 0), (17, vb true)] [(2, bx (gC a)), (3, bx (gC b))] (cT (ALe.bool d)) ?_
    exact Kn.R Fm (i true h)
   ·refine AW.pN Fm [.s, .s, .s, .s, .s, .w (vb false), .s, .s, .s, .s, .s, .s] [(2, pt 2), (3, pt 3), (5, vi 0), (17, vb (b.right_ == a.left_))] [(2, bx (gC a)), (3, bx (gC b))] (cT (ALe.bool d)) ?_
    exact Kn.R Fm (i (b.right_ == a.left_) h)
theorem shape_Joined_1_spec {F : Nat} {a : Rect} {b : (List Rect)} {e : Int} {r : (List Rect) × Bool} (h : shape_Joined_1 F a b e = some r) :
  FSpec Tryz.prog 207 [gE a, pt 0, pt 1] [(0, bx [.ap 60]), (1, bx [ci e]), (60, AP b)] (vb r.2) [(0, bx [.ap 70]), (1, bx [ci e]), (70, AP (α := Rect) r.1)] := by
 refine FI Tryz.func207 prog_mixed prog_lay fun C Fm => ?_
 unfold shape_Joined_1 at h
 refine Kn.re Fm [(960, 60)] [(0, gE a), (1, pt 0), (2, pt 1)] [(0, bx [.ap 960]), (1, bx [ci e]), (960, AP b)] (by kernel_rfl) (by kernel_rfl) (by kernel_rfl) (by kernel_rfl) ?_
 refine AW.SG0 Fm 2 [(1, pt 0), (2, pt 1), (3, pt 3)] [(0, bx [.ap 960]), (1, bx [ci e]), (3, bx (gC a)), (960, AP b)] ?_
 refine AW.join (r := r) (fun z : Bool => shape_Joined_1_k0 F a b z) (fun z => [(1, pt 0), (3, pt 3), (5, vb z)]) (fun z => [(0, bx [.ap 960]), (1, bx [ci e]), (3, bx (gC a)), (960, AP b)]) (fun i h => ?_) (fun B u => ?_)
 ·refine AW.join (r := r) (fun z : (List Rect) => shape_Joined_1_k1 F i z) (fun z => [(5, vb i)]) (fun z => [(0, bx [.ap 17]), (1, bx [ci e]), (17, AP z)]) (fun y h => ?_) (fun D p => ?_)
  ·refine AW.SG0 Fm 2 [(4, vb i)] [(0, bx [.ap 17]), (1, bx [ci e]), (17, AP y)] ?_
   refine AW.ret ?_
   obtain rfl := Option.some.inj h
   exact Kn.re Fm [(70, 17)] [(4, vb i)] [(0, bx [.ap 70]), (1, bx [ci e]), (70, AP y)] (by kernel_rfl) (by kernel_rfl) (by kernel_rfl) (by kernel_rfl) (Kn.dn Fm (by kernel_rfl))
  ·refine AW.SG0 Fm 1 [(1, pt 0), (3, pt 3), (5, vb i), (13, vb i)] [(0, bx [.ap 960]), (1, bx [ci e]), (3, bx (gC a)), (960, AP b)] ?_
   refine AW.cN h (fun A h => ?_) (fun A h => ?_)
   ·refine Kn.r Fm [(1, pt 0), (3, pt 3), (5, vb i), (13, vb i)] [(960, AP b), (0, bx [.ap 960]), (1, bx [ci e]), (3, bx (gC a))] (by kernel_rfl) ?_
    refine Kn.ap_split (by kernel_rfl) ?_ ?_
    ·refine Kn.r Fm [(1, pt 0), (3, pt 3), (5, vb i), (13, vb i)] [(0, bx [.own 960]), (1, bx [ci e]), (3, bx (gC a)), (960, AO b)] (by kernel_rfl) ?_
     obtain ⟨q, h⟩ := gS h
     refine AW.WP Fm [.s, .s, .w (AL (α := Rect) ([a] : List Rect)), .s, .s] [(5, vb i)] [(0, bx [.own 17]), (1, bx [ci e]), (17, AO (α := Rect) (b ++ ([a] : List Rect)))] (cA (ALe.lst (.lit ([a] : List Rect) (by kernel_rfl)) : ALe (.v (.c (.d (.lst 1 (litF 4 [.int .i64 a.left_, .int .i64 a.low_, .int .i64 a.right_, .int .i64 a.high_]))))) (AL (α := Rect) ([a] : List Rect))) (cT (cA q (cT (Is.refl ([a] : List Rect) : Is (List.length (α := Rect) ([a] : List Rect)) (LF (α := Rect) ([a] : List Rect)) ([a] : List Rect)).len)))) [(17, .arr 4 ((List.length (α := Rect) b) + (List.length (α := Rect) ([a] : List Rect))) (appF (List.length (α := Rect) b) (LF (α := Rect) b) (LF (α := Rect) ([a] : List Rect))))] ⟨OLe.is (Is.app (Is.refl b) (Is.refl ([a] : List Rect))), ⟨⟩⟩ ?_
     refine Kn.r Fm [(5, vb i)] [(0, bx [.own 17]), (1, bx [ci e]), (17, AO (α := Rect) (b ++ ([a] : List Rect)))] (by kernel_rfl) ?_
     refine Kn.wk [(5, vb i)] [(0, bx [.ap 17]), (1, bx [ci e]), (17, AP (α := Rect) (b ++ ([a] : List Rect)))] ⟨rfl, ALe.refl _, ⟨⟩⟩ ⟨rfl, OLe.box ⟨CLe.ap 17, ⟨⟩⟩, ⟨rfl, OLe.refl _, ⟨rfl, OLe.ap _ _ _, ⟨⟩⟩⟩⟩ ?_
     exact Kn.R Fm (p (b ++ ([a] : List Rect)) h)
    ·refine Kn.r Fm [(1, pt 0), (3, pt 3), (5, vb i), (13, vb i)] [(0, bx [.fl (List.length (α := Rect) b) (LF (α := Rect) b)]), (1, bx [ci e]), (3, bx (gC a))] (by kernel_rfl) ?_
     obtain ⟨q, h⟩ := gS h
     refine AW.GW Fm [.s, .s, .w (AL (α := Rect) ([a] : List Rect)), .k (rE { v := .v (.c (.own 17)), new := some (.arr 4 ((List.length (α := Rect) b) + (List.length (α := Rect) ([a] : List Rect))) (appF (List.length (α := Rect) b) (LF (α := Rect) b) (LF (α := Rect) ([a] : List Rect)))) }), .s] (fun K => (ALe (.v (.c (.d (.lst 1 (litF 4 [.int .i64 a.left_, .int .i64 a.low_, .int .i64 a.right_, .int .i64 a.high_]))))) (AL (α := Rect) ([a] : List Rect))) ∧ K 3 ∧ True) [(5, vb i)] [(0, bx [.own 17]), (1, bx [ci e]), (17, AO (α := Rect) (b ++ ([a] : List Rect)))] ⟨ALe.lst (.lit ([a] : List Rect) (by kernel_rfl)), KAt.fappend (n := List.length (α := Rect) b) (m := List.length (α := Rect) ([a] : List Rect)) (f := LF (α := Rect) b) (g := LF (α := Rect) ([a] : List Rect)) prog_lay slT31 rfl rfl (by kernel_rfl) (by kernel_rfl) (by kernel_rfl) (Nat.succ_pos _) q (Is.refl ([a] : List Rect) : Is (List.length (α := Rect) ([a] : List Rect)) (LF (α := Rect) ([a] : List Rect)) ([a] : List Rect)).len (Is.refl b : Is (List.length (α := Rect) b) (LF (α := Rect) b) b).len, ⟨⟩⟩ [(17, .arr 4 ((List.length (α := Rect) b) + (List.length (α := Rect) ([a] : List Rect))) (appF (List.length (α := Rect) b) (LF (α := Rect) b) (LF (α := Rect) ([a] : List Rect))))] ⟨OLe.is (Is.app (Is.refl b) (Is.refl ([a] : List Rect))), ⟨⟩⟩ ?_
     refine Kn.r Fm [(5, vb i)] [(0, bx [.own 17]), (1, bx [ci e]), (17, AO (α := Rect) (b ++ ([a] : List Rect)))] (by kernel_rfl) ?_
     refine Kn.wk [(5, vb i)] [(0, bx [.ap 17]), (1, bx [ci e]), (17, AP (α := Rect) (b ++ ([a] : List Rect)))] ⟨rfl, ALe.refl _, ⟨⟩⟩ ⟨rfl, OLe.box ⟨CLe.ap 17, ⟨⟩⟩, ⟨rfl, OLe.refl _, ⟨rfl, OLe.ap _ _ _, ⟨⟩⟩⟩⟩ ?_
     exact Kn.R Fm (p (b ++ ([a] : List Rect)) h)
   ·exact AW.skip (Kn.RE Fm [(17, 960)] (p b h))
 ·refine Kn.r Fm [(1, pt 0), (2, pt 1), (3, pt 3)] [(960, AP b), (0, bx [.ap 960]), (1, bx [ci e]), (3, bx (gC a))] (by kernel_rfl) ?_
  refine Kn.ap_split (by kernel_rfl) ?_ ?_
  ·refine Kn.r Fm [(1, pt 0), (2, pt 1), (3, pt 3)] [(0, bx [.own 960]), (1, bx [ci e]), (3, bx (gC a)), (960, AO b)] (by kernel_rfl) ?_
   obtain ⟨o, h⟩ := gS h
   obtain ⟨l, t, h⟩ := bS h
   refine AW.G Fm [.s, .s, .s, .s, .s, .k (cE [] [] (vi l) [] []), .s, .s] (fun K => _ ∧ _ ∧ K 5 ∧ True) [(1, pt 0), (3, pt 3), (5, vb (decide ((0 : Int) < l)))] [(0, bx [.own 960]), (1, bx [ci e]), (3, bx (gC a)), (960, AO b)] ⟨o, (toNat_lt o), KAt.CC (shape_common_spec t) Tryz.call208 [], ⟨⟩⟩ ?_
   refine Kn.r Fm [(1, pt 0), (3, pt 3), (5, vb (decide ((0 : Int) < l)))] [(0, bx [.own 960]), (1, bx [ci e]), (3, bx (gC a)), (960, AO b)] (by kernel_rfl) ?_
   refine Kn.wk [(1, pt 0), (3, pt 3), (5, vb (decide ((0 : Int) < l)))] [(0, bx [.ap 960]), (1, bx [ci e]), (3, bx (gC a)), (960, AP b)] ⟨rfl, ALe.refl _, ⟨rfl, ALe.refl _, ⟨rfl, ALe.refl _, ⟨⟩⟩⟩⟩ ⟨rfl, OLe.box ⟨CLe.ap 960, ⟨⟩⟩, ⟨rfl, OLe.refl _, ⟨rfl, OLe.refl _, ⟨rfl, OLe.ap _ _ _, ⟨⟩⟩⟩⟩⟩ ?_
   exact Kn.R Fm (u (decide ((0 : Int) < l)) h)
  ·refine Kn.r Fm [(1, pt 0), (2, pt 1), (3, pt 3)] [(0, bx [.fl (List.length (α := Rect) b) (LF (α := Rect) b)]), (1, bx [ci e]), (3, bx (gC a))] (by kernel_rfl) ?_
   obtain ⟨o, h⟩ := gS h
   obtain ⟨l, t, h⟩ := bS h
   refine AW.G Fm [.s, .s, .s, .s, .s, .k (cE [] [] (vi l) [] []), .s, .s] (fun K => _ ∧ K 5 ∧ True) [(1, pt 0), (3, pt 3), (5, vb (decide ((0 : Int) < l)))] [(0, bx [.fl (List.length (α := Rect) b) (LF (α := Rect) b)]), (1, bx [ci e]), (3, bx (gC a))] ⟨o, KAt.CC (shape_common_spec t) Tryz.call208 [], ⟨⟩⟩ ?_
   refine Kn.r Fm [(1, pt 0), (3, pt 3), (5, vb (decide ((0 : Int) < l)))] [(0, bx [.fl (List.length (α := Rect) b) (LF (α := Rect) b)]), (1, bx [ci e]), (3, bx (gC a))] (by kernel_rfl) ?_
   refine Kn.ap0 Fm (k := 960) (es := 4) (j := 0) (by kernel_rfl) (by kernel_rfl) (by simp) rfl ?_
   refine Kn.r Fm [(1, pt 0), (3, pt 3), (5, vb (decide ((0 : Int) < l)))] [(0, bx [.ap 960]), (1, bx [ci e]), (3, bx (gC a)), (960, AP b)] (by kernel_rfl) ?_
   exact Kn.R Fm (u (decide ((0 : Int) < l)) h)
theorem slices_Clone_Rect_O_spec {F : Nat} {a : (List Rect)} {r : (List Rect)} (h : slices_Clone_Rect_O F a = some r) :
  FSpec Tryz.prog 181 [AL a] [] (ow 100) [(100, AO (α := Rect) r)] := by
 refine FI Tryz.func181 prog_mixed prog_lay fun C Fm => ?_
 unfold slices_Clone_Rect_O at h
 refine AW.SG Fm [.m] (fun K => True) [(0, AL a)] [] True.intro ?_
 refine AW.seq (AW.SG Fm [.s, .k (sE (nb (List.length a)))] (fun K => K 1 ∧ True) [(0, AL a), (4, .v (.c (.sem (nbP (List.length a)))))] [] ⟨KAt.nil (t := 31) (el := 108) (n := List.length a) (by kernel_rfl) rfl rfl (by kernel_rfl) (by kernel_rfl) (by kernel_rfl), ⟨⟩⟩ ?_)
 refine AW.condNil (n := List.length a) (by kernel_rfl) (fun d => ?_) ?_
 ·have h := brN_t h d
  refine AW.SW Fm [.m] (fun K => True) [(2, ow 2)] [(2, AO (α := Rect) ([] : List Rect))] True.intro [(2, .arr 4 (0) (fun _ => []))] ⟨OLe.is ((Is.nil (α := Rect))), ⟨⟩⟩ ?_
  refine AW.ret ?_
  obtain rfl := Option.some.inj h
  exact Kn.re Fm [(100, 2)] [(2, ow 100)] [(100, AO (α := Rect) ([] : List Rect))] (by kernel_rfl) (by kernel_rfl) (by kernel_rfl) (by kernel_rfl) (Kn.dn Fm (by kernel_rfl))
 ·have h := brN_f h
  refine AW.skip ?_
  obtain ⟨b, h⟩ := gS h
  refine AW.SV Fm [.m, .s, .s, .s] [(2, ow 7)] [(7, AO (α := Rect) (([] : List Rect) ++ a))] (cT (cA b (cT (Is.refl a : Is (List.length (α := Rect) a) (LF (α := Rect) a) a).len))) [(7, .arr 4 ((0) + (List.length (α := Rect) a)) (appF (0) (litF 4 []) (LF (α := Rect) a)))] ⟨OLe.is (Is.app (Is.lit ([] : List Rect) (by kernel_rfl)) (Is.refl a)), ⟨⟩⟩ ?_
  refine AW.ret ?_
  obtain rfl := Option.some.inj h
  exact Kn.re Fm [(100, 7)] [(2, ow 100)] [(100, AO (α := Rect) (([] : List Rect) ++ a))] (by kernel_rfl) (by kernel_rfl) (by kernel_rfl) (by kernel_rfl) (Kn.dn Fm (by kernel_rfl))
theorem slices_IndexFunc_Rect_J_spec {F : Nat} {a : (List Rect)} {i : (List Rect)} {b : Int} {r : (List Rect) × (List Rect) × Int} (h : slices_IndexFunc_Rect_J F a i b = some r) :
  FSpec Tryz.prog 229 [ow 0, .v (.c (.clo 207 [50, 51]))] [(0, AO a), (50, bx [.ap 60]), (51, bx [ci b]), (60, AP i)] (vi r.2.2) [(0, AO (α := Rect) r.1), (50, bx [.ap 70]), (51, bx [ci b]), (70, AP (α := Rect) r.2.1)] := by
 refine FI Tryz.func229 prog_mixed prog_lay fun C Fm => ?_
 unfold slices_IndexFunc_Rect_J at h
 refine Kn.re Fm [(960, 60)] [(0, ow 0), (1, .v (.c (.clo 207 [50, 51])))] [(0, AO a), (50, bx [.ap 960]), (51, bx [ci b]), (960, AP i)] (by kernel_rfl) (by kernel_rfl) (by kernel_rfl) (by kernel_rfl) ?_
 refine AW.SG0 Fm 1 [(0, ow 0), (1, .v (.c (.clo 207 [50, 51])))] [(0, AO a), (50, bx [.ap 960]), (51, bx [ci b]), (960, AP i)] ?_
 refine AW.join (r := r) (fun z : (List Rect) => slices_IndexFunc_Rect_J_k1 F a z) (fun z => []) (fun z => [(0, AO a), (50, bx [.ap 960]), (51, bx [ci b]), (960, AP z)]) (fun m h => ?_) (fun y o => ?_)
 ·refine AW.SG0 Fm 1 [(4, vi (-1 : Int))] [(0, AO a), (50, bx [.ap 960]), (51, bx [ci b]), (960, AP m)] ?_
  refine AW.ret ?_
  obtain rfl := Option.some.inj h
  exact Kn.re Fm [(70, 960)] [(4, vi (-1 : Int))] [(0, AO a), (50, bx [.ap 70]), (51, bx [ci b]), (70, AP m)] (by kernel_rfl) (by kernel_rfl) (by kernel_rfl) (by kernel_rfl) (Kn.dn Fm (by kernel_rfl))
 ·refine AW.SG0 Fm 3 [(0, ow 0), (1, .v (.c (.clo 207 [50, 51]))), (7, vi (lI a)), (8, vi 0)] [(0, AO a), (50, bx [.ap 960]), (51, bx [ci b]), (960, AP i)] ?_
  refine AW.block (AW.loopF (E' := fun z => [(0, ow 0), (1, .v (.c (.clo 207 [50, 51]))), (7, vi (lI a)), (8, vi z.1)]) (S' := fun z => [(0, AO a), (50, bx [.ap 960]), (51, bx [ci b]), (960, AP z.2)]) (fun A z w n h => ?_) h)
  obtain ⟨d, j⟩ := z
  refine AW.SG0 Fm 1 [(0, ow 0), (1, .v (.c (.clo 207 [50, 51]))), (7, vi (lI a)), (8, vi d), (9, vb (decide (d < (lI a))))] [(0, AO a), (50, bx [.ap 960]), (51, bx [ci b]), (960, AP j)] ?_
  refine AW.seq (AW.cN h (fun p h => ?_) (fun p h => ?_))
  ·refine AW.skip (AW.seq (AW.block (AW.SG0 Fm 2 [(0, ow 0), (1, .v (.c (.clo 207 [50, 51]))), (5, vi d), (7, vi (lI a)), (8, vi d)] [(0, AO a), (50, bx [.ap 960]), (51, bx [ci b]), (960, AP j)] ?_)))
   refine AW.seq ?_
   obtain ⟨l, h⟩ := gS h
   obtain ⟨e, u, h⟩ := bS h
   refine AW.G Fm [.s, .s, .s, .s, .s, .k (cE [(0, 50), (60, 960), (70, 1016), (1, 51)] [] (vb e.2) [(0, bx [.ap 60]), (1, bx [ci b]), (60, AP j)] [(0, bx [.ap 70]), (1, bx [ci b]), (70, AP e.1)])] (fun K => _ ∧ _ ∧ K 5 ∧ True) [(0, ow 0), (1, .v (.c (.clo 207 [50, 51]))), (5, vi d), (7, vi (lI a)), (8, vi d), (16, vb e.2)] [(0, AO a), (50, bx [.ap 1016]), (51, bx [ci b]), (1016, AP e.1)] ⟨l, (toNat_lt l), KAt.clC (args := [.v (.g [ci ((gl a d.toNat).left_), ci ((gl a d.toNat).low_), ci ((gl a d.toNat).right_), ci ((gl a d.toNat).high_)])]) (caps := [0, 1]) (shape_Joined_1_spec u) Tryz.call207 [(0, 50), (60, 960), (70, 1016), (1, 51)] rfl (by kernel_rfl), ⟨⟩⟩ ?_
   refine AW.cN h (fun q h => ?_) (fun q h => ?_)
   ·refine AW.SG0 Fm 2 [(4, vi d)] [(0, AO a), (50, bx [.ap 1016]), (51, bx [ci b]), (1016, AP e.1)] ?_
    refine AW.ret ?_
    obtain rfl := Option.some.inj h
    exact Kn.re Fm [(70, 1016)] [(4, vi d)] [(0, AO a), (50, bx [.ap 70]), (51, bx [ci b]), (70, AP e.1)] (by kernel_rfl) (by kernel_rfl) (by kernel_rfl) (by kernel_rfl) (Kn.dn Fm (by kernel_rfl))
   ·refine AW.skip ?_
    obtain ⟨t, h⟩ := gS h
    refine AW.pN Fm [.s, .s] [(0, ow 0), (1, .v (.c (.clo 207 [50, 51]))), (7, vi (lI a)), (8, vi (d + 1))] [(0, AO a), (50, bx [.ap 1016]), (51, bx [ci b]), (1016, AP e.1)] (cT (cT t)) ?_
    exact Kn.RE Fm [(960, 1016)] (n ((d + 1), e.1) h)
  ·exact AW.exit (Kn.R Fm (o j h))
theorem slices_DeleteFunc_Rect_J_spec {F : Nat} {w : (List Rect)} {y : (List Rect)} {e : Int} {r : (List Rect) × (List Rect)} (h : slices_DeleteFunc_Rect_J F w y e = some r) :
  FSpec Tryz.prog 206 [ow 0, .v (.c (.clo 207 [50, 51]))] [(0, AO w), (50, bx [.ap 60]), (51, bx [ci e]), (60, AP y)] (ow 100) [(50, bx [.ap 70]), (51, bx [ci e]), (70, AP (α := Rect) r.1), (100, AO (α := Rect) r.2)] := by
 refine FI Tryz.func206 prog_mixed prog_lay fun C Fm => ?_
 unfold slices_DeleteFunc_Rect_J at h
 refine Kn.re Fm [(960, 60)] [(0, ow 0), (1, .v (.c (.clo 207 [50, 51])))] [(0, AO w), (50, bx [.ap 960]), (51, bx [ci e]), (960, AP y)] (by kernel_rfl) (by kernel_rfl) (by kernel_rfl) (by kernel_rfl) ?_
 refine AW.SG Fm [.m] (fun K => True) [(0, ow 0), (1, .v (.c (.clo 207 [50, 51])))] [(0, AO w), (50, bx [.ap 960]), (51, bx [ci e]), (960, AP y)] True.intro ?_
 refine AW.seq ?_
 obtain ⟨p, c0, h⟩ := bS h
 refine AW.G Fm [.s, .s, .k (cE [(0, 0), (50, 50), (60, 960), (70, 1010), (51, 51)] [] (vi p.2.2) [(0, AO w), (50, bx [.ap 60]), (51, bx [ci e]), (60, AP y)] [(0, AO p.1), (50, bx [.ap 70]), (51, bx [ci e]), (70, AP p.2.1)]), .s] (fun K => K 2 ∧ True) [(0, ow 0), (1, .v (.c (.clo 207 [50, 51]))), (5, vi p.2.2)] [(0, AO p.1), (50, bx [.ap 1010]), (51, bx [ci e]), (1010, AP p.2.1)] ⟨KAt.CC (slices_IndexFunc_Rect_J_spec c0) Tryz.call229 [(0, 0), (50, 50), (60, 960), (70, 1010), (51, 51)], ⟨⟩⟩ ?_
 refine AW.seq (AW.SG0 Fm 2 [(0, ow 0), (1, .v (.c (.clo 207 [50, 51]))), (5, vi p.2.2), (12, vb (p.2.2 == (-1 : Int)))] [(0, AO p.1), (50, bx [.ap 1010]), (51, bx [ci e]), (1010, AP p.2.1)] ?_)
 refine AW.cN h (fun V h => ?_) (fun V h => ?_)
 ·refine AW.SG0 Fm 2 [(4, ow 0)] [(0, AO p.1), (50, bx [.ap 1010]), (51, bx [ci e]), (1010, AP p.2.1)] ?_
  refine AW.ret ?_
  obtain rfl := Option.some.inj h
  exact Kn.re Fm [(70, 1010), (100, 0)] [(4, ow 100)] [(50, bx [.ap 70]), (51, bx [ci e]), (70, AP p.2.1), (100, AO p.1)] (by kernel_rfl) (by kernel_rfl) (by kernel_rfl) (by kernel_rfl) (Kn.dn Fm (by kernel_rfl))
 ·refine AW.skip (AW.join (r := r) (fun z : Int × (List Rect) × (List Rect) => slices_DeleteFunc_Rect_J_k2 F z.1 z.2.1 z.2.2) (fun z => [(0, ow 0), (5, vi z.1)]) (fun z => [(0, AO z.2.1), (50, bx [.ap 1010]), (51, bx [ci e]), (1010, AP z.2.2)]) (fun z h => ?_) (fun j0 U => ?_))
  ·obtain ⟨d, o, D⟩ := z
   obtain ⟨b0, h⟩ := gS h
   refine AW.SW Fm [.s, .s, .k (rE { v := .v (.c (.sub 0 4 (0 + (d).toNat) ((List.length (α := Rect) o) - (d).toNat))) }), .k (rE { v := .any, upd := some (0, .arr 4 (List.length (α := Rect) o) (fun i => if (0 + (d).toNat) ≤ i ∧ i < (0 + (d).toNat) + ((List.length (α := Rect) o) - (d).toNat) then (fun _ => [.int .i64 0, .int .i64 0, .int .i64 0, .int .i64 0]) (i - (0 + (d).toNat)) else (LF (α := Rect) o) i)) })] (fun K => K 2 ∧ K 3 ∧ True) [(0, ow 0), (5, vi d)] [(0, AO (α := Rect) (clr o (0 + (d).toNat) ((List.length (α := Rect) o) - (d).toNat))), (50, bx [.ap 1010]), (51, bx [ci e]), (1010, AP D)] ⟨KAt.vslice (l := (some d)) (u := none) (id := 0) (lo0 := 0) (n := (List.length (α := Rect) o)) (N := List.length (α := Rect) o) (f := LF (α := Rect) o) prog_lay slT31 rfl rfl (by kernel_rfl) (by kernel_rfl) (by kernel_rfl) (by kernel_rfl) (by kernel_rfl) b0 (by kernel_rfl), KAt.vclear (id := 0) (lo0 := (0 + (d).toNat)) (n := ((List.length (α := Rect) o) - (d).toNat)) (N := List.length (α := Rect) o) (f := (LF (α := Rect) o)) prog_lay slT31 [.int .i64 0, .int .i64 0, .int .i64 0, .int .i64 0] [.int .i64 0, .int .i64 0, .int .i64 0, .int .i64 0] ⟨DLe.refl _, DLe.refl _, DLe.refl _, DLe.refl _, ⟨⟩⟩ rfl rfl (by kernel_rfl) (Nat.succ_pos _) (by kernel_rfl) (by kernel_rfl) (by kernel_rfl) (by kernel_rfl) rfl, ⟨⟩⟩ [(0, .arr 4 (List.length (α := Rect) o) (fun i => if (0 + (d).toNat) ≤ i ∧ i < (0 + (d).toNat) + ((List.length (α := Rect) o) - (d).toNat) then (fun _ => [.int .i64 0, .int .i64 0, .int .i64 0, .int .i64 0]) (i - (0 + (d).toNat)) else (LF (α := Rect) o) i))] ⟨OLe.is (Is.clr (l := o) (0 + (d).toNat) ((List.length (α := Rect) o) - (d).toNat) (zd := [.int .i64 0, .int .i64 0, .int .i64 0, .int .i64 0]) (by kernel_rfl)), ⟨⟩⟩ ?_
   obtain ⟨I, h⟩ := gS h
   refine AW.SV Fm [.s, .s, .m, .s] [(4, ow 41)] [(41, AO (α := Rect) ((clr o (0 + (d).toNat) ((List.length (α := Rect) o) - (d).toNat)).take (d).toNat)), (50, bx [.ap 1010]), (51, bx [ci e]), (1010, AP D)] (cT I) [(41, .arr 4 ((d).toNat) (LF (α := Rect) (clr o (0 + (d).toNat) ((List.length (α := Rect) o) - (d).toNat))))] ⟨OLe.is (Is.take (Is.refl (clr o (0 + (d).toNat) ((List.length (α := Rect) o) - (d).toNat))) I.2), ⟨⟩⟩ ?_
   refine AW.ret ?_
   obtain rfl := Option.some.inj h
   exact Kn.re Fm [(70, 1010), (100, 41)] [(4, ow 100)] [(50, bx [.ap 70]), (51, bx [ci e]), (70, AP D), (100, AO (α := Rect) ((clr o (0 + (d).toNat) ((List.length (α := Rect) o) - (d).toNat)).take (d).toNat))] (by kernel_rfl) (by kernel_rfl) (by kernel_rfl) (by kernel_rfl) (Kn.dn Fm (by kernel_rfl))
  ·obtain ⟨Y, h⟩ := gS h
   refine AW.SP Fm [.s, .s, .s] [(0, ow 0), (1, .v (.c (.clo 207 [50, 51]))), (5, vi p.2.2), (6, vi (p.2.2 + 1))] [(0, AO p.1), (50, bx [.ap 1010]), (51, bx [ci e]), (1010, AP p.2.1)] (cT (cT Y)) ?_
   refine AW.block (AW.loopF (E' := fun z => [(0, ow 0), (1, .v (.c (.clo 207 [50, 51]))), (5, vi z.1), (6, vi z.2.1)]) (S' := fun z => [(0, AO z.2.2.1), (50, bx [.ap 1010]), (51, bx [ci e]), (1010, AP z.2.2.2)]) (fun P z e0 T h => ?_) h)
   obtain ⟨q, b, a, A⟩ := z
   refine AW.seq (AW.SG0 Fm 4 [(0, ow 0), (1, .v (.c (.clo 207 [50, 51]))), (5, vi q), (6, vi b), (19, vb (decide (b < (lI a))))] [(0, AO a), (50, bx [.ap 1010]), (51, bx [ci e]), (1010, AP A)] ?_)
   refine AW.cN h (fun W h => ?_) (fun W h => ?_)
   ·refine AW.skip (AW.join (r := r) (fun z : Int × (List Rect) × (List Rect) => slices_DeleteFunc_Rect_J_k1 F b P z.1 z.2.1 z.2.2) (fun z => [(0, ow 0), (1, .v (.c (.clo 207 [50, 51]))), (5, vi z.1), (6, vi b)]) (fun z => [(0, AO z.2.1), (50, bx [.ap 1028]), (51, bx [ci e]), (1028, AP z.2.2)]) (fun z h => ?_) (fun i0 E => ?_))
    ·obtain ⟨L, M, O⟩ := z
     obtain ⟨a0, h⟩ := gS h
     refine AW.pN Fm [.s, .s, .s] [(0, ow 0), (1, .v (.c (.clo 207 [50, 51]))), (5, vi L), (6, vi (b + 1))] [(0, AO M), (50, bx [.ap 1028]), (51, bx [ci e]), (1028, AP O)] (cT (cT a0)) ?_
     exact Kn.RE Fm [(1010, 1028)] (T (L, (b + 1), M, O) h)
    ·refine AW.block ?_
     obtain ⟨H, h⟩ := gS h
     refine AW.SP Fm [.s, .s, .s, .s, .s, .s] [(0, ow 0), (1, .v (.c (.clo 207 [50, 51]))), (5, vi q), (6, vi b), (7, pt 7)] [(0, AO a), (7, bx [ci ((gl a b.toNat).left_), ci ((gl a b.toNat).low_), ci ((gl a b.toNat).right_), ci ((gl a b.toNat).high_)]), (50, bx [.ap 1010]), (51, bx [ci e]), (1010, AP A)] (cA H (cT (toNat_lt H))) ?_
     refine AW.seq ?_
     obtain ⟨t, d0, h⟩ := bS h
     refine AW.G Fm [.s, .s, .k (cE [(0, 50), (60, 1010), (70, 1028), (1, 51)] [] (vb t.2) [(0, bx [.ap 60]), (1, bx [ci e]), (60, AP A)] [(0, bx [.ap 70]), (1, bx [ci e]), (70, AP t.1)]), .s] (fun K => K 2 ∧ True) [(0, ow 0), (1, .v (.c (.clo 207 [50, 51]))), (5, vi q), (6, vi b), (7, pt 7), (29, vb (!t.2))] [(0, AO a), (7, bx [ci ((gl a b.toNat).left_), ci ((gl a b.toNat).low_), ci ((gl a b.toNat).right_), ci ((gl a b.toNat).high_)]), (50, bx [.ap 1028]), (51, bx [ci e]), (1028, AP t.1)] ⟨KAt.clC (args := [.v (.g [ci ((gl a b.toNat).left_), ci ((gl a b.toNat).low_), ci ((gl a b.toNat).right_), ci ((gl a b.toNat).high_)])]) (caps := [0, 1]) (shape_Joined_1_spec d0) Tryz.call207 [(0, 50), (60, 1010), (70, 1028), (1, 51)] rfl (by kernel_rfl), ⟨⟩⟩ ?_
     refine AW.cN h (fun X h => ?_) (fun X h => ?_)
     ·obtain ⟨B, h⟩ := gS h
      refine AW.SV Fm [.s, .s, .s, .s, .s] [(0, ow 0), (1, .v (.c (.clo 207 [50, 51]))), (5, vi q), (6, vi b)] [(0, AO (α := Rect) (List.set a q.toNat (gl a b.toNat))), (50, bx [.ap 1028]), (51, bx [ci e]), (1028, AP t.1)] (cA B (cT (toNat_lt B))) [(0, .arr 4 (List.length (α := Rect) a) (fun j => if j = q.toNat then splice ((LF (α := Rect) a) q.toNat) 0 [.int .i64 (gl a b.toNat).left_, .int .i64 (gl a b.toNat).low_, .int .i64 (gl a b.toNat).right_, .int .i64 (gl a b.toNat).high_] else (LF (α := Rect) a) j))] ⟨OLe.is (Is.set (Is.refl a) (toNat_lt B) (gl a b.toNat) (by kernel_rfl)), ⟨⟩⟩ ?_
      obtain ⟨Z, h⟩ := gS h
      refine AW.pN Fm [.s, .s, .s] [(0, ow 0), (1, .v (.c (.clo 207 [50, 51]))), (5, vi (q + 1)), (6, vi b)] [(0, AO (α := Rect) (List.set a q.toNat (gl a b.toNat))), (50, bx [.ap 1028]), (51, bx [ci e]), (1028, AP t.1)] (cT (cT Z)) ?_
      exact Kn.R Fm (E ((q + 1), (List.set a q.toNat (gl a b.toNat)), t.1) h)
     ·exact AW.skip (Kn.R Fm (E (q, a, t.1) h))
   ·exact AW.exit (Kn.R Fm (U (q, a, A) h))
theorem shape_Joined_spec {F : Nat} {a : (List Rect)} {r : (List Rect) × (List Rect)} (h : shape_Joined F a = some r) :
  FSpec Tryz.prog 137 [AL a] [] (.t [.c (.d (DL (α := Rect) r.1)), .c (.d (DL (α := Rect) r.2))]) [] := by
 refine FI Tryz.func137 prog_mixed prog_lay fun C Fm => ?_
 unfold shape_Joined at h
 refine AW.SG0 Fm 2 [(0, AL a)] [] ?_
 refine AW.seq ?_
 obtain ⟨q, u, h⟩ := gS2 h
 obtain ⟨o, I, h⟩ := bS h
 refine AW.G Fm [.s, .w (.v (.c (.fl (List.length (α := Rect) (a.take ((1 : Int)).toNat)) (LF (α := Rect) (a.take ((1 : Int)).toNat))))), .s, .w (AL (α := Rect) (a.drop (1 : Int).toNat)), .k (cE [(100, 11)] [] (ow 100) [] [(100, AO o)]), .s, .s, .s] (fun K => (((1 : Int) ≤ (lI a) ∧ ∀ j, j < List.length a → (LF a j).length = 4)) ∧ (ALe (.v (.c (.fl ((1 : Int)).toNat (LF a)))) (.v (.c (.fl (List.length (α := Rect) (a.take ((1 : Int)).toNat)) (LF (α := Rect) (a.take ((1 : Int)).toNat)))))) ∧ (((sl (List.length a) (LF a) (some (1 : Int)) none).2 ∧ ∀ j, j < List.length a → (LF a j).length = 4)) ∧ (ALe (.v (.c (.d (.lst (sl (List.length a) (LF a) (some (1 : Int)) none).1.1 (sl (List.length a) (LF a) (some (1 : Int)) none).1.2)))) (AL (α := Rect) (a.drop (1 : Int).toNat))) ∧ K 4 ∧ True) [(4, pt 4), (5, ow 11)] [(4, bx [.fl (List.length (α := Rect) (a.take ((1 : Int)).toNat)) (LF (α := Rect) (a.take ((1 : Int)).toNat))]), (11, AO o)] ⟨⟨q, (Is.refl a).len⟩, ALe.c (CLe.fls (Is.take (Is.refl a) q)), ⟨u, (Is.refl a).len⟩, ALe.lst (sl_is a (some (1 : Int)) none u), KAt.CC (slices_Clone_Rect_O_spec I) Tryz.call181 [(100, 11)], ⟨⟩⟩ ?_
 refine AW.join (r := r) (fun z : (List Rect) × (List Rect) => shape_Joined_k2 F z.1 z.2) (fun z => [(4, pt 4), (5, ow 11)]) (fun z => [(4, bx [.ap 900]), (11, AO z.1), (900, AP z.2)]) (fun z h => ?_) (fun O B => ?_)
 ·obtain ⟨m, i⟩ := z
  refine AW.SG0 Fm 4 [(2, .v (.c (.ap 900))), (3, ow 11)] [(11, AO m), (900, AP i)] ?_
  refine AW.ret (Kn.r Fm [(2, .v (.c (.ap 900))), (3, ow 11)] [(900, AP i), (11, AO m)] (by kernel_rfl) ?_)
  refine Kn.ap_split (by kernel_rfl) ?_ ?_
  ·refine Kn.r Fm [(2, ow 900), (3, ow 11)] [(11, AO m), (900, AO i)] (by kernel_rfl) ?_
   obtain rfl := Option.some.inj h
   refine Kn.r Fm [(2, ow 900), (3, ow 11)] [(900, AO i), (11, AO m)] (by kernel_rfl) ?_
   refine Kn.frz [(2, AL i), (3, ow 11)] [(11, AO m)] (by kernel_rfl) (by kernel_rfl) (by kernel_rfl) ?_
   refine Kn.r Fm [(2, AL i), (3, ow 11)] [(11, AO m)] (by kernel_rfl) ?_
   refine Kn.frz [(2, AL i), (3, AL m)] [] (by kernel_rfl) (by kernel_rfl) (by kernel_rfl) ?_
   exact Kn.D Fm
  ·refine Kn.r Fm [(2, .v (.c (.fl (List.length (α := Rect) i) (LF (α := Rect) i)))), (3, ow 11)] [(11, AO m)] (by kernel_rfl) ?_
   obtain rfl := Option.some.inj h
   refine Kn.r Fm [(2, .v (.c (.fl (List.length (α := Rect) i) (LF (α := Rect) i)))), (3, ow 11)] [(11, AO m)] (by kernel_rfl) ?_
   refine Kn.frz [(2, .v (.c (.fl (List.length (α := Rect) i) (LF (α := Rect) i)))), (3, AL m)] [] (by kernel_rfl) (by kernel_rfl) (by kernel_rfl) ?_
   refine Kn.r Fm [(2, .v (.c (.fl (List.length (α := Rect) i) (LF (α := Rect) i)))), (3, AL m)] [] (by kernel_rfl) ?_
   refine Kn.wk [(2, AL i), (3, AL m)] [] ⟨rfl, ALe.c (CLe.fl (.refl _)), ⟨rfl, ALe.c (CLe.refl _), ⟨⟩⟩⟩ True.intro ?_
   exact Kn.D Fm
 ·refine AW.SG0 Fm 2 [(4, pt 4), (5, ow 11), (6, pt 6)] [(4, bx [.fl (List.length (α := Rect) (a.take ((1 : Int)).toNat)) (LF (α := Rect) (a.take ((1 : Int)).toNat))]), (6, bx [ci (0 : Int)]), (11, AO o)] ?_
  refine AW.block (Kn.r Fm [(4, pt 4), (5, ow 11), (6, pt 6)] [(4, bx [.fl (List.length (α := Rect) (a.take ((1 : Int)).toNat)) (LF (α := Rect) (a.take ((1 : Int)).toNat))]), (6, bx [ci (0 : Int)]), (11, AO o)] (by kernel_rfl) ?_)
  refine Kn.ap0 Fm (k := 900) (es := 4) (j := 0) (by kernel_rfl) (by kernel_rfl) (by simp) rfl ?_
  refine Kn.r Fm [(4, pt 4), (5, ow 11), (6, pt 6)] [(4, bx [.ap 900]), (6, bx [ci (0 : Int)]), (11, AO o), (900, AP (α := Rect) (a.take ((1 : Int)).toNat))] (by kernel_rfl) ?_
  refine Kn.r Fm [(4, pt 4), (5, ow 11), (6, pt 6)] [(4, bx [.ap 900]), (6, bx [ci (0 : Int)]), (11, AO o), (900, AP (a.take ((1 : Int)).toNat))] (by kernel_rfl) ?_
  refine AW.loopF (E' := fun z => [(4, pt 4), (5, ow 11), (6, pt 6)]) (S' := fun z => [(4, bx [.ap 900]), (6, bx [ci z.2.1]), (11, AO z.1), (900, AP z.2.2)]) (fun y z M A h => ?_) h
  obtain ⟨l, b, e⟩ := z
  refine AW.seq (AW.join (r := r) (fun z : Unit => shape_Joined_k1 F l b e y) (fun z => [(4, pt 4), (5, ow 11), (6, pt 6), (15, vb (decide (b < (lI e))))]) (fun z => [(4, bx [.ap 900]), (6, bx [ci b]), (11, AO l), (900, AP e)]) (fun z h => ?_) (fun N p => ?_))
  ·refine AW.cN h (fun E h => ?_) (fun E h => ?_)
   ·refine AW.skip (AW.seq (AW.block ?_))
    obtain ⟨n, L, h⟩ := bS h
    refine AW.G Fm [.s, .s, .k (cE [(0, 11), (50, 4), (60, 900), (70, 1020), (51, 6), (100, 20)] [] (ow 100) [(0, AO l), (50, bx [.ap 60]), (51, bx [ci b]), (60, AP e)] [(50, bx [.ap 70]), (51, bx [ci b]), (70, AP n.1), (100, AO n.2)]), .s] (fun K => K 2 ∧ True) [(4, pt 4), (5, ow 20), (6, pt 6)] [(4, bx [.ap 1020]), (6, bx [ci b]), (20, AO n.2), (1020, AP n.1)] ⟨KAt.CC (slices_DeleteFunc_Rect_J_spec L) Tryz.call206 [(0, 11), (50, 4), (60, 900), (70, 1020), (51, 6), (100, 20)], ⟨⟩⟩ ?_
    refine AW.seq (AW.SG0 Fm 1 [(4, pt 4), (5, ow 20), (21, vi b)] [(4, bx [.ap 1020]), (20, AO n.2), (1020, AP n.1)] ?_)
    refine AW.G0 Fm 2 [(4, pt 4), (5, ow 20), (6, pt 6)] [(4, bx [.ap 1020]), (6, bx [ci b]), (20, AO n.2), (1020, AP n.1)] ?_
    obtain ⟨H, h⟩ := gS h
    refine AW.pN Fm [.s, .s, .s] [(4, pt 4), (5, ow 20), (6, pt 6)] [(4, bx [.ap 1020]), (6, bx [ci (b + 1)]), (20, AO n.2), (1020, AP n.1)] (cT (cT H)) ?_
    exact Kn.RE Fm [(11, 20), (900, 1020)] (A (n.2, (b + 1), n.1) h)
   ·exact AW.exit (Kn.R Fm (B (l, e) h))
  ·refine Kn.r Fm [(4, pt 4), (5, ow 11), (6, pt 6)] [(900, AP e), (4, bx [.ap 900]), (6, bx [ci b]), (11, AO l)] (by kernel_rfl) ?_
   refine Kn.ap_split (by kernel_rfl) ?_ ?_
   ·refine Kn.r Fm [(4, pt 4), (5, ow 11), (6, pt 6)] [(4, bx [.own 900]), (6, bx [ci b]), (11, AO l), (900, AO e)] (by kernel_rfl) ?_
    refine AW.G0 Fm 4 [(4, pt 4), (5, ow 11), (6, pt 6), (15, vb (decide (b < (lI e))))] [(4, bx [.own 900]), (6, bx [ci b]), (11, AO l), (900, AO e)] ?_
    refine Kn.r Fm [(4, pt 4), (5, ow 11), (6, pt 6), (15, vb (decide (b < (lI e))))] [(4, bx [.own 900]), (6, bx [ci b]), (11, AO l), (900, AO e)] (by kernel_rfl) ?_
    refine Kn.wk [(4, pt 4), (5, ow 11), (6, pt 6), (15, vb (decide (b < (lI e))))] [(4, bx [.ap 900]), (6, bx [ci b]), (11, AO l), (900, AP e)] ⟨rfl, ALe.refl _, ⟨rfl, ALe.refl _, ⟨rfl, ALe.refl _, ⟨rfl, ALe.refl _, ⟨⟩⟩⟩⟩⟩ ⟨rfl, OLe.box ⟨CLe.ap 900, ⟨⟩⟩, ⟨rfl, OLe.refl _, ⟨rfl, OLe.refl _, ⟨rfl, OLe.ap _ _ _, ⟨⟩⟩⟩⟩⟩ ?_
    exact Kn.R Fm (p () h)
   ·refine Kn.r Fm [(4, pt 4), (5, ow 11), (6, pt 6)] [(4, bx [.fl (List.length (α := Rect) e) (LF (α := Rect) e)]), (6, bx [ci b]), (11, AO l)] (by kernel_rfl) ?_
    refine AW.G0 Fm 4 [(4, pt 4), (5, ow 11), (6, pt 6), (15, vb (decide (b < (lI e))))] [(4, bx [.fl (List.length (α := Rect) e) (LF (α := Rect) e)]), (6, bx [ci b]), (11, AO l)] ?_
    refine Kn.r Fm [(4, pt 4), (5, ow 11), (6, pt 6), (15, vb (decide (b < (lI e))))] [(4, bx [.fl (List.length (α := Rect) e) (LF (α := Rect) e)]), (6, bx [ci b]), (11, AO l)] (by kernel_rfl) ?_
    refine Kn.ap0 Fm (k := 900) (es := 4) (j := 0) (by kernel_rfl) (by kernel_rfl) (by simp) rfl ?_
    refine Kn.r Fm [(4, pt 4), (5, ow 11), (6, pt 6), (15, vb (decide (b < (lI e))))] [(4, bx [.ap 900]), (6, bx [ci b]), (11, AO l), (900, AP e)] (by kernel_rfl) ?_
    exact Kn.R Fm (p () h)
theorem region_Size_spec {F : Nat} {a : (List Rect)} {r : Int} (h : region_Size F a = some r) :
  FSpec Tryz.prog 138 [AL a] [] (vi r) [] := by
 refine FI Tryz.func138 prog_mixed prog_lay fun C Fm => ?_
 unfold region_Size at h
 refine AW.SG0 Fm 1 [(0, AL a)] [] ?_
 refine AW.SG0 Fm 1 [(0, AL a), (3, vi 0)] [] ?_
 refine AW.join (r := r) (fun z : Int => region_Size_k1 F z) (fun z => [(3, vi z)]) (fun z => []) (fun p h => ?_) (fun t e => ?_)
 ·refine AW.SG0 Fm 2 [(2, vi p)] [] ?_
  refine AW.ret ?_
  obtain rfl := Option.some.inj h
  exact Kn.D Fm
 ·refine AW.SG0 Fm 3 [(3, vi 0), (6, AL a), (7, vi (lI a)), (8, vi 0)] [] ?_
  refine AW.block (AW.loopF (E' := fun z => [(3, vi z.1), (6, AL a), (7, vi (lI a)), (8, vi z.2)]) (S' := fun z => []) (fun u z q d h => ?_) h)
  obtain ⟨c, b⟩ := z
  refine AW.SG0 Fm 1 [(3, vi c), (6, AL a), (7, vi (lI a)), (8, vi b), (9, vb (decide (b < (lI a))))] [] ?_
  refine AW.seq (AW.cN h (fun i h => ?_) (fun i h => ?_))
  ·refine AW.skip (AW.seq (AW.block ?_))
   obtain ⟨j, h⟩ := gS h
   refine AW.SP Fm [.s, .s, .s, .s] [(3, vi c), (5, pt 5), (6, AL a), (7, vi (lI a)), (8, vi b)] [(5, bx [ci ((gl a b.toNat).left_), ci ((gl a b.toNat).low_), ci ((gl a b.toNat).right_), ci ((gl a b.toNat).high_)])] (cT j) ?_
   obtain ⟨k, l, m, n, h⟩ := gS4 h
   refine AW.pN Fm [.s, .s, .s, .s, .s, .s, .s, .s, .s, .s, .s, .s, .s, .s] [(3, vi (c + ((((gl a b.toNat).right_) - ((gl a b.toNat).left_)) * (((gl a b.toNat).high_) - ((gl a b.toNat).low_))))), (6, AL a), (7, vi (lI a)), (8, vi b)] [] (cA (cT k) (cA (cT l) (cA (cT m) (cT (cT n))))) ?_
   obtain ⟨o, h⟩ := gS h
   refine AW.pN Fm [.s, .s] [(3, vi (c + ((((gl a b.toNat).right_) - ((gl a b.toNat).left_)) * (((gl a b.toNat).high_) - ((gl a b.toNat).low_))))), (6, AL a), (7, vi (lI a)), (8, vi (b + 1))] [] (cT (cT o)) ?_
   exact Kn.R Fm (d ((c + ((((gl a b.toNat).right_) - ((gl a b.toNat).left_)) * (((gl a b.toNat).high_) - ((gl a b.toNat).low_)))), (b + 1)) h)
  ·exact AW.exit (Kn.R Fm (e c h))
theorem zone_Soft_spec {F : Nat} {n : (List Feature)} {o : Int} {a : Int} {j : Region} {r : Region × Int} (h : zone_Soft F n o a j = some r) :
  FSpec Tryz.prog 58 [AL n, vi o, vi a, .v (.g [.d (DL j.rects_)])] [] (.t [.g [.d (DL (α := Rect) r.1.rects_)], .c (ci r.2)]) [] := by
 refine FI Tryz.func58 prog_mixed prog_lay fun C Fm => ?_
 unfold zone_Soft at h
 refine AW.SG0 Fm 3 [(0, AL n), (1, vi o), (2, vi a), (7, pt 7), (8, pt 8)] [(7, bx [.d (DL j.rects_)]), (8, bx [.fl 0 fun _ => []])] ?_
 refine AW.seq (AW.seq ?_)
 obtain ⟨q, U, h⟩ := bS h
 refine AW.G Fm [.s, .s, .s, .s, .k (cE [] [] (vi q) [] []), .s] (fun K => K 4 ∧ True) [(0, AL n), (1, vi o), (2, vi a), (7, pt 7), (8, pt 8), (10, vi q)] [(7, bx [.d (DL j.rects_)]), (8, bx [.fl 0 fun _ => []])] ⟨KAt.CC (zone_check_spec U) Tryz.call132 [], ⟨⟩⟩ ?_
 refine AW.SG0 Fm 2 [(0, AL n), (1, vi o), (2, vi a), (7, pt 7), (8, pt 8), (10, vi q), (22, vb (q != (0 : Int)))] [(7, bx [.d (DL j.rects_)]), (8, bx [.fl 0 fun _ => []])] ?_
 refine AW.cN h (fun L h => ?_) (fun L h => ?_)
 ·refine AW.SP Fm [.w (.v (.g [.d (DL (α := Rect) [])])), .s, .s, .s] [(8, pt 8), (9, vi q)] [(8, bx [.d (DL (α := Rect) [])])] (cT (ALe.g ⟨CLe.fl .nil, ⟨⟩⟩ : ALe (.v (.g [.fl 0 fun _ => []])) (.v (.g [.d (DL (α := Rect) [])])))) ?_
  refine AW.ret ?_
  obtain rfl := Option.some.inj h
  exact Kn.D Fm
 ·refine AW.skip (AW.seq ?_)
  obtain ⟨i, V, h⟩ := bS h
  refine AW.G Fm [.s, .s, .k (cE [] [] (.t [.g [.d (DL i.1.rects_)], .c (ci i.2)]) [] []), .s, .s, .s, .s, .s, .s] (fun K => K 2 ∧ True) [(2, vi a), (7, pt 7), (8, pt 8), (11, pt 11), (12, vi i.2)] [(7, bx [.d (DL j.rects_)]), (8, bx [.fl 0 fun _ => []]), (11, bx [.d (DL i.1.rects_)])] ⟨KAt.CC (zone_of_spec V) Tryz.call133 [], ⟨⟩⟩ ?_
  refine AW.seq (AW.SG0 Fm 2 [(2, vi a), (7, pt 7), (8, pt 8), (11, pt 11), (12, vi i.2), (32, vb (i.2 != (0 : Int)))] [(7, bx [.d (DL j.rects_)]), (8, bx [.fl 0 fun _ => []]), (11, bx [.d (DL i.1.rects_)])] ?_)
  refine AW.cN h (fun M h => ?_) (fun M h => ?_)
  ·refine AW.SP Fm [.w (.v (.g [.d (DL (α := Rect) [])])), .s, .s, .s] [(8, pt 8), (9, vi i.2)] [(8, bx [.d (DL (α := Rect) [])])] (cT (ALe.g ⟨CLe.fl .nil, ⟨⟩⟩ : ALe (.v (.g [.fl 0 fun _ => []])) (.v (.g [.d (DL (α := Rect) [])])))) ?_
   refine AW.ret ?_
   obtain rfl := Option.some.inj h
   exact Kn.D Fm
  ·refine AW.skip (AW.seq ?_)
   obtain ⟨l, W, h⟩ := bS h
   refine AW.G Fm [.s, .s, .s, .s, .k (cE [] [] (AL l) [] []), .s] (fun K => K 4 ∧ True) [(2, vi a), (8, pt 8), (13, AL l)] [(8, bx [.fl 0 fun _ => []])] ⟨KAt.callX (region_Choose_spec W) Tryz.call93 [] [] [.tmp 36, .tmp 38, .func 136] rfl (by kernel_rfl) (by kernel_rfl) (by kernel_rfl) ⟨.p, .p, ArgT.cloX Tryz.call136 [] (fun args r hq => by obtain ⟨y0, y1, y, hq, rfl, rfl⟩ := hq; exact Eq.mp (by kernel_rfl) (zone_Soft_1_spec hq)) (fun args r hq => by obtain ⟨y0, y1, y, hq, rfl, rfl⟩ := hq; rfl) (by kernel_rfl) [] (by kernel_rfl) (by kernel_rfl) (True.intro) (by kernel_rfl), ⟨⟩⟩, ⟨⟩⟩ ?_
   refine AW.seq (AW.SG0 Fm 3 [(2, vi a), (8, pt 8), (13, AL l), (42, vb (decide ((120 : Int) < (lI l))))] [(8, bx [.fl 0 fun _ => []])] ?_)
   refine AW.cN h (fun N h => ?_) (fun N h => ?_)
   ·refine AW.SP Fm [.w (.v (.g [.d (DL (α := Rect) [])])), .s, .s] [(8, pt 8), (9, vi 1)] [(8, bx [.d (DL (α := Rect) [])])] (cT (ALe.g ⟨CLe.fl .nil, ⟨⟩⟩ : ALe (.v (.g [.fl 0 fun _ => []])) (.v (.g [.d (DL (α := Rect) [])])))) ?_
    refine AW.ret ?_
    obtain rfl := Option.some.inj h
    exact Kn.D Fm
   ·refine AW.skip (AW.SW Fm [.m] (fun K => True) [(2, vi a), (8, pt 8), (13, AL l), (14, ow 14)] [(8, bx [.fl 0 fun _ => []]), (14, AO (α := Rect) ([] : List Rect))] True.intro [(14, .arr 4 (0) (fun _ => []))] ⟨OLe.is ((Is.nil (α := Rect))), ⟨⟩⟩ ?_)
    refine AW.join (r := r) (fun z : (List Rect) => zone_Soft_k1 F z) (fun z => [(8, pt 8), (14, ow 14)]) (fun z => [(8, bx [.fl 0 fun _ => []]), (14, AO z)]) (fun E h => ?_) (fun b0 I => ?_)
    ·refine AW.seq (Kn.r Fm [(8, pt 8), (14, ow 14)] [(14, AO E), (8, bx [.fl 0 fun _ => []])] (by kernel_rfl) ?_)
     refine Kn.frz [(8, pt 8), (14, AL E)] [(8, bx [.fl 0 fun _ => []])] (by kernel_rfl) (by kernel_rfl) (by kernel_rfl) ?_
     obtain ⟨u, Z, h⟩ := bS h
     refine AW.G Fm [.s, .k (cE [] [] (.t [.g [.d (DL u.1.rects_)], .c (ci u.2)]) [] []), .s, .s, .s, .s] (fun K => K 1 ∧ True) [(8, pt 8), (9, vi u.2)] [(8, bx [.d (DL u.1.rects_)])] ⟨KAt.CC (region_Joined_spec Z) Tryz.call111 [], ⟨⟩⟩ ?_
     refine AW.ret ?_
     obtain rfl := Option.some.inj h
     exact Kn.D Fm
    ·refine AW.block (Kn.r Fm [(2, vi a), (8, pt 8), (13, AL l), (14, ow 14)] [(8, bx [.fl 0 fun _ => []]), (14, AO ([] : List Rect))] (by kernel_rfl) ?_)
     refine AW.loopF (E' := fun z => [(2, vi a), (8, pt 8), (13, AL z.1), (14, ow 14)]) (S' := fun z => [(8, bx [.fl 0 fun _ => []]), (14, AO z.2)]) (fun c0 z a0 B h => ?_) h
     obtain ⟨A, e⟩ := z
     refine AW.seq (AW.SG0 Fm 3 [(2, vi a), (8, pt 8), (13, AL A), (14, ow 14), (46, vb (decide ((0 : Int) < (lI A))))] [(8, bx [.fl 0 fun _ => []]), (14, AO e)] ?_)
     refine AW.cN h (fun O h => ?_) (fun O h => ?_)
     ·refine AW.skip (AW.block (AW.SG Fm [.m] (fun K => True) [(2, vi a), (8, pt 8), (13, AL A), (14, ow 14)] [(8, bx [.fl 0 fun _ => []]), (14, AO e)] True.intro ?_))
      refine AW.seq ?_
      obtain ⟨b, X, h⟩ := bS h
      refine AW.G Fm [.s, .k (cE [] [] (.t [.c (.d (DL b.1)), .c (.d (DL b.2))]) [] []), .s, .s, .s, .s, .s] (fun K => K 1 ∧ True) [(2, vi a), (8, pt 8), (13, AL b.2), (14, ow 14), (15, AL b.1)] [(8, bx [.fl 0 fun _ => []]), (14, AO e)] ⟨KAt.CC (shape_Joined_spec X) Tryz.call137 [], ⟨⟩⟩ ?_
      refine AW.seq ?_
      obtain ⟨H, Y, h⟩ := bS h
      refine AW.G Fm [.s, .k (cE [] [] (vi H) [] []), .s, .s] (fun K => K 1 ∧ True) [(2, vi a), (8, pt 8), (13, AL b.2), (14, ow 14), (15, AL b.1), (55, vb (decide (a < H)))] [(8, bx [.fl 0 fun _ => []]), (14, AO e)] ⟨KAt.CC (region_Size_spec Y) Tryz.call138 [], ⟨⟩⟩ ?_
      refine AW.cN h (fun P h => ?_) (fun P h => ?_)
      ·obtain ⟨T, h⟩ := gS h
       refine AW.WP Fm [.s, .s, .s, .s] [(2, vi a), (8, pt 8), (13, AL b.2), (14, ow 58)] [(8, bx [.fl 0 fun _ => []]), (58, AO (α := Rect) (e ++ b.1))] (cT (cA T (cT (Is.refl b.1 : Is (List.length (α := Rect) b.1) (LF (α := Rect) b.1) b.1).len))) [(58, .arr 4 ((List.length (α := Rect) e) + (List.length (α := Rect) b.1)) (appF (List.length (α := Rect) e) (LF (α := Rect) e) (LF (α := Rect) b.1)))] ⟨OLe.is (Is.app (Is.refl e) (Is.refl b.1)), ⟨⟩⟩ ?_
       exact Kn.RE Fm [(14, 58)] (B (b.2, (e ++ b.1)) h)
      ·exact AW.skip (Kn.R Fm (B (b.2, e) h))
     ·exact AW.exit (Kn.R Fm (I e h))
theorem slices_Concat_Rect_spec {F : Nat} {a : (List (List Rect))} {r : (List Rect)} (h : slices_Concat_Rect F a = some r) :
  FSpec Tryz.prog 141 [AL a] [] (ow 100) [(100, AO (α := Rect) r)] := by
 refine FI Tryz.func141 prog_mixed prog_lay fun C Fm => ?_
 unfold slices_Concat_Rect at h
 refine AW.SG Fm [.m] (fun K => True) [(0, AL a)] [] True.intro ?_
 refine AW.SG0 Fm 1 [(0, AL a), (3, vi 0)] [] ?_
 refine AW.join (r := r) (fun z : Int => slices_Concat_Rect_k1 F a z) (fun z => [(0, AL a), (3, vi z)]) (fun z => []) (fun T h => ?_) (fun L n => ?_)
 ·refine AW.seq ?_
  obtain ⟨i, H, h⟩ := bS h
  refine AW.G Fm [.s, .k (cE [(100, 24)] [] (ow 100) [] [(100, AO i)]), .s] (fun K => K 1 ∧ True) [(0, AL a), (6, ow 24)] [(24, AO i)] ⟨KAt.CC (growN_Rect_spec H) Tryz.call210 [(100, 24)], ⟨⟩⟩ ?_
  refine AW.join (r := r) (fun z : (List Rect) => slices_Concat_Rect_k3 F z) (fun z => [(6, ow 24)]) (fun z => [(24, AO z)]) (fun j h => ?_) (fun N p => ?_)
  ·refine AW.SG0 Fm 2 [(2, ow 24)] [(24, AO j)] ?_
   refine AW.ret ?_
   obtain rfl := Option.some.inj h
   exact Kn.re Fm [(100, 24)] [(2, ow 100)] [(100, AO j)] (by kernel_rfl) (by kernel_rfl) (by kernel_rfl) (by kernel_rfl) (Kn.dn Fm (by kernel_rfl))
  ·refine AW.SG0 Fm 3 [(6, ow 24), (25, AL a), (26, vi (lI a)), (27, vi 0)] [(24, AO i)] ?_
   refine AW.block (AW.loopF (E' := fun z => [(6, ow 24), (25, AL a), (26, vi (lI a)), (27, vi z.1)]) (S' := fun z => [(24, AO z.2)]) (fun P z M o h => ?_) h)
   obtain ⟨b, d⟩ := z
   refine AW.SG0 Fm 1 [(6, ow 24), (25, AL a), (26, vi (lI a)), (27, vi b), (28, vb (decide (b < (lI a))))] [(24, AO d)] ?_
   refine AW.seq (AW.cN h (fun u h => ?_) (fun u h => ?_))
   ·refine AW.skip (AW.seq (AW.block ?_))
    obtain ⟨B, h⟩ := gS h
    refine AW.SP Fm [.s, .s, .s] [(6, ow 24), (8, AL (α := Rect) (gl a b.toNat)), (25, AL a), (26, vi (lI a)), (27, vi b)] [(24, AO d)] (cT B) ?_
    obtain ⟨D, h⟩ := gS h
    refine AW.WP Fm [.s, .s, .s, .s] [(6, ow 33), (25, AL a), (26, vi (lI a)), (27, vi b)] [(33, AO (α := Rect) (d ++ (gl a b.toNat)))] (cT (cA D (cT (Is.refl (gl a b.toNat) : Is (List.length (α := Rect) (gl a b.toNat)) (LF (α := Rect) (gl a b.toNat)) (gl a b.toNat)).len))) [(33, .arr 4 ((List.length (α := Rect) d) + (List.length (α := Rect) (gl a b.toNat))) (appF (List.length (α := Rect) d) (LF (α := Rect) d) (LF (α := Rect) (gl a b.toNat))))] ⟨OLe.is (Is.app (Is.refl d) (Is.refl (gl a b.toNat))), ⟨⟩⟩ ?_
    obtain ⟨E, h⟩ := gS h
    refine AW.pN Fm [.s, .s] [(6, ow 33), (25, AL a), (26, vi (lI a)), (27, vi (b + 1))] [(33, AO (α := Rect) (d ++ (gl a b.toNat)))] (cT (cT E)) ?_
    exact Kn.RE Fm [(24, 33)] (o ((b + 1), (d ++ (gl a b.toNat))) h)
   ·exact AW.exit (Kn.R Fm (p d h))
 ·refine AW.SG0 Fm 3 [(0, AL a), (3, vi 0), (9, AL a), (10, vi (lI a)), (11, vi 0)] [] ?_
  refine AW.block (AW.loopF (E' := fun z => [(0, AL a), (3, vi z.1), (9, AL a), (10, vi (lI a)), (11, vi z.2)]) (S' := fun z => []) (fun O z I l h => ?_) h)
  obtain ⟨e, c⟩ := z
  refine AW.SG0 Fm 1 [(0, AL a), (3, vi e), (9, AL a), (10, vi (lI a)), (11, vi c), (12, vb (decide (c < (lI a))))] [] ?_
  refine AW.seq (AW.cN h (fun q h => ?_) (fun q h => ?_))
  ·refine AW.skip (AW.seq (AW.block ?_))
   obtain ⟨w, h⟩ := gS h
   refine AW.SP Fm [.s, .s, .s] [(0, AL a), (3, vi e), (5, AL (α := Rect) (gl a c.toNat)), (9, AL a), (10, vi (lI a)), (11, vi c)] [] (cT w) ?_
   obtain ⟨y, h⟩ := gS h
   refine AW.SP Fm [.s, .s, .s, .s, .s] [(0, AL a), (3, vi (e + (lI (gl a c.toNat)))), (9, AL a), (10, vi (lI a)), (11, vi c)] [] (cT (cT y)) ?_
   refine AW.SG0 Fm 2 [(0, AL a), (3, vi (e + (lI (gl a c.toNat)))), (9, AL a), (10, vi (lI a)), (11, vi c), (20, vb (decide ((e + (lI (gl a c.toNat))) < (0 : Int))))] [] ?_
   refine AW.cN h (fun t h => ?_) (fun t h => ?_)
   ·cases h
   ·refine AW.skip ?_
    obtain ⟨A, h⟩ := gS h
    refine AW.pN Fm [.s, .s] [(0, AL a), (3, vi (e + (lI (gl a c.toNat)))), (9, AL a), (10, vi (lI a)), (11, vi (c + 1))] [] (cT (cT A)) ?_
    exact Kn.R Fm (l ((e + (lI (gl a c.toNat))), (c + 1)) h)
  ·exact AW.exit (Kn.R Fm (n e h))
theorem zone_Eligible_1_spec {F : Nat} {c : Bool} {a : Bool} {r : Bool} (h : zone_Eligible_1 F c a = some r) :
  FSpec Tryz.prog 142 [vb c, vb a] [] (vb r) [] := by
 refine FI Tryz.func142 prog_mixed prog_lay fun C Fm => ?_
 unfold zone_Eligible_1 at h
 refine AW.SG0 Fm 1 [(0, vb c), (1, vb a)] [] ?_
 refine AW.join (r := r) (fun z : Bool => zone_Eligible_1_k0 F z) (fun z => [(4, vb z)]) (fun z => []) (fun i h => ?_) (fun e d => ?_)
 ·refine AW.ret ?_
  obtain rfl := Option.some.inj h
  exact Kn.D Fm
 ·rcases br_or h with ⟨b, h⟩ | ⟨b, h⟩
  ·refine AW.pN Fm [.s, .w (vb true), .s, .s, .s, .s] [(4, vb (!a))] [] (cT (ALe.bool b)) ?_
   exact Kn.R Fm (d (!a) h)
  ·refine AW.pN Fm [.s, .w (vb false), .s, .s, .s, .s] [(4, vb false)] [] (cT (ALe.bool b)) ?_
   exact Kn.R Fm (d false h)
theorem zone_Eligible_spec {F : Nat} {e : Region} {i : (List Feature)} {j : Int} {l : Int} {r : Region × Int} (h : zone_Eligible F e i j l = some r) :
  FSpec Tryz.prog 60 [.v (.g [.d (DL e.rects_)]), AL i, vi j, vi l] [] (.t [.g [.d (DL (α := Rect) r.1.rects_)], .c (ci r.2)]) [] := by
 refine FI Tryz.func60 prog_mixed prog_lay fun C Fm => ?_
 unfold zone_Eligible at h
 refine AW.SG0 Fm 3 [(1, AL i), (2, vi j), (3, vi l), (4, pt 4), (8, pt 8)] [(4, bx [.d (DL e.rects_)]), (8, bx [.fl 0 fun _ => []])] ?_
 refine AW.seq (AW.seq ?_)
 obtain ⟨m, A, h⟩ := bS h
 refine AW.G Fm [.s, .s, .s, .s, .k (cE [] [] (vi m) [] []), .s] (fun K => K 4 ∧ True) [(1, AL i), (2, vi j), (3, vi l), (4, pt 4), (8, pt 8), (10, vi m)] [(4, bx [.d (DL e.rects_)]), (8, bx [.fl 0 fun _ => []])] ⟨KAt.CC (zone_check_spec A) Tryz.call132 [], ⟨⟩⟩ ?_
 refine AW.SG0 Fm 2 [(1, AL i), (2, vi j), (3, vi l), (4, pt 4), (8, pt 8), (10, vi m), (20, vb (m != (0 : Int)))] [(4, bx [.d (DL e.rects_)]), (8, bx [.fl 0 fun _ => []])] ?_
 refine AW.cN h (fun o h => ?_) (fun o h => ?_)
 ·refine AW.SP Fm [.w (.v (.g [.d (DL (α := Rect) [])])), .s, .s, .s] [(8, pt 8), (9, vi m)] [(8, bx [.d (DL (α := Rect) [])])] (cT (ALe.g ⟨CLe.fl .nil, ⟨⟩⟩ : ALe (.v (.g [.fl 0 fun _ => []])) (.v (.g [.d (DL (α := Rect) [])])))) ?_
  refine AW.ret ?_
  obtain rfl := Option.some.inj h
  exact Kn.D Fm
 ·refine AW.skip (AW.seq ?_)
  obtain ⟨a, B, h⟩ := bS h
  refine AW.G Fm [.s, .s, .k (cE [] [] (.t [.g [.d (DL a.1.rects_)], .c (ci a.2)]) [] []), .s, .s, .s, .s, .s, .s] (fun K => K 2 ∧ True) [(1, AL i), (2, vi j), (3, vi l), (4, pt 4), (8, pt 8), (11, pt 11), (12, vi a.2)] [(4, bx [.d (DL e.rects_)]), (8, bx [.fl 0 fun _ => []]), (11, bx [.d (DL a.1.rects_)])] ⟨KAt.CC (zone_Hard_spec B) Tryz.call56 [], ⟨⟩⟩ ?_
  refine AW.seq (AW.SG0 Fm 2 [(1, AL i), (2, vi j), (3, vi l), (4, pt 4), (8, pt 8), (11, pt 11), (12, vi a.2), (30, vb (a.2 != (0 : Int)))] [(4, bx [.d (DL e.rects_)]), (8, bx [.fl 0 fun _ => []]), (11, bx [.d (DL a.1.rects_)])] ?_)
  refine AW.cN h (fun q h => ?_) (fun q h => ?_)
  ·refine AW.SP Fm [.w (.v (.g [.d (DL (α := Rect) [])])), .s, .s, .s] [(8, pt 8), (9, vi a.2)] [(8, bx [.d (DL (α := Rect) [])])] (cT (ALe.g ⟨CLe.fl .nil, ⟨⟩⟩ : ALe (.v (.g [.fl 0 fun _ => []])) (.v (.g [.d (DL (α := Rect) [])])))) ?_
   refine AW.ret ?_
   obtain rfl := Option.some.inj h
   exact Kn.D Fm
  ·refine AW.skip (AW.seq ?_)
   obtain ⟨b, E, h⟩ := bS h
   refine AW.G Fm [.s, .s, .s, .s, .k (cE [] [] (.t [.g [.d (DL b.1.rects_)], .c (ci b.2)]) [] []), .s, .s, .s, .s, .s, .s] (fun K => K 4 ∧ True) [(4, pt 4), (8, pt 8), (11, pt 11), (12, vi b.2), (13, pt 13)] [(4, bx [.d (DL e.rects_)]), (8, bx [.fl 0 fun _ => []]), (11, bx [.d (DL a.1.rects_)]), (13, bx [.d (DL b.1.rects_)])] ⟨KAt.CC (zone_Soft_spec E) Tryz.call58 [], ⟨⟩⟩ ?_
   refine AW.seq (AW.SG0 Fm 2 [(4, pt 4), (8, pt 8), (11, pt 11), (12, vi b.2), (13, pt 13), (42, vb (b.2 != (0 : Int)))] [(4, bx [.d (DL e.rects_)]), (8, bx [.fl 0 fun _ => []]), (11, bx [.d (DL a.1.rects_)]), (13, bx [.d (DL b.1.rects_)])] ?_)
   refine AW.cN h (fun u h => ?_) (fun u h => ?_)
   ·refine AW.SP Fm [.w (.v (.g [.d (DL (α := Rect) [])])), .s, .s, .s] [(8, pt 8), (9, vi b.2)] [(8, bx [.d (DL (α := Rect) [])])] (cT (ALe.g ⟨CLe.fl .nil, ⟨⟩⟩ : ALe (.v (.g [.fl 0 fun _ => []])) (.v (.g [.d (DL (α := Rect) [])])))) ?_
    refine AW.ret ?_
    obtain rfl := Option.some.inj h
    exact Kn.D Fm
   ·refine AW.skip (AW.seq ?_)
    obtain ⟨M, H, h⟩ := bS h
    obtain ⟨N, I, h⟩ := bS h
    obtain ⟨n, L, h⟩ := bS h
    refine AW.G Fm [.s, .s, .s, .s, .s, .s, .w (AL (α := (List Rect)) ([a.1.rects_, b.1.rects_] : List (List Rect))), .k (cE [] [] (AL M) [] []), .k (cE [] [] (AL N) [] []), .k (cE [] [] (.t [.g [.d (DL n.1.rects_)], .c (ci n.2)]) [] []), .s, .s, .s, .s] (fun K => (ALe (.v (.c (.d (.lst 2 (litF 1 [DL a.1.rects_, DL b.1.rects_]))))) (AL (α := (List Rect)) ([a.1.rects_, b.1.rects_] : List (List Rect)))) ∧ K 7 ∧ K 8 ∧ K 9 ∧ True) [(8, pt 8), (9, vi n.2)] [(8, bx [.d (DL n.1.rects_)])] ⟨ALe.lst (.lit ([a.1.rects_, b.1.rects_] : List (List Rect)) (by kernel_rfl)), KAt.CC (FSpec.list (slices_Concat_Rect_spec H)) Tryz.call141 [], KAt.callX (region_Choose_spec I) Tryz.call93 [] [] [.tmp 46, .tmp 52, .func 142] rfl (by kernel_rfl) (by kernel_rfl) (by kernel_rfl) ⟨.p, .p, ArgT.cloX Tryz.call142 [] (fun args r hq => by obtain ⟨y0, y1, y, hq, rfl, rfl⟩ := hq; exact Eq.mp (by kernel_rfl) (zone_Eligible_1_spec hq)) (fun args r hq => by obtain ⟨y0, y1, y, hq, rfl, rfl⟩ := hq; rfl) (by kernel_rfl) [] (by kernel_rfl) (by kernel_rfl) (True.intro) (by kernel_rfl), ⟨⟩⟩, KAt.CC (region_Limited_spec L) Tryz.call140 [], ⟨⟩⟩ ?_
    refine AW.ret ?_
    obtain rfl := Option.some.inj h
    exact Kn.D Fm
theorem ref04_proper_spec {F : Nat} {e : Rect} {r : Bool} (h : ref04_proper F e = some r) :
  FSpec Tryz.prog 170 [gE e] [] (vb r) [] := by
 refine FI Tryz.func170 prog_mixed prog_lay fun C Fm => ?_
 unfold ref04_proper at h
 refine AW.SG0 Fm 2 [(1, pt 1)] [(1, bx (gC e))] ?_
 refine AW.join (r := r) (fun z : Bool => ref04_proper_k0 F z) (fun z => [(2, vb z)]) (fun z => []) (fun l h => ?_) (fun k b => ?_)
 ·refine AW.ret ?_
  obtain rfl := Option.some.inj h
  exact Kn.D Fm
 ·rcases br_or h with ⟨a, h⟩ | ⟨a, h⟩
  ·rcases br_or h with ⟨c, h⟩ | ⟨c, h⟩
   ·rcases br_or h with ⟨d, h⟩ | ⟨d, h⟩
    ·rcases br_or h with ⟨i, h⟩ | ⟨i, h⟩
     ·rcases br_or h with ⟨j, h⟩ | ⟨j, h⟩
      ·refine AW.pN Fm [.s, .s, .s, .w (vb true), .s, .s, .s, .s, .s, .s, .w (vb true), .s, .s, .s, .s, .w (vb true), .s, .s, .s, .s, .w (vb true), .s, .s, .s, .s, .s, .s, .w (vb true), .s, .s, .s, .s, .s] [(2, vb (decide (e.high_ ≤ (16384 : Int))))] [] (cA (ALe.bool a) (cA (ALe.bool c) (cA (ALe.bool d) (cA (ALe.bool i) (cT (ALe.bool j)))))) ?_
       exact Kn.R Fm (b (decide (e.high_ ≤ (16384 : Int))) h)
      ·refine AW.pN Fm [.s, .s, .s, .w (vb true), .s, .s, .s, .s, .s, .s, .w (vb true), .s, .s, .s, .s, .w (vb true), .s, .s, .s, .s, .w (vb true), .s, .s, .s, .s, .s, .s, .w (vb false), .s, .s, .s, .s, .s] [(2, vb false)] [] (cA (ALe.bool a) (cA (ALe.bool c) (cA (ALe.bool d) (cA (ALe.bool i) (cT (ALe.bool j)))))) ?_
       exact Kn.R Fm (b false h)
     ·refine AW.pN Fm [.s, .s, .s, .w (vb true), .s, .s, .s, .s, .s, .s, .w (vb true), .s, .s, .s, .s, .w (vb true), .s, .s, .s, .s, .w (vb false), .s, .s, .s, .s, .s, .s, .s, .s, .s, .s, .s, .s] [(2, vb false)] [] (cA (ALe.bool a) (cA (ALe.bool c) (cA (ALe.bool d) (cT (ALe.bool i))))) ?_
      exact Kn.R Fm (b false h)
    ·refine AW.pN Fm [.s, .s, .s, .w (vb true), .s, .s, .s, .s, .s, .s, .w (vb true), .s, .s, .s, .s, .w (vb false), .s, .s, .s, .s, .s, .s, .s, .s, .s, .s, .s, .s, .s, .s, .s, .s, .s] [(2, vb false)] [] (cA (ALe.bool a) (cA (ALe.bool c) (cT (ALe.bool d)))) ?_
     exact Kn.R Fm (b false h)
   ·refine AW.pN Fm [.s, .s, .s, .w (vb true), .s, .s, .s, .s, .s, .s, .w (vb false), .s, .s, .s, .s, .s, .s, .s, .s, .s, .s, .s, .s, .s, .s, .s, .s, .s, .s, .s, .s, .s, .s] [(2, vb false)] [] (cA (ALe.bool a) (cT (ALe.bool c))) ?_
    exact Kn.R Fm (b false h)
  ·refine AW.pN Fm [.s, .s, .s, .w (vb false), .s, .s, .s, .s, .s, .s, .s, .s, .s, .s, .s, .s, .s, .s, .s, .s, .s, .s, .s, .s, .s, .s, .s, .s, .s, .s, .s, .s, .s] [(2, vb false)] [] (cT (ALe.bool a)) ?_
   exact Kn.R Fm (b false h)
theorem ref01_Put_spec {F : Nat} {a : (List Int)} {e : Int} {r : (List Int)} (h : ref01_Put F a e = some r) :
  FSpec Tryz.prog 131 [AL a, vi e] [] (AL (α := Int) r) [] := by
 refine FI Tryz.func131 prog_mixed prog_lay fun C Fm => ?_
 unfold ref01_Put at h
 refine AW.SG0 Fm 1 [(0, AL a), (1, vi e)] [] ?_
 refine AW.SG0 Fm 1 [(0, AL a), (1, vi e), (5, vi 0)] [] ?_
 refine AW.join (r := r) (fun z : Int => ref01_Put_k2 F a e z) (fun z => [(0, AL a), (1, vi e), (5, vi z)]) (fun z => []) (fun b h => ?_) (fun O y => ?_)
 ·refine AW.seq (AW.join (r := r) (fun z : Bool => ref01_Put_k3 F a e b z) (fun z => [(0, AL a), (1, vi e), (5, vi b), (31, vb z)]) (fun z => []) (fun U h => ?_) (fun P o => ?_))
  ·refine AW.cN h (fun B h => ?_) (fun B h => ?_)
   ·refine AW.SG0 Fm 2 [(4, AL a)] [] ?_
    refine AW.ret ?_
    obtain rfl := Option.some.inj h
    exact Kn.D Fm
   ·refine AW.skip ?_
    obtain ⟨p, I, K, q, h⟩ := gS4 h
    obtain ⟨L, h⟩ := gS h
    refine AW.SV Fm [.m, .s, .s, .w (AL (α := Int) (a.take b.toNat)), .s, .s, .w (AL (α := Int) ([e] : List Int)), .s, .s, .s, .w (AL (α := Int) (a.drop b.toNat)), .s, .s] [(4, ow 44)] [(44, AO (α := Int) (((([] : List Int) ++ (a.take b.toNat)) ++ ([e] : List Int)) ++ (a.drop b.toNat)))] (cA (⟨p, (Is.refl a).len⟩ : ((sl (List.length a) (LF a) none (some b)).2 ∧ ∀ j, j < List.length a → (LF a j).length = 1)) (cA (ALe.lst (sl_is a none (some b) p) : ALe (.v (.c (.d (.lst (sl (List.length a) (LF a) none (some b)).1.1 (sl (List.length a) (LF a) none (some b)).1.2)))) (AL (α := Int) (a.take b.toNat))) (cA (cA I (cT (Is.refl (a.take b.toNat) : Is (List.length (α := Int) (a.take b.toNat)) (LF (α := Int) (a.take b.toNat)) (a.take b.toNat)).len)) (cA (ALe.lst (.lit ([e] : List Int) (by kernel_rfl)) : ALe (.v (.c (.d (.lst 1 (litF 1 [.int .i64 e]))))) (AL (α := Int) ([e] : List Int))) (cA (cA K (cT (Is.refl ([e] : List Int) : Is (List.length (α := Int) ([e] : List Int)) (LF (α := Int) ([e] : List Int)) ([e] : List Int)).len)) (cA (⟨q, (Is.refl a).len⟩ : ((sl (List.length a) (LF a) (some b) none).2 ∧ ∀ j, j < List.length a → (LF a j).length = 1)) (cA (ALe.lst (sl_is a (some b) none q) : ALe (.v (.c (.d (.lst (sl (List.length a) (LF a) (some b) none).1.1 (sl (List.length a) (LF a) (some b) none).1.2)))) (AL (α := Int) (a.drop b.toNat))) (cT (cA L (cT (Is.refl (a.drop b.toNat) : Is (List.length (α := Int) (a.drop b.toNat)) (LF (α := Int) (a.drop b.toNat)) (a.drop b.toNat)).len)))))))))) [(44, .arr 1 ((((0) + (List.length (α := Int) (a.take b.toNat))) + (List.length (α := Int) ([e] : List Int))) + (List.length (α := Int) (a.drop b.toNat))) (appF (((0) + (List.length (α := Int) (a.take b.toNat))) + (List.length (α := Int) ([e] : List Int))) (appF ((0) + (List.length (α := Int) (a.take b.toNat))) (appF (0) (litF 1 []) (LF (α := Int) (a.take b.toNat))) (LF (α := Int) ([e] : List Int))) (LF (α := Int) (a.drop b.toNat))))] ⟨OLe.is (Is.app (Is.app (Is.app (Is.lit ([] : List Int) (by kernel_rfl)) (Is.refl (a.take b.toNat))) (Is.refl ([e] : List Int))) (Is.refl (a.drop b.toNat))), ⟨⟩⟩ ?_
    refine AW.ret ?_
    obtain rfl := Option.some.inj h
    refine Kn.r Fm [(4, ow 44)] [(44, AO (α := Int) (((([] : List Int) ++ (a.take b.toNat)) ++ ([e] : List Int)) ++ (a.drop b.toNat)))] (by kernel_rfl) ?_
    refine Kn.frz [(4, AL (α := Int) (((([] : List Int) ++ (a.take b.toNat)) ++ ([e] : List Int)) ++ (a.drop b.toNat)))] [] (by kernel_rfl) (by kernel_rfl) (by kernel_rfl) ?_
    exact Kn.D Fm
  ·rcases br_or h with ⟨l, h⟩ | ⟨l, h⟩
   ·obtain ⟨H, h⟩ := gS h
    refine AW.pN Fm [.s, .s, .s, .s, .w (vb true), .s, .s, .s, .s, .s, .s, .s] [(0, AL a), (1, vi e), (5, vi b), (31, vb ((gl a b.toNat) == e))] [] (cA (ALe.bool l) (cT H)) ?_
    exact Kn.R Fm (o ((gl a b.toNat) == e) h)
   ·refine AW.pN Fm [.s, .s, .s, .s, .w (vb false), .s, .s, .s, .s, .s, .s, .s] [(0, AL a), (1, vi e), (5, vi b), (31, vb false)] [] (cT (ALe.bool l)) ?_
    exact Kn.R Fm (o false h)
 ·refine AW.block (AW.loopF (E' := fun z => [(0, AL a), (1, vi e), (5, vi z)]) (S' := fun z => []) (fun t i M u h => ?_) h)
  refine AW.seq (AW.join (r := r) (fun z : Bool => ref01_Put_k1 F a e i t z) (fun z => [(0, AL a), (1, vi e), (5, vi i), (17, vb z)]) (fun z => []) (fun T h => ?_) (fun N n => ?_))
  ·refine AW.cN h (fun A h => ?_) (fun A h => ?_)
   ·refine AW.skip (AW.block ?_)
    obtain ⟨G, h⟩ := gS h
    refine AW.pN Fm [.s, .s, .s] [(0, AL a), (1, vi e), (5, vi (i + 1))] [] (cT (cT G)) ?_
    exact Kn.R Fm (u (i + 1) h)
   ·exact AW.exit (Kn.R Fm (y i h))
  ·rcases br_or h with ⟨k, h⟩ | ⟨k, h⟩
   ·obtain ⟨E, h⟩ := gS h
    refine AW.pN Fm [.s, .s, .s, .s, .w (vb true), .s, .s, .s, .s, .s, .s, .s] [(0, AL a), (1, vi e), (5, vi i), (11, AL a), (12, vi i), (13, .v (.c (.elm [.int .i64 (gl a i.toNat)]))), (14, vi (gl a i.toNat)), (15, vi e), (16, vb (decide ((gl a i.toNat) < e))), (17, vb (decide ((gl a i.toNat) < e)))] [] (cA (ALe.bool k) (cT E)) ?_
    exact Kn.R Fm (n (decide ((gl a i.toNat) < e)) h)
   ·refine AW.pN Fm [.s, .s, .s, .s, .w (vb false), .s, .s, .s, .s, .s, .s, .s] [(0, AL a), (1, vi e), (5, vi i), (17, vb false)] [] (cT (ALe.bool k)) ?_
    exact Kn.R Fm (n false h)
theorem ref04_inside_spec {F : Nat} {a : (List Rect)} {e : Int} {d : Int} {r : Bool} (h : ref04_inside F a e d = some r) :
  FSpec Tryz.prog 108 [AL a, vi e, vi d] [] (vb r) [] := by
 refine FI Tryz.func108 prog_mixed prog_lay fun C Fm => ?_
 unfold ref04_inside at h
 refine AW.SG0 Fm 1 [(0, AL a), (1, vi e), (2, vi d)] [] ?_
 refine AW.join (r := r) (fun z : Unit => ref04_inside_k2 F) (fun z => []) (fun z => []) (fun z h => ?_) (fun B o => ?_)
 ·refine AW.SG0 Fm 1 [(6, vb false)] [] ?_
  refine AW.ret ?_
  obtain rfl := Option.some.inj h
  exact Kn.D Fm
 ·refine AW.SG0 Fm 3 [(1, vi e), (2, vi d), (9, AL a), (10, vi (lI a)), (11, vi 0)] [] ?_
  refine AW.block (AW.loopF (E' := fun z => [(1, vi e), (2, vi d), (9, AL a), (10, vi (lI a)), (11, vi z)]) (S' := fun z => []) (fun m b y n h => ?_) h)
  refine AW.SG0 Fm 1 [(1, vi e), (2, vi d), (9, AL a), (10, vi (lI a)), (11, vi b), (12, vb (decide (b < (lI a))))] [] ?_
  refine AW.seq (AW.cN h (fun p h => ?_) (fun p h => ?_))
  ·refine AW.skip (AW.seq (AW.block ?_))
   obtain ⟨t, h⟩ := gS h
   refine AW.SP Fm [.s, .s, .s, .s] [(1, vi e), (2, vi d), (8, pt 8), (9, AL a), (10, vi (lI a)), (11, vi b)] [(8, bx [ci ((gl a b.toNat).left_), ci ((gl a b.toNat).low_), ci ((gl a b.toNat).right_), ci ((gl a b.toNat).high_)])] (cT t) ?_
   refine AW.join (r := r) (fun z : Bool => ref04_inside_k1 F b m z) (fun z => [(1, vi e), (2, vi d), (9, AL a), (10, vi (lI a)), (11, vi b), (36, vb z)]) (fun z => []) (fun E h => ?_) (fun A j => ?_)
   ·refine AW.cN h (fun q h => ?_) (fun q h => ?_)
    ·refine AW.SG0 Fm 1 [(6, vb true)] [] ?_
     refine AW.ret ?_
     obtain rfl := Option.some.inj h
     exact Kn.D Fm
    ·refine AW.skip ?_
     obtain ⟨u, h⟩ := gS h
     refine AW.pN Fm [.s, .s] [(1, vi e), (2, vi d), (9, AL a), (10, vi (lI a)), (11, vi (b + 1))] [] (cT (cT u)) ?_
     exact Kn.R Fm (n (b + 1) h)
   ·rcases br_or h with ⟨i, h⟩ | ⟨i, h⟩
    ·rcases br_or h with ⟨k, h⟩ | ⟨k, h⟩
     ·rcases br_or h with ⟨l, h⟩ | ⟨l, h⟩
      ·refine AW.pN Fm [.s, .s, .s, .s, .w (vb true), .s, .s, .s, .s, .s, .w (vb true), .s, .s, .s, .s, .s, .w (vb true), .s, .s, .s, .s, .s] [(1, vi e), (2, vi d), (9, AL a), (10, vi (lI a)), (11, vi b), (20, vi e), (21, .v (.c (.ptr 8 2))), (22, vi (gl a b.toNat).right_), (23, vb (decide (e < ((gl a b.toNat).right_)))), (26, .v (.c (.ptr 8 1))), (27, vi (gl a b.toNat).low_), (28, vi d), (29, vb (decide (((gl a b.toNat).low_) ≤ d))), (32, vi d), (33, .v (.c (.ptr 8 3))), (34, vi (gl a b.toNat).high_), (35, vb (decide (d < ((gl a b.toNat).high_)))), (36, vb (decide (d < ((gl a b.toNat).high_))))] [(8, bx [ci ((gl a b.toNat).left_), ci ((gl a b.toNat).low_), ci ((gl a b.toNat).right_), ci ((gl a b.toNat).high_)])] (cA (ALe.bool i) (cA (ALe.bool k) (cT (ALe.bool l)))) ?_
       exact Kn.R Fm (j (decide (d < ((gl a b.toNat).high_))) h)
      ·refine AW.pN Fm [.s, .s, .s, .s, .w (vb true), .s, .s, .s, .s, .s, .w (vb true), .s, .s, .s, .s, .s, .w (vb false), .s, .s, .s, .s, .s] [(1, vi e), (2, vi d), (9, AL a), (10, vi (lI a)), (11, vi b), (20, vi e), (21, .v (.c (.ptr 8 2))), (22, vi (gl a b.toNat).right_), (23, vb (decide (e < ((gl a b.toNat).right_)))), (26, .v (.c (.ptr 8 1))), (27, vi (gl a b.toNat).low_), (28, vi d), (29, vb (decide (((gl a b.toNat).low_) ≤ d))), (36, vb false)] [(8, bx [ci ((gl a b.toNat).left_), ci ((gl a b.toNat).low_), ci ((gl a b.toNat).right_), ci ((gl a b.toNat).high_)])] (cA (ALe.bool i) (cA (ALe.bool k) (cT (ALe.bool l)))) ?_
       exact Kn.R Fm (j false h)
     ·refine AW.pN Fm [.s, .s, .s, .s, .w (vb true), .s, .s, .s, .s, .s, .w (vb false), .s, .s, .s, .s, .s, .s, .s, .s, .s, .s, .s] [(1, vi e), (2, vi d), (9, AL a), (10, vi (lI a)), (11, vi b), (20, vi e), (21, .v (.c (.ptr 8 2))), (22, vi (gl a b.toNat).right_), (23, vb (decide (e < ((gl a b.toNat).right_)))), (36, vb false)] [(8, bx [ci ((gl a b.toNat).left_), ci ((gl a b.toNat).low_), ci ((gl a b.toNat).right_), ci ((gl a b.toNat).high_)])] (cA (ALe.bool i) (cT (ALe.bool k))) ?_
      exact Kn.R Fm (j false h)
    ·refine AW.pN Fm [.s, .s, .s, .s, .w (vb false), .s, .s, .s, .s, .s, .s, .s, .s, .s, .s, .s, .s, .s, .s, .s, .s, .s] [(1, vi e), (2, vi d), (9, AL a), (10, vi (lI a)), (11, vi b), (36, vb false)] [] (cT (ALe.bool i)) ?_
     exact Kn.R Fm (j false h)
  ·exact AW.exit (Kn.R Fm (o () h))
theorem ref04_keep_spec {F : Nat} {c : Bool} {a : Bool} {b : Int} {r : Bool} (h : ref04_keep F c a b = some r) :
  FSpec Tryz.prog 199 [vb c, vb a, vi b] [] (vb r) [] := by
 refine FI Tryz.func199 prog_mixed prog_lay fun C Fm => ?_
 unfold ref04_keep at h
 refine AW.SG0 Fm 1 [(0, vb c), (1, vb a), (2, vi b)] [] ?_
 refine AW.seq (AW.SG0 Fm 1 [(0, vb c), (1, vb a), (7, vi b)] [] ?_)
 refine AW.block (AW.SG0 Fm 2 [(0, vb c), (1, vb a), (7, vi b), (8, vb (b == (1 : Int)))] [] ?_)
 refine AW.cN h (fun m h => ?_) (fun m h => ?_)
 ·refine AW.join (r := r) (fun z : Bool => ref04_keep_k0 F z) (fun z => [(6, vb z)]) (fun z => []) (fun t h => ?_) (fun o j => ?_)
  ·refine AW.ret ?_
   obtain rfl := Option.some.inj h
   exact Kn.D Fm
  ·rcases br_or h with ⟨d, h⟩ | ⟨d, h⟩
   ·refine AW.pN Fm [.s, .w (vb true), .s, .s, .s] [(6, vb true)] [] (cT (ALe.bool d)) ?_
    exact Kn.R Fm (j true h)
   ·refine AW.pN Fm [.s, .w (vb false), .s, .s, .s] [(6, vb a)] [] (cT (ALe.bool d)) ?_
    exact Kn.R Fm (j a h)
 ·refine AW.SG0 Fm 2 [(0, vb c), (1, vb a), (14, vb (b == (2 : Int)))] [] ?_
  refine AW.cN h (fun n h => ?_) (fun n h => ?_)
  ·refine AW.join (r := r) (fun z : Bool => ref04_keep_k1 F z) (fun z => [(6, vb z)]) (fun z => []) (fun u h => ?_) (fun p k => ?_)
   ·refine AW.ret ?_
    obtain rfl := Option.some.inj h
    exact Kn.D Fm
   ·rcases br_or h with ⟨e, h⟩ | ⟨e, h⟩
    ·refine AW.pN Fm [.s, .w (vb true), .s, .s, .s] [(6, vb a)] [] (cT (ALe.bool e)) ?_
     exact Kn.R Fm (k a h)
    ·refine AW.pN Fm [.s, .w (vb false), .s, .s, .s] [(6, vb false)] [] (cT (ALe.bool e)) ?_
     exact Kn.R Fm (k false h)
  ·refine AW.skip (AW.join (r := r) (fun z : Bool => ref04_keep_k2 F z) (fun z => [(6, vb z)]) (fun z => []) (fun y h => ?_) (fun q l => ?_))
   ·refine AW.ret ?_
    obtain rfl := Option.some.inj h
    exact Kn.D Fm
   ·rcases br_or h with ⟨i, h⟩ | ⟨i, h⟩
    ·refine AW.pN Fm [.s, .w (vb true), .s, .s, .s, .s] [(6, vb (!a))] [] (cT (ALe.bool i)) ?_
     exact Kn.R Fm (l (!a) h)
    ·refine AW.pN Fm [.s, .w (vb false), .s, .s, .s, .s] [(6, vb false)] [] (cT (ALe.bool i)) ?_
     exact Kn.R Fm (l false h)
theorem ref04_same_spec {F : Nat} {a : (List Rect)} {d : (List Rect)} {r : Bool} (h : ref04_same F a d = some r) :
  FSpec Tryz.prog 200 [AL a, AL d] [] (vb r) [] := by
 refine FI Tryz.func200 prog_mixed prog_lay fun C Fm => ?_
 unfold ref04_same at h
 refine AW.SG0 Fm 1 [(0, AL a), (1, AL d)] [] ?_
 refine AW.seq (AW.SG0 Fm 5 [(0, AL a), (1, AL d), (10, vb ((lI a) != (lI d)))] [] ?_)
 refine AW.cN h (fun o h => ?_) (fun o h => ?_)
 ·refine AW.SG0 Fm 1 [(4, vb false)] [] ?_
  refine AW.ret ?_
  obtain rfl := Option.some.inj h
  exact Kn.D Fm
 ·refine AW.skip (AW.join (r := r) (fun z : Unit => ref04_same_k2 F) (fun z => []) (fun z => []) (fun z h => ?_) (fun E n => ?_))
  ·refine AW.SG0 Fm 1 [(4, vb true)] [] ?_
   refine AW.ret ?_
   obtain rfl := Option.some.inj h
   exact Kn.D Fm
  ·refine AW.SG0 Fm 3 [(0, AL a), (1, AL d), (12, vi (lI a)), (13, vi 0)] [] ?_
   refine AW.block (AW.loopF (E' := fun z => [(0, AL a), (1, AL d), (12, vi (lI a)), (13, vi z)]) (S' := fun z => []) (fun l b A m h => ?_) h)
   refine AW.SG0 Fm 1 [(0, AL a), (1, AL d), (12, vi (lI a)), (13, vi b), (14, vb (decide (b < (lI a))))] [] ?_
   refine AW.seq (AW.cN h (fun p h => ?_) (fun p h => ?_))
   ·refine AW.skip (AW.seq (AW.block (AW.SG0 Fm 2 [(0, AL a), (1, AL d), (5, vi b), (12, vi (lI a)), (13, vi b)] [] ?_)))
    refine AW.join (r := r) (fun z : Bool => ref04_same_k1 F b l z) (fun z => [(0, AL a), (1, AL d), (12, vi (lI a)), (13, vi b), (39, vb z)]) (fun z => []) (fun G h => ?_) (fun B i => ?_)
    ·refine AW.cN h (fun q h => ?_) (fun q h => ?_)
     ·refine AW.SG0 Fm 1 [(4, vb false)] [] ?_
      refine AW.ret ?_
      obtain rfl := Option.some.inj h
      exact Kn.D Fm
     ·refine AW.skip ?_
      obtain ⟨y, h⟩ := gS h
      refine AW.pN Fm [.s, .s] [(0, AL a), (1, AL d), (12, vi (lI a)), (13, vi (b + 1))] [] (cT (cT y)) ?_
      exact Kn.R Fm (m (b + 1) h)
    ·obtain ⟨j, k, h⟩ := gS2 h
     rcases br_or h with ⟨e, h⟩ | ⟨e, h⟩
     ·refine AW.pN Fm [.s, .s, .s, .s, .s, .s, .s, .s, .s, .s, .s, .w (vb true), .s, .s, .s, .s, .s, .s, .s, .s, .s, .s, .s, .s] [(0, AL a), (1, AL d), (12, vi (lI a)), (13, vi b), (39, vb true)] [] (cA j (cA k (cT (ALe.bool e)))) ?_
      exact Kn.R Fm (i true h)
     ·obtain ⟨t, u, h⟩ := gS2 h
      refine AW.pN Fm [.s, .s, .s, .s, .s, .s, .s, .s, .s, .s, .s, .w (vb false), .s, .s, .s, .s, .s, .s, .s, .s, .s, .s, .s, .s] [(0, AL a), (1, AL d), (12, vi (lI a)), (13, vi b), (28, AL a), (29, vi b), (30, .v (.c (.elm [.int .i64 (gl a b.toNat).left_, .int .i64 (gl a b.toNat).low_, .int .i64 (gl a b.toNat).right_, .int .i64 (gl a b.toNat).high_]))), (31, .v (.c (.elm [.int .i64 (gl a b.toNat).right_, .int .i64 (gl a b.toNat).high_]))), (32, vi (gl a b.toNat).right_), (33, AL d), (34, vi b), (35, .v (.c (.elm [.int .i64 (gl d b.toNat).left_, .int .i64 (gl d b.toNat).low_, .int .i64 (gl d b.toNat).right_, .int .i64 (gl d b.toNat).high_]))), (36, .v (.c (.elm [.int .i64 (gl d b.toNat).right_, .int .i64 (gl d b.toNat).high_]))), (37, vi (gl d b.toNat).right_), (38, vb (((gl a b.toNat).right_) != ((gl d b.toNat).right_))), (39, vb (((gl a b.toNat).right_) != ((gl d b.toNat).right_)))] [] (cA j (cA k (cA (ALe.bool e) (cA t (cT u))))) ?_
      exact Kn.R Fm (i (((gl a b.toNat).right_) != ((gl d b.toNat).right_)) h)
   ·exact AW.exit (Kn.R Fm (n () h))
theorem ref04_Combine_spec {F : Nat} {a : (List Rect)} {b : (List Rect)} {p : Int} {r : (List Rect)} (h : ref04_Combine F a b p = some r) :
  FSpec Tryz.prog 122 [AL a, AL b, vi p] [] (AL (α := Rect) r) [] := by
 refine FI Tryz.func122 prog_mixed prog_lay fun C Fm => ?_
 unfold ref04_Combine at h
 refine AW.SG0 Fm 1 [(0, AL a), (1, AL b), (2, vi p)] [] ?_
 refine AW.SW Fm [.m, .m] (fun K => True) [(0, AL a), (1, AL b), (2, vi p), (7, ow 7), (8, ow 8)] [(7, AO (α := Int) ([] : List Int)), (8, AO (α := Int) ([] : List Int))] True.intro [(7, .arr 1 (0) (fun _ => [])), (8, .arr 1 (0) (fun _ => []))] ⟨OLe.is ((Is.nil (α := Int))), OLe.is ((Is.nil (α := Int))), ⟨⟩⟩ ?_
 refine AW.join (r := r) (fun z : (List Int) × (List Int) => ref04_Combine_k3 F a b p z.1 z.2) (fun z => [(0, AL a), (1, AL b), (2, vi p), (7, AL z.1), (8, AL z.2)]) (fun z => []) (fun z h => ?_) (fun c2 B0 => ?_)
 ·obtain ⟨l, e⟩ := z
  refine AW.SW Fm [.m, .m] (fun K => True) [(0, AL a), (1, AL b), (2, vi p), (7, AL l), (8, AL e), (13, ow 13), (14, ow 14)] [(13, AO (α := Rect) ([] : List Rect)), (14, AO (α := Rect) ([] : List Rect))] True.intro [(13, .arr 4 (0) (fun _ => [])), (14, .arr 4 (0) (fun _ => []))] ⟨OLe.is ((Is.nil (α := Rect))), OLe.is ((Is.nil (α := Rect))), ⟨⟩⟩ ?_
  refine AW.join (r := r) (fun z : (List Rect) × (List Rect) => ref04_Combine_k14 F z.1 z.2) (fun z => [(13, ow 13), (14, ow 14)]) (fun z => [(13, AO z.1), (14, AO z.2)]) (fun z h => ?_) (fun q2 M0 => ?_)
  ·obtain ⟨L, I⟩ := z
   obtain ⟨K1, h⟩ := gS h
   refine AW.SV Fm [.s, .s, .s, .s] [(6, ow 176)] [(176, AO (α := Rect) (L ++ I))] (cT (cA K1 (cT (Is.refl I : Is (List.length (α := Rect) I) (LF (α := Rect) I) I).len))) [(176, .arr 4 ((List.length (α := Rect) L) + (List.length (α := Rect) I)) (appF (List.length (α := Rect) L) (LF (α := Rect) L) (LF (α := Rect) I)))] ⟨OLe.is (Is.app (Is.refl L) (Is.refl I)), ⟨⟩⟩ ?_
   refine AW.ret ?_
   obtain rfl := Option.some.inj h
   refine Kn.r Fm [(6, ow 176)] [(176, AO (α := Rect) (L ++ I))] (by kernel_rfl) ?_
   refine Kn.frz [(6, AL (α := Rect) (L ++ I))] [] (by kernel_rfl) (by kernel_rfl) (by kernel_rfl) ?_
   exact Kn.D Fm
  ·refine AW.SG0 Fm 1 [(0, AL a), (1, AL b), (2, vi p), (7, AL l), (8, AL e), (13, ow 13), (14, ow 14), (15, vi 0)] [(13, AO (α := Rect) ([] : List Rect)), (14, AO (α := Rect) ([] : List Rect))] ?_
   refine AW.block (Kn.r Fm [(0, AL a), (1, AL b), (2, vi p), (7, AL l), (8, AL e), (13, ow 13), (14, ow 14), (15, vi 0)] [(13, AO ([] : List Rect)), (14, AO ([] : List Rect))] (by kernel_rfl) ?_)
   refine AW.loopF (E' := fun z => [(0, AL a), (1, AL b), (2, vi p), (7, AL l), (8, AL e), (13, ow 13), (14, ow 14), (15, vi z.1)]) (S' := fun z => [(13, AO z.2.1), (14, AO z.2.2)]) (fun M z d2 D0 h => ?_) h
   obtain ⟨i, u, q⟩ := z
   refine AW.seq ?_
   obtain ⟨b1, h⟩ := gS h
   refine AW.SP Fm [.s, .s, .s, .s, .s] [(0, AL a), (1, AL b), (2, vi p), (7, AL l), (8, AL e), (13, ow 13), (14, ow 14), (15, vi i), (54, vb (decide ((i + 1) < (lI e))))] [(13, AO u), (14, AO q)] (cT (cT b1)) ?_
   refine AW.cN h (fun P0 h => ?_) (fun P0 h => ?_)
   ·refine AW.skip (AW.join (r := r) (fun z : (List Rect) × (List Rect) => ref04_Combine_k13 F i M z.1 z.2) (fun z => [(0, AL a), (1, AL b), (2, vi p), (7, AL l), (8, AL e), (13, ow 13), (14, ow 14), (15, vi i)]) (fun z => [(13, AO z.1), (14, AO z.2)]) (fun z h => ?_) (fun p2 j0 => ?_))
    ·obtain ⟨q0, s0⟩ := z
     obtain ⟨I1, h⟩ := gS h
     refine AW.pN Fm [.s, .s, .s] [(0, AL a), (1, AL b), (2, vi p), (7, AL l), (8, AL e), (13, ow 13), (14, ow 14), (15, vi (i + 1))] [(13, AO q0), (14, AO s0)] (cT (cT I1)) ?_
     exact Kn.R Fm (D0 ((i + 1), q0, s0) h)
    ·refine AW.block (AW.SW Fm [.m] (fun K => True) [(0, AL a), (1, AL b), (2, vi p), (7, AL l), (8, AL e), (13, ow 13), (14, ow 14), (15, vi i), (16, ow 16)] [(13, AO u), (14, AO q), (16, AO (α := Rect) ([] : List Rect))] True.intro [(16, .arr 4 (0) (fun _ => []))] ⟨OLe.is ((Is.nil (α := Rect))), ⟨⟩⟩ ?_)
     refine AW.join (r := r) (fun z : (List Rect) => ref04_Combine_k8 F e i u q M z) (fun z => [(0, AL a), (1, AL b), (2, vi p), (7, AL l), (8, AL e), (13, ow 13), (14, ow 14), (15, vi i), (16, ow 16)]) (fun z => [(13, AO u), (14, AO q), (16, AO z)]) (fun E h => ?_) (fun k2 H0 => ?_)
     ·refine AW.join (r := r) (fun z : Unit => ref04_Combine_k12 F i u q E M) (fun z => [(0, AL a), (1, AL b), (2, vi p), (7, AL l), (8, AL e), (13, ow 13), (14, ow 14), (15, vi i), (16, ow 16)]) (fun z => [(13, AO u), (14, AO q), (16, AO E)]) (fun z h => ?_) (fun o2 L0 => ?_)
      ·obtain ⟨H1, h⟩ := gS h
       refine AW.SV Fm [.s, .s, .s, .s] [(0, AL a), (1, AL b), (2, vi p), (7, AL l), (8, AL e), (13, ow 172), (15, vi i), (16, ow 16)] [(16, AO E), (172, AO (α := Rect) (u ++ q))] (cT (cA H1 (cT (Is.refl q : Is (List.length (α := Rect) q) (LF (α := Rect) q) q).len))) [(172, .arr 4 ((List.length (α := Rect) u) + (List.length (α := Rect) q)) (appF (List.length (α := Rect) u) (LF (α := Rect) u) (LF (α := Rect) q)))] ⟨OLe.is (Is.app (Is.refl u) (Is.refl q)), ⟨⟩⟩ ?_
       refine AW.G0 Fm 2 [(0, AL a), (1, AL b), (2, vi p), (7, AL l), (8, AL e), (13, ow 172), (14, ow 16), (15, vi i)] [(16, AO E), (172, AO (α := Rect) (u ++ q))] ?_
       exact Kn.RE Fm [(13, 172), (14, 16)] (j0 ((u ++ q), E) h)
      ·refine AW.join (r := r) (fun z : Bool => ref04_Combine_k9 F e i u q E M z) (fun z => [(0, AL a), (1, AL b), (2, vi p), (7, AL l), (8, AL e), (13, ow 13), (14, ow 14), (15, vi i), (16, ow 16), (154, vb z)]) (fun z => [(13, AO u), (14, AO q), (16, AO E)]) (fun w2 h => ?_) (fun l2 X => ?_)
       ·refine AW.cN h (fun V0 h => ?_) (fun V0 h => ?_)
        ·refine AW.join (r := r) (fun z : (List Rect) => ref04_Combine_k11 F i u M z) (fun z => [(0, AL a), (1, AL b), (2, vi p), (7, AL l), (8, AL e), (13, ow 13), (14, ow 14), (15, vi i)]) (fun z => [(13, AO u), (14, AO z)]) (fun U1 h => ?_) (fun n2 K0 => ?_)
         ·exact AW.exit (Kn.R Fm (j0 (u, U1) h))
         ·refine AW.SG0 Fm 3 [(0, AL a), (1, AL b), (2, vi p), (7, AL l), (8, AL e), (13, ow 13), (14, ow 14), (15, vi i), (156, vi (lI q)), (157, vi 0)] [(13, AO u), (14, AO q)] ?_
          refine AW.block (AW.loopF (E' := fun z => [(0, AL a), (1, AL b), (2, vi p), (7, AL l), (8, AL e), (13, ow 13), (14, ow 14), (15, vi i), (156, vi (lI q)), (157, vi z.1)]) (S' := fun z => [(13, AO u), (14, AO z.2)]) (fun t2 z m2 I0 h => ?_) h)
          obtain ⟨A, B⟩ := z
          refine AW.SG0 Fm 1 [(0, AL a), (1, AL b), (2, vi p), (7, AL l), (8, AL e), (13, ow 13), (14, ow 14), (15, vi i), (156, vi (lI q)), (157, vi A), (158, vb (decide (A < (lI q))))] [(13, AO u), (14, AO B)] ?_
          refine AW.seq (AW.cN h (fun W0 h => ?_) (fun W0 h => ?_))
          ·refine AW.skip (AW.seq (AW.block (AW.SG0 Fm 2 [(0, AL a), (1, AL b), (2, vi p), (7, AL l), (8, AL e), (13, ow 13), (14, ow 14), (15, vi i), (19, vi A), (156, vi (lI q)), (157, vi A)] [(13, AO u), (14, AO B)] ?_)))
           obtain ⟨D1, E1, b0, h⟩ := gS3 h
           refine AW.WP Fm [.s, .s, .s, .s, .s, .s, .s, .s, .s, .s] [(0, AL a), (1, AL b), (2, vi p), (7, AL l), (8, AL e), (13, ow 13), (14, ow 14), (15, vi i), (156, vi (lI q)), (157, vi A)] [(13, AO u), (14, AO (α := Rect) (List.set B A.toNat (⟨(gl B A.toNat).left_, (gl B A.toNat).low_, (gl B A.toNat).right_, (gl e (i + 1).toNat)⟩ : Rect)))] (cA (cT D1) (cA E1 (cA b0 (cT (toNat_lt b0))))) [(14, .arr 4 (List.length (α := Rect) B) (fun j => if j = A.toNat then splice ((LF (α := Rect) B) A.toNat) 3 [.int .i64 (gl e (i + 1).toNat)] else (LF (α := Rect) B) j))] ⟨OLe.is (Is.set (Is.refl B) (toNat_lt b0) (⟨(gl B A.toNat).left_, (gl B A.toNat).low_, (gl B A.toNat).right_, (gl e (i + 1).toNat)⟩ : Rect) (by kernel_rfl)), ⟨⟩⟩ ?_
           obtain ⟨G1, h⟩ := gS h
           refine AW.pN Fm [.s, .s] [(0, AL a), (1, AL b), (2, vi p), (7, AL l), (8, AL e), (13, ow 13), (14, ow 14), (15, vi i), (156, vi (lI q)), (157, vi (A + 1))] [(13, AO u), (14, AO (α := Rect) (List.set B A.toNat (⟨(gl B A.toNat).left_, (gl B A.toNat).low_, (gl B A.toNat).right_, (gl e (i + 1).toNat)⟩ : Rect)))] (cT (cT G1)) ?_
           exact Kn.R Fm (I0 ((A + 1), (List.set B A.toNat (⟨(gl B A.toNat).left_, (gl B A.toNat).low_, (gl B A.toNat).right_, (gl e (i + 1).toNat)⟩ : Rect))) h)
          ·exact AW.exit (Kn.R Fm (K0 B h))
        ·exact AW.skip (Kn.R Fm (L0 () h))
       ·rcases br_or h with ⟨N, h⟩ | ⟨N, h⟩
        ·obtain ⟨V, m0, h⟩ := bS h
         rcases br_or h with ⟨Z, h⟩ | ⟨Z, h⟩
         ·obtain ⟨l0, B1, h⟩ := gS2 h
          refine AW.G Fm [.s, .s, .s, .w (vb true), .s, .s, .k (sE (vb V)), .s, .w (vb true), .s, .s, .s, .s, .s, .s, .s, .s, .s, .s] (fun K => _ ∧ K 6 ∧ _ ∧ _ ∧ _ ∧ _ ∧ True) [(0, AL a), (1, AL b), (2, vi p), (7, AL l), (8, AL e), (13, ow 13), (14, ow 14), (15, vi i), (16, ow 16), (140, ow 14), (141, ow 16), (142, vb V), (145, ow 14), (146, .v (.c (.pte 14 4 ((0 : Int).toNat) 0))), (147, .v (.c (.pte 14 4 ((0 : Int).toNat) 3))), (148, vi (gl q (0 : Int).toNat).high_), (149, AL e), (150, vi i), (151, .v (.c (.elm [.int .i64 (gl e i.toNat)]))), (152, vi (gl e i.toNat)), (153, vb (((gl q (0 : Int).toNat).high_) == (gl e i.toNat))), (154, vb (((gl q (0 : Int).toNat).high_) == (gl e i.toNat)))] [(13, AO u), (14, AO q), (16, AO E)] ⟨ALe.bool N, KAt.callBX (ref04_same_spec m0) Tryz.call200 [14, 16] [.tmp 140, .tmp 141] rfl (by kernel_rfl) (by kernel_rfl) ⟨ArgB.own 14 (es := 4) (n := List.length q) (f := LF q) (by kernel_rfl) (by kernel_rfl) (by kernel_rfl) (by kernel_rfl), ArgB.own 16 (es := 4) (n := List.length E) (f := LF E) (by kernel_rfl) (by kernel_rfl) (by kernel_rfl) (by kernel_rfl), ⟨⟩⟩, ALe.bool Z, l0, (toNat_lt l0), B1, ⟨⟩⟩ ?_
          exact Kn.R Fm (X (((gl q (0 : Int).toNat).high_) == (gl e i.toNat)) h)
         ·refine AW.G Fm [.s, .s, .s, .w (vb true), .s, .s, .k (sE (vb V)), .s, .w (vb false), .s, .s, .s, .s, .s, .s, .s, .s, .s, .s] (fun K => _ ∧ K 6 ∧ _ ∧ True) [(0, AL a), (1, AL b), (2, vi p), (7, AL l), (8, AL e), (13, ow 13), (14, ow 14), (15, vi i), (16, ow 16), (140, ow 14), (141, ow 16), (142, vb V), (154, vb false)] [(13, AO u), (14, AO q), (16, AO E)] ⟨ALe.bool N, KAt.callBX (ref04_same_spec m0) Tryz.call200 [14, 16] [.tmp 140, .tmp 141] rfl (by kernel_rfl) (by kernel_rfl) ⟨ArgB.own 14 (es := 4) (n := List.length q) (f := LF q) (by kernel_rfl) (by kernel_rfl) (by kernel_rfl) (by kernel_rfl), ArgB.own 16 (es := 4) (n := List.length E) (f := LF E) (by kernel_rfl) (by kernel_rfl) (by kernel_rfl) (by kernel_rfl), ⟨⟩⟩, ALe.bool Z, ⟨⟩⟩ ?_
          exact Kn.R Fm (X false h)
        ·refine AW.pN Fm [.s, .s, .s, .w (vb false), .s, .s, .s, .s, .s, .s, .s, .s, .s, .s, .s, .s, .s, .s, .s] [(0, AL a), (1, AL b), (2, vi p), (7, AL l), (8, AL e), (13, ow 13), (14, ow 14), (15, vi i), (16, ow 16), (154, vb false)] [(13, AO u), (14, AO q), (16, AO E)] (cT (ALe.bool N)) ?_
         exact Kn.R Fm (X false h)
     ·refine AW.SG0 Fm 1 [(0, AL a), (1, AL b), (2, vi p), (7, AL l), (8, AL e), (13, ow 13), (14, ow 14), (15, vi i), (16, ow 16), (17, vi 0)] [(13, AO u), (14, AO q), (16, AO (α := Rect) ([] : List Rect))] ?_
      refine AW.block (Kn.r Fm [(0, AL a), (1, AL b), (2, vi p), (7, AL l), (8, AL e), (13, ow 13), (14, ow 14), (15, vi i), (16, ow 16), (17, vi 0)] [(13, AO u), (14, AO q), (16, AO ([] : List Rect))] (by kernel_rfl) ?_)
      refine AW.loopF (E' := fun z => [(0, AL a), (1, AL b), (2, vi p), (7, AL l), (8, AL e), (13, ow 13), (14, ow 14), (15, vi i), (16, ow 16), (17, vi z.1)]) (S' := fun z => [(13, AO u), (14, AO q), (16, AO z.2)]) (fun e0 z e2 E0 h => ?_) h
      obtain ⟨t, o⟩ := z
      refine AW.seq ?_
      obtain ⟨c1, h⟩ := gS h
      refine AW.SP Fm [.s, .s, .s, .s, .s] [(0, AL a), (1, AL b), (2, vi p), (7, AL l), (8, AL e), (13, ow 13), (14, ow 14), (15, vi i), (16, ow 16), (17, vi t), (61, vb (decide ((t + 1) < (lI l))))] [(13, AO u), (14, AO q), (16, AO o)] (cT (cT c1)) ?_
      refine AW.cN h (fun R0 h => ?_) (fun R0 h => ?_)
      ·refine AW.skip (AW.join (r := r) (fun z : (List Rect) => ref04_Combine_k7 F t e0 z) (fun z => [(0, AL a), (1, AL b), (2, vi p), (7, AL l), (8, AL e), (13, ow 13), (14, ow 14), (15, vi i), (16, ow 16), (17, vi t)]) (fun z => [(13, AO u), (14, AO q), (16, AO z)]) (fun p0 h => ?_) (fun j2 W => ?_))
       ·obtain ⟨A1, h⟩ := gS h
        refine AW.pN Fm [.s, .s, .s] [(0, AL a), (1, AL b), (2, vi p), (7, AL l), (8, AL e), (13, ow 13), (14, ow 14), (15, vi i), (16, ow 16), (17, vi (t + 1))] [(13, AO u), (14, AO q), (16, AO p0)] (cT (cT A1)) ?_
        exact Kn.R Fm (E0 ((t + 1), p0) h)
       ·refine AW.block (AW.seq (AW.seq ?_))
        obtain ⟨d1, e1, h⟩ := gS2 h
        obtain ⟨X1, P1, h⟩ := bS h
        obtain ⟨i1, j1, h⟩ := gS2 h
        obtain ⟨Y1, R1, h⟩ := bS h
        obtain ⟨t0, T1, h⟩ := bS h
        refine AW.G Fm [.s, .s, .s, .s, .s, .s, .s, .s, .s, .k (cE [] [] (vb X1) [] []), .s, .s, .s, .s, .s, .s, .s, .s, .s, .k (cE [] [] (vb Y1) [] []), .s, .k (cE [] [] (vb t0) [] []), .s] (fun K => _ ∧ _ ∧ K 9 ∧ _ ∧ _ ∧ K 19 ∧ K 21 ∧ True) [(0, AL a), (1, AL b), (2, vi p), (7, AL l), (8, AL e), (13, ow 13), (14, ow 14), (15, vi i), (16, ow 16), (17, vi t), (86, vb (!t0))] [(13, AO u), (14, AO q), (16, AO o)] ⟨d1, e1, KAt.CC (ref04_inside_spec P1) Tryz.call108 [], i1, j1, KAt.CC (ref04_inside_spec R1) Tryz.call108 [], KAt.CC (ref04_keep_spec T1) Tryz.call199 [], ⟨⟩⟩ ?_
        refine AW.cN h (fun T0 h => ?_) (fun T0 h => ?_)
        ·exact AW.exit (Kn.R Fm (W o h))
        ·refine AW.skip (AW.SG0 Fm 3 [(0, AL a), (1, AL b), (2, vi p), (7, AL l), (8, AL e), (13, ow 13), (14, ow 14), (15, vi i), (16, ow 16), (17, vi t), (18, vi (lI o))] [(13, AO u), (14, AO q), (16, AO o)] ?_)
         refine AW.join (r := r) (fun z : Bool => ref04_Combine_k6 F l e i t o e0 z) (fun z => [(0, AL a), (1, AL b), (2, vi p), (7, AL l), (8, AL e), (13, ow 13), (14, ow 14), (15, vi i), (16, ow 16), (17, vi t), (18, vi (lI o)), (103, vb z)]) (fun z => [(13, AO u), (14, AO q), (16, AO o)]) (fun u2 h => ?_) (fun i2 i0 => ?_)
         ·refine AW.cN h (fun U0 h => ?_) (fun U0 h => ?_)
          ·obtain ⟨m1, n1, o1, a0, h⟩ := gS4 h
           refine AW.WP Fm [.s, .s, .s, .s, .s, .s, .s, .s, .s, .s, .s] [(0, AL a), (1, AL b), (2, vi p), (7, AL l), (8, AL e), (13, ow 13), (14, ow 14), (15, vi i), (16, ow 16), (17, vi t)] [(13, AO u), (14, AO q), (16, AO (α := Rect) (List.set o ((lI o) - 1).toNat (⟨(gl o ((lI o) - 1).toNat).left_, (gl o ((lI o) - 1).toNat).low_, (gl l (t + 1).toNat), (gl o ((lI o) - 1).toNat).high_⟩ : Rect)))] (cA (cT m1) (cA (cT n1) (cA o1 (cA a0 (cT (toNat_lt a0)))))) [(16, .arr 4 (List.length (α := Rect) o) (fun j => if j = ((lI o) - 1).toNat then splice ((LF (α := Rect) o) ((lI o) - 1).toNat) 2 [.int .i64 (gl l (t + 1).toNat)] else (LF (α := Rect) o) j))] ⟨OLe.is (Is.set (Is.refl o) (toNat_lt a0) (⟨(gl o ((lI o) - 1).toNat).left_, (gl o ((lI o) - 1).toNat).low_, (gl l (t + 1).toNat), (gl o ((lI o) - 1).toNat).high_⟩ : Rect) (by kernel_rfl)), ⟨⟩⟩ ?_
           exact Kn.R Fm (W (List.set o ((lI o) - 1).toNat (⟨(gl o ((lI o) - 1).toNat).left_, (gl o ((lI o) - 1).toNat).low_, (gl l (t + 1).toNat), (gl o ((lI o) - 1).toNat).high_⟩ : Rect)) h)
          ·obtain ⟨p1, q1, s1, t1, h⟩ := gS4 h
           obtain ⟨u1, w1, y1, h⟩ := gS3 h
           refine AW.WP Fm [.s, .s, .s, .s, .s, .s, .s, .s, .s, .s, .s, .s, .s, .s, .s, .s, .s, .s, .s, .s, .w (AL (α := Rect) ([(⟨(gl l t.toNat), (gl e i.toNat), (gl l (t + 1).toNat), (gl e (i + 1).toNat)⟩ : Rect)] : List Rect)), .s, .s] [(0, AL a), (1, AL b), (2, vi p), (7, AL l), (8, AL e), (13, ow 13), (14, ow 14), (15, vi i), (16, ow 135), (17, vi t)] [(13, AO u), (14, AO q), (135, AO (α := Rect) (o ++ ([(⟨(gl l t.toNat), (gl e i.toNat), (gl l (t + 1).toNat), (gl e (i + 1).toNat)⟩ : Rect)] : List Rect)))] (cA p1 (cA q1 (cA (cT s1) (cA t1 (cA (cT u1) (cA w1 (cA (ALe.lst (.lit ([(⟨(gl l t.toNat), (gl e i.toNat), (gl l (t + 1).toNat), (gl e (i + 1).toNat)⟩ : Rect)] : List Rect) (by kernel_rfl)) : ALe (.v (.c (.d (.lst 1 (litF 4 [.int .i64 (gl l t.toNat), .int .i64 (gl e i.toNat), .int .i64 (gl l (t + 1).toNat), .int .i64 (gl e (i + 1).toNat)]))))) (AL (α := Rect) ([(⟨(gl l t.toNat), (gl e i.toNat), (gl l (t + 1).toNat), (gl e (i + 1).toNat)⟩ : Rect)] : List Rect))) (cT (cA y1 (cT (Is.refl ([(⟨(gl l t.toNat), (gl e i.toNat), (gl l (t + 1).toNat), (gl e (i + 1).toNat)⟩ : Rect)] : List Rect) : Is (List.length (α := Rect) ([(⟨(gl l t.toNat), (gl e i.toNat), (gl l (t + 1).toNat), (gl e (i + 1).toNat)⟩ : Rect)] : List Rect)) (LF (α := Rect) ([(⟨(gl l t.toNat), (gl e i.toNat), (gl l (t + 1).toNat), (gl e (i + 1).toNat)⟩ : Rect)] : List Rect)) ([(⟨(gl l t.toNat), (gl e i.toNat), (gl l (t + 1).toNat), (gl e (i + 1).toNat)⟩ : Rect)] : List Rect)).len)))))))))) [(135, .arr 4 ((List.length (α := Rect) o) + (List.length (α := Rect) ([(⟨(gl l t.toNat), (gl e i.toNat), (gl l (t + 1).toNat), (gl e (i + 1).toNat)⟩ : Rect)] : List Rect))) (appF (List.length (α := Rect) o) (LF (α := Rect) o) (LF (α := Rect) ([(⟨(gl l t.toNat), (gl e i.toNat), (gl l (t + 1).toNat), (gl e (i + 1).toNat)⟩ : Rect)] : List Rect))))] ⟨OLe.is (Is.app (Is.refl o) (Is.refl ([(⟨(gl l t.toNat), (gl e i.toNat), (gl l (t + 1).toNat), (gl e (i + 1).toNat)⟩ : Rect)] : List Rect))), ⟨⟩⟩ ?_
           exact Kn.RE Fm [(16, 135)] (W (o ++ ([(⟨(gl l t.toNat), (gl e i.toNat), (gl l (t + 1).toNat), (gl e (i + 1).toNat)⟩ : Rect)] : List Rect)) h)
         ·rcases br_or h with ⟨Y, h⟩ | ⟨Y, h⟩
          ·obtain ⟨k1, k0, l1, h⟩ := gS3 h
           refine AW.pN Fm [.s, .s, .w (vb true), .s, .s, .s, .s, .s, .s, .s, .s, .s, .s, .s, .s] [(0, AL a), (1, AL b), (2, vi p), (7, AL l), (8, AL e), (13, ow 13), (14, ow 14), (15, vi i), (16, ow 16), (17, vi t), (18, vi (lI o)), (92, ow 16), (93, vi (lI o)), (94, vi ((lI o) - 1)), (95, .v (.c (.pte 16 4 (((lI o) - 1).toNat) 0))), (96, .v (.c (.pte 16 4 (((lI o) - 1).toNat) 2))), (97, vi (gl o ((lI o) - 1).toNat).right_), (98, AL l), (99, vi t), (100, .v (.c (.elm [.int .i64 (gl l t.toNat)]))), (101, vi (gl l t.toNat)), (102, vb (((gl o ((lI o) - 1).toNat).right_) == (gl l t.toNat))), (103, vb (((gl o ((lI o) - 1).toNat).right_) == (gl l t.toNat)))] [(13, AO u), (14, AO q), (16, AO o)] (cA (ALe.bool Y) (cA (cT k1) (cA k0 (cA (toNat_lt k0) (cT l1))))) ?_
           exact Kn.R Fm (i0 (((gl o ((lI o) - 1).toNat).right_) == (gl l t.toNat)) h)
          ·refine AW.pN Fm [.s, .s, .w (vb false), .s, .s, .s, .s, .s, .s, .s, .s, .s, .s, .s, .s] [(0, AL a), (1, AL b), (2, vi p), (7, AL l), (8, AL e), (13, ow 13), (14, ow 14), (15, vi i), (16, ow 16), (17, vi t), (18, vi (lI o)), (103, vb false)] [(13, AO u), (14, AO q), (16, AO o)] (cT (ALe.bool Y)) ?_
           exact Kn.R Fm (i0 false h)
      ·exact AW.exit (Kn.R Fm (H0 o h))
   ·exact AW.exit (Kn.R Fm (M0 (u, q) h))
 ·refine AW.SP Fm [.s, .s, .w (AL (α := (List Rect)) ([a, b] : List (List Rect))), .s, .s] [(0, AL a), (1, AL b), (2, vi p), (7, ow 7), (8, ow 8), (22, AL (α := (List Rect)) ([a, b] : List (List Rect))), (23, vi ((List.length ([a, b] : List (List Rect)) : Nat) : Int)), (24, vi 0)] [(7, AO (α := Int) ([] : List Int)), (8, AO (α := Int) ([] : List Int))] (cT (ALe.lst (.lit ([a, b] : List (List Rect)) (by kernel_rfl)) : ALe (.v (.c (.d (.lst 2 (litF 1 [DL a, DL b]))))) (AL (α := (List Rect)) ([a, b] : List (List Rect))))) ?_
  refine AW.block (Kn.r Fm [(0, AL a), (1, AL b), (2, vi p), (7, ow 7), (8, ow 8), (22, AL (α := (List Rect)) ([a, b] : List (List Rect))), (23, vi ((List.length ([a, b] : List (List Rect)) : Nat) : Int)), (24, vi 0)] [(7, AO (α := Int) ([] : List Int)), (8, AO (α := Int) ([] : List Int))] (by kernel_rfl) ?_)
  refine Kn.frz [(0, AL a), (1, AL b), (2, vi p), (7, AL (α := Int) ([] : List Int)), (8, ow 8), (22, AL (α := (List Rect)) ([a, b] : List (List Rect))), (23, vi ((List.length ([a, b] : List (List Rect)) : Nat) : Int)), (24, vi 0)] [(8, AO (α := Int) ([] : List Int))] (by kernel_rfl) (by kernel_rfl) (by kernel_rfl) ?_
  refine Kn.r Fm [(0, AL a), (1, AL b), (2, vi p), (7, AL (α := Int) ([] : List Int)), (8, ow 8), (22, AL (α := (List Rect)) ([a, b] : List (List Rect))), (23, vi ((List.length ([a, b] : List (List Rect)) : Nat) : Int)), (24, vi 0)] [(8, AO (α := Int) ([] : List Int))] (by kernel_rfl) ?_
  refine Kn.frz [(0, AL a), (1, AL b), (2, vi p), (7, AL (α := Int) ([] : List Int)), (8, AL (α := Int) ([] : List Int)), (22, AL (α := (List Rect)) ([a, b] : List (List Rect))), (23, vi ((List.length ([a, b] : List (List Rect)) : Nat) : Int)), (24, vi 0)] [] (by kernel_rfl) (by kernel_rfl) (by kernel_rfl) ?_
  refine Kn.r Fm [(0, AL a), (1, AL b), (2, vi p), (7, AL ([] : List Int)), (8, AL ([] : List Int)), (22, AL (α := (List Rect)) ([a, b] : List (List Rect))), (23, vi ((List.length ([a, b] : List (List Rect)) : Nat) : Int)), (24, vi 0)] [] (by kernel_rfl) ?_
  refine AW.loopF (E' := fun z => [(0, AL a), (1, AL b), (2, vi p), (7, AL z.1), (8, AL z.2.1), (22, AL (α := (List Rect)) ([a, b] : List (List Rect))), (23, vi ((List.length ([a, b] : List (List Rect)) : Nat) : Int)), (24, vi z.2.2)]) (S' := fun z => []) (fun u0 z Z1 w0 h => ?_) h
  obtain ⟨O, P, y⟩ := z
  refine AW.SG0 Fm 1 [(0, AL a), (1, AL b), (2, vi p), (7, AL O), (8, AL P), (22, AL (α := (List Rect)) ([a, b] : List (List Rect))), (23, vi ((List.length ([a, b] : List (List Rect)) : Nat) : Int)), (24, vi y), (25, vb (decide (y < ((List.length ([a, b] : List (List Rect)) : Nat) : Int))))] [] ?_
  refine AW.seq (AW.cN h (fun N0 h => ?_) (fun N0 h => ?_))
  ·refine AW.skip (AW.join (r := r) (fun z : (List Int) × (List Int) => ref04_Combine_k2 F y u0 z.1 z.2) (fun z => [(0, AL a), (1, AL b), (2, vi p), (7, AL z.1), (8, AL z.2), (22, AL (α := (List Rect)) ([a, b] : List (List Rect))), (23, vi ((List.length ([a, b] : List (List Rect)) : Nat) : Int)), (24, vi y)]) (fun z => []) (fun z h => ?_) (fun b2 A0 => ?_))
   ·obtain ⟨n0, o0⟩ := z
    obtain ⟨a1, h⟩ := gS h
    refine AW.pN Fm [.s, .s] [(0, AL a), (1, AL b), (2, vi p), (7, AL n0), (8, AL o0), (22, AL (α := (List Rect)) ([a, b] : List (List Rect))), (23, vi ((List.length ([a, b] : List (List Rect)) : Nat) : Int)), (24, vi (y + 1))] [] (cT (cT a1)) ?_
    exact Kn.R Fm (w0 (n0, o0, (y + 1)) h)
   ·refine AW.block ?_
    obtain ⟨X0, h⟩ := gS h
    refine AW.SP Fm [.s, .s, .s] [(0, AL a), (1, AL b), (2, vi p), (7, AL O), (8, AL P), (10, AL (α := Rect) (gl ([a, b] : List (List Rect)) y.toNat)), (22, AL (α := (List Rect)) ([a, b] : List (List Rect))), (23, vi ((List.length ([a, b] : List (List Rect)) : Nat) : Int)), (24, vi y)] [] (cT X0) ?_
    refine AW.SG0 Fm 3 [(0, AL a), (1, AL b), (2, vi p), (7, AL O), (8, AL P), (22, AL (α := (List Rect)) ([a, b] : List (List Rect))), (23, vi ((List.length ([a, b] : List (List Rect)) : Nat) : Int)), (24, vi y), (28, AL (α := Rect) (gl ([a, b] : List (List Rect)) y.toNat)), (29, vi ((List.length (gl ([a, b] : List (List Rect)) y.toNat) : Nat) : Int)), (30, vi 0)] [] ?_
    refine AW.block (AW.loopF (E' := fun z => [(0, AL a), (1, AL b), (2, vi p), (7, AL z.1), (8, AL z.2.1), (22, AL (α := (List Rect)) ([a, b] : List (List Rect))), (23, vi ((List.length ([a, b] : List (List Rect)) : Nat) : Int)), (24, vi y), (28, AL (α := Rect) (gl ([a, b] : List (List Rect)) y.toNat)), (29, vi ((List.length (gl ([a, b] : List (List Rect)) y.toNat) : Nat) : Int)), (30, vi z.2.2)]) (S' := fun z => []) (fun s2 z a2 y0 h => ?_) h)
    obtain ⟨c0, d0, H⟩ := z
    refine AW.SG0 Fm 1 [(0, AL a), (1, AL b), (2, vi p), (7, AL c0), (8, AL d0), (22, AL (α := (List Rect)) ([a, b] : List (List Rect))), (23, vi ((List.length ([a, b] : List (List Rect)) : Nat) : Int)), (24, vi y), (28, AL (α := Rect) (gl ([a, b] : List (List Rect)) y.toNat)), (29, vi ((List.length (gl ([a, b] : List (List Rect)) y.toNat) : Nat) : Int)), (30, vi H), (31, vb (decide (H < ((List.length (gl ([a, b] : List (List Rect)) y.toNat) : Nat) : Int))))] [] ?_
    refine AW.seq (AW.cN h (fun O0 h => ?_) (fun O0 h => ?_))
    ·refine AW.skip (AW.seq (AW.block ?_))
     obtain ⟨Y0, h⟩ := gS h
     refine AW.SP Fm [.s, .s, .s, .s] [(0, AL a), (1, AL b), (2, vi p), (7, AL c0), (8, AL d0), (12, pt 12), (22, AL (α := (List Rect)) ([a, b] : List (List Rect))), (23, vi ((List.length ([a, b] : List (List Rect)) : Nat) : Int)), (24, vi y), (28, AL (α := Rect) (gl ([a, b] : List (List Rect)) y.toNat)), (29, vi ((List.length (gl ([a, b] : List (List Rect)) y.toNat) : Nat) : Int)), (30, vi H)] [(12, bx [ci ((gl (gl ([a, b] : List (List Rect)) y.toNat) H.toNat).left_), ci ((gl (gl ([a, b] : List (List Rect)) y.toNat) H.toNat).low_), ci ((gl (gl ([a, b] : List (List Rect)) y.toNat) H.toNat).right_), ci ((gl (gl ([a, b] : List (List Rect)) y.toNat) H.toNat).high_)])] (cT Y0) ?_
     obtain ⟨V1, L1, h⟩ := bS h
     obtain ⟨T, M1, h⟩ := bS h
     obtain ⟨W1, N1, h⟩ := bS h
     obtain ⟨U, O1, h⟩ := bS h
     refine AW.G Fm [.s, .s, .s, .k (cE [] [] (AL V1) [] []), .s, .s, .k (cE [] [] (AL T) [] []), .s, .s, .s, .k (cE [] [] (AL W1) [] []), .s, .s, .k (cE [] [] (AL U) [] []), .s, .s] (fun K => K 3 ∧ K 6 ∧ K 10 ∧ K 13 ∧ True) [(0, AL a), (1, AL b), (2, vi p), (7, AL T), (8, AL U), (22, AL (α := (List Rect)) ([a, b] : List (List Rect))), (23, vi ((List.length ([a, b] : List (List Rect)) : Nat) : Int)), (24, vi y), (28, AL (α := Rect) (gl ([a, b] : List (List Rect)) y.toNat)), (29, vi ((List.length (gl ([a, b] : List (List Rect)) y.toNat) : Nat) : Int)), (30, vi H)] [] ⟨KAt.CC (ref01_Put_spec L1) Tryz.call131 [], KAt.CC (ref01_Put_spec M1) Tryz.call131 [], KAt.CC (ref01_Put_spec N1) Tryz.call131 [], KAt.CC (ref01_Put_spec O1) Tryz.call131 [], ⟨⟩⟩ ?_
     obtain ⟨Z0, h⟩ := gS h
     refine AW.pN Fm [.s, .s] [(0, AL a), (1, AL b), (2, vi p), (7, AL T), (8, AL U), (22, AL (α := (List Rect)) ([a, b] : List (List Rect))), (23, vi ((List.length ([a, b] : List (List Rect)) : Nat) : Int)), (24, vi y), (28, AL (α := Rect) (gl ([a, b] : List (List Rect)) y.toNat)), (29, vi ((List.length (gl ([a, b] : List (List Rect)) y.toNat) : Nat) : Int)), (30, vi (H + 1))] [] (cT (cT Z0)) ?_
     exact Kn.R Fm (y0 (T, U, (H + 1)) h)
    ·exact AW.exit (Kn.R Fm (A0 (c0, d0) h))
  ·exact AW.exit (Kn.R Fm (B0 (O, P) h))
theorem ref04_Rects_spec {F : Nat} {c : (List Rect)} {d : (List Rect)} {r : Bool} (h : ref04_Rects F c d = some r) :
  FSpec Tryz.prog 127 [AL c, AL d] [] (vb r) [] := by
 refine FI Tryz.func127 prog_mixed prog_lay fun C Fm => ?_
 unfold ref04_Rects at h
 refine AW.SG0 Fm 1 [(0, AL c), (1, AL d)] [] ?_
 refine AW.seq (AW.SG0 Fm 5 [(0, AL c), (1, AL d), (10, vb ((lI c) != (lI d)))] [] ?_)
 refine AW.cN h (fun j h => ?_) (fun j h => ?_)
 ·refine AW.SG0 Fm 1 [(4, vb false)] [] ?_
  refine AW.ret ?_
  obtain rfl := Option.some.inj h
  exact Kn.D Fm
 ·refine AW.skip (AW.join (r := r) (fun z : Unit => ref04_Rects_k1 F) (fun z => []) (fun z => []) (fun z h => ?_) (fun t i => ?_))
  ·refine AW.SG0 Fm 1 [(4, vb true)] [] ?_
   refine AW.ret ?_
   obtain rfl := Option.some.inj h
   exact Kn.D Fm
  ·refine AW.SG0 Fm 3 [(0, AL c), (1, AL d), (12, vi (lI c)), (13, vi 0)] [] ?_
   refine AW.block (AW.loopF (E' := fun z => [(0, AL c), (1, AL d), (12, vi (lI c)), (13, vi z)]) (S' := fun z => []) (fun u a q e h => ?_) h)
   refine AW.SG0 Fm 1 [(0, AL c), (1, AL d), (12, vi (lI c)), (13, vi a), (14, vb (decide (a < (lI c))))] [] ?_
   refine AW.seq (AW.cN h (fun l h => ?_) (fun l h => ?_))
   ·refine AW.skip (AW.seq (AW.block (AW.SG0 Fm 2 [(0, AL c), (1, AL d), (5, vi a), (12, vi (lI c)), (13, vi a)] [] ?_)))
    obtain ⟨n, o, h⟩ := gS2 h
    refine AW.SG Fm [.s, .s, .s, .s, .s, .s, .s, .s, .k (sE (vb (!((((gl c a.toNat).left_) == ((gl d a.toNat).left_)) && ((((gl c a.toNat).low_) == ((gl d a.toNat).low_)) && ((((gl c a.toNat).right_) == ((gl d a.toNat).right_)) && ((((gl c a.toNat).high_) == ((gl d a.toNat).high_)) && true)))))))] (fun K => _ ∧ _ ∧ K 8 ∧ True) [(0, AL c), (1, AL d), (12, vi (lI c)), (13, vi a), (24, vb (!((((gl c a.toNat).left_) == ((gl d a.toNat).left_)) && ((((gl c a.toNat).low_) == ((gl d a.toNat).low_)) && ((((gl c a.toNat).right_) == ((gl d a.toNat).right_)) && ((((gl c a.toNat).high_) == ((gl d a.toNat).high_)) && true))))))] [] ⟨n, o, KAt.eq (xs := [ci ((gl c a.toNat).left_), ci ((gl c a.toNat).low_), ci ((gl c a.toNat).right_), ci ((gl c a.toNat).high_)]) (ys := [ci ((gl d a.toNat).left_), ci ((gl d a.toNat).low_), ci ((gl d a.toNat).right_), ci ((gl d a.toNat).high_)]) eqT108 false (b := ((((gl c a.toNat).left_) == ((gl d a.toNat).left_)) && ((((gl c a.toNat).low_) == ((gl d a.toNat).low_)) && ((((gl c a.toNat).right_) == ((gl d a.toNat).right_)) && ((((gl c a.toNat).high_) == ((gl d a.toNat).high_)) && true))))) rfl rfl (by kernel_rfl) (by kernel_rfl) (by kernel_rfl) (by kernel_rfl), ⟨⟩⟩ ?_
    refine AW.cN h (fun m h => ?_) (fun m h => ?_)
    ·refine AW.SG0 Fm 1 [(4, vb false)] [] ?_
     refine AW.ret ?_
     obtain rfl := Option.some.inj h
     exact Kn.D Fm
    ·refine AW.skip ?_
     obtain ⟨p, h⟩ := gS h
     refine AW.pN Fm [.s, .s] [(0, AL c), (1, AL d), (12, vi (lI c)), (13, vi (a + 1))] [] (cT (cT p)) ?_
     exact Kn.R Fm (e (a + 1) h)
   ·exact AW.exit (Kn.R Fm (i () h))
theorem ref04_Valid_spec {F : Nat} {a : Region} {r : Bool} (h : ref04_Valid F a = some r) :
  FSpec Tryz.prog 107 [.v (.g [.d (DL a.rects_)])] [] (vb r) [] := by
 refine FI Tryz.func107 prog_mixed prog_lay fun C Fm => ?_
 unfold ref04_Valid at h
 refine AW.SG0 Fm 2 [(1, pt 1)] [(1, bx [.d (DL a.rects_)])] ?_
 refine AW.seq (AW.SG0 Fm 4 [(1, pt 1), (8, vb (decide ((120 : Int) < (lI a.rects_))))] [(1, bx [.d (DL a.rects_)])] ?_)
 refine AW.cN h (fun m h => ?_) (fun m h => ?_)
 ·refine AW.SG0 Fm 1 [(2, vb false)] [] ?_
  refine AW.ret ?_
  obtain rfl := Option.some.inj h
  exact Kn.D Fm
 ·refine AW.skip (AW.join (r := r) (fun z : Unit => ref04_Valid_k1 F a) (fun z => [(1, pt 1)]) (fun z => [(1, bx [.d (DL a.rects_)])]) (fun z h => ?_) (fun E l => ?_))
  ·refine AW.seq ?_
   obtain ⟨A, w, h⟩ := bS h
   obtain ⟨i, y, h⟩ := bS h
   refine AW.G Fm [.s, .s, .k (cE [] [] (AL A) [] []), .s, .s, .k (cE [] [] (vb i) [] []), .s] (fun K => K 2 ∧ K 5 ∧ True) [(2, vb i)] [] ⟨KAt.callX (ref04_Combine_spec w) Tryz.call122 [] [] [.tmp 21, .const (.slice none 0 0), .const (.int .i64 1)] rfl (by kernel_rfl) (by kernel_rfl) (by kernel_rfl) ⟨.p, ArgT.plain (by kernel_rfl) (ALe.c (CLe.fl .nil)) (by kernel_rfl), .p, ⟨⟩⟩, KAt.CC (ref04_Rects_spec y) Tryz.call127 [], ⟨⟩⟩ ?_
   refine AW.ret ?_
   obtain rfl := Option.some.inj h
   exact Kn.D Fm
  ·refine AW.SG0 Fm 4 [(1, pt 1), (10, AL a.rects_), (11, vi (lI a.rects_)), (12, vi 0)] [(1, bx [.d (DL a.rects_)])] ?_
   refine AW.block (AW.loopF (E' := fun z => [(1, pt 1), (10, AL a.rects_), (11, vi (lI a.rects_)), (12, vi z)]) (S' := fun z => [(1, bx [.d (DL a.rects_)])]) (fun H b B j h => ?_) h)
   refine AW.SG0 Fm 1 [(1, pt 1), (10, AL a.rects_), (11, vi (lI a.rects_)), (12, vi b), (13, vb (decide (b < (lI a.rects_))))] [(1, bx [.d (DL a.rects_)])] ?_
   refine AW.seq (AW.cN h (fun n h => ?_) (fun n h => ?_))
   ·refine AW.skip (AW.seq (AW.block ?_))
    obtain ⟨q, h⟩ := gS h
    refine AW.SP Fm [.s, .s, .s, .s] [(1, pt 1), (4, pt 4), (10, AL a.rects_), (11, vi (lI a.rects_)), (12, vi b)] [(1, bx [.d (DL a.rects_)]), (4, bx [ci ((gl a.rects_ b.toNat).left_), ci ((gl a.rects_ b.toNat).low_), ci ((gl a.rects_ b.toNat).right_), ci ((gl a.rects_ b.toNat).high_)])] (cT q) ?_
    refine AW.seq ?_
    obtain ⟨e, u, h⟩ := bS h
    refine AW.G Fm [.s, .k (cE [] [] (vb e) [] []), .s] (fun K => K 1 ∧ True) [(1, pt 1), (10, AL a.rects_), (11, vi (lI a.rects_)), (12, vi b), (18, vb (!e))] [(1, bx [.d (DL a.rects_)])] ⟨KAt.CC (ref04_proper_spec u) Tryz.call170 [], ⟨⟩⟩ ?_
    refine AW.cN h (fun o h => ?_) (fun o h => ?_)
    ·refine AW.SG0 Fm 1 [(2, vb false)] [] ?_
     refine AW.ret ?_
     obtain rfl := Option.some.inj h
     exact Kn.D Fm
    ·refine AW.skip ?_
     obtain ⟨t, h⟩ := gS h
     refine AW.pN Fm [.s, .s] [(1, pt 1), (10, AL a.rects_), (11, vi (lI a.rects_)), (12, vi (b + 1))] [(1, bx [.d (DL a.rects_)])] (cT (cT t)) ?_
     exact Kn.R Fm (j (b + 1) h)
   ·exact AW.exit (Kn.R Fm (l () h))
theorem ref04_Size_spec {F : Nat} {a : (List Rect)} {r : Int} (h : ref04_Size F a = some r) :
  FSpec Tryz.prog 125 [AL a] [] (vi r) [] := by
 refine FI Tryz.func125 prog_mixed prog_lay fun C Fm => ?_
 unfold ref04_Size at h
 refine AW.SG0 Fm 1 [(0, AL a)] [] ?_
 refine AW.SG0 Fm 1 [(0, AL a), (3, vi 0)] [] ?_
 refine AW.join (r := r) (fun z : Int => ref04_Size_k1 F z) (fun z => [(3, vi z)]) (fun z => []) (fun p h => ?_) (fun t e => ?_)
 ·refine AW.SG0 Fm 2 [(2, vi p)] [] ?_
  refine AW.ret ?_
  obtain rfl := Option.some.inj h
  exact Kn.D Fm
 ·refine AW.SG0 Fm 3 [(3, vi 0), (6, AL a), (7, vi (lI a)), (8, vi 0)] [] ?_
  refine AW.block (AW.loopF (E' := fun z => [(3, vi z.1), (6, AL a), (7, vi (lI a)), (8, vi z.2)]) (S' := fun z => []) (fun u z q d h => ?_) h)
  obtain ⟨c, b⟩ := z
  refine AW.SG0 Fm 1 [(3, vi c), (6, AL a), (7, vi (lI a)), (8, vi b), (9, vb (decide (b < (lI a))))] [] ?_
  refine AW.seq (AW.cN h (fun i h => ?_) (fun i h => ?_))
  ·refine AW.skip (AW.seq (AW.block ?_))
   obtain ⟨j, h⟩ := gS h
   refine AW.SP Fm [.s, .s, .s, .s] [(3, vi c), (5, pt 5), (6, AL a), (7, vi (lI a)), (8, vi b)] [(5, bx [ci ((gl a b.toNat).left_), ci ((gl a b.toNat).low_), ci ((gl a b.toNat).right_), ci ((gl a b.toNat).high_)])] (cT j) ?_
   obtain ⟨k, l, m, n, h⟩ := gS4 h
   refine AW.pN Fm [.s, .s, .s, .s, .s, .s, .s, .s, .s, .s, .s, .s, .s, .s] [(3, vi (c + ((((gl a b.toNat).right_) - ((gl a b.toNat).left_)) * (((gl a b.toNat).high_) - ((gl a b.toNat).low_))))), (6, AL a), (7, vi (lI a)), (8, vi b)] [] (cA (cT k) (cA (cT l) (cA (cT m) (cT (cT n))))) ?_
   obtain ⟨o, h⟩ := gS h
   refine AW.pN Fm [.s, .s] [(3, vi (c + ((((gl a b.toNat).right_) - ((gl a b.toNat).left_)) * (((gl a b.toNat).high_) - ((gl a b.toNat).low_))))), (6, AL a), (7, vi (lI a)), (8, vi (b + 1))] [] (cT (cT o)) ?_
   exact Kn.R Fm (d ((c + ((((gl a b.toNat).right_) - ((gl a b.toNat).left_)) * (((gl a b.toNat).high_) - ((gl a b.toNat).low_)))), (b + 1)) h)
  ·exact AW.exit (Kn.R Fm (e c h))
theorem ref04_Area_spec {F : Nat} {a : Region} {r : Int} (h : ref04_Area F a = some r) :
  FSpec Tryz.prog 40 [.v (.g [.d (DL a.rects_)])] [] (vi r) [] := by
 refine FI Tryz.func40 prog_mixed prog_lay fun C Fm => ?_
 unfold ref04_Area at h
 refine AW.SG0 Fm 2 [(1, pt 1)] [(1, bx [.d (DL a.rects_)])] ?_
 refine AW.seq (AW.seq ?_)
 obtain ⟨b, i, h⟩ := bS h
 refine AW.G Fm [.s, .k (cE [] [] (vb b) [] []), .s] (fun K => K 1 ∧ True) [(1, pt 1), (5, vb (!b))] [(1, bx [.d (DL a.rects_)])] ⟨KAt.CC (ref04_Valid_spec i) Tryz.call107 [], ⟨⟩⟩ ?_
 refine AW.cN h (fun e h => ?_) (fun e h => ?_)
 ·refine AW.SG0 Fm 1 [(2, vi 0)] [] ?_
  refine AW.ret ?_
  obtain rfl := Option.some.inj h
  exact Kn.D Fm
 ·refine AW.skip (AW.seq ?_)
  obtain ⟨c, j, h⟩ := bS h
  refine AW.G Fm [.s, .s, .k (cE [] [] (vi c) [] []), .s] (fun K => K 2 ∧ True) [(2, vi c)] [] ⟨KAt.CC (ref04_Size_spec j) Tryz.call125 [], ⟨⟩⟩ ?_
  refine AW.ret ?_
  obtain rfl := Option.some.inj h
  exact Kn.D Fm
theorem law11_awake_spec {F : Nat} {r : Bool} (h : law11_awake F = some r) :
  FSpec Tryz.prog 54 [] [] (vb r) [] := by
 refine FI Tryz.func54 prog_mixed prog_lay fun C Fm => ?_
 unfold law11_awake at h
 refine AW.SG0 Fm 1 [] [] ?_
 refine AW.SP Fm [.s, .w (AL (α := Rect) ([(⟨0, 0, (10 : Int), (10 : Int)⟩ : Rect)] : List Rect)), .s, .s, .s] [(1, pt 1)] [(1, bx [.d (DL (α := Rect) ([(⟨0, 0, (10 : Int), (10 : Int)⟩ : Rect)] : List Rect))])] (cT (ALe.lst (.lit ([(⟨0, 0, (10 : Int), (10 : Int)⟩ : Rect)] : List Rect) (by kernel_rfl)) : ALe (.v (.c (.d (.lst 1 (litF 4 [.int .i64 0, .int .i64 0, .int .i64 (10 : Int), .int .i64 (10 : Int)]))))) (AL (α := Rect) ([(⟨0, 0, (10 : Int), (10 : Int)⟩ : Rect)] : List Rect)))) ?_
 refine AW.SP Fm [.s, .w (AL (α := Rect) ([(⟨(3 : Int), (3 : Int), (5 : Int), (5 : Int)⟩ : Rect)] : List Rect)), .s, .s, .w (AL (α := Feature) ([(⟨(1 : Int), (8 : Int), 0, (9 : Int), (⟨([(⟨(3 : Int), (3 : Int), (5 : Int), (5 : Int)⟩ : Rect)] : List Rect)⟩ : Region)⟩ : Feature)] : List Feature)), .s] [(1, pt 1), (2, AL (α := Feature) ([(⟨(1 : Int), (8 : Int), 0, (9 : Int), (⟨([(⟨(3 : Int), (3 : Int), (5 : Int), (5 : Int)⟩ : Rect)] : List Rect)⟩ : Region)⟩ : Feature)] : List Feature))] [(1, bx [.d (DL (α := Rect) ([(⟨0, 0, (10 : Int), (10 : Int)⟩ : Rect)] : List Rect))])] (cA (ALe.lst (.lit ([(⟨(3 : Int), (3 : Int), (5 : Int), (5 : Int)⟩ : Rect)] : List Rect) (by kernel_rfl)) : ALe (.v (.c (.d (.lst 1 (litF 4 [.int .i64 (3 : Int), .int .i64 (3 : Int), .int .i64 (5 : Int), .int .i64 (5 : Int)]))))) (AL (α := Rect) ([(⟨(3 : Int), (3 : Int), (5 : Int), (5 : Int)⟩ : Rect)] : List Rect))) (cT (ALe.lst (.lit ([(⟨(1 : Int), (8 : Int), 0, (9 : Int), (⟨([(⟨(3 : Int), (3 : Int), (5 : Int), (5 : Int)⟩ : Rect)] : List Rect)⟩ : Region)⟩ : Feature)] : List Feature) (by kernel_rfl)) : ALe (.v (.c (.d (.lst 1 (litF 5 [.int .i64 (1 : Int), .int .i64 (8 : Int), .int .i64 0, .int .i64 (9 : Int), DL (α := Rect) ([(⟨(3 : Int), (3 : Int), (5 : Int), (5 : Int)⟩ : Rect)] : List Rect)]))))) (AL (α := Feature) ([(⟨(1 : Int), (8 : Int), 0, (9 : Int), (⟨([(⟨(3 : Int), (3 : Int), (5 : Int), (5 : Int)⟩ : Rect)] : List Rect)⟩ : Region)⟩ : Feature)] : List Feature))))) ?_
 refine AW.seq ?_
 obtain ⟨a, p, h⟩ := bS h
 refine AW.G Fm [.s, .s, .k (cE [] [] (.t [.g [.d (DL a.1.rects_)], .c (ci a.2)]) [] []), .s, .s, .s, .s, .s, .s] (fun K => K 2 ∧ True) [(1, pt 1), (2, AL (α := Feature) ([(⟨(1 : Int), (8 : Int), 0, (9 : Int), (⟨([(⟨(3 : Int), (3 : Int), (5 : Int), (5 : Int)⟩ : Rect)] : List Rect)⟩ : Region)⟩ : Feature)] : List Feature)), (3, pt 3), (4, vi a.2)] [(1, bx [.d (DL (α := Rect) ([(⟨0, 0, (10 : Int), (10 : Int)⟩ : Rect)] : List Rect))]), (3, bx [.d (DL a.1.rects_)])] ⟨KAt.CC (zone_Eligible_spec p) Tryz.call60 [], ⟨⟩⟩ ?_
 refine AW.seq ?_
 obtain ⟨j, q, h⟩ := bS h
 refine AW.G Fm [.s, .s, .k (cE [] [] (.t [.g [.d (DL j.1.rects_)], .c (ci j.2)]) [] []), .s, .s, .s, .s, .s, .s] (fun K => K 2 ∧ True) [(3, pt 3), (4, vi a.2), (5, pt 5), (6, vi j.2)] [(3, bx [.d (DL a.1.rects_)]), (5, bx [.d (DL j.1.rects_)])] ⟨KAt.CC (zone_Eligible_spec q) Tryz.call60 [], ⟨⟩⟩ ?_
 refine AW.join (r := r) (fun z : Bool => law11_awake_k0 F z) (fun z => [(0, vb z)]) (fun z => []) (fun A h => ?_) (fun y e => ?_)
 ·refine AW.ret ?_
  obtain rfl := Option.some.inj h
  exact Kn.D Fm
 ·rcases br_or h with ⟨b, h⟩ | ⟨b, h⟩
  ·obtain ⟨n, m, h⟩ := bS h
   rcases br_or h with ⟨i, h⟩ | ⟨i, h⟩
   ·rcases br_or h with ⟨l, h⟩ | ⟨l, h⟩
    ·obtain ⟨o, u, h⟩ := bS h
     refine AW.G Fm [.s, .s, .w (vb true), .s, .k (cE [] [] (vi n) [] []), .s, .s, .w (vb true), .s, .s, .s, .w (vb true), .s, .k (cE [] [] (vi o) [] []), .s, .s, .s] (fun K => _ ∧ K 4 ∧ _ ∧ _ ∧ K 13 ∧ True) [(0, vb (o == (96 : Int)))] [] ⟨ALe.bool b, KAt.CC (ref04_Area_spec m) Tryz.call40 [], ALe.bool i, ALe.bool l, KAt.CC (ref04_Area_spec u) Tryz.call40 [], ⟨⟩⟩ ?_
     exact Kn.R Fm (e (o == (96 : Int)) h)
    ·refine AW.G Fm [.s, .s, .w (vb true), .s, .k (cE [] [] (vi n) [] []), .s, .s, .w (vb true), .s, .s, .s, .w (vb false), .s, .s, .s, .s, .s] (fun K => _ ∧ K 4 ∧ _ ∧ _ ∧ True) [(0, vb false)] [] ⟨ALe.bool b, KAt.CC (ref04_Area_spec m) Tryz.call40 [], ALe.bool i, ALe.bool l, ⟨⟩⟩ ?_
     exact Kn.R Fm (e false h)
   ·refine AW.G Fm [.s, .s, .w (vb true), .s, .k (cE [] [] (vi n) [] []), .s, .s, .w (vb false), .s, .s, .s, .s, .s, .s, .s, .s, .s] (fun K => _ ∧ K 4 ∧ _ ∧ True) [(0, vb false)] [] ⟨ALe.bool b, KAt.CC (ref04_Area_spec m) Tryz.call40 [], ALe.bool i, ⟨⟩⟩ ?_
    exact Kn.R Fm (e false h)
  ·refine AW.pN Fm [.s, .s, .w (vb false), .s, .s, .s, .s, .s, .s, .s, .s, .s, .s, .s, .s, .s, .s] [(0, vb false)] [] (cT (ALe.bool b)) ?_
   exact Kn.R Fm (e false h)
theorem keep_New_spec {F : Nat} {a : (List Int)} {r : Tape} (h : keep_New F a = some r) :
  FSpec Tryz.prog 14 [AL a] [] (pt 100) [(100, bx (gC r))] := by
 refine FI Tryz.func14 prog_mixed prog_lay fun C Fm => ?_
 unfold keep_New at h
 refine AW.SG0 Fm 1 [(0, AL a)] [] ?_
 obtain ⟨b, h⟩ := gS h
 refine AW.SP Fm [.s, .s, .s, .s, .w (AL (α := Int) (a.take (gmin (lI a) (400 : Int)).toNat)), .s, .s, .s] [(2, pt 9)] [(9, bx [.d (DL (α := Int) (a.take (gmin (lI a) (400 : Int)).toNat)), ci 0])] (cA (⟨b, (Is.refl a).len⟩ : ((sl (List.length a) (LF a) none (some (gmin (lI a) (400 : Int)))).2 ∧ ∀ j, j < List.length a → (LF a j).length = 1)) (cT (ALe.lst (sl_is a none (some (gmin (lI a) (400 : Int))) b) : ALe (.v (.c (.d (.lst (sl (List.length a) (LF a) none (some (gmin (lI a) (400 : Int)))).1.1 (sl (List.length a) (LF a) none (some (gmin (lI a) (400 : Int)))).1.2)))) (AL (α := Int) (a.take (gmin (lI a) (400 : Int)).toNat))))) ?_
 refine AW.ret ?_
 obtain rfl := Option.some.inj h
 exact Kn.re Fm [(100, 9)] [(2, pt 100)] [(100, bx [.d (DL (α := Int) (a.take (gmin (lI a) (400 : Int)).toNat)), ci 0])] (by kernel_rfl) (by kernel_rfl) (by kernel_rfl) (by kernel_rfl) (Kn.dn Fm (by kernel_rfl))
theorem keep_Mod_spec {F : Nat} {b : Int} {a : Int} {r : Int} (h : keep_Mod F b a = some r) :
  FSpec Tryz.prog 47 [vi b, vi a] [] (vi r) [] := by
 refine FI Tryz.func47 prog_mixed prog_lay fun C Fm => ?_
 unfold keep_Mod at h
 refine AW.SG0 Fm 1 [(0, vi b), (1, vi a)] [] ?_
 refine AW.seq (AW.SG0 Fm 2 [(0, vi b), (1, vi a), (6, vb (decide (a < (1 : Int))))] [] ?_)
 refine AW.cN h (fun d h => ?_) (fun d h => ?_)
 ·refine AW.SG0 Fm 1 [(4, vi 0)] [] ?_
  refine AW.ret ?_
  obtain rfl := Option.some.inj h
  exact Kn.D Fm
 ·refine AW.skip ?_
  obtain ⟨i, h⟩ := gS h
  refine AW.SP Fm [.s, .s, .s, .s] [(0, vi (b.tmod a)), (1, vi a)] [] (cT i) ?_
  refine AW.join (r := r) (fun z : Int => keep_Mod_k0 F z) (fun z => [(0, vi z)]) (fun z => []) (fun k h => ?_) (fun l c => ?_)
  ·refine AW.SG0 Fm 2 [(4, vi k)] [] ?_
   refine AW.ret ?_
   obtain rfl := Option.some.inj h
   exact Kn.D Fm
  ·refine AW.SG0 Fm 2 [(0, vi (b.tmod a)), (1, vi a), (11, vb (decide ((b.tmod a) < (0 : Int))))] [] ?_
   refine AW.cN h (fun e h => ?_) (fun e h => ?_)
   ·obtain ⟨j, h⟩ := gS h
    refine AW.pN Fm [.s, .s, .s, .s] [(0, vi ((b.tmod a) + a))] [] (cT (cT j)) ?_
    exact Kn.R Fm (c ((b.tmod a) + a) h)
   ·exact AW.skip (Kn.R Fm (c (b.tmod a) h))
theorem keep_Tape_Next_spec {F : Nat} {a : Tape} {b : Int} {r : Tape × Int} (h : keep_Tape_Next F a b = some r) :
  FSpec Tryz.prog 16 [pt 0, vi b] [(0, bx (gC a))] (vi r.2) [(0, bx (gC r.1))] := by
 refine FI Tryz.func16 prog_mixed prog_lay fun C Fm => ?_
 unfold keep_Tape_Next at h
 refine AW.SG0 Fm 1 [(0, pt 0), (1, vi b)] [(0, bx (gC a))] ?_
 refine AW.seq (AW.SG0 Fm 10 [(0, pt 0), (1, vi b), (14, vb (decide ((lI a.l_) ≤ a.at_)))] [(0, bx (gC a))] ?_)
 refine AW.cN h (fun e h => ?_) (fun e h => ?_)
 ·refine AW.SG0 Fm 1 [(4, vi 0)] [(0, bx (gC a))] ?_
  refine AW.ret ?_
  obtain rfl := Option.some.inj h
  exact Kn.D Fm
 ·refine AW.skip ?_
  obtain ⟨i, h⟩ := gS h
  refine AW.SP Fm [.s, .s, .s, .s, .s, .s, .s, .s] [(0, pt 0), (1, vi b)] [(0, bx [.d (DL a.l_), ci (a.at_ + 1)])] (cT (cT i)) ?_
  refine AW.seq ?_
  obtain ⟨j, l, h⟩ := gS2 h
  obtain ⟨c, m, h⟩ := bS h
  refine AW.G Fm [.s, .s, .s, .s, .s, .s, .s, .s, .s, .s, .s, .s, .k (cE [] [] (vi c) [] []), .s] (fun K => (_ ∧ True) ∧ _ ∧ K 12 ∧ True) [(4, vi c)] [(0, bx [.d (DL a.l_), ci (a.at_ + 1)])] ⟨⟨j, ⟨⟩⟩, l, KAt.CC (keep_Mod_spec m) Tryz.call47 [], ⟨⟩⟩ ?_
  refine AW.ret ?_
  obtain rfl := Option.some.inj h
  exact Kn.D Fm
theorem keep_Tape_Range_spec {F : Nat} {a : Tape} {b : Int} {d : Int} {r : Tape × Int} (h : keep_Tape_Range F a b d = some r) :
  FSpec Tryz.prog 70 [pt 0, vi b, vi d] [(0, bx (gC a))] (vi r.2) [(0, bx (gC r.1))] := by
 refine FI Tryz.func70 prog_mixed prog_lay fun C Fm => ?_
 unfold keep_Tape_Range at h
 refine AW.SG0 Fm 1 [(0, pt 0), (1, vi b), (2, vi d)] [(0, bx (gC a))] ?_
 refine AW.seq ?_
 obtain ⟨e, i, h⟩ := gS2 h
 obtain ⟨c, l, h⟩ := bS h
 obtain ⟨j, h⟩ := gS h
 refine AW.G Fm [.s, .s, .s, .s, .s, .s, .k (cE [(0, 0)] [] (vi c.2) [(0, bx (gC a))] [(0, bx (gC c.1))]), .s, .s] (fun K => (_ ∧ True) ∧ (_ ∧ True) ∧ K 6 ∧ (_ ∧ True) ∧ True) [(6, vi (b + c.2))] [(0, bx (gC c.1))] ⟨⟨e, ⟨⟩⟩, ⟨i, ⟨⟩⟩, KAt.CC (keep_Tape_Next_spec l) Tryz.call16 [(0, 0)], ⟨j, ⟨⟩⟩, ⟨⟩⟩ ?_
 refine AW.ret ?_
 obtain rfl := Option.some.inj h
 exact Kn.D Fm
end Go.Ab
end
