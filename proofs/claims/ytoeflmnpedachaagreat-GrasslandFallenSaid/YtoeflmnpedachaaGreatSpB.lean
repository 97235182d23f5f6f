/- The code follows the plain programs: whenever the plain program has a result. -/
import Derived.Test.YtoeflmnpedachaaGreatSpA
import Derived.Test.YtoeflmnpedachaaGreatBaA
set_option linter.unusedVariables false
set_option linter.unusedSimpArgs false
section
namespace Go.Ab
open Go.Proofs
set_option linter.unusedVariables false
set_option maxRecDepth 100000
theorem slices_Concat_Span_spec {F : Nat} {a : (List (List Span))} {r : (List Span)} (h : slices_Concat_Span F a = some r) :
  FSpec Tryz.prog 233 [AL a] [] (ow 100) [(100, AO (α := Span) r)] := by
 refine FI Tryz.func233 prog_mixed prog_lay fun C Fm => ?_
 unfold slices_Concat_Span at h
 refine AW.SG Fm [.m] (fun K => True) [(0, AL a)] [] True.intro ?_
 refine AW.SG0 Fm 1 [(0, AL a), (3, vi 0)] [] ?_
 refine AW.join (r := r) (fun z : Int => slices_Concat_Span_k1 F a z) (fun z => [(0, AL a), (3, vi z)]) (fun z => []) (fun T h => ?_) (fun L n => ?_)
 ·refine AW.seq ?_
  obtain ⟨i, H, h⟩ := bS h
  refine AW.G Fm [.s, .k (cE [(100, 24)] [] (ow 100) [] [(100, AO i)]), .s] (fun K => K 1 ∧ True) [(0, AL a), (6, ow 24)] [(24, AO i)] ⟨KAt.CC (growN_spec H) Tryz.call267 [(100, 24)], ⟨⟩⟩ ?_
  refine AW.join (r := r) (fun z : (List Span) => slices_Concat_Span_k3 F z) (fun z => [(6, ow 24)]) (fun z => [(24, AO z)]) (fun j h => ?_) (fun N p => ?_)
  ·refine AW.SG0 Fm 2 [(2, ow 24)] [(24, AO j)] ?_
   refine AW.ret ?_
   obtain rfl := Option.some.inj h
   exact Kn.re Fm [(100, 24)] [(2, ow 100)] [(100, AO j)] (by kernel_rfl) (by kernel_rfl) (by kernel_rfl) (by kernel_rfl) (Kn.dn Fm (by kernel_rfl))
  ·refine AW.SG0 Fm 3 [(6, ow 24), (25, AL a), (26, vi (lI a)), (27, vi 0)] [(24, AO i)] ?_
   refine AW.block (AW.loopF (E' := fun z => [(6, ow 24), (25, AL a), (26, vi (lI a)), (27, vi z.1)]) (S' := fun z => [(24, AO z.2)]) (fun P z M o h => ?_) h)
   obtain ⟨b, d⟩ := z
   refine AW.SG0 Fm 1 [(6, ow 24), (25, AL a), (26, vi (lI a)), (27, vi b), (28, vb (decide (b < (lI a))))] [(24, AO d)] ?_
   refine AW.seq (AW.cN h (fun u h => ?_) (fun u h => ?_))
   ·refine AW.skip (AW.seq (AW.block ?_))
    obtain ⟨B, h⟩ := gS h
    refine AW.SP Fm [.s, .s, .s] [(6, ow 24), (8, AL (α := Span) (gl a b.toNat)), (25, AL a), (26, vi (lI a)), (27, vi b)] [(24, AO d)] (cT B) ?_
    obtain ⟨D, h⟩ := gS h
    refine AW.WP Fm [.s, .s, .s, .s] [(6, ow 33), (25, AL a), (26, vi (lI a)), (27, vi b)] [(33, AO (α := Span) (d ++ (gl a b.toNat)))] (cT (cA D (cT (Is.refl (gl a b.toNat) : Is (List.length (α := Span) (gl a b.toNat)) (LF (α := Span) (gl a b.toNat)) (gl a b.toNat)).len))) [(33, .arr 2 ((List.length (α := Span) d) + (List.length (α := Span) (gl a b.toNat))) (appF (List.length (α := Span) d) (LF (α := Span) d) (LF (α := Span) (gl a b.toNat))))] ⟨OLe.is (Is.app (Is.refl d) (Is.refl (gl a b.toNat))), ⟨⟩⟩ ?_
    obtain ⟨E, h⟩ := gS h
    refine AW.pN Fm [.s, .s] [(6, ow 33), (25, AL a), (26, vi (lI a)), (27, vi (b + 1))] [(33, AO (α := Span) (d ++ (gl a b.toNat)))] (cT (cT E)) ?_
    exact Kn.RE Fm [(24, 33)] (o ((b + 1), (d ++ (gl a b.toNat))) h)
   ·exact AW.exit (Kn.R Fm (p d h))
 ·refine AW.SG0 Fm 3 [(0, AL a), (3, vi 0), (9, AL a), (10, vi (lI a)), (11, vi 0)] [] ?_
  refine AW.block (AW.loopF (E' := fun z => [(0, AL a), (3, vi z.1), (9, AL a), (10, vi (lI a)), (11, vi z.2)]) (S' := fun z => []) (fun O z I l h => ?_) h)
  obtain ⟨e, c⟩ := z
  refine AW.SG0 Fm 1 [(0, AL a), (3, vi e), (9, AL a), (10, vi (lI a)), (11, vi c), (12, vb (decide (c < (lI a))))] [] ?_
  refine AW.seq (AW.cN h (fun q h => ?_) (fun q h => ?_))
  ·refine AW.skip (AW.seq (AW.block ?_))
   obtain ⟨w, h⟩ := gS h
   refine AW.SP Fm [.s, .s, .s] [(0, AL a), (3, vi e), (5, AL (α := Span) (gl a c.toNat)), (9, AL a), (10, vi (lI a)), (11, vi c)] [] (cT w) ?_
   obtain ⟨y, h⟩ := gS h
   refine AW.SP Fm [.s, .s, .s, .s, .s] [(0, AL a), (3, vi (e + (lI (gl a c.toNat)))), (9, AL a), (10, vi (lI a)), (11, vi c)] [] (cT (cT y)) ?_
   refine AW.SG0 Fm 2 [(0, AL a), (3, vi (e + (lI (gl a c.toNat)))), (9, AL a), (10, vi (lI a)), (11, vi c), (20, vb (decide ((e + (lI (gl a c.toNat))) < (0 : Int))))] [] ?_
   refine AW.cN h (fun t h => ?_) (fun t h => ?_)
   ·cases h
   ·refine AW.skip ?_
    obtain ⟨A, h⟩ := gS h
    refine AW.pN Fm [.s, .s] [(0, AL a), (3, vi (e + (lI (gl a c.toNat)))), (9, AL a), (10, vi (lI a)), (11, vi (c + 1))] [] (cT (cT A)) ?_
    exact Kn.R Fm (l ((e + (lI (gl a c.toNat))), (c + 1)) h)
  ·exact AW.exit (Kn.R Fm (n e h))
theorem region_inside_1_spec {F : Nat} {b : Span} {a : Int} {r : Bool} (h : region_inside_1 F b a = some r) :
  FSpec Tryz.prog 269 [gE b, pt 0] [(0, .box true [ci a])] (vb r) [(0, .box true [ci a])] := by
 refine FI Tryz.func269 prog_mixed prog_lay fun C Fm => ?_
 unfold region_inside_1 at h
 refine AW.SG0 Fm 2 [(1, pt 0), (2, pt 2)] [(0, .box true [ci a]), (2, bx (gC b))] ?_
 refine AW.join (r := r) (fun z : Bool => region_inside_1_k0 F z) (fun z => [(3, vb z)]) (fun z => [(0, .box true [ci a])]) (fun i h => ?_) (fun e d => ?_)
 ·refine AW.ret ?_
  obtain rfl := Option.some.inj h
  exact Kn.D Fm
 ·rcases br_or h with ⟨c, h⟩ | ⟨c, h⟩
  ·refine AW.pN Fm [.s, .s, .s, .s, .w (vb true), .s, .s, .s, .s, .s, .s] [(3, vb (decide (a < b.right_)))] [(0, .box true [ci a])] (cT (ALe.bool c)) ?_
   exact Kn.R Fm (d (decide (a < b.right_)) h)
  ·refine AW.pN Fm [.s, .s, .s, .s, .w (vb false), .s, .s, .s, .s, .s, .s] [(3, vb false)] [(0, .box true [ci a])] (cT (ALe.bool c)) ?_
   exact Kn.R Fm (d false h)
theorem slices_IndexFunc_Span_spec {F : Nat} {a : (List Span)} {d : Span → Option Bool} {r : Int} (h : slices_IndexFunc_Span F a d = some r) :
  FSpec Tryz.prog 290 [AL a, .v (.c (.sem (CloOK Tryz.prog (FR_Span_Bool d))))] [] (vi r) [] := by
 refine FI Tryz.func290 prog_mixed prog_lay fun C Fm => ?_
 unfold slices_IndexFunc_Span at h
 refine AW.SG0 Fm 1 [(0, AL a), (1, .v (.c (.sem (CloOK Tryz.prog (FR_Span_Bool d)))))] [] ?_
 refine AW.join (r := r) (fun z : Unit => slices_IndexFunc_Span_k1 F) (fun z => []) (fun z => []) (fun z h => ?_) (fun t j => ?_)
 ·refine AW.SG0 Fm 1 [(4, vi (-1 : Int))] [] ?_
  refine AW.ret ?_
  obtain rfl := Option.some.inj h
  exact Kn.D Fm
 ·refine AW.SG0 Fm 3 [(0, AL a), (1, .v (.c (.sem (CloOK Tryz.prog (FR_Span_Bool d))))), (7, vi (lI a)), (8, vi 0)] [] ?_
  refine AW.block (AW.loopF (E' := fun z => [(0, AL a), (1, .v (.c (.sem (CloOK Tryz.prog (FR_Span_Bool d))))), (7, vi (lI a)), (8, vi z)]) (S' := fun z => []) (fun u b q i h => ?_) h)
  refine AW.SG0 Fm 1 [(0, AL a), (1, .v (.c (.sem (CloOK Tryz.prog (FR_Span_Bool d))))), (7, vi (lI a)), (8, vi b), (9, vb (decide (b < (lI a))))] [] ?_
  refine AW.seq (AW.cN h (fun l h => ?_) (fun l h => ?_))
  ·refine AW.skip (AW.seq (AW.block (AW.SG0 Fm 2 [(0, AL a), (1, .v (.c (.sem (CloOK Tryz.prog (FR_Span_Bool d))))), (5, vi b), (7, vi (lI a)), (8, vi b)] [] ?_)))
   refine AW.seq ?_
   obtain ⟨n, h⟩ := gS h
   obtain ⟨e, p, h⟩ := bS h
   refine AW.G Fm [.s, .s, .s, .s, .s, .k (sE (vb e))] (fun K => _ ∧ K 5 ∧ True) [(0, AL a), (1, .v (.c (.sem (CloOK Tryz.prog (FR_Span_Bool d))))), (5, vi b), (7, vi (lI a)), (8, vi b), (16, vb e)] [] ⟨n, KAt.sem (F := (FR_Span_Bool d)) (args := [.v (.g [ci ((gl a b.toNat).left_), ci ((gl a b.toNat).right_)])]) ⟨(gl a b.toNat), e, p, rfl, rfl⟩ rfl (by kernel_rfl) (by kernel_rfl) (by kernel_rfl), ⟨⟩⟩ ?_
   refine AW.cN h (fun m h => ?_) (fun m h => ?_)
   ·refine AW.SG0 Fm 2 [(4, vi b)] [] ?_
    refine AW.ret ?_
    obtain rfl := Option.some.inj h
    exact Kn.D Fm
   ·refine AW.skip ?_
    obtain ⟨o, h⟩ := gS h
    refine AW.pN Fm [.s, .s] [(0, AL a), (1, .v (.c (.sem (CloOK Tryz.prog (FR_Span_Bool d))))), (7, vi (lI a)), (8, vi (b + 1))] [] (cT (cT o)) ?_
    exact Kn.R Fm (i (b + 1) h)
  ·exact AW.exit (Kn.R Fm (j () h))
theorem slices_ContainsFunc_Span_spec {F : Nat} {a : (List Span)} {b : Span → Option Bool} {r : Bool} (h : slices_ContainsFunc_Span F a b = some r) :
  FSpec Tryz.prog 268 [AL a, .v (.c (.sem (CloOK Tryz.prog (FR_Span_Bool b))))] [] (vb r) [] := by
 refine FI Tryz.func268 prog_mixed prog_lay fun C Fm => ?_
 unfold slices_ContainsFunc_Span at h
 refine AW.SG0 Fm 1 [(0, AL a), (1, .v (.c (.sem (CloOK Tryz.prog (FR_Span_Bool b)))))] [] ?_
 refine AW.seq ?_
 obtain ⟨d, e, h⟩ := bS h
 refine AW.G Fm [.s, .s, .k (cE [] [] (vi d) [] []), .s, .s] (fun K => K 2 ∧ True) [(4, vb (decide ((0 : Int) ≤ d)))] [] ⟨KAt.callX (slices_IndexFunc_Span_spec e) Tryz.call290 [] [] [.tmp 5, .tmp 6] rfl (by kernel_rfl) (by kernel_rfl) (by kernel_rfl) ⟨.p, ArgT.semX (by kernel_rfl) (by kernel_rfl) (by kernel_rfl), ⟨⟩⟩, ⟨⟩⟩ ?_
 refine AW.ret ?_
 obtain rfl := Option.some.inj h
 exact Kn.D Fm
theorem region_inside_spec {F : Nat} {b : (List Span)} {a : Int} {r : Bool} (h : region_inside F b a = some r) :
  FSpec Tryz.prog 234 [AL b, vi a] [] (vb r) [] := by
 refine FI Tryz.func234 prog_mixed prog_lay fun C Fm => ?_
 unfold region_inside at h
 refine AW.SG0 Fm 2 [(0, AL b), (3, pt 3)] [(3, bx [ci a])] ?_
 refine AW.seq ?_
 obtain ⟨c, d, h⟩ := bS h
 refine AW.G Fm [.s, .s, .k (cE [] [3] (vb c) [] []), .s] (fun K => K 2 ∧ True) [(4, vb c)] [] ⟨KAt.callX (slices_ContainsFunc_Span_spec d) Tryz.call268 [] [3] [.tmp 5, .tmp 6] rfl (by kernel_rfl) (by kernel_rfl) (by kernel_rfl) ⟨.p, ArgT.cloX Tryz.call269 [[ci a]] (fun args r hq => by obtain ⟨y0, y, hq, rfl, rfl⟩ := hq; exact Eq.mp (by kernel_rfl) (region_inside_1_spec hq)) (fun args r hq => by obtain ⟨y0, y, hq, rfl, rfl⟩ := hq; rfl) (by kernel_rfl) [3] (by kernel_rfl) (by kernel_rfl) (⟨⟨false, (by kernel_rfl)⟩, ⟨⟩⟩) (by kernel_rfl), ⟨⟩⟩, ⟨⟩⟩ ?_
 refine AW.ret ?_
 obtain rfl := Option.some.inj h
 exact Kn.D Fm
theorem region_merge_spec {F : Nat} {n : (List Span)} {o : (List Span)} {p : Bool → Bool → Option Bool} {r : (List Span)} (h : region_merge F n o p = some r) :
  FSpec Tryz.prog 179 [AL n, AL o, .v (.c (.sem (CloOK Tryz.prog (FR_Bool_Bool_Bool p))))] [] (AL (α := Span) r) [] := by
 refine FI Tryz.func179 prog_mixed prog_lay fun C Fm => ?_
 unfold region_merge at h
 refine AW.SG0 Fm 1 [(0, AL n), (1, AL o), (2, .v (.c (.sem (CloOK Tryz.prog (FR_Bool_Bool_Bool p)))))] [] ?_
 refine AW.SW Fm [.m] (fun K => True) [(0, AL n), (1, AL o), (2, .v (.c (.sem (CloOK Tryz.prog (FR_Bool_Bool_Bool p))))), (7, ow 7)] [(7, AO (α := Int) ([] : List Int))] True.intro [(7, .arr 1 (0) (fun _ => []))] ⟨OLe.is ((Is.nil (α := Int))), ⟨⟩⟩ ?_
 refine AW.join (r := r) (fun z : (List Int) => region_merge_k1 F n o p z) (fun z => [(0, AL n), (1, AL o), (2, .v (.c (.sem (CloOK Tryz.prog (FR_Bool_Bool_Bool p))))), (7, ow 7)]) (fun z => [(7, AO z)]) (fun w0 h => ?_) (fun A0 X => ?_)
 ·refine AW.seq ?_
  obtain ⟨B, p0, h⟩ := bS h
  refine AW.G Fm [.s, .k (cE [(0, 7)] [] (.any) [(0, AO w0)] [(0, AO B)])] (fun K => K 1 ∧ True) [(0, AL n), (1, AL o), (2, .v (.c (.sem (CloOK Tryz.prog (FR_Bool_Bool_Bool p))))), (7, ow 7)] [(7, AO B)] ⟨KAt.CC (sortI_spec p0) Tryz.call145 [(0, 7)], ⟨⟩⟩ ?_
  refine AW.seq ?_
  obtain ⟨a, q0, h⟩ := bS h
  refine AW.G Fm [.s, .k (cE [(0, 7), (100, 34)] [] (ow 100) [(0, AO B)] [(100, AO a)]), .s] (fun K => K 1 ∧ True) [(0, AL n), (1, AL o), (2, .v (.c (.sem (CloOK Tryz.prog (FR_Bool_Bool_Bool p))))), (7, ow 34)] [(34, AO a)] ⟨KAt.CC (slices_Compact_int_spec q0) Tryz.call146 [(0, 7), (100, 34)], ⟨⟩⟩ ?_
  refine AW.SW Fm [.m] (fun K => True) [(0, AL n), (1, AL o), (2, .v (.c (.sem (CloOK Tryz.prog (FR_Bool_Bool_Bool p))))), (7, ow 34), (10, ow 10)] [(10, AO (α := Span) ([] : List Span)), (34, AO a)] True.intro [(10, .arr 2 (0) (fun _ => []))] ⟨OLe.is ((Is.nil (α := Span))), ⟨⟩⟩ ?_
  refine AW.join (r := r) (fun z : (List Span) => region_merge_k5 F z) (fun z => [(10, ow 10)]) (fun z => [(10, AO z)]) (fun A h => ?_) (fun G0 Z => ?_)
  ·refine AW.SG0 Fm 2 [(6, ow 10)] [(10, AO A)] ?_
   refine AW.ret ?_
   obtain rfl := Option.some.inj h
   refine Kn.r Fm [(6, ow 10)] [(10, AO A)] (by kernel_rfl) ?_
   refine Kn.frz [(6, AL A)] [] (by kernel_rfl) (by kernel_rfl) (by kernel_rfl) ?_
   exact Kn.D Fm
  ·refine AW.SG0 Fm 1 [(0, AL n), (1, AL o), (2, .v (.c (.sem (CloOK Tryz.prog (FR_Bool_Bool_Bool p))))), (7, ow 34), (10, ow 10), (11, vi 1)] [(10, AO (α := Span) ([] : List Span)), (34, AO a)] ?_
   refine AW.block (Kn.r Fm [(0, AL n), (1, AL o), (2, .v (.c (.sem (CloOK Tryz.prog (FR_Bool_Bool_Bool p))))), (7, ow 34), (10, ow 10), (11, vi 1)] [(10, AO ([] : List Span)), (34, AO a)] (by kernel_rfl) ?_)
   refine AW.loopF (E' := fun z => [(0, AL n), (1, AL o), (2, .v (.c (.sem (CloOK Tryz.prog (FR_Bool_Bool_Bool p))))), (7, ow 34), (10, ow 10), (11, vi z.1)]) (S' := fun z => [(10, AO z.2), (34, AO a)]) (fun L z B0 Y h => ?_) h
   obtain ⟨b, e⟩ := z
   refine AW.seq (AW.SG0 Fm 4 [(0, AL n), (1, AL o), (2, .v (.c (.sem (CloOK Tryz.prog (FR_Bool_Bool_Bool p))))), (7, ow 34), (10, ow 10), (11, vi b), (38, vb (decide (b < (lI a))))] [(10, AO e), (34, AO a)] ?_)
   refine AW.cN h (fun b0 h => ?_) (fun b0 h => ?_)
   ·refine AW.skip (AW.join (r := r) (fun z : (List Span) => region_merge_k4 F b L z) (fun z => [(0, AL n), (1, AL o), (2, .v (.c (.sem (CloOK Tryz.prog (FR_Bool_Bool_Bool p))))), (7, ow 34), (10, ow 10), (11, vi b)]) (fun z => [(10, AO z), (34, AO a)]) (fun V h => ?_) (fun E0 t => ?_))
    ·obtain ⟨n0, h⟩ := gS h
     refine AW.pN Fm [.s, .s, .s] [(0, AL n), (1, AL o), (2, .v (.c (.sem (CloOK Tryz.prog (FR_Bool_Bool_Bool p))))), (7, ow 34), (10, ow 10), (11, vi (b + 1))] [(10, AO V), (34, AO a)] (cT (cT n0)) ?_
     exact Kn.R Fm (Y ((b + 1), V) h)
    ·refine AW.block ?_
     obtain ⟨j0, O, h⟩ := gS2 h
     refine AW.SP Fm [.s, .s, .s, .s, .s, .s] [(0, AL n), (1, AL o), (2, .v (.c (.sem (CloOK Tryz.prog (FR_Bool_Bool_Bool p))))), (7, ow 34), (10, ow 10), (11, vi b), (12, vi (gl a (b - 1).toNat))] [(10, AO e), (34, AO a)] (cA (cT j0) (cA O (cT (toNat_lt O)))) ?_
     refine AW.seq (AW.seq ?_)
     obtain ⟨E, s0, h⟩ := bS h
     obtain ⟨H, t0, h⟩ := bS h
     obtain ⟨I, u0, h⟩ := bS h
     refine AW.G Fm [.s, .s, .s, .k (cE [] [] (vb E) [] []), .s, .s, .k (cE [] [] (vb H) [] []), .k (sE (vb I)), .s] (fun K => K 3 ∧ K 6 ∧ K 7 ∧ True) [(0, AL n), (1, AL o), (2, .v (.c (.sem (CloOK Tryz.prog (FR_Bool_Bool_Bool p))))), (7, ow 34), (10, ow 10), (11, vi b), (12, vi (gl a (b - 1).toNat)), (54, vb (!I))] [(10, AO e), (34, AO a)] ⟨KAt.CC (region_inside_spec s0) Tryz.call234 [], KAt.CC (region_inside_spec t0) Tryz.call234 [], KAt.sem (F := (FR_Bool_Bool_Bool p)) (args := [vb E, vb H]) ⟨E, H, I, u0, rfl, rfl⟩ rfl (by kernel_rfl) (by kernel_rfl) (by kernel_rfl), ⟨⟩⟩ ?_
     refine AW.cN h (fun c0 h => ?_) (fun c0 h => ?_)
     ·exact AW.exit (Kn.R Fm (t e h))
     ·refine AW.skip (AW.SG0 Fm 3 [(0, AL n), (1, AL o), (2, .v (.c (.sem (CloOK Tryz.prog (FR_Bool_Bool_Bool p))))), (7, ow 34), (10, ow 10), (11, vi b), (12, vi (gl a (b - 1).toNat)), (13, vi (lI e))] [(10, AO e), (34, AO a)] ?_)
      refine AW.join (r := r) (fun z : Bool => region_merge_k3 F a b e L z) (fun z => [(0, AL n), (1, AL o), (2, .v (.c (.sem (CloOK Tryz.prog (FR_Bool_Bool_Bool p))))), (7, ow 34), (10, ow 10), (11, vi b), (12, vi (gl a (b - 1).toNat)), (13, vi (lI e)), (68, vb z)]) (fun z => [(10, AO e), (34, AO a)]) (fun I0 h => ?_) (fun D0 M => ?_)
      ·refine AW.cN h (fun d0 h => ?_) (fun d0 h => ?_)
       ·obtain ⟨l0, T, y, h⟩ := gS3 h
        refine AW.WP Fm [.s, .s, .s, .s, .s, .s, .s, .s, .s, .s] [(0, AL n), (1, AL o), (2, .v (.c (.sem (CloOK Tryz.prog (FR_Bool_Bool_Bool p))))), (7, ow 34), (10, ow 10), (11, vi b)] [(10, AO (α := Span) (List.set e ((lI e) - 1).toNat (⟨(gl e ((lI e) - 1).toNat).left_, (gl a b.toNat)⟩ : Span))), (34, AO a)] (cA (cT l0) (cA T (cA (toNat_lt T) (cA y (cT (toNat_lt y)))))) [(10, .arr 2 (List.length (α := Span) e) (fun j => if j = ((lI e) - 1).toNat then splice ((LF (α := Span) e) ((lI e) - 1).toNat) 1 [.int .i64 (gl a b.toNat)] else (LF (α := Span) e) j))] ⟨OLe.is (Is.set (Is.refl e) (toNat_lt y) (⟨(gl e ((lI e) - 1).toNat).left_, (gl a b.toNat)⟩ : Span) (by kernel_rfl)), ⟨⟩⟩ ?_
        exact Kn.R Fm (t (List.set e ((lI e) - 1).toNat (⟨(gl e ((lI e) - 1).toNat).left_, (gl a b.toNat)⟩ : Span)) h)
       ·obtain ⟨U, m0, h⟩ := gS2 h
        refine AW.WP Fm [.s, .s, .s, .s, .s, .s, .s, .w (AL (α := Span) ([(⟨(gl a (b - 1).toNat), (gl a b.toNat)⟩ : Span)] : List Span)), .s, .s] [(0, AL n), (1, AL o), (2, .v (.c (.sem (CloOK Tryz.prog (FR_Bool_Bool_Bool p))))), (7, ow 34), (10, ow 86), (11, vi b)] [(34, AO a), (86, AO (α := Span) (e ++ ([(⟨(gl a (b - 1).toNat), (gl a b.toNat)⟩ : Span)] : List Span)))] (cA U (cA (toNat_lt U) (cA (ALe.lst (.lit ([(⟨(gl a (b - 1).toNat), (gl a b.toNat)⟩ : Span)] : List Span) (by kernel_rfl)) : ALe (.v (.c (.d (.lst 1 (litF 2 [.int .i64 (gl a (b - 1).toNat), .int .i64 (gl a b.toNat)]))))) (AL (α := Span) ([(⟨(gl a (b - 1).toNat), (gl a b.toNat)⟩ : Span)] : List Span))) (cT (cA m0 (cT (Is.refl ([(⟨(gl a (b - 1).toNat), (gl a b.toNat)⟩ : Span)] : List Span) : Is (List.length (α := Span) ([(⟨(gl a (b - 1).toNat), (gl a b.toNat)⟩ : Span)] : List Span)) (LF (α := Span) ([(⟨(gl a (b - 1).toNat), (gl a b.toNat)⟩ : Span)] : List Span)) ([(⟨(gl a (b - 1).toNat), (gl a b.toNat)⟩ : Span)] : List Span)).len)))))) [(86, .arr 2 ((List.length (α := Span) e) + (List.length (α := Span) ([(⟨(gl a (b - 1).toNat), (gl a b.toNat)⟩ : Span)] : List Span))) (appF (List.length (α := Span) e) (LF (α := Span) e) (LF (α := Span) ([(⟨(gl a (b - 1).toNat), (gl a b.toNat)⟩ : Span)] : List Span))))] ⟨OLe.is (Is.app (Is.refl e) (Is.refl ([(⟨(gl a (b - 1).toNat), (gl a b.toNat)⟩ : Span)] : List Span))), ⟨⟩⟩ ?_
        exact Kn.RE Fm [(10, 86)] (t (e ++ ([(⟨(gl a (b - 1).toNat), (gl a b.toNat)⟩ : Span)] : List Span)) h)
      ·rcases br_or h with ⟨u, h⟩ | ⟨u, h⟩
       ·obtain ⟨k0, P, h⟩ := gS2 h
        refine AW.pN Fm [.s, .s, .w (vb true), .s, .s, .s, .s, .s, .s, .s, .s, .s] [(0, AL n), (1, AL o), (2, .v (.c (.sem (CloOK Tryz.prog (FR_Bool_Bool_Bool p))))), (7, ow 34), (10, ow 10), (11, vi b), (12, vi (gl a (b - 1).toNat)), (13, vi (lI e)), (60, ow 10), (61, vi (lI e)), (62, vi ((lI e) - 1)), (63, .v (.c (.pte 10 2 (((lI e) - 1).toNat) 0))), (64, .v (.c (.pte 10 2 (((lI e) - 1).toNat) 1))), (65, vi (gl e ((lI e) - 1).toNat).right_), (66, vi (gl a (b - 1).toNat)), (67, vb (((gl e ((lI e) - 1).toNat).right_) == (gl a (b - 1).toNat))), (68, vb (((gl e ((lI e) - 1).toNat).right_) == (gl a (b - 1).toNat)))] [(10, AO e), (34, AO a)] (cA (ALe.bool u) (cA (cT k0) (cA P (cT (toNat_lt P))))) ?_
        exact Kn.R Fm (M (((gl e ((lI e) - 1).toNat).right_) == (gl a (b - 1).toNat)) h)
       ·refine AW.pN Fm [.s, .s, .w (vb false), .s, .s, .s, .s, .s, .s, .s, .s, .s] [(0, AL n), (1, AL o), (2, .v (.c (.sem (CloOK Tryz.prog (FR_Bool_Bool_Bool p))))), (7, ow 34), (10, ow 10), (11, vi b), (12, vi (gl a (b - 1).toNat)), (13, vi (lI e)), (68, vb false)] [(10, AO e), (34, AO a)] (cT (ALe.bool u)) ?_
        exact Kn.R Fm (M false h)
   ·exact AW.exit (Kn.R Fm (Z e h))
 ·refine AW.seq ?_
  obtain ⟨i, o0, h⟩ := bS h
  refine AW.G Fm [.s, .s, .w (AL (α := (List Span)) ([n, o] : List (List Span))), .k (cE [(100, 17)] [] (ow 100) [] [(100, AO i)]), .s, .s] (fun K => (ALe (.v (.c (.d (.lst 2 (litF 1 [DL n, DL o]))))) (AL (α := (List Span)) ([n, o] : List (List Span)))) ∧ K 3 ∧ True) [(0, AL n), (1, AL o), (2, .v (.c (.sem (CloOK Tryz.prog (FR_Bool_Bool_Bool p))))), (7, ow 7), (17, ow 17), (18, vi (lI i)), (19, vi 0)] [(7, AO (α := Int) ([] : List Int)), (17, AO i)] ⟨ALe.lst (.lit ([n, o] : List (List Span)) (by kernel_rfl)), KAt.CC (slices_Concat_Span_spec o0) Tryz.call233 [(100, 17)], ⟨⟩⟩ ?_
  refine AW.block (Kn.r Fm [(0, AL n), (1, AL o), (2, .v (.c (.sem (CloOK Tryz.prog (FR_Bool_Bool_Bool p))))), (7, ow 7), (17, ow 17), (18, vi (lI i)), (19, vi 0)] [(7, AO ([] : List Int)), (17, AO i)] (by kernel_rfl) ?_)
  refine AW.loopF (E' := fun z => [(0, AL n), (1, AL o), (2, .v (.c (.sem (CloOK Tryz.prog (FR_Bool_Bool_Bool p))))), (7, ow 7), (17, ow 17), (18, vi (lI i)), (19, vi z.1)]) (S' := fun z => [(7, AO z.2), (17, AO i)]) (fun H0 z y0 W h => ?_) h
  obtain ⟨l, q⟩ := z
  refine AW.SG0 Fm 1 [(0, AL n), (1, AL o), (2, .v (.c (.sem (CloOK Tryz.prog (FR_Bool_Bool_Bool p))))), (7, ow 7), (17, ow 17), (18, vi (lI i)), (19, vi l), (20, vb (decide (l < (lI i))))] [(7, AO q), (17, AO i)] ?_
  refine AW.seq (AW.cN h (fun a0 h => ?_) (fun a0 h => ?_))
  ·refine AW.skip (AW.seq (AW.block ?_))
   obtain ⟨N, h⟩ := gS h
   refine AW.SP Fm [.s, .s, .s, .s] [(0, AL n), (1, AL o), (2, .v (.c (.sem (CloOK Tryz.prog (FR_Bool_Bool_Bool p))))), (7, ow 7), (9, pt 9), (17, ow 17), (18, vi (lI i)), (19, vi l)] [(7, AO q), (9, bx [ci ((gl i l.toNat).left_), ci ((gl i l.toNat).right_)]), (17, AO i)] (cA N (cT (toNat_lt N))) ?_
   obtain ⟨e0, h⟩ := gS h
   refine AW.WP Fm [.s, .s, .s, .s, .s, .w (AL (α := Int) ([(gl i l.toNat).left_, (gl i l.toNat).right_] : List Int)), .s, .s] [(0, AL n), (1, AL o), (2, .v (.c (.sem (CloOK Tryz.prog (FR_Bool_Bool_Bool p))))), (7, ow 29), (17, ow 17), (18, vi (lI i)), (19, vi l)] [(17, AO i), (29, AO (α := Int) (q ++ ([(gl i l.toNat).left_, (gl i l.toNat).right_] : List Int)))] (cA (ALe.lst (.lit ([(gl i l.toNat).left_, (gl i l.toNat).right_] : List Int) (by kernel_rfl)) : ALe (.v (.c (.d (.lst 2 (litF 1 [.int .i64 (gl i l.toNat).left_, .int .i64 (gl i l.toNat).right_]))))) (AL (α := Int) ([(gl i l.toNat).left_, (gl i l.toNat).right_] : List Int))) (cT (cA e0 (cT (Is.refl ([(gl i l.toNat).left_, (gl i l.toNat).right_] : List Int) : Is (List.length (α := Int) ([(gl i l.toNat).left_, (gl i l.toNat).right_] : List Int)) (LF (α := Int) ([(gl i l.toNat).left_, (gl i l.toNat).right_] : List Int)) ([(gl i l.toNat).left_, (gl i l.toNat).right_] : List Int)).len)))) [(29, .arr 1 ((List.length (α := Int) q) + (List.length (α := Int) ([(gl i l.toNat).left_, (gl i l.toNat).right_] : List Int))) (appF (List.length (α := Int) q) (LF (α := Int) q) (LF (α := Int) ([(gl i l.toNat).left_, (gl i l.toNat).right_] : List Int))))] ⟨OLe.is (Is.app (Is.refl q) (Is.refl ([(gl i l.toNat).left_, (gl i l.toNat).right_] : List Int))), ⟨⟩⟩ ?_
   obtain ⟨i0, h⟩ := gS h
   refine AW.pN Fm [.s, .s] [(0, AL n), (1, AL o), (2, .v (.c (.sem (CloOK Tryz.prog (FR_Bool_Bool_Bool p))))), (7, ow 29), (17, ow 17), (18, vi (lI i)), (19, vi (l + 1))] [(17, AO i), (29, AO (α := Int) (q ++ ([(gl i l.toNat).left_, (gl i l.toNat).right_] : List Int)))] (cT (cT i0)) ?_
   exact Kn.RE Fm [(7, 29)] (W ((l + 1), (q ++ ([(gl i l.toNat).left_, (gl i l.toNat).right_] : List Int))) h)
  ·exact AW.exit (Kn.R Fm (X q h))
theorem region_Choose_1_spec {F : Nat} {e : Int} {a : (List Rect)} {b : (List Rect)} {c : Bool → Bool → Option Bool} {r : (List Span)} (h : region_Choose_1 F e a b c = some r) :
  FSpec Tryz.prog 178 [vi e, pt 0, pt 1, pt 2] [(0, .box true [.d (DL a)]), (1, .box true [.d (DL b)]), (2, .box true [.sem (CloOK Tryz.prog (FR_Bool_Bool_Bool c))])] (AL (α := Span) r) [(0, .box true [.d (DL a)]), (1, .box true [.d (DL b)]), (2, .box true [.sem (CloOK Tryz.prog (FR_Bool_Bool_Bool c))])] := by
 refine FI Tryz.func178 prog_mixed prog_lay fun C Fm => ?_
 unfold region_Choose_1 at h
 refine AW.SG0 Fm 1 [(0, vi e), (1, pt 0), (2, pt 1), (3, pt 2)] [(0, .box true [.d (DL a)]), (1, .box true [.d (DL b)]), (2, .box true [.sem (CloOK Tryz.prog (FR_Bool_Bool_Bool c))])] ?_
 refine AW.seq ?_
 obtain ⟨n, j, h⟩ := bS h
 obtain ⟨o, l, h⟩ := bS h
 obtain ⟨i, m, h⟩ := bS h
 refine AW.G Fm [.s, .s, .k (cE [] [] (AL n) [] []), .s, .s, .k (cE [] [] (AL o) [] []), .s, .k (cE [] [] (AL i) [] []), .s] (fun K => K 2 ∧ K 5 ∧ K 7 ∧ True) [(5, AL i)] [(0, .box true [.d (DL a)]), (1, .box true [.d (DL b)]), (2, .box true [.sem (CloOK Tryz.prog (FR_Bool_Bool_Bool c))])] ⟨KAt.CC (region_Row_spec j) Tryz.call180 [], KAt.CC (region_Row_spec l) Tryz.call180 [], KAt.callX (region_merge_spec m) Tryz.call179 [] [] [.tmp 8, .tmp 11, .tmp 12] rfl (by kernel_rfl) (by kernel_rfl) (by kernel_rfl) ⟨.p, .p, ArgT.semX (by kernel_rfl) (by kernel_rfl) (by kernel_rfl), ⟨⟩⟩, ⟨⟩⟩ ?_
 refine AW.ret ?_
 obtain rfl := Option.some.inj h
 exact Kn.D Fm
theorem region_Choose_spec {F : Nat} {a : (List Rect)} {b : (List Rect)} {e : Bool → Bool → Option Bool} {r : (List Rect)} (h : region_Choose F a b e = some r) :
  FSpec Tryz.prog 93 [AL a, AL b, .v (.c (.sem (CloOK Tryz.prog (FR_Bool_Bool_Bool e))))] [] (AL (α := Rect) r) [] := by
 refine FI Tryz.func93 prog_mixed prog_lay fun C Fm => ?_
 unfold region_Choose at h
 refine AW.SG0 Fm 4 [(3, pt 3), (4, pt 4), (5, pt 5)] [(3, bx [.d (DL a)]), (4, bx [.d (DL b)]), (5, bx [.sem (CloOK Tryz.prog (FR_Bool_Bool_Bool e))])] ?_
 refine AW.seq ?_
 obtain ⟨m, j, h⟩ := bS h
 obtain ⟨i, l, h⟩ := bS h
 refine AW.G Fm [.s, .s, .w (AL (α := (List Rect)) ([a, b] : List (List Rect))), .k (cE [] [] (AL m) [] []), .s, .k (cE [] [3, 4, 5] (AL i) [] []), .s] (fun K => (ALe (.v (.c (.d (.lst 2 (litF 1 [DL a, DL b]))))) (AL (α := (List Rect)) ([a, b] : List (List Rect)))) ∧ K 3 ∧ K 5 ∧ True) [(6, AL i)] [] ⟨ALe.lst (.lit ([a, b] : List (List Rect)) (by kernel_rfl)), KAt.CC (region_Cuts_spec j) Tryz.call177 [], KAt.callX (region_Build_spec l) Tryz.call176 [] [3, 4, 5] [.tmp 10, .tmp 11] rfl (by kernel_rfl) (by kernel_rfl) (by kernel_rfl) ⟨.p, ArgT.cloXP Tryz.call178 [[.d (DL a)], [.d (DL b)], [.sem (CloOK Tryz.prog (FR_Bool_Bool_Bool e))]] (fun args r hq => by obtain ⟨y0, y, hq, rfl, rfl⟩ := hq; exact Eq.mp (by kernel_rfl) (region_Choose_1_spec hq)) (fun args r hq => by obtain ⟨y0, y, hq, rfl, rfl⟩ := hq; rfl) (by kernel_rfl) [3, 4, 5] (by kernel_rfl) (by kernel_rfl) ⟨⟨.inl (by kernel_rfl), ⟨⟩⟩, ⟨.inl (by kernel_rfl), ⟨⟩⟩, ⟨.inr ⟨_, rfl⟩, ⟨⟩⟩, ⟨⟩⟩ (⟨⟨false, (by kernel_rfl)⟩, ⟨⟨false, (by kernel_rfl)⟩, ⟨⟨false, (by kernel_rfl)⟩, ⟨⟩⟩⟩⟩) (by kernel_rfl), ⟨⟩⟩, ⟨⟩⟩ ?_
 refine AW.ret ?_
 obtain rfl := Option.some.inj h
 exact Kn.D Fm
theorem grassland_shared_1_spec {F : Nat} {c : Bool} {a : Bool} {r : Bool} (h : grassland_shared_1 F c a = some r) :
  FSpec Tryz.prog 249 [vb c, vb a] [] (vb r) [] := by
 refine FI Tryz.func249 prog_mixed prog_lay fun C Fm => ?_
 unfold grassland_shared_1 at h
 refine AW.SG0 Fm 1 [(0, vb c), (1, vb a)] [] ?_
 refine AW.join (r := r) (fun z : Bool => grassland_shared_1_k0 F z) (fun z => [(4, vb z)]) (fun z => []) (fun i h => ?_) (fun e d => ?_)
 ·refine AW.ret ?_
  obtain rfl := Option.some.inj h
  exact Kn.D Fm
 ·rcases br_or h with ⟨b, h⟩ | ⟨b, h⟩
  ·refine AW.pN Fm [.s, .w (vb true), .s, .s, .s] [(4, vb a)] [] (cT (ALe.bool b)) ?_
   exact Kn.R Fm (d a h)
  ·refine AW.pN Fm [.s, .w (vb false), .s, .s, .s] [(4, vb false)] [] (cT (ALe.bool b)) ?_
   exact Kn.R Fm (d false h)
theorem grassland_shared_spec {F : Nat} {a : (List Rect)} {b : (List Rect)} {r : (List Rect)} (h : grassland_shared F a b = some r) :
  FSpec Tryz.prog 195 [AL a, AL b] [] (AL (α := Rect) r) [] := by
 refine FI Tryz.func195 prog_mixed prog_lay fun C Fm => ?_
 unfold grassland_shared at h
 refine AW.SG0 Fm 1 [(0, AL a), (1, AL b)] [] ?_
 refine AW.seq ?_
 obtain ⟨c, d, h⟩ := bS h
 refine AW.G Fm [.s, .s, .k (cE [] [] (AL c) [] []), .s] (fun K => K 2 ∧ True) [(4, AL c)] [] ⟨KAt.callX (region_Choose_spec d) Tryz.call93 [] [] [.tmp 5, .tmp 6, .func 249] rfl (by kernel_rfl) (by kernel_rfl) (by kernel_rfl) ⟨.p, .p, ArgT.cloX Tryz.call249 [] (fun args r hq => by obtain ⟨y0, y1, y, hq, rfl, rfl⟩ := hq; exact Eq.mp (by kernel_rfl) (grassland_shared_1_spec hq)) (fun args r hq => by obtain ⟨y0, y1, y, hq, rfl, rfl⟩ := hq; rfl) (by kernel_rfl) [] (by kernel_rfl) (by kernel_rfl) (True.intro) (by kernel_rfl), ⟨⟩⟩, ⟨⟩⟩ ?_
 refine AW.ret ?_
 obtain rfl := Option.some.inj h
 exact Kn.D Fm
theorem history_Rects_B_spec {F : Nat} {a : (List Record)} {i : Int} {e : Records} {r : (List Rect)} (h : history_Rects_B F a i e = some r) :
  FSpec Tryz.prog 116 [AL a, vi i, .v (.c (.bnd 194 (Emb.cells e)))] [] (AL (α := Rect) r) [] := by
 refine FI Tryz.func116 prog_mixed prog_lay fun C Fm => ?_
 unfold history_Rects_B at h
 refine AW.SG0 Fm 1 [(0, AL a), (1, vi i), (2, .v (.c (.bnd 194 (Emb.cells e))))] [] ?_
 refine AW.SW Fm [.m] (fun K => True) [(0, AL a), (1, vi i), (2, .v (.c (.bnd 194 (Emb.cells e)))), (7, ow 7)] [(7, AO (α := Rect) ([] : List Rect))] True.intro [(7, .arr 4 (0) (fun _ => []))] ⟨OLe.is ((Is.nil (α := Rect))), ⟨⟩⟩ ?_
 refine AW.join (r := r) (fun z : (List Rect) => history_Rects_B_k3 F z) (fun z => [(7, ow 7)]) (fun z => [(7, AO z)]) (fun o h => ?_) (fun T A => ?_)
 ·refine AW.SG0 Fm 2 [(6, ow 7)] [(7, AO o)] ?_
  refine AW.ret ?_
  obtain rfl := Option.some.inj h
  refine Kn.r Fm [(6, ow 7)] [(7, AO o)] (by kernel_rfl) ?_
  refine Kn.frz [(6, AL o)] [] (by kernel_rfl) (by kernel_rfl) (by kernel_rfl) ?_
  exact Kn.D Fm
 ·refine AW.SG0 Fm 3 [(1, vi i), (2, .v (.c (.bnd 194 (Emb.cells e)))), (7, ow 7), (10, AL a), (11, vi (lI a)), (12, vi 0)] [(7, AO (α := Rect) ([] : List Rect))] ?_
  refine AW.block (Kn.r Fm [(1, vi i), (2, .v (.c (.bnd 194 (Emb.cells e)))), (7, ow 7), (10, AL a), (11, vi (lI a)), (12, vi 0)] [(7, AO ([] : List Rect))] (by kernel_rfl) ?_)
  refine AW.loopF (E' := fun z => [(1, vi i), (2, .v (.c (.bnd 194 (Emb.cells e)))), (7, ow 7), (10, AL a), (11, vi (lI a)), (12, vi z.1)]) (S' := fun z => [(7, AO z.2)]) (fun p z N y h => ?_) h
  obtain ⟨b, j⟩ := z
  refine AW.SG0 Fm 1 [(1, vi i), (2, .v (.c (.bnd 194 (Emb.cells e)))), (7, ow 7), (10, AL a), (11, vi (lI a)), (12, vi b), (13, vb (decide (b < (lI a))))] [(7, AO j)] ?_
  refine AW.seq (AW.cN h (fun B h => ?_) (fun B h => ?_))
  ·refine AW.skip (AW.join (r := r) (fun z : (List Rect) => history_Rects_B_k2 F b p z) (fun z => [(1, vi i), (2, .v (.c (.bnd 194 (Emb.cells e)))), (7, ow 30), (10, AL a), (11, vi (lI a)), (12, vi b)]) (fun z => [(30, AO z)]) (fun u h => ?_) (fun P t => ?_))
   ·obtain ⟨L, h⟩ := gS h
    refine AW.pN Fm [.s, .s] [(1, vi i), (2, .v (.c (.bnd 194 (Emb.cells e)))), (7, ow 30), (10, AL a), (11, vi (lI a)), (12, vi (b + 1))] [(30, AO u)] (cT (cT L)) ?_
    exact Kn.RE Fm [(7, 30)] (y ((b + 1), u) h)
   ·refine AW.block ?_
    obtain ⟨H, h⟩ := gS h
    refine AW.SP Fm [.s, .s, .s, .s] [(1, vi i), (2, .v (.c (.bnd 194 (Emb.cells e)))), (7, ow 7), (9, pt 9), (10, AL a), (11, vi (lI a)), (12, vi b)] [(7, AO j), (9, bx [ci ((gl a b.toNat).year_), ci ((gl a b.toNat).crop_), .d (DL (α := Rect) (gl a b.toNat).region_.rects_)])] (cT H) ?_
    refine AW.join (r := r) (fun z : Bool => history_Rects_B_k1 F a b j p z) (fun z => [(1, vi i), (2, .v (.c (.bnd 194 (Emb.cells e)))), (7, ow 7), (9, pt 9), (10, AL a), (11, vi (lI a)), (12, vi b), (25, vb z)]) (fun z => [(7, AO j), (9, bx [ci ((gl a b.toNat).year_), ci ((gl a b.toNat).crop_), .d (DL (α := Rect) (gl a b.toNat).region_.rects_)])]) (fun U h => ?_) (fun O q => ?_)
    ·refine AW.cN h (fun E h => ?_) (fun E h => ?_)
     ·obtain ⟨I, h⟩ := gS h
      refine AW.WP Fm [.s, .s, .s, .s, .s, .s] [(1, vi i), (2, .v (.c (.bnd 194 (Emb.cells e)))), (7, ow 30), (10, AL a), (11, vi (lI a)), (12, vi b)] [(30, AO (α := Rect) (j ++ ((gl a b.toNat).region_.rects_)))] (cT (cA I (cT (Is.refl ((gl a b.toNat).region_.rects_) : Is (List.length (α := Rect) ((gl a b.toNat).region_.rects_)) (LF (α := Rect) ((gl a b.toNat).region_.rects_)) ((gl a b.toNat).region_.rects_)).len))) [(30, .arr 4 ((List.length (α := Rect) j) + (List.length (α := Rect) ((gl a b.toNat).region_.rects_))) (appF (List.length (α := Rect) j) (LF (α := Rect) j) (LF (α := Rect) ((gl a b.toNat).region_.rects_))))] ⟨OLe.is (Is.app (Is.refl j) (Is.refl ((gl a b.toNat).region_.rects_))), ⟨⟩⟩ ?_
      exact Kn.R Fm (t (j ++ ((gl a b.toNat).region_.rects_)) h)
     ·exact AW.skip (Kn.RE Fm [(30, 7)] (t j h))
    ·rcases br_or h with ⟨n, h⟩ | ⟨n, h⟩
     ·obtain ⟨l, M, h⟩ := bS h
      refine AW.G Fm [.s, .s, .s, .s, .w (vb true), .s, .s, .s, .k (cE [] [] (vb l) [] []), .s] (fun K => _ ∧ K 8 ∧ True) [(1, vi i), (2, .v (.c (.bnd 194 (Emb.cells e)))), (7, ow 7), (9, pt 9), (10, AL a), (11, vi (lI a)), (12, vi b), (21, .v (.c (.bnd 194 (Emb.cells e)))), (22, .v (.c (.ptr 9 1))), (23, vi (gl a b.toNat).crop_), (24, vb l), (25, vb l)] [(7, AO j), (9, bx [ci ((gl a b.toNat).year_), ci ((gl a b.toNat).crop_), .d (DL (α := Rect) (gl a b.toNat).region_.rects_)])] ⟨ALe.bool n, KAt.callBnd (args := [vi (gl a b.toNat).crop_]) (cs := (Emb.cells e)) (grassland_records_grass_spec M) Tryz.call194 rfl (by kernel_rfl) (by kernel_rfl), ⟨⟩⟩ ?_
      exact Kn.R Fm (q l h)
     ·refine AW.pN Fm [.s, .s, .s, .s, .w (vb false), .s, .s, .s, .s, .s] [(1, vi i), (2, .v (.c (.bnd 194 (Emb.cells e)))), (7, ow 7), (9, pt 9), (10, AL a), (11, vi (lI a)), (12, vi b), (25, vb false)] [(7, AO j), (9, bx [ci ((gl a b.toNat).year_), ci ((gl a b.toNat).crop_), .d (DL (α := Rect) (gl a b.toNat).region_.rects_)])] (cT (ALe.bool n)) ?_
      exact Kn.R Fm (q false h)
  ·exact AW.exit (Kn.R Fm (A j h))
theorem grassland_records_permanent_spec {F : Nat} {a : Records} {b : Int} {r : (List Rect)} (h : grassland_records_permanent F a b = some r) :
  FSpec Tryz.prog 112 [gE a, vi b] [] (AL (α := Rect) r) [] := by
 refine FI Tryz.func112 prog_mixed prog_lay fun C Fm => ?_
 unfold grassland_records_permanent at h
 refine AW.SG0 Fm 2 [(1, vi b), (2, pt 2)] [(2, bx (gC a))] ?_
 refine AW.seq (AW.SG0 Fm 2 [(1, vi b), (2, pt 2), (8, vb (decide (b < (4 : Int))))] [(2, bx (gC a))] ?_)
 refine AW.cN h (fun o h => ?_) (fun o h => ?_)
 ·refine AW.SG0 Fm 1 [(4, .v (.c (.fl 0 fun _ => [])))] [] ?_
  refine AW.ret ?_
  obtain rfl := Option.some.inj h
  refine Kn.r Fm [(4, .v (.c (.fl 0 fun _ => [])))] [] (by kernel_rfl) ?_
  refine Kn.wk [(4, AL (α := Rect) [])] [] ⟨rfl, ALe.c (CLe.fl .nil), ⟨⟩⟩ True.intro ?_
  exact Kn.D Fm
 ·refine AW.skip (AW.seq ?_)
  obtain ⟨j, u, h⟩ := bS h
  refine AW.G Fm [.s, .s, .s, .s, .k (sE (.v (.c (.bnd 194 (Emb.cells a))))), .k (cE [] [] (AL j) [] []), .s] (fun K => K 4 ∧ K 5 ∧ True) [(1, vi b), (2, pt 2), (5, AL j)] [(2, bx (gC a))] ⟨KAt.bndF (f := 194) (cvs := [.d (DL a.l_), .d (DL a.crops_)]) (cs := (Emb.cells a)) rfl rfl (by kernel_rfl) (by kernel_rfl) (by kernel_rfl), KAt.CC (history_Rects_B_spec u) Tryz.call116 [], ⟨⟩⟩ ?_
  refine AW.join (r := r) (fun z : (List Rect) => grassland_records_permanent_k1 F z) (fun z => [(5, AL z)]) (fun z => []) (fun A h => ?_) (fun H n => ?_)
  ·refine AW.SG0 Fm 2 [(4, AL A)] [] ?_
   refine AW.ret ?_
   obtain rfl := Option.some.inj h
   exact Kn.D Fm
  ·refine AW.SG0 Fm 1 [(1, vi b), (2, pt 2), (5, AL j), (6, vi 1)] [(2, bx (gC a))] ?_
   refine AW.block (AW.loopF (E' := fun z => [(1, vi b), (2, pt 2), (5, AL z.1), (6, vi z.2)]) (S' := fun z => [(2, bx (gC a))]) (fun I z E m h => ?_) h)
   obtain ⟨l, e⟩ := z
   refine AW.seq (AW.SG0 Fm 2 [(1, vi b), (2, pt 2), (5, AL l), (6, vi e), (16, vb (decide (e < (5 : Int))))] [(2, bx (gC a))] ?_)
   refine AW.cN h (fun p h => ?_) (fun p h => ?_)
   ·refine AW.skip (AW.seq (AW.block ?_))
    obtain ⟨q, h⟩ := gS h
    obtain ⟨B, w, h⟩ := bS h
    obtain ⟨i, y, h⟩ := bS h
    refine AW.G Fm [.s, .s, .s, .s, .s, .s, .s, .k (sE (.v (.c (.bnd 194 (Emb.cells a))))), .k (cE [] [] (AL B) [] []), .k (cE [] [] (AL i) [] []), .s] (fun K => (_ ∧ True) ∧ K 7 ∧ K 8 ∧ K 9 ∧ True) [(1, vi b), (2, pt 2), (5, AL i), (6, vi e)] [(2, bx (gC a))] ⟨⟨q, ⟨⟩⟩, KAt.bndF (f := 194) (cvs := [.d (DL a.l_), .d (DL a.crops_)]) (cs := (Emb.cells a)) rfl rfl (by kernel_rfl) (by kernel_rfl) (by kernel_rfl), KAt.CC (history_Rects_B_spec w) Tryz.call116 [], KAt.CC (grassland_shared_spec y) Tryz.call195 [], ⟨⟩⟩ ?_
    obtain ⟨t, h⟩ := gS h
    refine AW.pN Fm [.s, .s, .s] [(1, vi b), (2, pt 2), (5, AL i), (6, vi (e + 1))] [(2, bx (gC a))] (cT (cT t)) ?_
    exact Kn.R Fm (m (i, (e + 1)) h)
   ·exact AW.exit (Kn.R Fm (n l h))
theorem region_Limited_spec {F : Nat} {a : (List Rect)} {r : Region × Int} (h : region_Limited F a = some r) :
  FSpec Tryz.prog 140 [AL a] [] (.t [.g [.d (DL (α := Rect) r.1.rects_)], .c (ci r.2)]) [] := by
 refine FI Tryz.func140 prog_mixed prog_lay fun C Fm => ?_
 unfold region_Limited at h
 refine AW.SG0 Fm 2 [(0, AL a), (2, pt 2)] [(2, bx [.fl 0 fun _ => []])] ?_
 refine AW.seq (AW.SG0 Fm 3 [(0, AL a), (2, pt 2), (6, vb (decide ((120 : Int) < (lI a))))] [(2, bx [.fl 0 fun _ => []])] ?_)
 refine AW.cN h (fun b h => ?_) (fun b h => ?_)
 ·refine AW.SP Fm [.w (.v (.g [.d (DL (α := Rect) [])])), .s, .s] [(2, pt 2), (3, vi 1)] [(2, bx [.d (DL (α := Rect) [])])] (cT (ALe.g ⟨CLe.fl .nil, ⟨⟩⟩ : ALe (.v (.g [.fl 0 fun _ => []])) (.v (.g [.d (DL (α := Rect) [])])))) ?_
  refine AW.ret ?_
  obtain rfl := Option.some.inj h
  exact Kn.D Fm
 ·refine AW.skip (AW.SG0 Fm 4 [(2, pt 2), (3, vi 0)] [(2, bx [.d (DL a)])] ?_)
  refine AW.ret ?_
  obtain rfl := Option.some.inj h
  exact Kn.D Fm
theorem region_Joined_spec {F : Nat} {b : (List Rect)} {r : Region × Int} (h : region_Joined F b = some r) :
  FSpec Tryz.prog 111 [AL b] [] (.t [.g [.d (DL (α := Rect) r.1.rects_)], .c (ci r.2)]) [] := by
 refine FI Tryz.func111 prog_mixed prog_lay fun C Fm => ?_
 unfold region_Joined at h
 refine AW.SG0 Fm 2 [(0, AL b), (2, pt 2)] [(2, bx [.fl 0 fun _ => []])] ?_
 refine AW.seq ?_
 obtain ⟨j, e, h⟩ := bS h
 obtain ⟨a, i, h⟩ := bS h
 refine AW.G Fm [.s, .k (cE [] [] (AL j) [] []), .k (cE [] [] (.t [.g [.d (DL a.1.rects_)], .c (ci a.2)]) [] []), .s, .s, .s, .s] (fun K => K 1 ∧ K 2 ∧ True) [(2, pt 2), (3, vi a.2)] [(2, bx [.d (DL a.1.rects_)])] ⟨KAt.CC (region_canonical_spec e) Tryz.call175 [], KAt.CC (region_Limited_spec i) Tryz.call140 [], ⟨⟩⟩ ?_
 refine AW.ret ?_
 obtain rfl := Option.some.inj h
 exact Kn.D Fm
theorem grassland_Permanent_spec {F : Nat} {b : (List Record)} {e : (List Crop)} {a : Int} {r : Region × Int} (h : grassland_Permanent F b e a = some r) :
  FSpec Tryz.prog 24 [AL b, AL e, vi a] [] (.t [.g [.d (DL (α := Rect) r.1.rects_)], .c (ci r.2)]) [] := by
 refine FI Tryz.func24 prog_mixed prog_lay fun C Fm => ?_
 unfold grassland_Permanent at h
 refine AW.SG0 Fm 2 [(0, AL b), (1, AL e), (2, vi a), (6, pt 6)] [(6, bx [.fl 0 fun _ => []])] ?_
 refine AW.SG0 Fm 5 [(2, vi a), (6, pt 6), (8, pt 8)] [(6, bx [.fl 0 fun _ => []]), (8, bx [.d (DL b), .d (DL e)])] ?_
 refine AW.seq (AW.seq ?_)
 obtain ⟨i, m, h⟩ := bS h
 refine AW.G Fm [.s, .s, .w (AL (α := Int) ([a] : List Int)), .k (cE [] [] (vi i) [] []), .s] (fun K => (ALe (.v (.c (.d (.lst 1 (litF 1 [.int .i64 a]))))) (AL (α := Int) ([a] : List Int))) ∧ K 3 ∧ True) [(2, vi a), (6, pt 6), (8, pt 8), (9, vi i)] [(6, bx [.fl 0 fun _ => []]), (8, bx [.d (DL b), .d (DL e)])] ⟨ALe.lst (.lit ([a] : List Int) (by kernel_rfl)), KAt.callX (grassland_records_check_spec m) Tryz.call110 [] [] [.tmp 13, .const (.slice none 0 0), .tmp 15] rfl (by kernel_rfl) (by kernel_rfl) (by kernel_rfl) ⟨.p, ArgT.plain (by kernel_rfl) (ALe.c (CLe.fl .nil)) (by kernel_rfl), .p, ⟨⟩⟩, ⟨⟩⟩ ?_
 refine AW.SG0 Fm 2 [(2, vi a), (6, pt 6), (8, pt 8), (9, vi i), (18, vb (i != (0 : Int)))] [(6, bx [.fl 0 fun _ => []]), (8, bx [.d (DL b), .d (DL e)])] ?_
 refine AW.cN h (fun l h => ?_) (fun l h => ?_)
 ·refine AW.SP Fm [.w (.v (.g [.d (DL (α := Rect) [])])), .s, .s, .s] [(6, pt 6), (7, vi i)] [(6, bx [.d (DL (α := Rect) [])])] (cT (ALe.g ⟨CLe.fl .nil, ⟨⟩⟩ : ALe (.v (.g [.fl 0 fun _ => []])) (.v (.g [.d (DL (α := Rect) [])])))) ?_
  refine AW.ret ?_
  obtain rfl := Option.some.inj h
  exact Kn.D Fm
 ·refine AW.skip (AW.seq ?_)
  obtain ⟨q, n, h⟩ := bS h
  obtain ⟨j, o, h⟩ := bS h
  refine AW.G Fm [.s, .s, .k (cE [] [] (AL q) [] []), .k (cE [] [] (.t [.g [.d (DL j.1.rects_)], .c (ci j.2)]) [] []), .s, .s, .s, .s] (fun K => K 2 ∧ K 3 ∧ True) [(6, pt 6), (7, vi j.2)] [(6, bx [.d (DL j.1.rects_)])] ⟨KAt.CC (grassland_records_permanent_spec n) Tryz.call112 [], KAt.CC (region_Joined_spec o) Tryz.call111 [], ⟨⟩⟩ ?_
  refine AW.ret ?_
  obtain rfl := Option.some.inj h
  exact Kn.D Fm
theorem ref04_Same_spec {F : Nat} {a : Region} {b : Region} {r : Bool} (h : ref04_Same F a b = some r) :
  FSpec Tryz.prog 42 [.v (.g [.d (DL a.rects_)]), .v (.g [.d (DL b.rects_)])] [] (vb r) [] := by
 refine FI Tryz.func42 prog_mixed prog_lay fun C Fm => ?_
 unfold ref04_Same at h
 refine AW.SG0 Fm 3 [(2, pt 2), (3, pt 3)] [(2, bx [.d (DL a.rects_)]), (3, bx [.d (DL b.rects_)])] ?_
 refine AW.seq ?_
 obtain ⟨c, e, h⟩ := bS h
 refine AW.G Fm [.s, .s, .s, .s, .k (cE [] [] (vb c) [] []), .s] (fun K => K 4 ∧ True) [(4, vb c)] [] ⟨KAt.CC (ref04_Rects_spec e) Tryz.call127 [], ⟨⟩⟩ ?_
 refine AW.ret ?_
 obtain rfl := Option.some.inj h
 exact Kn.D Fm
theorem law20_awake_spec {F : Nat} {r : Bool} (h : law20_awake F = some r) :
  FSpec Tryz.prog 26 [] [] (vb r) [] := by
 refine FI Tryz.func26 prog_mixed prog_lay fun C Fm => ?_
 unfold law20_awake at h
 refine AW.SG0 Fm 1 [] [] ?_
 refine AW.SP Fm [.s, .w (AL (α := Crop) ([(⟨(ByteArray.mk #[103, 114, 97, 115, 115]), 0, (2 : Int)⟩ : Crop)] : List Crop)), .s] [(1, AL (α := Crop) ([(⟨(ByteArray.mk #[103, 114, 97, 115, 115]), 0, (2 : Int)⟩ : Crop)] : List Crop))] [] (cT (ALe.lst (.lit ([(⟨(ByteArray.mk #[103, 114, 97, 115, 115]), 0, (2 : Int)⟩ : Crop)] : List Crop) (by kernel_rfl)) : ALe (.v (.c (.d (.lst 1 (litF 3 [.str (ByteArray.mk #[103, 114, 97, 115, 115]), .int .i64 0, .int .i64 (2 : Int)]))))) (AL (α := Crop) ([(⟨(ByteArray.mk #[103, 114, 97, 115, 115]), 0, (2 : Int)⟩ : Crop)] : List Crop)))) ?_
 refine AW.SP Fm [.s, .w (AL (α := Rect) ([(⟨0, 0, (3 : Int), (1 : Int)⟩ : Rect)] : List Rect)), .s, .s, .s] [(1, AL (α := Crop) ([(⟨(ByteArray.mk #[103, 114, 97, 115, 115]), 0, (2 : Int)⟩ : Crop)] : List Crop)), (2, pt 2)] [(2, bx [.d (DL (α := Rect) ([(⟨0, 0, (3 : Int), (1 : Int)⟩ : Rect)] : List Rect))])] (cT (ALe.lst (.lit ([(⟨0, 0, (3 : Int), (1 : Int)⟩ : Rect)] : List Rect) (by kernel_rfl)) : ALe (.v (.c (.d (.lst 1 (litF 4 [.int .i64 0, .int .i64 0, .int .i64 (3 : Int), .int .i64 (1 : Int)]))))) (AL (α := Rect) ([(⟨0, 0, (3 : Int), (1 : Int)⟩ : Rect)] : List Rect)))) ?_
 refine AW.SW Fm [.m] (fun K => True) [(1, AL (α := Crop) ([(⟨(ByteArray.mk #[103, 114, 97, 115, 115]), 0, (2 : Int)⟩ : Crop)] : List Crop)), (2, pt 2), (3, ow 3)] [(2, bx [.d (DL (α := Rect) ([(⟨0, 0, (3 : Int), (1 : Int)⟩ : Rect)] : List Rect))]), (3, AO (α := Record) ([] : List Record))] True.intro [(3, .arr 3 (0) (fun _ => []))] ⟨OLe.is ((Is.nil (α := Record))), ⟨⟩⟩ ?_
 refine AW.join (r := r) (fun z : (List Record) => law20_awake_k1 F z) (fun z => [(1, AL (α := Crop) ([(⟨(ByteArray.mk #[103, 114, 97, 115, 115]), 0, (2 : Int)⟩ : Crop)] : List Crop)), (2, pt 2), (3, ow 3)]) (fun z => [(2, bx [.d (DL (α := Rect) ([(⟨0, 0, (3 : Int), (1 : Int)⟩ : Rect)] : List Rect))]), (3, AO z)]) (fun q h => ?_) (fun N A => ?_)
 ·refine AW.seq (Kn.r Fm [(1, AL (α := Crop) ([(⟨(ByteArray.mk #[103, 114, 97, 115, 115]), 0, (2 : Int)⟩ : Crop)] : List Crop)), (2, pt 2), (3, ow 3)] [(3, AO q), (2, bx [.d (DL (α := Rect) ([(⟨0, 0, (3 : Int), (1 : Int)⟩ : Rect)] : List Rect))])] (by kernel_rfl) ?_)
  refine Kn.frz [(1, AL (α := Crop) ([(⟨(ByteArray.mk #[103, 114, 97, 115, 115]), 0, (2 : Int)⟩ : Crop)] : List Crop)), (2, pt 2), (3, AL q)] [(2, bx [.d (DL (α := Rect) ([(⟨0, 0, (3 : Int), (1 : Int)⟩ : Rect)] : List Rect))])] (by kernel_rfl) (by kernel_rfl) (by kernel_rfl) ?_
  obtain ⟨e, I, h⟩ := bS h
  refine AW.G Fm [.s, .s, .k (cE [] [] (.t [.g [.d (DL e.1.rects_)], .c (ci e.2)]) [] []), .s, .s, .s, .s, .s, .s] (fun K => K 2 ∧ True) [(1, AL (α := Crop) ([(⟨(ByteArray.mk #[103, 114, 97, 115, 115]), 0, (2 : Int)⟩ : Crop)] : List Crop)), (2, pt 2), (3, AL q), (5, pt 5), (6, vi e.2)] [(2, bx [.d (DL (α := Rect) ([(⟨0, 0, (3 : Int), (1 : Int)⟩ : Rect)] : List Rect))]), (5, bx [.d (DL e.1.rects_)])] ⟨KAt.CC (grassland_Permanent_spec I) Tryz.call24 [], ⟨⟩⟩ ?_
  refine AW.seq ?_
  obtain ⟨i, L, h⟩ := bS h
  refine AW.G Fm [.s, .s, .k (cE [] [] (.t [.g [.d (DL i.1.rects_)], .c (ci i.2)]) [] []), .s, .s, .s, .s, .s, .s] (fun K => K 2 ∧ True) [(2, pt 2), (5, pt 5), (6, vi e.2), (7, pt 7), (8, vi i.2)] [(2, bx [.d (DL (α := Rect) ([(⟨0, 0, (3 : Int), (1 : Int)⟩ : Rect)] : List Rect))]), (5, bx [.d (DL e.1.rects_)]), (7, bx [.d (DL i.1.rects_)])] ⟨KAt.CC (grassland_Permanent_spec L) Tryz.call24 [], ⟨⟩⟩ ?_
  refine AW.join (r := r) (fun z : Bool => law20_awake_k2 F z) (fun z => [(0, vb z)]) (fun z => []) (fun T h => ?_) (fun O l => ?_)
  ·refine AW.ret ?_
   obtain rfl := Option.some.inj h
   exact Kn.D Fm
  ·rcases br_or h with ⟨j, h⟩ | ⟨j, h⟩
   ·obtain ⟨u, p, h⟩ := bS h
    rcases br_or h with ⟨n, h⟩ | ⟨n, h⟩
    ·rcases br_or h with ⟨o, h⟩ | ⟨o, h⟩
     ·refine AW.G Fm [.s, .s, .w (vb true), .s, .s, .k (cE [] [] (vb u) [] []), .s, .w (vb true), .s, .s, .s, .w (vb true), .s, .s, .s, .s, .s, .s] (fun K => _ ∧ K 5 ∧ _ ∧ _ ∧ True) [(0, vb ((lI i.1.rects_) == (0 : Int)))] [] ⟨ALe.bool j, KAt.CC (ref04_Same_spec p) Tryz.call42 [], ALe.bool n, ALe.bool o, ⟨⟩⟩ ?_
      exact Kn.R Fm (l ((lI i.1.rects_) == (0 : Int)) h)
     ·refine AW.G Fm [.s, .s, .w (vb true), .s, .s, .k (cE [] [] (vb u) [] []), .s, .w (vb true), .s, .s, .s, .w (vb false), .s, .s, .s, .s, .s, .s] (fun K => _ ∧ K 5 ∧ _ ∧ _ ∧ True) [(0, vb false)] [] ⟨ALe.bool j, KAt.CC (ref04_Same_spec p) Tryz.call42 [], ALe.bool n, ALe.bool o, ⟨⟩⟩ ?_
      exact Kn.R Fm (l false h)
    ·refine AW.G Fm [.s, .s, .w (vb true), .s, .s, .k (cE [] [] (vb u) [] []), .s, .w (vb false), .s, .s, .s, .s, .s, .s, .s, .s, .s, .s] (fun K => _ ∧ K 5 ∧ _ ∧ True) [(0, vb false)] [] ⟨ALe.bool j, KAt.CC (ref04_Same_spec p) Tryz.call42 [], ALe.bool n, ⟨⟩⟩ ?_
     exact Kn.R Fm (l false h)
   ·refine AW.pN Fm [.s, .s, .w (vb false), .s, .s, .s, .s, .s, .s, .s, .s, .s, .s, .s, .s, .s, .s, .s] [(0, vb false)] [] (cT (ALe.bool j)) ?_
    exact Kn.R Fm (l false h)
 ·refine AW.SG0 Fm 1 [(1, AL (α := Crop) ([(⟨(ByteArray.mk #[103, 114, 97, 115, 115]), 0, (2 : Int)⟩ : Crop)] : List Crop)), (2, pt 2), (3, ow 3), (4, vi 0)] [(2, bx [.d (DL (α := Rect) ([(⟨0, 0, (3 : Int), (1 : Int)⟩ : Rect)] : List Rect))]), (3, AO (α := Record) ([] : List Record))] ?_
  refine AW.block (Kn.r Fm [(1, AL (α := Crop) ([(⟨(ByteArray.mk #[103, 114, 97, 115, 115]), 0, (2 : Int)⟩ : Crop)] : List Crop)), (2, pt 2), (3, ow 3), (4, vi 0)] [(2, bx [.d (DL (α := Rect) ([(⟨0, 0, (3 : Int), (1 : Int)⟩ : Rect)] : List Rect))]), (3, AO ([] : List Record))] (by kernel_rfl) ?_)
  refine AW.loopF (E' := fun z => [(1, AL (α := Crop) ([(⟨(ByteArray.mk #[103, 114, 97, 115, 115]), 0, (2 : Int)⟩ : Crop)] : List Crop)), (2, pt 2), (3, ow 3), (4, vi z.1)]) (S' := fun z => [(2, bx [.d (DL (α := Rect) ([(⟨0, 0, (3 : Int), (1 : Int)⟩ : Rect)] : List Rect))]), (3, AO z.2)]) (fun P z M y h => ?_) h
  obtain ⟨a, b⟩ := z
  refine AW.seq (AW.SG0 Fm 2 [(1, AL (α := Crop) ([(⟨(ByteArray.mk #[103, 114, 97, 115, 115]), 0, (2 : Int)⟩ : Crop)] : List Crop)), (2, pt 2), (3, ow 3), (4, vi a), (15, vb (decide (a < (5 : Int))))] [(2, bx [.d (DL (α := Rect) ([(⟨0, 0, (3 : Int), (1 : Int)⟩ : Rect)] : List Rect))]), (3, AO b)] ?_)
  refine AW.cN h (fun B h => ?_) (fun B h => ?_)
  ·refine AW.skip (AW.seq (AW.block ?_))
   obtain ⟨E, h⟩ := gS h
   refine AW.WP Fm [.s, .s, .s, .s, .w (AL (α := Record) ([(⟨a, 0, (⟨([(⟨0, 0, (3 : Int), (1 : Int)⟩ : Rect)] : List Rect)⟩ : Region)⟩ : Record)] : List Record)), .s, .s] [(1, AL (α := Crop) ([(⟨(ByteArray.mk #[103, 114, 97, 115, 115]), 0, (2 : Int)⟩ : Crop)] : List Crop)), (2, pt 2), (3, ow 23), (4, vi a)] [(2, bx [.d (DL (α := Rect) ([(⟨0, 0, (3 : Int), (1 : Int)⟩ : Rect)] : List Rect))]), (23, AO (α := Record) (b ++ ([(⟨a, 0, (⟨([(⟨0, 0, (3 : Int), (1 : Int)⟩ : Rect)] : List Rect)⟩ : Region)⟩ : Record)] : List Record)))] (cA (ALe.lst (.lit ([(⟨a, 0, (⟨([(⟨0, 0, (3 : Int), (1 : Int)⟩ : Rect)] : List Rect)⟩ : Region)⟩ : Record)] : List Record) (by kernel_rfl)) : ALe (.v (.c (.d (.lst 1 (litF 3 [.int .i64 a, .int .i64 0, DL (α := Rect) ([(⟨0, 0, (3 : Int), (1 : Int)⟩ : Rect)] : List Rect)]))))) (AL (α := Record) ([(⟨a, 0, (⟨([(⟨0, 0, (3 : Int), (1 : Int)⟩ : Rect)] : List Rect)⟩ : Region)⟩ : Record)] : List Record))) (cT (cA E (cT (Is.refl ([(⟨a, 0, (⟨([(⟨0, 0, (3 : Int), (1 : Int)⟩ : Rect)] : List Rect)⟩ : Region)⟩ : Record)] : List Record) : Is (List.length (α := Record) ([(⟨a, 0, (⟨([(⟨0, 0, (3 : Int), (1 : Int)⟩ : Rect)] : List Rect)⟩ : Region)⟩ : Record)] : List Record)) (LF (α := Record) ([(⟨a, 0, (⟨([(⟨0, 0, (3 : Int), (1 : Int)⟩ : Rect)] : List Rect)⟩ : Region)⟩ : Record)] : List Record)) ([(⟨a, 0, (⟨([(⟨0, 0, (3 : Int), (1 : Int)⟩ : Rect)] : List Rect)⟩ : Region)⟩ : Record)] : List Record)).len)))) [(23, .arr 3 ((List.length (α := Record) b) + (List.length (α := Record) ([(⟨a, 0, (⟨([(⟨0, 0, (3 : Int), (1 : Int)⟩ : Rect)] : List Rect)⟩ : Region)⟩ : Record)] : List Record))) (appF (List.length (α := Record) b) (LF (α := Record) b) (LF (α := Record) ([(⟨a, 0, (⟨([(⟨0, 0, (3 : Int), (1 : Int)⟩ : Rect)] : List Rect)⟩ : Region)⟩ : Record)] : List Record))))] ⟨OLe.is (Is.app (Is.refl b) (Is.refl ([(⟨a, 0, (⟨([(⟨0, 0, (3 : Int), (1 : Int)⟩ : Rect)] : List Rect)⟩ : Region)⟩ : Record)] : List Record))), ⟨⟩⟩ ?_
   obtain ⟨H, h⟩ := gS h
   refine AW.pN Fm [.s, .s, .s] [(1, AL (α := Crop) ([(⟨(ByteArray.mk #[103, 114, 97, 115, 115]), 0, (2 : Int)⟩ : Crop)] : List Crop)), (2, pt 2), (3, ow 23), (4, vi (a + 1))] [(2, bx [.d (DL (α := Rect) ([(⟨0, 0, (3 : Int), (1 : Int)⟩ : Rect)] : List Rect))]), (23, AO (α := Record) (b ++ ([(⟨a, 0, (⟨([(⟨0, 0, (3 : Int), (1 : Int)⟩ : Rect)] : List Rect)⟩ : Region)⟩ : Record)] : List Record)))] (cT (cT H)) ?_
   exact Kn.RE Fm [(3, 23)] (y ((a + 1), (b ++ ([(⟨a, 0, (⟨([(⟨0, 0, (3 : Int), (1 : Int)⟩ : Rect)] : List Rect)⟩ : Region)⟩ : Record)] : List Record))) h)
  ·exact AW.exit (Kn.R Fm (A b h))
theorem region_Size_spec {F : Nat} {a : (List Rect)} {r : Int} (h : region_Size F a = some r) :
  FSpec Tryz.prog 138 [AL a] [] (vi r) [] := by
 refine FI Tryz.func138 prog_mixed prog_lay fun C Fm => ?_
 unfold region_Size at h
 refine AW.SG0 Fm 1 [(0, AL a)] [] ?_
 refine AW.SG0 Fm 1 [(0, AL a), (3, vi 0)] [] ?_
 refine AW.join (r := r) (fun z : Int => region_Size_k1 F z) (fun z => [(3, vi z)]) (fun z => []) (fun p h => ?_) (fun t e => ?_)
 ·refine AW.SG0 Fm 2 [(2, vi p)] [] ?_
  refine AW.ret ?_
  obtain rfl := Option.some.inj h
  exact Kn.D Fm
 ·refine AW.SG0 Fm 3 [(3, vi 0), (6, AL a), (7, vi (lI a)), (8, vi 0)] [] ?_
  refine AW.block (AW.loopF (E' := fun z => [(3, vi z.1), (6, AL a), (7, vi (lI a)), (8, vi z.2)]) (S' := fun z => []) (fun u z q d h => ?_) h)
  obtain ⟨c, b⟩ := z
  refine AW.SG0 Fm 1 [(3, vi c), (6, AL a), (7, vi (lI a)), (8, vi b), (9, vb (decide (b < (lI a))))] [] ?_
  refine AW.seq (AW.cN h (fun i h => ?_) (fun i h => ?_))
  ·refine AW.skip (AW.seq (AW.block ?_))
   obtain ⟨j, h⟩ := gS h
   refine AW.SP Fm [.s, .s, .s, .s] [(3, vi c), (5, pt 5), (6, AL a), (7, vi (lI a)), (8, vi b)] [(5, bx [ci ((gl a b.toNat).left_), ci ((gl a b.toNat).low_), ci ((gl a b.toNat).right_), ci ((gl a b.toNat).high_)])] (cT j) ?_
   obtain ⟨k, l, m, n, h⟩ := gS4 h
   refine AW.pN Fm [.s, .s, .s, .s, .s, .s, .s, .s, .s, .s, .s, .s, .s, .s] [(3, vi (c + ((((gl a b.toNat).right_) - ((gl a b.toNat).left_)) * (((gl a b.toNat).high_) - ((gl a b.toNat).low_))))), (6, AL a), (7, vi (lI a)), (8, vi b)] [] (cA (cT k) (cA (cT l) (cA (cT m) (cT (cT n))))) ?_
   obtain ⟨o, h⟩ := gS h
   refine AW.pN Fm [.s, .s] [(3, vi (c + ((((gl a b.toNat).right_) - ((gl a b.toNat).left_)) * (((gl a b.toNat).high_) - ((gl a b.toNat).low_))))), (6, AL a), (7, vi (lI a)), (8, vi (b + 1))] [] (cT (cT o)) ?_
   exact Kn.R Fm (d ((c + ((((gl a b.toNat).right_) - ((gl a b.toNat).left_)) * (((gl a b.toNat).high_) - ((gl a b.toNat).low_)))), (b + 1)) h)
  ·exact AW.exit (Kn.R Fm (e c h))
theorem grassland_common_spec {F : Nat} {a : (List Rect)} {b : Region} {r : Int} (h : grassland_common F a b = some r) :
  FSpec Tryz.prog 167 [AL a, .v (.g [.d (DL b.rects_)])] [] (vi r) [] := by
 refine FI Tryz.func167 prog_mixed prog_lay fun C Fm => ?_
 unfold grassland_common at h
 refine AW.SG0 Fm 2 [(0, AL a), (3, pt 3)] [(3, bx [.d (DL b.rects_)])] ?_
 refine AW.seq ?_
 obtain ⟨j, e, h⟩ := bS h
 obtain ⟨c, i, h⟩ := bS h
 refine AW.G Fm [.s, .s, .s, .k (cE [] [] (AL j) [] []), .k (cE [] [] (vi c) [] []), .s] (fun K => K 3 ∧ K 4 ∧ True) [(4, vi c)] [] ⟨KAt.CC (grassland_shared_spec e) Tryz.call195 [], KAt.CC (region_Size_spec i) Tryz.call138 [], ⟨⟩⟩ ?_
 refine AW.ret ?_
 obtain rfl := Option.some.inj h
 exact Kn.D Fm
theorem history_Any_spec {F : Nat} {a : Int} {r : Bool} (h : history_Any F a = some r) :
  FSpec Tryz.prog 123 [vi a] [] (vb r) [] := by
 refine FI Tryz.func123 prog_mixed prog_lay fun C Fm => ?_
 unfold history_Any at h
 refine AW.SG0 Fm 1 [] [] ?_
 refine AW.SG0 Fm 1 [(2, vb true)] [] ?_
 refine AW.ret ?_
 obtain rfl := Option.some.inj h
 exact Kn.D Fm
theorem grassland_records_ratio_spec {F : Nat} {a : Records} {b : Int} {e : Region} {r : Int × Int} (h : grassland_records_ratio F a b e = some r) :
  FSpec Tryz.prog 114 [gE a, vi b, .v (.g [.d (DL e.rects_)])] [] (.t [.c (ci r.1), .c (ci r.2)]) [] := by
 refine FI Tryz.func114 prog_mixed prog_lay fun C Fm => ?_
 unfold grassland_records_ratio at h
 refine AW.SG0 Fm 4 [(1, vi b), (3, pt 3), (5, pt 5)] [(3, bx (gC a)), (5, bx [.d (DL e.rects_)])] ?_
 refine AW.seq ?_
 obtain ⟨q, l, h⟩ := bS h
 obtain ⟨i, m, h⟩ := bS h
 obtain ⟨u, n, h⟩ := bS h
 obtain ⟨j, o, h⟩ := bS h
 refine AW.G Fm [.s, .s, .k (cE [] [] (AL q) [] []), .s, .k (cE [] [] (vi i) [] []), .s, .s, .s, .k (cE [] [] (AL u) [] []), .s, .k (cE [] [] (vi j) [] []), .s, .s] (fun K => K 2 ∧ K 4 ∧ K 8 ∧ K 10 ∧ True) [(6, vi i), (7, vi j)] [] ⟨KAt.CC (grassland_records_permanent_spec l) Tryz.call112 [], KAt.CC (grassland_common_spec m) Tryz.call167 [], KAt.callX (history_Rects_spec n) Tryz.call116 [] [] [.tmp 14, .tmp 15, .func 123] rfl (by kernel_rfl) (by kernel_rfl) (by kernel_rfl) ⟨.p, .p, ArgT.cloX Tryz.call123 [] (fun args r hq => by obtain ⟨y0, y, hq, rfl, rfl⟩ := hq; exact Eq.mp (by kernel_rfl) (history_Any_spec hq)) (fun args r hq => by obtain ⟨y0, y, hq, rfl, rfl⟩ := hq; rfl) (by kernel_rfl) [] (by kernel_rfl) (by kernel_rfl) (True.intro) (by kernel_rfl), ⟨⟩⟩, KAt.CC (grassland_common_spec o) Tryz.call167 [], ⟨⟩⟩ ?_
 refine AW.ret ?_
 obtain rfl := Option.some.inj h
 exact Kn.D Fm
theorem grassland_Ratio_spec {F : Nat} {e : (List Record)} {i : (List Crop)} {a : Int} {b : Region} {r : Int × Int × Int} (h : grassland_Ratio F e i a b = some r) :
  FSpec Tryz.prog 29 [AL e, AL i, vi a, .v (.g [.d (DL b.rects_)])] [] (.t [.c (ci r.1), .c (ci r.2.1), .c (ci r.2.2)]) [] := by
 refine FI Tryz.func29 prog_mixed prog_lay fun C Fm => ?_
 unfold grassland_Ratio at h
 refine AW.SG0 Fm 4 [(0, AL e), (1, AL i), (2, vi a), (7, pt 7)] [(7, bx [.d (DL b.rects_)])] ?_
 refine AW.SG0 Fm 5 [(2, vi a), (7, pt 7), (11, pt 11)] [(7, bx [.d (DL b.rects_)]), (11, bx [.d (DL e), .d (DL i)])] ?_
 refine AW.seq (AW.seq ?_)
 obtain ⟨l, n, h⟩ := bS h
 refine AW.G Fm [.s, .s, .w (AL (α := Region) ([b] : List Region)), .s, .w (AL (α := Int) ([a] : List Int)), .k (cE [] [] (vi l) [] []), .s] (fun K => (ALe (.v (.c (.d (.lst 1 (litF 1 [DL b.rects_]))))) (AL (α := Region) ([b] : List Region))) ∧ (ALe (.v (.c (.d (.lst 1 (litF 1 [.int .i64 a]))))) (AL (α := Int) ([a] : List Int))) ∧ K 5 ∧ True) [(2, vi a), (7, pt 7), (11, pt 11), (12, vi l)] [(7, bx [.d (DL b.rects_)]), (11, bx [.d (DL e), .d (DL i)])] ⟨ALe.lst (.lit ([b] : List Region) (by kernel_rfl)), ALe.lst (.lit ([a] : List Int) (by kernel_rfl)), KAt.CC (grassland_records_check_spec n) Tryz.call110 [], ⟨⟩⟩ ?_
 refine AW.SG0 Fm 2 [(2, vi a), (7, pt 7), (11, pt 11), (12, vi l), (25, vb (l != (0 : Int)))] [(7, bx [.d (DL b.rects_)]), (11, bx [.d (DL e), .d (DL i)])] ?_
 refine AW.cN h (fun m h => ?_) (fun m h => ?_)
 ·refine AW.SG0 Fm 4 [(8, vi 0), (9, vi 0), (10, vi l)] [] ?_
  refine AW.ret ?_
  obtain rfl := Option.some.inj h
  exact Kn.D Fm
 ·refine AW.skip (AW.seq ?_)
  obtain ⟨j, o, h⟩ := bS h
  refine AW.G Fm [.s, .s, .s, .k (cE [] [] (.t [.c (ci j.1), .c (ci j.2)]) [] []), .s, .s, .s, .s, .s] (fun K => K 3 ∧ True) [(13, vi j.1), (14, vi j.2)] [] ⟨KAt.CC (grassland_records_ratio_spec o) Tryz.call114 [], ⟨⟩⟩ ?_
  refine AW.SG0 Fm 5 [(8, vi j.1), (9, vi j.2), (10, vi 0)] [] ?_
  refine AW.ret ?_
  obtain rfl := Option.some.inj h
  exact Kn.D Fm
theorem keep_Tape_Land_spec {F : Nat} {i : Tape} {e : Int} {j : Int} {r : Tape × Region} (h : keep_Tape_Land F i e j = some r) :
  FSpec Tryz.prog 30 [pt 0, vi e, vi j] [(0, bx (gC i))] (.v (.g [.d (DL (α := Rect) r.2.rects_)])) [(0, bx (gC r.1))] := by
 refine FI Tryz.func30 prog_mixed prog_lay fun C Fm => ?_
 unfold keep_Tape_Land at h
 refine AW.SG0 Fm 1 [(0, pt 0), (1, vi e), (2, vi j), (6, pt 6)] [(0, bx (gC i)), (6, bx [.fl 0 fun _ => []])] ?_
 refine AW.seq ?_
 obtain ⟨b, n, h⟩ := bS h
 refine AW.G Fm [.s, .s, .s, .k (cE [(0, 0)] [] (.v (.g [.d (DL b.2.rects_)])) [(0, bx (gC i))] [(0, bx (gC b.1))]), .s, .s] (fun K => K 3 ∧ True) [(0, pt 0), (1, vi e), (6, pt 6), (7, pt 7)] [(0, bx (gC b.1)), (6, bx [.fl 0 fun _ => []]), (7, bx [.d (DL b.2.rects_)])] ⟨KAt.CC (keep_Tape_Region_spec n) Tryz.call17 [(0, 0)], ⟨⟩⟩ ?_
 refine AW.join (r := r) (fun z : (List Rect) × (List Int) × Int => keep_Tape_Land_k0 F z.1 z.2.1 z.2.2) (fun z => [(6, pt 6), (7, pt 7)]) (fun z => [(0, bx [.d (DL z.2.1), ci z.2.2]), (6, bx [.fl 0 fun _ => []]), (7, bx [.d (DL z.1)])]) (fun z h => ?_) (fun u l => ?_)
 ·obtain ⟨p, q, t⟩ := z
  refine AW.SG0 Fm 2 [(6, pt 6)] [(0, bx [.d (DL q), ci t]), (6, bx [.d (DL p)])] ?_
  refine AW.ret ?_
  obtain rfl := Option.some.inj h
  exact Kn.D Fm
 ·refine AW.SG0 Fm 4 [(0, pt 0), (1, vi e), (6, pt 6), (7, pt 7), (15, vb ((lI b.2.rects_) == (0 : Int)))] [(0, bx (gC b.1)), (6, bx [.fl 0 fun _ => []]), (7, bx [.d (DL b.2.rects_)])] ?_
  refine AW.cN h (fun m h => ?_) (fun m h => ?_)
  ·obtain ⟨a, o, h⟩ := bS h
   refine AW.G Fm [.s, .s, .k (cE [(0, 0)] [] (gE a.2) [(0, bx (gC b.1))] [(0, bx (gC a.1))]), .w (AL (α := Rect) ([a.2] : List Rect)), .s, .s] (fun K => K 2 ∧ (ALe (.v (.c (.d (.lst 1 (litF 4 [.int .i64 a.2.left_, .int .i64 a.2.low_, .int .i64 a.2.right_, .int .i64 a.2.high_]))))) (AL (α := Rect) ([a.2] : List Rect))) ∧ True) [(6, pt 6), (7, pt 7)] [(0, bx (gC a.1)), (6, bx [.fl 0 fun _ => []]), (7, bx [.d (DL (α := Rect) ([a.2] : List Rect))])] ⟨KAt.CC (keep_Tape_Rect_spec o) Tryz.call90 [(0, 0)], ALe.lst (.lit ([a.2] : List Rect) (by kernel_rfl)), ⟨⟩⟩ ?_
   exact Kn.R Fm (l (([a.2] : List Rect), a.1.l_, a.1.at_) h)
  ·exact AW.skip (Kn.R Fm (l (b.2.rects_, b.1.l_, b.1.at_) h))
theorem math_bits_Mul64_spec {F : Nat} {a : Int} {b : Int} {r : Int × Int} (h : math_bits_Mul64 F a b = some r) :
  FSpec Tryz.prog 196 [.v (.c (.d (.int .u64 a))), .v (.c (.d (.int .u64 b)))] [] (.t [.c (.d (.int .u64 r.1)), .c (.d (.int .u64 r.2))]) [] := by
 refine FI Tryz.func196 prog_mixed prog_lay fun C Fm => ?_
 unfold math_bits_Mul64 at h
 refine AW.SG0 Fm 2 [(0, .v (.c (.d (.int .u64 a)))), (1, .v (.c (.d (.int .u64 b))))] [] ?_
 refine AW.SG0 Fm 3 [(0, .v (.c (.d (.int .u64 a)))), (1, .v (.c (.d (.int .u64 b)))), (6, .v (.c (.d (.int .u64 (band .u64 a (4294967295 : Int))))))] [] ?_
 obtain ⟨e, h⟩ := gS h
 refine AW.SP Fm [.s, .s, .s] [(0, .v (.c (.d (.int .u64 a)))), (1, .v (.c (.d (.int .u64 b)))), (6, .v (.c (.d (.int .u64 (band .u64 a (4294967295 : Int)))))), (7, .v (.c (.d (.int .u64 (a.fdiv (2 ^ (min ((32 : Int)).toNat (IntKind.bits .u64))))))))] [] (cT e) ?_
 refine AW.SG0 Fm 3 [(0, .v (.c (.d (.int .u64 a)))), (1, .v (.c (.d (.int .u64 b)))), (6, .v (.c (.d (.int .u64 (band .u64 a (4294967295 : Int)))))), (7, .v (.c (.d (.int .u64 (a.fdiv (2 ^ (min ((32 : Int)).toNat (IntKind.bits .u64)))))))), (8, .v (.c (.d (.int .u64 (band .u64 b (4294967295 : Int))))))] [] ?_
 obtain ⟨i, h⟩ := gS h
 refine AW.SP Fm [.s, .s, .s] [(0, .v (.c (.d (.int .u64 a)))), (1, .v (.c (.d (.int .u64 b)))), (6, .v (.c (.d (.int .u64 (band .u64 a (4294967295 : Int)))))), (7, .v (.c (.d (.int .u64 (a.fdiv (2 ^ (min ((32 : Int)).toNat (IntKind.bits .u64)))))))), (8, .v (.c (.d (.int .u64 (band .u64 b (4294967295 : Int)))))), (9, .v (.c (.d (.int .u64 (b.fdiv (2 ^ (min ((32 : Int)).toNat (IntKind.bits .u64))))))))] [] (cT i) ?_
 refine AW.SP Fm [.s, .s, .s, .s] [(0, .v (.c (.d (.int .u64 a)))), (1, .v (.c (.d (.int .u64 b)))), (6, .v (.c (.d (.int .u64 (band .u64 a (4294967295 : Int)))))), (7, .v (.c (.d (.int .u64 (a.fdiv (2 ^ (min ((32 : Int)).toNat (IntKind.bits .u64)))))))), (8, .v (.c (.d (.int .u64 (band .u64 b (4294967295 : Int)))))), (9, .v (.c (.d (.int .u64 (b.fdiv (2 ^ (min ((32 : Int)).toNat (IntKind.bits .u64)))))))), (10, .v (.c (.d (.int .u64 (IntKind.wrap .u64 ((band .u64 a (4294967295 : Int)) * (band .u64 b (4294967295 : Int))))))))] [] (cT (True.intro : True)) ?_
 obtain ⟨j, h⟩ := gS h
 refine AW.SP Fm [.s, .s, .s, .s, .s, .s, .s] [(0, .v (.c (.d (.int .u64 a)))), (1, .v (.c (.d (.int .u64 b)))), (6, .v (.c (.d (.int .u64 (band .u64 a (4294967295 : Int)))))), (7, .v (.c (.d (.int .u64 (a.fdiv (2 ^ (min ((32 : Int)).toNat (IntKind.bits .u64)))))))), (9, .v (.c (.d (.int .u64 (b.fdiv (2 ^ (min ((32 : Int)).toNat (IntKind.bits .u64)))))))), (11, .v (.c (.d (.int .u64 (IntKind.wrap .u64 ((IntKind.wrap .u64 ((a.fdiv (2 ^ (min ((32 : Int)).toNat (IntKind.bits .u64)))) * (band .u64 b (4294967295 : Int)))) + ((IntKind.wrap .u64 ((band .u64 a (4294967295 : Int)) * (band .u64 b (4294967295 : Int)))).fdiv (2 ^ (min ((32 : Int)).toNat (IntKind.bits .u64))))))))))] [] (cA (True.intro : True) (cA j (cT (True.intro : True)))) ?_
 refine AW.SG0 Fm 3 [(0, .v (.c (.d (.int .u64 a)))), (1, .v (.c (.d (.int .u64 b)))), (6, .v (.c (.d (.int .u64 (band .u64 a (4294967295 : Int)))))), (7, .v (.c (.d (.int .u64 (a.fdiv (2 ^ (min ((32 : Int)).toNat (IntKind.bits .u64)))))))), (9, .v (.c (.d (.int .u64 (b.fdiv (2 ^ (min ((32 : Int)).toNat (IntKind.bits .u64)))))))), (11, .v (.c (.d (.int .u64 (IntKind.wrap .u64 ((IntKind.wrap .u64 ((a.fdiv (2 ^ (min ((32 : Int)).toNat (IntKind.bits .u64)))) * (band .u64 b (4294967295 : Int)))) + ((IntKind.wrap .u64 ((band .u64 a (4294967295 : Int)) * (band .u64 b (4294967295 : Int)))).fdiv (2 ^ (min ((32 : Int)).toNat (IntKind.bits .u64)))))))))), (12, .v (.c (.d (.int .u64 (band .u64 (IntKind.wrap .u64 ((IntKind.wrap .u64 ((a.fdiv (2 ^ (min ((32 : Int)).toNat (IntKind.bits .u64)))) * (band .u64 b (4294967295 : Int)))) + ((IntKind.wrap .u64 ((band .u64 a (4294967295 : Int)) * (band .u64 b (4294967295 : Int)))).fdiv (2 ^ (min ((32 : Int)).toNat (IntKind.bits .u64)))))) (4294967295 : Int))))))] [] ?_
 obtain ⟨k, h⟩ := gS h
 refine AW.SP Fm [.s, .s, .s] [(0, .v (.c (.d (.int .u64 a)))), (1, .v (.c (.d (.int .u64 b)))), (6, .v (.c (.d (.int .u64 (band .u64 a (4294967295 : Int)))))), (7, .v (.c (.d (.int .u64 (a.fdiv (2 ^ (min ((32 : Int)).toNat (IntKind.bits .u64)))))))), (9, .v (.c (.d (.int .u64 (b.fdiv (2 ^ (min ((32 : Int)).toNat (IntKind.bits .u64)))))))), (12, .v (.c (.d (.int .u64 (band .u64 (IntKind.wrap .u64 ((IntKind.wrap .u64 ((a.fdiv (2 ^ (min ((32 : Int)).toNat (IntKind.bits .u64)))) * (band .u64 b (4294967295 : Int)))) + ((IntKind.wrap .u64 ((band .u64 a (4294967295 : Int)) * (band .u64 b (4294967295 : Int)))).fdiv (2 ^ (min ((32 : Int)).toNat (IntKind.bits .u64)))))) (4294967295 : Int)))))), (13, .v (.c (.d (.int .u64 ((IntKind.wrap .u64 ((IntKind.wrap .u64 ((a.fdiv (2 ^ (min ((32 : Int)).toNat (IntKind.bits .u64)))) * (band .u64 b (4294967295 : Int)))) + ((IntKind.wrap .u64 ((band .u64 a (4294967295 : Int)) * (band .u64 b (4294967295 : Int)))).fdiv (2 ^ (min ((32 : Int)).toNat (IntKind.bits .u64)))))).fdiv (2 ^ (min ((32 : Int)).toNat (IntKind.bits .u64))))))))] [] (cT k) ?_
 refine AW.SP Fm [.s, .s, .s, .s, .s, .s] [(0, .v (.c (.d (.int .u64 a)))), (1, .v (.c (.d (.int .u64 b)))), (7, .v (.c (.d (.int .u64 (a.fdiv (2 ^ (min ((32 : Int)).toNat (IntKind.bits .u64)))))))), (9, .v (.c (.d (.int .u64 (b.fdiv (2 ^ (min ((32 : Int)).toNat (IntKind.bits .u64)))))))), (12, .v (.c (.d (.int .u64 (IntKind.wrap .u64 ((band .u64 (IntKind.wrap .u64 ((IntKind.wrap .u64 ((a.fdiv (2 ^ (min ((32 : Int)).toNat (IntKind.bits .u64)))) * (band .u64 b (4294967295 : Int)))) + ((IntKind.wrap .u64 ((band .u64 a (4294967295 : Int)) * (band .u64 b (4294967295 : Int)))).fdiv (2 ^ (min ((32 : Int)).toNat (IntKind.bits .u64)))))) (4294967295 : Int)) + (IntKind.wrap .u64 ((band .u64 a (4294967295 : Int)) * (b.fdiv (2 ^ (min ((32 : Int)).toNat (IntKind.bits .u64)))))))))))), (13, .v (.c (.d (.int .u64 ((IntKind.wrap .u64 ((IntKind.wrap .u64 ((a.fdiv (2 ^ (min ((32 : Int)).toNat (IntKind.bits .u64)))) * (band .u64 b (4294967295 : Int)))) + ((IntKind.wrap .u64 ((band .u64 a (4294967295 : Int)) * (band .u64 b (4294967295 : Int)))).fdiv (2 ^ (min ((32 : Int)).toNat (IntKind.bits .u64)))))).fdiv (2 ^ (min ((32 : Int)).toNat (IntKind.bits .u64))))))))] [] (cA (True.intro : True) (cT (True.intro : True))) ?_
 obtain ⟨l, h⟩ := gS h
 refine AW.SP Fm [.s, .s, .s, .s, .s, .s, .s, .s, .s] [(0, .v (.c (.d (.int .u64 a)))), (1, .v (.c (.d (.int .u64 b)))), (4, .v (.c (.d (.int .u64 (IntKind.wrap .u64 ((IntKind.wrap .u64 ((IntKind.wrap .u64 ((a.fdiv (2 ^ (min ((32 : Int)).toNat (IntKind.bits .u64)))) * (b.fdiv (2 ^ (min ((32 : Int)).toNat (IntKind.bits .u64)))))) + ((IntKind.wrap .u64 ((IntKind.wrap .u64 ((a.fdiv (2 ^ (min ((32 : Int)).toNat (IntKind.bits .u64)))) * (band .u64 b (4294967295 : Int)))) + ((IntKind.wrap .u64 ((band .u64 a (4294967295 : Int)) * (band .u64 b (4294967295 : Int)))).fdiv (2 ^ (min ((32 : Int)).toNat (IntKind.bits .u64)))))).fdiv (2 ^ (min ((32 : Int)).toNat (IntKind.bits .u64)))))) + ((IntKind.wrap .u64 ((band .u64 (IntKind.wrap .u64 ((IntKind.wrap .u64 ((a.fdiv (2 ^ (min ((32 : Int)).toNat (IntKind.bits .u64)))) * (band .u64 b (4294967295 : Int)))) + ((IntKind.wrap .u64 ((band .u64 a (4294967295 : Int)) * (band .u64 b (4294967295 : Int)))).fdiv (2 ^ (min ((32 : Int)).toNat (IntKind.bits .u64)))))) (4294967295 : Int)) + (IntKind.wrap .u64 ((band .u64 a (4294967295 : Int)) * (b.fdiv (2 ^ (min ((32 : Int)).toNat (IntKind.bits .u64)))))))).fdiv (2 ^ (min ((32 : Int)).toNat (IntKind.bits .u64))))))))))] [] (cA (True.intro : True) (cA (True.intro : True) (cA l (cT (True.intro : True))))) ?_
 refine AW.SP Fm [.s, .s, .s, .s] [(4, .v (.c (.d (.int .u64 (IntKind.wrap .u64 ((IntKind.wrap .u64 ((IntKind.wrap .u64 ((a.fdiv (2 ^ (min ((32 : Int)).toNat (IntKind.bits .u64)))) * (b.fdiv (2 ^ (min ((32 : Int)).toNat (IntKind.bits .u64)))))) + ((IntKind.wrap .u64 ((IntKind.wrap .u64 ((a.fdiv (2 ^ (min ((32 : Int)).toNat (IntKind.bits .u64)))) * (band .u64 b (4294967295 : Int)))) + ((IntKind.wrap .u64 ((band .u64 a (4294967295 : Int)) * (band .u64 b (4294967295 : Int)))).fdiv (2 ^ (min ((32 : Int)).toNat (IntKind.bits .u64)))))).fdiv (2 ^ (min ((32 : Int)).toNat (IntKind.bits .u64)))))) + ((IntKind.wrap .u64 ((band .u64 (IntKind.wrap .u64 ((IntKind.wrap .u64 ((a.fdiv (2 ^ (min ((32 : Int)).toNat (IntKind.bits .u64)))) * (band .u64 b (4294967295 : Int)))) + ((IntKind.wrap .u64 ((band .u64 a (4294967295 : Int)) * (band .u64 b (4294967295 : Int)))).fdiv (2 ^ (min ((32 : Int)).toNat (IntKind.bits .u64)))))) (4294967295 : Int)) + (IntKind.wrap .u64 ((band .u64 a (4294967295 : Int)) * (b.fdiv (2 ^ (min ((32 : Int)).toNat (IntKind.bits .u64)))))))).fdiv (2 ^ (min ((32 : Int)).toNat (IntKind.bits .u64)))))))))), (5, .v (.c (.d (.int .u64 (IntKind.wrap .u64 (a * b))))))] [] (cT (True.intro : True)) ?_
 refine AW.ret ?_
 obtain rfl := Option.some.inj h
 exact Kn.D Fm
theorem grassland_product_spec {F : Nat} {b : Int} {e : Int} {r : Int × Int} (h : grassland_product F b e = some r) :
  FSpec Tryz.prog 115 [vi b, vi e] [] (.t [.c (.d (.int .u64 r.1)), .c (.d (.int .u64 r.2))]) [] := by
 refine FI Tryz.func115 prog_mixed prog_lay fun C Fm => ?_
 unfold grassland_product at h
 refine AW.SG0 Fm 2 [(0, vi b), (1, vi e)] [] ?_
 refine AW.seq ?_
 obtain ⟨a, i, h⟩ := bS h
 refine AW.G Fm [.s, .s, .s, .s, .k (cE [] [] (.t [.c (.d (.int .u64 a.1)), .c (.d (.int .u64 a.2))]) [] []), .s, .s, .s, .s] (fun K => (True) ∧ (True) ∧ K 4 ∧ True) [(4, .v (.c (.d (.int .u64 a.1)))), (5, .v (.c (.d (.int .u64 a.2))))] [] ⟨True.intro, True.intro, KAt.CC (math_bits_Mul64_spec i) Tryz.call196 [], ⟨⟩⟩ ?_
 refine AW.ret ?_
 obtain rfl := Option.some.inj h
 exact Kn.D Fm
theorem grassland_Fallen_spec {F : Nat} {m : (List Record)} {n : (List Crop)} {i : Int} {b : Int} {e : Region} {a : Int} {r : Bool × Int} (h : grassland_Fallen F m n i b e a = some r) :
  FSpec Tryz.prog 31 [AL m, AL n, vi i, vi b, .v (.g [.d (DL e.rects_)]), vi a] [] (.t [.c (.d (.bool r.1)), .c (ci r.2)]) [] := by
 refine FI Tryz.func31 prog_mixed prog_lay fun C Fm => ?_
 unfold grassland_Fallen at h
 refine AW.SG0 Fm 3 [(0, AL m), (1, AL n), (2, vi i), (3, vi b), (5, vi a), (10, pt 10)] [(10, bx [.d (DL e.rects_)])] ?_
 refine AW.SG0 Fm 5 [(2, vi i), (3, vi b), (5, vi a), (10, pt 10), (14, pt 14)] [(10, bx [.d (DL e.rects_)]), (14, bx [.d (DL m), .d (DL n)])] ?_
 refine AW.seq (AW.seq ?_)
 obtain ⟨q, U, h⟩ := bS h
 refine AW.G Fm [.s, .s, .w (AL (α := Region) ([e] : List Region)), .s, .s, .w (AL (α := Int) ([i, b] : List Int)), .k (cE [] [] (vi q) [] []), .s] (fun K => (ALe (.v (.c (.d (.lst 1 (litF 1 [DL e.rects_]))))) (AL (α := Region) ([e] : List Region))) ∧ (ALe (.v (.c (.d (.lst 2 (litF 1 [.int .i64 i, .int .i64 b]))))) (AL (α := Int) ([i, b] : List Int))) ∧ K 6 ∧ True) [(2, vi i), (3, vi b), (5, vi a), (10, pt 10), (14, pt 14), (15, vi q)] [(10, bx [.d (DL e.rects_)]), (14, bx [.d (DL m), .d (DL n)])] ⟨ALe.lst (.lit ([e] : List Region) (by kernel_rfl)), ALe.lst (.lit ([i, b] : List Int) (by kernel_rfl)), KAt.CC (grassland_records_check_spec U) Tryz.call110 [], ⟨⟩⟩ ?_
 refine AW.SG0 Fm 2 [(2, vi i), (3, vi b), (5, vi a), (10, pt 10), (14, pt 14), (15, vi q), (35, vb (q != (0 : Int)))] [(10, bx [.d (DL e.rects_)]), (14, bx [.d (DL m), .d (DL n)])] ?_
 refine AW.cN h (fun L h => ?_) (fun L h => ?_)
 ·refine AW.SG0 Fm 3 [(12, vb false), (13, vi q)] [] ?_
  refine AW.ret ?_
  obtain rfl := Option.some.inj h
  exact Kn.D Fm
 ·refine AW.skip (AW.seq (AW.join (r := r) (fun z : Bool => grassland_Fallen_k0 F m n i b e a z) (fun z => [(2, vi i), (3, vi b), (5, vi a), (10, pt 10), (14, pt 14), (42, vb z)]) (fun z => [(10, bx [.d (DL e.rects_)]), (14, bx [.d (DL m), .d (DL n)])]) (fun c0 h => ?_) (fun Z H => ?_)))
  ·refine AW.cN h (fun M h => ?_) (fun M h => ?_)
   ·refine AW.SG0 Fm 2 [(12, vb false), (13, vi 2)] [] ?_
    refine AW.ret ?_
    obtain rfl := Option.some.inj h
    exact Kn.D Fm
   ·refine AW.skip (AW.seq ?_)
    obtain ⟨j, V, h⟩ := bS h
    refine AW.G Fm [.s, .s, .s, .k (cE [] [] (.t [.c (ci j.1), .c (ci j.2)]) [] []), .s, .s, .s, .s, .s] (fun K => K 3 ∧ True) [(3, vi b), (5, vi a), (10, pt 10), (14, pt 14), (16, vi j.1), (17, vi j.2)] [(10, bx [.d (DL e.rects_)]), (14, bx [.d (DL m), .d (DL n)])] ⟨KAt.CC (grassland_records_ratio_spec V) Tryz.call114 [], ⟨⟩⟩ ?_
    refine AW.seq ?_
    obtain ⟨l, W, h⟩ := bS h
    refine AW.G Fm [.s, .s, .s, .k (cE [] [] (.t [.c (ci l.1), .c (ci l.2)]) [] []), .s, .s, .s, .s, .s] (fun K => K 3 ∧ True) [(5, vi a), (16, vi j.1), (17, vi j.2), (18, vi l.1), (19, vi l.2)] [] ⟨KAt.CC (grassland_records_ratio_spec W) Tryz.call114 [], ⟨⟩⟩ ?_
    refine AW.seq (AW.join (r := r) (fun z : Bool => grassland_Fallen_k1 F a j l z) (fun z => [(5, vi a), (16, vi j.1), (17, vi j.2), (18, vi l.1), (19, vi l.2), (62, vb z)]) (fun z => []) (fun d0 h => ?_) (fun a0 I => ?_))
    ·refine AW.cN h (fun N h => ?_) (fun N h => ?_)
     ·refine AW.SG0 Fm 2 [(12, vb false), (13, vi 0)] [] ?_
      refine AW.ret ?_
      obtain rfl := Option.some.inj h
      exact Kn.D Fm
     ·refine AW.skip (AW.seq ?_)
      obtain ⟨O, h⟩ := gS h
      obtain ⟨o, X, h⟩ := bS h
      refine AW.G Fm [.s, .s, .s, .k (cE [] [] (.t [.c (.d (.int .u64 o.1)), .c (.d (.int .u64 o.2))]) [] []), .s, .s, .s, .s, .s] (fun K => (_ ∧ True) ∧ K 3 ∧ True) [(5, vi a), (16, vi j.1), (19, vi l.2), (20, .v (.c (.d (.int .u64 o.1)))), (21, .v (.c (.d (.int .u64 o.2))))] [] ⟨⟨O, ⟨⟩⟩, KAt.CC (grassland_product_spec X) Tryz.call115 [], ⟨⟩⟩ ?_
      refine AW.seq ?_
      obtain ⟨P, T, h⟩ := gS2 h
      obtain ⟨p, Y, h⟩ := bS h
      refine AW.G Fm [.s, .s, .s, .s, .s, .k (cE [] [] (.t [.c (.d (.int .u64 p.1)), .c (.d (.int .u64 p.2))]) [] []), .s, .s, .s, .s, .s] (fun K => (_ ∧ True) ∧ (_ ∧ True) ∧ K 5 ∧ True) [(20, .v (.c (.d (.int .u64 o.1)))), (21, .v (.c (.d (.int .u64 o.2)))), (22, .v (.c (.d (.int .u64 p.1)))), (23, .v (.c (.d (.int .u64 p.2))))] [] ⟨⟨P, ⟨⟩⟩, ⟨T, ⟨⟩⟩, KAt.CC (grassland_product_spec Y) Tryz.call115 [], ⟨⟩⟩ ?_
      refine AW.join (r := r) (fun z : Bool => grassland_Fallen_k2 F z) (fun z => [(12, vb z), (13, vi 0)]) (fun z => []) (fun e0 h => ?_) (fun b0 y => ?_)
      ·refine AW.ret ?_
       obtain rfl := Option.some.inj h
       exact Kn.D Fm
      ·rcases br_or h with ⟨u, h⟩ | ⟨u, h⟩
       ·refine AW.pN Fm [.s, .s, .s, .w (vb true), .s, .s, .s, .s, .s, .s, .s, .s, .s, .s, .s] [(12, vb true), (13, vi 0)] [] (cT (ALe.bool u)) ?_
        exact Kn.R Fm (y true h)
       ·rcases br_or h with ⟨E, h⟩ | ⟨E, h⟩
        ·refine AW.pN Fm [.s, .s, .s, .w (vb false), .s, .s, .s, .w (vb true), .s, .s, .s, .s, .s, .s, .s] [(12, vb (decide (o.2 < p.2))), (13, vi 0)] [] (cA (ALe.bool u) (cT (ALe.bool E))) ?_
         exact Kn.R Fm (y (decide (o.2 < p.2)) h)
        ·refine AW.pN Fm [.s, .s, .s, .w (vb false), .s, .s, .s, .w (vb false), .s, .s, .s, .s, .s, .s, .s] [(12, vb false), (13, vi 0)] [] (cA (ALe.bool u) (cT (ALe.bool E))) ?_
         exact Kn.R Fm (y false h)
    ·rcases br_or h with ⟨B, h⟩ | ⟨B, h⟩
     ·refine AW.pN Fm [.s, .s, .w (vb true), .s, .s, .s] [(5, vi a), (16, vi j.1), (17, vi j.2), (18, vi l.1), (19, vi l.2), (62, vb true)] [] (cT (ALe.bool B)) ?_
      exact Kn.R Fm (I true h)
     ·refine AW.pN Fm [.s, .s, .w (vb false), .s, .s, .s] [(5, vi a), (16, vi j.1), (17, vi j.2), (18, vi l.1), (19, vi l.2), (62, vb (l.2 == (0 : Int)))] [] (cT (ALe.bool B)) ?_
      exact Kn.R Fm (I (l.2 == (0 : Int)) h)
  ·rcases br_or h with ⟨A, h⟩ | ⟨A, h⟩
   ·refine AW.pN Fm [.s, .s, .w (vb true), .s, .s, .s] [(2, vi i), (3, vi b), (5, vi a), (10, pt 10), (14, pt 14), (42, vb true)] [(10, bx [.d (DL e.rects_)]), (14, bx [.d (DL m), .d (DL n)])] (cT (ALe.bool A)) ?_
    exact Kn.R Fm (H true h)
   ·refine AW.pN Fm [.s, .s, .w (vb false), .s, .s, .s] [(2, vi i), (3, vi b), (5, vi a), (10, pt 10), (14, pt 14), (42, vb (decide ((1000000 : Int) < a)))] [(10, bx [.d (DL e.rects_)]), (14, bx [.d (DL m), .d (DL n)])] (cT (ALe.bool A)) ?_
    exact Kn.R Fm (H (decide ((1000000 : Int) < a)) h)
theorem law20_GrasslandFallen_spec {F : Nat} {d0 : (List Int)} {E : Int} {I : Int} {l : Int} {H : Int} {r : Bool} (h : law20_GrasslandFallen F d0 E I l H = some r) :
  FSpec Tryz.prog 6 [AL d0, .v (.c (.d (.int .u8 E))), .v (.c (.d (.int .u8 I))), .v (.c (.d (.int .u32 l))), .v (.c (.d (.int .u32 H)))] [] (vb r) [] := by
 refine FI Tryz.func6 prog_mixed prog_lay fun C Fm => ?_
 unfold law20_GrasslandFallen at h
 refine AW.SG0 Fm 1 [(0, AL d0), (1, .v (.c (.d (.int .u8 E)))), (2, .v (.c (.d (.int .u8 I)))), (3, .v (.c (.d (.int .u32 l)))), (4, .v (.c (.d (.int .u32 H))))] [] ?_
 refine AW.seq ?_
 obtain ⟨e0, R0, h⟩ := bS h
 refine AW.G Fm [.s, .k (cE [(100, 32)] [] (pt 100) [] [(100, bx (gC e0))]), .s] (fun K => K 1 ∧ True) [(1, .v (.c (.d (.int .u8 E)))), (2, .v (.c (.d (.int .u8 I)))), (3, .v (.c (.d (.int .u32 l)))), (4, .v (.c (.d (.int .u32 H)))), (11, pt 32)] [(32, bx (gC e0))] ⟨KAt.CC (keep_New_spec R0) Tryz.call14 [(100, 32)], ⟨⟩⟩ ?_
 refine AW.seq ?_
 obtain ⟨m, T0, h⟩ := bS h
 refine AW.G Fm [.s, .k (cE [(0, 32)] [] (.t [.c (.d (DL m.2.1)), .c (.d (DL m.2.2))]) [(0, bx (gC e0))] [(0, bx (gC m.1))]), .s, .s, .s, .s, .s] (fun K => K 1 ∧ True) [(1, .v (.c (.d (.int .u8 E)))), (2, .v (.c (.d (.int .u8 I)))), (3, .v (.c (.d (.int .u32 l)))), (4, .v (.c (.d (.int .u32 H)))), (11, pt 32), (12, AL m.2.1), (13, AL m.2.2)] [(32, bx (gC m.1))] ⟨KAt.CC (keep_Tape_Grassy_spec T0) Tryz.call23 [(0, 32)], ⟨⟩⟩ ?_
 obtain ⟨D0, E0, G0, H0, h⟩ := gS4 h
 obtain ⟨I0, K0, h⟩ := gS2 h
 refine AW.SP Fm [.s, .s, .s, .s, .s, .s, .s, .s, .s, .s] [(3, .v (.c (.d (.int .u32 l)))), (4, .v (.c (.d (.int .u32 H)))), (11, pt 32), (12, AL m.2.1), (13, AL m.2.2), (14, vi ((4 : Int) + (E.tmod (4 : Int)))), (15, vi ((4 : Int) + (I.tmod (4 : Int))))] [(32, bx (gC m.1))] (cA (cT D0) (cA E0 (cA (cT G0) (cA (cT H0) (cA I0 (cT (cT K0))))))) ?_
 refine AW.seq ?_
 obtain ⟨L, U0, h⟩ := bS h
 refine AW.G Fm [.s, .k (cE [(0, 32)] [] (.v (.g [.d (DL L.2.rects_)])) [(0, bx (gC m.1))] [(0, bx (gC L.1))]), .s, .s] (fun K => K 1 ∧ True) [(3, .v (.c (.d (.int .u32 l)))), (4, .v (.c (.d (.int .u32 H)))), (12, AL m.2.1), (13, AL m.2.2), (14, vi ((4 : Int) + (E.tmod (4 : Int)))), (15, vi ((4 : Int) + (I.tmod (4 : Int)))), (16, pt 16)] [(16, bx [.d (DL L.2.rects_)])] ⟨KAt.CC (keep_Tape_Land_spec U0) Tryz.call30 [(0, 32)], ⟨⟩⟩ ?_
 obtain ⟨L0, M0, h⟩ := gS2 h
 refine AW.SP Fm [.s, .s, .s, .s] [(4, .v (.c (.d (.int .u32 H)))), (12, AL m.2.1), (13, AL m.2.2), (14, vi ((4 : Int) + (E.tmod (4 : Int)))), (15, vi ((4 : Int) + (I.tmod (4 : Int)))), (16, pt 16), (17, vi (l.tmod (1000001 : Int)))] [(16, bx [.d (DL L.2.rects_)])] (cA (cT L0) (cT M0)) ?_
 obtain ⟨N0, O0, P0, h⟩ := gS3 h
 refine AW.SP Fm [.s, .s, .s, .s, .s, .s] [(12, AL m.2.1), (13, AL m.2.2), (14, vi ((4 : Int) + (E.tmod (4 : Int)))), (15, vi ((4 : Int) + (I.tmod (4 : Int)))), (16, pt 16), (17, vi (l.tmod (1000001 : Int))), (18, vi (H.tmod ((l.tmod (1000001 : Int)) + 1)))] [(16, bx [.d (DL L.2.rects_)])] (cA (cT N0) (cA (cT O0) (cT P0))) ?_
 refine AW.seq ?_
 obtain ⟨e, V0, h⟩ := bS h
 refine AW.G Fm [.s, .s, .s, .s, .k (cE [] [] (.t [.c (ci e.1), .c (ci e.2.1), .c (ci e.2.2)]) [] []), .s, .s, .s, .s, .s, .s, .s] (fun K => K 4 ∧ True) [(12, AL m.2.1), (13, AL m.2.2), (14, vi ((4 : Int) + (E.tmod (4 : Int)))), (15, vi ((4 : Int) + (I.tmod (4 : Int)))), (16, pt 16), (17, vi (l.tmod (1000001 : Int))), (18, vi (H.tmod ((l.tmod (1000001 : Int)) + 1))), (19, vi e.1), (20, vi e.2.1), (21, vi e.2.2)] [(16, bx [.d (DL L.2.rects_)])] ⟨KAt.CC (grassland_Ratio_spec V0) Tryz.call29 [], ⟨⟩⟩ ?_
 refine AW.seq ?_
 obtain ⟨j, W0, h⟩ := bS h
 refine AW.G Fm [.s, .s, .s, .s, .k (cE [] [] (.t [.c (ci j.1), .c (ci j.2.1), .c (ci j.2.2)]) [] []), .s, .s, .s, .s, .s, .s, .s] (fun K => K 4 ∧ True) [(12, AL m.2.1), (13, AL m.2.2), (14, vi ((4 : Int) + (E.tmod (4 : Int)))), (15, vi ((4 : Int) + (I.tmod (4 : Int)))), (16, pt 16), (17, vi (l.tmod (1000001 : Int))), (18, vi (H.tmod ((l.tmod (1000001 : Int)) + 1))), (19, vi e.1), (20, vi e.2.1), (21, vi e.2.2), (22, vi j.1), (23, vi j.2.1), (24, vi j.2.2)] [(16, bx [.d (DL L.2.rects_)])] ⟨KAt.CC (grassland_Ratio_spec W0) Tryz.call29 [], ⟨⟩⟩ ?_
 refine AW.seq ?_
 obtain ⟨i, X0, h⟩ := bS h
 refine AW.G Fm [.s, .s, .s, .s, .s, .s, .k (cE [] [] (.t [.c (.d (.bool i.1)), .c (ci i.2)]) [] []), .s, .s, .s, .s, .s] (fun K => K 6 ∧ True) [(12, AL m.2.1), (13, AL m.2.2), (14, vi ((4 : Int) + (E.tmod (4 : Int)))), (15, vi ((4 : Int) + (I.tmod (4 : Int)))), (16, pt 16), (17, vi (l.tmod (1000001 : Int))), (18, vi (H.tmod ((l.tmod (1000001 : Int)) + 1))), (19, vi e.1), (20, vi e.2.1), (21, vi e.2.2), (22, vi j.1), (23, vi j.2.1), (24, vi j.2.2), (25, vb i.1), (26, vi i.2)] [(16, bx [.d (DL L.2.rects_)])] ⟨KAt.CC (grassland_Fallen_spec X0) Tryz.call31 [], ⟨⟩⟩ ?_
 refine AW.seq ?_
 obtain ⟨T, Y0, h⟩ := bS h
 refine AW.G Fm [.s, .s, .s, .s, .s, .s, .k (cE [] [] (.t [.c (.d (.bool T.1)), .c (ci T.2)]) [] []), .s, .s, .s, .s, .s] (fun K => K 6 ∧ True) [(12, AL m.2.1), (13, AL m.2.2), (14, vi ((4 : Int) + (E.tmod (4 : Int)))), (16, pt 16), (17, vi (l.tmod (1000001 : Int))), (18, vi (H.tmod ((l.tmod (1000001 : Int)) + 1))), (19, vi e.1), (20, vi e.2.1), (21, vi e.2.2), (22, vi j.1), (23, vi j.2.1), (24, vi j.2.2), (25, vb i.1), (26, vi i.2), (27, vb T.1), (28, vi T.2)] [(16, bx [.d (DL L.2.rects_)])] ⟨KAt.CC (grassland_Fallen_spec Y0) Tryz.call31 [], ⟨⟩⟩ ?_
 refine AW.seq ?_
 obtain ⟨W, Z0, h⟩ := bS h
 refine AW.G Fm [.s, .s, .s, .s, .s, .s, .k (cE [] [] (.t [.c (.d (.bool W.1)), .c (ci W.2)]) [] []), .s, .s, .s, .s, .s] (fun K => K 6 ∧ True) [(17, vi (l.tmod (1000001 : Int))), (19, vi e.1), (20, vi e.2.1), (21, vi e.2.2), (22, vi j.1), (23, vi j.2.1), (24, vi j.2.2), (25, vb i.1), (26, vi i.2), (27, vb T.1), (28, vi T.2), (29, vb W.1), (30, vi W.2)] [] ⟨KAt.CC (grassland_Fallen_spec Z0) Tryz.call31 [], ⟨⟩⟩ ?_
 refine AW.join (r := r) (fun z : Bool => law20_GrasslandFallen_k0 F z) (fun z => [(10, vb z)]) (fun z => []) (fun k1 h => ?_) (fun j1 o => ?_)
 ·refine AW.ret ?_
  obtain rfl := Option.some.inj h
  exact Kn.D Fm
 ·rcases br_or h with ⟨n, h⟩ | ⟨n, h⟩
  ·rcases br_or h with ⟨p, h⟩ | ⟨p, h⟩
   ·rcases br_or h with ⟨q, h⟩ | ⟨q, h⟩
    ·rcases br_or h with ⟨u, h⟩ | ⟨u, h⟩
     ·rcases br_or h with ⟨y, h⟩ | ⟨y, h⟩
      ·rcases br_or h with ⟨A, h⟩ | ⟨A, h⟩
       ·rcases br_or h with ⟨B, h⟩ | ⟨B, h⟩
        ·rcases br_or h with ⟨N, h⟩ | ⟨N, h⟩
         ·rcases br_or h with ⟨U, h⟩ | ⟨U, h⟩
          ·obtain ⟨o0, p0, q0, s0, h⟩ := gS4 h
           obtain ⟨t0, h⟩ := gS h
           rcases br_or h with ⟨X, h⟩ | ⟨X, h⟩
           ·obtain ⟨i0, a1, h⟩ := bS h
            refine AW.G Fm [.s, .s, .w (vb true), .s, .s, .s, .w (vb true), .s, .s, .s, .w (vb true), .s, .s, .s, .w (vb true), .s, .s, .s, .w (vb true), .s, .s, .s, .w (vb true), .s, .s, .w (vb true), .s, .s, .s, .s, .s, .s, .s, .w (vb true), .s, .s, .s, .w (vb true), .s, .s, .s, .s, .s, .s, .s, .s, .s, .s, .s, .s, .k (sE (vb (i.1 == (decide (((e.1 * (1000000 : Int)) * j.2.1) < ((j.1 * ((1000000 : Int) - (l.tmod (1000001 : Int)))) * e.2.1)))))), .s, .w (vb true), .k (cE [] [] (vb i0) [] []), .s, .s] (fun K => _ ∧ _ ∧ _ ∧ _ ∧ _ ∧ _ ∧ _ ∧ _ ∧ _ ∧ (_ ∧ True) ∧ (_ ∧ True) ∧ (_ ∧ True) ∧ (_ ∧ True) ∧ (_ ∧ True) ∧ K 50 ∧ _ ∧ K 53 ∧ True) [(10, vb i0)] [] ⟨ALe.bool n, ALe.bool p, ALe.bool q, ALe.bool u, ALe.bool y, ALe.bool A, ALe.bool B, ALe.bool N, ALe.bool U, ⟨o0, ⟨⟩⟩, ⟨p0, ⟨⟩⟩, ⟨q0, ⟨⟩⟩, ⟨s0, ⟨⟩⟩, ⟨t0, ⟨⟩⟩, KAt.eqb (t := 4) (by kernel_rfl) true (a := i.1) (b := (decide (((e.1 * (1000000 : Int)) * j.2.1) < ((j.1 * ((1000000 : Int) - (l.tmod (1000001 : Int)))) * e.2.1)))) rfl rfl (by kernel_rfl) (by kernel_rfl) (by kernel_rfl), ALe.bool X, KAt.CC (law20_awake_spec a1) Tryz.call26 [], ⟨⟩⟩ ?_
            exact Kn.R Fm (o i0 h)
           ·refine AW.G Fm [.s, .s, .w (vb true), .s, .s, .s, .w (vb true), .s, .s, .s, .w (vb true), .s, .s, .s, .w (vb true), .s, .s, .s, .w (vb true), .s, .s, .s, .w (vb true), .s, .s, .w (vb true), .s, .s, .s, .s, .s, .s, .s, .w (vb true), .s, .s, .s, .w (vb true), .s, .s, .s, .s, .s, .s, .s, .s, .s, .s, .s, .s, .k (sE (vb (i.1 == (decide (((e.1 * (1000000 : Int)) * j.2.1) < ((j.1 * ((1000000 : Int) - (l.tmod (1000001 : Int)))) * e.2.1)))))), .s, .w (vb false), .s, .s, .s] (fun K => _ ∧ _ ∧ _ ∧ _ ∧ _ ∧ _ ∧ _ ∧ _ ∧ _ ∧ (_ ∧ True) ∧ (_ ∧ True) ∧ (_ ∧ True) ∧ (_ ∧ True) ∧ (_ ∧ True) ∧ K 50 ∧ _ ∧ True) [(10, vb false)] [] ⟨ALe.bool n, ALe.bool p, ALe.bool q, ALe.bool u, ALe.bool y, ALe.bool A, ALe.bool B, ALe.bool N, ALe.bool U, ⟨o0, ⟨⟩⟩, ⟨p0, ⟨⟩⟩, ⟨q0, ⟨⟩⟩, ⟨s0, ⟨⟩⟩, ⟨t0, ⟨⟩⟩, KAt.eqb (t := 4) (by kernel_rfl) true (a := i.1) (b := (decide (((e.1 * (1000000 : Int)) * j.2.1) < ((j.1 * ((1000000 : Int) - (l.tmod (1000001 : Int)))) * e.2.1)))) rfl rfl (by kernel_rfl) (by kernel_rfl) (by kernel_rfl), ALe.bool X, ⟨⟩⟩ ?_
            exact Kn.R Fm (o false h)
          ·rcases br_or h with ⟨Y, h⟩ | ⟨Y, h⟩
           ·obtain ⟨j0, b1, h⟩ := bS h
            refine AW.G Fm [.s, .s, .w (vb true), .s, .s, .s, .w (vb true), .s, .s, .s, .w (vb true), .s, .s, .s, .w (vb true), .s, .s, .s, .w (vb true), .s, .s, .s, .w (vb true), .s, .s, .w (vb true), .s, .s, .s, .s, .s, .s, .s, .w (vb true), .s, .s, .s, .w (vb false), .s, .s, .s, .s, .s, .s, .s, .s, .s, .s, .s, .s, .k (sE (vb (i.1 == false))), .s, .w (vb true), .k (cE [] [] (vb j0) [] []), .s, .s] (fun K => _ ∧ _ ∧ _ ∧ _ ∧ _ ∧ _ ∧ _ ∧ _ ∧ _ ∧ K 50 ∧ _ ∧ K 53 ∧ True) [(10, vb j0)] [] ⟨ALe.bool n, ALe.bool p, ALe.bool q, ALe.bool u, ALe.bool y, ALe.bool A, ALe.bool B, ALe.bool N, ALe.bool U, KAt.eqb (t := 4) (by kernel_rfl) true (a := i.1) (b := false) rfl rfl (by kernel_rfl) (by kernel_rfl) (by kernel_rfl), ALe.bool Y, KAt.CC (law20_awake_spec b1) Tryz.call26 [], ⟨⟩⟩ ?_
            exact Kn.R Fm (o j0 h)
           ·refine AW.G Fm [.s, .s, .w (vb true), .s, .s, .s, .w (vb true), .s, .s, .s, .w (vb true), .s, .s, .s, .w (vb true), .s, .s, .s, .w (vb true), .s, .s, .s, .w (vb true), .s, .s, .w (vb true), .s, .s, .s, .s, .s, .s, .s, .w (vb true), .s, .s, .s, .w (vb false), .s, .s, .s, .s, .s, .s, .s, .s, .s, .s, .s, .s, .k (sE (vb (i.1 == false))), .s, .w (vb false), .s, .s, .s] (fun K => _ ∧ _ ∧ _ ∧ _ ∧ _ ∧ _ ∧ _ ∧ _ ∧ _ ∧ K 50 ∧ _ ∧ True) [(10, vb false)] [] ⟨ALe.bool n, ALe.bool p, ALe.bool q, ALe.bool u, ALe.bool y, ALe.bool A, ALe.bool B, ALe.bool N, ALe.bool U, KAt.eqb (t := 4) (by kernel_rfl) true (a := i.1) (b := false) rfl rfl (by kernel_rfl) (by kernel_rfl) (by kernel_rfl), ALe.bool Y, ⟨⟩⟩ ?_
            exact Kn.R Fm (o false h)
         ·rcases br_or h with ⟨Z, h⟩ | ⟨Z, h⟩
          ·obtain ⟨k0, c1, h⟩ := bS h
           refine AW.G Fm [.s, .s, .w (vb true), .s, .s, .s, .w (vb true), .s, .s, .s, .w (vb true), .s, .s, .s, .w (vb true), .s, .s, .s, .w (vb true), .s, .s, .s, .w (vb true), .s, .s, .w (vb true), .s, .s, .s, .s, .s, .s, .s, .w (vb false), .s, .s, .s, .s, .s, .s, .s, .s, .s, .s, .s, .s, .s, .s, .s, .s, .k (sE (vb (i.1 == false))), .s, .w (vb true), .k (cE [] [] (vb k0) [] []), .s, .s] (fun K => _ ∧ _ ∧ _ ∧ _ ∧ _ ∧ _ ∧ _ ∧ _ ∧ K 50 ∧ _ ∧ K 53 ∧ True) [(10, vb k0)] [] ⟨ALe.bool n, ALe.bool p, ALe.bool q, ALe.bool u, ALe.bool y, ALe.bool A, ALe.bool B, ALe.bool N, KAt.eqb (t := 4) (by kernel_rfl) true (a := i.1) (b := false) rfl rfl (by kernel_rfl) (by kernel_rfl) (by kernel_rfl), ALe.bool Z, KAt.CC (law20_awake_spec c1) Tryz.call26 [], ⟨⟩⟩ ?_
           exact Kn.R Fm (o k0 h)
          ·refine AW.G Fm [.s, .s, .w (vb true), .s, .s, .s, .w (vb true), .s, .s, .s, .w (vb true), .s, .s, .s, .w (vb true), .s, .s, .s, .w (vb true), .s, .s, .s, .w (vb true), .s, .s, .w (vb true), .s, .s, .s, .s, .s, .s, .s, .w (vb false), .s, .s, .s, .s, .s, .s, .s, .s, .s, .s, .s, .s, .s, .s, .s, .s, .k (sE (vb (i.1 == false))), .s, .w (vb false), .s, .s, .s] (fun K => _ ∧ _ ∧ _ ∧ _ ∧ _ ∧ _ ∧ _ ∧ _ ∧ K 50 ∧ _ ∧ True) [(10, vb false)] [] ⟨ALe.bool n, ALe.bool p, ALe.bool q, ALe.bool u, ALe.bool y, ALe.bool A, ALe.bool B, ALe.bool N, KAt.eqb (t := 4) (by kernel_rfl) true (a := i.1) (b := false) rfl rfl (by kernel_rfl) (by kernel_rfl) (by kernel_rfl), ALe.bool Z, ⟨⟩⟩ ?_
           exact Kn.R Fm (o false h)
        ·rcases br_or h with ⟨M, h⟩ | ⟨M, h⟩
         ·rcases br_or h with ⟨P, h⟩ | ⟨P, h⟩
          ·rcases br_or h with ⟨V, h⟩ | ⟨V, h⟩
           ·obtain ⟨u0, w0, y0, A0, h⟩ := gS4 h
            obtain ⟨B0, h⟩ := gS h
            rcases br_or h with ⟨a0, h⟩ | ⟨a0, h⟩
            ·obtain ⟨l0, d1, h⟩ := bS h
             refine AW.G Fm [.s, .s, .w (vb true), .s, .s, .s, .w (vb true), .s, .s, .s, .w (vb true), .s, .s, .s, .w (vb true), .s, .s, .s, .w (vb true), .s, .s, .s, .w (vb true), .s, .s, .w (vb false), .s, .s, .s, .w (vb true), .s, .s, .s, .w (vb true), .s, .s, .s, .w (vb true), .s, .s, .s, .s, .s, .s, .s, .s, .s, .s, .s, .s, .k (sE (vb (i.1 == (decide (((e.1 * (1000000 : Int)) * j.2.1) < ((j.1 * ((1000000 : Int) - (l.tmod (1000001 : Int)))) * e.2.1)))))), .s, .w (vb true), .k (cE [] [] (vb l0) [] []), .s, .s] (fun K => _ ∧ _ ∧ _ ∧ _ ∧ _ ∧ _ ∧ _ ∧ _ ∧ _ ∧ _ ∧ (_ ∧ True) ∧ (_ ∧ True) ∧ (_ ∧ True) ∧ (_ ∧ True) ∧ (_ ∧ True) ∧ K 50 ∧ _ ∧ K 53 ∧ True) [(10, vb l0)] [] ⟨ALe.bool n, ALe.bool p, ALe.bool q, ALe.bool u, ALe.bool y, ALe.bool A, ALe.bool B, ALe.bool M, ALe.bool P, ALe.bool V, ⟨u0, ⟨⟩⟩, ⟨w0, ⟨⟩⟩, ⟨y0, ⟨⟩⟩, ⟨A0, ⟨⟩⟩, ⟨B0, ⟨⟩⟩, KAt.eqb (t := 4) (by kernel_rfl) true (a := i.1) (b := (decide (((e.1 * (1000000 : Int)) * j.2.1) < ((j.1 * ((1000000 : Int) - (l.tmod (1000001 : Int)))) * e.2.1)))) rfl rfl (by kernel_rfl) (by kernel_rfl) (by kernel_rfl), ALe.bool a0, KAt.CC (law20_awake_spec d1) Tryz.call26 [], ⟨⟩⟩ ?_
             exact Kn.R Fm (o l0 h)
            ·refine AW.G Fm [.s, .s, .w (vb true), .s, .s, .s, .w (vb true), .s, .s, .s, .w (vb true), .s, .s, .s, .w (vb true), .s, .s, .s, .w (vb true), .s, .s, .s, .w (vb true), .s, .s, .w (vb false), .s, .s, .s, .w (vb true), .s, .s, .s, .w (vb true), .s, .s, .s, .w (vb true), .s, .s, .s, .s, .s, .s, .s, .s, .s, .s, .s, .s, .k (sE (vb (i.1 == (decide (((e.1 * (1000000 : Int)) * j.2.1) < ((j.1 * ((1000000 : Int) - (l.tmod (1000001 : Int)))) * e.2.1)))))), .s, .w (vb false), .s, .s, .s] (fun K => _ ∧ _ ∧ _ ∧ _ ∧ _ ∧ _ ∧ _ ∧ _ ∧ _ ∧ _ ∧ (_ ∧ True) ∧ (_ ∧ True) ∧ (_ ∧ True) ∧ (_ ∧ True) ∧ (_ ∧ True) ∧ K 50 ∧ _ ∧ True) [(10, vb false)] [] ⟨ALe.bool n, ALe.bool p, ALe.bool q, ALe.bool u, ALe.bool y, ALe.bool A, ALe.bool B, ALe.bool M, ALe.bool P, ALe.bool V, ⟨u0, ⟨⟩⟩, ⟨w0, ⟨⟩⟩, ⟨y0, ⟨⟩⟩, ⟨A0, ⟨⟩⟩, ⟨B0, ⟨⟩⟩, KAt.eqb (t := 4) (by kernel_rfl) true (a := i.1) (b := (decide (((e.1 * (1000000 : Int)) * j.2.1) < ((j.1 * ((1000000 : Int) - (l.tmod (1000001 : Int)))) * e.2.1)))) rfl rfl (by kernel_rfl) (by kernel_rfl) (by kernel_rfl), ALe.bool a0, ⟨⟩⟩ ?_
             exact Kn.R Fm (o false h)
           ·rcases br_or h with ⟨b0, h⟩ | ⟨b0, h⟩
            ·obtain ⟨m0, e1, h⟩ := bS h
             refine AW.G Fm [.s, .s, .w (vb true), .s, .s, .s, .w (vb true), .s, .s, .s, .w (vb true), .s, .s, .s, .w (vb true), .s, .s, .s, .w (vb true), .s, .s, .s, .w (vb true), .s, .s, .w (vb false), .s, .s, .s, .w (vb true), .s, .s, .s, .w (vb true), .s, .s, .s, .w (vb false), .s, .s, .s, .s, .s, .s, .s, .s, .s, .s, .s, .s, .k (sE (vb (i.1 == false))), .s, .w (vb true), .k (cE [] [] (vb m0) [] []), .s, .s] (fun K => _ ∧ _ ∧ _ ∧ _ ∧ _ ∧ _ ∧ _ ∧ _ ∧ _ ∧ _ ∧ K 50 ∧ _ ∧ K 53 ∧ True) [(10, vb m0)] [] ⟨ALe.bool n, ALe.bool p, ALe.bool q, ALe.bool u, ALe.bool y, ALe.bool A, ALe.bool B, ALe.bool M, ALe.bool P, ALe.bool V, KAt.eqb (t := 4) (by kernel_rfl) true (a := i.1) (b := false) rfl rfl (by kernel_rfl) (by kernel_rfl) (by kernel_rfl), ALe.bool b0, KAt.CC (law20_awake_spec e1) Tryz.call26 [], ⟨⟩⟩ ?_
             exact Kn.R Fm (o m0 h)
            ·refine AW.G Fm [.s, .s, .w (vb true), .s, .s, .s, .w (vb true), .s, .s, .s, .w (vb true), .s, .s, .s, .w (vb true), .s, .s, .s, .w (vb true), .s, .s, .s, .w (vb true), .s, .s, .w (vb false), .s, .s, .s, .w (vb true), .s, .s, .s, .w (vb true), .s, .s, .s, .w (vb false), .s, .s, .s, .s, .s, .s, .s, .s, .s, .s, .s, .s, .k (sE (vb (i.1 == false))), .s, .w (vb false), .s, .s, .s] (fun K => _ ∧ _ ∧ _ ∧ _ ∧ _ ∧ _ ∧ _ ∧ _ ∧ _ ∧ _ ∧ K 50 ∧ _ ∧ True) [(10, vb false)] [] ⟨ALe.bool n, ALe.bool p, ALe.bool q, ALe.bool u, ALe.bool y, ALe.bool A, ALe.bool B, ALe.bool M, ALe.bool P, ALe.bool V, KAt.eqb (t := 4) (by kernel_rfl) true (a := i.1) (b := false) rfl rfl (by kernel_rfl) (by kernel_rfl) (by kernel_rfl), ALe.bool b0, ⟨⟩⟩ ?_
             exact Kn.R Fm (o false h)
          ·rcases br_or h with ⟨c0, h⟩ | ⟨c0, h⟩
           ·obtain ⟨n0, i1, h⟩ := bS h
            refine AW.G Fm [.s, .s, .w (vb true), .s, .s, .s, .w (vb true), .s, .s, .s, .w (vb true), .s, .s, .s, .w (vb true), .s, .s, .s, .w (vb true), .s, .s, .s, .w (vb true), .s, .s, .w (vb false), .s, .s, .s, .w (vb true), .s, .s, .s, .w (vb false), .s, .s, .s, .s, .s, .s, .s, .s, .s, .s, .s, .s, .s, .s, .s, .s, .k (sE (vb (i.1 == false))), .s, .w (vb true), .k (cE [] [] (vb n0) [] []), .s, .s] (fun K => _ ∧ _ ∧ _ ∧ _ ∧ _ ∧ _ ∧ _ ∧ _ ∧ _ ∧ K 50 ∧ _ ∧ K 53 ∧ True) [(10, vb n0)] [] ⟨ALe.bool n, ALe.bool p, ALe.bool q, ALe.bool u, ALe.bool y, ALe.bool A, ALe.bool B, ALe.bool M, ALe.bool P, KAt.eqb (t := 4) (by kernel_rfl) true (a := i.1) (b := false) rfl rfl (by kernel_rfl) (by kernel_rfl) (by kernel_rfl), ALe.bool c0, KAt.CC (law20_awake_spec i1) Tryz.call26 [], ⟨⟩⟩ ?_
            exact Kn.R Fm (o n0 h)
           ·refine AW.G Fm [.s, .s, .w (vb true), .s, .s, .s, .w (vb true), .s, .s, .s, .w (vb true), .s, .s, .s, .w (vb true), .s, .s, .s, .w (vb true), .s, .s, .s, .w (vb true), .s, .s, .w (vb false), .s, .s, .s, .w (vb true), .s, .s, .s, .w (vb false), .s, .s, .s, .s, .s, .s, .s, .s, .s, .s, .s, .s, .s, .s, .s, .s, .k (sE (vb (i.1 == false))), .s, .w (vb false), .s, .s, .s] (fun K => _ ∧ _ ∧ _ ∧ _ ∧ _ ∧ _ ∧ _ ∧ _ ∧ _ ∧ K 50 ∧ _ ∧ True) [(10, vb false)] [] ⟨ALe.bool n, ALe.bool p, ALe.bool q, ALe.bool u, ALe.bool y, ALe.bool A, ALe.bool B, ALe.bool M, ALe.bool P, KAt.eqb (t := 4) (by kernel_rfl) true (a := i.1) (b := false) rfl rfl (by kernel_rfl) (by kernel_rfl) (by kernel_rfl), ALe.bool c0, ⟨⟩⟩ ?_
            exact Kn.R Fm (o false h)
         ·refine AW.pN Fm [.s, .s, .w (vb true), .s, .s, .s, .w (vb true), .s, .s, .s, .w (vb true), .s, .s, .s, .w (vb true), .s, .s, .s, .w (vb true), .s, .s, .s, .w (vb true), .s, .s, .w (vb false), .s, .s, .s, .w (vb false), .s, .s, .s, .s, .s, .s, .s, .s, .s, .s, .s, .s, .s, .s, .s, .s, .s, .s, .s, .s, .s, .s, .s, .s, .s, .s] [(10, vb false)] [] (cA (ALe.bool n) (cA (ALe.bool p) (cA (ALe.bool q) (cA (ALe.bool u) (cA (ALe.bool y) (cA (ALe.bool A) (cA (ALe.bool B) (cT (ALe.bool M))))))))) ?_
          exact Kn.R Fm (o false h)
       ·refine AW.pN Fm [.s, .s, .w (vb true), .s, .s, .s, .w (vb true), .s, .s, .s, .w (vb true), .s, .s, .s, .w (vb true), .s, .s, .s, .w (vb true), .s, .s, .s, .w (vb false), .s, .s, .s, .s, .s, .s, .s, .s, .s, .s, .s, .s, .s, .s, .s, .s, .s, .s, .s, .s, .s, .s, .s, .s, .s, .s, .s, .s, .s, .s, .s, .s, .s] [(10, vb false)] [] (cA (ALe.bool n) (cA (ALe.bool p) (cA (ALe.bool q) (cA (ALe.bool u) (cA (ALe.bool y) (cT (ALe.bool A))))))) ?_
        exact Kn.R Fm (o false h)
      ·refine AW.pN Fm [.s, .s, .w (vb true), .s, .s, .s, .w (vb true), .s, .s, .s, .w (vb true), .s, .s, .s, .w (vb true), .s, .s, .s, .w (vb false), .s, .s, .s, .s, .s, .s, .s, .s, .s, .s, .s, .s, .s, .s, .s, .s, .s, .s, .s, .s, .s, .s, .s, .s, .s, .s, .s, .s, .s, .s, .s, .s, .s, .s, .s, .s, .s] [(10, vb false)] [] (cA (ALe.bool n) (cA (ALe.bool p) (cA (ALe.bool q) (cA (ALe.bool u) (cT (ALe.bool y)))))) ?_
       exact Kn.R Fm (o false h)
     ·refine AW.pN Fm [.s, .s, .w (vb true), .s, .s, .s, .w (vb true), .s, .s, .s, .w (vb true), .s, .s, .s, .w (vb false), .s, .s, .s, .s, .s, .s, .s, .s, .s, .s, .s, .s, .s, .s, .s, .s, .s, .s, .s, .s, .s, .s, .s, .s, .s, .s, .s, .s, .s, .s, .s, .s, .s, .s, .s, .s, .s, .s, .s, .s, .s] [(10, vb false)] [] (cA (ALe.bool n) (cA (ALe.bool p) (cA (ALe.bool q) (cT (ALe.bool u))))) ?_
      exact Kn.R Fm (o false h)
    ·refine AW.pN Fm [.s, .s, .w (vb true), .s, .s, .s, .w (vb true), .s, .s, .s, .w (vb false), .s, .s, .s, .s, .s, .s, .s, .s, .s, .s, .s, .s, .s, .s, .s, .s, .s, .s, .s, .s, .s, .s, .s, .s, .s, .s, .s, .s, .s, .s, .s, .s, .s, .s, .s, .s, .s, .s, .s, .s, .s, .s, .s, .s, .s] [(10, vb false)] [] (cA (ALe.bool n) (cA (ALe.bool p) (cT (ALe.bool q)))) ?_
     exact Kn.R Fm (o false h)
   ·refine AW.pN Fm [.s, .s, .w (vb true), .s, .s, .s, .w (vb false), .s, .s, .s, .s, .s, .s, .s, .s, .s, .s, .s, .s, .s, .s, .s, .s, .s, .s, .s, .s, .s, .s, .s, .s, .s, .s, .s, .s, .s, .s, .s, .s, .s, .s, .s, .s, .s, .s, .s, .s, .s, .s, .s, .s, .s, .s, .s, .s, .s] [(10, vb false)] [] (cA (ALe.bool n) (cT (ALe.bool p))) ?_
    exact Kn.R Fm (o false h)
  ·refine AW.pN Fm [.s, .s, .w (vb false), .s, .s, .s, .s, .s, .s, .s, .s, .s, .s, .s, .s, .s, .s, .s, .s, .s, .s, .s, .s, .s, .s, .s, .s, .s, .s, .s, .s, .s, .s, .s, .s, .s, .s, .s, .s, .s, .s, .s, .s, .s, .s, .s, .s, .s, .s, .s, .s, .s, .s, .s, .s, .s] [(10, vb false)] [] (cT (ALe.bool n)) ?_
   exact Kn.R Fm (o false h)
end Go.Ab
end
