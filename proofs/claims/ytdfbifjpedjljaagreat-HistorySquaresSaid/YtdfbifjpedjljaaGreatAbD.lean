/- Abstract states over the model: every lemma holds of any program of the form that it names. -/
import Derived.Test.YtdfbifjpedjljaaGreatBaA
set_option linter.unusedVariables false
set_option linter.unusedSimpArgs false
section
namespace Go.Ab
open Go.Proofs
set_option linter.unusedVariables false
set_option maxRecDepth 100000
theorem keep_New_spec {F : Nat} {x1 : (List Int)} {r : Tape} (h : keep_New F x1 = some r) :
  FSpec Tryz.prog 13 [AL x1] [] (pt 100) [(100, bx (gC r))] := by
 refine FI Tryz.func13 prog_mixed prog_lay fun C Fm => ?_
 unfold keep_New at h
 refine AW.SG0 Fm 1 [(0, AL x1)] [] ?_
 obtain ⟨hg2, h⟩ := gS h
 refine AW.SP Fm [.s, .s, .s, .s, .w (AL (α := Int) (x1.take (gmin (lI x1) (400 : Int)).toNat)), .s, .s, .s] [(2, pt 9)] [(9, bx [.d (DL (α := Int) (x1.take (gmin (lI x1) (400 : Int)).toNat)), ci 0])] (cA (⟨hg2, (Is.refl x1).len⟩ : ((sl (List.length x1) (LF x1) none (some (gmin (lI x1) (400 : Int)))).2 ∧ ∀ j, j < List.length x1 → (LF x1 j).length = 1)) (cT (ALe.lst (sl_is x1 none (some (gmin (lI x1) (400 : Int))) hg2) : ALe (.v (.c (.d (.lst (sl (List.length x1) (LF x1) none (some (gmin (lI x1) (400 : Int)))).1.1 (sl (List.length x1) (LF x1) none (some (gmin (lI x1) (400 : Int)))).1.2)))) (AL (α := Int) (x1.take (gmin (lI x1) (400 : Int)).toNat))))) ?_
 refine AW.ret ?_
 obtain rfl := Option.some.inj h
 exact Kn.re Fm [(100, 9)] [(2, pt 100)] [(100, bx [.d (DL (α := Int) (x1.take (gmin (lI x1) (400 : Int)).toNat)), ci 0])] (by kernel_rfl) (by kernel_rfl) (by kernel_rfl) (by kernel_rfl) (Kn.dn Fm (by kernel_rfl))
theorem keep_Mod_spec {F : Nat} {x3 : Int} {x4 : Int} {r : Int} (h : keep_Mod F x3 x4 = some r) :
  FSpec Tryz.prog 27 [vi x3, vi x4] [] (vi r) [] := by
 refine FI Tryz.func27 prog_mixed prog_lay fun C Fm => ?_
 unfold keep_Mod at h
 refine AW.SG0 Fm 1 [(0, vi x3), (1, vi x4)] [] ?_
 refine AW.seq (AW.SG0 Fm 2 [(0, vi x3), (1, vi x4), (6, vb (decide (x4 < (1 : Int))))] [] ?_)
 refine AW.cN h (fun hb5 h => ?_) (fun hb5 h => ?_)
 ·refine AW.SG0 Fm 1 [(4, vi 0)] [] ?_
  refine AW.ret ?_
  obtain rfl := Option.some.inj h
  exact Kn.D Fm
 ·refine AW.skip ?_
  obtain ⟨hg6, h⟩ := gS h
  refine AW.SP Fm [.s, .s, .s, .s] [(0, vi (x3.tmod x4)), (1, vi x4)] [] (cT hg6) ?_
  refine AW.join (r := r) (fun z : Int => keep_Mod_k0 F z) (fun z => [(0, vi z)]) (fun z => []) (fun v9 h => ?_) (fun J10 hJ10 => ?_)
  ·refine AW.SG0 Fm 2 [(4, vi v9)] [] ?_
   refine AW.ret ?_
   obtain rfl := Option.some.inj h
   exact Kn.D Fm
  ·refine AW.SG0 Fm 2 [(0, vi (x3.tmod x4)), (1, vi x4), (11, vb (decide ((x3.tmod x4) < (0 : Int))))] [] ?_
   refine AW.cN h (fun hb7 h => ?_) (fun hb7 h => ?_)
   ·obtain ⟨hg8, h⟩ := gS h
    refine AW.pN Fm [.s, .s, .s, .s] [(0, vi ((x3.tmod x4) + x4))] [] (cT (cT hg8)) ?_
    exact Kn.R Fm (hJ10 ((x3.tmod x4) + x4) h)
   ·exact AW.skip (Kn.R Fm (hJ10 (x3.tmod x4) h))
theorem keep_Tape_Next_spec {F : Nat} {x11 : Tape} {x12 : Int} {r : Tape × Int} (h : keep_Tape_Next F x11 x12 = some r) :
  FSpec Tryz.prog 15 [pt 0, vi x12] [(0, bx (gC x11))] (vi r.2) [(0, bx (gC r.1))] := by
 refine FI Tryz.func15 prog_mixed prog_lay fun C Fm => ?_
 unfold keep_Tape_Next at h
 refine AW.SG0 Fm 1 [(0, pt 0), (1, vi x12)] [(0, bx (gC x11))] ?_
 refine AW.seq (AW.SG0 Fm 10 [(0, pt 0), (1, vi x12), (14, vb (decide ((lI x11.l_) ≤ x11.at_)))] [(0, bx (gC x11))] ?_)
 refine AW.cN h (fun hb13 h => ?_) (fun hb13 h => ?_)
 ·refine AW.SG0 Fm 1 [(4, vi 0)] [(0, bx (gC x11))] ?_
  refine AW.ret ?_
  obtain rfl := Option.some.inj h
  exact Kn.D Fm
 ·refine AW.skip ?_
  obtain ⟨hg14, h⟩ := gS h
  refine AW.SP Fm [.s, .s, .s, .s, .s, .s, .s, .s] [(0, pt 0), (1, vi x12)] [(0, bx [.d (DL x11.l_), ci (x11.at_ + 1)])] (cT (cT hg14)) ?_
  refine AW.seq ?_
  obtain ⟨hg15, hg16, h⟩ := gS2 h
  obtain ⟨z17, hz18, h⟩ := bS h
  refine AW.G Fm [.s, .s, .s, .s, .s, .s, .s, .s, .s, .s, .s, .s, .k (cE [] [] (vi z17) [] []), .s] (fun K => (_ ∧ True) ∧ _ ∧ K 12 ∧ True) [(4, vi z17)] [(0, bx [.d (DL x11.l_), ci (x11.at_ + 1)])] ⟨⟨hg15, ⟨⟩⟩, hg16, KAt.CC (keep_Mod_spec hz18) Tryz.call27 [], ⟨⟩⟩ ?_
  refine AW.ret ?_
  obtain rfl := Option.some.inj h
  exact Kn.D Fm
theorem keep_Tape_Range_spec {F : Nat} {x19 : Tape} {x20 : Int} {x21 : Int} {r : Tape × Int} (h : keep_Tape_Range F x19 x20 x21 = some r) :
  FSpec Tryz.prog 45 [pt 0, vi x20, vi x21] [(0, bx (gC x19))] (vi r.2) [(0, bx (gC r.1))] := by
 refine FI Tryz.func45 prog_mixed prog_lay fun C Fm => ?_
 unfold keep_Tape_Range at h
 refine AW.SG0 Fm 1 [(0, pt 0), (1, vi x20), (2, vi x21)] [(0, bx (gC x19))] ?_
 refine AW.seq ?_
 obtain ⟨hg22, hg23, h⟩ := gS2 h
 obtain ⟨z24, hz25, h⟩ := bS h
 obtain ⟨hg26, h⟩ := gS h
 refine AW.G Fm [.s, .s, .s, .s, .s, .s, .k (cE [(0, 0)] [] (vi z24.2) [(0, bx (gC x19))] [(0, bx (gC z24.1))]), .s, .s] (fun K => (_ ∧ True) ∧ (_ ∧ True) ∧ K 6 ∧ (_ ∧ True) ∧ True) [(6, vi (x20 + z24.2))] [(0, bx (gC z24.1))] ⟨⟨hg22, ⟨⟩⟩, ⟨hg23, ⟨⟩⟩, KAt.CC (keep_Tape_Next_spec hz25) Tryz.call15 [(0, 0)], ⟨hg26, ⟨⟩⟩, ⟨⟩⟩ ?_
 refine AW.ret ?_
 obtain rfl := Option.some.inj h
 exact Kn.D Fm
theorem keep_Tape_Crops_spec {F : Nat} {x27 : Tape} {r : Tape × (List Crop)} (h : keep_Tape_Crops F x27 = some r) :
  FSpec Tryz.prog 14 [pt 0] [(0, bx (gC x27))] (AL (α := Crop) r.2) [(0, bx (gC r.1))] := by
 refine FI Tryz.func14 prog_mixed prog_lay fun C Fm => ?_
 unfold keep_Tape_Crops at h
 refine AW.SG0 Fm 1 [(0, pt 0)] [(0, bx (gC x27))] ?_
 refine AW.SP Fm [.w (AL (α := ByteArray) ([(ByteArray.mk #[98, 97, 114, 108, 101, 121]), (ByteArray.mk #[99, 108, 111, 118, 101, 114]), (ByteArray.mk #[103, 114, 97, 115, 115]), (ByteArray.mk #[109, 97, 105, 122, 101]), (ByteArray.mk #[111, 97, 116, 115]), (ByteArray.mk #[114, 121, 101]), (ByteArray.mk #[118, 101, 116, 99, 104]), (ByteArray.mk #[119, 104, 101, 97, 116])] : List ByteArray)), .s] [(0, pt 0), (3, AL (α := ByteArray) ([(ByteArray.mk #[98, 97, 114, 108, 101, 121]), (ByteArray.mk #[99, 108, 111, 118, 101, 114]), (ByteArray.mk #[103, 114, 97, 115, 115]), (ByteArray.mk #[109, 97, 105, 122, 101]), (ByteArray.mk #[111, 97, 116, 115]), (ByteArray.mk #[114, 121, 101]), (ByteArray.mk #[118, 101, 116, 99, 104]), (ByteArray.mk #[119, 104, 101, 97, 116])] : List ByteArray))] [(0, bx (gC x27))] (cT (ALe.lst (.lit ([(ByteArray.mk #[98, 97, 114, 108, 101, 121]), (ByteArray.mk #[99, 108, 111, 118, 101, 114]), (ByteArray.mk #[103, 114, 97, 115, 115]), (ByteArray.mk #[109, 97, 105, 122, 101]), (ByteArray.mk #[111, 97, 116, 115]), (ByteArray.mk #[114, 121, 101]), (ByteArray.mk #[118, 101, 116, 99, 104]), (ByteArray.mk #[119, 104, 101, 97, 116])] : List ByteArray) (by kernel_rfl)) : ALe (.v (.c (.d (.lst 8 (litF 1 [.str (ByteArray.mk #[98, 97, 114, 108, 101, 121]), .str (ByteArray.mk #[99, 108, 111, 118, 101, 114]), .str (ByteArray.mk #[103, 114, 97, 115, 115]), .str (ByteArray.mk #[109, 97, 105, 122, 101]), .str (ByteArray.mk #[111, 97, 116, 115]), .str (ByteArray.mk #[114, 121, 101]), .str (ByteArray.mk #[118, 101, 116, 99, 104]), .str (ByteArray.mk #[119, 104, 101, 97, 116])]))))) (AL (α := ByteArray) ([(ByteArray.mk #[98, 97, 114, 108, 101, 121]), (ByteArray.mk #[99, 108, 111, 118, 101, 114]), (ByteArray.mk #[103, 114, 97, 115, 115]), (ByteArray.mk #[109, 97, 105, 122, 101]), (ByteArray.mk #[111, 97, 116, 115]), (ByteArray.mk #[114, 121, 101]), (ByteArray.mk #[118, 101, 116, 99, 104]), (ByteArray.mk #[119, 104, 101, 97, 116])] : List ByteArray)))) ?_
 refine AW.SW Fm [.m] (fun K => True) [(0, pt 0), (3, AL (α := ByteArray) ([(ByteArray.mk #[98, 97, 114, 108, 101, 121]), (ByteArray.mk #[99, 108, 111, 118, 101, 114]), (ByteArray.mk #[103, 114, 97, 115, 115]), (ByteArray.mk #[109, 97, 105, 122, 101]), (ByteArray.mk #[111, 97, 116, 115]), (ByteArray.mk #[114, 121, 101]), (ByteArray.mk #[118, 101, 116, 99, 104]), (ByteArray.mk #[119, 104, 101, 97, 116])] : List ByteArray)), (4, ow 4)] [(0, bx (gC x27)), (4, AO (α := Crop) ([] : List Crop))] True.intro [(4, .arr 3 (0) (fun _ => []))] ⟨OLe.is ((Is.nil (α := Crop))), ⟨⟩⟩ ?_
 refine AW.join (r := r) (fun z : (List Crop) × (List Int) × Int => keep_Tape_Crops_k1 F z.1 z.2.1 z.2.2) (fun z => [(4, ow 4)]) (fun z => [(0, bx [.d (DL z.2.1), ci z.2.2]), (4, AO z.1)]) (fun z h => ?_) (fun J58 hJ58 => ?_)
 ·obtain ⟨v55, v56, v57⟩ := z
  refine AW.SG0 Fm 2 [(2, ow 4)] [(0, bx [.d (DL v56), ci v57]), (4, AO v55)] ?_
  refine AW.ret ?_
  obtain rfl := Option.some.inj h
  refine Kn.r Fm [(2, ow 4)] [(4, AO v55), (0, bx [.d (DL v56), ci v57])] (by kernel_rfl) ?_
  refine Kn.frz [(2, AL v55)] [(0, bx [.d (DL v56), ci v57])] (by kernel_rfl) (by kernel_rfl) (by kernel_rfl) ?_
  exact Kn.D Fm
 ·refine AW.seq ?_
  obtain ⟨z28, hz29, h⟩ := bS h
  obtain ⟨hg30, h⟩ := gS h
  refine AW.G Fm [.s, .s, .k (cE [(0, 0)] [] (vi z28.2) [(0, bx (gC x27))] [(0, bx (gC z28.1))]), .w (AL (α := ByteArray) (([(ByteArray.mk #[98, 97, 114, 108, 101, 121]), (ByteArray.mk #[99, 108, 111, 118, 101, 114]), (ByteArray.mk #[103, 114, 97, 115, 115]), (ByteArray.mk #[109, 97, 105, 122, 101]), (ByteArray.mk #[111, 97, 116, 115]), (ByteArray.mk #[114, 121, 101]), (ByteArray.mk #[118, 101, 116, 99, 104]), (ByteArray.mk #[119, 104, 101, 97, 116])] : List ByteArray).take z28.2.toNat)), .s, .s] (fun K => K 2 ∧ (((sl (List.length ([(ByteArray.mk #[98, 97, 114, 108, 101, 121]), (ByteArray.mk #[99, 108, 111, 118, 101, 114]), (ByteArray.mk #[103, 114, 97, 115, 115]), (ByteArray.mk #[109, 97, 105, 122, 101]), (ByteArray.mk #[111, 97, 116, 115]), (ByteArray.mk #[114, 121, 101]), (ByteArray.mk #[118, 101, 116, 99, 104]), (ByteArray.mk #[119, 104, 101, 97, 116])] : List ByteArray)) (LF ([(ByteArray.mk #[98, 97, 114, 108, 101, 121]), (ByteArray.mk #[99, 108, 111, 118, 101, 114]), (ByteArray.mk #[103, 114, 97, 115, 115]), (ByteArray.mk #[109, 97, 105, 122, 101]), (ByteArray.mk #[111, 97, 116, 115]), (ByteArray.mk #[114, 121, 101]), (ByteArray.mk #[118, 101, 116, 99, 104]), (ByteArray.mk #[119, 104, 101, 97, 116])] : List ByteArray)) none (some z28.2)).2 ∧ ∀ j, j < List.length ([(ByteArray.mk #[98, 97, 114, 108, 101, 121]), (ByteArray.mk #[99, 108, 111, 118, 101, 114]), (ByteArray.mk #[103, 114, 97, 115, 115]), (ByteArray.mk #[109, 97, 105, 122, 101]), (ByteArray.mk #[111, 97, 116, 115]), (ByteArray.mk #[114, 121, 101]), (ByteArray.mk #[118, 101, 116, 99, 104]), (ByteArray.mk #[119, 104, 101, 97, 116])] : List ByteArray) → (LF ([(ByteArray.mk #[98, 97, 114, 108, 101, 121]), (ByteArray.mk #[99, 108, 111, 118, 101, 114]), (ByteArray.mk #[103, 114, 97, 115, 115]), (ByteArray.mk #[109, 97, 105, 122, 101]), (ByteArray.mk #[111, 97, 116, 115]), (ByteArray.mk #[114, 121, 101]), (ByteArray.mk #[118, 101, 116, 99, 104]), (ByteArray.mk #[119, 104, 101, 97, 116])] : List ByteArray) j).length = 1)) ∧ (ALe (.v (.c (.d (.lst (sl (List.length ([(ByteArray.mk #[98, 97, 114, 108, 101, 121]), (ByteArray.mk #[99, 108, 111, 118, 101, 114]), (ByteArray.mk #[103, 114, 97, 115, 115]), (ByteArray.mk #[109, 97, 105, 122, 101]), (ByteArray.mk #[111, 97, 116, 115]), (ByteArray.mk #[114, 121, 101]), (ByteArray.mk #[118, 101, 116, 99, 104]), (ByteArray.mk #[119, 104, 101, 97, 116])] : List ByteArray)) (LF ([(ByteArray.mk #[98, 97, 114, 108, 101, 121]), (ByteArray.mk #[99, 108, 111, 118, 101, 114]), (ByteArray.mk #[103, 114, 97, 115, 115]), (ByteArray.mk #[109, 97, 105, 122, 101]), (ByteArray.mk #[111, 97, 116, 115]), (ByteArray.mk #[114, 121, 101]), (ByteArray.mk #[118, 101, 116, 99, 104]), (ByteArray.mk #[119, 104, 101, 97, 116])] : List ByteArray)) none (some z28.2)).1.1 (sl (List.length ([(ByteArray.mk #[98, 97, 114, 108, 101, 121]), (ByteArray.mk #[99, 108, 111, 118, 101, 114]), (ByteArray.mk #[103, 114, 97, 115, 115]), (ByteArray.mk #[109, 97, 105, 122, 101]), (ByteArray.mk #[111, 97, 116, 115]), (ByteArray.mk #[114, 121, 101]), (ByteArray.mk #[118, 101, 116, 99, 104]), (ByteArray.mk #[119, 104, 101, 97, 116])] : List ByteArray)) (LF ([(ByteArray.mk #[98, 97, 114, 108, 101, 121]), (ByteArray.mk #[99, 108, 111, 118, 101, 114]), (ByteArray.mk #[103, 114, 97, 115, 115]), (ByteArray.mk #[109, 97, 105, 122, 101]), (ByteArray.mk #[111, 97, 116, 115]), (ByteArray.mk #[114, 121, 101]), (ByteArray.mk #[118, 101, 116, 99, 104]), (ByteArray.mk #[119, 104, 101, 97, 116])] : List ByteArray)) none (some z28.2)).1.2)))) (AL (α := ByteArray) (([(ByteArray.mk #[98, 97, 114, 108, 101, 121]), (ByteArray.mk #[99, 108, 111, 118, 101, 114]), (ByteArray.mk #[103, 114, 97, 115, 115]), (ByteArray.mk #[109, 97, 105, 122, 101]), (ByteArray.mk #[111, 97, 116, 115]), (ByteArray.mk #[114, 121, 101]), (ByteArray.mk #[118, 101, 116, 99, 104]), (ByteArray.mk #[119, 104, 101, 97, 116])] : List ByteArray).take z28.2.toNat))) ∧ True) [(0, pt 0), (4, ow 4), (11, AL (α := ByteArray) (([(ByteArray.mk #[98, 97, 114, 108, 101, 121]), (ByteArray.mk #[99, 108, 111, 118, 101, 114]), (ByteArray.mk #[103, 114, 97, 115, 115]), (ByteArray.mk #[109, 97, 105, 122, 101]), (ByteArray.mk #[111, 97, 116, 115]), (ByteArray.mk #[114, 121, 101]), (ByteArray.mk #[118, 101, 116, 99, 104]), (ByteArray.mk #[119, 104, 101, 97, 116])] : List ByteArray).take z28.2.toNat)), (12, vi ((List.length (([(ByteArray.mk #[98, 97, 114, 108, 101, 121]), (ByteArray.mk #[99, 108, 111, 118, 101, 114]), (ByteArray.mk #[103, 114, 97, 115, 115]), (ByteArray.mk #[109, 97, 105, 122, 101]), (ByteArray.mk #[111, 97, 116, 115]), (ByteArray.mk #[114, 121, 101]), (ByteArray.mk #[118, 101, 116, 99, 104]), (ByteArray.mk #[119, 104, 101, 97, 116])] : List ByteArray).take z28.2.toNat) : Nat) : Int)), (13, vi 0)] [(0, bx (gC z28.1)), (4, AO (α := Crop) ([] : List Crop))] ⟨KAt.CC (keep_Tape_Range_spec hz29) Tryz.call45 [(0, 0)], ⟨hg30, (Is.refl ([(ByteArray.mk #[98, 97, 114, 108, 101, 121]), (ByteArray.mk #[99, 108, 111, 118, 101, 114]), (ByteArray.mk #[103, 114, 97, 115, 115]), (ByteArray.mk #[109, 97, 105, 122, 101]), (ByteArray.mk #[111, 97, 116, 115]), (ByteArray.mk #[114, 121, 101]), (ByteArray.mk #[118, 101, 116, 99, 104]), (ByteArray.mk #[119, 104, 101, 97, 116])] : List ByteArray)).len⟩, ALe.lst (sl_is ([(ByteArray.mk #[98, 97, 114, 108, 101, 121]), (ByteArray.mk #[99, 108, 111, 118, 101, 114]), (ByteArray.mk #[103, 114, 97, 115, 115]), (ByteArray.mk #[109, 97, 105, 122, 101]), (ByteArray.mk #[111, 97, 116, 115]), (ByteArray.mk #[114, 121, 101]), (ByteArray.mk #[118, 101, 116, 99, 104]), (ByteArray.mk #[119, 104, 101, 97, 116])] : List ByteArray) none (some z28.2) hg30), ⟨⟩⟩ ?_
  refine AW.block (Kn.r Fm [(0, pt 0), (4, ow 4), (11, AL (α := ByteArray) (([(ByteArray.mk #[98, 97, 114, 108, 101, 121]), (ByteArray.mk #[99, 108, 111, 118, 101, 114]), (ByteArray.mk #[103, 114, 97, 115, 115]), (ByteArray.mk #[109, 97, 105, 122, 101]), (ByteArray.mk #[111, 97, 116, 115]), (ByteArray.mk #[114, 121, 101]), (ByteArray.mk #[118, 101, 116, 99, 104]), (ByteArray.mk #[119, 104, 101, 97, 116])] : List ByteArray).take z28.2.toNat)), (12, vi ((List.length (([(ByteArray.mk #[98, 97, 114, 108, 101, 121]), (ByteArray.mk #[99, 108, 111, 118, 101, 114]), (ByteArray.mk #[103, 114, 97, 115, 115]), (ByteArray.mk #[109, 97, 105, 122, 101]), (ByteArray.mk #[111, 97, 116, 115]), (ByteArray.mk #[114, 121, 101]), (ByteArray.mk #[118, 101, 116, 99, 104]), (ByteArray.mk #[119, 104, 101, 97, 116])] : List ByteArray).take z28.2.toNat) : Nat) : Int)), (13, vi 0)] [(0, bx [.d (DL z28.1.l_), ci z28.1.at_]), (4, AO ([] : List Crop))] (by kernel_rfl) ?_)
  refine AW.loopF (E' := fun z => [(0, pt 0), (4, ow 4), (11, AL (α := ByteArray) (([(ByteArray.mk #[98, 97, 114, 108, 101, 121]), (ByteArray.mk #[99, 108, 111, 118, 101, 114]), (ByteArray.mk #[103, 114, 97, 115, 115]), (ByteArray.mk #[109, 97, 105, 122, 101]), (ByteArray.mk #[111, 97, 116, 115]), (ByteArray.mk #[114, 121, 101]), (ByteArray.mk #[118, 101, 116, 99, 104]), (ByteArray.mk #[119, 104, 101, 97, 116])] : List ByteArray).take z28.2.toNat)), (12, vi ((List.length (([(ByteArray.mk #[98, 97, 114, 108, 101, 121]), (ByteArray.mk #[99, 108, 111, 118, 101, 114]), (ByteArray.mk #[103, 114, 97, 115, 115]), (ByteArray.mk #[109, 97, 105, 122, 101]), (ByteArray.mk #[111, 97, 116, 115]), (ByteArray.mk #[114, 121, 101]), (ByteArray.mk #[118, 101, 116, 99, 104]), (ByteArray.mk #[119, 104, 101, 97, 116])] : List ByteArray).take z28.2.toNat) : Nat) : Int)), (13, vi z.1)]) (S' := fun z => [(0, bx [.d (DL z.2.1), ci z.2.2.1]), (4, AO z.2.2.2)]) (fun ag_keep_Tape_Crops_b0 z J45 hJ45 h => ?_) h
  obtain ⟨v41, v42, v43, v44⟩ := z
  refine AW.SG0 Fm 1 [(0, pt 0), (4, ow 4), (11, AL (α := ByteArray) (([(ByteArray.mk #[98, 97, 114, 108, 101, 121]), (ByteArray.mk #[99, 108, 111, 118, 101, 114]), (ByteArray.mk #[103, 114, 97, 115, 115]), (ByteArray.mk #[109, 97, 105, 122, 101]), (ByteArray.mk #[111, 97, 116, 115]), (ByteArray.mk #[114, 121, 101]), (ByteArray.mk #[118, 101, 116, 99, 104]), (ByteArray.mk #[119, 104, 101, 97, 116])] : List ByteArray).take z28.2.toNat)), (12, vi ((List.length (([(ByteArray.mk #[98, 97, 114, 108, 101, 121]), (ByteArray.mk #[99, 108, 111, 118, 101, 114]), (ByteArray.mk #[103, 114, 97, 115, 115]), (ByteArray.mk #[109, 97, 105, 122, 101]), (ByteArray.mk #[111, 97, 116, 115]), (ByteArray.mk #[114, 121, 101]), (ByteArray.mk #[118, 101, 116, 99, 104]), (ByteArray.mk #[119, 104, 101, 97, 116])] : List ByteArray).take z28.2.toNat) : Nat) : Int)), (13, vi v41), (14, vb (decide (v41 < ((List.length (([(ByteArray.mk #[98, 97, 114, 108, 101, 121]), (ByteArray.mk #[99, 108, 111, 118, 101, 114]), (ByteArray.mk #[103, 114, 97, 115, 115]), (ByteArray.mk #[109, 97, 105, 122, 101]), (ByteArray.mk #[111, 97, 116, 115]), (ByteArray.mk #[114, 121, 101]), (ByteArray.mk #[118, 101, 116, 99, 104]), (ByteArray.mk #[119, 104, 101, 97, 116])] : List ByteArray).take z28.2.toNat) : Nat) : Int))))] [(0, bx [.d (DL v42), ci v43]), (4, AO v44)] ?_
  refine AW.seq (AW.cN h (fun hb46 h => ?_) (fun hb46 h => ?_))
  ·refine AW.skip (AW.seq (AW.block ?_))
   obtain ⟨hg47, h⟩ := gS h
   refine AW.SP Fm [.s, .s, .s] [(0, pt 0), (4, ow 4), (6, .v (.c (.d (.str (gl (([(ByteArray.mk #[98, 97, 114, 108, 101, 121]), (ByteArray.mk #[99, 108, 111, 118, 101, 114]), (ByteArray.mk #[103, 114, 97, 115, 115]), (ByteArray.mk #[109, 97, 105, 122, 101]), (ByteArray.mk #[111, 97, 116, 115]), (ByteArray.mk #[114, 121, 101]), (ByteArray.mk #[118, 101, 116, 99, 104]), (ByteArray.mk #[119, 104, 101, 97, 116])] : List ByteArray).take z28.2.toNat) v41.toNat))))), (11, AL (α := ByteArray) (([(ByteArray.mk #[98, 97, 114, 108, 101, 121]), (ByteArray.mk #[99, 108, 111, 118, 101, 114]), (ByteArray.mk #[103, 114, 97, 115, 115]), (ByteArray.mk #[109, 97, 105, 122, 101]), (ByteArray.mk #[111, 97, 116, 115]), (ByteArray.mk #[114, 121, 101]), (ByteArray.mk #[118, 101, 116, 99, 104]), (ByteArray.mk #[119, 104, 101, 97, 116])] : List ByteArray).take z28.2.toNat)), (12, vi ((List.length (([(ByteArray.mk #[98, 97, 114, 108, 101, 121]), (ByteArray.mk #[99, 108, 111, 118, 101, 114]), (ByteArray.mk #[103, 114, 97, 115, 115]), (ByteArray.mk #[109, 97, 105, 122, 101]), (ByteArray.mk #[111, 97, 116, 115]), (ByteArray.mk #[114, 121, 101]), (ByteArray.mk #[118, 101, 116, 99, 104]), (ByteArray.mk #[119, 104, 101, 97, 116])] : List ByteArray).take z28.2.toNat) : Nat) : Int)), (13, vi v41)] [(0, bx [.d (DL v42), ci v43]), (4, AO v44)] (cT hg47) ?_
   obtain ⟨z48, hz49, h⟩ := bS h
   obtain ⟨z50, hz51, h⟩ := bS h
   obtain ⟨hg52, hg53, h⟩ := gS2 h
   refine AW.GW Fm [.s, .s, .s, .k (cE [(0, 0)] [] (vi z48.2) [(0, bx [.d (DL (α := Int) (⟨v42, v43⟩ : Tape).l_), ci ((⟨v42, v43⟩ : Tape).at_)])] [(0, bx (gC z48.1))]), .w (AL (α := Int) ([(0 : Int), (0 : Int), (0 : Int), (2 : Int), (20 : Int), (8 : Int), (1 : Int), (31 : Int)] : List Int)), .s, .k (cE [(0, 0)] [] (vi z50.2) [(0, bx (gC z48.1))] [(0, bx (gC z50.1))]), .s, .s, .s, .w (AL (α := Crop) ([(⟨(gl (([(ByteArray.mk #[98, 97, 114, 108, 101, 121]), (ByteArray.mk #[99, 108, 111, 118, 101, 114]), (ByteArray.mk #[103, 114, 97, 115, 115]), (ByteArray.mk #[109, 97, 105, 122, 101]), (ByteArray.mk #[111, 97, 116, 115]), (ByteArray.mk #[114, 121, 101]), (ByteArray.mk #[118, 101, 116, 99, 104]), (ByteArray.mk #[119, 104, 101, 97, 116])] : List ByteArray).take z28.2.toNat) v41.toNat), z48.2, (gl ([(0 : Int), (0 : Int), (0 : Int), (2 : Int), (20 : Int), (8 : Int), (1 : Int), (31 : Int)] : List Int) z50.2.toNat)⟩ : Crop)] : List Crop)), .s, .s] (fun K => K 3 ∧ (ALe (.v (.c (.d (.lst 8 (litF 1 [.int .i64 (0 : Int), .int .i64 (0 : Int), .int .i64 (0 : Int), .int .i64 (2 : Int), .int .i64 (20 : Int), .int .i64 (8 : Int), .int .i64 (1 : Int), .int .i64 (31 : Int)]))))) (AL (α := Int) ([(0 : Int), (0 : Int), (0 : Int), (2 : Int), (20 : Int), (8 : Int), (1 : Int), (31 : Int)] : List Int))) ∧ K 6 ∧ _ ∧ (ALe (.v (.c (.d (.lst 1 (litF 3 [.str (gl (([(ByteArray.mk #[98, 97, 114, 108, 101, 121]), (ByteArray.mk #[99, 108, 111, 118, 101, 114]), (ByteArray.mk #[103, 114, 97, 115, 115]), (ByteArray.mk #[109, 97, 105, 122, 101]), (ByteArray.mk #[111, 97, 116, 115]), (ByteArray.mk #[114, 121, 101]), (ByteArray.mk #[118, 101, 116, 99, 104]), (ByteArray.mk #[119, 104, 101, 97, 116])] : List ByteArray).take z28.2.toNat) v41.toNat), .int .i64 z48.2, .int .i64 (gl ([(0 : Int), (0 : Int), (0 : Int), (2 : Int), (20 : Int), (8 : Int), (1 : Int), (31 : Int)] : List Int) z50.2.toNat)]))))) (AL (α := Crop) ([(⟨(gl (([(ByteArray.mk #[98, 97, 114, 108, 101, 121]), (ByteArray.mk #[99, 108, 111, 118, 101, 114]), (ByteArray.mk #[103, 114, 97, 115, 115]), (ByteArray.mk #[109, 97, 105, 122, 101]), (ByteArray.mk #[111, 97, 116, 115]), (ByteArray.mk #[114, 121, 101]), (ByteArray.mk #[118, 101, 116, 99, 104]), (ByteArray.mk #[119, 104, 101, 97, 116])] : List ByteArray).take z28.2.toNat) v41.toNat), z48.2, (gl ([(0 : Int), (0 : Int), (0 : Int), (2 : Int), (20 : Int), (8 : Int), (1 : Int), (31 : Int)] : List Int) z50.2.toNat)⟩ : Crop)] : List Crop))) ∧ (_ ∧ _ ∧ True) ∧ True) [(0, pt 0), (4, ow 28), (11, AL (α := ByteArray) (([(ByteArray.mk #[98, 97, 114, 108, 101, 121]), (ByteArray.mk #[99, 108, 111, 118, 101, 114]), (ByteArray.mk #[103, 114, 97, 115, 115]), (ByteArray.mk #[109, 97, 105, 122, 101]), (ByteArray.mk #[111, 97, 116, 115]), (ByteArray.mk #[114, 121, 101]), (ByteArray.mk #[118, 101, 116, 99, 104]), (ByteArray.mk #[119, 104, 101, 97, 116])] : List ByteArray).take z28.2.toNat)), (12, vi ((List.length (([(ByteArray.mk #[98, 97, 114, 108, 101, 121]), (ByteArray.mk #[99, 108, 111, 118, 101, 114]), (ByteArray.mk #[103, 114, 97, 115, 115]), (ByteArray.mk #[109, 97, 105, 122, 101]), (ByteArray.mk #[111, 97, 116, 115]), (ByteArray.mk #[114, 121, 101]), (ByteArray.mk #[118, 101, 116, 99, 104]), (ByteArray.mk #[119, 104, 101, 97, 116])] : List ByteArray).take z28.2.toNat) : Nat) : Int)), (13, vi v41)] [(0, bx (gC z50.1)), (28, AO (α := Crop) (v44 ++ ([(⟨(gl (([(ByteArray.mk #[98, 97, 114, 108, 101, 121]), (ByteArray.mk #[99, 108, 111, 118, 101, 114]), (ByteArray.mk #[103, 114, 97, 115, 115]), (ByteArray.mk #[109, 97, 105, 122, 101]), (ByteArray.mk #[111, 97, 116, 115]), (ByteArray.mk #[114, 121, 101]), (ByteArray.mk #[118, 101, 116, 99, 104]), (ByteArray.mk #[119, 104, 101, 97, 116])] : List ByteArray).take z28.2.toNat) v41.toNat), z48.2, (gl ([(0 : Int), (0 : Int), (0 : Int), (2 : Int), (20 : Int), (8 : Int), (1 : Int), (31 : Int)] : List Int) z50.2.toNat)⟩ : Crop)] : List Crop)))] ⟨KAt.CC (keep_Tape_Next_spec hz49) Tryz.call15 [(0, 0)], ALe.lst (.lit ([(0 : Int), (0 : Int), (0 : Int), (2 : Int), (20 : Int), (8 : Int), (1 : Int), (31 : Int)] : List Int) (by kernel_rfl)), KAt.CC (keep_Tape_Next_spec hz51) Tryz.call15 [(0, 0)], hg52, ALe.lst (.lit ([(⟨(gl (([(ByteArray.mk #[98, 97, 114, 108, 101, 121]), (ByteArray.mk #[99, 108, 111, 118, 101, 114]), (ByteArray.mk #[103, 114, 97, 115, 115]), (ByteArray.mk #[109, 97, 105, 122, 101]), (ByteArray.mk #[111, 97, 116, 115]), (ByteArray.mk #[114, 121, 101]), (ByteArray.mk #[118, 101, 116, 99, 104]), (ByteArray.mk #[119, 104, 101, 97, 116])] : List ByteArray).take z28.2.toNat) v41.toNat), z48.2, (gl ([(0 : Int), (0 : Int), (0 : Int), (2 : Int), (20 : Int), (8 : Int), (1 : Int), (31 : Int)] : List Int) z50.2.toNat)⟩ : Crop)] : List Crop) (by kernel_rfl)), ⟨hg53, (Is.refl ([(⟨(gl (([(ByteArray.mk #[98, 97, 114, 108, 101, 121]), (ByteArray.mk #[99, 108, 111, 118, 101, 114]), (ByteArray.mk #[103, 114, 97, 115, 115]), (ByteArray.mk #[109, 97, 105, 122, 101]), (ByteArray.mk #[111, 97, 116, 115]), (ByteArray.mk #[114, 121, 101]), (ByteArray.mk #[118, 101, 116, 99, 104]), (ByteArray.mk #[119, 104, 101, 97, 116])] : List ByteArray).take z28.2.toNat) v41.toNat), z48.2, (gl ([(0 : Int), (0 : Int), (0 : Int), (2 : Int), (20 : Int), (8 : Int), (1 : Int), (31 : Int)] : List Int) z50.2.toNat)⟩ : Crop)] : List Crop) : Is (List.length (α := Crop) ([(⟨(gl (([(ByteArray.mk #[98, 97, 114, 108, 101, 121]), (ByteArray.mk #[99, 108, 111, 118, 101, 114]), (ByteArray.mk #[103, 114, 97, 115, 115]), (ByteArray.mk #[109, 97, 105, 122, 101]), (ByteArray.mk #[111, 97, 116, 115]), (ByteArray.mk #[114, 121, 101]), (ByteArray.mk #[118, 101, 116, 99, 104]), (ByteArray.mk #[119, 104, 101, 97, 116])] : List ByteArray).take z28.2.toNat) v41.toNat), z48.2, (gl ([(0 : Int), (0 : Int), (0 : Int), (2 : Int), (20 : Int), (8 : Int), (1 : Int), (31 : Int)] : List Int) z50.2.toNat)⟩ : Crop)] : List Crop)) (LF (α := Crop) ([(⟨(gl (([(ByteArray.mk #[98, 97, 114, 108, 101, 121]), (ByteArray.mk #[99, 108, 111, 118, 101, 114]), (ByteArray.mk #[103, 114, 97, 115, 115]), (ByteArray.mk #[109, 97, 105, 122, 101]), (ByteArray.mk #[111, 97, 116, 115]), (ByteArray.mk #[114, 121, 101]), (ByteArray.mk #[118, 101, 116, 99, 104]), (ByteArray.mk #[119, 104, 101, 97, 116])] : List ByteArray).take z28.2.toNat) v41.toNat), z48.2, (gl ([(0 : Int), (0 : Int), (0 : Int), (2 : Int), (20 : Int), (8 : Int), (1 : Int), (31 : Int)] : List Int) z50.2.toNat)⟩ : Crop)] : List Crop)) ([(⟨(gl (([(ByteArray.mk #[98, 97, 114, 108, 101, 121]), (ByteArray.mk #[99, 108, 111, 118, 101, 114]), (ByteArray.mk #[103, 114, 97, 115, 115]), (ByteArray.mk #[109, 97, 105, 122, 101]), (ByteArray.mk #[111, 97, 116, 115]), (ByteArray.mk #[114, 121, 101]), (ByteArray.mk #[118, 101, 116, 99, 104]), (ByteArray.mk #[119, 104, 101, 97, 116])] : List ByteArray).take z28.2.toNat) v41.toNat), z48.2, (gl ([(0 : Int), (0 : Int), (0 : Int), (2 : Int), (20 : Int), (8 : Int), (1 : Int), (31 : Int)] : List Int) z50.2.toNat)⟩ : Crop)] : List Crop)).len, ⟨⟩⟩, ⟨⟩⟩ [(28, .arr 3 ((List.length (α := Crop) v44) + (List.length (α := Crop) ([(⟨(gl (([(ByteArray.mk #[98, 97, 114, 108, 101, 121]), (ByteArray.mk #[99, 108, 111, 118, 101, 114]), (ByteArray.mk #[103, 114, 97, 115, 115]), (ByteArray.mk #[109, 97, 105, 122, 101]), (ByteArray.mk #[111, 97, 116, 115]), (ByteArray.mk #[114, 121, 101]), (ByteArray.mk #[118, 101, 116, 99, 104]), (ByteArray.mk #[119, 104, 101, 97, 116])] : List ByteArray).take z28.2.toNat) v41.toNat), z48.2, (gl ([(0 : Int), (0 : Int), (0 : Int), (2 : Int), (20 : Int), (8 : Int), (1 : Int), (31 : Int)] : List Int) z50.2.toNat)⟩ : Crop)] : List Crop))) (appF (List.length (α := Crop) v44) (LF (α := Crop) v44) (LF (α := Crop) ([(⟨(gl (([(ByteArray.mk #[98, 97, 114, 108, 101, 121]), (ByteArray.mk #[99, 108, 111, 118, 101, 114]), (ByteArray.mk #[103, 114, 97, 115, 115]), (ByteArray.mk #[109, 97, 105, 122, 101]), (ByteArray.mk #[111, 97, 116, 115]), (ByteArray.mk #[114, 121, 101]), (ByteArray.mk #[118, 101, 116, 99, 104]), (ByteArray.mk #[119, 104, 101, 97, 116])] : List ByteArray).take z28.2.toNat) v41.toNat), z48.2, (gl ([(0 : Int), (0 : Int), (0 : Int), (2 : Int), (20 : Int), (8 : Int), (1 : Int), (31 : Int)] : List Int) z50.2.toNat)⟩ : Crop)] : List Crop))))] ⟨OLe.is (Is.app (Is.refl v44) (Is.refl ([(⟨(gl (([(ByteArray.mk #[98, 97, 114, 108, 101, 121]), (ByteArray.mk #[99, 108, 111, 118, 101, 114]), (ByteArray.mk #[103, 114, 97, 115, 115]), (ByteArray.mk #[109, 97, 105, 122, 101]), (ByteArray.mk #[111, 97, 116, 115]), (ByteArray.mk #[114, 121, 101]), (ByteArray.mk #[118, 101, 116, 99, 104]), (ByteArray.mk #[119, 104, 101, 97, 116])] : List ByteArray).take z28.2.toNat) v41.toNat), z48.2, (gl ([(0 : Int), (0 : Int), (0 : Int), (2 : Int), (20 : Int), (8 : Int), (1 : Int), (31 : Int)] : List Int) z50.2.toNat)⟩ : Crop)] : List Crop))), ⟨⟩⟩ ?_
   obtain ⟨hg54, h⟩ := gS h
   refine AW.pN Fm [.s, .s] [(0, pt 0), (4, ow 28), (11, AL (α := ByteArray) (([(ByteArray.mk #[98, 97, 114, 108, 101, 121]), (ByteArray.mk #[99, 108, 111, 118, 101, 114]), (ByteArray.mk #[103, 114, 97, 115, 115]), (ByteArray.mk #[109, 97, 105, 122, 101]), (ByteArray.mk #[111, 97, 116, 115]), (ByteArray.mk #[114, 121, 101]), (ByteArray.mk #[118, 101, 116, 99, 104]), (ByteArray.mk #[119, 104, 101, 97, 116])] : List ByteArray).take z28.2.toNat)), (12, vi ((List.length (([(ByteArray.mk #[98, 97, 114, 108, 101, 121]), (ByteArray.mk #[99, 108, 111, 118, 101, 114]), (ByteArray.mk #[103, 114, 97, 115, 115]), (ByteArray.mk #[109, 97, 105, 122, 101]), (ByteArray.mk #[111, 97, 116, 115]), (ByteArray.mk #[114, 121, 101]), (ByteArray.mk #[118, 101, 116, 99, 104]), (ByteArray.mk #[119, 104, 101, 97, 116])] : List ByteArray).take z28.2.toNat) : Nat) : Int)), (13, vi (v41 + 1))] [(0, bx (gC z50.1)), (28, AO (α := Crop) (v44 ++ ([(⟨(gl (([(ByteArray.mk #[98, 97, 114, 108, 101, 121]), (ByteArray.mk #[99, 108, 111, 118, 101, 114]), (ByteArray.mk #[103, 114, 97, 115, 115]), (ByteArray.mk #[109, 97, 105, 122, 101]), (ByteArray.mk #[111, 97, 116, 115]), (ByteArray.mk #[114, 121, 101]), (ByteArray.mk #[118, 101, 116, 99, 104]), (ByteArray.mk #[119, 104, 101, 97, 116])] : List ByteArray).take z28.2.toNat) v41.toNat), z48.2, (gl ([(0 : Int), (0 : Int), (0 : Int), (2 : Int), (20 : Int), (8 : Int), (1 : Int), (31 : Int)] : List Int) z50.2.toNat)⟩ : Crop)] : List Crop)))] (cT (cT hg54)) ?_
   exact Kn.RE Fm [(4, 28)] (hJ45 ((v41 + 1), z50.1.l_, z50.1.at_, (v44 ++ ([(⟨(gl (([(ByteArray.mk #[98, 97, 114, 108, 101, 121]), (ByteArray.mk #[99, 108, 111, 118, 101, 114]), (ByteArray.mk #[103, 114, 97, 115, 115]), (ByteArray.mk #[109, 97, 105, 122, 101]), (ByteArray.mk #[111, 97, 116, 115]), (ByteArray.mk #[114, 121, 101]), (ByteArray.mk #[118, 101, 116, 99, 104]), (ByteArray.mk #[119, 104, 101, 97, 116])] : List ByteArray).take z28.2.toNat) v41.toNat), z48.2, (gl ([(0 : Int), (0 : Int), (0 : Int), (2 : Int), (20 : Int), (8 : Int), (1 : Int), (31 : Int)] : List Int) z50.2.toNat)⟩ : Crop)] : List Crop))) h)
  ·exact AW.exit (Kn.R Fm (hJ58 (v44, v42, v43) h))
theorem keep_Tape_Rect_spec {F : Nat} {x59 : Tape} {x60 : Int} {r : Tape × Rect} (h : keep_Tape_Rect F x59 x60 = some r) :
  FSpec Tryz.prog 92 [pt 0, vi x60] [(0, bx (gC x59))] (gE r.2) [(0, bx (gC r.1))] := by
 refine FI Tryz.func92 prog_mixed prog_lay fun C Fm => ?_
 unfold keep_Tape_Rect at h
 refine AW.SG0 Fm 1 [(0, pt 0), (1, vi x60), (4, pt 4)] [(0, bx (gC x59)), (4, bx [ci 0, ci 0, ci 0, ci 0])] ?_
 refine AW.seq ?_
 obtain ⟨z61, hz62, h⟩ := bS h
 obtain ⟨z63, hz64, h⟩ := bS h
 refine AW.G Fm [.s, .s, .k (cE [(0, 0)] [] (vi z61.2) [(0, bx (gC x59))] [(0, bx (gC z61.1))]), .s, .s, .k (cE [(0, 0)] [] (vi z63.2) [(0, bx (gC z61.1))] [(0, bx (gC z63.1))]), .s, .s] (fun K => K 2 ∧ K 5 ∧ True) [(0, pt 0), (1, vi x60), (4, pt 4), (5, vi z61.2), (6, vi z63.2)] [(0, bx (gC z63.1)), (4, bx [ci 0, ci 0, ci 0, ci 0])] ⟨KAt.CC (keep_Tape_Next_spec hz62) Tryz.call15 [(0, 0)], KAt.CC (keep_Tape_Next_spec hz64) Tryz.call15 [(0, 0)], ⟨⟩⟩ ?_
 refine AW.seq ?_
 obtain ⟨hg65, hg66, h⟩ := gS2 h
 obtain ⟨z67, hz68, h⟩ := bS h
 obtain ⟨hg69, hg70, hg71, h⟩ := gS3 h
 obtain ⟨z72, hz73, h⟩ := bS h
 obtain ⟨hg74, h⟩ := gS h
 refine AW.G Fm [.s, .s, .s, .s, .s, .s, .s, .s, .k (cE [(0, 0)] [] (vi z67.2) [(0, bx (gC z63.1))] [(0, bx (gC z67.1))]), .s, .s, .s, .s, .s, .s, .s, .k (cE [(0, 0)] [] (vi z72.2) [(0, bx (gC z67.1))] [(0, bx (gC z72.1))]), .s, .s, .s] (fun K => (_ ∧ True) ∧ (_ ∧ True) ∧ K 8 ∧ (_ ∧ True) ∧ (_ ∧ True) ∧ (_ ∧ True) ∧ K 16 ∧ (_ ∧ True) ∧ True) [(4, pt 4)] [(0, bx (gC z72.1)), (4, bx [ci z61.2, ci z63.2, ci ((z61.2 + 1) + z67.2), ci ((z63.2 + 1) + z72.2)])] ⟨⟨hg65, ⟨⟩⟩, ⟨hg66, ⟨⟩⟩, KAt.CC (keep_Tape_Next_spec hz68) Tryz.call15 [(0, 0)], ⟨hg69, ⟨⟩⟩, ⟨hg70, ⟨⟩⟩, ⟨hg71, ⟨⟩⟩, KAt.CC (keep_Tape_Next_spec hz73) Tryz.call15 [(0, 0)], ⟨hg74, ⟨⟩⟩, ⟨⟩⟩ ?_
 refine AW.ret ?_
 obtain rfl := Option.some.inj h
 exact Kn.D Fm
theorem ref04_proper_spec {F : Nat} {x75 : Rect} {r : Bool} (h : ref04_proper F x75 = some r) :
  FSpec Tryz.prog 181 [gE x75] [] (vb r) [] := by
 refine FI Tryz.func181 prog_mixed prog_lay fun C Fm => ?_
 unfold ref04_proper at h
 refine AW.SG0 Fm 2 [(1, pt 1)] [(1, bx (gC x75))] ?_
 refine AW.join (r := r) (fun z : Bool => ref04_proper_k0 F z) (fun z => [(2, vb z)]) (fun z => []) (fun v81 h => ?_) (fun J82 hJ82 => ?_)
 ·refine AW.ret ?_
  obtain rfl := Option.some.inj h
  exact Kn.D Fm
 ·rcases br_or h with ⟨hb76, h⟩ | ⟨hb76, h⟩
  ·rcases br_or h with ⟨hb77, h⟩ | ⟨hb77, h⟩
   ·rcases br_or h with ⟨hb78, h⟩ | ⟨hb78, h⟩
    ·rcases br_or h with ⟨hb79, h⟩ | ⟨hb79, h⟩
     ·rcases br_or h with ⟨hb80, h⟩ | ⟨hb80, h⟩
      ·refine AW.pN Fm [.s, .s, .s, .w (vb true), .s, .s, .s, .s, .s, .s, .w (vb true), .s, .s, .s, .s, .w (vb true), .s, .s, .s, .s, .w (vb true), .s, .s, .s, .s, .s, .s, .w (vb true), .s, .s, .s, .s, .s] [(2, vb (decide (x75.high_ ≤ (16384 : Int))))] [] (cA (ALe.bool hb76) (cA (ALe.bool hb77) (cA (ALe.bool hb78) (cA (ALe.bool hb79) (cT (ALe.bool hb80)))))) ?_
       exact Kn.R Fm (hJ82 (decide (x75.high_ ≤ (16384 : Int))) h)
      ·refine AW.pN Fm [.s, .s, .s, .w (vb true), .s, .s, .s, .s, .s, .s, .w (vb true), .s, .s, .s, .s, .w (vb true), .s, .s, .s, .s, .w (vb true), .s, .s, .s, .s, .s, .s, .w (vb false), .s, .s, .s, .s, .s] [(2, vb false)] [] (cA (ALe.bool hb76) (cA (ALe.bool hb77) (cA (ALe.bool hb78) (cA (ALe.bool hb79) (cT (ALe.bool hb80)))))) ?_
       exact Kn.R Fm (hJ82 false h)
     ·refine AW.pN Fm [.s, .s, .s, .w (vb true), .s, .s, .s, .s, .s, .s, .w (vb true), .s, .s, .s, .s, .w (vb true), .s, .s, .s, .s, .w (vb false), .s, .s, .s, .s, .s, .s, .s, .s, .s, .s, .s, .s] [(2, vb false)] [] (cA (ALe.bool hb76) (cA (ALe.bool hb77) (cA (ALe.bool hb78) (cT (ALe.bool hb79))))) ?_
      exact Kn.R Fm (hJ82 false h)
    ·refine AW.pN Fm [.s, .s, .s, .w (vb true), .s, .s, .s, .s, .s, .s, .w (vb true), .s, .s, .s, .s, .w (vb false), .s, .s, .s, .s, .s, .s, .s, .s, .s, .s, .s, .s, .s, .s, .s, .s, .s] [(2, vb false)] [] (cA (ALe.bool hb76) (cA (ALe.bool hb77) (cT (ALe.bool hb78)))) ?_
     exact Kn.R Fm (hJ82 false h)
   ·refine AW.pN Fm [.s, .s, .s, .w (vb true), .s, .s, .s, .s, .s, .s, .w (vb false), .s, .s, .s, .s, .s, .s, .s, .s, .s, .s, .s, .s, .s, .s, .s, .s, .s, .s, .s, .s, .s, .s] [(2, vb false)] [] (cA (ALe.bool hb76) (cT (ALe.bool hb77))) ?_
    exact Kn.R Fm (hJ82 false h)
  ·refine AW.pN Fm [.s, .s, .s, .w (vb false), .s, .s, .s, .s, .s, .s, .s, .s, .s, .s, .s, .s, .s, .s, .s, .s, .s, .s, .s, .s, .s, .s, .s, .s, .s, .s, .s, .s, .s] [(2, vb false)] [] (cT (ALe.bool hb76)) ?_
   exact Kn.R Fm (hJ82 false h)
theorem ref01_Put_spec {F : Nat} {x83 : (List Int)} {x84 : Int} {r : (List Int)} (h : ref01_Put F x83 x84 = some r) :
  FSpec Tryz.prog 127 [AL x83, vi x84] [] (AL (α := Int) r) [] := by
 refine FI Tryz.func127 prog_mixed prog_lay fun C Fm => ?_
 unfold ref01_Put at h
 refine AW.SG0 Fm 1 [(0, AL x83), (1, vi x84)] [] ?_
 refine AW.SG0 Fm 1 [(0, AL x83), (1, vi x84), (5, vi 0)] [] ?_
 refine AW.join (r := r) (fun z : Int => ref01_Put_k2 F x83 x84 z) (fun z => [(0, AL x83), (1, vi x84), (5, vi z)]) (fun z => []) (fun v100 h => ?_) (fun J101 hJ101 => ?_)
 ·refine AW.seq (AW.join (r := r) (fun z : Bool => ref01_Put_k3 F x83 x84 v100 z) (fun z => [(0, AL x83), (1, vi x84), (5, vi v100), (31, vb z)]) (fun z => []) (fun v104 h => ?_) (fun J105 hJ105 => ?_))
  ·refine AW.cN h (fun hb106 h => ?_) (fun hb106 h => ?_)
   ·refine AW.SG0 Fm 2 [(4, AL x83)] [] ?_
    refine AW.ret ?_
    obtain rfl := Option.some.inj h
    exact Kn.D Fm
   ·refine AW.skip ?_
    obtain ⟨hg107, hg108, hg109, hg110, h⟩ := gS4 h
    obtain ⟨hg111, h⟩ := gS h
    refine AW.SV Fm [.m, .s, .s, .w (AL (α := Int) (x83.take v100.toNat)), .s, .s, .w (AL (α := Int) ([x84] : List Int)), .s, .s, .s, .w (AL (α := Int) (x83.drop v100.toNat)), .s, .s] [(4, ow 44)] [(44, AO (α := Int) (((([] : List Int) ++ (x83.take v100.toNat)) ++ ([x84] : List Int)) ++ (x83.drop v100.toNat)))] (cA (⟨hg107, (Is.refl x83).len⟩ : ((sl (List.length x83) (LF x83) none (some v100)).2 ∧ ∀ j, j < List.length x83 → (LF x83 j).length = 1)) (cA (ALe.lst (sl_is x83 none (some v100) hg107) : ALe (.v (.c (.d (.lst (sl (List.length x83) (LF x83) none (some v100)).1.1 (sl (List.length x83) (LF x83) none (some v100)).1.2)))) (AL (α := Int) (x83.take v100.toNat))) (cA (cA hg108 (cT (Is.refl (x83.take v100.toNat) : Is (List.length (α := Int) (x83.take v100.toNat)) (LF (α := Int) (x83.take v100.toNat)) (x83.take v100.toNat)).len)) (cA (ALe.lst (.lit ([x84] : List Int) (by kernel_rfl)) : ALe (.v (.c (.d (.lst 1 (litF 1 [.int .i64 x84]))))) (AL (α := Int) ([x84] : List Int))) (cA (cA hg109 (cT (Is.refl ([x84] : List Int) : Is (List.length (α := Int) ([x84] : List Int)) (LF (α := Int) ([x84] : List Int)) ([x84] : List Int)).len)) (cA (⟨hg110, (Is.refl x83).len⟩ : ((sl (List.length x83) (LF x83) (some v100) none).2 ∧ ∀ j, j < List.length x83 → (LF x83 j).length = 1)) (cA (ALe.lst (sl_is x83 (some v100) none hg110) : ALe (.v (.c (.d (.lst (sl (List.length x83) (LF x83) (some v100) none).1.1 (sl (List.length x83) (LF x83) (some v100) none).1.2)))) (AL (α := Int) (x83.drop v100.toNat))) (cT (cA hg111 (cT (Is.refl (x83.drop v100.toNat) : Is (List.length (α := Int) (x83.drop v100.toNat)) (LF (α := Int) (x83.drop v100.toNat)) (x83.drop v100.toNat)).len)))))))))) [(44, .arr 1 ((((0) + (List.length (α := Int) (x83.take v100.toNat))) + (List.length (α := Int) ([x84] : List Int))) + (List.length (α := Int) (x83.drop v100.toNat))) (appF (((0) + (List.length (α := Int) (x83.take v100.toNat))) + (List.length (α := Int) ([x84] : List Int))) (appF ((0) + (List.length (α := Int) (x83.take v100.toNat))) (appF (0) (litF 1 []) (LF (α := Int) (x83.take v100.toNat))) (LF (α := Int) ([x84] : List Int))) (LF (α := Int) (x83.drop v100.toNat))))] ⟨OLe.is (Is.app (Is.app (Is.app (Is.lit ([] : List Int) (by kernel_rfl)) (Is.refl (x83.take v100.toNat))) (Is.refl ([x84] : List Int))) (Is.refl (x83.drop v100.toNat))), ⟨⟩⟩ ?_
    refine AW.ret ?_
    obtain rfl := Option.some.inj h
    refine Kn.r Fm [(4, ow 44)] [(44, AO (α := Int) (((([] : List Int) ++ (x83.take v100.toNat)) ++ ([x84] : List Int)) ++ (x83.drop v100.toNat)))] (by kernel_rfl) ?_
    refine Kn.frz [(4, AL (α := Int) (((([] : List Int) ++ (x83.take v100.toNat)) ++ ([x84] : List Int)) ++ (x83.drop v100.toNat)))] [] (by kernel_rfl) (by kernel_rfl) (by kernel_rfl) ?_
    exact Kn.D Fm
  ·rcases br_or h with ⟨hb102, h⟩ | ⟨hb102, h⟩
   ·obtain ⟨hg103, h⟩ := gS h
    refine AW.pN Fm [.s, .s, .s, .s, .w (vb true), .s, .s, .s, .s, .s, .s, .s] [(0, AL x83), (1, vi x84), (5, vi v100), (31, vb ((gl x83 v100.toNat) == x84))] [] (cA (ALe.bool hb102) (cT hg103)) ?_
    exact Kn.R Fm (hJ105 ((gl x83 v100.toNat) == x84) h)
   ·refine AW.pN Fm [.s, .s, .s, .s, .w (vb false), .s, .s, .s, .s, .s, .s, .s] [(0, AL x83), (1, vi x84), (5, vi v100), (31, vb false)] [] (cT (ALe.bool hb102)) ?_
    exact Kn.R Fm (hJ105 false h)
 ·refine AW.block (AW.loopF (E' := fun z => [(0, AL x83), (1, vi x84), (5, vi z)]) (S' := fun z => []) (fun ag_ref01_Put_b0 v92 J93 hJ93 h => ?_) h)
  refine AW.seq (AW.join (r := r) (fun z : Bool => ref01_Put_k1 F x83 x84 v92 ag_ref01_Put_b0 z) (fun z => [(0, AL x83), (1, vi x84), (5, vi v92), (17, vb z)]) (fun z => []) (fun v96 h => ?_) (fun J97 hJ97 => ?_))
  ·refine AW.cN h (fun hb98 h => ?_) (fun hb98 h => ?_)
   ·refine AW.skip (AW.block ?_)
    obtain ⟨hg99, h⟩ := gS h
    refine AW.pN Fm [.s, .s, .s] [(0, AL x83), (1, vi x84), (5, vi (v92 + 1))] [] (cT (cT hg99)) ?_
    exact Kn.R Fm (hJ93 (v92 + 1) h)
   ·exact AW.exit (Kn.R Fm (hJ101 v92 h))
  ·rcases br_or h with ⟨hb94, h⟩ | ⟨hb94, h⟩
   ·obtain ⟨hg95, h⟩ := gS h
    refine AW.pN Fm [.s, .s, .s, .s, .w (vb true), .s, .s, .s, .s, .s, .s, .s] [(0, AL x83), (1, vi x84), (5, vi v92), (11, AL x83), (12, vi v92), (13, .v (.c (.elm [.int .i64 (gl x83 v92.toNat)]))), (14, vi (gl x83 v92.toNat)), (15, vi x84), (16, vb (decide ((gl x83 v92.toNat) < x84))), (17, vb (decide ((gl x83 v92.toNat) < x84)))] [] (cA (ALe.bool hb94) (cT hg95)) ?_
    exact Kn.R Fm (hJ97 (decide ((gl x83 v92.toNat) < x84)) h)
   ·refine AW.pN Fm [.s, .s, .s, .s, .w (vb false), .s, .s, .s, .s, .s, .s, .s] [(0, AL x83), (1, vi x84), (5, vi v92), (17, vb false)] [] (cT (ALe.bool hb94)) ?_
    exact Kn.R Fm (hJ97 false h)
theorem ref04_inside_spec {F : Nat} {x112 : (List Rect)} {x113 : Int} {x114 : Int} {r : Bool} (h : ref04_inside F x112 x113 x114 = some r) :
  FSpec Tryz.prog 110 [AL x112, vi x113, vi x114] [] (vb r) [] := by
 refine FI Tryz.func110 prog_mixed prog_lay fun C Fm => ?_
 unfold ref04_inside at h
 refine AW.SG0 Fm 1 [(0, AL x112), (1, vi x113), (2, vi x114)] [] ?_
 refine AW.join (r := r) (fun z : Unit => ref04_inside_k2 F) (fun z => []) (fun z => []) (fun z h => ?_) (fun J136 hJ136 => ?_)
 ·refine AW.SG0 Fm 1 [(6, vb false)] [] ?_
  refine AW.ret ?_
  obtain rfl := Option.some.inj h
  exact Kn.D Fm
 ·refine AW.SG0 Fm 3 [(1, vi x113), (2, vi x114), (9, AL x112), (10, vi (lI x112)), (11, vi 0)] [] ?_
  refine AW.block (AW.loopF (E' := fun z => [(1, vi x113), (2, vi x114), (9, AL x112), (10, vi (lI x112)), (11, vi z)]) (S' := fun z => []) (fun ag_ref04_inside_b0 v125 J126 hJ126 h => ?_) h)
  refine AW.SG0 Fm 1 [(1, vi x113), (2, vi x114), (9, AL x112), (10, vi (lI x112)), (11, vi v125), (12, vb (decide (v125 < (lI x112))))] [] ?_
  refine AW.seq (AW.cN h (fun hb127 h => ?_) (fun hb127 h => ?_))
  ·refine AW.skip (AW.seq (AW.block ?_))
   obtain ⟨hg128, h⟩ := gS h
   refine AW.SP Fm [.s, .s, .s, .s] [(1, vi x113), (2, vi x114), (8, pt 8), (9, AL x112), (10, vi (lI x112)), (11, vi v125)] [(8, bx [ci ((gl x112 v125.toNat).left_), ci ((gl x112 v125.toNat).low_), ci ((gl x112 v125.toNat).right_), ci ((gl x112 v125.toNat).high_)])] (cT hg128) ?_
   refine AW.join (r := r) (fun z : Bool => ref04_inside_k1 F v125 ag_ref04_inside_b0 z) (fun z => [(1, vi x113), (2, vi x114), (9, AL x112), (10, vi (lI x112)), (11, vi v125), (36, vb z)]) (fun z => []) (fun v132 h => ?_) (fun J133 hJ133 => ?_)
   ·refine AW.cN h (fun hb134 h => ?_) (fun hb134 h => ?_)
    ·refine AW.SG0 Fm 1 [(6, vb true)] [] ?_
     refine AW.ret ?_
     obtain rfl := Option.some.inj h
     exact Kn.D Fm
    ·refine AW.skip ?_
     obtain ⟨hg135, h⟩ := gS h
     refine AW.pN Fm [.s, .s] [(1, vi x113), (2, vi x114), (9, AL x112), (10, vi (lI x112)), (11, vi (v125 + 1))] [] (cT (cT hg135)) ?_
     exact Kn.R Fm (hJ126 (v125 + 1) h)
   ·rcases br_or h with ⟨hb129, h⟩ | ⟨hb129, h⟩
    ·rcases br_or h with ⟨hb130, h⟩ | ⟨hb130, h⟩
     ·rcases br_or h with ⟨hb131, h⟩ | ⟨hb131, h⟩
      ·refine AW.pN Fm [.s, .s, .s, .s, .w (vb true), .s, .s, .s, .s, .s, .w (vb true), .s, .s, .s, .s, .s, .w (vb true), .s, .s, .s, .s, .s] [(1, vi x113), (2, vi x114), (9, AL x112), (10, vi (lI x112)), (11, vi v125), (20, vi x113), (21, .v (.c (.ptr 8 2))), (22, vi (gl x112 v125.toNat).right_), (23, vb (decide (x113 < ((gl x112 v125.toNat).right_)))), (26, .v (.c (.ptr 8 1))), (27, vi (gl x112 v125.toNat).low_), (28, vi x114), (29, vb (decide (((gl x112 v125.toNat).low_) ≤ x114))), (32, vi x114), (33, .v (.c (.ptr 8 3))), (34, vi (gl x112 v125.toNat).high_), (35, vb (decide (x114 < ((gl x112 v125.toNat).high_)))), (36, vb (decide (x114 < ((gl x112 v125.toNat).high_))))] [(8, bx [ci ((gl x112 v125.toNat).left_), ci ((gl x112 v125.toNat).low_), ci ((gl x112 v125.toNat).right_), ci ((gl x112 v125.toNat).high_)])] (cA (ALe.bool hb129) (cA (ALe.bool hb130) (cT (ALe.bool hb131)))) ?_
       exact Kn.R Fm (hJ133 (decide (x114 < ((gl x112 v125.toNat).high_))) h)
      ·refine AW.pN Fm [.s, .s, .s, .s, .w (vb true), .s, .s, .s, .s, .s, .w (vb true), .s, .s, .s, .s, .s, .w (vb false), .s, .s, .s, .s, .s] [(1, vi x113), (2, vi x114), (9, AL x112), (10, vi (lI x112)), (11, vi v125), (20, vi x113), (21, .v (.c (.ptr 8 2))), (22, vi (gl x112 v125.toNat).right_), (23, vb (decide (x113 < ((gl x112 v125.toNat).right_)))), (26, .v (.c (.ptr 8 1))), (27, vi (gl x112 v125.toNat).low_), (28, vi x114), (29, vb (decide (((gl x112 v125.toNat).low_) ≤ x114))), (36, vb false)] [(8, bx [ci ((gl x112 v125.toNat).left_), ci ((gl x112 v125.toNat).low_), ci ((gl x112 v125.toNat).right_), ci ((gl x112 v125.toNat).high_)])] (cA (ALe.bool hb129) (cA (ALe.bool hb130) (cT (ALe.bool hb131)))) ?_
       exact Kn.R Fm (hJ133 false h)
     ·refine AW.pN Fm [.s, .s, .s, .s, .w (vb true), .s, .s, .s, .s, .s, .w (vb false), .s, .s, .s, .s, .s, .s, .s, .s, .s, .s, .s] [(1, vi x113), (2, vi x114), (9, AL x112), (10, vi (lI x112)), (11, vi v125), (20, vi x113), (21, .v (.c (.ptr 8 2))), (22, vi (gl x112 v125.toNat).right_), (23, vb (decide (x113 < ((gl x112 v125.toNat).right_)))), (36, vb false)] [(8, bx [ci ((gl x112 v125.toNat).left_), ci ((gl x112 v125.toNat).low_), ci ((gl x112 v125.toNat).right_), ci ((gl x112 v125.toNat).high_)])] (cA (ALe.bool hb129) (cT (ALe.bool hb130))) ?_
      exact Kn.R Fm (hJ133 false h)
    ·refine AW.pN Fm [.s, .s, .s, .s, .w (vb false), .s, .s, .s, .s, .s, .s, .s, .s, .s, .s, .s, .s, .s, .s, .s, .s, .s] [(1, vi x113), (2, vi x114), (9, AL x112), (10, vi (lI x112)), (11, vi v125), (36, vb false)] [] (cT (ALe.bool hb129)) ?_
     exact Kn.R Fm (hJ133 false h)
  ·exact AW.exit (Kn.R Fm (hJ136 () h))
theorem ref04_keep_spec {F : Nat} {x137 : Bool} {x138 : Bool} {x139 : Int} {r : Bool} (h : ref04_keep F x137 x138 x139 = some r) :
  FSpec Tryz.prog 202 [vb x137, vb x138, vi x139] [] (vb r) [] := by
 refine FI Tryz.func202 prog_mixed prog_lay fun C Fm => ?_
 unfold ref04_keep at h
 refine AW.SG0 Fm 1 [(0, vb x137), (1, vb x138), (2, vi x139)] [] ?_
 refine AW.seq (AW.SG0 Fm 1 [(0, vb x137), (1, vb x138), (7, vi x139)] [] ?_)
 refine AW.block (AW.SG0 Fm 2 [(0, vb x137), (1, vb x138), (7, vi x139), (8, vb (x139 == (1 : Int)))] [] ?_)
 refine AW.cN h (fun hb140 h => ?_) (fun hb140 h => ?_)
 ·refine AW.join (r := r) (fun z : Bool => ref04_keep_k0 F z) (fun z => [(6, vb z)]) (fun z => []) (fun v142 h => ?_) (fun J143 hJ143 => ?_)
  ·refine AW.ret ?_
   obtain rfl := Option.some.inj h
   exact Kn.D Fm
  ·rcases br_or h with ⟨hb141, h⟩ | ⟨hb141, h⟩
   ·refine AW.pN Fm [.s, .w (vb true), .s, .s, .s] [(6, vb true)] [] (cT (ALe.bool hb141)) ?_
    exact Kn.R Fm (hJ143 true h)
   ·refine AW.pN Fm [.s, .w (vb false), .s, .s, .s] [(6, vb x138)] [] (cT (ALe.bool hb141)) ?_
    exact Kn.R Fm (hJ143 x138 h)
 ·refine AW.SG0 Fm 2 [(0, vb x137), (1, vb x138), (14, vb (x139 == (2 : Int)))] [] ?_
  refine AW.cN h (fun hb144 h => ?_) (fun hb144 h => ?_)
  ·refine AW.join (r := r) (fun z : Bool => ref04_keep_k1 F z) (fun z => [(6, vb z)]) (fun z => []) (fun v146 h => ?_) (fun J147 hJ147 => ?_)
   ·refine AW.ret ?_
    obtain rfl := Option.some.inj h
    exact Kn.D Fm
   ·rcases br_or h with ⟨hb145, h⟩ | ⟨hb145, h⟩
    ·refine AW.pN Fm [.s, .w (vb true), .s, .s, .s] [(6, vb x138)] [] (cT (ALe.bool hb145)) ?_
     exact Kn.R Fm (hJ147 x138 h)
    ·refine AW.pN Fm [.s, .w (vb false), .s, .s, .s] [(6, vb false)] [] (cT (ALe.bool hb145)) ?_
     exact Kn.R Fm (hJ147 false h)
  ·refine AW.skip (AW.join (r := r) (fun z : Bool => ref04_keep_k2 F z) (fun z => [(6, vb z)]) (fun z => []) (fun v149 h => ?_) (fun J150 hJ150 => ?_))
   ·refine AW.ret ?_
    obtain rfl := Option.some.inj h
    exact Kn.D Fm
   ·rcases br_or h with ⟨hb148, h⟩ | ⟨hb148, h⟩
    ·refine AW.pN Fm [.s, .w (vb true), .s, .s, .s, .s] [(6, vb (!x138))] [] (cT (ALe.bool hb148)) ?_
     exact Kn.R Fm (hJ150 (!x138) h)
    ·refine AW.pN Fm [.s, .w (vb false), .s, .s, .s, .s] [(6, vb false)] [] (cT (ALe.bool hb148)) ?_
     exact Kn.R Fm (hJ150 false h)
theorem ref04_same_spec {F : Nat} {x151 : (List Rect)} {x152 : (List Rect)} {r : Bool} (h : ref04_same F x151 x152 = some r) :
  FSpec Tryz.prog 203 [AL x151, AL x152] [] (vb r) [] := by
 refine FI Tryz.func203 prog_mixed prog_lay fun C Fm => ?_
 unfold ref04_same at h
 refine AW.SG0 Fm 1 [(0, AL x151), (1, AL x152)] [] ?_
 refine AW.seq (AW.SG0 Fm 5 [(0, AL x151), (1, AL x152), (10, vb ((lI x151) != (lI x152)))] [] ?_)
 refine AW.cN h (fun hb153 h => ?_) (fun hb153 h => ?_)
 ·refine AW.SG0 Fm 1 [(4, vb false)] [] ?_
  refine AW.ret ?_
  obtain rfl := Option.some.inj h
  exact Kn.D Fm
 ·refine AW.skip (AW.join (r := r) (fun z : Unit => ref04_same_k2 F) (fun z => []) (fun z => []) (fun z h => ?_) (fun J177 hJ177 => ?_))
  ·refine AW.SG0 Fm 1 [(4, vb true)] [] ?_
   refine AW.ret ?_
   obtain rfl := Option.some.inj h
   exact Kn.D Fm
  ·refine AW.SG0 Fm 3 [(0, AL x151), (1, AL x152), (12, vi (lI x151)), (13, vi 0)] [] ?_
   refine AW.block (AW.loopF (E' := fun z => [(0, AL x151), (1, AL x152), (12, vi (lI x151)), (13, vi z)]) (S' := fun z => []) (fun ag_ref04_same_b0 v165 J166 hJ166 h => ?_) h)
   refine AW.SG0 Fm 1 [(0, AL x151), (1, AL x152), (12, vi (lI x151)), (13, vi v165), (14, vb (decide (v165 < (lI x151))))] [] ?_
   refine AW.seq (AW.cN h (fun hb167 h => ?_) (fun hb167 h => ?_))
   ·refine AW.skip (AW.seq (AW.block (AW.SG0 Fm 2 [(0, AL x151), (1, AL x152), (5, vi v165), (12, vi (lI x151)), (13, vi v165)] [] ?_)))
    refine AW.join (r := r) (fun z : Bool => ref04_same_k1 F v165 ag_ref04_same_b0 z) (fun z => [(0, AL x151), (1, AL x152), (12, vi (lI x151)), (13, vi v165), (39, vb z)]) (fun z => []) (fun v173 h => ?_) (fun J174 hJ174 => ?_)
    ·refine AW.cN h (fun hb175 h => ?_) (fun hb175 h => ?_)
     ·refine AW.SG0 Fm 1 [(4, vb false)] [] ?_
      refine AW.ret ?_
      obtain rfl := Option.some.inj h
      exact Kn.D Fm
     ·refine AW.skip ?_
      obtain ⟨hg176, h⟩ := gS h
      refine AW.pN Fm [.s, .s] [(0, AL x151), (1, AL x152), (12, vi (lI x151)), (13, vi (v165 + 1))] [] (cT (cT hg176)) ?_
      exact Kn.R Fm (hJ166 (v165 + 1) h)
    ·obtain ⟨hg168, hg169, h⟩ := gS2 h
     rcases br_or h with ⟨hb170, h⟩ | ⟨hb170, h⟩
     ·refine AW.pN Fm [.s, .s, .s, .s, .s, .s, .s, .s, .s, .s, .s, .w (vb true), .s, .s, .s, .s, .s, .s, .s, .s, .s, .s, .s, .s] [(0, AL x151), (1, AL x152), (12, vi (lI x151)), (13, vi v165), (39, vb true)] [] (cA hg168 (cA hg169 (cT (ALe.bool hb170)))) ?_
      exact Kn.R Fm (hJ174 true h)
     ·obtain ⟨hg171, hg172, h⟩ := gS2 h
      refine AW.pN Fm [.s, .s, .s, .s, .s, .s, .s, .s, .s, .s, .s, .w (vb false), .s, .s, .s, .s, .s, .s, .s, .s, .s, .s, .s, .s] [(0, AL x151), (1, AL x152), (12, vi (lI x151)), (13, vi v165), (28, AL x151), (29, vi v165), (30, .v (.c (.elm [.int .i64 (gl x151 v165.toNat).left_, .int .i64 (gl x151 v165.toNat).low_, .int .i64 (gl x151 v165.toNat).right_, .int .i64 (gl x151 v165.toNat).high_]))), (31, .v (.c (.elm [.int .i64 (gl x151 v165.toNat).right_, .int .i64 (gl x151 v165.toNat).high_]))), (32, vi (gl x151 v165.toNat).right_), (33, AL x152), (34, vi v165), (35, .v (.c (.elm [.int .i64 (gl x152 v165.toNat).left_, .int .i64 (gl x152 v165.toNat).low_, .int .i64 (gl x152 v165.toNat).right_, .int .i64 (gl x152 v165.toNat).high_]))), (36, .v (.c (.elm [.int .i64 (gl x152 v165.toNat).right_, .int .i64 (gl x152 v165.toNat).high_]))), (37, vi (gl x152 v165.toNat).right_), (38, vb (((gl x151 v165.toNat).right_) != ((gl x152 v165.toNat).right_))), (39, vb (((gl x151 v165.toNat).right_) != ((gl x152 v165.toNat).right_)))] [] (cA hg168 (cA hg169 (cA (ALe.bool hb170) (cA hg171 (cT hg172))))) ?_
      exact Kn.R Fm (hJ174 (((gl x151 v165.toNat).right_) != ((gl x152 v165.toNat).right_)) h)
   ·exact AW.exit (Kn.R Fm (hJ177 () h))
theorem ref04_Combine_spec {F : Nat} {x178 : (List Rect)} {x179 : (List Rect)} {x180 : Int} {r : (List Rect)} (h : ref04_Combine F x178 x179 x180 = some r) :
  FSpec Tryz.prog 112 [AL x178, AL x179, vi x180] [] (AL (α := Rect) r) [] := by
 refine FI Tryz.func112 prog_mixed prog_lay fun C Fm => ?_
 unfold ref04_Combine at h
 refine AW.SG0 Fm 1 [(0, AL x178), (1, AL x179), (2, vi x180)] [] ?_
 refine AW.SW Fm [.m, .m] (fun K => True) [(0, AL x178), (1, AL x179), (2, vi x180), (7, ow 7), (8, ow 8)] [(7, AO (α := Int) ([] : List Int)), (8, AO (α := Int) ([] : List Int))] True.intro [(7, .arr 1 (0) (fun _ => [])), (8, .arr 1 (0) (fun _ => []))] ⟨OLe.is ((Is.nil (α := Int))), OLe.is ((Is.nil (α := Int))), ⟨⟩⟩ ?_
 refine AW.join (r := r) (fun z : (List Int) × (List Int) => ref04_Combine_k3 F x178 x179 x180 z.1 z.2) (fun z => [(0, AL x178), (1, AL x179), (2, vi x180), (7, AL z.1), (8, AL z.2)]) (fun z => []) (fun z h => ?_) (fun J258 hJ258 => ?_)
 ·obtain ⟨v256, v257⟩ := z
  refine AW.SW Fm [.m, .m] (fun K => True) [(0, AL x178), (1, AL x179), (2, vi x180), (7, AL v256), (8, AL v257), (13, ow 13), (14, ow 14)] [(13, AO (α := Rect) ([] : List Rect)), (14, AO (α := Rect) ([] : List Rect))] True.intro [(13, .arr 4 (0) (fun _ => [])), (14, .arr 4 (0) (fun _ => []))] ⟨OLe.is ((Is.nil (α := Rect))), OLe.is ((Is.nil (α := Rect))), ⟨⟩⟩ ?_
  refine AW.join (r := r) (fun z : (List Rect) × (List Rect) => ref04_Combine_k14 F z.1 z.2) (fun z => [(13, ow 13), (14, ow 14)]) (fun z => [(13, AO z.1), (14, AO z.2)]) (fun z h => ?_) (fun J480 hJ480 => ?_)
  ·obtain ⟨v478, v479⟩ := z
   obtain ⟨hg481, h⟩ := gS h
   refine AW.SV Fm [.s, .s, .s, .s] [(6, ow 176)] [(176, AO (α := Rect) (v478 ++ v479))] (cT (cA hg481 (cT (Is.refl v479 : Is (List.length (α := Rect) v479) (LF (α := Rect) v479) v479).len))) [(176, .arr 4 ((List.length (α := Rect) v478) + (List.length (α := Rect) v479)) (appF (List.length (α := Rect) v478) (LF (α := Rect) v478) (LF (α := Rect) v479)))] ⟨OLe.is (Is.app (Is.refl v478) (Is.refl v479)), ⟨⟩⟩ ?_
   refine AW.ret ?_
   obtain rfl := Option.some.inj h
   refine Kn.r Fm [(6, ow 176)] [(176, AO (α := Rect) (v478 ++ v479))] (by kernel_rfl) ?_
   refine Kn.frz [(6, AL (α := Rect) (v478 ++ v479))] [] (by kernel_rfl) (by kernel_rfl) (by kernel_rfl) ?_
   exact Kn.D Fm
  ·refine AW.SG0 Fm 1 [(0, AL x178), (1, AL x179), (2, vi x180), (7, AL v256), (8, AL v257), (13, ow 13), (14, ow 14), (15, vi 0)] [(13, AO (α := Rect) ([] : List Rect)), (14, AO (α := Rect) ([] : List Rect))] ?_
   refine AW.block (Kn.r Fm [(0, AL x178), (1, AL x179), (2, vi x180), (7, AL v256), (8, AL v257), (13, ow 13), (14, ow 14), (15, vi 0)] [(13, AO ([] : List Rect)), (14, AO ([] : List Rect))] (by kernel_rfl) ?_)
   refine AW.loopF (E' := fun z => [(0, AL x178), (1, AL x179), (2, vi x180), (7, AL v256), (8, AL v257), (13, ow 13), (14, ow 14), (15, vi z.1)]) (S' := fun z => [(13, AO z.2.1), (14, AO z.2.2)]) (fun ag_ref04_Combine_b4 z J370 hJ370 h => ?_) h
   obtain ⟨v367, v368, v369⟩ := z
   refine AW.seq ?_
   obtain ⟨hg371, h⟩ := gS h
   refine AW.SP Fm [.s, .s, .s, .s, .s] [(0, AL x178), (1, AL x179), (2, vi x180), (7, AL v256), (8, AL v257), (13, ow 13), (14, ow 14), (15, vi v367), (54, vb (decide ((v367 + 1) < (lI v257))))] [(13, AO v368), (14, AO v369)] (cT (cT hg371)) ?_
   refine AW.cN h (fun hb372 h => ?_) (fun hb372 h => ?_)
   ·refine AW.skip (AW.join (r := r) (fun z : (List Rect) × (List Rect) => ref04_Combine_k13 F v367 ag_ref04_Combine_b4 z.1 z.2) (fun z => [(0, AL x178), (1, AL x179), (2, vi x180), (7, AL v256), (8, AL v257), (13, ow 13), (14, ow 14), (15, vi v367)]) (fun z => [(13, AO z.1), (14, AO z.2)]) (fun z h => ?_) (fun J476 hJ476 => ?_))
    ·obtain ⟨v474, v475⟩ := z
     obtain ⟨hg477, h⟩ := gS h
     refine AW.pN Fm [.s, .s, .s] [(0, AL x178), (1, AL x179), (2, vi x180), (7, AL v256), (8, AL v257), (13, ow 13), (14, ow 14), (15, vi (v367 + 1))] [(13, AO v474), (14, AO v475)] (cT (cT hg477)) ?_
     exact Kn.R Fm (hJ370 ((v367 + 1), v474, v475) h)
    ·refine AW.block (AW.SW Fm [.m] (fun K => True) [(0, AL x178), (1, AL x179), (2, vi x180), (7, AL v256), (8, AL v257), (13, ow 13), (14, ow 14), (15, vi v367), (16, ow 16)] [(13, AO v368), (14, AO v369), (16, AO (α := Rect) ([] : List Rect))] True.intro [(16, .arr 4 (0) (fun _ => []))] ⟨OLe.is ((Is.nil (α := Rect))), ⟨⟩⟩ ?_)
     refine AW.join (r := r) (fun z : (List Rect) => ref04_Combine_k8 F v257 v367 v368 v369 ag_ref04_Combine_b4 z) (fun z => [(0, AL x178), (1, AL x179), (2, vi x180), (7, AL v256), (8, AL v257), (13, ow 13), (14, ow 14), (15, vi v367), (16, ow 16)]) (fun z => [(13, AO v368), (14, AO v369), (16, AO z)]) (fun v445 h => ?_) (fun J446 hJ446 => ?_)
     ·refine AW.join (r := r) (fun z : Unit => ref04_Combine_k12 F v367 v368 v369 v445 ag_ref04_Combine_b4) (fun z => [(0, AL x178), (1, AL x179), (2, vi x180), (7, AL v256), (8, AL v257), (13, ow 13), (14, ow 14), (15, vi v367), (16, ow 16)]) (fun z => [(13, AO v368), (14, AO v369), (16, AO v445)]) (fun z h => ?_) (fun J472 hJ472 => ?_)
      ·obtain ⟨hg473, h⟩ := gS h
       refine AW.SV Fm [.s, .s, .s, .s] [(0, AL x178), (1, AL x179), (2, vi x180), (7, AL v256), (8, AL v257), (13, ow 172), (15, vi v367), (16, ow 16)] [(16, AO v445), (172, AO (α := Rect) (v368 ++ v369))] (cT (cA hg473 (cT (Is.refl v369 : Is (List.length (α := Rect) v369) (LF (α := Rect) v369) v369).len))) [(172, .arr 4 ((List.length (α := Rect) v368) + (List.length (α := Rect) v369)) (appF (List.length (α := Rect) v368) (LF (α := Rect) v368) (LF (α := Rect) v369)))] ⟨OLe.is (Is.app (Is.refl v368) (Is.refl v369)), ⟨⟩⟩ ?_
       refine AW.G0 Fm 2 [(0, AL x178), (1, AL x179), (2, vi x180), (7, AL v256), (8, AL v257), (13, ow 172), (14, ow 16), (15, vi v367)] [(16, AO v445), (172, AO (α := Rect) (v368 ++ v369))] ?_
       exact Kn.RE Fm [(13, 172), (14, 16)] (hJ476 ((v368 ++ v369), v445) h)
      ·refine AW.join (r := r) (fun z : Bool => ref04_Combine_k9 F v257 v367 v368 v369 v445 ag_ref04_Combine_b4 z) (fun z => [(0, AL x178), (1, AL x179), (2, vi x180), (7, AL v256), (8, AL v257), (13, ow 13), (14, ow 14), (15, vi v367), (16, ow 16), (154, vb z)]) (fun z => [(13, AO v368), (14, AO v369), (16, AO v445)]) (fun v453 h => ?_) (fun J454 hJ454 => ?_)
       ·refine AW.cN h (fun hb455 h => ?_) (fun hb455 h => ?_)
        ·refine AW.join (r := r) (fun z : (List Rect) => ref04_Combine_k11 F v367 v368 ag_ref04_Combine_b4 z) (fun z => [(0, AL x178), (1, AL x179), (2, vi x180), (7, AL v256), (8, AL v257), (13, ow 13), (14, ow 14), (15, vi v367)]) (fun z => [(13, AO v368), (14, AO z)]) (fun v470 h => ?_) (fun J471 hJ471 => ?_)
         ·exact AW.exit (Kn.R Fm (hJ476 (v368, v470) h))
         ·refine AW.SG0 Fm 3 [(0, AL x178), (1, AL x179), (2, vi x180), (7, AL v256), (8, AL v257), (13, ow 13), (14, ow 14), (15, vi v367), (156, vi (lI v369)), (157, vi 0)] [(13, AO v368), (14, AO v369)] ?_
          refine AW.block (AW.loopF (E' := fun z => [(0, AL x178), (1, AL x179), (2, vi x180), (7, AL v256), (8, AL v257), (13, ow 13), (14, ow 14), (15, vi v367), (156, vi (lI v369)), (157, vi z.1)]) (S' := fun z => [(13, AO v368), (14, AO z.2)]) (fun ag_ref04_Combine_b10 z J464 hJ464 h => ?_) h)
          obtain ⟨v462, v463⟩ := z
          refine AW.SG0 Fm 1 [(0, AL x178), (1, AL x179), (2, vi x180), (7, AL v256), (8, AL v257), (13, ow 13), (14, ow 14), (15, vi v367), (156, vi (lI v369)), (157, vi v462), (158, vb (decide (v462 < (lI v369))))] [(13, AO v368), (14, AO v463)] ?_
          refine AW.seq (AW.cN h (fun hb465 h => ?_) (fun hb465 h => ?_))
          ·refine AW.skip (AW.seq (AW.block (AW.SG0 Fm 2 [(0, AL x178), (1, AL x179), (2, vi x180), (7, AL v256), (8, AL v257), (13, ow 13), (14, ow 14), (15, vi v367), (19, vi v462), (156, vi (lI v369)), (157, vi v462)] [(13, AO v368), (14, AO v463)] ?_)))
           obtain ⟨hg466, hg467, hg468, h⟩ := gS3 h
           refine AW.WP Fm [.s, .s, .s, .s, .s, .s, .s, .s, .s, .s] [(0, AL x178), (1, AL x179), (2, vi x180), (7, AL v256), (8, AL v257), (13, ow 13), (14, ow 14), (15, vi v367), (156, vi (lI v369)), (157, vi v462)] [(13, AO v368), (14, AO (α := Rect) (List.set v463 v462.toNat (⟨(gl v463 v462.toNat).left_, (gl v463 v462.toNat).low_, (gl v463 v462.toNat).right_, (gl v257 (v367 + 1).toNat)⟩ : Rect)))] (cA (cT hg466) (cA hg467 (cA hg468 (cT (toNat_lt hg468))))) [(14, .arr 4 (List.length (α := Rect) v463) (fun j => if j = v462.toNat then splice ((LF (α := Rect) v463) v462.toNat) 3 [.int .i64 (gl v257 (v367 + 1).toNat)] else (LF (α := Rect) v463) j))] ⟨OLe.is (Is.set (Is.refl v463) (toNat_lt hg468) (⟨(gl v463 v462.toNat).left_, (gl v463 v462.toNat).low_, (gl v463 v462.toNat).right_, (gl v257 (v367 + 1).toNat)⟩ : Rect) (by kernel_rfl)), ⟨⟩⟩ ?_
           obtain ⟨hg469, h⟩ := gS h
           refine AW.pN Fm [.s, .s] [(0, AL x178), (1, AL x179), (2, vi x180), (7, AL v256), (8, AL v257), (13, ow 13), (14, ow 14), (15, vi v367), (156, vi (lI v369)), (157, vi (v462 + 1))] [(13, AO v368), (14, AO (α := Rect) (List.set v463 v462.toNat (⟨(gl v463 v462.toNat).left_, (gl v463 v462.toNat).low_, (gl v463 v462.toNat).right_, (gl v257 (v367 + 1).toNat)⟩ : Rect)))] (cT (cT hg469)) ?_
           exact Kn.R Fm (hJ464 ((v462 + 1), (List.set v463 v462.toNat (⟨(gl v463 v462.toNat).left_, (gl v463 v462.toNat).low_, (gl v463 v462.toNat).right_, (gl v257 (v367 + 1).toNat)⟩ : Rect))) h)
          ·exact AW.exit (Kn.R Fm (hJ471 v463 h))
        ·exact AW.skip (Kn.R Fm (hJ472 () h))
       ·rcases br_or h with ⟨hb447, h⟩ | ⟨hb447, h⟩
        ·obtain ⟨z448, hz449, h⟩ := bS h
         rcases br_or h with ⟨hb450, h⟩ | ⟨hb450, h⟩
         ·obtain ⟨hg451, hg452, h⟩ := gS2 h
          refine AW.G Fm [.s, .s, .s, .w (vb true), .s, .s, .k (sE (vb z448)), .s, .w (vb true), .s, .s, .s, .s, .s, .s, .s, .s, .s, .s] (fun K => _ ∧ K 6 ∧ _ ∧ _ ∧ _ ∧ _ ∧ True) [(0, AL x178), (1, AL x179), (2, vi x180), (7, AL v256), (8, AL v257), (13, ow 13), (14, ow 14), (15, vi v367), (16, ow 16), (140, ow 14), (141, ow 16), (142, vb z448), (145, ow 14), (146, .v (.c (.pte 14 4 ((0 : Int).toNat) 0))), (147, .v (.c (.pte 14 4 ((0 : Int).toNat) 3))), (148, vi (gl v369 (0 : Int).toNat).high_), (149, AL v257), (150, vi v367), (151, .v (.c (.elm [.int .i64 (gl v257 v367.toNat)]))), (152, vi (gl v257 v367.toNat)), (153, vb (((gl v369 (0 : Int).toNat).high_) == (gl v257 v367.toNat))), (154, vb (((gl v369 (0 : Int).toNat).high_) == (gl v257 v367.toNat)))] [(13, AO v368), (14, AO v369), (16, AO v445)] ⟨ALe.bool hb447, KAt.callBX (ref04_same_spec hz449) Tryz.call203 [14, 16] [.tmp 140, .tmp 141] rfl (by kernel_rfl) (by kernel_rfl) ⟨ArgB.own 14 (es := 4) (n := List.length v369) (f := LF v369) (by kernel_rfl) (by kernel_rfl) (by kernel_rfl) (by kernel_rfl), ArgB.own 16 (es := 4) (n := List.length v445) (f := LF v445) (by kernel_rfl) (by kernel_rfl) (by kernel_rfl) (by kernel_rfl), ⟨⟩⟩, ALe.bool hb450, hg451, (toNat_lt hg451), hg452, ⟨⟩⟩ ?_
          exact Kn.R Fm (hJ454 (((gl v369 (0 : Int).toNat).high_) == (gl v257 v367.toNat)) h)
         ·refine AW.G Fm [.s, .s, .s, .w (vb true), .s, .s, .k (sE (vb z448)), .s, .w (vb false), .s, .s, .s, .s, .s, .s, .s, .s, .s, .s] (fun K => _ ∧ K 6 ∧ _ ∧ True) [(0, AL x178), (1, AL x179), (2, vi x180), (7, AL v256), (8, AL v257), (13, ow 13), (14, ow 14), (15, vi v367), (16, ow 16), (140, ow 14), (141, ow 16), (142, vb z448), (154, vb false)] [(13, AO v368), (14, AO v369), (16, AO v445)] ⟨ALe.bool hb447, KAt.callBX (ref04_same_spec hz449) Tryz.call203 [14, 16] [.tmp 140, .tmp 141] rfl (by kernel_rfl) (by kernel_rfl) ⟨ArgB.own 14 (es := 4) (n := List.length v369) (f := LF v369) (by kernel_rfl) (by kernel_rfl) (by kernel_rfl) (by kernel_rfl), ArgB.own 16 (es := 4) (n := List.length v445) (f := LF v445) (by kernel_rfl) (by kernel_rfl) (by kernel_rfl) (by kernel_rfl), ⟨⟩⟩, ALe.bool hb450, ⟨⟩⟩ ?_
          exact Kn.R Fm (hJ454 false h)
        ·refine AW.pN Fm [.s, .s, .s, .w (vb false), .s, .s, .s, .s, .s, .s, .s, .s, .s, .s, .s, .s, .s, .s, .s] [(0, AL x178), (1, AL x179), (2, vi x180), (7, AL v256), (8, AL v257), (13, ow 13), (14, ow 14), (15, vi v367), (16, ow 16), (154, vb false)] [(13, AO v368), (14, AO v369), (16, AO v445)] (cT (ALe.bool hb447)) ?_
         exact Kn.R Fm (hJ454 false h)
     ·refine AW.SG0 Fm 1 [(0, AL x178), (1, AL x179), (2, vi x180), (7, AL v256), (8, AL v257), (13, ow 13), (14, ow 14), (15, vi v367), (16, ow 16), (17, vi 0)] [(13, AO v368), (14, AO v369), (16, AO (α := Rect) ([] : List Rect))] ?_
      refine AW.block (Kn.r Fm [(0, AL x178), (1, AL x179), (2, vi x180), (7, AL v256), (8, AL v257), (13, ow 13), (14, ow 14), (15, vi v367), (16, ow 16), (17, vi 0)] [(13, AO v368), (14, AO v369), (16, AO ([] : List Rect))] (by kernel_rfl) ?_)
      refine AW.loopF (E' := fun z => [(0, AL x178), (1, AL x179), (2, vi x180), (7, AL v256), (8, AL v257), (13, ow 13), (14, ow 14), (15, vi v367), (16, ow 16), (17, vi z.1)]) (S' := fun z => [(13, AO v368), (14, AO v369), (16, AO z.2)]) (fun ag_ref04_Combine_b5 z J410 hJ410 h => ?_) h
      obtain ⟨v408, v409⟩ := z
      refine AW.seq ?_
      obtain ⟨hg411, h⟩ := gS h
      refine AW.SP Fm [.s, .s, .s, .s, .s] [(0, AL x178), (1, AL x179), (2, vi x180), (7, AL v256), (8, AL v257), (13, ow 13), (14, ow 14), (15, vi v367), (16, ow 16), (17, vi v408), (61, vb (decide ((v408 + 1) < (lI v256))))] [(13, AO v368), (14, AO v369), (16, AO v409)] (cT (cT hg411)) ?_
      refine AW.cN h (fun hb412 h => ?_) (fun hb412 h => ?_)
      ·refine AW.skip (AW.join (r := r) (fun z : (List Rect) => ref04_Combine_k7 F v408 ag_ref04_Combine_b5 z) (fun z => [(0, AL x178), (1, AL x179), (2, vi x180), (7, AL v256), (8, AL v257), (13, ow 13), (14, ow 14), (15, vi v367), (16, ow 16), (17, vi v408)]) (fun z => [(13, AO v368), (14, AO v369), (16, AO z)]) (fun v442 h => ?_) (fun J443 hJ443 => ?_))
       ·obtain ⟨hg444, h⟩ := gS h
        refine AW.pN Fm [.s, .s, .s] [(0, AL x178), (1, AL x179), (2, vi x180), (7, AL v256), (8, AL v257), (13, ow 13), (14, ow 14), (15, vi v367), (16, ow 16), (17, vi (v408 + 1))] [(13, AO v368), (14, AO v369), (16, AO v442)] (cT (cT hg444)) ?_
        exact Kn.R Fm (hJ410 ((v408 + 1), v442) h)
       ·refine AW.block (AW.seq (AW.seq ?_))
        obtain ⟨hg413, hg414, h⟩ := gS2 h
        obtain ⟨z415, hz416, h⟩ := bS h
        obtain ⟨hg417, hg418, h⟩ := gS2 h
        obtain ⟨z419, hz420, h⟩ := bS h
        obtain ⟨z421, hz422, h⟩ := bS h
        refine AW.G Fm [.s, .s, .s, .s, .s, .s, .s, .s, .s, .k (cE [] [] (vb z415) [] []), .s, .s, .s, .s, .s, .s, .s, .s, .s, .k (cE [] [] (vb z419) [] []), .s, .k (cE [] [] (vb z421) [] []), .s] (fun K => _ ∧ _ ∧ K 9 ∧ _ ∧ _ ∧ K 19 ∧ K 21 ∧ True) [(0, AL x178), (1, AL x179), (2, vi x180), (7, AL v256), (8, AL v257), (13, ow 13), (14, ow 14), (15, vi v367), (16, ow 16), (17, vi v408), (86, vb (!z421))] [(13, AO v368), (14, AO v369), (16, AO v409)] ⟨hg413, hg414, KAt.CC (ref04_inside_spec hz416) Tryz.call110 [], hg417, hg418, KAt.CC (ref04_inside_spec hz420) Tryz.call110 [], KAt.CC (ref04_keep_spec hz422) Tryz.call202 [], ⟨⟩⟩ ?_
        refine AW.cN h (fun hb423 h => ?_) (fun hb423 h => ?_)
        ·exact AW.exit (Kn.R Fm (hJ443 v409 h))
        ·refine AW.skip (AW.SG0 Fm 3 [(0, AL x178), (1, AL x179), (2, vi x180), (7, AL v256), (8, AL v257), (13, ow 13), (14, ow 14), (15, vi v367), (16, ow 16), (17, vi v408), (18, vi (lI v409))] [(13, AO v368), (14, AO v369), (16, AO v409)] ?_)
         refine AW.join (r := r) (fun z : Bool => ref04_Combine_k6 F v256 v257 v367 v408 v409 ag_ref04_Combine_b5 z) (fun z => [(0, AL x178), (1, AL x179), (2, vi x180), (7, AL v256), (8, AL v257), (13, ow 13), (14, ow 14), (15, vi v367), (16, ow 16), (17, vi v408), (18, vi (lI v409)), (103, vb z)]) (fun z => [(13, AO v368), (14, AO v369), (16, AO v409)]) (fun v428 h => ?_) (fun J429 hJ429 => ?_)
         ·refine AW.cN h (fun hb430 h => ?_) (fun hb430 h => ?_)
          ·obtain ⟨hg431, hg432, hg433, hg434, h⟩ := gS4 h
           refine AW.WP Fm [.s, .s, .s, .s, .s, .s, .s, .s, .s, .s, .s] [(0, AL x178), (1, AL x179), (2, vi x180), (7, AL v256), (8, AL v257), (13, ow 13), (14, ow 14), (15, vi v367), (16, ow 16), (17, vi v408)] [(13, AO v368), (14, AO v369), (16, AO (α := Rect) (List.set v409 ((lI v409) - 1).toNat (⟨(gl v409 ((lI v409) - 1).toNat).left_, (gl v409 ((lI v409) - 1).toNat).low_, (gl v256 (v408 + 1).toNat), (gl v409 ((lI v409) - 1).toNat).high_⟩ : Rect)))] (cA (cT hg431) (cA (cT hg432) (cA hg433 (cA hg434 (cT (toNat_lt hg434)))))) [(16, .arr 4 (List.length (α := Rect) v409) (fun j => if j = ((lI v409) - 1).toNat then splice ((LF (α := Rect) v409) ((lI v409) - 1).toNat) 2 [.int .i64 (gl v256 (v408 + 1).toNat)] else (LF (α := Rect) v409) j))] ⟨OLe.is (Is.set (Is.refl v409) (toNat_lt hg434) (⟨(gl v409 ((lI v409) - 1).toNat).left_, (gl v409 ((lI v409) - 1).toNat).low_, (gl v256 (v408 + 1).toNat), (gl v409 ((lI v409) - 1).toNat).high_⟩ : Rect) (by kernel_rfl)), ⟨⟩⟩ ?_
           exact Kn.R Fm (hJ443 (List.set v409 ((lI v409) - 1).toNat (⟨(gl v409 ((lI v409) - 1).toNat).left_, (gl v409 ((lI v409) - 1).toNat).low_, (gl v256 (v408 + 1).toNat), (gl v409 ((lI v409) - 1).toNat).high_⟩ : Rect)) h)
          ·obtain ⟨hg435, hg436, hg437, hg438, h⟩ := gS4 h
           obtain ⟨hg439, hg440, hg441, h⟩ := gS3 h
           refine AW.WP Fm [.s, .s, .s, .s, .s, .s, .s, .s, .s, .s, .s, .s, .s, .s, .s, .s, .s, .s, .s, .s, .w (AL (α := Rect) ([(⟨(gl v256 v408.toNat), (gl v257 v367.toNat), (gl v256 (v408 + 1).toNat), (gl v257 (v367 + 1).toNat)⟩ : Rect)] : List Rect)), .s, .s] [(0, AL x178), (1, AL x179), (2, vi x180), (7, AL v256), (8, AL v257), (13, ow 13), (14, ow 14), (15, vi v367), (16, ow 135), (17, vi v408)] [(13, AO v368), (14, AO v369), (135, AO (α := Rect) (v409 ++ ([(⟨(gl v256 v408.toNat), (gl v257 v367.toNat), (gl v256 (v408 + 1).toNat), (gl v257 (v367 + 1).toNat)⟩ : Rect)] : List Rect)))] (cA hg435 (cA hg436 (cA (cT hg437) (cA hg438 (cA (cT hg439) (cA hg440 (cA (ALe.lst (.lit ([(⟨(gl v256 v408.toNat), (gl v257 v367.toNat), (gl v256 (v408 + 1).toNat), (gl v257 (v367 + 1).toNat)⟩ : Rect)] : List Rect) (by kernel_rfl)) : ALe (.v (.c (.d (.lst 1 (litF 4 [.int .i64 (gl v256 v408.toNat), .int .i64 (gl v257 v367.toNat), .int .i64 (gl v256 (v408 + 1).toNat), .int .i64 (gl v257 (v367 + 1).toNat)]))))) (AL (α := Rect) ([(⟨(gl v256 v408.toNat), (gl v257 v367.toNat), (gl v256 (v408 + 1).toNat), (gl v257 (v367 + 1).toNat)⟩ : Rect)] : List Rect))) (cT (cA hg441 (cT (Is.refl ([(⟨(gl v256 v408.toNat), (gl v257 v367.toNat), (gl v256 (v408 + 1).toNat), (gl v257 (v367 + 1).toNat)⟩ : Rect)] : List Rect) : Is (List.length (α := Rect) ([(⟨(gl v256 v408.toNat), (gl v257 v367.toNat), (gl v256 (v408 + 1).toNat), (gl v257 (v367 + 1).toNat)⟩ : Rect)] : List Rect)) (LF (α := Rect) ([(⟨(gl v256 v408.toNat), (gl v257 v367.toNat), (gl v256 (v408 + 1).toNat), (gl v257 (v367 + 1).toNat)⟩ : Rect)] : List Rect)) ([(⟨(gl v256 v408.toNat), (gl v257 v367.toNat), (gl v256 (v408 + 1).toNat), (gl v257 (v367 + 1).toNat)⟩ : Rect)] : List Rect)).len)))))))))) [(135, .arr 4 ((List.length (α := Rect) v409) + (List.length (α := Rect) ([(⟨(gl v256 v408.toNat), (gl v257 v367.toNat), (gl v256 (v408 + 1).toNat), (gl v257 (v367 + 1).toNat)⟩ : Rect)] : List Rect))) (appF (List.length (α := Rect) v409) (LF (α := Rect) v409) (LF (α := Rect) ([(⟨(gl v256 v408.toNat), (gl v257 v367.toNat), (gl v256 (v408 + 1).toNat), (gl v257 (v367 + 1).toNat)⟩ : Rect)] : List Rect))))] ⟨OLe.is (Is.app (Is.refl v409) (Is.refl ([(⟨(gl v256 v408.toNat), (gl v257 v367.toNat), (gl v256 (v408 + 1).toNat), (gl v257 (v367 + 1).toNat)⟩ : Rect)] : List Rect))), ⟨⟩⟩ ?_
           exact Kn.RE Fm [(16, 135)] (hJ443 (v409 ++ ([(⟨(gl v256 v408.toNat), (gl v257 v367.toNat), (gl v256 (v408 + 1).toNat), (gl v257 (v367 + 1).toNat)⟩ : Rect)] : List Rect)) h)
         ·rcases br_or h with ⟨hb424, h⟩ | ⟨hb424, h⟩
          ·obtain ⟨hg425, hg426, hg427, h⟩ := gS3 h
           refine AW.pN Fm [.s, .s, .w (vb true), .s, .s, .s, .s, .s, .s, .s, .s, .s, .s, .s, .s] [(0, AL x178), (1, AL x179), (2, vi x180), (7, AL v256), (8, AL v257), (13, ow 13), (14, ow 14), (15, vi v367), (16, ow 16), (17, vi v408), (18, vi (lI v409)), (92, ow 16), (93, vi (lI v409)), (94, vi ((lI v409) - 1)), (95, .v (.c (.pte 16 4 (((lI v409) - 1).toNat) 0))), (96, .v (.c (.pte 16 4 (((lI v409) - 1).toNat) 2))), (97, vi (gl v409 ((lI v409) - 1).toNat).right_), (98, AL v256), (99, vi v408), (100, .v (.c (.elm [.int .i64 (gl v256 v408.toNat)]))), (101, vi (gl v256 v408.toNat)), (102, vb (((gl v409 ((lI v409) - 1).toNat).right_) == (gl v256 v408.toNat))), (103, vb (((gl v409 ((lI v409) - 1).toNat).right_) == (gl v256 v408.toNat)))] [(13, AO v368), (14, AO v369), (16, AO v409)] (cA (ALe.bool hb424) (cA (cT hg425) (cA hg426 (cA (toNat_lt hg426) (cT hg427))))) ?_
           exact Kn.R Fm (hJ429 (((gl v409 ((lI v409) - 1).toNat).right_) == (gl v256 v408.toNat)) h)
          ·refine AW.pN Fm [.s, .s, .w (vb false), .s, .s, .s, .s, .s, .s, .s, .s, .s, .s, .s, .s] [(0, AL x178), (1, AL x179), (2, vi x180), (7, AL v256), (8, AL v257), (13, ow 13), (14, ow 14), (15, vi v367), (16, ow 16), (17, vi v408), (18, vi (lI v409)), (103, vb false)] [(13, AO v368), (14, AO v369), (16, AO v409)] (cT (ALe.bool hb424)) ?_
           exact Kn.R Fm (hJ429 false h)
      ·exact AW.exit (Kn.R Fm (hJ446 v409 h))
   ·exact AW.exit (Kn.R Fm (hJ480 (v368, v369) h))
 ·refine AW.SP Fm [.s, .s, .w (AL (α := (List Rect)) ([x178, x179] : List (List Rect))), .s, .s] [(0, AL x178), (1, AL x179), (2, vi x180), (7, ow 7), (8, ow 8), (22, AL (α := (List Rect)) ([x178, x179] : List (List Rect))), (23, vi ((List.length ([x178, x179] : List (List Rect)) : Nat) : Int)), (24, vi 0)] [(7, AO (α := Int) ([] : List Int)), (8, AO (α := Int) ([] : List Int))] (cT (ALe.lst (.lit ([x178, x179] : List (List Rect)) (by kernel_rfl)) : ALe (.v (.c (.d (.lst 2 (litF 1 [DL x178, DL x179]))))) (AL (α := (List Rect)) ([x178, x179] : List (List Rect))))) ?_
  refine AW.block (Kn.r Fm [(0, AL x178), (1, AL x179), (2, vi x180), (7, ow 7), (8, ow 8), (22, AL (α := (List Rect)) ([x178, x179] : List (List Rect))), (23, vi ((List.length ([x178, x179] : List (List Rect)) : Nat) : Int)), (24, vi 0)] [(7, AO (α := Int) ([] : List Int)), (8, AO (α := Int) ([] : List Int))] (by kernel_rfl) ?_)
  refine Kn.frz [(0, AL x178), (1, AL x179), (2, vi x180), (7, AL (α := Int) ([] : List Int)), (8, ow 8), (22, AL (α := (List Rect)) ([x178, x179] : List (List Rect))), (23, vi ((List.length ([x178, x179] : List (List Rect)) : Nat) : Int)), (24, vi 0)] [(8, AO (α := Int) ([] : List Int))] (by kernel_rfl) (by kernel_rfl) (by kernel_rfl) ?_
  refine Kn.r Fm [(0, AL x178), (1, AL x179), (2, vi x180), (7, AL (α := Int) ([] : List Int)), (8, ow 8), (22, AL (α := (List Rect)) ([x178, x179] : List (List Rect))), (23, vi ((List.length ([x178, x179] : List (List Rect)) : Nat) : Int)), (24, vi 0)] [(8, AO (α := Int) ([] : List Int))] (by kernel_rfl) ?_
  refine Kn.frz [(0, AL x178), (1, AL x179), (2, vi x180), (7, AL (α := Int) ([] : List Int)), (8, AL (α := Int) ([] : List Int)), (22, AL (α := (List Rect)) ([x178, x179] : List (List Rect))), (23, vi ((List.length ([x178, x179] : List (List Rect)) : Nat) : Int)), (24, vi 0)] [] (by kernel_rfl) (by kernel_rfl) (by kernel_rfl) ?_
  refine Kn.r Fm [(0, AL x178), (1, AL x179), (2, vi x180), (7, AL ([] : List Int)), (8, AL ([] : List Int)), (22, AL (α := (List Rect)) ([x178, x179] : List (List Rect))), (23, vi ((List.length ([x178, x179] : List (List Rect)) : Nat) : Int)), (24, vi 0)] [] (by kernel_rfl) ?_
  refine AW.loopF (E' := fun z => [(0, AL x178), (1, AL x179), (2, vi x180), (7, AL z.1), (8, AL z.2.1), (22, AL (α := (List Rect)) ([x178, x179] : List (List Rect))), (23, vi ((List.length ([x178, x179] : List (List Rect)) : Nat) : Int)), (24, vi z.2.2)]) (S' := fun z => []) (fun ag_ref04_Combine_b0 z J222 hJ222 h => ?_) h
  obtain ⟨v219, v220, v221⟩ := z
  refine AW.SG0 Fm 1 [(0, AL x178), (1, AL x179), (2, vi x180), (7, AL v219), (8, AL v220), (22, AL (α := (List Rect)) ([x178, x179] : List (List Rect))), (23, vi ((List.length ([x178, x179] : List (List Rect)) : Nat) : Int)), (24, vi v221), (25, vb (decide (v221 < ((List.length ([x178, x179] : List (List Rect)) : Nat) : Int))))] [] ?_
  refine AW.seq (AW.cN h (fun hb223 h => ?_) (fun hb223 h => ?_))
  ·refine AW.skip (AW.join (r := r) (fun z : (List Int) × (List Int) => ref04_Combine_k2 F v221 ag_ref04_Combine_b0 z.1 z.2) (fun z => [(0, AL x178), (1, AL x179), (2, vi x180), (7, AL z.1), (8, AL z.2), (22, AL (α := (List Rect)) ([x178, x179] : List (List Rect))), (23, vi ((List.length ([x178, x179] : List (List Rect)) : Nat) : Int)), (24, vi v221)]) (fun z => []) (fun z h => ?_) (fun J254 hJ254 => ?_))
   ·obtain ⟨v252, v253⟩ := z
    obtain ⟨hg255, h⟩ := gS h
    refine AW.pN Fm [.s, .s] [(0, AL x178), (1, AL x179), (2, vi x180), (7, AL v252), (8, AL v253), (22, AL (α := (List Rect)) ([x178, x179] : List (List Rect))), (23, vi ((List.length ([x178, x179] : List (List Rect)) : Nat) : Int)), (24, vi (v221 + 1))] [] (cT (cT hg255)) ?_
    exact Kn.R Fm (hJ222 (v252, v253, (v221 + 1)) h)
   ·refine AW.block ?_
    obtain ⟨hg224, h⟩ := gS h
    refine AW.SP Fm [.s, .s, .s] [(0, AL x178), (1, AL x179), (2, vi x180), (7, AL v219), (8, AL v220), (10, AL (α := Rect) (gl ([x178, x179] : List (List Rect)) v221.toNat)), (22, AL (α := (List Rect)) ([x178, x179] : List (List Rect))), (23, vi ((List.length ([x178, x179] : List (List Rect)) : Nat) : Int)), (24, vi v221)] [] (cT hg224) ?_
    refine AW.SG0 Fm 3 [(0, AL x178), (1, AL x179), (2, vi x180), (7, AL v219), (8, AL v220), (22, AL (α := (List Rect)) ([x178, x179] : List (List Rect))), (23, vi ((List.length ([x178, x179] : List (List Rect)) : Nat) : Int)), (24, vi v221), (28, AL (α := Rect) (gl ([x178, x179] : List (List Rect)) v221.toNat)), (29, vi ((List.length (gl ([x178, x179] : List (List Rect)) v221.toNat) : Nat) : Int)), (30, vi 0)] [] ?_
    refine AW.block (AW.loopF (E' := fun z => [(0, AL x178), (1, AL x179), (2, vi x180), (7, AL z.1), (8, AL z.2.1), (22, AL (α := (List Rect)) ([x178, x179] : List (List Rect))), (23, vi ((List.length ([x178, x179] : List (List Rect)) : Nat) : Int)), (24, vi v221), (28, AL (α := Rect) (gl ([x178, x179] : List (List Rect)) v221.toNat)), (29, vi ((List.length (gl ([x178, x179] : List (List Rect)) v221.toNat) : Nat) : Int)), (30, vi z.2.2)]) (S' := fun z => []) (fun ag_ref04_Combine_b1 z J240 hJ240 h => ?_) h)
    obtain ⟨v237, v238, v239⟩ := z
    refine AW.SG0 Fm 1 [(0, AL x178), (1, AL x179), (2, vi x180), (7, AL v237), (8, AL v238), (22, AL (α := (List Rect)) ([x178, x179] : List (List Rect))), (23, vi ((List.length ([x178, x179] : List (List Rect)) : Nat) : Int)), (24, vi v221), (28, AL (α := Rect) (gl ([x178, x179] : List (List Rect)) v221.toNat)), (29, vi ((List.length (gl ([x178, x179] : List (List Rect)) v221.toNat) : Nat) : Int)), (30, vi v239), (31, vb (decide (v239 < ((List.length (gl ([x178, x179] : List (List Rect)) v221.toNat) : Nat) : Int))))] [] ?_
    refine AW.seq (AW.cN h (fun hb241 h => ?_) (fun hb241 h => ?_))
    ·refine AW.skip (AW.seq (AW.block ?_))
     obtain ⟨hg242, h⟩ := gS h
     refine AW.SP Fm [.s, .s, .s, .s] [(0, AL x178), (1, AL x179), (2, vi x180), (7, AL v237), (8, AL v238), (12, pt 12), (22, AL (α := (List Rect)) ([x178, x179] : List (List Rect))), (23, vi ((List.length ([x178, x179] : List (List Rect)) : Nat) : Int)), (24, vi v221), (28, AL (α := Rect) (gl ([x178, x179] : List (List Rect)) v221.toNat)), (29, vi ((List.length (gl ([x178, x179] : List (List Rect)) v221.toNat) : Nat) : Int)), (30, vi v239)] [(12, bx [ci ((gl (gl ([x178, x179] : List (List Rect)) v221.toNat) v239.toNat).left_), ci ((gl (gl ([x178, x179] : List (List Rect)) v221.toNat) v239.toNat).low_), ci ((gl (gl ([x178, x179] : List (List Rect)) v221.toNat) v239.toNat).right_), ci ((gl (gl ([x178, x179] : List (List Rect)) v221.toNat) v239.toNat).high_)])] (cT hg242) ?_
     obtain ⟨z243, hz244, h⟩ := bS h
     obtain ⟨z245, hz246, h⟩ := bS h
     obtain ⟨z247, hz248, h⟩ := bS h
     obtain ⟨z249, hz250, h⟩ := bS h
     refine AW.G Fm [.s, .s, .s, .k (cE [] [] (AL z243) [] []), .s, .s, .k (cE [] [] (AL z245) [] []), .s, .s, .s, .k (cE [] [] (AL z247) [] []), .s, .s, .k (cE [] [] (AL z249) [] []), .s, .s] (fun K => K 3 ∧ K 6 ∧ K 10 ∧ K 13 ∧ True) [(0, AL x178), (1, AL x179), (2, vi x180), (7, AL z245), (8, AL z249), (22, AL (α := (List Rect)) ([x178, x179] : List (List Rect))), (23, vi ((List.length ([x178, x179] : List (List Rect)) : Nat) : Int)), (24, vi v221), (28, AL (α := Rect) (gl ([x178, x179] : List (List Rect)) v221.toNat)), (29, vi ((List.length (gl ([x178, x179] : List (List Rect)) v221.toNat) : Nat) : Int)), (30, vi v239)] [] ⟨KAt.CC (ref01_Put_spec hz244) Tryz.call127 [], KAt.CC (ref01_Put_spec hz246) Tryz.call127 [], KAt.CC (ref01_Put_spec hz248) Tryz.call127 [], KAt.CC (ref01_Put_spec hz250) Tryz.call127 [], ⟨⟩⟩ ?_
     obtain ⟨hg251, h⟩ := gS h
     refine AW.pN Fm [.s, .s] [(0, AL x178), (1, AL x179), (2, vi x180), (7, AL z245), (8, AL z249), (22, AL (α := (List Rect)) ([x178, x179] : List (List Rect))), (23, vi ((List.length ([x178, x179] : List (List Rect)) : Nat) : Int)), (24, vi v221), (28, AL (α := Rect) (gl ([x178, x179] : List (List Rect)) v221.toNat)), (29, vi ((List.length (gl ([x178, x179] : List (List Rect)) v221.toNat) : Nat) : Int)), (30, vi (v239 + 1))] [] (cT (cT hg251)) ?_
     exact Kn.R Fm (hJ240 (z245, z249, (v239 + 1)) h)
    ·exact AW.exit (Kn.R Fm (hJ254 (v237, v238) h))
  ·exact AW.exit (Kn.R Fm (hJ258 (v219, v220) h))
theorem ref04_Bound_spec {F : Nat} {x482 : (List Rect)} {r : Region × Int} (h : ref04_Bound F x482 = some r) :
  FSpec Tryz.prog 118 [AL x482] [] (.t [.g [.d (DL (α := Rect) r.1.rects_)], .c (ci r.2)]) [] := by
 refine FI Tryz.func118 prog_mixed prog_lay fun C Fm => ?_
 unfold ref04_Bound at h
 refine AW.SG0 Fm 2 [(0, AL x482), (2, pt 2)] [(2, bx [.fl 0 fun _ => []])] ?_
 refine AW.seq (AW.SG0 Fm 3 [(0, AL x482), (2, pt 2), (6, vb (decide ((120 : Int) < (lI x482))))] [(2, bx [.fl 0 fun _ => []])] ?_)
 refine AW.cN h (fun hb483 h => ?_) (fun hb483 h => ?_)
 ·refine AW.SP Fm [.w (.v (.g [.d (DL (α := Rect) [])])), .s, .s] [(2, pt 2), (3, vi 1)] [(2, bx [.d (DL (α := Rect) [])])] (cT (ALe.g ⟨CLe.fl .nil, ⟨⟩⟩ : ALe (.v (.g [.fl 0 fun _ => []])) (.v (.g [.d (DL (α := Rect) [])])))) ?_
  refine AW.ret ?_
  obtain rfl := Option.some.inj h
  exact Kn.D Fm
 ·refine AW.skip (AW.SG0 Fm 4 [(2, pt 2), (3, vi 0)] [(2, bx [.d (DL x482)])] ?_)
  refine AW.ret ?_
  obtain rfl := Option.some.inj h
  exact Kn.D Fm
theorem ref04_Of_spec {F : Nat} {x484 : (List Rect)} {r : Region × Int} (h : ref04_Of F x484 = some r) :
  FSpec Tryz.prog 93 [AL x484] [] (.t [.g [.d (DL (α := Rect) r.1.rects_)], .c (ci r.2)]) [] := by
 refine FI Tryz.func93 prog_mixed prog_lay fun C Fm => ?_
 unfold ref04_Of at h
 refine AW.SG0 Fm 2 [(0, AL x484), (2, pt 2)] [(2, bx [.fl 0 fun _ => []])] ?_
 refine AW.seq (AW.SG0 Fm 3 [(0, AL x484), (2, pt 2), (8, vb (decide ((120 : Int) < (lI x484))))] [(2, bx [.fl 0 fun _ => []])] ?_)
 refine AW.cN h (fun hb485 h => ?_) (fun hb485 h => ?_)
 ·refine AW.SP Fm [.w (.v (.g [.d (DL (α := Rect) [])])), .s, .s] [(2, pt 2), (3, vi 1)] [(2, bx [.d (DL (α := Rect) [])])] (cT (ALe.g ⟨CLe.fl .nil, ⟨⟩⟩ : ALe (.v (.g [.fl 0 fun _ => []])) (.v (.g [.d (DL (α := Rect) [])])))) ?_
  refine AW.ret ?_
  obtain rfl := Option.some.inj h
  exact Kn.D Fm
 ·refine AW.skip (AW.join (r := r) (fun z : Unit => ref04_Of_k1 F x484) (fun z => [(0, AL x484), (2, pt 2)]) (fun z => [(2, bx [.fl 0 fun _ => []])]) (fun z h => ?_) (fun J501 hJ501 => ?_))
  ·refine AW.seq ?_
   obtain ⟨z502, hz503, h⟩ := bS h
   obtain ⟨z504, hz505, h⟩ := bS h
   refine AW.G Fm [.s, .k (cE [] [] (AL z502) [] []), .k (cE [] [] (.t [.g [.d (DL z504.1.rects_)], .c (ci z504.2)]) [] []), .s, .s, .s, .s] (fun K => K 1 ∧ K 2 ∧ True) [(2, pt 2), (3, vi z504.2)] [(2, bx [.d (DL z504.1.rects_)])] ⟨KAt.callX (ref04_Combine_spec hz503) Tryz.call112 [] [] [.tmp 21, .const (.slice none 0 0), .const (.int .i64 1)] rfl (by kernel_rfl) (by kernel_rfl) (by kernel_rfl) ⟨.p, ArgT.plain (by kernel_rfl) (ALe.c (CLe.fl .nil)) (by kernel_rfl), .p, ⟨⟩⟩, KAt.CC (ref04_Bound_spec hz505) Tryz.call118 [], ⟨⟩⟩ ?_
   refine AW.ret ?_
   obtain rfl := Option.some.inj h
   exact Kn.D Fm
  ·refine AW.SG0 Fm 3 [(0, AL x484), (2, pt 2), (10, AL x484), (11, vi (lI x484)), (12, vi 0)] [(2, bx [.fl 0 fun _ => []])] ?_
   refine AW.block (AW.loopF (E' := fun z => [(0, AL x484), (2, pt 2), (10, AL x484), (11, vi (lI x484)), (12, vi z)]) (S' := fun z => [(2, bx [.fl 0 fun _ => []])]) (fun ag_ref04_Of_b0 v493 J494 hJ494 h => ?_) h)
   refine AW.SG0 Fm 1 [(0, AL x484), (2, pt 2), (10, AL x484), (11, vi (lI x484)), (12, vi v493), (13, vb (decide (v493 < (lI x484))))] [(2, bx [.fl 0 fun _ => []])] ?_
   refine AW.seq (AW.cN h (fun hb495 h => ?_) (fun hb495 h => ?_))
   ·refine AW.skip (AW.seq (AW.block ?_))
    obtain ⟨hg496, h⟩ := gS h
    refine AW.SP Fm [.s, .s, .s, .s] [(0, AL x484), (2, pt 2), (5, pt 5), (10, AL x484), (11, vi (lI x484)), (12, vi v493)] [(2, bx [.fl 0 fun _ => []]), (5, bx [ci ((gl x484 v493.toNat).left_), ci ((gl x484 v493.toNat).low_), ci ((gl x484 v493.toNat).right_), ci ((gl x484 v493.toNat).high_)])] (cT hg496) ?_
    refine AW.seq ?_
    obtain ⟨z497, hz498, h⟩ := bS h
    refine AW.G Fm [.s, .k (cE [] [] (vb z497) [] []), .s] (fun K => K 1 ∧ True) [(0, AL x484), (2, pt 2), (10, AL x484), (11, vi (lI x484)), (12, vi v493), (18, vb (!z497))] [(2, bx [.fl 0 fun _ => []])] ⟨KAt.CC (ref04_proper_spec hz498) Tryz.call181 [], ⟨⟩⟩ ?_
    refine AW.cN h (fun hb499 h => ?_) (fun hb499 h => ?_)
    ·refine AW.SP Fm [.w (.v (.g [.d (DL (α := Rect) [])])), .s, .s] [(2, pt 2), (3, vi 2)] [(2, bx [.d (DL (α := Rect) [])])] (cT (ALe.g ⟨CLe.fl .nil, ⟨⟩⟩ : ALe (.v (.g [.fl 0 fun _ => []])) (.v (.g [.d (DL (α := Rect) [])])))) ?_
     refine AW.ret ?_
     obtain rfl := Option.some.inj h
     exact Kn.D Fm
    ·refine AW.skip ?_
     obtain ⟨hg500, h⟩ := gS h
     refine AW.pN Fm [.s, .s] [(0, AL x484), (2, pt 2), (10, AL x484), (11, vi (lI x484)), (12, vi (v493 + 1))] [(2, bx [.fl 0 fun _ => []])] (cT (cT hg500)) ?_
     exact Kn.R Fm (hJ494 (v493 + 1) h)
   ·exact AW.exit (Kn.R Fm (hJ501 () h))
theorem keep_Tape_Region_spec {F : Nat} {x506 : Tape} {x507 : Int} {x508 : Int} {r : Tape × Region} (h : keep_Tape_Region F x506 x507 x508 = some r) :
  FSpec Tryz.prog 16 [pt 0, vi x507, vi x508] [(0, bx (gC x506))] (.v (.g [.d (DL (α := Rect) r.2.rects_)])) [(0, bx (gC r.1))] := by
 refine FI Tryz.func16 prog_mixed prog_lay fun C Fm => ?_
 unfold keep_Tape_Region at h
 refine AW.SG0 Fm 1 [(0, pt 0), (1, vi x507), (2, vi x508), (6, pt 6)] [(0, bx (gC x506)), (6, bx [.fl 0 fun _ => []])] ?_
 refine AW.SW Fm [.m] (fun K => True) [(0, pt 0), (1, vi x507), (2, vi x508), (6, pt 6), (7, ow 7)] [(0, bx (gC x506)), (6, bx [.fl 0 fun _ => []]), (7, AO (α := Rect) ([] : List Rect))] True.intro [(7, .arr 4 (0) (fun _ => []))] ⟨OLe.is ((Is.nil (α := Rect))), ⟨⟩⟩ ?_
 refine AW.join (r := r) (fun z : (List Rect) × (List Int) × Int => keep_Tape_Region_k1 F z.1 z.2.1 z.2.2) (fun z => [(6, pt 6), (7, ow 7)]) (fun z => [(0, bx [.d (DL z.2.1), ci z.2.2]), (6, bx [.fl 0 fun _ => []]), (7, AO z.1)]) (fun z h => ?_) (fun J531 hJ531 => ?_)
 ·obtain ⟨v528, v529, v530⟩ := z
  refine AW.seq (Kn.r Fm [(6, pt 6), (7, ow 7)] [(7, AO v528), (0, bx [.d (DL v529), ci v530]), (6, bx [.fl 0 fun _ => []])] (by kernel_rfl) ?_)
  refine Kn.frz [(6, pt 6), (7, AL v528)] [(0, bx [.d (DL v529), ci v530]), (6, bx [.fl 0 fun _ => []])] (by kernel_rfl) (by kernel_rfl) (by kernel_rfl) ?_
  obtain ⟨z532, hz533, h⟩ := bS h
  refine AW.G Fm [.s, .k (cE [] [] (.t [.g [.d (DL z532.1.rects_)], .c (ci z532.2)]) [] []), .s, .s, .s, .s, .s, .s] (fun K => K 1 ∧ True) [(6, pt 6), (9, pt 9)] [(0, bx [.d (DL v529), ci v530]), (6, bx [.fl 0 fun _ => []]), (9, bx [.d (DL z532.1.rects_)])] ⟨KAt.CC (ref04_Of_spec hz533) Tryz.call93 [], ⟨⟩⟩ ?_
  refine AW.SG0 Fm 2 [(6, pt 6)] [(0, bx [.d (DL v529), ci v530]), (6, bx [.d (DL z532.1.rects_)])] ?_
  refine AW.ret ?_
  obtain rfl := Option.some.inj h
  exact Kn.D Fm
 ·refine AW.seq ?_
  obtain ⟨hg509, h⟩ := gS h
  obtain ⟨z510, hz511, h⟩ := bS h
  refine AW.G Fm [.s, .s, .s, .k (cE [(0, 0)] [] (vi z510.2) [(0, bx (gC x506))] [(0, bx (gC z510.1))]), .s] (fun K => (_ ∧ True) ∧ K 3 ∧ True) [(0, pt 0), (1, vi x507), (6, pt 6), (7, ow 7), (8, vi z510.2)] [(0, bx (gC z510.1)), (6, bx [.fl 0 fun _ => []]), (7, AO (α := Rect) ([] : List Rect))] ⟨⟨hg509, ⟨⟩⟩, KAt.CC (keep_Tape_Next_spec hz511) Tryz.call15 [(0, 0)], ⟨⟩⟩ ?_
  refine AW.block (Kn.r Fm [(0, pt 0), (1, vi x507), (6, pt 6), (7, ow 7), (8, vi z510.2)] [(0, bx [.d (DL z510.1.l_), ci z510.1.at_]), (6, bx [.fl 0 fun _ => []]), (7, AO ([] : List Rect))] (by kernel_rfl) ?_)
  refine AW.loopF (E' := fun z => [(0, pt 0), (1, vi x507), (6, pt 6), (7, ow 7), (8, vi z.1)]) (S' := fun z => [(0, bx [.d (DL z.2.1), ci z.2.2.1]), (6, bx [.fl 0 fun _ => []]), (7, AO z.2.2.2)]) (fun ag_keep_Tape_Region_b0 z J522 hJ522 h => ?_) h
  obtain ⟨v518, v519, v520, v521⟩ := z
  refine AW.seq (AW.SG0 Fm 2 [(0, pt 0), (1, vi x507), (6, pt 6), (7, ow 7), (8, vi v518), (16, vb (decide ((0 : Int) < v518)))] [(0, bx [.d (DL v519), ci v520]), (6, bx [.fl 0 fun _ => []]), (7, AO v521)] ?_)
  refine AW.cN h (fun hb523 h => ?_) (fun hb523 h => ?_)
  ·refine AW.skip (AW.seq (AW.block ?_))
   obtain ⟨z524, hz525, h⟩ := bS h
   obtain ⟨hg526, h⟩ := gS h
   refine AW.GW Fm [.s, .s, .s, .k (cE [(0, 0)] [] (gE z524.2) [(0, bx [.d (DL (α := Int) (⟨v519, v520⟩ : Tape).l_), ci ((⟨v519, v520⟩ : Tape).at_)])] [(0, bx (gC z524.1))]), .w (AL (α := Rect) ([z524.2] : List Rect)), .s, .s] (fun K => K 3 ∧ (ALe (.v (.c (.d (.lst 1 (litF 4 [.int .i64 z524.2.left_, .int .i64 z524.2.low_, .int .i64 z524.2.right_, .int .i64 z524.2.high_]))))) (AL (α := Rect) ([z524.2] : List Rect))) ∧ (_ ∧ _ ∧ True) ∧ True) [(0, pt 0), (1, vi x507), (6, pt 6), (7, ow 24), (8, vi v518)] [(0, bx (gC z524.1)), (6, bx [.fl 0 fun _ => []]), (24, AO (α := Rect) (v521 ++ ([z524.2] : List Rect)))] ⟨KAt.CC (keep_Tape_Rect_spec hz525) Tryz.call92 [(0, 0)], ALe.lst (.lit ([z524.2] : List Rect) (by kernel_rfl)), ⟨hg526, (Is.refl ([z524.2] : List Rect) : Is (List.length (α := Rect) ([z524.2] : List Rect)) (LF (α := Rect) ([z524.2] : List Rect)) ([z524.2] : List Rect)).len, ⟨⟩⟩, ⟨⟩⟩ [(24, .arr 4 ((List.length (α := Rect) v521) + (List.length (α := Rect) ([z524.2] : List Rect))) (appF (List.length (α := Rect) v521) (LF (α := Rect) v521) (LF (α := Rect) ([z524.2] : List Rect))))] ⟨OLe.is (Is.app (Is.refl v521) (Is.refl ([z524.2] : List Rect))), ⟨⟩⟩ ?_
   obtain ⟨hg527, h⟩ := gS h
   refine AW.pN Fm [.s, .s, .s] [(0, pt 0), (1, vi x507), (6, pt 6), (7, ow 24), (8, vi (v518 - 1))] [(0, bx (gC z524.1)), (6, bx [.fl 0 fun _ => []]), (24, AO (α := Rect) (v521 ++ ([z524.2] : List Rect)))] (cT (cT hg527)) ?_
   exact Kn.RE Fm [(7, 24)] (hJ522 ((v518 - 1), z524.1.l_, z524.1.at_, (v521 ++ ([z524.2] : List Rect))) h)
  ·exact AW.exit (Kn.R Fm (hJ531 (v521, v519, v520) h))
theorem slices_IndexFunc_Rect_spec {F : Nat} {x534 : (List Rect)} {x535 : Rect → Option Bool} {r : Int} (h : slices_IndexFunc_Rect F x534 x535 = some r) :
  FSpec Tryz.prog 237 [AL x534, .v (.c (.sem (CloOK Tryz.prog (FR_Rect_Bool x535))))] [] (vi r) [] := by
 refine FI Tryz.func237 prog_mixed prog_lay fun C Fm => ?_
 unfold slices_IndexFunc_Rect at h
 refine AW.SG0 Fm 1 [(0, AL x534), (1, .v (.c (.sem (CloOK Tryz.prog (FR_Rect_Bool x535)))))] [] ?_
 refine AW.join (r := r) (fun z : Unit => slices_IndexFunc_Rect_k1 F) (fun z => []) (fun z => []) (fun z h => ?_) (fun J551 hJ551 => ?_)
 ·refine AW.SG0 Fm 1 [(4, vi (-1 : Int))] [] ?_
  refine AW.ret ?_
  obtain rfl := Option.some.inj h
  exact Kn.D Fm
 ·refine AW.SG0 Fm 3 [(0, AL x534), (1, .v (.c (.sem (CloOK Tryz.prog (FR_Rect_Bool x535))))), (7, vi (lI x534)), (8, vi 0)] [] ?_
  refine AW.block (AW.loopF (E' := fun z => [(0, AL x534), (1, .v (.c (.sem (CloOK Tryz.prog (FR_Rect_Bool x535))))), (7, vi (lI x534)), (8, vi z)]) (S' := fun z => []) (fun ag_slices_IndexFunc_Rect_b0 v543 J544 hJ544 h => ?_) h)
  refine AW.SG0 Fm 1 [(0, AL x534), (1, .v (.c (.sem (CloOK Tryz.prog (FR_Rect_Bool x535))))), (7, vi (lI x534)), (8, vi v543), (9, vb (decide (v543 < (lI x534))))] [] ?_
  refine AW.seq (AW.cN h (fun hb545 h => ?_) (fun hb545 h => ?_))
  ·refine AW.skip (AW.seq (AW.block (AW.SG0 Fm 2 [(0, AL x534), (1, .v (.c (.sem (CloOK Tryz.prog (FR_Rect_Bool x535))))), (5, vi v543), (7, vi (lI x534)), (8, vi v543)] [] ?_)))
   refine AW.seq ?_
   obtain ⟨hg546, h⟩ := gS h
   obtain ⟨z547, hz548, h⟩ := bS h
   refine AW.G Fm [.s, .s, .s, .s, .s, .k (sE (vb z547))] (fun K => _ ∧ K 5 ∧ True) [(0, AL x534), (1, .v (.c (.sem (CloOK Tryz.prog (FR_Rect_Bool x535))))), (5, vi v543), (7, vi (lI x534)), (8, vi v543), (16, vb z547)] [] ⟨hg546, KAt.sem (F := (FR_Rect_Bool x535)) (args := [.v (.g [ci ((gl x534 v543.toNat).left_), ci ((gl x534 v543.toNat).low_), ci ((gl x534 v543.toNat).right_), ci ((gl x534 v543.toNat).high_)])]) ⟨(gl x534 v543.toNat), z547, hz548, rfl, rfl⟩ rfl (by kernel_rfl) (by kernel_rfl) (by kernel_rfl), ⟨⟩⟩ ?_
   refine AW.cN h (fun hb549 h => ?_) (fun hb549 h => ?_)
   ·refine AW.SG0 Fm 2 [(4, vi v543)] [] ?_
    refine AW.ret ?_
    obtain rfl := Option.some.inj h
    exact Kn.D Fm
   ·refine AW.skip ?_
    obtain ⟨hg550, h⟩ := gS h
    refine AW.pN Fm [.s, .s] [(0, AL x534), (1, .v (.c (.sem (CloOK Tryz.prog (FR_Rect_Bool x535))))), (7, vi (lI x534)), (8, vi (v543 + 1))] [] (cT (cT hg550)) ?_
    exact Kn.R Fm (hJ544 (v543 + 1) h)
  ·exact AW.exit (Kn.R Fm (hJ551 () h))
theorem slices_ContainsFunc_Rect_spec {F : Nat} {x552 : (List Rect)} {x553 : Rect → Option Bool} {r : Bool} (h : slices_ContainsFunc_Rect F x552 x553 = some r) :
  FSpec Tryz.prog 182 [AL x552, .v (.c (.sem (CloOK Tryz.prog (FR_Rect_Bool x553))))] [] (vb r) [] := by
 refine FI Tryz.func182 prog_mixed prog_lay fun C Fm => ?_
 unfold slices_ContainsFunc_Rect at h
 refine AW.SG0 Fm 1 [(0, AL x552), (1, .v (.c (.sem (CloOK Tryz.prog (FR_Rect_Bool x553)))))] [] ?_
 refine AW.seq ?_
 obtain ⟨z554, hz555, h⟩ := bS h
 refine AW.G Fm [.s, .s, .k (cE [] [] (vi z554) [] []), .s, .s] (fun K => K 2 ∧ True) [(4, vb (decide ((0 : Int) ≤ z554)))] [] ⟨KAt.callX (slices_IndexFunc_Rect_spec hz555) Tryz.call237 [] [] [.tmp 5, .tmp 6] rfl (by kernel_rfl) (by kernel_rfl) (by kernel_rfl) ⟨.p, ArgT.semX (by kernel_rfl) (by kernel_rfl) (by kernel_rfl), ⟨⟩⟩, ⟨⟩⟩ ?_
 refine AW.ret ?_
 obtain rfl := Option.some.inj h
 exact Kn.D Fm
theorem region_proper_spec {F : Nat} {x556 : Rect} {r : Bool} (h : region_proper F x556 = some r) :
  FSpec Tryz.prog 184 [gE x556] [] (vb r) [] := by
 refine FI Tryz.func184 prog_mixed prog_lay fun C Fm => ?_
 unfold region_proper at h
 refine AW.SG0 Fm 2 [(1, pt 1)] [(1, bx (gC x556))] ?_
 refine AW.join (r := r) (fun z : Bool => region_proper_k0 F z) (fun z => [(2, vb z)]) (fun z => []) (fun v562 h => ?_) (fun J563 hJ563 => ?_)
 ·refine AW.ret ?_
  obtain rfl := Option.some.inj h
  exact Kn.D Fm
 ·rcases br_or h with ⟨hb557, h⟩ | ⟨hb557, h⟩
  ·rcases br_or h with ⟨hb558, h⟩ | ⟨hb558, h⟩
   ·rcases br_or h with ⟨hb559, h⟩ | ⟨hb559, h⟩
    ·rcases br_or h with ⟨hb560, h⟩ | ⟨hb560, h⟩
     ·rcases br_or h with ⟨hb561, h⟩ | ⟨hb561, h⟩
      ·refine AW.pN Fm [.s, .s, .s, .w (vb true), .s, .s, .s, .s, .s, .s, .w (vb true), .s, .s, .s, .s, .w (vb true), .s, .s, .s, .s, .w (vb true), .s, .s, .s, .s, .s, .s, .w (vb true), .s, .s, .s, .s, .s] [(2, vb (decide (x556.high_ ≤ (16384 : Int))))] [] (cA (ALe.bool hb557) (cA (ALe.bool hb558) (cA (ALe.bool hb559) (cA (ALe.bool hb560) (cT (ALe.bool hb561)))))) ?_
       exact Kn.R Fm (hJ563 (decide (x556.high_ ≤ (16384 : Int))) h)
      ·refine AW.pN Fm [.s, .s, .s, .w (vb true), .s, .s, .s, .s, .s, .s, .w (vb true), .s, .s, .s, .s, .w (vb true), .s, .s, .s, .s, .w (vb true), .s, .s, .s, .s, .s, .s, .w (vb false), .s, .s, .s, .s, .s] [(2, vb false)] [] (cA (ALe.bool hb557) (cA (ALe.bool hb558) (cA (ALe.bool hb559) (cA (ALe.bool hb560) (cT (ALe.bool hb561)))))) ?_
       exact Kn.R Fm (hJ563 false h)
     ·refine AW.pN Fm [.s, .s, .s, .w (vb true), .s, .s, .s, .s, .s, .s, .w (vb true), .s, .s, .s, .s, .w (vb true), .s, .s, .s, .s, .w (vb false), .s, .s, .s, .s, .s, .s, .s, .s, .s, .s, .s, .s] [(2, vb false)] [] (cA (ALe.bool hb557) (cA (ALe.bool hb558) (cA (ALe.bool hb559) (cT (ALe.bool hb560))))) ?_
      exact Kn.R Fm (hJ563 false h)
    ·refine AW.pN Fm [.s, .s, .s, .w (vb true), .s, .s, .s, .s, .s, .s, .w (vb true), .s, .s, .s, .s, .w (vb false), .s, .s, .s, .s, .s, .s, .s, .s, .s, .s, .s, .s, .s, .s, .s, .s, .s] [(2, vb false)] [] (cA (ALe.bool hb557) (cA (ALe.bool hb558) (cT (ALe.bool hb559)))) ?_
     exact Kn.R Fm (hJ563 false h)
   ·refine AW.pN Fm [.s, .s, .s, .w (vb true), .s, .s, .s, .s, .s, .s, .w (vb false), .s, .s, .s, .s, .s, .s, .s, .s, .s, .s, .s, .s, .s, .s, .s, .s, .s, .s, .s, .s, .s, .s] [(2, vb false)] [] (cA (ALe.bool hb557) (cT (ALe.bool hb558))) ?_
    exact Kn.R Fm (hJ563 false h)
  ·refine AW.pN Fm [.s, .s, .s, .w (vb false), .s, .s, .s, .s, .s, .s, .s, .s, .s, .s, .s, .s, .s, .s, .s, .s, .s, .s, .s, .s, .s, .s, .s, .s, .s, .s, .s, .s, .s] [(2, vb false)] [] (cT (ALe.bool hb557)) ?_
   exact Kn.R Fm (hJ563 false h)
theorem region_Valid_1_spec {F : Nat} {x564 : Rect} {r : Bool} (h : region_Valid_1 F x564 = some r) :
  FSpec Tryz.prog 183 [gE x564] [] (vb r) [] := by
 refine FI Tryz.func183 prog_mixed prog_lay fun C Fm => ?_
 unfold region_Valid_1 at h
 refine AW.SG0 Fm 2 [(1, pt 1)] [(1, bx (gC x564))] ?_
 refine AW.seq ?_
 obtain ⟨z565, hz566, h⟩ := bS h
 refine AW.G Fm [.s, .k (cE [] [] (vb z565) [] []), .s, .s] (fun K => K 1 ∧ True) [(2, vb (!z565))] [] ⟨KAt.CC (region_proper_spec hz566) Tryz.call184 [], ⟨⟩⟩ ?_
 refine AW.ret ?_
 obtain rfl := Option.some.inj h
 exact Kn.D Fm
theorem slices_Compact_int_spec {F : Nat} {x567 : (List Int)} {r : (List Int)} (h : slices_Compact_int F x567 = some r) :
  FSpec Tryz.prog 241 [ow 0] [(0, AO x567)] (ow 100) [(100, AO (α := Int) r)] := by
 refine FI Tryz.func241 prog_mixed prog_lay fun C Fm => ?_
 unfold slices_Compact_int at h
 refine AW.SG Fm [.m] (fun K => True) [(0, ow 0)] [(0, AO x567)] True.intro ?_
 refine AW.seq (AW.SG0 Fm 3 [(0, ow 0), (8, vb (decide ((lI x567) < (2 : Int))))] [(0, AO x567)] ?_)
 refine AW.cN h (fun hb568 h => ?_) (fun hb568 h => ?_)
 ·refine AW.SG0 Fm 2 [(2, ow 0)] [(0, AO x567)] ?_
  refine AW.ret ?_
  obtain rfl := Option.some.inj h
  exact Kn.re Fm [(100, 0)] [(2, ow 100)] [(100, AO x567)] (by kernel_rfl) (by kernel_rfl) (by kernel_rfl) (by kernel_rfl) (Kn.dn Fm (by kernel_rfl))
 ·refine AW.skip (AW.join (r := r) (fun z : Unit => slices_Compact_int_k5 F x567) (fun z => [(0, ow 0)]) (fun z => [(0, AO x567)]) (fun z h => ?_) (fun J668 hJ668 => ?_))
  ·refine AW.SG0 Fm 2 [(2, ow 0)] [(0, AO x567)] ?_
   refine AW.ret ?_
   obtain rfl := Option.some.inj h
   exact Kn.re Fm [(100, 0)] [(2, ow 100)] [(100, AO x567)] (by kernel_rfl) (by kernel_rfl) (by kernel_rfl) (by kernel_rfl) (Kn.dn Fm (by kernel_rfl))
  ·refine AW.SG0 Fm 1 [(0, ow 0), (3, vi 1)] [(0, AO x567)] ?_
   refine AW.block (AW.loopF (E' := fun z => [(0, ow 0), (3, vi z)]) (S' := fun z => [(0, AO x567)]) (fun ag_slices_Compact_int_b0 v618 J619 hJ619 h => ?_) h)
   refine AW.seq (AW.SG0 Fm 4 [(0, ow 0), (3, vi v618), (13, vb (decide (v618 < (lI x567))))] [(0, AO x567)] ?_)
   refine AW.cN h (fun hb620 h => ?_) (fun hb620 h => ?_)
   ·refine AW.skip (AW.join (r := r) (fun z : Unit => slices_Compact_int_k4 F v618 ag_slices_Compact_int_b0) (fun z => [(0, ow 0), (3, vi v618)]) (fun z => [(0, AO x567)]) (fun z h => ?_) (fun J666 hJ666 => ?_))
    ·obtain ⟨hg667, h⟩ := gS h
     refine AW.pN Fm [.s, .s, .s] [(0, ow 0), (3, vi (v618 + 1))] [(0, AO x567)] (cT (cT hg667)) ?_
     exact Kn.R Fm (hJ619 (v618 + 1) h)
    ·refine AW.block ?_
     obtain ⟨hg621, hg622, hg623, h⟩ := gS3 h
     refine AW.SP Fm [.s, .s, .s, .s, .s, .s, .s, .s, .s, .s] [(0, ow 0), (3, vi v618), (25, vb ((gl x567 v618.toNat) == (gl x567 (v618 - 1).toNat)))] [(0, AO x567)] (cA hg621 (cA (toNat_lt hg621) (cA (cT hg622) (cA hg623 (cT (toNat_lt hg623)))))) ?_
     refine AW.cN h (fun hb624 h => ?_) (fun hb624 h => ?_)
     ·obtain ⟨hg625, h⟩ := gS h
      refine AW.SG Fm [.s, .s, .k (rE { v := .v (.c (.sub 0 1 (0 + (v618).toNat) ((List.length (α := Int) x567) - (v618).toNat))) }), .s] (fun K => K 2 ∧ True) [(0, ow 0), (3, vi v618), (4, .v (.c (.sub 0 1 (0 + (v618).toNat) ((List.length (α := Int) x567) - (v618).toNat))))] [(0, AO x567)] ⟨KAt.vslice (l := (some v618)) (u := none) (id := 0) (lo0 := 0) (n := (List.length (α := Int) x567)) (N := List.length (α := Int) x567) (f := LF (α := Int) x567) prog_lay slT22 rfl rfl (by kernel_rfl) (by kernel_rfl) (by kernel_rfl) (by kernel_rfl) (by kernel_rfl) hg625 (by kernel_rfl), ⟨⟩⟩ ?_
      refine AW.join (r := r) (fun z : Int × (List Int) => slices_Compact_int_k3 F z.1 z.2) (fun z => [(0, ow 0), (3, vi z.1)]) (fun z => [(0, AO z.2)]) (fun z h => ?_) (fun J663 hJ663 => ?_)
      ·obtain ⟨v661, v662⟩ := z
       obtain ⟨hg664, h⟩ := gS h
       refine AW.SW Fm [.s, .s, .k (rE { v := .v (.c (.sub 0 1 (0 + (v661).toNat) ((List.length (α := Int) v662) - (v661).toNat))) }), .k (rE { v := .any, upd := some (0, .arr 1 (List.length (α := Int) v662) (fun i => if (0 + (v661).toNat) ≤ i ∧ i < (0 + (v661).toNat) + ((List.length (α := Int) v662) - (v661).toNat) then (fun _ => [.int .i64 0]) (i - (0 + (v661).toNat)) else (LF (α := Int) v662) i)) })] (fun K => K 2 ∧ K 3 ∧ True) [(0, ow 0), (3, vi v661)] [(0, AO (α := Int) (clr v662 (0 + (v661).toNat) ((List.length (α := Int) v662) - (v661).toNat)))] ⟨KAt.vslice (l := (some v661)) (u := none) (id := 0) (lo0 := 0) (n := (List.length (α := Int) v662)) (N := List.length (α := Int) v662) (f := LF (α := Int) v662) prog_lay slT22 rfl rfl (by kernel_rfl) (by kernel_rfl) (by kernel_rfl) (by kernel_rfl) (by kernel_rfl) hg664 (by kernel_rfl), KAt.vclear (id := 0) (lo0 := (0 + (v661).toNat)) (n := ((List.length (α := Int) v662) - (v661).toNat)) (N := List.length (α := Int) v662) (f := (LF (α := Int) v662)) prog_lay slT22 [.int .i64 0] [.int .i64 0] ⟨DLe.refl _, ⟨⟩⟩ rfl rfl (by kernel_rfl) (Nat.succ_pos _) (by kernel_rfl) (by kernel_rfl) (by kernel_rfl) (by kernel_rfl) rfl, ⟨⟩⟩ [(0, .arr 1 (List.length (α := Int) v662) (fun i => if (0 + (v661).toNat) ≤ i ∧ i < (0 + (v661).toNat) + ((List.length (α := Int) v662) - (v661).toNat) then (fun _ => [.int .i64 0]) (i - (0 + (v661).toNat)) else (LF (α := Int) v662) i))] ⟨OLe.is (Is.clr (l := v662) (0 + (v661).toNat) ((List.length (α := Int) v662) - (v661).toNat) (zd := [.int .i64 0]) (by kernel_rfl)), ⟨⟩⟩ ?_
       obtain ⟨hg665, h⟩ := gS h
       refine AW.SV Fm [.s, .s, .m, .s] [(2, ow 59)] [(59, AO (α := Int) ((clr v662 (0 + (v661).toNat) ((List.length (α := Int) v662) - (v661).toNat)).take (v661).toNat))] (cT hg665) [(59, .arr 1 ((v661).toNat) (LF (α := Int) (clr v662 (0 + (v661).toNat) ((List.length (α := Int) v662) - (v661).toNat))))] ⟨OLe.is (Is.take (Is.refl (clr v662 (0 + (v661).toNat) ((List.length (α := Int) v662) - (v661).toNat))) hg665.2), ⟨⟩⟩ ?_
       refine AW.ret ?_
       obtain rfl := Option.some.inj h
       exact Kn.re Fm [(100, 59)] [(2, ow 100)] [(100, AO (α := Int) ((clr v662 (0 + (v661).toNat) ((List.length (α := Int) v662) - (v661).toNat)).take (v661).toNat))] (by kernel_rfl) (by kernel_rfl) (by kernel_rfl) (by kernel_rfl) (Kn.dn Fm (by kernel_rfl))
      ·refine AW.SG0 Fm 1 [(0, ow 0), (3, vi v618), (4, .v (.c (.sub 0 1 (0 + (v618).toNat) ((List.length (α := Int) x567) - (v618).toNat)))), (5, vi 1)] [(0, AO x567)] ?_
       refine AW.block (AW.loopF (E' := fun z => [(0, ow 0), (3, vi z.1), (4, .v (.c (.sub 0 1 (0 + (v618).toNat) ((List.length (α := Int) x567) - (v618).toNat)))), (5, vi z.2.1)]) (S' := fun z => [(0, AO z.2.2)]) (fun ag_slices_Compact_int_b1 z J645 hJ645 h => ?_) h)
       obtain ⟨v642, v643, v644⟩ := z
       refine AW.seq (AW.SG Fm [.s, .s, .k (rE { v := vi ((((List.length (α := Int) x567) - (v618).toNat) : Nat) : Int) }), .s] (fun K => K 2 ∧ True) [(0, ow 0), (3, vi v642), (4, .v (.c (.sub 0 1 (0 + (v618).toNat) ((List.length (α := Int) x567) - (v618).toNat)))), (5, vi v643), (32, vb (decide (v643 < ((((List.length (α := Int) x567) - (v618).toNat) : Nat) : Int))))] [(0, AO v644)] ⟨KAt.vlen (es := 1) (id := 0) (lo0 := (0 + (v618).toNat)) (n := ((List.length (α := Int) x567) - (v618).toNat)) (N := List.length (α := Int) v644) (f := LF (α := Int) v644) prog_lay slT22 rfl rfl (by kernel_rfl) (by kernel_rfl) (by kernel_rfl), ⟨⟩⟩ ?_)
       refine AW.cN h (fun hb646 h => ?_) (fun hb646 h => ?_)
       ·refine AW.skip (AW.join (r := r) (fun z : Int × (List Int) => slices_Compact_int_k2 F v643 ag_slices_Compact_int_b1 z.1 z.2) (fun z => [(0, ow 0), (3, vi z.1), (4, .v (.c (.sub 0 1 (0 + (v618).toNat) ((List.length (α := Int) x567) - (v618).toNat)))), (5, vi v643)]) (fun z => [(0, AO z.2)]) (fun z h => ?_) (fun J659 hJ659 => ?_))
        ·obtain ⟨v657, v658⟩ := z
         obtain ⟨hg660, h⟩ := gS h
         refine AW.pN Fm [.s, .s, .s] [(0, ow 0), (3, vi v657), (4, .v (.c (.sub 0 1 (0 + (v618).toNat) ((List.length (α := Int) x567) - (v618).toNat)))), (5, vi (v643 + 1))] [(0, AO v658)] (cT (cT hg660)) ?_
         exact Kn.R Fm (hJ645 (v657, (v643 + 1), v658) h)
        ·refine AW.block ?_
         obtain ⟨hg647, hg648, hg649, hg650, h⟩ := gS4 h
         obtain ⟨hg651, h⟩ := gS h
         refine AW.SG Fm [.s, .s, .k (rE { v := .v (.c (.pte 0 1 ((0 + (v618).toNat) + (v643).toNat) 0)) }), .s, .s, .s, .s, .k (rE { v := .v (.c (.pte 0 1 ((0 + (v618).toNat) + ((v643 - 1)).toNat) 0)) }), .s, .s] (fun K => K 2 ∧ _ ∧ (_ ∧ True) ∧ K 7 ∧ _ ∧ True) [(0, ow 0), (3, vi v642), (4, .v (.c (.sub 0 1 (0 + (v618).toNat) ((List.length (α := Int) x567) - (v618).toNat)))), (5, vi v643), (44, vb ((gl v644 ((0 + (v618).toNat) + (v643).toNat)) != (gl v644 ((0 + (v618).toNat) + ((v643 - 1)).toNat))))] [(0, AO v644)] ⟨KAt.vindex (m := v643) (id := 0) (lo0 := (0 + (v618).toNat)) (n := ((List.length (α := Int) x567) - (v618).toNat)) (N := List.length (α := Int) v644) (f := LF (α := Int) v644) prog_lay slT22 rfl rfl (by kernel_rfl) (by kernel_rfl) (by kernel_rfl) (by kernel_rfl) hg647 (by kernel_rfl), hg648, ⟨hg649, ⟨⟩⟩, KAt.vindex (m := (v643 - 1)) (id := 0) (lo0 := (0 + (v618).toNat)) (n := ((List.length (α := Int) x567) - (v618).toNat)) (N := List.length (α := Int) v644) (f := LF (α := Int) v644) prog_lay slT22 rfl rfl (by kernel_rfl) (by kernel_rfl) (by kernel_rfl) (by kernel_rfl) hg650 (by kernel_rfl), hg651, ⟨⟩⟩ ?_
         refine AW.cN h (fun hb652 h => ?_) (fun hb652 h => ?_)
         ·obtain ⟨hg653, hg654, hg655, h⟩ := gS3 h
          refine AW.SW Fm [.s, .s, .s, .s, .k (rE { v := .v (.c (.pte 0 1 ((0 + (v618).toNat) + (v643).toNat) 0)) }), .s, .s, .s] (fun K => K 4 ∧ _ ∧ _ ∧ _ ∧ True) [(0, ow 0), (3, vi v642), (4, .v (.c (.sub 0 1 (0 + (v618).toNat) ((List.length (α := Int) x567) - (v618).toNat)))), (5, vi v643)] [(0, AO (α := Int) (List.set v644 v642.toNat (gl v644 ((0 + (v618).toNat) + (v643).toNat))))] ⟨KAt.vindex (m := v643) (id := 0) (lo0 := (0 + (v618).toNat)) (n := ((List.length (α := Int) x567) - (v618).toNat)) (N := List.length (α := Int) v644) (f := LF (α := Int) v644) prog_lay slT22 rfl rfl (by kernel_rfl) (by kernel_rfl) (by kernel_rfl) (by kernel_rfl) hg653 (by kernel_rfl), hg654, hg655, (toNat_lt hg655), ⟨⟩⟩ [(0, .arr 1 (List.length (α := Int) v644) (fun j => if j = v642.toNat then splice ((LF (α := Int) v644) v642.toNat) 0 [.int .i64 (gl v644 ((0 + (v618).toNat) + (v643).toNat))] else (LF (α := Int) v644) j))] ⟨OLe.is (Is.set (Is.refl v644) (toNat_lt hg655) (gl v644 ((0 + (v618).toNat) + (v643).toNat)) (by kernel_rfl)), ⟨⟩⟩ ?_
          obtain ⟨hg656, h⟩ := gS h
          refine AW.pN Fm [.s, .s, .s] [(0, ow 0), (3, vi (v642 + 1)), (4, .v (.c (.sub 0 1 (0 + (v618).toNat) ((List.length (α := Int) x567) - (v618).toNat)))), (5, vi v643)] [(0, AO (α := Int) (List.set v644 v642.toNat (gl v644 ((0 + (v618).toNat) + (v643).toNat))))] (cT (cT hg656)) ?_
          exact Kn.R Fm (hJ659 ((v642 + 1), (List.set v644 v642.toNat (gl v644 ((0 + (v618).toNat) + (v643).toNat)))) h)
         ·exact AW.skip (Kn.R Fm (hJ659 (v642, v644) h))
       ·exact AW.exit (Kn.R Fm (hJ663 (v642, v644) h))
     ·exact AW.skip (Kn.R Fm (hJ666 () h))
   ·exact AW.exit (Kn.R Fm (hJ668 () h))
theorem region_Cuts_spec {F : Nat} {x669 : (List (List Rect))} {r : (List Int)} (h : region_Cuts F x669 = some r) :
  FSpec Tryz.prog 188 [AL x669] [] (AL (α := Int) r) [] := by
 refine FI Tryz.func188 prog_mixed prog_lay fun C Fm => ?_
 unfold region_Cuts at h
 refine AW.SG0 Fm 1 [(0, AL x669)] [] ?_
 refine AW.SW Fm [.m] (fun K => True) [(0, AL x669), (3, ow 3)] [(3, AO (α := Int) ([] : List Int))] True.intro [(3, .arr 1 (0) (fun _ => []))] ⟨OLe.is ((Is.nil (α := Int))), ⟨⟩⟩ ?_
 refine AW.join (r := r) (fun z : (List Int) => region_Cuts_k3 F z) (fun z => [(3, ow 3)]) (fun z => [(3, AO z)]) (fun v708 h => ?_) (fun J709 hJ709 => ?_)
 ·refine AW.seq ?_
  obtain ⟨z710, hz711, h⟩ := bS h
  refine AW.G Fm [.s, .k (cE [(0, 3)] [] (.any) [(0, AO v708)] [(0, AO z710)])] (fun K => K 1 ∧ True) [(3, ow 3)] [(3, AO z710)] ⟨KAt.CC (sortI_spec hz711) Tryz.call214 [(0, 3)], ⟨⟩⟩ ?_
  refine AW.seq ?_
  obtain ⟨z712, hz713, h⟩ := bS h
  refine AW.G Fm [.s, .k (cE [(0, 3), (100, 32)] [] (ow 100) [(0, AO z710)] [(100, AO z712)]), .s] (fun K => K 1 ∧ True) [(2, ow 32)] [(32, AO z712)] ⟨KAt.CC (slices_Compact_int_spec hz713) Tryz.call241 [(0, 3), (100, 32)], ⟨⟩⟩ ?_
  refine AW.ret ?_
  obtain rfl := Option.some.inj h
  refine Kn.r Fm [(2, ow 32)] [(32, AO z712)] (by kernel_rfl) ?_
  refine Kn.frz [(2, AL z712)] [] (by kernel_rfl) (by kernel_rfl) (by kernel_rfl) ?_
  exact Kn.D Fm
 ·refine AW.SG0 Fm 3 [(3, ow 3), (8, AL x669), (9, vi (lI x669)), (10, vi 0)] [(3, AO (α := Int) ([] : List Int))] ?_
  refine AW.block (Kn.r Fm [(3, ow 3), (8, AL x669), (9, vi (lI x669)), (10, vi 0)] [(3, AO ([] : List Int))] (by kernel_rfl) ?_)
  refine AW.loopF (E' := fun z => [(3, ow 3), (8, AL x669), (9, vi (lI x669)), (10, vi z.1)]) (S' := fun z => [(3, AO z.2)]) (fun ag_region_Cuts_b0 z J690 hJ690 h => ?_) h
  obtain ⟨v688, v689⟩ := z
  refine AW.SG0 Fm 1 [(3, ow 3), (8, AL x669), (9, vi (lI x669)), (10, vi v688), (11, vb (decide (v688 < (lI x669))))] [(3, AO v689)] ?_
  refine AW.seq (AW.cN h (fun hb691 h => ?_) (fun hb691 h => ?_))
  ·refine AW.skip (AW.join (r := r) (fun z : (List Int) => region_Cuts_k2 F v688 ag_region_Cuts_b0 z) (fun z => [(3, ow 3), (8, AL x669), (9, vi (lI x669)), (10, vi v688)]) (fun z => [(3, AO z)]) (fun v705 h => ?_) (fun J706 hJ706 => ?_))
   ·obtain ⟨hg707, h⟩ := gS h
    refine AW.pN Fm [.s, .s] [(3, ow 3), (8, AL x669), (9, vi (lI x669)), (10, vi (v688 + 1))] [(3, AO v705)] (cT (cT hg707)) ?_
    exact Kn.R Fm (hJ690 ((v688 + 1), v705) h)
   ·refine AW.block ?_
    obtain ⟨hg692, h⟩ := gS h
    refine AW.SP Fm [.s, .s, .s] [(3, ow 3), (5, AL (α := Rect) (gl x669 v688.toNat)), (8, AL x669), (9, vi (lI x669)), (10, vi v688)] [(3, AO v689)] (cT hg692) ?_
    refine AW.SG0 Fm 3 [(3, ow 3), (8, AL x669), (9, vi (lI x669)), (10, vi v688), (14, AL (α := Rect) (gl x669 v688.toNat)), (15, vi (lI (gl x669 v688.toNat))), (16, vi 0)] [(3, AO v689)] ?_
    refine AW.block (AW.loopF (E' := fun z => [(3, ow 3), (8, AL x669), (9, vi (lI x669)), (10, vi v688), (14, AL (α := Rect) (gl x669 v688.toNat)), (15, vi (lI (gl x669 v688.toNat))), (16, vi z.1)]) (S' := fun z => [(3, AO z.2)]) (fun ag_region_Cuts_b1 z J700 hJ700 h => ?_) h)
    obtain ⟨v698, v699⟩ := z
    refine AW.SG0 Fm 1 [(3, ow 3), (8, AL x669), (9, vi (lI x669)), (10, vi v688), (14, AL (α := Rect) (gl x669 v688.toNat)), (15, vi (lI (gl x669 v688.toNat))), (16, vi v698), (17, vb (decide (v698 < (lI (gl x669 v688.toNat)))))] [(3, AO v699)] ?_
    refine AW.seq (AW.cN h (fun hb701 h => ?_) (fun hb701 h => ?_))
    ·refine AW.skip (AW.seq (AW.block ?_))
     obtain ⟨hg702, h⟩ := gS h
     refine AW.SP Fm [.s, .s, .s, .s] [(3, ow 3), (7, pt 7), (8, AL x669), (9, vi (lI x669)), (10, vi v688), (14, AL (α := Rect) (gl x669 v688.toNat)), (15, vi (lI (gl x669 v688.toNat))), (16, vi v698)] [(3, AO v699), (7, bx [ci ((gl (gl x669 v688.toNat) v698.toNat).left_), ci ((gl (gl x669 v688.toNat) v698.toNat).low_), ci ((gl (gl x669 v688.toNat) v698.toNat).right_), ci ((gl (gl x669 v688.toNat) v698.toNat).high_)])] (cT hg702) ?_
     obtain ⟨hg703, h⟩ := gS h
     refine AW.WP Fm [.s, .s, .s, .s, .s, .w (AL (α := Int) ([(gl (gl x669 v688.toNat) v698.toNat).low_, (gl (gl x669 v688.toNat) v698.toNat).high_] : List Int)), .s, .s] [(3, ow 26), (8, AL x669), (9, vi (lI x669)), (10, vi v688), (14, AL (α := Rect) (gl x669 v688.toNat)), (15, vi (lI (gl x669 v688.toNat))), (16, vi v698)] [(26, AO (α := Int) (v699 ++ ([(gl (gl x669 v688.toNat) v698.toNat).low_, (gl (gl x669 v688.toNat) v698.toNat).high_] : List Int)))] (cA (ALe.lst (.lit ([(gl (gl x669 v688.toNat) v698.toNat).low_, (gl (gl x669 v688.toNat) v698.toNat).high_] : List Int) (by kernel_rfl)) : ALe (.v (.c (.d (.lst 2 (litF 1 [.int .i64 (gl (gl x669 v688.toNat) v698.toNat).low_, .int .i64 (gl (gl x669 v688.toNat) v698.toNat).high_]))))) (AL (α := Int) ([(gl (gl x669 v688.toNat) v698.toNat).low_, (gl (gl x669 v688.toNat) v698.toNat).high_] : List Int))) (cT (cA hg703 (cT (Is.refl ([(gl (gl x669 v688.toNat) v698.toNat).low_, (gl (gl x669 v688.toNat) v698.toNat).high_] : List Int) : Is (List.length (α := Int) ([(gl (gl x669 v688.toNat) v698.toNat).low_, (gl (gl x669 v688.toNat) v698.toNat).high_] : List Int)) (LF (α := Int) ([(gl (gl x669 v688.toNat) v698.toNat).low_, (gl (gl x669 v688.toNat) v698.toNat).high_] : List Int)) ([(gl (gl x669 v688.toNat) v698.toNat).low_, (gl (gl x669 v688.toNat) v698.toNat).high_] : List Int)).len)))) [(26, .arr 1 ((List.length (α := Int) v699) + (List.length (α := Int) ([(gl (gl x669 v688.toNat) v698.toNat).low_, (gl (gl x669 v688.toNat) v698.toNat).high_] : List Int))) (appF (List.length (α := Int) v699) (LF (α := Int) v699) (LF (α := Int) ([(gl (gl x669 v688.toNat) v698.toNat).low_, (gl (gl x669 v688.toNat) v698.toNat).high_] : List Int))))] ⟨OLe.is (Is.app (Is.refl v699) (Is.refl ([(gl (gl x669 v688.toNat) v698.toNat).low_, (gl (gl x669 v688.toNat) v698.toNat).high_] : List Int))), ⟨⟩⟩ ?_
     obtain ⟨hg704, h⟩ := gS h
     refine AW.pN Fm [.s, .s] [(3, ow 26), (8, AL x669), (9, vi (lI x669)), (10, vi v688), (14, AL (α := Rect) (gl x669 v688.toNat)), (15, vi (lI (gl x669 v688.toNat))), (16, vi (v698 + 1))] [(26, AO (α := Int) (v699 ++ ([(gl (gl x669 v688.toNat) v698.toNat).low_, (gl (gl x669 v688.toNat) v698.toNat).high_] : List Int)))] (cT (cT hg704)) ?_
     exact Kn.RE Fm [(3, 26)] (hJ700 ((v698 + 1), (v699 ++ ([(gl (gl x669 v688.toNat) v698.toNat).low_, (gl (gl x669 v688.toNat) v698.toNat).high_] : List Int))) h)
    ·exact AW.exit (Kn.R Fm (hJ706 v699 h))
  ·exact AW.exit (Kn.R Fm (hJ709 v689 h))
theorem cmp_isNaN_int_spec {F : Nat} {x714 : Int} {r : Bool} (h : cmp_isNaN_int F x714 = some r) :
  FSpec Tryz.prog 256 [vi x714] [] (vb r) [] := by
 refine FI Tryz.func256 prog_mixed prog_lay fun C Fm => ?_
 unfold cmp_isNaN_int at h
 refine AW.SG0 Fm 1 [(0, vi x714)] [] ?_
 refine AW.SG0 Fm 4 [(2, vb (x714 != x714))] [] ?_
 refine AW.ret ?_
 obtain rfl := Option.some.inj h
 exact Kn.D Fm
theorem cmp_Compare_int_spec {F : Nat} {x715 : Int} {x716 : Int} {r : Int} (h : cmp_Compare_int F x715 x716 = some r) :
  FSpec Tryz.prog 197 [vi x715, vi x716] [] (vi r) [] := by
 refine FI Tryz.func197 prog_mixed prog_lay fun C Fm => ?_
 unfold cmp_Compare_int at h
 refine AW.SG0 Fm 1 [(0, vi x715), (1, vi x716)] [] ?_
 refine AW.seq ?_
 obtain ⟨z717, hz718, h⟩ := bS h
 refine AW.G Fm [.s, .k (cE [] [] (vb z717) [] []), .s] (fun K => K 1 ∧ True) [(0, vi x715), (1, vi x716), (5, vb z717)] [] ⟨KAt.CC (cmp_isNaN_int_spec hz718) Tryz.call256 [], ⟨⟩⟩ ?_
 refine AW.seq ?_
 obtain ⟨z719, hz720, h⟩ := bS h
 refine AW.G Fm [.s, .k (cE [] [] (vb z719) [] []), .s] (fun K => K 1 ∧ True) [(0, vi x715), (1, vi x716), (5, vb z717), (6, vb z719)] [] ⟨KAt.CC (cmp_isNaN_int_spec hz720) Tryz.call256 [], ⟨⟩⟩ ?_
 refine AW.seq (AW.SG0 Fm 1 [(0, vi x715), (1, vi x716), (6, vb z719), (11, vb z717)] [] ?_)
 refine AW.cN h (fun hb721 h => ?_) (fun hb721 h => ?_)
 ·refine AW.seq (AW.SG0 Fm 1 [(12, vb z719)] [] ?_)
  refine AW.cN h (fun hb722 h => ?_) (fun hb722 h => ?_)
  ·refine AW.SG0 Fm 1 [(4, vi 0)] [] ?_
   refine AW.ret ?_
   obtain rfl := Option.some.inj h
   exact Kn.D Fm
  ·refine AW.skip (AW.SG0 Fm 1 [(4, vi (-1 : Int))] [] ?_)
   refine AW.ret ?_
   obtain rfl := Option.some.inj h
   exact Kn.D Fm
 ·refine AW.skip (AW.seq (AW.SG0 Fm 1 [(0, vi x715), (1, vi x716), (13, vb z719)] [] ?_))
  refine AW.cN h (fun hb723 h => ?_) (fun hb723 h => ?_)
  ·refine AW.SG0 Fm 1 [(4, vi 1)] [] ?_
   refine AW.ret ?_
   obtain rfl := Option.some.inj h
   exact Kn.D Fm
  ·refine AW.skip (AW.seq (AW.SG0 Fm 3 [(0, vi x715), (1, vi x716), (16, vb (decide (x715 < x716)))] [] ?_))
   refine AW.cN h (fun hb724 h => ?_) (fun hb724 h => ?_)
   ·refine AW.SG0 Fm 1 [(4, vi (-1 : Int))] [] ?_
    refine AW.ret ?_
    obtain rfl := Option.some.inj h
    exact Kn.D Fm
   ·refine AW.skip (AW.seq (AW.SG0 Fm 3 [(19, vb (decide (x716 < x715)))] [] ?_))
    refine AW.cN h (fun hb725 h => ?_) (fun hb725 h => ?_)
    ·refine AW.SG0 Fm 1 [(4, vi 1)] [] ?_
     refine AW.ret ?_
     obtain rfl := Option.some.inj h
     exact Kn.D Fm
    ·refine AW.skip (AW.SG0 Fm 1 [(4, vi 0)] [] ?_)
     refine AW.ret ?_
     obtain rfl := Option.some.inj h
     exact Kn.D Fm
theorem region_Row_1_spec {F : Nat} {x726 : Span} {x727 : Span} {r : Int} (h : region_Row_1 F x726 x727 = some r) :
  FSpec Tryz.prog 245 [gE x726, gE x727] [] (vi r) [] := by
 refine FI Tryz.func245 prog_mixed prog_lay fun C Fm => ?_
 unfold region_Row_1 at h
 refine AW.SG0 Fm 3 [(2, pt 2), (3, pt 3)] [(2, bx (gC x726)), (3, bx (gC x727))] ?_
 refine AW.seq ?_
 obtain ⟨z728, hz729, h⟩ := bS h
 refine AW.G Fm [.s, .s, .s, .s, .k (cE [] [] (vi z728) [] []), .s] (fun K => K 4 ∧ True) [(4, vi z728)] [] ⟨KAt.CC (cmp_Compare_int_spec hz729) Tryz.call197 [], ⟨⟩⟩ ?_
 refine AW.ret ?_
 obtain rfl := Option.some.inj h
 exact Kn.D Fm
theorem region_Row_spec {F : Nat} {x730 : (List Rect)} {x731 : Int} {r : (List Span)} (h : region_Row F x730 x731 = some r) :
  FSpec Tryz.prog 191 [AL x730, vi x731] [] (AL (α := Span) r) [] := by
 refine FI Tryz.func191 prog_mixed prog_lay fun C Fm => ?_
 unfold region_Row at h
 refine AW.SG0 Fm 1 [(0, AL x730), (1, vi x731)] [] ?_
 refine AW.SW Fm [.m] (fun K => True) [(0, AL x730), (1, vi x731), (5, ow 5)] [(5, AO (α := Span) ([] : List Span))] True.intro [(5, .arr 2 (0) (fun _ => []))] ⟨OLe.is ((Is.nil (α := Span))), ⟨⟩⟩ ?_
 refine AW.join (r := r) (fun z : (List Span) => region_Row_k3 F z) (fun z => [(5, ow 5)]) (fun z => [(5, AO z)]) (fun v756 h => ?_) (fun J757 hJ757 => ?_)
 ·refine AW.seq ?_
  obtain ⟨z758, hz759, h⟩ := bS h
  refine AW.G Fm [.s, .k (cE [(0, 5)] [] (.any) [(0, AO v756)] [(0, AO z758)])] (fun K => K 1 ∧ True) [(5, ow 5)] [(5, AO z758)] ⟨KAt.callX (sortF_spec hz759) Tryz.call244 [(0, 5)] [] [.tmp 37, .func 245] rfl (by kernel_rfl) (by kernel_rfl) (by kernel_rfl) ⟨.p, ArgT.cloX Tryz.call245 [] (fun args r hq => by obtain ⟨y0, y1, y, hq, rfl, rfl⟩ := hq; exact Eq.mp (by kernel_rfl) (region_Row_1_spec hq)) (fun args r hq => by obtain ⟨y0, y1, y, hq, rfl, rfl⟩ := hq; rfl) (by kernel_rfl) [] (by kernel_rfl) (by kernel_rfl) (True.intro) (by kernel_rfl), ⟨⟩⟩, ⟨⟩⟩ ?_
  refine AW.SW Fm [.m] (fun K => True) [(5, ow 5), (8, ow 8)] [(5, AO z758), (8, AO (α := Span) ([] : List Span))] True.intro [(8, .arr 2 (0) (fun _ => []))] ⟨OLe.is ((Is.nil (α := Span))), ⟨⟩⟩ ?_
  refine AW.join (r := r) (fun z : (List Span) => region_Row_k7 F z) (fun z => [(8, ow 8)]) (fun z => [(8, AO z)]) (fun v796 h => ?_) (fun J797 hJ797 => ?_)
  ·refine AW.SG0 Fm 2 [(4, ow 8)] [(8, AO v796)] ?_
   refine AW.ret ?_
   obtain rfl := Option.some.inj h
   refine Kn.r Fm [(4, ow 8)] [(8, AO v796)] (by kernel_rfl) ?_
   refine Kn.frz [(4, AL v796)] [] (by kernel_rfl) (by kernel_rfl) (by kernel_rfl) ?_
   exact Kn.D Fm
  ·refine AW.SG0 Fm 3 [(8, ow 8), (39, ow 5), (40, vi (lI z758)), (41, vi 0)] [(5, AO z758), (8, AO (α := Span) ([] : List Span))] ?_
   refine AW.block (Kn.r Fm [(8, ow 8), (39, ow 5), (40, vi (lI z758)), (41, vi 0)] [(5, AO z758), (8, AO ([] : List Span))] (by kernel_rfl) ?_)
   refine AW.loopF (E' := fun z => [(8, ow 8), (39, ow 5), (40, vi (lI z758)), (41, vi z.1)]) (S' := fun z => [(5, AO z758), (8, AO z.2)]) (fun ag_region_Row_b4 z J779 hJ779 h => ?_) h
   obtain ⟨v777, v778⟩ := z
   refine AW.SG0 Fm 1 [(8, ow 8), (39, ow 5), (40, vi (lI z758)), (41, vi v777), (42, vb (decide (v777 < (lI z758))))] [(5, AO z758), (8, AO v778)] ?_
   refine AW.seq (AW.cN h (fun hb780 h => ?_) (fun hb780 h => ?_))
   ·refine AW.skip (AW.join (r := r) (fun z : (List Span) => region_Row_k6 F v777 ag_region_Row_b4 z) (fun z => [(8, ow 8), (39, ow 5), (40, vi (lI z758)), (41, vi v777)]) (fun z => [(5, AO z758), (8, AO z)]) (fun v793 h => ?_) (fun J794 hJ794 => ?_))
    ·obtain ⟨hg795, h⟩ := gS h
     refine AW.pN Fm [.s, .s] [(8, ow 8), (39, ow 5), (40, vi (lI z758)), (41, vi (v777 + 1))] [(5, AO z758), (8, AO v793)] (cT (cT hg795)) ?_
     exact Kn.R Fm (hJ779 ((v777 + 1), v793) h)
    ·refine AW.block ?_
     obtain ⟨hg781, h⟩ := gS h
     refine AW.SP Fm [.s, .s, .s, .s] [(8, ow 8), (10, pt 10), (39, ow 5), (40, vi (lI z758)), (41, vi v777)] [(5, AO z758), (8, AO v778), (10, bx [ci ((gl z758 v777.toNat).left_), ci ((gl z758 v777.toNat).right_)])] (cA hg781 (cT (toNat_lt hg781))) ?_
     refine AW.SG0 Fm 3 [(8, ow 8), (10, pt 10), (11, vi (lI v778)), (39, ow 5), (40, vi (lI z758)), (41, vi v777)] [(5, AO z758), (8, AO v778), (10, bx [ci ((gl z758 v777.toNat).left_), ci ((gl z758 v777.toNat).right_)])] ?_
     refine AW.join (r := r) (fun z : Bool => region_Row_k5 F z758 v777 v778 ag_region_Row_b4 z) (fun z => [(8, ow 8), (10, pt 10), (11, vi (lI v778)), (39, ow 5), (40, vi (lI z758)), (41, vi v777), (59, vb z)]) (fun z => [(5, AO z758), (8, AO v778), (10, bx [ci ((gl z758 v777.toNat).left_), ci ((gl z758 v777.toNat).right_)])]) (fun v785 h => ?_) (fun J786 hJ786 => ?_)
     ·refine AW.cN h (fun hb787 h => ?_) (fun hb787 h => ?_)
      ·obtain ⟨hg788, hg789, hg790, hg791, h⟩ := gS4 h
       refine AW.WP Fm [.s, .s, .s, .s, .s, .s, .s, .s, .s, .s, .s, .s, .s, .s, .s] [(8, ow 8), (39, ow 5), (40, vi (lI z758)), (41, vi v777)] [(5, AO z758), (8, AO (α := Span) (List.set v778 ((lI v778) - 1).toNat (⟨(gl v778 ((lI v778) - 1).toNat).left_, (gmax ((gl v778 ((lI v778) - 1).toNat).right_) ((gl z758 v777.toNat).right_))⟩ : Span)))] (cA (cT hg788) (cA (cT hg789) (cA hg790 (cA (toNat_lt hg790) (cA hg791 (cT (toNat_lt hg791))))))) [(8, .arr 2 (List.length (α := Span) v778) (fun j => if j = ((lI v778) - 1).toNat then splice ((LF (α := Span) v778) ((lI v778) - 1).toNat) 1 [.int .i64 (gmax ((gl v778 ((lI v778) - 1).toNat).right_) ((gl z758 v777.toNat).right_))] else (LF (α := Span) v778) j))] ⟨OLe.is (Is.set (Is.refl v778) (toNat_lt hg791) (⟨(gl v778 ((lI v778) - 1).toNat).left_, (gmax ((gl v778 ((lI v778) - 1).toNat).right_) ((gl z758 v777.toNat).right_))⟩ : Span) (by kernel_rfl)), ⟨⟩⟩ ?_
       exact Kn.R Fm (hJ794 (List.set v778 ((lI v778) - 1).toNat (⟨(gl v778 ((lI v778) - 1).toNat).left_, (gmax ((gl v778 ((lI v778) - 1).toNat).right_) ((gl z758 v777.toNat).right_))⟩ : Span)) h)
      ·obtain ⟨hg792, h⟩ := gS h
       refine AW.WP Fm [.s, .s, .w (AL (α := Span) ([(gl z758 v777.toNat)] : List Span)), .s, .s] [(8, ow 77), (39, ow 5), (40, vi (lI z758)), (41, vi v777)] [(5, AO z758), (77, AO (α := Span) (v778 ++ ([(gl z758 v777.toNat)] : List Span)))] (cA (ALe.lst (.lit ([(gl z758 v777.toNat)] : List Span) (by kernel_rfl)) : ALe (.v (.c (.d (.lst 1 (litF 2 [.int .i64 (gl z758 v777.toNat).left_, .int .i64 (gl z758 v777.toNat).right_]))))) (AL (α := Span) ([(gl z758 v777.toNat)] : List Span))) (cT (cA hg792 (cT (Is.refl ([(gl z758 v777.toNat)] : List Span) : Is (List.length (α := Span) ([(gl z758 v777.toNat)] : List Span)) (LF (α := Span) ([(gl z758 v777.toNat)] : List Span)) ([(gl z758 v777.toNat)] : List Span)).len)))) [(77, .arr 2 ((List.length (α := Span) v778) + (List.length (α := Span) ([(gl z758 v777.toNat)] : List Span))) (appF (List.length (α := Span) v778) (LF (α := Span) v778) (LF (α := Span) ([(gl z758 v777.toNat)] : List Span))))] ⟨OLe.is (Is.app (Is.refl v778) (Is.refl ([(gl z758 v777.toNat)] : List Span))), ⟨⟩⟩ ?_
       exact Kn.RE Fm [(8, 77)] (hJ794 (v778 ++ ([(gl z758 v777.toNat)] : List Span)) h)
     ·rcases br_or h with ⟨hb782, h⟩ | ⟨hb782, h⟩
      ·obtain ⟨hg783, hg784, h⟩ := gS2 h
       refine AW.pN Fm [.s, .s, .w (vb true), .s, .s, .s, .s, .s, .s, .s, .s, .s, .s] [(8, ow 8), (10, pt 10), (11, vi (lI v778)), (39, ow 5), (40, vi (lI z758)), (41, vi v777), (50, pt 10), (51, vi (gl z758 v777.toNat).left_), (52, ow 8), (53, vi (lI v778)), (54, vi ((lI v778) - 1)), (55, .v (.c (.pte 8 2 (((lI v778) - 1).toNat) 0))), (56, .v (.c (.pte 8 2 (((lI v778) - 1).toNat) 1))), (57, vi (gl v778 ((lI v778) - 1).toNat).right_), (58, vb (decide (((gl z758 v777.toNat).left_) ≤ ((gl v778 ((lI v778) - 1).toNat).right_)))), (59, vb (decide (((gl z758 v777.toNat).left_) ≤ ((gl v778 ((lI v778) - 1).toNat).right_))))] [(5, AO z758), (8, AO v778), (10, bx [ci ((gl z758 v777.toNat).left_), ci ((gl z758 v777.toNat).right_)])] (cA (ALe.bool hb782) (cA (cT hg783) (cA hg784 (cT (toNat_lt hg784))))) ?_
       exact Kn.R Fm (hJ786 (decide (((gl z758 v777.toNat).left_) ≤ ((gl v778 ((lI v778) - 1).toNat).right_))) h)
      ·refine AW.pN Fm [.s, .s, .w (vb false), .s, .s, .s, .s, .s, .s, .s, .s, .s, .s] [(8, ow 8), (10, pt 10), (11, vi (lI v778)), (39, ow 5), (40, vi (lI z758)), (41, vi v777), (59, vb false)] [(5, AO z758), (8, AO v778), (10, bx [ci ((gl z758 v777.toNat).left_), ci ((gl z758 v777.toNat).right_)])] (cT (ALe.bool hb782)) ?_
       exact Kn.R Fm (hJ786 false h)
   ·exact AW.exit (Kn.R Fm (hJ797 v778 h))
 ·refine AW.SG0 Fm 3 [(1, vi x731), (5, ow 5), (12, AL x730), (13, vi (lI x730)), (14, vi 0)] [(5, AO (α := Span) ([] : List Span))] ?_
  refine AW.block (Kn.r Fm [(1, vi x731), (5, ow 5), (12, AL x730), (13, vi (lI x730)), (14, vi 0)] [(5, AO ([] : List Span))] (by kernel_rfl) ?_)
  refine AW.loopF (E' := fun z => [(1, vi x731), (5, ow 5), (12, AL x730), (13, vi (lI x730)), (14, vi z.1)]) (S' := fun z => [(5, AO z.2)]) (fun ag_region_Row_b0 z J745 hJ745 h => ?_) h
  obtain ⟨v743, v744⟩ := z
  refine AW.SG0 Fm 1 [(1, vi x731), (5, ow 5), (12, AL x730), (13, vi (lI x730)), (14, vi v743), (15, vb (decide (v743 < (lI x730))))] [(5, AO v744)] ?_
  refine AW.seq (AW.cN h (fun hb746 h => ?_) (fun hb746 h => ?_))
  ·refine AW.skip (AW.join (r := r) (fun z : (List Span) => region_Row_k2 F v743 ag_region_Row_b0 z) (fun z => [(1, vi x731), (5, ow 35), (12, AL x730), (13, vi (lI x730)), (14, vi v743)]) (fun z => [(35, AO z)]) (fun v753 h => ?_) (fun J754 hJ754 => ?_))
   ·obtain ⟨hg755, h⟩ := gS h
    refine AW.pN Fm [.s, .s] [(1, vi x731), (5, ow 35), (12, AL x730), (13, vi (lI x730)), (14, vi (v743 + 1))] [(35, AO v753)] (cT (cT hg755)) ?_
    exact Kn.RE Fm [(5, 35)] (hJ745 ((v743 + 1), v753) h)
   ·refine AW.block ?_
    obtain ⟨hg747, h⟩ := gS h
    refine AW.SP Fm [.s, .s, .s, .s] [(1, vi x731), (5, ow 5), (7, pt 7), (12, AL x730), (13, vi (lI x730)), (14, vi v743)] [(5, AO v744), (7, bx [ci ((gl x730 v743.toNat).left_), ci ((gl x730 v743.toNat).low_), ci ((gl x730 v743.toNat).right_), ci ((gl x730 v743.toNat).high_)])] (cT hg747) ?_
    refine AW.join (r := r) (fun z : Bool => region_Row_k1 F x730 v743 v744 ag_region_Row_b0 z) (fun z => [(1, vi x731), (5, ow 5), (7, pt 7), (12, AL x730), (13, vi (lI x730)), (14, vi v743), (27, vb z)]) (fun z => [(5, AO v744), (7, bx [ci ((gl x730 v743.toNat).left_), ci ((gl x730 v743.toNat).low_), ci ((gl x730 v743.toNat).right_), ci ((gl x730 v743.toNat).high_)])]) (fun v749 h => ?_) (fun J750 hJ750 => ?_)
    ·refine AW.cN h (fun hb751 h => ?_) (fun hb751 h => ?_)
     ·obtain ⟨hg752, h⟩ := gS h
      refine AW.WP Fm [.s, .s, .s, .s, .s, .s, .w (AL (α := Span) ([(⟨(gl x730 v743.toNat).left_, (gl x730 v743.toNat).right_⟩ : Span)] : List Span)), .s, .s] [(1, vi x731), (5, ow 35), (12, AL x730), (13, vi (lI x730)), (14, vi v743)] [(35, AO (α := Span) (v744 ++ ([(⟨(gl x730 v743.toNat).left_, (gl x730 v743.toNat).right_⟩ : Span)] : List Span)))] (cA (ALe.lst (.lit ([(⟨(gl x730 v743.toNat).left_, (gl x730 v743.toNat).right_⟩ : Span)] : List Span) (by kernel_rfl)) : ALe (.v (.c (.d (.lst 1 (litF 2 [.int .i64 (gl x730 v743.toNat).left_, .int .i64 (gl x730 v743.toNat).right_]))))) (AL (α := Span) ([(⟨(gl x730 v743.toNat).left_, (gl x730 v743.toNat).right_⟩ : Span)] : List Span))) (cT (cA hg752 (cT (Is.refl ([(⟨(gl x730 v743.toNat).left_, (gl x730 v743.toNat).right_⟩ : Span)] : List Span) : Is (List.length (α := Span) ([(⟨(gl x730 v743.toNat).left_, (gl x730 v743.toNat).right_⟩ : Span)] : List Span)) (LF (α := Span) ([(⟨(gl x730 v743.toNat).left_, (gl x730 v743.toNat).right_⟩ : Span)] : List Span)) ([(⟨(gl x730 v743.toNat).left_, (gl x730 v743.toNat).right_⟩ : Span)] : List Span)).len)))) [(35, .arr 2 ((List.length (α := Span) v744) + (List.length (α := Span) ([(⟨(gl x730 v743.toNat).left_, (gl x730 v743.toNat).right_⟩ : Span)] : List Span))) (appF (List.length (α := Span) v744) (LF (α := Span) v744) (LF (α := Span) ([(⟨(gl x730 v743.toNat).left_, (gl x730 v743.toNat).right_⟩ : Span)] : List Span))))] ⟨OLe.is (Is.app (Is.refl v744) (Is.refl ([(⟨(gl x730 v743.toNat).left_, (gl x730 v743.toNat).right_⟩ : Span)] : List Span))), ⟨⟩⟩ ?_
      exact Kn.R Fm (hJ754 (v744 ++ ([(⟨(gl x730 v743.toNat).left_, (gl x730 v743.toNat).right_⟩ : Span)] : List Span)) h)
     ·exact AW.skip (Kn.RE Fm [(35, 5)] (hJ754 v744 h))
    ·rcases br_or h with ⟨hb748, h⟩ | ⟨hb748, h⟩
     ·refine AW.pN Fm [.s, .s, .s, .s, .w (vb true), .s, .s, .s, .s, .s] [(1, vi x731), (5, ow 5), (7, pt 7), (12, AL x730), (13, vi (lI x730)), (14, vi v743), (23, vi x731), (24, .v (.c (.ptr 7 3))), (25, vi (gl x730 v743.toNat).high_), (26, vb (decide (x731 < ((gl x730 v743.toNat).high_)))), (27, vb (decide (x731 < ((gl x730 v743.toNat).high_))))] [(5, AO v744), (7, bx [ci ((gl x730 v743.toNat).left_), ci ((gl x730 v743.toNat).low_), ci ((gl x730 v743.toNat).right_), ci ((gl x730 v743.toNat).high_)])] (cT (ALe.bool hb748)) ?_
      exact Kn.R Fm (hJ750 (decide (x731 < ((gl x730 v743.toNat).high_))) h)
     ·refine AW.pN Fm [.s, .s, .s, .s, .w (vb false), .s, .s, .s, .s, .s] [(1, vi x731), (5, ow 5), (7, pt 7), (12, AL x730), (13, vi (lI x730)), (14, vi v743), (27, vb false)] [(5, AO v744), (7, bx [ci ((gl x730 v743.toNat).left_), ci ((gl x730 v743.toNat).low_), ci ((gl x730 v743.toNat).right_), ci ((gl x730 v743.toNat).high_)])] (cT (ALe.bool hb748)) ?_
      exact Kn.R Fm (hJ750 false h)
  ·exact AW.exit (Kn.R Fm (hJ757 v744 h))
theorem region_canonical_1_spec {F : Nat} {x798 : Int} {x799 : (List Rect)} {r : (List Span)} (h : region_canonical_1 F x798 x799 = some r) :
  FSpec Tryz.prog 238 [vi x798, pt 0] [(0, .box true [.d (DL x799)])] (AL (α := Span) r) [(0, .box true [.d (DL x799)])] := by
 refine FI Tryz.func238 prog_mixed prog_lay fun C Fm => ?_
 unfold region_canonical_1 at h
 refine AW.SG0 Fm 1 [(0, vi x798), (1, pt 0)] [(0, .box true [.d (DL x799)])] ?_
 refine AW.seq ?_
 obtain ⟨z800, hz801, h⟩ := bS h
 refine AW.G Fm [.s, .s, .k (cE [] [] (AL z800) [] []), .s] (fun K => K 2 ∧ True) [(3, AL z800)] [(0, .box true [.d (DL x799)])] ⟨KAt.CC (region_Row_spec hz801) Tryz.call191 [], ⟨⟩⟩ ?_
 refine AW.ret ?_
 obtain rfl := Option.some.inj h
 exact Kn.D Fm
theorem slices_Equal_Span_spec {F : Nat} {x802 : (List Span)} {x803 : (List Span)} {r : Bool} (h : slices_Equal_Span F x802 x803 = some r) :
  FSpec Tryz.prog 239 [AL x802, AL x803] [] (vb r) [] := by
 refine FI Tryz.func239 prog_mixed prog_lay fun C Fm => ?_
 unfold slices_Equal_Span at h
 refine AW.SG0 Fm 1 [(0, AL x802), (1, AL x803)] [] ?_
 refine AW.seq (AW.SG0 Fm 5 [(0, AL x802), (1, AL x803), (10, vb ((lI x802) != (lI x803)))] [] ?_)
 refine AW.cN h (fun hb804 h => ?_) (fun hb804 h => ?_)
 ·refine AW.SG0 Fm 1 [(4, vb false)] [] ?_
  refine AW.ret ?_
  obtain rfl := Option.some.inj h
  exact Kn.D Fm
 ·refine AW.skip (AW.join (r := r) (fun z : Unit => slices_Equal_Span_k1 F) (fun z => []) (fun z => []) (fun z h => ?_) (fun J818 hJ818 => ?_))
  ·refine AW.SG0 Fm 1 [(4, vb true)] [] ?_
   refine AW.ret ?_
   obtain rfl := Option.some.inj h
   exact Kn.D Fm
  ·refine AW.SG0 Fm 3 [(0, AL x802), (1, AL x803), (12, vi (lI x802)), (13, vi 0)] [] ?_
   refine AW.block (AW.loopF (E' := fun z => [(0, AL x802), (1, AL x803), (12, vi (lI x802)), (13, vi z)]) (S' := fun z => []) (fun ag_slices_Equal_Span_b0 v811 J812 hJ812 h => ?_) h)
   refine AW.SG0 Fm 1 [(0, AL x802), (1, AL x803), (12, vi (lI x802)), (13, vi v811), (14, vb (decide (v811 < (lI x802))))] [] ?_
   refine AW.seq (AW.cN h (fun hb813 h => ?_) (fun hb813 h => ?_))
   ·refine AW.skip (AW.seq (AW.block (AW.SG0 Fm 2 [(0, AL x802), (1, AL x803), (5, vi v811), (12, vi (lI x802)), (13, vi v811)] [] ?_)))
    obtain ⟨hg814, hg815, h⟩ := gS2 h
    refine AW.SG Fm [.s, .s, .s, .s, .s, .s, .s, .s, .k (sE (vb (!((((gl x802 v811.toNat).left_) == ((gl x803 v811.toNat).left_)) && ((((gl x802 v811.toNat).right_) == ((gl x803 v811.toNat).right_)) && true)))))] (fun K => _ ∧ _ ∧ K 8 ∧ True) [(0, AL x802), (1, AL x803), (12, vi (lI x802)), (13, vi v811), (24, vb (!((((gl x802 v811.toNat).left_) == ((gl x803 v811.toNat).left_)) && ((((gl x802 v811.toNat).right_) == ((gl x803 v811.toNat).right_)) && true))))] [] ⟨hg814, hg815, KAt.eq (xs := [ci ((gl x802 v811.toNat).left_), ci ((gl x802 v811.toNat).right_)]) (ys := [ci ((gl x803 v811.toNat).left_), ci ((gl x803 v811.toNat).right_)]) eqT237 false (b := ((((gl x802 v811.toNat).left_) == ((gl x803 v811.toNat).left_)) && ((((gl x802 v811.toNat).right_) == ((gl x803 v811.toNat).right_)) && true))) rfl rfl (by kernel_rfl) (by kernel_rfl) (by kernel_rfl) (by kernel_rfl), ⟨⟩⟩ ?_
    refine AW.cN h (fun hb816 h => ?_) (fun hb816 h => ?_)
    ·refine AW.SG0 Fm 1 [(4, vb false)] [] ?_
     refine AW.ret ?_
     obtain rfl := Option.some.inj h
     exact Kn.D Fm
    ·refine AW.skip ?_
     obtain ⟨hg817, h⟩ := gS h
     refine AW.pN Fm [.s, .s] [(0, AL x802), (1, AL x803), (12, vi (lI x802)), (13, vi (v811 + 1))] [] (cT (cT hg817)) ?_
     exact Kn.R Fm (hJ812 (v811 + 1) h)
   ·exact AW.exit (Kn.R Fm (hJ818 () h))
theorem region_rects_spec {F : Nat} {x819 : (List Band)} {r : (List Rect)} (h : region_rects F x819 = some r) :
  FSpec Tryz.prog 240 [AL x819] [] (AL (α := Rect) r) [] := by
 refine FI Tryz.func240 prog_mixed prog_lay fun C Fm => ?_
 unfold region_rects at h
 refine AW.SG0 Fm 1 [(0, AL x819)] [] ?_
 refine AW.SW Fm [.m] (fun K => True) [(0, AL x819), (3, ow 3)] [(3, AO (α := Rect) ([] : List Rect))] True.intro [(3, .arr 4 (0) (fun _ => []))] ⟨OLe.is ((Is.nil (α := Rect))), ⟨⟩⟩ ?_
 refine AW.join (r := r) (fun z : (List Rect) => region_rects_k3 F z) (fun z => [(3, ow 3)]) (fun z => [(3, AO z)]) (fun v858 h => ?_) (fun J859 hJ859 => ?_)
 ·refine AW.SG0 Fm 2 [(2, ow 3)] [(3, AO v858)] ?_
  refine AW.ret ?_
  obtain rfl := Option.some.inj h
  refine Kn.r Fm [(2, ow 3)] [(3, AO v858)] (by kernel_rfl) ?_
  refine Kn.frz [(2, AL v858)] [] (by kernel_rfl) (by kernel_rfl) (by kernel_rfl) ?_
  exact Kn.D Fm
 ·refine AW.SG0 Fm 3 [(3, ow 3), (8, AL x819), (9, vi (lI x819)), (10, vi 0)] [(3, AO (α := Rect) ([] : List Rect))] ?_
  refine AW.block (Kn.r Fm [(3, ow 3), (8, AL x819), (9, vi (lI x819)), (10, vi 0)] [(3, AO ([] : List Rect))] (by kernel_rfl) ?_)
  refine AW.loopF (E' := fun z => [(3, ow 3), (8, AL x819), (9, vi (lI x819)), (10, vi z.1)]) (S' := fun z => [(3, AO z.2)]) (fun ag_region_rects_b0 z J840 hJ840 h => ?_) h
  obtain ⟨v838, v839⟩ := z
  refine AW.SG0 Fm 1 [(3, ow 3), (8, AL x819), (9, vi (lI x819)), (10, vi v838), (11, vb (decide (v838 < (lI x819))))] [(3, AO v839)] ?_
  refine AW.seq (AW.cN h (fun hb841 h => ?_) (fun hb841 h => ?_))
  ·refine AW.skip (AW.join (r := r) (fun z : (List Rect) => region_rects_k2 F v838 ag_region_rects_b0 z) (fun z => [(3, ow 3), (8, AL x819), (9, vi (lI x819)), (10, vi v838)]) (fun z => [(3, AO z)]) (fun v855 h => ?_) (fun J856 hJ856 => ?_))
   ·obtain ⟨hg857, h⟩ := gS h
    refine AW.pN Fm [.s, .s] [(3, ow 3), (8, AL x819), (9, vi (lI x819)), (10, vi (v838 + 1))] [(3, AO v855)] (cT (cT hg857)) ?_
    exact Kn.R Fm (hJ840 ((v838 + 1), v855) h)
   ·refine AW.block ?_
    obtain ⟨hg842, h⟩ := gS h
    refine AW.SP Fm [.s, .s, .s, .s] [(3, ow 3), (5, pt 5), (8, AL x819), (9, vi (lI x819)), (10, vi v838)] [(3, AO v839), (5, bx [ci ((gl x819 v838.toNat).low_), ci ((gl x819 v838.toNat).high_), .d (DL (α := Span) (gl x819 v838.toNat).spans_)])] (cT hg842) ?_
    refine AW.SG0 Fm 4 [(3, ow 3), (5, pt 5), (8, AL x819), (9, vi (lI x819)), (10, vi v838), (15, AL (α := Span) (gl x819 v838.toNat).spans_), (16, vi (lI ((gl x819 v838.toNat).spans_))), (17, vi 0)] [(3, AO v839), (5, bx [ci ((gl x819 v838.toNat).low_), ci ((gl x819 v838.toNat).high_), .d (DL (α := Span) (gl x819 v838.toNat).spans_)])] ?_
    refine AW.block (AW.loopF (E' := fun z => [(3, ow 3), (5, pt 5), (8, AL x819), (9, vi (lI x819)), (10, vi v838), (15, AL (α := Span) (gl x819 v838.toNat).spans_), (16, vi (lI ((gl x819 v838.toNat).spans_))), (17, vi z.1)]) (S' := fun z => [(3, AO z.2), (5, bx [ci ((gl x819 v838.toNat).low_), ci ((gl x819 v838.toNat).high_), .d (DL (α := Span) (gl x819 v838.toNat).spans_)])]) (fun ag_region_rects_b1 z J850 hJ850 h => ?_) h)
    obtain ⟨v848, v849⟩ := z
    refine AW.SG0 Fm 1 [(3, ow 3), (5, pt 5), (8, AL x819), (9, vi (lI x819)), (10, vi v838), (15, AL (α := Span) (gl x819 v838.toNat).spans_), (16, vi (lI ((gl x819 v838.toNat).spans_))), (17, vi v848), (18, vb (decide (v848 < (lI ((gl x819 v838.toNat).spans_)))))] [(3, AO v849), (5, bx [ci ((gl x819 v838.toNat).low_), ci ((gl x819 v838.toNat).high_), .d (DL (α := Span) (gl x819 v838.toNat).spans_)])] ?_
    refine AW.seq (AW.cN h (fun hb851 h => ?_) (fun hb851 h => ?_))
    ·refine AW.skip (AW.seq (AW.block ?_))
     obtain ⟨hg852, h⟩ := gS h
     refine AW.SP Fm [.s, .s, .s, .s] [(3, ow 3), (5, pt 5), (7, pt 7), (8, AL x819), (9, vi (lI x819)), (10, vi v838), (15, AL (α := Span) (gl x819 v838.toNat).spans_), (16, vi (lI ((gl x819 v838.toNat).spans_))), (17, vi v848)] [(3, AO v849), (5, bx [ci ((gl x819 v838.toNat).low_), ci ((gl x819 v838.toNat).high_), .d (DL (α := Span) (gl x819 v838.toNat).spans_)]), (7, bx [ci ((gl ((gl x819 v838.toNat).spans_) v848.toNat).left_), ci ((gl ((gl x819 v838.toNat).spans_) v848.toNat).right_)])] (cT hg852) ?_
     obtain ⟨hg853, h⟩ := gS h
     refine AW.WP Fm [.s, .s, .s, .s, .s, .s, .s, .s, .s, .s, .w (AL (α := Rect) ([(⟨(gl ((gl x819 v838.toNat).spans_) v848.toNat).left_, (gl x819 v838.toNat).low_, (gl ((gl x819 v838.toNat).spans_) v848.toNat).right_, (gl x819 v838.toNat).high_⟩ : Rect)] : List Rect)), .s, .s] [(3, ow 32), (5, pt 5), (8, AL x819), (9, vi (lI x819)), (10, vi v838), (15, AL (α := Span) (gl x819 v838.toNat).spans_), (16, vi (lI ((gl x819 v838.toNat).spans_))), (17, vi v848)] [(5, bx [ci ((gl x819 v838.toNat).low_), ci ((gl x819 v838.toNat).high_), .d (DL (α := Span) (gl x819 v838.toNat).spans_)]), (32, AO (α := Rect) (v849 ++ ([(⟨(gl ((gl x819 v838.toNat).spans_) v848.toNat).left_, (gl x819 v838.toNat).low_, (gl ((gl x819 v838.toNat).spans_) v848.toNat).right_, (gl x819 v838.toNat).high_⟩ : Rect)] : List Rect)))] (cA (ALe.lst (.lit ([(⟨(gl ((gl x819 v838.toNat).spans_) v848.toNat).left_, (gl x819 v838.toNat).low_, (gl ((gl x819 v838.toNat).spans_) v848.toNat).right_, (gl x819 v838.toNat).high_⟩ : Rect)] : List Rect) (by kernel_rfl)) : ALe (.v (.c (.d (.lst 1 (litF 4 [.int .i64 (gl ((gl x819 v838.toNat).spans_) v848.toNat).left_, .int .i64 (gl x819 v838.toNat).low_, .int .i64 (gl ((gl x819 v838.toNat).spans_) v848.toNat).right_, .int .i64 (gl x819 v838.toNat).high_]))))) (AL (α := Rect) ([(⟨(gl ((gl x819 v838.toNat).spans_) v848.toNat).left_, (gl x819 v838.toNat).low_, (gl ((gl x819 v838.toNat).spans_) v848.toNat).right_, (gl x819 v838.toNat).high_⟩ : Rect)] : List Rect))) (cT (cA hg853 (cT (Is.refl ([(⟨(gl ((gl x819 v838.toNat).spans_) v848.toNat).left_, (gl x819 v838.toNat).low_, (gl ((gl x819 v838.toNat).spans_) v848.toNat).right_, (gl x819 v838.toNat).high_⟩ : Rect)] : List Rect) : Is (List.length (α := Rect) ([(⟨(gl ((gl x819 v838.toNat).spans_) v848.toNat).left_, (gl x819 v838.toNat).low_, (gl ((gl x819 v838.toNat).spans_) v848.toNat).right_, (gl x819 v838.toNat).high_⟩ : Rect)] : List Rect)) (LF (α := Rect) ([(⟨(gl ((gl x819 v838.toNat).spans_) v848.toNat).left_, (gl x819 v838.toNat).low_, (gl ((gl x819 v838.toNat).spans_) v848.toNat).right_, (gl x819 v838.toNat).high_⟩ : Rect)] : List Rect)) ([(⟨(gl ((gl x819 v838.toNat).spans_) v848.toNat).left_, (gl x819 v838.toNat).low_, (gl ((gl x819 v838.toNat).spans_) v848.toNat).right_, (gl x819 v838.toNat).high_⟩ : Rect)] : List Rect)).len)))) [(32, .arr 4 ((List.length (α := Rect) v849) + (List.length (α := Rect) ([(⟨(gl ((gl x819 v838.toNat).spans_) v848.toNat).left_, (gl x819 v838.toNat).low_, (gl ((gl x819 v838.toNat).spans_) v848.toNat).right_, (gl x819 v838.toNat).high_⟩ : Rect)] : List Rect))) (appF (List.length (α := Rect) v849) (LF (α := Rect) v849) (LF (α := Rect) ([(⟨(gl ((gl x819 v838.toNat).spans_) v848.toNat).left_, (gl x819 v838.toNat).low_, (gl ((gl x819 v838.toNat).spans_) v848.toNat).right_, (gl x819 v838.toNat).high_⟩ : Rect)] : List Rect))))] ⟨OLe.is (Is.app (Is.refl v849) (Is.refl ([(⟨(gl ((gl x819 v838.toNat).spans_) v848.toNat).left_, (gl x819 v838.toNat).low_, (gl ((gl x819 v838.toNat).spans_) v848.toNat).right_, (gl x819 v838.toNat).high_⟩ : Rect)] : List Rect))), ⟨⟩⟩ ?_
     obtain ⟨hg854, h⟩ := gS h
     refine AW.pN Fm [.s, .s] [(3, ow 32), (5, pt 5), (8, AL x819), (9, vi (lI x819)), (10, vi v838), (15, AL (α := Span) (gl x819 v838.toNat).spans_), (16, vi (lI ((gl x819 v838.toNat).spans_))), (17, vi (v848 + 1))] [(5, bx [ci ((gl x819 v838.toNat).low_), ci ((gl x819 v838.toNat).high_), .d (DL (α := Span) (gl x819 v838.toNat).spans_)]), (32, AO (α := Rect) (v849 ++ ([(⟨(gl ((gl x819 v838.toNat).spans_) v848.toNat).left_, (gl x819 v838.toNat).low_, (gl ((gl x819 v838.toNat).spans_) v848.toNat).right_, (gl x819 v838.toNat).high_⟩ : Rect)] : List Rect)))] (cT (cT hg854)) ?_
     exact Kn.RE Fm [(3, 32)] (hJ850 ((v848 + 1), (v849 ++ ([(⟨(gl ((gl x819 v838.toNat).spans_) v848.toNat).left_, (gl x819 v838.toNat).low_, (gl ((gl x819 v838.toNat).spans_) v848.toNat).right_, (gl x819 v838.toNat).high_⟩ : Rect)] : List Rect))) h)
    ·exact AW.exit (Kn.R Fm (hJ856 v849 h))
  ·exact AW.exit (Kn.R Fm (hJ859 v839 h))
theorem region_Build_spec {F : Nat} {x860 : (List Int)} {x861 : Int → Option (List Span)} {r : (List Rect)} (h : region_Build F x860 x861 = some r) :
  FSpec Tryz.prog 187 [AL x860, .v (.c (.sem (CloOK Tryz.prog (FR_Int_ListSpan x861))))] [] (AL (α := Rect) r) [] := by
 refine FI Tryz.func187 prog_mixed prog_lay fun C Fm => ?_
 unfold region_Build at h
 refine AW.SG0 Fm 1 [(0, AL x860), (1, .v (.c (.sem (CloOK Tryz.prog (FR_Int_ListSpan x861)))))] [] ?_
 refine AW.SW Fm [.m] (fun K => True) [(0, AL x860), (1, .v (.c (.sem (CloOK Tryz.prog (FR_Int_ListSpan x861))))), (5, ow 5)] [(5, AO (α := Band) ([] : List Band))] True.intro [(5, .arr 3 (0) (fun _ => []))] ⟨OLe.is ((Is.nil (α := Band))), ⟨⟩⟩ ?_
 refine AW.join (r := r) (fun z : (List Band) => region_Build_k3 F z) (fun z => [(5, ow 5)]) (fun z => [(5, AO z)]) (fun v916 h => ?_) (fun J917 hJ917 => ?_)
 ·refine AW.seq (Kn.r Fm [(5, ow 5)] [(5, AO v916)] (by kernel_rfl) ?_)
  refine Kn.frz [(5, AL v916)] [] (by kernel_rfl) (by kernel_rfl) (by kernel_rfl) ?_
  obtain ⟨z918, hz919, h⟩ := bS h
  refine AW.G Fm [.s, .k (cE [] [] (AL z918) [] []), .s] (fun K => K 1 ∧ True) [(4, AL z918)] [] ⟨KAt.CC (region_rects_spec hz919) Tryz.call240 [], ⟨⟩⟩ ?_
  refine AW.ret ?_
  obtain rfl := Option.some.inj h
  exact Kn.D Fm
 ·refine AW.SG0 Fm 1 [(0, AL x860), (1, .v (.c (.sem (CloOK Tryz.prog (FR_Int_ListSpan x861))))), (5, ow 5), (6, vi 1)] [(5, AO (α := Band) ([] : List Band))] ?_
  refine AW.block (Kn.r Fm [(0, AL x860), (1, .v (.c (.sem (CloOK Tryz.prog (FR_Int_ListSpan x861))))), (5, ow 5), (6, vi 1)] [(5, AO ([] : List Band))] (by kernel_rfl) ?_)
  refine AW.loopF (E' := fun z => [(0, AL x860), (1, .v (.c (.sem (CloOK Tryz.prog (FR_Int_ListSpan x861))))), (5, ow 5), (6, vi z.1)]) (S' := fun z => [(5, AO z.2)]) (fun ag_region_Build_b0 z J890 hJ890 h => ?_) h
  obtain ⟨v888, v889⟩ := z
  refine AW.seq (AW.SG0 Fm 4 [(0, AL x860), (1, .v (.c (.sem (CloOK Tryz.prog (FR_Int_ListSpan x861))))), (5, ow 5), (6, vi v888), (12, vb (decide (v888 < (lI x860))))] [(5, AO v889)] ?_)
  refine AW.cN h (fun hb891 h => ?_) (fun hb891 h => ?_)
  ·refine AW.skip (AW.join (r := r) (fun z : (List Band) => region_Build_k2 F v888 ag_region_Build_b0 z) (fun z => [(0, AL x860), (1, .v (.c (.sem (CloOK Tryz.prog (FR_Int_ListSpan x861))))), (5, ow 5), (6, vi v888)]) (fun z => [(5, AO z)]) (fun v913 h => ?_) (fun J914 hJ914 => ?_))
   ·obtain ⟨hg915, h⟩ := gS h
    refine AW.pN Fm [.s, .s, .s] [(0, AL x860), (1, .v (.c (.sem (CloOK Tryz.prog (FR_Int_ListSpan x861))))), (5, ow 5), (6, vi (v888 + 1))] [(5, AO v913)] (cT (cT hg915)) ?_
    exact Kn.R Fm (hJ890 ((v888 + 1), v913) h)
   ·refine AW.block (AW.seq ?_)
    obtain ⟨hg892, hg893, hg894, hg895, h⟩ := gS4 h
    obtain ⟨hg896, h⟩ := gS h
    obtain ⟨z897, hz898, h⟩ := bS h
    refine AW.G Fm [.s, .s, .s, .s, .s, .s, .s, .s, .s, .s, .s, .s, .s, .s, .s, .k (sE (AL z897)), .s, .s, .s] (fun K => (_ ∧ True) ∧ _ ∧ _ ∧ (_ ∧ True) ∧ _ ∧ K 15 ∧ True) [(0, AL x860), (1, .v (.c (.sem (CloOK Tryz.prog (FR_Int_ListSpan x861))))), (5, ow 5), (6, vi v888), (7, pt 7)] [(5, AO v889), (7, bx [ci (gl x860 (v888 - 1).toNat), ci (gl x860 v888.toNat), .d (DL z897)])] ⟨⟨hg892, ⟨⟩⟩, hg893, hg894, ⟨hg895, ⟨⟩⟩, hg896, KAt.sem (F := (FR_Int_ListSpan x861)) (args := [vi (gl x860 (v888 - 1).toNat)]) ⟨(gl x860 (v888 - 1).toNat), z897, hz898, rfl, rfl⟩ rfl (by kernel_rfl) (by kernel_rfl) (by kernel_rfl), ⟨⟩⟩ ?_
    refine AW.SG0 Fm 3 [(0, AL x860), (1, .v (.c (.sem (CloOK Tryz.prog (FR_Int_ListSpan x861))))), (5, ow 5), (6, vi v888), (7, pt 7), (8, vi (lI v889))] [(5, AO v889), (7, bx [ci (gl x860 (v888 - 1).toNat), ci (gl x860 v888.toNat), .d (DL z897)])] ?_
    refine AW.join (r := r) (fun z : Bool => region_Build_k1 F x860 v888 v889 z897 ag_region_Build_b0 z) (fun z => [(0, AL x860), (1, .v (.c (.sem (CloOK Tryz.prog (FR_Int_ListSpan x861))))), (5, ow 5), (6, vi v888), (7, pt 7), (8, vi (lI v889)), (57, vb z)]) (fun z => [(5, AO v889), (7, bx [ci (gl x860 (v888 - 1).toNat), ci (gl x860 v888.toNat), .d (DL z897)])]) (fun v907 h => ?_) (fun J908 hJ908 => ?_)
    ·refine AW.cN h (fun hb909 h => ?_) (fun hb909 h => ?_)
     ·obtain ⟨hg910, hg911, h⟩ := gS2 h
      refine AW.WP Fm [.s, .s, .s, .s, .s, .s, .s, .s] [(0, AL x860), (1, .v (.c (.sem (CloOK Tryz.prog (FR_Int_ListSpan x861))))), (5, ow 5), (6, vi v888)] [(5, AO (α := Band) (List.set v889 ((lI v889) - 1).toNat (⟨(gl v889 ((lI v889) - 1).toNat).low_, (gl x860 v888.toNat), (gl v889 ((lI v889) - 1).toNat).spans_⟩ : Band)))] (cA (cT hg910) (cA hg911 (cT (toNat_lt hg911)))) [(5, .arr 3 (List.length (α := Band) v889) (fun j => if j = ((lI v889) - 1).toNat then splice ((LF (α := Band) v889) ((lI v889) - 1).toNat) 1 [.int .i64 (gl x860 v888.toNat)] else (LF (α := Band) v889) j))] ⟨OLe.is (Is.set (Is.refl v889) (toNat_lt hg911) (⟨(gl v889 ((lI v889) - 1).toNat).low_, (gl x860 v888.toNat), (gl v889 ((lI v889) - 1).toNat).spans_⟩ : Band) (by kernel_rfl)), ⟨⟩⟩ ?_
      exact Kn.R Fm (hJ914 (List.set v889 ((lI v889) - 1).toNat (⟨(gl v889 ((lI v889) - 1).toNat).low_, (gl x860 v888.toNat), (gl v889 ((lI v889) - 1).toNat).spans_⟩ : Band)) h)
     ·obtain ⟨hg912, h⟩ := gS h
      refine AW.WP Fm [.s, .s, .w (AL (α := Band) ([(⟨(gl x860 (v888 - 1).toNat), (gl x860 v888.toNat), z897⟩ : Band)] : List Band)), .s, .s] [(0, AL x860), (1, .v (.c (.sem (CloOK Tryz.prog (FR_Int_ListSpan x861))))), (5, ow 68), (6, vi v888)] [(68, AO (α := Band) (v889 ++ ([(⟨(gl x860 (v888 - 1).toNat), (gl x860 v888.toNat), z897⟩ : Band)] : List Band)))] (cA (ALe.lst (.lit ([(⟨(gl x860 (v888 - 1).toNat), (gl x860 v888.toNat), z897⟩ : Band)] : List Band) (by kernel_rfl)) : ALe (.v (.c (.d (.lst 1 (litF 3 [.int .i64 (gl x860 (v888 - 1).toNat), .int .i64 (gl x860 v888.toNat), DL z897]))))) (AL (α := Band) ([(⟨(gl x860 (v888 - 1).toNat), (gl x860 v888.toNat), z897⟩ : Band)] : List Band))) (cT (cA hg912 (cT (Is.refl ([(⟨(gl x860 (v888 - 1).toNat), (gl x860 v888.toNat), z897⟩ : Band)] : List Band) : Is (List.length (α := Band) ([(⟨(gl x860 (v888 - 1).toNat), (gl x860 v888.toNat), z897⟩ : Band)] : List Band)) (LF (α := Band) ([(⟨(gl x860 (v888 - 1).toNat), (gl x860 v888.toNat), z897⟩ : Band)] : List Band)) ([(⟨(gl x860 (v888 - 1).toNat), (gl x860 v888.toNat), z897⟩ : Band)] : List Band)).len)))) [(68, .arr 3 ((List.length (α := Band) v889) + (List.length (α := Band) ([(⟨(gl x860 (v888 - 1).toNat), (gl x860 v888.toNat), z897⟩ : Band)] : List Band))) (appF (List.length (α := Band) v889) (LF (α := Band) v889) (LF (α := Band) ([(⟨(gl x860 (v888 - 1).toNat), (gl x860 v888.toNat), z897⟩ : Band)] : List Band))))] ⟨OLe.is (Is.app (Is.refl v889) (Is.refl ([(⟨(gl x860 (v888 - 1).toNat), (gl x860 v888.toNat), z897⟩ : Band)] : List Band))), ⟨⟩⟩ ?_
      exact Kn.RE Fm [(5, 68)] (hJ914 (v889 ++ ([(⟨(gl x860 (v888 - 1).toNat), (gl x860 v888.toNat), z897⟩ : Band)] : List Band)) h)
    ·rcases br_or h with ⟨hb899, h⟩ | ⟨hb899, h⟩
     ·obtain ⟨hg900, hg901, h⟩ := gS2 h
      rcases br_or h with ⟨hb902, h⟩ | ⟨hb902, h⟩
      ·obtain ⟨hg903, hg904, h⟩ := gS2 h
       obtain ⟨z905, hz906, h⟩ := bS h
       refine AW.G Fm [.s, .s, .w (vb true), .s, .s, .s, .s, .s, .s, .s, .s, .s, .s, .w (vb true), .s, .s, .s, .s, .s, .s, .s, .s, .k (cE [] [] (vb z905) [] []), .s] (fun K => _ ∧ (_ ∧ True) ∧ _ ∧ _ ∧ _ ∧ (_ ∧ True) ∧ _ ∧ _ ∧ K 22 ∧ True) [(0, AL x860), (1, .v (.c (.sem (CloOK Tryz.prog (FR_Int_ListSpan x861))))), (5, ow 5), (6, vi v888), (7, pt 7), (8, vi (lI v889)), (37, ow 5), (38, vi (lI v889)), (39, vi ((lI v889) - 1)), (40, .v (.c (.pte 5 3 (((lI v889) - 1).toNat) 0))), (41, .v (.c (.pte 5 3 (((lI v889) - 1).toNat) 1))), (42, vi (gl v889 ((lI v889) - 1).toNat).high_), (43, pt 7), (44, vi (gl x860 (v888 - 1).toNat)), (45, vb (((gl v889 ((lI v889) - 1).toNat).high_) == (gl x860 (v888 - 1).toNat))), (48, ow 5), (49, vi (lI v889)), (50, vi ((lI v889) - 1)), (51, .v (.c (.pte 5 3 (((lI v889) - 1).toNat) 0))), (52, .v (.c (.pte 5 3 (((lI v889) - 1).toNat) 2))), (53, AL (α := Span) (gl v889 ((lI v889) - 1).toNat).spans_), (54, .v (.c (.ptr 7 2))), (55, AL z897), (56, vb z905), (57, vb z905)] [(5, AO v889), (7, bx [ci (gl x860 (v888 - 1).toNat), ci (gl x860 v888.toNat), .d (DL z897)])] ⟨ALe.bool hb899, ⟨hg900, ⟨⟩⟩, hg901, (toNat_lt hg901), ALe.bool hb902, ⟨hg903, ⟨⟩⟩, hg904, (toNat_lt hg904), KAt.CC (slices_Equal_Span_spec hz906) Tryz.call239 [], ⟨⟩⟩ ?_
       exact Kn.R Fm (hJ908 z905 h)
      ·refine AW.pN Fm [.s, .s, .w (vb true), .s, .s, .s, .s, .s, .s, .s, .s, .s, .s, .w (vb false), .s, .s, .s, .s, .s, .s, .s, .s, .s, .s] [(0, AL x860), (1, .v (.c (.sem (CloOK Tryz.prog (FR_Int_ListSpan x861))))), (5, ow 5), (6, vi v888), (7, pt 7), (8, vi (lI v889)), (37, ow 5), (38, vi (lI v889)), (39, vi ((lI v889) - 1)), (40, .v (.c (.pte 5 3 (((lI v889) - 1).toNat) 0))), (41, .v (.c (.pte 5 3 (((lI v889) - 1).toNat) 1))), (42, vi (gl v889 ((lI v889) - 1).toNat).high_), (43, pt 7), (44, vi (gl x860 (v888 - 1).toNat)), (45, vb (((gl v889 ((lI v889) - 1).toNat).high_) == (gl x860 (v888 - 1).toNat))), (57, vb false)] [(5, AO v889), (7, bx [ci (gl x860 (v888 - 1).toNat), ci (gl x860 v888.toNat), .d (DL z897)])] (cA (ALe.bool hb899) (cA (cT hg900) (cA hg901 (cA (toNat_lt hg901) (cT (ALe.bool hb902)))))) ?_
       exact Kn.R Fm (hJ908 false h)
     ·refine AW.pN Fm [.s, .s, .w (vb false), .s, .s, .s, .s, .s, .s, .s, .s, .s, .s, .s, .s, .s, .s, .s, .s, .s, .s, .s, .s, .s] [(0, AL x860), (1, .v (.c (.sem (CloOK Tryz.prog (FR_Int_ListSpan x861))))), (5, ow 5), (6, vi v888), (7, pt 7), (8, vi (lI v889)), (57, vb false)] [(5, AO v889), (7, bx [ci (gl x860 (v888 - 1).toNat), ci (gl x860 v888.toNat), .d (DL z897)])] (cT (ALe.bool hb899)) ?_
      exact Kn.R Fm (hJ908 false h)
  ·exact AW.exit (Kn.R Fm (hJ917 v889 h))
theorem region_canonical_spec {F : Nat} {x920 : (List Rect)} {r : (List Rect)} (h : region_canonical F x920 = some r) :
  FSpec Tryz.prog 186 [AL x920] [] (AL (α := Rect) r) [] := by
 refine FI Tryz.func186 prog_mixed prog_lay fun C Fm => ?_
 unfold region_canonical at h
 refine AW.SG0 Fm 2 [(1, pt 1)] [(1, bx [.d (DL x920)])] ?_
 refine AW.seq ?_
 obtain ⟨z921, hz922, h⟩ := bS h
 obtain ⟨z923, hz924, h⟩ := bS h
 refine AW.G Fm [.s, .w (AL (α := (List Rect)) ([x920] : List (List Rect))), .k (cE [] [] (AL z921) [] []), .s, .k (cE [] [1] (AL z923) [] []), .s] (fun K => (ALe (.v (.c (.d (.lst 1 (litF 1 [DL x920]))))) (AL (α := (List Rect)) ([x920] : List (List Rect)))) ∧ K 2 ∧ K 4 ∧ True) [(2, AL z923)] [] ⟨ALe.lst (.lit ([x920] : List (List Rect)) (by kernel_rfl)), KAt.CC (region_Cuts_spec hz922) Tryz.call188 [], KAt.callX (region_Build_spec hz924) Tryz.call187 [] [1] [.tmp 5, .tmp 6] rfl (by kernel_rfl) (by kernel_rfl) (by kernel_rfl) ⟨.p, ArgT.cloX Tryz.call238 [[.d (DL x920)]] (fun args r hq => by obtain ⟨y0, y, hq, rfl, rfl⟩ := hq; exact Eq.mp (by kernel_rfl) (region_canonical_1_spec hq)) (fun args r hq => by obtain ⟨y0, y, hq, rfl, rfl⟩ := hq; rfl) (by kernel_rfl) [1] (by kernel_rfl) (by kernel_rfl) (⟨⟨false, (by kernel_rfl)⟩, ⟨⟩⟩) (by kernel_rfl), ⟨⟩⟩, ⟨⟩⟩ ?_
 refine AW.ret ?_
 obtain rfl := Option.some.inj h
 exact Kn.D Fm
theorem slices_Equal_Rect_spec {F : Nat} {x925 : (List Rect)} {x926 : (List Rect)} {r : Bool} (h : slices_Equal_Rect F x925 x926 = some r) :
  FSpec Tryz.prog 185 [AL x925, AL x926] [] (vb r) [] := by
 refine FI Tryz.func185 prog_mixed prog_lay fun C Fm => ?_
 unfold slices_Equal_Rect at h
 refine AW.SG0 Fm 1 [(0, AL x925), (1, AL x926)] [] ?_
 refine AW.seq (AW.SG0 Fm 5 [(0, AL x925), (1, AL x926), (10, vb ((lI x925) != (lI x926)))] [] ?_)
 refine AW.cN h (fun hb927 h => ?_) (fun hb927 h => ?_)
 ·refine AW.SG0 Fm 1 [(4, vb false)] [] ?_
  refine AW.ret ?_
  obtain rfl := Option.some.inj h
  exact Kn.D Fm
 ·refine AW.skip (AW.join (r := r) (fun z : Unit => slices_Equal_Rect_k1 F) (fun z => []) (fun z => []) (fun z h => ?_) (fun J941 hJ941 => ?_))
  ·refine AW.SG0 Fm 1 [(4, vb true)] [] ?_
   refine AW.ret ?_
   obtain rfl := Option.some.inj h
   exact Kn.D Fm
  ·refine AW.SG0 Fm 3 [(0, AL x925), (1, AL x926), (12, vi (lI x925)), (13, vi 0)] [] ?_
   refine AW.block (AW.loopF (E' := fun z => [(0, AL x925), (1, AL x926), (12, vi (lI x925)), (13, vi z)]) (S' := fun z => []) (fun ag_slices_Equal_Rect_b0 v934 J935 hJ935 h => ?_) h)
   refine AW.SG0 Fm 1 [(0, AL x925), (1, AL x926), (12, vi (lI x925)), (13, vi v934), (14, vb (decide (v934 < (lI x925))))] [] ?_
   refine AW.seq (AW.cN h (fun hb936 h => ?_) (fun hb936 h => ?_))
   ·refine AW.skip (AW.seq (AW.block (AW.SG0 Fm 2 [(0, AL x925), (1, AL x926), (5, vi v934), (12, vi (lI x925)), (13, vi v934)] [] ?_)))
    obtain ⟨hg937, hg938, h⟩ := gS2 h
    refine AW.SG Fm [.s, .s, .s, .s, .s, .s, .s, .s, .k (sE (vb (!((((gl x925 v934.toNat).left_) == ((gl x926 v934.toNat).left_)) && ((((gl x925 v934.toNat).low_) == ((gl x926 v934.toNat).low_)) && ((((gl x925 v934.toNat).right_) == ((gl x926 v934.toNat).right_)) && ((((gl x925 v934.toNat).high_) == ((gl x926 v934.toNat).high_)) && true)))))))] (fun K => _ ∧ _ ∧ K 8 ∧ True) [(0, AL x925), (1, AL x926), (12, vi (lI x925)), (13, vi v934), (24, vb (!((((gl x925 v934.toNat).left_) == ((gl x926 v934.toNat).left_)) && ((((gl x925 v934.toNat).low_) == ((gl x926 v934.toNat).low_)) && ((((gl x925 v934.toNat).right_) == ((gl x926 v934.toNat).right_)) && ((((gl x925 v934.toNat).high_) == ((gl x926 v934.toNat).high_)) && true))))))] [] ⟨hg937, hg938, KAt.eq (xs := [ci ((gl x925 v934.toNat).left_), ci ((gl x925 v934.toNat).low_), ci ((gl x925 v934.toNat).right_), ci ((gl x925 v934.toNat).high_)]) (ys := [ci ((gl x926 v934.toNat).left_), ci ((gl x926 v934.toNat).low_), ci ((gl x926 v934.toNat).right_), ci ((gl x926 v934.toNat).high_)]) eqT103 false (b := ((((gl x925 v934.toNat).left_) == ((gl x926 v934.toNat).left_)) && ((((gl x925 v934.toNat).low_) == ((gl x926 v934.toNat).low_)) && ((((gl x925 v934.toNat).right_) == ((gl x926 v934.toNat).right_)) && ((((gl x925 v934.toNat).high_) == ((gl x926 v934.toNat).high_)) && true))))) rfl rfl (by kernel_rfl) (by kernel_rfl) (by kernel_rfl) (by kernel_rfl), ⟨⟩⟩ ?_
    refine AW.cN h (fun hb939 h => ?_) (fun hb939 h => ?_)
    ·refine AW.SG0 Fm 1 [(4, vb false)] [] ?_
     refine AW.ret ?_
     obtain rfl := Option.some.inj h
     exact Kn.D Fm
    ·refine AW.skip ?_
     obtain ⟨hg940, h⟩ := gS h
     refine AW.pN Fm [.s, .s] [(0, AL x925), (1, AL x926), (12, vi (lI x925)), (13, vi (v934 + 1))] [] (cT (cT hg940)) ?_
     exact Kn.R Fm (hJ935 (v934 + 1) h)
   ·exact AW.exit (Kn.R Fm (hJ941 () h))
theorem region_Valid_spec {F : Nat} {x942 : Region} {r : Bool} (h : region_Valid F x942 = some r) :
  FSpec Tryz.prog 94 [.v (.g [.d (DL x942.rects_)])] [] (vb r) [] := by
 refine FI Tryz.func94 prog_mixed prog_lay fun C Fm => ?_
 unfold region_Valid at h
 refine AW.SG0 Fm 2 [(1, pt 1)] [(1, bx [.d (DL x942.rects_)])] ?_
 refine AW.seq (AW.join (r := r) (fun z : Bool => region_Valid_k0 F x942 z) (fun z => [(1, pt 1), (11, vb z)]) (fun z => [(1, bx [.d (DL x942.rects_)])]) (fun v946 h => ?_) (fun J947 hJ947 => ?_))
 ·refine AW.cN h (fun hb948 h => ?_) (fun hb948 h => ?_)
  ·refine AW.SG0 Fm 1 [(2, vb false)] [] ?_
   refine AW.ret ?_
   obtain rfl := Option.some.inj h
   exact Kn.D Fm
  ·refine AW.skip (AW.seq ?_)
   obtain ⟨z949, hz950, h⟩ := bS h
   obtain ⟨z951, hz952, h⟩ := bS h
   refine AW.G Fm [.s, .s, .k (cE [] [] (AL z949) [] []), .s, .s, .k (cE [] [] (vb z951) [] []), .s] (fun K => K 2 ∧ K 5 ∧ True) [(2, vb z951)] [] ⟨KAt.CC (region_canonical_spec hz950) Tryz.call186 [], KAt.CC (slices_Equal_Rect_spec hz952) Tryz.call185 [], ⟨⟩⟩ ?_
   refine AW.ret ?_
   obtain rfl := Option.some.inj h
   exact Kn.D Fm
 ·rcases br_or h with ⟨hb943, h⟩ | ⟨hb943, h⟩
  ·refine AW.pN Fm [.s, .s, .s, .s, .w (vb true), .s, .s, .s, .s] [(1, pt 1), (11, vb true)] [(1, bx [.d (DL x942.rects_)])] (cT (ALe.bool hb943)) ?_
   exact Kn.R Fm (hJ947 true h)
  ·obtain ⟨z944, hz945, h⟩ := bS h
   refine AW.G Fm [.s, .s, .s, .s, .w (vb false), .s, .s, .k (cE [] [] (vb z944) [] []), .s] (fun K => _ ∧ K 7 ∧ True) [(1, pt 1), (11, vb z944)] [(1, bx [.d (DL x942.rects_)])] ⟨ALe.bool hb943, KAt.callX (slices_ContainsFunc_Rect_spec hz945) Tryz.call182 [] [] [.tmp 9, .func 183] rfl (by kernel_rfl) (by kernel_rfl) (by kernel_rfl) ⟨.p, ArgT.cloX Tryz.call183 [] (fun args r hq => by obtain ⟨y0, y, hq, rfl, rfl⟩ := hq; exact Eq.mp (by kernel_rfl) (region_Valid_1_spec hq)) (fun args r hq => by obtain ⟨y0, y, hq, rfl, rfl⟩ := hq; rfl) (by kernel_rfl) [] (by kernel_rfl) (by kernel_rfl) (True.intro) (by kernel_rfl), ⟨⟩⟩, ⟨⟩⟩ ?_
   exact Kn.R Fm (hJ947 z944 h)
theorem history_single_spec {F : Nat} {x953 : Record} {r : Int} (h : history_single F x953 = some r) :
  FSpec Tryz.prog 105 [gE x953] [] (vi r) [] := by
 refine FI Tryz.func105 prog_mixed prog_lay fun C Fm => ?_
 unfold history_single at h
 refine AW.SG0 Fm 2 [(1, pt 1)] [(1, bx (gC x953))] ?_
 refine AW.seq (AW.block (AW.join (r := r) (fun z : Bool => history_single_k0 F x953 z) (fun z => [(1, pt 1), (3, vb z)]) (fun z => [(1, bx (gC x953))]) (fun v955 h => ?_) (fun J956 hJ956 => ?_)))
 ·refine AW.cN h (fun hb957 h => ?_) (fun hb957 h => ?_)
  ·refine AW.SG0 Fm 1 [(2, vi 18)] [] ?_
   refine AW.ret ?_
   obtain rfl := Option.some.inj h
   exact Kn.D Fm
  ·refine AW.join (r := r) (fun z : Bool => history_single_k1 F x953 z) (fun z => [(1, pt 1), (12, vb z)]) (fun z => [(1, bx (gC x953))]) (fun v959 h => ?_) (fun J960 hJ960 => ?_)
   ·refine AW.cN h (fun hb961 h => ?_) (fun hb961 h => ?_)
    ·refine AW.SG0 Fm 1 [(2, vi 13)] [] ?_
     refine AW.ret ?_
     obtain rfl := Option.some.inj h
     exact Kn.D Fm
    ·refine AW.join (r := r) (fun z : Bool => history_single_k2 F z) (fun z => [(21, vb z)]) (fun z => []) (fun v965 h => ?_) (fun J966 hJ966 => ?_)
     ·refine AW.cN h (fun hb967 h => ?_) (fun hb967 h => ?_)
      ·refine AW.SG0 Fm 1 [(2, vi 7)] [] ?_
       refine AW.ret ?_
       obtain rfl := Option.some.inj h
       exact Kn.D Fm
      ·refine AW.skip (AW.SG0 Fm 1 [(2, vi 0)] [] ?_)
       refine AW.ret ?_
       obtain rfl := Option.some.inj h
       exact Kn.D Fm
     ·rcases br_or h with ⟨hb962, h⟩ | ⟨hb962, h⟩
      ·refine AW.pN Fm [.s, .s, .s, .s, .s, .w (vb true), .s, .s, .s, .s, .s, .s] [(21, vb true)] [] (cT (ALe.bool hb962)) ?_
       exact Kn.R Fm (hJ966 true h)
      ·obtain ⟨z963, hz964, h⟩ := bS h
       refine AW.G Fm [.s, .s, .s, .s, .s, .w (vb false), .s, .s, .k (cE [] [] (vb z963) [] []), .s, .s, .s] (fun K => _ ∧ K 8 ∧ True) [(21, vb (!z963))] [] ⟨ALe.bool hb962, KAt.CC (region_Valid_spec hz964) Tryz.call94 [], ⟨⟩⟩ ?_
       exact Kn.R Fm (hJ966 (!z963) h)
   ·rcases br_or h with ⟨hb958, h⟩ | ⟨hb958, h⟩
    ·refine AW.pN Fm [.s, .s, .s, .w (vb true), .s, .s, .s, .s, .s] [(1, pt 1), (12, vb true)] [(1, bx (gC x953))] (cT (ALe.bool hb958)) ?_
     exact Kn.R Fm (hJ960 true h)
    ·refine AW.pN Fm [.s, .s, .s, .w (vb false), .s, .s, .s, .s, .s] [(1, pt 1), (12, vb (decide ((40 : Int) ≤ x953.crop_)))] [(1, bx (gC x953))] (cT (ALe.bool hb958)) ?_
     exact Kn.R Fm (hJ960 (decide ((40 : Int) ≤ x953.crop_)) h)
 ·rcases br_or h with ⟨hb954, h⟩ | ⟨hb954, h⟩
  ·refine AW.pN Fm [.s, .s, .s, .w (vb true), .s, .s, .s, .s, .s] [(1, pt 1), (3, vb true)] [(1, bx (gC x953))] (cT (ALe.bool hb954)) ?_
   exact Kn.R Fm (hJ956 true h)
  ·refine AW.pN Fm [.s, .s, .s, .w (vb false), .s, .s, .s, .s, .s] [(1, pt 1), (3, vb (decide ((100 : Int) < x953.year_)))] [(1, bx (gC x953))] (cT (ALe.bool hb954)) ?_
   exact Kn.R Fm (hJ956 (decide ((100 : Int) < x953.year_)) h)
theorem cmp_Or_int_spec {F : Nat} {x968 : (List Int)} {r : Int} (h : cmp_Or_int F x968 = some r) :
  FSpec Tryz.prog 196 [AL x968] [] (vi r) [] := by
 refine FI Tryz.func196 prog_mixed prog_lay fun C Fm => ?_
 unfold cmp_Or_int at h
 refine AW.SG0 Fm 1 [(0, AL x968)] [] ?_
 refine AW.SG0 Fm 1 [(0, AL x968), (3, vi 0)] [] ?_
 refine AW.join (r := r) (fun z : Unit => cmp_Or_int_k1 F) (fun z => [(3, vi 0)]) (fun z => []) (fun z h => ?_) (fun J980 hJ980 => ?_)
 ·refine AW.SG0 Fm 2 [(2, vi 0)] [] ?_
  refine AW.ret ?_
  obtain rfl := Option.some.inj h
  exact Kn.D Fm
 ·refine AW.SG0 Fm 3 [(3, vi 0), (6, AL x968), (7, vi (lI x968)), (8, vi 0)] [] ?_
  refine AW.block (AW.loopF (E' := fun z => [(3, vi 0), (6, AL x968), (7, vi (lI x968)), (8, vi z)]) (S' := fun z => []) (fun ag_cmp_Or_int_b0 v974 J975 hJ975 h => ?_) h)
  refine AW.SG0 Fm 1 [(3, vi 0), (6, AL x968), (7, vi (lI x968)), (8, vi v974), (9, vb (decide (v974 < (lI x968))))] [] ?_
  refine AW.seq (AW.cN h (fun hb976 h => ?_) (fun hb976 h => ?_))
  ·refine AW.skip (AW.seq (AW.block ?_))
   obtain ⟨hg977, h⟩ := gS h
   refine AW.SP Fm [.s, .s, .s] [(3, vi 0), (5, vi (gl x968 v974.toNat)), (6, AL x968), (7, vi (lI x968)), (8, vi v974)] [] (cT hg977) ?_
   refine AW.SG0 Fm 3 [(3, vi 0), (5, vi (gl x968 v974.toNat)), (6, AL x968), (7, vi (lI x968)), (8, vi v974), (14, vb ((gl x968 v974.toNat) != (0 : Int)))] [] ?_
   refine AW.cN h (fun hb978 h => ?_) (fun hb978 h => ?_)
   ·refine AW.SG0 Fm 2 [(2, vi (gl x968 v974.toNat))] [] ?_
    refine AW.ret ?_
    obtain rfl := Option.some.inj h
    exact Kn.D Fm
   ·refine AW.skip ?_
    obtain ⟨hg979, h⟩ := gS h
    refine AW.pN Fm [.s, .s] [(3, vi 0), (6, AL x968), (7, vi (lI x968)), (8, vi (v974 + 1))] [] (cT (cT hg979)) ?_
    exact Kn.R Fm (hJ975 (v974 + 1) h)
  ·exact AW.exit (Kn.R Fm (hJ980 () h))
theorem history_compare_spec {F : Nat} {x981 : Record} {x982 : Record} {r : Int} (h : history_compare F x981 x982 = some r) :
  FSpec Tryz.prog 104 [gE x981, gE x982] [] (vi r) [] := by
 refine FI Tryz.func104 prog_mixed prog_lay fun C Fm => ?_
 unfold history_compare at h
 refine AW.SG0 Fm 3 [(2, pt 2), (3, pt 3)] [(2, bx (gC x981)), (3, bx (gC x982))] ?_
 refine AW.seq ?_
 obtain ⟨z983, hz984, h⟩ := bS h
 obtain ⟨z985, hz986, h⟩ := bS h
 obtain ⟨z987, hz988, h⟩ := bS h
 refine AW.G Fm [.s, .s, .s, .s, .k (cE [] [] (vi z983) [] []), .s, .s, .s, .s, .k (cE [] [] (vi z985) [] []), .w (AL (α := Int) ([z983, z985] : List Int)), .k (cE [] [] (vi z987) [] []), .s] (fun K => K 4 ∧ K 9 ∧ (ALe (.v (.c (.d (.lst 2 (litF 1 [.int .i64 z983, .int .i64 z985]))))) (AL (α := Int) ([z983, z985] : List Int))) ∧ K 11 ∧ True) [(4, vi z987)] [] ⟨KAt.CC (cmp_Compare_int_spec hz984) Tryz.call197 [], KAt.CC (cmp_Compare_int_spec hz986) Tryz.call197 [], ALe.lst (.lit ([z983, z985] : List Int) (by kernel_rfl)), KAt.CC (cmp_Or_int_spec hz988) Tryz.call196 [], ⟨⟩⟩ ?_
 refine AW.ret ?_
 obtain rfl := Option.some.inj h
 exact Kn.D Fm
theorem history_years_spec {F : Nat} {x989 : (List Record)} {r : (List (Int × (List Record)))} (h : history_years F x989 = some r) :
  FSpec Tryz.prog 106 [AL x989] [] (.v (.c (.d (MP (α := Record) r)))) [] := by
 refine FI Tryz.func106 prog_mixed prog_lay fun C Fm => ?_
 unfold history_years at h
 refine AW.SG0 Fm 1 [(0, AL x989)] [] ?_
 refine AW.SG Fm [.k (rE { v := .v (.c (.own 6)), new := some (.ext (mapP Tryz.prog 3 27 [])) }), .s] (fun K => K 0 ∧ True) [(0, AL x989), (3, ow 6)] [(6, .ext (mapP Tryz.prog 3 27 ([] : List Int)))] ⟨KAt.mkMap (kT := 3) (eT := 27) rfl rfl (by kernel_rfl), ⟨⟩⟩ ?_
 refine AW.join (r := r) (fun z : (List (Int × (List Record))) => history_years_k1 F z) (fun z => [(3, ow 6)]) (fun z => [(956, .exr [6] (grpP (α := Record) z none))]) (fun v1002 h => ?_) (fun J1003 hJ1003 => ?_)
 ·refine AW.SG0 Fm 2 [(2, ow 6)] [(956, .exr [6] (grpP (α := Record) v1002 none))] ?_
  refine AW.ret (Kn.r Fm [(2, ow 6)] [(956, .exr [6] (grpP (α := Record) v1002 none))] (by kernel_rfl) ?_)
  refine Kn.mpz (by kernel_rfl) ?_
  obtain rfl := Option.some.inj h
  exact Kn.D Fm
 ·refine AW.SG0 Fm 3 [(3, ow 6), (7, AL x989), (8, vi (lI x989)), (9, vi 0)] [(6, .ext (mapP Tryz.prog 3 27 ([] : List Int)))] ?_
  refine AW.block (Kn.r Fm [(3, ow 6), (7, AL x989), (8, vi (lI x989)), (9, vi 0)] [(6, .ext (mapP Tryz.prog 3 27 ([] : List Int)))] (by kernel_rfl) ?_)
  refine Kn.grp0 Fm Record (g := 956) (by kernel_rfl) (by kernel_rfl) (by kernel_rfl) ?_
  refine Kn.r Fm [(3, ow 6), (7, AL x989), (8, vi (lI x989)), (9, vi 0)] [(956, .exr [6] (grpP (α := Record) ([] : List (Int × (List Record))) none))] (by kernel_rfl) ?_
  refine AW.loopF (E' := fun z => [(3, ow 6), (7, AL x989), (8, vi (lI x989)), (9, vi z.1)]) (S' := fun z => [(956, .exr [6] (grpP (α := Record) z.2 none))]) (fun ag_history_years_b0 z J997 hJ997 h => ?_) h
  obtain ⟨v995, v996⟩ := z
  refine AW.SG0 Fm 1 [(3, ow 6), (7, AL x989), (8, vi (lI x989)), (9, vi v995), (10, vb (decide (v995 < (lI x989))))] [(956, .exr [6] (grpP (α := Record) v996 none))] ?_
  refine AW.seq (AW.cN h (fun hb998 h => ?_) (fun hb998 h => ?_))
  ·refine AW.skip (AW.seq (AW.block ?_))
   obtain ⟨hg999, h⟩ := gS h
   refine AW.SP Fm [.s, .s, .s, .s] [(3, ow 6), (5, pt 5), (7, AL x989), (8, vi (lI x989)), (9, vi v995)] [(5, bx [ci ((gl x989 v995.toNat).year_), ci ((gl x989 v995.toNat).crop_), .d (DL (α := Rect) (gl x989 v995.toNat).region_.rects_)]), (956, .exr [6] (grpP (α := Record) v996 none))] (cT hg999) ?_
   obtain ⟨hg1000, h⟩ := gS h
   refine AW.G Fm [.s, .s, .s, .s, .s, .s, .k (xE [956] { v := .v (.c (.cp 956 (1 + gIdx ((gl x989 v995.toNat).year_) v996))) }), .s, .w (AL (α := Record) ([(gl x989 v995.toNat)] : List Record)), .k (xE [956] { v := .v (.c (.cp 22 (1 + gIdx ((gl x989 v995.toNat).year_) v996))), del := [956], new := some (.exr [6] (grpP (α := Record) (gApp ((gl x989 v995.toNat).year_) ([(gl x989 v995.toNat)] : List Record) v996) (some (gIdx ((gl x989 v995.toNat).year_) v996)))) }), .k (xE [] { upd := some (22, .exr [6] (grpP (α := Record) (gApp ((gl x989 v995.toNat).year_) ([(gl x989 v995.toNat)] : List Record) v996) none)) })] (fun K => K 6 ∧ (ALe (.v (.c (.d (.lst 1 (litF 3 [.int .i64 (gl x989 v995.toNat).year_, .int .i64 (gl x989 v995.toNat).crop_, DL (α := Rect) (gl x989 v995.toNat).region_.rects_]))))) (AL (α := Record) ([(gl x989 v995.toNat)] : List Record))) ∧ K 9 ∧ K 10 ∧ True) [(3, ow 6), (7, AL x989), (8, vi (lI x989)), (9, vi v995)] [(22, .exr [6] (grpP (α := Record) (gApp ((gl x989 v995.toNat).year_) ([(gl x989 v995.toNat)] : List Record) v996) none))] ⟨KAt.gLook (α := Record) (gs := v996) (base := 6) (g := 956) (t := 128) (kT := 3) (eT := 27) (y := (gl x989 v995.toNat).year_) (by kernel_rfl) (by kernel_rfl) Go.Proofs.Tryz.zeroValue27 rfl rfl (by kernel_rfl) (by kernel_rfl) (by kernel_rfl) (by kernel_rfl), ALe.lst (.lit ([(gl x989 v995.toNat)] : List Record) (by kernel_rfl)), KAt.gApp (α := Record) (gs := v996) (m := ([(gl x989 v995.toNat)] : List Record)) (base := 6) (g := 956) (d := 22) (y := (gl x989 v995.toNat).year_) prog_lay slT27 rfl rfl rfl (by kernel_rfl) (by kernel_rfl) (by kernel_rfl) (by kernel_rfl) (by decide) (by kernel_rfl) hg1000, (by obtain ⟨q, hq1, hq2⟩ := gApp_at (y := (gl x989 v995.toNat).year_) (gs := v996) (m := _); exact KAt.gPut (α := Record) (gs := (gApp ((gl x989 v995.toNat).year_) ([(gl x989 v995.toNat)] : List Record) v996)) (base := 6) (g := 22) (j := gIdx ((gl x989 v995.toNat).year_) v996) (t := 128) (kT := 3) (eT := 27) (y := (gl x989 v995.toNat).year_) (by kernel_rfl) (by kernel_rfl) rfl rfl (by kernel_rfl) (by kernel_rfl) (by kernel_rfl) (by kernel_rfl) (by kernel_rfl) hq1 hq2), ⟨⟩⟩ ?_
   obtain ⟨hg1001, h⟩ := gS h
   refine AW.pN Fm [.s, .s] [(3, ow 6), (7, AL x989), (8, vi (lI x989)), (9, vi (v995 + 1))] [(22, .exr [6] (grpP (α := Record) (gApp ((gl x989 v995.toNat).year_) ([(gl x989 v995.toNat)] : List Record) v996) none))] (cT (cT hg1001)) ?_
   exact Kn.RE Fm [(956, 22)] (hJ997 ((v995 + 1), (gApp ((gl x989 v995.toNat).year_) ([(gl x989 v995.toNat)] : List Record) v996)) h)
  ·exact AW.exit (Kn.R Fm (hJ1003 v996 h))
theorem region_overlap_spec {F : Nat} {x1004 : Rect} {x1005 : Rect} {r : Bool} (h : region_overlap F x1004 x1005 = some r) :
  FSpec Tryz.prog 200 [gE x1004, gE x1005] [] (vb r) [] := by
 refine FI Tryz.func200 prog_mixed prog_lay fun C Fm => ?_
 unfold region_overlap at h
 refine AW.SG0 Fm 3 [(2, pt 2), (3, pt 3)] [(2, bx (gC x1004)), (3, bx (gC x1005))] ?_
 refine AW.join (r := r) (fun z : Bool => region_overlap_k0 F z) (fun z => [(4, vb z)]) (fun z => []) (fun v1009 h => ?_) (fun J1010 hJ1010 => ?_)
 ·refine AW.ret ?_
  obtain rfl := Option.some.inj h
  exact Kn.D Fm
 ·rcases br_or h with ⟨hb1006, h⟩ | ⟨hb1006, h⟩
  ·rcases br_or h with ⟨hb1007, h⟩ | ⟨hb1007, h⟩
   ·rcases br_or h with ⟨hb1008, h⟩ | ⟨hb1008, h⟩
    ·refine AW.pN Fm [.s, .s, .s, .s, .s, .w (vb true), .s, .s, .s, .s, .s, .s, .w (vb true), .s, .s, .s, .s, .s, .s, .w (vb true), .s, .s, .s, .s, .s, .s, .s] [(4, vb (decide (x1005.low_ < x1004.high_)))] [] (cA (ALe.bool hb1006) (cA (ALe.bool hb1007) (cT (ALe.bool hb1008)))) ?_
     exact Kn.R Fm (hJ1010 (decide (x1005.low_ < x1004.high_)) h)
    ·refine AW.pN Fm [.s, .s, .s, .s, .s, .w (vb true), .s, .s, .s, .s, .s, .s, .w (vb true), .s, .s, .s, .s, .s, .s, .w (vb false), .s, .s, .s, .s, .s, .s, .s] [(4, vb false)] [] (cA (ALe.bool hb1006) (cA (ALe.bool hb1007) (cT (ALe.bool hb1008)))) ?_
     exact Kn.R Fm (hJ1010 false h)
   ·refine AW.pN Fm [.s, .s, .s, .s, .s, .w (vb true), .s, .s, .s, .s, .s, .s, .w (vb false), .s, .s, .s, .s, .s, .s, .s, .s, .s, .s, .s, .s, .s, .s] [(4, vb false)] [] (cA (ALe.bool hb1006) (cT (ALe.bool hb1007))) ?_
    exact Kn.R Fm (hJ1010 false h)
  ·refine AW.pN Fm [.s, .s, .s, .s, .s, .w (vb false), .s, .s, .s, .s, .s, .s, .s, .s, .s, .s, .s, .s, .s, .s, .s, .s, .s, .s, .s, .s, .s] [(4, vb false)] [] (cT (ALe.bool hb1006)) ?_
   exact Kn.R Fm (hJ1010 false h)
theorem region_Meets_1_1_spec {F : Nat} {x1011 : Rect} {x1012 : Rect} {r : Bool} (h : region_Meets_1_1 F x1011 x1012 = some r) :
  FSpec Tryz.prog 199 [gE x1011, pt 0] [(0, .box true (gC x1012))] (vb r) [(0, .box true (gC x1012))] := by
 refine FI Tryz.func199 prog_mixed prog_lay fun C Fm => ?_
 unfold region_Meets_1_1 at h
 refine AW.SG0 Fm 2 [(1, pt 0), (2, pt 2)] [(0, .box true (gC x1012)), (2, bx (gC x1011))] ?_
 refine AW.seq ?_
 obtain ⟨z1013, hz1014, h⟩ := bS h
 refine AW.G Fm [.s, .s, .k (cE [] [] (vb z1013) [] []), .s] (fun K => K 2 ∧ True) [(3, vb z1013)] [(0, .box true (gC x1012))] ⟨KAt.CC (region_overlap_spec hz1014) Tryz.call200 [], ⟨⟩⟩ ?_
 refine AW.ret ?_
 obtain rfl := Option.some.inj h
 exact Kn.D Fm
theorem region_Meets_1_spec {F : Nat} {x1015 : Rect} {x1016 : Region} {r : Bool} (h : region_Meets_1 F x1015 x1016 = some r) :
  FSpec Tryz.prog 198 [gE x1015, pt 0] [(0, .box true [.d (DL x1016.rects_)])] (vb r) [(0, .box true [.d (DL x1016.rects_)])] := by
 refine FI Tryz.func198 prog_mixed prog_lay fun C Fm => ?_
 unfold region_Meets_1 at h
 refine AW.SG0 Fm 2 [(1, pt 0), (2, pt 2)] [(0, .box true [.d (DL x1016.rects_)]), (2, bx (gC x1015))] ?_
 refine AW.seq ?_
 obtain ⟨z1017, hz1018, h⟩ := bS h
 refine AW.G Fm [.s, .s, .s, .k (cE [] [2] (vb z1017) [] []), .s] (fun K => K 3 ∧ True) [(3, vb z1017)] [(0, .box true [.d (DL x1016.rects_)])] ⟨KAt.callX (slices_ContainsFunc_Rect_spec hz1018) Tryz.call182 [] [2] [.tmp 5, .tmp 6] rfl (by kernel_rfl) (by kernel_rfl) (by kernel_rfl) ⟨.p, ArgT.cloX Tryz.call199 [[ci x1015.left_, ci x1015.low_, ci x1015.right_, ci x1015.high_]] (fun args r hq => by obtain ⟨y0, y, hq, rfl, rfl⟩ := hq; exact Eq.mp (by kernel_rfl) (region_Meets_1_1_spec hq)) (fun args r hq => by obtain ⟨y0, y, hq, rfl, rfl⟩ := hq; rfl) (by kernel_rfl) [2] (by kernel_rfl) (by kernel_rfl) (⟨⟨false, (by kernel_rfl)⟩, ⟨⟩⟩) (by kernel_rfl), ⟨⟩⟩, ⟨⟩⟩ ?_
 refine AW.ret ?_
 obtain rfl := Option.some.inj h
 exact Kn.D Fm
theorem region_Meets_spec {F : Nat} {x1019 : Region} {x1020 : Region} {r : Bool} (h : region_Meets F x1019 x1020 = some r) :
  FSpec Tryz.prog 108 [.v (.g [.d (DL x1019.rects_)]), .v (.g [.d (DL x1020.rects_)])] [] (vb r) [] := by
 refine FI Tryz.func108 prog_mixed prog_lay fun C Fm => ?_
 unfold region_Meets at h
 refine AW.SG0 Fm 3 [(2, pt 2), (3, pt 3)] [(2, bx [.d (DL x1019.rects_)]), (3, bx [.d (DL x1020.rects_)])] ?_
 refine AW.join (r := r) (fun z : Bool => region_Meets_k0 F z) (fun z => [(4, vb z)]) (fun z => []) (fun v1029 h => ?_) (fun J1030 hJ1030 => ?_)
 ·refine AW.ret ?_
  obtain rfl := Option.some.inj h
  exact Kn.D Fm
 ·obtain ⟨z1021, hz1022, h⟩ := bS h
  rcases br_or h with ⟨hb1023, h⟩ | ⟨hb1023, h⟩
  ·obtain ⟨z1024, hz1025, h⟩ := bS h
   rcases br_or h with ⟨hb1026, h⟩ | ⟨hb1026, h⟩
   ·obtain ⟨z1027, hz1028, h⟩ := bS h
    refine AW.G Fm [.s, .k (cE [] [] (vb z1021) [] []), .w (vb true), .s, .k (cE [] [] (vb z1024) [] []), .s, .w (vb true), .s, .s, .s, .k (cE [] [3] (vb z1027) [] []), .s, .s] (fun K => K 1 ∧ _ ∧ K 4 ∧ _ ∧ K 10 ∧ True) [(4, vb z1027)] [] ⟨KAt.CC (region_Valid_spec hz1022) Tryz.call94 [], ALe.bool hb1023, KAt.CC (region_Valid_spec hz1025) Tryz.call94 [], ALe.bool hb1026, KAt.callX (slices_ContainsFunc_Rect_spec hz1028) Tryz.call182 [] [3] [.tmp 13, .tmp 14] rfl (by kernel_rfl) (by kernel_rfl) (by kernel_rfl) ⟨.p, ArgT.cloX Tryz.call198 [[.d (DL x1020.rects_)]] (fun args r hq => by obtain ⟨y0, y, hq, rfl, rfl⟩ := hq; exact Eq.mp (by kernel_rfl) (region_Meets_1_spec hq)) (fun args r hq => by obtain ⟨y0, y, hq, rfl, rfl⟩ := hq; rfl) (by kernel_rfl) [3] (by kernel_rfl) (by kernel_rfl) (⟨⟨false, (by kernel_rfl)⟩, ⟨⟩⟩) (by kernel_rfl), ⟨⟩⟩, ⟨⟩⟩ ?_
    exact Kn.R Fm (hJ1030 z1027 h)
   ·refine AW.G Fm [.s, .k (cE [] [] (vb z1021) [] []), .w (vb true), .s, .k (cE [] [] (vb z1024) [] []), .s, .w (vb false), .s, .s, .s, .s, .s, .s] (fun K => K 1 ∧ _ ∧ K 4 ∧ _ ∧ True) [(4, vb false)] [] ⟨KAt.CC (region_Valid_spec hz1022) Tryz.call94 [], ALe.bool hb1023, KAt.CC (region_Valid_spec hz1025) Tryz.call94 [], ALe.bool hb1026, ⟨⟩⟩ ?_
    exact Kn.R Fm (hJ1030 false h)
  ·refine AW.G Fm [.s, .k (cE [] [] (vb z1021) [] []), .w (vb false), .s, .s, .s, .s, .s, .s, .s, .s, .s, .s] (fun K => K 1 ∧ _ ∧ True) [(4, vb false)] [] ⟨KAt.CC (region_Valid_spec hz1022) Tryz.call94 [], ALe.bool hb1023, ⟨⟩⟩ ?_
   exact Kn.R Fm (hJ1030 false h)
theorem history_Check_1_spec {F : Nat} {x1031 : Record} {x1032 : Record} {r : Bool} (h : history_Check_1 F x1031 x1032 = some r) :
  FSpec Tryz.prog 107 [gE x1031, pt 0] [(0, .box true (gC x1032))] (vb r) [(0, .box true (gC x1032))] := by
 refine FI Tryz.func107 prog_mixed prog_lay fun C Fm => ?_
 unfold history_Check_1 at h
 refine AW.SG0 Fm 2 [(1, pt 0), (2, pt 2)] [(0, .box true (gC x1032)), (2, bx (gC x1031))] ?_
 refine AW.seq ?_
 obtain ⟨z1033, hz1034, h⟩ := bS h
 refine AW.G Fm [.s, .s, .s, .s, .k (cE [] [] (vb z1033) [] []), .s] (fun K => K 4 ∧ True) [(3, vb z1033)] [(0, .box true (gC x1032))] ⟨KAt.CC (region_Meets_spec hz1034) Tryz.call108 [], ⟨⟩⟩ ?_
 refine AW.ret ?_
 obtain rfl := Option.some.inj h
 exact Kn.D Fm
theorem slices_IndexFunc_Record_spec {F : Nat} {x1035 : (List Record)} {x1036 : Record → Option Bool} {r : Int} (h : slices_IndexFunc_Record F x1035 x1036 = some r) :
  FSpec Tryz.prog 193 [AL x1035, .v (.c (.sem (CloOK Tryz.prog (FR_Record_Bool x1036))))] [] (vi r) [] := by
 refine FI Tryz.func193 prog_mixed prog_lay fun C Fm => ?_
 unfold slices_IndexFunc_Record at h
 refine AW.SG0 Fm 1 [(0, AL x1035), (1, .v (.c (.sem (CloOK Tryz.prog (FR_Record_Bool x1036)))))] [] ?_
 refine AW.join (r := r) (fun z : Unit => slices_IndexFunc_Record_k1 F) (fun z => []) (fun z => []) (fun z h => ?_) (fun J1052 hJ1052 => ?_)
 ·refine AW.SG0 Fm 1 [(4, vi (-1 : Int))] [] ?_
  refine AW.ret ?_
  obtain rfl := Option.some.inj h
  exact Kn.D Fm
 ·refine AW.SG0 Fm 3 [(0, AL x1035), (1, .v (.c (.sem (CloOK Tryz.prog (FR_Record_Bool x1036))))), (7, vi (lI x1035)), (8, vi 0)] [] ?_
  refine AW.block (AW.loopF (E' := fun z => [(0, AL x1035), (1, .v (.c (.sem (CloOK Tryz.prog (FR_Record_Bool x1036))))), (7, vi (lI x1035)), (8, vi z)]) (S' := fun z => []) (fun ag_slices_IndexFunc_Record_b0 v1044 J1045 hJ1045 h => ?_) h)
  refine AW.SG0 Fm 1 [(0, AL x1035), (1, .v (.c (.sem (CloOK Tryz.prog (FR_Record_Bool x1036))))), (7, vi (lI x1035)), (8, vi v1044), (9, vb (decide (v1044 < (lI x1035))))] [] ?_
  refine AW.seq (AW.cN h (fun hb1046 h => ?_) (fun hb1046 h => ?_))
  ·refine AW.skip (AW.seq (AW.block (AW.SG0 Fm 2 [(0, AL x1035), (1, .v (.c (.sem (CloOK Tryz.prog (FR_Record_Bool x1036))))), (5, vi v1044), (7, vi (lI x1035)), (8, vi v1044)] [] ?_)))
   refine AW.seq ?_
   obtain ⟨hg1047, h⟩ := gS h
   obtain ⟨z1048, hz1049, h⟩ := bS h
   refine AW.G Fm [.s, .s, .s, .s, .s, .k (sE (vb z1048))] (fun K => _ ∧ K 5 ∧ True) [(0, AL x1035), (1, .v (.c (.sem (CloOK Tryz.prog (FR_Record_Bool x1036))))), (5, vi v1044), (7, vi (lI x1035)), (8, vi v1044), (16, vb z1048)] [] ⟨hg1047, KAt.sem (F := (FR_Record_Bool x1036)) (args := [.v (.g [ci ((gl x1035 v1044.toNat).year_), ci ((gl x1035 v1044.toNat).crop_), .d (DL (α := Rect) (gl x1035 v1044.toNat).region_.rects_)])]) ⟨(gl x1035 v1044.toNat), z1048, hz1049, rfl, rfl⟩ rfl (by kernel_rfl) (by kernel_rfl) (by kernel_rfl), ⟨⟩⟩ ?_
   refine AW.cN h (fun hb1050 h => ?_) (fun hb1050 h => ?_)
   ·refine AW.SG0 Fm 2 [(4, vi v1044)] [] ?_
    refine AW.ret ?_
    obtain rfl := Option.some.inj h
    exact Kn.D Fm
   ·refine AW.skip ?_
    obtain ⟨hg1051, h⟩ := gS h
    refine AW.pN Fm [.s, .s] [(0, AL x1035), (1, .v (.c (.sem (CloOK Tryz.prog (FR_Record_Bool x1036))))), (7, vi (lI x1035)), (8, vi (v1044 + 1))] [] (cT (cT hg1051)) ?_
    exact Kn.R Fm (hJ1045 (v1044 + 1) h)
  ·exact AW.exit (Kn.R Fm (hJ1052 () h))
theorem slices_ContainsFunc_Record_spec {F : Nat} {x1053 : (List Record)} {x1054 : Record → Option Bool} {r : Bool} (h : slices_ContainsFunc_Record F x1053 x1054 = some r) :
  FSpec Tryz.prog 101 [AL x1053, .v (.c (.sem (CloOK Tryz.prog (FR_Record_Bool x1054))))] [] (vb r) [] := by
 refine FI Tryz.func101 prog_mixed prog_lay fun C Fm => ?_
 unfold slices_ContainsFunc_Record at h
 refine AW.SG0 Fm 1 [(0, AL x1053), (1, .v (.c (.sem (CloOK Tryz.prog (FR_Record_Bool x1054)))))] [] ?_
 refine AW.seq ?_
 obtain ⟨z1055, hz1056, h⟩ := bS h
 refine AW.G Fm [.s, .s, .k (cE [] [] (vi z1055) [] []), .s, .s] (fun K => K 2 ∧ True) [(4, vb (decide ((0 : Int) ≤ z1055)))] [] ⟨KAt.callX (slices_IndexFunc_Record_spec hz1056) Tryz.call193 [] [] [.tmp 5, .tmp 6] rfl (by kernel_rfl) (by kernel_rfl) (by kernel_rfl) ⟨.p, ArgT.semX (by kernel_rfl) (by kernel_rfl) (by kernel_rfl), ⟨⟩⟩, ⟨⟩⟩ ?_
 refine AW.ret ?_
 obtain rfl := Option.some.inj h
 exact Kn.D Fm
theorem history_Check_spec {F : Nat} {x1057 : (List Record)} {r : Int} (h : history_Check F x1057 = some r) :
  FSpec Tryz.prog 18 [AL x1057] [] (vi r) [] := by
 refine FI Tryz.func18 prog_mixed prog_lay fun C Fm => ?_
 unfold history_Check at h
 refine AW.SG0 Fm 1 [(0, AL x1057)] [] ?_
 refine AW.seq (AW.SG0 Fm 3 [(0, AL x1057), (12, vb (decide ((200 : Int) < (lI x1057))))] [] ?_)
 refine AW.cN h (fun hb1058 h => ?_) (fun hb1058 h => ?_)
 ·refine AW.SG0 Fm 1 [(2, vi 1)] [] ?_
  refine AW.ret ?_
  obtain rfl := Option.some.inj h
  exact Kn.D Fm
 ·refine AW.skip (AW.join (r := r) (fun z : Unit => history_Check_k2 F x1057) (fun z => [(0, AL x1057)]) (fun z => []) (fun z h => ?_) (fun J1090 hJ1090 => ?_))
  ·refine AW.join (r := r) (fun z : Unit => history_Check_k5 F) (fun z => []) (fun z => []) (fun z h => ?_) (fun J1142 hJ1142 => ?_)
   ·refine AW.SG0 Fm 1 [(2, vi 0)] [] ?_
    refine AW.ret ?_
    obtain rfl := Option.some.inj h
    exact Kn.D Fm
   ·refine AW.seq ?_
    obtain ⟨z1091, hz1092, h⟩ := bS h
    refine AW.G Fm [.s, .k (cE [] [] (.v (.c (.d (MP (α := Record) z1091)))) [] []), .k (rE { v := .v (.c (.own 40)), new := some (.ext (itP (α := Record) z1091 none)) })] (fun K => K 1 ∧ K 2 ∧ True) [(40, ow 40)] [(40, .ext (itP (α := Record) z1091 none))] ⟨KAt.CC (history_years_spec hz1092) Tryz.call106 [], KAt.range (α := Record) (gs := z1091) (t := 128) (kT := 3) (eT := 27) (d := 40) (by kernel_rfl) rfl rfl (by kernel_rfl) (by kernel_rfl), ⟨⟩⟩ ?_
    refine AW.block (AW.loopF (E' := fun z => [(40, ow 40)]) (S' := fun z => [(40, .ext (itP (α := Record) z none))]) (fun ag_history_Check_b3 v1117 J1118 hJ1118 h => ?_) h)
    refine AW.seq (Kn.r Fm [(40, ow 40)] [(40, .ext (itP (α := Record) v1117 none))] (by kernel_rfl) ?_)
    refine AW.nextM (by kernel_rfl) (by kernel_rfl) (by kernel_rfl) (fun hg1119 => ?_) (fun v1121 v1122 hg1120 => ?_)
    ·have h := nextM_stop h hg1119
     refine Kn.r Fm [(40, ow 40), (42, vb false)] [(40, .ext (itP (α := Record) v1117 none))] (by kernel_rfl) ?_
     refine AW.seq (AW.cond (b := false) (by kernel_rfl) (fun hb => by cases hb) (fun _ => ?_))
     exact AW.exit (Kn.R Fm (hJ1142 () h))
    ·have h := nextM_go h hg1120
     refine Kn.r Fm [(40, ow 40), (42, vb true)] [(40, .ext (itP (α := Record) v1122 (some v1121)))] (by kernel_rfl) ?_
     refine AW.seq (AW.cond (b := true) (by kernel_rfl) (fun _ => ?_) (fun hb => by cases hb))
     refine AW.skip (AW.block (AW.SG Fm [.k (rE { v := .t [.c (ci v1121.1), .c (.d (DL v1121.2))] }), .s, .s] (fun K => K 0 ∧ True) [(7, AL v1121.2), (40, ow 40)] [(40, .ext (itP (α := Record) v1122 (some v1121)))] ⟨KAt.entry (α := Record) (gs := v1122) (q := v1121) (id := 40) rfl rfl (by kernel_rfl) (by kernel_rfl) (by kernel_rfl), ⟨⟩⟩ ?_))
     refine AW.SG0 Fm 3 [(7, AL v1121.2), (40, ow 40), (45, AL v1121.2), (46, vi (lI v1121.2)), (47, vi 0)] [(40, .ext (itP (α := Record) v1122 (some v1121)))] ?_
     refine AW.block (Kn.r Fm [(7, AL v1121.2), (40, ow 40), (45, AL v1121.2), (46, vi (lI v1121.2)), (47, vi 0)] [(40, .ext (itP (α := Record) v1122 (some v1121)))] (by kernel_rfl) ?_)
     refine Kn.wk [(7, AL v1121.2), (40, ow 40), (45, AL v1121.2), (46, vi (lI v1121.2)), (47, vi 0)] [(40, .ext (itP (α := Record) v1122 none))] ⟨rfl, ALe.c (CLe.refl _), ⟨rfl, ALe.c (CLe.refl _), ⟨rfl, ALe.c (CLe.refl _), ⟨rfl, ALe.c (CLe.refl _), ⟨rfl, ALe.c (CLe.refl _), ⟨⟩⟩⟩⟩⟩⟩ ⟨rfl, itP_none _ _, ⟨⟩⟩ ?_
     refine AW.loopF (E' := fun z => [(7, AL v1121.2), (40, ow 40), (45, AL v1121.2), (46, vi (lI v1121.2)), (47, vi z)]) (S' := fun z => [(40, .ext (itP (α := Record) v1122 none))]) (fun ag_history_Check_b4 v1133 J1134 hJ1134 h => ?_) h
     refine AW.SG0 Fm 1 [(7, AL v1121.2), (40, ow 40), (45, AL v1121.2), (46, vi (lI v1121.2)), (47, vi v1133), (48, vb (decide (v1133 < (lI v1121.2))))] [(40, .ext (itP (α := Record) v1122 none))] ?_
     refine AW.seq (AW.cN h (fun hb1135 h => ?_) (fun hb1135 h => ?_))
     ·refine AW.skip (AW.seq (AW.block ?_))
      obtain ⟨hg1136, h⟩ := gS h
      refine AW.SP Fm [.s, .s, .s, .s, .s, .s] [(7, AL v1121.2), (8, vi v1133), (9, pt 9), (40, ow 40), (45, AL v1121.2), (46, vi (lI v1121.2)), (47, vi v1133)] [(9, bx [ci ((gl v1121.2 v1133.toNat).year_), ci ((gl v1121.2 v1133.toNat).crop_), .d (DL (α := Rect) (gl v1121.2 v1133.toNat).region_.rects_)]), (40, .ext (itP (α := Record) v1122 none))] (cT hg1136) ?_
      refine AW.seq ?_
      obtain ⟨hg1137, h⟩ := gS h
      obtain ⟨z1138, hz1139, h⟩ := bS h
      refine AW.G Fm [.s, .s, .w (AL (α := Record) (v1121.2.take v1133.toNat)), .s, .k (cE [] [9] (vb z1138) [] [])] (fun K => (((sl (List.length v1121.2) (LF v1121.2) none (some v1133)).2 ∧ ∀ j, j < List.length v1121.2 → (LF v1121.2 j).length = 3)) ∧ (ALe (.v (.c (.d (.lst (sl (List.length v1121.2) (LF v1121.2) none (some v1133)).1.1 (sl (List.length v1121.2) (LF v1121.2) none (some v1133)).1.2)))) (AL (α := Record) (v1121.2.take v1133.toNat))) ∧ K 4 ∧ True) [(7, AL v1121.2), (40, ow 40), (45, AL v1121.2), (46, vi (lI v1121.2)), (47, vi v1133), (56, vb z1138)] [(40, .ext (itP (α := Record) v1122 none))] ⟨⟨hg1137, (Is.refl v1121.2).len⟩, ALe.lst (sl_is v1121.2 none (some v1133) hg1137), KAt.callX (slices_ContainsFunc_Record_spec hz1139) Tryz.call101 [] [9] [.tmp 54, .tmp 55] rfl (by kernel_rfl) (by kernel_rfl) (by kernel_rfl) ⟨.p, ArgT.cloX Tryz.call107 [[ci ((gl v1121.2 v1133.toNat).year_), ci ((gl v1121.2 v1133.toNat).crop_), .d (DL (α := Rect) (gl v1121.2 v1133.toNat).region_.rects_)]] (fun args r hq => by obtain ⟨y0, y, hq, rfl, rfl⟩ := hq; exact Eq.mp (by kernel_rfl) (history_Check_1_spec hq)) (fun args r hq => by obtain ⟨y0, y, hq, rfl, rfl⟩ := hq; rfl) (by kernel_rfl) [9] (by kernel_rfl) (by kernel_rfl) (⟨⟨false, (by kernel_rfl)⟩, ⟨⟩⟩) (by kernel_rfl), ⟨⟩⟩, ⟨⟩⟩ ?_
      refine AW.cN h (fun hb1140 h => ?_) (fun hb1140 h => ?_)
      ·refine AW.SG0 Fm 1 [(2, vi 11)] [] ?_
       refine AW.ret ?_
       obtain rfl := Option.some.inj h
       exact Kn.D Fm
      ·refine AW.skip ?_
       obtain ⟨hg1141, h⟩ := gS h
       refine AW.pN Fm [.s, .s] [(7, AL v1121.2), (40, ow 40), (45, AL v1121.2), (46, vi (lI v1121.2)), (47, vi (v1133 + 1))] [(40, .ext (itP (α := Record) v1122 none))] (cT (cT hg1141)) ?_
       exact Kn.R Fm (hJ1134 (v1133 + 1) h)
     ·exact AW.exit (Kn.R Fm (hJ1118 v1122 h))
  ·refine AW.SG0 Fm 3 [(0, AL x1057), (13, AL x1057), (14, vi (lI x1057)), (15, vi 0)] [] ?_
   refine AW.block (AW.loopF (E' := fun z => [(0, AL x1057), (13, AL x1057), (14, vi (lI x1057)), (15, vi z)]) (S' := fun z => []) (fun ag_history_Check_b0 v1074 J1075 hJ1075 h => ?_) h)
   refine AW.SG0 Fm 1 [(0, AL x1057), (13, AL x1057), (14, vi (lI x1057)), (15, vi v1074), (16, vb (decide (v1074 < (lI x1057))))] [] ?_
   refine AW.seq (AW.cN h (fun hb1076 h => ?_) (fun hb1076 h => ?_))
   ·refine AW.skip (AW.seq (AW.block ?_))
    obtain ⟨hg1077, h⟩ := gS h
    refine AW.SP Fm [.s, .s, .s, .s, .s, .s] [(0, AL x1057), (3, vi v1074), (4, pt 4), (13, AL x1057), (14, vi (lI x1057)), (15, vi v1074)] [(4, bx [ci ((gl x1057 v1074.toNat).year_), ci ((gl x1057 v1074.toNat).crop_), .d (DL (α := Rect) (gl x1057 v1074.toNat).region_.rects_)])] (cT hg1077) ?_
    refine AW.seq (AW.seq ?_)
    obtain ⟨z1078, hz1079, h⟩ := bS h
    refine AW.G Fm [.s, .k (cE [] [] (vi z1078) [] []), .s] (fun K => K 1 ∧ True) [(0, AL x1057), (3, vi v1074), (4, pt 4), (5, vi z1078), (13, AL x1057), (14, vi (lI x1057)), (15, vi v1074)] [(4, bx [ci ((gl x1057 v1074.toNat).year_), ci ((gl x1057 v1074.toNat).crop_), .d (DL (α := Rect) (gl x1057 v1074.toNat).region_.rects_)])] ⟨KAt.CC (history_single_spec hz1079) Tryz.call105 [], ⟨⟩⟩ ?_
    refine AW.SG0 Fm 2 [(0, AL x1057), (3, vi v1074), (4, pt 4), (5, vi z1078), (13, AL x1057), (14, vi (lI x1057)), (15, vi v1074), (23, vb (z1078 != (0 : Int)))] [(4, bx [ci ((gl x1057 v1074.toNat).year_), ci ((gl x1057 v1074.toNat).crop_), .d (DL (α := Rect) (gl x1057 v1074.toNat).region_.rects_)])] ?_
    refine AW.cN h (fun hb1080 h => ?_) (fun hb1080 h => ?_)
    ·refine AW.SG0 Fm 2 [(2, vi z1078)] [] ?_
     refine AW.ret ?_
     obtain rfl := Option.some.inj h
     exact Kn.D Fm
    ·refine AW.skip (AW.join (r := r) (fun z : Bool => history_Check_k1 F v1074 ag_history_Check_b0 z) (fun z => [(0, AL x1057), (13, AL x1057), (14, vi (lI x1057)), (15, vi v1074), (36, vb z)]) (fun z => []) (fun v1086 h => ?_) (fun J1087 hJ1087 => ?_))
     ·refine AW.cN h (fun hb1088 h => ?_) (fun hb1088 h => ?_)
      ·refine AW.SG0 Fm 1 [(2, vi 3)] [] ?_
       refine AW.ret ?_
       obtain rfl := Option.some.inj h
       exact Kn.D Fm
      ·refine AW.skip ?_
       obtain ⟨hg1089, h⟩ := gS h
       refine AW.pN Fm [.s, .s] [(0, AL x1057), (13, AL x1057), (14, vi (lI x1057)), (15, vi (v1074 + 1))] [] (cT (cT hg1089)) ?_
       exact Kn.R Fm (hJ1075 (v1074 + 1) h)
     ·rcases br_or h with ⟨hb1081, h⟩ | ⟨hb1081, h⟩
      ·obtain ⟨hg1082, hg1083, h⟩ := gS2 h
       obtain ⟨z1084, hz1085, h⟩ := bS h
       refine AW.G Fm [.s, .s, .w (vb true), .s, .s, .s, .s, .s, .s, .k (cE [] [] (vi z1084) [] []), .s, .s] (fun K => _ ∧ (_ ∧ True) ∧ _ ∧ K 9 ∧ True) [(0, AL x1057), (13, AL x1057), (14, vi (lI x1057)), (15, vi v1074), (28, AL x1057), (29, vi v1074), (30, vi (v1074 - 1)), (31, .v (.c (.elm [.int .i64 (gl x1057 (v1074 - 1).toNat).year_, .int .i64 (gl x1057 (v1074 - 1).toNat).crop_, DL (α := Rect) (gl x1057 (v1074 - 1).toNat).region_.rects_]))), (32, .v (.g [ci ((gl x1057 (v1074 - 1).toNat).year_), ci ((gl x1057 (v1074 - 1).toNat).crop_), .d (DL (α := Rect) (gl x1057 (v1074 - 1).toNat).region_.rects_)])), (33, .v (.g [ci ((gl x1057 v1074.toNat).year_), ci ((gl x1057 v1074.toNat).crop_), .d (DL (α := Rect) (gl x1057 v1074.toNat).region_.rects_)])), (34, vi z1084), (35, vb (decide ((0 : Int) ≤ z1084))), (36, vb (decide ((0 : Int) ≤ z1084)))] [] ⟨ALe.bool hb1081, ⟨hg1082, ⟨⟩⟩, hg1083, KAt.CC (history_compare_spec hz1085) Tryz.call104 [], ⟨⟩⟩ ?_
       exact Kn.R Fm (hJ1087 (decide ((0 : Int) ≤ z1084)) h)
      ·refine AW.pN Fm [.s, .s, .w (vb false), .s, .s, .s, .s, .s, .s, .s, .s, .s] [(0, AL x1057), (13, AL x1057), (14, vi (lI x1057)), (15, vi v1074), (36, vb false)] [] (cT (ALe.bool hb1081)) ?_
       exact Kn.R Fm (hJ1087 false h)
   ·exact AW.exit (Kn.R Fm (hJ1090 () h))
theorem slices_Concat_Span_spec {F : Nat} {x1143 : (List (List Span))} {r : (List Span)} (h : slices_Concat_Span F x1143 = some r) :
  FSpec Tryz.prog 242 [AL x1143] [] (ow 100) [(100, AO (α := Span) r)] := by
 refine FI Tryz.func242 prog_mixed prog_lay fun C Fm => ?_
 unfold slices_Concat_Span at h
 refine AW.SG Fm [.m] (fun K => True) [(0, AL x1143)] [] True.intro ?_
 refine AW.SG0 Fm 1 [(0, AL x1143), (3, vi 0)] [] ?_
 refine AW.join (r := r) (fun z : Int => slices_Concat_Span_k1 F x1143 z) (fun z => [(0, AL x1143), (3, vi z)]) (fun z => []) (fun v1158 h => ?_) (fun J1159 hJ1159 => ?_)
 ·refine AW.seq ?_
  obtain ⟨z1160, hz1161, h⟩ := bS h
  refine AW.G Fm [.s, .k (cE [(100, 24)] [] (ow 100) [] [(100, AO z1160)]), .s] (fun K => K 1 ∧ True) [(0, AL x1143), (6, ow 24)] [(24, AO z1160)] ⟨KAt.CC (growN_spec hz1161) Tryz.call284 [(100, 24)], ⟨⟩⟩ ?_
  refine AW.join (r := r) (fun z : (List Span) => slices_Concat_Span_k3 F z) (fun z => [(6, ow 24)]) (fun z => [(24, AO z)]) (fun v1174 h => ?_) (fun J1175 hJ1175 => ?_)
  ·refine AW.SG0 Fm 2 [(2, ow 24)] [(24, AO v1174)] ?_
   refine AW.ret ?_
   obtain rfl := Option.some.inj h
   exact Kn.re Fm [(100, 24)] [(2, ow 100)] [(100, AO v1174)] (by kernel_rfl) (by kernel_rfl) (by kernel_rfl) (by kernel_rfl) (Kn.dn Fm (by kernel_rfl))
  ·refine AW.SG0 Fm 3 [(6, ow 24), (25, AL x1143), (26, vi (lI x1143)), (27, vi 0)] [(24, AO z1160)] ?_
   refine AW.block (AW.loopF (E' := fun z => [(6, ow 24), (25, AL x1143), (26, vi (lI x1143)), (27, vi z.1)]) (S' := fun z => [(24, AO z.2)]) (fun ag_slices_Concat_Span_b2 z J1169 hJ1169 h => ?_) h)
   obtain ⟨v1167, v1168⟩ := z
   refine AW.SG0 Fm 1 [(6, ow 24), (25, AL x1143), (26, vi (lI x1143)), (27, vi v1167), (28, vb (decide (v1167 < (lI x1143))))] [(24, AO v1168)] ?_
   refine AW.seq (AW.cN h (fun hb1170 h => ?_) (fun hb1170 h => ?_))
   ·refine AW.skip (AW.seq (AW.block ?_))
    obtain ⟨hg1171, h⟩ := gS h
    refine AW.SP Fm [.s, .s, .s] [(6, ow 24), (8, AL (α := Span) (gl x1143 v1167.toNat)), (25, AL x1143), (26, vi (lI x1143)), (27, vi v1167)] [(24, AO v1168)] (cT hg1171) ?_
    obtain ⟨hg1172, h⟩ := gS h
    refine AW.WP Fm [.s, .s, .s, .s] [(6, ow 33), (25, AL x1143), (26, vi (lI x1143)), (27, vi v1167)] [(33, AO (α := Span) (v1168 ++ (gl x1143 v1167.toNat)))] (cT (cA hg1172 (cT (Is.refl (gl x1143 v1167.toNat) : Is (List.length (α := Span) (gl x1143 v1167.toNat)) (LF (α := Span) (gl x1143 v1167.toNat)) (gl x1143 v1167.toNat)).len))) [(33, .arr 2 ((List.length (α := Span) v1168) + (List.length (α := Span) (gl x1143 v1167.toNat))) (appF (List.length (α := Span) v1168) (LF (α := Span) v1168) (LF (α := Span) (gl x1143 v1167.toNat))))] ⟨OLe.is (Is.app (Is.refl v1168) (Is.refl (gl x1143 v1167.toNat))), ⟨⟩⟩ ?_
    obtain ⟨hg1173, h⟩ := gS h
    refine AW.pN Fm [.s, .s] [(6, ow 33), (25, AL x1143), (26, vi (lI x1143)), (27, vi (v1167 + 1))] [(33, AO (α := Span) (v1168 ++ (gl x1143 v1167.toNat)))] (cT (cT hg1173)) ?_
    exact Kn.RE Fm [(24, 33)] (hJ1169 ((v1167 + 1), (v1168 ++ (gl x1143 v1167.toNat))) h)
   ·exact AW.exit (Kn.R Fm (hJ1175 v1168 h))
 ·refine AW.SG0 Fm 3 [(0, AL x1143), (3, vi 0), (9, AL x1143), (10, vi (lI x1143)), (11, vi 0)] [] ?_
  refine AW.block (AW.loopF (E' := fun z => [(0, AL x1143), (3, vi z.1), (9, AL x1143), (10, vi (lI x1143)), (11, vi z.2)]) (S' := fun z => []) (fun ag_slices_Concat_Span_b0 z J1152 hJ1152 h => ?_) h)
  obtain ⟨v1150, v1151⟩ := z
  refine AW.SG0 Fm 1 [(0, AL x1143), (3, vi v1150), (9, AL x1143), (10, vi (lI x1143)), (11, vi v1151), (12, vb (decide (v1151 < (lI x1143))))] [] ?_
  refine AW.seq (AW.cN h (fun hb1153 h => ?_) (fun hb1153 h => ?_))
  ·refine AW.skip (AW.seq (AW.block ?_))
   obtain ⟨hg1154, h⟩ := gS h
   refine AW.SP Fm [.s, .s, .s] [(0, AL x1143), (3, vi v1150), (5, AL (α := Span) (gl x1143 v1151.toNat)), (9, AL x1143), (10, vi (lI x1143)), (11, vi v1151)] [] (cT hg1154) ?_
   obtain ⟨hg1155, h⟩ := gS h
   refine AW.SP Fm [.s, .s, .s, .s, .s] [(0, AL x1143), (3, vi (v1150 + (lI (gl x1143 v1151.toNat)))), (9, AL x1143), (10, vi (lI x1143)), (11, vi v1151)] [] (cT (cT hg1155)) ?_
   refine AW.SG0 Fm 2 [(0, AL x1143), (3, vi (v1150 + (lI (gl x1143 v1151.toNat)))), (9, AL x1143), (10, vi (lI x1143)), (11, vi v1151), (20, vb (decide ((v1150 + (lI (gl x1143 v1151.toNat))) < (0 : Int))))] [] ?_
   refine AW.cN h (fun hb1156 h => ?_) (fun hb1156 h => ?_)
   ·cases h
   ·refine AW.skip ?_
    obtain ⟨hg1157, h⟩ := gS h
    refine AW.pN Fm [.s, .s] [(0, AL x1143), (3, vi (v1150 + (lI (gl x1143 v1151.toNat)))), (9, AL x1143), (10, vi (lI x1143)), (11, vi (v1151 + 1))] [] (cT (cT hg1157)) ?_
    exact Kn.R Fm (hJ1152 ((v1150 + (lI (gl x1143 v1151.toNat))), (v1151 + 1)) h)
  ·exact AW.exit (Kn.R Fm (hJ1159 v1150 h))
theorem region_inside_1_spec {F : Nat} {x1176 : Span} {x1177 : Int} {r : Bool} (h : region_inside_1 F x1176 x1177 = some r) :
  FSpec Tryz.prog 286 [gE x1176, pt 0] [(0, .box true [ci x1177])] (vb r) [(0, .box true [ci x1177])] := by
 refine FI Tryz.func286 prog_mixed prog_lay fun C Fm => ?_
 unfold region_inside_1 at h
 refine AW.SG0 Fm 2 [(1, pt 0), (2, pt 2)] [(0, .box true [ci x1177]), (2, bx (gC x1176))] ?_
 refine AW.join (r := r) (fun z : Bool => region_inside_1_k0 F z) (fun z => [(3, vb z)]) (fun z => [(0, .box true [ci x1177])]) (fun v1179 h => ?_) (fun J1180 hJ1180 => ?_)
 ·refine AW.ret ?_
  obtain rfl := Option.some.inj h
  exact Kn.D Fm
 ·rcases br_or h with ⟨hb1178, h⟩ | ⟨hb1178, h⟩
  ·refine AW.pN Fm [.s, .s, .s, .s, .w (vb true), .s, .s, .s, .s, .s, .s] [(3, vb (decide (x1177 < x1176.right_)))] [(0, .box true [ci x1177])] (cT (ALe.bool hb1178)) ?_
   exact Kn.R Fm (hJ1180 (decide (x1177 < x1176.right_)) h)
  ·refine AW.pN Fm [.s, .s, .s, .s, .w (vb false), .s, .s, .s, .s, .s, .s] [(3, vb false)] [(0, .box true [ci x1177])] (cT (ALe.bool hb1178)) ?_
   exact Kn.R Fm (hJ1180 false h)
theorem slices_IndexFunc_Span_spec {F : Nat} {x1181 : (List Span)} {x1182 : Span → Option Bool} {r : Int} (h : slices_IndexFunc_Span F x1181 x1182 = some r) :
  FSpec Tryz.prog 318 [AL x1181, .v (.c (.sem (CloOK Tryz.prog (FR_Span_Bool x1182))))] [] (vi r) [] := by
 refine FI Tryz.func318 prog_mixed prog_lay fun C Fm => ?_
 unfold slices_IndexFunc_Span at h
 refine AW.SG0 Fm 1 [(0, AL x1181), (1, .v (.c (.sem (CloOK Tryz.prog (FR_Span_Bool x1182)))))] [] ?_
 refine AW.join (r := r) (fun z : Unit => slices_IndexFunc_Span_k1 F) (fun z => []) (fun z => []) (fun z h => ?_) (fun J1198 hJ1198 => ?_)
 ·refine AW.SG0 Fm 1 [(4, vi (-1 : Int))] [] ?_
  refine AW.ret ?_
  obtain rfl := Option.some.inj h
  exact Kn.D Fm
 ·refine AW.SG0 Fm 3 [(0, AL x1181), (1, .v (.c (.sem (CloOK Tryz.prog (FR_Span_Bool x1182))))), (7, vi (lI x1181)), (8, vi 0)] [] ?_
  refine AW.block (AW.loopF (E' := fun z => [(0, AL x1181), (1, .v (.c (.sem (CloOK Tryz.prog (FR_Span_Bool x1182))))), (7, vi (lI x1181)), (8, vi z)]) (S' := fun z => []) (fun ag_slices_IndexFunc_Span_b0 v1190 J1191 hJ1191 h => ?_) h)
  refine AW.SG0 Fm 1 [(0, AL x1181), (1, .v (.c (.sem (CloOK Tryz.prog (FR_Span_Bool x1182))))), (7, vi (lI x1181)), (8, vi v1190), (9, vb (decide (v1190 < (lI x1181))))] [] ?_
  refine AW.seq (AW.cN h (fun hb1192 h => ?_) (fun hb1192 h => ?_))
  ·refine AW.skip (AW.seq (AW.block (AW.SG0 Fm 2 [(0, AL x1181), (1, .v (.c (.sem (CloOK Tryz.prog (FR_Span_Bool x1182))))), (5, vi v1190), (7, vi (lI x1181)), (8, vi v1190)] [] ?_)))
   refine AW.seq ?_
   obtain ⟨hg1193, h⟩ := gS h
   obtain ⟨z1194, hz1195, h⟩ := bS h
   refine AW.G Fm [.s, .s, .s, .s, .s, .k (sE (vb z1194))] (fun K => _ ∧ K 5 ∧ True) [(0, AL x1181), (1, .v (.c (.sem (CloOK Tryz.prog (FR_Span_Bool x1182))))), (5, vi v1190), (7, vi (lI x1181)), (8, vi v1190), (16, vb z1194)] [] ⟨hg1193, KAt.sem (F := (FR_Span_Bool x1182)) (args := [.v (.g [ci ((gl x1181 v1190.toNat).left_), ci ((gl x1181 v1190.toNat).right_)])]) ⟨(gl x1181 v1190.toNat), z1194, hz1195, rfl, rfl⟩ rfl (by kernel_rfl) (by kernel_rfl) (by kernel_rfl), ⟨⟩⟩ ?_
   refine AW.cN h (fun hb1196 h => ?_) (fun hb1196 h => ?_)
   ·refine AW.SG0 Fm 2 [(4, vi v1190)] [] ?_
    refine AW.ret ?_
    obtain rfl := Option.some.inj h
    exact Kn.D Fm
   ·refine AW.skip ?_
    obtain ⟨hg1197, h⟩ := gS h
    refine AW.pN Fm [.s, .s] [(0, AL x1181), (1, .v (.c (.sem (CloOK Tryz.prog (FR_Span_Bool x1182))))), (7, vi (lI x1181)), (8, vi (v1190 + 1))] [] (cT (cT hg1197)) ?_
    exact Kn.R Fm (hJ1191 (v1190 + 1) h)
  ·exact AW.exit (Kn.R Fm (hJ1198 () h))
theorem slices_ContainsFunc_Span_spec {F : Nat} {x1199 : (List Span)} {x1200 : Span → Option Bool} {r : Bool} (h : slices_ContainsFunc_Span F x1199 x1200 = some r) :
  FSpec Tryz.prog 285 [AL x1199, .v (.c (.sem (CloOK Tryz.prog (FR_Span_Bool x1200))))] [] (vb r) [] := by
 refine FI Tryz.func285 prog_mixed prog_lay fun C Fm => ?_
 unfold slices_ContainsFunc_Span at h
 refine AW.SG0 Fm 1 [(0, AL x1199), (1, .v (.c (.sem (CloOK Tryz.prog (FR_Span_Bool x1200)))))] [] ?_
 refine AW.seq ?_
 obtain ⟨z1201, hz1202, h⟩ := bS h
 refine AW.G Fm [.s, .s, .k (cE [] [] (vi z1201) [] []), .s, .s] (fun K => K 2 ∧ True) [(4, vb (decide ((0 : Int) ≤ z1201)))] [] ⟨KAt.callX (slices_IndexFunc_Span_spec hz1202) Tryz.call318 [] [] [.tmp 5, .tmp 6] rfl (by kernel_rfl) (by kernel_rfl) (by kernel_rfl) ⟨.p, ArgT.semX (by kernel_rfl) (by kernel_rfl) (by kernel_rfl), ⟨⟩⟩, ⟨⟩⟩ ?_
 refine AW.ret ?_
 obtain rfl := Option.some.inj h
 exact Kn.D Fm
theorem region_inside_spec {F : Nat} {x1203 : (List Span)} {x1204 : Int} {r : Bool} (h : region_inside F x1203 x1204 = some r) :
  FSpec Tryz.prog 243 [AL x1203, vi x1204] [] (vb r) [] := by
 refine FI Tryz.func243 prog_mixed prog_lay fun C Fm => ?_
 unfold region_inside at h
 refine AW.SG0 Fm 2 [(0, AL x1203), (3, pt 3)] [(3, bx [ci x1204])] ?_
 refine AW.seq ?_
 obtain ⟨z1205, hz1206, h⟩ := bS h
 refine AW.G Fm [.s, .s, .k (cE [] [3] (vb z1205) [] []), .s] (fun K => K 2 ∧ True) [(4, vb z1205)] [] ⟨KAt.callX (slices_ContainsFunc_Span_spec hz1206) Tryz.call285 [] [3] [.tmp 5, .tmp 6] rfl (by kernel_rfl) (by kernel_rfl) (by kernel_rfl) ⟨.p, ArgT.cloX Tryz.call286 [[ci x1204]] (fun args r hq => by obtain ⟨y0, y, hq, rfl, rfl⟩ := hq; exact Eq.mp (by kernel_rfl) (region_inside_1_spec hq)) (fun args r hq => by obtain ⟨y0, y, hq, rfl, rfl⟩ := hq; rfl) (by kernel_rfl) [3] (by kernel_rfl) (by kernel_rfl) (⟨⟨false, (by kernel_rfl)⟩, ⟨⟩⟩) (by kernel_rfl), ⟨⟩⟩, ⟨⟩⟩ ?_
 refine AW.ret ?_
 obtain rfl := Option.some.inj h
 exact Kn.D Fm
theorem region_merge_spec {F : Nat} {x1207 : (List Span)} {x1208 : (List Span)} {x1209 : Bool → Bool → Option Bool} {r : (List Span)} (h : region_merge F x1207 x1208 x1209 = some r) :
  FSpec Tryz.prog 190 [AL x1207, AL x1208, .v (.c (.sem (CloOK Tryz.prog (FR_Bool_Bool_Bool x1209))))] [] (AL (α := Span) r) [] := by
 refine FI Tryz.func190 prog_mixed prog_lay fun C Fm => ?_
 unfold region_merge at h
 refine AW.SG0 Fm 1 [(0, AL x1207), (1, AL x1208), (2, .v (.c (.sem (CloOK Tryz.prog (FR_Bool_Bool_Bool x1209)))))] [] ?_
 refine AW.SW Fm [.m] (fun K => True) [(0, AL x1207), (1, AL x1208), (2, .v (.c (.sem (CloOK Tryz.prog (FR_Bool_Bool_Bool x1209))))), (7, ow 7)] [(7, AO (α := Int) ([] : List Int))] True.intro [(7, .arr 1 (0) (fun _ => []))] ⟨OLe.is ((Is.nil (α := Int))), ⟨⟩⟩ ?_
 refine AW.join (r := r) (fun z : (List Int) => region_merge_k1 F x1207 x1208 x1209 z) (fun z => [(0, AL x1207), (1, AL x1208), (2, .v (.c (.sem (CloOK Tryz.prog (FR_Bool_Bool_Bool x1209))))), (7, ow 7)]) (fun z => [(7, AO z)]) (fun v1224 h => ?_) (fun J1225 hJ1225 => ?_)
 ·refine AW.seq ?_
  obtain ⟨z1226, hz1227, h⟩ := bS h
  refine AW.G Fm [.s, .k (cE [(0, 7)] [] (.any) [(0, AO v1224)] [(0, AO z1226)])] (fun K => K 1 ∧ True) [(0, AL x1207), (1, AL x1208), (2, .v (.c (.sem (CloOK Tryz.prog (FR_Bool_Bool_Bool x1209))))), (7, ow 7)] [(7, AO z1226)] ⟨KAt.CC (sortI_spec hz1227) Tryz.call214 [(0, 7)], ⟨⟩⟩ ?_
  refine AW.seq ?_
  obtain ⟨z1228, hz1229, h⟩ := bS h
  refine AW.G Fm [.s, .k (cE [(0, 7), (100, 34)] [] (ow 100) [(0, AO z1226)] [(100, AO z1228)]), .s] (fun K => K 1 ∧ True) [(0, AL x1207), (1, AL x1208), (2, .v (.c (.sem (CloOK Tryz.prog (FR_Bool_Bool_Bool x1209))))), (7, ow 34)] [(34, AO z1228)] ⟨KAt.CC (slices_Compact_int_spec hz1229) Tryz.call241 [(0, 7), (100, 34)], ⟨⟩⟩ ?_
  refine AW.SW Fm [.m] (fun K => True) [(0, AL x1207), (1, AL x1208), (2, .v (.c (.sem (CloOK Tryz.prog (FR_Bool_Bool_Bool x1209))))), (7, ow 34), (10, ow 10)] [(10, AO (α := Span) ([] : List Span)), (34, AO z1228)] True.intro [(10, .arr 2 (0) (fun _ => []))] ⟨OLe.is ((Is.nil (α := Span))), ⟨⟩⟩ ?_
  refine AW.join (r := r) (fun z : (List Span) => region_merge_k5 F z) (fun z => [(10, ow 10)]) (fun z => [(10, AO z)]) (fun v1282 h => ?_) (fun J1283 hJ1283 => ?_)
  ·refine AW.SG0 Fm 2 [(6, ow 10)] [(10, AO v1282)] ?_
   refine AW.ret ?_
   obtain rfl := Option.some.inj h
   refine Kn.r Fm [(6, ow 10)] [(10, AO v1282)] (by kernel_rfl) ?_
   refine Kn.frz [(6, AL v1282)] [] (by kernel_rfl) (by kernel_rfl) (by kernel_rfl) ?_
   exact Kn.D Fm
  ·refine AW.SG0 Fm 1 [(0, AL x1207), (1, AL x1208), (2, .v (.c (.sem (CloOK Tryz.prog (FR_Bool_Bool_Bool x1209))))), (7, ow 34), (10, ow 10), (11, vi 1)] [(10, AO (α := Span) ([] : List Span)), (34, AO z1228)] ?_
   refine AW.block (Kn.r Fm [(0, AL x1207), (1, AL x1208), (2, .v (.c (.sem (CloOK Tryz.prog (FR_Bool_Bool_Bool x1209))))), (7, ow 34), (10, ow 10), (11, vi 1)] [(10, AO ([] : List Span)), (34, AO z1228)] (by kernel_rfl) ?_)
   refine AW.loopF (E' := fun z => [(0, AL x1207), (1, AL x1208), (2, .v (.c (.sem (CloOK Tryz.prog (FR_Bool_Bool_Bool x1209))))), (7, ow 34), (10, ow 10), (11, vi z.1)]) (S' := fun z => [(10, AO z.2), (34, AO z1228)]) (fun ag_region_merge_b2 z J1257 hJ1257 h => ?_) h
   obtain ⟨v1255, v1256⟩ := z
   refine AW.seq (AW.SG0 Fm 4 [(0, AL x1207), (1, AL x1208), (2, .v (.c (.sem (CloOK Tryz.prog (FR_Bool_Bool_Bool x1209))))), (7, ow 34), (10, ow 10), (11, vi v1255), (38, vb (decide (v1255 < (lI z1228))))] [(10, AO v1256), (34, AO z1228)] ?_)
   refine AW.cN h (fun hb1258 h => ?_) (fun hb1258 h => ?_)
   ·refine AW.skip (AW.join (r := r) (fun z : (List Span) => region_merge_k4 F v1255 ag_region_merge_b2 z) (fun z => [(0, AL x1207), (1, AL x1208), (2, .v (.c (.sem (CloOK Tryz.prog (FR_Bool_Bool_Bool x1209))))), (7, ow 34), (10, ow 10), (11, vi v1255)]) (fun z => [(10, AO z), (34, AO z1228)]) (fun v1279 h => ?_) (fun J1280 hJ1280 => ?_))
    ·obtain ⟨hg1281, h⟩ := gS h
     refine AW.pN Fm [.s, .s, .s] [(0, AL x1207), (1, AL x1208), (2, .v (.c (.sem (CloOK Tryz.prog (FR_Bool_Bool_Bool x1209))))), (7, ow 34), (10, ow 10), (11, vi (v1255 + 1))] [(10, AO v1279), (34, AO z1228)] (cT (cT hg1281)) ?_
     exact Kn.R Fm (hJ1257 ((v1255 + 1), v1279) h)
    ·refine AW.block ?_
     obtain ⟨hg1259, hg1260, h⟩ := gS2 h
     refine AW.SP Fm [.s, .s, .s, .s, .s, .s] [(0, AL x1207), (1, AL x1208), (2, .v (.c (.sem (CloOK Tryz.prog (FR_Bool_Bool_Bool x1209))))), (7, ow 34), (10, ow 10), (11, vi v1255), (12, vi (gl z1228 (v1255 - 1).toNat))] [(10, AO v1256), (34, AO z1228)] (cA (cT hg1259) (cA hg1260 (cT (toNat_lt hg1260)))) ?_
     refine AW.seq (AW.seq ?_)
     obtain ⟨z1261, hz1262, h⟩ := bS h
     obtain ⟨z1263, hz1264, h⟩ := bS h
     obtain ⟨z1265, hz1266, h⟩ := bS h
     refine AW.G Fm [.s, .s, .s, .k (cE [] [] (vb z1261) [] []), .s, .s, .k (cE [] [] (vb z1263) [] []), .k (sE (vb z1265)), .s] (fun K => K 3 ∧ K 6 ∧ K 7 ∧ True) [(0, AL x1207), (1, AL x1208), (2, .v (.c (.sem (CloOK Tryz.prog (FR_Bool_Bool_Bool x1209))))), (7, ow 34), (10, ow 10), (11, vi v1255), (12, vi (gl z1228 (v1255 - 1).toNat)), (54, vb (!z1265))] [(10, AO v1256), (34, AO z1228)] ⟨KAt.CC (region_inside_spec hz1262) Tryz.call243 [], KAt.CC (region_inside_spec hz1264) Tryz.call243 [], KAt.sem (F := (FR_Bool_Bool_Bool x1209)) (args := [vb z1261, vb z1263]) ⟨z1261, z1263, z1265, hz1266, rfl, rfl⟩ rfl (by kernel_rfl) (by kernel_rfl) (by kernel_rfl), ⟨⟩⟩ ?_
     refine AW.cN h (fun hb1267 h => ?_) (fun hb1267 h => ?_)
     ·exact AW.exit (Kn.R Fm (hJ1280 v1256 h))
     ·refine AW.skip (AW.SG0 Fm 3 [(0, AL x1207), (1, AL x1208), (2, .v (.c (.sem (CloOK Tryz.prog (FR_Bool_Bool_Bool x1209))))), (7, ow 34), (10, ow 10), (11, vi v1255), (12, vi (gl z1228 (v1255 - 1).toNat)), (13, vi (lI v1256))] [(10, AO v1256), (34, AO z1228)] ?_)
      refine AW.join (r := r) (fun z : Bool => region_merge_k3 F z1228 v1255 v1256 ag_region_merge_b2 z) (fun z => [(0, AL x1207), (1, AL x1208), (2, .v (.c (.sem (CloOK Tryz.prog (FR_Bool_Bool_Bool x1209))))), (7, ow 34), (10, ow 10), (11, vi v1255), (12, vi (gl z1228 (v1255 - 1).toNat)), (13, vi (lI v1256)), (68, vb z)]) (fun z => [(10, AO v1256), (34, AO z1228)]) (fun v1271 h => ?_) (fun J1272 hJ1272 => ?_)
      ·refine AW.cN h (fun hb1273 h => ?_) (fun hb1273 h => ?_)
       ·obtain ⟨hg1274, hg1275, hg1276, h⟩ := gS3 h
        refine AW.WP Fm [.s, .s, .s, .s, .s, .s, .s, .s, .s, .s] [(0, AL x1207), (1, AL x1208), (2, .v (.c (.sem (CloOK Tryz.prog (FR_Bool_Bool_Bool x1209))))), (7, ow 34), (10, ow 10), (11, vi v1255)] [(10, AO (α := Span) (List.set v1256 ((lI v1256) - 1).toNat (⟨(gl v1256 ((lI v1256) - 1).toNat).left_, (gl z1228 v1255.toNat)⟩ : Span))), (34, AO z1228)] (cA (cT hg1274) (cA hg1275 (cA (toNat_lt hg1275) (cA hg1276 (cT (toNat_lt hg1276)))))) [(10, .arr 2 (List.length (α := Span) v1256) (fun j => if j = ((lI v1256) - 1).toNat then splice ((LF (α := Span) v1256) ((lI v1256) - 1).toNat) 1 [.int .i64 (gl z1228 v1255.toNat)] else (LF (α := Span) v1256) j))] ⟨OLe.is (Is.set (Is.refl v1256) (toNat_lt hg1276) (⟨(gl v1256 ((lI v1256) - 1).toNat).left_, (gl z1228 v1255.toNat)⟩ : Span) (by kernel_rfl)), ⟨⟩⟩ ?_
        exact Kn.R Fm (hJ1280 (List.set v1256 ((lI v1256) - 1).toNat (⟨(gl v1256 ((lI v1256) - 1).toNat).left_, (gl z1228 v1255.toNat)⟩ : Span)) h)
       ·obtain ⟨hg1277, hg1278, h⟩ := gS2 h
        refine AW.WP Fm [.s, .s, .s, .s, .s, .s, .s, .w (AL (α := Span) ([(⟨(gl z1228 (v1255 - 1).toNat), (gl z1228 v1255.toNat)⟩ : Span)] : List Span)), .s, .s] [(0, AL x1207), (1, AL x1208), (2, .v (.c (.sem (CloOK Tryz.prog (FR_Bool_Bool_Bool x1209))))), (7, ow 34), (10, ow 86), (11, vi v1255)] [(34, AO z1228), (86, AO (α := Span) (v1256 ++ ([(⟨(gl z1228 (v1255 - 1).toNat), (gl z1228 v1255.toNat)⟩ : Span)] : List Span)))] (cA hg1277 (cA (toNat_lt hg1277) (cA (ALe.lst (.lit ([(⟨(gl z1228 (v1255 - 1).toNat), (gl z1228 v1255.toNat)⟩ : Span)] : List Span) (by kernel_rfl)) : ALe (.v (.c (.d (.lst 1 (litF 2 [.int .i64 (gl z1228 (v1255 - 1).toNat), .int .i64 (gl z1228 v1255.toNat)]))))) (AL (α := Span) ([(⟨(gl z1228 (v1255 - 1).toNat), (gl z1228 v1255.toNat)⟩ : Span)] : List Span))) (cT (cA hg1278 (cT (Is.refl ([(⟨(gl z1228 (v1255 - 1).toNat), (gl z1228 v1255.toNat)⟩ : Span)] : List Span) : Is (List.length (α := Span) ([(⟨(gl z1228 (v1255 - 1).toNat), (gl z1228 v1255.toNat)⟩ : Span)] : List Span)) (LF (α := Span) ([(⟨(gl z1228 (v1255 - 1).toNat), (gl z1228 v1255.toNat)⟩ : Span)] : List Span)) ([(⟨(gl z1228 (v1255 - 1).toNat), (gl z1228 v1255.toNat)⟩ : Span)] : List Span)).len)))))) [(86, .arr 2 ((List.length (α := Span) v1256) + (List.length (α := Span) ([(⟨(gl z1228 (v1255 - 1).toNat), (gl z1228 v1255.toNat)⟩ : Span)] : List Span))) (appF (List.length (α := Span) v1256) (LF (α := Span) v1256) (LF (α := Span) ([(⟨(gl z1228 (v1255 - 1).toNat), (gl z1228 v1255.toNat)⟩ : Span)] : List Span))))] ⟨OLe.is (Is.app (Is.refl v1256) (Is.refl ([(⟨(gl z1228 (v1255 - 1).toNat), (gl z1228 v1255.toNat)⟩ : Span)] : List Span))), ⟨⟩⟩ ?_
        exact Kn.RE Fm [(10, 86)] (hJ1280 (v1256 ++ ([(⟨(gl z1228 (v1255 - 1).toNat), (gl z1228 v1255.toNat)⟩ : Span)] : List Span)) h)
      ·rcases br_or h with ⟨hb1268, h⟩ | ⟨hb1268, h⟩
       ·obtain ⟨hg1269, hg1270, h⟩ := gS2 h
        refine AW.pN Fm [.s, .s, .w (vb true), .s, .s, .s, .s, .s, .s, .s, .s, .s] [(0, AL x1207), (1, AL x1208), (2, .v (.c (.sem (CloOK Tryz.prog (FR_Bool_Bool_Bool x1209))))), (7, ow 34), (10, ow 10), (11, vi v1255), (12, vi (gl z1228 (v1255 - 1).toNat)), (13, vi (lI v1256)), (60, ow 10), (61, vi (lI v1256)), (62, vi ((lI v1256) - 1)), (63, .v (.c (.pte 10 2 (((lI v1256) - 1).toNat) 0))), (64, .v (.c (.pte 10 2 (((lI v1256) - 1).toNat) 1))), (65, vi (gl v1256 ((lI v1256) - 1).toNat).right_), (66, vi (gl z1228 (v1255 - 1).toNat)), (67, vb (((gl v1256 ((lI v1256) - 1).toNat).right_) == (gl z1228 (v1255 - 1).toNat))), (68, vb (((gl v1256 ((lI v1256) - 1).toNat).right_) == (gl z1228 (v1255 - 1).toNat)))] [(10, AO v1256), (34, AO z1228)] (cA (ALe.bool hb1268) (cA (cT hg1269) (cA hg1270 (cT (toNat_lt hg1270))))) ?_
        exact Kn.R Fm (hJ1272 (((gl v1256 ((lI v1256) - 1).toNat).right_) == (gl z1228 (v1255 - 1).toNat)) h)
       ·refine AW.pN Fm [.s, .s, .w (vb false), .s, .s, .s, .s, .s, .s, .s, .s, .s] [(0, AL x1207), (1, AL x1208), (2, .v (.c (.sem (CloOK Tryz.prog (FR_Bool_Bool_Bool x1209))))), (7, ow 34), (10, ow 10), (11, vi v1255), (12, vi (gl z1228 (v1255 - 1).toNat)), (13, vi (lI v1256)), (68, vb false)] [(10, AO v1256), (34, AO z1228)] (cT (ALe.bool hb1268)) ?_
        exact Kn.R Fm (hJ1272 false h)
   ·exact AW.exit (Kn.R Fm (hJ1283 v1256 h))
 ·refine AW.seq ?_
  obtain ⟨z1210, hz1211, h⟩ := bS h
  refine AW.G Fm [.s, .s, .w (AL (α := (List Span)) ([x1207, x1208] : List (List Span))), .k (cE [(100, 17)] [] (ow 100) [] [(100, AO z1210)]), .s, .s] (fun K => (ALe (.v (.c (.d (.lst 2 (litF 1 [DL x1207, DL x1208]))))) (AL (α := (List Span)) ([x1207, x1208] : List (List Span)))) ∧ K 3 ∧ True) [(0, AL x1207), (1, AL x1208), (2, .v (.c (.sem (CloOK Tryz.prog (FR_Bool_Bool_Bool x1209))))), (7, ow 7), (17, ow 17), (18, vi (lI z1210)), (19, vi 0)] [(7, AO (α := Int) ([] : List Int)), (17, AO z1210)] ⟨ALe.lst (.lit ([x1207, x1208] : List (List Span)) (by kernel_rfl)), KAt.CC (slices_Concat_Span_spec hz1211) Tryz.call242 [(100, 17)], ⟨⟩⟩ ?_
  refine AW.block (Kn.r Fm [(0, AL x1207), (1, AL x1208), (2, .v (.c (.sem (CloOK Tryz.prog (FR_Bool_Bool_Bool x1209))))), (7, ow 7), (17, ow 17), (18, vi (lI z1210)), (19, vi 0)] [(7, AO ([] : List Int)), (17, AO z1210)] (by kernel_rfl) ?_)
  refine AW.loopF (E' := fun z => [(0, AL x1207), (1, AL x1208), (2, .v (.c (.sem (CloOK Tryz.prog (FR_Bool_Bool_Bool x1209))))), (7, ow 7), (17, ow 17), (18, vi (lI z1210)), (19, vi z.1)]) (S' := fun z => [(7, AO z.2), (17, AO z1210)]) (fun ag_region_merge_b0 z J1219 hJ1219 h => ?_) h
  obtain ⟨v1217, v1218⟩ := z
  refine AW.SG0 Fm 1 [(0, AL x1207), (1, AL x1208), (2, .v (.c (.sem (CloOK Tryz.prog (FR_Bool_Bool_Bool x1209))))), (7, ow 7), (17, ow 17), (18, vi (lI z1210)), (19, vi v1217), (20, vb (decide (v1217 < (lI z1210))))] [(7, AO v1218), (17, AO z1210)] ?_
  refine AW.seq (AW.cN h (fun hb1220 h => ?_) (fun hb1220 h => ?_))
  ·refine AW.skip (AW.seq (AW.block ?_))
   obtain ⟨hg1221, h⟩ := gS h
   refine AW.SP Fm [.s, .s, .s, .s] [(0, AL x1207), (1, AL x1208), (2, .v (.c (.sem (CloOK Tryz.prog (FR_Bool_Bool_Bool x1209))))), (7, ow 7), (9, pt 9), (17, ow 17), (18, vi (lI z1210)), (19, vi v1217)] [(7, AO v1218), (9, bx [ci ((gl z1210 v1217.toNat).left_), ci ((gl z1210 v1217.toNat).right_)]), (17, AO z1210)] (cA hg1221 (cT (toNat_lt hg1221))) ?_
   obtain ⟨hg1222, h⟩ := gS h
   refine AW.WP Fm [.s, .s, .s, .s, .s, .w (AL (α := Int) ([(gl z1210 v1217.toNat).left_, (gl z1210 v1217.toNat).right_] : List Int)), .s, .s] [(0, AL x1207), (1, AL x1208), (2, .v (.c (.sem (CloOK Tryz.prog (FR_Bool_Bool_Bool x1209))))), (7, ow 29), (17, ow 17), (18, vi (lI z1210)), (19, vi v1217)] [(17, AO z1210), (29, AO (α := Int) (v1218 ++ ([(gl z1210 v1217.toNat).left_, (gl z1210 v1217.toNat).right_] : List Int)))] (cA (ALe.lst (.lit ([(gl z1210 v1217.toNat).left_, (gl z1210 v1217.toNat).right_] : List Int) (by kernel_rfl)) : ALe (.v (.c (.d (.lst 2 (litF 1 [.int .i64 (gl z1210 v1217.toNat).left_, .int .i64 (gl z1210 v1217.toNat).right_]))))) (AL (α := Int) ([(gl z1210 v1217.toNat).left_, (gl z1210 v1217.toNat).right_] : List Int))) (cT (cA hg1222 (cT (Is.refl ([(gl z1210 v1217.toNat).left_, (gl z1210 v1217.toNat).right_] : List Int) : Is (List.length (α := Int) ([(gl z1210 v1217.toNat).left_, (gl z1210 v1217.toNat).right_] : List Int)) (LF (α := Int) ([(gl z1210 v1217.toNat).left_, (gl z1210 v1217.toNat).right_] : List Int)) ([(gl z1210 v1217.toNat).left_, (gl z1210 v1217.toNat).right_] : List Int)).len)))) [(29, .arr 1 ((List.length (α := Int) v1218) + (List.length (α := Int) ([(gl z1210 v1217.toNat).left_, (gl z1210 v1217.toNat).right_] : List Int))) (appF (List.length (α := Int) v1218) (LF (α := Int) v1218) (LF (α := Int) ([(gl z1210 v1217.toNat).left_, (gl z1210 v1217.toNat).right_] : List Int))))] ⟨OLe.is (Is.app (Is.refl v1218) (Is.refl ([(gl z1210 v1217.toNat).left_, (gl z1210 v1217.toNat).right_] : List Int))), ⟨⟩⟩ ?_
   obtain ⟨hg1223, h⟩ := gS h
   refine AW.pN Fm [.s, .s] [(0, AL x1207), (1, AL x1208), (2, .v (.c (.sem (CloOK Tryz.prog (FR_Bool_Bool_Bool x1209))))), (7, ow 29), (17, ow 17), (18, vi (lI z1210)), (19, vi (v1217 + 1))] [(17, AO z1210), (29, AO (α := Int) (v1218 ++ ([(gl z1210 v1217.toNat).left_, (gl z1210 v1217.toNat).right_] : List Int)))] (cT (cT hg1223)) ?_
   exact Kn.RE Fm [(7, 29)] (hJ1219 ((v1217 + 1), (v1218 ++ ([(gl z1210 v1217.toNat).left_, (gl z1210 v1217.toNat).right_] : List Int))) h)
  ·exact AW.exit (Kn.R Fm (hJ1225 v1218 h))
theorem region_Choose_1_spec {F : Nat} {x1284 : Int} {x1285 : (List Rect)} {x1286 : (List Rect)} {x1287 : Bool → Bool → Option Bool} {r : (List Span)} (h : region_Choose_1 F x1284 x1285 x1286 x1287 = some r) :
  FSpec Tryz.prog 189 [vi x1284, pt 0, pt 1, pt 2] [(0, .box true [.d (DL x1285)]), (1, .box true [.d (DL x1286)]), (2, .box true [.sem (CloOK Tryz.prog (FR_Bool_Bool_Bool x1287))])] (AL (α := Span) r) [(0, .box true [.d (DL x1285)]), (1, .box true [.d (DL x1286)]), (2, .box true [.sem (CloOK Tryz.prog (FR_Bool_Bool_Bool x1287))])] := by
 refine FI Tryz.func189 prog_mixed prog_lay fun C Fm => ?_
 unfold region_Choose_1 at h
 refine AW.SG0 Fm 1 [(0, vi x1284), (1, pt 0), (2, pt 1), (3, pt 2)] [(0, .box true [.d (DL x1285)]), (1, .box true [.d (DL x1286)]), (2, .box true [.sem (CloOK Tryz.prog (FR_Bool_Bool_Bool x1287))])] ?_
 refine AW.seq ?_
 obtain ⟨z1288, hz1289, h⟩ := bS h
 obtain ⟨z1290, hz1291, h⟩ := bS h
 obtain ⟨z1292, hz1293, h⟩ := bS h
 refine AW.G Fm [.s, .s, .k (cE [] [] (AL z1288) [] []), .s, .s, .k (cE [] [] (AL z1290) [] []), .s, .k (cE [] [] (AL z1292) [] []), .s] (fun K => K 2 ∧ K 5 ∧ K 7 ∧ True) [(5, AL z1292)] [(0, .box true [.d (DL x1285)]), (1, .box true [.d (DL x1286)]), (2, .box true [.sem (CloOK Tryz.prog (FR_Bool_Bool_Bool x1287))])] ⟨KAt.CC (region_Row_spec hz1289) Tryz.call191 [], KAt.CC (region_Row_spec hz1291) Tryz.call191 [], KAt.callX (region_merge_spec hz1293) Tryz.call190 [] [] [.tmp 8, .tmp 11, .tmp 12] rfl (by kernel_rfl) (by kernel_rfl) (by kernel_rfl) ⟨.p, .p, ArgT.semX (by kernel_rfl) (by kernel_rfl) (by kernel_rfl), ⟨⟩⟩, ⟨⟩⟩ ?_
 refine AW.ret ?_
 obtain rfl := Option.some.inj h
 exact Kn.D Fm
theorem region_Choose_spec {F : Nat} {x1294 : (List Rect)} {x1295 : (List Rect)} {x1296 : Bool → Bool → Option Bool} {r : (List Rect)} (h : region_Choose F x1294 x1295 x1296 = some r) :
  FSpec Tryz.prog 95 [AL x1294, AL x1295, .v (.c (.sem (CloOK Tryz.prog (FR_Bool_Bool_Bool x1296))))] [] (AL (α := Rect) r) [] := by
 refine FI Tryz.func95 prog_mixed prog_lay fun C Fm => ?_
 unfold region_Choose at h
 refine AW.SG0 Fm 4 [(3, pt 3), (4, pt 4), (5, pt 5)] [(3, bx [.d (DL x1294)]), (4, bx [.d (DL x1295)]), (5, bx [.sem (CloOK Tryz.prog (FR_Bool_Bool_Bool x1296))])] ?_
 refine AW.seq ?_
 obtain ⟨z1297, hz1298, h⟩ := bS h
 obtain ⟨z1299, hz1300, h⟩ := bS h
 refine AW.G Fm [.s, .s, .w (AL (α := (List Rect)) ([x1294, x1295] : List (List Rect))), .k (cE [] [] (AL z1297) [] []), .s, .k (cE [] [3, 4, 5] (AL z1299) [] []), .s] (fun K => (ALe (.v (.c (.d (.lst 2 (litF 1 [DL x1294, DL x1295]))))) (AL (α := (List Rect)) ([x1294, x1295] : List (List Rect)))) ∧ K 3 ∧ K 5 ∧ True) [(6, AL z1299)] [] ⟨ALe.lst (.lit ([x1294, x1295] : List (List Rect)) (by kernel_rfl)), KAt.CC (region_Cuts_spec hz1298) Tryz.call188 [], KAt.callX (region_Build_spec hz1300) Tryz.call187 [] [3, 4, 5] [.tmp 10, .tmp 11] rfl (by kernel_rfl) (by kernel_rfl) (by kernel_rfl) ⟨.p, ArgT.cloXP Tryz.call189 [[.d (DL x1294)], [.d (DL x1295)], [.sem (CloOK Tryz.prog (FR_Bool_Bool_Bool x1296))]] (fun args r hq => by obtain ⟨y0, y, hq, rfl, rfl⟩ := hq; exact Eq.mp (by kernel_rfl) (region_Choose_1_spec hq)) (fun args r hq => by obtain ⟨y0, y, hq, rfl, rfl⟩ := hq; rfl) (by kernel_rfl) [3, 4, 5] (by kernel_rfl) (by kernel_rfl) ⟨⟨.inl (by kernel_rfl), ⟨⟩⟩, ⟨.inl (by kernel_rfl), ⟨⟩⟩, ⟨.inr ⟨_, rfl⟩, ⟨⟩⟩, ⟨⟩⟩ (⟨⟨false, (by kernel_rfl)⟩, ⟨⟨false, (by kernel_rfl)⟩, ⟨⟨false, (by kernel_rfl)⟩, ⟨⟩⟩⟩⟩) (by kernel_rfl), ⟨⟩⟩, ⟨⟩⟩ ?_
 refine AW.ret ?_
 obtain rfl := Option.some.inj h
 exact Kn.D Fm
theorem history_Add_1_spec {F : Nat} {x1301 : Bool} {x1302 : Bool} {r : Bool} (h : history_Add_1 F x1301 x1302 = some r) :
  FSpec Tryz.prog 96 [vb x1301, vb x1302] [] (vb r) [] := by
 refine FI Tryz.func96 prog_mixed prog_lay fun C Fm => ?_
 unfold history_Add_1 at h
 refine AW.SG0 Fm 1 [(0, vb x1301), (1, vb x1302)] [] ?_
 refine AW.join (r := r) (fun z : Bool => history_Add_1_k0 F z) (fun z => [(4, vb z)]) (fun z => []) (fun v1304 h => ?_) (fun J1305 hJ1305 => ?_)
 ·refine AW.ret ?_
  obtain rfl := Option.some.inj h
  exact Kn.D Fm
 ·rcases br_or h with ⟨hb1303, h⟩ | ⟨hb1303, h⟩
  ·refine AW.pN Fm [.s, .w (vb true), .s, .s, .s] [(4, vb true)] [] (cT (ALe.bool hb1303)) ?_
   exact Kn.R Fm (hJ1305 true h)
  ·refine AW.pN Fm [.s, .w (vb false), .s, .s, .s] [(4, vb x1302)] [] (cT (ALe.bool hb1303)) ?_
   exact Kn.R Fm (hJ1305 x1302 h)
theorem history_Add_2_spec {F : Nat} {x1306 : Bool} {x1307 : Bool} {r : Bool} (h : history_Add_2 F x1306 x1307 = some r) :
  FSpec Tryz.prog 97 [vb x1306, vb x1307] [] (vb r) [] := by
 refine FI Tryz.func97 prog_mixed prog_lay fun C Fm => ?_
 unfold history_Add_2 at h
 refine AW.SG0 Fm 1 [(0, vb x1306), (1, vb x1307)] [] ?_
 refine AW.join (r := r) (fun z : Bool => history_Add_2_k0 F z) (fun z => [(4, vb z)]) (fun z => []) (fun v1309 h => ?_) (fun J1310 hJ1310 => ?_)
 ·refine AW.ret ?_
  obtain rfl := Option.some.inj h
  exact Kn.D Fm
 ·rcases br_or h with ⟨hb1308, h⟩ | ⟨hb1308, h⟩
  ·refine AW.pN Fm [.s, .w (vb true), .s, .s, .s, .s] [(4, vb (!x1307))] [] (cT (ALe.bool hb1308)) ?_
   exact Kn.R Fm (hJ1310 (!x1307) h)
  ·refine AW.pN Fm [.s, .w (vb false), .s, .s, .s, .s] [(4, vb false)] [] (cT (ALe.bool hb1308)) ?_
   exact Kn.R Fm (hJ1310 false h)
theorem slices_Clone_Rect_spec {F : Nat} {x1311 : (List Rect)} {r : (List Rect)} (h : slices_Clone_Rect F x1311 = some r) :
  FSpec Tryz.prog 192 [AL x1311] [] (AL (α := Rect) r) [] := by
 refine FI Tryz.func192 prog_mixed prog_lay fun C Fm => ?_
 unfold slices_Clone_Rect at h
 refine AW.SG0 Fm 1 [(0, AL x1311)] [] ?_
 refine AW.seq (AW.SG Fm [.s, .k (sE (nb (List.length x1311)))] (fun K => K 1 ∧ True) [(0, AL x1311), (4, .v (.c (.sem (nbP (List.length x1311)))))] [] ⟨KAt.nil (t := 31) (el := 103) (n := List.length x1311) (by kernel_rfl) rfl rfl (by kernel_rfl) (by kernel_rfl) (by kernel_rfl), ⟨⟩⟩ ?_)
 refine AW.condNil (n := List.length x1311) (by kernel_rfl) (fun hn1312 => ?_) ?_
 ·have h := brN_t h hn1312
  refine AW.SG0 Fm 1 [(2, .v (.c (.fl 0 fun _ => [])))] [] ?_
  refine AW.ret ?_
  obtain rfl := Option.some.inj h
  refine Kn.r Fm [(2, .v (.c (.fl 0 fun _ => [])))] [] (by kernel_rfl) ?_
  refine Kn.wk [(2, AL (α := Rect) [])] [] ⟨rfl, ALe.c (CLe.fl .nil), ⟨⟩⟩ True.intro ?_
  exact Kn.D Fm
 ·have h := brN_f h
  refine AW.skip ?_
  obtain ⟨hg1313, h⟩ := gS h
  refine AW.SV Fm [.m, .s, .s, .s] [(2, ow 7)] [(7, AO (α := Rect) (([] : List Rect) ++ x1311))] (cT (cA hg1313 (cT (Is.refl x1311 : Is (List.length (α := Rect) x1311) (LF (α := Rect) x1311) x1311).len))) [(7, .arr 4 ((0) + (List.length (α := Rect) x1311)) (appF (0) (litF 4 []) (LF (α := Rect) x1311)))] ⟨OLe.is (Is.app (Is.lit ([] : List Rect) (by kernel_rfl)) (Is.refl x1311)), ⟨⟩⟩ ?_
  refine AW.ret ?_
  obtain rfl := Option.some.inj h
  refine Kn.r Fm [(2, ow 7)] [(7, AO (α := Rect) (([] : List Rect) ++ x1311))] (by kernel_rfl) ?_
  refine Kn.frz [(2, AL (α := Rect) (([] : List Rect) ++ x1311))] [] (by kernel_rfl) (by kernel_rfl) (by kernel_rfl) ?_
  exact Kn.D Fm
theorem history_copied_spec {F : Nat} {x1314 : Record} {x1315 : (List Rect)} {r : Record} (h : history_copied F x1314 x1315 = some r) :
  FSpec Tryz.prog 98 [gE x1314, AL x1315] [] (gE r) [] := by
 refine FI Tryz.func98 prog_mixed prog_lay fun C Fm => ?_
 unfold history_copied at h
 refine AW.SG0 Fm 2 [(1, AL x1315), (2, pt 2), (4, pt 4)] [(2, bx (gC x1314)), (4, bx [ci 0, ci 0, .fl 0 fun _ => []])] ?_
 refine AW.seq ?_
 obtain ⟨z1316, hz1317, h⟩ := bS h
 refine AW.G Fm [.s, .k (cE [] [] (AL z1316) [] []), .s, .s, .s] (fun K => K 1 ∧ True) [(2, pt 2), (4, pt 4)] [(2, bx [ci x1314.year_, ci x1314.crop_, .d (DL z1316)]), (4, bx [ci 0, ci 0, .fl 0 fun _ => []])] ⟨KAt.CC (slices_Clone_Rect_spec hz1317) Tryz.call192 [], ⟨⟩⟩ ?_
 refine AW.SG0 Fm 2 [(4, pt 4)] [(4, bx [ci x1314.year_, ci x1314.crop_, .d (DL z1316)])] ?_
 refine AW.ret ?_
 obtain rfl := Option.some.inj h
 exact Kn.D Fm
theorem slices_DeleteFunc_Record_spec {F : Nat} {x1318 : (List Record)} {x1319 : Record → Option Bool} {r : (List Record)} (h : slices_DeleteFunc_Record F x1318 x1319 = some r) :
  FSpec Tryz.prog 99 [ow 0, .v (.c (.sem (CloOK Tryz.prog (FR_Record_Bool x1319))))] [(0, AO x1318)] (ow 100) [(100, AO (α := Record) r)] := by
 refine FI Tryz.func99 prog_mixed prog_lay fun C Fm => ?_
 unfold slices_DeleteFunc_Record at h
 refine AW.SG Fm [.m] (fun K => True) [(0, ow 0), (1, .v (.c (.sem (CloOK Tryz.prog (FR_Record_Bool x1319)))))] [(0, AO x1318)] True.intro ?_
 refine AW.seq ?_
 obtain ⟨z1320, hz1321, h⟩ := bS h
 refine AW.G Fm [.s, .s, .k (sE (vi z1320)), .s] (fun K => K 2 ∧ True) [(0, ow 0), (1, .v (.c (.sem (CloOK Tryz.prog (FR_Record_Bool x1319))))), (5, vi z1320)] [(0, AO x1318)] ⟨KAt.callBX (slices_IndexFunc_Record_spec hz1321) Tryz.call193 [0] [.tmp 8, .tmp 9] rfl (by kernel_rfl) (by kernel_rfl) ⟨ArgB.own 0 (es := 3) (n := List.length x1318) (f := LF x1318) (by kernel_rfl) (by kernel_rfl) (by kernel_rfl) (by kernel_rfl), ArgB.sem (by kernel_rfl) (by kernel_rfl), ⟨⟩⟩, ⟨⟩⟩ ?_
 refine AW.seq (AW.SG0 Fm 2 [(0, ow 0), (1, .v (.c (.sem (CloOK Tryz.prog (FR_Record_Bool x1319))))), (5, vi z1320), (12, vb (z1320 == (-1 : Int)))] [(0, AO x1318)] ?_)
 refine AW.cN h (fun hb1322 h => ?_) (fun hb1322 h => ?_)
 ·refine AW.SG0 Fm 2 [(4, ow 0)] [(0, AO x1318)] ?_
  refine AW.ret ?_
  obtain rfl := Option.some.inj h
  exact Kn.re Fm [(100, 0)] [(4, ow 100)] [(100, AO x1318)] (by kernel_rfl) (by kernel_rfl) (by kernel_rfl) (by kernel_rfl) (Kn.dn Fm (by kernel_rfl))
 ·refine AW.skip (AW.join (r := r) (fun z : Int × (List Record) => slices_DeleteFunc_Record_k2 F z.1 z.2) (fun z => [(0, ow 0), (5, vi z.1)]) (fun z => [(0, AO z.2)]) (fun z h => ?_) (fun J1353 hJ1353 => ?_))
  ·obtain ⟨v1351, v1352⟩ := z
   obtain ⟨hg1354, h⟩ := gS h
   refine AW.SW Fm [.s, .s, .k (rE { v := .v (.c (.sub 0 3 (0 + (v1351).toNat) ((List.length (α := Record) v1352) - (v1351).toNat))) }), .k (rE { v := .any, upd := some (0, .arr 3 (List.length (α := Record) v1352) (fun i => if (0 + (v1351).toNat) ≤ i ∧ i < (0 + (v1351).toNat) + ((List.length (α := Record) v1352) - (v1351).toNat) then (fun _ => [.int .i64 0, .int .i64 0, DL (α := Rect) []]) (i - (0 + (v1351).toNat)) else (LF (α := Record) v1352) i)) })] (fun K => K 2 ∧ K 3 ∧ True) [(0, ow 0), (5, vi v1351)] [(0, AO (α := Record) (clr v1352 (0 + (v1351).toNat) ((List.length (α := Record) v1352) - (v1351).toNat)))] ⟨KAt.vslice (l := (some v1351)) (u := none) (id := 0) (lo0 := 0) (n := (List.length (α := Record) v1352)) (N := List.length (α := Record) v1352) (f := LF (α := Record) v1352) prog_lay slT27 rfl rfl (by kernel_rfl) (by kernel_rfl) (by kernel_rfl) (by kernel_rfl) (by kernel_rfl) hg1354 (by kernel_rfl), KAt.vclear (id := 0) (lo0 := (0 + (v1351).toNat)) (n := ((List.length (α := Record) v1352) - (v1351).toNat)) (N := List.length (α := Record) v1352) (f := (LF (α := Record) v1352)) prog_lay slT27 [.int .i64 0, .int .i64 0, .lst 0 fun _ => []] [.int .i64 0, .int .i64 0, DL (α := Rect) []] ⟨DLe.refl _, DLe.refl _, DLe.nil _ _, ⟨⟩⟩ rfl rfl (by kernel_rfl) (Nat.succ_pos _) (by kernel_rfl) (by kernel_rfl) (by kernel_rfl) (by kernel_rfl) rfl, ⟨⟩⟩ [(0, .arr 3 (List.length (α := Record) v1352) (fun i => if (0 + (v1351).toNat) ≤ i ∧ i < (0 + (v1351).toNat) + ((List.length (α := Record) v1352) - (v1351).toNat) then (fun _ => [.int .i64 0, .int .i64 0, DL (α := Rect) []]) (i - (0 + (v1351).toNat)) else (LF (α := Record) v1352) i))] ⟨OLe.is (Is.clr (l := v1352) (0 + (v1351).toNat) ((List.length (α := Record) v1352) - (v1351).toNat) (zd := [.int .i64 0, .int .i64 0, DL (α := Rect) []]) (by kernel_rfl)), ⟨⟩⟩ ?_
   obtain ⟨hg1355, h⟩ := gS h
   refine AW.SV Fm [.s, .s, .m, .s] [(4, ow 41)] [(41, AO (α := Record) ((clr v1352 (0 + (v1351).toNat) ((List.length (α := Record) v1352) - (v1351).toNat)).take (v1351).toNat))] (cT hg1355) [(41, .arr 3 ((v1351).toNat) (LF (α := Record) (clr v1352 (0 + (v1351).toNat) ((List.length (α := Record) v1352) - (v1351).toNat))))] ⟨OLe.is (Is.take (Is.refl (clr v1352 (0 + (v1351).toNat) ((List.length (α := Record) v1352) - (v1351).toNat))) hg1355.2), ⟨⟩⟩ ?_
   refine AW.ret ?_
   obtain rfl := Option.some.inj h
   exact Kn.re Fm [(100, 41)] [(4, ow 100)] [(100, AO (α := Record) ((clr v1352 (0 + (v1351).toNat) ((List.length (α := Record) v1352) - (v1351).toNat)).take (v1351).toNat))] (by kernel_rfl) (by kernel_rfl) (by kernel_rfl) (by kernel_rfl) (Kn.dn Fm (by kernel_rfl))
  ·obtain ⟨hg1323, h⟩ := gS h
   refine AW.SP Fm [.s, .s, .s] [(0, ow 0), (1, .v (.c (.sem (CloOK Tryz.prog (FR_Record_Bool x1319))))), (5, vi z1320), (6, vi (z1320 + 1))] [(0, AO x1318)] (cT (cT hg1323)) ?_
   refine AW.block (AW.loopF (E' := fun z => [(0, ow 0), (1, .v (.c (.sem (CloOK Tryz.prog (FR_Record_Bool x1319))))), (5, vi z.1), (6, vi z.2.1)]) (S' := fun z => [(0, AO z.2.2)]) (fun ag_slices_DeleteFunc_Record_b0 z J1339 hJ1339 h => ?_) h)
   obtain ⟨v1336, v1337, v1338⟩ := z
   refine AW.seq (AW.SG0 Fm 4 [(0, ow 0), (1, .v (.c (.sem (CloOK Tryz.prog (FR_Record_Bool x1319))))), (5, vi v1336), (6, vi v1337), (19, vb (decide (v1337 < (lI v1338))))] [(0, AO v1338)] ?_)
   refine AW.cN h (fun hb1340 h => ?_) (fun hb1340 h => ?_)
   ·refine AW.skip (AW.join (r := r) (fun z : Int × (List Record) => slices_DeleteFunc_Record_k1 F v1337 ag_slices_DeleteFunc_Record_b0 z.1 z.2) (fun z => [(0, ow 0), (1, .v (.c (.sem (CloOK Tryz.prog (FR_Record_Bool x1319))))), (5, vi z.1), (6, vi v1337)]) (fun z => [(0, AO z.2)]) (fun z h => ?_) (fun J1349 hJ1349 => ?_))
    ·obtain ⟨v1347, v1348⟩ := z
     obtain ⟨hg1350, h⟩ := gS h
     refine AW.pN Fm [.s, .s, .s] [(0, ow 0), (1, .v (.c (.sem (CloOK Tryz.prog (FR_Record_Bool x1319))))), (5, vi v1347), (6, vi (v1337 + 1))] [(0, AO v1348)] (cT (cT hg1350)) ?_
     exact Kn.R Fm (hJ1339 (v1347, (v1337 + 1), v1348) h)
    ·refine AW.block ?_
     obtain ⟨hg1341, h⟩ := gS h
     refine AW.SP Fm [.s, .s, .s, .s, .s, .s] [(0, ow 0), (1, .v (.c (.sem (CloOK Tryz.prog (FR_Record_Bool x1319))))), (5, vi v1336), (6, vi v1337), (7, pt 7)] [(0, AO v1338), (7, bx [ci ((gl v1338 v1337.toNat).year_), ci ((gl v1338 v1337.toNat).crop_), .d (DL (α := Rect) (gl v1338 v1337.toNat).region_.rects_)])] (cA hg1341 (cT (toNat_lt hg1341))) ?_
     refine AW.seq ?_
     obtain ⟨z1342, hz1343, h⟩ := bS h
     refine AW.G Fm [.s, .s, .k (sE (vb z1342)), .s] (fun K => K 2 ∧ True) [(0, ow 0), (1, .v (.c (.sem (CloOK Tryz.prog (FR_Record_Bool x1319))))), (5, vi v1336), (6, vi v1337), (7, pt 7), (29, vb (!z1342))] [(0, AO v1338), (7, bx [ci ((gl v1338 v1337.toNat).year_), ci ((gl v1338 v1337.toNat).crop_), .d (DL (α := Rect) (gl v1338 v1337.toNat).region_.rects_)])] ⟨KAt.sem (F := (FR_Record_Bool x1319)) (args := [.v (.g [ci ((gl v1338 v1337.toNat).year_), ci ((gl v1338 v1337.toNat).crop_), .d (DL (α := Rect) (gl v1338 v1337.toNat).region_.rects_)])]) ⟨(gl v1338 v1337.toNat), z1342, hz1343, rfl, rfl⟩ rfl (by kernel_rfl) (by kernel_rfl) (by kernel_rfl), ⟨⟩⟩ ?_
     refine AW.cN h (fun hb1344 h => ?_) (fun hb1344 h => ?_)
     ·obtain ⟨hg1345, h⟩ := gS h
      refine AW.SV Fm [.s, .s, .s, .s, .s] [(0, ow 0), (1, .v (.c (.sem (CloOK Tryz.prog (FR_Record_Bool x1319))))), (5, vi v1336), (6, vi v1337)] [(0, AO (α := Record) (List.set v1338 v1336.toNat (gl v1338 v1337.toNat)))] (cA hg1345 (cT (toNat_lt hg1345))) [(0, .arr 3 (List.length (α := Record) v1338) (fun j => if j = v1336.toNat then splice ((LF (α := Record) v1338) v1336.toNat) 0 [.int .i64 (gl v1338 v1337.toNat).year_, .int .i64 (gl v1338 v1337.toNat).crop_, DL (α := Rect) (gl v1338 v1337.toNat).region_.rects_] else (LF (α := Record) v1338) j))] ⟨OLe.is (Is.set (Is.refl v1338) (toNat_lt hg1345) (gl v1338 v1337.toNat) (by kernel_rfl)), ⟨⟩⟩ ?_
      obtain ⟨hg1346, h⟩ := gS h
      refine AW.pN Fm [.s, .s, .s] [(0, ow 0), (1, .v (.c (.sem (CloOK Tryz.prog (FR_Record_Bool x1319))))), (5, vi (v1336 + 1)), (6, vi v1337)] [(0, AO (α := Record) (List.set v1338 v1336.toNat (gl v1338 v1337.toNat)))] (cT (cT hg1346)) ?_
      exact Kn.R Fm (hJ1349 ((v1336 + 1), (List.set v1338 v1336.toNat (gl v1338 v1337.toNat))) h)
     ·exact AW.skip (Kn.R Fm (hJ1349 (v1336, v1338) h))
   ·exact AW.exit (Kn.R Fm (hJ1353 (v1336, v1338) h))
theorem history_Add_3_spec {F : Nat} {x1356 : Record} {r : Bool} (h : history_Add_3 F x1356 = some r) :
  FSpec Tryz.prog 100 [gE x1356] [] (vb r) [] := by
 refine FI Tryz.func100 prog_mixed prog_lay fun C Fm => ?_
 unfold history_Add_3 at h
 refine AW.SG0 Fm 2 [(1, pt 1)] [(1, bx (gC x1356))] ?_
 refine AW.SG0 Fm 6 [(2, vb ((lI x1356.region_.rects_) == (0 : Int)))] [] ?_
 refine AW.ret ?_
 obtain rfl := Option.some.inj h
 exact Kn.D Fm
theorem history_Add_4_spec {F : Nat} {x1357 : Record} {r : Bool} (h : history_Add_4 F x1357 = some r) :
  FSpec Tryz.prog 102 [gE x1357] [] (vb r) [] := by
 refine FI Tryz.func102 prog_mixed prog_lay fun C Fm => ?_
 unfold history_Add_4 at h
 refine AW.SG0 Fm 2 [(1, pt 1)] [(1, bx (gC x1357))] ?_
 refine AW.SG0 Fm 6 [(2, vb (decide ((120 : Int) < (lI x1357.region_.rects_))))] [] ?_
 refine AW.ret ?_
 obtain rfl := Option.some.inj h
 exact Kn.D Fm
theorem slices_IndexFunc_Record_O_spec {F : Nat} {x1358 : (List Record)} {x1359 : Record → Option Bool} {r : (List Record) × Int} (h : slices_IndexFunc_Record_O F x1358 x1359 = some r) :
  FSpec Tryz.prog 193 [ow 0, .v (.c (.sem (CloOK Tryz.prog (FR_Record_Bool x1359))))] [(0, AO x1358)] (vi r.2) [(0, AO (α := Record) r.1)] := by
 refine FI Tryz.func193 prog_mixed prog_lay fun C Fm => ?_
 unfold slices_IndexFunc_Record_O at h
 refine AW.SG0 Fm 1 [(0, ow 0), (1, .v (.c (.sem (CloOK Tryz.prog (FR_Record_Bool x1359)))))] [(0, AO x1358)] ?_
 refine AW.join (r := r) (fun z : Unit => slices_IndexFunc_Record_O_k1 F x1358) (fun z => []) (fun z => [(0, AO x1358)]) (fun z h => ?_) (fun J1375 hJ1375 => ?_)
 ·refine AW.SG0 Fm 1 [(4, vi (-1 : Int))] [(0, AO x1358)] ?_
  refine AW.ret ?_
  obtain rfl := Option.some.inj h
  exact Kn.D Fm
 ·refine AW.SG0 Fm 3 [(0, ow 0), (1, .v (.c (.sem (CloOK Tryz.prog (FR_Record_Bool x1359))))), (7, vi (lI x1358)), (8, vi 0)] [(0, AO x1358)] ?_
  refine AW.block (AW.loopF (E' := fun z => [(0, ow 0), (1, .v (.c (.sem (CloOK Tryz.prog (FR_Record_Bool x1359))))), (7, vi (lI x1358)), (8, vi z)]) (S' := fun z => [(0, AO x1358)]) (fun ag_slices_IndexFunc_Record_O_b0 v1367 J1368 hJ1368 h => ?_) h)
  refine AW.SG0 Fm 1 [(0, ow 0), (1, .v (.c (.sem (CloOK Tryz.prog (FR_Record_Bool x1359))))), (7, vi (lI x1358)), (8, vi v1367), (9, vb (decide (v1367 < (lI x1358))))] [(0, AO x1358)] ?_
  refine AW.seq (AW.cN h (fun hb1369 h => ?_) (fun hb1369 h => ?_))
  ·refine AW.skip (AW.seq (AW.block (AW.SG0 Fm 2 [(0, ow 0), (1, .v (.c (.sem (CloOK Tryz.prog (FR_Record_Bool x1359))))), (5, vi v1367), (7, vi (lI x1358)), (8, vi v1367)] [(0, AO x1358)] ?_)))
   refine AW.seq ?_
   obtain ⟨hg1370, h⟩ := gS h
   obtain ⟨z1371, hz1372, h⟩ := bS h
   refine AW.G Fm [.s, .s, .s, .s, .s, .k (sE (vb z1371))] (fun K => _ ∧ _ ∧ K 5 ∧ True) [(0, ow 0), (1, .v (.c (.sem (CloOK Tryz.prog (FR_Record_Bool x1359))))), (5, vi v1367), (7, vi (lI x1358)), (8, vi v1367), (16, vb z1371)] [(0, AO x1358)] ⟨hg1370, (toNat_lt hg1370), KAt.sem (F := (FR_Record_Bool x1359)) (args := [.v (.g [ci ((gl x1358 v1367.toNat).year_), ci ((gl x1358 v1367.toNat).crop_), .d (DL (α := Rect) (gl x1358 v1367.toNat).region_.rects_)])]) ⟨(gl x1358 v1367.toNat), z1371, hz1372, rfl, rfl⟩ rfl (by kernel_rfl) (by kernel_rfl) (by kernel_rfl), ⟨⟩⟩ ?_
   refine AW.cN h (fun hb1373 h => ?_) (fun hb1373 h => ?_)
   ·refine AW.SG0 Fm 2 [(4, vi v1367)] [(0, AO x1358)] ?_
    refine AW.ret ?_
    obtain rfl := Option.some.inj h
    exact Kn.D Fm
   ·refine AW.skip ?_
    obtain ⟨hg1374, h⟩ := gS h
    refine AW.pN Fm [.s, .s] [(0, ow 0), (1, .v (.c (.sem (CloOK Tryz.prog (FR_Record_Bool x1359))))), (7, vi (lI x1358)), (8, vi (v1367 + 1))] [(0, AO x1358)] (cT (cT hg1374)) ?_
    exact Kn.R Fm (hJ1368 (v1367 + 1) h)
  ·exact AW.exit (Kn.R Fm (hJ1375 () h))
theorem slices_ContainsFunc_Record_O_spec {F : Nat} {x1376 : (List Record)} {x1377 : Record → Option Bool} {r : (List Record) × Bool} (h : slices_ContainsFunc_Record_O F x1376 x1377 = some r) :
  FSpec Tryz.prog 101 [ow 0, .v (.c (.sem (CloOK Tryz.prog (FR_Record_Bool x1377))))] [(0, AO x1376)] (vb r.2) [(0, AO (α := Record) r.1)] := by
 refine FI Tryz.func101 prog_mixed prog_lay fun C Fm => ?_
 unfold slices_ContainsFunc_Record_O at h
 refine AW.SG0 Fm 1 [(0, ow 0), (1, .v (.c (.sem (CloOK Tryz.prog (FR_Record_Bool x1377)))))] [(0, AO x1376)] ?_
 refine AW.seq ?_
 obtain ⟨z1378, hz1379, h⟩ := bS h
 refine AW.G Fm [.s, .s, .k (cE [(0, 0)] [] (vi z1378.2) [(0, AO x1376)] [(0, AO z1378.1)]), .s, .s] (fun K => K 2 ∧ True) [(4, vb (decide ((0 : Int) ≤ z1378.2)))] [(0, AO z1378.1)] ⟨KAt.callX (slices_IndexFunc_Record_O_spec hz1379) Tryz.call193 [(0, 0)] [] [.tmp 5, .tmp 6] rfl (by kernel_rfl) (by kernel_rfl) (by kernel_rfl) ⟨.p, ArgT.semX (by kernel_rfl) (by kernel_rfl) (by kernel_rfl), ⟨⟩⟩, ⟨⟩⟩ ?_
 refine AW.ret ?_
 obtain rfl := Option.some.inj h
 exact Kn.D Fm
end Go.Ab
end
