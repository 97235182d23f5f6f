/- The code follows the plain programs: whenever the plain program has a result. -/
import Derived.Test.YtoeflmnpedachaaGreatSpA
import Derived.Test.YtoeflmnpedachaaGreatBaA
set_option linter.unusedVariables false
set_option linter.unusedSimpArgs false
section
namespace Go.Ab
open Go.Proofs
set_option linter.unusedVariables false
set_option maxRecDepth 100000
theorem region_Choose_spec {F : Nat} {a : (List Rect)} {b : (List Rect)} {e : Bool → Bool → Option Bool} {r : (List Rect)} (h : region_Choose F a b e = some r) :
  FSpec Tryz.prog 93 [AL a, AL b, .v (.c (.sem (CloOK Tryz.prog (FR_Bool_Bool_Bool e))))] [] (AL (α := Rect) r) [] := by
 refine FI Tryz.func93 prog_mixed prog_lay fun C Fm => ?_
 unfold region_Choose at h
 refine AW.SG0 Fm 4 [(3, pt 3), (4, pt 4), (5, pt 5)] [(3, bx [.d (DL a)]), (4, bx [.d (DL b)]), (5, bx [.sem (CloOK Tryz.prog (FR_Bool_Bool_Bool e))])] ?_
 refine AW.seq ?_
 obtain ⟨m, j, h⟩ := bS h
 obtain ⟨i, l, h⟩ := bS h
 refine AW.G Fm [.s, .s, .w (AL (α := (List Rect)) ([a, b] : List (List Rect))), .k (cE [] [] (AL m) [] []), .s, .k (cE [] [3, 4, 5] (AL i) [] []), .s] (fun K => (ALe (.v (.c (.d (.lst 2 (litF 1 [DL a, DL b]))))) (AL (α := (List Rect)) ([a, b] : List (List Rect)))) ∧ K 3 ∧ K 5 ∧ True) [(6, AL i)] [] ⟨ALe.lst (.lit ([a, b] : List (List Rect)) (by kernel_rfl)), KAt.CC (region_Cuts_spec j) Tryz.call177 [], KAt.callX (region_Build_spec l) Tryz.call176 [] [3, 4, 5] [.tmp 10, .tmp 11] rfl (by kernel_rfl) (by kernel_rfl) (by kernel_rfl) ⟨.p, ArgT.cloXP Tryz.call178 [[.d (DL a)], [.d (DL b)], [.sem (CloOK Tryz.prog (FR_Bool_Bool_Bool e))]] (fun args r hq => by obtain ⟨y0, y, hq, rfl, rfl⟩ := hq; exact Eq.mp (by kernel_rfl) (region_Choose_1_spec hq)) (fun args r hq => by obtain ⟨y0, y, hq, rfl, rfl⟩ := hq; rfl) (by kernel_rfl) [3, 4, 5] (by kernel_rfl) (by kernel_rfl) ⟨⟨.inl (by kernel_rfl), ⟨⟩⟩, ⟨.inl (by kernel_rfl), ⟨⟩⟩, ⟨.inr ⟨_, rfl⟩, ⟨⟩⟩, ⟨⟩⟩ (⟨⟨false, (by kernel_rfl)⟩, ⟨⟨false, (by kernel_rfl)⟩, ⟨⟨false, (by kernel_rfl)⟩, ⟨⟩⟩⟩⟩) (by kernel_rfl), ⟨⟩⟩, ⟨⟩⟩ ?_
 refine AW.ret ?_
 obtain rfl := Option.some.inj h
 exact Kn.D Fm
theorem region_Limited_spec {F : Nat} {a : (List Rect)} {r : Region × Int} (h : region_Limited F a = some r) :
  FSpec Tryz.prog 140 [AL a] [] (.t [.g [.d (DL (α := Rect) r.1.rects_)], .c (ci r.2)]) [] := by
 refine FI Tryz.func140 prog_mixed prog_lay fun C Fm => ?_
 unfold region_Limited at h
 refine AW.SG0 Fm 2 [(0, AL a), (2, pt 2)] [(2, bx [.fl 0 fun _ => []])] ?_
 refine AW.seq (AW.SG0 Fm 3 [(0, AL a), (2, pt 2), (6, vb (decide ((120 : Int) < (lI a))))] [(2, bx [.fl 0 fun _ => []])] ?_)
 refine AW.cN h (fun b h => ?_) (fun b h => ?_)
 ·refine AW.SP Fm [.w (.v (.g [.d (DL (α := Rect) [])])), .s, .s] [(2, pt 2), (3, vi 1)] [(2, bx [.d (DL (α := Rect) [])])] (cT (ALe.g ⟨CLe.fl .nil, ⟨⟩⟩ : ALe (.v (.g [.fl 0 fun _ => []])) (.v (.g [.d (DL (α := Rect) [])])))) ?_
  refine AW.ret ?_
  obtain rfl := Option.some.inj h
  exact Kn.D Fm
 ·refine AW.skip (AW.SG0 Fm 4 [(2, pt 2), (3, vi 0)] [(2, bx [.d (DL a)])] ?_)
  refine AW.ret ?_
  obtain rfl := Option.some.inj h
  exact Kn.D Fm
theorem region_Joined_spec {F : Nat} {b : (List Rect)} {r : Region × Int} (h : region_Joined F b = some r) :
  FSpec Tryz.prog 111 [AL b] [] (.t [.g [.d (DL (α := Rect) r.1.rects_)], .c (ci r.2)]) [] := by
 refine FI Tryz.func111 prog_mixed prog_lay fun C Fm => ?_
 unfold region_Joined at h
 refine AW.SG0 Fm 2 [(0, AL b), (2, pt 2)] [(2, bx [.fl 0 fun _ => []])] ?_
 refine AW.seq ?_
 obtain ⟨j, e, h⟩ := bS h
 obtain ⟨a, i, h⟩ := bS h
 refine AW.G Fm [.s, .k (cE [] [] (AL j) [] []), .k (cE [] [] (.t [.g [.d (DL a.1.rects_)], .c (ci a.2)]) [] []), .s, .s, .s, .s] (fun K => K 1 ∧ K 2 ∧ True) [(2, pt 2), (3, vi a.2)] [(2, bx [.d (DL a.1.rects_)])] ⟨KAt.CC (region_canonical_spec e) Tryz.call175 [], KAt.CC (region_Limited_spec i) Tryz.call140 [], ⟨⟩⟩ ?_
 refine AW.ret ?_
 obtain rfl := Option.some.inj h
 exact Kn.D Fm
theorem ref04_Same_spec {F : Nat} {a : Region} {b : Region} {r : Bool} (h : ref04_Same F a b = some r) :
  FSpec Tryz.prog 42 [.v (.g [.d (DL a.rects_)]), .v (.g [.d (DL b.rects_)])] [] (vb r) [] := by
 refine FI Tryz.func42 prog_mixed prog_lay fun C Fm => ?_
 unfold ref04_Same at h
 refine AW.SG0 Fm 3 [(2, pt 2), (3, pt 3)] [(2, bx [.d (DL a.rects_)]), (3, bx [.d (DL b.rects_)])] ?_
 refine AW.seq ?_
 obtain ⟨c, e, h⟩ := bS h
 refine AW.G Fm [.s, .s, .s, .s, .k (cE [] [] (vb c) [] []), .s] (fun K => K 4 ∧ True) [(4, vb c)] [] ⟨KAt.CC (ref04_Rects_spec e) Tryz.call127 [], ⟨⟩⟩ ?_
 refine AW.ret ?_
 obtain rfl := Option.some.inj h
 exact Kn.D Fm
theorem keep_Tape_Range_spec {F : Nat} {a : Tape} {b : Int} {d : Int} {r : Tape × Int} (h : keep_Tape_Range F a b d = some r) :
  FSpec Tryz.prog 70 [pt 0, vi b, vi d] [(0, bx (gC a))] (vi r.2) [(0, bx (gC r.1))] := by
 refine FI Tryz.func70 prog_mixed prog_lay fun C Fm => ?_
 unfold keep_Tape_Range at h
 refine AW.SG0 Fm 1 [(0, pt 0), (1, vi b), (2, vi d)] [(0, bx (gC a))] ?_
 refine AW.seq ?_
 obtain ⟨e, i, h⟩ := gS2 h
 obtain ⟨c, l, h⟩ := bS h
 obtain ⟨j, h⟩ := gS h
 refine AW.G Fm [.s, .s, .s, .s, .s, .s, .k (cE [(0, 0)] [] (vi c.2) [(0, bx (gC a))] [(0, bx (gC c.1))]), .s, .s] (fun K => (_ ∧ True) ∧ (_ ∧ True) ∧ K 6 ∧ (_ ∧ True) ∧ True) [(6, vi (b + c.2))] [(0, bx (gC c.1))] ⟨⟨e, ⟨⟩⟩, ⟨i, ⟨⟩⟩, KAt.CC (keep_Tape_Next_spec l) Tryz.call16 [(0, 0)], ⟨j, ⟨⟩⟩, ⟨⟩⟩ ?_
 refine AW.ret ?_
 obtain rfl := Option.some.inj h
 exact Kn.D Fm
theorem keep_Tape_Crops_spec {F : Nat} {n : Tape} {r : Tape × (List Crop)} (h : keep_Tape_Crops F n = some r) :
  FSpec Tryz.prog 15 [pt 0] [(0, bx (gC n))] (AL (α := Crop) r.2) [(0, bx (gC r.1))] := by
 refine FI Tryz.func15 prog_mixed prog_lay fun C Fm => ?_
 unfold keep_Tape_Crops at h
 refine AW.SG0 Fm 1 [(0, pt 0)] [(0, bx (gC n))] ?_
 refine AW.SP Fm [.w (AL (α := ByteArray) ([(ByteArray.mk #[98, 97, 114, 108, 101, 121]), (ByteArray.mk #[99, 108, 111, 118, 101, 114]), (ByteArray.mk #[103, 114, 97, 115, 115]), (ByteArray.mk #[109, 97, 105, 122, 101]), (ByteArray.mk #[111, 97, 116, 115]), (ByteArray.mk #[114, 121, 101]), (ByteArray.mk #[118, 101, 116, 99, 104]), (ByteArray.mk #[119, 104, 101, 97, 116])] : List ByteArray)), .s] [(0, pt 0), (3, AL (α := ByteArray) ([(ByteArray.mk #[98, 97, 114, 108, 101, 121]), (ByteArray.mk #[99, 108, 111, 118, 101, 114]), (ByteArray.mk #[103, 114, 97, 115, 115]), (ByteArray.mk #[109, 97, 105, 122, 101]), (ByteArray.mk #[111, 97, 116, 115]), (ByteArray.mk #[114, 121, 101]), (ByteArray.mk #[118, 101, 116, 99, 104]), (ByteArray.mk #[119, 104, 101, 97, 116])] : List ByteArray))] [(0, bx (gC n))] (cT (ALe.lst (.lit ([(ByteArray.mk #[98, 97, 114, 108, 101, 121]), (ByteArray.mk #[99, 108, 111, 118, 101, 114]), (ByteArray.mk #[103, 114, 97, 115, 115]), (ByteArray.mk #[109, 97, 105, 122, 101]), (ByteArray.mk #[111, 97, 116, 115]), (ByteArray.mk #[114, 121, 101]), (ByteArray.mk #[118, 101, 116, 99, 104]), (ByteArray.mk #[119, 104, 101, 97, 116])] : List ByteArray) (by kernel_rfl)) : ALe (.v (.c (.d (.lst 8 (litF 1 [.str (ByteArray.mk #[98, 97, 114, 108, 101, 121]), .str (ByteArray.mk #[99, 108, 111, 118, 101, 114]), .str (ByteArray.mk #[103, 114, 97, 115, 115]), .str (ByteArray.mk #[109, 97, 105, 122, 101]), .str (ByteArray.mk #[111, 97, 116, 115]), .str (ByteArray.mk #[114, 121, 101]), .str (ByteArray.mk #[118, 101, 116, 99, 104]), .str (ByteArray.mk #[119, 104, 101, 97, 116])]))))) (AL (α := ByteArray) ([(ByteArray.mk #[98, 97, 114, 108, 101, 121]), (ByteArray.mk #[99, 108, 111, 118, 101, 114]), (ByteArray.mk #[103, 114, 97, 115, 115]), (ByteArray.mk #[109, 97, 105, 122, 101]), (ByteArray.mk #[111, 97, 116, 115]), (ByteArray.mk #[114, 121, 101]), (ByteArray.mk #[118, 101, 116, 99, 104]), (ByteArray.mk #[119, 104, 101, 97, 116])] : List ByteArray)))) ?_
 refine AW.SW Fm [.m] (fun K => True) [(0, pt 0), (3, AL (α := ByteArray) ([(ByteArray.mk #[98, 97, 114, 108, 101, 121]), (ByteArray.mk #[99, 108, 111, 118, 101, 114]), (ByteArray.mk #[103, 114, 97, 115, 115]), (ByteArray.mk #[109, 97, 105, 122, 101]), (ByteArray.mk #[111, 97, 116, 115]), (ByteArray.mk #[114, 121, 101]), (ByteArray.mk #[118, 101, 116, 99, 104]), (ByteArray.mk #[119, 104, 101, 97, 116])] : List ByteArray)), (4, ow 4)] [(0, bx (gC n)), (4, AO (α := Crop) ([] : List Crop))] True.intro [(4, .arr 3 (0) (fun _ => []))] ⟨OLe.is ((Is.nil (α := Crop))), ⟨⟩⟩ ?_
 refine AW.join (r := r) (fun z : (List Crop) × (List Int) × Int => keep_Tape_Crops_k1 F z.1 z.2.1 z.2.2) (fun z => [(4, ow 4)]) (fun z => [(0, bx [.d (DL z.2.1), ci z.2.2]), (4, AO z.1)]) (fun z h => ?_) (fun U B => ?_)
 ·obtain ⟨q, t, u⟩ := z
  refine AW.SG0 Fm 2 [(2, ow 4)] [(0, bx [.d (DL t), ci u]), (4, AO q)] ?_
  refine AW.ret ?_
  obtain rfl := Option.some.inj h
  refine Kn.r Fm [(2, ow 4)] [(4, AO q), (0, bx [.d (DL t), ci u])] (by kernel_rfl) ?_
  refine Kn.frz [(2, AL q)] [(0, bx [.d (DL t), ci u])] (by kernel_rfl) (by kernel_rfl) (by kernel_rfl) ?_
  exact Kn.D Fm
 ·refine AW.seq ?_
  obtain ⟨a, N, h⟩ := bS h
  obtain ⟨y, h⟩ := gS h
  refine AW.G Fm [.s, .s, .k (cE [(0, 0)] [] (vi a.2) [(0, bx (gC n))] [(0, bx (gC a.1))]), .w (AL (α := ByteArray) (([(ByteArray.mk #[98, 97, 114, 108, 101, 121]), (ByteArray.mk #[99, 108, 111, 118, 101, 114]), (ByteArray.mk #[103, 114, 97, 115, 115]), (ByteArray.mk #[109, 97, 105, 122, 101]), (ByteArray.mk #[111, 97, 116, 115]), (ByteArray.mk #[114, 121, 101]), (ByteArray.mk #[118, 101, 116, 99, 104]), (ByteArray.mk #[119, 104, 101, 97, 116])] : List ByteArray).take a.2.toNat)), .s, .s] (fun K => K 2 ∧ (((sl (List.length ([(ByteArray.mk #[98, 97, 114, 108, 101, 121]), (ByteArray.mk #[99, 108, 111, 118, 101, 114]), (ByteArray.mk #[103, 114, 97, 115, 115]), (ByteArray.mk #[109, 97, 105, 122, 101]), (ByteArray.mk #[111, 97, 116, 115]), (ByteArray.mk #[114, 121, 101]), (ByteArray.mk #[118, 101, 116, 99, 104]), (ByteArray.mk #[119, 104, 101, 97, 116])] : List ByteArray)) (LF ([(ByteArray.mk #[98, 97, 114, 108, 101, 121]), (ByteArray.mk #[99, 108, 111, 118, 101, 114]), (ByteArray.mk #[103, 114, 97, 115, 115]), (ByteArray.mk #[109, 97, 105, 122, 101]), (ByteArray.mk #[111, 97, 116, 115]), (ByteArray.mk #[114, 121, 101]), (ByteArray.mk #[118, 101, 116, 99, 104]), (ByteArray.mk #[119, 104, 101, 97, 116])] : List ByteArray)) none (some a.2)).2 ∧ ∀ j, j < List.length ([(ByteArray.mk #[98, 97, 114, 108, 101, 121]), (ByteArray.mk #[99, 108, 111, 118, 101, 114]), (ByteArray.mk #[103, 114, 97, 115, 115]), (ByteArray.mk #[109, 97, 105, 122, 101]), (ByteArray.mk #[111, 97, 116, 115]), (ByteArray.mk #[114, 121, 101]), (ByteArray.mk #[118, 101, 116, 99, 104]), (ByteArray.mk #[119, 104, 101, 97, 116])] : List ByteArray) → (LF ([(ByteArray.mk #[98, 97, 114, 108, 101, 121]), (ByteArray.mk #[99, 108, 111, 118, 101, 114]), (ByteArray.mk #[103, 114, 97, 115, 115]), (ByteArray.mk #[109, 97, 105, 122, 101]), (ByteArray.mk #[111, 97, 116, 115]), (ByteArray.mk #[114, 121, 101]), (ByteArray.mk #[118, 101, 116, 99, 104]), (ByteArray.mk #[119, 104, 101, 97, 116])] : List ByteArray) j).length = 1)) ∧ (ALe (.v (.c (.d (.lst (sl (List.length ([(ByteArray.mk #[98, 97, 114, 108, 101, 121]), (ByteArray.mk #[99, 108, 111, 118, 101, 114]), (ByteArray.mk #[103, 114, 97, 115, 115]), (ByteArray.mk #[109, 97, 105, 122, 101]), (ByteArray.mk #[111, 97, 116, 115]), (ByteArray.mk #[114, 121, 101]), (ByteArray.mk #[118, 101, 116, 99, 104]), (ByteArray.mk #[119, 104, 101, 97, 116])] : List ByteArray)) (LF ([(ByteArray.mk #[98, 97, 114, 108, 101, 121]), (ByteArray.mk #[99, 108, 111, 118, 101, 114]), (ByteArray.mk #[103, 114, 97, 115, 115]), (ByteArray.mk #[109, 97, 105, 122, 101]), (ByteArray.mk #[111, 97, 116, 115]), (ByteArray.mk #[114, 121, 101]), (ByteArray.mk #[118, 101, 116, 99, 104]), (ByteArray.mk #[119, 104, 101, 97, 116])] : List ByteArray)) none (some a.2)).1.1 (sl (List.length ([(ByteArray.mk #[98, 97, 114, 108, 101, 121]), (ByteArray.mk #[99, 108, 111, 118, 101, 114]), (ByteArray.mk #[103, 114, 97, 115, 115]), (ByteArray.mk #[109, 97, 105, 122, 101]), (ByteArray.mk #[111, 97, 116, 115]), (ByteArray.mk #[114, 121, 101]), (ByteArray.mk #[118, 101, 116, 99, 104]), (ByteArray.mk #[119, 104, 101, 97, 116])] : List ByteArray)) (LF ([(ByteArray.mk #[98, 97, 114, 108, 101, 121]), (ByteArray.mk #[99, 108, 111, 118, 101, 114]), (ByteArray.mk #[103, 114, 97, 115, 115]), (ByteArray.mk #[109, 97, 105, 122, 101]), (ByteArray.mk #[111, 97, 116, 115]), (ByteArray.mk #[114, 121, 101]), (ByteArray.mk #[118, 101, 116, 99, 104]), (ByteArray.mk #[119, 104, 101, 97, 116])] : List ByteArray)) none (some a.2)).1.2)))) (AL (α := ByteArray) (([(ByteArray.mk #[98, 97, 114, 108, 101, 121]), (ByteArray.mk #[99, 108, 111, 118, 101, 114]), (ByteArray.mk #[103, 114, 97, 115, 115]), (ByteArray.mk #[109, 97, 105, 122, 101]), (ByteArray.mk #[111, 97, 116, 115]), (ByteArray.mk #[114, 121, 101]), (ByteArray.mk #[118, 101, 116, 99, 104]), (ByteArray.mk #[119, 104, 101, 97, 116])] : List ByteArray).take a.2.toNat))) ∧ True) [(0, pt 0), (4, ow 4), (11, AL (α := ByteArray) (([(ByteArray.mk #[98, 97, 114, 108, 101, 121]), (ByteArray.mk #[99, 108, 111, 118, 101, 114]), (ByteArray.mk #[103, 114, 97, 115, 115]), (ByteArray.mk #[109, 97, 105, 122, 101]), (ByteArray.mk #[111, 97, 116, 115]), (ByteArray.mk #[114, 121, 101]), (ByteArray.mk #[118, 101, 116, 99, 104]), (ByteArray.mk #[119, 104, 101, 97, 116])] : List ByteArray).take a.2.toNat)), (12, vi ((List.length (([(ByteArray.mk #[98, 97, 114, 108, 101, 121]), (ByteArray.mk #[99, 108, 111, 118, 101, 114]), (ByteArray.mk #[103, 114, 97, 115, 115]), (ByteArray.mk #[109, 97, 105, 122, 101]), (ByteArray.mk #[111, 97, 116, 115]), (ByteArray.mk #[114, 121, 101]), (ByteArray.mk #[118, 101, 116, 99, 104]), (ByteArray.mk #[119, 104, 101, 97, 116])] : List ByteArray).take a.2.toNat) : Nat) : Int)), (13, vi 0)] [(0, bx (gC a.1)), (4, AO (α := Crop) ([] : List Crop))] ⟨KAt.CC (keep_Tape_Range_spec N) Tryz.call70 [(0, 0)], ⟨y, (Is.refl ([(ByteArray.mk #[98, 97, 114, 108, 101, 121]), (ByteArray.mk #[99, 108, 111, 118, 101, 114]), (ByteArray.mk #[103, 114, 97, 115, 115]), (ByteArray.mk #[109, 97, 105, 122, 101]), (ByteArray.mk #[111, 97, 116, 115]), (ByteArray.mk #[114, 121, 101]), (ByteArray.mk #[118, 101, 116, 99, 104]), (ByteArray.mk #[119, 104, 101, 97, 116])] : List ByteArray)).len⟩, ALe.lst (sl_is ([(ByteArray.mk #[98, 97, 114, 108, 101, 121]), (ByteArray.mk #[99, 108, 111, 118, 101, 114]), (ByteArray.mk #[103, 114, 97, 115, 115]), (ByteArray.mk #[109, 97, 105, 122, 101]), (ByteArray.mk #[111, 97, 116, 115]), (ByteArray.mk #[114, 121, 101]), (ByteArray.mk #[118, 101, 116, 99, 104]), (ByteArray.mk #[119, 104, 101, 97, 116])] : List ByteArray) none (some a.2) y), ⟨⟩⟩ ?_
  refine AW.block (Kn.r Fm [(0, pt 0), (4, ow 4), (11, AL (α := ByteArray) (([(ByteArray.mk #[98, 97, 114, 108, 101, 121]), (ByteArray.mk #[99, 108, 111, 118, 101, 114]), (ByteArray.mk #[103, 114, 97, 115, 115]), (ByteArray.mk #[109, 97, 105, 122, 101]), (ByteArray.mk #[111, 97, 116, 115]), (ByteArray.mk #[114, 121, 101]), (ByteArray.mk #[118, 101, 116, 99, 104]), (ByteArray.mk #[119, 104, 101, 97, 116])] : List ByteArray).take a.2.toNat)), (12, vi ((List.length (([(ByteArray.mk #[98, 97, 114, 108, 101, 121]), (ByteArray.mk #[99, 108, 111, 118, 101, 114]), (ByteArray.mk #[103, 114, 97, 115, 115]), (ByteArray.mk #[109, 97, 105, 122, 101]), (ByteArray.mk #[111, 97, 116, 115]), (ByteArray.mk #[114, 121, 101]), (ByteArray.mk #[118, 101, 116, 99, 104]), (ByteArray.mk #[119, 104, 101, 97, 116])] : List ByteArray).take a.2.toNat) : Nat) : Int)), (13, vi 0)] [(0, bx [.d (DL a.1.l_), ci a.1.at_]), (4, AO ([] : List Crop))] (by kernel_rfl) ?_)
  refine AW.loopF (E' := fun z => [(0, pt 0), (4, ow 4), (11, AL (α := ByteArray) (([(ByteArray.mk #[98, 97, 114, 108, 101, 121]), (ByteArray.mk #[99, 108, 111, 118, 101, 114]), (ByteArray.mk #[103, 114, 97, 115, 115]), (ByteArray.mk #[109, 97, 105, 122, 101]), (ByteArray.mk #[111, 97, 116, 115]), (ByteArray.mk #[114, 121, 101]), (ByteArray.mk #[118, 101, 116, 99, 104]), (ByteArray.mk #[119, 104, 101, 97, 116])] : List ByteArray).take a.2.toNat)), (12, vi ((List.length (([(ByteArray.mk #[98, 97, 114, 108, 101, 121]), (ByteArray.mk #[99, 108, 111, 118, 101, 114]), (ByteArray.mk #[103, 114, 97, 115, 115]), (ByteArray.mk #[109, 97, 105, 122, 101]), (ByteArray.mk #[111, 97, 116, 115]), (ByteArray.mk #[114, 121, 101]), (ByteArray.mk #[118, 101, 116, 99, 104]), (ByteArray.mk #[119, 104, 101, 97, 116])] : List ByteArray).take a.2.toNat) : Nat) : Int)), (13, vi z.1)]) (S' := fun z => [(0, bx [.d (DL z.2.1), ci z.2.2.1]), (4, AO z.2.2.2)]) (fun V z T A h => ?_) h
  obtain ⟨b, o, p, l⟩ := z
  refine AW.SG0 Fm 1 [(0, pt 0), (4, ow 4), (11, AL (α := ByteArray) (([(ByteArray.mk #[98, 97, 114, 108, 101, 121]), (ByteArray.mk #[99, 108, 111, 118, 101, 114]), (ByteArray.mk #[103, 114, 97, 115, 115]), (ByteArray.mk #[109, 97, 105, 122, 101]), (ByteArray.mk #[111, 97, 116, 115]), (ByteArray.mk #[114, 121, 101]), (ByteArray.mk #[118, 101, 116, 99, 104]), (ByteArray.mk #[119, 104, 101, 97, 116])] : List ByteArray).take a.2.toNat)), (12, vi ((List.length (([(ByteArray.mk #[98, 97, 114, 108, 101, 121]), (ByteArray.mk #[99, 108, 111, 118, 101, 114]), (ByteArray.mk #[103, 114, 97, 115, 115]), (ByteArray.mk #[109, 97, 105, 122, 101]), (ByteArray.mk #[111, 97, 116, 115]), (ByteArray.mk #[114, 121, 101]), (ByteArray.mk #[118, 101, 116, 99, 104]), (ByteArray.mk #[119, 104, 101, 97, 116])] : List ByteArray).take a.2.toNat) : Nat) : Int)), (13, vi b), (14, vb (decide (b < ((List.length (([(ByteArray.mk #[98, 97, 114, 108, 101, 121]), (ByteArray.mk #[99, 108, 111, 118, 101, 114]), (ByteArray.mk #[103, 114, 97, 115, 115]), (ByteArray.mk #[109, 97, 105, 122, 101]), (ByteArray.mk #[111, 97, 116, 115]), (ByteArray.mk #[114, 121, 101]), (ByteArray.mk #[118, 101, 116, 99, 104]), (ByteArray.mk #[119, 104, 101, 97, 116])] : List ByteArray).take a.2.toNat) : Nat) : Int))))] [(0, bx [.d (DL o), ci p]), (4, AO l)] ?_
  refine AW.seq (AW.cN h (fun E h => ?_) (fun E h => ?_))
  ·refine AW.skip (AW.seq (AW.block ?_))
   obtain ⟨H, h⟩ := gS h
   refine AW.SP Fm [.s, .s, .s] [(0, pt 0), (4, ow 4), (6, .v (.c (.d (.str (gl (([(ByteArray.mk #[98, 97, 114, 108, 101, 121]), (ByteArray.mk #[99, 108, 111, 118, 101, 114]), (ByteArray.mk #[103, 114, 97, 115, 115]), (ByteArray.mk #[109, 97, 105, 122, 101]), (ByteArray.mk #[111, 97, 116, 115]), (ByteArray.mk #[114, 121, 101]), (ByteArray.mk #[118, 101, 116, 99, 104]), (ByteArray.mk #[119, 104, 101, 97, 116])] : List ByteArray).take a.2.toNat) b.toNat))))), (11, AL (α := ByteArray) (([(ByteArray.mk #[98, 97, 114, 108, 101, 121]), (ByteArray.mk #[99, 108, 111, 118, 101, 114]), (ByteArray.mk #[103, 114, 97, 115, 115]), (ByteArray.mk #[109, 97, 105, 122, 101]), (ByteArray.mk #[111, 97, 116, 115]), (ByteArray.mk #[114, 121, 101]), (ByteArray.mk #[118, 101, 116, 99, 104]), (ByteArray.mk #[119, 104, 101, 97, 116])] : List ByteArray).take a.2.toNat)), (12, vi ((List.length (([(ByteArray.mk #[98, 97, 114, 108, 101, 121]), (ByteArray.mk #[99, 108, 111, 118, 101, 114]), (ByteArray.mk #[103, 114, 97, 115, 115]), (ByteArray.mk #[109, 97, 105, 122, 101]), (ByteArray.mk #[111, 97, 116, 115]), (ByteArray.mk #[114, 121, 101]), (ByteArray.mk #[118, 101, 116, 99, 104]), (ByteArray.mk #[119, 104, 101, 97, 116])] : List ByteArray).take a.2.toNat) : Nat) : Int)), (13, vi b)] [(0, bx [.d (DL o), ci p]), (4, AO l)] (cT H) ?_
   obtain ⟨i, O, h⟩ := bS h
   obtain ⟨e, P, h⟩ := bS h
   obtain ⟨I, L, h⟩ := gS2 h
   refine AW.GW Fm [.s, .s, .s, .k (cE [(0, 0)] [] (vi i.2) [(0, bx [.d (DL (α := Int) (⟨o, p⟩ : Tape).l_), ci ((⟨o, p⟩ : Tape).at_)])] [(0, bx (gC i.1))]), .w (AL (α := Int) ([(0 : Int), (0 : Int), (0 : Int), (2 : Int), (20 : Int), (8 : Int), (1 : Int), (31 : Int)] : List Int)), .s, .k (cE [(0, 0)] [] (vi e.2) [(0, bx (gC i.1))] [(0, bx (gC e.1))]), .s, .s, .s, .w (AL (α := Crop) ([(⟨(gl (([(ByteArray.mk #[98, 97, 114, 108, 101, 121]), (ByteArray.mk #[99, 108, 111, 118, 101, 114]), (ByteArray.mk #[103, 114, 97, 115, 115]), (ByteArray.mk #[109, 97, 105, 122, 101]), (ByteArray.mk #[111, 97, 116, 115]), (ByteArray.mk #[114, 121, 101]), (ByteArray.mk #[118, 101, 116, 99, 104]), (ByteArray.mk #[119, 104, 101, 97, 116])] : List ByteArray).take a.2.toNat) b.toNat), i.2, (gl ([(0 : Int), (0 : Int), (0 : Int), (2 : Int), (20 : Int), (8 : Int), (1 : Int), (31 : Int)] : List Int) e.2.toNat)⟩ : Crop)] : List Crop)), .s, .s] (fun K => K 3 ∧ (ALe (.v (.c (.d (.lst 8 (litF 1 [.int .i64 (0 : Int), .int .i64 (0 : Int), .int .i64 (0 : Int), .int .i64 (2 : Int), .int .i64 (20 : Int), .int .i64 (8 : Int), .int .i64 (1 : Int), .int .i64 (31 : Int)]))))) (AL (α := Int) ([(0 : Int), (0 : Int), (0 : Int), (2 : Int), (20 : Int), (8 : Int), (1 : Int), (31 : Int)] : List Int))) ∧ K 6 ∧ _ ∧ (ALe (.v (.c (.d (.lst 1 (litF 3 [.str (gl (([(ByteArray.mk #[98, 97, 114, 108, 101, 121]), (ByteArray.mk #[99, 108, 111, 118, 101, 114]), (ByteArray.mk #[103, 114, 97, 115, 115]), (ByteArray.mk #[109, 97, 105, 122, 101]), (ByteArray.mk #[111, 97, 116, 115]), (ByteArray.mk #[114, 121, 101]), (ByteArray.mk #[118, 101, 116, 99, 104]), (ByteArray.mk #[119, 104, 101, 97, 116])] : List ByteArray).take a.2.toNat) b.toNat), .int .i64 i.2, .int .i64 (gl ([(0 : Int), (0 : Int), (0 : Int), (2 : Int), (20 : Int), (8 : Int), (1 : Int), (31 : Int)] : List Int) e.2.toNat)]))))) (AL (α := Crop) ([(⟨(gl (([(ByteArray.mk #[98, 97, 114, 108, 101, 121]), (ByteArray.mk #[99, 108, 111, 118, 101, 114]), (ByteArray.mk #[103, 114, 97, 115, 115]), (ByteArray.mk #[109, 97, 105, 122, 101]), (ByteArray.mk #[111, 97, 116, 115]), (ByteArray.mk #[114, 121, 101]), (ByteArray.mk #[118, 101, 116, 99, 104]), (ByteArray.mk #[119, 104, 101, 97, 116])] : List ByteArray).take a.2.toNat) b.toNat), i.2, (gl ([(0 : Int), (0 : Int), (0 : Int), (2 : Int), (20 : Int), (8 : Int), (1 : Int), (31 : Int)] : List Int) e.2.toNat)⟩ : Crop)] : List Crop))) ∧ (_ ∧ _ ∧ True) ∧ True) [(0, pt 0), (4, ow 28), (11, AL (α := ByteArray) (([(ByteArray.mk #[98, 97, 114, 108, 101, 121]), (ByteArray.mk #[99, 108, 111, 118, 101, 114]), (ByteArray.mk #[103, 114, 97, 115, 115]), (ByteArray.mk #[109, 97, 105, 122, 101]), (ByteArray.mk #[111, 97, 116, 115]), (ByteArray.mk #[114, 121, 101]), (ByteArray.mk #[118, 101, 116, 99, 104]), (ByteArray.mk #[119, 104, 101, 97, 116])] : List ByteArray).take a.2.toNat)), (12, vi ((List.length (([(ByteArray.mk #[98, 97, 114, 108, 101, 121]), (ByteArray.mk #[99, 108, 111, 118, 101, 114]), (ByteArray.mk #[103, 114, 97, 115, 115]), (ByteArray.mk #[109, 97, 105, 122, 101]), (ByteArray.mk #[111, 97, 116, 115]), (ByteArray.mk #[114, 121, 101]), (ByteArray.mk #[118, 101, 116, 99, 104]), (ByteArray.mk #[119, 104, 101, 97, 116])] : List ByteArray).take a.2.toNat) : Nat) : Int)), (13, vi b)] [(0, bx (gC e.1)), (28, AO (α := Crop) (l ++ ([(⟨(gl (([(ByteArray.mk #[98, 97, 114, 108, 101, 121]), (ByteArray.mk #[99, 108, 111, 118, 101, 114]), (ByteArray.mk #[103, 114, 97, 115, 115]), (ByteArray.mk #[109, 97, 105, 122, 101]), (ByteArray.mk #[111, 97, 116, 115]), (ByteArray.mk #[114, 121, 101]), (ByteArray.mk #[118, 101, 116, 99, 104]), (ByteArray.mk #[119, 104, 101, 97, 116])] : List ByteArray).take a.2.toNat) b.toNat), i.2, (gl ([(0 : Int), (0 : Int), (0 : Int), (2 : Int), (20 : Int), (8 : Int), (1 : Int), (31 : Int)] : List Int) e.2.toNat)⟩ : Crop)] : List Crop)))] ⟨KAt.CC (keep_Tape_Next_spec O) Tryz.call16 [(0, 0)], ALe.lst (.lit ([(0 : Int), (0 : Int), (0 : Int), (2 : Int), (20 : Int), (8 : Int), (1 : Int), (31 : Int)] : List Int) (by kernel_rfl)), KAt.CC (keep_Tape_Next_spec P) Tryz.call16 [(0, 0)], I, ALe.lst (.lit ([(⟨(gl (([(ByteArray.mk #[98, 97, 114, 108, 101, 121]), (ByteArray.mk #[99, 108, 111, 118, 101, 114]), (ByteArray.mk #[103, 114, 97, 115, 115]), (ByteArray.mk #[109, 97, 105, 122, 101]), (ByteArray.mk #[111, 97, 116, 115]), (ByteArray.mk #[114, 121, 101]), (ByteArray.mk #[118, 101, 116, 99, 104]), (ByteArray.mk #[119, 104, 101, 97, 116])] : List ByteArray).take a.2.toNat) b.toNat), i.2, (gl ([(0 : Int), (0 : Int), (0 : Int), (2 : Int), (20 : Int), (8 : Int), (1 : Int), (31 : Int)] : List Int) e.2.toNat)⟩ : Crop)] : List Crop) (by kernel_rfl)), ⟨L, (Is.refl ([(⟨(gl (([(ByteArray.mk #[98, 97, 114, 108, 101, 121]), (ByteArray.mk #[99, 108, 111, 118, 101, 114]), (ByteArray.mk #[103, 114, 97, 115, 115]), (ByteArray.mk #[109, 97, 105, 122, 101]), (ByteArray.mk #[111, 97, 116, 115]), (ByteArray.mk #[114, 121, 101]), (ByteArray.mk #[118, 101, 116, 99, 104]), (ByteArray.mk #[119, 104, 101, 97, 116])] : List ByteArray).take a.2.toNat) b.toNat), i.2, (gl ([(0 : Int), (0 : Int), (0 : Int), (2 : Int), (20 : Int), (8 : Int), (1 : Int), (31 : Int)] : List Int) e.2.toNat)⟩ : Crop)] : List Crop) : Is (List.length (α := Crop) ([(⟨(gl (([(ByteArray.mk #[98, 97, 114, 108, 101, 121]), (ByteArray.mk #[99, 108, 111, 118, 101, 114]), (ByteArray.mk #[103, 114, 97, 115, 115]), (ByteArray.mk #[109, 97, 105, 122, 101]), (ByteArray.mk #[111, 97, 116, 115]), (ByteArray.mk #[114, 121, 101]), (ByteArray.mk #[118, 101, 116, 99, 104]), (ByteArray.mk #[119, 104, 101, 97, 116])] : List ByteArray).take a.2.toNat) b.toNat), i.2, (gl ([(0 : Int), (0 : Int), (0 : Int), (2 : Int), (20 : Int), (8 : Int), (1 : Int), (31 : Int)] : List Int) e.2.toNat)⟩ : Crop)] : List Crop)) (LF (α := Crop) ([(⟨(gl (([(ByteArray.mk #[98, 97, 114, 108, 101, 121]), (ByteArray.mk #[99, 108, 111, 118, 101, 114]), (ByteArray.mk #[103, 114, 97, 115, 115]), (ByteArray.mk #[109, 97, 105, 122, 101]), (ByteArray.mk #[111, 97, 116, 115]), (ByteArray.mk #[114, 121, 101]), (ByteArray.mk #[118, 101, 116, 99, 104]), (ByteArray.mk #[119, 104, 101, 97, 116])] : List ByteArray).take a.2.toNat) b.toNat), i.2, (gl ([(0 : Int), (0 : Int), (0 : Int), (2 : Int), (20 : Int), (8 : Int), (1 : Int), (31 : Int)] : List Int) e.2.toNat)⟩ : Crop)] : List Crop)) ([(⟨(gl (([(ByteArray.mk #[98, 97, 114, 108, 101, 121]), (ByteArray.mk #[99, 108, 111, 118, 101, 114]), (ByteArray.mk #[103, 114, 97, 115, 115]), (ByteArray.mk #[109, 97, 105, 122, 101]), (ByteArray.mk #[111, 97, 116, 115]), (ByteArray.mk #[114, 121, 101]), (ByteArray.mk #[118, 101, 116, 99, 104]), (ByteArray.mk #[119, 104, 101, 97, 116])] : List ByteArray).take a.2.toNat) b.toNat), i.2, (gl ([(0 : Int), (0 : Int), (0 : Int), (2 : Int), (20 : Int), (8 : Int), (1 : Int), (31 : Int)] : List Int) e.2.toNat)⟩ : Crop)] : List Crop)).len, ⟨⟩⟩, ⟨⟩⟩ [(28, .arr 3 ((List.length (α := Crop) l) + (List.length (α := Crop) ([(⟨(gl (([(ByteArray.mk #[98, 97, 114, 108, 101, 121]), (ByteArray.mk #[99, 108, 111, 118, 101, 114]), (ByteArray.mk #[103, 114, 97, 115, 115]), (ByteArray.mk #[109, 97, 105, 122, 101]), (ByteArray.mk #[111, 97, 116, 115]), (ByteArray.mk #[114, 121, 101]), (ByteArray.mk #[118, 101, 116, 99, 104]), (ByteArray.mk #[119, 104, 101, 97, 116])] : List ByteArray).take a.2.toNat) b.toNat), i.2, (gl ([(0 : Int), (0 : Int), (0 : Int), (2 : Int), (20 : Int), (8 : Int), (1 : Int), (31 : Int)] : List Int) e.2.toNat)⟩ : Crop)] : List Crop))) (appF (List.length (α := Crop) l) (LF (α := Crop) l) (LF (α := Crop) ([(⟨(gl (([(ByteArray.mk #[98, 97, 114, 108, 101, 121]), (ByteArray.mk #[99, 108, 111, 118, 101, 114]), (ByteArray.mk #[103, 114, 97, 115, 115]), (ByteArray.mk #[109, 97, 105, 122, 101]), (ByteArray.mk #[111, 97, 116, 115]), (ByteArray.mk #[114, 121, 101]), (ByteArray.mk #[118, 101, 116, 99, 104]), (ByteArray.mk #[119, 104, 101, 97, 116])] : List ByteArray).take a.2.toNat) b.toNat), i.2, (gl ([(0 : Int), (0 : Int), (0 : Int), (2 : Int), (20 : Int), (8 : Int), (1 : Int), (31 : Int)] : List Int) e.2.toNat)⟩ : Crop)] : List Crop))))] ⟨OLe.is (Is.app (Is.refl l) (Is.refl ([(⟨(gl (([(ByteArray.mk #[98, 97, 114, 108, 101, 121]), (ByteArray.mk #[99, 108, 111, 118, 101, 114]), (ByteArray.mk #[103, 114, 97, 115, 115]), (ByteArray.mk #[109, 97, 105, 122, 101]), (ByteArray.mk #[111, 97, 116, 115]), (ByteArray.mk #[114, 121, 101]), (ByteArray.mk #[118, 101, 116, 99, 104]), (ByteArray.mk #[119, 104, 101, 97, 116])] : List ByteArray).take a.2.toNat) b.toNat), i.2, (gl ([(0 : Int), (0 : Int), (0 : Int), (2 : Int), (20 : Int), (8 : Int), (1 : Int), (31 : Int)] : List Int) e.2.toNat)⟩ : Crop)] : List Crop))), ⟨⟩⟩ ?_
   obtain ⟨M, h⟩ := gS h
   refine AW.pN Fm [.s, .s] [(0, pt 0), (4, ow 28), (11, AL (α := ByteArray) (([(ByteArray.mk #[98, 97, 114, 108, 101, 121]), (ByteArray.mk #[99, 108, 111, 118, 101, 114]), (ByteArray.mk #[103, 114, 97, 115, 115]), (ByteArray.mk #[109, 97, 105, 122, 101]), (ByteArray.mk #[111, 97, 116, 115]), (ByteArray.mk #[114, 121, 101]), (ByteArray.mk #[118, 101, 116, 99, 104]), (ByteArray.mk #[119, 104, 101, 97, 116])] : List ByteArray).take a.2.toNat)), (12, vi ((List.length (([(ByteArray.mk #[98, 97, 114, 108, 101, 121]), (ByteArray.mk #[99, 108, 111, 118, 101, 114]), (ByteArray.mk #[103, 114, 97, 115, 115]), (ByteArray.mk #[109, 97, 105, 122, 101]), (ByteArray.mk #[111, 97, 116, 115]), (ByteArray.mk #[114, 121, 101]), (ByteArray.mk #[118, 101, 116, 99, 104]), (ByteArray.mk #[119, 104, 101, 97, 116])] : List ByteArray).take a.2.toNat) : Nat) : Int)), (13, vi (b + 1))] [(0, bx (gC e.1)), (28, AO (α := Crop) (l ++ ([(⟨(gl (([(ByteArray.mk #[98, 97, 114, 108, 101, 121]), (ByteArray.mk #[99, 108, 111, 118, 101, 114]), (ByteArray.mk #[103, 114, 97, 115, 115]), (ByteArray.mk #[109, 97, 105, 122, 101]), (ByteArray.mk #[111, 97, 116, 115]), (ByteArray.mk #[114, 121, 101]), (ByteArray.mk #[118, 101, 116, 99, 104]), (ByteArray.mk #[119, 104, 101, 97, 116])] : List ByteArray).take a.2.toNat) b.toNat), i.2, (gl ([(0 : Int), (0 : Int), (0 : Int), (2 : Int), (20 : Int), (8 : Int), (1 : Int), (31 : Int)] : List Int) e.2.toNat)⟩ : Crop)] : List Crop)))] (cT (cT M)) ?_
   exact Kn.RE Fm [(4, 28)] (A ((b + 1), e.1.l_, e.1.at_, (l ++ ([(⟨(gl (([(ByteArray.mk #[98, 97, 114, 108, 101, 121]), (ByteArray.mk #[99, 108, 111, 118, 101, 114]), (ByteArray.mk #[103, 114, 97, 115, 115]), (ByteArray.mk #[109, 97, 105, 122, 101]), (ByteArray.mk #[111, 97, 116, 115]), (ByteArray.mk #[114, 121, 101]), (ByteArray.mk #[118, 101, 116, 99, 104]), (ByteArray.mk #[119, 104, 101, 97, 116])] : List ByteArray).take a.2.toNat) b.toNat), i.2, (gl ([(0 : Int), (0 : Int), (0 : Int), (2 : Int), (20 : Int), (8 : Int), (1 : Int), (31 : Int)] : List Int) e.2.toNat)⟩ : Crop)] : List Crop))) h)
  ·exact AW.exit (Kn.R Fm (B (l, o, p) h))
theorem keep_Tape_History_spec {F : Nat} {l : Tape} {a : (List Crop)} {b : Int} {q : Int} {r : Tape × (List Record)} (h : keep_Tape_History F l a b q = some r) :
  FSpec Tryz.prog 32 [pt 0, AL a, vi b, vi q] [(0, bx (gC l))] (AL (α := Record) r.2) [(0, bx (gC r.1))] := by
 refine FI Tryz.func32 prog_mixed prog_lay fun C Fm => ?_
 unfold keep_Tape_History at h
 refine AW.SG0 Fm 1 [(0, pt 0), (1, AL a), (2, vi b), (3, vi q)] [(0, bx (gC l))] ?_
 refine AW.SW Fm [.m] (fun K => True) [(0, pt 0), (1, AL a), (2, vi b), (3, vi q), (9, ow 9)] [(0, bx (gC l)), (9, AO (α := Record) ([] : List Record))] True.intro [(9, .arr 3 (0) (fun _ => []))] ⟨OLe.is ((Is.nil (α := Record))), ⟨⟩⟩ ?_
 refine AW.join (r := r) (fun z : (List Record) × (List Int) × Int => keep_Tape_History_k1 F z.1 z.2.1 z.2.2) (fun z => [(9, AL z.1)]) (fun z => [(0, bx [.d (DL z.2.1), ci z.2.2])]) (fun z h => ?_) (fun Y B => ?_)
 ·obtain ⟨U, V, W⟩ := z
  refine AW.SG0 Fm 2 [(8, AL U)] [(0, bx [.d (DL V), ci W])] ?_
  refine AW.ret ?_
  obtain rfl := Option.some.inj h
  exact Kn.D Fm
 ·refine AW.seq ?_
  obtain ⟨H, h⟩ := gS h
  obtain ⟨e, M, h⟩ := bS h
  refine AW.G Fm [.s, .s, .s, .k (cE [(0, 0)] [] (vi e.2) [(0, bx (gC l))] [(0, bx (gC e.1))]), .s] (fun K => (_ ∧ True) ∧ K 3 ∧ True) [(0, pt 0), (1, AL a), (2, vi b), (9, ow 9), (10, vi e.2)] [(0, bx (gC e.1)), (9, AO (α := Record) ([] : List Record))] ⟨⟨H, ⟨⟩⟩, KAt.CC (keep_Tape_Next_spec M) Tryz.call16 [(0, 0)], ⟨⟩⟩ ?_
  refine AW.block (Kn.r Fm [(0, pt 0), (1, AL a), (2, vi b), (9, ow 9), (10, vi e.2)] [(9, AO (α := Record) ([] : List Record)), (0, bx (gC e.1))] (by kernel_rfl) ?_)
  refine Kn.frz [(0, pt 0), (1, AL a), (2, vi b), (9, AL (α := Record) ([] : List Record)), (10, vi e.2)] [(0, bx (gC e.1))] (by kernel_rfl) (by kernel_rfl) (by kernel_rfl) ?_
  refine Kn.r Fm [(0, pt 0), (1, AL a), (2, vi b), (9, AL ([] : List Record)), (10, vi e.2)] [(0, bx [.d (DL e.1.l_), ci e.1.at_])] (by kernel_rfl) ?_
  refine AW.loopF (E' := fun z => [(0, pt 0), (1, AL a), (2, vi b), (9, AL z.1), (10, vi z.2.1)]) (S' := fun z => [(0, bx [.d (DL z.2.2.1), ci z.2.2.2])]) (fun Z z X A h => ?_) h
  obtain ⟨y, j, o, p⟩ := z
  refine AW.seq (AW.SG0 Fm 2 [(0, pt 0), (1, AL a), (2, vi b), (9, AL y), (10, vi j), (16, vb (decide ((0 : Int) < j)))] [(0, bx [.d (DL o), ci p])] ?_)
  refine AW.cN h (fun E h => ?_) (fun E h => ?_)
  ·refine AW.skip (AW.seq (AW.block ?_))
   obtain ⟨I, h⟩ := gS h
   obtain ⟨u, N, h⟩ := bS h
   obtain ⟨w, O, h⟩ := bS h
   obtain ⟨i, P, h⟩ := bS h
   obtain ⟨n, T, h⟩ := bS h
   refine AW.G Fm [.s, .s, .s, .s, .k (cE [(0, 0)] [] (vi u.2) [(0, bx [.d (DL (α := Int) (⟨o, p⟩ : Tape).l_), ci ((⟨o, p⟩ : Tape).at_)])] [(0, bx (gC u.1))]), .s, .s, .s, .k (cE [(0, 0)] [] (vi w.2) [(0, bx (gC u.1))] [(0, bx (gC w.1))]), .s, .k (cE [(0, 0)] [] (.v (.g [.d (DL i.2.rects_)])) [(0, bx (gC w.1))] [(0, bx (gC i.1))]), .k (cE [] [] (.t [.c (.d (DL n.1)), .c (ci n.2)]) [] []), .s, .s, .s, .s] (fun K => (_ ∧ True) ∧ K 4 ∧ K 8 ∧ K 10 ∧ K 11 ∧ True) [(0, pt 0), (1, AL a), (2, vi b), (9, AL n.1), (10, vi j)] [(0, bx (gC i.1))] ⟨⟨I, ⟨⟩⟩, KAt.CC (keep_Tape_Next_spec N) Tryz.call16 [(0, 0)], KAt.CC (keep_Tape_Next_spec O) Tryz.call16 [(0, 0)], KAt.CC (keep_Tape_Region_spec P) Tryz.call17 [(0, 0)], KAt.CC (ref15_Add_spec T) Tryz.call48 [], ⟨⟩⟩ ?_
   obtain ⟨L, h⟩ := gS h
   refine AW.pN Fm [.s, .s, .s] [(0, pt 0), (1, AL a), (2, vi b), (9, AL n.1), (10, vi (j - 1))] [(0, bx (gC i.1))] (cT (cT L)) ?_
   exact Kn.R Fm (A (n.1, (j - 1), i.1.l_, i.1.at_) h)
  ·exact AW.exit (Kn.R Fm (B (y, o, p) h))
theorem history_Add_1_spec {F : Nat} {c : Bool} {a : Bool} {r : Bool} (h : history_Add_1 F c a = some r) :
  FSpec Tryz.prog 94 [vb c, vb a] [] (vb r) [] := by
 refine FI Tryz.func94 prog_mixed prog_lay fun C Fm => ?_
 unfold history_Add_1 at h
 refine AW.SG0 Fm 1 [(0, vb c), (1, vb a)] [] ?_
 refine AW.join (r := r) (fun z : Bool => history_Add_1_k0 F z) (fun z => [(4, vb z)]) (fun z => []) (fun i h => ?_) (fun e d => ?_)
 ·refine AW.ret ?_
  obtain rfl := Option.some.inj h
  exact Kn.D Fm
 ·rcases br_or h with ⟨b, h⟩ | ⟨b, h⟩
  ·refine AW.pN Fm [.s, .w (vb true), .s, .s, .s] [(4, vb true)] [] (cT (ALe.bool b)) ?_
   exact Kn.R Fm (d true h)
  ·refine AW.pN Fm [.s, .w (vb false), .s, .s, .s] [(4, vb a)] [] (cT (ALe.bool b)) ?_
   exact Kn.R Fm (d a h)
theorem history_Add_2_spec {F : Nat} {c : Bool} {a : Bool} {r : Bool} (h : history_Add_2 F c a = some r) :
  FSpec Tryz.prog 95 [vb c, vb a] [] (vb r) [] := by
 refine FI Tryz.func95 prog_mixed prog_lay fun C Fm => ?_
 unfold history_Add_2 at h
 refine AW.SG0 Fm 1 [(0, vb c), (1, vb a)] [] ?_
 refine AW.join (r := r) (fun z : Bool => history_Add_2_k0 F z) (fun z => [(4, vb z)]) (fun z => []) (fun i h => ?_) (fun e d => ?_)
 ·refine AW.ret ?_
  obtain rfl := Option.some.inj h
  exact Kn.D Fm
 ·rcases br_or h with ⟨b, h⟩ | ⟨b, h⟩
  ·refine AW.pN Fm [.s, .w (vb true), .s, .s, .s, .s] [(4, vb (!a))] [] (cT (ALe.bool b)) ?_
   exact Kn.R Fm (d (!a) h)
  ·refine AW.pN Fm [.s, .w (vb false), .s, .s, .s, .s] [(4, vb false)] [] (cT (ALe.bool b)) ?_
   exact Kn.R Fm (d false h)
theorem slices_Clone_Rect_spec {F : Nat} {a : (List Rect)} {r : (List Rect)} (h : slices_Clone_Rect F a = some r) :
  FSpec Tryz.prog 181 [AL a] [] (AL (α := Rect) r) [] := by
 refine FI Tryz.func181 prog_mixed prog_lay fun C Fm => ?_
 unfold slices_Clone_Rect at h
 refine AW.SG0 Fm 1 [(0, AL a)] [] ?_
 refine AW.seq (AW.SG Fm [.s, .k (sE (nb (List.length a)))] (fun K => K 1 ∧ True) [(0, AL a), (4, .v (.c (.sem (nbP (List.length a)))))] [] ⟨KAt.nil (t := 31) (el := 108) (n := List.length a) (by kernel_rfl) rfl rfl (by kernel_rfl) (by kernel_rfl) (by kernel_rfl), ⟨⟩⟩ ?_)
 refine AW.condNil (n := List.length a) (by kernel_rfl) (fun d => ?_) ?_
 ·have h := brN_t h d
  refine AW.SG0 Fm 1 [(2, .v (.c (.fl 0 fun _ => [])))] [] ?_
  refine AW.ret ?_
  obtain rfl := Option.some.inj h
  refine Kn.r Fm [(2, .v (.c (.fl 0 fun _ => [])))] [] (by kernel_rfl) ?_
  refine Kn.wk [(2, AL (α := Rect) [])] [] ⟨rfl, ALe.c (CLe.fl .nil), ⟨⟩⟩ True.intro ?_
  exact Kn.D Fm
 ·have h := brN_f h
  refine AW.skip ?_
  obtain ⟨b, h⟩ := gS h
  refine AW.SV Fm [.m, .s, .s, .s] [(2, ow 7)] [(7, AO (α := Rect) (([] : List Rect) ++ a))] (cT (cA b (cT (Is.refl a : Is (List.length (α := Rect) a) (LF (α := Rect) a) a).len))) [(7, .arr 4 ((0) + (List.length (α := Rect) a)) (appF (0) (litF 4 []) (LF (α := Rect) a)))] ⟨OLe.is (Is.app (Is.lit ([] : List Rect) (by kernel_rfl)) (Is.refl a)), ⟨⟩⟩ ?_
  refine AW.ret ?_
  obtain rfl := Option.some.inj h
  refine Kn.r Fm [(2, ow 7)] [(7, AO (α := Rect) (([] : List Rect) ++ a))] (by kernel_rfl) ?_
  refine Kn.frz [(2, AL (α := Rect) (([] : List Rect) ++ a))] [] (by kernel_rfl) (by kernel_rfl) (by kernel_rfl) ?_
  exact Kn.D Fm
theorem history_copied_spec {F : Nat} {a : Record} {b : (List Rect)} {r : Record} (h : history_copied F a b = some r) :
  FSpec Tryz.prog 96 [gE a, AL b] [] (gE r) [] := by
 refine FI Tryz.func96 prog_mixed prog_lay fun C Fm => ?_
 unfold history_copied at h
 refine AW.SG0 Fm 2 [(1, AL b), (2, pt 2), (4, pt 4)] [(2, bx (gC a)), (4, bx [ci 0, ci 0, .fl 0 fun _ => []])] ?_
 refine AW.seq ?_
 obtain ⟨c, e, h⟩ := bS h
 refine AW.G Fm [.s, .k (cE [] [] (AL c) [] []), .s, .s, .s] (fun K => K 1 ∧ True) [(2, pt 2), (4, pt 4)] [(2, bx [ci a.year_, ci a.crop_, .d (DL c)]), (4, bx [ci 0, ci 0, .fl 0 fun _ => []])] ⟨KAt.CC (slices_Clone_Rect_spec e) Tryz.call181 [], ⟨⟩⟩ ?_
 refine AW.SG0 Fm 2 [(4, pt 4)] [(4, bx [ci a.year_, ci a.crop_, .d (DL c)])] ?_
 refine AW.ret ?_
 obtain rfl := Option.some.inj h
 exact Kn.D Fm
theorem slices_DeleteFunc_Record_spec {F : Nat} {t : (List Record)} {p : Record → Option Bool} {r : (List Record)} (h : slices_DeleteFunc_Record F t p = some r) :
  FSpec Tryz.prog 97 [ow 0, .v (.c (.sem (CloOK Tryz.prog (FR_Record_Bool p))))] [(0, AO t)] (ow 100) [(100, AO (α := Record) r)] := by
 refine FI Tryz.func97 prog_mixed prog_lay fun C Fm => ?_
 unfold slices_DeleteFunc_Record at h
 refine AW.SG Fm [.m] (fun K => True) [(0, ow 0), (1, .v (.c (.sem (CloOK Tryz.prog (FR_Record_Bool p)))))] [(0, AO t)] True.intro ?_
 refine AW.seq ?_
 obtain ⟨w, Z, h⟩ := bS h
 refine AW.G Fm [.s, .s, .k (sE (vi w)), .s] (fun K => K 2 ∧ True) [(0, ow 0), (1, .v (.c (.sem (CloOK Tryz.prog (FR_Record_Bool p))))), (5, vi w)] [(0, AO t)] ⟨KAt.callBX (slices_IndexFunc_Record_spec Z) Tryz.call182 [0] [.tmp 8, .tmp 9] rfl (by kernel_rfl) (by kernel_rfl) ⟨ArgB.own 0 (es := 3) (n := List.length t) (f := LF t) (by kernel_rfl) (by kernel_rfl) (by kernel_rfl) (by kernel_rfl), ArgB.sem (by kernel_rfl) (by kernel_rfl), ⟨⟩⟩, ⟨⟩⟩ ?_
 refine AW.seq (AW.SG0 Fm 2 [(0, ow 0), (1, .v (.c (.sem (CloOK Tryz.prog (FR_Record_Bool p))))), (5, vi w), (12, vb (w == (-1 : Int)))] [(0, AO t)] ?_)
 refine AW.cN h (fun P h => ?_) (fun P h => ?_)
 ·refine AW.SG0 Fm 2 [(4, ow 0)] [(0, AO t)] ?_
  refine AW.ret ?_
  obtain rfl := Option.some.inj h
  exact Kn.re Fm [(100, 0)] [(4, ow 100)] [(100, AO t)] (by kernel_rfl) (by kernel_rfl) (by kernel_rfl) (by kernel_rfl) (Kn.dn Fm (by kernel_rfl))
 ·refine AW.skip (AW.join (r := r) (fun z : Int × (List Record) => slices_DeleteFunc_Record_k2 F z.1 z.2) (fun z => [(0, ow 0), (5, vi z.1)]) (fun z => [(0, AO z.2)]) (fun z h => ?_) (fun d0 O => ?_))
  ·obtain ⟨b, o⟩ := z
   obtain ⟨Y, h⟩ := gS h
   refine AW.SW Fm [.s, .s, .k (rE { v := .v (.c (.sub 0 3 (0 + (b).toNat) ((List.length (α := Record) o) - (b).toNat))) }), .k (rE { v := .any, upd := some (0, .arr 3 (List.length (α := Record) o) (fun i => if (0 + (b).toNat) ≤ i ∧ i < (0 + (b).toNat) + ((List.length (α := Record) o) - (b).toNat) then (fun _ => [.int .i64 0, .int .i64 0, DL (α := Rect) []]) (i - (0 + (b).toNat)) else (LF (α := Record) o) i)) })] (fun K => K 2 ∧ K 3 ∧ True) [(0, ow 0), (5, vi b)] [(0, AO (α := Record) (clr o (0 + (b).toNat) ((List.length (α := Record) o) - (b).toNat)))] ⟨KAt.vslice (l := (some b)) (u := none) (id := 0) (lo0 := 0) (n := (List.length (α := Record) o)) (N := List.length (α := Record) o) (f := LF (α := Record) o) prog_lay slT27 rfl rfl (by kernel_rfl) (by kernel_rfl) (by kernel_rfl) (by kernel_rfl) (by kernel_rfl) Y (by kernel_rfl), KAt.vclear (id := 0) (lo0 := (0 + (b).toNat)) (n := ((List.length (α := Record) o) - (b).toNat)) (N := List.length (α := Record) o) (f := (LF (α := Record) o)) prog_lay slT27 [.int .i64 0, .int .i64 0, .lst 0 fun _ => []] [.int .i64 0, .int .i64 0, DL (α := Rect) []] ⟨DLe.refl _, DLe.refl _, DLe.nil _ _, ⟨⟩⟩ rfl rfl (by kernel_rfl) (Nat.succ_pos _) (by kernel_rfl) (by kernel_rfl) (by kernel_rfl) (by kernel_rfl) rfl, ⟨⟩⟩ [(0, .arr 3 (List.length (α := Record) o) (fun i => if (0 + (b).toNat) ≤ i ∧ i < (0 + (b).toNat) + ((List.length (α := Record) o) - (b).toNat) then (fun _ => [.int .i64 0, .int .i64 0, DL (α := Rect) []]) (i - (0 + (b).toNat)) else (LF (α := Record) o) i))] ⟨OLe.is (Is.clr (l := o) (0 + (b).toNat) ((List.length (α := Record) o) - (b).toNat) (zd := [.int .i64 0, .int .i64 0, DL (α := Rect) []]) (by kernel_rfl)), ⟨⟩⟩ ?_
   obtain ⟨E, h⟩ := gS h
   refine AW.SV Fm [.s, .s, .m, .s] [(4, ow 41)] [(41, AO (α := Record) ((clr o (0 + (b).toNat) ((List.length (α := Record) o) - (b).toNat)).take (b).toNat))] (cT E) [(41, .arr 3 ((b).toNat) (LF (α := Record) (clr o (0 + (b).toNat) ((List.length (α := Record) o) - (b).toNat))))] ⟨OLe.is (Is.take (Is.refl (clr o (0 + (b).toNat) ((List.length (α := Record) o) - (b).toNat))) E.2), ⟨⟩⟩ ?_
   refine AW.ret ?_
   obtain rfl := Option.some.inj h
   exact Kn.re Fm [(100, 41)] [(4, ow 100)] [(100, AO (α := Record) ((clr o (0 + (b).toNat) ((List.length (α := Record) o) - (b).toNat)).take (b).toNat))] (by kernel_rfl) (by kernel_rfl) (by kernel_rfl) (by kernel_rfl) (Kn.dn Fm (by kernel_rfl))
  ·obtain ⟨V, h⟩ := gS h
   refine AW.SP Fm [.s, .s, .s] [(0, ow 0), (1, .v (.c (.sem (CloOK Tryz.prog (FR_Record_Bool p))))), (5, vi w), (6, vi (w + 1))] [(0, AO t)] (cT (cT V)) ?_
   refine AW.block (AW.loopF (E' := fun z => [(0, ow 0), (1, .v (.c (.sem (CloOK Tryz.prog (FR_Record_Bool p))))), (5, vi z.1), (6, vi z.2.1)]) (S' := fun z => [(0, AO z.2.2)]) (fun L z b0 M h => ?_) h)
   obtain ⟨q, e, a⟩ := z
   refine AW.seq (AW.SG0 Fm 4 [(0, ow 0), (1, .v (.c (.sem (CloOK Tryz.prog (FR_Record_Bool p))))), (5, vi q), (6, vi e), (19, vb (decide (e < (lI a))))] [(0, AO a)] ?_)
   refine AW.cN h (fun T h => ?_) (fun T h => ?_)
   ·refine AW.skip (AW.join (r := r) (fun z : Int × (List Record) => slices_DeleteFunc_Record_k1 F e L z.1 z.2) (fun z => [(0, ow 0), (1, .v (.c (.sem (CloOK Tryz.prog (FR_Record_Bool p))))), (5, vi z.1), (6, vi e)]) (fun z => [(0, AO z.2)]) (fun z h => ?_) (fun c0 B => ?_))
    ·obtain ⟨H, I⟩ := z
     obtain ⟨X, h⟩ := gS h
     refine AW.pN Fm [.s, .s, .s] [(0, ow 0), (1, .v (.c (.sem (CloOK Tryz.prog (FR_Record_Bool p))))), (5, vi H), (6, vi (e + 1))] [(0, AO I)] (cT (cT X)) ?_
     exact Kn.R Fm (M (H, (e + 1), I) h)
    ·refine AW.block ?_
     obtain ⟨D, h⟩ := gS h
     refine AW.SP Fm [.s, .s, .s, .s, .s, .s] [(0, ow 0), (1, .v (.c (.sem (CloOK Tryz.prog (FR_Record_Bool p))))), (5, vi q), (6, vi e), (7, pt 7)] [(0, AO a), (7, bx [ci ((gl a e.toNat).year_), ci ((gl a e.toNat).crop_), .d (DL (α := Rect) (gl a e.toNat).region_.rects_)])] (cA D (cT (toNat_lt D))) ?_
     refine AW.seq ?_
     obtain ⟨A, a0, h⟩ := bS h
     refine AW.G Fm [.s, .s, .k (sE (vb A)), .s] (fun K => K 2 ∧ True) [(0, ow 0), (1, .v (.c (.sem (CloOK Tryz.prog (FR_Record_Bool p))))), (5, vi q), (6, vi e), (7, pt 7), (29, vb (!A))] [(0, AO a), (7, bx [ci ((gl a e.toNat).year_), ci ((gl a e.toNat).crop_), .d (DL (α := Rect) (gl a e.toNat).region_.rects_)])] ⟨KAt.sem (F := (FR_Record_Bool p)) (args := [.v (.g [ci ((gl a e.toNat).year_), ci ((gl a e.toNat).crop_), .d (DL (α := Rect) (gl a e.toNat).region_.rects_)])]) ⟨(gl a e.toNat), A, a0, rfl, rfl⟩ rfl (by kernel_rfl) (by kernel_rfl) (by kernel_rfl), ⟨⟩⟩ ?_
     refine AW.cN h (fun U h => ?_) (fun U h => ?_)
     ·obtain ⟨y, h⟩ := gS h
      refine AW.SV Fm [.s, .s, .s, .s, .s] [(0, ow 0), (1, .v (.c (.sem (CloOK Tryz.prog (FR_Record_Bool p))))), (5, vi q), (6, vi e)] [(0, AO (α := Record) (List.set a q.toNat (gl a e.toNat)))] (cA y (cT (toNat_lt y))) [(0, .arr 3 (List.length (α := Record) a) (fun j => if j = q.toNat then splice ((LF (α := Record) a) q.toNat) 0 [.int .i64 (gl a e.toNat).year_, .int .i64 (gl a e.toNat).crop_, DL (α := Rect) (gl a e.toNat).region_.rects_] else (LF (α := Record) a) j))] ⟨OLe.is (Is.set (Is.refl a) (toNat_lt y) (gl a e.toNat) (by kernel_rfl)), ⟨⟩⟩ ?_
      obtain ⟨W, h⟩ := gS h
      refine AW.pN Fm [.s, .s, .s] [(0, ow 0), (1, .v (.c (.sem (CloOK Tryz.prog (FR_Record_Bool p))))), (5, vi (q + 1)), (6, vi e)] [(0, AO (α := Record) (List.set a q.toNat (gl a e.toNat)))] (cT (cT W)) ?_
      exact Kn.R Fm (B ((q + 1), (List.set a q.toNat (gl a e.toNat))) h)
     ·exact AW.skip (Kn.R Fm (B (q, a) h))
   ·exact AW.exit (Kn.R Fm (O (q, a) h))
theorem history_Add_3_spec {F : Nat} {a : Record} {r : Bool} (h : history_Add_3 F a = some r) :
  FSpec Tryz.prog 98 [gE a] [] (vb r) [] := by
 refine FI Tryz.func98 prog_mixed prog_lay fun C Fm => ?_
 unfold history_Add_3 at h
 refine AW.SG0 Fm 2 [(1, pt 1)] [(1, bx (gC a))] ?_
 refine AW.SG0 Fm 6 [(2, vb ((lI a.region_.rects_) == (0 : Int)))] [] ?_
 refine AW.ret ?_
 obtain rfl := Option.some.inj h
 exact Kn.D Fm
theorem history_Add_4_spec {F : Nat} {a : Record} {r : Bool} (h : history_Add_4 F a = some r) :
  FSpec Tryz.prog 100 [gE a] [] (vb r) [] := by
 refine FI Tryz.func100 prog_mixed prog_lay fun C Fm => ?_
 unfold history_Add_4 at h
 refine AW.SG0 Fm 2 [(1, pt 1)] [(1, bx (gC a))] ?_
 refine AW.SG0 Fm 6 [(2, vb (decide ((120 : Int) < (lI a.region_.rects_))))] [] ?_
 refine AW.ret ?_
 obtain rfl := Option.some.inj h
 exact Kn.D Fm
theorem slices_IndexFunc_Record_O_spec {F : Nat} {a : (List Record)} {e : Record → Option Bool} {r : (List Record) × Int} (h : slices_IndexFunc_Record_O F a e = some r) :
  FSpec Tryz.prog 182 [ow 0, .v (.c (.sem (CloOK Tryz.prog (FR_Record_Bool e))))] [(0, AO a)] (vi r.2) [(0, AO (α := Record) r.1)] := by
 refine FI Tryz.func182 prog_mixed prog_lay fun C Fm => ?_
 unfold slices_IndexFunc_Record_O at h
 refine AW.SG0 Fm 1 [(0, ow 0), (1, .v (.c (.sem (CloOK Tryz.prog (FR_Record_Bool e)))))] [(0, AO a)] ?_
 refine AW.join (r := r) (fun z : Unit => slices_IndexFunc_Record_O_k1 F a) (fun z => []) (fun z => [(0, AO a)]) (fun z h => ?_) (fun u m => ?_)
 ·refine AW.SG0 Fm 1 [(4, vi (-1 : Int))] [(0, AO a)] ?_
  refine AW.ret ?_
  obtain rfl := Option.some.inj h
  exact Kn.D Fm
 ·refine AW.SG0 Fm 3 [(0, ow 0), (1, .v (.c (.sem (CloOK Tryz.prog (FR_Record_Bool e))))), (7, vi (lI a)), (8, vi 0)] [(0, AO a)] ?_
  refine AW.block (AW.loopF (E' := fun z => [(0, ow 0), (1, .v (.c (.sem (CloOK Tryz.prog (FR_Record_Bool e))))), (7, vi (lI a)), (8, vi z)]) (S' := fun z => [(0, AO a)]) (fun w b t l h => ?_) h)
  refine AW.SG0 Fm 1 [(0, ow 0), (1, .v (.c (.sem (CloOK Tryz.prog (FR_Record_Bool e))))), (7, vi (lI a)), (8, vi b), (9, vb (decide (b < (lI a))))] [(0, AO a)] ?_
  refine AW.seq (AW.cN h (fun n h => ?_) (fun n h => ?_))
  ·refine AW.skip (AW.seq (AW.block (AW.SG0 Fm 2 [(0, ow 0), (1, .v (.c (.sem (CloOK Tryz.prog (FR_Record_Bool e))))), (5, vi b), (7, vi (lI a)), (8, vi b)] [(0, AO a)] ?_)))
   refine AW.seq ?_
   obtain ⟨j, h⟩ := gS h
   obtain ⟨i, q, h⟩ := bS h
   refine AW.G Fm [.s, .s, .s, .s, .s, .k (sE (vb i))] (fun K => _ ∧ _ ∧ K 5 ∧ True) [(0, ow 0), (1, .v (.c (.sem (CloOK Tryz.prog (FR_Record_Bool e))))), (5, vi b), (7, vi (lI a)), (8, vi b), (16, vb i)] [(0, AO a)] ⟨j, (toNat_lt j), KAt.sem (F := (FR_Record_Bool e)) (args := [.v (.g [ci ((gl a b.toNat).year_), ci ((gl a b.toNat).crop_), .d (DL (α := Rect) (gl a b.toNat).region_.rects_)])]) ⟨(gl a b.toNat), i, q, rfl, rfl⟩ rfl (by kernel_rfl) (by kernel_rfl) (by kernel_rfl), ⟨⟩⟩ ?_
   refine AW.cN h (fun o h => ?_) (fun o h => ?_)
   ·refine AW.SG0 Fm 2 [(4, vi b)] [(0, AO a)] ?_
    refine AW.ret ?_
    obtain rfl := Option.some.inj h
    exact Kn.D Fm
   ·refine AW.skip ?_
    obtain ⟨p, h⟩ := gS h
    refine AW.pN Fm [.s, .s] [(0, ow 0), (1, .v (.c (.sem (CloOK Tryz.prog (FR_Record_Bool e))))), (7, vi (lI a)), (8, vi (b + 1))] [(0, AO a)] (cT (cT p)) ?_
    exact Kn.R Fm (l (b + 1) h)
  ·exact AW.exit (Kn.R Fm (m () h))
theorem slices_ContainsFunc_Record_O_spec {F : Nat} {a : (List Record)} {d : Record → Option Bool} {r : (List Record) × Bool} (h : slices_ContainsFunc_Record_O F a d = some r) :
  FSpec Tryz.prog 99 [ow 0, .v (.c (.sem (CloOK Tryz.prog (FR_Record_Bool d))))] [(0, AO a)] (vb r.2) [(0, AO (α := Record) r.1)] := by
 refine FI Tryz.func99 prog_mixed prog_lay fun C Fm => ?_
 unfold slices_ContainsFunc_Record_O at h
 refine AW.SG0 Fm 1 [(0, ow 0), (1, .v (.c (.sem (CloOK Tryz.prog (FR_Record_Bool d)))))] [(0, AO a)] ?_
 refine AW.seq ?_
 obtain ⟨b, e, h⟩ := bS h
 refine AW.G Fm [.s, .s, .k (cE [(0, 0)] [] (vi b.2) [(0, AO a)] [(0, AO b.1)]), .s, .s] (fun K => K 2 ∧ True) [(4, vb (decide ((0 : Int) ≤ b.2)))] [(0, AO b.1)] ⟨KAt.callX (slices_IndexFunc_Record_O_spec e) Tryz.call182 [(0, 0)] [] [.tmp 5, .tmp 6] rfl (by kernel_rfl) (by kernel_rfl) (by kernel_rfl) ⟨.p, ArgT.semX (by kernel_rfl) (by kernel_rfl) (by kernel_rfl), ⟨⟩⟩, ⟨⟩⟩ ?_
 refine AW.ret ?_
 obtain rfl := Option.some.inj h
 exact Kn.D Fm
theorem history_Add_spec {F : Nat} {a : (List Record)} {e : Int} {b : Int} {j : Region} {r : (List Record) × Int} (h : history_Add F a e b j = some r) :
  FSpec Tryz.prog 18 [AL a, vi e, vi b, .v (.g [.d (DL j.rects_)])] [] (.t [.c (.d (DL (α := Record) r.1)), .c (ci r.2)]) [] := by
 refine FI Tryz.func18 prog_mixed prog_lay fun C Fm => ?_
 unfold history_Add at h
 refine AW.SG0 Fm 3 [(0, AL a), (1, vi e), (2, vi b), (7, pt 7)] [(7, bx [.d (DL j.rects_)])] ?_
 refine AW.seq (AW.seq ?_)
 obtain ⟨u, w0, h⟩ := bS h
 refine AW.G Fm [.s, .k (cE [] [] (vi u) [] []), .s] (fun K => K 1 ∧ True) [(0, AL a), (1, vi e), (2, vi b), (7, pt 7), (10, vi u)] [(7, bx [.d (DL j.rects_)])] ⟨KAt.CC (history_Check_spec w0) Tryz.call19 [], ⟨⟩⟩ ?_
 refine AW.SG0 Fm 2 [(0, AL a), (1, vi e), (2, vi b), (7, pt 7), (10, vi u), (19, vb (u != (0 : Int)))] [(7, bx [.d (DL j.rects_)])] ?_
 refine AW.cN h (fun i0 h => ?_) (fun i0 h => ?_)
 ·refine AW.SG0 Fm 3 [(8, .v (.c (.fl 0 fun _ => []))), (9, vi u)] [] ?_
  refine AW.ret ?_
  obtain rfl := Option.some.inj h
  refine Kn.r Fm [(8, .v (.c (.fl 0 fun _ => []))), (9, vi u)] [] (by kernel_rfl) ?_
  refine Kn.wk [(8, AL (α := Record) []), (9, vi u)] [] ⟨rfl, ALe.c (CLe.fl .nil), ⟨rfl, ALe.c (CLe.refl _), ⟨⟩⟩⟩ True.intro ?_
  exact Kn.D Fm
 ·refine AW.skip (AW.seq (AW.block (AW.join (r := r) (fun z : Bool => history_Add_k0 F a e b j z) (fun z => [(0, AL a), (1, vi e), (2, vi b), (7, pt 7), (21, vb z)]) (fun z => [(7, bx [.d (DL j.rects_)])]) (fun W0 h => ?_) (fun M0 U => ?_))))
  ·refine AW.cN h (fun j0 h => ?_) (fun j0 h => ?_)
   ·refine AW.SG0 Fm 2 [(8, .v (.c (.fl 0 fun _ => []))), (9, vi 18)] [] ?_
    refine AW.ret ?_
    obtain rfl := Option.some.inj h
    refine Kn.r Fm [(8, .v (.c (.fl 0 fun _ => []))), (9, vi 18)] [] (by kernel_rfl) ?_
    refine Kn.wk [(8, AL (α := Record) []), (9, vi 18)] [] ⟨rfl, ALe.c (CLe.fl .nil), ⟨rfl, ALe.c (CLe.refl _), ⟨⟩⟩⟩ True.intro ?_
    exact Kn.D Fm
   ·refine AW.join (r := r) (fun z : Bool => history_Add_k1 F a e b j z) (fun z => [(0, AL a), (1, vi e), (2, vi b), (7, pt 7), (28, vb z)]) (fun z => [(7, bx [.d (DL j.rects_)])]) (fun X0 h => ?_) (fun N0 V => ?_)
    ·refine AW.cN h (fun k0 h => ?_) (fun k0 h => ?_)
     ·refine AW.SG0 Fm 2 [(8, .v (.c (.fl 0 fun _ => []))), (9, vi 13)] [] ?_
      refine AW.ret ?_
      obtain rfl := Option.some.inj h
      refine Kn.r Fm [(8, .v (.c (.fl 0 fun _ => []))), (9, vi 13)] [] (by kernel_rfl) ?_
      refine Kn.wk [(8, AL (α := Record) []), (9, vi 13)] [] ⟨rfl, ALe.c (CLe.fl .nil), ⟨rfl, ALe.c (CLe.refl _), ⟨⟩⟩⟩ True.intro ?_
      exact Kn.D Fm
     ·refine AW.seq ?_
      obtain ⟨c0, A0, h⟩ := bS h
      refine AW.G Fm [.s, .k (cE [] [] (vb c0) [] []), .s, .s] (fun K => K 1 ∧ True) [(0, AL a), (1, vi e), (2, vi b), (7, pt 7), (35, vb (!c0))] [(7, bx [.d (DL j.rects_)])] ⟨KAt.CC (region_Valid_spec A0) Tryz.call92 [], ⟨⟩⟩ ?_
      refine AW.cN h (fun l0 h => ?_) (fun l0 h => ?_)
      ·refine AW.SG0 Fm 2 [(8, .v (.c (.fl 0 fun _ => []))), (9, vi 7)] [] ?_
       refine AW.ret ?_
       obtain rfl := Option.some.inj h
       refine Kn.r Fm [(8, .v (.c (.fl 0 fun _ => []))), (9, vi 7)] [] (by kernel_rfl) ?_
       refine Kn.wk [(8, AL (α := Record) []), (9, vi 7)] [] ⟨rfl, ALe.c (CLe.fl .nil), ⟨rfl, ALe.c (CLe.refl _), ⟨⟩⟩⟩ True.intro ?_
       exact Kn.D Fm
      ·refine AW.skip (AW.SG0 Fm 6 [(0, AL a), (1, vi e), (2, vi b), (7, pt 7), (11, pt 11)] [(7, bx [.d (DL j.rects_)]), (11, bx [ci e, ci b, .d (DL j.rects_)])] ?_)
       refine AW.SW Fm [.m] (fun K => True) [(0, AL a), (1, vi e), (2, vi b), (7, pt 7), (11, pt 11), (12, ow 12)] [(7, bx [.d (DL j.rects_)]), (11, bx [ci e, ci b, .d (DL j.rects_)]), (12, AO (α := Record) ([] : List Record))] True.intro [(12, .arr 3 (0) (fun _ => []))] ⟨OLe.is ((Is.nil (α := Record))), ⟨⟩⟩ ?_
       refine AW.join (r := r) (fun z : (List Rect) × (List Record) => history_Add_k6 F e b z.1 z.2) (fun z => [(11, pt 11), (12, ow 12)]) (fun z => [(11, bx [ci e, ci b, .d (DL z.1)]), (12, AO z.2)]) (fun z h => ?_) (fun U0 e0 => ?_)
       ·obtain ⟨a1, A⟩ := z
        refine AW.seq ?_
        obtain ⟨o, G0, h⟩ := bS h
        obtain ⟨u0, h⟩ := gS h
        refine AW.GW Fm [.s, .s, .s, .s, .s, .k (cE [] [] (gE o) [] []), .w (AL (α := Record) ([o] : List Record)), .s, .s] (fun K => K 5 ∧ (ALe (.v (.c (.d (.lst 1 (litF 3 [.int .i64 o.year_, .int .i64 o.crop_, DL o.region_.rects_]))))) (AL (α := Record) ([o] : List Record))) ∧ (_ ∧ _ ∧ True) ∧ True) [(12, ow 92)] [(92, AO (α := Record) (A ++ ([o] : List Record)))] ⟨KAt.CC (history_copied_spec G0) Tryz.call96 [], ALe.lst (.lit ([o] : List Record) (by kernel_rfl)), ⟨u0, (Is.refl ([o] : List Record) : Is (List.length (α := Record) ([o] : List Record)) (LF (α := Record) ([o] : List Record)) ([o] : List Record)).len, ⟨⟩⟩, ⟨⟩⟩ [(92, .arr 3 ((List.length (α := Record) A) + (List.length (α := Record) ([o] : List Record))) (appF (List.length (α := Record) A) (LF (α := Record) A) (LF (α := Record) ([o] : List Record))))] ⟨OLe.is (Is.app (Is.refl A) (Is.refl ([o] : List Record))), ⟨⟩⟩ ?_
        refine AW.seq ?_
        obtain ⟨E, H0, h⟩ := bS h
        refine AW.G Fm [.s, .k (cE [(0, 92), (100, 94)] [] (ow 100) [(0, AO (α := Record) (A ++ ([o] : List Record)))] [(100, AO E)]), .s] (fun K => K 1 ∧ True) [(12, ow 94)] [(94, AO E)] ⟨KAt.callX (slices_DeleteFunc_Record_spec H0) Tryz.call97 [(0, 92), (100, 94)] [] [.tmp 93, .func 98] rfl (by kernel_rfl) (by kernel_rfl) (by kernel_rfl) ⟨.p, ArgT.cloX Tryz.call98 [] (fun args r hq => by obtain ⟨y0, y, hq, rfl, rfl⟩ := hq; exact Eq.mp (by kernel_rfl) (history_Add_3_spec hq)) (fun args r hq => by obtain ⟨y0, y, hq, rfl, rfl⟩ := hq; rfl) (by kernel_rfl) [] (by kernel_rfl) (by kernel_rfl) (True.intro) (by kernel_rfl), ⟨⟩⟩, ⟨⟩⟩ ?_
        refine AW.seq (AW.join (r := r) (fun z : Bool × (List Record) => history_Add_k7 F z.1 z.2) (fun z => [(12, ow 94), (101, vb z.1)]) (fun z => [(94, AO z.2)]) (fun z h => ?_) (fun V0 Z => ?_))
        ·obtain ⟨b1, L0⟩ := z
         refine AW.cN h (fun p0 h => ?_) (fun p0 h => ?_)
         ·refine AW.SG0 Fm 2 [(8, .v (.c (.fl 0 fun _ => []))), (9, vi 1)] [] ?_
          refine AW.ret ?_
          obtain rfl := Option.some.inj h
          refine Kn.r Fm [(8, .v (.c (.fl 0 fun _ => []))), (9, vi 1)] [] (by kernel_rfl) ?_
          refine Kn.wk [(8, AL (α := Record) []), (9, vi 1)] [] ⟨rfl, ALe.c (CLe.fl .nil), ⟨rfl, ALe.c (CLe.refl _), ⟨⟩⟩⟩ True.intro ?_
          exact Kn.D Fm
         ·refine AW.skip (AW.seq ?_)
          obtain ⟨H, K0, h⟩ := bS h
          refine AW.G Fm [.s, .k (cE [(0, 94)] [] (.any) [(0, AO L0)] [(0, AO H)])] (fun K => K 1 ∧ True) [(12, ow 94)] [(94, AO H)] ⟨KAt.callX (sortG_Record_spec K0) Tryz.call101 [(0, 94)] [] [.tmp 102, .func 102] rfl (by kernel_rfl) (by kernel_rfl) (by kernel_rfl) ⟨.p, ArgT.cloX Tryz.call102 [] (fun args r hq => by obtain ⟨y0, y1, y, hq, rfl, rfl⟩ := hq; exact Eq.mp (by kernel_rfl) (history_compare_spec hq)) (fun args r hq => by obtain ⟨y0, y1, y, hq, rfl, rfl⟩ := hq; rfl) (by kernel_rfl) [] (by kernel_rfl) (by kernel_rfl) (True.intro) (by kernel_rfl), ⟨⟩⟩, ⟨⟩⟩ ?_
          refine AW.SG0 Fm 3 [(8, ow 94), (9, vi 0)] [(94, AO H)] ?_
          refine AW.ret ?_
          obtain rfl := Option.some.inj h
          refine Kn.r Fm [(8, ow 94), (9, vi 0)] [(94, AO H)] (by kernel_rfl) ?_
          refine Kn.frz [(8, AL H), (9, vi 0)] [] (by kernel_rfl) (by kernel_rfl) (by kernel_rfl) ?_
          exact Kn.D Fm
        ·rcases br_or h with ⟨O, h⟩ | ⟨O, h⟩
         ·refine AW.pN Fm [.s, .s, .s, .w (vb true), .s, .s, .s] [(12, ow 94), (101, vb true)] [(94, AO E)] (cT (ALe.bool O)) ?_
          exact Kn.R Fm (Z (true, E) h)
         ·obtain ⟨B, I0, h⟩ := bS h
          refine AW.G Fm [.s, .s, .s, .w (vb false), .s, .k (cE [(0, 94)] [] (vb B.2) [(0, AO E)] [(0, AO B.1)]), .s] (fun K => _ ∧ K 5 ∧ True) [(12, ow 94), (101, vb B.2)] [(94, AO B.1)] ⟨ALe.bool O, KAt.callX (slices_ContainsFunc_Record_O_spec I0) Tryz.call99 [(0, 94)] [] [.tmp 99, .func 100] rfl (by kernel_rfl) (by kernel_rfl) (by kernel_rfl) ⟨.p, ArgT.cloX Tryz.call100 [] (fun args r hq => by obtain ⟨y0, y, hq, rfl, rfl⟩ := hq; exact Eq.mp (by kernel_rfl) (history_Add_4_spec hq)) (fun args r hq => by obtain ⟨y0, y, hq, rfl, rfl⟩ := hq; rfl) (by kernel_rfl) [] (by kernel_rfl) (by kernel_rfl) (True.intro) (by kernel_rfl), ⟨⟩⟩, ⟨⟩⟩ ?_
          exact Kn.R Fm (Z (B.2, B.1) h)
       ·refine AW.SG0 Fm 3 [(1, vi e), (2, vi b), (7, pt 7), (11, pt 11), (12, ow 12), (43, AL a), (44, vi (lI a)), (45, vi 0)] [(7, bx [.d (DL j.rects_)]), (11, bx [ci e, ci b, .d (DL j.rects_)]), (12, AO (α := Record) ([] : List Record))] ?_
        refine AW.block (Kn.r Fm [(1, vi e), (2, vi b), (7, pt 7), (11, pt 11), (12, ow 12), (43, AL a), (44, vi (lI a)), (45, vi 0)] [(7, bx [.d (DL j.rects_)]), (11, bx [ci e, ci b, .d (DL j.rects_)]), (12, AO ([] : List Record))] (by kernel_rfl) ?_)
        refine AW.loopF (E' := fun z => [(1, vi e), (2, vi b), (7, pt 7), (11, pt 11), (12, ow 12), (43, AL a), (44, vi (lI a)), (45, vi z.1)]) (S' := fun z => [(7, bx [.d (DL j.rects_)]), (11, bx [ci e, ci b, .d (DL z.2.1)]), (12, AO z.2.2)]) (fun I z O0 d0 h => ?_) h
        obtain ⟨i, q, l⟩ := z
        refine AW.SG0 Fm 1 [(1, vi e), (2, vi b), (7, pt 7), (11, pt 11), (12, ow 12), (43, AL a), (44, vi (lI a)), (45, vi i), (46, vb (decide (i < (lI a))))] [(7, bx [.d (DL j.rects_)]), (11, bx [ci e, ci b, .d (DL q)]), (12, AO l)] ?_
        refine AW.seq (AW.cN h (fun m0 h => ?_) (fun m0 h => ?_))
        ·refine AW.skip (AW.join (r := r) (fun z : (List Rect) × (List Record) => history_Add_k5 F i I z.1 z.2) (fun z => [(1, vi e), (2, vi b), (7, pt 7), (11, pt 11), (12, ow 12), (43, AL a), (44, vi (lI a)), (45, vi i)]) (fun z => [(7, bx [.d (DL j.rects_)]), (11, bx [ci e, ci b, .d (DL z.1)]), (12, AO z.2)]) (fun z h => ?_) (fun T0 Y => ?_))
         ·obtain ⟨a0, b0⟩ := z
          obtain ⟨t0, h⟩ := gS h
          refine AW.pN Fm [.s, .s] [(1, vi e), (2, vi b), (7, pt 7), (11, pt 11), (12, ow 12), (43, AL a), (44, vi (lI a)), (45, vi (i + 1))] [(7, bx [.d (DL j.rects_)]), (11, bx [ci e, ci b, .d (DL a0)]), (12, AO b0)] (cT (cT t0)) ?_
          exact Kn.R Fm (d0 ((i + 1), a0, b0) h)
         ·refine AW.block ?_
          obtain ⟨q0, h⟩ := gS h
          refine AW.SP Fm [.s, .s, .s, .s] [(1, vi e), (2, vi b), (7, pt 7), (11, pt 11), (12, ow 12), (14, pt 14), (43, AL a), (44, vi (lI a)), (45, vi i)] [(7, bx [.d (DL j.rects_)]), (11, bx [ci e, ci b, .d (DL q)]), (12, AO l), (14, bx [ci ((gl a i.toNat).year_), ci ((gl a i.toNat).crop_), .d (DL (α := Rect) (gl a i.toNat).region_.rects_)])] (cT q0) ?_
          refine AW.SG0 Fm 4 [(1, vi e), (2, vi b), (7, pt 7), (11, pt 11), (12, ow 12), (14, pt 14), (15, AL (α := Rect) (gl a i.toNat).region_.rects_), (43, AL a), (44, vi (lI a)), (45, vi i)] [(7, bx [.d (DL j.rects_)]), (11, bx [ci e, ci b, .d (DL q)]), (12, AO l), (14, bx [ci ((gl a i.toNat).year_), ci ((gl a i.toNat).crop_), .d (DL (α := Rect) (gl a i.toNat).region_.rects_)])] ?_
          refine AW.join (r := r) (fun z : (List Rect) => history_Add_k4 F a i q l I z) (fun z => [(1, vi e), (2, vi b), (7, pt 7), (11, pt 11), (12, ow 12), (14, pt 14), (15, AL z), (43, AL a), (44, vi (lI a)), (45, vi i)]) (fun z => [(7, bx [.d (DL j.rects_)]), (11, bx [ci e, ci b, .d (DL q)]), (12, AO l), (14, bx [ci ((gl a i.toNat).year_), ci ((gl a i.toNat).crop_), .d (DL (α := Rect) (gl a i.toNat).region_.rects_)])]) (fun Z0 h => ?_) (fun R0 X => ?_)
          ·obtain ⟨n, E0, h⟩ := bS h
           obtain ⟨s0, h⟩ := gS h
           refine AW.GW Fm [.s, .s, .s, .k (cE [] [] (gE n) [] []), .w (AL (α := Record) ([n] : List Record)), .s, .s] (fun K => K 3 ∧ (ALe (.v (.c (.d (.lst 1 (litF 3 [.int .i64 n.year_, .int .i64 n.crop_, DL n.region_.rects_]))))) (AL (α := Record) ([n] : List Record))) ∧ (_ ∧ _ ∧ True) ∧ True) [(1, vi e), (2, vi b), (7, pt 7), (11, pt 11), (12, ow 83), (43, AL a), (44, vi (lI a)), (45, vi i)] [(7, bx [.d (DL j.rects_)]), (11, bx [ci e, ci b, .d (DL q)]), (83, AO (α := Record) (l ++ ([n] : List Record)))] ⟨KAt.CC (history_copied_spec E0) Tryz.call96 [], ALe.lst (.lit ([n] : List Record) (by kernel_rfl)), ⟨s0, (Is.refl ([n] : List Record) : Is (List.length (α := Record) ([n] : List Record)) (LF (α := Record) ([n] : List Record)) ([n] : List Record)).len, ⟨⟩⟩, ⟨⟩⟩ [(83, .arr 3 ((List.length (α := Record) l) + (List.length (α := Record) ([n] : List Record))) (appF (List.length (α := Record) l) (LF (α := Record) l) (LF (α := Record) ([n] : List Record))))] ⟨OLe.is (Is.app (Is.refl l) (Is.refl ([n] : List Record))), ⟨⟩⟩ ?_
           exact Kn.RE Fm [(12, 83)] (Y (q, (l ++ ([n] : List Record))) h)
          ·refine AW.block (AW.join (r := r) (fun z : Bool => history_Add_k3 F a e j i q l I z) (fun z => [(1, vi e), (2, vi b), (7, pt 7), (11, pt 11), (12, ow 12), (14, pt 14), (15, AL (α := Rect) (gl a i.toNat).region_.rects_), (43, AL a), (44, vi (lI a)), (45, vi i), (52, vb z)]) (fun z => [(7, bx [.d (DL j.rects_)]), (11, bx [ci e, ci b, .d (DL q)]), (12, AO l), (14, bx [ci ((gl a i.toNat).year_), ci ((gl a i.toNat).crop_), .d (DL (α := Rect) (gl a i.toNat).region_.rects_)])]) (fun Y0 h => ?_) (fun P0 W => ?_))
           ·refine AW.cN h (fun n0 h => ?_) (fun n0 h => ?_)
            ·refine AW.seq ?_
             obtain ⟨P, B0, h⟩ := bS h
             refine AW.G Fm [.s, .s, .s, .k (cE [] [] (AL P) [] []), .s, .s, .s] (fun K => K 3 ∧ True) [(1, vi e), (2, vi b), (7, pt 7), (11, pt 11), (12, ow 12), (43, AL a), (44, vi (lI a)), (45, vi i)] [(7, bx [.d (DL j.rects_)]), (11, bx [ci e, ci b, .d (DL P)]), (12, AO l)] ⟨KAt.callX (region_Choose_spec B0) Tryz.call93 [] [] [.tmp 63, .tmp 65, .func 94] rfl (by kernel_rfl) (by kernel_rfl) (by kernel_rfl) ⟨.p, .p, ArgT.cloX Tryz.call94 [] (fun args r hq => by obtain ⟨y0, y1, y, hq, rfl, rfl⟩ := hq; exact Eq.mp (by kernel_rfl) (history_Add_1_spec hq)) (fun args r hq => by obtain ⟨y0, y1, y, hq, rfl, rfl⟩ := hq; rfl) (by kernel_rfl) [] (by kernel_rfl) (by kernel_rfl) (True.intro) (by kernel_rfl), ⟨⟩⟩, ⟨⟩⟩ ?_
             exact AW.exit (Kn.R Fm (Y (P, l) h))
            ·refine AW.SG0 Fm 5 [(1, vi e), (2, vi b), (7, pt 7), (11, pt 11), (12, ow 12), (14, pt 14), (15, AL (α := Rect) (gl a i.toNat).region_.rects_), (43, AL a), (44, vi (lI a)), (45, vi i), (69, vb (((gl a i.toNat).year_) == e))] [(7, bx [.d (DL j.rects_)]), (11, bx [ci e, ci b, .d (DL q)]), (12, AO l), (14, bx [ci ((gl a i.toNat).year_), ci ((gl a i.toNat).crop_), .d (DL (α := Rect) (gl a i.toNat).region_.rects_)])] ?_
             refine AW.cN h (fun o0 h => ?_) (fun o0 h => ?_)
             ·obtain ⟨T, D0, h⟩ := bS h
              refine AW.G Fm [.s, .s, .s, .k (cE [] [] (AL T) [] []), .s] (fun K => K 3 ∧ True) [(1, vi e), (2, vi b), (7, pt 7), (11, pt 11), (12, ow 12), (14, pt 14), (15, AL T), (43, AL a), (44, vi (lI a)), (45, vi i)] [(7, bx [.d (DL j.rects_)]), (11, bx [ci e, ci b, .d (DL q)]), (12, AO l), (14, bx [ci ((gl a i.toNat).year_), ci ((gl a i.toNat).crop_), .d (DL (α := Rect) (gl a i.toNat).region_.rects_)])] ⟨KAt.callX (region_Choose_spec D0) Tryz.call93 [] [] [.tmp 74, .tmp 76, .func 95] rfl (by kernel_rfl) (by kernel_rfl) (by kernel_rfl) ⟨.p, .p, ArgT.cloX Tryz.call95 [] (fun args r hq => by obtain ⟨y0, y1, y, hq, rfl, rfl⟩ := hq; exact Eq.mp (by kernel_rfl) (history_Add_2_spec hq)) (fun args r hq => by obtain ⟨y0, y1, y, hq, rfl, rfl⟩ := hq; rfl) (by kernel_rfl) [] (by kernel_rfl) (by kernel_rfl) (True.intro) (by kernel_rfl), ⟨⟩⟩, ⟨⟩⟩ ?_
              exact Kn.R Fm (X T h)
             ·exact AW.skip (Kn.R Fm (X ((gl a i.toNat).region_.rects_) h))
           ·rcases br_or h with ⟨N, h⟩ | ⟨N, h⟩
            ·refine AW.pN Fm [.s, .s, .s, .s, .w (vb true), .s, .s, .s, .s, .s, .s] [(1, vi e), (2, vi b), (7, pt 7), (11, pt 11), (12, ow 12), (14, pt 14), (15, AL (α := Rect) (gl a i.toNat).region_.rects_), (43, AL a), (44, vi (lI a)), (45, vi i), (52, vb (((gl a i.toNat).crop_) == b)), (58, .v (.c (.ptr 14 1))), (59, vi (gl a i.toNat).crop_), (60, vi b), (61, vb (((gl a i.toNat).crop_) == b))] [(7, bx [.d (DL j.rects_)]), (11, bx [ci e, ci b, .d (DL q)]), (12, AO l), (14, bx [ci ((gl a i.toNat).year_), ci ((gl a i.toNat).crop_), .d (DL (α := Rect) (gl a i.toNat).region_.rects_)])] (cT (ALe.bool N)) ?_
             exact Kn.R Fm (W (((gl a i.toNat).crop_) == b) h)
            ·refine AW.pN Fm [.s, .s, .s, .s, .w (vb false), .s, .s, .s, .s, .s, .s] [(1, vi e), (2, vi b), (7, pt 7), (11, pt 11), (12, ow 12), (14, pt 14), (15, AL (α := Rect) (gl a i.toNat).region_.rects_), (43, AL a), (44, vi (lI a)), (45, vi i), (52, vb false)] [(7, bx [.d (DL j.rects_)]), (11, bx [ci e, ci b, .d (DL q)]), (12, AO l), (14, bx [ci ((gl a i.toNat).year_), ci ((gl a i.toNat).crop_), .d (DL (α := Rect) (gl a i.toNat).region_.rects_)])] (cT (ALe.bool N)) ?_
             exact Kn.R Fm (W false h)
        ·exact AW.exit (Kn.R Fm (e0 (q, l) h))
    ·rcases br_or h with ⟨M, h⟩ | ⟨M, h⟩
     ·refine AW.pN Fm [.s, .s, .w (vb true), .s, .s, .s, .s] [(0, AL a), (1, vi e), (2, vi b), (7, pt 7), (28, vb true)] [(7, bx [.d (DL j.rects_)])] (cT (ALe.bool M)) ?_
      exact Kn.R Fm (V true h)
     ·refine AW.pN Fm [.s, .s, .w (vb false), .s, .s, .s, .s] [(0, AL a), (1, vi e), (2, vi b), (7, pt 7), (28, vb (decide ((40 : Int) ≤ b)))] [(7, bx [.d (DL j.rects_)])] (cT (ALe.bool M)) ?_
      exact Kn.R Fm (V (decide ((40 : Int) ≤ b)) h)
  ·rcases br_or h with ⟨L, h⟩ | ⟨L, h⟩
   ·refine AW.pN Fm [.s, .s, .w (vb true), .s, .s, .s, .s] [(0, AL a), (1, vi e), (2, vi b), (7, pt 7), (21, vb true)] [(7, bx [.d (DL j.rects_)])] (cT (ALe.bool L)) ?_
    exact Kn.R Fm (U true h)
   ·refine AW.pN Fm [.s, .s, .w (vb false), .s, .s, .s, .s] [(0, AL a), (1, vi e), (2, vi b), (7, pt 7), (21, vb (decide ((100 : Int) < e)))] [(7, bx [.d (DL j.rects_)])] (cT (ALe.bool L)) ?_
    exact Kn.R Fm (U (decide ((100 : Int) < e)) h)
theorem history_Where_1_spec {F : Nat} {b : Int} {a : Int} {r : Bool} (h : history_Where_1 F b a = some r) :
  FSpec Tryz.prog 117 [vi b, pt 0] [(0, .box true [ci a])] (vb r) [(0, .box true [ci a])] := by
 refine FI Tryz.func117 prog_mixed prog_lay fun C Fm => ?_
 unfold history_Where_1 at h
 refine AW.SG0 Fm 1 [(0, vi b), (1, pt 0)] [(0, .box true [ci a])] ?_
 refine AW.SG0 Fm 4 [(3, vb (b == a))] [(0, .box true [ci a])] ?_
 refine AW.ret ?_
 obtain rfl := Option.some.inj h
 exact Kn.D Fm
theorem history_Where_spec {F : Nat} {b : (List Record)} {e : Int} {a : Int} {r : Region × Int} (h : history_Where F b e a = some r) :
  FSpec Tryz.prog 33 [AL b, vi e, vi a] [] (.t [.g [.d (DL (α := Rect) r.1.rects_)], .c (ci r.2)]) [] := by
 refine FI Tryz.func33 prog_mixed prog_lay fun C Fm => ?_
 unfold history_Where at h
 refine AW.SG0 Fm 3 [(0, AL b), (1, vi e), (5, pt 5), (6, pt 6)] [(5, bx [ci a]), (6, bx [.fl 0 fun _ => []])] ?_
 refine AW.seq (AW.seq ?_)
 obtain ⟨i, m, h⟩ := bS h
 refine AW.G Fm [.s, .k (cE [] [] (vi i) [] []), .s] (fun K => K 1 ∧ True) [(0, AL b), (1, vi e), (5, pt 5), (6, pt 6), (8, vi i)] [(5, bx [ci a]), (6, bx [.fl 0 fun _ => []])] ⟨KAt.CC (history_Check_spec m) Tryz.call19 [], ⟨⟩⟩ ?_
 refine AW.SG0 Fm 2 [(0, AL b), (1, vi e), (5, pt 5), (6, pt 6), (8, vi i), (12, vb (i != (0 : Int)))] [(5, bx [ci a]), (6, bx [.fl 0 fun _ => []])] ?_
 refine AW.cN h (fun l h => ?_) (fun l h => ?_)
 ·refine AW.SP Fm [.w (.v (.g [.d (DL (α := Rect) [])])), .s, .s, .s] [(6, pt 6), (7, vi i)] [(6, bx [.d (DL (α := Rect) [])])] (cT (ALe.g ⟨CLe.fl .nil, ⟨⟩⟩ : ALe (.v (.g [.fl 0 fun _ => []])) (.v (.g [.d (DL (α := Rect) [])])))) ?_
  refine AW.ret ?_
  obtain rfl := Option.some.inj h
  exact Kn.D Fm
 ·refine AW.skip (AW.seq ?_)
  obtain ⟨q, n, h⟩ := bS h
  obtain ⟨j, o, h⟩ := bS h
  refine AW.G Fm [.s, .s, .s, .k (cE [] [5] (AL q) [] []), .k (cE [] [] (.t [.g [.d (DL j.1.rects_)], .c (ci j.2)]) [] []), .s, .s, .s, .s] (fun K => K 3 ∧ K 4 ∧ True) [(6, pt 6), (7, vi j.2)] [(6, bx [.d (DL j.1.rects_)])] ⟨KAt.callX (history_Rects_spec n) Tryz.call116 [] [5] [.tmp 15, .tmp 16, .tmp 17] rfl (by kernel_rfl) (by kernel_rfl) (by kernel_rfl) ⟨.p, .p, ArgT.cloX Tryz.call117 [[ci a]] (fun args r hq => by obtain ⟨y0, y, hq, rfl, rfl⟩ := hq; exact Eq.mp (by kernel_rfl) (history_Where_1_spec hq)) (fun args r hq => by obtain ⟨y0, y, hq, rfl, rfl⟩ := hq; rfl) (by kernel_rfl) [5] (by kernel_rfl) (by kernel_rfl) (⟨⟨false, (by kernel_rfl)⟩, ⟨⟩⟩) (by kernel_rfl), ⟨⟩⟩, KAt.CC (region_Joined_spec o) Tryz.call111 [], ⟨⟩⟩ ?_
  refine AW.ret ?_
  obtain rfl := Option.some.inj h
  exact Kn.D Fm
theorem history_wrong_spec {F : Nat} {a : Int} {r : Bool} (h : history_wrong F a = some r) :
  FSpec Tryz.prog 119 [vi a] [] (vb r) [] := by
 refine FI Tryz.func119 prog_mixed prog_lay fun C Fm => ?_
 unfold history_wrong at h
 refine AW.SG0 Fm 1 [(0, vi a)] [] ?_
 refine AW.join (r := r) (fun z : Bool => history_wrong_k0 F z) (fun z => [(2, vb z)]) (fun z => []) (fun e h => ?_) (fun d c => ?_)
 ·refine AW.ret ?_
  obtain rfl := Option.some.inj h
  exact Kn.D Fm
 ·rcases br_or h with ⟨b, h⟩ | ⟨b, h⟩
  ·refine AW.pN Fm [.s, .s, .w (vb true), .s, .s, .s, .s] [(2, vb true)] [] (cT (ALe.bool b)) ?_
   exact Kn.R Fm (c true h)
  ·refine AW.pN Fm [.s, .s, .w (vb false), .s, .s, .s, .s] [(2, vb (decide ((100 : Int) < a)))] [] (cT (ALe.bool b)) ?_
   exact Kn.R Fm (c (decide ((100 : Int) < a)) h)
theorem history_Marked_1_spec {F : Nat} {c : Int} {a : (List Crop)} {b : Int} {r : Bool} (h : history_Marked_1 F c a b = some r) :
  FSpec Tryz.prog 120 [vi c, pt 0, pt 1] [(0, .box true [.d (DL a)]), (1, .box true [ci b])] (vb r) [(0, .box true [.d (DL a)]), (1, .box true [ci b])] := by
 refine FI Tryz.func120 prog_mixed prog_lay fun C Fm => ?_
 unfold history_Marked_1 at h
 refine AW.SG0 Fm 1 [(0, vi c), (1, pt 0), (2, pt 1)] [(0, .box true [.d (DL a)]), (1, .box true [ci b])] ?_
 refine AW.seq ?_
 obtain ⟨e, i, h⟩ := bS h
 refine AW.G Fm [.s, .s, .s, .k (cE [] [] (vb e) [] []), .s] (fun K => K 3 ∧ True) [(4, vb e)] [(0, .box true [.d (DL a)]), (1, .box true [ci b])] ⟨KAt.CC (crop_Has_spec i) Tryz.call121 [], ⟨⟩⟩ ?_
 refine AW.ret ?_
 obtain rfl := Option.some.inj h
 exact Kn.D Fm
theorem history_Marked_spec {F : Nat} {e : (List Record)} {b : (List Crop)} {i : Int} {a : Int} {r : Region × Int} (h : history_Marked F e b i a = some r) :
  FSpec Tryz.prog 34 [AL e, AL b, vi i, vi a] [] (.t [.g [.d (DL (α := Rect) r.1.rects_)], .c (ci r.2)]) [] := by
 refine FI Tryz.func34 prog_mixed prog_lay fun C Fm => ?_
 unfold history_Marked at h
 refine AW.SG0 Fm 4 [(0, AL e), (2, vi i), (5, pt 5), (7, pt 7), (8, pt 8)] [(5, bx [.d (DL b)]), (7, bx [ci a]), (8, bx [.fl 0 fun _ => []])] ?_
 refine AW.seq (AW.seq ?_)
 obtain ⟨j, B, h⟩ := bS h
 refine AW.G Fm [.s, .s, .k (cE [] [] (vi j) [] []), .s] (fun K => K 2 ∧ True) [(0, AL e), (2, vi i), (5, pt 5), (7, pt 7), (8, pt 8), (10, vi j)] [(5, bx [.d (DL b)]), (7, bx [ci a]), (8, bx [.fl 0 fun _ => []])] ⟨KAt.CC (history_Listed_spec B) Tryz.call118 [], ⟨⟩⟩ ?_
 refine AW.SG0 Fm 2 [(0, AL e), (2, vi i), (5, pt 5), (7, pt 7), (8, pt 8), (10, vi j), (15, vb (j != (0 : Int)))] [(5, bx [.d (DL b)]), (7, bx [ci a]), (8, bx [.fl 0 fun _ => []])] ?_
 refine AW.cN h (fun q h => ?_) (fun q h => ?_)
 ·refine AW.SP Fm [.w (.v (.g [.d (DL (α := Rect) [])])), .s, .s, .s] [(8, pt 8), (9, vi j)] [(8, bx [.d (DL (α := Rect) [])])] (cT (ALe.g ⟨CLe.fl .nil, ⟨⟩⟩ : ALe (.v (.g [.fl 0 fun _ => []])) (.v (.g [.d (DL (α := Rect) [])])))) ?_
  refine AW.ret ?_
  obtain rfl := Option.some.inj h
  exact Kn.D Fm
 ·refine AW.skip (AW.seq (AW.block (AW.seq ?_)))
  obtain ⟨o, E, h⟩ := bS h
  refine AW.G Fm [.s, .k (cE [] [] (vb o) [] []), .s] (fun K => K 1 ∧ True) [(0, AL e), (2, vi i), (5, pt 5), (7, pt 7), (8, pt 8), (18, vb o)] [(5, bx [.d (DL b)]), (7, bx [ci a]), (8, bx [.fl 0 fun _ => []])] ⟨KAt.CC (history_wrong_spec E) Tryz.call119 [], ⟨⟩⟩ ?_
  refine AW.cN h (fun u h => ?_) (fun u h => ?_)
  ·refine AW.SP Fm [.w (.v (.g [.d (DL (α := Rect) [])])), .s, .s] [(8, pt 8), (9, vi 18)] [(8, bx [.d (DL (α := Rect) [])])] (cT (ALe.g ⟨CLe.fl .nil, ⟨⟩⟩ : ALe (.v (.g [.fl 0 fun _ => []])) (.v (.g [.d (DL (α := Rect) [])])))) ?_
   refine AW.ret ?_
   obtain rfl := Option.some.inj h
   exact Kn.D Fm
  ·refine AW.join (r := r) (fun z : Bool => history_Marked_k0 F e b i a z) (fun z => [(0, AL e), (2, vi i), (5, pt 5), (7, pt 7), (8, pt 8), (22, vb z)]) (fun z => [(5, bx [.d (DL b)]), (7, bx [ci a]), (8, bx [.fl 0 fun _ => []])]) (fun N h => ?_) (fun M n => ?_)
   ·refine AW.cN h (fun A h => ?_) (fun A h => ?_)
    ·refine AW.SP Fm [.w (.v (.g [.d (DL (α := Rect) [])])), .s, .s] [(8, pt 8), (9, vi 14)] [(8, bx [.d (DL (α := Rect) [])])] (cT (ALe.g ⟨CLe.fl .nil, ⟨⟩⟩ : ALe (.v (.g [.fl 0 fun _ => []])) (.v (.g [.d (DL (α := Rect) [])])))) ?_
     refine AW.ret ?_
     obtain rfl := Option.some.inj h
     exact Kn.D Fm
    ·refine AW.skip (AW.seq ?_)
     obtain ⟨L, H, h⟩ := bS h
     obtain ⟨l, I, h⟩ := bS h
     refine AW.G Fm [.s, .s, .s, .k (cE [] [5, 7] (AL L) [] []), .k (cE [] [] (.t [.g [.d (DL l.1.rects_)], .c (ci l.2)]) [] []), .s, .s, .s, .s] (fun K => K 3 ∧ K 4 ∧ True) [(8, pt 8), (9, vi l.2)] [(8, bx [.d (DL l.1.rects_)])] ⟨KAt.callX (history_Rects_spec H) Tryz.call116 [] [5, 7] [.tmp 30, .tmp 31, .tmp 32] rfl (by kernel_rfl) (by kernel_rfl) (by kernel_rfl) ⟨.p, .p, ArgT.cloX Tryz.call120 [[.d (DL b)], [ci a]] (fun args r hq => by obtain ⟨y0, y, hq, rfl, rfl⟩ := hq; exact Eq.mp (by kernel_rfl) (history_Marked_1_spec hq)) (fun args r hq => by obtain ⟨y0, y, hq, rfl, rfl⟩ := hq; rfl) (by kernel_rfl) [5, 7] (by kernel_rfl) (by kernel_rfl) (⟨⟨false, (by kernel_rfl)⟩, ⟨⟨false, (by kernel_rfl)⟩, ⟨⟩⟩⟩) (by kernel_rfl), ⟨⟩⟩, KAt.CC (region_Joined_spec I) Tryz.call111 [], ⟨⟩⟩ ?_
     refine AW.ret ?_
     obtain rfl := Option.some.inj h
     exact Kn.D Fm
   ·rcases br_or h with ⟨m, h⟩ | ⟨m, h⟩
    ·refine AW.pN Fm [.s, .s, .w (vb true), .s, .s, .s, .s] [(0, AL e), (2, vi i), (5, pt 5), (7, pt 7), (8, pt 8), (22, vb true)] [(5, bx [.d (DL b)]), (7, bx [ci a]), (8, bx [.fl 0 fun _ => []])] (cT (ALe.bool m)) ?_
     exact Kn.R Fm (n true h)
    ·refine AW.pN Fm [.s, .s, .w (vb false), .s, .s, .s, .s] [(0, AL e), (2, vi i), (5, pt 5), (7, pt 7), (8, pt 8), (22, vb (decide ((31 : Int) < a)))] [(5, bx [.d (DL b)]), (7, bx [ci a]), (8, bx [.fl 0 fun _ => []])] (cT (ALe.bool m)) ?_
     exact Kn.R Fm (n (decide ((31 : Int) < a)) h)
theorem ref15_Records_spec {F : Nat} {b : (List Record)} {e : (List Record)} {r : Bool} (h : ref15_Records F b e = some r) :
  FSpec Tryz.prog 35 [AL b, AL e] [] (vb r) [] := by
 refine FI Tryz.func35 prog_mixed prog_lay fun C Fm => ?_
 unfold ref15_Records at h
 refine AW.SG0 Fm 1 [(0, AL b), (1, AL e)] [] ?_
 refine AW.seq (AW.SG0 Fm 5 [(0, AL b), (1, AL e), (10, vb ((lI b) != (lI e)))] [] ?_)
 refine AW.cN h (fun A h => ?_) (fun A h => ?_)
 ·refine AW.SG0 Fm 1 [(4, vb false)] [] ?_
  refine AW.ret ?_
  obtain rfl := Option.some.inj h
  exact Kn.D Fm
 ·refine AW.skip (AW.join (r := r) (fun z : Unit => ref15_Records_k2 F) (fun z => []) (fun z => []) (fun z h => ?_) (fun P y => ?_))
  ·refine AW.SG0 Fm 1 [(4, vb true)] [] ?_
   refine AW.ret ?_
   obtain rfl := Option.some.inj h
   exact Kn.D Fm
  ·refine AW.SG0 Fm 3 [(0, AL b), (1, AL e), (12, vi (lI b)), (13, vi 0)] [] ?_
   refine AW.block (AW.loopF (E' := fun z => [(0, AL b), (1, AL e), (12, vi (lI b)), (13, vi z)]) (S' := fun z => []) (fun t a N u h => ?_) h)
   refine AW.SG0 Fm 1 [(0, AL b), (1, AL e), (12, vi (lI b)), (13, vi a), (14, vb (decide (a < (lI b))))] [] ?_
   refine AW.seq (AW.cN h (fun B h => ?_) (fun B h => ?_))
   ·refine AW.skip (AW.seq (AW.block (AW.SG0 Fm 2 [(0, AL b), (1, AL e), (5, vi a), (12, vi (lI b)), (13, vi a)] [] ?_)))
    refine AW.join (r := r) (fun z : Bool => ref15_Records_k1 F a t z) (fun z => [(0, AL b), (1, AL e), (12, vi (lI b)), (13, vi a), (53, vb z)]) (fun z => []) (fun T h => ?_) (fun O l => ?_)
    ·refine AW.cN h (fun E h => ?_) (fun E h => ?_)
     ·refine AW.SG0 Fm 1 [(4, vb false)] [] ?_
      refine AW.ret ?_
      obtain rfl := Option.some.inj h
      exact Kn.D Fm
     ·refine AW.skip ?_
      obtain ⟨L, h⟩ := gS h
      refine AW.pN Fm [.s, .s] [(0, AL b), (1, AL e), (12, vi (lI b)), (13, vi (a + 1))] [] (cT (cT L)) ?_
      exact Kn.R Fm (u (a + 1) h)
    ·obtain ⟨n, o, h⟩ := gS2 h
     rcases br_or h with ⟨j, h⟩ | ⟨j, h⟩
     ·refine AW.pN Fm [.s, .s, .s, .s, .s, .s, .s, .s, .s, .s, .s, .w (vb true), .s, .s, .s, .s, .s, .s, .s, .s, .s, .s, .s, .s, .s, .s, .s, .s, .s, .s, .s, .s, .s, .s, .s, .s, .s, .s] [(0, AL b), (1, AL e), (12, vi (lI b)), (13, vi a), (53, vb true)] [] (cA n (cA o (cT (ALe.bool j)))) ?_
      exact Kn.R Fm (l true h)
     ·obtain ⟨p, q, h⟩ := gS2 h
      rcases br_or h with ⟨m, h⟩ | ⟨m, h⟩
      ·refine AW.pN Fm [.s, .s, .s, .s, .s, .s, .s, .s, .s, .s, .s, .w (vb false), .s, .s, .s, .s, .s, .s, .s, .s, .s, .s, .s, .s, .w (vb true), .s, .s, .s, .s, .s, .s, .s, .s, .s, .s, .s, .s, .s] [(0, AL b), (1, AL e), (12, vi (lI b)), (13, vi a), (28, AL b), (29, vi a), (30, .v (.c (.elm [.int .i64 (gl b a.toNat).year_, .int .i64 (gl b a.toNat).crop_, DL (α := Rect) (gl b a.toNat).region_.rects_]))), (31, .v (.c (.elm [.int .i64 (gl b a.toNat).crop_, DL (α := Rect) (gl b a.toNat).region_.rects_]))), (32, vi (gl b a.toNat).crop_), (33, AL e), (34, vi a), (35, .v (.c (.elm [.int .i64 (gl e a.toNat).year_, .int .i64 (gl e a.toNat).crop_, DL (α := Rect) (gl e a.toNat).region_.rects_]))), (36, .v (.c (.elm [.int .i64 (gl e a.toNat).crop_, DL (α := Rect) (gl e a.toNat).region_.rects_]))), (37, vi (gl e a.toNat).crop_), (38, vb (((gl b a.toNat).crop_) != ((gl e a.toNat).crop_))), (53, vb true)] [] (cA n (cA o (cA (ALe.bool j) (cA p (cA q (cT (ALe.bool m))))))) ?_
       exact Kn.R Fm (l true h)
      ·obtain ⟨H, I, h⟩ := gS2 h
       obtain ⟨i, M, h⟩ := bS h
       refine AW.G Fm [.s, .s, .s, .s, .s, .s, .s, .s, .s, .s, .s, .w (vb false), .s, .s, .s, .s, .s, .s, .s, .s, .s, .s, .s, .s, .w (vb false), .s, .s, .s, .s, .s, .s, .s, .s, .s, .s, .k (cE [] [] (vb i) [] []), .s, .s] (fun K => _ ∧ _ ∧ _ ∧ _ ∧ _ ∧ _ ∧ _ ∧ _ ∧ K 35 ∧ True) [(0, AL b), (1, AL e), (12, vi (lI b)), (13, vi a), (28, AL b), (29, vi a), (30, .v (.c (.elm [.int .i64 (gl b a.toNat).year_, .int .i64 (gl b a.toNat).crop_, DL (α := Rect) (gl b a.toNat).region_.rects_]))), (31, .v (.c (.elm [.int .i64 (gl b a.toNat).crop_, DL (α := Rect) (gl b a.toNat).region_.rects_]))), (32, vi (gl b a.toNat).crop_), (33, AL e), (34, vi a), (35, .v (.c (.elm [.int .i64 (gl e a.toNat).year_, .int .i64 (gl e a.toNat).crop_, DL (α := Rect) (gl e a.toNat).region_.rects_]))), (36, .v (.c (.elm [.int .i64 (gl e a.toNat).crop_, DL (α := Rect) (gl e a.toNat).region_.rects_]))), (37, vi (gl e a.toNat).crop_), (38, vb (((gl b a.toNat).crop_) != ((gl e a.toNat).crop_))), (41, AL b), (42, vi a), (43, .v (.c (.elm [.int .i64 (gl b a.toNat).year_, .int .i64 (gl b a.toNat).crop_, DL (α := Rect) (gl b a.toNat).region_.rects_]))), (44, .v (.c (.elm [DL (α := Rect) (gl b a.toNat).region_.rects_]))), (45, .v (.g [.d (DL (α := Rect) (gl b a.toNat).region_.rects_)])), (46, AL e), (47, vi a), (48, .v (.c (.elm [.int .i64 (gl e a.toNat).year_, .int .i64 (gl e a.toNat).crop_, DL (α := Rect) (gl e a.toNat).region_.rects_]))), (49, .v (.c (.elm [DL (α := Rect) (gl e a.toNat).region_.rects_]))), (50, .v (.g [.d (DL (α := Rect) (gl e a.toNat).region_.rects_)])), (51, vb i), (52, vb (!i)), (53, vb (!i))] [] ⟨n, o, ALe.bool j, p, q, ALe.bool m, H, I, KAt.CC (ref04_Same_spec M) Tryz.call42 [], ⟨⟩⟩ ?_
       exact Kn.R Fm (l (!i) h)
   ·exact AW.exit (Kn.R Fm (y () h))
theorem ref04_Within_spec {F : Nat} {i : Region} {j : Region} {r : Bool} (h : ref04_Within F i j = some r) :
  FSpec Tryz.prog 36 [.v (.g [.d (DL i.rects_)]), .v (.g [.d (DL j.rects_)])] [] (vb r) [] := by
 refine FI Tryz.func36 prog_mixed prog_lay fun C Fm => ?_
 unfold ref04_Within at h
 refine AW.SG0 Fm 3 [(2, pt 2), (3, pt 3)] [(2, bx [.d (DL i.rects_)]), (3, bx [.d (DL j.rects_)])] ?_
 refine AW.join (r := r) (fun z : Bool => ref04_Within_k0 F z) (fun z => [(4, vb z)]) (fun z => []) (fun t h => ?_) (fun q b => ?_)
 ·refine AW.ret ?_
  obtain rfl := Option.some.inj h
  exact Kn.D Fm
 ·obtain ⟨l, e, h⟩ := bS h
  rcases br_or h with ⟨a, h⟩ | ⟨a, h⟩
  ·obtain ⟨o, n, h⟩ := bS h
   rcases br_or h with ⟨c, h⟩ | ⟨c, h⟩
   ·obtain ⟨m, p, h⟩ := bS h
    refine AW.G Fm [.s, .k (cE [] [] (vb l) [] []), .w (vb true), .s, .k (cE [] [] (vb o) [] []), .s, .w (vb true), .s, .s, .s, .s, .k (cE [] [] (AL m) [] []), .s, .s, .s, .s] (fun K => K 1 ∧ _ ∧ K 4 ∧ _ ∧ K 11 ∧ True) [(4, vb ((lI m) == (0 : Int)))] [] ⟨KAt.CC (ref04_Valid_spec e) Tryz.call107 [], ALe.bool a, KAt.CC (ref04_Valid_spec n) Tryz.call107 [], ALe.bool c, KAt.CC (ref04_Combine_spec p) Tryz.call122 [], ⟨⟩⟩ ?_
    exact Kn.R Fm (b ((lI m) == (0 : Int)) h)
   ·refine AW.G Fm [.s, .k (cE [] [] (vb l) [] []), .w (vb true), .s, .k (cE [] [] (vb o) [] []), .s, .w (vb false), .s, .s, .s, .s, .s, .s, .s, .s, .s] (fun K => K 1 ∧ _ ∧ K 4 ∧ _ ∧ True) [(4, vb false)] [] ⟨KAt.CC (ref04_Valid_spec e) Tryz.call107 [], ALe.bool a, KAt.CC (ref04_Valid_spec n) Tryz.call107 [], ALe.bool c, ⟨⟩⟩ ?_
    exact Kn.R Fm (b false h)
  ·refine AW.G Fm [.s, .k (cE [] [] (vb l) [] []), .w (vb false), .s, .s, .s, .s, .s, .s, .s, .s, .s, .s, .s, .s, .s] (fun K => K 1 ∧ _ ∧ True) [(4, vb false)] [] ⟨KAt.CC (ref04_Valid_spec e) Tryz.call107 [], ALe.bool a, ⟨⟩⟩ ?_
   exact Kn.R Fm (b false h)
theorem ref12_Has_spec {F : Nat} {c : (List Crop)} {d : Int} {a : Int} {r : Bool} (h : ref12_Has F c d a = some r) :
  FSpec Tryz.prog 37 [AL c, vi d, vi a] [] (vb r) [] := by
 refine FI Tryz.func37 prog_mixed prog_lay fun C Fm => ?_
 unfold ref12_Has at h
 refine AW.SG0 Fm 1 [(0, AL c), (1, vi d), (2, vi a)] [] ?_
 refine AW.join (r := r) (fun z : Bool => ref12_Has_k0 F z) (fun z => [(6, vb z)]) (fun z => []) (fun m h => ?_) (fun l e => ?_)
 ·refine AW.ret ?_
  obtain rfl := Option.some.inj h
  exact Kn.D Fm
 ·rcases br_or h with ⟨b, h⟩ | ⟨b, h⟩
  ·rcases br_or h with ⟨i, h⟩ | ⟨i, h⟩
   ·rcases br_or h with ⟨j, h⟩ | ⟨j, h⟩
    ·obtain ⟨k, h⟩ := gS h
     refine AW.pN Fm [.s, .s, .w (vb true), .s, .s, .s, .s, .s, .w (vb true), .s, .s, .s, .w (vb true), .s, .s, .s, .s, .s, .s, .s, .s, .s, .s, .s] [(6, vb ((band .i64 ((gl c d.toNat).marks_) a) == a))] [] (cA (ALe.bool b) (cA (ALe.bool i) (cA (ALe.bool j) (cT k)))) ?_
     exact Kn.R Fm (e ((band .i64 ((gl c d.toNat).marks_) a) == a) h)
    ·refine AW.pN Fm [.s, .s, .w (vb true), .s, .s, .s, .s, .s, .w (vb true), .s, .s, .s, .w (vb false), .s, .s, .s, .s, .s, .s, .s, .s, .s, .s, .s] [(6, vb false)] [] (cA (ALe.bool b) (cA (ALe.bool i) (cT (ALe.bool j)))) ?_
     exact Kn.R Fm (e false h)
   ·refine AW.pN Fm [.s, .s, .w (vb true), .s, .s, .s, .s, .s, .w (vb false), .s, .s, .s, .s, .s, .s, .s, .s, .s, .s, .s, .s, .s, .s, .s] [(6, vb false)] [] (cA (ALe.bool b) (cT (ALe.bool i))) ?_
    exact Kn.R Fm (e false h)
  ·refine AW.pN Fm [.s, .s, .w (vb false), .s, .s, .s, .s, .s, .s, .s, .s, .s, .s, .s, .s, .s, .s, .s, .s, .s, .s, .s, .s, .s] [(6, vb false)] [] (cT (ALe.bool b)) ?_
   exact Kn.R Fm (e false h)
theorem region_Has_1_spec {F : Nat} {d : Rect} {b : Int} {a : Int} {r : Bool} (h : region_Has_1 F d b a = some r) :
  FSpec Tryz.prog 190 [gE d, pt 0, pt 1] [(0, .box true [ci b]), (1, .box true [ci a])] (vb r) [(0, .box true [ci b]), (1, .box true [ci a])] := by
 refine FI Tryz.func190 prog_mixed prog_lay fun C Fm => ?_
 unfold region_Has_1 at h
 refine AW.SG0 Fm 2 [(1, pt 0), (2, pt 1), (3, pt 3)] [(0, .box true [ci b]), (1, .box true [ci a]), (3, bx (gC d))] ?_
 refine AW.join (r := r) (fun z : Bool => region_Has_1_k0 F z) (fun z => [(4, vb z)]) (fun z => [(0, .box true [ci b]), (1, .box true [ci a])]) (fun l h => ?_) (fun k e => ?_)
 ·refine AW.ret ?_
  obtain rfl := Option.some.inj h
  exact Kn.D Fm
 ·rcases br_or h with ⟨c, h⟩ | ⟨c, h⟩
  ·rcases br_or h with ⟨i, h⟩ | ⟨i, h⟩
   ·rcases br_or h with ⟨j, h⟩ | ⟨j, h⟩
    ·refine AW.pN Fm [.s, .s, .s, .s, .w (vb true), .s, .s, .s, .s, .s, .w (vb true), .s, .s, .s, .s, .s, .w (vb true), .s, .s, .s, .s, .s, .s] [(4, vb (decide (a < d.high_)))] [(0, .box true [ci b]), (1, .box true [ci a])] (cA (ALe.bool c) (cA (ALe.bool i) (cT (ALe.bool j)))) ?_
     exact Kn.R Fm (e (decide (a < d.high_)) h)
    ·refine AW.pN Fm [.s, .s, .s, .s, .w (vb true), .s, .s, .s, .s, .s, .w (vb true), .s, .s, .s, .s, .s, .w (vb false), .s, .s, .s, .s, .s, .s] [(4, vb false)] [(0, .box true [ci b]), (1, .box true [ci a])] (cA (ALe.bool c) (cA (ALe.bool i) (cT (ALe.bool j)))) ?_
     exact Kn.R Fm (e false h)
   ·refine AW.pN Fm [.s, .s, .s, .s, .w (vb true), .s, .s, .s, .s, .s, .w (vb false), .s, .s, .s, .s, .s, .s, .s, .s, .s, .s, .s, .s] [(4, vb false)] [(0, .box true [ci b]), (1, .box true [ci a])] (cA (ALe.bool c) (cT (ALe.bool i))) ?_
    exact Kn.R Fm (e false h)
  ·refine AW.pN Fm [.s, .s, .s, .s, .w (vb false), .s, .s, .s, .s, .s, .s, .s, .s, .s, .s, .s, .s, .s, .s, .s, .s, .s, .s] [(4, vb false)] [(0, .box true [ci b]), (1, .box true [ci a])] (cT (ALe.bool c)) ?_
   exact Kn.R Fm (e false h)
theorem region_Has_spec {F : Nat} {e : Region} {a : Int} {b : Int} {r : Bool} (h : region_Has F e a b = some r) :
  FSpec Tryz.prog 109 [.v (.g [.d (DL e.rects_)]), vi a, vi b] [] (vb r) [] := by
 refine FI Tryz.func109 prog_mixed prog_lay fun C Fm => ?_
 unfold region_Has at h
 refine AW.SG0 Fm 4 [(3, pt 3), (4, pt 4), (5, pt 5)] [(3, bx [.d (DL e.rects_)]), (4, bx [ci a]), (5, bx [ci b])] ?_
 refine AW.join (r := r) (fun z : Bool => region_Has_k0 F z) (fun z => [(6, vb z)]) (fun z => []) (fun q h => ?_) (fun o j => ?_)
 ·refine AW.ret ?_
  obtain rfl := Option.some.inj h
  exact Kn.D Fm
 ·obtain ⟨m, l, h⟩ := bS h
  rcases br_or h with ⟨c, h⟩ | ⟨c, h⟩
  ·obtain ⟨i, n, h⟩ := bS h
   refine AW.G Fm [.s, .k (cE [] [] (vb m) [] []), .w (vb true), .s, .s, .s, .k (cE [] [4, 5] (vb i) [] []), .s, .s] (fun K => K 1 ∧ _ ∧ K 6 ∧ True) [(6, vb i)] [] ⟨KAt.CC (region_Valid_spec l) Tryz.call92 [], ALe.bool c, KAt.callX (slices_ContainsFunc_Rect_spec n) Tryz.call171 [] [4, 5] [.tmp 11, .tmp 12] rfl (by kernel_rfl) (by kernel_rfl) (by kernel_rfl) ⟨.p, ArgT.cloX Tryz.call190 [[ci a], [ci b]] (fun args r hq => by obtain ⟨y0, y, hq, rfl, rfl⟩ := hq; exact Eq.mp (by kernel_rfl) (region_Has_1_spec hq)) (fun args r hq => by obtain ⟨y0, y, hq, rfl, rfl⟩ := hq; rfl) (by kernel_rfl) [4, 5] (by kernel_rfl) (by kernel_rfl) (⟨⟨false, (by kernel_rfl)⟩, ⟨⟨false, (by kernel_rfl)⟩, ⟨⟩⟩⟩) (by kernel_rfl), ⟨⟩⟩, ⟨⟩⟩ ?_
   exact Kn.R Fm (j i h)
  ·refine AW.G Fm [.s, .k (cE [] [] (vb m) [] []), .w (vb false), .s, .s, .s, .s, .s, .s] (fun K => K 1 ∧ _ ∧ True) [(6, vb false)] [] ⟨KAt.CC (region_Valid_spec l) Tryz.call92 [], ALe.bool c, ⟨⟩⟩ ?_
   exact Kn.R Fm (j false h)
theorem history_At_spec {F : Nat} {a : (List Record)} {j : Int} {e : Int} {i : Int} {r : Int} (h : history_At F a j e i = some r) :
  FSpec Tryz.prog 21 [AL a, vi j, vi e, vi i] [] (vi r) [] := by
 refine FI Tryz.func21 prog_mixed prog_lay fun C Fm => ?_
 unfold history_At at h
 refine AW.SG0 Fm 1 [(0, AL a), (1, vi j), (2, vi e), (3, vi i)] [] ?_
 refine AW.seq (AW.seq ?_)
 obtain ⟨o, H, h⟩ := bS h
 refine AW.G Fm [.s, .k (cE [] [] (vi o) [] []), .s] (fun K => K 1 ∧ True) [(0, AL a), (1, vi j), (2, vi e), (3, vi i), (13, vb (o != (0 : Int)))] [] ⟨KAt.CC (history_Check_spec H) Tryz.call19 [], ⟨⟩⟩ ?_
 refine AW.cN h (fun u h => ?_) (fun u h => ?_)
 ·refine AW.SG0 Fm 1 [(8, vi (-1 : Int))] [] ?_
  refine AW.ret ?_
  obtain rfl := Option.some.inj h
  exact Kn.D Fm
 ·refine AW.skip (AW.join (r := r) (fun z : Unit => history_At_k2 F) (fun z => []) (fun z => []) (fun z h => ?_) (fun N t => ?_))
  ·refine AW.SG0 Fm 1 [(8, vi (-1 : Int))] [] ?_
   refine AW.ret ?_
   obtain rfl := Option.some.inj h
   exact Kn.D Fm
  ·refine AW.SG0 Fm 3 [(1, vi j), (2, vi e), (3, vi i), (14, AL a), (15, vi (lI a)), (16, vi 0)] [] ?_
   refine AW.block (AW.loopF (E' := fun z => [(1, vi j), (2, vi e), (3, vi i), (14, AL a), (15, vi (lI a)), (16, vi z)]) (S' := fun z => []) (fun p b L q h => ?_) h)
   refine AW.SG0 Fm 1 [(1, vi j), (2, vi e), (3, vi i), (14, AL a), (15, vi (lI a)), (16, vi b), (17, vb (decide (b < (lI a))))] [] ?_
   refine AW.seq (AW.cN h (fun y h => ?_) (fun y h => ?_))
   ·refine AW.skip (AW.seq (AW.block ?_))
    obtain ⟨B, h⟩ := gS h
    refine AW.SP Fm [.s, .s, .s, .s] [(1, vi j), (2, vi e), (3, vi i), (10, pt 10), (14, AL a), (15, vi (lI a)), (16, vi b)] [(10, bx [ci ((gl a b.toNat).year_), ci ((gl a b.toNat).crop_), .d (DL (α := Rect) (gl a b.toNat).region_.rects_)])] (cT B) ?_
    refine AW.join (r := r) (fun z : Bool => history_At_k1 F a b p z) (fun z => [(1, vi j), (2, vi e), (3, vi i), (10, pt 10), (14, AL a), (15, vi (lI a)), (16, vi b), (30, vb z)]) (fun z => [(10, bx [ci ((gl a b.toNat).year_), ci ((gl a b.toNat).crop_), .d (DL (α := Rect) (gl a b.toNat).region_.rects_)])]) (fun O h => ?_) (fun M n => ?_)
    ·refine AW.cN h (fun A h => ?_) (fun A h => ?_)
     ·refine AW.SG0 Fm 3 [(8, vi (gl a b.toNat).crop_)] [] ?_
      refine AW.ret ?_
      obtain rfl := Option.some.inj h
      exact Kn.D Fm
     ·refine AW.skip ?_
      obtain ⟨E, h⟩ := gS h
      refine AW.pN Fm [.s, .s] [(1, vi j), (2, vi e), (3, vi i), (14, AL a), (15, vi (lI a)), (16, vi (b + 1))] [] (cT (cT E)) ?_
      exact Kn.R Fm (q (b + 1) h)
    ·rcases br_or h with ⟨m, h⟩ | ⟨m, h⟩
     ·obtain ⟨l, I, h⟩ := bS h
      refine AW.G Fm [.s, .s, .s, .s, .w (vb true), .s, .s, .s, .s, .k (cE [] [] (vb l) [] []), .s] (fun K => _ ∧ K 9 ∧ True) [(1, vi j), (2, vi e), (3, vi i), (10, pt 10), (14, AL a), (15, vi (lI a)), (16, vi b), (25, .v (.c (.ptr 10 2))), (26, .v (.g [.d (DL (α := Rect) (gl a b.toNat).region_.rects_)])), (27, vi e), (28, vi i), (29, vb l), (30, vb l)] [(10, bx [ci ((gl a b.toNat).year_), ci ((gl a b.toNat).crop_), .d (DL (α := Rect) (gl a b.toNat).region_.rects_)])] ⟨ALe.bool m, KAt.CC (region_Has_spec I) Tryz.call109 [], ⟨⟩⟩ ?_
      exact Kn.R Fm (n l h)
     ·refine AW.pN Fm [.s, .s, .s, .s, .w (vb false), .s, .s, .s, .s, .s, .s] [(1, vi j), (2, vi e), (3, vi i), (10, pt 10), (14, AL a), (15, vi (lI a)), (16, vi b), (30, vb false)] [(10, bx [ci ((gl a b.toNat).year_), ci ((gl a b.toNat).crop_), .d (DL (α := Rect) (gl a b.toNat).region_.rects_)])] (cT (ALe.bool m)) ?_
      exact Kn.R Fm (n false h)
   ·exact AW.exit (Kn.R Fm (t () h))
theorem law15_awake_spec {F : Nat} {r : Bool} (h : law15_awake F = some r) :
  FSpec Tryz.prog 22 [] [] (vb r) [] := by
 refine FI Tryz.func22 prog_mixed prog_lay fun C Fm => ?_
 unfold law15_awake at h
 refine AW.SG0 Fm 1 [] [] ?_
 refine AW.seq ?_
 obtain ⟨i, A, h⟩ := bS h
 refine AW.G Fm [.s, .w (AL (α := Rect) ([(⟨0, 0, (2 : Int), (1 : Int)⟩ : Rect)] : List Rect)), .s, .k (cE [] [] (.t [.c (.d (DL i.1)), .c (ci i.2)]) [] []), .s, .s, .s, .s, .s] (fun K => (ALe (.v (.c (.d (.lst 1 (litF 4 [.int .i64 0, .int .i64 0, .int .i64 (2 : Int), .int .i64 (1 : Int)]))))) (AL (α := Rect) ([(⟨0, 0, (2 : Int), (1 : Int)⟩ : Rect)] : List Rect))) ∧ K 3 ∧ True) [(1, AL i.1), (2, vi i.2)] [] ⟨ALe.lst (.lit ([(⟨0, 0, (2 : Int), (1 : Int)⟩ : Rect)] : List Rect) (by kernel_rfl)), KAt.callX (history_Add_spec A) Tryz.call18 [] [] [.const (.slice none 0 0), .const (.int .i64 3), .const (.int .i64 2), .tmp 7] rfl (by kernel_rfl) (by kernel_rfl) (by kernel_rfl) ⟨ArgT.plain (by kernel_rfl) (ALe.c (CLe.fl .nil)) (by kernel_rfl), .p, .p, .p, ⟨⟩⟩, ⟨⟩⟩ ?_
 refine AW.seq ?_
 obtain ⟨l, B, h⟩ := bS h
 refine AW.G Fm [.s, .s, .w (AL (α := Rect) ([(⟨(1 : Int), 0, (2 : Int), (1 : Int)⟩ : Rect)] : List Rect)), .s, .k (cE [] [] (.t [.c (.d (DL l.1)), .c (ci l.2)]) [] []), .s, .s, .s, .s, .s] (fun K => (ALe (.v (.c (.d (.lst 1 (litF 4 [.int .i64 (1 : Int), .int .i64 0, .int .i64 (2 : Int), .int .i64 (1 : Int)]))))) (AL (α := Rect) ([(⟨(1 : Int), 0, (2 : Int), (1 : Int)⟩ : Rect)] : List Rect))) ∧ K 4 ∧ True) [(1, AL l.1), (2, vi i.2), (3, vi l.2)] [] ⟨ALe.lst (.lit ([(⟨(1 : Int), 0, (2 : Int), (1 : Int)⟩ : Rect)] : List Rect) (by kernel_rfl)), KAt.CC (history_Add_spec B) Tryz.call18 [], ⟨⟩⟩ ?_
 refine AW.join (r := r) (fun z : Bool => law15_awake_k0 F z) (fun z => [(0, vb z)]) (fun z => []) (fun I h => ?_) (fun H b => ?_)
 ·refine AW.ret ?_
  obtain rfl := Option.some.inj h
  exact Kn.D Fm
 ·rcases br_or h with ⟨a, h⟩ | ⟨a, h⟩
  ·rcases br_or h with ⟨e, h⟩ | ⟨e, h⟩
   ·obtain ⟨o, n, h⟩ := bS h
    rcases br_or h with ⟨j, h⟩ | ⟨j, h⟩
    ·obtain ⟨y, u, h⟩ := bS h
     rcases br_or h with ⟨m, h⟩ | ⟨m, h⟩
     ·obtain ⟨q, E, h⟩ := bS h
      refine AW.G Fm [.s, .s, .w (vb true), .s, .s, .s, .w (vb true), .s, .k (cE [] [] (vi o) [] []), .s, .s, .w (vb true), .s, .k (cE [] [] (vi y) [] []), .s, .s, .w (vb true), .s, .k (cE [] [] (vi q) [] []), .s, .s, .s] (fun K => _ ∧ _ ∧ K 8 ∧ _ ∧ K 13 ∧ _ ∧ K 18 ∧ True) [(0, vb (q == (-1 : Int)))] [] ⟨ALe.bool a, ALe.bool e, KAt.CC (history_At_spec n) Tryz.call21 [], ALe.bool j, KAt.CC (history_At_spec u) Tryz.call21 [], ALe.bool m, KAt.CC (history_At_spec E) Tryz.call21 [], ⟨⟩⟩ ?_
      exact Kn.R Fm (b (q == (-1 : Int)) h)
     ·refine AW.G Fm [.s, .s, .w (vb true), .s, .s, .s, .w (vb true), .s, .k (cE [] [] (vi o) [] []), .s, .s, .w (vb true), .s, .k (cE [] [] (vi y) [] []), .s, .s, .w (vb false), .s, .s, .s, .s, .s] (fun K => _ ∧ _ ∧ K 8 ∧ _ ∧ K 13 ∧ _ ∧ True) [(0, vb false)] [] ⟨ALe.bool a, ALe.bool e, KAt.CC (history_At_spec n) Tryz.call21 [], ALe.bool j, KAt.CC (history_At_spec u) Tryz.call21 [], ALe.bool m, ⟨⟩⟩ ?_
      exact Kn.R Fm (b false h)
    ·refine AW.G Fm [.s, .s, .w (vb true), .s, .s, .s, .w (vb true), .s, .k (cE [] [] (vi o) [] []), .s, .s, .w (vb false), .s, .s, .s, .s, .s, .s, .s, .s, .s, .s] (fun K => _ ∧ _ ∧ K 8 ∧ _ ∧ True) [(0, vb false)] [] ⟨ALe.bool a, ALe.bool e, KAt.CC (history_At_spec n) Tryz.call21 [], ALe.bool j, ⟨⟩⟩ ?_
     exact Kn.R Fm (b false h)
   ·refine AW.pN Fm [.s, .s, .w (vb true), .s, .s, .s, .w (vb false), .s, .s, .s, .s, .s, .s, .s, .s, .s, .s, .s, .s, .s, .s, .s] [(0, vb false)] [] (cA (ALe.bool a) (cT (ALe.bool e))) ?_
    exact Kn.R Fm (b false h)
  ·refine AW.pN Fm [.s, .s, .w (vb false), .s, .s, .s, .s, .s, .s, .s, .s, .s, .s, .s, .s, .s, .s, .s, .s, .s, .s, .s] [(0, vb false)] [] (cT (ALe.bool a)) ?_
   exact Kn.R Fm (b false h)
theorem law15_HistoryTwice_spec {F : Nat} {d0 : (List Int)} {l : Int} {b : Int} {r : Bool} (h : law15_HistoryTwice F d0 l b = some r) :
  FSpec Tryz.prog 7 [AL d0, .v (.c (.d (.int .u8 l))), .v (.c (.d (.int .u8 b)))] [] (vb r) [] := by
 refine FI Tryz.func7 prog_mixed prog_lay fun C Fm => ?_
 unfold law15_HistoryTwice at h
 refine AW.SG0 Fm 1 [(0, AL d0), (1, .v (.c (.d (.int .u8 l)))), (2, .v (.c (.d (.int .u8 b))))] [] ?_
 refine AW.seq ?_
 obtain ⟨e0, A0, h⟩ := bS h
 refine AW.G Fm [.s, .k (cE [(100, 27)] [] (pt 100) [] [(100, bx (gC e0))]), .s] (fun K => K 1 ∧ True) [(1, .v (.c (.d (.int .u8 l)))), (2, .v (.c (.d (.int .u8 b)))), (7, pt 27)] [(27, bx (gC e0))] ⟨KAt.CC (keep_New_spec A0) Tryz.call14 [(100, 27)], ⟨⟩⟩ ?_
 refine AW.seq ?_
 obtain ⟨a, B0, h⟩ := bS h
 refine AW.G Fm [.s, .k (cE [(0, 27)] [] (AL a.2) [(0, bx (gC e0))] [(0, bx (gC a.1))]), .s] (fun K => K 1 ∧ True) [(1, .v (.c (.d (.int .u8 l)))), (2, .v (.c (.d (.int .u8 b)))), (7, pt 27), (8, AL a.2)] [(27, bx (gC a.1))] ⟨KAt.CC (keep_Tape_Crops_spec B0) Tryz.call15 [(0, 27)], ⟨⟩⟩ ?_
 refine AW.seq ?_
 obtain ⟨u, D0, h⟩ := bS h
 refine AW.G Fm [.s, .s, .k (cE [(0, 27)] [] (AL u.2) [(0, bx (gC a.1))] [(0, bx (gC u.1))]), .s] (fun K => K 2 ∧ True) [(1, .v (.c (.d (.int .u8 l)))), (2, .v (.c (.d (.int .u8 b)))), (7, pt 27), (8, AL a.2), (9, AL u.2)] [(27, bx (gC u.1))] ⟨KAt.CC (keep_Tape_History_spec D0) Tryz.call32 [(0, 27)], ⟨⟩⟩ ?_
 refine AW.seq ?_
 obtain ⟨n0, o0, p0, q0, h⟩ := gS4 h
 obtain ⟨y, E0, h⟩ := bS h
 refine AW.G Fm [.s, .s, .s, .s, .s, .s, .s, .s, .s, .k (cE [(0, 27)] [] (.v (.g [.d (DL y.2.rects_)])) [(0, bx (gC u.1))] [(0, bx (gC y.1))]), .s, .s, .s, .s] (fun K => (_ ∧ True) ∧ _ ∧ (_ ∧ True) ∧ _ ∧ K 9 ∧ True) [(2, .v (.c (.d (.int .u8 b)))), (8, AL a.2), (9, AL u.2), (10, vi (l.tmod (5 : Int))), (11, vi (b.tmod (lI a.2))), (12, pt 12)] [(12, bx [.d (DL y.2.rects_)])] ⟨⟨n0, ⟨⟩⟩, o0, ⟨p0, ⟨⟩⟩, q0, KAt.CC (keep_Tape_Region_spec E0) Tryz.call17 [(0, 27)], ⟨⟩⟩ ?_
 refine AW.seq ?_
 obtain ⟨e, G0, h⟩ := bS h
 refine AW.G Fm [.s, .s, .s, .s, .k (cE [] [] (.t [.c (.d (DL e.1)), .c (ci e.2)]) [] []), .s, .s, .s, .s, .s] (fun K => K 4 ∧ True) [(2, .v (.c (.d (.int .u8 b)))), (8, AL a.2), (9, AL u.2), (10, vi (l.tmod (5 : Int))), (11, vi (b.tmod (lI a.2))), (12, pt 12), (13, AL e.1), (14, vi e.2)] [(12, bx [.d (DL y.2.rects_)])] ⟨KAt.CC (history_Add_spec G0) Tryz.call18 [], ⟨⟩⟩ ?_
 refine AW.seq ?_
 obtain ⟨i, H0, h⟩ := bS h
 refine AW.G Fm [.s, .s, .s, .s, .k (cE [] [] (.t [.c (.d (DL i.1)), .c (ci i.2)]) [] []), .s, .s, .s, .s, .s] (fun K => K 4 ∧ True) [(2, .v (.c (.d (.int .u8 b)))), (8, AL a.2), (9, AL u.2), (10, vi (l.tmod (5 : Int))), (11, vi (b.tmod (lI a.2))), (12, pt 12), (13, AL e.1), (14, vi e.2), (15, AL i.1), (16, vi i.2)] [(12, bx [.d (DL y.2.rects_)])] ⟨KAt.CC (history_Add_spec H0) Tryz.call18 [], ⟨⟩⟩ ?_
 obtain ⟨s0, t0, h⟩ := gS2 h
 refine AW.SP Fm [.s, .s, .s, .s, .s, .s] [(2, .v (.c (.d (.int .u8 b)))), (8, AL a.2), (9, AL u.2), (10, vi (l.tmod (5 : Int))), (12, pt 12), (13, AL e.1), (14, vi e.2), (15, AL i.1), (16, vi i.2), (17, vi (((b.tmod (lI a.2)) + 1).tmod (lI a.2)))] [(12, bx [.d (DL y.2.rects_)])] (cA (cT s0) (cT t0)) ?_
 refine AW.seq ?_
 obtain ⟨A, I0, h⟩ := bS h
 refine AW.G Fm [.s, .s, .s, .s, .k (cE [] [] (.t [.c (.d (DL A.1)), .c (ci A.2)]) [] []), .s, .s, .s, .s, .s] (fun K => K 4 ∧ True) [(2, .v (.c (.d (.int .u8 b)))), (8, AL a.2), (9, AL u.2), (10, vi (l.tmod (5 : Int))), (12, pt 12), (13, AL e.1), (14, vi e.2), (15, AL i.1), (16, vi i.2), (17, vi (((b.tmod (lI a.2)) + 1).tmod (lI a.2))), (18, AL A.1), (19, vi A.2)] [(12, bx [.d (DL y.2.rects_)])] ⟨KAt.CC (history_Add_spec I0) Tryz.call18 [], ⟨⟩⟩ ?_
 refine AW.seq ?_
 obtain ⟨I, K0, h⟩ := bS h
 refine AW.G Fm [.s, .s, .s, .s, .k (cE [] [] (.t [.c (.d (DL I.1)), .c (ci I.2)]) [] []), .s, .s, .s, .s, .s] (fun K => K 4 ∧ True) [(2, .v (.c (.d (.int .u8 b)))), (8, AL a.2), (10, vi (l.tmod (5 : Int))), (12, pt 12), (13, AL e.1), (14, vi e.2), (15, AL i.1), (16, vi i.2), (17, vi (((b.tmod (lI a.2)) + 1).tmod (lI a.2))), (18, AL A.1), (19, vi A.2), (20, AL I.1), (21, vi I.2)] [(12, bx [.d (DL y.2.rects_)])] ⟨KAt.CC (history_Add_spec K0) Tryz.call18 [], ⟨⟩⟩ ?_
 refine AW.seq ?_
 obtain ⟨P, L0, h⟩ := bS h
 refine AW.G Fm [.s, .s, .s, .k (cE [] [] (.t [.g [.d (DL P.1.rects_)], .c (ci P.2)]) [] []), .s, .s, .s, .s, .s, .s] (fun K => K 3 ∧ True) [(2, .v (.c (.d (.int .u8 b)))), (8, AL a.2), (10, vi (l.tmod (5 : Int))), (12, pt 12), (13, AL e.1), (14, vi e.2), (15, AL i.1), (16, vi i.2), (17, vi (((b.tmod (lI a.2)) + 1).tmod (lI a.2))), (18, AL A.1), (19, vi A.2), (20, AL I.1), (21, vi I.2), (22, pt 22), (23, vi P.2)] [(12, bx [.d (DL y.2.rects_)]), (22, bx [.d (DL P.1.rects_)])] ⟨KAt.CC (history_Where_spec L0) Tryz.call33 [], ⟨⟩⟩ ?_
 refine AW.seq ?_
 obtain ⟨u0, w0, y0, h⟩ := gS3 h
 obtain ⟨X, M0, h⟩ := bS h
 refine AW.G Fm [.s, .s, .s, .s, .s, .s, .s, .k (cE [] [] (.t [.g [.d (DL X.1.rects_)], .c (ci X.2)]) [] []), .s, .s, .s, .s, .s, .s] (fun K => (_ ∧ True) ∧ _ ∧ (_ ∧ True) ∧ K 7 ∧ True) [(2, .v (.c (.d (.int .u8 b)))), (8, AL a.2), (12, pt 12), (13, AL e.1), (14, vi e.2), (15, AL i.1), (16, vi i.2), (17, vi (((b.tmod (lI a.2)) + 1).tmod (lI a.2))), (18, AL A.1), (19, vi A.2), (20, AL I.1), (21, vi I.2), (22, pt 22), (23, vi P.2), (24, pt 24), (25, vi X.2)] [(12, bx [.d (DL y.2.rects_)]), (22, bx [.d (DL P.1.rects_)]), (24, bx [.d (DL X.1.rects_)])] ⟨⟨u0, ⟨⟩⟩, w0, ⟨y0, ⟨⟩⟩, KAt.CC (history_Marked_spec M0) Tryz.call34 [], ⟨⟩⟩ ?_
 refine AW.join (r := r) (fun z : Bool => law15_HistoryTwice_k0 F z) (fun z => [(6, vb z)]) (fun z => []) (fun R0 h => ?_) (fun P0 m => ?_)
 ·refine AW.ret ?_
  obtain rfl := Option.some.inj h
  exact Kn.D Fm
 ·rcases br_or h with ⟨j, h⟩ | ⟨j, h⟩
  ·rcases br_or h with ⟨n, h⟩ | ⟨n, h⟩
   ·obtain ⟨B, q, h⟩ := bS h
    rcases br_or h with ⟨o, h⟩ | ⟨o, h⟩
    ·rcases br_or h with ⟨p, h⟩ | ⟨p, h⟩
     ·rcases br_or h with ⟨E, h⟩ | ⟨E, h⟩
      ·obtain ⟨N, M, h⟩ := bS h
       rcases br_or h with ⟨H, h⟩ | ⟨H, h⟩
       ·rcases br_or h with ⟨L, h⟩ | ⟨L, h⟩
        ·obtain ⟨V, U, h⟩ := bS h
         rcases br_or h with ⟨O, h⟩ | ⟨O, h⟩
         ·rcases br_or h with ⟨T, h⟩ | ⟨T, h⟩
          ·obtain ⟨Z, a0, b0, h⟩ := gS3 h
           obtain ⟨i0, c0, h⟩ := bS h
           rcases br_or h with ⟨W, h⟩ | ⟨W, h⟩
           ·obtain ⟨j0, N0, h⟩ := bS h
            refine AW.G Fm [.s, .s, .w (vb true), .s, .s, .s, .w (vb true), .s, .s, .k (cE [] [] (vb B) [] []), .s, .w (vb true), .s, .s, .s, .w (vb true), .s, .s, .s, .w (vb true), .s, .s, .k (cE [] [] (vb N) [] []), .s, .w (vb true), .s, .s, .s, .w (vb true), .s, .s, .k (cE [] [] (vb V) [] []), .s, .w (vb true), .s, .s, .s, .w (vb true), .s, .s, .s, .s, .s, .s, .k (cE [] [] (vb i0) [] []), .s, .w (vb true), .s, .s, .s, .s, .s, .s, .k (cE [] [] (vb j0) [] []), .s, .s] (fun K => _ ∧ _ ∧ K 9 ∧ _ ∧ _ ∧ _ ∧ K 22 ∧ _ ∧ _ ∧ K 31 ∧ _ ∧ _ ∧ (_ ∧ True) ∧ _ ∧ (_ ∧ True) ∧ K 44 ∧ _ ∧ K 53 ∧ True) [(6, vb j0)] [] ⟨ALe.bool j, ALe.bool n, KAt.CC (ref15_Records_spec q) Tryz.call35 [], ALe.bool o, ALe.bool p, ALe.bool E, KAt.CC (ref15_Records_spec M) Tryz.call35 [], ALe.bool H, ALe.bool L, KAt.CC (ref04_Within_spec U) Tryz.call36 [], ALe.bool O, ALe.bool T, ⟨Z, ⟨⟩⟩, a0, ⟨b0, ⟨⟩⟩, KAt.CC (ref12_Has_spec c0) Tryz.call37 [], ALe.bool W, KAt.CC (law15_awake_spec N0) Tryz.call22 [], ⟨⟩⟩ ?_
            exact Kn.R Fm (m j0 h)
           ·obtain ⟨m0, l0, h⟩ := bS h
            rcases br_or h with ⟨Y, h⟩ | ⟨Y, h⟩
            ·obtain ⟨k0, O0, h⟩ := bS h
             refine AW.G Fm [.s, .s, .w (vb true), .s, .s, .s, .w (vb true), .s, .s, .k (cE [] [] (vb B) [] []), .s, .w (vb true), .s, .s, .s, .w (vb true), .s, .s, .s, .w (vb true), .s, .s, .k (cE [] [] (vb N) [] []), .s, .w (vb true), .s, .s, .s, .w (vb true), .s, .s, .k (cE [] [] (vb V) [] []), .s, .w (vb true), .s, .s, .s, .w (vb true), .s, .s, .s, .s, .s, .s, .k (cE [] [] (vb i0) [] []), .s, .w (vb false), .s, .s, .k (cE [] [] (vb m0) [] []), .s, .s, .w (vb true), .k (cE [] [] (vb k0) [] []), .s, .s] (fun K => _ ∧ _ ∧ K 9 ∧ _ ∧ _ ∧ _ ∧ K 22 ∧ _ ∧ _ ∧ K 31 ∧ _ ∧ _ ∧ (_ ∧ True) ∧ _ ∧ (_ ∧ True) ∧ K 44 ∧ _ ∧ K 49 ∧ _ ∧ K 53 ∧ True) [(6, vb k0)] [] ⟨ALe.bool j, ALe.bool n, KAt.CC (ref15_Records_spec q) Tryz.call35 [], ALe.bool o, ALe.bool p, ALe.bool E, KAt.CC (ref15_Records_spec M) Tryz.call35 [], ALe.bool H, ALe.bool L, KAt.CC (ref04_Within_spec U) Tryz.call36 [], ALe.bool O, ALe.bool T, ⟨Z, ⟨⟩⟩, a0, ⟨b0, ⟨⟩⟩, KAt.CC (ref12_Has_spec c0) Tryz.call37 [], ALe.bool W, KAt.CC (ref04_Within_spec l0) Tryz.call36 [], ALe.bool Y, KAt.CC (law15_awake_spec O0) Tryz.call22 [], ⟨⟩⟩ ?_
             exact Kn.R Fm (m k0 h)
            ·refine AW.G Fm [.s, .s, .w (vb true), .s, .s, .s, .w (vb true), .s, .s, .k (cE [] [] (vb B) [] []), .s, .w (vb true), .s, .s, .s, .w (vb true), .s, .s, .s, .w (vb true), .s, .s, .k (cE [] [] (vb N) [] []), .s, .w (vb true), .s, .s, .s, .w (vb true), .s, .s, .k (cE [] [] (vb V) [] []), .s, .w (vb true), .s, .s, .s, .w (vb true), .s, .s, .s, .s, .s, .s, .k (cE [] [] (vb i0) [] []), .s, .w (vb false), .s, .s, .k (cE [] [] (vb m0) [] []), .s, .s, .w (vb false), .s, .s, .s] (fun K => _ ∧ _ ∧ K 9 ∧ _ ∧ _ ∧ _ ∧ K 22 ∧ _ ∧ _ ∧ K 31 ∧ _ ∧ _ ∧ (_ ∧ True) ∧ _ ∧ (_ ∧ True) ∧ K 44 ∧ _ ∧ K 49 ∧ _ ∧ True) [(6, vb false)] [] ⟨ALe.bool j, ALe.bool n, KAt.CC (ref15_Records_spec q) Tryz.call35 [], ALe.bool o, ALe.bool p, ALe.bool E, KAt.CC (ref15_Records_spec M) Tryz.call35 [], ALe.bool H, ALe.bool L, KAt.CC (ref04_Within_spec U) Tryz.call36 [], ALe.bool O, ALe.bool T, ⟨Z, ⟨⟩⟩, a0, ⟨b0, ⟨⟩⟩, KAt.CC (ref12_Has_spec c0) Tryz.call37 [], ALe.bool W, KAt.CC (ref04_Within_spec l0) Tryz.call36 [], ALe.bool Y, ⟨⟩⟩ ?_
             exact Kn.R Fm (m false h)
          ·refine AW.G Fm [.s, .s, .w (vb true), .s, .s, .s, .w (vb true), .s, .s, .k (cE [] [] (vb B) [] []), .s, .w (vb true), .s, .s, .s, .w (vb true), .s, .s, .s, .w (vb true), .s, .s, .k (cE [] [] (vb N) [] []), .s, .w (vb true), .s, .s, .s, .w (vb true), .s, .s, .k (cE [] [] (vb V) [] []), .s, .w (vb true), .s, .s, .s, .w (vb false), .s, .s, .s, .s, .s, .s, .s, .s, .s, .s, .s, .s, .s, .s, .s, .s, .s, .s] (fun K => _ ∧ _ ∧ K 9 ∧ _ ∧ _ ∧ _ ∧ K 22 ∧ _ ∧ _ ∧ K 31 ∧ _ ∧ _ ∧ True) [(6, vb false)] [] ⟨ALe.bool j, ALe.bool n, KAt.CC (ref15_Records_spec q) Tryz.call35 [], ALe.bool o, ALe.bool p, ALe.bool E, KAt.CC (ref15_Records_spec M) Tryz.call35 [], ALe.bool H, ALe.bool L, KAt.CC (ref04_Within_spec U) Tryz.call36 [], ALe.bool O, ALe.bool T, ⟨⟩⟩ ?_
           exact Kn.R Fm (m false h)
         ·refine AW.G Fm [.s, .s, .w (vb true), .s, .s, .s, .w (vb true), .s, .s, .k (cE [] [] (vb B) [] []), .s, .w (vb true), .s, .s, .s, .w (vb true), .s, .s, .s, .w (vb true), .s, .s, .k (cE [] [] (vb N) [] []), .s, .w (vb true), .s, .s, .s, .w (vb true), .s, .s, .k (cE [] [] (vb V) [] []), .s, .w (vb false), .s, .s, .s, .s, .s, .s, .s, .s, .s, .s, .s, .s, .s, .s, .s, .s, .s, .s, .s, .s, .s, .s] (fun K => _ ∧ _ ∧ K 9 ∧ _ ∧ _ ∧ _ ∧ K 22 ∧ _ ∧ _ ∧ K 31 ∧ _ ∧ True) [(6, vb false)] [] ⟨ALe.bool j, ALe.bool n, KAt.CC (ref15_Records_spec q) Tryz.call35 [], ALe.bool o, ALe.bool p, ALe.bool E, KAt.CC (ref15_Records_spec M) Tryz.call35 [], ALe.bool H, ALe.bool L, KAt.CC (ref04_Within_spec U) Tryz.call36 [], ALe.bool O, ⟨⟩⟩ ?_
          exact Kn.R Fm (m false h)
        ·refine AW.G Fm [.s, .s, .w (vb true), .s, .s, .s, .w (vb true), .s, .s, .k (cE [] [] (vb B) [] []), .s, .w (vb true), .s, .s, .s, .w (vb true), .s, .s, .s, .w (vb true), .s, .s, .k (cE [] [] (vb N) [] []), .s, .w (vb true), .s, .s, .s, .w (vb false), .s, .s, .s, .s, .s, .s, .s, .s, .s, .s, .s, .s, .s, .s, .s, .s, .s, .s, .s, .s, .s, .s, .s, .s, .s, .s, .s] (fun K => _ ∧ _ ∧ K 9 ∧ _ ∧ _ ∧ _ ∧ K 22 ∧ _ ∧ _ ∧ True) [(6, vb false)] [] ⟨ALe.bool j, ALe.bool n, KAt.CC (ref15_Records_spec q) Tryz.call35 [], ALe.bool o, ALe.bool p, ALe.bool E, KAt.CC (ref15_Records_spec M) Tryz.call35 [], ALe.bool H, ALe.bool L, ⟨⟩⟩ ?_
         exact Kn.R Fm (m false h)
       ·refine AW.G Fm [.s, .s, .w (vb true), .s, .s, .s, .w (vb true), .s, .s, .k (cE [] [] (vb B) [] []), .s, .w (vb true), .s, .s, .s, .w (vb true), .s, .s, .s, .w (vb true), .s, .s, .k (cE [] [] (vb N) [] []), .s, .w (vb false), .s, .s, .s, .s, .s, .s, .s, .s, .s, .s, .s, .s, .s, .s, .s, .s, .s, .s, .s, .s, .s, .s, .s, .s, .s, .s, .s, .s, .s, .s, .s] (fun K => _ ∧ _ ∧ K 9 ∧ _ ∧ _ ∧ _ ∧ K 22 ∧ _ ∧ True) [(6, vb false)] [] ⟨ALe.bool j, ALe.bool n, KAt.CC (ref15_Records_spec q) Tryz.call35 [], ALe.bool o, ALe.bool p, ALe.bool E, KAt.CC (ref15_Records_spec M) Tryz.call35 [], ALe.bool H, ⟨⟩⟩ ?_
        exact Kn.R Fm (m false h)
      ·refine AW.G Fm [.s, .s, .w (vb true), .s, .s, .s, .w (vb true), .s, .s, .k (cE [] [] (vb B) [] []), .s, .w (vb true), .s, .s, .s, .w (vb true), .s, .s, .s, .w (vb false), .s, .s, .s, .s, .s, .s, .s, .s, .s, .s, .s, .s, .s, .s, .s, .s, .s, .s, .s, .s, .s, .s, .s, .s, .s, .s, .s, .s, .s, .s, .s, .s, .s, .s, .s, .s] (fun K => _ ∧ _ ∧ K 9 ∧ _ ∧ _ ∧ _ ∧ True) [(6, vb false)] [] ⟨ALe.bool j, ALe.bool n, KAt.CC (ref15_Records_spec q) Tryz.call35 [], ALe.bool o, ALe.bool p, ALe.bool E, ⟨⟩⟩ ?_
       exact Kn.R Fm (m false h)
     ·refine AW.G Fm [.s, .s, .w (vb true), .s, .s, .s, .w (vb true), .s, .s, .k (cE [] [] (vb B) [] []), .s, .w (vb true), .s, .s, .s, .w (vb false), .s, .s, .s, .s, .s, .s, .s, .s, .s, .s, .s, .s, .s, .s, .s, .s, .s, .s, .s, .s, .s, .s, .s, .s, .s, .s, .s, .s, .s, .s, .s, .s, .s, .s, .s, .s, .s, .s, .s, .s] (fun K => _ ∧ _ ∧ K 9 ∧ _ ∧ _ ∧ True) [(6, vb false)] [] ⟨ALe.bool j, ALe.bool n, KAt.CC (ref15_Records_spec q) Tryz.call35 [], ALe.bool o, ALe.bool p, ⟨⟩⟩ ?_
      exact Kn.R Fm (m false h)
    ·refine AW.G Fm [.s, .s, .w (vb true), .s, .s, .s, .w (vb true), .s, .s, .k (cE [] [] (vb B) [] []), .s, .w (vb false), .s, .s, .s, .s, .s, .s, .s, .s, .s, .s, .s, .s, .s, .s, .s, .s, .s, .s, .s, .s, .s, .s, .s, .s, .s, .s, .s, .s, .s, .s, .s, .s, .s, .s, .s, .s, .s, .s, .s, .s, .s, .s, .s, .s] (fun K => _ ∧ _ ∧ K 9 ∧ _ ∧ True) [(6, vb false)] [] ⟨ALe.bool j, ALe.bool n, KAt.CC (ref15_Records_spec q) Tryz.call35 [], ALe.bool o, ⟨⟩⟩ ?_
     exact Kn.R Fm (m false h)
   ·refine AW.pN Fm [.s, .s, .w (vb true), .s, .s, .s, .w (vb false), .s, .s, .s, .s, .s, .s, .s, .s, .s, .s, .s, .s, .s, .s, .s, .s, .s, .s, .s, .s, .s, .s, .s, .s, .s, .s, .s, .s, .s, .s, .s, .s, .s, .s, .s, .s, .s, .s, .s, .s, .s, .s, .s, .s, .s, .s, .s, .s, .s] [(6, vb false)] [] (cA (ALe.bool j) (cT (ALe.bool n))) ?_
    exact Kn.R Fm (m false h)
  ·refine AW.pN Fm [.s, .s, .w (vb false), .s, .s, .s, .s, .s, .s, .s, .s, .s, .s, .s, .s, .s, .s, .s, .s, .s, .s, .s, .s, .s, .s, .s, .s, .s, .s, .s, .s, .s, .s, .s, .s, .s, .s, .s, .s, .s, .s, .s, .s, .s, .s, .s, .s, .s, .s, .s, .s, .s, .s, .s, .s, .s] [(6, vb false)] [] (cT (ALe.bool j)) ?_
   exact Kn.R Fm (m false h)
end Go.Ab
end
