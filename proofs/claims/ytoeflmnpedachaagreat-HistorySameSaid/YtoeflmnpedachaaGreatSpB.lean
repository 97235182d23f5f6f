/- The code follows the plain programs: whenever the plain program has a result. -/
import Derived.Test.YtoeflmnpedachaaGreatSpA
import Derived.Test.YtoeflmnpedachaaGreatBaA
set_option linter.unusedVariables false
set_option linter.unusedSimpArgs false
section
namespace Go.Ab
open Go.Proofs
set_option linter.unusedVariables false
set_option maxRecDepth 100000
theorem region_Choose_spec {F : Nat} {a : (List Rect)} {b : (List Rect)} {e : Bool → Bool → Option Bool} {r : (List Rect)} (h : region_Choose F a b e = some r) :
  FSpec Tryz.prog 93 [AL a, AL b, .v (.c (.sem (CloOK Tryz.prog (FR_Bool_Bool_Bool e))))] [] (AL (α := Rect) r) [] := by
 refine FI Tryz.func93 prog_mixed prog_lay fun C Fm => ?_
 unfold region_Choose at h
 refine AW.SG0 Fm 4 [(3, pt 3), (4, pt 4), (5, pt 5)] [(3, bx [.d (DL a)]), (4, bx [.d (DL b)]), (5, bx [.sem (CloOK Tryz.prog (FR_Bool_Bool_Bool e))])] ?_
 refine AW.seq ?_
 obtain ⟨m, j, h⟩ := bS h
 obtain ⟨i, l, h⟩ := bS h
 refine AW.G Fm [.s, .s, .w (AL (α := (List Rect)) ([a, b] : List (List Rect))), .k (cE [] [] (AL m) [] []), .s, .k (cE [] [3, 4, 5] (AL i) [] []), .s] (fun K => (ALe (.v (.c (.d (.lst 2 (litF 1 [DL a, DL b]))))) (AL (α := (List Rect)) ([a, b] : List (List Rect)))) ∧ K 3 ∧ K 5 ∧ True) [(6, AL i)] [] ⟨ALe.lst (.lit ([a, b] : List (List Rect)) (by kernel_rfl)), KAt.CC (region_Cuts_spec j) Tryz.call177 [], KAt.callX (region_Build_spec l) Tryz.call176 [] [3, 4, 5] [.tmp 10, .tmp 11] rfl (by kernel_rfl) (by kernel_rfl) (by kernel_rfl) ⟨.p, ArgT.cloXP Tryz.call178 [[.d (DL a)], [.d (DL b)], [.sem (CloOK Tryz.prog (FR_Bool_Bool_Bool e))]] (fun args r hq => by obtain ⟨y0, y, hq, rfl, rfl⟩ := hq; exact Eq.mp (by kernel_rfl) (region_Choose_1_spec hq)) (fun args r hq => by obtain ⟨y0, y, hq, rfl, rfl⟩ := hq; rfl) (by kernel_rfl) [3, 4, 5] (by kernel_rfl) (by kernel_rfl) ⟨⟨.inl (by kernel_rfl), ⟨⟩⟩, ⟨.inl (by kernel_rfl), ⟨⟩⟩, ⟨.inr ⟨_, rfl⟩, ⟨⟩⟩, ⟨⟩⟩ (⟨⟨false, (by kernel_rfl)⟩, ⟨⟨false, (by kernel_rfl)⟩, ⟨⟨false, (by kernel_rfl)⟩, ⟨⟩⟩⟩⟩) (by kernel_rfl), ⟨⟩⟩, ⟨⟩⟩ ?_
 refine AW.ret ?_
 obtain rfl := Option.some.inj h
 exact Kn.D Fm
theorem region_Limited_spec {F : Nat} {a : (List Rect)} {r : Region × Int} (h : region_Limited F a = some r) :
  FSpec Tryz.prog 140 [AL a] [] (.t [.g [.d (DL (α := Rect) r.1.rects_)], .c (ci r.2)]) [] := by
 refine FI Tryz.func140 prog_mixed prog_lay fun C Fm => ?_
 unfold region_Limited at h
 refine AW.SG0 Fm 2 [(0, AL a), (2, pt 2)] [(2, bx [.fl 0 fun _ => []])] ?_
 refine AW.seq (AW.SG0 Fm 3 [(0, AL a), (2, pt 2), (6, vb (decide ((120 : Int) < (lI a))))] [(2, bx [.fl 0 fun _ => []])] ?_)
 refine AW.cN h (fun b h => ?_) (fun b h => ?_)
 ·refine AW.SP Fm [.w (.v (.g [.d (DL (α := Rect) [])])), .s, .s] [(2, pt 2), (3, vi 1)] [(2, bx [.d (DL (α := Rect) [])])] (cT (ALe.g ⟨CLe.fl .nil, ⟨⟩⟩ : ALe (.v (.g [.fl 0 fun _ => []])) (.v (.g [.d (DL (α := Rect) [])])))) ?_
  refine AW.ret ?_
  obtain rfl := Option.some.inj h
  exact Kn.D Fm
 ·refine AW.skip (AW.SG0 Fm 4 [(2, pt 2), (3, vi 0)] [(2, bx [.d (DL a)])] ?_)
  refine AW.ret ?_
  obtain rfl := Option.some.inj h
  exact Kn.D Fm
theorem region_Joined_spec {F : Nat} {b : (List Rect)} {r : Region × Int} (h : region_Joined F b = some r) :
  FSpec Tryz.prog 111 [AL b] [] (.t [.g [.d (DL (α := Rect) r.1.rects_)], .c (ci r.2)]) [] := by
 refine FI Tryz.func111 prog_mixed prog_lay fun C Fm => ?_
 unfold region_Joined at h
 refine AW.SG0 Fm 2 [(0, AL b), (2, pt 2)] [(2, bx [.fl 0 fun _ => []])] ?_
 refine AW.seq ?_
 obtain ⟨j, e, h⟩ := bS h
 obtain ⟨a, i, h⟩ := bS h
 refine AW.G Fm [.s, .k (cE [] [] (AL j) [] []), .k (cE [] [] (.t [.g [.d (DL a.1.rects_)], .c (ci a.2)]) [] []), .s, .s, .s, .s] (fun K => K 1 ∧ K 2 ∧ True) [(2, pt 2), (3, vi a.2)] [(2, bx [.d (DL a.1.rects_)])] ⟨KAt.CC (region_canonical_spec e) Tryz.call175 [], KAt.CC (region_Limited_spec i) Tryz.call140 [], ⟨⟩⟩ ?_
 refine AW.ret ?_
 obtain rfl := Option.some.inj h
 exact Kn.D Fm
theorem ref04_Has_spec {F : Nat} {b : Region} {c : Int} {e : Int} {r : Bool} (h : ref04_Has F b c e = some r) :
  FSpec Tryz.prog 20 [.v (.g [.d (DL b.rects_)]), vi c, vi e] [] (vb r) [] := by
 refine FI Tryz.func20 prog_mixed prog_lay fun C Fm => ?_
 unfold ref04_Has at h
 refine AW.SG0 Fm 2 [(1, vi c), (2, vi e), (3, pt 3)] [(3, bx [.d (DL b.rects_)])] ?_
 refine AW.join (r := r) (fun z : Bool => ref04_Has_k0 F z) (fun z => [(6, vb z)]) (fun z => []) (fun p h => ?_) (fun o j => ?_)
 ·refine AW.ret ?_
  obtain rfl := Option.some.inj h
  exact Kn.D Fm
 ·obtain ⟨m, l, h⟩ := bS h
  rcases br_or h with ⟨a, h⟩ | ⟨a, h⟩
  ·obtain ⟨i, n, h⟩ := bS h
   refine AW.G Fm [.s, .k (cE [] [] (vb m) [] []), .w (vb true), .s, .s, .s, .s, .k (cE [] [] (vb i) [] []), .s, .s] (fun K => K 1 ∧ _ ∧ K 7 ∧ True) [(6, vb i)] [] ⟨KAt.CC (ref04_Valid_spec l) Tryz.call107 [], ALe.bool a, KAt.CC (ref04_inside_spec n) Tryz.call108 [], ⟨⟩⟩ ?_
   exact Kn.R Fm (j i h)
  ·refine AW.G Fm [.s, .k (cE [] [] (vb m) [] []), .w (vb false), .s, .s, .s, .s, .s, .s, .s] (fun K => K 1 ∧ _ ∧ True) [(6, vb false)] [] ⟨KAt.CC (ref04_Valid_spec l) Tryz.call107 [], ALe.bool a, ⟨⟩⟩ ?_
   exact Kn.R Fm (j false h)
theorem ref15_At_spec {F : Nat} {a : (List Record)} {j : Int} {e : Int} {i : Int} {r : Int} (h : ref15_At F a j e i = some r) :
  FSpec Tryz.prog 25 [AL a, vi j, vi e, vi i] [] (vi r) [] := by
 refine FI Tryz.func25 prog_mixed prog_lay fun C Fm => ?_
 unfold ref15_At at h
 refine AW.SG0 Fm 1 [(0, AL a), (1, vi j), (2, vi e), (3, vi i)] [] ?_
 refine AW.seq (AW.seq ?_)
 obtain ⟨o, H, h⟩ := bS h
 refine AW.G Fm [.s, .k (cE [] [] (vi o) [] []), .s] (fun K => K 1 ∧ True) [(0, AL a), (1, vi j), (2, vi e), (3, vi i), (13, vb (o != (0 : Int)))] [] ⟨KAt.CC (ref15_Check_spec H) Tryz.call45 [], ⟨⟩⟩ ?_
 refine AW.cN h (fun u h => ?_) (fun u h => ?_)
 ·refine AW.SG0 Fm 1 [(8, vi (-1 : Int))] [] ?_
  refine AW.ret ?_
  obtain rfl := Option.some.inj h
  exact Kn.D Fm
 ·refine AW.skip (AW.join (r := r) (fun z : Unit => ref15_At_k2 F) (fun z => []) (fun z => []) (fun z h => ?_) (fun N t => ?_))
  ·refine AW.SG0 Fm 1 [(8, vi (-1 : Int))] [] ?_
   refine AW.ret ?_
   obtain rfl := Option.some.inj h
   exact Kn.D Fm
  ·refine AW.SG0 Fm 3 [(1, vi j), (2, vi e), (3, vi i), (14, AL a), (15, vi (lI a)), (16, vi 0)] [] ?_
   refine AW.block (AW.loopF (E' := fun z => [(1, vi j), (2, vi e), (3, vi i), (14, AL a), (15, vi (lI a)), (16, vi z)]) (S' := fun z => []) (fun p b L q h => ?_) h)
   refine AW.SG0 Fm 1 [(1, vi j), (2, vi e), (3, vi i), (14, AL a), (15, vi (lI a)), (16, vi b), (17, vb (decide (b < (lI a))))] [] ?_
   refine AW.seq (AW.cN h (fun y h => ?_) (fun y h => ?_))
   ·refine AW.skip (AW.seq (AW.block ?_))
    obtain ⟨B, h⟩ := gS h
    refine AW.SP Fm [.s, .s, .s, .s] [(1, vi j), (2, vi e), (3, vi i), (10, pt 10), (14, AL a), (15, vi (lI a)), (16, vi b)] [(10, bx [ci ((gl a b.toNat).year_), ci ((gl a b.toNat).crop_), .d (DL (α := Rect) (gl a b.toNat).region_.rects_)])] (cT B) ?_
    refine AW.join (r := r) (fun z : Bool => ref15_At_k1 F a b p z) (fun z => [(1, vi j), (2, vi e), (3, vi i), (10, pt 10), (14, AL a), (15, vi (lI a)), (16, vi b), (30, vb z)]) (fun z => [(10, bx [ci ((gl a b.toNat).year_), ci ((gl a b.toNat).crop_), .d (DL (α := Rect) (gl a b.toNat).region_.rects_)])]) (fun O h => ?_) (fun M n => ?_)
    ·refine AW.cN h (fun A h => ?_) (fun A h => ?_)
     ·refine AW.SG0 Fm 3 [(8, vi (gl a b.toNat).crop_)] [] ?_
      refine AW.ret ?_
      obtain rfl := Option.some.inj h
      exact Kn.D Fm
     ·refine AW.skip ?_
      obtain ⟨E, h⟩ := gS h
      refine AW.pN Fm [.s, .s] [(1, vi j), (2, vi e), (3, vi i), (14, AL a), (15, vi (lI a)), (16, vi (b + 1))] [] (cT (cT E)) ?_
      exact Kn.R Fm (q (b + 1) h)
    ·rcases br_or h with ⟨m, h⟩ | ⟨m, h⟩
     ·obtain ⟨l, I, h⟩ := bS h
      refine AW.G Fm [.s, .s, .s, .s, .w (vb true), .s, .s, .s, .s, .k (cE [] [] (vb l) [] []), .s] (fun K => _ ∧ K 9 ∧ True) [(1, vi j), (2, vi e), (3, vi i), (10, pt 10), (14, AL a), (15, vi (lI a)), (16, vi b), (25, .v (.c (.ptr 10 2))), (26, .v (.g [.d (DL (α := Rect) (gl a b.toNat).region_.rects_)])), (27, vi e), (28, vi i), (29, vb l), (30, vb l)] [(10, bx [ci ((gl a b.toNat).year_), ci ((gl a b.toNat).crop_), .d (DL (α := Rect) (gl a b.toNat).region_.rects_)])] ⟨ALe.bool m, KAt.CC (ref04_Has_spec I) Tryz.call20 [], ⟨⟩⟩ ?_
      exact Kn.R Fm (n l h)
     ·refine AW.pN Fm [.s, .s, .s, .s, .w (vb false), .s, .s, .s, .s, .s, .s] [(1, vi j), (2, vi e), (3, vi i), (10, pt 10), (14, AL a), (15, vi (lI a)), (16, vi b), (30, vb false)] [(10, bx [ci ((gl a b.toNat).year_), ci ((gl a b.toNat).crop_), .d (DL (α := Rect) (gl a b.toNat).region_.rects_)])] (cT (ALe.bool m)) ?_
      exact Kn.R Fm (n false h)
   ·exact AW.exit (Kn.R Fm (t () h))
theorem ref04_Same_spec {F : Nat} {a : Region} {b : Region} {r : Bool} (h : ref04_Same F a b = some r) :
  FSpec Tryz.prog 42 [.v (.g [.d (DL a.rects_)]), .v (.g [.d (DL b.rects_)])] [] (vb r) [] := by
 refine FI Tryz.func42 prog_mixed prog_lay fun C Fm => ?_
 unfold ref04_Same at h
 refine AW.SG0 Fm 3 [(2, pt 2), (3, pt 3)] [(2, bx [.d (DL a.rects_)]), (3, bx [.d (DL b.rects_)])] ?_
 refine AW.seq ?_
 obtain ⟨c, e, h⟩ := bS h
 refine AW.G Fm [.s, .s, .s, .s, .k (cE [] [] (vb c) [] []), .s] (fun K => K 4 ∧ True) [(4, vb c)] [] ⟨KAt.CC (ref04_Rects_spec e) Tryz.call127 [], ⟨⟩⟩ ?_
 refine AW.ret ?_
 obtain rfl := Option.some.inj h
 exact Kn.D Fm
theorem history_Any_spec {F : Nat} {a : Int} {r : Bool} (h : history_Any F a = some r) :
  FSpec Tryz.prog 123 [vi a] [] (vb r) [] := by
 refine FI Tryz.func123 prog_mixed prog_lay fun C Fm => ?_
 unfold history_Any at h
 refine AW.SG0 Fm 1 [] [] ?_
 refine AW.SG0 Fm 1 [(2, vb true)] [] ?_
 refine AW.ret ?_
 obtain rfl := Option.some.inj h
 exact Kn.D Fm
theorem keep_Tape_Range_spec {F : Nat} {a : Tape} {b : Int} {d : Int} {r : Tape × Int} (h : keep_Tape_Range F a b d = some r) :
  FSpec Tryz.prog 70 [pt 0, vi b, vi d] [(0, bx (gC a))] (vi r.2) [(0, bx (gC r.1))] := by
 refine FI Tryz.func70 prog_mixed prog_lay fun C Fm => ?_
 unfold keep_Tape_Range at h
 refine AW.SG0 Fm 1 [(0, pt 0), (1, vi b), (2, vi d)] [(0, bx (gC a))] ?_
 refine AW.seq ?_
 obtain ⟨e, i, h⟩ := gS2 h
 obtain ⟨c, l, h⟩ := bS h
 obtain ⟨j, h⟩ := gS h
 refine AW.G Fm [.s, .s, .s, .s, .s, .s, .k (cE [(0, 0)] [] (vi c.2) [(0, bx (gC a))] [(0, bx (gC c.1))]), .s, .s] (fun K => (_ ∧ True) ∧ (_ ∧ True) ∧ K 6 ∧ (_ ∧ True) ∧ True) [(6, vi (b + c.2))] [(0, bx (gC c.1))] ⟨⟨e, ⟨⟩⟩, ⟨i, ⟨⟩⟩, KAt.CC (keep_Tape_Next_spec l) Tryz.call16 [(0, 0)], ⟨j, ⟨⟩⟩, ⟨⟩⟩ ?_
 refine AW.ret ?_
 obtain rfl := Option.some.inj h
 exact Kn.D Fm
theorem keep_Tape_Crops_spec {F : Nat} {n : Tape} {r : Tape × (List Crop)} (h : keep_Tape_Crops F n = some r) :
  FSpec Tryz.prog 15 [pt 0] [(0, bx (gC n))] (AL (α := Crop) r.2) [(0, bx (gC r.1))] := by
 refine FI Tryz.func15 prog_mixed prog_lay fun C Fm => ?_
 unfold keep_Tape_Crops at h
 refine AW.SG0 Fm 1 [(0, pt 0)] [(0, bx (gC n))] ?_
 refine AW.SP Fm [.w (AL (α := ByteArray) ([(ByteArray.mk #[98, 97, 114, 108, 101, 121]), (ByteArray.mk #[99, 108, 111, 118, 101, 114]), (ByteArray.mk #[103, 114, 97, 115, 115]), (ByteArray.mk #[109, 97, 105, 122, 101]), (ByteArray.mk #[111, 97, 116, 115]), (ByteArray.mk #[114, 121, 101]), (ByteArray.mk #[118, 101, 116, 99, 104]), (ByteArray.mk #[119, 104, 101, 97, 116])] : List ByteArray)), .s] [(0, pt 0), (3, AL (α := ByteArray) ([(ByteArray.mk #[98, 97, 114, 108, 101, 121]), (ByteArray.mk #[99, 108, 111, 118, 101, 114]), (ByteArray.mk #[103, 114, 97, 115, 115]), (ByteArray.mk #[109, 97, 105, 122, 101]), (ByteArray.mk #[111, 97, 116, 115]), (ByteArray.mk #[114, 121, 101]), (ByteArray.mk #[118, 101, 116, 99, 104]), (ByteArray.mk #[119, 104, 101, 97, 116])] : List ByteArray))] [(0, bx (gC n))] (cT (ALe.lst (.lit ([(ByteArray.mk #[98, 97, 114, 108, 101, 121]), (ByteArray.mk #[99, 108, 111, 118, 101, 114]), (ByteArray.mk #[103, 114, 97, 115, 115]), (ByteArray.mk #[109, 97, 105, 122, 101]), (ByteArray.mk #[111, 97, 116, 115]), (ByteArray.mk #[114, 121, 101]), (ByteArray.mk #[118, 101, 116, 99, 104]), (ByteArray.mk #[119, 104, 101, 97, 116])] : List ByteArray) (by kernel_rfl)) : ALe (.v (.c (.d (.lst 8 (litF 1 [.str (ByteArray.mk #[98, 97, 114, 108, 101, 121]), .str (ByteArray.mk #[99, 108, 111, 118, 101, 114]), .str (ByteArray.mk #[103, 114, 97, 115, 115]), .str (ByteArray.mk #[109, 97, 105, 122, 101]), .str (ByteArray.mk #[111, 97, 116, 115]), .str (ByteArray.mk #[114, 121, 101]), .str (ByteArray.mk #[118, 101, 116, 99, 104]), .str (ByteArray.mk #[119, 104, 101, 97, 116])]))))) (AL (α := ByteArray) ([(ByteArray.mk #[98, 97, 114, 108, 101, 121]), (ByteArray.mk #[99, 108, 111, 118, 101, 114]), (ByteArray.mk #[103, 114, 97, 115, 115]), (ByteArray.mk #[109, 97, 105, 122, 101]), (ByteArray.mk #[111, 97, 116, 115]), (ByteArray.mk #[114, 121, 101]), (ByteArray.mk #[118, 101, 116, 99, 104]), (ByteArray.mk #[119, 104, 101, 97, 116])] : List ByteArray)))) ?_
 refine AW.SW Fm [.m] (fun K => True) [(0, pt 0), (3, AL (α := ByteArray) ([(ByteArray.mk #[98, 97, 114, 108, 101, 121]), (ByteArray.mk #[99, 108, 111, 118, 101, 114]), (ByteArray.mk #[103, 114, 97, 115, 115]), (ByteArray.mk #[109, 97, 105, 122, 101]), (ByteArray.mk #[111, 97, 116, 115]), (ByteArray.mk #[114, 121, 101]), (ByteArray.mk #[118, 101, 116, 99, 104]), (ByteArray.mk #[119, 104, 101, 97, 116])] : List ByteArray)), (4, ow 4)] [(0, bx (gC n)), (4, AO (α := Crop) ([] : List Crop))] True.intro [(4, .arr 3 (0) (fun _ => []))] ⟨OLe.is ((Is.nil (α := Crop))), ⟨⟩⟩ ?_
 refine AW.join (r := r) (fun z : (List Crop) × (List Int) × Int => keep_Tape_Crops_k1 F z.1 z.2.1 z.2.2) (fun z => [(4, ow 4)]) (fun z => [(0, bx [.d (DL z.2.1), ci z.2.2]), (4, AO z.1)]) (fun z h => ?_) (fun U B => ?_)
 ·obtain ⟨q, t, u⟩ := z
  refine AW.SG0 Fm 2 [(2, ow 4)] [(0, bx [.d (DL t), ci u]), (4, AO q)] ?_
  refine AW.ret ?_
  obtain rfl := Option.some.inj h
  refine Kn.r Fm [(2, ow 4)] [(4, AO q), (0, bx [.d (DL t), ci u])] (by kernel_rfl) ?_
  refine Kn.frz [(2, AL q)] [(0, bx [.d (DL t), ci u])] (by kernel_rfl) (by kernel_rfl) (by kernel_rfl) ?_
  exact Kn.D Fm
 ·refine AW.seq ?_
  obtain ⟨a, N, h⟩ := bS h
  obtain ⟨y, h⟩ := gS h
  refine AW.G Fm [.s, .s, .k (cE [(0, 0)] [] (vi a.2) [(0, bx (gC n))] [(0, bx (gC a.1))]), .w (AL (α := ByteArray) (([(ByteArray.mk #[98, 97, 114, 108, 101, 121]), (ByteArray.mk #[99, 108, 111, 118, 101, 114]), (ByteArray.mk #[103, 114, 97, 115, 115]), (ByteArray.mk #[109, 97, 105, 122, 101]), (ByteArray.mk #[111, 97, 116, 115]), (ByteArray.mk #[114, 121, 101]), (ByteArray.mk #[118, 101, 116, 99, 104]), (ByteArray.mk #[119, 104, 101, 97, 116])] : List ByteArray).take a.2.toNat)), .s, .s] (fun K => K 2 ∧ (((sl (List.length ([(ByteArray.mk #[98, 97, 114, 108, 101, 121]), (ByteArray.mk #[99, 108, 111, 118, 101, 114]), (ByteArray.mk #[103, 114, 97, 115, 115]), (ByteArray.mk #[109, 97, 105, 122, 101]), (ByteArray.mk #[111, 97, 116, 115]), (ByteArray.mk #[114, 121, 101]), (ByteArray.mk #[118, 101, 116, 99, 104]), (ByteArray.mk #[119, 104, 101, 97, 116])] : List ByteArray)) (LF ([(ByteArray.mk #[98, 97, 114, 108, 101, 121]), (ByteArray.mk #[99, 108, 111, 118, 101, 114]), (ByteArray.mk #[103, 114, 97, 115, 115]), (ByteArray.mk #[109, 97, 105, 122, 101]), (ByteArray.mk #[111, 97, 116, 115]), (ByteArray.mk #[114, 121, 101]), (ByteArray.mk #[118, 101, 116, 99, 104]), (ByteArray.mk #[119, 104, 101, 97, 116])] : List ByteArray)) none (some a.2)).2 ∧ ∀ j, j < List.length ([(ByteArray.mk #[98, 97, 114, 108, 101, 121]), (ByteArray.mk #[99, 108, 111, 118, 101, 114]), (ByteArray.mk #[103, 114, 97, 115, 115]), (ByteArray.mk #[109, 97, 105, 122, 101]), (ByteArray.mk #[111, 97, 116, 115]), (ByteArray.mk #[114, 121, 101]), (ByteArray.mk #[118, 101, 116, 99, 104]), (ByteArray.mk #[119, 104, 101, 97, 116])] : List ByteArray) → (LF ([(ByteArray.mk #[98, 97, 114, 108, 101, 121]), (ByteArray.mk #[99, 108, 111, 118, 101, 114]), (ByteArray.mk #[103, 114, 97, 115, 115]), (ByteArray.mk #[109, 97, 105, 122, 101]), (ByteArray.mk #[111, 97, 116, 115]), (ByteArray.mk #[114, 121, 101]), (ByteArray.mk #[118, 101, 116, 99, 104]), (ByteArray.mk #[119, 104, 101, 97, 116])] : List ByteArray) j).length = 1)) ∧ (ALe (.v (.c (.d (.lst (sl (List.length ([(ByteArray.mk #[98, 97, 114, 108, 101, 121]), (ByteArray.mk #[99, 108, 111, 118, 101, 114]), (ByteArray.mk #[103, 114, 97, 115, 115]), (ByteArray.mk #[109, 97, 105, 122, 101]), (ByteArray.mk #[111, 97, 116, 115]), (ByteArray.mk #[114, 121, 101]), (ByteArray.mk #[118, 101, 116, 99, 104]), (ByteArray.mk #[119, 104, 101, 97, 116])] : List ByteArray)) (LF ([(ByteArray.mk #[98, 97, 114, 108, 101, 121]), (ByteArray.mk #[99, 108, 111, 118, 101, 114]), (ByteArray.mk #[103, 114, 97, 115, 115]), (ByteArray.mk #[109, 97, 105, 122, 101]), (ByteArray.mk #[111, 97, 116, 115]), (ByteArray.mk #[114, 121, 101]), (ByteArray.mk #[118, 101, 116, 99, 104]), (ByteArray.mk #[119, 104, 101, 97, 116])] : List ByteArray)) none (some a.2)).1.1 (sl (List.length ([(ByteArray.mk #[98, 97, 114, 108, 101, 121]), (ByteArray.mk #[99, 108, 111, 118, 101, 114]), (ByteArray.mk #[103, 114, 97, 115, 115]), (ByteArray.mk #[109, 97, 105, 122, 101]), (ByteArray.mk #[111, 97, 116, 115]), (ByteArray.mk #[114, 121, 101]), (ByteArray.mk #[118, 101, 116, 99, 104]), (ByteArray.mk #[119, 104, 101, 97, 116])] : List ByteArray)) (LF ([(ByteArray.mk #[98, 97, 114, 108, 101, 121]), (ByteArray.mk #[99, 108, 111, 118, 101, 114]), (ByteArray.mk #[103, 114, 97, 115, 115]), (ByteArray.mk #[109, 97, 105, 122, 101]), (ByteArray.mk #[111, 97, 116, 115]), (ByteArray.mk #[114, 121, 101]), (ByteArray.mk #[118, 101, 116, 99, 104]), (ByteArray.mk #[119, 104, 101, 97, 116])] : List ByteArray)) none (some a.2)).1.2)))) (AL (α := ByteArray) (([(ByteArray.mk #[98, 97, 114, 108, 101, 121]), (ByteArray.mk #[99, 108, 111, 118, 101, 114]), (ByteArray.mk #[103, 114, 97, 115, 115]), (ByteArray.mk #[109, 97, 105, 122, 101]), (ByteArray.mk #[111, 97, 116, 115]), (ByteArray.mk #[114, 121, 101]), (ByteArray.mk #[118, 101, 116, 99, 104]), (ByteArray.mk #[119, 104, 101, 97, 116])] : List ByteArray).take a.2.toNat))) ∧ True) [(0, pt 0), (4, ow 4), (11, AL (α := ByteArray) (([(ByteArray.mk #[98, 97, 114, 108, 101, 121]), (ByteArray.mk #[99, 108, 111, 118, 101, 114]), (ByteArray.mk #[103, 114, 97, 115, 115]), (ByteArray.mk #[109, 97, 105, 122, 101]), (ByteArray.mk #[111, 97, 116, 115]), (ByteArray.mk #[114, 121, 101]), (ByteArray.mk #[118, 101, 116, 99, 104]), (ByteArray.mk #[119, 104, 101, 97, 116])] : List ByteArray).take a.2.toNat)), (12, vi ((List.length (([(ByteArray.mk #[98, 97, 114, 108, 101, 121]), (ByteArray.mk #[99, 108, 111, 118, 101, 114]), (ByteArray.mk #[103, 114, 97, 115, 115]), (ByteArray.mk #[109, 97, 105, 122, 101]), (ByteArray.mk #[111, 97, 116, 115]), (ByteArray.mk #[114, 121, 101]), (ByteArray.mk #[118, 101, 116, 99, 104]), (ByteArray.mk #[119, 104, 101, 97, 116])] : List ByteArray).take a.2.toNat) : Nat) : Int)), (13, vi 0)] [(0, bx (gC a.1)), (4, AO (α := Crop) ([] : List Crop))] ⟨KAt.CC (keep_Tape_Range_spec N) Tryz.call70 [(0, 0)], ⟨y, (Is.refl ([(ByteArray.mk #[98, 97, 114, 108, 101, 121]), (ByteArray.mk #[99, 108, 111, 118, 101, 114]), (ByteArray.mk #[103, 114, 97, 115, 115]), (ByteArray.mk #[109, 97, 105, 122, 101]), (ByteArray.mk #[111, 97, 116, 115]), (ByteArray.mk #[114, 121, 101]), (ByteArray.mk #[118, 101, 116, 99, 104]), (ByteArray.mk #[119, 104, 101, 97, 116])] : List ByteArray)).len⟩, ALe.lst (sl_is ([(ByteArray.mk #[98, 97, 114, 108, 101, 121]), (ByteArray.mk #[99, 108, 111, 118, 101, 114]), (ByteArray.mk #[103, 114, 97, 115, 115]), (ByteArray.mk #[109, 97, 105, 122, 101]), (ByteArray.mk #[111, 97, 116, 115]), (ByteArray.mk #[114, 121, 101]), (ByteArray.mk #[118, 101, 116, 99, 104]), (ByteArray.mk #[119, 104, 101, 97, 116])] : List ByteArray) none (some a.2) y), ⟨⟩⟩ ?_
  refine AW.block (Kn.r Fm [(0, pt 0), (4, ow 4), (11, AL (α := ByteArray) (([(ByteArray.mk #[98, 97, 114, 108, 101, 121]), (ByteArray.mk #[99, 108, 111, 118, 101, 114]), (ByteArray.mk #[103, 114, 97, 115, 115]), (ByteArray.mk #[109, 97, 105, 122, 101]), (ByteArray.mk #[111, 97, 116, 115]), (ByteArray.mk #[114, 121, 101]), (ByteArray.mk #[118, 101, 116, 99, 104]), (ByteArray.mk #[119, 104, 101, 97, 116])] : List ByteArray).take a.2.toNat)), (12, vi ((List.length (([(ByteArray.mk #[98, 97, 114, 108, 101, 121]), (ByteArray.mk #[99, 108, 111, 118, 101, 114]), (ByteArray.mk #[103, 114, 97, 115, 115]), (ByteArray.mk #[109, 97, 105, 122, 101]), (ByteArray.mk #[111, 97, 116, 115]), (ByteArray.mk #[114, 121, 101]), (ByteArray.mk #[118, 101, 116, 99, 104]), (ByteArray.mk #[119, 104, 101, 97, 116])] : List ByteArray).take a.2.toNat) : Nat) : Int)), (13, vi 0)] [(0, bx [.d (DL a.1.l_), ci a.1.at_]), (4, AO ([] : List Crop))] (by kernel_rfl) ?_)
  refine AW.loopF (E' := fun z => [(0, pt 0), (4, ow 4), (11, AL (α := ByteArray) (([(ByteArray.mk #[98, 97, 114, 108, 101, 121]), (ByteArray.mk #[99, 108, 111, 118, 101, 114]), (ByteArray.mk #[103, 114, 97, 115, 115]), (ByteArray.mk #[109, 97, 105, 122, 101]), (ByteArray.mk #[111, 97, 116, 115]), (ByteArray.mk #[114, 121, 101]), (ByteArray.mk #[118, 101, 116, 99, 104]), (ByteArray.mk #[119, 104, 101, 97, 116])] : List ByteArray).take a.2.toNat)), (12, vi ((List.length (([(ByteArray.mk #[98, 97, 114, 108, 101, 121]), (ByteArray.mk #[99, 108, 111, 118, 101, 114]), (ByteArray.mk #[103, 114, 97, 115, 115]), (ByteArray.mk #[109, 97, 105, 122, 101]), (ByteArray.mk #[111, 97, 116, 115]), (ByteArray.mk #[114, 121, 101]), (ByteArray.mk #[118, 101, 116, 99, 104]), (ByteArray.mk #[119, 104, 101, 97, 116])] : List ByteArray).take a.2.toNat) : Nat) : Int)), (13, vi z.1)]) (S' := fun z => [(0, bx [.d (DL z.2.1), ci z.2.2.1]), (4, AO z.2.2.2)]) (fun V z T A h => ?_) h
  obtain ⟨b, o, p, l⟩ := z
  refine AW.SG0 Fm 1 [(0, pt 0), (4, ow 4), (11, AL (α := ByteArray) (([(ByteArray.mk #[98, 97, 114, 108, 101, 121]), (ByteArray.mk #[99, 108, 111, 118, 101, 114]), (ByteArray.mk #[103, 114, 97, 115, 115]), (ByteArray.mk #[109, 97, 105, 122, 101]), (ByteArray.mk #[111, 97, 116, 115]), (ByteArray.mk #[114, 121, 101]), (ByteArray.mk #[118, 101, 116, 99, 104]), (ByteArray.mk #[119, 104, 101, 97, 116])] : List ByteArray).take a.2.toNat)), (12, vi ((List.length (([(ByteArray.mk #[98, 97, 114, 108, 101, 121]), (ByteArray.mk #[99, 108, 111, 118, 101, 114]), (ByteArray.mk #[103, 114, 97, 115, 115]), (ByteArray.mk #[109, 97, 105, 122, 101]), (ByteArray.mk #[111, 97, 116, 115]), (ByteArray.mk #[114, 121, 101]), (ByteArray.mk #[118, 101, 116, 99, 104]), (ByteArray.mk #[119, 104, 101, 97, 116])] : List ByteArray).take a.2.toNat) : Nat) : Int)), (13, vi b), (14, vb (decide (b < ((List.length (([(ByteArray.mk #[98, 97, 114, 108, 101, 121]), (ByteArray.mk #[99, 108, 111, 118, 101, 114]), (ByteArray.mk #[103, 114, 97, 115, 115]), (ByteArray.mk #[109, 97, 105, 122, 101]), (ByteArray.mk #[111, 97, 116, 115]), (ByteArray.mk #[114, 121, 101]), (ByteArray.mk #[118, 101, 116, 99, 104]), (ByteArray.mk #[119, 104, 101, 97, 116])] : List ByteArray).take a.2.toNat) : Nat) : Int))))] [(0, bx [.d (DL o), ci p]), (4, AO l)] ?_
  refine AW.seq (AW.cN h (fun E h => ?_) (fun E h => ?_))
  ·refine AW.skip (AW.seq (AW.block ?_))
   obtain ⟨H, h⟩ := gS h
   refine AW.SP Fm [.s, .s, .s] [(0, pt 0), (4, ow 4), (6, .v (.c (.d (.str (gl (([(ByteArray.mk #[98, 97, 114, 108, 101, 121]), (ByteArray.mk #[99, 108, 111, 118, 101, 114]), (ByteArray.mk #[103, 114, 97, 115, 115]), (ByteArray.mk #[109, 97, 105, 122, 101]), (ByteArray.mk #[111, 97, 116, 115]), (ByteArray.mk #[114, 121, 101]), (ByteArray.mk #[118, 101, 116, 99, 104]), (ByteArray.mk #[119, 104, 101, 97, 116])] : List ByteArray).take a.2.toNat) b.toNat))))), (11, AL (α := ByteArray) (([(ByteArray.mk #[98, 97, 114, 108, 101, 121]), (ByteArray.mk #[99, 108, 111, 118, 101, 114]), (ByteArray.mk #[103, 114, 97, 115, 115]), (ByteArray.mk #[109, 97, 105, 122, 101]), (ByteArray.mk #[111, 97, 116, 115]), (ByteArray.mk #[114, 121, 101]), (ByteArray.mk #[118, 101, 116, 99, 104]), (ByteArray.mk #[119, 104, 101, 97, 116])] : List ByteArray).take a.2.toNat)), (12, vi ((List.length (([(ByteArray.mk #[98, 97, 114, 108, 101, 121]), (ByteArray.mk #[99, 108, 111, 118, 101, 114]), (ByteArray.mk #[103, 114, 97, 115, 115]), (ByteArray.mk #[109, 97, 105, 122, 101]), (ByteArray.mk #[111, 97, 116, 115]), (ByteArray.mk #[114, 121, 101]), (ByteArray.mk #[118, 101, 116, 99, 104]), (ByteArray.mk #[119, 104, 101, 97, 116])] : List ByteArray).take a.2.toNat) : Nat) : Int)), (13, vi b)] [(0, bx [.d (DL o), ci p]), (4, AO l)] (cT H) ?_
   obtain ⟨i, O, h⟩ := bS h
   obtain ⟨e, P, h⟩ := bS h
   obtain ⟨I, L, h⟩ := gS2 h
   refine AW.GW Fm [.s, .s, .s, .k (cE [(0, 0)] [] (vi i.2) [(0, bx [.d (DL (α := Int) (⟨o, p⟩ : Tape).l_), ci ((⟨o, p⟩ : Tape).at_)])] [(0, bx (gC i.1))]), .w (AL (α := Int) ([(0 : Int), (0 : Int), (0 : Int), (2 : Int), (20 : Int), (8 : Int), (1 : Int), (31 : Int)] : List Int)), .s, .k (cE [(0, 0)] [] (vi e.2) [(0, bx (gC i.1))] [(0, bx (gC e.1))]), .s, .s, .s, .w (AL (α := Crop) ([(⟨(gl (([(ByteArray.mk #[98, 97, 114, 108, 101, 121]), (ByteArray.mk #[99, 108, 111, 118, 101, 114]), (ByteArray.mk #[103, 114, 97, 115, 115]), (ByteArray.mk #[109, 97, 105, 122, 101]), (ByteArray.mk #[111, 97, 116, 115]), (ByteArray.mk #[114, 121, 101]), (ByteArray.mk #[118, 101, 116, 99, 104]), (ByteArray.mk #[119, 104, 101, 97, 116])] : List ByteArray).take a.2.toNat) b.toNat), i.2, (gl ([(0 : Int), (0 : Int), (0 : Int), (2 : Int), (20 : Int), (8 : Int), (1 : Int), (31 : Int)] : List Int) e.2.toNat)⟩ : Crop)] : List Crop)), .s, .s] (fun K => K 3 ∧ (ALe (.v (.c (.d (.lst 8 (litF 1 [.int .i64 (0 : Int), .int .i64 (0 : Int), .int .i64 (0 : Int), .int .i64 (2 : Int), .int .i64 (20 : Int), .int .i64 (8 : Int), .int .i64 (1 : Int), .int .i64 (31 : Int)]))))) (AL (α := Int) ([(0 : Int), (0 : Int), (0 : Int), (2 : Int), (20 : Int), (8 : Int), (1 : Int), (31 : Int)] : List Int))) ∧ K 6 ∧ _ ∧ (ALe (.v (.c (.d (.lst 1 (litF 3 [.str (gl (([(ByteArray.mk #[98, 97, 114, 108, 101, 121]), (ByteArray.mk #[99, 108, 111, 118, 101, 114]), (ByteArray.mk #[103, 114, 97, 115, 115]), (ByteArray.mk #[109, 97, 105, 122, 101]), (ByteArray.mk #[111, 97, 116, 115]), (ByteArray.mk #[114, 121, 101]), (ByteArray.mk #[118, 101, 116, 99, 104]), (ByteArray.mk #[119, 104, 101, 97, 116])] : List ByteArray).take a.2.toNat) b.toNat), .int .i64 i.2, .int .i64 (gl ([(0 : Int), (0 : Int), (0 : Int), (2 : Int), (20 : Int), (8 : Int), (1 : Int), (31 : Int)] : List Int) e.2.toNat)]))))) (AL (α := Crop) ([(⟨(gl (([(ByteArray.mk #[98, 97, 114, 108, 101, 121]), (ByteArray.mk #[99, 108, 111, 118, 101, 114]), (ByteArray.mk #[103, 114, 97, 115, 115]), (ByteArray.mk #[109, 97, 105, 122, 101]), (ByteArray.mk #[111, 97, 116, 115]), (ByteArray.mk #[114, 121, 101]), (ByteArray.mk #[118, 101, 116, 99, 104]), (ByteArray.mk #[119, 104, 101, 97, 116])] : List ByteArray).take a.2.toNat) b.toNat), i.2, (gl ([(0 : Int), (0 : Int), (0 : Int), (2 : Int), (20 : Int), (8 : Int), (1 : Int), (31 : Int)] : List Int) e.2.toNat)⟩ : Crop)] : List Crop))) ∧ (_ ∧ _ ∧ True) ∧ True) [(0, pt 0), (4, ow 28), (11, AL (α := ByteArray) (([(ByteArray.mk #[98, 97, 114, 108, 101, 121]), (ByteArray.mk #[99, 108, 111, 118, 101, 114]), (ByteArray.mk #[103, 114, 97, 115, 115]), (ByteArray.mk #[109, 97, 105, 122, 101]), (ByteArray.mk #[111, 97, 116, 115]), (ByteArray.mk #[114, 121, 101]), (ByteArray.mk #[118, 101, 116, 99, 104]), (ByteArray.mk #[119, 104, 101, 97, 116])] : List ByteArray).take a.2.toNat)), (12, vi ((List.length (([(ByteArray.mk #[98, 97, 114, 108, 101, 121]), (ByteArray.mk #[99, 108, 111, 118, 101, 114]), (ByteArray.mk #[103, 114, 97, 115, 115]), (ByteArray.mk #[109, 97, 105, 122, 101]), (ByteArray.mk #[111, 97, 116, 115]), (ByteArray.mk #[114, 121, 101]), (ByteArray.mk #[118, 101, 116, 99, 104]), (ByteArray.mk #[119, 104, 101, 97, 116])] : List ByteArray).take a.2.toNat) : Nat) : Int)), (13, vi b)] [(0, bx (gC e.1)), (28, AO (α := Crop) (l ++ ([(⟨(gl (([(ByteArray.mk #[98, 97, 114, 108, 101, 121]), (ByteArray.mk #[99, 108, 111, 118, 101, 114]), (ByteArray.mk #[103, 114, 97, 115, 115]), (ByteArray.mk #[109, 97, 105, 122, 101]), (ByteArray.mk #[111, 97, 116, 115]), (ByteArray.mk #[114, 121, 101]), (ByteArray.mk #[118, 101, 116, 99, 104]), (ByteArray.mk #[119, 104, 101, 97, 116])] : List ByteArray).take a.2.toNat) b.toNat), i.2, (gl ([(0 : Int), (0 : Int), (0 : Int), (2 : Int), (20 : Int), (8 : Int), (1 : Int), (31 : Int)] : List Int) e.2.toNat)⟩ : Crop)] : List Crop)))] ⟨KAt.CC (keep_Tape_Next_spec O) Tryz.call16 [(0, 0)], ALe.lst (.lit ([(0 : Int), (0 : Int), (0 : Int), (2 : Int), (20 : Int), (8 : Int), (1 : Int), (31 : Int)] : List Int) (by kernel_rfl)), KAt.CC (keep_Tape_Next_spec P) Tryz.call16 [(0, 0)], I, ALe.lst (.lit ([(⟨(gl (([(ByteArray.mk #[98, 97, 114, 108, 101, 121]), (ByteArray.mk #[99, 108, 111, 118, 101, 114]), (ByteArray.mk #[103, 114, 97, 115, 115]), (ByteArray.mk #[109, 97, 105, 122, 101]), (ByteArray.mk #[111, 97, 116, 115]), (ByteArray.mk #[114, 121, 101]), (ByteArray.mk #[118, 101, 116, 99, 104]), (ByteArray.mk #[119, 104, 101, 97, 116])] : List ByteArray).take a.2.toNat) b.toNat), i.2, (gl ([(0 : Int), (0 : Int), (0 : Int), (2 : Int), (20 : Int), (8 : Int), (1 : Int), (31 : Int)] : List Int) e.2.toNat)⟩ : Crop)] : List Crop) (by kernel_rfl)), ⟨L, (Is.refl ([(⟨(gl (([(ByteArray.mk #[98, 97, 114, 108, 101, 121]), (ByteArray.mk #[99, 108, 111, 118, 101, 114]), (ByteArray.mk #[103, 114, 97, 115, 115]), (ByteArray.mk #[109, 97, 105, 122, 101]), (ByteArray.mk #[111, 97, 116, 115]), (ByteArray.mk #[114, 121, 101]), (ByteArray.mk #[118, 101, 116, 99, 104]), (ByteArray.mk #[119, 104, 101, 97, 116])] : List ByteArray).take a.2.toNat) b.toNat), i.2, (gl ([(0 : Int), (0 : Int), (0 : Int), (2 : Int), (20 : Int), (8 : Int), (1 : Int), (31 : Int)] : List Int) e.2.toNat)⟩ : Crop)] : List Crop) : Is (List.length (α := Crop) ([(⟨(gl (([(ByteArray.mk #[98, 97, 114, 108, 101, 121]), (ByteArray.mk #[99, 108, 111, 118, 101, 114]), (ByteArray.mk #[103, 114, 97, 115, 115]), (ByteArray.mk #[109, 97, 105, 122, 101]), (ByteArray.mk #[111, 97, 116, 115]), (ByteArray.mk #[114, 121, 101]), (ByteArray.mk #[118, 101, 116, 99, 104]), (ByteArray.mk #[119, 104, 101, 97, 116])] : List ByteArray).take a.2.toNat) b.toNat), i.2, (gl ([(0 : Int), (0 : Int), (0 : Int), (2 : Int), (20 : Int), (8 : Int), (1 : Int), (31 : Int)] : List Int) e.2.toNat)⟩ : Crop)] : List Crop)) (LF (α := Crop) ([(⟨(gl (([(ByteArray.mk #[98, 97, 114, 108, 101, 121]), (ByteArray.mk #[99, 108, 111, 118, 101, 114]), (ByteArray.mk #[103, 114, 97, 115, 115]), (ByteArray.mk #[109, 97, 105, 122, 101]), (ByteArray.mk #[111, 97, 116, 115]), (ByteArray.mk #[114, 121, 101]), (ByteArray.mk #[118, 101, 116, 99, 104]), (ByteArray.mk #[119, 104, 101, 97, 116])] : List ByteArray).take a.2.toNat) b.toNat), i.2, (gl ([(0 : Int), (0 : Int), (0 : Int), (2 : Int), (20 : Int), (8 : Int), (1 : Int), (31 : Int)] : List Int) e.2.toNat)⟩ : Crop)] : List Crop)) ([(⟨(gl (([(ByteArray.mk #[98, 97, 114, 108, 101, 121]), (ByteArray.mk #[99, 108, 111, 118, 101, 114]), (ByteArray.mk #[103, 114, 97, 115, 115]), (ByteArray.mk #[109, 97, 105, 122, 101]), (ByteArray.mk #[111, 97, 116, 115]), (ByteArray.mk #[114, 121, 101]), (ByteArray.mk #[118, 101, 116, 99, 104]), (ByteArray.mk #[119, 104, 101, 97, 116])] : List ByteArray).take a.2.toNat) b.toNat), i.2, (gl ([(0 : Int), (0 : Int), (0 : Int), (2 : Int), (20 : Int), (8 : Int), (1 : Int), (31 : Int)] : List Int) e.2.toNat)⟩ : Crop)] : List Crop)).len, ⟨⟩⟩, ⟨⟩⟩ [(28, .arr 3 ((List.length (α := Crop) l) + (List.length (α := Crop) ([(⟨(gl (([(ByteArray.mk #[98, 97, 114, 108, 101, 121]), (ByteArray.mk #[99, 108, 111, 118, 101, 114]), (ByteArray.mk #[103, 114, 97, 115, 115]), (ByteArray.mk #[109, 97, 105, 122, 101]), (ByteArray.mk #[111, 97, 116, 115]), (ByteArray.mk #[114, 121, 101]), (ByteArray.mk #[118, 101, 116, 99, 104]), (ByteArray.mk #[119, 104, 101, 97, 116])] : List ByteArray).take a.2.toNat) b.toNat), i.2, (gl ([(0 : Int), (0 : Int), (0 : Int), (2 : Int), (20 : Int), (8 : Int), (1 : Int), (31 : Int)] : List Int) e.2.toNat)⟩ : Crop)] : List Crop))) (appF (List.length (α := Crop) l) (LF (α := Crop) l) (LF (α := Crop) ([(⟨(gl (([(ByteArray.mk #[98, 97, 114, 108, 101, 121]), (ByteArray.mk #[99, 108, 111, 118, 101, 114]), (ByteArray.mk #[103, 114, 97, 115, 115]), (ByteArray.mk #[109, 97, 105, 122, 101]), (ByteArray.mk #[111, 97, 116, 115]), (ByteArray.mk #[114, 121, 101]), (ByteArray.mk #[118, 101, 116, 99, 104]), (ByteArray.mk #[119, 104, 101, 97, 116])] : List ByteArray).take a.2.toNat) b.toNat), i.2, (gl ([(0 : Int), (0 : Int), (0 : Int), (2 : Int), (20 : Int), (8 : Int), (1 : Int), (31 : Int)] : List Int) e.2.toNat)⟩ : Crop)] : List Crop))))] ⟨OLe.is (Is.app (Is.refl l) (Is.refl ([(⟨(gl (([(ByteArray.mk #[98, 97, 114, 108, 101, 121]), (ByteArray.mk #[99, 108, 111, 118, 101, 114]), (ByteArray.mk #[103, 114, 97, 115, 115]), (ByteArray.mk #[109, 97, 105, 122, 101]), (ByteArray.mk #[111, 97, 116, 115]), (ByteArray.mk #[114, 121, 101]), (ByteArray.mk #[118, 101, 116, 99, 104]), (ByteArray.mk #[119, 104, 101, 97, 116])] : List ByteArray).take a.2.toNat) b.toNat), i.2, (gl ([(0 : Int), (0 : Int), (0 : Int), (2 : Int), (20 : Int), (8 : Int), (1 : Int), (31 : Int)] : List Int) e.2.toNat)⟩ : Crop)] : List Crop))), ⟨⟩⟩ ?_
   obtain ⟨M, h⟩ := gS h
   refine AW.pN Fm [.s, .s] [(0, pt 0), (4, ow 28), (11, AL (α := ByteArray) (([(ByteArray.mk #[98, 97, 114, 108, 101, 121]), (ByteArray.mk #[99, 108, 111, 118, 101, 114]), (ByteArray.mk #[103, 114, 97, 115, 115]), (ByteArray.mk #[109, 97, 105, 122, 101]), (ByteArray.mk #[111, 97, 116, 115]), (ByteArray.mk #[114, 121, 101]), (ByteArray.mk #[118, 101, 116, 99, 104]), (ByteArray.mk #[119, 104, 101, 97, 116])] : List ByteArray).take a.2.toNat)), (12, vi ((List.length (([(ByteArray.mk #[98, 97, 114, 108, 101, 121]), (ByteArray.mk #[99, 108, 111, 118, 101, 114]), (ByteArray.mk #[103, 114, 97, 115, 115]), (ByteArray.mk #[109, 97, 105, 122, 101]), (ByteArray.mk #[111, 97, 116, 115]), (ByteArray.mk #[114, 121, 101]), (ByteArray.mk #[118, 101, 116, 99, 104]), (ByteArray.mk #[119, 104, 101, 97, 116])] : List ByteArray).take a.2.toNat) : Nat) : Int)), (13, vi (b + 1))] [(0, bx (gC e.1)), (28, AO (α := Crop) (l ++ ([(⟨(gl (([(ByteArray.mk #[98, 97, 114, 108, 101, 121]), (ByteArray.mk #[99, 108, 111, 118, 101, 114]), (ByteArray.mk #[103, 114, 97, 115, 115]), (ByteArray.mk #[109, 97, 105, 122, 101]), (ByteArray.mk #[111, 97, 116, 115]), (ByteArray.mk #[114, 121, 101]), (ByteArray.mk #[118, 101, 116, 99, 104]), (ByteArray.mk #[119, 104, 101, 97, 116])] : List ByteArray).take a.2.toNat) b.toNat), i.2, (gl ([(0 : Int), (0 : Int), (0 : Int), (2 : Int), (20 : Int), (8 : Int), (1 : Int), (31 : Int)] : List Int) e.2.toNat)⟩ : Crop)] : List Crop)))] (cT (cT M)) ?_
   exact Kn.RE Fm [(4, 28)] (A ((b + 1), e.1.l_, e.1.at_, (l ++ ([(⟨(gl (([(ByteArray.mk #[98, 97, 114, 108, 101, 121]), (ByteArray.mk #[99, 108, 111, 118, 101, 114]), (ByteArray.mk #[103, 114, 97, 115, 115]), (ByteArray.mk #[109, 97, 105, 122, 101]), (ByteArray.mk #[111, 97, 116, 115]), (ByteArray.mk #[114, 121, 101]), (ByteArray.mk #[118, 101, 116, 99, 104]), (ByteArray.mk #[119, 104, 101, 97, 116])] : List ByteArray).take a.2.toNat) b.toNat), i.2, (gl ([(0 : Int), (0 : Int), (0 : Int), (2 : Int), (20 : Int), (8 : Int), (1 : Int), (31 : Int)] : List Int) e.2.toNat)⟩ : Crop)] : List Crop))) h)
  ·exact AW.exit (Kn.R Fm (B (l, o, p) h))
theorem keep_Tape_History_spec {F : Nat} {l : Tape} {a : (List Crop)} {b : Int} {q : Int} {r : Tape × (List Record)} (h : keep_Tape_History F l a b q = some r) :
  FSpec Tryz.prog 32 [pt 0, AL a, vi b, vi q] [(0, bx (gC l))] (AL (α := Record) r.2) [(0, bx (gC r.1))] := by
 refine FI Tryz.func32 prog_mixed prog_lay fun C Fm => ?_
 unfold keep_Tape_History at h
 refine AW.SG0 Fm 1 [(0, pt 0), (1, AL a), (2, vi b), (3, vi q)] [(0, bx (gC l))] ?_
 refine AW.SW Fm [.m] (fun K => True) [(0, pt 0), (1, AL a), (2, vi b), (3, vi q), (9, ow 9)] [(0, bx (gC l)), (9, AO (α := Record) ([] : List Record))] True.intro [(9, .arr 3 (0) (fun _ => []))] ⟨OLe.is ((Is.nil (α := Record))), ⟨⟩⟩ ?_
 refine AW.join (r := r) (fun z : (List Record) × (List Int) × Int => keep_Tape_History_k1 F z.1 z.2.1 z.2.2) (fun z => [(9, AL z.1)]) (fun z => [(0, bx [.d (DL z.2.1), ci z.2.2])]) (fun z h => ?_) (fun Y B => ?_)
 ·obtain ⟨U, V, W⟩ := z
  refine AW.SG0 Fm 2 [(8, AL U)] [(0, bx [.d (DL V), ci W])] ?_
  refine AW.ret ?_
  obtain rfl := Option.some.inj h
  exact Kn.D Fm
 ·refine AW.seq ?_
  obtain ⟨H, h⟩ := gS h
  obtain ⟨e, M, h⟩ := bS h
  refine AW.G Fm [.s, .s, .s, .k (cE [(0, 0)] [] (vi e.2) [(0, bx (gC l))] [(0, bx (gC e.1))]), .s] (fun K => (_ ∧ True) ∧ K 3 ∧ True) [(0, pt 0), (1, AL a), (2, vi b), (9, ow 9), (10, vi e.2)] [(0, bx (gC e.1)), (9, AO (α := Record) ([] : List Record))] ⟨⟨H, ⟨⟩⟩, KAt.CC (keep_Tape_Next_spec M) Tryz.call16 [(0, 0)], ⟨⟩⟩ ?_
  refine AW.block (Kn.r Fm [(0, pt 0), (1, AL a), (2, vi b), (9, ow 9), (10, vi e.2)] [(9, AO (α := Record) ([] : List Record)), (0, bx (gC e.1))] (by kernel_rfl) ?_)
  refine Kn.frz [(0, pt 0), (1, AL a), (2, vi b), (9, AL (α := Record) ([] : List Record)), (10, vi e.2)] [(0, bx (gC e.1))] (by kernel_rfl) (by kernel_rfl) (by kernel_rfl) ?_
  refine Kn.r Fm [(0, pt 0), (1, AL a), (2, vi b), (9, AL ([] : List Record)), (10, vi e.2)] [(0, bx [.d (DL e.1.l_), ci e.1.at_])] (by kernel_rfl) ?_
  refine AW.loopF (E' := fun z => [(0, pt 0), (1, AL a), (2, vi b), (9, AL z.1), (10, vi z.2.1)]) (S' := fun z => [(0, bx [.d (DL z.2.2.1), ci z.2.2.2])]) (fun Z z X A h => ?_) h
  obtain ⟨y, j, o, p⟩ := z
  refine AW.seq (AW.SG0 Fm 2 [(0, pt 0), (1, AL a), (2, vi b), (9, AL y), (10, vi j), (16, vb (decide ((0 : Int) < j)))] [(0, bx [.d (DL o), ci p])] ?_)
  refine AW.cN h (fun E h => ?_) (fun E h => ?_)
  ·refine AW.skip (AW.seq (AW.block ?_))
   obtain ⟨I, h⟩ := gS h
   obtain ⟨u, N, h⟩ := bS h
   obtain ⟨w, O, h⟩ := bS h
   obtain ⟨i, P, h⟩ := bS h
   obtain ⟨n, T, h⟩ := bS h
   refine AW.G Fm [.s, .s, .s, .s, .k (cE [(0, 0)] [] (vi u.2) [(0, bx [.d (DL (α := Int) (⟨o, p⟩ : Tape).l_), ci ((⟨o, p⟩ : Tape).at_)])] [(0, bx (gC u.1))]), .s, .s, .s, .k (cE [(0, 0)] [] (vi w.2) [(0, bx (gC u.1))] [(0, bx (gC w.1))]), .s, .k (cE [(0, 0)] [] (.v (.g [.d (DL i.2.rects_)])) [(0, bx (gC w.1))] [(0, bx (gC i.1))]), .k (cE [] [] (.t [.c (.d (DL n.1)), .c (ci n.2)]) [] []), .s, .s, .s, .s] (fun K => (_ ∧ True) ∧ K 4 ∧ K 8 ∧ K 10 ∧ K 11 ∧ True) [(0, pt 0), (1, AL a), (2, vi b), (9, AL n.1), (10, vi j)] [(0, bx (gC i.1))] ⟨⟨I, ⟨⟩⟩, KAt.CC (keep_Tape_Next_spec N) Tryz.call16 [(0, 0)], KAt.CC (keep_Tape_Next_spec O) Tryz.call16 [(0, 0)], KAt.CC (keep_Tape_Region_spec P) Tryz.call17 [(0, 0)], KAt.CC (ref15_Add_spec T) Tryz.call48 [], ⟨⟩⟩ ?_
   obtain ⟨L, h⟩ := gS h
   refine AW.pN Fm [.s, .s, .s] [(0, pt 0), (1, AL a), (2, vi b), (9, AL n.1), (10, vi (j - 1))] [(0, bx (gC i.1))] (cT (cT L)) ?_
   exact Kn.R Fm (A (n.1, (j - 1), i.1.l_, i.1.at_) h)
  ·exact AW.exit (Kn.R Fm (B (y, o, p) h))
theorem history_Add_1_spec {F : Nat} {c : Bool} {a : Bool} {r : Bool} (h : history_Add_1 F c a = some r) :
  FSpec Tryz.prog 94 [vb c, vb a] [] (vb r) [] := by
 refine FI Tryz.func94 prog_mixed prog_lay fun C Fm => ?_
 unfold history_Add_1 at h
 refine AW.SG0 Fm 1 [(0, vb c), (1, vb a)] [] ?_
 refine AW.join (r := r) (fun z : Bool => history_Add_1_k0 F z) (fun z => [(4, vb z)]) (fun z => []) (fun i h => ?_) (fun e d => ?_)
 ·refine AW.ret ?_
  obtain rfl := Option.some.inj h
  exact Kn.D Fm
 ·rcases br_or h with ⟨b, h⟩ | ⟨b, h⟩
  ·refine AW.pN Fm [.s, .w (vb true), .s, .s, .s] [(4, vb true)] [] (cT (ALe.bool b)) ?_
   exact Kn.R Fm (d true h)
  ·refine AW.pN Fm [.s, .w (vb false), .s, .s, .s] [(4, vb a)] [] (cT (ALe.bool b)) ?_
   exact Kn.R Fm (d a h)
theorem history_Add_2_spec {F : Nat} {c : Bool} {a : Bool} {r : Bool} (h : history_Add_2 F c a = some r) :
  FSpec Tryz.prog 95 [vb c, vb a] [] (vb r) [] := by
 refine FI Tryz.func95 prog_mixed prog_lay fun C Fm => ?_
 unfold history_Add_2 at h
 refine AW.SG0 Fm 1 [(0, vb c), (1, vb a)] [] ?_
 refine AW.join (r := r) (fun z : Bool => history_Add_2_k0 F z) (fun z => [(4, vb z)]) (fun z => []) (fun i h => ?_) (fun e d => ?_)
 ·refine AW.ret ?_
  obtain rfl := Option.some.inj h
  exact Kn.D Fm
 ·rcases br_or h with ⟨b, h⟩ | ⟨b, h⟩
  ·refine AW.pN Fm [.s, .w (vb true), .s, .s, .s, .s] [(4, vb (!a))] [] (cT (ALe.bool b)) ?_
   exact Kn.R Fm (d (!a) h)
  ·refine AW.pN Fm [.s, .w (vb false), .s, .s, .s, .s] [(4, vb false)] [] (cT (ALe.bool b)) ?_
   exact Kn.R Fm (d false h)
theorem slices_Clone_Rect_spec {F : Nat} {a : (List Rect)} {r : (List Rect)} (h : slices_Clone_Rect F a = some r) :
  FSpec Tryz.prog 181 [AL a] [] (AL (α := Rect) r) [] := by
 refine FI Tryz.func181 prog_mixed prog_lay fun C Fm => ?_
 unfold slices_Clone_Rect at h
 refine AW.SG0 Fm 1 [(0, AL a)] [] ?_
 refine AW.seq (AW.SG Fm [.s, .k (sE (nb (List.length a)))] (fun K => K 1 ∧ True) [(0, AL a), (4, .v (.c (.sem (nbP (List.length a)))))] [] ⟨KAt.nil (t := 31) (el := 108) (n := List.length a) (by kernel_rfl) rfl rfl (by kernel_rfl) (by kernel_rfl) (by kernel_rfl), ⟨⟩⟩ ?_)
 refine AW.condNil (n := List.length a) (by kernel_rfl) (fun d => ?_) ?_
 ·have h := brN_t h d
  refine AW.SG0 Fm 1 [(2, .v (.c (.fl 0 fun _ => [])))] [] ?_
  refine AW.ret ?_
  obtain rfl := Option.some.inj h
  refine Kn.r Fm [(2, .v (.c (.fl 0 fun _ => [])))] [] (by kernel_rfl) ?_
  refine Kn.wk [(2, AL (α := Rect) [])] [] ⟨rfl, ALe.c (CLe.fl .nil), ⟨⟩⟩ True.intro ?_
  exact Kn.D Fm
 ·have h := brN_f h
  refine AW.skip ?_
  obtain ⟨b, h⟩ := gS h
  refine AW.SV Fm [.m, .s, .s, .s] [(2, ow 7)] [(7, AO (α := Rect) (([] : List Rect) ++ a))] (cT (cA b (cT (Is.refl a : Is (List.length (α := Rect) a) (LF (α := Rect) a) a).len))) [(7, .arr 4 ((0) + (List.length (α := Rect) a)) (appF (0) (litF 4 []) (LF (α := Rect) a)))] ⟨OLe.is (Is.app (Is.lit ([] : List Rect) (by kernel_rfl)) (Is.refl a)), ⟨⟩⟩ ?_
  refine AW.ret ?_
  obtain rfl := Option.some.inj h
  refine Kn.r Fm [(2, ow 7)] [(7, AO (α := Rect) (([] : List Rect) ++ a))] (by kernel_rfl) ?_
  refine Kn.frz [(2, AL (α := Rect) (([] : List Rect) ++ a))] [] (by kernel_rfl) (by kernel_rfl) (by kernel_rfl) ?_
  exact Kn.D Fm
theorem history_copied_spec {F : Nat} {a : Record} {b : (List Rect)} {r : Record} (h : history_copied F a b = some r) :
  FSpec Tryz.prog 96 [gE a, AL b] [] (gE r) [] := by
 refine FI Tryz.func96 prog_mixed prog_lay fun C Fm => ?_
 unfold history_copied at h
 refine AW.SG0 Fm 2 [(1, AL b), (2, pt 2), (4, pt 4)] [(2, bx (gC a)), (4, bx [ci 0, ci 0, .fl 0 fun _ => []])] ?_
 refine AW.seq ?_
 obtain ⟨c, e, h⟩ := bS h
 refine AW.G Fm [.s, .k (cE [] [] (AL c) [] []), .s, .s, .s] (fun K => K 1 ∧ True) [(2, pt 2), (4, pt 4)] [(2, bx [ci a.year_, ci a.crop_, .d (DL c)]), (4, bx [ci 0, ci 0, .fl 0 fun _ => []])] ⟨KAt.CC (slices_Clone_Rect_spec e) Tryz.call181 [], ⟨⟩⟩ ?_
 refine AW.SG0 Fm 2 [(4, pt 4)] [(4, bx [ci a.year_, ci a.crop_, .d (DL c)])] ?_
 refine AW.ret ?_
 obtain rfl := Option.some.inj h
 exact Kn.D Fm
theorem slices_DeleteFunc_Record_spec {F : Nat} {t : (List Record)} {p : Record → Option Bool} {r : (List Record)} (h : slices_DeleteFunc_Record F t p = some r) :
  FSpec Tryz.prog 97 [ow 0, .v (.c (.sem (CloOK Tryz.prog (FR_Record_Bool p))))] [(0, AO t)] (ow 100) [(100, AO (α := Record) r)] := by
 refine FI Tryz.func97 prog_mixed prog_lay fun C Fm => ?_
 unfold slices_DeleteFunc_Record at h
 refine AW.SG Fm [.m] (fun K => True) [(0, ow 0), (1, .v (.c (.sem (CloOK Tryz.prog (FR_Record_Bool p)))))] [(0, AO t)] True.intro ?_
 refine AW.seq ?_
 obtain ⟨w, Z, h⟩ := bS h
 refine AW.G Fm [.s, .s, .k (sE (vi w)), .s] (fun K => K 2 ∧ True) [(0, ow 0), (1, .v (.c (.sem (CloOK Tryz.prog (FR_Record_Bool p))))), (5, vi w)] [(0, AO t)] ⟨KAt.callBX (slices_IndexFunc_Record_spec Z) Tryz.call182 [0] [.tmp 8, .tmp 9] rfl (by kernel_rfl) (by kernel_rfl) ⟨ArgB.own 0 (es := 3) (n := List.length t) (f := LF t) (by kernel_rfl) (by kernel_rfl) (by kernel_rfl) (by kernel_rfl), ArgB.sem (by kernel_rfl) (by kernel_rfl), ⟨⟩⟩, ⟨⟩⟩ ?_
 refine AW.seq (AW.SG0 Fm 2 [(0, ow 0), (1, .v (.c (.sem (CloOK Tryz.prog (FR_Record_Bool p))))), (5, vi w), (12, vb (w == (-1 : Int)))] [(0, AO t)] ?_)
 refine AW.cN h (fun P h => ?_) (fun P h => ?_)
 ·refine AW.SG0 Fm 2 [(4, ow 0)] [(0, AO t)] ?_
  refine AW.ret ?_
  obtain rfl := Option.some.inj h
  exact Kn.re Fm [(100, 0)] [(4, ow 100)] [(100, AO t)] (by kernel_rfl) (by kernel_rfl) (by kernel_rfl) (by kernel_rfl) (Kn.dn Fm (by kernel_rfl))
 ·refine AW.skip (AW.join (r := r) (fun z : Int × (List Record) => slices_DeleteFunc_Record_k2 F z.1 z.2) (fun z => [(0, ow 0), (5, vi z.1)]) (fun z => [(0, AO z.2)]) (fun z h => ?_) (fun d0 O => ?_))
  ·obtain ⟨b, o⟩ := z
   obtain ⟨Y, h⟩ := gS h
   refine AW.SW Fm [.s, .s, .k (rE { v := .v (.c (.sub 0 3 (0 + (b).toNat) ((List.length (α := Record) o) - (b).toNat))) }), .k (rE { v := .any, upd := some (0, .arr 3 (List.length (α := Record) o) (fun i => if (0 + (b).toNat) ≤ i ∧ i < (0 + (b).toNat) + ((List.length (α := Record) o) - (b).toNat) then (fun _ => [.int .i64 0, .int .i64 0, DL (α := Rect) []]) (i - (0 + (b).toNat)) else (LF (α := Record) o) i)) })] (fun K => K 2 ∧ K 3 ∧ True) [(0, ow 0), (5, vi b)] [(0, AO (α := Record) (clr o (0 + (b).toNat) ((List.length (α := Record) o) - (b).toNat)))] ⟨KAt.vslice (l := (some b)) (u := none) (id := 0) (lo0 := 0) (n := (List.length (α := Record) o)) (N := List.length (α := Record) o) (f := LF (α := Record) o) prog_lay slT27 rfl rfl (by kernel_rfl) (by kernel_rfl) (by kernel_rfl) (by kernel_rfl) (by kernel_rfl) Y (by kernel_rfl), KAt.vclear (id := 0) (lo0 := (0 + (b).toNat)) (n := ((List.length (α := Record) o) - (b).toNat)) (N := List.length (α := Record) o) (f := (LF (α := Record) o)) prog_lay slT27 [.int .i64 0, .int .i64 0, .lst 0 fun _ => []] [.int .i64 0, .int .i64 0, DL (α := Rect) []] ⟨DLe.refl _, DLe.refl _, DLe.nil _ _, ⟨⟩⟩ rfl rfl (by kernel_rfl) (Nat.succ_pos _) (by kernel_rfl) (by kernel_rfl) (by kernel_rfl) (by kernel_rfl) rfl, ⟨⟩⟩ [(0, .arr 3 (List.length (α := Record) o) (fun i => if (0 + (b).toNat) ≤ i ∧ i < (0 + (b).toNat) + ((List.length (α := Record) o) - (b).toNat) then (fun _ => [.int .i64 0, .int .i64 0, DL (α := Rect) []]) (i - (0 + (b).toNat)) else (LF (α := Record) o) i))] ⟨OLe.is (Is.clr (l := o) (0 + (b).toNat) ((List.length (α := Record) o) - (b).toNat) (zd := [.int .i64 0, .int .i64 0, DL (α := Rect) []]) (by kernel_rfl)), ⟨⟩⟩ ?_
   obtain ⟨E, h⟩ := gS h
   refine AW.SV Fm [.s, .s, .m, .s] [(4, ow 41)] [(41, AO (α := Record) ((clr o (0 + (b).toNat) ((List.length (α := Record) o) - (b).toNat)).take (b).toNat))] (cT E) [(41, .arr 3 ((b).toNat) (LF (α := Record) (clr o (0 + (b).toNat) ((List.length (α := Record) o) - (b).toNat))))] ⟨OLe.is (Is.take (Is.refl (clr o (0 + (b).toNat) ((List.length (α := Record) o) - (b).toNat))) E.2), ⟨⟩⟩ ?_
   refine AW.ret ?_
   obtain rfl := Option.some.inj h
   exact Kn.re Fm [(100, 41)] [(4, ow 100)] [(100, AO (α := Record) ((clr o (0 + (b).toNat) ((List.length (α := Record) o) - (b).toNat)).take (b).toNat))] (by kernel_rfl) (by kernel_rfl) (by kernel_rfl) (by kernel_rfl) (Kn.dn Fm (by kernel_rfl))
  ·obtain ⟨V, h⟩ := gS h
   refine AW.SP Fm [.s, .s, .s] [(0, ow 0), (1, .v (.c (.sem (CloOK Tryz.prog (FR_Record_Bool p))))), (5, vi w), (6, vi (w + 1))] [(0, AO t)] (cT (cT V)) ?_
   refine AW.block (AW.loopF (E' := fun z => [(0, ow 0), (1, .v (.c (.sem (CloOK Tryz.prog (FR_Record_Bool p))))), (5, vi z.1), (6, vi z.2.1)]) (S' := fun z => [(0, AO z.2.2)]) (fun L z b0 M h => ?_) h)
   obtain ⟨q, e, a⟩ := z
   refine AW.seq (AW.SG0 Fm 4 [(0, ow 0), (1, .v (.c (.sem (CloOK Tryz.prog (FR_Record_Bool p))))), (5, vi q), (6, vi e), (19, vb (decide (e < (lI a))))] [(0, AO a)] ?_)
   refine AW.cN h (fun T h => ?_) (fun T h => ?_)
   ·refine AW.skip (AW.join (r := r) (fun z : Int × (List Record) => slices_DeleteFunc_Record_k1 F e L z.1 z.2) (fun z => [(0, ow 0), (1, .v (.c (.sem (CloOK Tryz.prog (FR_Record_Bool p))))), (5, vi z.1), (6, vi e)]) (fun z => [(0, AO z.2)]) (fun z h => ?_) (fun c0 B => ?_))
    ·obtain ⟨H, I⟩ := z
     obtain ⟨X, h⟩ := gS h
     refine AW.pN Fm [.s, .s, .s] [(0, ow 0), (1, .v (.c (.sem (CloOK Tryz.prog (FR_Record_Bool p))))), (5, vi H), (6, vi (e + 1))] [(0, AO I)] (cT (cT X)) ?_
     exact Kn.R Fm (M (H, (e + 1), I) h)
    ·refine AW.block ?_
     obtain ⟨D, h⟩ := gS h
     refine AW.SP Fm [.s, .s, .s, .s, .s, .s] [(0, ow 0), (1, .v (.c (.sem (CloOK Tryz.prog (FR_Record_Bool p))))), (5, vi q), (6, vi e), (7, pt 7)] [(0, AO a), (7, bx [ci ((gl a e.toNat).year_), ci ((gl a e.toNat).crop_), .d (DL (α := Rect) (gl a e.toNat).region_.rects_)])] (cA D (cT (toNat_lt D))) ?_
     refine AW.seq ?_
     obtain ⟨A, a0, h⟩ := bS h
     refine AW.G Fm [.s, .s, .k (sE (vb A)), .s] (fun K => K 2 ∧ True) [(0, ow 0), (1, .v (.c (.sem (CloOK Tryz.prog (FR_Record_Bool p))))), (5, vi q), (6, vi e), (7, pt 7), (29, vb (!A))] [(0, AO a), (7, bx [ci ((gl a e.toNat).year_), ci ((gl a e.toNat).crop_), .d (DL (α := Rect) (gl a e.toNat).region_.rects_)])] ⟨KAt.sem (F := (FR_Record_Bool p)) (args := [.v (.g [ci ((gl a e.toNat).year_), ci ((gl a e.toNat).crop_), .d (DL (α := Rect) (gl a e.toNat).region_.rects_)])]) ⟨(gl a e.toNat), A, a0, rfl, rfl⟩ rfl (by kernel_rfl) (by kernel_rfl) (by kernel_rfl), ⟨⟩⟩ ?_
     refine AW.cN h (fun U h => ?_) (fun U h => ?_)
     ·obtain ⟨y, h⟩ := gS h
      refine AW.SV Fm [.s, .s, .s, .s, .s] [(0, ow 0), (1, .v (.c (.sem (CloOK Tryz.prog (FR_Record_Bool p))))), (5, vi q), (6, vi e)] [(0, AO (α := Record) (List.set a q.toNat (gl a e.toNat)))] (cA y (cT (toNat_lt y))) [(0, .arr 3 (List.length (α := Record) a) (fun j => if j = q.toNat then splice ((LF (α := Record) a) q.toNat) 0 [.int .i64 (gl a e.toNat).year_, .int .i64 (gl a e.toNat).crop_, DL (α := Rect) (gl a e.toNat).region_.rects_] else (LF (α := Record) a) j))] ⟨OLe.is (Is.set (Is.refl a) (toNat_lt y) (gl a e.toNat) (by kernel_rfl)), ⟨⟩⟩ ?_
      obtain ⟨W, h⟩ := gS h
      refine AW.pN Fm [.s, .s, .s] [(0, ow 0), (1, .v (.c (.sem (CloOK Tryz.prog (FR_Record_Bool p))))), (5, vi (q + 1)), (6, vi e)] [(0, AO (α := Record) (List.set a q.toNat (gl a e.toNat)))] (cT (cT W)) ?_
      exact Kn.R Fm (B ((q + 1), (List.set a q.toNat (gl a e.toNat))) h)
     ·exact AW.skip (Kn.R Fm (B (q, a) h))
   ·exact AW.exit (Kn.R Fm (O (q, a) h))
theorem history_Add_3_spec {F : Nat} {a : Record} {r : Bool} (h : history_Add_3 F a = some r) :
  FSpec Tryz.prog 98 [gE a] [] (vb r) [] := by
 refine FI Tryz.func98 prog_mixed prog_lay fun C Fm => ?_
 unfold history_Add_3 at h
 refine AW.SG0 Fm 2 [(1, pt 1)] [(1, bx (gC a))] ?_
 refine AW.SG0 Fm 6 [(2, vb ((lI a.region_.rects_) == (0 : Int)))] [] ?_
 refine AW.ret ?_
 obtain rfl := Option.some.inj h
 exact Kn.D Fm
theorem history_Add_4_spec {F : Nat} {a : Record} {r : Bool} (h : history_Add_4 F a = some r) :
  FSpec Tryz.prog 100 [gE a] [] (vb r) [] := by
 refine FI Tryz.func100 prog_mixed prog_lay fun C Fm => ?_
 unfold history_Add_4 at h
 refine AW.SG0 Fm 2 [(1, pt 1)] [(1, bx (gC a))] ?_
 refine AW.SG0 Fm 6 [(2, vb (decide ((120 : Int) < (lI a.region_.rects_))))] [] ?_
 refine AW.ret ?_
 obtain rfl := Option.some.inj h
 exact Kn.D Fm
theorem slices_IndexFunc_Record_O_spec {F : Nat} {a : (List Record)} {e : Record → Option Bool} {r : (List Record) × Int} (h : slices_IndexFunc_Record_O F a e = some r) :
  FSpec Tryz.prog 182 [ow 0, .v (.c (.sem (CloOK Tryz.prog (FR_Record_Bool e))))] [(0, AO a)] (vi r.2) [(0, AO (α := Record) r.1)] := by
 refine FI Tryz.func182 prog_mixed prog_lay fun C Fm => ?_
 unfold slices_IndexFunc_Record_O at h
 refine AW.SG0 Fm 1 [(0, ow 0), (1, .v (.c (.sem (CloOK Tryz.prog (FR_Record_Bool e)))))] [(0, AO a)] ?_
 refine AW.join (r := r) (fun z : Unit => slices_IndexFunc_Record_O_k1 F a) (fun z => []) (fun z => [(0, AO a)]) (fun z h => ?_) (fun u m => ?_)
 ·refine AW.SG0 Fm 1 [(4, vi (-1 : Int))] [(0, AO a)] ?_
  refine AW.ret ?_
  obtain rfl := Option.some.inj h
  exact Kn.D Fm
 ·refine AW.SG0 Fm 3 [(0, ow 0), (1, .v (.c (.sem (CloOK Tryz.prog (FR_Record_Bool e))))), (7, vi (lI a)), (8, vi 0)] [(0, AO a)] ?_
  refine AW.block (AW.loopF (E' := fun z => [(0, ow 0), (1, .v (.c (.sem (CloOK Tryz.prog (FR_Record_Bool e))))), (7, vi (lI a)), (8, vi z)]) (S' := fun z => [(0, AO a)]) (fun w b t l h => ?_) h)
  refine AW.SG0 Fm 1 [(0, ow 0), (1, .v (.c (.sem (CloOK Tryz.prog (FR_Record_Bool e))))), (7, vi (lI a)), (8, vi b), (9, vb (decide (b < (lI a))))] [(0, AO a)] ?_
  refine AW.seq (AW.cN h (fun n h => ?_) (fun n h => ?_))
  ·refine AW.skip (AW.seq (AW.block (AW.SG0 Fm 2 [(0, ow 0), (1, .v (.c (.sem (CloOK Tryz.prog (FR_Record_Bool e))))), (5, vi b), (7, vi (lI a)), (8, vi b)] [(0, AO a)] ?_)))
   refine AW.seq ?_
   obtain ⟨j, h⟩ := gS h
   obtain ⟨i, q, h⟩ := bS h
   refine AW.G Fm [.s, .s, .s, .s, .s, .k (sE (vb i))] (fun K => _ ∧ _ ∧ K 5 ∧ True) [(0, ow 0), (1, .v (.c (.sem (CloOK Tryz.prog (FR_Record_Bool e))))), (5, vi b), (7, vi (lI a)), (8, vi b), (16, vb i)] [(0, AO a)] ⟨j, (toNat_lt j), KAt.sem (F := (FR_Record_Bool e)) (args := [.v (.g [ci ((gl a b.toNat).year_), ci ((gl a b.toNat).crop_), .d (DL (α := Rect) (gl a b.toNat).region_.rects_)])]) ⟨(gl a b.toNat), i, q, rfl, rfl⟩ rfl (by kernel_rfl) (by kernel_rfl) (by kernel_rfl), ⟨⟩⟩ ?_
   refine AW.cN h (fun o h => ?_) (fun o h => ?_)
   ·refine AW.SG0 Fm 2 [(4, vi b)] [(0, AO a)] ?_
    refine AW.ret ?_
    obtain rfl := Option.some.inj h
    exact Kn.D Fm
   ·refine AW.skip ?_
    obtain ⟨p, h⟩ := gS h
    refine AW.pN Fm [.s, .s] [(0, ow 0), (1, .v (.c (.sem (CloOK Tryz.prog (FR_Record_Bool e))))), (7, vi (lI a)), (8, vi (b + 1))] [(0, AO a)] (cT (cT p)) ?_
    exact Kn.R Fm (l (b + 1) h)
  ·exact AW.exit (Kn.R Fm (m () h))
theorem slices_ContainsFunc_Record_O_spec {F : Nat} {a : (List Record)} {d : Record → Option Bool} {r : (List Record) × Bool} (h : slices_ContainsFunc_Record_O F a d = some r) :
  FSpec Tryz.prog 99 [ow 0, .v (.c (.sem (CloOK Tryz.prog (FR_Record_Bool d))))] [(0, AO a)] (vb r.2) [(0, AO (α := Record) r.1)] := by
 refine FI Tryz.func99 prog_mixed prog_lay fun C Fm => ?_
 unfold slices_ContainsFunc_Record_O at h
 refine AW.SG0 Fm 1 [(0, ow 0), (1, .v (.c (.sem (CloOK Tryz.prog (FR_Record_Bool d)))))] [(0, AO a)] ?_
 refine AW.seq ?_
 obtain ⟨b, e, h⟩ := bS h
 refine AW.G Fm [.s, .s, .k (cE [(0, 0)] [] (vi b.2) [(0, AO a)] [(0, AO b.1)]), .s, .s] (fun K => K 2 ∧ True) [(4, vb (decide ((0 : Int) ≤ b.2)))] [(0, AO b.1)] ⟨KAt.callX (slices_IndexFunc_Record_O_spec e) Tryz.call182 [(0, 0)] [] [.tmp 5, .tmp 6] rfl (by kernel_rfl) (by kernel_rfl) (by kernel_rfl) ⟨.p, ArgT.semX (by kernel_rfl) (by kernel_rfl) (by kernel_rfl), ⟨⟩⟩, ⟨⟩⟩ ?_
 refine AW.ret ?_
 obtain rfl := Option.some.inj h
 exact Kn.D Fm
theorem history_Add_spec {F : Nat} {a : (List Record)} {e : Int} {b : Int} {j : Region} {r : (List Record) × Int} (h : history_Add F a e b j = some r) :
  FSpec Tryz.prog 18 [AL a, vi e, vi b, .v (.g [.d (DL j.rects_)])] [] (.t [.c (.d (DL (α := Record) r.1)), .c (ci r.2)]) [] := by
 refine FI Tryz.func18 prog_mixed prog_lay fun C Fm => ?_
 unfold history_Add at h
 refine AW.SG0 Fm 3 [(0, AL a), (1, vi e), (2, vi b), (7, pt 7)] [(7, bx [.d (DL j.rects_)])] ?_
 refine AW.seq (AW.seq ?_)
 obtain ⟨u, w0, h⟩ := bS h
 refine AW.G Fm [.s, .k (cE [] [] (vi u) [] []), .s] (fun K => K 1 ∧ True) [(0, AL a), (1, vi e), (2, vi b), (7, pt 7), (10, vi u)] [(7, bx [.d (DL j.rects_)])] ⟨KAt.CC (history_Check_spec w0) Tryz.call19 [], ⟨⟩⟩ ?_
 refine AW.SG0 Fm 2 [(0, AL a), (1, vi e), (2, vi b), (7, pt 7), (10, vi u), (19, vb (u != (0 : Int)))] [(7, bx [.d (DL j.rects_)])] ?_
 refine AW.cN h (fun i0 h => ?_) (fun i0 h => ?_)
 ·refine AW.SG0 Fm 3 [(8, .v (.c (.fl 0 fun _ => []))), (9, vi u)] [] ?_
  refine AW.ret ?_
  obtain rfl := Option.some.inj h
  refine Kn.r Fm [(8, .v (.c (.fl 0 fun _ => []))), (9, vi u)] [] (by kernel_rfl) ?_
  refine Kn.wk [(8, AL (α := Record) []), (9, vi u)] [] ⟨rfl, ALe.c (CLe.fl .nil), ⟨rfl, ALe.c (CLe.refl _), ⟨⟩⟩⟩ True.intro ?_
  exact Kn.D Fm
 ·refine AW.skip (AW.seq (AW.block (AW.join (r := r) (fun z : Bool => history_Add_k0 F a e b j z) (fun z => [(0, AL a), (1, vi e), (2, vi b), (7, pt 7), (21, vb z)]) (fun z => [(7, bx [.d (DL j.rects_)])]) (fun W0 h => ?_) (fun M0 U => ?_))))
  ·refine AW.cN h (fun j0 h => ?_) (fun j0 h => ?_)
   ·refine AW.SG0 Fm 2 [(8, .v (.c (.fl 0 fun _ => []))), (9, vi 18)] [] ?_
    refine AW.ret ?_
    obtain rfl := Option.some.inj h
    refine Kn.r Fm [(8, .v (.c (.fl 0 fun _ => []))), (9, vi 18)] [] (by kernel_rfl) ?_
    refine Kn.wk [(8, AL (α := Record) []), (9, vi 18)] [] ⟨rfl, ALe.c (CLe.fl .nil), ⟨rfl, ALe.c (CLe.refl _), ⟨⟩⟩⟩ True.intro ?_
    exact Kn.D Fm
   ·refine AW.join (r := r) (fun z : Bool => history_Add_k1 F a e b j z) (fun z => [(0, AL a), (1, vi e), (2, vi b), (7, pt 7), (28, vb z)]) (fun z => [(7, bx [.d (DL j.rects_)])]) (fun X0 h => ?_) (fun N0 V => ?_)
    ·refine AW.cN h (fun k0 h => ?_) (fun k0 h => ?_)
     ·refine AW.SG0 Fm 2 [(8, .v (.c (.fl 0 fun _ => []))), (9, vi 13)] [] ?_
      refine AW.ret ?_
      obtain rfl := Option.some.inj h
      refine Kn.r Fm [(8, .v (.c (.fl 0 fun _ => []))), (9, vi 13)] [] (by kernel_rfl) ?_
      refine Kn.wk [(8, AL (α := Record) []), (9, vi 13)] [] ⟨rfl, ALe.c (CLe.fl .nil), ⟨rfl, ALe.c (CLe.refl _), ⟨⟩⟩⟩ True.intro ?_
      exact Kn.D Fm
     ·refine AW.seq ?_
      obtain ⟨c0, A0, h⟩ := bS h
      refine AW.G Fm [.s, .k (cE [] [] (vb c0) [] []), .s, .s] (fun K => K 1 ∧ True) [(0, AL a), (1, vi e), (2, vi b), (7, pt 7), (35, vb (!c0))] [(7, bx [.d (DL j.rects_)])] ⟨KAt.CC (region_Valid_spec A0) Tryz.call92 [], ⟨⟩⟩ ?_
      refine AW.cN h (fun l0 h => ?_) (fun l0 h => ?_)
      ·refine AW.SG0 Fm 2 [(8, .v (.c (.fl 0 fun _ => []))), (9, vi 7)] [] ?_
       refine AW.ret ?_
       obtain rfl := Option.some.inj h
       refine Kn.r Fm [(8, .v (.c (.fl 0 fun _ => []))), (9, vi 7)] [] (by kernel_rfl) ?_
       refine Kn.wk [(8, AL (α := Record) []), (9, vi 7)] [] ⟨rfl, ALe.c (CLe.fl .nil), ⟨rfl, ALe.c (CLe.refl _), ⟨⟩⟩⟩ True.intro ?_
       exact Kn.D Fm
      ·refine AW.skip (AW.SG0 Fm 6 [(0, AL a), (1, vi e), (2, vi b), (7, pt 7), (11, pt 11)] [(7, bx [.d (DL j.rects_)]), (11, bx [ci e, ci b, .d (DL j.rects_)])] ?_)
       refine AW.SW Fm [.m] (fun K => True) [(0, AL a), (1, vi e), (2, vi b), (7, pt 7), (11, pt 11), (12, ow 12)] [(7, bx [.d (DL j.rects_)]), (11, bx [ci e, ci b, .d (DL j.rects_)]), (12, AO (α := Record) ([] : List Record))] True.intro [(12, .arr 3 (0) (fun _ => []))] ⟨OLe.is ((Is.nil (α := Record))), ⟨⟩⟩ ?_
       refine AW.join (r := r) (fun z : (List Rect) × (List Record) => history_Add_k6 F e b z.1 z.2) (fun z => [(11, pt 11), (12, ow 12)]) (fun z => [(11, bx [ci e, ci b, .d (DL z.1)]), (12, AO z.2)]) (fun z h => ?_) (fun U0 e0 => ?_)
       ·obtain ⟨a1, A⟩ := z
        refine AW.seq ?_
        obtain ⟨o, G0, h⟩ := bS h
        obtain ⟨u0, h⟩ := gS h
        refine AW.GW Fm [.s, .s, .s, .s, .s, .k (cE [] [] (gE o) [] []), .w (AL (α := Record) ([o] : List Record)), .s, .s] (fun K => K 5 ∧ (ALe (.v (.c (.d (.lst 1 (litF 3 [.int .i64 o.year_, .int .i64 o.crop_, DL o.region_.rects_]))))) (AL (α := Record) ([o] : List Record))) ∧ (_ ∧ _ ∧ True) ∧ True) [(12, ow 92)] [(92, AO (α := Record) (A ++ ([o] : List Record)))] ⟨KAt.CC (history_copied_spec G0) Tryz.call96 [], ALe.lst (.lit ([o] : List Record) (by kernel_rfl)), ⟨u0, (Is.refl ([o] : List Record) : Is (List.length (α := Record) ([o] : List Record)) (LF (α := Record) ([o] : List Record)) ([o] : List Record)).len, ⟨⟩⟩, ⟨⟩⟩ [(92, .arr 3 ((List.length (α := Record) A) + (List.length (α := Record) ([o] : List Record))) (appF (List.length (α := Record) A) (LF (α := Record) A) (LF (α := Record) ([o] : List Record))))] ⟨OLe.is (Is.app (Is.refl A) (Is.refl ([o] : List Record))), ⟨⟩⟩ ?_
        refine AW.seq ?_
        obtain ⟨E, H0, h⟩ := bS h
        refine AW.G Fm [.s, .k (cE [(0, 92), (100, 94)] [] (ow 100) [(0, AO (α := Record) (A ++ ([o] : List Record)))] [(100, AO E)]), .s] (fun K => K 1 ∧ True) [(12, ow 94)] [(94, AO E)] ⟨KAt.callX (slices_DeleteFunc_Record_spec H0) Tryz.call97 [(0, 92), (100, 94)] [] [.tmp 93, .func 98] rfl (by kernel_rfl) (by kernel_rfl) (by kernel_rfl) ⟨.p, ArgT.cloX Tryz.call98 [] (fun args r hq => by obtain ⟨y0, y, hq, rfl, rfl⟩ := hq; exact Eq.mp (by kernel_rfl) (history_Add_3_spec hq)) (fun args r hq => by obtain ⟨y0, y, hq, rfl, rfl⟩ := hq; rfl) (by kernel_rfl) [] (by kernel_rfl) (by kernel_rfl) (True.intro) (by kernel_rfl), ⟨⟩⟩, ⟨⟩⟩ ?_
        refine AW.seq (AW.join (r := r) (fun z : Bool × (List Record) => history_Add_k7 F z.1 z.2) (fun z => [(12, ow 94), (101, vb z.1)]) (fun z => [(94, AO z.2)]) (fun z h => ?_) (fun V0 Z => ?_))
        ·obtain ⟨b1, L0⟩ := z
         refine AW.cN h (fun p0 h => ?_) (fun p0 h => ?_)
         ·refine AW.SG0 Fm 2 [(8, .v (.c (.fl 0 fun _ => []))), (9, vi 1)] [] ?_
          refine AW.ret ?_
          obtain rfl := Option.some.inj h
          refine Kn.r Fm [(8, .v (.c (.fl 0 fun _ => []))), (9, vi 1)] [] (by kernel_rfl) ?_
          refine Kn.wk [(8, AL (α := Record) []), (9, vi 1)] [] ⟨rfl, ALe.c (CLe.fl .nil), ⟨rfl, ALe.c (CLe.refl _), ⟨⟩⟩⟩ True.intro ?_
          exact Kn.D Fm
         ·refine AW.skip (AW.seq ?_)
          obtain ⟨H, K0, h⟩ := bS h
          refine AW.G Fm [.s, .k (cE [(0, 94)] [] (.any) [(0, AO L0)] [(0, AO H)])] (fun K => K 1 ∧ True) [(12, ow 94)] [(94, AO H)] ⟨KAt.callX (sortG_Record_spec K0) Tryz.call101 [(0, 94)] [] [.tmp 102, .func 102] rfl (by kernel_rfl) (by kernel_rfl) (by kernel_rfl) ⟨.p, ArgT.cloX Tryz.call102 [] (fun args r hq => by obtain ⟨y0, y1, y, hq, rfl, rfl⟩ := hq; exact Eq.mp (by kernel_rfl) (history_compare_spec hq)) (fun args r hq => by obtain ⟨y0, y1, y, hq, rfl, rfl⟩ := hq; rfl) (by kernel_rfl) [] (by kernel_rfl) (by kernel_rfl) (True.intro) (by kernel_rfl), ⟨⟩⟩, ⟨⟩⟩ ?_
          refine AW.SG0 Fm 3 [(8, ow 94), (9, vi 0)] [(94, AO H)] ?_
          refine AW.ret ?_
          obtain rfl := Option.some.inj h
          refine Kn.r Fm [(8, ow 94), (9, vi 0)] [(94, AO H)] (by kernel_rfl) ?_
          refine Kn.frz [(8, AL H), (9, vi 0)] [] (by kernel_rfl) (by kernel_rfl) (by kernel_rfl) ?_
          exact Kn.D Fm
        ·rcases br_or h with ⟨O, h⟩ | ⟨O, h⟩
         ·refine AW.pN Fm [.s, .s, .s, .w (vb true), .s, .s, .s] [(12, ow 94), (101, vb true)] [(94, AO E)] (cT (ALe.bool O)) ?_
          exact Kn.R Fm (Z (true, E) h)
         ·obtain ⟨B, I0, h⟩ := bS h
          refine AW.G Fm [.s, .s, .s, .w (vb false), .s, .k (cE [(0, 94)] [] (vb B.2) [(0, AO E)] [(0, AO B.1)]), .s] (fun K => _ ∧ K 5 ∧ True) [(12, ow 94), (101, vb B.2)] [(94, AO B.1)] ⟨ALe.bool O, KAt.callX (slices_ContainsFunc_Record_O_spec I0) Tryz.call99 [(0, 94)] [] [.tmp 99, .func 100] rfl (by kernel_rfl) (by kernel_rfl) (by kernel_rfl) ⟨.p, ArgT.cloX Tryz.call100 [] (fun args r hq => by obtain ⟨y0, y, hq, rfl, rfl⟩ := hq; exact Eq.mp (by kernel_rfl) (history_Add_4_spec hq)) (fun args r hq => by obtain ⟨y0, y, hq, rfl, rfl⟩ := hq; rfl) (by kernel_rfl) [] (by kernel_rfl) (by kernel_rfl) (True.intro) (by kernel_rfl), ⟨⟩⟩, ⟨⟩⟩ ?_
          exact Kn.R Fm (Z (B.2, B.1) h)
       ·refine AW.SG0 Fm 3 [(1, vi e), (2, vi b), (7, pt 7), (11, pt 11), (12, ow 12), (43, AL a), (44, vi (lI a)), (45, vi 0)] [(7, bx [.d (DL j.rects_)]), (11, bx [ci e, ci b, .d (DL j.rects_)]), (12, AO (α := Record) ([] : List Record))] ?_
        refine AW.block (Kn.r Fm [(1, vi e), (2, vi b), (7, pt 7), (11, pt 11), (12, ow 12), (43, AL a), (44, vi (lI a)), (45, vi 0)] [(7, bx [.d (DL j.rects_)]), (11, bx [ci e, ci b, .d (DL j.rects_)]), (12, AO ([] : List Record))] (by kernel_rfl) ?_)
        refine AW.loopF (E' := fun z => [(1, vi e), (2, vi b), (7, pt 7), (11, pt 11), (12, ow 12), (43, AL a), (44, vi (lI a)), (45, vi z.1)]) (S' := fun z => [(7, bx [.d (DL j.rects_)]), (11, bx [ci e, ci b, .d (DL z.2.1)]), (12, AO z.2.2)]) (fun I z O0 d0 h => ?_) h
        obtain ⟨i, q, l⟩ := z
        refine AW.SG0 Fm 1 [(1, vi e), (2, vi b), (7, pt 7), (11, pt 11), (12, ow 12), (43, AL a), (44, vi (lI a)), (45, vi i), (46, vb (decide (i < (lI a))))] [(7, bx [.d (DL j.rects_)]), (11, bx [ci e, ci b, .d (DL q)]), (12, AO l)] ?_
        refine AW.seq (AW.cN h (fun m0 h => ?_) (fun m0 h => ?_))
        ·refine AW.skip (AW.join (r := r) (fun z : (List Rect) × (List Record) => history_Add_k5 F i I z.1 z.2) (fun z => [(1, vi e), (2, vi b), (7, pt 7), (11, pt 11), (12, ow 12), (43, AL a), (44, vi (lI a)), (45, vi i)]) (fun z => [(7, bx [.d (DL j.rects_)]), (11, bx [ci e, ci b, .d (DL z.1)]), (12, AO z.2)]) (fun z h => ?_) (fun T0 Y => ?_))
         ·obtain ⟨a0, b0⟩ := z
          obtain ⟨t0, h⟩ := gS h
          refine AW.pN Fm [.s, .s] [(1, vi e), (2, vi b), (7, pt 7), (11, pt 11), (12, ow 12), (43, AL a), (44, vi (lI a)), (45, vi (i + 1))] [(7, bx [.d (DL j.rects_)]), (11, bx [ci e, ci b, .d (DL a0)]), (12, AO b0)] (cT (cT t0)) ?_
          exact Kn.R Fm (d0 ((i + 1), a0, b0) h)
         ·refine AW.block ?_
          obtain ⟨q0, h⟩ := gS h
          refine AW.SP Fm [.s, .s, .s, .s] [(1, vi e), (2, vi b), (7, pt 7), (11, pt 11), (12, ow 12), (14, pt 14), (43, AL a), (44, vi (lI a)), (45, vi i)] [(7, bx [.d (DL j.rects_)]), (11, bx [ci e, ci b, .d (DL q)]), (12, AO l), (14, bx [ci ((gl a i.toNat).year_), ci ((gl a i.toNat).crop_), .d (DL (α := Rect) (gl a i.toNat).region_.rects_)])] (cT q0) ?_
          refine AW.SG0 Fm 4 [(1, vi e), (2, vi b), (7, pt 7), (11, pt 11), (12, ow 12), (14, pt 14), (15, AL (α := Rect) (gl a i.toNat).region_.rects_), (43, AL a), (44, vi (lI a)), (45, vi i)] [(7, bx [.d (DL j.rects_)]), (11, bx [ci e, ci b, .d (DL q)]), (12, AO l), (14, bx [ci ((gl a i.toNat).year_), ci ((gl a i.toNat).crop_), .d (DL (α := Rect) (gl a i.toNat).region_.rects_)])] ?_
          refine AW.join (r := r) (fun z : (List Rect) => history_Add_k4 F a i q l I z) (fun z => [(1, vi e), (2, vi b), (7, pt 7), (11, pt 11), (12, ow 12), (14, pt 14), (15, AL z), (43, AL a), (44, vi (lI a)), (45, vi i)]) (fun z => [(7, bx [.d (DL j.rects_)]), (11, bx [ci e, ci b, .d (DL q)]), (12, AO l), (14, bx [ci ((gl a i.toNat).year_), ci ((gl a i.toNat).crop_), .d (DL (α := Rect) (gl a i.toNat).region_.rects_)])]) (fun Z0 h => ?_) (fun R0 X => ?_)
          ·obtain ⟨n, E0, h⟩ := bS h
           obtain ⟨s0, h⟩ := gS h
           refine AW.GW Fm [.s, .s, .s, .k (cE [] [] (gE n) [] []), .w (AL (α := Record) ([n] : List Record)), .s, .s] (fun K => K 3 ∧ (ALe (.v (.c (.d (.lst 1 (litF 3 [.int .i64 n.year_, .int .i64 n.crop_, DL n.region_.rects_]))))) (AL (α := Record) ([n] : List Record))) ∧ (_ ∧ _ ∧ True) ∧ True) [(1, vi e), (2, vi b), (7, pt 7), (11, pt 11), (12, ow 83), (43, AL a), (44, vi (lI a)), (45, vi i)] [(7, bx [.d (DL j.rects_)]), (11, bx [ci e, ci b, .d (DL q)]), (83, AO (α := Record) (l ++ ([n] : List Record)))] ⟨KAt.CC (history_copied_spec E0) Tryz.call96 [], ALe.lst (.lit ([n] : List Record) (by kernel_rfl)), ⟨s0, (Is.refl ([n] : List Record) : Is (List.length (α := Record) ([n] : List Record)) (LF (α := Record) ([n] : List Record)) ([n] : List Record)).len, ⟨⟩⟩, ⟨⟩⟩ [(83, .arr 3 ((List.length (α := Record) l) + (List.length (α := Record) ([n] : List Record))) (appF (List.length (α := Record) l) (LF (α := Record) l) (LF (α := Record) ([n] : List Record))))] ⟨OLe.is (Is.app (Is.refl l) (Is.refl ([n] : List Record))), ⟨⟩⟩ ?_
           exact Kn.RE Fm [(12, 83)] (Y (q, (l ++ ([n] : List Record))) h)
          ·refine AW.block (AW.join (r := r) (fun z : Bool => history_Add_k3 F a e j i q l I z) (fun z => [(1, vi e), (2, vi b), (7, pt 7), (11, pt 11), (12, ow 12), (14, pt 14), (15, AL (α := Rect) (gl a i.toNat).region_.rects_), (43, AL a), (44, vi (lI a)), (45, vi i), (52, vb z)]) (fun z => [(7, bx [.d (DL j.rects_)]), (11, bx [ci e, ci b, .d (DL q)]), (12, AO l), (14, bx [ci ((gl a i.toNat).year_), ci ((gl a i.toNat).crop_), .d (DL (α := Rect) (gl a i.toNat).region_.rects_)])]) (fun Y0 h => ?_) (fun P0 W => ?_))
           ·refine AW.cN h (fun n0 h => ?_) (fun n0 h => ?_)
            ·refine AW.seq ?_
             obtain ⟨P, B0, h⟩ := bS h
             refine AW.G Fm [.s, .s, .s, .k (cE [] [] (AL P) [] []), .s, .s, .s] (fun K => K 3 ∧ True) [(1, vi e), (2, vi b), (7, pt 7), (11, pt 11), (12, ow 12), (43, AL a), (44, vi (lI a)), (45, vi i)] [(7, bx [.d (DL j.rects_)]), (11, bx [ci e, ci b, .d (DL P)]), (12, AO l)] ⟨KAt.callX (region_Choose_spec B0) Tryz.call93 [] [] [.tmp 63, .tmp 65, .func 94] rfl (by kernel_rfl) (by kernel_rfl) (by kernel_rfl) ⟨.p, .p, ArgT.cloX Tryz.call94 [] (fun args r hq => by obtain ⟨y0, y1, y, hq, rfl, rfl⟩ := hq; exact Eq.mp (by kernel_rfl) (history_Add_1_spec hq)) (fun args r hq => by obtain ⟨y0, y1, y, hq, rfl, rfl⟩ := hq; rfl) (by kernel_rfl) [] (by kernel_rfl) (by kernel_rfl) (True.intro) (by kernel_rfl), ⟨⟩⟩, ⟨⟩⟩ ?_
             exact AW.exit (Kn.R Fm (Y (P, l) h))
            ·refine AW.SG0 Fm 5 [(1, vi e), (2, vi b), (7, pt 7), (11, pt 11), (12, ow 12), (14, pt 14), (15, AL (α := Rect) (gl a i.toNat).region_.rects_), (43, AL a), (44, vi (lI a)), (45, vi i), (69, vb (((gl a i.toNat).year_) == e))] [(7, bx [.d (DL j.rects_)]), (11, bx [ci e, ci b, .d (DL q)]), (12, AO l), (14, bx [ci ((gl a i.toNat).year_), ci ((gl a i.toNat).crop_), .d (DL (α := Rect) (gl a i.toNat).region_.rects_)])] ?_
             refine AW.cN h (fun o0 h => ?_) (fun o0 h => ?_)
             ·obtain ⟨T, D0, h⟩ := bS h
              refine AW.G Fm [.s, .s, .s, .k (cE [] [] (AL T) [] []), .s] (fun K => K 3 ∧ True) [(1, vi e), (2, vi b), (7, pt 7), (11, pt 11), (12, ow 12), (14, pt 14), (15, AL T), (43, AL a), (44, vi (lI a)), (45, vi i)] [(7, bx [.d (DL j.rects_)]), (11, bx [ci e, ci b, .d (DL q)]), (12, AO l), (14, bx [ci ((gl a i.toNat).year_), ci ((gl a i.toNat).crop_), .d (DL (α := Rect) (gl a i.toNat).region_.rects_)])] ⟨KAt.callX (region_Choose_spec D0) Tryz.call93 [] [] [.tmp 74, .tmp 76, .func 95] rfl (by kernel_rfl) (by kernel_rfl) (by kernel_rfl) ⟨.p, .p, ArgT.cloX Tryz.call95 [] (fun args r hq => by obtain ⟨y0, y1, y, hq, rfl, rfl⟩ := hq; exact Eq.mp (by kernel_rfl) (history_Add_2_spec hq)) (fun args r hq => by obtain ⟨y0, y1, y, hq, rfl, rfl⟩ := hq; rfl) (by kernel_rfl) [] (by kernel_rfl) (by kernel_rfl) (True.intro) (by kernel_rfl), ⟨⟩⟩, ⟨⟩⟩ ?_
              exact Kn.R Fm (X T h)
             ·exact AW.skip (Kn.R Fm (X ((gl a i.toNat).region_.rects_) h))
           ·rcases br_or h with ⟨N, h⟩ | ⟨N, h⟩
            ·refine AW.pN Fm [.s, .s, .s, .s, .w (vb true), .s, .s, .s, .s, .s, .s] [(1, vi e), (2, vi b), (7, pt 7), (11, pt 11), (12, ow 12), (14, pt 14), (15, AL (α := Rect) (gl a i.toNat).region_.rects_), (43, AL a), (44, vi (lI a)), (45, vi i), (52, vb (((gl a i.toNat).crop_) == b)), (58, .v (.c (.ptr 14 1))), (59, vi (gl a i.toNat).crop_), (60, vi b), (61, vb (((gl a i.toNat).crop_) == b))] [(7, bx [.d (DL j.rects_)]), (11, bx [ci e, ci b, .d (DL q)]), (12, AO l), (14, bx [ci ((gl a i.toNat).year_), ci ((gl a i.toNat).crop_), .d (DL (α := Rect) (gl a i.toNat).region_.rects_)])] (cT (ALe.bool N)) ?_
             exact Kn.R Fm (W (((gl a i.toNat).crop_) == b) h)
            ·refine AW.pN Fm [.s, .s, .s, .s, .w (vb false), .s, .s, .s, .s, .s, .s] [(1, vi e), (2, vi b), (7, pt 7), (11, pt 11), (12, ow 12), (14, pt 14), (15, AL (α := Rect) (gl a i.toNat).region_.rects_), (43, AL a), (44, vi (lI a)), (45, vi i), (52, vb false)] [(7, bx [.d (DL j.rects_)]), (11, bx [ci e, ci b, .d (DL q)]), (12, AO l), (14, bx [ci ((gl a i.toNat).year_), ci ((gl a i.toNat).crop_), .d (DL (α := Rect) (gl a i.toNat).region_.rects_)])] (cT (ALe.bool N)) ?_
             exact Kn.R Fm (W false h)
        ·exact AW.exit (Kn.R Fm (e0 (q, l) h))
    ·rcases br_or h with ⟨M, h⟩ | ⟨M, h⟩
     ·refine AW.pN Fm [.s, .s, .w (vb true), .s, .s, .s, .s] [(0, AL a), (1, vi e), (2, vi b), (7, pt 7), (28, vb true)] [(7, bx [.d (DL j.rects_)])] (cT (ALe.bool M)) ?_
      exact Kn.R Fm (V true h)
     ·refine AW.pN Fm [.s, .s, .w (vb false), .s, .s, .s, .s] [(0, AL a), (1, vi e), (2, vi b), (7, pt 7), (28, vb (decide ((40 : Int) ≤ b)))] [(7, bx [.d (DL j.rects_)])] (cT (ALe.bool M)) ?_
      exact Kn.R Fm (V (decide ((40 : Int) ≤ b)) h)
  ·rcases br_or h with ⟨L, h⟩ | ⟨L, h⟩
   ·refine AW.pN Fm [.s, .s, .w (vb true), .s, .s, .s, .s] [(0, AL a), (1, vi e), (2, vi b), (7, pt 7), (21, vb true)] [(7, bx [.d (DL j.rects_)])] (cT (ALe.bool L)) ?_
    exact Kn.R Fm (U true h)
   ·refine AW.pN Fm [.s, .s, .w (vb false), .s, .s, .s, .s] [(0, AL a), (1, vi e), (2, vi b), (7, pt 7), (21, vb (decide ((100 : Int) < e)))] [(7, bx [.d (DL j.rects_)])] (cT (ALe.bool L)) ?_
    exact Kn.R Fm (U (decide ((100 : Int) < e)) h)
theorem history_wrong_spec {F : Nat} {a : Int} {r : Bool} (h : history_wrong F a = some r) :
  FSpec Tryz.prog 119 [vi a] [] (vb r) [] := by
 refine FI Tryz.func119 prog_mixed prog_lay fun C Fm => ?_
 unfold history_wrong at h
 refine AW.SG0 Fm 1 [(0, vi a)] [] ?_
 refine AW.join (r := r) (fun z : Bool => history_wrong_k0 F z) (fun z => [(2, vb z)]) (fun z => []) (fun e h => ?_) (fun d c => ?_)
 ·refine AW.ret ?_
  obtain rfl := Option.some.inj h
  exact Kn.D Fm
 ·rcases br_or h with ⟨b, h⟩ | ⟨b, h⟩
  ·refine AW.pN Fm [.s, .s, .w (vb true), .s, .s, .s, .s] [(2, vb true)] [] (cT (ALe.bool b)) ?_
   exact Kn.R Fm (c true h)
  ·refine AW.pN Fm [.s, .s, .w (vb false), .s, .s, .s, .s] [(2, vb (decide ((100 : Int) < a)))] [] (cT (ALe.bool b)) ?_
   exact Kn.R Fm (c (decide ((100 : Int) < a)) h)
theorem ref04_Within_spec {F : Nat} {i : Region} {j : Region} {r : Bool} (h : ref04_Within F i j = some r) :
  FSpec Tryz.prog 36 [.v (.g [.d (DL i.rects_)]), .v (.g [.d (DL j.rects_)])] [] (vb r) [] := by
 refine FI Tryz.func36 prog_mixed prog_lay fun C Fm => ?_
 unfold ref04_Within at h
 refine AW.SG0 Fm 3 [(2, pt 2), (3, pt 3)] [(2, bx [.d (DL i.rects_)]), (3, bx [.d (DL j.rects_)])] ?_
 refine AW.join (r := r) (fun z : Bool => ref04_Within_k0 F z) (fun z => [(4, vb z)]) (fun z => []) (fun t h => ?_) (fun q b => ?_)
 ·refine AW.ret ?_
  obtain rfl := Option.some.inj h
  exact Kn.D Fm
 ·obtain ⟨l, e, h⟩ := bS h
  rcases br_or h with ⟨a, h⟩ | ⟨a, h⟩
  ·obtain ⟨o, n, h⟩ := bS h
   rcases br_or h with ⟨c, h⟩ | ⟨c, h⟩
   ·obtain ⟨m, p, h⟩ := bS h
    refine AW.G Fm [.s, .k (cE [] [] (vb l) [] []), .w (vb true), .s, .k (cE [] [] (vb o) [] []), .s, .w (vb true), .s, .s, .s, .s, .k (cE [] [] (AL m) [] []), .s, .s, .s, .s] (fun K => K 1 ∧ _ ∧ K 4 ∧ _ ∧ K 11 ∧ True) [(4, vb ((lI m) == (0 : Int)))] [] ⟨KAt.CC (ref04_Valid_spec e) Tryz.call107 [], ALe.bool a, KAt.CC (ref04_Valid_spec n) Tryz.call107 [], ALe.bool c, KAt.CC (ref04_Combine_spec p) Tryz.call122 [], ⟨⟩⟩ ?_
    exact Kn.R Fm (b ((lI m) == (0 : Int)) h)
   ·refine AW.G Fm [.s, .k (cE [] [] (vb l) [] []), .w (vb true), .s, .k (cE [] [] (vb o) [] []), .s, .w (vb false), .s, .s, .s, .s, .s, .s, .s, .s, .s] (fun K => K 1 ∧ _ ∧ K 4 ∧ _ ∧ True) [(4, vb false)] [] ⟨KAt.CC (ref04_Valid_spec e) Tryz.call107 [], ALe.bool a, KAt.CC (ref04_Valid_spec n) Tryz.call107 [], ALe.bool c, ⟨⟩⟩ ?_
    exact Kn.R Fm (b false h)
  ·refine AW.G Fm [.s, .k (cE [] [] (vb l) [] []), .w (vb false), .s, .s, .s, .s, .s, .s, .s, .s, .s, .s, .s, .s, .s] (fun K => K 1 ∧ _ ∧ True) [(4, vb false)] [] ⟨KAt.CC (ref04_Valid_spec e) Tryz.call107 [], ALe.bool a, ⟨⟩⟩ ?_
   exact Kn.R Fm (b false h)
theorem region_Has_1_spec {F : Nat} {d : Rect} {b : Int} {a : Int} {r : Bool} (h : region_Has_1 F d b a = some r) :
  FSpec Tryz.prog 190 [gE d, pt 0, pt 1] [(0, .box true [ci b]), (1, .box true [ci a])] (vb r) [(0, .box true [ci b]), (1, .box true [ci a])] := by
 refine FI Tryz.func190 prog_mixed prog_lay fun C Fm => ?_
 unfold region_Has_1 at h
 refine AW.SG0 Fm 2 [(1, pt 0), (2, pt 1), (3, pt 3)] [(0, .box true [ci b]), (1, .box true [ci a]), (3, bx (gC d))] ?_
 refine AW.join (r := r) (fun z : Bool => region_Has_1_k0 F z) (fun z => [(4, vb z)]) (fun z => [(0, .box true [ci b]), (1, .box true [ci a])]) (fun l h => ?_) (fun k e => ?_)
 ·refine AW.ret ?_
  obtain rfl := Option.some.inj h
  exact Kn.D Fm
 ·rcases br_or h with ⟨c, h⟩ | ⟨c, h⟩
  ·rcases br_or h with ⟨i, h⟩ | ⟨i, h⟩
   ·rcases br_or h with ⟨j, h⟩ | ⟨j, h⟩
    ·refine AW.pN Fm [.s, .s, .s, .s, .w (vb true), .s, .s, .s, .s, .s, .w (vb true), .s, .s, .s, .s, .s, .w (vb true), .s, .s, .s, .s, .s, .s] [(4, vb (decide (a < d.high_)))] [(0, .box true [ci b]), (1, .box true [ci a])] (cA (ALe.bool c) (cA (ALe.bool i) (cT (ALe.bool j)))) ?_
     exact Kn.R Fm (e (decide (a < d.high_)) h)
    ·refine AW.pN Fm [.s, .s, .s, .s, .w (vb true), .s, .s, .s, .s, .s, .w (vb true), .s, .s, .s, .s, .s, .w (vb false), .s, .s, .s, .s, .s, .s] [(4, vb false)] [(0, .box true [ci b]), (1, .box true [ci a])] (cA (ALe.bool c) (cA (ALe.bool i) (cT (ALe.bool j)))) ?_
     exact Kn.R Fm (e false h)
   ·refine AW.pN Fm [.s, .s, .s, .s, .w (vb true), .s, .s, .s, .s, .s, .w (vb false), .s, .s, .s, .s, .s, .s, .s, .s, .s, .s, .s, .s] [(4, vb false)] [(0, .box true [ci b]), (1, .box true [ci a])] (cA (ALe.bool c) (cT (ALe.bool i))) ?_
    exact Kn.R Fm (e false h)
  ·refine AW.pN Fm [.s, .s, .s, .s, .w (vb false), .s, .s, .s, .s, .s, .s, .s, .s, .s, .s, .s, .s, .s, .s, .s, .s, .s, .s] [(4, vb false)] [(0, .box true [ci b]), (1, .box true [ci a])] (cT (ALe.bool c)) ?_
   exact Kn.R Fm (e false h)
theorem region_Has_spec {F : Nat} {e : Region} {a : Int} {b : Int} {r : Bool} (h : region_Has F e a b = some r) :
  FSpec Tryz.prog 109 [.v (.g [.d (DL e.rects_)]), vi a, vi b] [] (vb r) [] := by
 refine FI Tryz.func109 prog_mixed prog_lay fun C Fm => ?_
 unfold region_Has at h
 refine AW.SG0 Fm 4 [(3, pt 3), (4, pt 4), (5, pt 5)] [(3, bx [.d (DL e.rects_)]), (4, bx [ci a]), (5, bx [ci b])] ?_
 refine AW.join (r := r) (fun z : Bool => region_Has_k0 F z) (fun z => [(6, vb z)]) (fun z => []) (fun q h => ?_) (fun o j => ?_)
 ·refine AW.ret ?_
  obtain rfl := Option.some.inj h
  exact Kn.D Fm
 ·obtain ⟨m, l, h⟩ := bS h
  rcases br_or h with ⟨c, h⟩ | ⟨c, h⟩
  ·obtain ⟨i, n, h⟩ := bS h
   refine AW.G Fm [.s, .k (cE [] [] (vb m) [] []), .w (vb true), .s, .s, .s, .k (cE [] [4, 5] (vb i) [] []), .s, .s] (fun K => K 1 ∧ _ ∧ K 6 ∧ True) [(6, vb i)] [] ⟨KAt.CC (region_Valid_spec l) Tryz.call92 [], ALe.bool c, KAt.callX (slices_ContainsFunc_Rect_spec n) Tryz.call171 [] [4, 5] [.tmp 11, .tmp 12] rfl (by kernel_rfl) (by kernel_rfl) (by kernel_rfl) ⟨.p, ArgT.cloX Tryz.call190 [[ci a], [ci b]] (fun args r hq => by obtain ⟨y0, y, hq, rfl, rfl⟩ := hq; exact Eq.mp (by kernel_rfl) (region_Has_1_spec hq)) (fun args r hq => by obtain ⟨y0, y, hq, rfl, rfl⟩ := hq; rfl) (by kernel_rfl) [4, 5] (by kernel_rfl) (by kernel_rfl) (⟨⟨false, (by kernel_rfl)⟩, ⟨⟨false, (by kernel_rfl)⟩, ⟨⟩⟩⟩) (by kernel_rfl), ⟨⟩⟩, ⟨⟩⟩ ?_
   exact Kn.R Fm (j i h)
  ·refine AW.G Fm [.s, .k (cE [] [] (vb m) [] []), .w (vb false), .s, .s, .s, .s, .s, .s] (fun K => K 1 ∧ _ ∧ True) [(6, vb false)] [] ⟨KAt.CC (region_Valid_spec l) Tryz.call92 [], ALe.bool c, ⟨⟩⟩ ?_
   exact Kn.R Fm (j false h)
theorem history_At_spec {F : Nat} {a : (List Record)} {j : Int} {e : Int} {i : Int} {r : Int} (h : history_At F a j e i = some r) :
  FSpec Tryz.prog 21 [AL a, vi j, vi e, vi i] [] (vi r) [] := by
 refine FI Tryz.func21 prog_mixed prog_lay fun C Fm => ?_
 unfold history_At at h
 refine AW.SG0 Fm 1 [(0, AL a), (1, vi j), (2, vi e), (3, vi i)] [] ?_
 refine AW.seq (AW.seq ?_)
 obtain ⟨o, H, h⟩ := bS h
 refine AW.G Fm [.s, .k (cE [] [] (vi o) [] []), .s] (fun K => K 1 ∧ True) [(0, AL a), (1, vi j), (2, vi e), (3, vi i), (13, vb (o != (0 : Int)))] [] ⟨KAt.CC (history_Check_spec H) Tryz.call19 [], ⟨⟩⟩ ?_
 refine AW.cN h (fun u h => ?_) (fun u h => ?_)
 ·refine AW.SG0 Fm 1 [(8, vi (-1 : Int))] [] ?_
  refine AW.ret ?_
  obtain rfl := Option.some.inj h
  exact Kn.D Fm
 ·refine AW.skip (AW.join (r := r) (fun z : Unit => history_At_k2 F) (fun z => []) (fun z => []) (fun z h => ?_) (fun N t => ?_))
  ·refine AW.SG0 Fm 1 [(8, vi (-1 : Int))] [] ?_
   refine AW.ret ?_
   obtain rfl := Option.some.inj h
   exact Kn.D Fm
  ·refine AW.SG0 Fm 3 [(1, vi j), (2, vi e), (3, vi i), (14, AL a), (15, vi (lI a)), (16, vi 0)] [] ?_
   refine AW.block (AW.loopF (E' := fun z => [(1, vi j), (2, vi e), (3, vi i), (14, AL a), (15, vi (lI a)), (16, vi z)]) (S' := fun z => []) (fun p b L q h => ?_) h)
   refine AW.SG0 Fm 1 [(1, vi j), (2, vi e), (3, vi i), (14, AL a), (15, vi (lI a)), (16, vi b), (17, vb (decide (b < (lI a))))] [] ?_
   refine AW.seq (AW.cN h (fun y h => ?_) (fun y h => ?_))
   ·refine AW.skip (AW.seq (AW.block ?_))
    obtain ⟨B, h⟩ := gS h
    refine AW.SP Fm [.s, .s, .s, .s] [(1, vi j), (2, vi e), (3, vi i), (10, pt 10), (14, AL a), (15, vi (lI a)), (16, vi b)] [(10, bx [ci ((gl a b.toNat).year_), ci ((gl a b.toNat).crop_), .d (DL (α := Rect) (gl a b.toNat).region_.rects_)])] (cT B) ?_
    refine AW.join (r := r) (fun z : Bool => history_At_k1 F a b p z) (fun z => [(1, vi j), (2, vi e), (3, vi i), (10, pt 10), (14, AL a), (15, vi (lI a)), (16, vi b), (30, vb z)]) (fun z => [(10, bx [ci ((gl a b.toNat).year_), ci ((gl a b.toNat).crop_), .d (DL (α := Rect) (gl a b.toNat).region_.rects_)])]) (fun O h => ?_) (fun M n => ?_)
    ·refine AW.cN h (fun A h => ?_) (fun A h => ?_)
     ·refine AW.SG0 Fm 3 [(8, vi (gl a b.toNat).crop_)] [] ?_
      refine AW.ret ?_
      obtain rfl := Option.some.inj h
      exact Kn.D Fm
     ·refine AW.skip ?_
      obtain ⟨E, h⟩ := gS h
      refine AW.pN Fm [.s, .s] [(1, vi j), (2, vi e), (3, vi i), (14, AL a), (15, vi (lI a)), (16, vi (b + 1))] [] (cT (cT E)) ?_
      exact Kn.R Fm (q (b + 1) h)
    ·rcases br_or h with ⟨m, h⟩ | ⟨m, h⟩
     ·obtain ⟨l, I, h⟩ := bS h
      refine AW.G Fm [.s, .s, .s, .s, .w (vb true), .s, .s, .s, .s, .k (cE [] [] (vb l) [] []), .s] (fun K => _ ∧ K 9 ∧ True) [(1, vi j), (2, vi e), (3, vi i), (10, pt 10), (14, AL a), (15, vi (lI a)), (16, vi b), (25, .v (.c (.ptr 10 2))), (26, .v (.g [.d (DL (α := Rect) (gl a b.toNat).region_.rects_)])), (27, vi e), (28, vi i), (29, vb l), (30, vb l)] [(10, bx [ci ((gl a b.toNat).year_), ci ((gl a b.toNat).crop_), .d (DL (α := Rect) (gl a b.toNat).region_.rects_)])] ⟨ALe.bool m, KAt.CC (region_Has_spec I) Tryz.call109 [], ⟨⟩⟩ ?_
      exact Kn.R Fm (n l h)
     ·refine AW.pN Fm [.s, .s, .s, .s, .w (vb false), .s, .s, .s, .s, .s, .s] [(1, vi j), (2, vi e), (3, vi i), (10, pt 10), (14, AL a), (15, vi (lI a)), (16, vi b), (30, vb false)] [(10, bx [ci ((gl a b.toNat).year_), ci ((gl a b.toNat).crop_), .d (DL (α := Rect) (gl a b.toNat).region_.rects_)])] (cT (ALe.bool m)) ?_
      exact Kn.R Fm (n false h)
   ·exact AW.exit (Kn.R Fm (t () h))
theorem law15_awake_spec {F : Nat} {r : Bool} (h : law15_awake F = some r) :
  FSpec Tryz.prog 22 [] [] (vb r) [] := by
 refine FI Tryz.func22 prog_mixed prog_lay fun C Fm => ?_
 unfold law15_awake at h
 refine AW.SG0 Fm 1 [] [] ?_
 refine AW.seq ?_
 obtain ⟨i, A, h⟩ := bS h
 refine AW.G Fm [.s, .w (AL (α := Rect) ([(⟨0, 0, (2 : Int), (1 : Int)⟩ : Rect)] : List Rect)), .s, .k (cE [] [] (.t [.c (.d (DL i.1)), .c (ci i.2)]) [] []), .s, .s, .s, .s, .s] (fun K => (ALe (.v (.c (.d (.lst 1 (litF 4 [.int .i64 0, .int .i64 0, .int .i64 (2 : Int), .int .i64 (1 : Int)]))))) (AL (α := Rect) ([(⟨0, 0, (2 : Int), (1 : Int)⟩ : Rect)] : List Rect))) ∧ K 3 ∧ True) [(1, AL i.1), (2, vi i.2)] [] ⟨ALe.lst (.lit ([(⟨0, 0, (2 : Int), (1 : Int)⟩ : Rect)] : List Rect) (by kernel_rfl)), KAt.callX (history_Add_spec A) Tryz.call18 [] [] [.const (.slice none 0 0), .const (.int .i64 3), .const (.int .i64 2), .tmp 7] rfl (by kernel_rfl) (by kernel_rfl) (by kernel_rfl) ⟨ArgT.plain (by kernel_rfl) (ALe.c (CLe.fl .nil)) (by kernel_rfl), .p, .p, .p, ⟨⟩⟩, ⟨⟩⟩ ?_
 refine AW.seq ?_
 obtain ⟨l, B, h⟩ := bS h
 refine AW.G Fm [.s, .s, .w (AL (α := Rect) ([(⟨(1 : Int), 0, (2 : Int), (1 : Int)⟩ : Rect)] : List Rect)), .s, .k (cE [] [] (.t [.c (.d (DL l.1)), .c (ci l.2)]) [] []), .s, .s, .s, .s, .s] (fun K => (ALe (.v (.c (.d (.lst 1 (litF 4 [.int .i64 (1 : Int), .int .i64 0, .int .i64 (2 : Int), .int .i64 (1 : Int)]))))) (AL (α := Rect) ([(⟨(1 : Int), 0, (2 : Int), (1 : Int)⟩ : Rect)] : List Rect))) ∧ K 4 ∧ True) [(1, AL l.1), (2, vi i.2), (3, vi l.2)] [] ⟨ALe.lst (.lit ([(⟨(1 : Int), 0, (2 : Int), (1 : Int)⟩ : Rect)] : List Rect) (by kernel_rfl)), KAt.CC (history_Add_spec B) Tryz.call18 [], ⟨⟩⟩ ?_
 refine AW.join (r := r) (fun z : Bool => law15_awake_k0 F z) (fun z => [(0, vb z)]) (fun z => []) (fun I h => ?_) (fun H b => ?_)
 ·refine AW.ret ?_
  obtain rfl := Option.some.inj h
  exact Kn.D Fm
 ·rcases br_or h with ⟨a, h⟩ | ⟨a, h⟩
  ·rcases br_or h with ⟨e, h⟩ | ⟨e, h⟩
   ·obtain ⟨o, n, h⟩ := bS h
    rcases br_or h with ⟨j, h⟩ | ⟨j, h⟩
    ·obtain ⟨y, u, h⟩ := bS h
     rcases br_or h with ⟨m, h⟩ | ⟨m, h⟩
     ·obtain ⟨q, E, h⟩ := bS h
      refine AW.G Fm [.s, .s, .w (vb true), .s, .s, .s, .w (vb true), .s, .k (cE [] [] (vi o) [] []), .s, .s, .w (vb true), .s, .k (cE [] [] (vi y) [] []), .s, .s, .w (vb true), .s, .k (cE [] [] (vi q) [] []), .s, .s, .s] (fun K => _ ∧ _ ∧ K 8 ∧ _ ∧ K 13 ∧ _ ∧ K 18 ∧ True) [(0, vb (q == (-1 : Int)))] [] ⟨ALe.bool a, ALe.bool e, KAt.CC (history_At_spec n) Tryz.call21 [], ALe.bool j, KAt.CC (history_At_spec u) Tryz.call21 [], ALe.bool m, KAt.CC (history_At_spec E) Tryz.call21 [], ⟨⟩⟩ ?_
      exact Kn.R Fm (b (q == (-1 : Int)) h)
     ·refine AW.G Fm [.s, .s, .w (vb true), .s, .s, .s, .w (vb true), .s, .k (cE [] [] (vi o) [] []), .s, .s, .w (vb true), .s, .k (cE [] [] (vi y) [] []), .s, .s, .w (vb false), .s, .s, .s, .s, .s] (fun K => _ ∧ _ ∧ K 8 ∧ _ ∧ K 13 ∧ _ ∧ True) [(0, vb false)] [] ⟨ALe.bool a, ALe.bool e, KAt.CC (history_At_spec n) Tryz.call21 [], ALe.bool j, KAt.CC (history_At_spec u) Tryz.call21 [], ALe.bool m, ⟨⟩⟩ ?_
      exact Kn.R Fm (b false h)
    ·refine AW.G Fm [.s, .s, .w (vb true), .s, .s, .s, .w (vb true), .s, .k (cE [] [] (vi o) [] []), .s, .s, .w (vb false), .s, .s, .s, .s, .s, .s, .s, .s, .s, .s] (fun K => _ ∧ _ ∧ K 8 ∧ _ ∧ True) [(0, vb false)] [] ⟨ALe.bool a, ALe.bool e, KAt.CC (history_At_spec n) Tryz.call21 [], ALe.bool j, ⟨⟩⟩ ?_
     exact Kn.R Fm (b false h)
   ·refine AW.pN Fm [.s, .s, .w (vb true), .s, .s, .s, .w (vb false), .s, .s, .s, .s, .s, .s, .s, .s, .s, .s, .s, .s, .s, .s, .s] [(0, vb false)] [] (cA (ALe.bool a) (cT (ALe.bool e))) ?_
    exact Kn.R Fm (b false h)
  ·refine AW.pN Fm [.s, .s, .w (vb false), .s, .s, .s, .s, .s, .s, .s, .s, .s, .s, .s, .s, .s, .s, .s, .s, .s, .s, .s] [(0, vb false)] [] (cT (ALe.bool a)) ?_
   exact Kn.R Fm (b false h)
theorem history_Known_spec {F : Nat} {a : (List Record)} {b : Int} {r : Region × Int} (h : history_Known F a b = some r) :
  FSpec Tryz.prog 38 [AL a, vi b] [] (.t [.g [.d (DL (α := Rect) r.1.rects_)], .c (ci r.2)]) [] := by
 refine FI Tryz.func38 prog_mixed prog_lay fun C Fm => ?_
 unfold history_Known at h
 refine AW.SG0 Fm 2 [(0, AL a), (1, vi b), (4, pt 4)] [(4, bx [.fl 0 fun _ => []])] ?_
 refine AW.seq (AW.seq ?_)
 obtain ⟨e, n, h⟩ := bS h
 refine AW.G Fm [.s, .k (cE [] [] (vi e) [] []), .s] (fun K => K 1 ∧ True) [(0, AL a), (1, vi b), (4, pt 4), (6, vi e)] [(4, bx [.fl 0 fun _ => []])] ⟨KAt.CC (history_Check_spec n) Tryz.call19 [], ⟨⟩⟩ ?_
 refine AW.SG0 Fm 2 [(0, AL a), (1, vi b), (4, pt 4), (6, vi e), (10, vb (e != (0 : Int)))] [(4, bx [.fl 0 fun _ => []])] ?_
 refine AW.cN h (fun l h => ?_) (fun l h => ?_)
 ·refine AW.SP Fm [.w (.v (.g [.d (DL (α := Rect) [])])), .s, .s, .s] [(4, pt 4), (5, vi e)] [(4, bx [.d (DL (α := Rect) [])])] (cT (ALe.g ⟨CLe.fl .nil, ⟨⟩⟩ : ALe (.v (.g [.fl 0 fun _ => []])) (.v (.g [.d (DL (α := Rect) [])])))) ?_
  refine AW.ret ?_
  obtain rfl := Option.some.inj h
  exact Kn.D Fm
 ·refine AW.skip (AW.seq (AW.seq ?_))
  obtain ⟨j, o, h⟩ := bS h
  refine AW.G Fm [.s, .k (cE [] [] (vb j) [] [])] (fun K => K 1 ∧ True) [(0, AL a), (1, vi b), (4, pt 4), (14, vb j)] [(4, bx [.fl 0 fun _ => []])] ⟨KAt.CC (history_wrong_spec o) Tryz.call119 [], ⟨⟩⟩ ?_
  refine AW.cN h (fun m h => ?_) (fun m h => ?_)
  ·refine AW.SP Fm [.w (.v (.g [.d (DL (α := Rect) [])])), .s, .s] [(4, pt 4), (5, vi 18)] [(4, bx [.d (DL (α := Rect) [])])] (cT (ALe.g ⟨CLe.fl .nil, ⟨⟩⟩ : ALe (.v (.g [.fl 0 fun _ => []])) (.v (.g [.d (DL (α := Rect) [])])))) ?_
   refine AW.ret ?_
   obtain rfl := Option.some.inj h
   exact Kn.D Fm
  ·refine AW.skip (AW.seq ?_)
   obtain ⟨A, q, h⟩ := bS h
   obtain ⟨i, u, h⟩ := bS h
   refine AW.G Fm [.s, .s, .k (cE [] [] (AL A) [] []), .k (cE [] [] (.t [.g [.d (DL i.1.rects_)], .c (ci i.2)]) [] []), .s, .s, .s, .s] (fun K => K 2 ∧ K 3 ∧ True) [(4, pt 4), (5, vi i.2)] [(4, bx [.d (DL i.1.rects_)])] ⟨KAt.callX (history_Rects_spec q) Tryz.call116 [] [] [.tmp 16, .tmp 17, .func 123] rfl (by kernel_rfl) (by kernel_rfl) (by kernel_rfl) ⟨.p, .p, ArgT.cloX Tryz.call123 [] (fun args r hq => by obtain ⟨y0, y, hq, rfl, rfl⟩ := hq; exact Eq.mp (by kernel_rfl) (history_Any_spec hq)) (fun args r hq => by obtain ⟨y0, y, hq, rfl, rfl⟩ := hq; rfl) (by kernel_rfl) [] (by kernel_rfl) (by kernel_rfl) (True.intro) (by kernel_rfl), ⟨⟩⟩, KAt.CC (region_Joined_spec u) Tryz.call111 [], ⟨⟩⟩ ?_
   refine AW.ret ?_
   obtain rfl := Option.some.inj h
   exact Kn.D Fm
theorem history_Kept_1_spec {F : Nat} {c : Int} {a : (List Crop)} {b : Int} {r : Bool} (h : history_Kept_1 F c a b = some r) :
  FSpec Tryz.prog 201 [vi c, pt 0, pt 1] [(0, .box true [.d (DL a)]), (1, .box true [ci b])] (vb r) [(0, .box true [.d (DL a)]), (1, .box true [ci b])] := by
 refine FI Tryz.func201 prog_mixed prog_lay fun C Fm => ?_
 unfold history_Kept_1 at h
 refine AW.SG0 Fm 1 [(0, vi c), (1, pt 0), (2, pt 1)] [(0, .box true [.d (DL a)]), (1, .box true [ci b])] ?_
 obtain ⟨e, h⟩ := gS h
 refine AW.SP Fm [.s, .s, .s, .s, .s, .s, .s, .s] [(4, vb (((gl a c.toNat).family_) == b))] [(0, .box true [.d (DL a)]), (1, .box true [ci b])] (cT e) ?_
 refine AW.ret ?_
 obtain rfl := Option.some.inj h
 exact Kn.D Fm
theorem history_Kept_2_spec {F : Nat} {c : Bool} {a : Bool} {r : Bool} (h : history_Kept_2 F c a = some r) :
  FSpec Tryz.prog 202 [vb c, vb a] [] (vb r) [] := by
 refine FI Tryz.func202 prog_mixed prog_lay fun C Fm => ?_
 unfold history_Kept_2 at h
 refine AW.SG0 Fm 1 [(0, vb c), (1, vb a)] [] ?_
 refine AW.join (r := r) (fun z : Bool => history_Kept_2_k0 F z) (fun z => [(4, vb z)]) (fun z => []) (fun i h => ?_) (fun e d => ?_)
 ·refine AW.ret ?_
  obtain rfl := Option.some.inj h
  exact Kn.D Fm
 ·rcases br_or h with ⟨b, h⟩ | ⟨b, h⟩
  ·refine AW.pN Fm [.s, .w (vb true), .s, .s, .s] [(4, vb a)] [] (cT (ALe.bool b)) ?_
   exact Kn.R Fm (d a h)
  ·refine AW.pN Fm [.s, .w (vb false), .s, .s, .s] [(4, vb false)] [] (cT (ALe.bool b)) ?_
   exact Kn.R Fm (d false h)
theorem history_Kept_spec {F : Nat} {i : (List Record)} {a : (List Crop)} {j : Int} {e : Int} {b : Int} {r : (List Rect)} (h : history_Kept F i a j e b = some r) :
  FSpec Tryz.prog 126 [AL i, AL a, vi j, vi e, vi b] [] (AL (α := Rect) r) [] := by
 refine FI Tryz.func126 prog_mixed prog_lay fun C Fm => ?_
 unfold history_Kept at h
 refine AW.SG0 Fm 3 [(0, AL i), (2, vi j), (3, vi e), (6, pt 6), (9, pt 9)] [(6, bx [.d (DL a)]), (9, bx [ci b])] ?_
 refine AW.SG0 Fm 2 [(0, AL i), (2, vi j), (3, vi e), (11, .v (.c (.clo 201 [6, 9])))] [(6, bx [.d (DL a)]), (9, bx [ci b])] ?_
 refine AW.seq ?_
 obtain ⟨n, B, h⟩ := bS h
 refine AW.G Fm [.s, .s, .s, .k (cE [] [6, 9] (AL n) [] []), .s] (fun K => K 3 ∧ True) [(0, AL i), (2, vi j), (3, vi e), (11, .v (.c (.clo 201 [6, 9]))), (12, AL n)] [(6, bx [.d (DL a)]), (9, bx [ci b])] ⟨KAt.callX (history_Rects_spec B) Tryz.call116 [] [6, 9] [.tmp 15, .tmp 16, .tmp 17] rfl (by kernel_rfl) (by kernel_rfl) (by kernel_rfl) ⟨.p, .p, ArgT.cloX Tryz.call201 [[.d (DL a)], [ci b]] (fun args r hq => by obtain ⟨y0, y, hq, rfl, rfl⟩ := hq; exact Eq.mp (by kernel_rfl) (history_Kept_1_spec hq)) (fun args r hq => by obtain ⟨y0, y, hq, rfl, rfl⟩ := hq; rfl) (by kernel_rfl) [6, 9] (by kernel_rfl) (by kernel_rfl) (⟨⟨false, (by kernel_rfl)⟩, ⟨⟨false, (by kernel_rfl)⟩, ⟨⟩⟩⟩) (by kernel_rfl), ⟨⟩⟩, ⟨⟩⟩ ?_
 refine AW.join (r := r) (fun z : (List Rect) => history_Kept_k1 F z) (fun z => [(12, AL z)]) (fun z => []) (fun I h => ?_) (fun N t => ?_)
 ·refine AW.SG0 Fm 2 [(10, AL I)] [] ?_
  refine AW.ret ?_
  obtain rfl := Option.some.inj h
  exact Kn.D Fm
 ·obtain ⟨w, h⟩ := gS h
  refine AW.SP Fm [.s, .s, .s] [(0, AL i), (3, vi e), (11, .v (.c (.clo 201 [6, 9]))), (12, AL n), (13, vi (j + 1))] [(6, bx [.d (DL a)]), (9, bx [ci b])] (cT (cT w)) ?_
  refine AW.block (AW.loopF (E' := fun z => [(0, AL i), (3, vi e), (11, .v (.c (.clo 201 [6, 9]))), (12, AL z.1), (13, vi z.2)]) (S' := fun z => [(6, bx [.d (DL a)]), (9, bx [ci b])]) (fun O z M q h => ?_) h)
  obtain ⟨o, l⟩ := z
  refine AW.seq (AW.SG0 Fm 3 [(0, AL i), (3, vi e), (11, .v (.c (.clo 201 [6, 9]))), (12, AL o), (13, vi l), (23, vb (decide (l ≤ e)))] [(6, bx [.d (DL a)]), (9, bx [ci b])] ?_)
  refine AW.cN h (fun u h => ?_) (fun u h => ?_)
  ·refine AW.skip (AW.seq (AW.block ?_))
   obtain ⟨L, E, h⟩ := bS h
   obtain ⟨m, H, h⟩ := bS h
   refine AW.G Fm [.s, .s, .s, .s, .k (cE [] [6, 9] (AL L) [] []), .k (cE [] [] (AL m) [] []), .s] (fun K => K 4 ∧ K 5 ∧ True) [(0, AL i), (3, vi e), (11, .v (.c (.clo 201 [6, 9]))), (12, AL m), (13, vi l)] [(6, bx [.d (DL a)]), (9, bx [ci b])] ⟨KAt.callX (history_Rects_spec E) Tryz.call116 [] [6, 9] [.tmp 27, .tmp 28, .tmp 29] rfl (by kernel_rfl) (by kernel_rfl) (by kernel_rfl) ⟨.p, .p, ArgT.cloX Tryz.call201 [[.d (DL a)], [ci b]] (fun args r hq => by obtain ⟨y0, y, hq, rfl, rfl⟩ := hq; exact Eq.mp (by kernel_rfl) (history_Kept_1_spec hq)) (fun args r hq => by obtain ⟨y0, y, hq, rfl, rfl⟩ := hq; rfl) (by kernel_rfl) [6, 9] (by kernel_rfl) (by kernel_rfl) (⟨⟨false, (by kernel_rfl)⟩, ⟨⟨false, (by kernel_rfl)⟩, ⟨⟩⟩⟩) (by kernel_rfl), ⟨⟩⟩, KAt.callX (region_Choose_spec H) Tryz.call93 [] [] [.tmp 26, .tmp 30, .func 202] rfl (by kernel_rfl) (by kernel_rfl) (by kernel_rfl) ⟨.p, .p, ArgT.cloX Tryz.call202 [] (fun args r hq => by obtain ⟨y0, y1, y, hq, rfl, rfl⟩ := hq; exact Eq.mp (by kernel_rfl) (history_Kept_2_spec hq)) (fun args r hq => by obtain ⟨y0, y1, y, hq, rfl, rfl⟩ := hq; rfl) (by kernel_rfl) [] (by kernel_rfl) (by kernel_rfl) (True.intro) (by kernel_rfl), ⟨⟩⟩, ⟨⟩⟩ ?_
   obtain ⟨A, h⟩ := gS h
   refine AW.pN Fm [.s, .s, .s] [(0, AL i), (3, vi e), (11, .v (.c (.clo 201 [6, 9]))), (12, AL m), (13, vi (l + 1))] [(6, bx [.d (DL a)]), (9, bx [ci b])] (cT (cT A)) ?_
   exact Kn.R Fm (q (m, (l + 1)) h)
  ·exact AW.exit (Kn.R Fm (t o h))
theorem history_Same_spec {F : Nat} {b : (List Record)} {e : (List Crop)} {i : Int} {a : Int} {r : Region × Int} (h : history_Same F b e i a = some r) :
  FSpec Tryz.prog 41 [AL b, AL e, vi i, vi a] [] (.t [.g [.d (DL (α := Rect) r.1.rects_)], .c (ci r.2)]) [] := by
 refine FI Tryz.func41 prog_mixed prog_lay fun C Fm => ?_
 unfold history_Same at h
 refine AW.SG0 Fm 2 [(0, AL b), (1, AL e), (2, vi i), (3, vi a), (8, pt 8)] [(8, bx [.fl 0 fun _ => []])] ?_
 refine AW.seq (AW.seq ?_)
 obtain ⟨o, O, h⟩ := bS h
 refine AW.G Fm [.s, .s, .k (cE [] [] (vi o) [] []), .s] (fun K => K 2 ∧ True) [(0, AL b), (1, AL e), (2, vi i), (3, vi a), (8, pt 8), (10, vi o)] [(8, bx [.fl 0 fun _ => []])] ⟨KAt.CC (history_Listed_spec O) Tryz.call118 [], ⟨⟩⟩ ?_
 refine AW.SG0 Fm 2 [(0, AL b), (1, AL e), (2, vi i), (3, vi a), (8, pt 8), (10, vi o), (17, vb (o != (0 : Int)))] [(8, bx [.fl 0 fun _ => []])] ?_
 refine AW.cN h (fun H h => ?_) (fun H h => ?_)
 ·refine AW.SP Fm [.w (.v (.g [.d (DL (α := Rect) [])])), .s, .s, .s] [(8, pt 8), (9, vi o)] [(8, bx [.d (DL (α := Rect) [])])] (cT (ALe.g ⟨CLe.fl .nil, ⟨⟩⟩ : ALe (.v (.g [.fl 0 fun _ => []])) (.v (.g [.d (DL (α := Rect) [])])))) ?_
  refine AW.ret ?_
  obtain rfl := Option.some.inj h
  exact Kn.D Fm
 ·refine AW.skip (AW.seq (AW.join (r := r) (fun z : Bool => history_Same_k0 F b e i a z) (fun z => [(0, AL b), (1, AL e), (2, vi i), (3, vi a), (8, pt 8), (30, vb z)]) (fun z => [(8, bx [.fl 0 fun _ => []])]) (fun Y h => ?_) (fun U u => ?_)))
  ·refine AW.cN h (fun I h => ?_) (fun I h => ?_)
   ·refine AW.SP Fm [.w (.v (.g [.d (DL (α := Rect) [])])), .s, .s] [(8, pt 8), (9, vi 18)] [(8, bx [.d (DL (α := Rect) [])])] (cT (ALe.g ⟨CLe.fl .nil, ⟨⟩⟩ : ALe (.v (.g [.fl 0 fun _ => []])) (.v (.g [.d (DL (α := Rect) [])])))) ?_
    refine AW.ret ?_
    obtain rfl := Option.some.inj h
    exact Kn.D Fm
   ·refine AW.skip (AW.SW Fm [.m] (fun K => True) [(0, AL b), (1, AL e), (2, vi i), (3, vi a), (8, pt 8), (11, ow 11)] [(8, bx [.fl 0 fun _ => []]), (11, AO (α := Rect) ([] : List Rect))] True.intro [(11, .arr 4 (0) (fun _ => []))] ⟨OLe.is ((Is.nil (α := Rect))), ⟨⟩⟩ ?_)
    refine AW.join (r := r) (fun z : (List Rect) => history_Same_k2 F z) (fun z => [(8, pt 8), (11, ow 11)]) (fun z => [(8, bx [.fl 0 fun _ => []]), (11, AO z)]) (fun A h => ?_) (fun W E => ?_)
    ·refine AW.seq (Kn.r Fm [(8, pt 8), (11, ow 11)] [(11, AO A), (8, bx [.fl 0 fun _ => []])] (by kernel_rfl) ?_)
     refine Kn.frz [(8, pt 8), (11, AL A)] [(8, bx [.fl 0 fun _ => []])] (by kernel_rfl) (by kernel_rfl) (by kernel_rfl) ?_
     obtain ⟨q, T, h⟩ := bS h
     refine AW.G Fm [.s, .k (cE [] [] (.t [.g [.d (DL q.1.rects_)], .c (ci q.2)]) [] []), .s, .s, .s, .s] (fun K => K 1 ∧ True) [(8, pt 8), (9, vi q.2)] [(8, bx [.d (DL q.1.rects_)])] ⟨KAt.CC (region_Joined_spec T) Tryz.call111 [], ⟨⟩⟩ ?_
     refine AW.ret ?_
     obtain rfl := Option.some.inj h
     exact Kn.D Fm
    ·refine AW.SG0 Fm 1 [(0, AL b), (1, AL e), (2, vi i), (3, vi a), (8, pt 8), (11, ow 11), (32, vi 0)] [(8, bx [.fl 0 fun _ => []]), (11, AO (α := Rect) ([] : List Rect))] ?_
     refine AW.block (Kn.r Fm [(0, AL b), (1, AL e), (2, vi i), (3, vi a), (8, pt 8), (11, ow 11), (32, vi 0)] [(8, bx [.fl 0 fun _ => []]), (11, AO ([] : List Rect))] (by kernel_rfl) ?_)
     refine AW.loopF (E' := fun z => [(0, AL b), (1, AL e), (2, vi i), (3, vi a), (8, pt 8), (11, ow 11), (32, vi z.1)]) (S' := fun z => [(8, bx [.fl 0 fun _ => []]), (11, AO z.2)]) (fun X z V B h => ?_) h
     obtain ⟨n, l⟩ := z
     refine AW.SG0 Fm 1 [(0, AL b), (1, AL e), (2, vi i), (3, vi a), (8, pt 8), (11, ow 11), (32, vi n), (33, vb (decide (n < (41 : Int))))] [(8, bx [.fl 0 fun _ => []]), (11, AO l)] ?_
     refine AW.seq (AW.cN h (fun L h => ?_) (fun L h => ?_))
     ·refine AW.skip (AW.seq (AW.block (AW.SG0 Fm 2 [(0, AL b), (1, AL e), (2, vi i), (3, vi a), (8, pt 8), (11, ow 11), (12, vi n), (32, vi n)] [(8, bx [.fl 0 fun _ => []]), (11, AO l)] ?_)))
      obtain ⟨j, P, h⟩ := bS h
      obtain ⟨M, h⟩ := gS h
      refine AW.GW Fm [.s, .s, .s, .s, .s, .s, .k (cE [] [] (AL j) [] []), .s, .s] (fun K => K 6 ∧ (_ ∧ _ ∧ True) ∧ True) [(0, AL b), (1, AL e), (2, vi i), (3, vi a), (8, pt 8), (11, ow 42), (32, vi n)] [(8, bx [.fl 0 fun _ => []]), (42, AO (α := Rect) (l ++ j))] ⟨KAt.CC (history_Kept_spec P) Tryz.call126 [], ⟨M, (Is.refl j : Is (List.length (α := Rect) j) (LF (α := Rect) j) j).len, ⟨⟩⟩, ⟨⟩⟩ [(42, .arr 4 ((List.length (α := Rect) l) + (List.length (α := Rect) j)) (appF (List.length (α := Rect) l) (LF (α := Rect) l) (LF (α := Rect) j)))] ⟨OLe.is (Is.app (Is.refl l) (Is.refl j)), ⟨⟩⟩ ?_
      obtain ⟨N, h⟩ := gS h
      refine AW.pN Fm [.s, .s] [(0, AL b), (1, AL e), (2, vi i), (3, vi a), (8, pt 8), (11, ow 42), (32, vi (n + 1))] [(8, bx [.fl 0 fun _ => []]), (42, AO (α := Rect) (l ++ j))] (cT (cT N)) ?_
      exact Kn.RE Fm [(11, 42)] (B ((n + 1), (l ++ j)) h)
     ·exact AW.exit (Kn.R Fm (E l h))
  ·rcases br_or h with ⟨p, h⟩ | ⟨p, h⟩
   ·refine AW.pN Fm [.s, .s, .w (vb true), .s, .s, .s, .s, .s, .s, .s, .s] [(0, AL b), (1, AL e), (2, vi i), (3, vi a), (8, pt 8), (30, vb true)] [(8, bx [.fl 0 fun _ => []])] (cT (ALe.bool p)) ?_
    exact Kn.R Fm (u true h)
   ·rcases br_or h with ⟨y, h⟩ | ⟨y, h⟩
    ·refine AW.pN Fm [.s, .s, .w (vb false), .s, .s, .s, .s, .w (vb true), .s, .s, .s] [(0, AL b), (1, AL e), (2, vi i), (3, vi a), (8, pt 8), (30, vb true)] [(8, bx [.fl 0 fun _ => []])] (cA (ALe.bool p) (cT (ALe.bool y))) ?_
     exact Kn.R Fm (u true h)
    ·refine AW.pN Fm [.s, .s, .w (vb false), .s, .s, .s, .s, .w (vb false), .s, .s, .s] [(0, AL b), (1, AL e), (2, vi i), (3, vi a), (8, pt 8), (30, vb (decide ((100 : Int) < a)))] [(8, bx [.fl 0 fun _ => []])] (cA (ALe.bool p) (cT (ALe.bool y))) ?_
     exact Kn.R Fm (u (decide ((100 : Int) < a)) h)
theorem law15_HistorySame_spec {F : Nat} {X : (List Int)} {e : Int} {j : Int} {r : Bool} (h : law15_HistorySame F X e j = some r) :
  FSpec Tryz.prog 9 [AL X, .v (.c (.d (.int .u8 e))), .v (.c (.d (.int .u8 j)))] [] (vb r) [] := by
 refine FI Tryz.func9 prog_mixed prog_lay fun C Fm => ?_
 unfold law15_HistorySame at h
 refine AW.SG0 Fm 1 [(0, AL X), (1, .v (.c (.d (.int .u8 e)))), (2, .v (.c (.d (.int .u8 j))))] [] ?_
 refine AW.seq ?_
 obtain ⟨Y, N0, h⟩ := bS h
 refine AW.G Fm [.s, .k (cE [(100, 27)] [] (pt 100) [] [(100, bx (gC Y))]), .s] (fun K => K 1 ∧ True) [(1, .v (.c (.d (.int .u8 e)))), (2, .v (.c (.d (.int .u8 j)))), (7, pt 27)] [(27, bx (gC Y))] ⟨KAt.CC (keep_New_spec N0) Tryz.call14 [(100, 27)], ⟨⟩⟩ ?_
 refine AW.seq ?_
 obtain ⟨i, O0, h⟩ := bS h
 refine AW.G Fm [.s, .k (cE [(0, 27)] [] (AL i.2) [(0, bx (gC Y))] [(0, bx (gC i.1))]), .s] (fun K => K 1 ∧ True) [(1, .v (.c (.d (.int .u8 e)))), (2, .v (.c (.d (.int .u8 j)))), (7, pt 27), (8, AL i.2)] [(27, bx (gC i.1))] ⟨KAt.CC (keep_Tape_Crops_spec O0) Tryz.call15 [(0, 27)], ⟨⟩⟩ ?_
 refine AW.seq ?_
 obtain ⟨m, P0, h⟩ := bS h
 refine AW.G Fm [.s, .s, .k (cE [(0, 27)] [] (AL m.2) [(0, bx (gC i.1))] [(0, bx (gC m.1))]), .s] (fun K => K 2 ∧ True) [(1, .v (.c (.d (.int .u8 e)))), (2, .v (.c (.d (.int .u8 j)))), (8, AL i.2), (9, AL m.2)] [] ⟨KAt.CC (keep_Tape_History_spec P0) Tryz.call32 [(0, 27)], ⟨⟩⟩ ?_
 obtain ⟨y0, A0, h⟩ := gS2 h
 refine AW.SP Fm [.s, .s, .s, .s] [(2, .v (.c (.d (.int .u8 j)))), (8, AL i.2), (9, AL m.2), (10, vi (e.tmod (5 : Int)))] [] (cA (cT y0) (cT A0)) ?_
 obtain ⟨B0, D0, E0, h⟩ := gS3 h
 refine AW.SP Fm [.s, .s, .s, .s, .s, .s] [(8, AL i.2), (9, AL m.2), (10, vi (e.tmod (5 : Int))), (11, vi ((e.tmod (5 : Int)) + (j.tmod (3 : Int))))] [] (cA (cT B0) (cA D0 (cT (cT E0)))) ?_
 refine AW.seq ?_
 obtain ⟨l, R0, h⟩ := bS h
 refine AW.G Fm [.s, .s, .s, .s, .k (cE [] [] (.t [.g [.d (DL l.1.rects_)], .c (ci l.2)]) [] []), .s, .s, .s, .s, .s, .s] (fun K => K 4 ∧ True) [(8, AL i.2), (9, AL m.2), (10, vi (e.tmod (5 : Int))), (11, vi ((e.tmod (5 : Int)) + (j.tmod (3 : Int)))), (12, pt 12), (13, vi l.2)] [(12, bx [.d (DL l.1.rects_)])] ⟨KAt.CC (history_Same_spec R0) Tryz.call41 [], ⟨⟩⟩ ?_
 refine AW.seq ?_
 obtain ⟨G0, h⟩ := gS h
 obtain ⟨y, T0, h⟩ := bS h
 refine AW.G Fm [.s, .s, .s, .s, .s, .k (cE [] [] (.t [.g [.d (DL y.1.rects_)], .c (ci y.2)]) [] []), .s, .s, .s, .s, .s, .s] (fun K => (_ ∧ True) ∧ K 5 ∧ True) [(8, AL i.2), (9, AL m.2), (10, vi (e.tmod (5 : Int))), (11, vi ((e.tmod (5 : Int)) + (j.tmod (3 : Int)))), (12, pt 12), (13, vi l.2), (14, pt 14), (15, vi y.2)] [(12, bx [.d (DL l.1.rects_)]), (14, bx [.d (DL y.1.rects_)])] ⟨⟨G0, ⟨⟩⟩, KAt.CC (history_Same_spec T0) Tryz.call41 [], ⟨⟩⟩ ?_
 refine AW.seq ?_
 obtain ⟨H, U0, h⟩ := bS h
 refine AW.G Fm [.s, .s, .s, .s, .k (cE [] [] (.t [.g [.d (DL H.1.rects_)], .c (ci H.2)]) [] []), .s, .s, .s, .s, .s, .s] (fun K => K 4 ∧ True) [(8, AL i.2), (9, AL m.2), (10, vi (e.tmod (5 : Int))), (11, vi ((e.tmod (5 : Int)) + (j.tmod (3 : Int)))), (12, pt 12), (13, vi l.2), (14, pt 14), (15, vi y.2), (16, pt 16), (17, vi H.2)] [(12, bx [.d (DL l.1.rects_)]), (14, bx [.d (DL y.1.rects_)]), (16, bx [.d (DL H.1.rects_)])] ⟨KAt.CC (history_Same_spec U0) Tryz.call41 [], ⟨⟩⟩ ?_
 refine AW.seq ?_
 obtain ⟨N, V0, h⟩ := bS h
 refine AW.G Fm [.s, .s, .k (cE [] [] (.t [.g [.d (DL N.1.rects_)], .c (ci N.2)]) [] []), .s, .s, .s, .s, .s, .s] (fun K => K 2 ∧ True) [(8, AL i.2), (9, AL m.2), (10, vi (e.tmod (5 : Int))), (11, vi ((e.tmod (5 : Int)) + (j.tmod (3 : Int)))), (12, pt 12), (13, vi l.2), (14, pt 14), (15, vi y.2), (16, pt 16), (17, vi H.2), (18, pt 18), (19, vi N.2)] [(12, bx [.d (DL l.1.rects_)]), (14, bx [.d (DL y.1.rects_)]), (16, bx [.d (DL H.1.rects_)]), (18, bx [.d (DL N.1.rects_)])] ⟨KAt.CC (history_Known_spec V0) Tryz.call38 [], ⟨⟩⟩ ?_
 refine AW.seq (AW.join (r := r) (fun z : Bool => law15_HistorySame_k0 F e j i m l z) (fun z => [(8, AL i.2), (9, AL m.2), (10, vi (e.tmod (5 : Int))), (11, vi ((e.tmod (5 : Int)) + (j.tmod (3 : Int)))), (12, pt 12), (97, vb z)]) (fun z => [(12, bx [.d (DL l.1.rects_)])]) (fun m1 h => ?_) (fun a1 B => ?_))
 ·refine AW.cN h (fun p0 h => ?_) (fun p0 h => ?_)
  ·refine AW.SG0 Fm 1 [(6, vb false)] [] ?_
   refine AW.ret ?_
   obtain rfl := Option.some.inj h
   exact Kn.D Fm
  ·refine AW.skip (AW.join (r := r) (fun z : Unit => law15_HistorySame_k8 F) (fun z => []) (fun z => []) (fun z h => ?_) (fun l1 o0 => ?_))
   ·refine AW.seq ?_
    obtain ⟨d0, Z0, h⟩ := bS h
    refine AW.G Fm [.k (cE [] [] (vb d0) [] []), .s] (fun K => K 0 ∧ True) [(6, vb d0)] [] ⟨KAt.CC (law15_awake_spec Z0) Tryz.call22 [], ⟨⟩⟩ ?_
    refine AW.ret ?_
    obtain rfl := Option.some.inj h
    exact Kn.D Fm
   ·refine AW.SG0 Fm 1 [(8, AL i.2), (9, AL m.2), (10, vi (e.tmod (5 : Int))), (11, vi ((e.tmod (5 : Int)) + (j.tmod (3 : Int)))), (12, pt 12), (20, vi 0)] [(12, bx [.d (DL l.1.rects_)])] ?_
    refine AW.block (AW.loopF (E' := fun z => [(8, AL i.2), (9, AL m.2), (10, vi (e.tmod (5 : Int))), (11, vi ((e.tmod (5 : Int)) + (j.tmod (3 : Int)))), (12, pt 12), (20, vi z)]) (S' := fun z => [(12, bx [.d (DL l.1.rects_)])]) (fun e0 n b1 j0 h => ?_) h)
    refine AW.seq (AW.SG0 Fm 2 [(8, AL i.2), (9, AL m.2), (10, vi (e.tmod (5 : Int))), (11, vi ((e.tmod (5 : Int)) + (j.tmod (3 : Int)))), (12, pt 12), (20, vi n), (99, vb (decide (n < (9 : Int))))] [(12, bx [.d (DL l.1.rects_)])] ?_)
    refine AW.cN h (fun q0 h => ?_) (fun q0 h => ?_)
    ·refine AW.skip (AW.join (r := r) (fun z : Unit => law15_HistorySame_k7 F n e0) (fun z => [(8, AL i.2), (9, AL m.2), (10, vi (e.tmod (5 : Int))), (11, vi ((e.tmod (5 : Int)) + (j.tmod (3 : Int)))), (12, pt 12), (20, vi n)]) (fun z => [(12, bx [.d (DL l.1.rects_)])]) (fun z h => ?_) (fun k1 n0 => ?_))
     ·obtain ⟨M0, h⟩ := gS h
      refine AW.pN Fm [.s, .s, .s] [(8, AL i.2), (9, AL m.2), (10, vi (e.tmod (5 : Int))), (11, vi ((e.tmod (5 : Int)) + (j.tmod (3 : Int)))), (12, pt 12), (20, vi (n + (2 : Int)))] [(12, bx [.d (DL l.1.rects_)])] (cT (cT M0)) ?_
      exact Kn.R Fm (j0 (n + (2 : Int)) h)
     ·refine AW.block (AW.SG0 Fm 1 [(8, AL i.2), (9, AL m.2), (10, vi (e.tmod (5 : Int))), (11, vi ((e.tmod (5 : Int)) + (j.tmod (3 : Int)))), (12, pt 12), (20, vi n), (21, vi 0)] [(12, bx [.d (DL l.1.rects_)])] ?_)
      refine AW.block (AW.loopF (E' := fun z => [(8, AL i.2), (9, AL m.2), (10, vi (e.tmod (5 : Int))), (11, vi ((e.tmod (5 : Int)) + (j.tmod (3 : Int)))), (12, pt 12), (20, vi n), (21, vi z)]) (S' := fun z => [(12, bx [.d (DL l.1.rects_)])]) (fun P o c1 k0 h => ?_) h)
      refine AW.seq (AW.SG0 Fm 2 [(8, AL i.2), (9, AL m.2), (10, vi (e.tmod (5 : Int))), (11, vi ((e.tmod (5 : Int)) + (j.tmod (3 : Int)))), (12, pt 12), (20, vi n), (21, vi o), (103, vb (decide (o < (9 : Int))))] [(12, bx [.d (DL l.1.rects_)])] ?_)
      refine AW.cN h (fun s0 h => ?_) (fun s0 h => ?_)
      ·refine AW.skip (AW.join (r := r) (fun z : Unit => law15_HistorySame_k6 F o P) (fun z => [(8, AL i.2), (9, AL m.2), (10, vi (e.tmod (5 : Int))), (11, vi ((e.tmod (5 : Int)) + (j.tmod (3 : Int)))), (12, pt 12), (20, vi n), (21, vi o)]) (fun z => [(12, bx [.d (DL l.1.rects_)])]) (fun z h => ?_) (fun j1 m0 => ?_))
       ·obtain ⟨L0, h⟩ := gS h
        refine AW.pN Fm [.s, .s, .s] [(8, AL i.2), (9, AL m.2), (10, vi (e.tmod (5 : Int))), (11, vi ((e.tmod (5 : Int)) + (j.tmod (3 : Int)))), (12, pt 12), (20, vi n), (21, vi (o + (3 : Int)))] [(12, bx [.d (DL l.1.rects_)])] (cT (cT L0)) ?_
        exact Kn.R Fm (k0 (o + (3 : Int)) h)
       ·refine AW.block (AW.SG0 Fm 2 [(8, AL i.2), (9, AL m.2), (10, vi (e.tmod (5 : Int))), (11, vi ((e.tmod (5 : Int)) + (j.tmod (3 : Int)))), (12, pt 12), (20, vi n), (21, vi o), (22, vb true), (23, vi (-1 : Int))] [(12, bx [.d (DL l.1.rects_)])] ?_)
        refine AW.join (r := r) (fun z : Bool => law15_HistorySame_k5 F l n o P z) (fun z => [(8, AL i.2), (9, AL m.2), (10, vi (e.tmod (5 : Int))), (11, vi ((e.tmod (5 : Int)) + (j.tmod (3 : Int)))), (12, pt 12), (20, vi n), (21, vi o), (22, vb z)]) (fun z => [(12, bx [.d (DL l.1.rects_)])]) (fun W h => ?_) (fun i1 a0 => ?_)
        ·refine AW.seq ?_
         obtain ⟨O, Y0, h⟩ := bS h
         refine AW.G Fm [.s, .s, .s, .k (cE [] [] (vb O) [] []), .s, .k (sE (vb (!(O == W))))] (fun K => K 3 ∧ K 5 ∧ True) [(8, AL i.2), (9, AL m.2), (10, vi (e.tmod (5 : Int))), (11, vi ((e.tmod (5 : Int)) + (j.tmod (3 : Int)))), (12, pt 12), (20, vi n), (21, vi o), (142, vb (!(O == W)))] [(12, bx [.d (DL l.1.rects_)])] ⟨KAt.CC (ref04_Has_spec Y0) Tryz.call20 [], KAt.eqb (t := 4) (by kernel_rfl) false (a := O) (b := W) rfl rfl (by kernel_rfl) (by kernel_rfl) (by kernel_rfl), ⟨⟩⟩ ?_
         refine AW.cN h (fun w0 h => ?_) (fun w0 h => ?_)
         ·refine AW.SG0 Fm 1 [(6, vb false)] [] ?_
          refine AW.ret ?_
          obtain rfl := Option.some.inj h
          exact Kn.D Fm
         ·exact AW.skip (Kn.R Fm (m0 () h))
        ·refine AW.SG0 Fm 2 [(8, AL i.2), (9, AL m.2), (10, vi (e.tmod (5 : Int))), (11, vi ((e.tmod (5 : Int)) + (j.tmod (3 : Int)))), (12, pt 12), (20, vi n), (21, vi o), (22, vb true), (23, vi (-1 : Int)), (24, vi (e.tmod (5 : Int)))] [(12, bx [.d (DL l.1.rects_)])] ?_
         refine AW.block (AW.loopF (E' := fun z => [(8, AL i.2), (9, AL m.2), (10, vi (e.tmod (5 : Int))), (11, vi ((e.tmod (5 : Int)) + (j.tmod (3 : Int)))), (12, pt 12), (20, vi n), (21, vi o), (22, vb true), (23, vi z.1), (24, vi z.2)]) (S' := fun z => [(12, bx [.d (DL l.1.rects_)])]) (fun i0 z d1 l0 h => ?_) h)
         obtain ⟨q, u⟩ := z
         refine AW.seq (AW.SG0 Fm 3 [(8, AL i.2), (9, AL m.2), (10, vi (e.tmod (5 : Int))), (11, vi ((e.tmod (5 : Int)) + (j.tmod (3 : Int)))), (12, pt 12), (20, vi n), (21, vi o), (22, vb true), (23, vi q), (24, vi u), (109, vb (decide (u ≤ ((e.tmod (5 : Int)) + (j.tmod (3 : Int))))))] [(12, bx [.d (DL l.1.rects_)])] ?_)
         refine AW.cN h (fun t0 h => ?_) (fun t0 h => ?_)
         ·refine AW.skip (AW.seq (AW.block (AW.seq ?_)))
          obtain ⟨p, X0, h⟩ := bS h
          refine AW.G Fm [.s, .s, .s, .s, .k (cE [] [] (vi p) [] []), .s] (fun K => K 4 ∧ True) [(8, AL i.2), (9, AL m.2), (10, vi (e.tmod (5 : Int))), (11, vi ((e.tmod (5 : Int)) + (j.tmod (3 : Int)))), (12, pt 12), (20, vi n), (21, vi o), (22, vb true), (23, vi q), (24, vi u), (25, vi p)] [(12, bx [.d (DL l.1.rects_)])] ⟨KAt.CC (ref15_At_spec X0) Tryz.call25 [], ⟨⟩⟩ ?_
          refine AW.seq (AW.join (r := r) (fun z : Bool => law15_HistorySame_k4 F i l n o u p i0 P z) (fun z => [(8, AL i.2), (9, AL m.2), (10, vi (e.tmod (5 : Int))), (11, vi ((e.tmod (5 : Int)) + (j.tmod (3 : Int)))), (12, pt 12), (20, vi n), (21, vi o), (22, vb true), (24, vi u), (25, vi p), (131, vb z)]) (fun z => [(12, bx [.d (DL l.1.rects_)])]) (fun n1 h => ?_) (fun e1 T => ?_))
          ·refine AW.cN h (fun u0 h => ?_) (fun u0 h => ?_)
           ·refine AW.SG0 Fm 1 [(8, AL i.2), (9, AL m.2), (10, vi (e.tmod (5 : Int))), (11, vi ((e.tmod (5 : Int)) + (j.tmod (3 : Int)))), (12, pt 12), (20, vi n), (21, vi o), (22, vb false)] [(12, bx [.d (DL l.1.rects_)])] ?_
            exact AW.exit (Kn.R Fm (a0 false h))
           ·refine AW.skip ?_
            obtain ⟨I0, h⟩ := gS h
            refine AW.pN Fm [.s, .s, .s, .s, .s, .s] [(8, AL i.2), (9, AL m.2), (10, vi (e.tmod (5 : Int))), (11, vi ((e.tmod (5 : Int)) + (j.tmod (3 : Int)))), (12, pt 12), (20, vi n), (21, vi o), (22, vb true), (23, vi (gl i.2 p.toNat).family_), (24, vi u)] [(12, bx [.d (DL l.1.rects_)])] (cT I0) ?_
            obtain ⟨K0, h⟩ := gS h
            refine AW.pN Fm [.s, .s, .s] [(8, AL i.2), (9, AL m.2), (10, vi (e.tmod (5 : Int))), (11, vi ((e.tmod (5 : Int)) + (j.tmod (3 : Int)))), (12, pt 12), (20, vi n), (21, vi o), (22, vb true), (23, vi (gl i.2 p.toNat).family_), (24, vi (u + 1))] [(12, bx [.d (DL l.1.rects_)])] (cT (cT K0)) ?_
            exact Kn.R Fm (l0 ((gl i.2 p.toNat).family_, (u + 1)) h)
          ·rcases br_or h with ⟨M, h⟩ | ⟨M, h⟩
           ·refine AW.pN Fm [.s, .s, .w (vb true), .s, .s, .s, .s, .s, .s, .s, .s, .s, .s, .s, .s] [(8, AL i.2), (9, AL m.2), (10, vi (e.tmod (5 : Int))), (11, vi ((e.tmod (5 : Int)) + (j.tmod (3 : Int)))), (12, pt 12), (20, vi n), (21, vi o), (22, vb true), (24, vi u), (25, vi p), (131, vb true)] [(12, bx [.d (DL l.1.rects_)])] (cT (ALe.bool M)) ?_
            exact Kn.R Fm (T true h)
           ·rcases br_or h with ⟨V, h⟩ | ⟨V, h⟩
            ·obtain ⟨H0, h⟩ := gS h
             refine AW.pN Fm [.s, .s, .w (vb false), .s, .s, .w (vb true), .s, .s, .s, .s, .s, .s, .s, .s, .s] [(8, AL i.2), (9, AL m.2), (10, vi (e.tmod (5 : Int))), (11, vi ((e.tmod (5 : Int)) + (j.tmod (3 : Int)))), (12, pt 12), (20, vi n), (21, vi o), (22, vb true), (24, vi u), (25, vi p), (120, vi q), (121, vb (decide ((0 : Int) ≤ q))), (122, vb true), (123, AL i.2), (124, vi p), (125, .v (.c (.elm [.str (gl i.2 p.toNat).name_, .int .i64 (gl i.2 p.toNat).family_, .int .i64 (gl i.2 p.toNat).marks_]))), (126, .v (.c (.elm [.int .i64 (gl i.2 p.toNat).family_, .int .i64 (gl i.2 p.toNat).marks_]))), (127, vi (gl i.2 p.toNat).family_), (128, vi q), (129, vb (((gl i.2 p.toNat).family_) != q)), (130, vb (((gl i.2 p.toNat).family_) != q)), (131, vb (((gl i.2 p.toNat).family_) != q))] [(12, bx [.d (DL l.1.rects_)])] (cA (ALe.bool M) (cA (ALe.bool V) (cT H0))) ?_
             exact Kn.R Fm (T (((gl i.2 p.toNat).family_) != q) h)
            ·refine AW.pN Fm [.s, .s, .w (vb false), .s, .s, .w (vb false), .s, .s, .s, .s, .s, .s, .s, .s, .s] [(8, AL i.2), (9, AL m.2), (10, vi (e.tmod (5 : Int))), (11, vi ((e.tmod (5 : Int)) + (j.tmod (3 : Int)))), (12, pt 12), (20, vi n), (21, vi o), (22, vb true), (24, vi u), (25, vi p), (120, vi q), (121, vb (decide ((0 : Int) ≤ q))), (122, vb false), (130, vb false), (131, vb false)] [(12, bx [.d (DL l.1.rects_)])] (cA (ALe.bool M) (cT (ALe.bool V))) ?_
             exact Kn.R Fm (T false h)
         ·exact AW.exit (Kn.R Fm (a0 true h))
      ·exact AW.exit (Kn.R Fm (n0 () h))
    ·exact AW.exit (Kn.R Fm (o0 () h))
 ·rcases br_or h with ⟨A, h⟩ | ⟨A, h⟩
  ·refine AW.pN Fm [.s, .s, .w (vb true), .s, .s, .s, .s, .s, .s, .s, .s, .s, .s, .s, .s, .s, .s, .s, .s, .s, .s, .s, .s, .s, .s, .s] [(8, AL i.2), (9, AL m.2), (10, vi (e.tmod (5 : Int))), (11, vi ((e.tmod (5 : Int)) + (j.tmod (3 : Int)))), (12, pt 12), (97, vb true)] [(12, bx [.d (DL l.1.rects_)])] (cT (ALe.bool A)) ?_
   exact Kn.R Fm (B true h)
  ·rcases br_or h with ⟨E, h⟩ | ⟨E, h⟩
   ·refine AW.pN Fm [.s, .s, .w (vb false), .s, .s, .s, .w (vb true), .s, .s, .s, .s, .s, .s, .s, .s, .s, .s, .s, .s, .s, .s, .s, .s, .s, .s, .s] [(8, AL i.2), (9, AL m.2), (10, vi (e.tmod (5 : Int))), (11, vi ((e.tmod (5 : Int)) + (j.tmod (3 : Int)))), (12, pt 12), (97, vb true)] [(12, bx [.d (DL l.1.rects_)])] (cA (ALe.bool A) (cT (ALe.bool E))) ?_
    exact Kn.R Fm (B true h)
   ·rcases br_or h with ⟨I, h⟩ | ⟨I, h⟩
    ·refine AW.pN Fm [.s, .s, .w (vb false), .s, .s, .s, .w (vb false), .s, .s, .s, .w (vb true), .s, .s, .s, .s, .s, .s, .s, .s, .s, .s, .s, .s, .s, .s, .s] [(8, AL i.2), (9, AL m.2), (10, vi (e.tmod (5 : Int))), (11, vi ((e.tmod (5 : Int)) + (j.tmod (3 : Int)))), (12, pt 12), (97, vb true)] [(12, bx [.d (DL l.1.rects_)])] (cA (ALe.bool A) (cA (ALe.bool E) (cT (ALe.bool I)))) ?_
     exact Kn.R Fm (B true h)
    ·rcases br_or h with ⟨L, h⟩ | ⟨L, h⟩
     ·refine AW.pN Fm [.s, .s, .w (vb false), .s, .s, .s, .w (vb false), .s, .s, .s, .w (vb false), .s, .s, .s, .w (vb true), .s, .s, .s, .s, .s, .s, .s, .s, .s, .s, .s] [(8, AL i.2), (9, AL m.2), (10, vi (e.tmod (5 : Int))), (11, vi ((e.tmod (5 : Int)) + (j.tmod (3 : Int)))), (12, pt 12), (97, vb true)] [(12, bx [.d (DL l.1.rects_)])] (cA (ALe.bool A) (cA (ALe.bool E) (cA (ALe.bool I) (cT (ALe.bool L))))) ?_
      exact Kn.R Fm (B true h)
     ·obtain ⟨c0, b0, h⟩ := bS h
      rcases br_or h with ⟨U, h⟩ | ⟨U, h⟩
      ·refine AW.G Fm [.s, .s, .w (vb false), .s, .s, .s, .w (vb false), .s, .s, .s, .w (vb false), .s, .s, .s, .w (vb false), .s, .s, .k (cE [] [] (vb c0) [] []), .s, .s, .w (vb true), .s, .s, .s, .s, .s] (fun K => _ ∧ _ ∧ _ ∧ _ ∧ K 17 ∧ _ ∧ True) [(8, AL i.2), (9, AL m.2), (10, vi (e.tmod (5 : Int))), (11, vi ((e.tmod (5 : Int)) + (j.tmod (3 : Int)))), (12, pt 12), (97, vb true)] [(12, bx [.d (DL l.1.rects_)])] ⟨ALe.bool A, ALe.bool E, ALe.bool I, ALe.bool L, KAt.CC (ref04_Within_spec b0) Tryz.call36 [], ALe.bool U, ⟨⟩⟩ ?_
       exact Kn.R Fm (B true h)
      ·obtain ⟨Z, W0, h⟩ := bS h
       refine AW.G Fm [.s, .s, .w (vb false), .s, .s, .s, .w (vb false), .s, .s, .s, .w (vb false), .s, .s, .s, .w (vb false), .s, .s, .k (cE [] [] (vb c0) [] []), .s, .s, .w (vb false), .s, .s, .k (cE [] [] (vb Z) [] []), .s, .s] (fun K => _ ∧ _ ∧ _ ∧ _ ∧ K 17 ∧ _ ∧ K 23 ∧ True) [(8, AL i.2), (9, AL m.2), (10, vi (e.tmod (5 : Int))), (11, vi ((e.tmod (5 : Int)) + (j.tmod (3 : Int)))), (12, pt 12), (97, vb (!Z))] [(12, bx [.d (DL l.1.rects_)])] ⟨ALe.bool A, ALe.bool E, ALe.bool I, ALe.bool L, KAt.CC (ref04_Within_spec b0) Tryz.call36 [], ALe.bool U, KAt.CC (ref04_Same_spec W0) Tryz.call42 [], ⟨⟩⟩ ?_
       exact Kn.R Fm (B (!Z) h)
end Go.Ab
end
