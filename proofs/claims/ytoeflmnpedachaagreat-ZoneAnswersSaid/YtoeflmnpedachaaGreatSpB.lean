/- The code follows the plain programs: whenever the plain program has a result. -/
import Derived.Test.YtoeflmnpedachaaGreatSpA
import Derived.Test.YtoeflmnpedachaaGreatBaA
set_option linter.unusedVariables false
set_option linter.unusedSimpArgs false
section
namespace Go.Ab
open Go.Proofs
set_option linter.unusedVariables false
set_option maxRecDepth 100000
theorem keep_Tape_Rect_spec {F : Nat} {c : Tape} {d : Int} {r : Tape × Rect} (h : keep_Tape_Rect F c d = some r) :
  FSpec Tryz.prog 90 [pt 0, vi d] [(0, bx (gC c))] (gE r.2) [(0, bx (gC r.1))] := by
 refine FI Tryz.func90 prog_mixed prog_lay fun C Fm => ?_
 unfold keep_Tape_Rect at h
 refine AW.SG0 Fm 1 [(0, pt 0), (1, vi d), (4, pt 4)] [(0, bx (gC c)), (4, bx [ci 0, ci 0, ci 0, ci 0])] ?_
 refine AW.seq ?_
 obtain ⟨b, q, h⟩ := bS h
 obtain ⟨a, t, h⟩ := bS h
 refine AW.G Fm [.s, .s, .k (cE [(0, 0)] [] (vi b.2) [(0, bx (gC c))] [(0, bx (gC b.1))]), .s, .s, .k (cE [(0, 0)] [] (vi a.2) [(0, bx (gC b.1))] [(0, bx (gC a.1))]), .s, .s] (fun K => K 2 ∧ K 5 ∧ True) [(0, pt 0), (1, vi d), (4, pt 4), (5, vi b.2), (6, vi a.2)] [(0, bx (gC a.1)), (4, bx [ci 0, ci 0, ci 0, ci 0])] ⟨KAt.CC (keep_Tape_Next_spec q) Tryz.call16 [(0, 0)], KAt.CC (keep_Tape_Next_spec t) Tryz.call16 [(0, 0)], ⟨⟩⟩ ?_
 refine AW.seq ?_
 obtain ⟨j, l, h⟩ := gS2 h
 obtain ⟨e, u, h⟩ := bS h
 obtain ⟨m, n, o, h⟩ := gS3 h
 obtain ⟨i, w, h⟩ := bS h
 obtain ⟨p, h⟩ := gS h
 refine AW.G Fm [.s, .s, .s, .s, .s, .s, .s, .s, .k (cE [(0, 0)] [] (vi e.2) [(0, bx (gC a.1))] [(0, bx (gC e.1))]), .s, .s, .s, .s, .s, .s, .s, .k (cE [(0, 0)] [] (vi i.2) [(0, bx (gC e.1))] [(0, bx (gC i.1))]), .s, .s, .s] (fun K => (_ ∧ True) ∧ (_ ∧ True) ∧ K 8 ∧ (_ ∧ True) ∧ (_ ∧ True) ∧ (_ ∧ True) ∧ K 16 ∧ (_ ∧ True) ∧ True) [(4, pt 4)] [(0, bx (gC i.1)), (4, bx [ci b.2, ci a.2, ci ((b.2 + 1) + e.2), ci ((a.2 + 1) + i.2)])] ⟨⟨j, ⟨⟩⟩, ⟨l, ⟨⟩⟩, KAt.CC (keep_Tape_Next_spec u) Tryz.call16 [(0, 0)], ⟨m, ⟨⟩⟩, ⟨n, ⟨⟩⟩, ⟨o, ⟨⟩⟩, KAt.CC (keep_Tape_Next_spec w) Tryz.call16 [(0, 0)], ⟨p, ⟨⟩⟩, ⟨⟩⟩ ?_
 refine AW.ret ?_
 obtain rfl := Option.some.inj h
 exact Kn.D Fm
theorem ref04_Bound_spec {F : Nat} {a : (List Rect)} {r : Region × Int} (h : ref04_Bound F a = some r) :
  FSpec Tryz.prog 128 [AL a] [] (.t [.g [.d (DL (α := Rect) r.1.rects_)], .c (ci r.2)]) [] := by
 refine FI Tryz.func128 prog_mixed prog_lay fun C Fm => ?_
 unfold ref04_Bound at h
 refine AW.SG0 Fm 2 [(0, AL a), (2, pt 2)] [(2, bx [.fl 0 fun _ => []])] ?_
 refine AW.seq (AW.SG0 Fm 3 [(0, AL a), (2, pt 2), (6, vb (decide ((120 : Int) < (lI a))))] [(2, bx [.fl 0 fun _ => []])] ?_)
 refine AW.cN h (fun b h => ?_) (fun b h => ?_)
 ·refine AW.SP Fm [.w (.v (.g [.d (DL (α := Rect) [])])), .s, .s] [(2, pt 2), (3, vi 1)] [(2, bx [.d (DL (α := Rect) [])])] (cT (ALe.g ⟨CLe.fl .nil, ⟨⟩⟩ : ALe (.v (.g [.fl 0 fun _ => []])) (.v (.g [.d (DL (α := Rect) [])])))) ?_
  refine AW.ret ?_
  obtain rfl := Option.some.inj h
  exact Kn.D Fm
 ·refine AW.skip (AW.SG0 Fm 4 [(2, pt 2), (3, vi 0)] [(2, bx [.d (DL a)])] ?_)
  refine AW.ret ?_
  obtain rfl := Option.some.inj h
  exact Kn.D Fm
theorem ref04_Of_spec {F : Nat} {a : (List Rect)} {r : Region × Int} (h : ref04_Of F a = some r) :
  FSpec Tryz.prog 91 [AL a] [] (.t [.g [.d (DL (α := Rect) r.1.rects_)], .c (ci r.2)]) [] := by
 refine FI Tryz.func91 prog_mixed prog_lay fun C Fm => ?_
 unfold ref04_Of at h
 refine AW.SG0 Fm 2 [(0, AL a), (2, pt 2)] [(2, bx [.fl 0 fun _ => []])] ?_
 refine AW.seq (AW.SG0 Fm 3 [(0, AL a), (2, pt 2), (8, vb (decide ((120 : Int) < (lI a))))] [(2, bx [.fl 0 fun _ => []])] ?_)
 refine AW.cN h (fun m h => ?_) (fun m h => ?_)
 ·refine AW.SP Fm [.w (.v (.g [.d (DL (α := Rect) [])])), .s, .s] [(2, pt 2), (3, vi 1)] [(2, bx [.d (DL (α := Rect) [])])] (cT (ALe.g ⟨CLe.fl .nil, ⟨⟩⟩ : ALe (.v (.g [.fl 0 fun _ => []])) (.v (.g [.d (DL (α := Rect) [])])))) ?_
  refine AW.ret ?_
  obtain rfl := Option.some.inj h
  exact Kn.D Fm
 ·refine AW.skip (AW.join (r := r) (fun z : Unit => ref04_Of_k1 F a) (fun z => [(0, AL a), (2, pt 2)]) (fun z => [(2, bx [.fl 0 fun _ => []])]) (fun z h => ?_) (fun I l => ?_))
  ·refine AW.seq ?_
   obtain ⟨E, A, h⟩ := bS h
   obtain ⟨e, B, h⟩ := bS h
   refine AW.G Fm [.s, .k (cE [] [] (AL E) [] []), .k (cE [] [] (.t [.g [.d (DL e.1.rects_)], .c (ci e.2)]) [] []), .s, .s, .s, .s] (fun K => K 1 ∧ K 2 ∧ True) [(2, pt 2), (3, vi e.2)] [(2, bx [.d (DL e.1.rects_)])] ⟨KAt.callX (ref04_Combine_spec A) Tryz.call122 [] [] [.tmp 21, .const (.slice none 0 0), .const (.int .i64 1)] rfl (by kernel_rfl) (by kernel_rfl) (by kernel_rfl) ⟨.p, ArgT.plain (by kernel_rfl) (ALe.c (CLe.fl .nil)) (by kernel_rfl), .p, ⟨⟩⟩, KAt.CC (ref04_Bound_spec B) Tryz.call128 [], ⟨⟩⟩ ?_
   refine AW.ret ?_
   obtain rfl := Option.some.inj h
   exact Kn.D Fm
  ·refine AW.SG0 Fm 3 [(0, AL a), (2, pt 2), (10, AL a), (11, vi (lI a)), (12, vi 0)] [(2, bx [.fl 0 fun _ => []])] ?_
   refine AW.block (AW.loopF (E' := fun z => [(0, AL a), (2, pt 2), (10, AL a), (11, vi (lI a)), (12, vi z)]) (S' := fun z => [(2, bx [.fl 0 fun _ => []])]) (fun L b H j h => ?_) h)
   refine AW.SG0 Fm 1 [(0, AL a), (2, pt 2), (10, AL a), (11, vi (lI a)), (12, vi b), (13, vb (decide (b < (lI a))))] [(2, bx [.fl 0 fun _ => []])] ?_
   refine AW.seq (AW.cN h (fun n h => ?_) (fun n h => ?_))
   ·refine AW.skip (AW.seq (AW.block ?_))
    obtain ⟨q, h⟩ := gS h
    refine AW.SP Fm [.s, .s, .s, .s] [(0, AL a), (2, pt 2), (5, pt 5), (10, AL a), (11, vi (lI a)), (12, vi b)] [(2, bx [.fl 0 fun _ => []]), (5, bx [ci ((gl a b.toNat).left_), ci ((gl a b.toNat).low_), ci ((gl a b.toNat).right_), ci ((gl a b.toNat).high_)])] (cT q) ?_
    refine AW.seq ?_
    obtain ⟨i, y, h⟩ := bS h
    refine AW.G Fm [.s, .k (cE [] [] (vb i) [] []), .s] (fun K => K 1 ∧ True) [(0, AL a), (2, pt 2), (10, AL a), (11, vi (lI a)), (12, vi b), (18, vb (!i))] [(2, bx [.fl 0 fun _ => []])] ⟨KAt.CC (ref04_proper_spec y) Tryz.call170 [], ⟨⟩⟩ ?_
    refine AW.cN h (fun o h => ?_) (fun o h => ?_)
    ·refine AW.SP Fm [.w (.v (.g [.d (DL (α := Rect) [])])), .s, .s] [(2, pt 2), (3, vi 2)] [(2, bx [.d (DL (α := Rect) [])])] (cT (ALe.g ⟨CLe.fl .nil, ⟨⟩⟩ : ALe (.v (.g [.fl 0 fun _ => []])) (.v (.g [.d (DL (α := Rect) [])])))) ?_
     refine AW.ret ?_
     obtain rfl := Option.some.inj h
     exact Kn.D Fm
    ·refine AW.skip ?_
     obtain ⟨u, h⟩ := gS h
     refine AW.pN Fm [.s, .s] [(0, AL a), (2, pt 2), (10, AL a), (11, vi (lI a)), (12, vi (b + 1))] [(2, bx [.fl 0 fun _ => []])] (cT (cT u)) ?_
     exact Kn.R Fm (j (b + 1) h)
   ·exact AW.exit (Kn.R Fm (l () h))
theorem keep_Tape_Region_spec {F : Nat} {l : Tape} {b : Int} {u : Int} {r : Tape × Region} (h : keep_Tape_Region F l b u = some r) :
  FSpec Tryz.prog 17 [pt 0, vi b, vi u] [(0, bx (gC l))] (.v (.g [.d (DL (α := Rect) r.2.rects_)])) [(0, bx (gC r.1))] := by
 refine FI Tryz.func17 prog_mixed prog_lay fun C Fm => ?_
 unfold keep_Tape_Region at h
 refine AW.SG0 Fm 1 [(0, pt 0), (1, vi b), (2, vi u), (6, pt 6)] [(0, bx (gC l)), (6, bx [.fl 0 fun _ => []])] ?_
 refine AW.SW Fm [.m] (fun K => True) [(0, pt 0), (1, vi b), (2, vi u), (6, pt 6), (7, ow 7)] [(0, bx (gC l)), (6, bx [.fl 0 fun _ => []]), (7, AO (α := Rect) ([] : List Rect))] True.intro [(7, .arr 4 (0) (fun _ => []))] ⟨OLe.is ((Is.nil (α := Rect))), ⟨⟩⟩ ?_
 refine AW.join (r := r) (fun z : (List Rect) × (List Int) × Int => keep_Tape_Region_k1 F z.1 z.2.1 z.2.2) (fun z => [(6, pt 6), (7, ow 7)]) (fun z => [(0, bx [.d (DL z.2.1), ci z.2.2]), (6, bx [.fl 0 fun _ => []]), (7, AO z.1)]) (fun z h => ?_) (fun U E => ?_)
 ·obtain ⟨A, p, q⟩ := z
  refine AW.seq (Kn.r Fm [(6, pt 6), (7, ow 7)] [(7, AO A), (0, bx [.d (DL p), ci q]), (6, bx [.fl 0 fun _ => []])] (by kernel_rfl) ?_)
  refine Kn.frz [(6, pt 6), (7, AL A)] [(0, bx [.d (DL p), ci q]), (6, bx [.fl 0 fun _ => []])] (by kernel_rfl) (by kernel_rfl) (by kernel_rfl) ?_
  obtain ⟨y, P, h⟩ := bS h
  refine AW.G Fm [.s, .k (cE [] [] (.t [.g [.d (DL y.1.rects_)], .c (ci y.2)]) [] []), .s, .s, .s, .s, .s, .s] (fun K => K 1 ∧ True) [(6, pt 6), (9, pt 9)] [(0, bx [.d (DL p), ci q]), (6, bx [.fl 0 fun _ => []]), (9, bx [.d (DL y.1.rects_)])] ⟨KAt.CC (ref04_Of_spec P) Tryz.call91 [], ⟨⟩⟩ ?_
  refine AW.SG0 Fm 2 [(6, pt 6)] [(0, bx [.d (DL p), ci q]), (6, bx [.d (DL y.1.rects_)])] ?_
  refine AW.ret ?_
  obtain rfl := Option.some.inj h
  exact Kn.D Fm
 ·refine AW.seq ?_
  obtain ⟨I, h⟩ := gS h
  obtain ⟨i, N, h⟩ := bS h
  refine AW.G Fm [.s, .s, .s, .k (cE [(0, 0)] [] (vi i.2) [(0, bx (gC l))] [(0, bx (gC i.1))]), .s] (fun K => (_ ∧ True) ∧ K 3 ∧ True) [(0, pt 0), (1, vi b), (6, pt 6), (7, ow 7), (8, vi i.2)] [(0, bx (gC i.1)), (6, bx [.fl 0 fun _ => []]), (7, AO (α := Rect) ([] : List Rect))] ⟨⟨I, ⟨⟩⟩, KAt.CC (keep_Tape_Next_spec N) Tryz.call16 [(0, 0)], ⟨⟩⟩ ?_
  refine AW.block (Kn.r Fm [(0, pt 0), (1, vi b), (6, pt 6), (7, ow 7), (8, vi i.2)] [(0, bx [.d (DL i.1.l_), ci i.1.at_]), (6, bx [.fl 0 fun _ => []]), (7, AO ([] : List Rect))] (by kernel_rfl) ?_)
  refine AW.loopF (E' := fun z => [(0, pt 0), (1, vi b), (6, pt 6), (7, ow 7), (8, vi z.1)]) (S' := fun z => [(0, bx [.d (DL z.2.1), ci z.2.2.1]), (6, bx [.fl 0 fun _ => []]), (7, AO z.2.2.2)]) (fun V z T B h => ?_) h
  obtain ⟨j, n, o, e⟩ := z
  refine AW.seq (AW.SG0 Fm 2 [(0, pt 0), (1, vi b), (6, pt 6), (7, ow 7), (8, vi j), (16, vb (decide ((0 : Int) < j)))] [(0, bx [.d (DL n), ci o]), (6, bx [.fl 0 fun _ => []]), (7, AO e)] ?_)
  refine AW.cN h (fun H h => ?_) (fun H h => ?_)
  ·refine AW.skip (AW.seq (AW.block ?_))
   obtain ⟨a, O, h⟩ := bS h
   obtain ⟨L, h⟩ := gS h
   refine AW.GW Fm [.s, .s, .s, .k (cE [(0, 0)] [] (gE a.2) [(0, bx [.d (DL (α := Int) (⟨n, o⟩ : Tape).l_), ci ((⟨n, o⟩ : Tape).at_)])] [(0, bx (gC a.1))]), .w (AL (α := Rect) ([a.2] : List Rect)), .s, .s] (fun K => K 3 ∧ (ALe (.v (.c (.d (.lst 1 (litF 4 [.int .i64 a.2.left_, .int .i64 a.2.low_, .int .i64 a.2.right_, .int .i64 a.2.high_]))))) (AL (α := Rect) ([a.2] : List Rect))) ∧ (_ ∧ _ ∧ True) ∧ True) [(0, pt 0), (1, vi b), (6, pt 6), (7, ow 24), (8, vi j)] [(0, bx (gC a.1)), (6, bx [.fl 0 fun _ => []]), (24, AO (α := Rect) (e ++ ([a.2] : List Rect)))] ⟨KAt.CC (keep_Tape_Rect_spec O) Tryz.call90 [(0, 0)], ALe.lst (.lit ([a.2] : List Rect) (by kernel_rfl)), ⟨L, (Is.refl ([a.2] : List Rect) : Is (List.length (α := Rect) ([a.2] : List Rect)) (LF (α := Rect) ([a.2] : List Rect)) ([a.2] : List Rect)).len, ⟨⟩⟩, ⟨⟩⟩ [(24, .arr 4 ((List.length (α := Rect) e) + (List.length (α := Rect) ([a.2] : List Rect))) (appF (List.length (α := Rect) e) (LF (α := Rect) e) (LF (α := Rect) ([a.2] : List Rect))))] ⟨OLe.is (Is.app (Is.refl e) (Is.refl ([a.2] : List Rect))), ⟨⟩⟩ ?_
   obtain ⟨M, h⟩ := gS h
   refine AW.pN Fm [.s, .s, .s] [(0, pt 0), (1, vi b), (6, pt 6), (7, ow 24), (8, vi (j - 1))] [(0, bx (gC a.1)), (6, bx [.fl 0 fun _ => []]), (24, AO (α := Rect) (e ++ ([a.2] : List Rect)))] (cT (cT M)) ?_
   exact Kn.RE Fm [(7, 24)] (B ((j - 1), a.1.l_, a.1.at_, (e ++ ([a.2] : List Rect))) h)
  ·exact AW.exit (Kn.R Fm (E (e, n, o) h))
theorem keep_Tape_Land_spec {F : Nat} {i : Tape} {e : Int} {j : Int} {r : Tape × Region} (h : keep_Tape_Land F i e j = some r) :
  FSpec Tryz.prog 30 [pt 0, vi e, vi j] [(0, bx (gC i))] (.v (.g [.d (DL (α := Rect) r.2.rects_)])) [(0, bx (gC r.1))] := by
 refine FI Tryz.func30 prog_mixed prog_lay fun C Fm => ?_
 unfold keep_Tape_Land at h
 refine AW.SG0 Fm 1 [(0, pt 0), (1, vi e), (2, vi j), (6, pt 6)] [(0, bx (gC i)), (6, bx [.fl 0 fun _ => []])] ?_
 refine AW.seq ?_
 obtain ⟨b, n, h⟩ := bS h
 refine AW.G Fm [.s, .s, .s, .k (cE [(0, 0)] [] (.v (.g [.d (DL b.2.rects_)])) [(0, bx (gC i))] [(0, bx (gC b.1))]), .s, .s] (fun K => K 3 ∧ True) [(0, pt 0), (1, vi e), (6, pt 6), (7, pt 7)] [(0, bx (gC b.1)), (6, bx [.fl 0 fun _ => []]), (7, bx [.d (DL b.2.rects_)])] ⟨KAt.CC (keep_Tape_Region_spec n) Tryz.call17 [(0, 0)], ⟨⟩⟩ ?_
 refine AW.join (r := r) (fun z : (List Rect) × (List Int) × Int => keep_Tape_Land_k0 F z.1 z.2.1 z.2.2) (fun z => [(6, pt 6), (7, pt 7)]) (fun z => [(0, bx [.d (DL z.2.1), ci z.2.2]), (6, bx [.fl 0 fun _ => []]), (7, bx [.d (DL z.1)])]) (fun z h => ?_) (fun u l => ?_)
 ·obtain ⟨p, q, t⟩ := z
  refine AW.SG0 Fm 2 [(6, pt 6)] [(0, bx [.d (DL q), ci t]), (6, bx [.d (DL p)])] ?_
  refine AW.ret ?_
  obtain rfl := Option.some.inj h
  exact Kn.D Fm
 ·refine AW.SG0 Fm 4 [(0, pt 0), (1, vi e), (6, pt 6), (7, pt 7), (15, vb ((lI b.2.rects_) == (0 : Int)))] [(0, bx (gC b.1)), (6, bx [.fl 0 fun _ => []]), (7, bx [.d (DL b.2.rects_)])] ?_
  refine AW.cN h (fun m h => ?_) (fun m h => ?_)
  ·obtain ⟨a, o, h⟩ := bS h
   refine AW.G Fm [.s, .s, .k (cE [(0, 0)] [] (gE a.2) [(0, bx (gC b.1))] [(0, bx (gC a.1))]), .w (AL (α := Rect) ([a.2] : List Rect)), .s, .s] (fun K => K 2 ∧ (ALe (.v (.c (.d (.lst 1 (litF 4 [.int .i64 a.2.left_, .int .i64 a.2.low_, .int .i64 a.2.right_, .int .i64 a.2.high_]))))) (AL (α := Rect) ([a.2] : List Rect))) ∧ True) [(6, pt 6), (7, pt 7)] [(0, bx (gC a.1)), (6, bx [.fl 0 fun _ => []]), (7, bx [.d (DL (α := Rect) ([a.2] : List Rect))])] ⟨KAt.CC (keep_Tape_Rect_spec o) Tryz.call90 [(0, 0)], ALe.lst (.lit ([a.2] : List Rect) (by kernel_rfl)), ⟨⟩⟩ ?_
   exact Kn.R Fm (l (([a.2] : List Rect), a.1.l_, a.1.at_) h)
  ·exact AW.skip (Kn.R Fm (l (b.2.rects_, b.1.l_, b.1.at_) h))
theorem keep_Tape_Feature_spec {F : Nat} {c : Tape} {b : Int} {r : Tape × Feature} (h : keep_Tape_Feature F c b = some r) :
  FSpec Tryz.prog 69 [pt 0, vi b] [(0, bx (gC c))] (gE r.2) [(0, bx (gC r.1))] := by
 refine FI Tryz.func69 prog_mixed prog_lay fun C Fm => ?_
 unfold keep_Tape_Feature at h
 refine AW.SG0 Fm 1 [(0, pt 0), (1, vi b), (4, pt 4)] [(0, bx (gC c)), (4, bx [ci 0, ci 0, ci 0, ci 0, .fl 0 fun _ => []])] ?_
 refine AW.seq ?_
 obtain ⟨a, m, h⟩ := bS h
 refine AW.G Fm [.s, .k (cE [(0, 0)] [] (vi a.2) [(0, bx (gC c))] [(0, bx (gC a.1))]), .s] (fun K => K 1 ∧ True) [(0, pt 0), (1, vi b), (4, pt 4), (5, vi a.2)] [(0, bx (gC a.1)), (4, bx [ci 0, ci 0, ci 0, ci 0, .fl 0 fun _ => []])] ⟨KAt.CC (keep_Tape_Next_spec m) Tryz.call16 [(0, 0)], ⟨⟩⟩ ?_
 refine AW.seq ?_
 obtain ⟨e, n, h⟩ := bS h
 obtain ⟨i, o, h⟩ := bS h
 obtain ⟨l, h⟩ := gS h
 obtain ⟨j, p, h⟩ := bS h
 refine AW.G Fm [.s, .s, .k (cE [(0, 0)] [] (vi e.2) [(0, bx (gC a.1))] [(0, bx (gC e.1))]), .s, .s, .s, .k (cE [(0, 0)] [] (vi i.2) [(0, bx (gC e.1))] [(0, bx (gC i.1))]), .s, .s, .k (cE [(0, 0)] [] (.v (.g [.d (DL j.2.rects_)])) [(0, bx (gC i.1))] [(0, bx (gC j.1))]), .s, .s] (fun K => K 2 ∧ K 6 ∧ (_ ∧ True) ∧ K 9 ∧ True) [(4, pt 4)] [(0, bx (gC j.1)), (4, bx [ci b, ci e.2, ci a.2, ci (a.2 + i.2), .d (DL j.2.rects_)])] ⟨KAt.CC (keep_Tape_Next_spec n) Tryz.call16 [(0, 0)], KAt.CC (keep_Tape_Range_spec o) Tryz.call70 [(0, 0)], ⟨l, ⟨⟩⟩, KAt.CC (keep_Tape_Land_spec p) Tryz.call30 [(0, 0)], ⟨⟩⟩ ?_
 refine AW.ret ?_
 obtain rfl := Option.some.inj h
 exact Kn.D Fm
theorem ref09_one_spec {F : Nat} {a : Feature} {r : Int} (h : ref09_one F a = some r) :
  FSpec Tryz.prog 148 [gE a] [] (vi r) [] := by
 refine FI Tryz.func148 prog_mixed prog_lay fun C Fm => ?_
 unfold ref09_one at h
 refine AW.SG0 Fm 2 [(1, pt 1)] [(1, bx (gC a))] ?_
 refine AW.seq (AW.block (AW.join (r := r) (fun z : Bool => ref09_one_k0 F a z) (fun z => [(1, pt 1), (3, vb z)]) (fun z => [(1, bx (gC a))]) (fun I h => ?_) (fun A l => ?_)))
 ·refine AW.cN h (fun q h => ?_) (fun q h => ?_)
  ·refine AW.SG0 Fm 1 [(2, vi 2)] [] ?_
   refine AW.ret ?_
   obtain rfl := Option.some.inj h
   exact Kn.D Fm
  ·refine AW.join (r := r) (fun z : Bool => ref09_one_k1 F a z) (fun z => [(1, pt 1), (12, vb z)]) (fun z => [(1, bx (gC a))]) (fun L h => ?_) (fun B m => ?_)
   ·refine AW.cN h (fun t h => ?_) (fun t h => ?_)
    ·refine AW.SG0 Fm 1 [(2, vi 14)] [] ?_
     refine AW.ret ?_
     obtain rfl := Option.some.inj h
     exact Kn.D Fm
    ·refine AW.join (r := r) (fun z : Bool => ref09_one_k2 F a z) (fun z => [(1, pt 1), (21, vb z)]) (fun z => [(1, bx (gC a))]) (fun M h => ?_) (fun E c => ?_)
     ·refine AW.cN h (fun u h => ?_) (fun u h => ?_)
      ·refine AW.SG0 Fm 1 [(2, vi 9)] [] ?_
       refine AW.ret ?_
       obtain rfl := Option.some.inj h
       exact Kn.D Fm
      ·refine AW.join (r := r) (fun z : Bool => ref09_one_k3 F z) (fun z => [(37, vb z)]) (fun z => []) (fun N h => ?_) (fun H n => ?_)
       ·refine AW.cN h (fun y h => ?_) (fun y h => ?_)
        ·refine AW.SG0 Fm 1 [(2, vi 7)] [] ?_
         refine AW.ret ?_
         obtain rfl := Option.some.inj h
         exact Kn.D Fm
        ·refine AW.skip (AW.SG0 Fm 1 [(2, vi 0)] [] ?_)
         refine AW.ret ?_
         obtain rfl := Option.some.inj h
         exact Kn.D Fm
       ·obtain ⟨p, o, h⟩ := bS h
        rcases br_or h with ⟨j, h⟩ | ⟨j, h⟩
        ·refine AW.G Fm [.s, .s, .k (cE [] [] (vb p) [] []), .s, .w (vb true), .s, .s, .s, .s, .s, .s, .s] (fun K => K 2 ∧ _ ∧ True) [(37, vb true)] [] ⟨KAt.CC (ref04_Valid_spec o) Tryz.call107 [], ALe.bool j, ⟨⟩⟩ ?_
         exact Kn.R Fm (n true h)
        ·refine AW.G Fm [.s, .s, .k (cE [] [] (vb p) [] []), .s, .w (vb false), .s, .s, .s, .s, .s, .s, .s] (fun K => K 2 ∧ _ ∧ True) [(37, vb ((lI a.region_.rects_) == (0 : Int)))] [] ⟨KAt.CC (ref04_Valid_spec o) Tryz.call107 [], ALe.bool j, ⟨⟩⟩ ?_
         exact Kn.R Fm (n ((lI a.region_.rects_) == (0 : Int)) h)
     ·rcases br_or h with ⟨b, h⟩ | ⟨b, h⟩
      ·refine AW.pN Fm [.s, .s, .s, .w (vb true), .s, .s, .s, .s, .s, .s, .s, .s, .s, .s, .s, .s] [(1, pt 1), (21, vb true)] [(1, bx (gC a))] (cT (ALe.bool b)) ?_
       exact Kn.R Fm (c true h)
      ·rcases br_or h with ⟨i, h⟩ | ⟨i, h⟩
       ·refine AW.pN Fm [.s, .s, .s, .w (vb false), .s, .s, .s, .s, .s, .s, .w (vb true), .s, .s, .s, .s, .s] [(1, pt 1), (21, vb true)] [(1, bx (gC a))] (cA (ALe.bool b) (cT (ALe.bool i))) ?_
        exact Kn.R Fm (c true h)
       ·refine AW.pN Fm [.s, .s, .s, .w (vb false), .s, .s, .s, .s, .s, .s, .w (vb false), .s, .s, .s, .s, .s] [(1, pt 1), (21, vb (decide ((36865 : Int) < a.until_)))] [(1, bx (gC a))] (cA (ALe.bool b) (cT (ALe.bool i))) ?_
        exact Kn.R Fm (c (decide ((36865 : Int) < a.until_)) h)
   ·rcases br_or h with ⟨e, h⟩ | ⟨e, h⟩
    ·refine AW.pN Fm [.s, .s, .s, .w (vb true), .s, .s, .s, .s, .s] [(1, pt 1), (12, vb true)] [(1, bx (gC a))] (cT (ALe.bool e)) ?_
     exact Kn.R Fm (m true h)
    ·refine AW.pN Fm [.s, .s, .s, .w (vb false), .s, .s, .s, .s, .s] [(1, pt 1), (12, vb (decide ((15 : Int) < a.kind_)))] [(1, bx (gC a))] (cT (ALe.bool e)) ?_
     exact Kn.R Fm (m (decide ((15 : Int) < a.kind_)) h)
 ·rcases br_or h with ⟨d, h⟩ | ⟨d, h⟩
  ·refine AW.pN Fm [.s, .s, .s, .w (vb true), .s, .s, .s, .s, .s] [(1, pt 1), (3, vb true)] [(1, bx (gC a))] (cT (ALe.bool d)) ?_
   exact Kn.R Fm (l true h)
  ·refine AW.pN Fm [.s, .s, .s, .w (vb false), .s, .s, .s, .s, .s] [(1, pt 1), (3, vb (decide ((1073741824 : Int) < a.number_)))] [(1, bx (gC a))] (cT (ALe.bool d)) ?_
   exact Kn.R Fm (l (decide ((1073741824 : Int) < a.number_)) h)
theorem ref09_Check_spec {F : Nat} {a : (List Feature)} {r : Int} (h : ref09_Check F a = some r) :
  FSpec Tryz.prog 72 [AL a] [] (vi r) [] := by
 refine FI Tryz.func72 prog_mixed prog_lay fun C Fm => ?_
 unfold ref09_Check at h
 refine AW.SG0 Fm 1 [(0, AL a)] [] ?_
 refine AW.seq (AW.SG0 Fm 3 [(0, AL a), (8, vb (decide ((60 : Int) < (lI a))))] [] ?_)
 refine AW.cN h (fun o h => ?_) (fun o h => ?_)
 ·refine AW.SG0 Fm 1 [(2, vi 1)] [] ?_
  refine AW.ret ?_
  obtain rfl := Option.some.inj h
  exact Kn.D Fm
 ·refine AW.skip (AW.join (r := r) (fun z : Unit => ref09_Check_k2 F) (fun z => []) (fun z => []) (fun z h => ?_) (fun L n => ?_))
  ·refine AW.SG0 Fm 1 [(2, vi 0)] [] ?_
   refine AW.ret ?_
   obtain rfl := Option.some.inj h
   exact Kn.D Fm
  ·refine AW.SG0 Fm 3 [(0, AL a), (9, AL a), (10, vi (lI a)), (11, vi 0)] [] ?_
   refine AW.block (AW.loopF (E' := fun z => [(0, AL a), (9, AL a), (10, vi (lI a)), (11, vi z)]) (S' := fun z => []) (fun l b H m h => ?_) h)
   refine AW.SG0 Fm 1 [(0, AL a), (9, AL a), (10, vi (lI a)), (11, vi b), (12, vb (decide (b < (lI a))))] [] ?_
   refine AW.seq (AW.cN h (fun p h => ?_) (fun p h => ?_))
   ·refine AW.skip (AW.seq (AW.block ?_))
    obtain ⟨u, h⟩ := gS h
    refine AW.SP Fm [.s, .s, .s, .s, .s, .s] [(0, AL a), (3, vi b), (4, pt 4), (9, AL a), (10, vi (lI a)), (11, vi b)] [(4, bx [ci ((gl a b.toNat).number_), ci ((gl a b.toNat).kind_), ci ((gl a b.toNat).from_), ci ((gl a b.toNat).until_), .d (DL (α := Rect) (gl a b.toNat).region_.rects_)])] (cT u) ?_
    refine AW.seq (AW.seq ?_)
    obtain ⟨e, E, h⟩ := bS h
    refine AW.G Fm [.s, .k (cE [] [] (vi e) [] []), .s] (fun K => K 1 ∧ True) [(0, AL a), (3, vi b), (4, pt 4), (5, vi e), (9, AL a), (10, vi (lI a)), (11, vi b)] [(4, bx [ci ((gl a b.toNat).number_), ci ((gl a b.toNat).kind_), ci ((gl a b.toNat).from_), ci ((gl a b.toNat).until_), .d (DL (α := Rect) (gl a b.toNat).region_.rects_)])] ⟨KAt.CC (ref09_one_spec E) Tryz.call148 [], ⟨⟩⟩ ?_
    refine AW.SG0 Fm 2 [(0, AL a), (3, vi b), (4, pt 4), (5, vi e), (9, AL a), (10, vi (lI a)), (11, vi b), (19, vb (e != (0 : Int)))] [(4, bx [ci ((gl a b.toNat).number_), ci ((gl a b.toNat).kind_), ci ((gl a b.toNat).from_), ci ((gl a b.toNat).until_), .d (DL (α := Rect) (gl a b.toNat).region_.rects_)])] ?_
    refine AW.cN h (fun q h => ?_) (fun q h => ?_)
    ·refine AW.SG0 Fm 2 [(2, vi e)] [] ?_
     refine AW.ret ?_
     obtain rfl := Option.some.inj h
     exact Kn.D Fm
    ·refine AW.skip (AW.join (r := r) (fun z : Bool => ref09_Check_k1 F b l z) (fun z => [(0, AL a), (9, AL a), (10, vi (lI a)), (11, vi b), (33, vb z)]) (fun z => []) (fun M h => ?_) (fun I j => ?_))
     ·refine AW.cN h (fun t h => ?_) (fun t h => ?_)
      ·refine AW.SG0 Fm 1 [(2, vi 3)] [] ?_
       refine AW.ret ?_
       obtain rfl := Option.some.inj h
       exact Kn.D Fm
      ·refine AW.skip ?_
       obtain ⟨B, h⟩ := gS h
       refine AW.pN Fm [.s, .s] [(0, AL a), (9, AL a), (10, vi (lI a)), (11, vi (b + 1))] [] (cT (cT B)) ?_
       exact Kn.R Fm (m (b + 1) h)
     ·rcases br_or h with ⟨i, h⟩ | ⟨i, h⟩
      ·obtain ⟨y, A, h⟩ := gS2 h
       refine AW.pN Fm [.s, .s, .w (vb true), .s, .s, .s, .s, .s, .s, .s, .s, .s, .s] [(0, AL a), (9, AL a), (10, vi (lI a)), (11, vi b), (24, pt 4), (25, vi (gl a b.toNat).number_), (26, AL a), (27, vi b), (28, vi (b - 1)), (29, .v (.c (.elm [.int .i64 (gl a (b - 1).toNat).number_, .int .i64 (gl a (b - 1).toNat).kind_, .int .i64 (gl a (b - 1).toNat).from_, .int .i64 (gl a (b - 1).toNat).until_, DL (α := Rect) (gl a (b - 1).toNat).region_.rects_]))), (30, .v (.c (.elm [.int .i64 (gl a (b - 1).toNat).number_, .int .i64 (gl a (b - 1).toNat).kind_, .int .i64 (gl a (b - 1).toNat).from_, .int .i64 (gl a (b - 1).toNat).until_, DL (α := Rect) (gl a (b - 1).toNat).region_.rects_]))), (31, vi (gl a (b - 1).toNat).number_), (32, vb (decide (((gl a b.toNat).number_) ≤ ((gl a (b - 1).toNat).number_)))), (33, vb (decide (((gl a b.toNat).number_) ≤ ((gl a (b - 1).toNat).number_))))] [(4, bx [ci ((gl a b.toNat).number_), ci ((gl a b.toNat).kind_), ci ((gl a b.toNat).from_), ci ((gl a b.toNat).until_), .d (DL (α := Rect) (gl a b.toNat).region_.rects_)])] (cA (ALe.bool i) (cA (cT y) (cT A))) ?_
       exact Kn.R Fm (j (decide (((gl a b.toNat).number_) ≤ ((gl a (b - 1).toNat).number_))) h)
      ·refine AW.pN Fm [.s, .s, .w (vb false), .s, .s, .s, .s, .s, .s, .s, .s, .s, .s] [(0, AL a), (9, AL a), (10, vi (lI a)), (11, vi b), (33, vb false)] [] (cT (ALe.bool i)) ?_
       exact Kn.R Fm (j false h)
   ·exact AW.exit (Kn.R Fm (n () h))
theorem keep_Tape_One_spec {F : Nat} {a : Tape} {b : Int} {r : Tape × Bool} (h : keep_Tape_One F a b = some r) :
  FSpec Tryz.prog 44 [pt 0, vi b] [(0, bx (gC a))] (vb r.2) [(0, bx (gC r.1))] := by
 refine FI Tryz.func44 prog_mixed prog_lay fun C Fm => ?_
 unfold keep_Tape_One at h
 refine AW.SG0 Fm 1 [(0, pt 0), (1, vi b)] [(0, bx (gC a))] ?_
 refine AW.seq ?_
 obtain ⟨c, e, h⟩ := bS h
 obtain ⟨d, h⟩ := gS h
 refine AW.G Fm [.s, .s, .k (cE [(0, 0)] [] (vi c.2) [(0, bx (gC a))] [(0, bx (gC c.1))]), .s, .s, .s, .s] (fun K => K 2 ∧ (_ ∧ True) ∧ True) [(4, vb (c.2 == (b - 1)))] [(0, bx (gC c.1))] ⟨KAt.CC (keep_Tape_Next_spec e) Tryz.call16 [(0, 0)], ⟨d, ⟨⟩⟩, ⟨⟩⟩ ?_
 refine AW.ret ?_
 obtain rfl := Option.some.inj h
 exact Kn.D Fm
theorem keep_Tape_Broken_spec {F : Nat} {p : Tape} {L : Int} {M : Int} {r : Tape × Region} (h : keep_Tape_Broken F p L M = some r) :
  FSpec Tryz.prog 46 [pt 0, vi L, vi M] [(0, bx (gC p))] (.v (.g [.d (DL (α := Rect) r.2.rects_)])) [(0, bx (gC r.1))] := by
 refine FI Tryz.func46 prog_mixed prog_lay fun C Fm => ?_
 unfold keep_Tape_Broken at h
 refine AW.SG0 Fm 1 [(0, pt 0), (1, vi L), (2, vi M), (6, pt 6)] [(0, bx (gC p)), (6, bx [.fl 0 fun _ => []])] ?_
 refine AW.seq ?_
 obtain ⟨a, e0, h⟩ := bS h
 refine AW.G Fm [.s, .s, .s, .k (cE [(0, 0)] [] (.v (.g [.d (DL a.2.rects_)])) [(0, bx (gC p))] [(0, bx (gC a.1))]), .s, .s] (fun K => K 3 ∧ True) [(0, pt 0), (6, pt 6), (7, pt 7)] [(0, bx (gC a.1)), (6, bx [.fl 0 fun _ => []]), (7, bx [.d (DL a.2.rects_)])] ⟨KAt.CC (keep_Tape_Region_spec e0) Tryz.call17 [(0, 0)], ⟨⟩⟩ ?_
 refine AW.seq (AW.join (r := r) (fun z : Bool × (List Int) × Int => keep_Tape_Broken_k0 F a z.1 z.2.1 z.2.2) (fun z => [(0, pt 0), (6, pt 6), (7, pt 7), (22, vb z.1)]) (fun z => [(0, bx [.d (DL z.2.1), ci z.2.2]), (6, bx [.fl 0 fun _ => []]), (7, bx [.d (DL a.2.rects_)])]) (fun z h => ?_) (fun l0 N => ?_))
 ·obtain ⟨n0, n, o⟩ := z
  refine AW.cN h (fun W h => ?_) (fun W h => ?_)
  ·refine AW.SG0 Fm 2 [(6, pt 6)] [(0, bx [.d (DL n), ci o]), (6, bx [.d (DL a.2.rects_)])] ?_
   refine AW.ret ?_
   obtain rfl := Option.some.inj h
   exact Kn.D Fm
  ·refine AW.skip ?_
   obtain ⟨b0, h⟩ := gS h
   refine AW.SV Fm [.m, .s, .s, .s, .s] [(0, pt 0), (6, pt 6), (8, ow 27)] [(0, bx [.d (DL n), ci o]), (6, bx [.fl 0 fun _ => []]), (27, AO (α := Rect) (([] : List Rect) ++ a.2.rects_))] (cT (cA b0 (cT (Is.refl a.2.rects_ : Is (List.length (α := Rect) a.2.rects_) (LF (α := Rect) a.2.rects_) a.2.rects_).len))) [(27, .arr 4 ((0) + (List.length (α := Rect) a.2.rects_)) (appF (0) (litF 4 []) (LF (α := Rect) a.2.rects_)))] ⟨OLe.is (Is.app (Is.lit ([] : List Rect) (by kernel_rfl)) (Is.refl a.2.rects_)), ⟨⟩⟩ ?_
   refine AW.seq ?_
   obtain ⟨b, j0, h⟩ := bS h
   refine AW.G Fm [.s, .s, .s, .k (cE [(0, 0)] [] (vi b.2) [(0, bx [.d (DL (α := Int) (⟨n, o⟩ : Tape).l_), ci ((⟨n, o⟩ : Tape).at_)])] [(0, bx (gC b.1))]), .s] (fun K => K 3 ∧ True) [(0, pt 0), (6, pt 6), (8, ow 27), (9, vi b.2)] [(0, bx (gC b.1)), (6, bx [.fl 0 fun _ => []]), (27, AO (α := Rect) (([] : List Rect) ++ a.2.rects_))] ⟨KAt.CC (keep_Tape_Next_spec j0) Tryz.call16 [(0, 0)], ⟨⟩⟩ ?_
   refine AW.join (r := r) (fun z : (List Rect) × (List Int) × Int => keep_Tape_Broken_k1 F z.1 z.2.1 z.2.2) (fun z => [(6, pt 6), (8, ow 27)]) (fun z => [(0, bx [.d (DL z.2.1), ci z.2.2]), (6, bx [.fl 0 fun _ => []]), (27, AO z.1)]) (fun z h => ?_) (fun m0 l => ?_)
   ·obtain ⟨E, H, I⟩ := z
    refine AW.SG0 Fm 3 [(6, pt 6)] [(0, bx [.d (DL H), ci I]), (6, bx [.own 27]), (27, AO E)] ?_
    refine AW.ret ?_
    obtain rfl := Option.some.inj h
    refine Kn.r Fm [(6, pt 6)] [(27, AO E), (0, bx [.d (DL H), ci I]), (6, bx [.own 27])] (by kernel_rfl) ?_
    refine Kn.frz [(6, pt 6)] [(0, bx [.d (DL H), ci I]), (6, bx [.d (DL E)])] (by kernel_rfl) (by kernel_rfl) (by kernel_rfl) ?_
    exact Kn.D Fm
   ·refine AW.seq ?_
    obtain ⟨e, k0, h⟩ := bS h
    refine AW.G Fm [.s, .k (cE [(0, 0)] [] (vi e.2) [(0, bx (gC b.1))] [(0, bx (gC e.1))])] (fun K => K 1 ∧ True) [(6, pt 6), (8, ow 27), (9, vi b.2), (33, vi e.2)] [(0, bx (gC e.1)), (6, bx [.fl 0 fun _ => []]), (27, AO (α := Rect) (([] : List Rect) ++ a.2.rects_))] ⟨KAt.CC (keep_Tape_Next_spec k0) Tryz.call16 [(0, 0)], ⟨⟩⟩ ?_
    refine AW.block (AW.SG0 Fm 2 [(6, pt 6), (8, ow 27), (9, vi b.2), (33, vi e.2), (43, vb (e.2 == (0 : Int)))] [(0, bx (gC e.1)), (6, bx [.fl 0 fun _ => []]), (27, AO (α := Rect) (([] : List Rect) ++ a.2.rects_))] ?_)
    refine AW.cN h (fun X h => ?_) (fun X h => ?_)
    ·obtain ⟨O, c0, t, h⟩ := gS3 h
     refine AW.WP Fm [.s, .s, .s, .s, .s, .s, .s, .s, .s] [(6, pt 6), (8, ow 27)] [(0, bx (gC e.1)), (6, bx [.fl 0 fun _ => []]), (27, AO (α := Rect) (List.set (([] : List Rect) ++ a.2.rects_) b.2.toNat (⟨(gl (([] : List Rect) ++ a.2.rects_) b.2.toNat).left_, (gl (([] : List Rect) ++ a.2.rects_) b.2.toNat).low_, (((gl (([] : List Rect) ++ a.2.rects_) b.2.toNat).right_) + 1), (gl (([] : List Rect) ++ a.2.rects_) b.2.toNat).high_⟩ : Rect)))] (cA O (cA (toNat_lt O) (cA (cT c0) (cA t (cT (toNat_lt t)))))) [(27, .arr 4 (List.length (α := Rect) (([] : List Rect) ++ a.2.rects_)) (fun j => if j = b.2.toNat then splice ((LF (α := Rect) (([] : List Rect) ++ a.2.rects_)) b.2.toNat) 2 [.int .i64 (((gl (([] : List Rect) ++ a.2.rects_) b.2.toNat).right_) + 1)] else (LF (α := Rect) (([] : List Rect) ++ a.2.rects_)) j))] ⟨OLe.is (Is.set (Is.refl (([] : List Rect) ++ a.2.rects_)) (toNat_lt t) (⟨(gl (([] : List Rect) ++ a.2.rects_) b.2.toNat).left_, (gl (([] : List Rect) ++ a.2.rects_) b.2.toNat).low_, (((gl (([] : List Rect) ++ a.2.rects_) b.2.toNat).right_) + 1), (gl (([] : List Rect) ++ a.2.rects_) b.2.toNat).high_⟩ : Rect) (by kernel_rfl)), ⟨⟩⟩ ?_
     exact Kn.R Fm (l ((List.set (([] : List Rect) ++ a.2.rects_) b.2.toNat (⟨(gl (([] : List Rect) ++ a.2.rects_) b.2.toNat).left_, (gl (([] : List Rect) ++ a.2.rects_) b.2.toNat).low_, (((gl (([] : List Rect) ++ a.2.rects_) b.2.toNat).right_) + 1), (gl (([] : List Rect) ++ a.2.rects_) b.2.toNat).high_⟩ : Rect)), e.1.l_, e.1.at_) h)
    ·refine AW.SG0 Fm 2 [(6, pt 6), (8, ow 27), (9, vi b.2), (33, vi e.2), (53, vb (e.2 == (1 : Int)))] [(0, bx (gC e.1)), (6, bx [.fl 0 fun _ => []]), (27, AO (α := Rect) (([] : List Rect) ++ a.2.rects_))] ?_
     refine AW.cN h (fun Y h => ?_) (fun Y h => ?_)
     ·obtain ⟨u, h⟩ := gS h
      refine AW.WP Fm [.s, .s, .s, .s, .s] [(6, pt 6), (8, ow 27)] [(0, bx (gC e.1)), (6, bx [.fl 0 fun _ => []]), (27, AO (α := Rect) (List.set (([] : List Rect) ++ a.2.rects_) b.2.toNat (⟨(-1 : Int), (gl (([] : List Rect) ++ a.2.rects_) b.2.toNat).low_, (gl (([] : List Rect) ++ a.2.rects_) b.2.toNat).right_, (gl (([] : List Rect) ++ a.2.rects_) b.2.toNat).high_⟩ : Rect)))] (cA u (cT (toNat_lt u))) [(27, .arr 4 (List.length (α := Rect) (([] : List Rect) ++ a.2.rects_)) (fun j => if j = b.2.toNat then splice ((LF (α := Rect) (([] : List Rect) ++ a.2.rects_)) b.2.toNat) 0 [.int .i64 (-1 : Int)] else (LF (α := Rect) (([] : List Rect) ++ a.2.rects_)) j))] ⟨OLe.is (Is.set (Is.refl (([] : List Rect) ++ a.2.rects_)) (toNat_lt u) (⟨(-1 : Int), (gl (([] : List Rect) ++ a.2.rects_) b.2.toNat).low_, (gl (([] : List Rect) ++ a.2.rects_) b.2.toNat).right_, (gl (([] : List Rect) ++ a.2.rects_) b.2.toNat).high_⟩ : Rect) (by kernel_rfl)), ⟨⟩⟩ ?_
      exact Kn.R Fm (l ((List.set (([] : List Rect) ++ a.2.rects_) b.2.toNat (⟨(-1 : Int), (gl (([] : List Rect) ++ a.2.rects_) b.2.toNat).low_, (gl (([] : List Rect) ++ a.2.rects_) b.2.toNat).right_, (gl (([] : List Rect) ++ a.2.rects_) b.2.toNat).high_⟩ : Rect)), e.1.l_, e.1.at_) h)
     ·refine AW.SG0 Fm 2 [(6, pt 6), (8, ow 27), (9, vi b.2), (33, vi e.2), (59, vb (e.2 == (2 : Int)))] [(0, bx (gC e.1)), (6, bx [.fl 0 fun _ => []]), (27, AO (α := Rect) (([] : List Rect) ++ a.2.rects_))] ?_
      refine AW.cN h (fun Z h => ?_) (fun Z h => ?_)
      ·obtain ⟨P, d0, h⟩ := gS2 h
       refine AW.WP Fm [.s, .s, .s, .s, .s, .w (AL (α := Rect) ([(gl (([] : List Rect) ++ a.2.rects_) b.2.toNat)] : List Rect)), .s, .s] [(6, pt 6), (8, ow 67)] [(0, bx (gC e.1)), (6, bx [.fl 0 fun _ => []]), (67, AO (α := Rect) ((([] : List Rect) ++ a.2.rects_) ++ ([(gl (([] : List Rect) ++ a.2.rects_) b.2.toNat)] : List Rect)))] (cA P (cA (toNat_lt P) (cA (ALe.lst (.lit ([(gl (([] : List Rect) ++ a.2.rects_) b.2.toNat)] : List Rect) (by kernel_rfl)) : ALe (.v (.c (.d (.lst 1 (litF 4 [.int .i64 (gl (([] : List Rect) ++ a.2.rects_) b.2.toNat).left_, .int .i64 (gl (([] : List Rect) ++ a.2.rects_) b.2.toNat).low_, .int .i64 (gl (([] : List Rect) ++ a.2.rects_) b.2.toNat).right_, .int .i64 (gl (([] : List Rect) ++ a.2.rects_) b.2.toNat).high_]))))) (AL (α := Rect) ([(gl (([] : List Rect) ++ a.2.rects_) b.2.toNat)] : List Rect))) (cT (cA d0 (cT (Is.refl ([(gl (([] : List Rect) ++ a.2.rects_) b.2.toNat)] : List Rect) : Is (List.length (α := Rect) ([(gl (([] : List Rect) ++ a.2.rects_) b.2.toNat)] : List Rect)) (LF (α := Rect) ([(gl (([] : List Rect) ++ a.2.rects_) b.2.toNat)] : List Rect)) ([(gl (([] : List Rect) ++ a.2.rects_) b.2.toNat)] : List Rect)).len)))))) [(67, .arr 4 ((List.length (α := Rect) (([] : List Rect) ++ a.2.rects_)) + (List.length (α := Rect) ([(gl (([] : List Rect) ++ a.2.rects_) b.2.toNat)] : List Rect))) (appF (List.length (α := Rect) (([] : List Rect) ++ a.2.rects_)) (LF (α := Rect) (([] : List Rect) ++ a.2.rects_)) (LF (α := Rect) ([(gl (([] : List Rect) ++ a.2.rects_) b.2.toNat)] : List Rect))))] ⟨OLe.is (Is.app (Is.refl (([] : List Rect) ++ a.2.rects_)) (Is.refl ([(gl (([] : List Rect) ++ a.2.rects_) b.2.toNat)] : List Rect))), ⟨⟩⟩ ?_
       exact Kn.RE Fm [(27, 67)] (l (((([] : List Rect) ++ a.2.rects_) ++ ([(gl (([] : List Rect) ++ a.2.rects_) b.2.toNat)] : List Rect)), e.1.l_, e.1.at_) h)
      ·refine AW.SG0 Fm 2 [(6, pt 6), (8, ow 27), (9, vi b.2), (68, vb (e.2 == (3 : Int)))] [(0, bx (gC e.1)), (6, bx [.fl 0 fun _ => []]), (27, AO (α := Rect) (([] : List Rect) ++ a.2.rects_))] ?_
       refine AW.cN h (fun a0 h => ?_) (fun a0 h => ?_)
       ·obtain ⟨T, U, y, A, h⟩ := gS4 h
        refine AW.GW Fm [.s, .s, .s, .s, .s, .s, .s, .s, .s, .s, .s, .k (rE { v := .any, upd := some (27, AO (α := Rect) (List.set (([] : List Rect) ++ a.2.rects_) (0 : Int).toNat (gl (([] : List Rect) ++ a.2.rects_) b.2.toNat))) }), .s, .s] (fun K => _ ∧ _ ∧ _ ∧ _ ∧ _ ∧ K 11 ∧ _ ∧ _ ∧ True) [(6, pt 6), (8, ow 27)] [(0, bx (gC e.1)), (6, bx [.fl 0 fun _ => []]), (27, AO (α := Rect) (List.set (List.set (([] : List Rect) ++ a.2.rects_) (0 : Int).toNat (gl (([] : List Rect) ++ a.2.rects_) b.2.toNat)) b.2.toNat (gl (([] : List Rect) ++ a.2.rects_) (0 : Int).toNat)))] ⟨T, (toNat_lt T), U, (toNat_lt U), y, KAt.upd prog_lay (ob := .arr 4 (List.length (α := Rect) (([] : List Rect) ++ a.2.rects_)) (fun j => if j = (0 : Int).toNat then splice ((LF (α := Rect) (([] : List Rect) ++ a.2.rects_)) (0 : Int).toNat) 0 [.int .i64 (gl (([] : List Rect) ++ a.2.rects_) b.2.toNat).left_, .int .i64 (gl (([] : List Rect) ++ a.2.rects_) b.2.toNat).low_, .int .i64 (gl (([] : List Rect) ++ a.2.rects_) b.2.toNat).right_, .int .i64 (gl (([] : List Rect) ++ a.2.rects_) b.2.toNat).high_] else (LF (α := Rect) (([] : List Rect) ++ a.2.rects_)) j)) (c := (0 : Int).toNat < List.length (([] : List Rect) ++ a.2.rects_)) rfl (by kernel_rfl) (by kernel_rfl) (toNat_lt y) (OLe.is (Is.set (Is.refl (([] : List Rect) ++ a.2.rects_)) (toNat_lt y) (gl (([] : List Rect) ++ a.2.rects_) b.2.toNat) (by kernel_rfl))), A, (toNat_lt A), ⟨⟩⟩ [(27, .arr 4 (List.length (α := Rect) (List.set (([] : List Rect) ++ a.2.rects_) (0 : Int).toNat (gl (([] : List Rect) ++ a.2.rects_) b.2.toNat))) (fun j => if j = b.2.toNat then splice ((LF (α := Rect) (List.set (([] : List Rect) ++ a.2.rects_) (0 : Int).toNat (gl (([] : List Rect) ++ a.2.rects_) b.2.toNat))) b.2.toNat) 0 [.int .i64 (gl (([] : List Rect) ++ a.2.rects_) (0 : Int).toNat).left_, .int .i64 (gl (([] : List Rect) ++ a.2.rects_) (0 : Int).toNat).low_, .int .i64 (gl (([] : List Rect) ++ a.2.rects_) (0 : Int).toNat).right_, .int .i64 (gl (([] : List Rect) ++ a.2.rects_) (0 : Int).toNat).high_] else (LF (α := Rect) (List.set (([] : List Rect) ++ a.2.rects_) (0 : Int).toNat (gl (([] : List Rect) ++ a.2.rects_) b.2.toNat))) j))] ⟨OLe.is (Is.set (Is.refl (List.set (([] : List Rect) ++ a.2.rects_) (0 : Int).toNat (gl (([] : List Rect) ++ a.2.rects_) b.2.toNat))) (toNat_lt A) (gl (([] : List Rect) ++ a.2.rects_) (0 : Int).toNat) (by kernel_rfl)), ⟨⟩⟩ ?_
        exact Kn.R Fm (l ((List.set (List.set (([] : List Rect) ++ a.2.rects_) (0 : Int).toNat (gl (([] : List Rect) ++ a.2.rects_) b.2.toNat)) b.2.toNat (gl (([] : List Rect) ++ a.2.rects_) (0 : Int).toNat)), e.1.l_, e.1.at_) h)
       ·obtain ⟨V, B, h⟩ := gS2 h
        refine AW.WP Fm [.s, .s, .s, .s, .s, .s, .s, .s, .s, .s] [(6, pt 6), (8, ow 27)] [(0, bx (gC e.1)), (6, bx [.fl 0 fun _ => []]), (27, AO (α := Rect) (List.set (([] : List Rect) ++ a.2.rects_) b.2.toNat (⟨(gl (([] : List Rect) ++ a.2.rects_) b.2.toNat).left_, (gl (([] : List Rect) ++ a.2.rects_) b.2.toNat).low_, (gl (([] : List Rect) ++ a.2.rects_) b.2.toNat).right_, (gl (([] : List Rect) ++ a.2.rects_) b.2.toNat).low_⟩ : Rect)))] (cA V (cA (toNat_lt V) (cA B (cT (toNat_lt B))))) [(27, .arr 4 (List.length (α := Rect) (([] : List Rect) ++ a.2.rects_)) (fun j => if j = b.2.toNat then splice ((LF (α := Rect) (([] : List Rect) ++ a.2.rects_)) b.2.toNat) 3 [.int .i64 (gl (([] : List Rect) ++ a.2.rects_) b.2.toNat).low_] else (LF (α := Rect) (([] : List Rect) ++ a.2.rects_)) j))] ⟨OLe.is (Is.set (Is.refl (([] : List Rect) ++ a.2.rects_)) (toNat_lt B) (⟨(gl (([] : List Rect) ++ a.2.rects_) b.2.toNat).left_, (gl (([] : List Rect) ++ a.2.rects_) b.2.toNat).low_, (gl (([] : List Rect) ++ a.2.rects_) b.2.toNat).right_, (gl (([] : List Rect) ++ a.2.rects_) b.2.toNat).low_⟩ : Rect) (by kernel_rfl)), ⟨⟩⟩ ?_
        exact Kn.R Fm (l ((List.set (([] : List Rect) ++ a.2.rects_) b.2.toNat (⟨(gl (([] : List Rect) ++ a.2.rects_) b.2.toNat).left_, (gl (([] : List Rect) ++ a.2.rects_) b.2.toNat).low_, (gl (([] : List Rect) ++ a.2.rects_) b.2.toNat).right_, (gl (([] : List Rect) ++ a.2.rects_) b.2.toNat).low_⟩ : Rect)), e.1.l_, e.1.at_) h)
 ·rcases br_or h with ⟨q, h⟩ | ⟨q, h⟩
  ·refine AW.pN Fm [.s, .s, .s, .s, .w (vb true), .s, .s, .s, .s] [(0, pt 0), (6, pt 6), (7, pt 7), (22, vb true)] [(0, bx (gC a.1)), (6, bx [.fl 0 fun _ => []]), (7, bx [.d (DL a.2.rects_)])] (cT (ALe.bool q)) ?_
   exact Kn.R Fm (N (true, a.1.l_, a.1.at_) h)
  ·obtain ⟨i, i0, h⟩ := bS h
   refine AW.G Fm [.s, .s, .s, .s, .w (vb false), .s, .k (cE [(0, 0)] [] (vb i.2) [(0, bx (gC a.1))] [(0, bx (gC i.1))]), .s, .s] (fun K => _ ∧ K 6 ∧ True) [(0, pt 0), (6, pt 6), (7, pt 7), (22, vb (!i.2))] [(0, bx (gC i.1)), (6, bx [.fl 0 fun _ => []]), (7, bx [.d (DL a.2.rects_)])] ⟨ALe.bool q, KAt.CC (keep_Tape_One_spec i0) Tryz.call44 [(0, 0)], ⟨⟩⟩ ?_
   exact Kn.R Fm (N ((!i.2), i.1.l_, i.1.at_) h)
theorem ref11_begin_spec {F : Nat} {d : (List Feature)} {a : Int} {r : Int} (h : ref11_begin F d a = some r) :
  FSpec Tryz.prog 134 [AL d, vi a] [] (vi r) [] := by
 refine FI Tryz.func134 prog_mixed prog_lay fun C Fm => ?_
 unfold ref11_begin at h
 refine AW.SG0 Fm 1 [(0, AL d), (1, vi a)] [] ?_
 refine AW.seq (AW.seq ?_)
 obtain ⟨b, l, h⟩ := bS h
 refine AW.G Fm [.s, .k (cE [] [] (vi b) [] []), .s] (fun K => K 1 ∧ True) [(1, vi a), (5, vi b)] [] ⟨KAt.CC (ref09_Check_spec l) Tryz.call72 [], ⟨⟩⟩ ?_
 refine AW.SG0 Fm 2 [(1, vi a), (5, vi b), (9, vb (b != (0 : Int)))] [] ?_
 refine AW.cN h (fun i h => ?_) (fun i h => ?_)
 ·refine AW.SG0 Fm 2 [(4, vi b)] [] ?_
  refine AW.ret ?_
  obtain rfl := Option.some.inj h
  exact Kn.D Fm
 ·refine AW.skip (AW.seq (AW.join (r := r) (fun z : Bool => ref11_begin_k0 F z) (fun z => [(16, vb z)]) (fun z => []) (fun n h => ?_) (fun m e => ?_)))
  ·refine AW.cN h (fun j h => ?_) (fun j h => ?_)
   ·refine AW.SG0 Fm 1 [(4, vi 9)] [] ?_
    refine AW.ret ?_
    obtain rfl := Option.some.inj h
    exact Kn.D Fm
   ·refine AW.skip (AW.SG0 Fm 1 [(4, vi 0)] [] ?_)
    refine AW.ret ?_
    obtain rfl := Option.some.inj h
    exact Kn.D Fm
  ·rcases br_or h with ⟨c, h⟩ | ⟨c, h⟩
   ·refine AW.pN Fm [.s, .s, .w (vb true), .s, .s, .s] [(16, vb true)] [] (cT (ALe.bool c)) ?_
    exact Kn.R Fm (e true h)
   ·refine AW.pN Fm [.s, .s, .w (vb false), .s, .s, .s] [(16, vb (decide ((36864 : Int) < a)))] [] (cT (ALe.bool c)) ?_
    exact Kn.R Fm (e (decide ((36864 : Int) < a)) h)
theorem ref09_there_spec {F : Nat} {a : Feature} {b : Int} {r : Bool} (h : ref09_there F a b = some r) :
  FSpec Tryz.prog 154 [gE a, vi b] [] (vb r) [] := by
 refine FI Tryz.func154 prog_mixed prog_lay fun C Fm => ?_
 unfold ref09_there at h
 refine AW.SG0 Fm 2 [(1, vi b), (2, pt 2)] [(2, bx (gC a))] ?_
 refine AW.join (r := r) (fun z : Bool => ref09_there_k0 F z) (fun z => [(4, vb z)]) (fun z => []) (fun i h => ?_) (fun e d => ?_)
 ·refine AW.ret ?_
  obtain rfl := Option.some.inj h
  exact Kn.D Fm
 ·rcases br_or h with ⟨c, h⟩ | ⟨c, h⟩
  ·refine AW.pN Fm [.s, .s, .s, .s, .w (vb true), .s, .s, .s, .s, .s, .s] [(4, vb (decide (b < a.until_)))] [] (cT (ALe.bool c)) ?_
   exact Kn.R Fm (d (decide (b < a.until_)) h)
  ·refine AW.pN Fm [.s, .s, .s, .s, .w (vb false), .s, .s, .s, .s, .s, .s] [(4, vb false)] [] (cT (ALe.bool c)) ?_
   exact Kn.R Fm (d false h)
theorem ref09_Squares_spec {F : Nat} {a : (List Feature)} {e : Int} {i : Int} {j : Int} {r : (List Rect)} (h : ref09_Squares F a e i j = some r) :
  FSpec Tryz.prog 135 [AL a, vi e, vi i, vi j] [] (AL (α := Rect) r) [] := by
 refine FI Tryz.func135 prog_mixed prog_lay fun C Fm => ?_
 unfold ref09_Squares at h
 refine AW.SG0 Fm 1 [(0, AL a), (1, vi e), (2, vi i), (3, vi j)] [] ?_
 refine AW.SW Fm [.m] (fun K => True) [(0, AL a), (1, vi e), (2, vi i), (3, vi j), (9, ow 9)] [(9, AO (α := Rect) ([] : List Rect))] True.intro [(9, .arr 4 (0) (fun _ => []))] ⟨OLe.is ((Is.nil (α := Rect))), ⟨⟩⟩ ?_
 refine AW.join (r := r) (fun z : (List Rect) => ref09_Squares_k3 F z) (fun z => [(9, AL z)]) (fun z => []) (fun P h => ?_) (fun W H => ?_)
 ·refine AW.SG0 Fm 2 [(8, AL P)] [] ?_
  refine AW.ret ?_
  obtain rfl := Option.some.inj h
  exact Kn.D Fm
 ·refine AW.SG0 Fm 3 [(1, vi e), (2, vi i), (3, vi j), (9, ow 9), (12, AL a), (13, vi (lI a)), (14, vi 0)] [(9, AO (α := Rect) ([] : List Rect))] ?_
  refine AW.block (Kn.r Fm [(1, vi e), (2, vi i), (3, vi j), (9, ow 9), (12, AL a), (13, vi (lI a)), (14, vi 0)] [(9, AO (α := Rect) ([] : List Rect))] (by kernel_rfl) ?_)
  refine Kn.frz [(1, vi e), (2, vi i), (3, vi j), (9, AL (α := Rect) ([] : List Rect)), (12, AL a), (13, vi (lI a)), (14, vi 0)] [] (by kernel_rfl) (by kernel_rfl) (by kernel_rfl) ?_
  refine Kn.r Fm [(1, vi e), (2, vi i), (3, vi j), (9, AL ([] : List Rect)), (12, AL a), (13, vi (lI a)), (14, vi 0)] [] (by kernel_rfl) ?_
  refine AW.loopF (E' := fun z => [(1, vi e), (2, vi i), (3, vi j), (9, AL z.1), (12, AL a), (13, vi (lI a)), (14, vi z.2)]) (S' := fun z => []) (fun y z T E h => ?_) h
  obtain ⟨l, b⟩ := z
  refine AW.SG0 Fm 1 [(1, vi e), (2, vi i), (3, vi j), (9, AL l), (12, AL a), (13, vi (lI a)), (14, vi b), (15, vb (decide (b < (lI a))))] [] ?_
  refine AW.seq (AW.cN h (fun I h => ?_) (fun I h => ?_))
  ·refine AW.skip (AW.join (r := r) (fun z : (List Rect) => ref09_Squares_k2 F b y z) (fun z => [(1, vi e), (2, vi i), (3, vi j), (9, AL z), (12, AL a), (13, vi (lI a)), (14, vi b)]) (fun z => []) (fun B h => ?_) (fun V A => ?_))
   ·obtain ⟨N, h⟩ := gS h
    refine AW.pN Fm [.s, .s] [(1, vi e), (2, vi i), (3, vi j), (9, AL B), (12, AL a), (13, vi (lI a)), (14, vi (b + 1))] [] (cT (cT N)) ?_
    exact Kn.R Fm (E (B, (b + 1)) h)
   ·refine AW.block ?_
    obtain ⟨M, h⟩ := gS h
    refine AW.SP Fm [.s, .s, .s, .s] [(1, vi e), (2, vi i), (3, vi j), (9, AL l), (11, pt 11), (12, AL a), (13, vi (lI a)), (14, vi b)] [(11, bx [ci ((gl a b.toNat).number_), ci ((gl a b.toNat).kind_), ci ((gl a b.toNat).from_), ci ((gl a b.toNat).until_), .d (DL (α := Rect) (gl a b.toNat).region_.rects_)])] (cT M) ?_
    refine AW.join (r := r) (fun z : Bool => ref09_Squares_k1 F a l b y z) (fun z => [(1, vi e), (2, vi i), (3, vi j), (9, AL l), (11, pt 11), (12, AL a), (13, vi (lI a)), (14, vi b), (32, vb z)]) (fun z => [(11, bx [ci ((gl a b.toNat).number_), ci ((gl a b.toNat).kind_), ci ((gl a b.toNat).from_), ci ((gl a b.toNat).until_), .d (DL (α := Rect) (gl a b.toNat).region_.rects_)])]) (fun X h => ?_) (fun U o => ?_)
    ·refine AW.cN h (fun L h => ?_) (fun L h => ?_)
     ·obtain ⟨u, O, h⟩ := bS h
      refine AW.G Fm [.s, .s, .s, .s, .k (cE [] [] (AL u) [] []), .s] (fun K => K 4 ∧ True) [(1, vi e), (2, vi i), (3, vi j), (9, AL u), (12, AL a), (13, vi (lI a)), (14, vi b)] [] ⟨KAt.CC (ref04_Combine_spec O) Tryz.call122 [], ⟨⟩⟩ ?_
      exact Kn.R Fm (A u h)
     ·exact AW.skip (Kn.R Fm (A l h))
    ·obtain ⟨t, q, h⟩ := bS h
     rcases br_or h with ⟨n, h⟩ | ⟨n, h⟩
     ·rcases br_or h with ⟨p, h⟩ | ⟨p, h⟩
      ·refine AW.G Fm [.s, .s, .k (cE [] [] (vb t) [] []), .w (vb true), .s, .s, .s, .s, .s, .w (vb true), .s, .s, .s, .s, .s] (fun K => K 2 ∧ _ ∧ _ ∧ True) [(1, vi e), (2, vi i), (3, vi j), (9, AL l), (11, pt 11), (12, AL a), (13, vi (lI a)), (14, vi b), (22, vi e), (23, .v (.c (.ptr 11 1))), (24, vi (gl a b.toNat).kind_), (25, vb (decide (e ≤ ((gl a b.toNat).kind_)))), (28, .v (.c (.ptr 11 1))), (29, vi (gl a b.toNat).kind_), (30, vi i), (31, vb (decide (((gl a b.toNat).kind_) ≤ i))), (32, vb (decide (((gl a b.toNat).kind_) ≤ i)))] [(11, bx [ci ((gl a b.toNat).number_), ci ((gl a b.toNat).kind_), ci ((gl a b.toNat).from_), ci ((gl a b.toNat).until_), .d (DL (α := Rect) (gl a b.toNat).region_.rects_)])] ⟨KAt.CC (ref09_there_spec q) Tryz.call154 [], ALe.bool n, ALe.bool p, ⟨⟩⟩ ?_
       exact Kn.R Fm (o (decide (((gl a b.toNat).kind_) ≤ i)) h)
      ·refine AW.G Fm [.s, .s, .k (cE [] [] (vb t) [] []), .w (vb true), .s, .s, .s, .s, .s, .w (vb false), .s, .s, .s, .s, .s] (fun K => K 2 ∧ _ ∧ _ ∧ True) [(1, vi e), (2, vi i), (3, vi j), (9, AL l), (11, pt 11), (12, AL a), (13, vi (lI a)), (14, vi b), (22, vi e), (23, .v (.c (.ptr 11 1))), (24, vi (gl a b.toNat).kind_), (25, vb (decide (e ≤ ((gl a b.toNat).kind_)))), (32, vb false)] [(11, bx [ci ((gl a b.toNat).number_), ci ((gl a b.toNat).kind_), ci ((gl a b.toNat).from_), ci ((gl a b.toNat).until_), .d (DL (α := Rect) (gl a b.toNat).region_.rects_)])] ⟨KAt.CC (ref09_there_spec q) Tryz.call154 [], ALe.bool n, ALe.bool p, ⟨⟩⟩ ?_
       exact Kn.R Fm (o false h)
     ·refine AW.G Fm [.s, .s, .k (cE [] [] (vb t) [] []), .w (vb false), .s, .s, .s, .s, .s, .s, .s, .s, .s, .s, .s] (fun K => K 2 ∧ _ ∧ True) [(1, vi e), (2, vi i), (3, vi j), (9, AL l), (11, pt 11), (12, AL a), (13, vi (lI a)), (14, vi b), (32, vb false)] [(11, bx [ci ((gl a b.toNat).number_), ci ((gl a b.toNat).kind_), ci ((gl a b.toNat).from_), ci ((gl a b.toNat).until_), .d (DL (α := Rect) (gl a b.toNat).region_.rects_)])] ⟨KAt.CC (ref09_there_spec q) Tryz.call154 [], ALe.bool n, ⟨⟩⟩ ?_
      exact Kn.R Fm (o false h)
  ·exact AW.exit (Kn.R Fm (H l h))
theorem ref11_Hard_spec {F : Nat} {a : (List Feature)} {b : Int} {r : Region × Int} (h : ref11_Hard F a b = some r) :
  FSpec Tryz.prog 57 [AL a, vi b] [] (.t [.g [.d (DL (α := Rect) r.1.rects_)], .c (ci r.2)]) [] := by
 refine FI Tryz.func57 prog_mixed prog_lay fun C Fm => ?_
 unfold ref11_Hard at h
 refine AW.SG0 Fm 2 [(0, AL a), (1, vi b), (4, pt 4)] [(4, bx [.fl 0 fun _ => []])] ?_
 refine AW.seq (AW.seq ?_)
 obtain ⟨e, l, h⟩ := bS h
 refine AW.G Fm [.s, .s, .k (cE [] [] (vi e) [] []), .s] (fun K => K 2 ∧ True) [(0, AL a), (1, vi b), (4, pt 4), (6, vi e)] [(4, bx [.fl 0 fun _ => []])] ⟨KAt.CC (ref11_begin_spec l) Tryz.call134 [], ⟨⟩⟩ ?_
 refine AW.SG0 Fm 2 [(0, AL a), (1, vi b), (4, pt 4), (6, vi e), (11, vb (e != (0 : Int)))] [(4, bx [.fl 0 fun _ => []])] ?_
 refine AW.cN h (fun j h => ?_) (fun j h => ?_)
 ·refine AW.SP Fm [.w (.v (.g [.d (DL (α := Rect) [])])), .s, .s, .s] [(4, pt 4), (5, vi e)] [(4, bx [.d (DL (α := Rect) [])])] (cT (ALe.g ⟨CLe.fl .nil, ⟨⟩⟩ : ALe (.v (.g [.fl 0 fun _ => []])) (.v (.g [.d (DL (α := Rect) [])])))) ?_
  refine AW.ret ?_
  obtain rfl := Option.some.inj h
  exact Kn.D Fm
 ·refine AW.skip (AW.seq ?_)
  obtain ⟨o, m, h⟩ := bS h
  obtain ⟨i, n, h⟩ := bS h
  refine AW.G Fm [.s, .s, .k (cE [] [] (AL o) [] []), .k (cE [] [] (.t [.g [.d (DL i.1.rects_)], .c (ci i.2)]) [] []), .s, .s, .s, .s] (fun K => K 2 ∧ K 3 ∧ True) [(4, pt 4), (5, vi i.2)] [(4, bx [.d (DL i.1.rects_)])] ⟨KAt.CC (ref09_Squares_spec m) Tryz.call135 [], KAt.CC (ref04_Bound_spec n) Tryz.call128 [], ⟨⟩⟩ ?_
  refine AW.ret ?_
  obtain rfl := Option.some.inj h
  exact Kn.D Fm
theorem ref04_Same_spec {F : Nat} {a : Region} {b : Region} {r : Bool} (h : ref04_Same F a b = some r) :
  FSpec Tryz.prog 42 [.v (.g [.d (DL a.rects_)]), .v (.g [.d (DL b.rects_)])] [] (vb r) [] := by
 refine FI Tryz.func42 prog_mixed prog_lay fun C Fm => ?_
 unfold ref04_Same at h
 refine AW.SG0 Fm 3 [(2, pt 2), (3, pt 3)] [(2, bx [.d (DL a.rects_)]), (3, bx [.d (DL b.rects_)])] ?_
 refine AW.seq ?_
 obtain ⟨c, e, h⟩ := bS h
 refine AW.G Fm [.s, .s, .s, .s, .k (cE [] [] (vb c) [] []), .s] (fun K => K 4 ∧ True) [(4, vb c)] [] ⟨KAt.CC (ref04_Rects_spec e) Tryz.call127 [], ⟨⟩⟩ ?_
 refine AW.ret ?_
 obtain rfl := Option.some.inj h
 exact Kn.D Fm
theorem ref06_touch_spec {F : Nat} {a : Rect} {b : Rect} {r : Int} (h : ref06_touch F a b = some r) :
  FSpec Tryz.prog 209 [gE a, gE b] [] (vi r) [] := by
 refine FI Tryz.func209 prog_mixed prog_lay fun C Fm => ?_
 unfold ref06_touch at h
 refine AW.SG0 Fm 3 [(2, pt 2), (3, pt 3)] [(2, bx (gC a)), (3, bx (gC b))] ?_
 refine AW.seq (AW.join (r := r) (fun z : Bool => ref06_touch_k0 F a b z) (fun z => [(2, pt 2), (3, pt 3), (16, vb z)]) (fun z => [(2, bx (gC a)), (3, bx (gC b))]) (fun p h => ?_) (fun n e => ?_))
 ·refine AW.cN h (fun j h => ?_) (fun j h => ?_)
  ·obtain ⟨l, h⟩ := gS h
   refine AW.SP Fm [.s, .s, .s, .s, .s, .s, .s, .s, .s, .s, .s, .s, .s] [(4, vi (gmax (0 : Int) ((gmin a.high_ b.high_) - (gmax a.low_ b.low_))))] [] (cT (cT l)) ?_
   refine AW.ret ?_
   obtain rfl := Option.some.inj h
   exact Kn.D Fm
  ·refine AW.skip (AW.seq (AW.join (r := r) (fun z : Bool => ref06_touch_k1 F a b z) (fun z => [(2, pt 2), (3, pt 3), (40, vb z)]) (fun z => [(2, bx (gC a)), (3, bx (gC b))]) (fun q h => ?_) (fun o i => ?_)))
   ·refine AW.cN h (fun k h => ?_) (fun k h => ?_)
    ·obtain ⟨m, h⟩ := gS h
     refine AW.SP Fm [.s, .s, .s, .s, .s, .s, .s, .s, .s, .s, .s, .s, .s] [(4, vi (gmax (0 : Int) ((gmin a.right_ b.right_) - (gmax a.left_ b.left_))))] [] (cT (cT m)) ?_
     refine AW.ret ?_
     obtain rfl := Option.some.inj h
     exact Kn.D Fm
    ·refine AW.skip (AW.SG0 Fm 1 [(4, vi 0)] [] ?_)
     refine AW.ret ?_
     obtain rfl := Option.some.inj h
     exact Kn.D Fm
   ·rcases br_or h with ⟨d, h⟩ | ⟨d, h⟩
    ·refine AW.pN Fm [.s, .s, .s, .s, .s, .w (vb true), .s, .s, .s, .s, .s, .s] [(2, pt 2), (3, pt 3), (40, vb true)] [(2, bx (gC a)), (3, bx (gC b))] (cT (ALe.bool d)) ?_
     exact Kn.R Fm (i true h)
    ·refine AW.pN Fm [.s, .s, .s, .s, .s, .w (vb false), .s, .s, .s, .s, .s, .s] [(2, pt 2), (3, pt 3), (40, vb (b.high_ == a.low_))] [(2, bx (gC a)), (3, bx (gC b))] (cT (ALe.bool d)) ?_
     exact Kn.R Fm (i (b.high_ == a.low_) h)
 ·rcases br_or h with ⟨c, h⟩ | ⟨c, h⟩
  ·refine AW.pN Fm [.s, .s, .s, .s, .s, .w (vb true), .s, .s, .s, .s, .s, .s] [(2, pt 2), (3, pt 3), (16, vb true)] [(2, bx (gC a)), (3, bx (gC b))] (cT (ALe.bool c)) ?_
   exact Kn.R Fm (e true h)
  ·refine AW.pN Fm [.s, .s, .s, .s, .s, .w (vb false), .s, .s, .s, .s, .s, .s] [(2, pt 2), (3, pt 3), (16, vb (b.right_ == a.left_))] [(2, bx (gC a)), (3, bx (gC b))] (cT (ALe.bool c)) ?_
   exact Kn.R Fm (e (b.right_ == a.left_) h)
theorem ref06_Parts_spec {F : Nat} {a : Region} {r : (List Region) × Int} (h : ref06_Parts F a = some r) :
  FSpec Tryz.prog 139 [.v (.g [.d (DL a.rects_)])] [] (.t [.c (.d (DL (α := Region) r.1)), .c (ci r.2)]) [] := by
 refine FI Tryz.func139 prog_mixed prog_lay fun C Fm => ?_
 unfold ref06_Parts at h
 refine AW.SG0 Fm 3 [(1, pt 1)] [(1, bx [.d (DL a.rects_)])] ?_
 refine AW.seq (AW.seq ?_)
 obtain ⟨q0, k1, h⟩ := bS h
 refine AW.G Fm [.s, .k (cE [] [] (vb q0) [] []), .s] (fun K => K 1 ∧ True) [(1, pt 1), (15, vb (!q0))] [(1, bx [.d (DL a.rects_)])] ⟨KAt.CC (ref04_Valid_spec k1) Tryz.call107 [], ⟨⟩⟩ ?_
 refine AW.cN h (fun L0 h => ?_) (fun L0 h => ?_)
 ·refine AW.SG0 Fm 2 [(2, .v (.c (.fl 0 fun _ => []))), (3, vi 7)] [] ?_
  refine AW.ret ?_
  obtain rfl := Option.some.inj h
  refine Kn.r Fm [(2, .v (.c (.fl 0 fun _ => []))), (3, vi 7)] [] (by kernel_rfl) ?_
  refine Kn.wk [(2, AL (α := Region) []), (3, vi 7)] [] ⟨rfl, ALe.c (CLe.fl .nil), ⟨rfl, ALe.c (CLe.refl _), ⟨⟩⟩⟩ True.intro ?_
  exact Kn.D Fm
 ·refine AW.skip ?_
  obtain ⟨c0, h⟩ := gS h
  refine AW.SV Fm [.s, .s, .s, .s, .s] [(1, pt 1), (4, ow 19)] [(1, bx [.d (DL a.rects_)]), (19, AO (α := Int) (List.replicate ((lI a.rects_)).toNat (0 : Int)))] (cT (⟨c0.1, rfl, c0.2⟩ : 0 ≤ (lI a.rects_) ∧ (lI a.rects_) = (lI a.rects_) ∧ (lI a.rects_) ≤ ((LIM : Nat) : Int))) [(19, .arr 1 (((lI a.rects_)).toNat) (fun _ => [.int .i64 0]))] ⟨OLe.is ((Is.rep (α := Int) (by kernel_rfl) : Is ((lI a.rects_)).toNat (fun _ => [.int .i64 0]) (List.replicate ((lI a.rects_)).toNat (0 : Int)))), ⟨⟩⟩ ?_
  refine AW.join (r := r) (fun z : (List Int) => ref06_Parts_k1 F a z) (fun z => [(1, pt 1), (4, ow 19)]) (fun z => [(1, bx [.d (DL a.rects_)]), (19, AO z)]) (fun n1 h => ?_) (fun q1 w0 => ?_)
  ·refine AW.join (r := r) (fun z : (List Int) => ref06_Parts_k8 F a z) (fun z => [(1, pt 1), (4, ow 19)]) (fun z => [(1, bx [.d (DL a.rects_)]), (19, AO z)]) (fun b h => ?_) (fun B1 E0 => ?_)
   ·refine AW.SW Fm [.m] (fun K => True) [(1, pt 1), (4, ow 19), (9, ow 9)] [(1, bx [.d (DL a.rects_)]), (9, AO (α := Region) ([] : List Region)), (19, AO b)] True.intro [(9, .arr 1 (0) (fun _ => []))] ⟨OLe.is ((Is.nil (α := Region))), ⟨⟩⟩ ?_
    refine AW.join (r := r) (fun z : (List Region) => ref06_Parts_k14 F z) (fun z => [(9, ow 9)]) (fun z => [(9, AO z)]) (fun V h => ?_) (fun K1 K0 => ?_)
    ·refine AW.SG0 Fm 3 [(2, ow 9), (3, vi 0)] [(9, AO V)] ?_
     refine AW.ret ?_
     obtain rfl := Option.some.inj h
     refine Kn.r Fm [(2, ow 9), (3, vi 0)] [(9, AO V)] (by kernel_rfl) ?_
     refine Kn.frz [(2, AL V), (3, vi 0)] [] (by kernel_rfl) (by kernel_rfl) (by kernel_rfl) ?_
     exact Kn.D Fm
    ·refine AW.SG0 Fm 3 [(1, pt 1), (4, ow 19), (9, ow 9), (74, vi (lI b)), (75, vi 0)] [(1, bx [.d (DL a.rects_)]), (9, AO (α := Region) ([] : List Region)), (19, AO b)] ?_
     refine AW.block (Kn.r Fm [(1, pt 1), (4, ow 19), (9, ow 9), (74, vi (lI b)), (75, vi 0)] [(1, bx [.d (DL a.rects_)]), (9, AO ([] : List Region)), (19, AO b)] (by kernel_rfl) ?_)
     refine AW.loopF (E' := fun z => [(1, pt 1), (4, ow 19), (9, ow 9), (74, vi (lI b)), (75, vi z.1)]) (S' := fun z => [(1, bx [.d (DL a.rects_)]), (9, AO z.2), (19, AO b)]) (fun X z D1 G0 h => ?_) h
     obtain ⟨i, o⟩ := z
     refine AW.SG0 Fm 1 [(1, pt 1), (4, ow 19), (9, ow 9), (74, vi (lI b)), (75, vi i), (76, vb (decide (i < (lI b))))] [(1, bx [.d (DL a.rects_)]), (9, AO o), (19, AO b)] ?_
     refine AW.seq (AW.cN h (fun T0 h => ?_) (fun T0 h => ?_))
     ·refine AW.skip (AW.join (r := r) (fun z : (List Region) => ref06_Parts_k13 F i X z) (fun z => [(1, pt 1), (4, ow 19), (9, ow 9), (74, vi (lI b)), (75, vi i)]) (fun z => [(1, bx [.d (DL a.rects_)]), (9, AO z), (19, AO b)]) (fun p0 h => ?_) (fun I1 b0 => ?_))
      ·obtain ⟨j1, h⟩ := gS h
       refine AW.pN Fm [.s, .s] [(1, pt 1), (4, ow 19), (9, ow 9), (74, vi (lI b)), (75, vi (i + 1))] [(1, bx [.d (DL a.rects_)]), (9, AO p0), (19, AO b)] (cT (cT j1)) ?_
       exact Kn.R Fm (G0 ((i + 1), p0) h)
      ·refine AW.block (AW.SG0 Fm 2 [(1, pt 1), (4, ow 19), (9, ow 9), (10, vi i), (74, vi (lI b)), (75, vi i)] [(1, bx [.d (DL a.rects_)]), (9, AO o), (19, AO b)] ?_)
       refine AW.seq ?_
       obtain ⟨e0, h⟩ := gS h
       refine AW.SP Fm [.s, .s, .s, .s, .s, .s] [(1, pt 1), (4, ow 19), (9, ow 9), (10, vi i), (74, vi (lI b)), (75, vi i), (83, vb ((gl b i.toNat) != i))] [(1, bx [.d (DL a.rects_)]), (9, AO o), (19, AO b)] (cA e0 (cT (toNat_lt e0))) ?_
       refine AW.cN h (fun U0 h => ?_) (fun U0 h => ?_)
       ·exact AW.exit (Kn.R Fm (b0 o h))
       ·refine AW.skip (AW.SW Fm [.m] (fun K => True) [(1, pt 1), (4, ow 19), (9, ow 9), (10, vi i), (11, ow 11), (74, vi (lI b)), (75, vi i)] [(1, bx [.d (DL a.rects_)]), (9, AO o), (11, AO (α := Rect) ([] : List Rect)), (19, AO b)] True.intro [(11, .arr 4 (0) (fun _ => []))] ⟨OLe.is ((Is.nil (α := Rect))), ⟨⟩⟩ ?_)
        refine AW.join (r := r) (fun z : (List Rect) => ref06_Parts_k12 F i o X z) (fun z => [(1, pt 1), (4, ow 19), (9, ow 9), (11, ow 11), (74, vi (lI b)), (75, vi i)]) (fun z => [(1, bx [.d (DL a.rects_)]), (9, AO o), (11, AO z), (19, AO b)]) (fun o0 h => ?_) (fun H1 I0 => ?_)
        ·refine Kn.r Fm [(1, pt 1), (4, ow 19), (9, ow 9), (11, ow 11), (74, vi (lI b)), (75, vi i)] [(11, AO o0), (1, bx [.d (DL a.rects_)]), (9, AO o), (19, AO b)] (by kernel_rfl) ?_
         refine Kn.frz [(1, pt 1), (4, ow 19), (9, ow 9), (11, AL o0), (74, vi (lI b)), (75, vi i)] [(1, bx [.d (DL a.rects_)]), (9, AO o), (19, AO b)] (by kernel_rfl) (by kernel_rfl) (by kernel_rfl) ?_
         obtain ⟨B, m1, h⟩ := bS h
         obtain ⟨i1, h⟩ := gS h
         refine AW.GW Fm [.s, .s, .k (cE [] [] (AL B) [] []), .s, .w (AL (α := Region) ([(⟨B⟩ : Region)] : List Region)), .s, .s] (fun K => K 2 ∧ (ALe (.v (.c (.d (.lst 1 (litF 1 [DL B]))))) (AL (α := Region) ([(⟨B⟩ : Region)] : List Region))) ∧ (_ ∧ _ ∧ True) ∧ True) [(1, pt 1), (4, ow 19), (9, ow 109), (74, vi (lI b)), (75, vi i)] [(1, bx [.d (DL a.rects_)]), (19, AO b), (109, AO (α := Region) (o ++ ([(⟨B⟩ : Region)] : List Region)))] ⟨KAt.callX (ref04_Combine_spec m1) Tryz.call122 [] [] [.tmp 105, .const (.slice none 0 0), .const (.int .i64 1)] rfl (by kernel_rfl) (by kernel_rfl) (by kernel_rfl) ⟨.p, ArgT.plain (by kernel_rfl) (ALe.c (CLe.fl .nil)) (by kernel_rfl), .p, ⟨⟩⟩, ALe.lst (.lit ([(⟨B⟩ : Region)] : List Region) (by kernel_rfl)), ⟨i1, (Is.refl ([(⟨B⟩ : Region)] : List Region) : Is (List.length (α := Region) ([(⟨B⟩ : Region)] : List Region)) (LF (α := Region) ([(⟨B⟩ : Region)] : List Region)) ([(⟨B⟩ : Region)] : List Region)).len, ⟨⟩⟩, ⟨⟩⟩ [(109, .arr 1 ((List.length (α := Region) o) + (List.length (α := Region) ([(⟨B⟩ : Region)] : List Region))) (appF (List.length (α := Region) o) (LF (α := Region) o) (LF (α := Region) ([(⟨B⟩ : Region)] : List Region))))] ⟨OLe.is (Is.app (Is.refl o) (Is.refl ([(⟨B⟩ : Region)] : List Region))), ⟨⟩⟩ ?_
         exact Kn.RE Fm [(9, 109)] (b0 (o ++ ([(⟨B⟩ : Region)] : List Region)) h)
        ·refine AW.SG0 Fm 3 [(1, pt 1), (4, ow 19), (9, ow 9), (10, vi i), (11, ow 11), (74, vi (lI b)), (75, vi i), (85, vi (lI b)), (86, vi 0)] [(1, bx [.d (DL a.rects_)]), (9, AO o), (11, AO (α := Rect) ([] : List Rect)), (19, AO b)] ?_
         refine AW.block (Kn.r Fm [(1, pt 1), (4, ow 19), (9, ow 9), (10, vi i), (11, ow 11), (74, vi (lI b)), (75, vi i), (85, vi (lI b)), (86, vi 0)] [(1, bx [.d (DL a.rects_)]), (9, AO o), (11, AO ([] : List Rect)), (19, AO b)] (by kernel_rfl) ?_)
         refine AW.loopF (E' := fun z => [(1, pt 1), (4, ow 19), (9, ow 9), (10, vi i), (11, ow 11), (74, vi (lI b)), (75, vi i), (85, vi (lI b)), (86, vi z.1)]) (S' := fun z => [(1, bx [.d (DL a.rects_)]), (9, AO o), (11, AO z.2), (19, AO b)]) (fun s0 z E1 H0 h => ?_) h
         obtain ⟨n, E⟩ := z
         refine AW.SG0 Fm 1 [(1, pt 1), (4, ow 19), (9, ow 9), (10, vi i), (11, ow 11), (74, vi (lI b)), (75, vi i), (85, vi (lI b)), (86, vi n), (87, vb (decide (n < (lI b))))] [(1, bx [.d (DL a.rects_)]), (9, AO o), (11, AO E), (19, AO b)] ?_
         refine AW.seq (AW.cN h (fun V0 h => ?_) (fun V0 h => ?_))
         ·refine AW.skip (AW.join (r := r) (fun z : (List Rect) => ref06_Parts_k11 F n s0 z) (fun z => [(1, pt 1), (4, ow 19), (9, ow 9), (10, vi i), (11, ow 102), (74, vi (lI b)), (75, vi i), (85, vi (lI b)), (86, vi n)]) (fun z => [(1, bx [.d (DL a.rects_)]), (9, AO o), (19, AO b), (102, AO z)]) (fun n0 h => ?_) (fun G1 a0 => ?_))
          ·obtain ⟨e1, h⟩ := gS h
           refine AW.pN Fm [.s, .s] [(1, pt 1), (4, ow 19), (9, ow 9), (10, vi i), (11, ow 102), (74, vi (lI b)), (75, vi i), (85, vi (lI b)), (86, vi (n + 1))] [(1, bx [.d (DL a.rects_)]), (9, AO o), (19, AO b), (102, AO n0)] (cT (cT e1)) ?_
           exact Kn.RE Fm [(11, 102)] (H0 ((n + 1), n0) h)
          ·refine AW.block (AW.SG0 Fm 2 [(1, pt 1), (4, ow 19), (9, ow 9), (10, vi i), (11, ow 11), (12, vi n), (74, vi (lI b)), (75, vi i), (85, vi (lI b)), (86, vi n)] [(1, bx [.d (DL a.rects_)]), (9, AO o), (11, AO E), (19, AO b)] ?_)
           obtain ⟨i0, h⟩ := gS h
           refine AW.SP Fm [.s, .s, .s, .s, .s, .s] [(1, pt 1), (4, ow 19), (9, ow 9), (10, vi i), (11, ow 11), (12, vi n), (74, vi (lI b)), (75, vi i), (85, vi (lI b)), (86, vi n), (94, vb ((gl b n.toNat) == i))] [(1, bx [.d (DL a.rects_)]), (9, AO o), (11, AO E), (19, AO b)] (cA i0 (cT (toNat_lt i0))) ?_
           refine AW.cN h (fun W0 h => ?_) (fun W0 h => ?_)
           ·obtain ⟨c1, d1, h⟩ := gS2 h
            refine AW.WP Fm [.s, .s, .s, .s, .s, .s, .w (AL (α := Rect) ([(gl a.rects_ n.toNat)] : List Rect)), .s, .s] [(1, pt 1), (4, ow 19), (9, ow 9), (10, vi i), (11, ow 102), (74, vi (lI b)), (75, vi i), (85, vi (lI b)), (86, vi n)] [(1, bx [.d (DL a.rects_)]), (9, AO o), (19, AO b), (102, AO (α := Rect) (E ++ ([(gl a.rects_ n.toNat)] : List Rect)))] (cA c1 (cA (ALe.lst (.lit ([(gl a.rects_ n.toNat)] : List Rect) (by kernel_rfl)) : ALe (.v (.c (.d (.lst 1 (litF 4 [.int .i64 (gl a.rects_ n.toNat).left_, .int .i64 (gl a.rects_ n.toNat).low_, .int .i64 (gl a.rects_ n.toNat).right_, .int .i64 (gl a.rects_ n.toNat).high_]))))) (AL (α := Rect) ([(gl a.rects_ n.toNat)] : List Rect))) (cT (cA d1 (cT (Is.refl ([(gl a.rects_ n.toNat)] : List Rect) : Is (List.length (α := Rect) ([(gl a.rects_ n.toNat)] : List Rect)) (LF (α := Rect) ([(gl a.rects_ n.toNat)] : List Rect)) ([(gl a.rects_ n.toNat)] : List Rect)).len))))) [(102, .arr 4 ((List.length (α := Rect) E) + (List.length (α := Rect) ([(gl a.rects_ n.toNat)] : List Rect))) (appF (List.length (α := Rect) E) (LF (α := Rect) E) (LF (α := Rect) ([(gl a.rects_ n.toNat)] : List Rect))))] ⟨OLe.is (Is.app (Is.refl E) (Is.refl ([(gl a.rects_ n.toNat)] : List Rect))), ⟨⟩⟩ ?_
            exact Kn.R Fm (a0 (E ++ ([(gl a.rects_ n.toNat)] : List Rect)) h)
           ·exact AW.skip (Kn.RE Fm [(102, 11)] (a0 E h))
         ·exact AW.exit (Kn.R Fm (I0 E h))
     ·exact AW.exit (Kn.R Fm (K0 o h))
   ·refine AW.SG0 Fm 1 [(1, pt 1), (4, ow 19), (6, vb true)] [(1, bx [.d (DL a.rects_)]), (19, AO n1)] ?_
    refine AW.block (AW.loopF (E' := fun z => [(1, pt 1), (4, ow 19), (6, vb z.1)]) (S' := fun z => [(1, bx [.d (DL a.rects_)]), (19, AO z.2)]) (fun M1 z s1 y0 h => ?_) h)
    obtain ⟨o1, q⟩ := z
    refine AW.seq (AW.SG0 Fm 1 [(1, pt 1), (4, ow 19), (30, vb o1)] [(1, bx [.d (DL a.rects_)]), (19, AO q)] ?_)
    refine AW.cN h (fun N0 h => ?_) (fun N0 h => ?_)
    ·refine AW.skip (AW.block (AW.SG0 Fm 1 [(1, pt 1), (4, ow 19), (6, vb false)] [(1, bx [.d (DL a.rects_)]), (19, AO q)] ?_))
     refine AW.SG0 Fm 3 [(1, pt 1), (4, ow 19), (6, vb false), (32, vi (lI q)), (33, vi 0)] [(1, bx [.d (DL a.rects_)]), (19, AO q)] ?_
     refine AW.block (AW.loopF (E' := fun z => [(1, pt 1), (4, ow 19), (6, vb z.1), (32, vi (lI q)), (33, vi z.2.1)]) (S' := fun z => [(1, bx [.d (DL a.rects_)]), (19, AO z.2.2)]) (fun t0 z t1 A0 h => ?_) h)
     obtain ⟨O, e, A⟩ := z
     refine AW.SG0 Fm 1 [(1, pt 1), (4, ow 19), (6, vb O), (32, vi (lI q)), (33, vi e), (34, vb (decide (e < (lI q))))] [(1, bx [.d (DL a.rects_)]), (19, AO A)] ?_
     refine AW.seq (AW.cN h (fun O0 h => ?_) (fun O0 h => ?_))
     ·refine AW.skip (AW.join (r := r) (fun z : Bool × (List Int) => ref06_Parts_k7 F e t0 z.1 z.2) (fun z => [(1, pt 1), (4, ow 19), (6, vb z.1), (32, vi (lI q)), (33, vi e)]) (fun z => [(1, bx [.d (DL a.rects_)]), (19, AO z.2)]) (fun z h => ?_) (fun A1 D0 => ?_))
      ·obtain ⟨l0, m0⟩ := z
       obtain ⟨b1, h⟩ := gS h
       refine AW.pN Fm [.s, .s] [(1, pt 1), (4, ow 19), (6, vb l0), (32, vi (lI q)), (33, vi (e + 1))] [(1, bx [.d (DL a.rects_)]), (19, AO m0)] (cT (cT b1)) ?_
       exact Kn.R Fm (A0 (l0, (e + 1), m0) h)
      ·refine AW.block (AW.SG0 Fm 2 [(1, pt 1), (4, ow 19), (6, vb O), (7, vi e), (32, vi (lI q)), (33, vi e)] [(1, bx [.d (DL a.rects_)]), (19, AO A)] ?_)
       refine AW.SG0 Fm 3 [(1, pt 1), (4, ow 19), (6, vb O), (7, vi e), (32, vi (lI q)), (33, vi e), (37, vi (lI A)), (38, vi 0)] [(1, bx [.d (DL a.rects_)]), (19, AO A)] ?_
       refine AW.block (AW.loopF (E' := fun z => [(1, pt 1), (4, ow 19), (6, vb z.1), (7, vi e), (32, vi (lI q)), (33, vi e), (37, vi (lI A)), (38, vi z.2.1)]) (S' := fun z => [(1, bx [.d (DL a.rects_)]), (19, AO z.2.2)]) (fun W z u1 B0 h => ?_) h)
       obtain ⟨I, l, u⟩ := z
       refine AW.SG0 Fm 1 [(1, pt 1), (4, ow 19), (6, vb I), (7, vi e), (32, vi (lI q)), (33, vi e), (37, vi (lI A)), (38, vi l), (39, vb (decide (l < (lI A))))] [(1, bx [.d (DL a.rects_)]), (19, AO u)] ?_
       refine AW.seq (AW.cN h (fun P0 h => ?_) (fun P0 h => ?_))
       ·refine AW.skip (AW.join (r := r) (fun z : Bool × (List Int) => ref06_Parts_k6 F l W z.1 z.2) (fun z => [(1, pt 1), (4, ow 19), (6, vb z.1), (7, vi e), (32, vi (lI q)), (33, vi e), (37, vi (lI A)), (38, vi l)]) (fun z => [(1, bx [.d (DL a.rects_)]), (19, AO z.2)]) (fun z h => ?_) (fun y1 Z => ?_))
        ·obtain ⟨j0, k0⟩ := z
         obtain ⟨a1, h⟩ := gS h
         refine AW.pN Fm [.s, .s] [(1, pt 1), (4, ow 19), (6, vb j0), (7, vi e), (32, vi (lI q)), (33, vi e), (37, vi (lI A)), (38, vi (l + 1))] [(1, bx [.d (DL a.rects_)]), (19, AO k0)] (cT (cT a1)) ?_
         exact Kn.R Fm (B0 (j0, (l + 1), k0) h)
        ·refine AW.block (AW.SG0 Fm 2 [(1, pt 1), (4, ow 19), (6, vb I), (7, vi e), (8, vi l), (32, vi (lI q)), (33, vi e), (37, vi (lI A)), (38, vi l)] [(1, bx [.d (DL a.rects_)]), (19, AO u)] ?_)
         refine AW.join (r := r) (fun z : Bool => ref06_Parts_k5 F e I l u W z) (fun z => [(1, pt 1), (4, ow 19), (6, vb I), (7, vi e), (8, vi l), (32, vi (lI q)), (33, vi e), (37, vi (lI A)), (38, vi l), (63, vb z)]) (fun z => [(1, bx [.d (DL a.rects_)]), (19, AO u)]) (fun N1 h => ?_) (fun w1 Y => ?_)
         ·refine AW.cN h (fun R0 h => ?_) (fun R0 h => ?_)
          ·obtain ⟨d0, U, h⟩ := gS2 h
           refine AW.WP Fm [.s, .s, .s, .s, .s, .s, .s, .s, .s] [(1, pt 1), (4, ow 19), (6, vb true), (7, vi e), (32, vi (lI q)), (33, vi e), (37, vi (lI A)), (38, vi l)] [(1, bx [.d (DL a.rects_)]), (19, AO (α := Int) (List.set u e.toNat (gl u l.toNat)))] (cA d0 (cA (toNat_lt d0) (cA U (cT (toNat_lt U))))) [(19, .arr 1 (List.length (α := Int) u) (fun j => if j = e.toNat then splice ((LF (α := Int) u) e.toNat) 0 [.int .i64 (gl u l.toNat)] else (LF (α := Int) u) j))] ⟨OLe.is (Is.set (Is.refl u) (toNat_lt U) (gl u l.toNat) (by kernel_rfl)), ⟨⟩⟩ ?_
           exact Kn.R Fm (Z (true, (List.set u e.toNat (gl u l.toNat))) h)
          ·exact AW.skip (Kn.R Fm (Z (I, u) h))
         ·obtain ⟨M, N, h⟩ := gS2 h
          rcases br_or h with ⟨P, h⟩ | ⟨P, h⟩
          ·obtain ⟨Y0, Z0, h⟩ := gS2 h
           obtain ⟨L, l1, h⟩ := bS h
           refine AW.G Fm [.s, .s, .s, .s, .s, .s, .s, .s, .s, .w (vb true), .s, .s, .s, .s, .s, .s, .s, .s, .s, .s, .k (cE [] [] (vi L) [] []), .s, .s] (fun K => _ ∧ _ ∧ _ ∧ _ ∧ _ ∧ _ ∧ _ ∧ K 20 ∧ True) [(1, pt 1), (4, ow 19), (6, vb I), (7, vi e), (8, vi l), (32, vi (lI q)), (33, vi e), (37, vi (lI A)), (38, vi l), (51, pt 1), (52, AL a.rects_), (53, vi e), (54, .v (.c (.elm [.int .i64 (gl a.rects_ e.toNat).left_, .int .i64 (gl a.rects_ e.toNat).low_, .int .i64 (gl a.rects_ e.toNat).right_, .int .i64 (gl a.rects_ e.toNat).high_]))), (55, .v (.g [ci ((gl a.rects_ e.toNat).left_), ci ((gl a.rects_ e.toNat).low_), ci ((gl a.rects_ e.toNat).right_), ci ((gl a.rects_ e.toNat).high_)])), (56, pt 1), (57, AL a.rects_), (58, vi l), (59, .v (.c (.elm [.int .i64 (gl a.rects_ l.toNat).left_, .int .i64 (gl a.rects_ l.toNat).low_, .int .i64 (gl a.rects_ l.toNat).right_, .int .i64 (gl a.rects_ l.toNat).high_]))), (60, .v (.g [ci ((gl a.rects_ l.toNat).left_), ci ((gl a.rects_ l.toNat).low_), ci ((gl a.rects_ l.toNat).right_), ci ((gl a.rects_ l.toNat).high_)])), (61, vi L), (62, vb (decide ((0 : Int) < L))), (63, vb (decide ((0 : Int) < L)))] [(1, bx [.d (DL a.rects_)]), (19, AO u)] ⟨M, (toNat_lt M), N, (toNat_lt N), ALe.bool P, Y0, Z0, KAt.CC (ref06_touch_spec l1) Tryz.call209 [], ⟨⟩⟩ ?_
           exact Kn.R Fm (Y (decide ((0 : Int) < L)) h)
          ·refine AW.pN Fm [.s, .s, .s, .s, .s, .s, .s, .s, .s, .w (vb false), .s, .s, .s, .s, .s, .s, .s, .s, .s, .s, .s, .s, .s] [(1, pt 1), (4, ow 19), (6, vb I), (7, vi e), (8, vi l), (32, vi (lI q)), (33, vi e), (37, vi (lI A)), (38, vi l), (63, vb false)] [(1, bx [.d (DL a.rects_)]), (19, AO u)] (cA M (cA (toNat_lt M) (cA N (cA (toNat_lt N) (cT (ALe.bool P)))))) ?_
           exact Kn.R Fm (Y false h)
       ·exact AW.exit (Kn.R Fm (D0 (I, u) h))
     ·exact AW.exit (Kn.R Fm (y0 (O, A) h))
    ·exact AW.exit (Kn.R Fm (E0 q h))
  ·refine AW.SG0 Fm 3 [(1, pt 1), (4, ow 19), (21, vi ((List.length (List.replicate (((List.length a.rects_ : Nat) : Int)).toNat (0 : Int)) : Nat) : Int)), (22, vi 0)] [(1, bx [.d (DL a.rects_)]), (19, AO (α := Int) (List.replicate ((lI a.rects_)).toNat (0 : Int)))] ?_
   refine AW.block (Kn.r Fm [(1, pt 1), (4, ow 19), (21, vi ((List.length (List.replicate (((List.length a.rects_ : Nat) : Int)).toNat (0 : Int)) : Nat) : Int)), (22, vi 0)] [(1, bx [.d (DL a.rects_)]), (19, AO (List.replicate ((lI a.rects_)).toNat (0 : Int)))] (by kernel_rfl) ?_)
   refine AW.loopF (E' := fun z => [(1, pt 1), (4, ow 19), (21, vi ((List.length (List.replicate (((List.length a.rects_ : Nat) : Int)).toNat (0 : Int)) : Nat) : Int)), (22, vi z.1)]) (S' := fun z => [(1, bx [.d (DL a.rects_)]), (19, AO z.2)]) (fun L1 z p1 u0 h => ?_) h
   obtain ⟨y, H⟩ := z
   refine AW.SG0 Fm 1 [(1, pt 1), (4, ow 19), (21, vi ((List.length (List.replicate (((List.length a.rects_ : Nat) : Int)).toNat (0 : Int)) : Nat) : Int)), (22, vi y), (23, vb (decide (y < ((List.length (List.replicate (((List.length a.rects_ : Nat) : Int)).toNat (0 : Int)) : Nat) : Int))))] [(1, bx [.d (DL a.rects_)]), (19, AO H)] ?_
   refine AW.seq (AW.cN h (fun M0 h => ?_) (fun M0 h => ?_))
   ·refine AW.skip (AW.seq (AW.block (AW.SG0 Fm 2 [(1, pt 1), (4, ow 19), (5, vi y), (21, vi ((List.length (List.replicate (((List.length a.rects_ : Nat) : Int)).toNat (0 : Int)) : Nat) : Int)), (22, vi y)] [(1, bx [.d (DL a.rects_)]), (19, AO H)] ?_)))
    obtain ⟨T, h⟩ := gS h
    refine AW.WP Fm [.s, .s, .s, .s, .s] [(1, pt 1), (4, ow 19), (21, vi ((List.length (List.replicate (((List.length a.rects_ : Nat) : Int)).toNat (0 : Int)) : Nat) : Int)), (22, vi y)] [(1, bx [.d (DL a.rects_)]), (19, AO (α := Int) (List.set H y.toNat y))] (cA T (cT (toNat_lt T))) [(19, .arr 1 (List.length (α := Int) H) (fun j => if j = y.toNat then splice ((LF (α := Int) H) y.toNat) 0 [.int .i64 y] else (LF (α := Int) H) j))] ⟨OLe.is (Is.set (Is.refl H) (toNat_lt T) y (by kernel_rfl)), ⟨⟩⟩ ?_
    obtain ⟨X0, h⟩ := gS h
    refine AW.pN Fm [.s, .s] [(1, pt 1), (4, ow 19), (21, vi ((List.length (List.replicate (((List.length a.rects_ : Nat) : Int)).toNat (0 : Int)) : Nat) : Int)), (22, vi (y + 1))] [(1, bx [.d (DL a.rects_)]), (19, AO (α := Int) (List.set H y.toNat y))] (cT (cT X0)) ?_
    exact Kn.R Fm (u0 ((y + 1), (List.set H y.toNat y)) h)
   ·exact AW.exit (Kn.R Fm (w0 H h))
theorem ref11_Soft_spec {F : Nat} {j : (List Feature)} {l : Int} {a : Int} {i : Region} {r : Region × Int} (h : ref11_Soft F j l a i = some r) :
  FSpec Tryz.prog 59 [AL j, vi l, vi a, .v (.g [.d (DL i.rects_)])] [] (.t [.g [.d (DL (α := Rect) r.1.rects_)], .c (ci r.2)]) [] := by
 refine FI Tryz.func59 prog_mixed prog_lay fun C Fm => ?_
 unfold ref11_Soft at h
 refine AW.SG0 Fm 3 [(0, AL j), (1, vi l), (2, vi a), (7, pt 7), (8, pt 8)] [(7, bx [.d (DL i.rects_)]), (8, bx [.fl 0 fun _ => []])] ?_
 refine AW.seq (AW.seq ?_)
 obtain ⟨p, c0, h⟩ := bS h
 refine AW.G Fm [.s, .s, .k (cE [] [] (vi p) [] []), .s] (fun K => K 2 ∧ True) [(0, AL j), (1, vi l), (2, vi a), (7, pt 7), (8, pt 8), (10, vi p)] [(7, bx [.d (DL i.rects_)]), (8, bx [.fl 0 fun _ => []])] ⟨KAt.CC (ref11_begin_spec c0) Tryz.call134 [], ⟨⟩⟩ ?_
 refine AW.SG0 Fm 2 [(0, AL j), (1, vi l), (2, vi a), (7, pt 7), (8, pt 8), (10, vi p), (22, vb (p != (0 : Int)))] [(7, bx [.d (DL i.rects_)]), (8, bx [.fl 0 fun _ => []])] ?_
 refine AW.cN h (fun U h => ?_) (fun U h => ?_)
 ·refine AW.SP Fm [.w (.v (.g [.d (DL (α := Rect) [])])), .s, .s, .s] [(8, pt 8), (9, vi p)] [(8, bx [.d (DL (α := Rect) [])])] (cT (ALe.g ⟨CLe.fl .nil, ⟨⟩⟩ : ALe (.v (.g [.fl 0 fun _ => []])) (.v (.g [.d (DL (α := Rect) [])])))) ?_
  refine AW.ret ?_
  obtain rfl := Option.some.inj h
  exact Kn.D Fm
 ·refine AW.skip (AW.seq (AW.seq ?_))
  obtain ⟨M, d0, h⟩ := bS h
  refine AW.G Fm [.s, .k (cE [] [] (vb M) [] []), .s] (fun K => K 1 ∧ True) [(0, AL j), (1, vi l), (2, vi a), (7, pt 7), (8, pt 8), (27, vb (!M))] [(7, bx [.d (DL i.rects_)]), (8, bx [.fl 0 fun _ => []])] ⟨KAt.CC (ref04_Valid_spec d0) Tryz.call107 [], ⟨⟩⟩ ?_
  refine AW.cN h (fun V h => ?_) (fun V h => ?_)
  ·refine AW.SP Fm [.w (.v (.g [.d (DL (α := Rect) [])])), .s, .s] [(8, pt 8), (9, vi 7)] [(8, bx [.d (DL (α := Rect) [])])] (cT (ALe.g ⟨CLe.fl .nil, ⟨⟩⟩ : ALe (.v (.g [.fl 0 fun _ => []])) (.v (.g [.d (DL (α := Rect) [])])))) ?_
   refine AW.ret ?_
   obtain rfl := Option.some.inj h
   exact Kn.D Fm
  ·refine AW.skip (AW.seq (AW.join (r := r) (fun z : Bool => ref11_Soft_k0 F j l a i z) (fun z => [(0, AL j), (1, vi l), (2, vi a), (7, pt 7), (8, pt 8), (34, vb z)]) (fun z => [(7, bx [.d (DL i.rects_)]), (8, bx [.fl 0 fun _ => []])]) (fun t0 h => ?_) (fun n0 E => ?_)))
   ·refine AW.cN h (fun W h => ?_) (fun W h => ?_)
    ·refine AW.SP Fm [.w (.v (.g [.d (DL (α := Rect) [])])), .s, .s] [(8, pt 8), (9, vi 2)] [(8, bx [.d (DL (α := Rect) [])])] (cT (ALe.g ⟨CLe.fl .nil, ⟨⟩⟩ : ALe (.v (.g [.fl 0 fun _ => []])) (.v (.g [.d (DL (α := Rect) [])])))) ?_
     refine AW.ret ?_
     obtain rfl := Option.some.inj h
     exact Kn.D Fm
    ·refine AW.skip (AW.seq ?_)
     obtain ⟨A, e0, h⟩ := bS h
     refine AW.G Fm [.s, .s, .k (cE [] [] (AL A) [] []), .s] (fun K => K 2 ∧ True) [(2, vi a), (7, pt 7), (8, pt 8), (11, AL A)] [(7, bx [.d (DL i.rects_)]), (8, bx [.fl 0 fun _ => []])] ⟨KAt.CC (ref09_Squares_spec e0) Tryz.call135 [], ⟨⟩⟩ ?_
     refine AW.seq ?_
     obtain ⟨n, i0, h⟩ := bS h
     refine AW.G Fm [.s, .s, .s, .k (cE [] [] (AL n) [] []), .s] (fun K => K 3 ∧ True) [(2, vi a), (8, pt 8), (11, AL A), (12, AL n)] [(8, bx [.fl 0 fun _ => []])] ⟨KAt.CC (ref04_Combine_spec i0) Tryz.call122 [], ⟨⟩⟩ ?_
     refine AW.seq (AW.join (r := r) (fun z : Bool => ref11_Soft_k1 F a n z) (fun z => [(2, vi a), (8, pt 8), (12, AL n), (50, vb z)]) (fun z => [(8, bx [.fl 0 fun _ => []])]) (fun u0 h => ?_) (fun o0 H => ?_))
     ·refine AW.cN h (fun X h => ?_) (fun X h => ?_)
      ·refine AW.SP Fm [.w (.v (.g [.d (DL (α := Rect) [])])), .s, .s] [(8, pt 8), (9, vi 1)] [(8, bx [.d (DL (α := Rect) [])])] (cT (ALe.g ⟨CLe.fl .nil, ⟨⟩⟩ : ALe (.v (.g [.fl 0 fun _ => []])) (.v (.g [.d (DL (α := Rect) [])])))) ?_
       refine AW.ret ?_
       obtain rfl := Option.some.inj h
       exact Kn.D Fm
      ·refine AW.skip (AW.seq ?_)
       obtain ⟨b, j0, h⟩ := bS h
       refine AW.G Fm [.s, .s, .k (cE [] [] (.t [.c (.d (DL b.1)), .c (ci b.2)]) [] []), .s, .s, .s, .s, .s] (fun K => K 2 ∧ True) [(2, vi a), (8, pt 8), (13, AL b.1)] [(8, bx [.fl 0 fun _ => []])] ⟨KAt.CC (ref06_Parts_spec j0) Tryz.call139 [], ⟨⟩⟩ ?_
       refine AW.SW Fm [.m] (fun K => True) [(2, vi a), (8, pt 8), (13, AL b.1), (15, ow 15)] [(8, bx [.fl 0 fun _ => []]), (15, AO (α := Rect) ([] : List Rect))] True.intro [(15, .arr 4 (0) (fun _ => []))] ⟨OLe.is ((Is.nil (α := Rect))), ⟨⟩⟩ ?_
       refine AW.join (r := r) (fun z : (List Rect) => ref11_Soft_k4 F z) (fun z => [(8, pt 8), (15, AL z)]) (fun z => [(8, bx [.fl 0 fun _ => []])]) (fun w0 h => ?_) (fun s0 T => ?_)
       ·refine AW.seq ?_
        obtain ⟨q, m0, h⟩ := bS h
        refine AW.G Fm [.s, .k (cE [] [] (.t [.g [.d (DL q.1.rects_)], .c (ci q.2)]) [] []), .s, .s, .s, .s] (fun K => K 1 ∧ True) [(8, pt 8), (9, vi q.2)] [(8, bx [.d (DL q.1.rects_)])] ⟨KAt.CC (ref04_Bound_spec m0) Tryz.call128 [], ⟨⟩⟩ ?_
        refine AW.ret ?_
        obtain rfl := Option.some.inj h
        exact Kn.D Fm
       ·refine AW.SG0 Fm 3 [(2, vi a), (8, pt 8), (15, ow 15), (58, AL b.1), (59, vi (lI b.1)), (60, vi 0)] [(8, bx [.fl 0 fun _ => []]), (15, AO (α := Rect) ([] : List Rect))] ?_
        refine AW.block (Kn.r Fm [(2, vi a), (8, pt 8), (15, ow 15), (58, AL b.1), (59, vi (lI b.1)), (60, vi 0)] [(15, AO (α := Rect) ([] : List Rect)), (8, bx [.fl 0 fun _ => []])] (by kernel_rfl) ?_)
        refine Kn.frz [(2, vi a), (8, pt 8), (15, AL (α := Rect) ([] : List Rect)), (58, AL b.1), (59, vi (lI b.1)), (60, vi 0)] [(8, bx [.fl 0 fun _ => []])] (by kernel_rfl) (by kernel_rfl) (by kernel_rfl) ?_
        refine Kn.r Fm [(2, vi a), (8, pt 8), (15, AL ([] : List Rect)), (58, AL b.1), (59, vi (lI b.1)), (60, vi 0)] [(8, bx [.fl 0 fun _ => []])] (by kernel_rfl) ?_
        refine AW.loopF (E' := fun z => [(2, vi a), (8, pt 8), (15, AL z.1), (58, AL b.1), (59, vi (lI b.1)), (60, vi z.2)]) (S' := fun z => [(8, bx [.fl 0 fun _ => []])]) (fun O z p0 P h => ?_) h
        obtain ⟨o, e⟩ := z
        refine AW.SG0 Fm 1 [(2, vi a), (8, pt 8), (15, AL o), (58, AL b.1), (59, vi (lI b.1)), (60, vi e), (61, vb (decide (e < (lI b.1))))] [(8, bx [.fl 0 fun _ => []])] ?_
        refine AW.seq (AW.cN h (fun Y h => ?_) (fun Y h => ?_))
        ·refine AW.skip (AW.join (r := r) (fun z : (List Rect) => ref11_Soft_k3 F e O z) (fun z => [(2, vi a), (8, pt 8), (15, AL z), (58, AL b.1), (59, vi (lI b.1)), (60, vi e)]) (fun z => [(8, bx [.fl 0 fun _ => []])]) (fun L h => ?_) (fun q0 I => ?_))
         ·obtain ⟨b0, h⟩ := gS h
          refine AW.pN Fm [.s, .s] [(2, vi a), (8, pt 8), (15, AL L), (58, AL b.1), (59, vi (lI b.1)), (60, vi (e + 1))] [(8, bx [.fl 0 fun _ => []])] (cT (cT b0)) ?_
          exact Kn.R Fm (P (L, (e + 1)) h)
         ·refine AW.block ?_
          obtain ⟨a0, h⟩ := gS h
          refine AW.SP Fm [.s, .s, .s, .s] [(2, vi a), (8, pt 8), (15, AL o), (17, pt 17), (58, AL b.1), (59, vi (lI b.1)), (60, vi e)] [(8, bx [.fl 0 fun _ => []]), (17, bx [.d (DL (α := Rect) (gl b.1 e.toNat).rects_)])] (cT a0) ?_
          refine AW.seq ?_
          obtain ⟨N, k0, h⟩ := bS h
          refine AW.G Fm [.s, .k (cE [] [] (vi N) [] []), .s, .s] (fun K => K 1 ∧ True) [(2, vi a), (8, pt 8), (15, AL o), (17, pt 17), (58, AL b.1), (59, vi (lI b.1)), (60, vi e), (67, vb (decide (a < N)))] [(8, bx [.fl 0 fun _ => []]), (17, bx [.d (DL (α := Rect) (gl b.1 e.toNat).rects_)])] ⟨KAt.CC (ref04_Area_spec k0) Tryz.call40 [], ⟨⟩⟩ ?_
          refine AW.cN h (fun Z h => ?_) (fun Z h => ?_)
          ·obtain ⟨B, l0, h⟩ := bS h
           refine AW.G Fm [.s, .s, .s, .k (cE [] [] (AL B) [] []), .s] (fun K => K 3 ∧ True) [(2, vi a), (8, pt 8), (15, AL B), (58, AL b.1), (59, vi (lI b.1)), (60, vi e)] [(8, bx [.fl 0 fun _ => []])] ⟨KAt.CC (ref04_Combine_spec l0) Tryz.call122 [], ⟨⟩⟩ ?_
           exact Kn.R Fm (I B h)
          ·exact AW.skip (Kn.R Fm (I o h))
        ·exact AW.exit (Kn.R Fm (T o h))
     ·rcases br_or h with ⟨y, h⟩ | ⟨y, h⟩
      ·refine AW.pN Fm [.s, .s, .s, .w (vb true), .s, .s, .s, .s] [(2, vi a), (8, pt 8), (12, AL n), (50, vb true)] [(8, bx [.fl 0 fun _ => []])] (cT (ALe.bool y)) ?_
       exact Kn.R Fm (H true h)
      ·refine AW.pN Fm [.s, .s, .s, .w (vb false), .s, .s, .s, .s] [(2, vi a), (8, pt 8), (12, AL n), (50, vb (decide ((120 : Int) < (lI n))))] [(8, bx [.fl 0 fun _ => []])] (cT (ALe.bool y)) ?_
       exact Kn.R Fm (H (decide ((120 : Int) < (lI n))) h)
   ·rcases br_or h with ⟨u, h⟩ | ⟨u, h⟩
    ·refine AW.pN Fm [.s, .s, .w (vb true), .s, .s, .s] [(0, AL j), (1, vi l), (2, vi a), (7, pt 7), (8, pt 8), (34, vb true)] [(7, bx [.d (DL i.rects_)]), (8, bx [.fl 0 fun _ => []])] (cT (ALe.bool u)) ?_
     exact Kn.R Fm (E true h)
    ·refine AW.pN Fm [.s, .s, .w (vb false), .s, .s, .s] [(0, AL j), (1, vi l), (2, vi a), (7, pt 7), (8, pt 8), (34, vb (decide ((268435456 : Int) < a)))] [(7, bx [.d (DL i.rects_)]), (8, bx [.fl 0 fun _ => []])] (cT (ALe.bool u)) ?_
     exact Kn.R Fm (E (decide ((268435456 : Int) < a)) h)
theorem ref11_Eligible_spec {F : Nat} {a : Region} {e : (List Feature)} {i : Int} {b : Int} {r : Region × Int} (h : ref11_Eligible F a e i b = some r) :
  FSpec Tryz.prog 61 [.v (.g [.d (DL a.rects_)]), AL e, vi i, vi b] [] (.t [.g [.d (DL (α := Rect) r.1.rects_)], .c (ci r.2)]) [] := by
 refine FI Tryz.func61 prog_mixed prog_lay fun C Fm => ?_
 unfold ref11_Eligible at h
 refine AW.SG0 Fm 3 [(1, AL e), (2, vi i), (3, vi b), (4, pt 4), (8, pt 8)] [(4, bx [.d (DL a.rects_)]), (8, bx [.fl 0 fun _ => []])] ?_
 refine AW.seq (AW.seq ?_)
 obtain ⟨m, H, h⟩ := bS h
 refine AW.G Fm [.s, .s, .k (cE [] [] (vi m) [] []), .s] (fun K => K 2 ∧ True) [(1, AL e), (2, vi i), (3, vi b), (4, pt 4), (8, pt 8), (10, vi m)] [(4, bx [.d (DL a.rects_)]), (8, bx [.fl 0 fun _ => []])] ⟨KAt.CC (ref11_begin_spec H) Tryz.call134 [], ⟨⟩⟩ ?_
 refine AW.SG0 Fm 2 [(1, AL e), (2, vi i), (3, vi b), (4, pt 4), (8, pt 8), (10, vi m), (18, vb (m != (0 : Int)))] [(4, bx [.d (DL a.rects_)]), (8, bx [.fl 0 fun _ => []])] ?_
 refine AW.cN h (fun u h => ?_) (fun u h => ?_)
 ·refine AW.SP Fm [.w (.v (.g [.d (DL (α := Rect) [])])), .s, .s, .s] [(8, pt 8), (9, vi m)] [(8, bx [.d (DL (α := Rect) [])])] (cT (ALe.g ⟨CLe.fl .nil, ⟨⟩⟩ : ALe (.v (.g [.fl 0 fun _ => []])) (.v (.g [.d (DL (α := Rect) [])])))) ?_
  refine AW.ret ?_
  obtain rfl := Option.some.inj h
  exact Kn.D Fm
 ·refine AW.skip (AW.seq (AW.seq ?_))
  obtain ⟨q, I, h⟩ := bS h
  refine AW.G Fm [.s, .k (cE [] [] (vb q) [] []), .s] (fun K => K 1 ∧ True) [(1, AL e), (2, vi i), (3, vi b), (4, pt 4), (8, pt 8), (23, vb (!q))] [(4, bx [.d (DL a.rects_)]), (8, bx [.fl 0 fun _ => []])] ⟨KAt.CC (ref04_Valid_spec I) Tryz.call107 [], ⟨⟩⟩ ?_
  refine AW.cN h (fun y h => ?_) (fun y h => ?_)
  ·refine AW.SP Fm [.w (.v (.g [.d (DL (α := Rect) [])])), .s, .s] [(8, pt 8), (9, vi 7)] [(8, bx [.d (DL (α := Rect) [])])] (cT (ALe.g ⟨CLe.fl .nil, ⟨⟩⟩ : ALe (.v (.g [.fl 0 fun _ => []])) (.v (.g [.d (DL (α := Rect) [])])))) ?_
   refine AW.ret ?_
   obtain rfl := Option.some.inj h
   exact Kn.D Fm
  ·refine AW.skip (AW.seq (AW.join (r := r) (fun z : Bool => ref11_Eligible_k0 F a e i b z) (fun z => [(1, AL e), (2, vi i), (3, vi b), (4, pt 4), (8, pt 8), (30, vb z)]) (fun z => [(4, bx [.d (DL a.rects_)]), (8, bx [.fl 0 fun _ => []])]) (fun W h => ?_) (fun V p => ?_)))
   ·refine AW.cN h (fun A h => ?_) (fun A h => ?_)
    ·refine AW.SP Fm [.w (.v (.g [.d (DL (α := Rect) [])])), .s, .s] [(8, pt 8), (9, vi 2)] [(8, bx [.d (DL (α := Rect) [])])] (cT (ALe.g ⟨CLe.fl .nil, ⟨⟩⟩ : ALe (.v (.g [.fl 0 fun _ => []])) (.v (.g [.d (DL (α := Rect) [])])))) ?_
     refine AW.ret ?_
     obtain rfl := Option.some.inj h
     exact Kn.D Fm
    ·refine AW.skip (AW.seq ?_)
     obtain ⟨j, L, h⟩ := bS h
     refine AW.G Fm [.s, .s, .k (cE [] [] (.t [.g [.d (DL j.1.rects_)], .c (ci j.2)]) [] []), .s, .s, .s, .s, .s, .s] (fun K => K 2 ∧ True) [(1, AL e), (2, vi i), (3, vi b), (4, pt 4), (8, pt 8), (11, pt 11), (12, vi j.2)] [(4, bx [.d (DL a.rects_)]), (8, bx [.fl 0 fun _ => []]), (11, bx [.d (DL j.1.rects_)])] ⟨KAt.CC (ref11_Hard_spec L) Tryz.call57 [], ⟨⟩⟩ ?_
     refine AW.seq (AW.SG0 Fm 2 [(1, AL e), (2, vi i), (3, vi b), (4, pt 4), (8, pt 8), (11, pt 11), (12, vi j.2), (39, vb (j.2 != (0 : Int)))] [(4, bx [.d (DL a.rects_)]), (8, bx [.fl 0 fun _ => []]), (11, bx [.d (DL j.1.rects_)])] ?_)
     refine AW.cN h (fun B h => ?_) (fun B h => ?_)
     ·refine AW.SP Fm [.w (.v (.g [.d (DL (α := Rect) [])])), .s, .s, .s] [(8, pt 8), (9, vi j.2)] [(8, bx [.d (DL (α := Rect) [])])] (cT (ALe.g ⟨CLe.fl .nil, ⟨⟩⟩ : ALe (.v (.g [.fl 0 fun _ => []])) (.v (.g [.d (DL (α := Rect) [])])))) ?_
      refine AW.ret ?_
      obtain rfl := Option.some.inj h
      exact Kn.D Fm
     ·refine AW.skip (AW.seq ?_)
      obtain ⟨l, M, h⟩ := bS h
      refine AW.G Fm [.s, .s, .s, .s, .k (cE [] [] (.t [.g [.d (DL l.1.rects_)], .c (ci l.2)]) [] []), .s, .s, .s, .s, .s, .s] (fun K => K 4 ∧ True) [(4, pt 4), (8, pt 8), (11, pt 11), (12, vi l.2), (13, pt 13)] [(4, bx [.d (DL a.rects_)]), (8, bx [.fl 0 fun _ => []]), (11, bx [.d (DL j.1.rects_)]), (13, bx [.d (DL l.1.rects_)])] ⟨KAt.CC (ref11_Soft_spec M) Tryz.call59 [], ⟨⟩⟩ ?_
      refine AW.seq (AW.SG0 Fm 2 [(4, pt 4), (8, pt 8), (11, pt 11), (12, vi l.2), (13, pt 13), (51, vb (l.2 != (0 : Int)))] [(4, bx [.d (DL a.rects_)]), (8, bx [.fl 0 fun _ => []]), (11, bx [.d (DL j.1.rects_)]), (13, bx [.d (DL l.1.rects_)])] ?_)
      refine AW.cN h (fun E h => ?_) (fun E h => ?_)
      ·refine AW.SP Fm [.w (.v (.g [.d (DL (α := Rect) [])])), .s, .s, .s] [(8, pt 8), (9, vi l.2)] [(8, bx [.d (DL (α := Rect) [])])] (cT (ALe.g ⟨CLe.fl .nil, ⟨⟩⟩ : ALe (.v (.g [.fl 0 fun _ => []])) (.v (.g [.d (DL (α := Rect) [])])))) ?_
       refine AW.ret ?_
       obtain rfl := Option.some.inj h
       exact Kn.D Fm
      ·refine AW.skip (AW.seq ?_)
       obtain ⟨T, N, h⟩ := bS h
       obtain ⟨U, O, h⟩ := bS h
       obtain ⟨n, P, h⟩ := bS h
       refine AW.G Fm [.s, .s, .s, .s, .k (cE [] [] (AL T) [] []), .s, .s, .k (cE [] [] (AL U) [] []), .k (cE [] [] (.t [.g [.d (DL n.1.rects_)], .c (ci n.2)]) [] []), .s, .s, .s, .s] (fun K => K 4 ∧ K 7 ∧ K 8 ∧ True) [(8, pt 8), (9, vi n.2)] [(8, bx [.d (DL n.1.rects_)])] ⟨KAt.CC (ref04_Combine_spec N) Tryz.call122 [], KAt.CC (ref04_Combine_spec O) Tryz.call122 [], KAt.CC (ref04_Bound_spec P) Tryz.call128 [], ⟨⟩⟩ ?_
       refine AW.ret ?_
       obtain rfl := Option.some.inj h
       exact Kn.D Fm
   ·rcases br_or h with ⟨o, h⟩ | ⟨o, h⟩
    ·refine AW.pN Fm [.s, .s, .w (vb true), .s, .s, .s] [(1, AL e), (2, vi i), (3, vi b), (4, pt 4), (8, pt 8), (30, vb true)] [(4, bx [.d (DL a.rects_)]), (8, bx [.fl 0 fun _ => []])] (cT (ALe.bool o)) ?_
     exact Kn.R Fm (p true h)
    ·refine AW.pN Fm [.s, .s, .w (vb false), .s, .s, .s] [(1, AL e), (2, vi i), (3, vi b), (4, pt 4), (8, pt 8), (30, vb (decide ((268435456 : Int) < b)))] [(4, bx [.d (DL a.rects_)]), (8, bx [.fl 0 fun _ => []])] (cT (ALe.bool o)) ?_
     exact Kn.R Fm (p (decide ((268435456 : Int) < b)) h)
theorem feature_Kind_1_spec {F : Nat} {b : Int} {a : Int} {r : Bool} (h : feature_Kind_1 F b a = some r) :
  FSpec Tryz.prog 156 [vi b, pt 0] [(0, .box true [ci a])] (vb r) [(0, .box true [ci a])] := by
 refine FI Tryz.func156 prog_mixed prog_lay fun C Fm => ?_
 unfold feature_Kind_1 at h
 refine AW.SG0 Fm 1 [(0, vi b), (1, pt 0)] [(0, .box true [ci a])] ?_
 refine AW.SG0 Fm 4 [(3, vb (b == a))] [(0, .box true [ci a])] ?_
 refine AW.ret ?_
 obtain rfl := Option.some.inj h
 exact Kn.D Fm
theorem feature_Kind_spec {F : Nat} {b : (List Feature)} {a : Int} {e : Int} {r : Region × Int} (h : feature_Kind F b a e = some r) :
  FSpec Tryz.prog 76 [AL b, vi a, vi e] [] (.t [.g [.d (DL (α := Rect) r.1.rects_)], .c (ci r.2)]) [] := by
 refine FI Tryz.func76 prog_mixed prog_lay fun C Fm => ?_
 unfold feature_Kind at h
 refine AW.SG0 Fm 3 [(0, AL b), (2, vi e), (4, pt 4), (6, pt 6)] [(4, bx [ci a]), (6, bx [.fl 0 fun _ => []])] ?_
 refine AW.seq (AW.seq ?_)
 obtain ⟨i, q, h⟩ := bS h
 refine AW.G Fm [.s, .s, .k (cE [] [] (vi i) [] []), .s] (fun K => K 2 ∧ True) [(0, AL b), (2, vi e), (4, pt 4), (6, pt 6), (8, vi i)] [(4, bx [ci a]), (6, bx [.fl 0 fun _ => []])] ⟨KAt.CC (feature_right_spec q) Tryz.call149 [], ⟨⟩⟩ ?_
 refine AW.SG0 Fm 2 [(0, AL b), (2, vi e), (4, pt 4), (6, pt 6), (8, vi i), (13, vb (i != (0 : Int)))] [(4, bx [ci a]), (6, bx [.fl 0 fun _ => []])] ?_
 refine AW.cN h (fun n h => ?_) (fun n h => ?_)
 ·refine AW.SP Fm [.w (.v (.g [.d (DL (α := Rect) [])])), .s, .s, .s] [(6, pt 6), (7, vi i)] [(6, bx [.d (DL (α := Rect) [])])] (cT (ALe.g ⟨CLe.fl .nil, ⟨⟩⟩ : ALe (.v (.g [.fl 0 fun _ => []])) (.v (.g [.d (DL (α := Rect) [])])))) ?_
  refine AW.ret ?_
  obtain rfl := Option.some.inj h
  exact Kn.D Fm
 ·refine AW.skip (AW.seq (AW.join (r := r) (fun z : Bool => feature_Kind_k0 F b a e z) (fun z => [(0, AL b), (2, vi e), (4, pt 4), (6, pt 6), (21, vb z)]) (fun z => [(4, bx [ci a]), (6, bx [.fl 0 fun _ => []])]) (fun H h => ?_) (fun E m => ?_)))
  ·refine AW.cN h (fun o h => ?_) (fun o h => ?_)
   ·refine AW.SP Fm [.w (.v (.g [.d (DL (α := Rect) [])])), .s, .s] [(6, pt 6), (7, vi 14)] [(6, bx [.d (DL (α := Rect) [])])] (cT (ALe.g ⟨CLe.fl .nil, ⟨⟩⟩ : ALe (.v (.g [.fl 0 fun _ => []])) (.v (.g [.d (DL (α := Rect) [])])))) ?_
    refine AW.ret ?_
    obtain rfl := Option.some.inj h
    exact Kn.D Fm
   ·refine AW.skip (AW.seq ?_)
    obtain ⟨B, u, h⟩ := bS h
    obtain ⟨j, A, h⟩ := bS h
    refine AW.G Fm [.s, .s, .s, .k (cE [] [4] (AL B) [] []), .k (cE [] [] (.t [.g [.d (DL j.1.rects_)], .c (ci j.2)]) [] []), .s, .s, .s, .s] (fun K => K 3 ∧ K 4 ∧ True) [(6, pt 6), (7, vi j.2)] [(6, bx [.d (DL j.1.rects_)])] ⟨KAt.callX (feature_Rects_spec u) Tryz.call155 [] [4] [.tmp 23, .tmp 24, .tmp 25] rfl (by kernel_rfl) (by kernel_rfl) (by kernel_rfl) ⟨.p, .p, ArgT.cloX Tryz.call156 [[ci a]] (fun args r hq => by obtain ⟨y0, y, hq, rfl, rfl⟩ := hq; exact Eq.mp (by kernel_rfl) (feature_Kind_1_spec hq)) (fun args r hq => by obtain ⟨y0, y, hq, rfl, rfl⟩ := hq; rfl) (by kernel_rfl) [4] (by kernel_rfl) (by kernel_rfl) (⟨⟨false, (by kernel_rfl)⟩, ⟨⟩⟩) (by kernel_rfl), ⟨⟩⟩, KAt.CC (region_Joined_spec A) Tryz.call111 [], ⟨⟩⟩ ?_
    refine AW.ret ?_
    obtain rfl := Option.some.inj h
    exact Kn.D Fm
  ·rcases br_or h with ⟨l, h⟩ | ⟨l, h⟩
   ·refine AW.pN Fm [.s, .s, .w (vb true), .s, .s, .s] [(0, AL b), (2, vi e), (4, pt 4), (6, pt 6), (21, vb true)] [(4, bx [ci a]), (6, bx [.fl 0 fun _ => []])] (cT (ALe.bool l)) ?_
    exact Kn.R Fm (m true h)
   ·refine AW.pN Fm [.s, .s, .w (vb false), .s, .s, .s] [(0, AL b), (2, vi e), (4, pt 4), (6, pt 6), (21, vb (decide ((15 : Int) < a)))] [(4, bx [ci a]), (6, bx [.fl 0 fun _ => []])] (cT (ALe.bool l)) ?_
    exact Kn.R Fm (m (decide ((15 : Int) < a)) h)
theorem shape_check_spec {F : Nat} {c : Region} {a : Int} {r : Int} (h : shape_check F c a = some r) :
  FSpec Tryz.prog 211 [.v (.g [.d (DL c.rects_)]), vi a] [] (vi r) [] := by
 refine FI Tryz.func211 prog_mixed prog_lay fun C Fm => ?_
 unfold shape_check at h
 refine AW.SG0 Fm 2 [(1, vi a), (2, pt 2)] [(2, bx [.d (DL c.rects_)])] ?_
 refine AW.seq (AW.block (AW.seq ?_))
 obtain ⟨i, m, h⟩ := bS h
 refine AW.G Fm [.s, .k (cE [] [] (vb i) [] []), .s, .s] (fun K => K 1 ∧ True) [(1, vi a), (5, vb (!i))] [] ⟨KAt.CC (region_Valid_spec m) Tryz.call92 [], ⟨⟩⟩ ?_
 refine AW.cN h (fun j h => ?_) (fun j h => ?_)
 ·refine AW.SG0 Fm 1 [(4, vi 7)] [] ?_
  refine AW.ret ?_
  obtain rfl := Option.some.inj h
  exact Kn.D Fm
 ·refine AW.join (r := r) (fun z : Bool => shape_check_k0 F z) (fun z => [(9, vb z)]) (fun z => []) (fun o h => ?_) (fun n e => ?_)
  ·refine AW.cN h (fun l h => ?_) (fun l h => ?_)
   ·refine AW.SG0 Fm 1 [(4, vi 2)] [] ?_
    refine AW.ret ?_
    obtain rfl := Option.some.inj h
    exact Kn.D Fm
   ·refine AW.skip (AW.SG0 Fm 1 [(4, vi 0)] [] ?_)
    refine AW.ret ?_
    obtain rfl := Option.some.inj h
    exact Kn.D Fm
  ·rcases br_or h with ⟨b, h⟩ | ⟨b, h⟩
   ·refine AW.pN Fm [.s, .s, .w (vb true), .s, .s, .s, .s] [(9, vb true)] [] (cT (ALe.bool b)) ?_
    exact Kn.R Fm (e true h)
   ·refine AW.pN Fm [.s, .s, .w (vb false), .s, .s, .s, .s] [(9, vb (decide ((64 : Int) < a)))] [] (cT (ALe.bool b)) ?_
    exact Kn.R Fm (e (decide ((64 : Int) < a)) h)
theorem shape_wider_spec {F : Nat} {a : (List Rect)} {b : Int} {r : (List Rect)} (h : shape_wider F a b = some r) :
  FSpec Tryz.prog 212 [AL a, vi b] [] (ow 100) [(100, AO (α := Rect) r)] := by
 refine FI Tryz.func212 prog_mixed prog_lay fun C Fm => ?_
 unfold shape_wider at h
 refine AW.SG Fm [.m] (fun K => True) [(0, AL a), (1, vi b)] [] True.intro ?_
 refine AW.SW Fm [.m] (fun K => True) [(0, AL a), (1, vi b), (5, ow 5)] [(5, AO (α := Rect) ([] : List Rect))] True.intro [(5, .arr 4 (0) (fun _ => []))] ⟨OLe.is ((Is.nil (α := Rect))), ⟨⟩⟩ ?_
 refine AW.join (r := r) (fun z : (List Rect) => shape_wider_k1 F z) (fun z => [(5, ow 5)]) (fun z => [(5, AO z)]) (fun j h => ?_) (fun D l => ?_)
 ·refine AW.SG0 Fm 2 [(4, ow 5)] [(5, AO j)] ?_
  refine AW.ret ?_
  obtain rfl := Option.some.inj h
  exact Kn.re Fm [(100, 5)] [(4, ow 100)] [(100, AO j)] (by kernel_rfl) (by kernel_rfl) (by kernel_rfl) (by kernel_rfl) (Kn.dn Fm (by kernel_rfl))
 ·refine AW.SG0 Fm 3 [(1, vi b), (5, ow 5), (8, AL a), (9, vi (lI a)), (10, vi 0)] [(5, AO (α := Rect) ([] : List Rect))] ?_
  refine AW.block (Kn.r Fm [(1, vi b), (5, ow 5), (8, AL a), (9, vi (lI a)), (10, vi 0)] [(5, AO ([] : List Rect))] (by kernel_rfl) ?_)
  refine AW.loopF (E' := fun z => [(1, vi b), (5, ow 5), (8, AL a), (9, vi (lI a)), (10, vi z.1)]) (S' := fun z => [(5, AO z.2)]) (fun E z B k h => ?_) h
  obtain ⟨e, i⟩ := z
  refine AW.SG0 Fm 1 [(1, vi b), (5, ow 5), (8, AL a), (9, vi (lI a)), (10, vi e), (11, vb (decide (e < (lI a))))] [(5, AO i)] ?_
  refine AW.seq (AW.cN h (fun n h => ?_) (fun n h => ?_))
  ·refine AW.skip (AW.seq (AW.block ?_))
   obtain ⟨o, h⟩ := gS h
   refine AW.SP Fm [.s, .s, .s, .s] [(1, vi b), (5, ow 5), (7, pt 7), (8, AL a), (9, vi (lI a)), (10, vi e)] [(5, AO i), (7, bx [ci ((gl a e.toNat).left_), ci ((gl a e.toNat).low_), ci ((gl a e.toNat).right_), ci ((gl a e.toNat).high_)])] (cT o) ?_
   obtain ⟨p, q, t, u, h⟩ := gS4 h
   obtain ⟨y, h⟩ := gS h
   refine AW.WP Fm [.s, .s, .s, .s, .s, .s, .s, .s, .s, .s, .s, .s, .s, .s, .s, .s, .s, .s, .w (AL (α := Rect) ([(⟨(((gl a e.toNat).left_) - b), (((gl a e.toNat).low_) - b), (((gl a e.toNat).right_) + b), (((gl a e.toNat).high_) + b)⟩ : Rect)] : List Rect)), .s, .s] [(1, vi b), (5, ow 33), (8, AL a), (9, vi (lI a)), (10, vi e)] [(33, AO (α := Rect) (i ++ ([(⟨(((gl a e.toNat).left_) - b), (((gl a e.toNat).low_) - b), (((gl a e.toNat).right_) + b), (((gl a e.toNat).high_) + b)⟩ : Rect)] : List Rect)))] (cA (cT p) (cA (cT q) (cA (cT t) (cA (cT u) (cA (ALe.lst (.lit ([(⟨(((gl a e.toNat).left_) - b), (((gl a e.toNat).low_) - b), (((gl a e.toNat).right_) + b), (((gl a e.toNat).high_) + b)⟩ : Rect)] : List Rect) (by kernel_rfl)) : ALe (.v (.c (.d (.lst 1 (litF 4 [.int .i64 (((gl a e.toNat).left_) - b), .int .i64 (((gl a e.toNat).low_) - b), .int .i64 (((gl a e.toNat).right_) + b), .int .i64 (((gl a e.toNat).high_) + b)]))))) (AL (α := Rect) ([(⟨(((gl a e.toNat).left_) - b), (((gl a e.toNat).low_) - b), (((gl a e.toNat).right_) + b), (((gl a e.toNat).high_) + b)⟩ : Rect)] : List Rect))) (cT (cA y (cT (Is.refl ([(⟨(((gl a e.toNat).left_) - b), (((gl a e.toNat).low_) - b), (((gl a e.toNat).right_) + b), (((gl a e.toNat).high_) + b)⟩ : Rect)] : List Rect) : Is (List.length (α := Rect) ([(⟨(((gl a e.toNat).left_) - b), (((gl a e.toNat).low_) - b), (((gl a e.toNat).right_) + b), (((gl a e.toNat).high_) + b)⟩ : Rect)] : List Rect)) (LF (α := Rect) ([(⟨(((gl a e.toNat).left_) - b), (((gl a e.toNat).low_) - b), (((gl a e.toNat).right_) + b), (((gl a e.toNat).high_) + b)⟩ : Rect)] : List Rect)) ([(⟨(((gl a e.toNat).left_) - b), (((gl a e.toNat).low_) - b), (((gl a e.toNat).right_) + b), (((gl a e.toNat).high_) + b)⟩ : Rect)] : List Rect)).len)))))))) [(33, .arr 4 ((List.length (α := Rect) i) + (List.length (α := Rect) ([(⟨(((gl a e.toNat).left_) - b), (((gl a e.toNat).low_) - b), (((gl a e.toNat).right_) + b), (((gl a e.toNat).high_) + b)⟩ : Rect)] : List Rect))) (appF (List.length (α := Rect) i) (LF (α := Rect) i) (LF (α := Rect) ([(⟨(((gl a e.toNat).left_) - b), (((gl a e.toNat).low_) - b), (((gl a e.toNat).right_) + b), (((gl a e.toNat).high_) + b)⟩ : Rect)] : List Rect))))] ⟨OLe.is (Is.app (Is.refl i) (Is.refl ([(⟨(((gl a e.toNat).left_) - b), (((gl a e.toNat).low_) - b), (((gl a e.toNat).right_) + b), (((gl a e.toNat).high_) + b)⟩ : Rect)] : List Rect))), ⟨⟩⟩ ?_
   obtain ⟨A, h⟩ := gS h
   refine AW.pN Fm [.s, .s] [(1, vi b), (5, ow 33), (8, AL a), (9, vi (lI a)), (10, vi (e + 1))] [(33, AO (α := Rect) (i ++ ([(⟨(((gl a e.toNat).left_) - b), (((gl a e.toNat).low_) - b), (((gl a e.toNat).right_) + b), (((gl a e.toNat).high_) + b)⟩ : Rect)] : List Rect)))] (cT (cT A)) ?_
   exact Kn.RE Fm [(5, 33)] (k ((e + 1), (i ++ ([(⟨(((gl a e.toNat).left_) - b), (((gl a e.toNat).low_) - b), (((gl a e.toNat).right_) + b), (((gl a e.toNat).high_) + b)⟩ : Rect)] : List Rect))) h)
  ·exact AW.exit (Kn.R Fm (l i h))
theorem region_Of_1_spec {F : Nat} {a : Rect} {r : Bool} (h : region_Of_1 F a = some r) :
  FSpec Tryz.prog 252 [gE a] [] (vb r) [] := by
 refine FI Tryz.func252 prog_mixed prog_lay fun C Fm => ?_
 unfold region_Of_1 at h
 refine AW.SG0 Fm 2 [(1, pt 1)] [(1, bx (gC a))] ?_
 refine AW.seq ?_
 obtain ⟨b, c, h⟩ := bS h
 refine AW.G Fm [.s, .k (cE [] [] (vb b) [] []), .s, .s] (fun K => K 1 ∧ True) [(2, vb (!b))] [] ⟨KAt.CC (region_proper_spec c) Tryz.call173 [], ⟨⟩⟩ ?_
 refine AW.ret ?_
 obtain rfl := Option.some.inj h
 exact Kn.D Fm
theorem region_Of_spec {F : Nat} {a : (List Rect)} {r : Region × Int} (h : region_Of F a = some r) :
  FSpec Tryz.prog 213 [AL a] [] (.t [.g [.d (DL (α := Rect) r.1.rects_)], .c (ci r.2)]) [] := by
 refine FI Tryz.func213 prog_mixed prog_lay fun C Fm => ?_
 unfold region_Of at h
 refine AW.SG0 Fm 2 [(0, AL a), (2, pt 2)] [(2, bx [.fl 0 fun _ => []])] ?_
 refine AW.seq (AW.SG0 Fm 3 [(0, AL a), (2, pt 2), (6, vb (decide ((120 : Int) < (lI a))))] [(2, bx [.fl 0 fun _ => []])] ?_)
 refine AW.cN h (fun i h => ?_) (fun i h => ?_)
 ·refine AW.SP Fm [.w (.v (.g [.d (DL (α := Rect) [])])), .s, .s] [(2, pt 2), (3, vi 1)] [(2, bx [.d (DL (α := Rect) [])])] (cT (ALe.g ⟨CLe.fl .nil, ⟨⟩⟩ : ALe (.v (.g [.fl 0 fun _ => []])) (.v (.g [.d (DL (α := Rect) [])])))) ?_
  refine AW.ret ?_
  obtain rfl := Option.some.inj h
  exact Kn.D Fm
 ·refine AW.skip (AW.seq (AW.seq ?_))
  obtain ⟨e, l, h⟩ := bS h
  refine AW.G Fm [.s, .k (cE [] [] (vb e) [] [])] (fun K => K 1 ∧ True) [(0, AL a), (2, pt 2), (9, vb e)] [(2, bx [.fl 0 fun _ => []])] ⟨KAt.callX (slices_ContainsFunc_Rect_spec l) Tryz.call171 [] [] [.tmp 8, .func 252] rfl (by kernel_rfl) (by kernel_rfl) (by kernel_rfl) ⟨.p, ArgT.cloX Tryz.call252 [] (fun args r hq => by obtain ⟨y0, y, hq, rfl, rfl⟩ := hq; exact Eq.mp (by kernel_rfl) (region_Of_1_spec hq)) (fun args r hq => by obtain ⟨y0, y, hq, rfl, rfl⟩ := hq; rfl) (by kernel_rfl) [] (by kernel_rfl) (by kernel_rfl) (True.intro) (by kernel_rfl), ⟨⟩⟩, ⟨⟩⟩ ?_
  refine AW.cN h (fun j h => ?_) (fun j h => ?_)
  ·refine AW.SP Fm [.w (.v (.g [.d (DL (α := Rect) [])])), .s, .s] [(2, pt 2), (3, vi 2)] [(2, bx [.d (DL (α := Rect) [])])] (cT (ALe.g ⟨CLe.fl .nil, ⟨⟩⟩ : ALe (.v (.g [.fl 0 fun _ => []])) (.v (.g [.d (DL (α := Rect) [])])))) ?_
   refine AW.ret ?_
   obtain rfl := Option.some.inj h
   exact Kn.D Fm
  ·refine AW.skip (AW.seq ?_)
   obtain ⟨o, m, h⟩ := bS h
   obtain ⟨b, n, h⟩ := bS h
   refine AW.G Fm [.s, .k (cE [] [] (AL o) [] []), .k (cE [] [] (.t [.g [.d (DL b.1.rects_)], .c (ci b.2)]) [] []), .s, .s, .s, .s] (fun K => K 1 ∧ K 2 ∧ True) [(2, pt 2), (3, vi b.2)] [(2, bx [.d (DL b.1.rects_)])] ⟨KAt.CC (region_canonical_spec m) Tryz.call175 [], KAt.CC (region_Limited_spec n) Tryz.call140 [], ⟨⟩⟩ ?_
   refine AW.ret ?_
   obtain rfl := Option.some.inj h
   exact Kn.D Fm
theorem shape_Grow_spec {F : Nat} {i : Region} {l : Int} {r : Region × Int} (h : shape_Grow F i l = some r) :
  FSpec Tryz.prog 143 [.v (.g [.d (DL i.rects_)]), vi l] [] (.t [.g [.d (DL (α := Rect) r.1.rects_)], .c (ci r.2)]) [] := by
 refine FI Tryz.func143 prog_mixed prog_lay fun C Fm => ?_
 unfold shape_Grow at h
 refine AW.SG0 Fm 3 [(1, vi l), (2, pt 2), (4, pt 4)] [(2, bx [.d (DL i.rects_)]), (4, bx [.fl 0 fun _ => []])] ?_
 refine AW.seq (AW.seq ?_)
 obtain ⟨m, H, h⟩ := bS h
 refine AW.G Fm [.s, .s, .k (cE [] [] (vi m) [] []), .s] (fun K => K 2 ∧ True) [(1, vi l), (2, pt 2), (4, pt 4), (6, vi m)] [(2, bx [.d (DL i.rects_)]), (4, bx [.fl 0 fun _ => []])] ⟨KAt.CC (shape_check_spec H) Tryz.call211 [], ⟨⟩⟩ ?_
 refine AW.SG0 Fm 2 [(1, vi l), (2, pt 2), (4, pt 4), (6, vi m), (14, vb (m != (0 : Int)))] [(2, bx [.d (DL i.rects_)]), (4, bx [.fl 0 fun _ => []])] ?_
 refine AW.cN h (fun A h => ?_) (fun A h => ?_)
 ·refine AW.SP Fm [.w (.v (.g [.d (DL (α := Rect) [])])), .s, .s, .s] [(4, pt 4), (5, vi m)] [(4, bx [.d (DL (α := Rect) [])])] (cT (ALe.g ⟨CLe.fl .nil, ⟨⟩⟩ : ALe (.v (.g [.fl 0 fun _ => []])) (.v (.g [.d (DL (α := Rect) [])])))) ?_
  refine AW.ret ?_
  obtain rfl := Option.some.inj h
  exact Kn.D Fm
 ·refine AW.skip (AW.seq ?_)
  obtain ⟨e, I, h⟩ := bS h
  refine AW.G Fm [.s, .s, .s, .k (cE [(100, 20)] [] (ow 100) [] [(100, AO e)]), .s] (fun K => K 3 ∧ True) [(4, pt 4), (7, ow 20)] [(4, bx [.fl 0 fun _ => []]), (20, AO e)] ⟨KAt.CC (shape_wider_spec I) Tryz.call212 [(100, 20)], ⟨⟩⟩ ?_
  refine AW.join (r := r) (fun z : (List Rect) => shape_Grow_k1 F z) (fun z => [(4, pt 4), (7, ow 20)]) (fun z => [(4, bx [.fl 0 fun _ => []]), (20, AO z)]) (fun q h => ?_) (fun N y => ?_)
  ·refine AW.seq (Kn.r Fm [(4, pt 4), (7, ow 20)] [(20, AO q), (4, bx [.fl 0 fun _ => []])] (by kernel_rfl) ?_)
   refine Kn.frz [(4, pt 4), (7, AL q)] [(4, bx [.fl 0 fun _ => []])] (by kernel_rfl) (by kernel_rfl) (by kernel_rfl) ?_
   obtain ⟨n, L, h⟩ := bS h
   refine AW.G Fm [.s, .k (cE [] [] (.t [.g [.d (DL n.1.rects_)], .c (ci n.2)]) [] []), .s, .s, .s, .s] (fun K => K 1 ∧ True) [(4, pt 4), (5, vi n.2)] [(4, bx [.d (DL n.1.rects_)])] ⟨KAt.CC (region_Of_spec L) Tryz.call213 [], ⟨⟩⟩ ?_
   refine AW.ret ?_
   obtain rfl := Option.some.inj h
   exact Kn.D Fm
  ·refine AW.SG0 Fm 3 [(4, pt 4), (7, ow 20), (21, ow 20), (22, vi (lI e)), (23, vi 0)] [(4, bx [.fl 0 fun _ => []]), (20, AO e)] ?_
   refine AW.block (AW.loopF (E' := fun z => [(4, pt 4), (7, ow 20), (21, ow 20), (22, vi (lI e)), (23, vi z.1)]) (S' := fun z => [(4, bx [.fl 0 fun _ => []]), (20, AO z.2)]) (fun O z M u h => ?_) h)
   obtain ⟨a, b⟩ := z
   refine AW.SG0 Fm 1 [(4, pt 4), (7, ow 20), (21, ow 20), (22, vi (lI e)), (23, vi a), (24, vb (decide (a < (lI e))))] [(4, bx [.fl 0 fun _ => []]), (20, AO b)] ?_
   refine AW.seq (AW.cN h (fun B h => ?_) (fun B h => ?_))
   ·refine AW.skip (AW.seq (AW.block ?_))
    obtain ⟨p, h⟩ := gS h
    refine AW.SP Fm [.s, .s, .s, .s, .s, .s] [(4, pt 4), (7, ow 20), (8, vi a), (9, pt 9), (21, ow 20), (22, vi (lI e)), (23, vi a)] [(4, bx [.fl 0 fun _ => []]), (9, bx [ci ((gl b a.toNat).left_), ci ((gl b a.toNat).low_), ci ((gl b a.toNat).right_), ci ((gl b a.toNat).high_)]), (20, AO b)] (cA p (cT (toNat_lt p))) ?_
    obtain ⟨o, h⟩ := gS h
    refine AW.WP Fm [.s, .s, .s, .s, .s, .s, .s, .s, .s, .s, .s, .s, .s, .s, .s, .s, .s] [(4, pt 4), (7, ow 20), (21, ow 20), (22, vi (lI e)), (23, vi a)] [(4, bx [.fl 0 fun _ => []]), (20, AO (α := Rect) (List.set b a.toNat (⟨(gmax (0 : Int) ((gl b a.toNat).left_)), (gmax (0 : Int) ((gl b a.toNat).low_)), (gmin (16384 : Int) ((gl b a.toNat).right_)), (gmin (16384 : Int) ((gl b a.toNat).high_))⟩ : Rect)))] (cA o (cT (toNat_lt o))) [(20, .arr 4 (List.length (α := Rect) b) (fun j => if j = a.toNat then splice ((LF (α := Rect) b) a.toNat) 0 [.int .i64 (gmax (0 : Int) ((gl b a.toNat).left_)), .int .i64 (gmax (0 : Int) ((gl b a.toNat).low_)), .int .i64 (gmin (16384 : Int) ((gl b a.toNat).right_)), .int .i64 (gmin (16384 : Int) ((gl b a.toNat).high_))] else (LF (α := Rect) b) j))] ⟨OLe.is (Is.set (Is.refl b) (toNat_lt o) (⟨(gmax (0 : Int) ((gl b a.toNat).left_)), (gmax (0 : Int) ((gl b a.toNat).low_)), (gmin (16384 : Int) ((gl b a.toNat).right_)), (gmin (16384 : Int) ((gl b a.toNat).high_))⟩ : Rect) (by kernel_rfl)), ⟨⟩⟩ ?_
    obtain ⟨E, h⟩ := gS h
    refine AW.pN Fm [.s, .s] [(4, pt 4), (7, ow 20), (21, ow 20), (22, vi (lI e)), (23, vi (a + 1))] [(4, bx [.fl 0 fun _ => []]), (20, AO (α := Rect) (List.set b a.toNat (⟨(gmax (0 : Int) ((gl b a.toNat).left_)), (gmax (0 : Int) ((gl b a.toNat).low_)), (gmin (16384 : Int) ((gl b a.toNat).right_)), (gmin (16384 : Int) ((gl b a.toNat).high_))⟩ : Rect)))] (cT (cT E)) ?_
    exact Kn.R Fm (u ((a + 1), (List.set b a.toNat (⟨(gmax (0 : Int) ((gl b a.toNat).left_)), (gmax (0 : Int) ((gl b a.toNat).low_)), (gmin (16384 : Int) ((gl b a.toNat).right_)), (gmin (16384 : Int) ((gl b a.toNat).high_))⟩ : Rect))) h)
   ·exact AW.exit (Kn.R Fm (y b h))
theorem zone_Buffer_spec {F : Nat} {e : (List Feature)} {b : Int} {i : Int} {a : Int} {r : Region × Int} (h : zone_Buffer F e b i a = some r) :
  FSpec Tryz.prog 62 [AL e, vi b, vi i, vi a] [] (.t [.g [.d (DL (α := Rect) r.1.rects_)], .c (ci r.2)]) [] := by
 refine FI Tryz.func62 prog_mixed prog_lay fun C Fm => ?_
 unfold zone_Buffer at h
 refine AW.SG0 Fm 2 [(0, AL e), (1, vi b), (2, vi i), (3, vi a), (8, pt 8)] [(8, bx [.fl 0 fun _ => []])] ?_
 refine AW.seq (AW.seq ?_)
 obtain ⟨l, E, h⟩ := bS h
 refine AW.G Fm [.s, .s, .k (cE [] [] (.t [.c (.d (DL l.1)), .c (ci l.2)]) [] []), .s, .s, .s, .s, .s] (fun K => K 2 ∧ True) [(0, AL e), (1, vi b), (2, vi i), (3, vi a), (8, pt 8), (11, vi l.2)] [(8, bx [.fl 0 fun _ => []])] ⟨KAt.CC (feature_On_spec E) Tryz.call73 [], ⟨⟩⟩ ?_
 refine AW.SG0 Fm 2 [(0, AL e), (1, vi b), (2, vi i), (3, vi a), (8, pt 8), (11, vi l.2), (21, vb (l.2 != (0 : Int)))] [(8, bx [.fl 0 fun _ => []])] ?_
 refine AW.cN h (fun u h => ?_) (fun u h => ?_)
 ·refine AW.SP Fm [.w (.v (.g [.d (DL (α := Rect) [])])), .s, .s, .s] [(8, pt 8), (9, vi l.2)] [(8, bx [.d (DL (α := Rect) [])])] (cT (ALe.g ⟨CLe.fl .nil, ⟨⟩⟩ : ALe (.v (.g [.fl 0 fun _ => []])) (.v (.g [.d (DL (α := Rect) [])])))) ?_
  refine AW.ret ?_
  obtain rfl := Option.some.inj h
  exact Kn.D Fm
 ·refine AW.skip (AW.seq (AW.block (AW.join (r := r) (fun z : Bool => zone_Buffer_k0 F e b i a z) (fun z => [(0, AL e), (1, vi b), (2, vi i), (3, vi a), (8, pt 8), (24, vb z)]) (fun z => [(8, bx [.fl 0 fun _ => []])]) (fun N h => ?_) (fun L p => ?_))))
  ·refine AW.cN h (fun y h => ?_) (fun y h => ?_)
   ·refine AW.SP Fm [.w (.v (.g [.d (DL (α := Rect) [])])), .s, .s] [(8, pt 8), (9, vi 14)] [(8, bx [.d (DL (α := Rect) [])])] (cT (ALe.g ⟨CLe.fl .nil, ⟨⟩⟩ : ALe (.v (.g [.fl 0 fun _ => []])) (.v (.g [.d (DL (α := Rect) [])])))) ?_
    refine AW.ret ?_
    obtain rfl := Option.some.inj h
    exact Kn.D Fm
   ·refine AW.join (r := r) (fun z : Bool => zone_Buffer_k1 F e b i a z) (fun z => [(0, AL e), (1, vi b), (2, vi i), (3, vi a), (8, pt 8), (32, vb z)]) (fun z => [(8, bx [.fl 0 fun _ => []])]) (fun O h => ?_) (fun M q => ?_)
    ·refine AW.cN h (fun A h => ?_) (fun A h => ?_)
     ·refine AW.SP Fm [.w (.v (.g [.d (DL (α := Rect) [])])), .s, .s] [(8, pt 8), (9, vi 2)] [(8, bx [.d (DL (α := Rect) [])])] (cT (ALe.g ⟨CLe.fl .nil, ⟨⟩⟩ : ALe (.v (.g [.fl 0 fun _ => []])) (.v (.g [.d (DL (α := Rect) [])])))) ?_
      refine AW.ret ?_
      obtain rfl := Option.some.inj h
      exact Kn.D Fm
     ·refine AW.skip (AW.seq ?_)
      obtain ⟨j, H, h⟩ := bS h
      refine AW.G Fm [.s, .s, .s, .k (cE [] [] (.t [.g [.d (DL j.1.rects_)], .c (ci j.2)]) [] []), .s, .s, .s, .s, .s, .s] (fun K => K 3 ∧ True) [(3, vi a), (8, pt 8), (12, pt 12), (13, vi j.2)] [(8, bx [.fl 0 fun _ => []]), (12, bx [.d (DL j.1.rects_)])] ⟨KAt.CC (feature_Kind_spec H) Tryz.call76 [], ⟨⟩⟩ ?_
      refine AW.seq (AW.SG0 Fm 2 [(3, vi a), (8, pt 8), (12, pt 12), (13, vi j.2), (48, vb (j.2 != (0 : Int)))] [(8, bx [.fl 0 fun _ => []]), (12, bx [.d (DL j.1.rects_)])] ?_)
      refine AW.cN h (fun B h => ?_) (fun B h => ?_)
      ·refine AW.SP Fm [.w (.v (.g [.d (DL (α := Rect) [])])), .s, .s, .s] [(8, pt 8), (9, vi j.2)] [(8, bx [.d (DL (α := Rect) [])])] (cT (ALe.g ⟨CLe.fl .nil, ⟨⟩⟩ : ALe (.v (.g [.fl 0 fun _ => []])) (.v (.g [.d (DL (α := Rect) [])])))) ?_
       refine AW.ret ?_
       obtain rfl := Option.some.inj h
       exact Kn.D Fm
      ·refine AW.skip (AW.seq ?_)
       obtain ⟨m, I, h⟩ := bS h
       refine AW.G Fm [.s, .s, .k (cE [] [] (.t [.g [.d (DL m.1.rects_)], .c (ci m.2)]) [] []), .s, .s, .s, .s] (fun K => K 2 ∧ True) [(8, pt 8), (9, vi m.2)] [(8, bx [.d (DL m.1.rects_)])] ⟨KAt.CC (shape_Grow_spec I) Tryz.call143 [], ⟨⟩⟩ ?_
       refine AW.ret ?_
       obtain rfl := Option.some.inj h
       exact Kn.D Fm
    ·rcases br_or h with ⟨o, h⟩ | ⟨o, h⟩
     ·refine AW.pN Fm [.s, .s, .w (vb true), .s, .s, .s, .s] [(0, AL e), (1, vi b), (2, vi i), (3, vi a), (8, pt 8), (32, vb true)] [(8, bx [.fl 0 fun _ => []])] (cT (ALe.bool o)) ?_
      exact Kn.R Fm (q true h)
     ·refine AW.pN Fm [.s, .s, .w (vb false), .s, .s, .s, .s] [(0, AL e), (1, vi b), (2, vi i), (3, vi a), (8, pt 8), (32, vb (decide ((64 : Int) < a)))] [(8, bx [.fl 0 fun _ => []])] (cT (ALe.bool o)) ?_
      exact Kn.R Fm (q (decide ((64 : Int) < a)) h)
  ·rcases br_or h with ⟨n, h⟩ | ⟨n, h⟩
   ·refine AW.pN Fm [.s, .s, .w (vb true), .s, .s, .s, .s] [(0, AL e), (1, vi b), (2, vi i), (3, vi a), (8, pt 8), (24, vb true)] [(8, bx [.fl 0 fun _ => []])] (cT (ALe.bool n)) ?_
    exact Kn.R Fm (p true h)
   ·refine AW.pN Fm [.s, .s, .w (vb false), .s, .s, .s, .s] [(0, AL e), (1, vi b), (2, vi i), (3, vi a), (8, pt 8), (24, vb (decide ((15 : Int) < b)))] [(8, bx [.fl 0 fun _ => []])] (cT (ALe.bool n)) ?_
    exact Kn.R Fm (p (decide ((15 : Int) < b)) h)
theorem ref09_Kind_spec {F : Nat} {e : (List Feature)} {a : Int} {b : Int} {r : Region × Int} (h : ref09_Kind F e a b = some r) :
  FSpec Tryz.prog 77 [AL e, vi a, vi b] [] (.t [.g [.d (DL (α := Rect) r.1.rects_)], .c (ci r.2)]) [] := by
 refine FI Tryz.func77 prog_mixed prog_lay fun C Fm => ?_
 unfold ref09_Kind at h
 refine AW.SG0 Fm 2 [(0, AL e), (1, vi a), (2, vi b), (6, pt 6)] [(6, bx [.fl 0 fun _ => []])] ?_
 refine AW.seq (AW.seq ?_)
 obtain ⟨i, y, h⟩ := bS h
 refine AW.G Fm [.s, .k (cE [] [] (vi i) [] []), .s] (fun K => K 1 ∧ True) [(0, AL e), (1, vi a), (2, vi b), (6, pt 6), (8, vi i)] [(6, bx [.fl 0 fun _ => []])] ⟨KAt.CC (ref09_Check_spec y) Tryz.call72 [], ⟨⟩⟩ ?_
 refine AW.SG0 Fm 2 [(0, AL e), (1, vi a), (2, vi b), (6, pt 6), (8, vi i), (12, vb (i != (0 : Int)))] [(6, bx [.fl 0 fun _ => []])] ?_
 refine AW.cN h (fun p h => ?_) (fun p h => ?_)
 ·refine AW.SP Fm [.w (.v (.g [.d (DL (α := Rect) [])])), .s, .s, .s] [(6, pt 6), (7, vi i)] [(6, bx [.d (DL (α := Rect) [])])] (cT (ALe.g ⟨CLe.fl .nil, ⟨⟩⟩ : ALe (.v (.g [.fl 0 fun _ => []])) (.v (.g [.d (DL (α := Rect) [])])))) ?_
  refine AW.ret ?_
  obtain rfl := Option.some.inj h
  exact Kn.D Fm
 ·refine AW.skip (AW.seq (AW.join (r := r) (fun z : Bool => ref09_Kind_k0 F e a b z) (fun z => [(0, AL e), (1, vi a), (2, vi b), (6, pt 6), (20, vb z)]) (fun z => [(6, bx [.fl 0 fun _ => []])]) (fun L h => ?_) (fun H n => ?_)))
  ·refine AW.cN h (fun q h => ?_) (fun q h => ?_)
   ·refine AW.SP Fm [.w (.v (.g [.d (DL (α := Rect) [])])), .s, .s] [(6, pt 6), (7, vi 9)] [(6, bx [.d (DL (α := Rect) [])])] (cT (ALe.g ⟨CLe.fl .nil, ⟨⟩⟩ : ALe (.v (.g [.fl 0 fun _ => []])) (.v (.g [.d (DL (α := Rect) [])])))) ?_
    refine AW.ret ?_
    obtain rfl := Option.some.inj h
    exact Kn.D Fm
   ·refine AW.skip (AW.seq (AW.join (r := r) (fun z : Bool => ref09_Kind_k1 F e a b z) (fun z => [(0, AL e), (1, vi a), (2, vi b), (6, pt 6), (27, vb z)]) (fun z => [(6, bx [.fl 0 fun _ => []])]) (fun M h => ?_) (fun I o => ?_)))
    ·refine AW.cN h (fun u h => ?_) (fun u h => ?_)
     ·refine AW.SP Fm [.w (.v (.g [.d (DL (α := Rect) [])])), .s, .s] [(6, pt 6), (7, vi 14)] [(6, bx [.d (DL (α := Rect) [])])] (cT (ALe.g ⟨CLe.fl .nil, ⟨⟩⟩ : ALe (.v (.g [.fl 0 fun _ => []])) (.v (.g [.d (DL (α := Rect) [])])))) ?_
      refine AW.ret ?_
      obtain rfl := Option.some.inj h
      exact Kn.D Fm
     ·refine AW.skip (AW.seq ?_)
      obtain ⟨E, A, h⟩ := bS h
      obtain ⟨j, B, h⟩ := bS h
      refine AW.G Fm [.s, .s, .s, .s, .k (cE [] [] (AL E) [] []), .k (cE [] [] (.t [.g [.d (DL j.1.rects_)], .c (ci j.2)]) [] []), .s, .s, .s, .s] (fun K => K 4 ∧ K 5 ∧ True) [(6, pt 6), (7, vi j.2)] [(6, bx [.d (DL j.1.rects_)])] ⟨KAt.CC (ref09_Squares_spec A) Tryz.call135 [], KAt.CC (ref04_Bound_spec B) Tryz.call128 [], ⟨⟩⟩ ?_
      refine AW.ret ?_
      obtain rfl := Option.some.inj h
      exact Kn.D Fm
    ·rcases br_or h with ⟨m, h⟩ | ⟨m, h⟩
     ·refine AW.pN Fm [.s, .s, .w (vb true), .s, .s, .s] [(0, AL e), (1, vi a), (2, vi b), (6, pt 6), (27, vb true)] [(6, bx [.fl 0 fun _ => []])] (cT (ALe.bool m)) ?_
      exact Kn.R Fm (o true h)
     ·refine AW.pN Fm [.s, .s, .w (vb false), .s, .s, .s] [(0, AL e), (1, vi a), (2, vi b), (6, pt 6), (27, vb (decide ((15 : Int) < a)))] [(6, bx [.fl 0 fun _ => []])] (cT (ALe.bool m)) ?_
      exact Kn.R Fm (o (decide ((15 : Int) < a)) h)
  ·rcases br_or h with ⟨l, h⟩ | ⟨l, h⟩
   ·refine AW.pN Fm [.s, .s, .w (vb true), .s, .s, .s] [(0, AL e), (1, vi a), (2, vi b), (6, pt 6), (20, vb true)] [(6, bx [.fl 0 fun _ => []])] (cT (ALe.bool l)) ?_
    exact Kn.R Fm (n true h)
   ·refine AW.pN Fm [.s, .s, .w (vb false), .s, .s, .s] [(0, AL e), (1, vi a), (2, vi b), (6, pt 6), (20, vb (decide ((36864 : Int) < b)))] [(6, bx [.fl 0 fun _ => []])] (cT (ALe.bool l)) ?_
    exact Kn.R Fm (n (decide ((36864 : Int) < b)) h)
theorem ref06_wide_spec {F : Nat} {a : (List Rect)} {b : Int} {r : (List Rect)} (h : ref06_wide F a b = some r) :
  FSpec Tryz.prog 214 [AL a, vi b] [] (AL (α := Rect) r) [] := by
 refine FI Tryz.func214 prog_mixed prog_lay fun C Fm => ?_
 unfold ref06_wide at h
 refine AW.SG0 Fm 1 [(0, AL a), (1, vi b)] [] ?_
 refine AW.SW Fm [.m] (fun K => True) [(0, AL a), (1, vi b), (5, ow 5)] [(5, AO (α := Rect) ([] : List Rect))] True.intro [(5, .arr 4 (0) (fun _ => []))] ⟨OLe.is ((Is.nil (α := Rect))), ⟨⟩⟩ ?_
 refine AW.join (r := r) (fun z : (List Rect) => ref06_wide_k1 F z) (fun z => [(5, ow 5)]) (fun z => [(5, AO z)]) (fun j h => ?_) (fun E l => ?_)
 ·refine AW.SG0 Fm 2 [(4, ow 5)] [(5, AO j)] ?_
  refine AW.ret ?_
  obtain rfl := Option.some.inj h
  refine Kn.r Fm [(4, ow 5)] [(5, AO j)] (by kernel_rfl) ?_
  refine Kn.frz [(4, AL j)] [] (by kernel_rfl) (by kernel_rfl) (by kernel_rfl) ?_
  exact Kn.D Fm
 ·refine AW.SG0 Fm 3 [(1, vi b), (5, ow 5), (8, AL a), (9, vi (lI a)), (10, vi 0)] [(5, AO (α := Rect) ([] : List Rect))] ?_
  refine AW.block (Kn.r Fm [(1, vi b), (5, ow 5), (8, AL a), (9, vi (lI a)), (10, vi 0)] [(5, AO ([] : List Rect))] (by kernel_rfl) ?_)
  refine AW.loopF (E' := fun z => [(1, vi b), (5, ow 5), (8, AL a), (9, vi (lI a)), (10, vi z.1)]) (S' := fun z => [(5, AO z.2)]) (fun G z B k h => ?_) h
  obtain ⟨e, i⟩ := z
  refine AW.SG0 Fm 1 [(1, vi b), (5, ow 5), (8, AL a), (9, vi (lI a)), (10, vi e), (11, vb (decide (e < (lI a))))] [(5, AO i)] ?_
  refine AW.seq (AW.cN h (fun n h => ?_) (fun n h => ?_))
  ·refine AW.skip (AW.seq (AW.block ?_))
   obtain ⟨o, h⟩ := gS h
   refine AW.SP Fm [.s, .s, .s, .s] [(1, vi b), (5, ow 5), (7, pt 7), (8, AL a), (9, vi (lI a)), (10, vi e)] [(5, AO i), (7, bx [ci ((gl a e.toNat).left_), ci ((gl a e.toNat).low_), ci ((gl a e.toNat).right_), ci ((gl a e.toNat).high_)])] (cT o) ?_
   obtain ⟨p, q, t, u, h⟩ := gS4 h
   obtain ⟨y, h⟩ := gS h
   refine AW.WP Fm [.s, .s, .s, .s, .s, .s, .s, .s, .s, .s, .s, .s, .s, .s, .s, .s, .s, .s, .w (AL (α := Rect) ([(⟨(((gl a e.toNat).left_) - b), (((gl a e.toNat).low_) - b), (((gl a e.toNat).right_) + b), (((gl a e.toNat).high_) + b)⟩ : Rect)] : List Rect)), .s, .s] [(1, vi b), (5, ow 33), (8, AL a), (9, vi (lI a)), (10, vi e)] [(33, AO (α := Rect) (i ++ ([(⟨(((gl a e.toNat).left_) - b), (((gl a e.toNat).low_) - b), (((gl a e.toNat).right_) + b), (((gl a e.toNat).high_) + b)⟩ : Rect)] : List Rect)))] (cA (cT p) (cA (cT q) (cA (cT t) (cA (cT u) (cA (ALe.lst (.lit ([(⟨(((gl a e.toNat).left_) - b), (((gl a e.toNat).low_) - b), (((gl a e.toNat).right_) + b), (((gl a e.toNat).high_) + b)⟩ : Rect)] : List Rect) (by kernel_rfl)) : ALe (.v (.c (.d (.lst 1 (litF 4 [.int .i64 (((gl a e.toNat).left_) - b), .int .i64 (((gl a e.toNat).low_) - b), .int .i64 (((gl a e.toNat).right_) + b), .int .i64 (((gl a e.toNat).high_) + b)]))))) (AL (α := Rect) ([(⟨(((gl a e.toNat).left_) - b), (((gl a e.toNat).low_) - b), (((gl a e.toNat).right_) + b), (((gl a e.toNat).high_) + b)⟩ : Rect)] : List Rect))) (cT (cA y (cT (Is.refl ([(⟨(((gl a e.toNat).left_) - b), (((gl a e.toNat).low_) - b), (((gl a e.toNat).right_) + b), (((gl a e.toNat).high_) + b)⟩ : Rect)] : List Rect) : Is (List.length (α := Rect) ([(⟨(((gl a e.toNat).left_) - b), (((gl a e.toNat).low_) - b), (((gl a e.toNat).right_) + b), (((gl a e.toNat).high_) + b)⟩ : Rect)] : List Rect)) (LF (α := Rect) ([(⟨(((gl a e.toNat).left_) - b), (((gl a e.toNat).low_) - b), (((gl a e.toNat).right_) + b), (((gl a e.toNat).high_) + b)⟩ : Rect)] : List Rect)) ([(⟨(((gl a e.toNat).left_) - b), (((gl a e.toNat).low_) - b), (((gl a e.toNat).right_) + b), (((gl a e.toNat).high_) + b)⟩ : Rect)] : List Rect)).len)))))))) [(33, .arr 4 ((List.length (α := Rect) i) + (List.length (α := Rect) ([(⟨(((gl a e.toNat).left_) - b), (((gl a e.toNat).low_) - b), (((gl a e.toNat).right_) + b), (((gl a e.toNat).high_) + b)⟩ : Rect)] : List Rect))) (appF (List.length (α := Rect) i) (LF (α := Rect) i) (LF (α := Rect) ([(⟨(((gl a e.toNat).left_) - b), (((gl a e.toNat).low_) - b), (((gl a e.toNat).right_) + b), (((gl a e.toNat).high_) + b)⟩ : Rect)] : List Rect))))] ⟨OLe.is (Is.app (Is.refl i) (Is.refl ([(⟨(((gl a e.toNat).left_) - b), (((gl a e.toNat).low_) - b), (((gl a e.toNat).right_) + b), (((gl a e.toNat).high_) + b)⟩ : Rect)] : List Rect))), ⟨⟩⟩ ?_
   obtain ⟨A, h⟩ := gS h
   refine AW.pN Fm [.s, .s] [(1, vi b), (5, ow 33), (8, AL a), (9, vi (lI a)), (10, vi (e + 1))] [(33, AO (α := Rect) (i ++ ([(⟨(((gl a e.toNat).left_) - b), (((gl a e.toNat).low_) - b), (((gl a e.toNat).right_) + b), (((gl a e.toNat).high_) + b)⟩ : Rect)] : List Rect)))] (cT (cT A)) ?_
   exact Kn.RE Fm [(5, 33)] (k ((e + 1), (i ++ ([(⟨(((gl a e.toNat).left_) - b), (((gl a e.toNat).low_) - b), (((gl a e.toNat).right_) + b), (((gl a e.toNat).high_) + b)⟩ : Rect)] : List Rect))) h)
  ·exact AW.exit (Kn.R Fm (l i h))
theorem ref06_grid_spec {F : Nat} {r : (List Rect)} (h : ref06_grid F = some r) :
  FSpec Tryz.prog 215 [] [] (AL (α := Rect) r) [] := by
 refine FI Tryz.func215 prog_mixed prog_lay fun C Fm => ?_
 unfold ref06_grid at h
 refine AW.SG0 Fm 1 [] [] ?_
 refine AW.SP Fm [.s, .w (AL (α := Rect) ([(⟨0, 0, (16384 : Int), (16384 : Int)⟩ : Rect)] : List Rect)), .s] [(0, AL (α := Rect) ([(⟨0, 0, (16384 : Int), (16384 : Int)⟩ : Rect)] : List Rect))] [] (cT (ALe.lst (.lit ([(⟨0, 0, (16384 : Int), (16384 : Int)⟩ : Rect)] : List Rect) (by kernel_rfl)) : ALe (.v (.c (.d (.lst 1 (litF 4 [.int .i64 0, .int .i64 0, .int .i64 (16384 : Int), .int .i64 (16384 : Int)]))))) (AL (α := Rect) ([(⟨0, 0, (16384 : Int), (16384 : Int)⟩ : Rect)] : List Rect)))) ?_
 refine AW.ret ?_
 obtain rfl := Option.some.inj h
 exact Kn.D Fm
theorem ref06_Grow_spec {F : Nat} {b : Region} {a : Int} {r : Region × Int} (h : ref06_Grow F b a = some r) :
  FSpec Tryz.prog 144 [.v (.g [.d (DL b.rects_)]), vi a] [] (.t [.g [.d (DL (α := Rect) r.1.rects_)], .c (ci r.2)]) [] := by
 refine FI Tryz.func144 prog_mixed prog_lay fun C Fm => ?_
 unfold ref06_Grow at h
 refine AW.SG0 Fm 3 [(1, vi a), (2, pt 2), (4, pt 4)] [(2, bx [.d (DL b.rects_)]), (4, bx [.fl 0 fun _ => []])] ?_
 refine AW.seq (AW.seq ?_)
 obtain ⟨l, o, h⟩ := bS h
 refine AW.G Fm [.s, .k (cE [] [] (vb l) [] []), .s] (fun K => K 1 ∧ True) [(1, vi a), (2, pt 2), (4, pt 4), (8, vb (!l))] [(2, bx [.d (DL b.rects_)]), (4, bx [.fl 0 fun _ => []])] ⟨KAt.CC (ref04_Valid_spec o) Tryz.call107 [], ⟨⟩⟩ ?_
 refine AW.cN h (fun m h => ?_) (fun m h => ?_)
 ·refine AW.SP Fm [.w (.v (.g [.d (DL (α := Rect) [])])), .s, .s] [(4, pt 4), (5, vi 7)] [(4, bx [.d (DL (α := Rect) [])])] (cT (ALe.g ⟨CLe.fl .nil, ⟨⟩⟩ : ALe (.v (.g [.fl 0 fun _ => []])) (.v (.g [.d (DL (α := Rect) [])])))) ?_
  refine AW.ret ?_
  obtain rfl := Option.some.inj h
  exact Kn.D Fm
 ·refine AW.skip (AW.seq (AW.join (r := r) (fun z : Bool => ref06_Grow_k0 F b a z) (fun z => [(1, vi a), (2, pt 2), (4, pt 4), (15, vb z)]) (fun z => [(2, bx [.d (DL b.rects_)]), (4, bx [.fl 0 fun _ => []])]) (fun I h => ?_) (fun H j => ?_)))
  ·refine AW.cN h (fun n h => ?_) (fun n h => ?_)
   ·refine AW.SP Fm [.w (.v (.g [.d (DL (α := Rect) [])])), .s, .s] [(4, pt 4), (5, vi 2)] [(4, bx [.d (DL (α := Rect) [])])] (cT (ALe.g ⟨CLe.fl .nil, ⟨⟩⟩ : ALe (.v (.g [.fl 0 fun _ => []])) (.v (.g [.d (DL (α := Rect) [])])))) ?_
    refine AW.ret ?_
    obtain rfl := Option.some.inj h
    exact Kn.D Fm
   ·refine AW.skip (AW.seq ?_)
    obtain ⟨A, p, h⟩ := bS h
    obtain ⟨B, q, h⟩ := bS h
    obtain ⟨E, u, h⟩ := bS h
    obtain ⟨e, y, h⟩ := bS h
    refine AW.G Fm [.s, .s, .s, .k (cE [] [] (AL A) [] []), .k (cE [] [] (AL B) [] []), .k (cE [] [] (AL E) [] []), .k (cE [] [] (.t [.g [.d (DL e.1.rects_)], .c (ci e.2)]) [] []), .s, .s, .s, .s] (fun K => K 3 ∧ K 4 ∧ K 5 ∧ K 6 ∧ True) [(4, pt 4), (5, vi e.2)] [(4, bx [.d (DL e.1.rects_)])] ⟨KAt.CC (ref06_wide_spec p) Tryz.call214 [], KAt.CC (ref06_grid_spec q) Tryz.call215 [], KAt.CC (ref04_Combine_spec u) Tryz.call122 [], KAt.CC (ref04_Bound_spec y) Tryz.call128 [], ⟨⟩⟩ ?_
    refine AW.ret ?_
    obtain rfl := Option.some.inj h
    exact Kn.D Fm
  ·rcases br_or h with ⟨i, h⟩ | ⟨i, h⟩
   ·refine AW.pN Fm [.s, .s, .w (vb true), .s, .s, .s] [(1, vi a), (2, pt 2), (4, pt 4), (15, vb true)] [(2, bx [.d (DL b.rects_)]), (4, bx [.fl 0 fun _ => []])] (cT (ALe.bool i)) ?_
    exact Kn.R Fm (j true h)
   ·refine AW.pN Fm [.s, .s, .w (vb false), .s, .s, .s] [(1, vi a), (2, pt 2), (4, pt 4), (15, vb (decide ((64 : Int) < a)))] [(2, bx [.d (DL b.rects_)]), (4, bx [.fl 0 fun _ => []])] (cT (ALe.bool i)) ?_
    exact Kn.R Fm (j (decide ((64 : Int) < a)) h)
theorem ref11_Buffer_spec {F : Nat} {e : (List Feature)} {b : Int} {i : Int} {a : Int} {r : Region × Int} (h : ref11_Buffer F e b i a = some r) :
  FSpec Tryz.prog 63 [AL e, vi b, vi i, vi a] [] (.t [.g [.d (DL (α := Rect) r.1.rects_)], .c (ci r.2)]) [] := by
 refine FI Tryz.func63 prog_mixed prog_lay fun C Fm => ?_
 unfold ref11_Buffer at h
 refine AW.SG0 Fm 2 [(0, AL e), (1, vi b), (2, vi i), (3, vi a), (8, pt 8)] [(8, bx [.fl 0 fun _ => []])] ?_
 refine AW.seq (AW.seq ?_)
 obtain ⟨l, E, h⟩ := bS h
 refine AW.G Fm [.s, .s, .k (cE [] [] (vi l) [] []), .s] (fun K => K 2 ∧ True) [(0, AL e), (1, vi b), (2, vi i), (3, vi a), (8, pt 8), (10, vi l)] [(8, bx [.fl 0 fun _ => []])] ⟨KAt.CC (ref11_begin_spec E) Tryz.call134 [], ⟨⟩⟩ ?_
 refine AW.SG0 Fm 2 [(0, AL e), (1, vi b), (2, vi i), (3, vi a), (8, pt 8), (10, vi l), (17, vb (l != (0 : Int)))] [(8, bx [.fl 0 fun _ => []])] ?_
 refine AW.cN h (fun u h => ?_) (fun u h => ?_)
 ·refine AW.SP Fm [.w (.v (.g [.d (DL (α := Rect) [])])), .s, .s, .s] [(8, pt 8), (9, vi l)] [(8, bx [.d (DL (α := Rect) [])])] (cT (ALe.g ⟨CLe.fl .nil, ⟨⟩⟩ : ALe (.v (.g [.fl 0 fun _ => []])) (.v (.g [.d (DL (α := Rect) [])])))) ?_
  refine AW.ret ?_
  obtain rfl := Option.some.inj h
  exact Kn.D Fm
 ·refine AW.skip (AW.seq (AW.join (r := r) (fun z : Bool => ref11_Buffer_k0 F e b i a z) (fun z => [(0, AL e), (1, vi b), (2, vi i), (3, vi a), (8, pt 8), (25, vb z)]) (fun z => [(8, bx [.fl 0 fun _ => []])]) (fun N h => ?_) (fun L p => ?_)))
  ·refine AW.cN h (fun y h => ?_) (fun y h => ?_)
   ·refine AW.SP Fm [.w (.v (.g [.d (DL (α := Rect) [])])), .s, .s] [(8, pt 8), (9, vi 14)] [(8, bx [.d (DL (α := Rect) [])])] (cT (ALe.g ⟨CLe.fl .nil, ⟨⟩⟩ : ALe (.v (.g [.fl 0 fun _ => []])) (.v (.g [.d (DL (α := Rect) [])])))) ?_
    refine AW.ret ?_
    obtain rfl := Option.some.inj h
    exact Kn.D Fm
   ·refine AW.skip (AW.seq (AW.join (r := r) (fun z : Bool => ref11_Buffer_k1 F e b i a z) (fun z => [(0, AL e), (1, vi b), (2, vi i), (3, vi a), (8, pt 8), (32, vb z)]) (fun z => [(8, bx [.fl 0 fun _ => []])]) (fun O h => ?_) (fun M q => ?_)))
    ·refine AW.cN h (fun A h => ?_) (fun A h => ?_)
     ·refine AW.SP Fm [.w (.v (.g [.d (DL (α := Rect) [])])), .s, .s] [(8, pt 8), (9, vi 2)] [(8, bx [.d (DL (α := Rect) [])])] (cT (ALe.g ⟨CLe.fl .nil, ⟨⟩⟩ : ALe (.v (.g [.fl 0 fun _ => []])) (.v (.g [.d (DL (α := Rect) [])])))) ?_
      refine AW.ret ?_
      obtain rfl := Option.some.inj h
      exact Kn.D Fm
     ·refine AW.skip (AW.seq ?_)
      obtain ⟨j, H, h⟩ := bS h
      refine AW.G Fm [.s, .s, .s, .k (cE [] [] (.t [.g [.d (DL j.1.rects_)], .c (ci j.2)]) [] []), .s, .s, .s, .s, .s, .s] (fun K => K 3 ∧ True) [(3, vi a), (8, pt 8), (11, pt 11), (12, vi j.2)] [(8, bx [.fl 0 fun _ => []]), (11, bx [.d (DL j.1.rects_)])] ⟨KAt.CC (ref09_Kind_spec H) Tryz.call77 [], ⟨⟩⟩ ?_
      refine AW.seq (AW.SG0 Fm 2 [(3, vi a), (8, pt 8), (11, pt 11), (12, vi j.2), (42, vb (j.2 != (0 : Int)))] [(8, bx [.fl 0 fun _ => []]), (11, bx [.d (DL j.1.rects_)])] ?_)
      refine AW.cN h (fun B h => ?_) (fun B h => ?_)
      ·refine AW.SP Fm [.w (.v (.g [.d (DL (α := Rect) [])])), .s, .s, .s] [(8, pt 8), (9, vi j.2)] [(8, bx [.d (DL (α := Rect) [])])] (cT (ALe.g ⟨CLe.fl .nil, ⟨⟩⟩ : ALe (.v (.g [.fl 0 fun _ => []])) (.v (.g [.d (DL (α := Rect) [])])))) ?_
       refine AW.ret ?_
       obtain rfl := Option.some.inj h
       exact Kn.D Fm
      ·refine AW.skip (AW.seq ?_)
       obtain ⟨m, I, h⟩ := bS h
       refine AW.G Fm [.s, .s, .k (cE [] [] (.t [.g [.d (DL m.1.rects_)], .c (ci m.2)]) [] []), .s, .s, .s, .s] (fun K => K 2 ∧ True) [(8, pt 8), (9, vi m.2)] [(8, bx [.d (DL m.1.rects_)])] ⟨KAt.CC (ref06_Grow_spec I) Tryz.call144 [], ⟨⟩⟩ ?_
       refine AW.ret ?_
       obtain rfl := Option.some.inj h
       exact Kn.D Fm
    ·rcases br_or h with ⟨o, h⟩ | ⟨o, h⟩
     ·refine AW.pN Fm [.s, .s, .w (vb true), .s, .s, .s] [(0, AL e), (1, vi b), (2, vi i), (3, vi a), (8, pt 8), (32, vb true)] [(8, bx [.fl 0 fun _ => []])] (cT (ALe.bool o)) ?_
      exact Kn.R Fm (q true h)
     ·refine AW.pN Fm [.s, .s, .w (vb false), .s, .s, .s] [(0, AL e), (1, vi b), (2, vi i), (3, vi a), (8, pt 8), (32, vb (decide ((64 : Int) < a)))] [(8, bx [.fl 0 fun _ => []])] (cT (ALe.bool o)) ?_
      exact Kn.R Fm (q (decide ((64 : Int) < a)) h)
  ·rcases br_or h with ⟨n, h⟩ | ⟨n, h⟩
   ·refine AW.pN Fm [.s, .s, .w (vb true), .s, .s, .s] [(0, AL e), (1, vi b), (2, vi i), (3, vi a), (8, pt 8), (25, vb true)] [(8, bx [.fl 0 fun _ => []])] (cT (ALe.bool n)) ?_
    exact Kn.R Fm (p true h)
   ·refine AW.pN Fm [.s, .s, .w (vb false), .s, .s, .s] [(0, AL e), (1, vi b), (2, vi i), (3, vi a), (8, pt 8), (25, vb (decide ((15 : Int) < b)))] [(8, bx [.fl 0 fun _ => []])] (cT (ALe.bool n)) ?_
    exact Kn.R Fm (p (decide ((15 : Int) < b)) h)
theorem region_Has_1_spec {F : Nat} {d : Rect} {b : Int} {a : Int} {r : Bool} (h : region_Has_1 F d b a = some r) :
  FSpec Tryz.prog 190 [gE d, pt 0, pt 1] [(0, .box true [ci b]), (1, .box true [ci a])] (vb r) [(0, .box true [ci b]), (1, .box true [ci a])] := by
 refine FI Tryz.func190 prog_mixed prog_lay fun C Fm => ?_
 unfold region_Has_1 at h
 refine AW.SG0 Fm 2 [(1, pt 0), (2, pt 1), (3, pt 3)] [(0, .box true [ci b]), (1, .box true [ci a]), (3, bx (gC d))] ?_
 refine AW.join (r := r) (fun z : Bool => region_Has_1_k0 F z) (fun z => [(4, vb z)]) (fun z => [(0, .box true [ci b]), (1, .box true [ci a])]) (fun l h => ?_) (fun k e => ?_)
 ·refine AW.ret ?_
  obtain rfl := Option.some.inj h
  exact Kn.D Fm
 ·rcases br_or h with ⟨c, h⟩ | ⟨c, h⟩
  ·rcases br_or h with ⟨i, h⟩ | ⟨i, h⟩
   ·rcases br_or h with ⟨j, h⟩ | ⟨j, h⟩
    ·refine AW.pN Fm [.s, .s, .s, .s, .w (vb true), .s, .s, .s, .s, .s, .w (vb true), .s, .s, .s, .s, .s, .w (vb true), .s, .s, .s, .s, .s, .s] [(4, vb (decide (a < d.high_)))] [(0, .box true [ci b]), (1, .box true [ci a])] (cA (ALe.bool c) (cA (ALe.bool i) (cT (ALe.bool j)))) ?_
     exact Kn.R Fm (e (decide (a < d.high_)) h)
    ·refine AW.pN Fm [.s, .s, .s, .s, .w (vb true), .s, .s, .s, .s, .s, .w (vb true), .s, .s, .s, .s, .s, .w (vb false), .s, .s, .s, .s, .s, .s] [(4, vb false)] [(0, .box true [ci b]), (1, .box true [ci a])] (cA (ALe.bool c) (cA (ALe.bool i) (cT (ALe.bool j)))) ?_
     exact Kn.R Fm (e false h)
   ·refine AW.pN Fm [.s, .s, .s, .s, .w (vb true), .s, .s, .s, .s, .s, .w (vb false), .s, .s, .s, .s, .s, .s, .s, .s, .s, .s, .s, .s] [(4, vb false)] [(0, .box true [ci b]), (1, .box true [ci a])] (cA (ALe.bool c) (cT (ALe.bool i))) ?_
    exact Kn.R Fm (e false h)
  ·refine AW.pN Fm [.s, .s, .s, .s, .w (vb false), .s, .s, .s, .s, .s, .s, .s, .s, .s, .s, .s, .s, .s, .s, .s, .s, .s, .s] [(4, vb false)] [(0, .box true [ci b]), (1, .box true [ci a])] (cT (ALe.bool c)) ?_
   exact Kn.R Fm (e false h)
theorem region_Has_spec {F : Nat} {e : Region} {a : Int} {b : Int} {r : Bool} (h : region_Has F e a b = some r) :
  FSpec Tryz.prog 109 [.v (.g [.d (DL e.rects_)]), vi a, vi b] [] (vb r) [] := by
 refine FI Tryz.func109 prog_mixed prog_lay fun C Fm => ?_
 unfold region_Has at h
 refine AW.SG0 Fm 4 [(3, pt 3), (4, pt 4), (5, pt 5)] [(3, bx [.d (DL e.rects_)]), (4, bx [ci a]), (5, bx [ci b])] ?_
 refine AW.join (r := r) (fun z : Bool => region_Has_k0 F z) (fun z => [(6, vb z)]) (fun z => []) (fun q h => ?_) (fun o j => ?_)
 ·refine AW.ret ?_
  obtain rfl := Option.some.inj h
  exact Kn.D Fm
 ·obtain ⟨m, l, h⟩ := bS h
  rcases br_or h with ⟨c, h⟩ | ⟨c, h⟩
  ·obtain ⟨i, n, h⟩ := bS h
   refine AW.G Fm [.s, .k (cE [] [] (vb m) [] []), .w (vb true), .s, .s, .s, .k (cE [] [4, 5] (vb i) [] []), .s, .s] (fun K => K 1 ∧ _ ∧ K 6 ∧ True) [(6, vb i)] [] ⟨KAt.CC (region_Valid_spec l) Tryz.call92 [], ALe.bool c, KAt.callX (slices_ContainsFunc_Rect_spec n) Tryz.call171 [] [4, 5] [.tmp 11, .tmp 12] rfl (by kernel_rfl) (by kernel_rfl) (by kernel_rfl) ⟨.p, ArgT.cloX Tryz.call190 [[ci a], [ci b]] (fun args r hq => by obtain ⟨y0, y, hq, rfl, rfl⟩ := hq; exact Eq.mp (by kernel_rfl) (region_Has_1_spec hq)) (fun args r hq => by obtain ⟨y0, y, hq, rfl, rfl⟩ := hq; rfl) (by kernel_rfl) [4, 5] (by kernel_rfl) (by kernel_rfl) (⟨⟨false, (by kernel_rfl)⟩, ⟨⟨false, (by kernel_rfl)⟩, ⟨⟩⟩⟩) (by kernel_rfl), ⟨⟩⟩, ⟨⟩⟩ ?_
   exact Kn.R Fm (j i h)
  ·refine AW.G Fm [.s, .k (cE [] [] (vb m) [] []), .w (vb false), .s, .s, .s, .s, .s, .s] (fun K => K 1 ∧ _ ∧ True) [(6, vb false)] [] ⟨KAt.CC (region_Valid_spec l) Tryz.call92 [], ALe.bool c, ⟨⟩⟩ ?_
   exact Kn.R Fm (j false h)
theorem zone_Zones_spec {F : Nat} {n : (List Feature)} {e : Int} {i : Int} {o : Int} {r : (List Int) × Int} (h : zone_Zones F n e i o = some r) :
  FSpec Tryz.prog 64 [AL n, vi e, vi i, vi o] [] (.t [.c (.d (DL (α := Int) r.1)), .c (ci r.2)]) [] := by
 refine FI Tryz.func64 prog_mixed prog_lay fun C Fm => ?_
 unfold zone_Zones at h
 refine AW.SG0 Fm 2 [(0, AL n), (1, vi e), (2, vi i), (3, vi o)] [] ?_
 refine AW.seq ?_
 obtain ⟨a, P, h⟩ := bS h
 refine AW.G Fm [.s, .s, .k (cE [] [] (.t [.c (.d (DL a.1)), .c (ci a.2)]) [] []), .s, .s, .s, .s, .s] (fun K => K 2 ∧ True) [(1, vi e), (2, vi i), (10, AL a.1), (11, vi a.2)] [] ⟨KAt.CC (feature_On_spec P) Tryz.call73 [], ⟨⟩⟩ ?_
 refine AW.seq (AW.SG0 Fm 2 [(1, vi e), (2, vi i), (10, AL a.1), (11, vi a.2), (22, vb (a.2 != (0 : Int)))] [] ?_)
 refine AW.cN h (fun H h => ?_) (fun H h => ?_)
 ·refine AW.SG0 Fm 3 [(8, .v (.c (.fl 0 fun _ => []))), (9, vi a.2)] [] ?_
  refine AW.ret ?_
  obtain rfl := Option.some.inj h
  refine Kn.r Fm [(8, .v (.c (.fl 0 fun _ => []))), (9, vi a.2)] [] (by kernel_rfl) ?_
  refine Kn.wk [(8, AL (α := Int) []), (9, vi a.2)] [] ⟨rfl, ALe.c (CLe.fl .nil), ⟨rfl, ALe.c (CLe.refl _), ⟨⟩⟩⟩ True.intro ?_
  exact Kn.D Fm
 ·refine AW.skip (AW.SW Fm [.m] (fun K => True) [(1, vi e), (2, vi i), (10, AL a.1), (12, ow 12)] [(12, AO (α := Int) ([] : List Int))] True.intro [(12, .arr 1 (0) (fun _ => []))] ⟨OLe.is ((Is.nil (α := Int))), ⟨⟩⟩ ?_)
  refine AW.join (r := r) (fun z : (List Int) => zone_Zones_k2 F z) (fun z => [(12, ow 12)]) (fun z => [(12, AO z)]) (fun W h => ?_) (fun Z E => ?_)
  ·refine AW.seq ?_
   obtain ⟨p, U, h⟩ := bS h
   refine AW.G Fm [.s, .k (cE [(0, 12)] [] (.any) [(0, AO W)] [(0, AO p)])] (fun K => K 1 ∧ True) [(12, ow 12)] [(12, AO p)] ⟨KAt.CC (sortI_spec U) Tryz.call145 [(0, 12)], ⟨⟩⟩ ?_
   refine AW.seq ?_
   obtain ⟨l, V, h⟩ := bS h
   refine AW.G Fm [.s, .k (cE [(0, 12), (100, 44)] [] (ow 100) [(0, AO p)] [(100, AO l)]), .s, .s] (fun K => K 1 ∧ True) [(8, ow 44), (9, vi 0)] [(44, AO l)] ⟨KAt.CC (slices_Compact_int_spec V) Tryz.call146 [(0, 12), (100, 44)], ⟨⟩⟩ ?_
   refine AW.ret ?_
   obtain rfl := Option.some.inj h
   refine Kn.r Fm [(8, ow 44), (9, vi 0)] [(44, AO l)] (by kernel_rfl) ?_
   refine Kn.frz [(8, AL l), (9, vi 0)] [] (by kernel_rfl) (by kernel_rfl) (by kernel_rfl) ?_
   exact Kn.D Fm
  ·refine AW.SG0 Fm 3 [(1, vi e), (2, vi i), (12, ow 12), (24, AL a.1), (25, vi (lI a.1)), (26, vi 0)] [(12, AO (α := Int) ([] : List Int))] ?_
   refine AW.block (Kn.r Fm [(1, vi e), (2, vi i), (12, ow 12), (24, AL a.1), (25, vi (lI a.1)), (26, vi 0)] [(12, AO ([] : List Int))] (by kernel_rfl) ?_)
   refine AW.loopF (E' := fun z => [(1, vi e), (2, vi i), (12, ow 12), (24, AL a.1), (25, vi (lI a.1)), (26, vi z.1)]) (S' := fun z => [(12, AO z.2)]) (fun A z X B h => ?_) h
   obtain ⟨b, j⟩ := z
   refine AW.SG0 Fm 1 [(1, vi e), (2, vi i), (12, ow 12), (24, AL a.1), (25, vi (lI a.1)), (26, vi b), (27, vb (decide (b < (lI a.1))))] [(12, AO j)] ?_
   refine AW.seq (AW.cN h (fun I h => ?_) (fun I h => ?_))
   ·refine AW.skip (AW.join (r := r) (fun z : (List Int) => zone_Zones_k1 F b A z) (fun z => [(1, vi e), (2, vi i), (12, ow 39), (24, AL a.1), (25, vi (lI a.1)), (26, vi b)]) (fun z => [(39, AO z)]) (fun u h => ?_) (fun Y q => ?_))
    ·obtain ⟨O, h⟩ := gS h
     refine AW.pN Fm [.s, .s] [(1, vi e), (2, vi i), (12, ow 39), (24, AL a.1), (25, vi (lI a.1)), (26, vi (b + 1))] [(39, AO u)] (cT (cT O)) ?_
     exact Kn.RE Fm [(12, 39)] (B ((b + 1), u) h)
    ·refine AW.block ?_
     obtain ⟨M, h⟩ := gS h
     refine AW.SP Fm [.s, .s, .s, .s] [(1, vi e), (2, vi i), (12, ow 12), (14, pt 14), (24, AL a.1), (25, vi (lI a.1)), (26, vi b)] [(12, AO j), (14, bx [ci ((gl a.1 b.toNat).number_), ci ((gl a.1 b.toNat).kind_), ci ((gl a.1 b.toNat).from_), ci ((gl a.1 b.toNat).until_), .d (DL (α := Rect) (gl a.1 b.toNat).region_.rects_)])] (cT M) ?_
     refine AW.seq ?_
     obtain ⟨y, T, h⟩ := bS h
     refine AW.G Fm [.s, .s, .s, .s, .k (cE [] [] (vb y) [] [])] (fun K => K 4 ∧ True) [(1, vi e), (2, vi i), (12, ow 12), (14, pt 14), (24, AL a.1), (25, vi (lI a.1)), (26, vi b), (34, vb y)] [(12, AO j), (14, bx [ci ((gl a.1 b.toNat).number_), ci ((gl a.1 b.toNat).kind_), ci ((gl a.1 b.toNat).from_), ci ((gl a.1 b.toNat).until_), .d (DL (α := Rect) (gl a.1 b.toNat).region_.rects_)])] ⟨KAt.CC (region_Has_spec T) Tryz.call109 [], ⟨⟩⟩ ?_
     refine AW.cN h (fun L h => ?_) (fun L h => ?_)
     ·obtain ⟨N, h⟩ := gS h
      refine AW.WP Fm [.s, .s, .s, .w (AL (α := Int) ([(gl a.1 b.toNat).kind_] : List Int)), .s, .s] [(1, vi e), (2, vi i), (12, ow 39), (24, AL a.1), (25, vi (lI a.1)), (26, vi b)] [(39, AO (α := Int) (j ++ ([(gl a.1 b.toNat).kind_] : List Int)))] (cA (ALe.lst (.lit ([(gl a.1 b.toNat).kind_] : List Int) (by kernel_rfl)) : ALe (.v (.c (.d (.lst 1 (litF 1 [.int .i64 (gl a.1 b.toNat).kind_]))))) (AL (α := Int) ([(gl a.1 b.toNat).kind_] : List Int))) (cT (cA N (cT (Is.refl ([(gl a.1 b.toNat).kind_] : List Int) : Is (List.length (α := Int) ([(gl a.1 b.toNat).kind_] : List Int)) (LF (α := Int) ([(gl a.1 b.toNat).kind_] : List Int)) ([(gl a.1 b.toNat).kind_] : List Int)).len)))) [(39, .arr 1 ((List.length (α := Int) j) + (List.length (α := Int) ([(gl a.1 b.toNat).kind_] : List Int))) (appF (List.length (α := Int) j) (LF (α := Int) j) (LF (α := Int) ([(gl a.1 b.toNat).kind_] : List Int))))] ⟨OLe.is (Is.app (Is.refl j) (Is.refl ([(gl a.1 b.toNat).kind_] : List Int))), ⟨⟩⟩ ?_
      exact Kn.R Fm (q (j ++ ([(gl a.1 b.toNat).kind_] : List Int)) h)
     ·exact AW.skip (Kn.RE Fm [(39, 12)] (q j h))
   ·exact AW.exit (Kn.R Fm (E j h))
theorem ref04_Has_spec {F : Nat} {b : Region} {c : Int} {e : Int} {r : Bool} (h : ref04_Has F b c e = some r) :
  FSpec Tryz.prog 20 [.v (.g [.d (DL b.rects_)]), vi c, vi e] [] (vb r) [] := by
 refine FI Tryz.func20 prog_mixed prog_lay fun C Fm => ?_
 unfold ref04_Has at h
 refine AW.SG0 Fm 2 [(1, vi c), (2, vi e), (3, pt 3)] [(3, bx [.d (DL b.rects_)])] ?_
 refine AW.join (r := r) (fun z : Bool => ref04_Has_k0 F z) (fun z => [(6, vb z)]) (fun z => []) (fun p h => ?_) (fun o j => ?_)
 ·refine AW.ret ?_
  obtain rfl := Option.some.inj h
  exact Kn.D Fm
 ·obtain ⟨m, l, h⟩ := bS h
  rcases br_or h with ⟨a, h⟩ | ⟨a, h⟩
  ·obtain ⟨i, n, h⟩ := bS h
   refine AW.G Fm [.s, .k (cE [] [] (vb m) [] []), .w (vb true), .s, .s, .s, .s, .k (cE [] [] (vb i) [] []), .s, .s] (fun K => K 1 ∧ _ ∧ K 7 ∧ True) [(6, vb i)] [] ⟨KAt.CC (ref04_Valid_spec l) Tryz.call107 [], ALe.bool a, KAt.CC (ref04_inside_spec n) Tryz.call108 [], ⟨⟩⟩ ?_
   exact Kn.R Fm (j i h)
  ·refine AW.G Fm [.s, .k (cE [] [] (vb m) [] []), .w (vb false), .s, .s, .s, .s, .s, .s, .s] (fun K => K 1 ∧ _ ∧ True) [(6, vb false)] [] ⟨KAt.CC (ref04_Valid_spec l) Tryz.call107 [], ALe.bool a, ⟨⟩⟩ ?_
   exact Kn.R Fm (j false h)
theorem ref11_Zones_spec {F : Nat} {a : (List Feature)} {i : Int} {j : Int} {e : Int} {r : (List Int) × Int} (h : ref11_Zones F a i j e = some r) :
  FSpec Tryz.prog 65 [AL a, vi i, vi j, vi e] [] (.t [.c (.d (DL (α := Int) r.1)), .c (ci r.2)]) [] := by
 refine FI Tryz.func65 prog_mixed prog_lay fun C Fm => ?_
 unfold ref11_Zones at h
 refine AW.SG0 Fm 2 [(0, AL a), (1, vi i), (2, vi j), (3, vi e)] [] ?_
 refine AW.seq (AW.seq ?_)
 obtain ⟨n, T, h⟩ := bS h
 refine AW.G Fm [.s, .s, .k (cE [] [] (vi n) [] []), .s] (fun K => K 2 ∧ True) [(0, AL a), (1, vi i), (2, vi j), (3, vi e), (10, vi n)] [] ⟨KAt.CC (ref11_begin_spec T) Tryz.call134 [], ⟨⟩⟩ ?_
 refine AW.SG0 Fm 2 [(0, AL a), (1, vi i), (2, vi j), (3, vi e), (10, vi n), (18, vb (n != (0 : Int)))] [] ?_
 refine AW.cN h (fun L h => ?_) (fun L h => ?_)
 ·refine AW.SG0 Fm 3 [(8, .v (.c (.fl 0 fun _ => []))), (9, vi n)] [] ?_
  refine AW.ret ?_
  obtain rfl := Option.some.inj h
  refine Kn.r Fm [(8, .v (.c (.fl 0 fun _ => []))), (9, vi n)] [] (by kernel_rfl) ?_
  refine Kn.wk [(8, AL (α := Int) []), (9, vi n)] [] ⟨rfl, ALe.c (CLe.fl .nil), ⟨rfl, ALe.c (CLe.refl _), ⟨⟩⟩⟩ True.intro ?_
  exact Kn.D Fm
 ·refine AW.skip (AW.SW Fm [.m] (fun K => True) [(0, AL a), (1, vi i), (2, vi j), (3, vi e), (11, ow 11)] [(11, AO (α := Int) ([] : List Int))] True.intro [(11, .arr 1 (0) (fun _ => []))] ⟨OLe.is ((Is.nil (α := Int))), ⟨⟩⟩ ?_)
  refine AW.join (r := r) (fun z : (List Int) => ref11_Zones_k3 F z) (fun z => [(11, AL z)]) (fun z => []) (fun W h => ?_) (fun a0 I => ?_)
  ·refine AW.SG0 Fm 3 [(8, AL W), (9, vi 0)] [] ?_
   refine AW.ret ?_
   obtain rfl := Option.some.inj h
   exact Kn.D Fm
  ·refine AW.SG0 Fm 3 [(1, vi i), (2, vi j), (3, vi e), (11, ow 11), (20, AL a), (21, vi (lI a)), (22, vi 0)] [(11, AO (α := Int) ([] : List Int))] ?_
   refine AW.block (Kn.r Fm [(1, vi i), (2, vi j), (3, vi e), (11, ow 11), (20, AL a), (21, vi (lI a)), (22, vi 0)] [(11, AO (α := Int) ([] : List Int))] (by kernel_rfl) ?_)
   refine Kn.frz [(1, vi i), (2, vi j), (3, vi e), (11, AL (α := Int) ([] : List Int)), (20, AL a), (21, vi (lI a)), (22, vi 0)] [] (by kernel_rfl) (by kernel_rfl) (by kernel_rfl) ?_
   refine Kn.r Fm [(1, vi i), (2, vi j), (3, vi e), (11, AL ([] : List Int)), (20, AL a), (21, vi (lI a)), (22, vi 0)] [] (by kernel_rfl) ?_
   refine AW.loopF (E' := fun z => [(1, vi i), (2, vi j), (3, vi e), (11, AL z.1), (20, AL a), (21, vi (lI a)), (22, vi z.2)]) (S' := fun z => []) (fun A z X H h => ?_) h
   obtain ⟨l, b⟩ := z
   refine AW.SG0 Fm 1 [(1, vi i), (2, vi j), (3, vi e), (11, AL l), (20, AL a), (21, vi (lI a)), (22, vi b), (23, vb (decide (b < (lI a))))] [] ?_
   refine AW.seq (AW.cN h (fun M h => ?_) (fun M h => ?_))
   ·refine AW.skip (AW.join (r := r) (fun z : (List Int) => ref11_Zones_k2 F b A z) (fun z => [(1, vi i), (2, vi j), (3, vi e), (11, AL z), (20, AL a), (21, vi (lI a)), (22, vi b)]) (fun z => []) (fun E h => ?_) (fun Z B => ?_))
    ·obtain ⟨P, h⟩ := gS h
     refine AW.pN Fm [.s, .s] [(1, vi i), (2, vi j), (3, vi e), (11, AL E), (20, AL a), (21, vi (lI a)), (22, vi (b + 1))] [] (cT (cT P)) ?_
     exact Kn.R Fm (H (E, (b + 1)) h)
    ·refine AW.block ?_
     obtain ⟨O, h⟩ := gS h
     refine AW.SP Fm [.s, .s, .s, .s] [(1, vi i), (2, vi j), (3, vi e), (11, AL l), (13, pt 13), (20, AL a), (21, vi (lI a)), (22, vi b)] [(13, bx [ci ((gl a b.toNat).number_), ci ((gl a b.toNat).kind_), ci ((gl a b.toNat).from_), ci ((gl a b.toNat).until_), .d (DL (α := Rect) (gl a b.toNat).region_.rects_)])] (cT O) ?_
     refine AW.join (r := r) (fun z : Bool => ref11_Zones_k1 F a l b A z) (fun z => [(1, vi i), (2, vi j), (3, vi e), (11, AL l), (13, pt 13), (20, AL a), (21, vi (lI a)), (22, vi b), (42, vb z)]) (fun z => [(13, bx [ci ((gl a b.toNat).number_), ci ((gl a b.toNat).kind_), ci ((gl a b.toNat).from_), ci ((gl a b.toNat).until_), .d (DL (α := Rect) (gl a b.toNat).region_.rects_)])]) (fun b0 h => ?_) (fun Y q => ?_)
     ·refine AW.cN h (fun N h => ?_) (fun N h => ?_)
      ·obtain ⟨y, V, h⟩ := bS h
       refine AW.G Fm [.s, .s, .s, .k (cE [] [] (AL y) [] []), .s] (fun K => K 3 ∧ True) [(1, vi i), (2, vi j), (3, vi e), (11, AL y), (20, AL a), (21, vi (lI a)), (22, vi b)] [] ⟨KAt.CC (ref01_Put_spec V) Tryz.call131 [], ⟨⟩⟩ ?_
       exact Kn.R Fm (B y h)
      ·exact AW.skip (Kn.R Fm (B l h))
     ·rcases br_or h with ⟨o, h⟩ | ⟨o, h⟩
      ·rcases br_or h with ⟨u, h⟩ | ⟨u, h⟩
       ·obtain ⟨p, U, h⟩ := bS h
        refine AW.G Fm [.s, .s, .s, .s, .w (vb true), .s, .s, .s, .s, .s, .w (vb true), .s, .s, .s, .s, .k (cE [] [] (vb p) [] []), .s] (fun K => _ ∧ _ ∧ K 15 ∧ True) [(1, vi i), (2, vi j), (3, vi e), (11, AL l), (13, pt 13), (20, AL a), (21, vi (lI a)), (22, vi b), (31, vi e), (32, .v (.c (.ptr 13 3))), (33, vi (gl a b.toNat).until_), (34, vb (decide (e < ((gl a b.toNat).until_)))), (37, .v (.c (.ptr 13 4))), (38, .v (.g [.d (DL (α := Rect) (gl a b.toNat).region_.rects_)])), (39, vi i), (40, vi j), (41, vb p), (42, vb p)] [(13, bx [ci ((gl a b.toNat).number_), ci ((gl a b.toNat).kind_), ci ((gl a b.toNat).from_), ci ((gl a b.toNat).until_), .d (DL (α := Rect) (gl a b.toNat).region_.rects_)])] ⟨ALe.bool o, ALe.bool u, KAt.CC (ref04_Has_spec U) Tryz.call20 [], ⟨⟩⟩ ?_
        exact Kn.R Fm (q p h)
       ·refine AW.pN Fm [.s, .s, .s, .s, .w (vb true), .s, .s, .s, .s, .s, .w (vb false), .s, .s, .s, .s, .s, .s] [(1, vi i), (2, vi j), (3, vi e), (11, AL l), (13, pt 13), (20, AL a), (21, vi (lI a)), (22, vi b), (31, vi e), (32, .v (.c (.ptr 13 3))), (33, vi (gl a b.toNat).until_), (34, vb (decide (e < ((gl a b.toNat).until_)))), (42, vb false)] [(13, bx [ci ((gl a b.toNat).number_), ci ((gl a b.toNat).kind_), ci ((gl a b.toNat).from_), ci ((gl a b.toNat).until_), .d (DL (α := Rect) (gl a b.toNat).region_.rects_)])] (cA (ALe.bool o) (cT (ALe.bool u))) ?_
        exact Kn.R Fm (q false h)
      ·refine AW.pN Fm [.s, .s, .s, .s, .w (vb false), .s, .s, .s, .s, .s, .s, .s, .s, .s, .s, .s, .s] [(1, vi i), (2, vi j), (3, vi e), (11, AL l), (13, pt 13), (20, AL a), (21, vi (lI a)), (22, vi b), (42, vb false)] [(13, bx [ci ((gl a b.toNat).number_), ci ((gl a b.toNat).kind_), ci ((gl a b.toNat).from_), ci ((gl a b.toNat).until_), .d (DL (α := Rect) (gl a b.toNat).region_.rects_)])] (cT (ALe.bool o)) ?_
       exact Kn.R Fm (q false h)
   ·exact AW.exit (Kn.R Fm (I l h))
theorem ref01_Ints_spec {F : Nat} {a : (List Int)} {b : (List Int)} {r : Bool} (h : ref01_Ints F a b = some r) :
  FSpec Tryz.prog 66 [AL a, AL b] [] (vb r) [] := by
 refine FI Tryz.func66 prog_mixed prog_lay fun C Fm => ?_
 unfold ref01_Ints at h
 refine AW.SG0 Fm 1 [(0, AL a), (1, AL b)] [] ?_
 refine AW.seq (AW.SG0 Fm 5 [(0, AL a), (1, AL b), (10, vb ((lI a) != (lI b)))] [] ?_)
 refine AW.cN h (fun i h => ?_) (fun i h => ?_)
 ·refine AW.SG0 Fm 1 [(4, vb false)] [] ?_
  refine AW.ret ?_
  obtain rfl := Option.some.inj h
  exact Kn.D Fm
 ·refine AW.skip (AW.join (r := r) (fun z : Unit => ref01_Ints_k1 F) (fun z => []) (fun z => []) (fun z h => ?_) (fun p e => ?_))
  ·refine AW.SG0 Fm 1 [(4, vb true)] [] ?_
   refine AW.ret ?_
   obtain rfl := Option.some.inj h
   exact Kn.D Fm
  ·refine AW.SG0 Fm 3 [(0, AL a), (1, AL b), (12, vi (lI a)), (13, vi 0)] [] ?_
   refine AW.block (AW.loopF (E' := fun z => [(0, AL a), (1, AL b), (12, vi (lI a)), (13, vi z)]) (S' := fun z => []) (fun q c o d h => ?_) h)
   refine AW.SG0 Fm 1 [(0, AL a), (1, AL b), (12, vi (lI a)), (13, vi c), (14, vb (decide (c < (lI a))))] [] ?_
   refine AW.seq (AW.cN h (fun j h => ?_) (fun j h => ?_))
   ·refine AW.skip (AW.seq (AW.block (AW.SG0 Fm 2 [(0, AL a), (1, AL b), (5, vi c), (12, vi (lI a)), (13, vi c)] [] ?_)))
    obtain ⟨l, m, h⟩ := gS2 h
    refine AW.SP Fm [.s, .s, .s, .s, .s, .s, .s, .s, .s] [(0, AL a), (1, AL b), (12, vi (lI a)), (13, vi c), (24, vb ((gl a c.toNat) != (gl b c.toNat)))] [] (cA l (cT m)) ?_
    refine AW.cN h (fun k h => ?_) (fun k h => ?_)
    ·refine AW.SG0 Fm 1 [(4, vb false)] [] ?_
     refine AW.ret ?_
     obtain rfl := Option.some.inj h
     exact Kn.D Fm
    ·refine AW.skip ?_
     obtain ⟨n, h⟩ := gS h
     refine AW.pN Fm [.s, .s] [(0, AL a), (1, AL b), (12, vi (lI a)), (13, vi (c + 1))] [] (cT (cT n)) ?_
     exact Kn.R Fm (d (c + 1) h)
   ·exact AW.exit (Kn.R Fm (e () h))
theorem ref09_Add_O_spec {F : Nat} {a : (List Feature)} {b : Feature} {r : (List Feature) × (List Feature) × Int} (h : ref09_Add_O F a b = some r) :
  FSpec Tryz.prog 81 [ow 0, gE b] [(0, AO a)] (.t [.c (.own 100), .c (ci r.2.2)]) [(0, AO (α := Feature) r.1), (100, AO (α := Feature) r.2.1)] := by
 refine FI Tryz.func81 prog_mixed prog_lay fun C Fm => ?_
 unfold ref09_Add_O at h
 refine AW.SG Fm [.s, .m, .s] (fun K => True) [(0, ow 0), (3, pt 3)] [(0, AO a), (3, bx (gC b))] True.intro ?_
 refine AW.seq (AW.seq ?_)
 obtain ⟨o, e0, h⟩ := bS h
 refine AW.G Fm [.s, .k (sE (vi o)), .s] (fun K => K 1 ∧ True) [(0, ow 0), (3, pt 3), (6, vi o)] [(0, AO a), (3, bx (gC b))] ⟨KAt.callBX (ref09_Check_spec e0) Tryz.call72 [0] [.tmp 9] rfl (by kernel_rfl) (by kernel_rfl) ⟨ArgB.own 0 (es := 5) (n := List.length a) (f := LF a) (by kernel_rfl) (by kernel_rfl) (by kernel_rfl) (by kernel_rfl), ⟨⟩⟩, ⟨⟩⟩ ?_
 refine AW.SG0 Fm 2 [(0, ow 0), (3, pt 3), (6, vi o), (12, vb (o != (0 : Int)))] [(0, AO a), (3, bx (gC b))] ?_
 refine AW.cN h (fun T h => ?_) (fun T h => ?_)
 ·refine AW.SW Fm [.s, .m, .s] (fun K => True) [(4, ow 4), (5, vi o)] [(0, AO a), (4, AO (α := Feature) ([] : List Feature))] True.intro [(4, .arr 5 (0) (fun _ => []))] ⟨OLe.is ((Is.nil (α := Feature))), ⟨⟩⟩ ?_
  refine AW.ret ?_
  obtain rfl := Option.some.inj h
  exact Kn.re Fm [(100, 4)] [(4, ow 100), (5, vi o)] [(0, AO a), (100, AO (α := Feature) ([] : List Feature))] (by kernel_rfl) (by kernel_rfl) (by kernel_rfl) (by kernel_rfl) (Kn.dn Fm (by kernel_rfl))
 ·refine AW.skip (AW.seq (AW.seq ?_))
  obtain ⟨p, i0, h⟩ := bS h
  refine AW.G Fm [.s, .k (cE [] [] (vi p) [] []), .s] (fun K => K 1 ∧ True) [(0, ow 0), (3, pt 3), (7, vi p)] [(0, AO a), (3, bx (gC b))] ⟨KAt.CC (ref09_one_spec i0) Tryz.call148 [], ⟨⟩⟩ ?_
  refine AW.SG0 Fm 2 [(0, ow 0), (3, pt 3), (7, vi p), (17, vb (p != (0 : Int)))] [(0, AO a), (3, bx (gC b))] ?_
  refine AW.cN h (fun U h => ?_) (fun U h => ?_)
  ·refine AW.SW Fm [.s, .m, .s] (fun K => True) [(4, ow 4), (5, vi p)] [(0, AO a), (4, AO (α := Feature) ([] : List Feature))] True.intro [(4, .arr 5 (0) (fun _ => []))] ⟨OLe.is ((Is.nil (α := Feature))), ⟨⟩⟩ ?_
   refine AW.ret ?_
   obtain rfl := Option.some.inj h
   exact Kn.re Fm [(100, 4)] [(4, ow 100), (5, vi p)] [(0, AO a), (100, AO (α := Feature) ([] : List Feature))] (by kernel_rfl) (by kernel_rfl) (by kernel_rfl) (by kernel_rfl) (Kn.dn Fm (by kernel_rfl))
  ·refine AW.skip (AW.SG0 Fm 1 [(0, ow 0), (3, pt 3), (8, vi 0)] [(0, AO a), (3, bx (gC b))] ?_)
   refine AW.join (r := r) (fun z : Int => ref09_Add_O_k2 F a b z) (fun z => [(0, ow 0), (3, pt 3), (8, vi z)]) (fun z => [(0, AO a), (3, bx (gC b))]) (fun e h => ?_) (fun l0 P => ?_)
   ·refine AW.seq (AW.join (r := r) (fun z : Bool => ref09_Add_O_k3 F a b e z) (fun z => [(0, ow 0), (3, pt 3), (8, vi e), (48, vb z)]) (fun z => [(0, AO a), (3, bx (gC b))]) (fun o0 h => ?_) (fun m0 B => ?_))
    ·refine AW.cN h (fun W h => ?_) (fun W h => ?_)
     ·refine AW.SW Fm [.m, .s] (fun K => True) [(4, ow 4), (5, vi 6)] [(0, AO a), (4, AO (α := Feature) ([] : List Feature))] True.intro [(4, .arr 5 (0) (fun _ => []))] ⟨OLe.is ((Is.nil (α := Feature))), ⟨⟩⟩ ?_
      refine AW.ret ?_
      obtain rfl := Option.some.inj h
      exact Kn.re Fm [(100, 4)] [(4, ow 100), (5, vi 6)] [(0, AO a), (100, AO (α := Feature) ([] : List Feature))] (by kernel_rfl) (by kernel_rfl) (by kernel_rfl) (by kernel_rfl) (Kn.dn Fm (by kernel_rfl))
     ·refine AW.skip (AW.seq (AW.SG0 Fm 3 [(0, ow 0), (3, pt 3), (8, vi e), (51, vb ((lI a) == (60 : Int)))] [(0, AO a), (3, bx (gC b))] ?_))
      refine AW.cN h (fun X h => ?_) (fun X h => ?_)
      ·refine AW.SW Fm [.m, .s] (fun K => True) [(4, ow 4), (5, vi 1)] [(0, AO a), (4, AO (α := Feature) ([] : List Feature))] True.intro [(4, .arr 5 (0) (fun _ => []))] ⟨OLe.is ((Is.nil (α := Feature))), ⟨⟩⟩ ?_
       refine AW.ret ?_
       obtain rfl := Option.some.inj h
       exact Kn.re Fm [(100, 4)] [(4, ow 100), (5, vi 1)] [(0, AO a), (100, AO (α := Feature) ([] : List Feature))] (by kernel_rfl) (by kernel_rfl) (by kernel_rfl) (by kernel_rfl) (Kn.dn Fm (by kernel_rfl))
      ·refine AW.skip ?_
       obtain ⟨Z, H, a0, b0, h⟩ := gS4 h
       obtain ⟨c0, I, d0, h⟩ := gS3 h
       refine AW.SW Fm [.m, .s, .s, .k (rE { v := .v (.c (.sub 0 5 0 ((e).toNat))) }), .s, .s, .w (AL (α := Feature) ([b] : List Feature)), .s, .s, .s, .k (rE { v := .v (.c (.sub 0 5 (0 + (e).toNat) ((List.length (α := Feature) a) - (e).toNat))) }), .s, .s, .s] (fun K => K 3 ∧ (_ ∧ _ ∧ True) ∧ (ALe (.v (.c (.d (.lst 1 (litF 5 [.int .i64 b.number_, .int .i64 b.kind_, .int .i64 b.from_, .int .i64 b.until_, DL b.region_.rects_]))))) (AL (α := Feature) ([b] : List Feature))) ∧ (_ ∧ _ ∧ True) ∧ K 10 ∧ (_ ∧ _ ∧ True) ∧ True) [(4, ow 63), (5, vi 0)] [(0, AO a), (63, AO (α := Feature) (((([] : List Feature) ++ ((a.drop 0).take ((e).toNat))) ++ ([b] : List Feature)) ++ ((a.drop (0 + (e).toNat)).take ((List.length (α := Feature) a) - (e).toNat))))] ⟨KAt.vslice (l := none) (u := (some e)) (id := 0) (lo0 := 0) (n := (List.length (α := Feature) a)) (N := List.length (α := Feature) a) (f := LF (α := Feature) a) prog_lay slT76 rfl rfl (by kernel_rfl) (by kernel_rfl) (by kernel_rfl) (by kernel_rfl) (by kernel_rfl) Z (by kernel_rfl), ⟨a0, (Is.subv (l := a) (lo := 0) (n := ((e).toNat)) H : Is (((e).toNat)) (fun j => LF (α := Feature) a (0 + j)) ((a.drop 0).take ((e).toNat))).len, ⟨⟩⟩, ALe.lst (.lit ([b] : List Feature) (by kernel_rfl)), ⟨b0, (Is.refl ([b] : List Feature) : Is (List.length (α := Feature) ([b] : List Feature)) (LF (α := Feature) ([b] : List Feature)) ([b] : List Feature)).len, ⟨⟩⟩, KAt.vslice (l := (some e)) (u := none) (id := 0) (lo0 := 0) (n := (List.length (α := Feature) a)) (N := List.length (α := Feature) a) (f := LF (α := Feature) a) prog_lay slT76 rfl rfl (by kernel_rfl) (by kernel_rfl) (by kernel_rfl) (by kernel_rfl) (by kernel_rfl) c0 (by kernel_rfl), ⟨d0, (Is.subv (l := a) (lo := (0 + (e).toNat)) (n := ((List.length (α := Feature) a) - (e).toNat)) I : Is (((List.length (α := Feature) a) - (e).toNat)) (fun j => LF (α := Feature) a ((0 + (e).toNat) + j)) ((a.drop (0 + (e).toNat)).take ((List.length (α := Feature) a) - (e).toNat))).len, ⟨⟩⟩, ⟨⟩⟩ [(63, .arr 5 ((((0) + (((e).toNat))) + (List.length (α := Feature) ([b] : List Feature))) + (((List.length (α := Feature) a) - (e).toNat))) (appF (((0) + (((e).toNat))) + (List.length (α := Feature) ([b] : List Feature))) (appF ((0) + (((e).toNat))) (appF (0) (litF 5 []) (fun j => LF (α := Feature) a (0 + j))) (LF (α := Feature) ([b] : List Feature))) (fun j => LF (α := Feature) a ((0 + (e).toNat) + j))))] ⟨OLe.is (Is.app (Is.app (Is.app (Is.lit ([] : List Feature) (by kernel_rfl)) (Is.subv (l := a) (lo := 0) (n := ((e).toNat)) H)) (Is.refl ([b] : List Feature))) (Is.subv (l := a) (lo := (0 + (e).toNat)) (n := ((List.length (α := Feature) a) - (e).toNat)) I)), ⟨⟩⟩ ?_
       refine AW.ret ?_
       obtain rfl := Option.some.inj h
       exact Kn.re Fm [(100, 63)] [(4, ow 100), (5, vi 0)] [(0, AO a), (100, AO (α := Feature) (((([] : List Feature) ++ ((a.drop 0).take ((e).toNat))) ++ ([b] : List Feature)) ++ ((a.drop (0 + (e).toNat)).take ((List.length (α := Feature) a) - (e).toNat))))] (by kernel_rfl) (by kernel_rfl) (by kernel_rfl) (by kernel_rfl) (Kn.dn Fm (by kernel_rfl))
    ·rcases br_or h with ⟨y, h⟩ | ⟨y, h⟩
     ·obtain ⟨E, h⟩ := gS h
      refine AW.pN Fm [.s, .s, .s, .s, .w (vb true), .s, .s, .s, .s, .s, .s, .s, .s, .s] [(0, ow 0), (3, pt 3), (8, vi e), (48, vb (((gl a e.toNat).number_) == b.number_))] [(0, AO a), (3, bx (gC b))] (cA (ALe.bool y) (cA E (cT (toNat_lt E)))) ?_
      exact Kn.R Fm (B (((gl a e.toNat).number_) == b.number_) h)
     ·refine AW.pN Fm [.s, .s, .s, .s, .w (vb false), .s, .s, .s, .s, .s, .s, .s, .s, .s] [(0, ow 0), (3, pt 3), (8, vi e), (48, vb false)] [(0, AO a), (3, bx (gC b))] (cT (ALe.bool y)) ?_
      exact Kn.R Fm (B false h)
   ·refine AW.block (AW.loopF (E' := fun z => [(0, ow 0), (3, pt 3), (8, vi z)]) (S' := fun z => [(0, AO a), (3, bx (gC b))]) (fun L i j0 M h => ?_) h)
    refine AW.seq (AW.join (r := r) (fun z : Bool => ref09_Add_O_k1 F a b i L z) (fun z => [(0, ow 0), (3, pt 3), (8, vi i), (32, vb z)]) (fun z => [(0, AO a), (3, bx (gC b))]) (fun n0 h => ?_) (fun k0 A => ?_))
    ·refine AW.cN h (fun V h => ?_) (fun V h => ?_)
     ·refine AW.skip (AW.block ?_)
      obtain ⟨Y, h⟩ := gS h
      refine AW.pN Fm [.s, .s, .s] [(0, ow 0), (3, pt 3), (8, vi (i + 1))] [(0, AO a), (3, bx (gC b))] (cT (cT Y)) ?_
      exact Kn.R Fm (M (i + 1) h)
     ·exact AW.exit (Kn.R Fm (P i h))
    ·rcases br_or h with ⟨q, h⟩ | ⟨q, h⟩
     ·obtain ⟨D, h⟩ := gS h
      refine AW.pN Fm [.s, .s, .s, .s, .w (vb true), .s, .s, .s, .s, .s, .s, .s, .s, .s] [(0, ow 0), (3, pt 3), (8, vi i), (24, ow 0), (25, vi i), (26, .v (.c (.pte 0 5 i.toNat 0))), (27, .v (.c (.pte 0 5 i.toNat 0))), (28, vi (gl a i.toNat).number_), (29, pt 3), (30, vi b.number_), (31, vb (decide (((gl a i.toNat).number_) < b.number_))), (32, vb (decide (((gl a i.toNat).number_) < b.number_)))] [(0, AO a), (3, bx (gC b))] (cA (ALe.bool q) (cA D (cT (toNat_lt D)))) ?_
      exact Kn.R Fm (A (decide (((gl a i.toNat).number_) < b.number_)) h)
     ·refine AW.pN Fm [.s, .s, .s, .s, .w (vb false), .s, .s, .s, .s, .s, .s, .s, .s, .s] [(0, ow 0), (3, pt 3), (8, vi i), (32, vb false)] [(0, AO a), (3, bx (gC b))] (cT (ALe.bool q)) ?_
      exact Kn.R Fm (A false h)
theorem keep_Tape_Layer_O_spec {F : Nat} {j : Tape} {o : Int} {r : Tape × (List Feature)} (h : keep_Tape_Layer_O F j o = some r) :
  FSpec Tryz.prog 55 [pt 0, vi o] [(0, bx (gC j))] (ow 100) [(0, bx (gC r.1)), (100, AO (α := Feature) r.2)] := by
 refine FI Tryz.func55 prog_mixed prog_lay fun C Fm => ?_
 unfold keep_Tape_Layer_O at h
 refine AW.SG Fm [.m] (fun K => True) [(0, pt 0), (1, vi o)] [(0, bx (gC j))] True.intro ?_
 refine AW.SW Fm [.m] (fun K => True) [(0, pt 0), (1, vi o), (5, ow 5)] [(0, bx (gC j)), (5, AO (α := Feature) ([] : List Feature))] True.intro [(5, .arr 5 (0) (fun _ => []))] ⟨OLe.is ((Is.nil (α := Feature))), ⟨⟩⟩ ?_
 refine AW.join (r := r) (fun z : (List Feature) × (List Int) × Int => keep_Tape_Layer_O_k2 F z.1 z.2.1 z.2.2) (fun z => [(5, ow 5)]) (fun z => [(0, bx [.d (DL z.2.1), ci z.2.2]), (5, AO z.1)]) (fun z h => ?_) (fun Z L => ?_)
 ·obtain ⟨B, D, E⟩ := z
  refine AW.SG0 Fm 2 [(4, ow 5)] [(0, bx [.d (DL D), ci E]), (5, AO B)] ?_
  refine AW.ret ?_
  obtain rfl := Option.some.inj h
  exact Kn.re Fm [(100, 5)] [(4, ow 100)] [(0, bx [.d (DL D), ci E]), (100, AO B)] (by kernel_rfl) (by kernel_rfl) (by kernel_rfl) (by kernel_rfl) (Kn.dn Fm (by kernel_rfl))
 ·refine AW.seq ?_
  obtain ⟨O, h⟩ := gS h
  obtain ⟨i, T, h⟩ := bS h
  refine AW.G Fm [.s, .s, .s, .k (cE [(0, 0)] [] (vi i.2) [(0, bx (gC j))] [(0, bx (gC i.1))]), .s] (fun K => (_ ∧ True) ∧ K 3 ∧ True) [(0, pt 0), (5, ow 5), (6, vi i.2)] [(0, bx (gC i.1)), (5, AO (α := Feature) ([] : List Feature))] ⟨⟨O, ⟨⟩⟩, KAt.CC (keep_Tape_Next_spec T) Tryz.call16 [(0, 0)], ⟨⟩⟩ ?_
  refine AW.block (Kn.r Fm [(0, pt 0), (5, ow 5), (6, vi i.2)] [(0, bx [.d (DL i.1.l_), ci i.1.at_]), (5, AO ([] : List Feature))] (by kernel_rfl) ?_)
  refine AW.loopF (E' := fun z => [(0, pt 0), (5, ow 5), (6, vi z.1)]) (S' := fun z => [(0, bx [.d (DL z.2.1), ci z.2.2.1]), (5, AO z.2.2.2)]) (fun H z X I h => ?_) h
  obtain ⟨b, l, n, p⟩ := z
  refine AW.seq (AW.SG0 Fm 2 [(0, pt 0), (5, ow 5), (6, vi b), (14, vb (decide ((0 : Int) < b)))] [(0, bx [.d (DL l), ci n]), (5, AO p)] ?_)
  refine AW.cN h (fun M h => ?_) (fun M h => ?_)
  ·refine AW.skip (AW.join (r := r) (fun z : (List Int) × Int × (List Feature) => keep_Tape_Layer_O_k1 F b H z.1 z.2.1 z.2.2) (fun z => [(0, pt 0), (5, ow 23), (6, vi b)]) (fun z => [(0, bx [.d (DL z.1), ci z.2.1]), (23, AO z.2.2)]) (fun z h => ?_) (fun Y u => ?_))
   ·obtain ⟨w, y, A⟩ := z
    obtain ⟨P, h⟩ := gS h
    refine AW.pN Fm [.s, .s, .s] [(0, pt 0), (5, ow 23), (6, vi (b - 1))] [(0, bx [.d (DL w), ci y]), (23, AO A)] (cT (cT P)) ?_
    exact Kn.RE Fm [(5, 23)] (I ((b - 1), w, y, A) h)
   ·refine AW.block (AW.seq ?_)
    obtain ⟨q, U, h⟩ := bS h
    obtain ⟨e, V, h⟩ := bS h
    obtain ⟨a, W, h⟩ := bS h
    refine AW.G Fm [.s, .s, .s, .k (cE [(0, 0)] [] (vi q.2) [(0, bx [.d (DL (α := Int) (⟨l, n⟩ : Tape).l_), ci ((⟨l, n⟩ : Tape).at_)])] [(0, bx (gC q.1))]), .k (cE [(0, 0)] [] (gE e.2) [(0, bx (gC q.1))] [(0, bx (gC e.1))]), .k (cE [(0, 5), (100, 23)] [] (.t [.c (.own 100), .c (ci a.2.2)]) [(0, AO p)] [(0, AO a.1), (100, AO a.2.1)]), .s, .s, .s, .s, .s] (fun K => K 3 ∧ K 4 ∧ K 5 ∧ True) [(0, pt 0), (5, ow 5), (6, vi b), (7, ow 23), (8, vi a.2.2)] [(0, bx (gC e.1)), (5, AO a.1), (23, AO a.2.1)] ⟨KAt.CC (keep_Tape_Range_spec U) Tryz.call70 [(0, 0)], KAt.CC (keep_Tape_Feature_spec V) Tryz.call69 [(0, 0)], KAt.CC (ref09_Add_O_spec W) Tryz.call81 [(0, 5), (100, 23)], ⟨⟩⟩ ?_
    refine AW.SG0 Fm 2 [(0, pt 0), (5, ow 5), (6, vi b), (7, ow 23), (27, vb (a.2.2 == (0 : Int)))] [(0, bx (gC e.1)), (5, AO a.1), (23, AO a.2.1)] ?_
    refine AW.cN h (fun N h => ?_) (fun N h => ?_)
    ·refine AW.G0 Fm 2 [(0, pt 0), (5, ow 23), (6, vi b)] [(0, bx (gC e.1)), (23, AO a.2.1)] ?_
     exact Kn.R Fm (u (e.1.l_, e.1.at_, a.2.1) h)
    ·exact AW.skip (Kn.RE Fm [(23, 5)] (u (e.1.l_, e.1.at_, a.1) h))
  ·exact AW.exit (Kn.R Fm (L (p, l, n) h))
theorem law11_ZoneAnswers_spec {F : Nat} {b : (List Feature)} {m : Region} {a : Int} {i : Int} {y : Int} {n : Int} {o : Int} {O : (List Int)} {r : Bool} (h : law11_ZoneAnswers F b m a i y n o O = some r) :
  FSpec Tryz.prog 11 [AL b, .v (.g [.d (DL m.rects_)]), vi a, vi i, vi y, vi n, vi o, AL O] [] (vb r) [] := by
 refine FI Tryz.func11 prog_mixed prog_lay fun C Fm => ?_
 unfold law11_ZoneAnswers at h
 refine AW.SG0 Fm 2 [(0, AL b), (2, vi a), (3, vi i), (4, vi y), (5, vi n), (6, vi o), (7, AL O), (9, pt 9)] [(9, bx [.d (DL m.rects_)])] ?_
 refine AW.seq (AW.join (r := r) (fun z : Bool => law11_ZoneAnswers_k0 F b m a i y n o O z) (fun z => [(0, AL b), (2, vi a), (3, vi i), (4, vi y), (5, vi n), (6, vi o), (7, AL O), (9, pt 9), (59, vb z)]) (fun z => [(9, bx [.d (DL m.rects_)])]) (fun o3 h => ?_) (fun O2 E0 => ?_))
 ·refine AW.cN h (fun u1 h => ?_) (fun u1 h => ?_)
  ·refine AW.seq ?_
   obtain ⟨U0, e2, h⟩ := bS h
   refine AW.G Fm [.k (cE [] [] (vb U0) [] []), .s] (fun K => K 0 ∧ True) [(16, vb U0)] [] ⟨KAt.CC (law11_awake_spec e2) Tryz.call54 [], ⟨⟩⟩ ?_
   refine AW.ret ?_
   obtain rfl := Option.some.inj h
   exact Kn.D Fm
  ·refine AW.skip (AW.join (r := r) (fun z : Unit => law11_ZoneAnswers_k2 F b m a i y n o O) (fun z => [(0, AL b), (2, vi a), (3, vi i), (4, vi y), (5, vi n), (6, vi o), (7, AL O), (9, pt 9)]) (fun z => [(9, bx [.d (DL m.rects_)])]) (fun z h => ?_) (fun R2 e1 => ?_))
   ·refine AW.seq ?_
    obtain ⟨D0, j2, h⟩ := bS h
    refine AW.G Fm [.s, .k (cE [(100, 77)] [] (pt 100) [] [(100, bx (gC D0))]), .s] (fun K => K 1 ∧ True) [(0, AL b), (2, vi a), (3, vi i), (4, vi y), (5, vi n), (6, vi o), (9, pt 9), (18, pt 77)] [(9, bx [.d (DL m.rects_)]), (77, bx (gC D0))] ⟨KAt.CC (keep_New_spec j2) Tryz.call14 [(100, 77)], ⟨⟩⟩ ?_
    refine AW.seq ?_
    obtain ⟨E, k2, h⟩ := bS h
    refine AW.G Fm [.s, .k (cE [(0, 77), (100, 79)] [] (ow 100) [(0, bx (gC D0))] [(0, bx (gC E.1)), (100, AO E.2)]), .s] (fun K => K 1 ∧ True) [(0, AL b), (2, vi a), (3, vi i), (4, vi y), (5, vi n), (6, vi o), (9, pt 9), (18, pt 77), (19, ow 79)] [(9, bx [.d (DL m.rects_)]), (77, bx (gC E.1)), (79, AO E.2)] ⟨KAt.CC (keep_Tape_Layer_O_spec k2) Tryz.call55 [(0, 77), (100, 79)], ⟨⟩⟩ ?_
    refine AW.join (r := r) (fun z : (List Int) × Int × (List Feature) => law11_ZoneAnswers_k4 F b m a i y n o z.1 z.2.1 z.2.2) (fun z => [(0, AL b), (2, vi a), (3, vi i), (4, vi y), (5, vi n), (6, vi o), (9, pt 9), (18, pt 77), (19, ow 79)]) (fun z => [(9, bx [.d (DL m.rects_)]), (77, bx [.d (DL z.1), ci z.2.1]), (79, AO z.2.2)]) (fun z h => ?_) (fun U2 H0 => ?_)
    ·obtain ⟨R0, T0, e⟩ := z
     refine AW.seq ?_
     obtain ⟨q, n2, h⟩ := bS h
     refine AW.G Fm [.s, .k (cE [(0, 77)] [] (.v (.g [.d (DL q.2.rects_)])) [(0, bx [.d (DL (α := Int) (⟨R0, T0⟩ : Tape).l_), ci ((⟨R0, T0⟩ : Tape).at_)])] [(0, bx (gC q.1))]), .s, .s] (fun K => K 1 ∧ True) [(0, AL b), (2, vi a), (3, vi i), (4, vi y), (5, vi n), (6, vi o), (9, pt 9), (19, ow 79), (20, pt 20)] [(9, bx [.d (DL m.rects_)]), (20, bx [.d (DL q.2.rects_)]), (79, AO e)] ⟨KAt.CC (keep_Tape_Broken_spec n2) Tryz.call46 [(0, 77)], ⟨⟩⟩ ?_
     refine AW.join (r := r) (fun z : Unit => law11_ZoneAnswers_k19 F) (fun z => []) (fun z => []) (fun z h => ?_) (fun m3 t1 => ?_)
     ·refine AW.seq ?_
      obtain ⟨Z0, L2, h⟩ := bS h
      refine AW.G Fm [.k (cE [] [] (vb Z0) [] []), .s] (fun K => K 0 ∧ True) [(16, vb Z0)] [] ⟨KAt.CC (law11_awake_spec L2) Tryz.call54 [], ⟨⟩⟩ ?_
      refine AW.ret ?_
      obtain rfl := Option.some.inj h
      exact Kn.D Fm
     ·refine AW.seq (Kn.r Fm [(0, AL b), (2, vi a), (3, vi i), (4, vi y), (5, vi n), (6, vi o), (9, pt 9), (19, ow 79), (20, pt 20)] [(79, AO e), (9, bx [.d (DL m.rects_)]), (20, bx [.d (DL q.2.rects_)])] (by kernel_rfl) ?_)
      refine Kn.frz [(0, AL b), (2, vi a), (3, vi i), (4, vi y), (5, vi n), (6, vi o), (9, pt 9), (19, AL e), (20, pt 20)] [(9, bx [.d (DL m.rects_)]), (20, bx [.d (DL q.2.rects_)])] (by kernel_rfl) (by kernel_rfl) (by kernel_rfl) ?_
      refine AW.pN Fm [.s, .s, .w (AL (α := (List Feature)) ([b, e] : List (List Feature))), .s, .s] [(2, vi a), (3, vi i), (4, vi y), (5, vi n), (6, vi o), (9, pt 9), (20, pt 20), (96, AL (α := (List Feature)) ([b, e] : List (List Feature))), (97, vi ((List.length ([b, e] : List (List Feature)) : Nat) : Int)), (98, vi 0)] [(9, bx [.d (DL m.rects_)]), (20, bx [.d (DL q.2.rects_)])] (cT (ALe.lst (.lit ([b, e] : List (List Feature)) (by kernel_rfl)) : ALe (.v (.c (.d (.lst 2 (litF 1 [DL b, DL e]))))) (AL (α := (List Feature)) ([b, e] : List (List Feature))))) ?_
      refine AW.block (AW.loopF (E' := fun z => [(2, vi a), (3, vi i), (4, vi y), (5, vi n), (6, vi o), (9, pt 9), (20, pt 20), (96, AL (α := (List Feature)) ([b, e] : List (List Feature))), (97, vi ((List.length ([b, e] : List (List Feature)) : Nat) : Int)), (98, vi z)]) (S' := fun z => [(9, bx [.d (DL m.rects_)]), (20, bx [.d (DL q.2.rects_)])]) (fun b1 p V2 i1 h => ?_) h)
      refine AW.SG0 Fm 1 [(2, vi a), (3, vi i), (4, vi y), (5, vi n), (6, vi o), (9, pt 9), (20, pt 20), (96, AL (α := (List Feature)) ([b, e] : List (List Feature))), (97, vi ((List.length ([b, e] : List (List Feature)) : Nat) : Int)), (98, vi p), (99, vb (decide (p < ((List.length ([b, e] : List (List Feature)) : Nat) : Int))))] [(9, bx [.d (DL m.rects_)]), (20, bx [.d (DL q.2.rects_)])] ?_
      refine AW.seq (AW.cN h (fun B1 h => ?_) (fun B1 h => ?_))
      ·refine AW.skip (AW.join (r := r) (fun z : Unit => law11_ZoneAnswers_k18 F p b1) (fun z => [(2, vi a), (3, vi i), (4, vi y), (5, vi n), (6, vi o), (9, pt 9), (20, pt 20), (96, AL (α := (List Feature)) ([b, e] : List (List Feature))), (97, vi ((List.length ([b, e] : List (List Feature)) : Nat) : Int)), (98, vi p)]) (fun z => [(9, bx [.d (DL m.rects_)]), (20, bx [.d (DL q.2.rects_)])]) (fun z h => ?_) (fun l3 s1 => ?_))
       ·obtain ⟨d2, h⟩ := gS h
        refine AW.pN Fm [.s, .s] [(2, vi a), (3, vi i), (4, vi y), (5, vi n), (6, vi o), (9, pt 9), (20, pt 20), (96, AL (α := (List Feature)) ([b, e] : List (List Feature))), (97, vi ((List.length ([b, e] : List (List Feature)) : Nat) : Int)), (98, vi (p + 1))] [(9, bx [.d (DL m.rects_)]), (20, bx [.d (DL q.2.rects_)])] (cT (cT d2)) ?_
        exact Kn.R Fm (i1 (p + 1) h)
       ·refine AW.block ?_
        obtain ⟨P1, h⟩ := gS h
        refine AW.SP Fm [.s, .s, .s] [(2, vi a), (3, vi i), (4, vi y), (5, vi n), (6, vi o), (9, pt 9), (20, pt 20), (22, AL (α := Feature) (gl ([b, e] : List (List Feature)) p.toNat)), (96, AL (α := (List Feature)) ([b, e] : List (List Feature))), (97, vi ((List.length ([b, e] : List (List Feature)) : Nat) : Int)), (98, vi p)] [(9, bx [.d (DL m.rects_)]), (20, bx [.d (DL q.2.rects_)])] (cT P1) ?_
        refine AW.seq ?_
        obtain ⟨l, o2, h⟩ := bS h
        refine AW.G Fm [.s, .s, .k (cE [] [] (vi l) [] []), .w (AL (α := Int) ([a, l] : List Int)), .s, .s] (fun K => K 2 ∧ (ALe (.v (.c (.d (.lst 2 (litF 1 [.int .i64 a, .int .i64 l]))))) (AL (α := Int) ([a, l] : List Int))) ∧ True) [(2, vi a), (3, vi i), (4, vi y), (5, vi n), (6, vi o), (9, pt 9), (20, pt 20), (22, AL (α := Feature) (gl ([b, e] : List (List Feature)) p.toNat)), (96, AL (α := (List Feature)) ([b, e] : List (List Feature))), (97, vi ((List.length ([b, e] : List (List Feature)) : Nat) : Int)), (98, vi p), (105, AL (α := Int) ([a, l] : List Int)), (106, vi ((List.length ([a, l] : List Int) : Nat) : Int)), (107, vi 0)] [(9, bx [.d (DL m.rects_)]), (20, bx [.d (DL q.2.rects_)])] ⟨KAt.CC (keep_Mod_spec o2) Tryz.call47 [], ALe.lst (.lit ([a, l] : List Int) (by kernel_rfl)), ⟨⟩⟩ ?_
        refine AW.block (AW.loopF (E' := fun z => [(2, vi a), (3, vi i), (4, vi y), (5, vi n), (6, vi o), (9, pt 9), (20, pt 20), (22, AL (α := Feature) (gl ([b, e] : List (List Feature)) p.toNat)), (96, AL (α := (List Feature)) ([b, e] : List (List Feature))), (97, vi ((List.length ([b, e] : List (List Feature)) : Nat) : Int)), (98, vi p), (105, AL (α := Int) ([a, l] : List Int)), (106, vi ((List.length ([a, l] : List Int) : Nat) : Int)), (107, vi z)]) (S' := fun z => [(9, bx [.d (DL m.rects_)]), (20, bx [.d (DL q.2.rects_)])]) (fun n0 u W2 j1 h => ?_) h)
        refine AW.SG0 Fm 1 [(2, vi a), (3, vi i), (4, vi y), (5, vi n), (6, vi o), (9, pt 9), (20, pt 20), (22, AL (α := Feature) (gl ([b, e] : List (List Feature)) p.toNat)), (96, AL (α := (List Feature)) ([b, e] : List (List Feature))), (97, vi ((List.length ([b, e] : List (List Feature)) : Nat) : Int)), (98, vi p), (105, AL (α := Int) ([a, l] : List Int)), (106, vi ((List.length ([a, l] : List Int) : Nat) : Int)), (107, vi u), (108, vb (decide (u < ((List.length ([a, l] : List Int) : Nat) : Int))))] [(9, bx [.d (DL m.rects_)]), (20, bx [.d (DL q.2.rects_)])] ?_
        refine AW.seq (AW.cN h (fun D1 h => ?_) (fun D1 h => ?_))
        ·refine AW.skip (AW.join (r := r) (fun z : Unit => law11_ZoneAnswers_k17 F u n0) (fun z => [(2, vi a), (3, vi i), (4, vi y), (5, vi n), (6, vi o), (9, pt 9), (20, pt 20), (22, AL (α := Feature) (gl ([b, e] : List (List Feature)) p.toNat)), (96, AL (α := (List Feature)) ([b, e] : List (List Feature))), (97, vi ((List.length ([b, e] : List (List Feature)) : Nat) : Int)), (98, vi p), (105, AL (α := Int) ([a, l] : List Int)), (106, vi ((List.length ([a, l] : List Int) : Nat) : Int)), (107, vi u)]) (fun z => [(9, bx [.d (DL m.rects_)]), (20, bx [.d (DL q.2.rects_)])]) (fun z h => ?_) (fun k3 q1 => ?_))
         ·obtain ⟨c2, h⟩ := gS h
          refine AW.pN Fm [.s, .s] [(2, vi a), (3, vi i), (4, vi y), (5, vi n), (6, vi o), (9, pt 9), (20, pt 20), (22, AL (α := Feature) (gl ([b, e] : List (List Feature)) p.toNat)), (96, AL (α := (List Feature)) ([b, e] : List (List Feature))), (97, vi ((List.length ([b, e] : List (List Feature)) : Nat) : Int)), (98, vi p), (105, AL (α := Int) ([a, l] : List Int)), (106, vi ((List.length ([a, l] : List Int) : Nat) : Int)), (107, vi (u + 1))] [(9, bx [.d (DL m.rects_)]), (20, bx [.d (DL q.2.rects_)])] (cT (cT c2)) ?_
          exact Kn.R Fm (j1 (u + 1) h)
         ·refine AW.block ?_
          obtain ⟨R1, h⟩ := gS h
          refine AW.SP Fm [.s, .s, .s] [(2, vi a), (3, vi i), (4, vi y), (5, vi n), (6, vi o), (9, pt 9), (20, pt 20), (22, AL (α := Feature) (gl ([b, e] : List (List Feature)) p.toNat)), (24, vi (gl ([a, l] : List Int) u.toNat)), (96, AL (α := (List Feature)) ([b, e] : List (List Feature))), (97, vi ((List.length ([b, e] : List (List Feature)) : Nat) : Int)), (98, vi p), (105, AL (α := Int) ([a, l] : List Int)), (106, vi ((List.length ([a, l] : List Int) : Nat) : Int)), (107, vi u)] [(9, bx [.d (DL m.rects_)]), (20, bx [.d (DL q.2.rects_)])] (cT R1) ?_
          refine AW.seq ?_
          obtain ⟨U, p2, h⟩ := bS h
          refine AW.G Fm [.s, .s, .k (cE [] [] (.t [.g [.d (DL U.1.rects_)], .c (ci U.2)]) [] []), .s, .s, .s, .s, .s, .s] (fun K => K 2 ∧ True) [(2, vi a), (3, vi i), (4, vi y), (5, vi n), (6, vi o), (9, pt 9), (20, pt 20), (22, AL (α := Feature) (gl ([b, e] : List (List Feature)) p.toNat)), (24, vi (gl ([a, l] : List Int) u.toNat)), (25, pt 25), (26, vi U.2), (96, AL (α := (List Feature)) ([b, e] : List (List Feature))), (97, vi ((List.length ([b, e] : List (List Feature)) : Nat) : Int)), (98, vi p), (105, AL (α := Int) ([a, l] : List Int)), (106, vi ((List.length ([a, l] : List Int) : Nat) : Int)), (107, vi u)] [(9, bx [.d (DL m.rects_)]), (20, bx [.d (DL q.2.rects_)]), (25, bx [.d (DL U.1.rects_)])] ⟨KAt.CC (zone_Hard_spec p2) Tryz.call56 [], ⟨⟩⟩ ?_
          refine AW.seq ?_
          obtain ⟨a0, q2, h⟩ := bS h
          refine AW.G Fm [.s, .s, .k (cE [] [] (.t [.g [.d (DL a0.1.rects_)], .c (ci a0.2)]) [] []), .s, .s, .s, .s, .s, .s] (fun K => K 2 ∧ True) [(2, vi a), (3, vi i), (4, vi y), (5, vi n), (6, vi o), (9, pt 9), (20, pt 20), (22, AL (α := Feature) (gl ([b, e] : List (List Feature)) p.toNat)), (24, vi (gl ([a, l] : List Int) u.toNat)), (25, pt 25), (26, vi U.2), (27, pt 27), (28, vi a0.2), (96, AL (α := (List Feature)) ([b, e] : List (List Feature))), (97, vi ((List.length ([b, e] : List (List Feature)) : Nat) : Int)), (98, vi p), (105, AL (α := Int) ([a, l] : List Int)), (106, vi ((List.length ([a, l] : List Int) : Nat) : Int)), (107, vi u)] [(9, bx [.d (DL m.rects_)]), (20, bx [.d (DL q.2.rects_)]), (25, bx [.d (DL U.1.rects_)]), (27, bx [.d (DL a0.1.rects_)])] ⟨KAt.CC (ref11_Hard_spec q2) Tryz.call57 [], ⟨⟩⟩ ?_
          refine AW.seq (AW.join (r := r) (fun z : Bool => law11_ZoneAnswers_k7 F b m a i y n o e q p l u n0 z) (fun z => [(2, vi a), (3, vi i), (4, vi y), (5, vi n), (6, vi o), (9, pt 9), (20, pt 20), (22, AL (α := Feature) (gl ([b, e] : List (List Feature)) p.toNat)), (24, vi (gl ([a, l] : List Int) u.toNat)), (96, AL (α := (List Feature)) ([b, e] : List (List Feature))), (97, vi ((List.length ([b, e] : List (List Feature)) : Nat) : Int)), (98, vi p), (105, AL (α := Int) ([a, l] : List Int)), (106, vi ((List.length ([a, l] : List Int) : Nat) : Int)), (107, vi u), (131, vb z)]) (fun z => [(9, bx [.d (DL m.rects_)]), (20, bx [.d (DL q.2.rects_)])]) (fun q3 h => ?_) (fun X2 I0 => ?_))
          ·refine AW.cN h (fun E1 h => ?_) (fun E1 h => ?_)
           ·refine AW.SG0 Fm 1 [(16, vb false)] [] ?_
            refine AW.ret ?_
            obtain rfl := Option.some.inj h
            exact Kn.D Fm
           ·refine AW.skip (AW.join (r := r) (fun z : Unit => law11_ZoneAnswers_k14 F b a n o e p l u n0) (fun z => [(2, vi a), (3, vi i), (4, vi y), (5, vi n), (6, vi o), (9, pt 9), (20, pt 20), (22, AL (α := Feature) (gl ([b, e] : List (List Feature)) p.toNat)), (24, vi (gl ([a, l] : List Int) u.toNat)), (96, AL (α := (List Feature)) ([b, e] : List (List Feature))), (97, vi ((List.length ([b, e] : List (List Feature)) : Nat) : Int)), (98, vi p), (105, AL (α := Int) ([a, l] : List Int)), (106, vi ((List.length ([a, l] : List Int) : Nat) : Int)), (107, vi u)]) (fun z => [(9, bx [.d (DL m.rects_)]), (20, bx [.d (DL q.2.rects_)])]) (fun z h => ?_) (fun e3 o1 => ?_))
            ·refine AW.seq ?_
             obtain ⟨H, G2, h⟩ := bS h
             obtain ⟨I, H2, h⟩ := bS h
             refine AW.G Fm [.s, .s, .s, .s, .k (cE [] [] (vi H) [] []), .s, .k (cE [] [] (vi I) [] []), .s, .w (AL (α := Arr2Int) ([(⟨n, o⟩ : Arr2Int), (⟨H, I⟩ : Arr2Int)] : List Arr2Int)), .s, .s] (fun K => K 4 ∧ K 6 ∧ (ALe (.v (.c (.d (.lst 2 (litF 2 [.int .i64 n, .int .i64 o, .int .i64 H, .int .i64 I]))))) (AL (α := Arr2Int) ([(⟨n, o⟩ : Arr2Int), (⟨H, I⟩ : Arr2Int)] : List Arr2Int))) ∧ True) [(2, vi a), (3, vi i), (4, vi y), (5, vi n), (6, vi o), (9, pt 9), (20, pt 20), (22, AL (α := Feature) (gl ([b, e] : List (List Feature)) p.toNat)), (24, vi (gl ([a, l] : List Int) u.toNat)), (96, AL (α := (List Feature)) ([b, e] : List (List Feature))), (97, vi ((List.length ([b, e] : List (List Feature)) : Nat) : Int)), (98, vi p), (105, AL (α := Int) ([a, l] : List Int)), (106, vi ((List.length ([a, l] : List Int) : Nat) : Int)), (107, vi u), (241, AL (α := Arr2Int) ([(⟨n, o⟩ : Arr2Int), (⟨H, I⟩ : Arr2Int)] : List Arr2Int)), (242, vi ((List.length ([(⟨n, o⟩ : Arr2Int), (⟨H, I⟩ : Arr2Int)] : List Arr2Int) : Nat) : Int)), (243, vi 0)] [(9, bx [.d (DL m.rects_)]), (20, bx [.d (DL q.2.rects_)])] ⟨KAt.CC (keep_Mod_spec G2) Tryz.call47 [], KAt.CC (keep_Mod_spec H2) Tryz.call47 [], ALe.lst (.lit ([(⟨n, o⟩ : Arr2Int), (⟨H, I⟩ : Arr2Int)] : List Arr2Int) (by kernel_rfl)), ⟨⟩⟩ ?_
             refine AW.block (AW.loopF (E' := fun z => [(2, vi a), (3, vi i), (4, vi y), (5, vi n), (6, vi o), (9, pt 9), (20, pt 20), (22, AL (α := Feature) (gl ([b, e] : List (List Feature)) p.toNat)), (24, vi (gl ([a, l] : List Int) u.toNat)), (96, AL (α := (List Feature)) ([b, e] : List (List Feature))), (97, vi ((List.length ([b, e] : List (List Feature)) : Nat) : Int)), (98, vi p), (105, AL (α := Int) ([a, l] : List Int)), (106, vi ((List.length ([a, l] : List Int) : Nat) : Int)), (107, vi u), (241, AL (α := Arr2Int) ([(⟨n, o⟩ : Arr2Int), (⟨H, I⟩ : Arr2Int)] : List Arr2Int)), (242, vi ((List.length ([(⟨n, o⟩ : Arr2Int), (⟨H, I⟩ : Arr2Int)] : List Arr2Int) : Nat) : Int)), (243, vi z)]) (S' := fun z => [(9, bx [.d (DL m.rects_)]), (20, bx [.d (DL q.2.rects_)])]) (fun a1 N i3 p1 h => ?_) h)
             refine AW.SG0 Fm 1 [(2, vi a), (3, vi i), (4, vi y), (5, vi n), (6, vi o), (9, pt 9), (20, pt 20), (22, AL (α := Feature) (gl ([b, e] : List (List Feature)) p.toNat)), (24, vi (gl ([a, l] : List Int) u.toNat)), (96, AL (α := (List Feature)) ([b, e] : List (List Feature))), (97, vi ((List.length ([b, e] : List (List Feature)) : Nat) : Int)), (98, vi p), (105, AL (α := Int) ([a, l] : List Int)), (106, vi ((List.length ([a, l] : List Int) : Nat) : Int)), (107, vi u), (241, AL (α := Arr2Int) ([(⟨n, o⟩ : Arr2Int), (⟨H, I⟩ : Arr2Int)] : List Arr2Int)), (242, vi ((List.length ([(⟨n, o⟩ : Arr2Int), (⟨H, I⟩ : Arr2Int)] : List Arr2Int) : Nat) : Int)), (243, vi N), (244, vb (decide (N < ((List.length ([(⟨n, o⟩ : Arr2Int), (⟨H, I⟩ : Arr2Int)] : List Arr2Int) : Nat) : Int))))] [(9, bx [.d (DL m.rects_)]), (20, bx [.d (DL q.2.rects_)])] ?_
             refine AW.seq (AW.cN h (fun L1 h => ?_) (fun L1 h => ?_))
             ·refine AW.skip (AW.seq (AW.block ?_))
              obtain ⟨a2, h⟩ := gS h
              refine AW.SP Fm [.s, .s, .s, .s] [(2, vi a), (3, vi i), (4, vi y), (5, vi n), (6, vi o), (9, pt 9), (20, pt 20), (22, AL (α := Feature) (gl ([b, e] : List (List Feature)) p.toNat)), (24, vi (gl ([a, l] : List Int) u.toNat)), (46, pt 46), (96, AL (α := (List Feature)) ([b, e] : List (List Feature))), (97, vi ((List.length ([b, e] : List (List Feature)) : Nat) : Int)), (98, vi p), (105, AL (α := Int) ([a, l] : List Int)), (106, vi ((List.length ([a, l] : List Int) : Nat) : Int)), (107, vi u), (241, AL (α := Arr2Int) ([(⟨n, o⟩ : Arr2Int), (⟨H, I⟩ : Arr2Int)] : List Arr2Int)), (242, vi ((List.length ([(⟨n, o⟩ : Arr2Int), (⟨H, I⟩ : Arr2Int)] : List Arr2Int) : Nat) : Int)), (243, vi N)] [(9, bx [.d (DL m.rects_)]), (20, bx [.d (DL q.2.rects_)]), (46, bx [ci ((gl ([(⟨n, o⟩ : Arr2Int), (⟨H, I⟩ : Arr2Int)] : List Arr2Int) N.toNat).e0_), ci ((gl ([(⟨n, o⟩ : Arr2Int), (⟨H, I⟩ : Arr2Int)] : List Arr2Int) N.toNat).e1_)])] (cT a2) ?_
              refine AW.seq ?_
              obtain ⟨X, I2, h⟩ := bS h
              refine AW.G Fm [.s, .s, .s, .s, .s, .s, .k (cE [] [] (.t [.c (.d (DL X.1)), .c (ci X.2)]) [] []), .s, .s, .s, .s, .s] (fun K => (True) ∧ (True) ∧ K 6 ∧ True) [(2, vi a), (3, vi i), (4, vi y), (5, vi n), (6, vi o), (9, pt 9), (20, pt 20), (22, AL (α := Feature) (gl ([b, e] : List (List Feature)) p.toNat)), (24, vi (gl ([a, l] : List Int) u.toNat)), (46, pt 46), (47, AL X.1), (48, vi X.2), (96, AL (α := (List Feature)) ([b, e] : List (List Feature))), (97, vi ((List.length ([b, e] : List (List Feature)) : Nat) : Int)), (98, vi p), (105, AL (α := Int) ([a, l] : List Int)), (106, vi ((List.length ([a, l] : List Int) : Nat) : Int)), (107, vi u), (241, AL (α := Arr2Int) ([(⟨n, o⟩ : Arr2Int), (⟨H, I⟩ : Arr2Int)] : List Arr2Int)), (242, vi ((List.length ([(⟨n, o⟩ : Arr2Int), (⟨H, I⟩ : Arr2Int)] : List Arr2Int) : Nat) : Int)), (243, vi N)] [(9, bx [.d (DL m.rects_)]), (20, bx [.d (DL q.2.rects_)]), (46, bx [ci ((gl ([(⟨n, o⟩ : Arr2Int), (⟨H, I⟩ : Arr2Int)] : List Arr2Int) N.toNat).e0_), ci ((gl ([(⟨n, o⟩ : Arr2Int), (⟨H, I⟩ : Arr2Int)] : List Arr2Int) N.toNat).e1_)])] ⟨True.intro, True.intro, KAt.CC (zone_Zones_spec I2) Tryz.call64 [], ⟨⟩⟩ ?_
              refine AW.seq ?_
              obtain ⟨c0, K2, h⟩ := bS h
              refine AW.G Fm [.s, .s, .s, .s, .s, .s, .k (cE [] [] (.t [.c (.d (DL c0.1)), .c (ci c0.2)]) [] []), .s, .s, .s, .s, .s] (fun K => (True) ∧ (True) ∧ K 6 ∧ True) [(2, vi a), (3, vi i), (4, vi y), (5, vi n), (6, vi o), (9, pt 9), (20, pt 20), (22, AL (α := Feature) (gl ([b, e] : List (List Feature)) p.toNat)), (24, vi (gl ([a, l] : List Int) u.toNat)), (47, AL X.1), (48, vi X.2), (49, AL c0.1), (50, vi c0.2), (96, AL (α := (List Feature)) ([b, e] : List (List Feature))), (97, vi ((List.length ([b, e] : List (List Feature)) : Nat) : Int)), (98, vi p), (105, AL (α := Int) ([a, l] : List Int)), (106, vi ((List.length ([a, l] : List Int) : Nat) : Int)), (107, vi u), (241, AL (α := Arr2Int) ([(⟨n, o⟩ : Arr2Int), (⟨H, I⟩ : Arr2Int)] : List Arr2Int)), (242, vi ((List.length ([(⟨n, o⟩ : Arr2Int), (⟨H, I⟩ : Arr2Int)] : List Arr2Int) : Nat) : Int)), (243, vi N)] [(9, bx [.d (DL m.rects_)]), (20, bx [.d (DL q.2.rects_)])] ⟨True.intro, True.intro, KAt.CC (ref11_Zones_spec K2) Tryz.call65 [], ⟨⟩⟩ ?_
              refine AW.join (r := r) (fun z : Bool => law11_ZoneAnswers_k16 F N a1 z) (fun z => [(2, vi a), (3, vi i), (4, vi y), (5, vi n), (6, vi o), (9, pt 9), (20, pt 20), (22, AL (α := Feature) (gl ([b, e] : List (List Feature)) p.toNat)), (24, vi (gl ([a, l] : List Int) u.toNat)), (96, AL (α := (List Feature)) ([b, e] : List (List Feature))), (97, vi ((List.length ([b, e] : List (List Feature)) : Nat) : Int)), (98, vi p), (105, AL (α := Int) ([a, l] : List Int)), (106, vi ((List.length ([a, l] : List Int) : Nat) : Int)), (107, vi u), (241, AL (α := Arr2Int) ([(⟨n, o⟩ : Arr2Int), (⟨H, I⟩ : Arr2Int)] : List Arr2Int)), (242, vi ((List.length ([(⟨n, o⟩ : Arr2Int), (⟨H, I⟩ : Arr2Int)] : List Arr2Int) : Nat) : Int)), (243, vi N), (275, vb z)]) (fun z => [(9, bx [.d (DL m.rects_)]), (20, bx [.d (DL q.2.rects_)])]) (fun u3 h => ?_) (fun j3 L0 => ?_)
              ·refine AW.cN h (fun M1 h => ?_) (fun M1 h => ?_)
               ·refine AW.SG0 Fm 1 [(16, vb false)] [] ?_
                refine AW.ret ?_
                obtain rfl := Option.some.inj h
                exact Kn.D Fm
               ·refine AW.skip ?_
                obtain ⟨b2, h⟩ := gS h
                refine AW.pN Fm [.s, .s] [(2, vi a), (3, vi i), (4, vi y), (5, vi n), (6, vi o), (9, pt 9), (20, pt 20), (22, AL (α := Feature) (gl ([b, e] : List (List Feature)) p.toNat)), (24, vi (gl ([a, l] : List Int) u.toNat)), (96, AL (α := (List Feature)) ([b, e] : List (List Feature))), (97, vi ((List.length ([b, e] : List (List Feature)) : Nat) : Int)), (98, vi p), (105, AL (α := Int) ([a, l] : List Int)), (106, vi ((List.length ([a, l] : List Int) : Nat) : Int)), (107, vi u), (241, AL (α := Arr2Int) ([(⟨n, o⟩ : Arr2Int), (⟨H, I⟩ : Arr2Int)] : List Arr2Int)), (242, vi ((List.length ([(⟨n, o⟩ : Arr2Int), (⟨H, I⟩ : Arr2Int)] : List Arr2Int) : Nat) : Int)), (243, vi (N + 1))] [(9, bx [.d (DL m.rects_)]), (20, bx [.d (DL q.2.rects_)])] (cT (cT b2)) ?_
                exact Kn.R Fm (p1 (N + 1) h)
              ·obtain ⟨Y0, P0, h⟩ := bS h
               rcases br_or h with ⟨w0, h⟩ | ⟨w0, h⟩
               ·refine AW.G Fm [.s, .s, .k (cE [] [] (vb Y0) [] []), .s, .w (vb true), .s, .s, .s, .s] (fun K => K 2 ∧ _ ∧ True) [(2, vi a), (3, vi i), (4, vi y), (5, vi n), (6, vi o), (9, pt 9), (20, pt 20), (22, AL (α := Feature) (gl ([b, e] : List (List Feature)) p.toNat)), (24, vi (gl ([a, l] : List Int) u.toNat)), (96, AL (α := (List Feature)) ([b, e] : List (List Feature))), (97, vi ((List.length ([b, e] : List (List Feature)) : Nat) : Int)), (98, vi p), (105, AL (α := Int) ([a, l] : List Int)), (106, vi ((List.length ([a, l] : List Int) : Nat) : Int)), (107, vi u), (241, AL (α := Arr2Int) ([(⟨n, o⟩ : Arr2Int), (⟨H, I⟩ : Arr2Int)] : List Arr2Int)), (242, vi ((List.length ([(⟨n, o⟩ : Arr2Int), (⟨H, I⟩ : Arr2Int)] : List Arr2Int) : Nat) : Int)), (243, vi N), (275, vb true)] [(9, bx [.d (DL m.rects_)]), (20, bx [.d (DL q.2.rects_)])] ⟨KAt.CC (ref01_Ints_spec P0) Tryz.call66 [], ALe.bool w0, ⟨⟩⟩ ?_
                exact Kn.R Fm (L0 true h)
               ·refine AW.G Fm [.s, .s, .k (cE [] [] (vb Y0) [] []), .s, .w (vb false), .s, .s, .s, .s] (fun K => K 2 ∧ _ ∧ True) [(2, vi a), (3, vi i), (4, vi y), (5, vi n), (6, vi o), (9, pt 9), (20, pt 20), (22, AL (α := Feature) (gl ([b, e] : List (List Feature)) p.toNat)), (24, vi (gl ([a, l] : List Int) u.toNat)), (96, AL (α := (List Feature)) ([b, e] : List (List Feature))), (97, vi ((List.length ([b, e] : List (List Feature)) : Nat) : Int)), (98, vi p), (105, AL (α := Int) ([a, l] : List Int)), (106, vi ((List.length ([a, l] : List Int) : Nat) : Int)), (107, vi u), (241, AL (α := Arr2Int) ([(⟨n, o⟩ : Arr2Int), (⟨H, I⟩ : Arr2Int)] : List Arr2Int)), (242, vi ((List.length ([(⟨n, o⟩ : Arr2Int), (⟨H, I⟩ : Arr2Int)] : List Arr2Int) : Nat) : Int)), (243, vi N), (272, vi X.2), (273, vi c0.2), (274, vb (X.2 != c0.2)), (275, vb (X.2 != c0.2))] [(9, bx [.d (DL m.rects_)]), (20, bx [.d (DL q.2.rects_)])] ⟨KAt.CC (ref01_Ints_spec P0) Tryz.call66 [], ALe.bool w0, ⟨⟩⟩ ?_
                exact Kn.R Fm (L0 (X.2 != c0.2) h)
             ·exact AW.exit (Kn.R Fm (q1 () h))
            ·refine AW.seq ?_
             obtain ⟨A, s2, h⟩ := bS h
             obtain ⟨T1, h⟩ := gS h
             refine AW.G Fm [.s, .s, .k (cE [] [] (vi A) [] []), .s, .w (AL (α := Int) ([i, (A - 1)] : List Int)), .s, .s] (fun K => K 2 ∧ (_ ∧ True) ∧ (ALe (.v (.c (.d (.lst 2 (litF 1 [.int .i64 i, .int .i64 (A - 1)]))))) (AL (α := Int) ([i, (A - 1)] : List Int))) ∧ True) [(2, vi a), (3, vi i), (4, vi y), (5, vi n), (6, vi o), (9, pt 9), (20, pt 20), (22, AL (α := Feature) (gl ([b, e] : List (List Feature)) p.toNat)), (24, vi (gl ([a, l] : List Int) u.toNat)), (96, AL (α := (List Feature)) ([b, e] : List (List Feature))), (97, vi ((List.length ([b, e] : List (List Feature)) : Nat) : Int)), (98, vi p), (105, AL (α := Int) ([a, l] : List Int)), (106, vi ((List.length ([a, l] : List Int) : Nat) : Int)), (107, vi u), (136, AL (α := Int) ([i, (A - 1)] : List Int)), (137, vi ((List.length ([i, (A - 1)] : List Int) : Nat) : Int)), (138, vi 0)] [(9, bx [.d (DL m.rects_)]), (20, bx [.d (DL q.2.rects_)])] ⟨KAt.CC (keep_Mod_spec s2) Tryz.call47 [], ⟨T1, ⟨⟩⟩, ALe.lst (.lit ([i, (A - 1)] : List Int) (by kernel_rfl)), ⟨⟩⟩ ?_
             refine AW.block (AW.loopF (E' := fun z => [(2, vi a), (3, vi i), (4, vi y), (5, vi n), (6, vi o), (9, pt 9), (20, pt 20), (22, AL (α := Feature) (gl ([b, e] : List (List Feature)) p.toNat)), (24, vi (gl ([a, l] : List Int) u.toNat)), (96, AL (α := (List Feature)) ([b, e] : List (List Feature))), (97, vi ((List.length ([b, e] : List (List Feature)) : Nat) : Int)), (98, vi p), (105, AL (α := Int) ([a, l] : List Int)), (106, vi ((List.length ([a, l] : List Int) : Nat) : Int)), (107, vi u), (136, AL (α := Int) ([i, (A - 1)] : List Int)), (137, vi ((List.length ([i, (A - 1)] : List Int) : Nat) : Int)), (138, vi z)]) (S' := fun z => [(9, bx [.d (DL m.rects_)]), (20, bx [.d (DL q.2.rects_)])]) (fun o0 B Y2 k1 h => ?_) h)
             refine AW.SG0 Fm 1 [(2, vi a), (3, vi i), (4, vi y), (5, vi n), (6, vi o), (9, pt 9), (20, pt 20), (22, AL (α := Feature) (gl ([b, e] : List (List Feature)) p.toNat)), (24, vi (gl ([a, l] : List Int) u.toNat)), (96, AL (α := (List Feature)) ([b, e] : List (List Feature))), (97, vi ((List.length ([b, e] : List (List Feature)) : Nat) : Int)), (98, vi p), (105, AL (α := Int) ([a, l] : List Int)), (106, vi ((List.length ([a, l] : List Int) : Nat) : Int)), (107, vi u), (136, AL (α := Int) ([i, (A - 1)] : List Int)), (137, vi ((List.length ([i, (A - 1)] : List Int) : Nat) : Int)), (138, vi B), (139, vb (decide (B < ((List.length ([i, (A - 1)] : List Int) : Nat) : Int))))] [(9, bx [.d (DL m.rects_)]), (20, bx [.d (DL q.2.rects_)])] ?_
             refine AW.seq (AW.cN h (fun G1 h => ?_) (fun G1 h => ?_))
             ·refine AW.skip (AW.join (r := r) (fun z : Unit => law11_ZoneAnswers_k13 F B o0) (fun z => [(2, vi a), (3, vi i), (4, vi y), (5, vi n), (6, vi o), (9, pt 9), (20, pt 20), (22, AL (α := Feature) (gl ([b, e] : List (List Feature)) p.toNat)), (24, vi (gl ([a, l] : List Int) u.toNat)), (96, AL (α := (List Feature)) ([b, e] : List (List Feature))), (97, vi ((List.length ([b, e] : List (List Feature)) : Nat) : Int)), (98, vi p), (105, AL (α := Int) ([a, l] : List Int)), (106, vi ((List.length ([a, l] : List Int) : Nat) : Int)), (107, vi u), (136, AL (α := Int) ([i, (A - 1)] : List Int)), (137, vi ((List.length ([i, (A - 1)] : List Int) : Nat) : Int)), (138, vi B)]) (fun z => [(9, bx [.d (DL m.rects_)]), (20, bx [.d (DL q.2.rects_)])]) (fun z h => ?_) (fun d3 n1 => ?_))
              ·obtain ⟨Z1, h⟩ := gS h
               refine AW.pN Fm [.s, .s] [(2, vi a), (3, vi i), (4, vi y), (5, vi n), (6, vi o), (9, pt 9), (20, pt 20), (22, AL (α := Feature) (gl ([b, e] : List (List Feature)) p.toNat)), (24, vi (gl ([a, l] : List Int) u.toNat)), (96, AL (α := (List Feature)) ([b, e] : List (List Feature))), (97, vi ((List.length ([b, e] : List (List Feature)) : Nat) : Int)), (98, vi p), (105, AL (α := Int) ([a, l] : List Int)), (106, vi ((List.length ([a, l] : List Int) : Nat) : Int)), (107, vi u), (136, AL (α := Int) ([i, (A - 1)] : List Int)), (137, vi ((List.length ([i, (A - 1)] : List Int) : Nat) : Int)), (138, vi (B + 1))] [(9, bx [.d (DL m.rects_)]), (20, bx [.d (DL q.2.rects_)])] (cT (cT Z1)) ?_
               exact Kn.R Fm (k1 (B + 1) h)
              ·refine AW.block ?_
               obtain ⟨U1, h⟩ := gS h
               refine AW.SP Fm [.s, .s, .s] [(2, vi a), (3, vi i), (4, vi y), (5, vi n), (6, vi o), (9, pt 9), (20, pt 20), (22, AL (α := Feature) (gl ([b, e] : List (List Feature)) p.toNat)), (24, vi (gl ([a, l] : List Int) u.toNat)), (30, vi (gl ([i, (A - 1)] : List Int) B.toNat)), (96, AL (α := (List Feature)) ([b, e] : List (List Feature))), (97, vi ((List.length ([b, e] : List (List Feature)) : Nat) : Int)), (98, vi p), (105, AL (α := Int) ([a, l] : List Int)), (106, vi ((List.length ([a, l] : List Int) : Nat) : Int)), (107, vi u), (136, AL (α := Int) ([i, (A - 1)] : List Int)), (137, vi ((List.length ([i, (A - 1)] : List Int) : Nat) : Int)), (138, vi B)] [(9, bx [.d (DL m.rects_)]), (20, bx [.d (DL q.2.rects_)])] (cT U1) ?_
               refine AW.join (r := r) (fun z : Unit => law11_ZoneAnswers_k11 F b a i y e p l u A B o0) (fun z => [(2, vi a), (3, vi i), (4, vi y), (5, vi n), (6, vi o), (9, pt 9), (20, pt 20), (22, AL (α := Feature) (gl ([b, e] : List (List Feature)) p.toNat)), (24, vi (gl ([a, l] : List Int) u.toNat)), (30, vi (gl ([i, (A - 1)] : List Int) B.toNat)), (96, AL (α := (List Feature)) ([b, e] : List (List Feature))), (97, vi ((List.length ([b, e] : List (List Feature)) : Nat) : Int)), (98, vi p), (105, AL (α := Int) ([a, l] : List Int)), (106, vi ((List.length ([a, l] : List Int) : Nat) : Int)), (107, vi u), (136, AL (α := Int) ([i, (A - 1)] : List Int)), (137, vi ((List.length ([i, (A - 1)] : List Int) : Nat) : Int)), (138, vi B)]) (fun z => [(9, bx [.d (DL m.rects_)]), (20, bx [.d (DL q.2.rects_)])]) (fun z h => ?_) (fun b3 m1 => ?_)
               ·refine AW.seq ?_
                obtain ⟨M2, A2, h⟩ := bS h
                obtain ⟨X1, h⟩ := gS h
                obtain ⟨W, B2, h⟩ := bS h
                refine AW.G Fm [.s, .s, .k (cE [] [] (vi M2) [] []), .s, .s, .s, .k (cE [] [] (.t [.g [.d (DL W.1.rects_)], .c (ci W.2)]) [] []), .s, .s, .s, .s, .s, .s] (fun K => K 2 ∧ (_ ∧ True) ∧ K 6 ∧ True) [(2, vi a), (3, vi i), (4, vi y), (5, vi n), (6, vi o), (9, pt 9), (20, pt 20), (22, AL (α := Feature) (gl ([b, e] : List (List Feature)) p.toNat)), (24, vi (gl ([a, l] : List Int) u.toNat)), (30, vi (gl ([i, (A - 1)] : List Int) B.toNat)), (41, pt 41), (42, vi W.2), (96, AL (α := (List Feature)) ([b, e] : List (List Feature))), (97, vi ((List.length ([b, e] : List (List Feature)) : Nat) : Int)), (98, vi p), (105, AL (α := Int) ([a, l] : List Int)), (106, vi ((List.length ([a, l] : List Int) : Nat) : Int)), (107, vi u), (136, AL (α := Int) ([i, (A - 1)] : List Int)), (137, vi ((List.length ([i, (A - 1)] : List Int) : Nat) : Int)), (138, vi B)] [(9, bx [.d (DL m.rects_)]), (20, bx [.d (DL q.2.rects_)]), (41, bx [.d (DL W.1.rects_)])] ⟨KAt.CC (keep_Mod_spec A2) Tryz.call47 [], ⟨X1, ⟨⟩⟩, KAt.CC (zone_Buffer_spec B2) Tryz.call62 [], ⟨⟩⟩ ?_
                refine AW.seq ?_
                obtain ⟨N2, D2, h⟩ := bS h
                obtain ⟨Y1, h⟩ := gS h
                obtain ⟨b0, E2, h⟩ := bS h
                refine AW.G Fm [.s, .s, .k (cE [] [] (vi N2) [] []), .s, .s, .s, .k (cE [] [] (.t [.g [.d (DL b0.1.rects_)], .c (ci b0.2)]) [] []), .s, .s, .s, .s, .s, .s] (fun K => K 2 ∧ (_ ∧ True) ∧ K 6 ∧ True) [(2, vi a), (3, vi i), (4, vi y), (5, vi n), (6, vi o), (9, pt 9), (20, pt 20), (22, AL (α := Feature) (gl ([b, e] : List (List Feature)) p.toNat)), (24, vi (gl ([a, l] : List Int) u.toNat)), (41, pt 41), (42, vi W.2), (43, pt 43), (44, vi b0.2), (96, AL (α := (List Feature)) ([b, e] : List (List Feature))), (97, vi ((List.length ([b, e] : List (List Feature)) : Nat) : Int)), (98, vi p), (105, AL (α := Int) ([a, l] : List Int)), (106, vi ((List.length ([a, l] : List Int) : Nat) : Int)), (107, vi u), (136, AL (α := Int) ([i, (A - 1)] : List Int)), (137, vi ((List.length ([i, (A - 1)] : List Int) : Nat) : Int)), (138, vi B)] [(9, bx [.d (DL m.rects_)]), (20, bx [.d (DL q.2.rects_)]), (41, bx [.d (DL W.1.rects_)]), (43, bx [.d (DL b0.1.rects_)])] ⟨KAt.CC (keep_Mod_spec D2) Tryz.call47 [], ⟨Y1, ⟨⟩⟩, KAt.CC (ref11_Buffer_spec E2) Tryz.call63 [], ⟨⟩⟩ ?_
                refine AW.join (r := r) (fun z : Bool => law11_ZoneAnswers_k12 F B o0 z) (fun z => [(2, vi a), (3, vi i), (4, vi y), (5, vi n), (6, vi o), (9, pt 9), (20, pt 20), (22, AL (α := Feature) (gl ([b, e] : List (List Feature)) p.toNat)), (24, vi (gl ([a, l] : List Int) u.toNat)), (96, AL (α := (List Feature)) ([b, e] : List (List Feature))), (97, vi ((List.length ([b, e] : List (List Feature)) : Nat) : Int)), (98, vi p), (105, AL (α := Int) ([a, l] : List Int)), (106, vi ((List.length ([a, l] : List Int) : Nat) : Int)), (107, vi u), (136, AL (α := Int) ([i, (A - 1)] : List Int)), (137, vi ((List.length ([i, (A - 1)] : List Int) : Nat) : Int)), (138, vi B), (231, vb z)]) (fun z => [(9, bx [.d (DL m.rects_)]), (20, bx [.d (DL q.2.rects_)])]) (fun t3 h => ?_) (fun c3 K0 => ?_)
                ·refine AW.cN h (fun K1 h => ?_) (fun K1 h => ?_)
                 ·refine AW.SG0 Fm 1 [(16, vb false)] [] ?_
                  refine AW.ret ?_
                  obtain rfl := Option.some.inj h
                  exact Kn.D Fm
                 ·exact AW.skip (Kn.R Fm (n1 () h))
                ·obtain ⟨X0, O0, h⟩ := bS h
                 rcases br_or h with ⟨u0, h⟩ | ⟨u0, h⟩
                 ·refine AW.G Fm [.s, .s, .k (cE [] [] (vb X0) [] []), .s, .w (vb true), .s, .s, .s, .s] (fun K => K 2 ∧ _ ∧ True) [(2, vi a), (3, vi i), (4, vi y), (5, vi n), (6, vi o), (9, pt 9), (20, pt 20), (22, AL (α := Feature) (gl ([b, e] : List (List Feature)) p.toNat)), (24, vi (gl ([a, l] : List Int) u.toNat)), (96, AL (α := (List Feature)) ([b, e] : List (List Feature))), (97, vi ((List.length ([b, e] : List (List Feature)) : Nat) : Int)), (98, vi p), (105, AL (α := Int) ([a, l] : List Int)), (106, vi ((List.length ([a, l] : List Int) : Nat) : Int)), (107, vi u), (136, AL (α := Int) ([i, (A - 1)] : List Int)), (137, vi ((List.length ([i, (A - 1)] : List Int) : Nat) : Int)), (138, vi B), (231, vb true)] [(9, bx [.d (DL m.rects_)]), (20, bx [.d (DL q.2.rects_)])] ⟨KAt.CC (ref04_Same_spec O0) Tryz.call42 [], ALe.bool u0, ⟨⟩⟩ ?_
                  exact Kn.R Fm (K0 true h)
                 ·refine AW.G Fm [.s, .s, .k (cE [] [] (vb X0) [] []), .s, .w (vb false), .s, .s, .s, .s] (fun K => K 2 ∧ _ ∧ True) [(2, vi a), (3, vi i), (4, vi y), (5, vi n), (6, vi o), (9, pt 9), (20, pt 20), (22, AL (α := Feature) (gl ([b, e] : List (List Feature)) p.toNat)), (24, vi (gl ([a, l] : List Int) u.toNat)), (96, AL (α := (List Feature)) ([b, e] : List (List Feature))), (97, vi ((List.length ([b, e] : List (List Feature)) : Nat) : Int)), (98, vi p), (105, AL (α := Int) ([a, l] : List Int)), (106, vi ((List.length ([a, l] : List Int) : Nat) : Int)), (107, vi u), (136, AL (α := Int) ([i, (A - 1)] : List Int)), (137, vi ((List.length ([i, (A - 1)] : List Int) : Nat) : Int)), (138, vi B), (228, vi W.2), (229, vi b0.2), (230, vb (W.2 != b0.2)), (231, vb (W.2 != b0.2))] [(9, bx [.d (DL m.rects_)]), (20, bx [.d (DL q.2.rects_)])] ⟨KAt.CC (ref04_Same_spec O0) Tryz.call42 [], ALe.bool u0, ⟨⟩⟩ ?_
                  exact Kn.R Fm (K0 (W.2 != b0.2) h)
               ·refine AW.SP Fm [.s, .s, .w (AL (α := Region) ([m, q.2] : List Region)), .s, .s] [(2, vi a), (3, vi i), (4, vi y), (5, vi n), (6, vi o), (9, pt 9), (20, pt 20), (22, AL (α := Feature) (gl ([b, e] : List (List Feature)) p.toNat)), (24, vi (gl ([a, l] : List Int) u.toNat)), (30, vi (gl ([i, (A - 1)] : List Int) B.toNat)), (96, AL (α := (List Feature)) ([b, e] : List (List Feature))), (97, vi ((List.length ([b, e] : List (List Feature)) : Nat) : Int)), (98, vi p), (105, AL (α := Int) ([a, l] : List Int)), (106, vi ((List.length ([a, l] : List Int) : Nat) : Int)), (107, vi u), (136, AL (α := Int) ([i, (A - 1)] : List Int)), (137, vi ((List.length ([i, (A - 1)] : List Int) : Nat) : Int)), (138, vi B), (144, AL (α := Region) ([m, q.2] : List Region)), (145, vi ((List.length ([m, q.2] : List Region) : Nat) : Int)), (146, vi 0)] [(9, bx [.d (DL m.rects_)]), (20, bx [.d (DL q.2.rects_)])] (cT (ALe.lst (.lit ([m, q.2] : List Region) (by kernel_rfl)) : ALe (.v (.c (.d (.lst 2 (litF 1 [DL m.rects_, DL q.2.rects_]))))) (AL (α := Region) ([m, q.2] : List Region)))) ?_
                refine AW.block (AW.loopF (E' := fun z => [(2, vi a), (3, vi i), (4, vi y), (5, vi n), (6, vi o), (9, pt 9), (20, pt 20), (22, AL (α := Feature) (gl ([b, e] : List (List Feature)) p.toNat)), (24, vi (gl ([a, l] : List Int) u.toNat)), (30, vi (gl ([i, (A - 1)] : List Int) B.toNat)), (96, AL (α := (List Feature)) ([b, e] : List (List Feature))), (97, vi ((List.length ([b, e] : List (List Feature)) : Nat) : Int)), (98, vi p), (105, AL (α := Int) ([a, l] : List Int)), (106, vi ((List.length ([a, l] : List Int) : Nat) : Int)), (107, vi u), (136, AL (α := Int) ([i, (A - 1)] : List Int)), (137, vi ((List.length ([i, (A - 1)] : List Int) : Nat) : Int)), (138, vi B), (144, AL (α := Region) ([m, q.2] : List Region)), (145, vi ((List.length ([m, q.2] : List Region) : Nat) : Int)), (146, vi z)]) (S' := fun z => [(9, bx [.d (DL m.rects_)]), (20, bx [.d (DL q.2.rects_)])]) (fun c1 L Z2 l1 h => ?_) h)
                refine AW.SG0 Fm 1 [(2, vi a), (3, vi i), (4, vi y), (5, vi n), (6, vi o), (9, pt 9), (20, pt 20), (22, AL (α := Feature) (gl ([b, e] : List (List Feature)) p.toNat)), (24, vi (gl ([a, l] : List Int) u.toNat)), (30, vi (gl ([i, (A - 1)] : List Int) B.toNat)), (96, AL (α := (List Feature)) ([b, e] : List (List Feature))), (97, vi ((List.length ([b, e] : List (List Feature)) : Nat) : Int)), (98, vi p), (105, AL (α := Int) ([a, l] : List Int)), (106, vi ((List.length ([a, l] : List Int) : Nat) : Int)), (107, vi u), (136, AL (α := Int) ([i, (A - 1)] : List Int)), (137, vi ((List.length ([i, (A - 1)] : List Int) : Nat) : Int)), (138, vi B), (144, AL (α := Region) ([m, q.2] : List Region)), (145, vi ((List.length ([m, q.2] : List Region) : Nat) : Int)), (146, vi L), (147, vb (decide (L < ((List.length ([m, q.2] : List Region) : Nat) : Int))))] [(9, bx [.d (DL m.rects_)]), (20, bx [.d (DL q.2.rects_)])] ?_
                refine AW.seq (AW.cN h (fun H1 h => ?_) (fun H1 h => ?_))
                ·refine AW.skip (AW.seq (AW.block ?_))
                 obtain ⟨V1, h⟩ := gS h
                 refine AW.SP Fm [.s, .s, .s, .s] [(2, vi a), (3, vi i), (4, vi y), (5, vi n), (6, vi o), (9, pt 9), (20, pt 20), (22, AL (α := Feature) (gl ([b, e] : List (List Feature)) p.toNat)), (24, vi (gl ([a, l] : List Int) u.toNat)), (30, vi (gl ([i, (A - 1)] : List Int) B.toNat)), (32, pt 32), (96, AL (α := (List Feature)) ([b, e] : List (List Feature))), (97, vi ((List.length ([b, e] : List (List Feature)) : Nat) : Int)), (98, vi p), (105, AL (α := Int) ([a, l] : List Int)), (106, vi ((List.length ([a, l] : List Int) : Nat) : Int)), (107, vi u), (136, AL (α := Int) ([i, (A - 1)] : List Int)), (137, vi ((List.length ([i, (A - 1)] : List Int) : Nat) : Int)), (138, vi B), (144, AL (α := Region) ([m, q.2] : List Region)), (145, vi ((List.length ([m, q.2] : List Region) : Nat) : Int)), (146, vi L)] [(9, bx [.d (DL m.rects_)]), (20, bx [.d (DL q.2.rects_)]), (32, bx [.d (DL (α := Rect) (gl ([m, q.2] : List Region) L.toNat).rects_)])] (cT V1) ?_
                 refine AW.seq ?_
                 obtain ⟨M, t2, h⟩ := bS h
                 refine AW.G Fm [.s, .s, .s, .s, .k (cE [] [] (.t [.g [.d (DL M.1.rects_)], .c (ci M.2)]) [] []), .s, .s, .s, .s, .s, .s] (fun K => K 4 ∧ True) [(2, vi a), (3, vi i), (4, vi y), (5, vi n), (6, vi o), (9, pt 9), (20, pt 20), (22, AL (α := Feature) (gl ([b, e] : List (List Feature)) p.toNat)), (24, vi (gl ([a, l] : List Int) u.toNat)), (30, vi (gl ([i, (A - 1)] : List Int) B.toNat)), (32, pt 32), (33, pt 33), (34, vi M.2), (96, AL (α := (List Feature)) ([b, e] : List (List Feature))), (97, vi ((List.length ([b, e] : List (List Feature)) : Nat) : Int)), (98, vi p), (105, AL (α := Int) ([a, l] : List Int)), (106, vi ((List.length ([a, l] : List Int) : Nat) : Int)), (107, vi u), (136, AL (α := Int) ([i, (A - 1)] : List Int)), (137, vi ((List.length ([i, (A - 1)] : List Int) : Nat) : Int)), (138, vi B), (144, AL (α := Region) ([m, q.2] : List Region)), (145, vi ((List.length ([m, q.2] : List Region) : Nat) : Int)), (146, vi L)] [(9, bx [.d (DL m.rects_)]), (20, bx [.d (DL q.2.rects_)]), (32, bx [.d (DL (α := Rect) (gl ([m, q.2] : List Region) L.toNat).rects_)]), (33, bx [.d (DL M.1.rects_)])] ⟨KAt.CC (zone_Soft_spec t2) Tryz.call58 [], ⟨⟩⟩ ?_
                 refine AW.seq ?_
                 obtain ⟨P, u2, h⟩ := bS h
                 refine AW.G Fm [.s, .s, .s, .s, .k (cE [] [] (.t [.g [.d (DL P.1.rects_)], .c (ci P.2)]) [] []), .s, .s, .s, .s, .s, .s] (fun K => K 4 ∧ True) [(2, vi a), (3, vi i), (4, vi y), (5, vi n), (6, vi o), (9, pt 9), (20, pt 20), (22, AL (α := Feature) (gl ([b, e] : List (List Feature)) p.toNat)), (24, vi (gl ([a, l] : List Int) u.toNat)), (30, vi (gl ([i, (A - 1)] : List Int) B.toNat)), (32, pt 32), (33, pt 33), (34, vi M.2), (35, pt 35), (36, vi P.2), (96, AL (α := (List Feature)) ([b, e] : List (List Feature))), (97, vi ((List.length ([b, e] : List (List Feature)) : Nat) : Int)), (98, vi p), (105, AL (α := Int) ([a, l] : List Int)), (106, vi ((List.length ([a, l] : List Int) : Nat) : Int)), (107, vi u), (136, AL (α := Int) ([i, (A - 1)] : List Int)), (137, vi ((List.length ([i, (A - 1)] : List Int) : Nat) : Int)), (138, vi B), (144, AL (α := Region) ([m, q.2] : List Region)), (145, vi ((List.length ([m, q.2] : List Region) : Nat) : Int)), (146, vi L)] [(9, bx [.d (DL m.rects_)]), (20, bx [.d (DL q.2.rects_)]), (32, bx [.d (DL (α := Rect) (gl ([m, q.2] : List Region) L.toNat).rects_)]), (33, bx [.d (DL M.1.rects_)]), (35, bx [.d (DL P.1.rects_)])] ⟨KAt.CC (ref11_Soft_spec u2) Tryz.call59 [], ⟨⟩⟩ ?_
                 refine AW.seq ?_
                 obtain ⟨T, w2, h⟩ := bS h
                 refine AW.G Fm [.s, .s, .s, .s, .k (cE [] [] (.t [.g [.d (DL T.1.rects_)], .c (ci T.2)]) [] []), .s, .s, .s, .s, .s, .s] (fun K => K 4 ∧ True) [(2, vi a), (3, vi i), (4, vi y), (5, vi n), (6, vi o), (9, pt 9), (20, pt 20), (22, AL (α := Feature) (gl ([b, e] : List (List Feature)) p.toNat)), (24, vi (gl ([a, l] : List Int) u.toNat)), (30, vi (gl ([i, (A - 1)] : List Int) B.toNat)), (32, pt 32), (33, pt 33), (34, vi M.2), (35, pt 35), (36, vi P.2), (37, pt 37), (38, vi T.2), (96, AL (α := (List Feature)) ([b, e] : List (List Feature))), (97, vi ((List.length ([b, e] : List (List Feature)) : Nat) : Int)), (98, vi p), (105, AL (α := Int) ([a, l] : List Int)), (106, vi ((List.length ([a, l] : List Int) : Nat) : Int)), (107, vi u), (136, AL (α := Int) ([i, (A - 1)] : List Int)), (137, vi ((List.length ([i, (A - 1)] : List Int) : Nat) : Int)), (138, vi B), (144, AL (α := Region) ([m, q.2] : List Region)), (145, vi ((List.length ([m, q.2] : List Region) : Nat) : Int)), (146, vi L)] [(9, bx [.d (DL m.rects_)]), (20, bx [.d (DL q.2.rects_)]), (32, bx [.d (DL (α := Rect) (gl ([m, q.2] : List Region) L.toNat).rects_)]), (33, bx [.d (DL M.1.rects_)]), (35, bx [.d (DL P.1.rects_)]), (37, bx [.d (DL T.1.rects_)])] ⟨KAt.CC (zone_Eligible_spec w2) Tryz.call60 [], ⟨⟩⟩ ?_
                 refine AW.seq ?_
                 obtain ⟨V, y2, h⟩ := bS h
                 refine AW.G Fm [.s, .s, .s, .s, .k (cE [] [] (.t [.g [.d (DL V.1.rects_)], .c (ci V.2)]) [] []), .s, .s, .s, .s, .s, .s] (fun K => K 4 ∧ True) [(2, vi a), (3, vi i), (4, vi y), (5, vi n), (6, vi o), (9, pt 9), (20, pt 20), (22, AL (α := Feature) (gl ([b, e] : List (List Feature)) p.toNat)), (24, vi (gl ([a, l] : List Int) u.toNat)), (30, vi (gl ([i, (A - 1)] : List Int) B.toNat)), (33, pt 33), (34, vi M.2), (35, pt 35), (36, vi P.2), (37, pt 37), (38, vi T.2), (39, pt 39), (40, vi V.2), (96, AL (α := (List Feature)) ([b, e] : List (List Feature))), (97, vi ((List.length ([b, e] : List (List Feature)) : Nat) : Int)), (98, vi p), (105, AL (α := Int) ([a, l] : List Int)), (106, vi ((List.length ([a, l] : List Int) : Nat) : Int)), (107, vi u), (136, AL (α := Int) ([i, (A - 1)] : List Int)), (137, vi ((List.length ([i, (A - 1)] : List Int) : Nat) : Int)), (138, vi B), (144, AL (α := Region) ([m, q.2] : List Region)), (145, vi ((List.length ([m, q.2] : List Region) : Nat) : Int)), (146, vi L)] [(9, bx [.d (DL m.rects_)]), (20, bx [.d (DL q.2.rects_)]), (33, bx [.d (DL M.1.rects_)]), (35, bx [.d (DL P.1.rects_)]), (37, bx [.d (DL T.1.rects_)]), (39, bx [.d (DL V.1.rects_)])] ⟨KAt.CC (ref11_Eligible_spec y2) Tryz.call61 [], ⟨⟩⟩ ?_
                 refine AW.join (r := r) (fun z : Bool => law11_ZoneAnswers_k10 F L c1 z) (fun z => [(2, vi a), (3, vi i), (4, vi y), (5, vi n), (6, vi o), (9, pt 9), (20, pt 20), (22, AL (α := Feature) (gl ([b, e] : List (List Feature)) p.toNat)), (24, vi (gl ([a, l] : List Int) u.toNat)), (30, vi (gl ([i, (A - 1)] : List Int) B.toNat)), (96, AL (α := (List Feature)) ([b, e] : List (List Feature))), (97, vi ((List.length ([b, e] : List (List Feature)) : Nat) : Int)), (98, vi p), (105, AL (α := Int) ([a, l] : List Int)), (106, vi ((List.length ([a, l] : List Int) : Nat) : Int)), (107, vi u), (136, AL (α := Int) ([i, (A - 1)] : List Int)), (137, vi ((List.length ([i, (A - 1)] : List Int) : Nat) : Int)), (138, vi B), (144, AL (α := Region) ([m, q.2] : List Region)), (145, vi ((List.length ([m, q.2] : List Region) : Nat) : Int)), (146, vi L), (201, vb z)]) (fun z => [(9, bx [.d (DL m.rects_)]), (20, bx [.d (DL q.2.rects_)])]) (fun s3 h => ?_) (fun a3 j0 => ?_)
                 ·refine AW.cN h (fun I1 h => ?_) (fun I1 h => ?_)
                  ·refine AW.SG0 Fm 1 [(16, vb false)] [] ?_
                   refine AW.ret ?_
                   obtain rfl := Option.some.inj h
                   exact Kn.D Fm
                  ·refine AW.skip ?_
                   obtain ⟨W1, h⟩ := gS h
                   refine AW.pN Fm [.s, .s] [(2, vi a), (3, vi i), (4, vi y), (5, vi n), (6, vi o), (9, pt 9), (20, pt 20), (22, AL (α := Feature) (gl ([b, e] : List (List Feature)) p.toNat)), (24, vi (gl ([a, l] : List Int) u.toNat)), (30, vi (gl ([i, (A - 1)] : List Int) B.toNat)), (96, AL (α := (List Feature)) ([b, e] : List (List Feature))), (97, vi ((List.length ([b, e] : List (List Feature)) : Nat) : Int)), (98, vi p), (105, AL (α := Int) ([a, l] : List Int)), (106, vi ((List.length ([a, l] : List Int) : Nat) : Int)), (107, vi u), (136, AL (α := Int) ([i, (A - 1)] : List Int)), (137, vi ((List.length ([i, (A - 1)] : List Int) : Nat) : Int)), (138, vi B), (144, AL (α := Region) ([m, q.2] : List Region)), (145, vi ((List.length ([m, q.2] : List Region) : Nat) : Int)), (146, vi (L + 1))] [(9, bx [.d (DL m.rects_)]), (20, bx [.d (DL q.2.rects_)])] (cT (cT W1)) ?_
                   exact Kn.R Fm (l1 (L + 1) h)
                 ·obtain ⟨m0, l0, h⟩ := bS h
                  rcases br_or h with ⟨i0, h⟩ | ⟨i0, h⟩
                  ·refine AW.G Fm [.s, .s, .k (cE [] [] (vb m0) [] []), .s, .w (vb true), .s, .s, .s, .s, .s, .s, .s, .s, .s, .s, .s, .s, .s, .s, .s] (fun K => K 2 ∧ _ ∧ True) [(2, vi a), (3, vi i), (4, vi y), (5, vi n), (6, vi o), (9, pt 9), (20, pt 20), (22, AL (α := Feature) (gl ([b, e] : List (List Feature)) p.toNat)), (24, vi (gl ([a, l] : List Int) u.toNat)), (30, vi (gl ([i, (A - 1)] : List Int) B.toNat)), (96, AL (α := (List Feature)) ([b, e] : List (List Feature))), (97, vi ((List.length ([b, e] : List (List Feature)) : Nat) : Int)), (98, vi p), (105, AL (α := Int) ([a, l] : List Int)), (106, vi ((List.length ([a, l] : List Int) : Nat) : Int)), (107, vi u), (136, AL (α := Int) ([i, (A - 1)] : List Int)), (137, vi ((List.length ([i, (A - 1)] : List Int) : Nat) : Int)), (138, vi B), (144, AL (α := Region) ([m, q.2] : List Region)), (145, vi ((List.length ([m, q.2] : List Region) : Nat) : Int)), (146, vi L), (201, vb true)] [(9, bx [.d (DL m.rects_)]), (20, bx [.d (DL q.2.rects_)])] ⟨KAt.CC (ref04_Same_spec l0) Tryz.call42 [], ALe.bool i0, ⟨⟩⟩ ?_
                   exact Kn.R Fm (j0 true h)
                  ·rcases br_or h with ⟨k0, h⟩ | ⟨k0, h⟩
                   ·refine AW.G Fm [.s, .s, .k (cE [] [] (vb m0) [] []), .s, .w (vb false), .s, .s, .s, .s, .w (vb true), .s, .s, .s, .s, .s, .s, .s, .s, .s, .s] (fun K => K 2 ∧ _ ∧ _ ∧ True) [(2, vi a), (3, vi i), (4, vi y), (5, vi n), (6, vi o), (9, pt 9), (20, pt 20), (22, AL (α := Feature) (gl ([b, e] : List (List Feature)) p.toNat)), (24, vi (gl ([a, l] : List Int) u.toNat)), (30, vi (gl ([i, (A - 1)] : List Int) B.toNat)), (96, AL (α := (List Feature)) ([b, e] : List (List Feature))), (97, vi ((List.length ([b, e] : List (List Feature)) : Nat) : Int)), (98, vi p), (105, AL (α := Int) ([a, l] : List Int)), (106, vi ((List.length ([a, l] : List Int) : Nat) : Int)), (107, vi u), (136, AL (α := Int) ([i, (A - 1)] : List Int)), (137, vi ((List.length ([i, (A - 1)] : List Int) : Nat) : Int)), (138, vi B), (144, AL (α := Region) ([m, q.2] : List Region)), (145, vi ((List.length ([m, q.2] : List Region) : Nat) : Int)), (146, vi L), (187, vi M.2), (188, vi P.2), (189, vb (M.2 != P.2)), (201, vb true)] [(9, bx [.d (DL m.rects_)]), (20, bx [.d (DL q.2.rects_)])] ⟨KAt.CC (ref04_Same_spec l0) Tryz.call42 [], ALe.bool i0, ALe.bool k0, ⟨⟩⟩ ?_
                    exact Kn.R Fm (j0 true h)
                   ·obtain ⟨e0, N0, h⟩ := bS h
                    rcases br_or h with ⟨t0, h⟩ | ⟨t0, h⟩
                    ·refine AW.G Fm [.s, .s, .k (cE [] [] (vb m0) [] []), .s, .w (vb false), .s, .s, .s, .s, .w (vb false), .s, .s, .k (cE [] [] (vb e0) [] []), .s, .s, .w (vb true), .s, .s, .s, .s] (fun K => K 2 ∧ _ ∧ _ ∧ K 12 ∧ _ ∧ True) [(2, vi a), (3, vi i), (4, vi y), (5, vi n), (6, vi o), (9, pt 9), (20, pt 20), (22, AL (α := Feature) (gl ([b, e] : List (List Feature)) p.toNat)), (24, vi (gl ([a, l] : List Int) u.toNat)), (30, vi (gl ([i, (A - 1)] : List Int) B.toNat)), (96, AL (α := (List Feature)) ([b, e] : List (List Feature))), (97, vi ((List.length ([b, e] : List (List Feature)) : Nat) : Int)), (98, vi p), (105, AL (α := Int) ([a, l] : List Int)), (106, vi ((List.length ([a, l] : List Int) : Nat) : Int)), (107, vi u), (136, AL (α := Int) ([i, (A - 1)] : List Int)), (137, vi ((List.length ([i, (A - 1)] : List Int) : Nat) : Int)), (138, vi B), (144, AL (α := Region) ([m, q.2] : List Region)), (145, vi ((List.length ([m, q.2] : List Region) : Nat) : Int)), (146, vi L), (187, vi M.2), (188, vi P.2), (189, vb (M.2 != P.2)), (192, .v (.g [.d (DL T.1.rects_)])), (193, .v (.g [.d (DL V.1.rects_)])), (194, vb e0), (195, vb (!e0)), (201, vb true)] [(9, bx [.d (DL m.rects_)]), (20, bx [.d (DL q.2.rects_)])] ⟨KAt.CC (ref04_Same_spec l0) Tryz.call42 [], ALe.bool i0, ALe.bool k0, KAt.CC (ref04_Same_spec N0) Tryz.call42 [], ALe.bool t0, ⟨⟩⟩ ?_
                     exact Kn.R Fm (j0 true h)
                    ·refine AW.G Fm [.s, .s, .k (cE [] [] (vb m0) [] []), .s, .w (vb false), .s, .s, .s, .s, .w (vb false), .s, .s, .k (cE [] [] (vb e0) [] []), .s, .s, .w (vb false), .s, .s, .s, .s] (fun K => K 2 ∧ _ ∧ _ ∧ K 12 ∧ _ ∧ True) [(2, vi a), (3, vi i), (4, vi y), (5, vi n), (6, vi o), (9, pt 9), (20, pt 20), (22, AL (α := Feature) (gl ([b, e] : List (List Feature)) p.toNat)), (24, vi (gl ([a, l] : List Int) u.toNat)), (30, vi (gl ([i, (A - 1)] : List Int) B.toNat)), (96, AL (α := (List Feature)) ([b, e] : List (List Feature))), (97, vi ((List.length ([b, e] : List (List Feature)) : Nat) : Int)), (98, vi p), (105, AL (α := Int) ([a, l] : List Int)), (106, vi ((List.length ([a, l] : List Int) : Nat) : Int)), (107, vi u), (136, AL (α := Int) ([i, (A - 1)] : List Int)), (137, vi ((List.length ([i, (A - 1)] : List Int) : Nat) : Int)), (138, vi B), (144, AL (α := Region) ([m, q.2] : List Region)), (145, vi ((List.length ([m, q.2] : List Region) : Nat) : Int)), (146, vi L), (187, vi M.2), (188, vi P.2), (189, vb (M.2 != P.2)), (192, .v (.g [.d (DL T.1.rects_)])), (193, .v (.g [.d (DL V.1.rects_)])), (194, vb e0), (195, vb (!e0)), (198, vi T.2), (199, vi V.2), (200, vb (T.2 != V.2)), (201, vb (T.2 != V.2))] [(9, bx [.d (DL m.rects_)]), (20, bx [.d (DL q.2.rects_)])] ⟨KAt.CC (ref04_Same_spec l0) Tryz.call42 [], ALe.bool i0, ALe.bool k0, KAt.CC (ref04_Same_spec N0) Tryz.call42 [], ALe.bool t0, ⟨⟩⟩ ?_
                     exact Kn.R Fm (j0 (T.2 != V.2) h)
                ·exact AW.exit (Kn.R Fm (m1 () h))
             ·exact AW.exit (Kn.R Fm (o1 () h))
          ·obtain ⟨W0, M0, h⟩ := bS h
           rcases br_or h with ⟨s0, h⟩ | ⟨s0, h⟩
           ·refine AW.G Fm [.s, .s, .k (cE [] [] (vb W0) [] []), .s, .w (vb true), .s, .s, .s, .s] (fun K => K 2 ∧ _ ∧ True) [(2, vi a), (3, vi i), (4, vi y), (5, vi n), (6, vi o), (9, pt 9), (20, pt 20), (22, AL (α := Feature) (gl ([b, e] : List (List Feature)) p.toNat)), (24, vi (gl ([a, l] : List Int) u.toNat)), (96, AL (α := (List Feature)) ([b, e] : List (List Feature))), (97, vi ((List.length ([b, e] : List (List Feature)) : Nat) : Int)), (98, vi p), (105, AL (α := Int) ([a, l] : List Int)), (106, vi ((List.length ([a, l] : List Int) : Nat) : Int)), (107, vi u), (131, vb true)] [(9, bx [.d (DL m.rects_)]), (20, bx [.d (DL q.2.rects_)])] ⟨KAt.CC (ref04_Same_spec M0) Tryz.call42 [], ALe.bool s0, ⟨⟩⟩ ?_
            exact Kn.R Fm (I0 true h)
           ·refine AW.G Fm [.s, .s, .k (cE [] [] (vb W0) [] []), .s, .w (vb false), .s, .s, .s, .s] (fun K => K 2 ∧ _ ∧ True) [(2, vi a), (3, vi i), (4, vi y), (5, vi n), (6, vi o), (9, pt 9), (20, pt 20), (22, AL (α := Feature) (gl ([b, e] : List (List Feature)) p.toNat)), (24, vi (gl ([a, l] : List Int) u.toNat)), (96, AL (α := (List Feature)) ([b, e] : List (List Feature))), (97, vi ((List.length ([b, e] : List (List Feature)) : Nat) : Int)), (98, vi p), (105, AL (α := Int) ([a, l] : List Int)), (106, vi ((List.length ([a, l] : List Int) : Nat) : Int)), (107, vi u), (128, vi U.2), (129, vi a0.2), (130, vb (U.2 != a0.2)), (131, vb (U.2 != a0.2))] [(9, bx [.d (DL m.rects_)]), (20, bx [.d (DL q.2.rects_)])] ⟨KAt.CC (ref04_Same_spec M0) Tryz.call42 [], ALe.bool s0, ⟨⟩⟩ ?_
            exact Kn.R Fm (I0 (U.2 != a0.2) h)
        ·exact AW.exit (Kn.R Fm (s1 () h))
      ·exact AW.exit (Kn.R Fm (t1 () h))
    ·refine AW.join (r := r) (fun z : Bool × (List Int) × Int => law11_ZoneAnswers_k3 F b m a i y n o E z.1 z.2.1 z.2.2) (fun z => [(0, AL b), (2, vi a), (3, vi i), (4, vi y), (5, vi n), (6, vi o), (9, pt 9), (18, pt 77), (19, ow 79), (86, vb z.1)]) (fun z => [(9, bx [.d (DL m.rects_)]), (77, bx [.d (DL z.2.1), ci z.2.2]), (79, AO E.2)]) (fun z h => ?_) (fun T2 G0 => ?_)
     ·obtain ⟨p3, A0, B0⟩ := z
      refine AW.cN h (fun A1 h => ?_) (fun A1 h => ?_)
      ·obtain ⟨Y, m2, h⟩ := bS h
       obtain ⟨y0, h⟩ := gS h
       refine AW.GW Fm [.s, .s, .k (cE [(0, 77)] [] (.v (.g [.d (DL Y.2.rects_)])) [(0, bx [.d (DL (α := Int) (⟨A0, B0⟩ : Tape).l_), ci ((⟨A0, B0⟩ : Tape).at_)])] [(0, bx (gC Y.1))]), .s, .s, .s] (fun K => K 2 ∧ _ ∧ _ ∧ True) [(0, AL b), (2, vi a), (3, vi i), (4, vi y), (5, vi n), (6, vi o), (9, pt 9), (18, pt 77), (19, ow 79)] [(9, bx [.d (DL m.rects_)]), (77, bx (gC Y.1)), (79, AO (α := Feature) (List.set E.2 (0 : Int).toNat (⟨(gl E.2 (0 : Int).toNat).number_, (gl E.2 (0 : Int).toNat).kind_, (gl E.2 (0 : Int).toNat).from_, (gl E.2 (0 : Int).toNat).until_, Y.2⟩ : Feature)))] ⟨KAt.CC (keep_Tape_Broken_spec m2) Tryz.call46 [(0, 77)], y0, (toNat_lt y0), ⟨⟩⟩ [(79, .arr 5 (List.length (α := Feature) E.2) (fun j => if j = (0 : Int).toNat then splice ((LF (α := Feature) E.2) (0 : Int).toNat) 4 [DL Y.2.rects_] else (LF (α := Feature) E.2) j))] ⟨OLe.is (Is.set (Is.refl E.2) (toNat_lt y0) (⟨(gl E.2 (0 : Int).toNat).number_, (gl E.2 (0 : Int).toNat).kind_, (gl E.2 (0 : Int).toNat).from_, (gl E.2 (0 : Int).toNat).until_, Y.2⟩ : Feature) (by kernel_rfl)), ⟨⟩⟩ ?_
       exact Kn.R Fm (H0 (Y.1.l_, Y.1.at_, (List.set E.2 (0 : Int).toNat (⟨(gl E.2 (0 : Int).toNat).number_, (gl E.2 (0 : Int).toNat).kind_, (gl E.2 (0 : Int).toNat).from_, (gl E.2 (0 : Int).toNat).until_, Y.2⟩ : Feature))) h)
      ·exact AW.skip (Kn.R Fm (H0 (A0, B0, E.2) h))
     ·rcases br_or h with ⟨q0, h⟩ | ⟨q0, h⟩
      ·obtain ⟨d0, l2, h⟩ := bS h
       refine AW.G Fm [.s, .s, .s, .w (vb true), .s, .k (cE [(0, 77)] [] (vb d0.2) [(0, bx (gC E.1))] [(0, bx (gC d0.1))]), .s] (fun K => _ ∧ K 5 ∧ True) [(0, AL b), (2, vi a), (3, vi i), (4, vi y), (5, vi n), (6, vi o), (9, pt 9), (18, pt 77), (19, ow 79), (86, vb d0.2)] [(9, bx [.d (DL m.rects_)]), (77, bx (gC d0.1)), (79, AO E.2)] ⟨ALe.bool q0, KAt.CC (keep_Tape_One_spec l2) Tryz.call44 [(0, 77)], ⟨⟩⟩ ?_
       exact Kn.R Fm (G0 (d0.2, d0.1.l_, d0.1.at_) h)
      ·refine AW.pN Fm [.s, .s, .s, .w (vb false), .s, .s, .s] [(0, AL b), (2, vi a), (3, vi i), (4, vi y), (5, vi n), (6, vi o), (9, pt 9), (18, pt 77), (19, ow 79), (86, vb false)] [(9, bx [.d (DL m.rects_)]), (77, bx (gC E.1)), (79, AO E.2)] (cT (ALe.bool q0)) ?_
       exact Kn.R Fm (G0 (false, E.1.l_, E.1.at_) h)
   ·refine AW.SG0 Fm 3 [(0, AL b), (2, vi a), (3, vi i), (4, vi y), (5, vi n), (6, vi o), (7, AL O), (9, pt 9), (62, vi (lI b)), (63, vi 0)] [(9, bx [.d (DL m.rects_)])] ?_
    refine AW.block (AW.loopF (E' := fun z => [(0, AL b), (2, vi a), (3, vi i), (4, vi y), (5, vi n), (6, vi o), (7, AL O), (9, pt 9), (62, vi (lI b)), (63, vi z)]) (S' := fun z => [(9, bx [.d (DL m.rects_)])]) (fun n3 Z P2 d1 h => ?_) h)
    refine AW.SG0 Fm 1 [(0, AL b), (2, vi a), (3, vi i), (4, vi y), (5, vi n), (6, vi o), (7, AL O), (9, pt 9), (62, vi (lI b)), (63, vi Z), (64, vb (decide (Z < (lI b))))] [(9, bx [.d (DL m.rects_)])] ?_
    refine AW.seq (AW.cN h (fun w1 h => ?_) (fun w1 h => ?_))
    ·refine AW.skip (AW.seq (AW.block (AW.SG0 Fm 2 [(0, AL b), (2, vi a), (3, vi i), (4, vi y), (5, vi n), (6, vi o), (7, AL O), (9, pt 9), (17, vi Z), (62, vi (lI b)), (63, vi Z)] [(9, bx [.d (DL m.rects_)])] ?_)))
     obtain ⟨N1, h⟩ := gS h
     refine AW.SP Fm [.s, .s, .s, .s, .s, .s, .s, .s] [(0, AL b), (2, vi a), (3, vi i), (4, vi y), (5, vi n), (6, vi o), (7, AL O), (9, pt 9), (62, vi (lI b)), (63, vi Z), (73, vb (decide ((5 : Int) < (lI ((gl b Z.toNat).region_.rects_)))))] [(9, bx [.d (DL m.rects_)])] (cT N1) ?_
     refine AW.cN h (fun y1 h => ?_) (fun y1 h => ?_)
     ·refine AW.seq ?_
      obtain ⟨V0, i2, h⟩ := bS h
      refine AW.G Fm [.k (cE [] [] (vb V0) [] []), .s] (fun K => K 0 ∧ True) [(16, vb V0)] [] ⟨KAt.CC (law11_awake_spec i2) Tryz.call54 [], ⟨⟩⟩ ?_
      refine AW.ret ?_
      obtain rfl := Option.some.inj h
      exact Kn.D Fm
     ·refine AW.skip ?_
      obtain ⟨O1, h⟩ := gS h
      refine AW.pN Fm [.s, .s] [(0, AL b), (2, vi a), (3, vi i), (4, vi y), (5, vi n), (6, vi o), (7, AL O), (9, pt 9), (62, vi (lI b)), (63, vi (Z + 1))] [(9, bx [.d (DL m.rects_)])] (cT (cT O1)) ?_
      exact Kn.R Fm (d1 (Z + 1) h)
    ·exact AW.exit (Kn.R Fm (e1 () h))
 ·rcases br_or h with ⟨p0, h⟩ | ⟨p0, h⟩
  ·refine AW.pN Fm [.s, .s, .s, .w (vb true), .s, .s, .s, .s, .s] [(0, AL b), (2, vi a), (3, vi i), (4, vi y), (5, vi n), (6, vi o), (7, AL O), (9, pt 9), (59, vb true)] [(9, bx [.d (DL m.rects_)])] (cT (ALe.bool p0)) ?_
   exact Kn.R Fm (E0 true h)
  ·refine AW.pN Fm [.s, .s, .s, .w (vb false), .s, .s, .s, .s, .s] [(0, AL b), (2, vi a), (3, vi i), (4, vi y), (5, vi n), (6, vi o), (7, AL O), (9, pt 9), (59, vb (decide ((6 : Int) < (lI m.rects_))))] [(9, bx [.d (DL m.rects_)])] (cT (ALe.bool p0)) ?_
   exact Kn.R Fm (E0 (decide ((6 : Int) < (lI m.rects_))) h)
end Go.Ab
end
