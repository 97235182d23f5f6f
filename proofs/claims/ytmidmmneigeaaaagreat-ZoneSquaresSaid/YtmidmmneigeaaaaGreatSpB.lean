/- The code follows the plain programs: whenever the plain program has a result. -/
import Derived.Test.YtmidmmneigeaaaaGreatSpA
import Derived.Test.YtmidmmneigeaaaaGreatBaA
set_option linter.unusedVariables false
set_option linter.unusedSimpArgs false
section
namespace Go.Ab
open Go.Proofs
set_option linter.unusedVariables false
set_option maxRecDepth 100000
theorem feature_Rects_spec {F : Nat} {a : (List Feature)} {l : Int} {i : Int → Option Bool} {r : (List Rect)} (h : feature_Rects F a l i = some r) :
  FSpec Tryz.prog 95 [AL a, vi l, .v (.c (.sem (CloOK Tryz.prog (FR_Int_Bool i))))] [] (AL (α := Rect) r) [] := by
 refine FSpec.intro prog_mixed prog_lay Tryz.func95 rfl (by kernel_rfl) fun C Fm => ?_
 unfold feature_Rects at h
 refine AW.SG0 Fm 1 [(0, AL a), (1, vi l), (2, .v (.c (.sem (CloOK Tryz.prog (FR_Int_Bool i)))))] [] ?_
 refine AW.SG Fm [.m] (fun K => True) [(0, AL a), (1, vi l), (2, .v (.c (.sem (CloOK Tryz.prog (FR_Int_Bool i))))), (7, ow 7)] [(7, .arr 4 (0) (fun _ => []))] True.intro ?_
 refine Kn.wk [(0, AL a), (1, vi l), (2, .v (.c (.sem (CloOK Tryz.prog (FR_Int_Bool i))))), (7, ow 7)] [(7, AO (α := Rect) ([] : List Rect))] (FE.refl _) (⟨rfl, OLe.is ((Is.nil (α := Rect))), ⟨⟩⟩) ?_
 refine AW.join (r := r) (fun z : (List Rect) => feature_Rects_k3 F z) (fun z => [(7, ow 7)]) (fun z => [(7, AO z)]) (fun y h => ?_) (fun Y M => ?_)
 ·refine AW.SG0 Fm 2 [(6, ow 7)] [(7, AO y)] ?_
  refine AW.ret ?_
  obtain rfl := Option.some.inj h
  refine Kn.r Fm [(6, ow 7)] [(7, AO y)] (by kernel_rfl) ?_
  refine Kn.frz [(6, AL y)] [] (by kernel_rfl) (by kernel_rfl) (by kernel_rfl) ?_
  exact Kn.D Fm
 ·refine AW.SG0 Fm 3 [(1, vi l), (2, .v (.c (.sem (CloOK Tryz.prog (FR_Int_Bool i))))), (7, ow 7), (10, AL a), (11, vi ((List.length a : Nat) : Int)), (12, vi (0 : Int))] [(7, AO (α := Rect) ([] : List Rect))] ?_
  refine AW.block ?_
  refine Kn.r Fm [(1, vi l), (2, .v (.c (.sem (CloOK Tryz.prog (FR_Int_Bool i))))), (7, ow 7), (10, AL a), (11, vi ((List.length a : Nat) : Int)), (12, vi (0 : Int))] [(7, AO ([] : List Rect))] (by kernel_rfl) ?_
  refine AW.loopF (E' := fun z => [(1, vi l), (2, .v (.c (.sem (CloOK Tryz.prog (FR_Int_Bool i))))), (7, ow 7), (10, AL a), (11, vi ((List.length a : Nat) : Int)), (12, vi z.1)]) (S' := fun z => [(7, AO z.2)]) (fun A z V L h => ?_) h
  obtain ⟨e, n⟩ := z
  refine AW.SG0 Fm 1 [(1, vi l), (2, .v (.c (.sem (CloOK Tryz.prog (FR_Int_Bool i))))), (7, ow 7), (10, AL a), (11, vi ((List.length a : Nat) : Int)), (12, vi e), (13, vb (decide (e < ((List.length a : Nat) : Int))))] [(7, AO n)] ?_
  refine AW.seq ?_
  refine AW.cond (b := (decide (e < ((List.length a : Nat) : Int)))) (by kernel_rfl) (fun t => ?_) (fun t => ?_)
  ·have h := br_t h t
   refine AW.skip ?_
   refine AW.join (r := r) (fun z : (List Rect) => feature_Rects_k2 F e A z) (fun z => [(1, vi l), (2, .v (.c (.sem (CloOK Tryz.prog (FR_Int_Bool i))))), (7, ow 29), (10, AL a), (11, vi ((List.length a : Nat) : Int)), (12, vi e)]) (fun z => [(29, AO z)]) (fun I h => ?_) (fun X E => ?_)
   ·obtain ⟨P, h⟩ := gd_some h
    refine AW.G Fm [.s, .s] (fun K => (I64 (e + (1 : Int)) ∧ True) ∧ True) [(1, vi l), (2, .v (.c (.sem (CloOK Tryz.prog (FR_Int_Bool i))))), (7, ow 29), (10, AL a), (11, vi ((List.length a : Nat) : Int)), (12, vi (e + (1 : Int)))] [(29, AO I)] ⟨⟨P, ⟨⟩⟩, ⟨⟩⟩ ?_
    exact Kn.RE Fm [(7, 29)] (L ((e + (1 : Int)), I) h)
   ·refine AW.block ?_
    obtain ⟨N, h⟩ := gd_some h
    refine AW.SG Fm [.s, .s, .s, .s] (fun K => _ ∧ True) [(1, vi l), (2, .v (.c (.sem (CloOK Tryz.prog (FR_Int_Bool i))))), (7, ow 7), (9, pt 9), (10, AL a), (11, vi ((List.length a : Nat) : Int)), (12, vi e)] [(7, AO n), (9, bx [ci ((gl a e.toNat).number_), ci ((gl a e.toNat).kind_), ci ((gl a e.toNat).from_), ci ((gl a e.toNat).until_), .d (DL (α := Rect) (gl a e.toNat).region_.rects_)])] ⟨N, ⟨⟩⟩ ?_
    refine AW.join (r := r) (fun z : Bool => feature_Rects_k1 F a e n A z) (fun z => [(1, vi l), (2, .v (.c (.sem (CloOK Tryz.prog (FR_Int_Bool i))))), (7, ow 7), (9, pt 9), (10, AL a), (11, vi ((List.length a : Nat) : Int)), (12, vi e), (24, vb z)]) (fun z => [(7, AO n), (9, bx [ci ((gl a e.toNat).number_), ci ((gl a e.toNat).kind_), ci ((gl a e.toNat).from_), ci ((gl a e.toNat).until_), .d (DL (α := Rect) (gl a e.toNat).region_.rects_)])]) (fun U h => ?_) (fun W B => ?_)
    ·refine AW.cond (b := U) (by kernel_rfl) (fun u => ?_) (fun u => ?_)
     ·have h := br_t h u
      obtain ⟨O, h⟩ := gd_some h
      refine AW.G Fm [.s, .s, .s, .s, .s, .s] (fun K => ((List.length (α := Rect) n) + (List.length (α := Rect) ((gl a e.toNat).region_.rects_)) ≤ LIM ∧ (∀ j, j < List.length (α := Rect) ((gl a e.toNat).region_.rects_) → ((LF (α := Rect) ((gl a e.toNat).region_.rects_)) j).length = 4) ∧ (True)) ∧ True) [(1, vi l), (2, .v (.c (.sem (CloOK Tryz.prog (FR_Int_Bool i))))), (7, ow 29), (10, AL a), (11, vi ((List.length a : Nat) : Int)), (12, vi e)] [(29, .arr 4 ((List.length (α := Rect) n) + (List.length (α := Rect) ((gl a e.toNat).region_.rects_))) (appF (List.length (α := Rect) n) (LF (α := Rect) n) (LF (α := Rect) ((gl a e.toNat).region_.rects_))))] ⟨⟨O, (Is.refl ((gl a e.toNat).region_.rects_) : Is (List.length (α := Rect) ((gl a e.toNat).region_.rects_)) (LF (α := Rect) ((gl a e.toNat).region_.rects_)) ((gl a e.toNat).region_.rects_)).len, ⟨⟩⟩, ⟨⟩⟩ ?_
      refine Kn.wk [(1, vi l), (2, .v (.c (.sem (CloOK Tryz.prog (FR_Int_Bool i))))), (7, ow 29), (10, AL a), (11, vi ((List.length a : Nat) : Int)), (12, vi e)] [(29, AO (α := Rect) (n ++ ((gl a e.toNat).region_.rects_)))] (FE.refl _) (⟨rfl, OLe.is (Is.app (Is.refl n) (Is.refl ((gl a e.toNat).region_.rects_))), ⟨⟩⟩) ?_
      exact Kn.R Fm (E (n ++ ((gl a e.toNat).region_.rects_)) h)
     ·have h := br_f h u
      refine AW.skip ?_
      exact Kn.RE Fm [(29, 7)] (E n h)
    ·obtain ⟨p, H, h⟩ := bd_some h
     rcases Bool.eq_false_or_eq_true p with o | o
     ·have h := br_t h o
      obtain ⟨q, T, h⟩ := bd_some h
      refine AW.G Fm [.s, .s, .k (cE [] [] (vb p) [] []), .w (vb true), .s, .s, .s, .k (sE (vb q)), .s] (fun K => K 2 ∧ (ALe (vb p) (vb true)) ∧ K 7 ∧ True) [(1, vi l), (2, .v (.c (.sem (CloOK Tryz.prog (FR_Int_Bool i))))), (7, ow 7), (9, pt 9), (10, AL a), (11, vi ((List.length a : Nat) : Int)), (12, vi e), (20, .v (.c (.sem (CloOK Tryz.prog (FR_Int_Bool i))))), (21, .v (.c (.ptr 9 1))), (22, vi (gl a e.toNat).kind_), (23, vb q), (24, vb q)] [(7, AO n), (9, bx [ci ((gl a e.toNat).number_), ci ((gl a e.toNat).kind_), ci ((gl a e.toNat).from_), ci ((gl a e.toNat).until_), .d (DL (α := Rect) (gl a e.toNat).region_.rects_)])] ⟨KAt.CC (feature_there_spec H) Tryz.call93 [], ALe.bool o, KAt.sem (F := (FR_Int_Bool i)) (args := [vi (gl a e.toNat).kind_]) ⟨((gl a e.toNat).kind_), q, T, rfl, rfl⟩ rfl (by kernel_rfl) (by kernel_rfl) (by kernel_rfl), ⟨⟩⟩ ?_
      exact Kn.R Fm (B q h)
     ·have h := br_f h o
      refine AW.G Fm [.s, .s, .k (cE [] [] (vb p) [] []), .w (vb false), .s, .s, .s, .s, .s] (fun K => K 2 ∧ (ALe (vb p) (vb false)) ∧ True) [(1, vi l), (2, .v (.c (.sem (CloOK Tryz.prog (FR_Int_Bool i))))), (7, ow 7), (9, pt 9), (10, AL a), (11, vi ((List.length a : Nat) : Int)), (12, vi e), (24, vb false)] [(7, AO n), (9, bx [ci ((gl a e.toNat).number_), ci ((gl a e.toNat).kind_), ci ((gl a e.toNat).from_), ci ((gl a e.toNat).until_), .d (DL (α := Rect) (gl a e.toNat).region_.rects_)])] ⟨KAt.CC (feature_there_spec H) Tryz.call93 [], ALe.bool o, ⟨⟩⟩ ?_
      exact Kn.R Fm (B false h)
  ·have h := br_f h t
   refine AW.exit ?_
   exact Kn.R Fm (M n h)
theorem region_Limited_spec {F : Nat} {a : (List Rect)} {r : Region × Int} (h : region_Limited F a = some r) :
  FSpec Tryz.prog 60 [AL a] [] (.t [.g [.d (DL (α := Rect) r.1.rects_)], .c (ci r.2)]) [] := by
 refine FSpec.intro prog_mixed prog_lay Tryz.func60 rfl (by kernel_rfl) fun C Fm => ?_
 unfold region_Limited at h
 refine AW.SG0 Fm 2 [(0, AL a), (2, pt 2)] [(2, bx [.fl 0 fun _ => []])] ?_
 refine AW.seq ?_
 refine AW.SG0 Fm 3 [(0, AL a), (2, pt 2), (6, vb (decide ((120 : Int) < ((List.length a : Nat) : Int))))] [(2, bx [.fl 0 fun _ => []])] ?_
 refine AW.cond (b := (decide ((120 : Int) < ((List.length a : Nat) : Int)))) (by kernel_rfl) (fun e => ?_) (fun e => ?_)
 ·have h := br_t h e
  refine AW.SG Fm [.w (.v (.g [.d (DL (α := Rect) [])])), .s, .s] (fun K => (ALe (.v (.g [.fl 0 fun _ => []])) (.v (.g [.d (DL (α := Rect) [])]))) ∧ True) [(2, pt 2), (3, vi (1 : Int))] [(2, bx [.d (DL (α := Rect) [])])] ⟨ALe.g ⟨CLe.fl .nil, ⟨⟩⟩, ⟨⟩⟩ ?_
  refine AW.ret ?_
  obtain rfl := Option.some.inj h
  exact Kn.D Fm
 ·have h := br_f h e
  refine AW.skip ?_
  refine AW.SG0 Fm 4 [(2, pt 2), (3, vi (0 : Int))] [(2, bx [.d (DL a)])] ?_
  refine AW.ret ?_
  obtain rfl := Option.some.inj h
  exact Kn.D Fm
theorem region_Joined_spec {F : Nat} {b : (List Rect)} {r : Region × Int} (h : region_Joined F b = some r) :
  FSpec Tryz.prog 68 [AL b] [] (.t [.g [.d (DL (α := Rect) r.1.rects_)], .c (ci r.2)]) [] := by
 refine FSpec.intro prog_mixed prog_lay Tryz.func68 rfl (by kernel_rfl) fun C Fm => ?_
 unfold region_Joined at h
 refine AW.SG0 Fm 2 [(0, AL b), (2, pt 2)] [(2, bx [.fl 0 fun _ => []])] ?_
 refine AW.seq ?_
 obtain ⟨j, e, h⟩ := bd_some h
 obtain ⟨a, i, h⟩ := bd_some h
 refine AW.G Fm [.s, .k (cE [] [] (AL j) [] []), .k (cE [] [] (.t [.g [.d (DL a.1.rects_)], .c (ci a.2)]) [] []), .s, .s, .s, .s] (fun K => K 1 ∧ K 2 ∧ True) [(2, pt 2), (3, vi a.2)] [(2, bx [.d (DL a.1.rects_)])] ⟨KAt.CC (region_canonical_spec e) Tryz.call119 [], KAt.CC (region_Limited_spec i) Tryz.call60 [], ⟨⟩⟩ ?_
 refine AW.ret ?_
 obtain rfl := Option.some.inj h
 exact Kn.D Fm
theorem zone_of_spec {F : Nat} {e : (List Feature)} {i : Int} {a : Int} {r : Region × Int} (h : zone_of F e i a = some r) :
  FSpec Tryz.prog 64 [AL e, vi i, vi a] [] (.t [.g [.d (DL (α := Rect) r.1.rects_)], .c (ci r.2)]) [] := by
 refine FSpec.intro prog_mixed prog_lay Tryz.func64 rfl (by kernel_rfl) fun C Fm => ?_
 unfold zone_of at h
 refine AW.SG0 Fm 3 [(0, AL e), (1, vi i), (5, pt 5), (6, pt 6)] [(5, bx [ci a]), (6, bx [.fl 0 fun _ => []])] ?_
 refine AW.seq ?_
 obtain ⟨m, j, h⟩ := bd_some h
 obtain ⟨b, l, h⟩ := bd_some h
 refine AW.G Fm [.s, .s, .s, .k (cE [] [5] (AL m) [] []), .k (cE [] [] (.t [.g [.d (DL b.1.rects_)], .c (ci b.2)]) [] []), .s, .s, .s, .s] (fun K => K 3 ∧ K 4 ∧ True) [(6, pt 6), (7, vi b.2)] [(6, bx [.d (DL b.1.rects_)])] ⟨KAt.callX (feature_Rects_spec j) Tryz.call95 [] [5] [.tmp 8, .tmp 9, .tmp 10] rfl (by kernel_rfl) (by kernel_rfl) (by kernel_rfl) ⟨.p, .p, ArgT.cloX Tryz.call113 [[ci a]] (fun args r hq => by obtain ⟨y0, y, hq, rfl, rfl⟩ := hq; exact Eq.mp (by kernel_rfl) (zone_of_1_spec hq)) (fun args r hq => by obtain ⟨y0, y, hq, rfl, rfl⟩ := hq; rfl) (by kernel_rfl) [5] (by kernel_rfl) (by kernel_rfl) (⟨⟨false, (by kernel_rfl)⟩, ⟨⟩⟩) (by kernel_rfl), ⟨⟩⟩, KAt.CC (region_Joined_spec l) Tryz.call68 [], ⟨⟩⟩ ?_
 refine AW.ret ?_
 obtain rfl := Option.some.inj h
 exact Kn.D Fm
theorem zone_Hard_spec {F : Nat} {e : (List Feature)} {i : Int} {r : Region × Int} (h : zone_Hard F e i = some r) :
  FSpec Tryz.prog 13 [AL e, vi i] [] (.t [.g [.d (DL (α := Rect) r.1.rects_)], .c (ci r.2)]) [] := by
 refine FSpec.intro prog_mixed prog_lay Tryz.func13 rfl (by kernel_rfl) fun C Fm => ?_
 unfold zone_Hard at h
 refine AW.SG0 Fm 2 [(0, AL e), (1, vi i), (4, pt 4)] [(4, bx [.fl 0 fun _ => []])] ?_
 refine AW.seq ?_
 refine AW.seq ?_
 obtain ⟨a, m, h⟩ := bd_some h
 refine AW.G Fm [.s, .s, .w (.v (.g [.d (DL (α := Rect) [])])), .k (cE [] [] (vi a) [] []), .s] (fun K => (ALe (.v (.g [.fl 0 fun _ => []])) (.v (.g [.d (DL (α := Rect) [])]))) ∧ K 3 ∧ True) [(0, AL e), (1, vi i), (4, pt 4), (6, vi a)] [(4, bx [.fl 0 fun _ => []])] ⟨ALe.g ⟨CLe.fl .nil, ⟨⟩⟩, KAt.CC (zone_check_spec m) Tryz.call59 [], ⟨⟩⟩ ?_
 refine AW.SG0 Fm 2 [(0, AL e), (1, vi i), (4, pt 4), (6, vi a), (12, vb (a != (0 : Int)))] [(4, bx [.fl 0 fun _ => []])] ?_
 refine AW.cond (b := (a != (0 : Int))) (by kernel_rfl) (fun l => ?_) (fun l => ?_)
 ·have h := br_t h l
  refine AW.SG Fm [.w (.v (.g [.d (DL (α := Rect) [])])), .s, .s, .s] (fun K => (ALe (.v (.g [.fl 0 fun _ => []])) (.v (.g [.d (DL (α := Rect) [])]))) ∧ True) [(4, pt 4), (5, vi a)] [(4, bx [.d (DL (α := Rect) [])])] ⟨ALe.g ⟨CLe.fl .nil, ⟨⟩⟩, ⟨⟩⟩ ?_
  refine AW.ret ?_
  obtain rfl := Option.some.inj h
  exact Kn.D Fm
 ·have h := br_f h l
  refine AW.skip ?_
  refine AW.seq ?_
  obtain ⟨j, n, h⟩ := bd_some h
  refine AW.G Fm [.s, .s, .k (cE [] [] (.t [.g [.d (DL j.1.rects_)], .c (ci j.2)]) [] []), .s, .s, .s, .s] (fun K => K 2 ∧ True) [(4, pt 4), (5, vi j.2)] [(4, bx [.d (DL j.1.rects_)])] ⟨KAt.CC (zone_of_spec n) Tryz.call64 [], ⟨⟩⟩ ?_
  refine AW.ret ?_
  obtain rfl := Option.some.inj h
  exact Kn.D Fm
theorem slices_Concat_Span_spec {F : Nat} {a : (List (List Span))} {r : (List Span)} (h : slices_Concat_Span F a = some r) :
  FSpec Tryz.prog 143 [AL a] [] (ow 100) [(100, AO (α := Span) r)] := by
 refine FSpec.intro prog_mixed prog_lay Tryz.func143 rfl (by kernel_rfl) fun C Fm => ?_
 unfold slices_Concat_Span at h
 refine AW.SG Fm [.m] (fun K => True) [(0, AL a)] [] True.intro ?_
 refine AW.SG0 Fm 1 [(0, AL a), (3, vi (0 : Int))] [] ?_
 refine AW.join (r := r) (fun z : Int => slices_Concat_Span_k1 F a z) (fun z => [(0, AL a), (3, vi z)]) (fun z => []) (fun V h => ?_) (fun N u => ?_)
 ·refine AW.seq ?_
  obtain ⟨l, L, h⟩ := bd_some h
  refine AW.G Fm [.s, .k (cE [(100, 24)] [] (ow 100) [] [(100, AO l)]), .s] (fun K => K 1 ∧ True) [(0, AL a), (6, ow 24)] [(24, AO l)] ⟨KAt.CC (growN_spec L) Tryz.call164 [(100, 24)], ⟨⟩⟩ ?_
  refine AW.join (r := r) (fun z : (List Span) => slices_Concat_Span_k3 F z) (fun z => [(6, ow 24)]) (fun z => [(24, AO z)]) (fun q h => ?_) (fun P y => ?_)
  ·refine AW.SG0 Fm 2 [(2, ow 24)] [(24, AO q)] ?_
   refine AW.ret ?_
   obtain rfl := Option.some.inj h
   exact Kn.re Fm [(100, 24)] [(2, ow 100)] [(100, AO q)] (by kernel_rfl) (by kernel_rfl) (by kernel_rfl) (by kernel_rfl) (Kn.dn Fm (by kernel_rfl))
  ·refine AW.SG0 Fm 3 [(6, ow 24), (25, AL a), (26, vi ((List.length a : Nat) : Int)), (27, vi (0 : Int))] [(24, AO l)] ?_
   refine AW.block ?_
   refine Kn.r Fm [(6, ow 24), (25, AL a), (26, vi ((List.length a : Nat) : Int)), (27, vi (0 : Int))] [(24, AO l)] (by kernel_rfl) ?_
   refine AW.loopF (E' := fun z => [(6, ow 24), (25, AL a), (26, vi ((List.length a : Nat) : Int)), (27, vi z.1)]) (S' := fun z => [(24, AO z.2)]) (fun U z O w h => ?_) h
   obtain ⟨c, e⟩ := z
   refine AW.SG0 Fm 1 [(6, ow 24), (25, AL a), (26, vi ((List.length a : Nat) : Int)), (27, vi c), (28, vb (decide (c < ((List.length a : Nat) : Int))))] [(24, AO e)] ?_
   refine AW.seq ?_
   refine AW.cond (b := (decide (c < ((List.length a : Nat) : Int)))) (by kernel_rfl) (fun p => ?_) (fun p => ?_)
   ·have h := br_t h p
    refine AW.skip ?_
    refine AW.seq ?_
    refine AW.block ?_
    obtain ⟨E, h⟩ := gd_some h
    refine AW.SG Fm [.s, .s, .s] (fun K => _ ∧ True) [(6, ow 24), (8, AL (α := Span) (gl a c.toNat)), (25, AL a), (26, vi ((List.length a : Nat) : Int)), (27, vi c)] [(24, AO e)] ⟨E, ⟨⟩⟩ ?_
    obtain ⟨H, h⟩ := gd_some h
    refine AW.G Fm [.s, .s, .s, .s] (fun K => ((List.length (α := Span) e) + (List.length (α := Span) (gl a c.toNat)) ≤ LIM ∧ (∀ j, j < List.length (α := Span) (gl a c.toNat) → ((LF (α := Span) (gl a c.toNat)) j).length = 2) ∧ (True)) ∧ True) [(6, ow 33), (25, AL a), (26, vi ((List.length a : Nat) : Int)), (27, vi c)] [(33, .arr 2 ((List.length (α := Span) e) + (List.length (α := Span) (gl a c.toNat))) (appF (List.length (α := Span) e) (LF (α := Span) e) (LF (α := Span) (gl a c.toNat))))] ⟨⟨H, (Is.refl (gl a c.toNat) : Is (List.length (α := Span) (gl a c.toNat)) (LF (α := Span) (gl a c.toNat)) (gl a c.toNat)).len, ⟨⟩⟩, ⟨⟩⟩ ?_
    refine Kn.wk [(6, ow 33), (25, AL a), (26, vi ((List.length a : Nat) : Int)), (27, vi c)] [(33, AO (α := Span) (e ++ (gl a c.toNat)))] (FE.refl _) (⟨rfl, OLe.is (Is.app (Is.refl e) (Is.refl (gl a c.toNat))), ⟨⟩⟩) ?_
    obtain ⟨I, h⟩ := gd_some h
    refine AW.G Fm [.s, .s] (fun K => (I64 (c + (1 : Int)) ∧ True) ∧ True) [(6, ow 33), (25, AL a), (26, vi ((List.length a : Nat) : Int)), (27, vi (c + (1 : Int)))] [(33, AO (α := Span) (e ++ (gl a c.toNat)))] ⟨⟨I, ⟨⟩⟩, ⟨⟩⟩ ?_
    exact Kn.RE Fm [(24, 33)] (w ((c + (1 : Int)), (e ++ (gl a c.toNat))) h)
   ·have h := br_f h p
    refine AW.exit ?_
    exact Kn.R Fm (y e h)
 ·refine AW.SG0 Fm 3 [(0, AL a), (3, vi (0 : Int)), (9, AL a), (10, vi ((List.length a : Nat) : Int)), (11, vi (0 : Int))] [] ?_
  refine AW.block ?_
  refine Kn.r Fm [(0, AL a), (3, vi (0 : Int)), (9, AL a), (10, vi ((List.length a : Nat) : Int)), (11, vi (0 : Int))] [] (by kernel_rfl) ?_
  refine AW.loopF (E' := fun z => [(0, AL a), (3, vi z.1), (9, AL a), (10, vi ((List.length a : Nat) : Int)), (11, vi z.2)]) (S' := fun z => []) (fun T z M t h => ?_) h
  obtain ⟨i, d⟩ := z
  refine AW.SG0 Fm 1 [(0, AL a), (3, vi i), (9, AL a), (10, vi ((List.length a : Nat) : Int)), (11, vi d), (12, vb (decide (d < ((List.length a : Nat) : Int))))] [] ?_
  refine AW.seq ?_
  refine AW.cond (b := (decide (d < ((List.length a : Nat) : Int)))) (by kernel_rfl) (fun n => ?_) (fun n => ?_)
  ·have h := br_t h n
   refine AW.skip ?_
   refine AW.seq ?_
   refine AW.block ?_
   obtain ⟨A, h⟩ := gd_some h
   refine AW.SG Fm [.s, .s, .s] (fun K => _ ∧ True) [(0, AL a), (3, vi i), (5, AL (α := Span) (gl a d.toNat)), (9, AL a), (10, vi ((List.length a : Nat) : Int)), (11, vi d)] [] ⟨A, ⟨⟩⟩ ?_
   obtain ⟨B, h⟩ := gd_some h
   refine AW.SG Fm [.s, .s, .s, .s, .s] (fun K => (I64 (i + ((List.length (gl a d.toNat) : Nat) : Int)) ∧ True) ∧ True) [(0, AL a), (3, vi (i + ((List.length (gl a d.toNat) : Nat) : Int))), (9, AL a), (10, vi ((List.length a : Nat) : Int)), (11, vi d)] [] ⟨⟨B, ⟨⟩⟩, ⟨⟩⟩ ?_
   refine AW.SG0 Fm 2 [(0, AL a), (3, vi (i + ((List.length (gl a d.toNat) : Nat) : Int))), (9, AL a), (10, vi ((List.length a : Nat) : Int)), (11, vi d), (20, vb (decide ((i + ((List.length (gl a d.toNat) : Nat) : Int)) < (0 : Int))))] [] ?_
   refine AW.cond (b := (decide ((i + ((List.length (gl a d.toNat) : Nat) : Int)) < (0 : Int)))) (by kernel_rfl) (fun o => ?_) (fun o => ?_)
   ·have h := br_t h o
    cases h
   ·have h := br_f h o
    refine AW.skip ?_
    obtain ⟨D, h⟩ := gd_some h
    refine AW.G Fm [.s, .s] (fun K => (I64 (d + (1 : Int)) ∧ True) ∧ True) [(0, AL a), (3, vi (i + ((List.length (gl a d.toNat) : Nat) : Int))), (9, AL a), (10, vi ((List.length a : Nat) : Int)), (11, vi (d + (1 : Int)))] [] ⟨⟨D, ⟨⟩⟩, ⟨⟩⟩ ?_
    exact Kn.R Fm (t ((i + ((List.length (gl a d.toNat) : Nat) : Int)), (d + (1 : Int))) h)
  ·have h := br_f h n
   refine AW.exit ?_
   exact Kn.R Fm (u i h)
theorem region_inside_1_spec {F : Nat} {b : Span} {a : Int} {r : Bool} (h : region_inside_1 F b a = some r) :
  FSpec Tryz.prog 166 [gE b, pt 0] [(0, .box true [ci a])] (vb r) [(0, .box true [ci a])] := by
 refine FSpec.intro prog_mixed prog_lay Tryz.func166 rfl (by kernel_rfl) fun C Fm => ?_
 unfold region_inside_1 at h
 refine AW.SG0 Fm 2 [(1, pt 0), (2, pt 2)] [(0, .box true [ci a]), (2, bx (gC b))] ?_
 refine AW.join (r := r) (fun z : Bool => region_inside_1_k0 F z) (fun z => [(3, vb z)]) (fun z => [(0, .box true [ci a])]) (fun i h => ?_) (fun e d => ?_)
 ·refine AW.ret ?_
  obtain rfl := Option.some.inj h
  exact Kn.D Fm
 ·rcases Bool.eq_false_or_eq_true (decide (b.left_ ≤ a)) with c | c
  ·have h := br_t h c
   refine AW.G Fm [.s, .s, .s, .s, .w (vb true), .s, .s, .s, .s, .s, .s] (fun K => (ALe (vb (decide (b.left_ ≤ a))) (vb true)) ∧ True) [(3, vb (decide (a < b.right_)))] [(0, .box true [ci a])] ⟨ALe.bool c, ⟨⟩⟩ ?_
   exact Kn.R Fm (d (decide (a < b.right_)) h)
  ·have h := br_f h c
   refine AW.G Fm [.s, .s, .s, .s, .w (vb false), .s, .s, .s, .s, .s, .s] (fun K => (ALe (vb (decide (b.left_ ≤ a))) (vb false)) ∧ True) [(3, vb false)] [(0, .box true [ci a])] ⟨ALe.bool c, ⟨⟩⟩ ?_
   exact Kn.R Fm (d false h)
theorem slices_IndexFunc_Span_spec {F : Nat} {a : (List Span)} {e : Span → Option Bool} {r : Int} (h : slices_IndexFunc_Span F a e = some r) :
  FSpec Tryz.prog 174 [AL a, .v (.c (.sem (CloOK Tryz.prog (FR_Span_Bool e))))] [] (vi r) [] := by
 refine FSpec.intro prog_mixed prog_lay Tryz.func174 rfl (by kernel_rfl) fun C Fm => ?_
 unfold slices_IndexFunc_Span at h
 refine AW.SG0 Fm 1 [(0, AL a), (1, .v (.c (.sem (CloOK Tryz.prog (FR_Span_Bool e)))))] [] ?_
 refine AW.join (r := r) (fun z : Unit => slices_IndexFunc_Span_k1 F) (fun z => []) (fun z => []) (fun z h => ?_) (fun u n => ?_)
 ·refine AW.SG0 Fm 1 [(4, vi (-1 : Int))] [] ?_
  refine AW.ret ?_
  obtain rfl := Option.some.inj h
  exact Kn.D Fm
 ·refine AW.SG0 Fm 3 [(0, AL a), (1, .v (.c (.sem (CloOK Tryz.prog (FR_Span_Bool e))))), (7, vi ((List.length a : Nat) : Int)), (8, vi (0 : Int))] [] ?_
  refine AW.block ?_
  refine Kn.r Fm [(0, AL a), (1, .v (.c (.sem (CloOK Tryz.prog (FR_Span_Bool e))))), (7, vi ((List.length a : Nat) : Int)), (8, vi (0 : Int))] [] (by kernel_rfl) ?_
  refine AW.loopF (E' := fun z => [(0, AL a), (1, .v (.c (.sem (CloOK Tryz.prog (FR_Span_Bool e))))), (7, vi ((List.length a : Nat) : Int)), (8, vi z)]) (S' := fun z => []) (fun w d t m h => ?_) h
  refine AW.SG0 Fm 1 [(0, AL a), (1, .v (.c (.sem (CloOK Tryz.prog (FR_Span_Bool e))))), (7, vi ((List.length a : Nat) : Int)), (8, vi d), (9, vb (decide (d < ((List.length a : Nat) : Int))))] [] ?_
  refine AW.seq ?_
  refine AW.cond (b := (decide (d < ((List.length a : Nat) : Int)))) (by kernel_rfl) (fun j => ?_) (fun j => ?_)
  ·have h := br_t h j
   refine AW.skip ?_
   refine AW.seq ?_
   refine AW.block ?_
   refine AW.SG0 Fm 2 [(0, AL a), (1, .v (.c (.sem (CloOK Tryz.prog (FR_Span_Bool e))))), (5, vi d), (7, vi ((List.length a : Nat) : Int)), (8, vi d)] [] ?_
   refine AW.seq ?_
   obtain ⟨o, h⟩ := gd_some h
   obtain ⟨i, q, h⟩ := bd_some h
   refine AW.G Fm [.s, .s, .s, .s, .s, .k (sE (vb i))] (fun K => _ ∧ K 5 ∧ True) [(0, AL a), (1, .v (.c (.sem (CloOK Tryz.prog (FR_Span_Bool e))))), (5, vi d), (7, vi ((List.length a : Nat) : Int)), (8, vi d), (16, vb i)] [] ⟨o, KAt.sem (F := (FR_Span_Bool e)) (args := [.v (.g [ci ((gl a d.toNat).left_), ci ((gl a d.toNat).right_)])]) ⟨(gl a d.toNat), i, q, rfl, rfl⟩ rfl (by kernel_rfl) (by kernel_rfl) (by kernel_rfl), ⟨⟩⟩ ?_
   refine AW.cond (b := i) (by kernel_rfl) (fun l => ?_) (fun l => ?_)
   ·have h := br_t h l
    refine AW.SG0 Fm 2 [(4, vi d)] [] ?_
    refine AW.ret ?_
    obtain rfl := Option.some.inj h
    exact Kn.D Fm
   ·have h := br_f h l
    refine AW.skip ?_
    obtain ⟨p, h⟩ := gd_some h
    refine AW.G Fm [.s, .s] (fun K => (I64 (d + (1 : Int)) ∧ True) ∧ True) [(0, AL a), (1, .v (.c (.sem (CloOK Tryz.prog (FR_Span_Bool e))))), (7, vi ((List.length a : Nat) : Int)), (8, vi (d + (1 : Int)))] [] ⟨⟨p, ⟨⟩⟩, ⟨⟩⟩ ?_
    exact Kn.R Fm (m (d + (1 : Int)) h)
  ·have h := br_f h j
   refine AW.exit ?_
   exact Kn.R Fm (n () h)
theorem slices_ContainsFunc_Span_spec {F : Nat} {a : (List Span)} {b : Span → Option Bool} {r : Bool} (h : slices_ContainsFunc_Span F a b = some r) :
  FSpec Tryz.prog 165 [AL a, .v (.c (.sem (CloOK Tryz.prog (FR_Span_Bool b))))] [] (vb r) [] := by
 refine FSpec.intro prog_mixed prog_lay Tryz.func165 rfl (by kernel_rfl) fun C Fm => ?_
 unfold slices_ContainsFunc_Span at h
 refine AW.SG0 Fm 1 [(0, AL a), (1, .v (.c (.sem (CloOK Tryz.prog (FR_Span_Bool b)))))] [] ?_
 refine AW.seq ?_
 obtain ⟨d, e, h⟩ := bd_some h
 refine AW.G Fm [.s, .s, .k (cE [] [] (vi d) [] []), .s, .s] (fun K => K 2 ∧ True) [(4, vb (decide ((0 : Int) ≤ d)))] [] ⟨KAt.callX (slices_IndexFunc_Span_spec e) Tryz.call174 [] [] [.tmp 5, .tmp 6] rfl (by kernel_rfl) (by kernel_rfl) (by kernel_rfl) ⟨.p, ArgT.semX (by kernel_rfl) (by kernel_rfl) (by kernel_rfl), ⟨⟩⟩, ⟨⟩⟩ ?_
 refine AW.ret ?_
 obtain rfl := Option.some.inj h
 exact Kn.D Fm
theorem region_inside_spec {F : Nat} {b : (List Span)} {a : Int} {r : Bool} (h : region_inside F b a = some r) :
  FSpec Tryz.prog 144 [AL b, vi a] [] (vb r) [] := by
 refine FSpec.intro prog_mixed prog_lay Tryz.func144 rfl (by kernel_rfl) fun C Fm => ?_
 unfold region_inside at h
 refine AW.SG0 Fm 2 [(0, AL b), (3, pt 3)] [(3, bx [ci a])] ?_
 refine AW.seq ?_
 obtain ⟨c, d, h⟩ := bd_some h
 refine AW.G Fm [.s, .s, .k (cE [] [3] (vb c) [] []), .s] (fun K => K 2 ∧ True) [(4, vb c)] [] ⟨KAt.callX (slices_ContainsFunc_Span_spec d) Tryz.call165 [] [3] [.tmp 5, .tmp 6] rfl (by kernel_rfl) (by kernel_rfl) (by kernel_rfl) ⟨.p, ArgT.cloX Tryz.call166 [[ci a]] (fun args r hq => by obtain ⟨y0, y, hq, rfl, rfl⟩ := hq; exact Eq.mp (by kernel_rfl) (region_inside_1_spec hq)) (fun args r hq => by obtain ⟨y0, y, hq, rfl, rfl⟩ := hq; rfl) (by kernel_rfl) [3] (by kernel_rfl) (by kernel_rfl) (⟨⟨false, (by kernel_rfl)⟩, ⟨⟩⟩) (by kernel_rfl), ⟨⟩⟩, ⟨⟩⟩ ?_
 refine AW.ret ?_
 obtain rfl := Option.some.inj h
 exact Kn.D Fm
theorem region_merge_spec {F : Nat} {o : (List Span)} {p : (List Span)} {q : Bool → Bool → Option Bool} {r : (List Span)} (h : region_merge F o p q = some r) :
  FSpec Tryz.prog 110 [AL o, AL p, .v (.c (.sem (CloOK Tryz.prog (FR_Bool_Bool_Bool q))))] [] (AL (α := Span) r) [] := by
 refine FSpec.intro prog_mixed prog_lay Tryz.func110 rfl (by kernel_rfl) fun C Fm => ?_
 unfold region_merge at h
 refine AW.SG0 Fm 1 [(0, AL o), (1, AL p), (2, .v (.c (.sem (CloOK Tryz.prog (FR_Bool_Bool_Bool q)))))] [] ?_
 refine AW.SG Fm [.m] (fun K => True) [(0, AL o), (1, AL p), (2, .v (.c (.sem (CloOK Tryz.prog (FR_Bool_Bool_Bool q))))), (7, ow 7)] [(7, .arr 1 (0) (fun _ => []))] True.intro ?_
 refine Kn.wk [(0, AL o), (1, AL p), (2, .v (.c (.sem (CloOK Tryz.prog (FR_Bool_Bool_Bool q))))), (7, ow 7)] [(7, AO (α := Int) ([] : List Int))] (FE.refl _) (⟨rfl, OLe.is ((Is.nil (α := Int))), ⟨⟩⟩) ?_
 refine AW.join (r := r) (fun z : (List Int) => region_merge_k1 F o p q z) (fun z => [(0, AL o), (1, AL p), (2, .v (.c (.sem (CloOK Tryz.prog (FR_Bool_Bool_Bool q))))), (7, ow 7)]) (fun z => [(7, AO z)]) (fun y0 h => ?_) (fun D0 c0 => ?_)
 ·refine AW.seq ?_
  obtain ⟨N, q0, h⟩ := bd_some h
  refine AW.G Fm [.s, .k (cE [(0, 7)] [] (.any) [(0, AO y0)] [(0, AO N)])] (fun K => K 1 ∧ True) [(0, AL o), (1, AL p), (2, .v (.c (.sem (CloOK Tryz.prog (FR_Bool_Bool_Bool q))))), (7, ow 7)] [(7, AO N)] ⟨KAt.CC (sortI_spec q0) Tryz.call76 [(0, 7)], ⟨⟩⟩ ?_
  refine AW.seq ?_
  obtain ⟨a, s0, h⟩ := bd_some h
  refine AW.G Fm [.s, .k (cE [(0, 7), (100, 34)] [] (ow 100) [(0, AO N)] [(100, AO a)]), .s] (fun K => K 1 ∧ True) [(0, AL o), (1, AL p), (2, .v (.c (.sem (CloOK Tryz.prog (FR_Bool_Bool_Bool q))))), (7, ow 34)] [(34, AO a)] ⟨KAt.CC (slices_Compact_int_spec s0) Tryz.call77 [(0, 7), (100, 34)], ⟨⟩⟩ ?_
  refine AW.SG Fm [.m] (fun K => True) [(0, AL o), (1, AL p), (2, .v (.c (.sem (CloOK Tryz.prog (FR_Bool_Bool_Bool q))))), (7, ow 34), (10, ow 10)] [(10, .arr 2 (0) (fun _ => [])), (34, AO a)] True.intro ?_
  refine Kn.wk [(0, AL o), (1, AL p), (2, .v (.c (.sem (CloOK Tryz.prog (FR_Bool_Bool_Bool q))))), (7, ow 34), (10, ow 10)] [(10, AO (α := Span) ([] : List Span)), (34, AO a)] (FE.refl _) (⟨rfl, OLe.is ((Is.nil (α := Span))), ⟨rfl, OLe.refl _, ⟨⟩⟩⟩) ?_
  refine AW.join (r := r) (fun z : (List Span) => region_merge_k5 F z) (fun z => [(10, ow 10)]) (fun z => [(10, AO z)]) (fun M h => ?_) (fun I0 e0 => ?_)
  ·refine AW.SG0 Fm 2 [(6, ow 10)] [(10, AO M)] ?_
   refine AW.ret ?_
   obtain rfl := Option.some.inj h
   refine Kn.r Fm [(6, ow 10)] [(10, AO M)] (by kernel_rfl) ?_
   refine Kn.frz [(6, AL M)] [] (by kernel_rfl) (by kernel_rfl) (by kernel_rfl) ?_
   exact Kn.D Fm
  ·refine AW.SG0 Fm 1 [(0, AL o), (1, AL p), (2, .v (.c (.sem (CloOK Tryz.prog (FR_Bool_Bool_Bool q))))), (7, ow 34), (10, ow 10), (11, vi (1 : Int))] [(10, AO (α := Span) ([] : List Span)), (34, AO a)] ?_
   refine AW.block ?_
   refine Kn.r Fm [(0, AL o), (1, AL p), (2, .v (.c (.sem (CloOK Tryz.prog (FR_Bool_Bool_Bool q))))), (7, ow 34), (10, ow 10), (11, vi (1 : Int))] [(10, AO ([] : List Span)), (34, AO a)] (by kernel_rfl) ?_
   refine AW.loopF (E' := fun z => [(0, AL o), (1, AL p), (2, .v (.c (.sem (CloOK Tryz.prog (FR_Bool_Bool_Bool q))))), (7, ow 34), (10, ow 10), (11, vi z.1)]) (S' := fun z => [(10, AO z.2), (34, AO a)]) (fun T z E0 d0 h => ?_) h
   obtain ⟨e, i⟩ := z
   refine AW.seq ?_
   refine AW.SG0 Fm 4 [(0, AL o), (1, AL p), (2, .v (.c (.sem (CloOK Tryz.prog (FR_Bool_Bool_Bool q))))), (7, ow 34), (10, ow 10), (11, vi e), (38, vb (decide (e < ((List.length a : Nat) : Int))))] [(10, AO i), (34, AO a)] ?_
   refine AW.cond (b := (decide (e < ((List.length a : Nat) : Int)))) (by kernel_rfl) (fun E => ?_) (fun E => ?_)
   ·have h := br_t h E
    refine AW.skip ?_
    refine AW.join (r := r) (fun z : (List Span) => region_merge_k4 F e T z) (fun z => [(0, AL o), (1, AL p), (2, .v (.c (.sem (CloOK Tryz.prog (FR_Bool_Bool_Bool q))))), (7, ow 34), (10, ow 10), (11, vi e)]) (fun z => [(10, AO z), (34, AO a)]) (fun a0 h => ?_) (fun H0 A => ?_)
    ·obtain ⟨o0, h⟩ := gd_some h
     refine AW.G Fm [.s, .s, .s] (fun K => (I64 (e + (1 : Int)) ∧ True) ∧ True) [(0, AL o), (1, AL p), (2, .v (.c (.sem (CloOK Tryz.prog (FR_Bool_Bool_Bool q))))), (7, ow 34), (10, ow 10), (11, vi (e + (1 : Int)))] [(10, AO a0), (34, AO a)] ⟨⟨o0, ⟨⟩⟩, ⟨⟩⟩ ?_
     exact Kn.R Fm (d0 ((e + (1 : Int)), a0) h)
    ·refine AW.block ?_
     obtain ⟨k0, h⟩ := gd_some h
     obtain ⟨W, h⟩ := gd_some h
     refine AW.SG Fm [.s, .s, .s, .s, .s, .s] (fun K => (I64 (e - (1 : Int)) ∧ True) ∧ _ ∧ ((e - (1 : Int)).toNat < List.length a) ∧ True) [(0, AL o), (1, AL p), (2, .v (.c (.sem (CloOK Tryz.prog (FR_Bool_Bool_Bool q))))), (7, ow 34), (10, ow 10), (11, vi e), (12, vi (gl a (e - (1 : Int)).toNat))] [(10, AO i), (34, AO a)] ⟨⟨k0, ⟨⟩⟩, W, (toNat_lt W), ⟨⟩⟩ ?_
     refine AW.seq ?_
     refine AW.seq ?_
     obtain ⟨O, t0, h⟩ := bd_some h
     obtain ⟨P, u0, h⟩ := bd_some h
     obtain ⟨y, w0, h⟩ := bd_some h
     refine AW.G Fm [.s, .s, .s, .k (cE [] [] (vb O) [] []), .s, .s, .k (cE [] [] (vb P) [] []), .k (sE (vb y)), .s] (fun K => K 3 ∧ K 6 ∧ K 7 ∧ True) [(0, AL o), (1, AL p), (2, .v (.c (.sem (CloOK Tryz.prog (FR_Bool_Bool_Bool q))))), (7, ow 34), (10, ow 10), (11, vi e), (12, vi (gl a (e - (1 : Int)).toNat)), (54, vb (!y))] [(10, AO i), (34, AO a)] ⟨KAt.CC (region_inside_spec t0) Tryz.call144 [], KAt.CC (region_inside_spec u0) Tryz.call144 [], KAt.sem (F := (FR_Bool_Bool_Bool q)) (args := [vb O, vb P]) ⟨O, P, y, w0, rfl, rfl⟩ rfl (by kernel_rfl) (by kernel_rfl) (by kernel_rfl), ⟨⟩⟩ ?_
     refine AW.cond (b := (!y)) (by kernel_rfl) (fun H => ?_) (fun H => ?_)
     ·have h := br_t h H
      refine AW.exit ?_
      exact Kn.R Fm (A i h)
     ·have h := br_f h H
      refine AW.skip ?_
      refine AW.SG0 Fm 3 [(0, AL o), (1, AL p), (2, .v (.c (.sem (CloOK Tryz.prog (FR_Bool_Bool_Bool q))))), (7, ow 34), (10, ow 10), (11, vi e), (12, vi (gl a (e - (1 : Int)).toNat)), (13, vi ((List.length i : Nat) : Int))] [(10, AO i), (34, AO a)] ?_
      refine AW.join (r := r) (fun z : Bool => region_merge_k3 F a e i T z) (fun z => [(0, AL o), (1, AL p), (2, .v (.c (.sem (CloOK Tryz.prog (FR_Bool_Bool_Bool q))))), (7, ow 34), (10, ow 10), (11, vi e), (12, vi (gl a (e - (1 : Int)).toNat)), (13, vi ((List.length i : Nat) : Int)), (68, vb z)]) (fun z => [(10, AO i), (34, AO a)]) (fun A0 h => ?_) (fun G0 U => ?_)
      ·refine AW.cond (b := A0) (by kernel_rfl) (fun I => ?_) (fun I => ?_)
       ·have h := br_t h I
        obtain ⟨m0, h⟩ := gd_some h
        obtain ⟨Y, h⟩ := gd_some h
        obtain ⟨L, h⟩ := gd_some h
        refine AW.G Fm [.s, .s, .s, .s, .s, .s, .s, .s, .s, .s] (fun K => (I64 (((List.length i : Nat) : Int) - (1 : Int)) ∧ True) ∧ _ ∧ (e.toNat < List.length a) ∧ _ ∧ ((((List.length i : Nat) : Int) - (1 : Int)).toNat < List.length i) ∧ True) [(0, AL o), (1, AL p), (2, .v (.c (.sem (CloOK Tryz.prog (FR_Bool_Bool_Bool q))))), (7, ow 34), (10, ow 10), (11, vi e)] [(10, .arr 2 (List.length (α := Span) i) (fun j => if j = (((List.length i : Nat) : Int) - (1 : Int)).toNat then splice ((LF (α := Span) i) (((List.length i : Nat) : Int) - (1 : Int)).toNat) 1 [.int .i64 (gl a e.toNat)] else (LF (α := Span) i) j)), (34, AO a)] ⟨⟨m0, ⟨⟩⟩, Y, (toNat_lt Y), L, (toNat_lt L), ⟨⟩⟩ ?_
        refine Kn.wk [(0, AL o), (1, AL p), (2, .v (.c (.sem (CloOK Tryz.prog (FR_Bool_Bool_Bool q))))), (7, ow 34), (10, ow 10), (11, vi e)] [(10, AO (α := Span) (List.set i (((List.length i : Nat) : Int) - (1 : Int)).toNat (⟨(gl i (((List.length i : Nat) : Int) - (1 : Int)).toNat).left_, (gl a e.toNat)⟩ : Span))), (34, AO a)] (FE.refl _) (⟨rfl, OLe.is (Is.set (Is.refl i) (toNat_lt L) (⟨(gl i (((List.length i : Nat) : Int) - (1 : Int)).toNat).left_, (gl a e.toNat)⟩ : Span) (by kernel_rfl)), ⟨rfl, OLe.refl _, ⟨⟩⟩⟩) ?_
        exact Kn.R Fm (A (List.set i (((List.length i : Nat) : Int) - (1 : Int)).toNat (⟨(gl i (((List.length i : Nat) : Int) - (1 : Int)).toNat).left_, (gl a e.toNat)⟩ : Span)) h)
       ·have h := br_f h I
        obtain ⟨Z, h⟩ := gd_some h
        obtain ⟨n0, h⟩ := gd_some h
        refine AW.G Fm [.s, .s, .s, .s, .s, .s, .s, .w (AL (α := Span) ([(⟨(gl a (e - (1 : Int)).toNat), (gl a e.toNat)⟩ : Span)] : List Span)), .s, .s] (fun K => _ ∧ (e.toNat < List.length a) ∧ (ALe (.v (.c (.d (.lst 1 (litF 2 [.int .i64 (gl a (e - (1 : Int)).toNat), .int .i64 (gl a e.toNat)]))))) (AL (α := Span) ([(⟨(gl a (e - (1 : Int)).toNat), (gl a e.toNat)⟩ : Span)] : List Span))) ∧ ((List.length (α := Span) i) + (List.length (α := Span) ([(⟨(gl a (e - (1 : Int)).toNat), (gl a e.toNat)⟩ : Span)] : List Span)) ≤ LIM ∧ (∀ j, j < List.length (α := Span) ([(⟨(gl a (e - (1 : Int)).toNat), (gl a e.toNat)⟩ : Span)] : List Span) → ((LF (α := Span) ([(⟨(gl a (e - (1 : Int)).toNat), (gl a e.toNat)⟩ : Span)] : List Span)) j).length = 2) ∧ (True)) ∧ True) [(0, AL o), (1, AL p), (2, .v (.c (.sem (CloOK Tryz.prog (FR_Bool_Bool_Bool q))))), (7, ow 34), (10, ow 86), (11, vi e)] [(34, AO a), (86, .arr 2 ((List.length (α := Span) i) + (List.length (α := Span) ([(⟨(gl a (e - (1 : Int)).toNat), (gl a e.toNat)⟩ : Span)] : List Span))) (appF (List.length (α := Span) i) (LF (α := Span) i) (LF (α := Span) ([(⟨(gl a (e - (1 : Int)).toNat), (gl a e.toNat)⟩ : Span)] : List Span))))] ⟨Z, (toNat_lt Z), ALe.lst (.lit ([(⟨(gl a (e - (1 : Int)).toNat), (gl a e.toNat)⟩ : Span)] : List Span) (by kernel_rfl)), ⟨n0, (Is.refl ([(⟨(gl a (e - (1 : Int)).toNat), (gl a e.toNat)⟩ : Span)] : List Span) : Is (List.length (α := Span) ([(⟨(gl a (e - (1 : Int)).toNat), (gl a e.toNat)⟩ : Span)] : List Span)) (LF (α := Span) ([(⟨(gl a (e - (1 : Int)).toNat), (gl a e.toNat)⟩ : Span)] : List Span)) ([(⟨(gl a (e - (1 : Int)).toNat), (gl a e.toNat)⟩ : Span)] : List Span)).len, ⟨⟩⟩, ⟨⟩⟩ ?_
        refine Kn.wk [(0, AL o), (1, AL p), (2, .v (.c (.sem (CloOK Tryz.prog (FR_Bool_Bool_Bool q))))), (7, ow 34), (10, ow 86), (11, vi e)] [(34, AO a), (86, AO (α := Span) (i ++ ([(⟨(gl a (e - (1 : Int)).toNat), (gl a e.toNat)⟩ : Span)] : List Span)))] (FE.refl _) (⟨rfl, OLe.refl _, ⟨rfl, OLe.is (Is.app (Is.refl i) (Is.refl ([(⟨(gl a (e - (1 : Int)).toNat), (gl a e.toNat)⟩ : Span)] : List Span))), ⟨⟩⟩⟩) ?_
        exact Kn.RE Fm [(10, 86)] (A (i ++ ([(⟨(gl a (e - (1 : Int)).toNat), (gl a e.toNat)⟩ : Span)] : List Span)) h)
      ·rcases Bool.eq_false_or_eq_true (decide ((0 : Int) < ((List.length i : Nat) : Int))) with u | u
       ·have h := br_t h u
        obtain ⟨l0, h⟩ := gd_some h
        obtain ⟨X, h⟩ := gd_some h
        refine AW.G Fm [.s, .s, .w (vb true), .s, .s, .s, .s, .s, .s, .s, .s, .s] (fun K => (ALe (vb (decide ((0 : Int) < ((List.length i : Nat) : Int)))) (vb true)) ∧ (I64 (((List.length i : Nat) : Int) - (1 : Int)) ∧ True) ∧ _ ∧ ((((List.length i : Nat) : Int) - (1 : Int)).toNat < List.length i) ∧ True) [(0, AL o), (1, AL p), (2, .v (.c (.sem (CloOK Tryz.prog (FR_Bool_Bool_Bool q))))), (7, ow 34), (10, ow 10), (11, vi e), (12, vi (gl a (e - (1 : Int)).toNat)), (13, vi ((List.length i : Nat) : Int)), (60, ow 10), (61, vi ((List.length i : Nat) : Int)), (62, vi (((List.length i : Nat) : Int) - (1 : Int))), (63, .v (.c (.pte 10 2 ((((List.length i : Nat) : Int) - (1 : Int)).toNat) 0))), (64, .v (.c (.pte 10 2 ((((List.length i : Nat) : Int) - (1 : Int)).toNat) 1))), (65, vi (gl i (((List.length i : Nat) : Int) - (1 : Int)).toNat).right_), (66, vi (gl a (e - (1 : Int)).toNat)), (67, vb (((gl i (((List.length i : Nat) : Int) - (1 : Int)).toNat).right_) == (gl a (e - (1 : Int)).toNat))), (68, vb (((gl i (((List.length i : Nat) : Int) - (1 : Int)).toNat).right_) == (gl a (e - (1 : Int)).toNat)))] [(10, AO i), (34, AO a)] ⟨ALe.bool u, ⟨l0, ⟨⟩⟩, X, (toNat_lt X), ⟨⟩⟩ ?_
        exact Kn.R Fm (U (((gl i (((List.length i : Nat) : Int) - (1 : Int)).toNat).right_) == (gl a (e - (1 : Int)).toNat)) h)
       ·have h := br_f h u
        refine AW.G Fm [.s, .s, .w (vb false), .s, .s, .s, .s, .s, .s, .s, .s, .s] (fun K => (ALe (vb (decide ((0 : Int) < ((List.length i : Nat) : Int)))) (vb false)) ∧ True) [(0, AL o), (1, AL p), (2, .v (.c (.sem (CloOK Tryz.prog (FR_Bool_Bool_Bool q))))), (7, ow 34), (10, ow 10), (11, vi e), (12, vi (gl a (e - (1 : Int)).toNat)), (13, vi ((List.length i : Nat) : Int)), (68, vb false)] [(10, AO i), (34, AO a)] ⟨ALe.bool u, ⟨⟩⟩ ?_
        exact Kn.R Fm (U false h)
   ·have h := br_f h E
    refine AW.exit ?_
    exact Kn.R Fm (e0 i h)
 ·refine AW.seq ?_
  obtain ⟨l, p0, h⟩ := bd_some h
  refine AW.G Fm [.s, .s, .w (AL (α := (List Span)) ([o, p] : List (List Span))), .k (cE [(100, 17)] [] (ow 100) [] [(100, AO l)]), .s, .s] (fun K => (ALe (.v (.c (.d (.lst 2 (litF 1 [DL o, DL p]))))) (AL (α := (List Span)) ([o, p] : List (List Span)))) ∧ K 3 ∧ True) [(0, AL o), (1, AL p), (2, .v (.c (.sem (CloOK Tryz.prog (FR_Bool_Bool_Bool q))))), (7, ow 7), (17, ow 17), (18, vi ((List.length l : Nat) : Int)), (19, vi (0 : Int))] [(7, AO (α := Int) ([] : List Int)), (17, AO l)] ⟨ALe.lst (.lit ([o, p] : List (List Span)) (by kernel_rfl)), KAt.CC (slices_Concat_Span_spec p0) Tryz.call143 [(100, 17)], ⟨⟩⟩ ?_
  refine AW.block ?_
  refine Kn.r Fm [(0, AL o), (1, AL p), (2, .v (.c (.sem (CloOK Tryz.prog (FR_Bool_Bool_Bool q))))), (7, ow 7), (17, ow 17), (18, vi ((List.length l : Nat) : Int)), (19, vi (0 : Int))] [(7, AO ([] : List Int)), (17, AO l)] (by kernel_rfl) ?_
  refine AW.loopF (E' := fun z => [(0, AL o), (1, AL p), (2, .v (.c (.sem (CloOK Tryz.prog (FR_Bool_Bool_Bool q))))), (7, ow 7), (17, ow 17), (18, vi ((List.length l : Nat) : Int)), (19, vi z.1)]) (S' := fun z => [(7, AO z.2), (17, AO l)]) (fun K0 z B0 b0 h => ?_) h
  obtain ⟨n, t⟩ := z
  refine AW.SG0 Fm 1 [(0, AL o), (1, AL p), (2, .v (.c (.sem (CloOK Tryz.prog (FR_Bool_Bool_Bool q))))), (7, ow 7), (17, ow 17), (18, vi ((List.length l : Nat) : Int)), (19, vi n), (20, vb (decide (n < ((List.length l : Nat) : Int))))] [(7, AO t), (17, AO l)] ?_
  refine AW.seq ?_
  refine AW.cond (b := (decide (n < ((List.length l : Nat) : Int)))) (by kernel_rfl) (fun B => ?_) (fun B => ?_)
  ·have h := br_t h B
   refine AW.skip ?_
   refine AW.seq ?_
   refine AW.block ?_
   obtain ⟨V, h⟩ := gd_some h
   refine AW.SG Fm [.s, .s, .s, .s] (fun K => _ ∧ (n.toNat < List.length l) ∧ True) [(0, AL o), (1, AL p), (2, .v (.c (.sem (CloOK Tryz.prog (FR_Bool_Bool_Bool q))))), (7, ow 7), (9, pt 9), (17, ow 17), (18, vi ((List.length l : Nat) : Int)), (19, vi n)] [(7, AO t), (9, bx [ci ((gl l n.toNat).left_), ci ((gl l n.toNat).right_)]), (17, AO l)] ⟨V, (toNat_lt V), ⟨⟩⟩ ?_
   obtain ⟨i0, h⟩ := gd_some h
   refine AW.G Fm [.s, .s, .s, .s, .s, .w (AL (α := Int) ([(gl l n.toNat).left_, (gl l n.toNat).right_] : List Int)), .s, .s] (fun K => (ALe (.v (.c (.d (.lst 2 (litF 1 [.int .i64 (gl l n.toNat).left_, .int .i64 (gl l n.toNat).right_]))))) (AL (α := Int) ([(gl l n.toNat).left_, (gl l n.toNat).right_] : List Int))) ∧ ((List.length (α := Int) t) + (List.length (α := Int) ([(gl l n.toNat).left_, (gl l n.toNat).right_] : List Int)) ≤ LIM ∧ (∀ j, j < List.length (α := Int) ([(gl l n.toNat).left_, (gl l n.toNat).right_] : List Int) → ((LF (α := Int) ([(gl l n.toNat).left_, (gl l n.toNat).right_] : List Int)) j).length = 1) ∧ (True)) ∧ True) [(0, AL o), (1, AL p), (2, .v (.c (.sem (CloOK Tryz.prog (FR_Bool_Bool_Bool q))))), (7, ow 29), (17, ow 17), (18, vi ((List.length l : Nat) : Int)), (19, vi n)] [(17, AO l), (29, .arr 1 ((List.length (α := Int) t) + (List.length (α := Int) ([(gl l n.toNat).left_, (gl l n.toNat).right_] : List Int))) (appF (List.length (α := Int) t) (LF (α := Int) t) (LF (α := Int) ([(gl l n.toNat).left_, (gl l n.toNat).right_] : List Int))))] ⟨ALe.lst (.lit ([(gl l n.toNat).left_, (gl l n.toNat).right_] : List Int) (by kernel_rfl)), ⟨i0, (Is.refl ([(gl l n.toNat).left_, (gl l n.toNat).right_] : List Int) : Is (List.length (α := Int) ([(gl l n.toNat).left_, (gl l n.toNat).right_] : List Int)) (LF (α := Int) ([(gl l n.toNat).left_, (gl l n.toNat).right_] : List Int)) ([(gl l n.toNat).left_, (gl l n.toNat).right_] : List Int)).len, ⟨⟩⟩, ⟨⟩⟩ ?_
   refine Kn.wk [(0, AL o), (1, AL p), (2, .v (.c (.sem (CloOK Tryz.prog (FR_Bool_Bool_Bool q))))), (7, ow 29), (17, ow 17), (18, vi ((List.length l : Nat) : Int)), (19, vi n)] [(17, AO l), (29, AO (α := Int) (t ++ ([(gl l n.toNat).left_, (gl l n.toNat).right_] : List Int)))] (FE.refl _) (⟨rfl, OLe.refl _, ⟨rfl, OLe.is (Is.app (Is.refl t) (Is.refl ([(gl l n.toNat).left_, (gl l n.toNat).right_] : List Int))), ⟨⟩⟩⟩) ?_
   obtain ⟨j0, h⟩ := gd_some h
   refine AW.G Fm [.s, .s] (fun K => (I64 (n + (1 : Int)) ∧ True) ∧ True) [(0, AL o), (1, AL p), (2, .v (.c (.sem (CloOK Tryz.prog (FR_Bool_Bool_Bool q))))), (7, ow 29), (17, ow 17), (18, vi ((List.length l : Nat) : Int)), (19, vi (n + (1 : Int)))] [(17, AO l), (29, AO (α := Int) (t ++ ([(gl l n.toNat).left_, (gl l n.toNat).right_] : List Int)))] ⟨⟨j0, ⟨⟩⟩, ⟨⟩⟩ ?_
   exact Kn.RE Fm [(7, 29)] (b0 ((n + (1 : Int)), (t ++ ([(gl l n.toNat).left_, (gl l n.toNat).right_] : List Int))) h)
  ·have h := br_f h B
   refine AW.exit ?_
   exact Kn.R Fm (c0 t h)
theorem region_Choose_1_spec {F : Nat} {e : Int} {a : (List Rect)} {b : (List Rect)} {c : Bool → Bool → Option Bool} {r : (List Span)} (h : region_Choose_1 F e a b c = some r) :
  FSpec Tryz.prog 109 [vi e, pt 0, pt 1, pt 2] [(0, .box true [.d (DL a)]), (1, .box true [.d (DL b)]), (2, .box true [.sem (CloOK Tryz.prog (FR_Bool_Bool_Bool c))])] (AL (α := Span) r) [(0, .box true [.d (DL a)]), (1, .box true [.d (DL b)]), (2, .box true [.sem (CloOK Tryz.prog (FR_Bool_Bool_Bool c))])] := by
 refine FSpec.intro prog_mixed prog_lay Tryz.func109 rfl (by kernel_rfl) fun C Fm => ?_
 unfold region_Choose_1 at h
 refine AW.SG0 Fm 1 [(0, vi e), (1, pt 0), (2, pt 1), (3, pt 2)] [(0, .box true [.d (DL a)]), (1, .box true [.d (DL b)]), (2, .box true [.sem (CloOK Tryz.prog (FR_Bool_Bool_Bool c))])] ?_
 refine AW.seq ?_
 obtain ⟨n, j, h⟩ := bd_some h
 obtain ⟨o, l, h⟩ := bd_some h
 obtain ⟨i, m, h⟩ := bd_some h
 refine AW.G Fm [.s, .s, .k (cE [] [] (AL n) [] []), .s, .s, .k (cE [] [] (AL o) [] []), .s, .k (cE [] [] (AL i) [] []), .s] (fun K => K 2 ∧ K 5 ∧ K 7 ∧ True) [(5, AL i)] [(0, .box true [.d (DL a)]), (1, .box true [.d (DL b)]), (2, .box true [.sem (CloOK Tryz.prog (FR_Bool_Bool_Bool c))])] ⟨KAt.CC (region_Row_spec j) Tryz.call111 [], KAt.CC (region_Row_spec l) Tryz.call111 [], KAt.callX (region_merge_spec m) Tryz.call110 [] [] [.tmp 8, .tmp 11, .tmp 12] rfl (by kernel_rfl) (by kernel_rfl) (by kernel_rfl) ⟨.p, .p, ArgT.semX (by kernel_rfl) (by kernel_rfl) (by kernel_rfl), ⟨⟩⟩, ⟨⟩⟩ ?_
 refine AW.ret ?_
 obtain rfl := Option.some.inj h
 exact Kn.D Fm
theorem region_Choose_spec {F : Nat} {a : (List Rect)} {b : (List Rect)} {e : Bool → Bool → Option Bool} {r : (List Rect)} (h : region_Choose F a b e = some r) :
  FSpec Tryz.prog 61 [AL a, AL b, .v (.c (.sem (CloOK Tryz.prog (FR_Bool_Bool_Bool e))))] [] (AL (α := Rect) r) [] := by
 refine FSpec.intro prog_mixed prog_lay Tryz.func61 rfl (by kernel_rfl) fun C Fm => ?_
 unfold region_Choose at h
 refine AW.SG0 Fm 4 [(3, pt 3), (4, pt 4), (5, pt 5)] [(3, bx [.d (DL a)]), (4, bx [.d (DL b)]), (5, bx [.sem (CloOK Tryz.prog (FR_Bool_Bool_Bool e))])] ?_
 refine AW.seq ?_
 obtain ⟨m, j, h⟩ := bd_some h
 obtain ⟨i, l, h⟩ := bd_some h
 refine AW.G Fm [.s, .s, .w (AL (α := (List Rect)) ([a, b] : List (List Rect))), .k (cE [] [] (AL m) [] []), .s, .k (cE [] [3, 4, 5] (AL i) [] []), .s] (fun K => (ALe (.v (.c (.d (.lst 2 (litF 1 [DL a, DL b]))))) (AL (α := (List Rect)) ([a, b] : List (List Rect)))) ∧ K 3 ∧ K 5 ∧ True) [(6, AL i)] [] ⟨ALe.lst (.lit ([a, b] : List (List Rect)) (by kernel_rfl)), KAt.CC (region_Cuts_spec j) Tryz.call108 [], KAt.callX (region_Build_spec l) Tryz.call107 [] [3, 4, 5] [.tmp 10, .tmp 11] rfl (by kernel_rfl) (by kernel_rfl) (by kernel_rfl) ⟨.p, ArgT.cloXP Tryz.call109 [[.d (DL a)], [.d (DL b)], [.sem (CloOK Tryz.prog (FR_Bool_Bool_Bool e))]] (fun args r hq => by obtain ⟨y0, y, hq, rfl, rfl⟩ := hq; exact Eq.mp (by kernel_rfl) (region_Choose_1_spec hq)) (fun args r hq => by obtain ⟨y0, y, hq, rfl, rfl⟩ := hq; rfl) (by kernel_rfl) [3, 4, 5] (by kernel_rfl) (by kernel_rfl) ⟨⟨.inl (by kernel_rfl), ⟨⟩⟩, ⟨.inl (by kernel_rfl), ⟨⟩⟩, ⟨.inr ⟨_, rfl⟩, ⟨⟩⟩, ⟨⟩⟩ (⟨⟨false, (by kernel_rfl)⟩, ⟨⟨false, (by kernel_rfl)⟩, ⟨⟨false, (by kernel_rfl)⟩, ⟨⟩⟩⟩⟩) (by kernel_rfl), ⟨⟩⟩, ⟨⟩⟩ ?_
 refine AW.ret ?_
 obtain rfl := Option.some.inj h
 exact Kn.D Fm
theorem zone_Soft_1_spec {F : Nat} {a : Bool} {c : Bool} {r : Bool} (h : zone_Soft_1 F a c = some r) :
  FSpec Tryz.prog 65 [vb a, vb c] [] (vb r) [] := by
 refine FSpec.intro prog_mixed prog_lay Tryz.func65 rfl (by kernel_rfl) fun C Fm => ?_
 unfold zone_Soft_1 at h
 refine AW.SG0 Fm 1 [(0, vb a), (1, vb c)] [] ?_
 refine AW.join (r := r) (fun z : Bool => zone_Soft_1_k0 F z) (fun z => [(4, vb z)]) (fun z => []) (fun i h => ?_) (fun e d => ?_)
 ·refine AW.ret ?_
  obtain rfl := Option.some.inj h
  exact Kn.D Fm
 ·rcases Bool.eq_false_or_eq_true a with b | b
  ·have h := br_t h b
   refine AW.G Fm [.s, .w (vb true), .s, .s, .s] (fun K => (ALe (vb a) (vb true)) ∧ True) [(4, vb c)] [] ⟨ALe.bool b, ⟨⟩⟩ ?_
   exact Kn.R Fm (d c h)
  ·have h := br_f h b
   refine AW.G Fm [.s, .w (vb false), .s, .s, .s] (fun K => (ALe (vb a) (vb false)) ∧ True) [(4, vb false)] [] ⟨ALe.bool b, ⟨⟩⟩ ?_
   exact Kn.R Fm (d false h)
theorem shape_common_spec {F : Nat} {a : Rect} {c : Rect} {r : Int} (h : shape_common F a c = some r) :
  FSpec Tryz.prog 118 [gE a, gE c] [] (vi r) [] := by
 refine FSpec.intro prog_mixed prog_lay Tryz.func118 rfl (by kernel_rfl) fun C Fm => ?_
 unfold shape_common at h
 refine AW.SG0 Fm 3 [(2, pt 2), (3, pt 3)] [(2, bx (gC a)), (3, bx (gC c))] ?_
 refine AW.SG0 Fm 1 [(2, pt 2), (3, pt 3), (5, vi (0 : Int))] [(2, bx (gC a)), (3, bx (gC c))] ?_
 refine AW.join (r := r) (fun z : Int => shape_common_k1 F a c z) (fun z => [(2, pt 2), (3, pt 3), (5, vi z)]) (fun z => [(2, bx (gC a)), (3, bx (gC c))]) (fun d h => ?_) (fun H m => ?_)
 ·refine AW.join (r := r) (fun z : Int => shape_common_k3 F z) (fun z => [(5, vi z)]) (fun z => []) (fun B h => ?_) (fun L o => ?_)
  ·refine AW.SG0 Fm 2 [(4, vi B)] [] ?_
   refine AW.ret ?_
   obtain rfl := Option.some.inj h
   exact Kn.D Fm
  ·refine AW.join (r := r) (fun z : Bool => shape_common_k2 F a c d z) (fun z => [(2, pt 2), (3, pt 3), (5, vi d), (43, vb z)]) (fun z => [(2, bx (gC a)), (3, bx (gC c))]) (fun A h => ?_) (fun I n => ?_)
   ·refine AW.cond (b := A) (by kernel_rfl) (fun k => ?_) (fun k => ?_)
    ·have h := br_t h k
     obtain ⟨t, h⟩ := gd_some h
     obtain ⟨u, h⟩ := gd_some h
     refine AW.G Fm [.s, .s, .s, .s, .s, .s, .s, .s, .s, .s, .s, .s, .s, .s, .s] (fun K => (I64 ((gmin a.right_ c.right_) - (gmax a.left_ c.left_)) ∧ True) ∧ (I64 (d + (gmax (0 : Int) ((gmin a.right_ c.right_) - (gmax a.left_ c.left_)))) ∧ True) ∧ True) [(5, vi (d + (gmax (0 : Int) ((gmin a.right_ c.right_) - (gmax a.left_ c.left_)))))] [] ⟨⟨t, ⟨⟩⟩, ⟨u, ⟨⟩⟩, ⟨⟩⟩ ?_
     exact Kn.R Fm (o (d + (gmax (0 : Int) ((gmin a.right_ c.right_) - (gmax a.left_ c.left_)))) h)
    ·have h := br_f h k
     refine AW.skip ?_
     exact Kn.R Fm (o d h)
   ·rcases Bool.eq_false_or_eq_true (a.high_ == c.low_) with i | i
    ·have h := br_t h i
     refine AW.G Fm [.s, .s, .s, .s, .s, .w (vb true), .s, .s, .s, .s, .s, .s] (fun K => (ALe (vb (a.high_ == c.low_)) (vb true)) ∧ True) [(2, pt 2), (3, pt 3), (5, vi d), (43, vb true)] [(2, bx (gC a)), (3, bx (gC c))] ⟨ALe.bool i, ⟨⟩⟩ ?_
     exact Kn.R Fm (n true h)
    ·have h := br_f h i
     refine AW.G Fm [.s, .s, .s, .s, .s, .w (vb false), .s, .s, .s, .s, .s, .s] (fun K => (ALe (vb (a.high_ == c.low_)) (vb false)) ∧ True) [(2, pt 2), (3, pt 3), (5, vi d), (43, vb (c.high_ == a.low_))] [(2, bx (gC a)), (3, bx (gC c))] ⟨ALe.bool i, ⟨⟩⟩ ?_
     exact Kn.R Fm (n (c.high_ == a.low_) h)
 ·refine AW.join (r := r) (fun z : Bool => shape_common_k0 F a c z) (fun z => [(2, pt 2), (3, pt 3), (5, vi (0 : Int)), (17, vb z)]) (fun z => [(2, bx (gC a)), (3, bx (gC c))]) (fun y h => ?_) (fun E l => ?_)
  ·refine AW.cond (b := y) (by kernel_rfl) (fun j => ?_) (fun j => ?_)
   ·have h := br_t h j
    obtain ⟨p, h⟩ := gd_some h
    obtain ⟨q, h⟩ := gd_some h
    refine AW.G Fm [.s, .s, .s, .s, .s, .s, .s, .s, .s, .s, .s, .s, .s, .s, .s] (fun K => (I64 ((gmin a.high_ c.high_) - (gmax a.low_ c.low_)) ∧ True) ∧ (I64 ((0 : Int) + (gmax (0 : Int) ((gmin a.high_ c.high_) - (gmax a.low_ c.low_)))) ∧ True) ∧ True) [(2, pt 2), (3, pt 3), (5, vi ((0 : Int) + (gmax (0 : Int) ((gmin a.high_ c.high_) - (gmax a.low_ c.low_)))))] [(2, bx (gC a)), (3, bx (gC c))] ⟨⟨p, ⟨⟩⟩, ⟨q, ⟨⟩⟩, ⟨⟩⟩ ?_
    exact Kn.R Fm (m ((0 : Int) + (gmax (0 : Int) ((gmin a.high_ c.high_) - (gmax a.low_ c.low_)))) h)
   ·have h := br_f h j
    refine AW.skip ?_
    exact Kn.R Fm (m (0 : Int) h)
  ·rcases Bool.eq_false_or_eq_true (a.right_ == c.left_) with e | e
   ·have h := br_t h e
    refine AW.G Fm [.s, .s, .s, .s, .s, .w (vb true), .s, .s, .s, .s, .s, .s] (fun K => (ALe (vb (a.right_ == c.left_)) (vb true)) ∧ True) [(2, pt 2), (3, pt 3), (5, vi (0 : Int)), (17, vb true)] [(2, bx (gC a)), (3, bx (gC c))] ⟨ALe.bool e, ⟨⟩⟩ ?_
    exact Kn.R Fm (l true h)
   ·have h := br_f h e
    refine AW.G Fm [.s, .s, .s, .s, .s, .w (vb false), .s, .s, .s, .s, .s, .s] (fun K => (ALe (vb (a.right_ == c.left_)) (vb false)) ∧ True) [(2, pt 2), (3, pt 3), (5, vi (0 : Int)), (17, vb (c.right_ == a.left_))] [(2, bx (gC a)), (3, bx (gC c))] ⟨ALe.bool e, ⟨⟩⟩ ?_
    exact Kn.R Fm (l (c.right_ == a.left_) h)
theorem shape_Joined_1_spec {F : Nat} {a : Rect} {e : (List Rect)} {i : Int} {r : (List Rect) × Bool} (h : shape_Joined_1 F a e i = some r) :
  FSpec Tryz.prog 117 [gE a, pt 0, pt 1] [(0, bx [.ap 60]), (1, bx [ci i]), (60, AP e)] (vb r.2) [(0, bx [.ap 70]), (1, bx [ci i]), (70, AP (α := Rect) r.1)] := by
 refine FSpec.intro prog_mixed prog_lay Tryz.func117 rfl (by kernel_rfl) fun C Fm => ?_
 unfold shape_Joined_1 at h
 refine Kn.re Fm [(960, 60)] [(0, gE a), (1, pt 0), (2, pt 1)] [(0, bx [.ap 960]), (1, bx [ci i]), (960, AP e)] (by kernel_rfl) (by kernel_rfl) (by kernel_rfl) (by kernel_rfl) ?_
 refine AW.SG0 Fm 2 [(1, pt 0), (2, pt 1), (3, pt 3)] [(0, bx [.ap 960]), (1, bx [ci i]), (3, bx (gC a)), (960, AP e)] ?_
 refine AW.join (r := r) (fun z : Bool => shape_Joined_1_k0 F a e z) (fun z => [(1, pt 0), (3, pt 3), (5, vb z)]) (fun z => [(0, bx [.ap 960]), (1, bx [ci i]), (3, bx (gC a)), (960, AP e)]) (fun l h => ?_) (fun D A => ?_)
 ·refine AW.join (r := r) (fun z : (List Rect) => shape_Joined_1_k1 F l z) (fun z => [(5, vb l)]) (fun z => [(0, bx [.ap 17]), (1, bx [ci i]), (17, AP z)]) (fun B h => ?_) (fun E q => ?_)
  ·refine AW.SG0 Fm 2 [(4, vb l)] [(0, bx [.ap 17]), (1, bx [ci i]), (17, AP B)] ?_
   refine AW.ret ?_
   obtain rfl := Option.some.inj h
   exact Kn.re Fm [(70, 17)] [(4, vb l)] [(0, bx [.ap 70]), (1, bx [ci i]), (70, AP B)] (by kernel_rfl) (by kernel_rfl) (by kernel_rfl) (by kernel_rfl) (Kn.dn Fm (by kernel_rfl))
  ·refine AW.SG0 Fm 1 [(1, pt 0), (3, pt 3), (5, vb l), (13, vb l)] [(0, bx [.ap 960]), (1, bx [ci i]), (3, bx (gC a)), (960, AP e)] ?_
   refine AW.cond (b := l) (by kernel_rfl) (fun t => ?_) (fun t => ?_)
   ·have h := br_t h t
    refine Kn.r Fm [(1, pt 0), (3, pt 3), (5, vb l), (13, vb l)] [(960, AP e), (0, bx [.ap 960]), (1, bx [ci i]), (3, bx (gC a))] (by kernel_rfl) ?_
    refine Kn.ap_split (by kernel_rfl) ?_ ?_
    ·refine Kn.r Fm [(1, pt 0), (3, pt 3), (5, vb l), (13, vb l)] [(0, bx [.own 960]), (1, bx [ci i]), (3, bx (gC a)), (960, AO e)] (by kernel_rfl) ?_
     obtain ⟨u, h⟩ := gd_some h
     refine AW.G Fm [.s, .s, .w (AL (α := Rect) ([a] : List Rect)), .s, .s] (fun K => (ALe (.v (.c (.d (.lst 1 (litF 4 [.int .i64 a.left_, .int .i64 a.low_, .int .i64 a.right_, .int .i64 a.high_]))))) (AL (α := Rect) ([a] : List Rect))) ∧ ((List.length (α := Rect) e) + (List.length (α := Rect) ([a] : List Rect)) ≤ LIM ∧ (∀ j, j < List.length (α := Rect) ([a] : List Rect) → ((LF (α := Rect) ([a] : List Rect)) j).length = 4) ∧ (True)) ∧ True) [(5, vb l)] [(0, bx [.own 17]), (1, bx [ci i]), (17, .arr 4 ((List.length (α := Rect) e) + (List.length (α := Rect) ([a] : List Rect))) (appF (List.length (α := Rect) e) (LF (α := Rect) e) (LF (α := Rect) ([a] : List Rect))))] ⟨ALe.lst (.lit ([a] : List Rect) (by kernel_rfl)), ⟨u, (Is.refl ([a] : List Rect) : Is (List.length (α := Rect) ([a] : List Rect)) (LF (α := Rect) ([a] : List Rect)) ([a] : List Rect)).len, ⟨⟩⟩, ⟨⟩⟩ ?_
     refine Kn.wk [(5, vb l)] [(0, bx [.own 17]), (1, bx [ci i]), (17, AO (α := Rect) (e ++ ([a] : List Rect)))] (FE.refl _) (⟨rfl, OLe.refl _, ⟨rfl, OLe.refl _, ⟨rfl, OLe.is (Is.app (Is.refl e) (Is.refl ([a] : List Rect))), ⟨⟩⟩⟩⟩) ?_
     refine Kn.r Fm [(5, vb l)] [(0, bx [.own 17]), (1, bx [ci i]), (17, AO (α := Rect) (e ++ ([a] : List Rect)))] (by kernel_rfl) ?_
     refine Kn.wk [(5, vb l)] [(0, bx [.ap 17]), (1, bx [ci i]), (17, AP (α := Rect) (e ++ ([a] : List Rect)))] ⟨rfl, ALe.refl _, ⟨⟩⟩ ⟨rfl, OLe.box ⟨CLe.ap 17, ⟨⟩⟩, ⟨rfl, OLe.refl _, ⟨rfl, OLe.ap _ _ _, ⟨⟩⟩⟩⟩ ?_
     exact Kn.R Fm (q (e ++ ([a] : List Rect)) h)
    ·refine Kn.r Fm [(1, pt 0), (3, pt 3), (5, vb l), (13, vb l)] [(0, bx [.fl (List.length (α := Rect) e) (LF (α := Rect) e)]), (1, bx [ci i]), (3, bx (gC a))] (by kernel_rfl) ?_
     obtain ⟨u, h⟩ := gd_some h
     refine AW.G Fm [.s, .s, .w (AL (α := Rect) ([a] : List Rect)), .k (rE { v := .v (.c (.own 17)), new := some (.arr 4 ((List.length (α := Rect) e) + (List.length (α := Rect) ([a] : List Rect))) (appF (List.length (α := Rect) e) (LF (α := Rect) e) (LF (α := Rect) ([a] : List Rect)))) }), .s] (fun K => (ALe (.v (.c (.d (.lst 1 (litF 4 [.int .i64 a.left_, .int .i64 a.low_, .int .i64 a.right_, .int .i64 a.high_]))))) (AL (α := Rect) ([a] : List Rect))) ∧ K 3 ∧ True) [(5, vb l)] [(0, bx [.own 17]), (1, bx [ci i]), (17, .arr 4 ((List.length (α := Rect) e) + (List.length (α := Rect) ([a] : List Rect))) (appF (List.length (α := Rect) e) (LF (α := Rect) e) (LF (α := Rect) ([a] : List Rect))))] ⟨ALe.lst (.lit ([a] : List Rect) (by kernel_rfl)), KAt.fappend (n := List.length (α := Rect) e) (m := List.length (α := Rect) ([a] : List Rect)) (f := LF (α := Rect) e) (g := LF (α := Rect) ([a] : List Rect)) prog_lay slT27 rfl rfl (by kernel_rfl) (by kernel_rfl) (by kernel_rfl) (Nat.succ_pos _) u (Is.refl ([a] : List Rect) : Is (List.length (α := Rect) ([a] : List Rect)) (LF (α := Rect) ([a] : List Rect)) ([a] : List Rect)).len (Is.refl e : Is (List.length (α := Rect) e) (LF (α := Rect) e) e).len, ⟨⟩⟩ ?_
     refine Kn.wk [(5, vb l)] [(0, bx [.own 17]), (1, bx [ci i]), (17, AO (α := Rect) (e ++ ([a] : List Rect)))] (FE.refl _) (⟨rfl, OLe.refl _, ⟨rfl, OLe.refl _, ⟨rfl, OLe.is (Is.app (Is.refl e) (Is.refl ([a] : List Rect))), ⟨⟩⟩⟩⟩) ?_
     refine Kn.r Fm [(5, vb l)] [(0, bx [.own 17]), (1, bx [ci i]), (17, AO (α := Rect) (e ++ ([a] : List Rect)))] (by kernel_rfl) ?_
     refine Kn.wk [(5, vb l)] [(0, bx [.ap 17]), (1, bx [ci i]), (17, AP (α := Rect) (e ++ ([a] : List Rect)))] ⟨rfl, ALe.refl _, ⟨⟩⟩ ⟨rfl, OLe.box ⟨CLe.ap 17, ⟨⟩⟩, ⟨rfl, OLe.refl _, ⟨rfl, OLe.ap _ _ _, ⟨⟩⟩⟩⟩ ?_
     exact Kn.R Fm (q (e ++ ([a] : List Rect)) h)
   ·have h := br_f h t
    refine AW.skip ?_
    exact Kn.RE Fm [(17, 960)] (q e h)
 ·refine Kn.r Fm [(1, pt 0), (2, pt 1), (3, pt 3)] [(960, AP e), (0, bx [.ap 960]), (1, bx [ci i]), (3, bx (gC a))] (by kernel_rfl) ?_
  refine Kn.ap_split (by kernel_rfl) ?_ ?_
  ·refine Kn.r Fm [(1, pt 0), (2, pt 1), (3, pt 3)] [(0, bx [.own 960]), (1, bx [ci i]), (3, bx (gC a)), (960, AO e)] (by kernel_rfl) ?_
   obtain ⟨p, h⟩ := gd_some h
   obtain ⟨o, y, h⟩ := bd_some h
   refine AW.G Fm [.s, .s, .s, .s, .s, .k (cE [] [] (vi o) [] []), .s, .s] (fun K => _ ∧ (i.toNat < List.length e) ∧ K 5 ∧ True) [(1, pt 0), (3, pt 3), (5, vb (decide ((0 : Int) < o)))] [(0, bx [.own 960]), (1, bx [ci i]), (3, bx (gC a)), (960, AO e)] ⟨p, (toNat_lt p), KAt.CC (shape_common_spec y) Tryz.call118 [], ⟨⟩⟩ ?_
   refine Kn.r Fm [(1, pt 0), (3, pt 3), (5, vb (decide ((0 : Int) < o)))] [(0, bx [.own 960]), (1, bx [ci i]), (3, bx (gC a)), (960, AO e)] (by kernel_rfl) ?_
   refine Kn.wk [(1, pt 0), (3, pt 3), (5, vb (decide ((0 : Int) < o)))] [(0, bx [.ap 960]), (1, bx [ci i]), (3, bx (gC a)), (960, AP e)] ⟨rfl, ALe.refl _, ⟨rfl, ALe.refl _, ⟨rfl, ALe.refl _, ⟨⟩⟩⟩⟩ ⟨rfl, OLe.box ⟨CLe.ap 960, ⟨⟩⟩, ⟨rfl, OLe.refl _, ⟨rfl, OLe.refl _, ⟨rfl, OLe.ap _ _ _, ⟨⟩⟩⟩⟩⟩ ?_
   exact Kn.R Fm (A (decide ((0 : Int) < o)) h)
  ·refine Kn.r Fm [(1, pt 0), (2, pt 1), (3, pt 3)] [(0, bx [.fl (List.length (α := Rect) e) (LF (α := Rect) e)]), (1, bx [ci i]), (3, bx (gC a))] (by kernel_rfl) ?_
   obtain ⟨p, h⟩ := gd_some h
   obtain ⟨o, y, h⟩ := bd_some h
   refine AW.G Fm [.s, .s, .s, .s, .s, .k (cE [] [] (vi o) [] []), .s, .s] (fun K => _ ∧ K 5 ∧ True) [(1, pt 0), (3, pt 3), (5, vb (decide ((0 : Int) < o)))] [(0, bx [.fl (List.length (α := Rect) e) (LF (α := Rect) e)]), (1, bx [ci i]), (3, bx (gC a))] ⟨p, KAt.CC (shape_common_spec y) Tryz.call118 [], ⟨⟩⟩ ?_
   refine Kn.r Fm [(1, pt 0), (3, pt 3), (5, vb (decide ((0 : Int) < o)))] [(0, bx [.fl (List.length (α := Rect) e) (LF (α := Rect) e)]), (1, bx [ci i]), (3, bx (gC a))] (by kernel_rfl) ?_
   refine Kn.ap0 Fm (k := 960) (es := 4) (j := 0) (by kernel_rfl) (by kernel_rfl) (by simp) rfl ?_
   refine Kn.r Fm [(1, pt 0), (3, pt 3), (5, vb (decide ((0 : Int) < o)))] [(0, bx [.ap 960]), (1, bx [ci i]), (3, bx (gC a)), (960, AP e)] (by kernel_rfl) ?_
   exact Kn.R Fm (A (decide ((0 : Int) < o)) h)
theorem slices_Clone_Rect_O_spec {F : Nat} {a : (List Rect)} {r : (List Rect)} (h : slices_Clone_Rect_O F a = some r) :
  FSpec Tryz.prog 115 [AL a] [] (ow 100) [(100, AO (α := Rect) r)] := by
 refine FSpec.intro prog_mixed prog_lay Tryz.func115 rfl (by kernel_rfl) fun C Fm => ?_
 unfold slices_Clone_Rect_O at h
 refine AW.SG Fm [.m] (fun K => True) [(0, AL a)] [] True.intro ?_
 refine AW.seq ?_
 refine AW.SG Fm [.s, .k (sE (nb (List.length a)))] (fun K => K 1 ∧ True) [(0, AL a), (4, .v (.c (.sem (nbP (List.length a)))))] [] ⟨KAt.nil (t := 27) (el := 78) (n := List.length a) (by kernel_rfl) rfl rfl (by kernel_rfl) (by kernel_rfl) (by kernel_rfl), ⟨⟩⟩ ?_
 refine AW.condNil (n := List.length a) (by kernel_rfl) (fun d => ?_) ?_
 ·have h := brN_t h d
  refine AW.SG Fm [.m] (fun K => True) [(2, ow 2)] [(2, .arr 4 (0) (fun _ => []))] True.intro ?_
  refine Kn.wk [(2, ow 2)] [(2, AO (α := Rect) ([] : List Rect))] (FE.refl _) (⟨rfl, OLe.is ((Is.nil (α := Rect))), ⟨⟩⟩) ?_
  refine AW.ret ?_
  obtain rfl := Option.some.inj h
  exact Kn.re Fm [(100, 2)] [(2, ow 100)] [(100, AO (α := Rect) ([] : List Rect))] (by kernel_rfl) (by kernel_rfl) (by kernel_rfl) (by kernel_rfl) (Kn.dn Fm (by kernel_rfl))
 ·have h := brN_f h
  refine AW.skip ?_
  obtain ⟨b, h⟩ := gd_some h
  refine AW.SG Fm [.m, .s, .s, .s] (fun K => ((0) + (List.length (α := Rect) a) ≤ LIM ∧ (∀ j, j < List.length (α := Rect) a → ((LF (α := Rect) a) j).length = 4) ∧ (True)) ∧ True) [(2, ow 7)] [(7, .arr 4 ((0) + (List.length (α := Rect) a)) (appF (0) (litF 4 []) (LF (α := Rect) a)))] ⟨⟨b, (Is.refl a : Is (List.length (α := Rect) a) (LF (α := Rect) a) a).len, ⟨⟩⟩, ⟨⟩⟩ ?_
  refine Kn.wk [(2, ow 7)] [(7, AO (α := Rect) (([] : List Rect) ++ a))] (FE.refl _) (⟨rfl, OLe.is (Is.app (Is.lit ([] : List Rect) (by kernel_rfl)) (Is.refl a)), ⟨⟩⟩) ?_
  refine AW.ret ?_
  obtain rfl := Option.some.inj h
  exact Kn.re Fm [(100, 7)] [(2, ow 100)] [(100, AO (α := Rect) (([] : List Rect) ++ a))] (by kernel_rfl) (by kernel_rfl) (by kernel_rfl) (by kernel_rfl) (Kn.dn Fm (by kernel_rfl))
theorem slices_IndexFunc_Rect_J_spec {F : Nat} {a : (List Rect)} {j : (List Rect)} {d : Int} {r : (List Rect) × (List Rect) × Int} (h : slices_IndexFunc_Rect_J F a j d = some r) :
  FSpec Tryz.prog 147 [ow 0, .v (.c (.clo 117 [50, 51]))] [(0, AO a), (50, bx [.ap 60]), (51, bx [ci d]), (60, AP j)] (vi r.2.2) [(0, AO (α := Rect) r.1), (50, bx [.ap 70]), (51, bx [ci d]), (70, AP (α := Rect) r.2.1)] := by
 refine FSpec.intro prog_mixed prog_lay Tryz.func147 rfl (by kernel_rfl) fun C Fm => ?_
 unfold slices_IndexFunc_Rect_J at h
 refine Kn.re Fm [(960, 60)] [(0, ow 0), (1, .v (.c (.clo 117 [50, 51])))] [(0, AO a), (50, bx [.ap 960]), (51, bx [ci d]), (960, AP j)] (by kernel_rfl) (by kernel_rfl) (by kernel_rfl) (by kernel_rfl) ?_
 refine AW.SG0 Fm 1 [(0, ow 0), (1, .v (.c (.clo 117 [50, 51])))] [(0, AO a), (50, bx [.ap 960]), (51, bx [ci d]), (960, AP j)] ?_
 refine AW.join (r := r) (fun z : (List Rect) => slices_IndexFunc_Rect_J_k1 F a z) (fun z => []) (fun z => [(0, AO a), (50, bx [.ap 960]), (51, bx [ci d]), (960, AP z)]) (fun p h => ?_) (fun A t => ?_)
 ·refine AW.SG0 Fm 1 [(4, vi (-1 : Int))] [(0, AO a), (50, bx [.ap 960]), (51, bx [ci d]), (960, AP p)] ?_
  refine AW.ret ?_
  obtain rfl := Option.some.inj h
  exact Kn.re Fm [(70, 960)] [(4, vi (-1 : Int))] [(0, AO a), (50, bx [.ap 70]), (51, bx [ci d]), (70, AP p)] (by kernel_rfl) (by kernel_rfl) (by kernel_rfl) (by kernel_rfl) (Kn.dn Fm (by kernel_rfl))
 ·refine AW.SG0 Fm 3 [(0, ow 0), (1, .v (.c (.clo 117 [50, 51]))), (7, vi ((List.length a : Nat) : Int)), (8, vi (0 : Int))] [(0, AO a), (50, bx [.ap 960]), (51, bx [ci d]), (960, AP j)] ?_
  refine AW.block ?_
  refine Kn.r Fm [(0, ow 0), (1, .v (.c (.clo 117 [50, 51]))), (7, vi ((List.length a : Nat) : Int)), (8, vi (0 : Int))] [(0, AO a), (50, bx [.ap 960]), (51, bx [ci d]), (960, AP j)] (by kernel_rfl) ?_
  refine AW.loopF (E' := fun z => [(0, ow 0), (1, .v (.c (.clo 117 [50, 51]))), (7, vi ((List.length a : Nat) : Int)), (8, vi z.1)]) (S' := fun z => [(0, AO a), (50, bx [.ap 960]), (51, bx [ci d]), (960, AP z.2)]) (fun B z y q h => ?_) h
  obtain ⟨e, l⟩ := z
  refine AW.SG0 Fm 1 [(0, ow 0), (1, .v (.c (.clo 117 [50, 51]))), (7, vi ((List.length a : Nat) : Int)), (8, vi e), (9, vb (decide (e < ((List.length a : Nat) : Int))))] [(0, AO a), (50, bx [.ap 960]), (51, bx [ci d]), (960, AP l)] ?_
  refine AW.seq ?_
  refine AW.cond (b := (decide (e < ((List.length a : Nat) : Int)))) (by kernel_rfl) (fun m => ?_) (fun m => ?_)
  ·have h := br_t h m
   refine AW.skip ?_
   refine AW.seq ?_
   refine AW.block ?_
   refine AW.SG0 Fm 2 [(0, ow 0), (1, .v (.c (.clo 117 [50, 51]))), (5, vi e), (7, vi ((List.length a : Nat) : Int)), (8, vi e)] [(0, AO a), (50, bx [.ap 960]), (51, bx [ci d]), (960, AP l)] ?_
   refine AW.seq ?_
   obtain ⟨o, h⟩ := gd_some h
   obtain ⟨i, w, h⟩ := bd_some h
   refine AW.G Fm [.s, .s, .s, .s, .s, .k (cE [(0, 50), (60, 960), (70, 1016), (1, 51)] [] (vb i.2) [(0, bx [.ap 60]), (1, bx [ci d]), (60, AP l)] [(0, bx [.ap 70]), (1, bx [ci d]), (70, AP i.1)])] (fun K => _ ∧ (e.toNat < List.length a) ∧ K 5 ∧ True) [(0, ow 0), (1, .v (.c (.clo 117 [50, 51]))), (5, vi e), (7, vi ((List.length a : Nat) : Int)), (8, vi e), (16, vb i.2)] [(0, AO a), (50, bx [.ap 1016]), (51, bx [ci d]), (1016, AP i.1)] ⟨o, (toNat_lt o), KAt.clC (args := [.v (.g [ci ((gl a e.toNat).left_), ci ((gl a e.toNat).low_), ci ((gl a e.toNat).right_), ci ((gl a e.toNat).high_)])]) (caps := [0, 1]) (shape_Joined_1_spec w) Tryz.call117 [(0, 50), (60, 960), (70, 1016), (1, 51)] rfl (by kernel_rfl), ⟨⟩⟩ ?_
   refine AW.cond (b := i.2) (by kernel_rfl) (fun n => ?_) (fun n => ?_)
   ·have h := br_t h n
    refine AW.SG0 Fm 2 [(4, vi e)] [(0, AO a), (50, bx [.ap 1016]), (51, bx [ci d]), (1016, AP i.1)] ?_
    refine AW.ret ?_
    obtain rfl := Option.some.inj h
    exact Kn.re Fm [(70, 1016)] [(4, vi e)] [(0, AO a), (50, bx [.ap 70]), (51, bx [ci d]), (70, AP i.1)] (by kernel_rfl) (by kernel_rfl) (by kernel_rfl) (by kernel_rfl) (Kn.dn Fm (by kernel_rfl))
   ·have h := br_f h n
    refine AW.skip ?_
    obtain ⟨u, h⟩ := gd_some h
    refine AW.G Fm [.s, .s] (fun K => (I64 (e + (1 : Int)) ∧ True) ∧ True) [(0, ow 0), (1, .v (.c (.clo 117 [50, 51]))), (7, vi ((List.length a : Nat) : Int)), (8, vi (e + (1 : Int)))] [(0, AO a), (50, bx [.ap 1016]), (51, bx [ci d]), (1016, AP i.1)] ⟨⟨u, ⟨⟩⟩, ⟨⟩⟩ ?_
    exact Kn.RE Fm [(960, 1016)] (q ((e + (1 : Int)), i.1) h)
  ·have h := br_f h m
   refine AW.exit ?_
   exact Kn.R Fm (t l h)
theorem slices_DeleteFunc_Rect_J_spec {F : Nat} {A : (List Rect)} {B : (List Rect)} {o : Int} {r : (List Rect) × (List Rect)} (h : slices_DeleteFunc_Rect_J F A B o = some r) :
  FSpec Tryz.prog 116 [ow 0, .v (.c (.clo 117 [50, 51]))] [(0, AO A), (50, bx [.ap 60]), (51, bx [ci o]), (60, AP B)] (ow 100) [(50, bx [.ap 70]), (51, bx [ci o]), (70, AP (α := Rect) r.1), (100, AO (α := Rect) r.2)] := by
 refine FSpec.intro prog_mixed prog_lay Tryz.func116 rfl (by kernel_rfl) fun C Fm => ?_
 unfold slices_DeleteFunc_Rect_J at h
 refine Kn.re Fm [(960, 60)] [(0, ow 0), (1, .v (.c (.clo 117 [50, 51])))] [(0, AO A), (50, bx [.ap 960]), (51, bx [ci o]), (960, AP B)] (by kernel_rfl) (by kernel_rfl) (by kernel_rfl) (by kernel_rfl) ?_
 refine AW.SG Fm [.m] (fun K => True) [(0, ow 0), (1, .v (.c (.clo 117 [50, 51])))] [(0, AO A), (50, bx [.ap 960]), (51, bx [ci o]), (960, AP B)] True.intro ?_
 refine AW.seq ?_
 obtain ⟨q, d0, h⟩ := bd_some h
 refine AW.G Fm [.s, .s, .k (cE [(0, 0), (50, 50), (60, 960), (70, 1010), (51, 51)] [] (vi q.2.2) [(0, AO A), (50, bx [.ap 60]), (51, bx [ci o]), (60, AP B)] [(0, AO q.1), (50, bx [.ap 70]), (51, bx [ci o]), (70, AP q.2.1)]), .s] (fun K => K 2 ∧ True) [(0, ow 0), (1, .v (.c (.clo 117 [50, 51]))), (5, vi q.2.2)] [(0, AO q.1), (50, bx [.ap 1010]), (51, bx [ci o]), (1010, AP q.2.1)] ⟨KAt.CC (slices_IndexFunc_Rect_J_spec d0) Tryz.call147 [(0, 0), (50, 50), (60, 960), (70, 1010), (51, 51)], ⟨⟩⟩ ?_
 refine AW.seq ?_
 refine AW.SG0 Fm 2 [(0, ow 0), (1, .v (.c (.clo 117 [50, 51]))), (5, vi q.2.2), (12, vb (q.2.2 == (-1 : Int)))] [(0, AO q.1), (50, bx [.ap 1010]), (51, bx [ci o]), (1010, AP q.2.1)] ?_
 refine AW.cond (b := (q.2.2 == (-1 : Int))) (by kernel_rfl) (fun E => ?_) (fun E => ?_)
 ·have h := br_t h E
  refine AW.SG0 Fm 2 [(4, ow 0)] [(0, AO q.1), (50, bx [.ap 1010]), (51, bx [ci o]), (1010, AP q.2.1)] ?_
  refine AW.ret ?_
  obtain rfl := Option.some.inj h
  exact Kn.re Fm [(70, 1010), (100, 0)] [(4, ow 100)] [(50, bx [.ap 70]), (51, bx [ci o]), (70, AP q.2.1), (100, AO q.1)] (by kernel_rfl) (by kernel_rfl) (by kernel_rfl) (by kernel_rfl) (Kn.dn Fm (by kernel_rfl))
 ·have h := br_f h E
  refine AW.skip ?_
  refine AW.join (r := r) (fun z : Int × (List Rect) × (List Rect) => slices_DeleteFunc_Rect_J_k2 F z.1 z.2.1 z.2.2) (fun z => [(0, ow 0), (5, vi z.1)]) (fun z => [(0, AO z.2.1), (50, bx [.ap 1010]), (51, bx [ci o]), (1010, AP z.2.2)]) (fun z h => ?_) (fun k0 Y => ?_)
  ·obtain ⟨e, p, y⟩ := z
   obtain ⟨c0, h⟩ := gd_some h
   refine AW.SG Fm [.s, .s, .k (rE { v := .v (.c (.sub 0 4 (0 + (e).toNat) ((List.length (α := Rect) p) - (e).toNat))) }), .k (rE { v := .any, upd := some (0, .arr 4 (List.length (α := Rect) p) (fun i => if (0 + (e).toNat) ≤ i ∧ i < (0 + (e).toNat) + ((List.length (α := Rect) p) - (e).toNat) then (fun _ => [.int .i64 0, .int .i64 0, .int .i64 0, .int .i64 0]) (i - (0 + (e).toNat)) else (LF (α := Rect) p) i)) })] (fun K => K 2 ∧ K 3 ∧ True) [(0, ow 0), (5, vi e)] [(0, .arr 4 (List.length (α := Rect) p) (fun i => if (0 + (e).toNat) ≤ i ∧ i < (0 + (e).toNat) + ((List.length (α := Rect) p) - (e).toNat) then (fun _ => [.int .i64 0, .int .i64 0, .int .i64 0, .int .i64 0]) (i - (0 + (e).toNat)) else (LF (α := Rect) p) i)), (50, bx [.ap 1010]), (51, bx [ci o]), (1010, AP y)] ⟨KAt.vslice (l := (some e)) (u := none) (id := 0) (lo0 := 0) (n := (List.length (α := Rect) p)) (N := List.length (α := Rect) p) (f := LF (α := Rect) p) prog_lay slT27 rfl rfl (by kernel_rfl) (by kernel_rfl) (by kernel_rfl) (by kernel_rfl) (by kernel_rfl) c0 (by kernel_rfl), KAt.vclear (id := 0) (lo0 := (0 + (e).toNat)) (n := ((List.length (α := Rect) p) - (e).toNat)) (N := List.length (α := Rect) p) (f := (LF (α := Rect) p)) prog_lay slT27 [.int .i64 0, .int .i64 0, .int .i64 0, .int .i64 0] [.int .i64 0, .int .i64 0, .int .i64 0, .int .i64 0] ⟨DLe.refl _, DLe.refl _, DLe.refl _, DLe.refl _, ⟨⟩⟩ rfl rfl (by kernel_rfl) (Nat.succ_pos _) (by kernel_rfl) (by kernel_rfl) (by kernel_rfl) (by kernel_rfl) rfl, ⟨⟩⟩ ?_
   refine Kn.wk [(0, ow 0), (5, vi e)] [(0, AO (α := Rect) (clr p (0 + (e).toNat) ((List.length (α := Rect) p) - (e).toNat))), (50, bx [.ap 1010]), (51, bx [ci o]), (1010, AP y)] (FE.refl _) (⟨rfl, OLe.is (Is.clr (l := p) (0 + (e).toNat) ((List.length (α := Rect) p) - (e).toNat) (zd := [.int .i64 0, .int .i64 0, .int .i64 0, .int .i64 0]) (by kernel_rfl)), ⟨rfl, OLe.refl _, ⟨rfl, OLe.refl _, ⟨rfl, OLe.refl _, ⟨⟩⟩⟩⟩⟩) ?_
   obtain ⟨P, h⟩ := gd_some h
   refine AW.SG Fm [.s, .s, .m, .s] (fun K => _ ∧ True) [(4, ow 41)] [(41, .arr 4 ((e).toNat) (LF (α := Rect) (clr p (0 + (e).toNat) ((List.length (α := Rect) p) - (e).toNat)))), (50, bx [.ap 1010]), (51, bx [ci o]), (1010, AP y)] ⟨P, ⟨⟩⟩ ?_
   refine Kn.wk [(4, ow 41)] [(41, AO (α := Rect) ((clr p (0 + (e).toNat) ((List.length (α := Rect) p) - (e).toNat)).take (e).toNat)), (50, bx [.ap 1010]), (51, bx [ci o]), (1010, AP y)] (FE.refl _) (⟨rfl, OLe.is (Is.take (Is.refl (clr p (0 + (e).toNat) ((List.length (α := Rect) p) - (e).toNat))) P.2), ⟨rfl, OLe.refl _, ⟨rfl, OLe.refl _, ⟨rfl, OLe.refl _, ⟨⟩⟩⟩⟩⟩) ?_
   refine AW.ret ?_
   obtain rfl := Option.some.inj h
   exact Kn.re Fm [(70, 1010), (100, 41)] [(4, ow 100)] [(50, bx [.ap 70]), (51, bx [ci o]), (70, AP y), (100, AO (α := Rect) ((clr p (0 + (e).toNat) ((List.length (α := Rect) p) - (e).toNat)).take (e).toNat))] (by kernel_rfl) (by kernel_rfl) (by kernel_rfl) (by kernel_rfl) (Kn.dn Fm (by kernel_rfl))
  ·obtain ⟨Z, h⟩ := gd_some h
   refine AW.SG Fm [.s, .s, .s] (fun K => (I64 (q.2.2 + (1 : Int)) ∧ True) ∧ True) [(0, ow 0), (1, .v (.c (.clo 117 [50, 51]))), (5, vi q.2.2), (6, vi (q.2.2 + (1 : Int)))] [(0, AO q.1), (50, bx [.ap 1010]), (51, bx [ci o]), (1010, AP q.2.1)] ⟨⟨Z, ⟨⟩⟩, ⟨⟩⟩ ?_
   refine AW.block ?_
   refine Kn.r Fm [(0, ow 0), (1, .v (.c (.clo 117 [50, 51]))), (5, vi q.2.2), (6, vi (q.2.2 + (1 : Int)))] [(0, AO q.1), (50, bx [.ap 1010]), (51, bx [ci o]), (1010, AP q.2.1)] (by kernel_rfl) ?_
   refine AW.loopF (E' := fun z => [(0, ow 0), (1, .v (.c (.clo 117 [50, 51]))), (5, vi z.1), (6, vi z.2.1)]) (S' := fun z => [(0, AO z.2.2.1), (50, bx [.ap 1010]), (51, bx [ci o]), (1010, AP z.2.2.2)]) (fun W z i0 X h => ?_) h
   obtain ⟨t, d, a, D⟩ := z
   refine AW.seq ?_
   refine AW.SG0 Fm 4 [(0, ow 0), (1, .v (.c (.clo 117 [50, 51]))), (5, vi t), (6, vi d), (19, vb (decide (d < ((List.length a : Nat) : Int))))] [(0, AO a), (50, bx [.ap 1010]), (51, bx [ci o]), (1010, AP D)] ?_
   refine AW.cond (b := (decide (d < ((List.length a : Nat) : Int)))) (by kernel_rfl) (fun H => ?_) (fun H => ?_)
   ·have h := br_t h H
    refine AW.skip ?_
    refine AW.join (r := r) (fun z : Int × (List Rect) × (List Rect) => slices_DeleteFunc_Rect_J_k1 F d W z.1 z.2.1 z.2.2) (fun z => [(0, ow 0), (1, .v (.c (.clo 117 [50, 51]))), (5, vi z.1), (6, vi d)]) (fun z => [(0, AO z.2.1), (50, bx [.ap 1028]), (51, bx [ci o]), (1028, AP z.2.2)]) (fun z h => ?_) (fun j0 M => ?_)
    ·obtain ⟨T, U, V⟩ := z
     obtain ⟨b0, h⟩ := gd_some h
     refine AW.G Fm [.s, .s, .s] (fun K => (I64 (d + (1 : Int)) ∧ True) ∧ True) [(0, ow 0), (1, .v (.c (.clo 117 [50, 51]))), (5, vi T), (6, vi (d + (1 : Int)))] [(0, AO U), (50, bx [.ap 1028]), (51, bx [ci o]), (1028, AP V)] ⟨⟨b0, ⟨⟩⟩, ⟨⟩⟩ ?_
     exact Kn.RE Fm [(1010, 1028)] (X (T, (d + (1 : Int)), U, V) h)
    ·refine AW.block ?_
     obtain ⟨O, h⟩ := gd_some h
     refine AW.SG Fm [.s, .s, .s, .s, .s, .s] (fun K => _ ∧ (d.toNat < List.length a) ∧ True) [(0, ow 0), (1, .v (.c (.clo 117 [50, 51]))), (5, vi t), (6, vi d), (7, pt 7)] [(0, AO a), (7, bx [ci ((gl a d.toNat).left_), ci ((gl a d.toNat).low_), ci ((gl a d.toNat).right_), ci ((gl a d.toNat).high_)]), (50, bx [.ap 1010]), (51, bx [ci o]), (1010, AP D)] ⟨O, (toNat_lt O), ⟨⟩⟩ ?_
     refine AW.seq ?_
     obtain ⟨w, e0, h⟩ := bd_some h
     refine AW.G Fm [.s, .s, .k (cE [(0, 50), (60, 1010), (70, 1028), (1, 51)] [] (vb w.2) [(0, bx [.ap 60]), (1, bx [ci o]), (60, AP D)] [(0, bx [.ap 70]), (1, bx [ci o]), (70, AP w.1)]), .s] (fun K => K 2 ∧ True) [(0, ow 0), (1, .v (.c (.clo 117 [50, 51]))), (5, vi t), (6, vi d), (7, pt 7), (29, vb (!w.2))] [(0, AO a), (7, bx [ci ((gl a d.toNat).left_), ci ((gl a d.toNat).low_), ci ((gl a d.toNat).right_), ci ((gl a d.toNat).high_)]), (50, bx [.ap 1028]), (51, bx [ci o]), (1028, AP w.1)] ⟨KAt.clC (args := [.v (.g [ci ((gl a d.toNat).left_), ci ((gl a d.toNat).low_), ci ((gl a d.toNat).right_), ci ((gl a d.toNat).high_)])]) (caps := [0, 1]) (shape_Joined_1_spec e0) Tryz.call117 [(0, 50), (60, 1010), (70, 1028), (1, 51)] rfl (by kernel_rfl), ⟨⟩⟩ ?_
     refine AW.cond (b := (!w.2)) (by kernel_rfl) (fun I => ?_) (fun I => ?_)
     ·have h := br_t h I
      obtain ⟨L, h⟩ := gd_some h
      refine AW.SG Fm [.s, .s, .s, .s, .s] (fun K => _ ∧ (t.toNat < List.length a) ∧ True) [(0, ow 0), (1, .v (.c (.clo 117 [50, 51]))), (5, vi t), (6, vi d)] [(0, .arr 4 (List.length (α := Rect) a) (fun j => if j = t.toNat then splice ((LF (α := Rect) a) t.toNat) 0 [.int .i64 (gl a d.toNat).left_, .int .i64 (gl a d.toNat).low_, .int .i64 (gl a d.toNat).right_, .int .i64 (gl a d.toNat).high_] else (LF (α := Rect) a) j)), (50, bx [.ap 1028]), (51, bx [ci o]), (1028, AP w.1)] ⟨L, (toNat_lt L), ⟨⟩⟩ ?_
      refine Kn.wk [(0, ow 0), (1, .v (.c (.clo 117 [50, 51]))), (5, vi t), (6, vi d)] [(0, AO (α := Rect) (List.set a t.toNat (gl a d.toNat))), (50, bx [.ap 1028]), (51, bx [ci o]), (1028, AP w.1)] (FE.refl _) (⟨rfl, OLe.is (Is.set (Is.refl a) (toNat_lt L) (gl a d.toNat) (by kernel_rfl)), ⟨rfl, OLe.refl _, ⟨rfl, OLe.refl _, ⟨rfl, OLe.refl _, ⟨⟩⟩⟩⟩⟩) ?_
      obtain ⟨a0, h⟩ := gd_some h
      refine AW.G Fm [.s, .s, .s] (fun K => (I64 (t + (1 : Int)) ∧ True) ∧ True) [(0, ow 0), (1, .v (.c (.clo 117 [50, 51]))), (5, vi (t + (1 : Int))), (6, vi d)] [(0, AO (α := Rect) (List.set a t.toNat (gl a d.toNat))), (50, bx [.ap 1028]), (51, bx [ci o]), (1028, AP w.1)] ⟨⟨a0, ⟨⟩⟩, ⟨⟩⟩ ?_
      exact Kn.R Fm (M ((t + (1 : Int)), (List.set a t.toNat (gl a d.toNat)), w.1) h)
     ·have h := br_f h I
      refine AW.skip ?_
      exact Kn.R Fm (M (t, a, w.1) h)
   ·have h := br_f h H
    refine AW.exit ?_
    exact Kn.R Fm (Y (t, a, D) h)
theorem shape_Joined_spec {F : Nat} {a : (List Rect)} {r : (List Rect) × (List Rect)} (h : shape_Joined F a = some r) :
  FSpec Tryz.prog 66 [AL a] [] (.t [.c (.d (DL (α := Rect) r.1)), .c (.d (DL (α := Rect) r.2))]) [] := by
 refine FSpec.intro prog_mixed prog_lay Tryz.func66 rfl (by kernel_rfl) fun C Fm => ?_
 unfold shape_Joined at h
 refine AW.SG0 Fm 2 [(0, AL a)] [] ?_
 refine AW.seq ?_
 obtain ⟨y, h⟩ := gd_some h
 obtain ⟨A, h⟩ := gd_some h
 obtain ⟨p, L, h⟩ := bd_some h
 refine AW.G Fm [.s, .w (.v (.c (.fl (List.length (α := Rect) (a.take ((1 : Int)).toNat)) (LF (α := Rect) (a.take ((1 : Int)).toNat))))), .s, .w (AL (α := Rect) (a.drop (1 : Int).toNat)), .k (cE [(100, 11)] [] (ow 100) [] [(100, AO p)]), .s, .s, .s] (fun K => (((1 : Int) ≤ ((List.length a : Nat) : Int) ∧ ∀ j, j < List.length a → (LF a j).length = 4)) ∧ (ALe (.v (.c (.fl ((1 : Int)).toNat (LF a)))) (.v (.c (.fl (List.length (α := Rect) (a.take ((1 : Int)).toNat)) (LF (α := Rect) (a.take ((1 : Int)).toNat)))))) ∧ (((sl (List.length a) (LF a) (some (1 : Int)) none).2 ∧ ∀ j, j < List.length a → (LF a j).length = 4)) ∧ (ALe (.v (.c (.d (.lst (sl (List.length a) (LF a) (some (1 : Int)) none).1.1 (sl (List.length a) (LF a) (some (1 : Int)) none).1.2)))) (AL (α := Rect) (a.drop (1 : Int).toNat))) ∧ K 4 ∧ True) [(4, pt 4), (5, ow 11)] [(4, bx [.fl (List.length (α := Rect) (a.take ((1 : Int)).toNat)) (LF (α := Rect) (a.take ((1 : Int)).toNat))]), (11, AO p)] ⟨⟨y, (Is.refl a).len⟩, ALe.c (CLe.fls (Is.take (Is.refl a) y)), ⟨A, (Is.refl a).len⟩, ALe.lst (sl_is a (some (1 : Int)) none A), KAt.CC (slices_Clone_Rect_O_spec L) Tryz.call115 [(100, 11)], ⟨⟩⟩ ?_
 refine AW.join (r := r) (fun z : (List Rect) × (List Rect) => shape_Joined_k2 F z.1 z.2) (fun z => [(4, pt 4), (5, ow 11)]) (fun z => [(4, bx [.ap 900]), (11, AO z.1), (900, AP z.2)]) (fun z h => ?_) (fun P H => ?_)
 ·obtain ⟨n, l⟩ := z
  refine AW.SG0 Fm 4 [(2, .v (.c (.ap 900))), (3, ow 11)] [(11, AO n), (900, AP l)] ?_
  refine AW.ret ?_
  refine Kn.r Fm [(2, .v (.c (.ap 900))), (3, ow 11)] [(900, AP l), (11, AO n)] (by kernel_rfl) ?_
  refine Kn.ap_split (by kernel_rfl) ?_ ?_
  ·refine Kn.r Fm [(2, ow 900), (3, ow 11)] [(11, AO n), (900, AO l)] (by kernel_rfl) ?_
   obtain rfl := Option.some.inj h
   refine Kn.r Fm [(2, ow 900), (3, ow 11)] [(900, AO l), (11, AO n)] (by kernel_rfl) ?_
   refine Kn.frz [(2, AL l), (3, ow 11)] [(11, AO n)] (by kernel_rfl) (by kernel_rfl) (by kernel_rfl) ?_
   refine Kn.r Fm [(2, AL l), (3, ow 11)] [(11, AO n)] (by kernel_rfl) ?_
   refine Kn.frz [(2, AL l), (3, AL n)] [] (by kernel_rfl) (by kernel_rfl) (by kernel_rfl) ?_
   exact Kn.D Fm
  ·refine Kn.r Fm [(2, .v (.c (.fl (List.length (α := Rect) l) (LF (α := Rect) l)))), (3, ow 11)] [(11, AO n)] (by kernel_rfl) ?_
   obtain rfl := Option.some.inj h
   refine Kn.r Fm [(2, .v (.c (.fl (List.length (α := Rect) l) (LF (α := Rect) l)))), (3, ow 11)] [(11, AO n)] (by kernel_rfl) ?_
   refine Kn.frz [(2, .v (.c (.fl (List.length (α := Rect) l) (LF (α := Rect) l)))), (3, AL n)] [] (by kernel_rfl) (by kernel_rfl) (by kernel_rfl) ?_
   refine Kn.r Fm [(2, .v (.c (.fl (List.length (α := Rect) l) (LF (α := Rect) l)))), (3, AL n)] [] (by kernel_rfl) ?_
   refine Kn.wk [(2, AL l), (3, AL n)] [] ⟨rfl, ALe.c (CLe.fl (.refl _)), ⟨rfl, ALe.c (CLe.refl _), ⟨⟩⟩⟩ True.intro ?_
   exact Kn.D Fm
 ·refine AW.SG0 Fm 2 [(4, pt 4), (5, ow 11), (6, pt 6)] [(4, bx [.fl (List.length (α := Rect) (a.take ((1 : Int)).toNat)) (LF (α := Rect) (a.take ((1 : Int)).toNat))]), (6, bx [ci (0 : Int)]), (11, AO p)] ?_
  refine AW.block ?_
  refine Kn.r Fm [(4, pt 4), (5, ow 11), (6, pt 6)] [(4, bx [.fl (List.length (α := Rect) (a.take ((1 : Int)).toNat)) (LF (α := Rect) (a.take ((1 : Int)).toNat))]), (6, bx [ci (0 : Int)]), (11, AO p)] (by kernel_rfl) ?_
  refine Kn.ap0 Fm (k := 900) (es := 4) (j := 0) (by kernel_rfl) (by kernel_rfl) (by simp) rfl ?_
  refine Kn.r Fm [(4, pt 4), (5, ow 11), (6, pt 6)] [(4, bx [.ap 900]), (6, bx [ci (0 : Int)]), (11, AO p), (900, AP (α := Rect) (a.take ((1 : Int)).toNat))] (by kernel_rfl) ?_
  refine Kn.r Fm [(4, pt 4), (5, ow 11), (6, pt 6)] [(4, bx [.ap 900]), (6, bx [ci (0 : Int)]), (11, AO p), (900, AP (a.take ((1 : Int)).toNat))] (by kernel_rfl) ?_
  refine AW.loopF (E' := fun z => [(4, pt 4), (5, ow 11), (6, pt 6)]) (S' := fun z => [(4, bx [.ap 900]), (6, bx [ci z.2.1]), (11, AO z.1), (900, AP z.2.2)]) (fun B z N E h => ?_) h
  obtain ⟨m, e, i⟩ := z
  refine AW.seq ?_
  refine AW.join (r := r) (fun z : Unit => shape_Joined_k1 F m e i B) (fun z => [(4, pt 4), (5, ow 11), (6, pt 6), (15, vb (decide (e < ((List.length i : Nat) : Int))))]) (fun z => [(4, bx [.ap 900]), (6, bx [ci e]), (11, AO m), (900, AP i)]) (fun z h => ?_) (fun O u => ?_)
  ·refine AW.cond (b := (decide (e < ((List.length i : Nat) : Int)))) (by kernel_rfl) (fun q => ?_) (fun q => ?_)
   ·have h := br_t h q
    refine AW.skip ?_
    refine AW.seq ?_
    refine AW.block ?_
    obtain ⟨o, M, h⟩ := bd_some h
    refine AW.G Fm [.s, .s, .k (cE [(0, 11), (50, 4), (60, 900), (70, 1020), (51, 6), (100, 20)] [] (ow 100) [(0, AO m), (50, bx [.ap 60]), (51, bx [ci e]), (60, AP i)] [(50, bx [.ap 70]), (51, bx [ci e]), (70, AP o.1), (100, AO o.2)]), .s] (fun K => K 2 ∧ True) [(4, pt 4), (5, ow 20), (6, pt 6)] [(4, bx [.ap 1020]), (6, bx [ci e]), (20, AO o.2), (1020, AP o.1)] ⟨KAt.CC (slices_DeleteFunc_Rect_J_spec M) Tryz.call116 [(0, 11), (50, 4), (60, 900), (70, 1020), (51, 6), (100, 20)], ⟨⟩⟩ ?_
    refine AW.seq ?_
    refine AW.SG0 Fm 1 [(4, pt 4), (5, ow 20), (21, vi e)] [(4, bx [.ap 1020]), (20, AO o.2), (1020, AP o.1)] ?_
    refine AW.G0 Fm 2 [(4, pt 4), (5, ow 20), (6, pt 6)] [(4, bx [.ap 1020]), (6, bx [ci e]), (20, AO o.2), (1020, AP o.1)] ?_
    obtain ⟨I, h⟩ := gd_some h
    refine AW.G Fm [.s, .s, .s] (fun K => (I64 (e + (1 : Int)) ∧ True) ∧ True) [(4, pt 4), (5, ow 20), (6, pt 6)] [(4, bx [.ap 1020]), (6, bx [ci (e + (1 : Int))]), (20, AO o.2), (1020, AP o.1)] ⟨⟨I, ⟨⟩⟩, ⟨⟩⟩ ?_
    exact Kn.RE Fm [(11, 20), (900, 1020)] (E (o.2, (e + (1 : Int)), o.1) h)
   ·have h := br_f h q
    refine AW.exit ?_
    exact Kn.R Fm (H (m, i) h)
  ·refine Kn.r Fm [(4, pt 4), (5, ow 11), (6, pt 6)] [(900, AP i), (4, bx [.ap 900]), (6, bx [ci e]), (11, AO m)] (by kernel_rfl) ?_
   refine Kn.ap_split (by kernel_rfl) ?_ ?_
   ·refine Kn.r Fm [(4, pt 4), (5, ow 11), (6, pt 6)] [(4, bx [.own 900]), (6, bx [ci e]), (11, AO m), (900, AO i)] (by kernel_rfl) ?_
    refine AW.G0 Fm 4 [(4, pt 4), (5, ow 11), (6, pt 6), (15, vb (decide (e < ((List.length i : Nat) : Int))))] [(4, bx [.own 900]), (6, bx [ci e]), (11, AO m), (900, AO i)] ?_
    refine Kn.r Fm [(4, pt 4), (5, ow 11), (6, pt 6), (15, vb (decide (e < ((List.length i : Nat) : Int))))] [(4, bx [.own 900]), (6, bx [ci e]), (11, AO m), (900, AO i)] (by kernel_rfl) ?_
    refine Kn.wk [(4, pt 4), (5, ow 11), (6, pt 6), (15, vb (decide (e < ((List.length i : Nat) : Int))))] [(4, bx [.ap 900]), (6, bx [ci e]), (11, AO m), (900, AP i)] ⟨rfl, ALe.refl _, ⟨rfl, ALe.refl _, ⟨rfl, ALe.refl _, ⟨rfl, ALe.refl _, ⟨⟩⟩⟩⟩⟩ ⟨rfl, OLe.box ⟨CLe.ap 900, ⟨⟩⟩, ⟨rfl, OLe.refl _, ⟨rfl, OLe.refl _, ⟨rfl, OLe.ap _ _ _, ⟨⟩⟩⟩⟩⟩ ?_
    exact Kn.R Fm (u () h)
   ·refine Kn.r Fm [(4, pt 4), (5, ow 11), (6, pt 6)] [(4, bx [.fl (List.length (α := Rect) i) (LF (α := Rect) i)]), (6, bx [ci e]), (11, AO m)] (by kernel_rfl) ?_
    refine AW.G0 Fm 4 [(4, pt 4), (5, ow 11), (6, pt 6), (15, vb (decide (e < ((List.length i : Nat) : Int))))] [(4, bx [.fl (List.length (α := Rect) i) (LF (α := Rect) i)]), (6, bx [ci e]), (11, AO m)] ?_
    refine Kn.r Fm [(4, pt 4), (5, ow 11), (6, pt 6), (15, vb (decide (e < ((List.length i : Nat) : Int))))] [(4, bx [.fl (List.length (α := Rect) i) (LF (α := Rect) i)]), (6, bx [ci e]), (11, AO m)] (by kernel_rfl) ?_
    refine Kn.ap0 Fm (k := 900) (es := 4) (j := 0) (by kernel_rfl) (by kernel_rfl) (by simp) rfl ?_
    refine Kn.r Fm [(4, pt 4), (5, ow 11), (6, pt 6), (15, vb (decide (e < ((List.length i : Nat) : Int))))] [(4, bx [.ap 900]), (6, bx [ci e]), (11, AO m), (900, AP i)] (by kernel_rfl) ?_
    exact Kn.R Fm (u () h)
theorem region_Size_spec {F : Nat} {a : (List Rect)} {r : Int} (h : region_Size F a = some r) :
  FSpec Tryz.prog 67 [AL a] [] (vi r) [] := by
 refine FSpec.intro prog_mixed prog_lay Tryz.func67 rfl (by kernel_rfl) fun C Fm => ?_
 unfold region_Size at h
 refine AW.SG0 Fm 1 [(0, AL a)] [] ?_
 refine AW.SG0 Fm 1 [(0, AL a), (3, vi (0 : Int))] [] ?_
 refine AW.join (r := r) (fun z : Int => region_Size_k1 F z) (fun z => [(3, vi z)]) (fun z => []) (fun q h => ?_) (fun u j => ?_)
 ·refine AW.SG0 Fm 2 [(2, vi q)] [] ?_
  refine AW.ret ?_
  obtain rfl := Option.some.inj h
  exact Kn.D Fm
 ·refine AW.SG0 Fm 3 [(3, vi (0 : Int)), (6, AL a), (7, vi ((List.length a : Nat) : Int)), (8, vi (0 : Int))] [] ?_
  refine AW.block ?_
  refine Kn.r Fm [(3, vi (0 : Int)), (6, AL a), (7, vi ((List.length a : Nat) : Int)), (8, vi (0 : Int))] [] (by kernel_rfl) ?_
  refine AW.loopF (E' := fun z => [(3, vi z.1), (6, AL a), (7, vi ((List.length a : Nat) : Int)), (8, vi z.2)]) (S' := fun z => []) (fun w z t i h => ?_) h
  obtain ⟨d, c⟩ := z
  refine AW.SG0 Fm 1 [(3, vi d), (6, AL a), (7, vi ((List.length a : Nat) : Int)), (8, vi c), (9, vb (decide (c < ((List.length a : Nat) : Int))))] [] ?_
  refine AW.seq ?_
  refine AW.cond (b := (decide (c < ((List.length a : Nat) : Int)))) (by kernel_rfl) (fun e => ?_) (fun e => ?_)
  ·have h := br_t h e
   refine AW.skip ?_
   refine AW.seq ?_
   refine AW.block ?_
   obtain ⟨k, h⟩ := gd_some h
   refine AW.SG Fm [.s, .s, .s, .s] (fun K => _ ∧ True) [(3, vi d), (5, pt 5), (6, AL a), (7, vi ((List.length a : Nat) : Int)), (8, vi c)] [(5, bx [ci ((gl a c.toNat).left_), ci ((gl a c.toNat).low_), ci ((gl a c.toNat).right_), ci ((gl a c.toNat).high_)])] ⟨k, ⟨⟩⟩ ?_
   obtain ⟨l, h⟩ := gd_some h
   obtain ⟨m, h⟩ := gd_some h
   obtain ⟨n, h⟩ := gd_some h
   obtain ⟨o, h⟩ := gd_some h
   refine AW.G Fm [.s, .s, .s, .s, .s, .s, .s, .s, .s, .s, .s, .s, .s, .s] (fun K => (I64 (((gl a c.toNat).right_) - ((gl a c.toNat).left_)) ∧ True) ∧ (I64 (((gl a c.toNat).high_) - ((gl a c.toNat).low_)) ∧ True) ∧ (I64 ((((gl a c.toNat).right_) - ((gl a c.toNat).left_)) * (((gl a c.toNat).high_) - ((gl a c.toNat).low_))) ∧ True) ∧ (I64 (d + ((((gl a c.toNat).right_) - ((gl a c.toNat).left_)) * (((gl a c.toNat).high_) - ((gl a c.toNat).low_)))) ∧ True) ∧ True) [(3, vi (d + ((((gl a c.toNat).right_) - ((gl a c.toNat).left_)) * (((gl a c.toNat).high_) - ((gl a c.toNat).low_))))), (6, AL a), (7, vi ((List.length a : Nat) : Int)), (8, vi c)] [] ⟨⟨l, ⟨⟩⟩, ⟨m, ⟨⟩⟩, ⟨n, ⟨⟩⟩, ⟨o, ⟨⟩⟩, ⟨⟩⟩ ?_
   obtain ⟨p, h⟩ := gd_some h
   refine AW.G Fm [.s, .s] (fun K => (I64 (c + (1 : Int)) ∧ True) ∧ True) [(3, vi (d + ((((gl a c.toNat).right_) - ((gl a c.toNat).left_)) * (((gl a c.toNat).high_) - ((gl a c.toNat).low_))))), (6, AL a), (7, vi ((List.length a : Nat) : Int)), (8, vi (c + (1 : Int)))] [] ⟨⟨p, ⟨⟩⟩, ⟨⟩⟩ ?_
   exact Kn.R Fm (i ((d + ((((gl a c.toNat).right_) - ((gl a c.toNat).left_)) * (((gl a c.toNat).high_) - ((gl a c.toNat).low_)))), (c + (1 : Int))) h)
  ·have h := br_f h e
   refine AW.exit ?_
   exact Kn.R Fm (j d h)
theorem zone_Soft_spec {F : Nat} {u : (List Feature)} {A : Int} {e : Int} {o : Region} {r : Region × Int} (h : zone_Soft F u A e o = some r) :
  FSpec Tryz.prog 14 [AL u, vi A, vi e, .v (.g [.d (DL o.rects_)])] [] (.t [.g [.d (DL (α := Rect) r.1.rects_)], .c (ci r.2)]) [] := by
 refine FSpec.intro prog_mixed prog_lay Tryz.func14 rfl (by kernel_rfl) fun C Fm => ?_
 unfold zone_Soft at h
 refine AW.SG0 Fm 3 [(0, AL u), (1, vi A), (2, vi e), (7, pt 7), (8, pt 8)] [(7, bx [.d (DL o.rects_)]), (8, bx [.fl 0 fun _ => []])] ?_
 refine AW.seq ?_
 refine AW.seq ?_
 obtain ⟨q, W, h⟩ := bd_some h
 refine AW.G Fm [.s, .s, .s, .s, .k (cE [] [] (vi q) [] []), .s] (fun K => K 4 ∧ True) [(0, AL u), (1, vi A), (2, vi e), (7, pt 7), (8, pt 8), (10, vi q)] [(7, bx [.d (DL o.rects_)]), (8, bx [.fl 0 fun _ => []])] ⟨KAt.CC (zone_check_spec W) Tryz.call59 [], ⟨⟩⟩ ?_
 refine AW.SG0 Fm 2 [(0, AL u), (1, vi A), (2, vi e), (7, pt 7), (8, pt 8), (10, vi q), (22, vb (q != (0 : Int)))] [(7, bx [.d (DL o.rects_)]), (8, bx [.fl 0 fun _ => []])] ?_
 refine AW.cond (b := (q != (0 : Int))) (by kernel_rfl) (fun H => ?_) (fun H => ?_)
 ·have h := br_t h H
  refine AW.SG Fm [.w (.v (.g [.d (DL (α := Rect) [])])), .s, .s, .s] (fun K => (ALe (.v (.g [.fl 0 fun _ => []])) (.v (.g [.d (DL (α := Rect) [])]))) ∧ True) [(8, pt 8), (9, vi q)] [(8, bx [.d (DL (α := Rect) [])])] ⟨ALe.g ⟨CLe.fl .nil, ⟨⟩⟩, ⟨⟩⟩ ?_
  refine AW.ret ?_
  obtain rfl := Option.some.inj h
  exact Kn.D Fm
 ·have h := br_f h H
  refine AW.skip ?_
  refine AW.seq ?_
  obtain ⟨l, X, h⟩ := bd_some h
  refine AW.G Fm [.s, .s, .k (cE [] [] (.t [.g [.d (DL l.1.rects_)], .c (ci l.2)]) [] []), .s, .s, .s, .s, .s, .s] (fun K => K 2 ∧ True) [(2, vi e), (7, pt 7), (8, pt 8), (11, pt 11), (12, vi l.2)] [(7, bx [.d (DL o.rects_)]), (8, bx [.fl 0 fun _ => []]), (11, bx [.d (DL l.1.rects_)])] ⟨KAt.CC (zone_of_spec X) Tryz.call64 [], ⟨⟩⟩ ?_
  refine AW.seq ?_
  refine AW.SG0 Fm 2 [(2, vi e), (7, pt 7), (8, pt 8), (11, pt 11), (12, vi l.2), (32, vb (l.2 != (0 : Int)))] [(7, bx [.d (DL o.rects_)]), (8, bx [.fl 0 fun _ => []]), (11, bx [.d (DL l.1.rects_)])] ?_
  refine AW.cond (b := (l.2 != (0 : Int))) (by kernel_rfl) (fun I => ?_) (fun I => ?_)
  ·have h := br_t h I
   refine AW.SG Fm [.w (.v (.g [.d (DL (α := Rect) [])])), .s, .s, .s] (fun K => (ALe (.v (.g [.fl 0 fun _ => []])) (.v (.g [.d (DL (α := Rect) [])]))) ∧ True) [(8, pt 8), (9, vi l.2)] [(8, bx [.d (DL (α := Rect) [])])] ⟨ALe.g ⟨CLe.fl .nil, ⟨⟩⟩, ⟨⟩⟩ ?_
   refine AW.ret ?_
   obtain rfl := Option.some.inj h
   exact Kn.D Fm
  ·have h := br_f h I
   refine AW.skip ?_
   refine AW.seq ?_
   obtain ⟨n, Y, h⟩ := bd_some h
   refine AW.G Fm [.s, .s, .s, .s, .k (cE [] [] (AL n) [] []), .s] (fun K => K 4 ∧ True) [(2, vi e), (8, pt 8), (13, AL n)] [(8, bx [.fl 0 fun _ => []])] ⟨KAt.callX (region_Choose_spec Y) Tryz.call61 [] [] [.tmp 36, .tmp 38, .func 65] rfl (by kernel_rfl) (by kernel_rfl) (by kernel_rfl) ⟨.p, .p, ArgT.cloX Tryz.call65 [] (fun args r hq => by obtain ⟨y0, y1, y, hq, rfl, rfl⟩ := hq; exact Eq.mp (by kernel_rfl) (zone_Soft_1_spec hq)) (fun args r hq => by obtain ⟨y0, y1, y, hq, rfl, rfl⟩ := hq; rfl) (by kernel_rfl) [] (by kernel_rfl) (by kernel_rfl) (True.intro) (by kernel_rfl), ⟨⟩⟩, ⟨⟩⟩ ?_
   refine AW.seq ?_
   refine AW.SG0 Fm 3 [(2, vi e), (8, pt 8), (13, AL n), (42, vb (decide ((120 : Int) < ((List.length n : Nat) : Int))))] [(8, bx [.fl 0 fun _ => []])] ?_
   refine AW.cond (b := (decide ((120 : Int) < ((List.length n : Nat) : Int)))) (by kernel_rfl) (fun L => ?_) (fun L => ?_)
   ·have h := br_t h L
    refine AW.SG Fm [.w (.v (.g [.d (DL (α := Rect) [])])), .s, .s] (fun K => (ALe (.v (.g [.fl 0 fun _ => []])) (.v (.g [.d (DL (α := Rect) [])]))) ∧ True) [(8, pt 8), (9, vi (1 : Int))] [(8, bx [.d (DL (α := Rect) [])])] ⟨ALe.g ⟨CLe.fl .nil, ⟨⟩⟩, ⟨⟩⟩ ?_
    refine AW.ret ?_
    obtain rfl := Option.some.inj h
    exact Kn.D Fm
   ·have h := br_f h L
    refine AW.skip ?_
    refine AW.SG Fm [.m] (fun K => True) [(2, vi e), (8, pt 8), (13, AL n), (14, ow 14)] [(8, bx [.fl 0 fun _ => []]), (14, .arr 4 (0) (fun _ => []))] True.intro ?_
    refine Kn.wk [(2, vi e), (8, pt 8), (13, AL n), (14, ow 14)] [(8, bx [.fl 0 fun _ => []]), (14, AO (α := Rect) ([] : List Rect))] (FE.refl _) (⟨rfl, OLe.refl _, ⟨rfl, OLe.is ((Is.nil (α := Rect))), ⟨⟩⟩⟩) ?_
    refine AW.join (r := r) (fun z : (List Rect) => zone_Soft_k1 F z) (fun z => [(8, pt 8), (14, ow 14)]) (fun z => [(8, bx [.fl 0 fun _ => []]), (14, AO z)]) (fun T h => ?_) (fun d0 U => ?_)
    ·refine AW.seq ?_
     refine Kn.r Fm [(8, pt 8), (14, ow 14)] [(14, AO T), (8, bx [.fl 0 fun _ => []])] (by kernel_rfl) ?_
     refine Kn.frz [(8, pt 8), (14, AL T)] [(8, bx [.fl 0 fun _ => []])] (by kernel_rfl) (by kernel_rfl) (by kernel_rfl) ?_
     obtain ⟨E, b0, h⟩ := bd_some h
     refine AW.G Fm [.s, .k (cE [] [] (.t [.g [.d (DL E.1.rects_)], .c (ci E.2)]) [] []), .s, .s, .s, .s] (fun K => K 1 ∧ True) [(8, pt 8), (9, vi E.2)] [(8, bx [.d (DL E.1.rects_)])] ⟨KAt.CC (region_Joined_spec b0) Tryz.call68 [], ⟨⟩⟩ ?_
     refine AW.ret ?_
     obtain rfl := Option.some.inj h
     exact Kn.D Fm
    ·refine AW.block ?_
     refine Kn.r Fm [(2, vi e), (8, pt 8), (13, AL n), (14, ow 14)] [(8, bx [.fl 0 fun _ => []]), (14, AO ([] : List Rect))] (by kernel_rfl) ?_
     refine AW.loopF (E' := fun z => [(2, vi e), (8, pt 8), (13, AL z.1), (14, ow 14)]) (S' := fun z => [(8, bx [.fl 0 fun _ => []]), (14, AO z.2)]) (fun e0 z c0 P h => ?_) h
     obtain ⟨B, i⟩ := z
     refine AW.seq ?_
     refine AW.SG0 Fm 3 [(2, vi e), (8, pt 8), (13, AL B), (14, ow 14), (46, vb (decide ((0 : Int) < ((List.length B : Nat) : Int))))] [(8, bx [.fl 0 fun _ => []]), (14, AO i)] ?_
     refine AW.cond (b := (decide ((0 : Int) < ((List.length B : Nat) : Int)))) (by kernel_rfl) (fun M => ?_) (fun M => ?_)
     ·have h := br_t h M
      refine AW.skip ?_
      refine AW.block ?_
      refine AW.SG Fm [.m] (fun K => True) [(2, vi e), (8, pt 8), (13, AL B), (14, ow 14)] [(8, bx [.fl 0 fun _ => []]), (14, AO i)] True.intro ?_
      refine AW.seq ?_
      obtain ⟨a, Z, h⟩ := bd_some h
      refine AW.G Fm [.s, .k (cE [] [] (.t [.c (.d (DL a.1)), .c (.d (DL a.2))]) [] []), .s, .s, .s, .s, .s] (fun K => K 1 ∧ True) [(2, vi e), (8, pt 8), (13, AL a.2), (14, ow 14), (15, AL a.1)] [(8, bx [.fl 0 fun _ => []]), (14, AO i)] ⟨KAt.CC (shape_Joined_spec Z) Tryz.call66 [], ⟨⟩⟩ ?_
      refine AW.seq ?_
      obtain ⟨O, a0, h⟩ := bd_some h
      refine AW.G Fm [.s, .k (cE [] [] (vi O) [] []), .s, .s] (fun K => K 1 ∧ True) [(2, vi e), (8, pt 8), (13, AL a.2), (14, ow 14), (15, AL a.1), (55, vb (decide (e < O)))] [(8, bx [.fl 0 fun _ => []]), (14, AO i)] ⟨KAt.CC (region_Size_spec a0) Tryz.call67 [], ⟨⟩⟩ ?_
      refine AW.cond (b := (decide (e < O))) (by kernel_rfl) (fun N => ?_) (fun N => ?_)
      ·have h := br_t h N
       obtain ⟨V, h⟩ := gd_some h
       refine AW.G Fm [.s, .s, .s, .s] (fun K => ((List.length (α := Rect) i) + (List.length (α := Rect) a.1) ≤ LIM ∧ (∀ j, j < List.length (α := Rect) a.1 → ((LF (α := Rect) a.1) j).length = 4) ∧ (True)) ∧ True) [(2, vi e), (8, pt 8), (13, AL a.2), (14, ow 58)] [(8, bx [.fl 0 fun _ => []]), (58, .arr 4 ((List.length (α := Rect) i) + (List.length (α := Rect) a.1)) (appF (List.length (α := Rect) i) (LF (α := Rect) i) (LF (α := Rect) a.1)))] ⟨⟨V, (Is.refl a.1 : Is (List.length (α := Rect) a.1) (LF (α := Rect) a.1) a.1).len, ⟨⟩⟩, ⟨⟩⟩ ?_
       refine Kn.wk [(2, vi e), (8, pt 8), (13, AL a.2), (14, ow 58)] [(8, bx [.fl 0 fun _ => []]), (58, AO (α := Rect) (i ++ a.1))] (FE.refl _) (⟨rfl, OLe.refl _, ⟨rfl, OLe.is (Is.app (Is.refl i) (Is.refl a.1)), ⟨⟩⟩⟩) ?_
       exact Kn.RE Fm [(14, 58)] (P (a.2, (i ++ a.1)) h)
      ·have h := br_f h N
       refine AW.skip ?_
       exact Kn.R Fm (P (a.2, i) h)
     ·have h := br_f h M
      refine AW.exit ?_
      exact Kn.R Fm (U i h)
theorem slices_Concat_Rect_spec {F : Nat} {a : (List (List Rect))} {r : (List Rect)} (h : slices_Concat_Rect F a = some r) :
  FSpec Tryz.prog 62 [AL a] [] (ow 100) [(100, AO (α := Rect) r)] := by
 refine FSpec.intro prog_mixed prog_lay Tryz.func62 rfl (by kernel_rfl) fun C Fm => ?_
 unfold slices_Concat_Rect at h
 refine AW.SG Fm [.m] (fun K => True) [(0, AL a)] [] True.intro ?_
 refine AW.SG0 Fm 1 [(0, AL a), (3, vi (0 : Int))] [] ?_
 refine AW.join (r := r) (fun z : Int => slices_Concat_Rect_k1 F a z) (fun z => [(0, AL a), (3, vi z)]) (fun z => []) (fun V h => ?_) (fun N u => ?_)
 ·refine AW.seq ?_
  obtain ⟨l, L, h⟩ := bd_some h
  refine AW.G Fm [.s, .k (cE [(100, 24)] [] (ow 100) [] [(100, AO l)]), .s] (fun K => K 1 ∧ True) [(0, AL a), (6, ow 24)] [(24, AO l)] ⟨KAt.CC (growN_Rect_spec L) Tryz.call112 [(100, 24)], ⟨⟩⟩ ?_
  refine AW.join (r := r) (fun z : (List Rect) => slices_Concat_Rect_k3 F z) (fun z => [(6, ow 24)]) (fun z => [(24, AO z)]) (fun q h => ?_) (fun P y => ?_)
  ·refine AW.SG0 Fm 2 [(2, ow 24)] [(24, AO q)] ?_
   refine AW.ret ?_
   obtain rfl := Option.some.inj h
   exact Kn.re Fm [(100, 24)] [(2, ow 100)] [(100, AO q)] (by kernel_rfl) (by kernel_rfl) (by kernel_rfl) (by kernel_rfl) (Kn.dn Fm (by kernel_rfl))
  ·refine AW.SG0 Fm 3 [(6, ow 24), (25, AL a), (26, vi ((List.length a : Nat) : Int)), (27, vi (0 : Int))] [(24, AO l)] ?_
   refine AW.block ?_
   refine Kn.r Fm [(6, ow 24), (25, AL a), (26, vi ((List.length a : Nat) : Int)), (27, vi (0 : Int))] [(24, AO l)] (by kernel_rfl) ?_
   refine AW.loopF (E' := fun z => [(6, ow 24), (25, AL a), (26, vi ((List.length a : Nat) : Int)), (27, vi z.1)]) (S' := fun z => [(24, AO z.2)]) (fun U z O w h => ?_) h
   obtain ⟨c, e⟩ := z
   refine AW.SG0 Fm 1 [(6, ow 24), (25, AL a), (26, vi ((List.length a : Nat) : Int)), (27, vi c), (28, vb (decide (c < ((List.length a : Nat) : Int))))] [(24, AO e)] ?_
   refine AW.seq ?_
   refine AW.cond (b := (decide (c < ((List.length a : Nat) : Int)))) (by kernel_rfl) (fun p => ?_) (fun p => ?_)
   ·have h := br_t h p
    refine AW.skip ?_
    refine AW.seq ?_
    refine AW.block ?_
    obtain ⟨E, h⟩ := gd_some h
    refine AW.SG Fm [.s, .s, .s] (fun K => _ ∧ True) [(6, ow 24), (8, AL (α := Rect) (gl a c.toNat)), (25, AL a), (26, vi ((List.length a : Nat) : Int)), (27, vi c)] [(24, AO e)] ⟨E, ⟨⟩⟩ ?_
    obtain ⟨H, h⟩ := gd_some h
    refine AW.G Fm [.s, .s, .s, .s] (fun K => ((List.length (α := Rect) e) + (List.length (α := Rect) (gl a c.toNat)) ≤ LIM ∧ (∀ j, j < List.length (α := Rect) (gl a c.toNat) → ((LF (α := Rect) (gl a c.toNat)) j).length = 4) ∧ (True)) ∧ True) [(6, ow 33), (25, AL a), (26, vi ((List.length a : Nat) : Int)), (27, vi c)] [(33, .arr 4 ((List.length (α := Rect) e) + (List.length (α := Rect) (gl a c.toNat))) (appF (List.length (α := Rect) e) (LF (α := Rect) e) (LF (α := Rect) (gl a c.toNat))))] ⟨⟨H, (Is.refl (gl a c.toNat) : Is (List.length (α := Rect) (gl a c.toNat)) (LF (α := Rect) (gl a c.toNat)) (gl a c.toNat)).len, ⟨⟩⟩, ⟨⟩⟩ ?_
    refine Kn.wk [(6, ow 33), (25, AL a), (26, vi ((List.length a : Nat) : Int)), (27, vi c)] [(33, AO (α := Rect) (e ++ (gl a c.toNat)))] (FE.refl _) (⟨rfl, OLe.is (Is.app (Is.refl e) (Is.refl (gl a c.toNat))), ⟨⟩⟩) ?_
    obtain ⟨I, h⟩ := gd_some h
    refine AW.G Fm [.s, .s] (fun K => (I64 (c + (1 : Int)) ∧ True) ∧ True) [(6, ow 33), (25, AL a), (26, vi ((List.length a : Nat) : Int)), (27, vi (c + (1 : Int)))] [(33, AO (α := Rect) (e ++ (gl a c.toNat)))] ⟨⟨I, ⟨⟩⟩, ⟨⟩⟩ ?_
    exact Kn.RE Fm [(24, 33)] (w ((c + (1 : Int)), (e ++ (gl a c.toNat))) h)
   ·have h := br_f h p
    refine AW.exit ?_
    exact Kn.R Fm (y e h)
 ·refine AW.SG0 Fm 3 [(0, AL a), (3, vi (0 : Int)), (9, AL a), (10, vi ((List.length a : Nat) : Int)), (11, vi (0 : Int))] [] ?_
  refine AW.block ?_
  refine Kn.r Fm [(0, AL a), (3, vi (0 : Int)), (9, AL a), (10, vi ((List.length a : Nat) : Int)), (11, vi (0 : Int))] [] (by kernel_rfl) ?_
  refine AW.loopF (E' := fun z => [(0, AL a), (3, vi z.1), (9, AL a), (10, vi ((List.length a : Nat) : Int)), (11, vi z.2)]) (S' := fun z => []) (fun T z M t h => ?_) h
  obtain ⟨i, d⟩ := z
  refine AW.SG0 Fm 1 [(0, AL a), (3, vi i), (9, AL a), (10, vi ((List.length a : Nat) : Int)), (11, vi d), (12, vb (decide (d < ((List.length a : Nat) : Int))))] [] ?_
  refine AW.seq ?_
  refine AW.cond (b := (decide (d < ((List.length a : Nat) : Int)))) (by kernel_rfl) (fun n => ?_) (fun n => ?_)
  ·have h := br_t h n
   refine AW.skip ?_
   refine AW.seq ?_
   refine AW.block ?_
   obtain ⟨A, h⟩ := gd_some h
   refine AW.SG Fm [.s, .s, .s] (fun K => _ ∧ True) [(0, AL a), (3, vi i), (5, AL (α := Rect) (gl a d.toNat)), (9, AL a), (10, vi ((List.length a : Nat) : Int)), (11, vi d)] [] ⟨A, ⟨⟩⟩ ?_
   obtain ⟨B, h⟩ := gd_some h
   refine AW.SG Fm [.s, .s, .s, .s, .s] (fun K => (I64 (i + ((List.length (gl a d.toNat) : Nat) : Int)) ∧ True) ∧ True) [(0, AL a), (3, vi (i + ((List.length (gl a d.toNat) : Nat) : Int))), (9, AL a), (10, vi ((List.length a : Nat) : Int)), (11, vi d)] [] ⟨⟨B, ⟨⟩⟩, ⟨⟩⟩ ?_
   refine AW.SG0 Fm 2 [(0, AL a), (3, vi (i + ((List.length (gl a d.toNat) : Nat) : Int))), (9, AL a), (10, vi ((List.length a : Nat) : Int)), (11, vi d), (20, vb (decide ((i + ((List.length (gl a d.toNat) : Nat) : Int)) < (0 : Int))))] [] ?_
   refine AW.cond (b := (decide ((i + ((List.length (gl a d.toNat) : Nat) : Int)) < (0 : Int)))) (by kernel_rfl) (fun o => ?_) (fun o => ?_)
   ·have h := br_t h o
    cases h
   ·have h := br_f h o
    refine AW.skip ?_
    obtain ⟨D, h⟩ := gd_some h
    refine AW.G Fm [.s, .s] (fun K => (I64 (d + (1 : Int)) ∧ True) ∧ True) [(0, AL a), (3, vi (i + ((List.length (gl a d.toNat) : Nat) : Int))), (9, AL a), (10, vi ((List.length a : Nat) : Int)), (11, vi (d + (1 : Int)))] [] ⟨⟨D, ⟨⟩⟩, ⟨⟩⟩ ?_
    exact Kn.R Fm (t ((i + ((List.length (gl a d.toNat) : Nat) : Int)), (d + (1 : Int))) h)
  ·have h := br_f h n
   refine AW.exit ?_
   exact Kn.R Fm (u i h)
theorem zone_Eligible_1_spec {F : Nat} {a : Bool} {c : Bool} {r : Bool} (h : zone_Eligible_1 F a c = some r) :
  FSpec Tryz.prog 63 [vb a, vb c] [] (vb r) [] := by
 refine FSpec.intro prog_mixed prog_lay Tryz.func63 rfl (by kernel_rfl) fun C Fm => ?_
 unfold zone_Eligible_1 at h
 refine AW.SG0 Fm 1 [(0, vb a), (1, vb c)] [] ?_
 refine AW.join (r := r) (fun z : Bool => zone_Eligible_1_k0 F z) (fun z => [(4, vb z)]) (fun z => []) (fun i h => ?_) (fun e d => ?_)
 ·refine AW.ret ?_
  obtain rfl := Option.some.inj h
  exact Kn.D Fm
 ·rcases Bool.eq_false_or_eq_true a with b | b
  ·have h := br_t h b
   refine AW.G Fm [.s, .w (vb true), .s, .s, .s, .s] (fun K => (ALe (vb a) (vb true)) ∧ True) [(4, vb (!c))] [] ⟨ALe.bool b, ⟨⟩⟩ ?_
   exact Kn.R Fm (d (!c) h)
  ·have h := br_f h b
   refine AW.G Fm [.s, .w (vb false), .s, .s, .s, .s] (fun K => (ALe (vb a) (vb false)) ∧ True) [(4, vb false)] [] ⟨ALe.bool b, ⟨⟩⟩ ?_
   exact Kn.R Fm (d false h)
theorem zone_Eligible_spec {F : Nat} {i : Region} {j : (List Feature)} {l : Int} {m : Int} {r : Region × Int} (h : zone_Eligible F i j l m = some r) :
  FSpec Tryz.prog 12 [.v (.g [.d (DL i.rects_)]), AL j, vi l, vi m] [] (.t [.g [.d (DL (α := Rect) r.1.rects_)], .c (ci r.2)]) [] := by
 refine FSpec.intro prog_mixed prog_lay Tryz.func12 rfl (by kernel_rfl) fun C Fm => ?_
 unfold zone_Eligible at h
 refine AW.SG0 Fm 3 [(1, AL j), (2, vi l), (3, vi m), (4, pt 4), (8, pt 8)] [(4, bx [.d (DL i.rects_)]), (8, bx [.fl 0 fun _ => []])] ?_
 refine AW.seq ?_
 refine AW.seq ?_
 obtain ⟨n, B, h⟩ := bd_some h
 refine AW.G Fm [.s, .s, .s, .s, .k (cE [] [] (vi n) [] []), .s] (fun K => K 4 ∧ True) [(1, AL j), (2, vi l), (3, vi m), (4, pt 4), (8, pt 8), (10, vi n)] [(4, bx [.d (DL i.rects_)]), (8, bx [.fl 0 fun _ => []])] ⟨KAt.CC (zone_check_spec B) Tryz.call59 [], ⟨⟩⟩ ?_
 refine AW.SG0 Fm 2 [(1, AL j), (2, vi l), (3, vi m), (4, pt 4), (8, pt 8), (10, vi n), (20, vb (n != (0 : Int)))] [(4, bx [.d (DL i.rects_)]), (8, bx [.fl 0 fun _ => []])] ?_
 refine AW.cond (b := (n != (0 : Int))) (by kernel_rfl) (fun q => ?_) (fun q => ?_)
 ·have h := br_t h q
  refine AW.SG Fm [.w (.v (.g [.d (DL (α := Rect) [])])), .s, .s, .s] (fun K => (ALe (.v (.g [.fl 0 fun _ => []])) (.v (.g [.d (DL (α := Rect) [])]))) ∧ True) [(8, pt 8), (9, vi n)] [(8, bx [.d (DL (α := Rect) [])])] ⟨ALe.g ⟨CLe.fl .nil, ⟨⟩⟩, ⟨⟩⟩ ?_
  refine AW.ret ?_
  obtain rfl := Option.some.inj h
  exact Kn.D Fm
 ·have h := br_f h q
  refine AW.skip ?_
  refine AW.seq ?_
  obtain ⟨a, E, h⟩ := bd_some h
  refine AW.G Fm [.s, .s, .k (cE [] [] (.t [.g [.d (DL a.1.rects_)], .c (ci a.2)]) [] []), .s, .s, .s, .s, .s, .s] (fun K => K 2 ∧ True) [(1, AL j), (2, vi l), (3, vi m), (4, pt 4), (8, pt 8), (11, pt 11), (12, vi a.2)] [(4, bx [.d (DL i.rects_)]), (8, bx [.fl 0 fun _ => []]), (11, bx [.d (DL a.1.rects_)])] ⟨KAt.CC (zone_Hard_spec E) Tryz.call13 [], ⟨⟩⟩ ?_
  refine AW.seq ?_
  refine AW.SG0 Fm 2 [(1, AL j), (2, vi l), (3, vi m), (4, pt 4), (8, pt 8), (11, pt 11), (12, vi a.2), (30, vb (a.2 != (0 : Int)))] [(4, bx [.d (DL i.rects_)]), (8, bx [.fl 0 fun _ => []]), (11, bx [.d (DL a.1.rects_)])] ?_
  refine AW.cond (b := (a.2 != (0 : Int))) (by kernel_rfl) (fun u => ?_) (fun u => ?_)
  ·have h := br_t h u
   refine AW.SG Fm [.w (.v (.g [.d (DL (α := Rect) [])])), .s, .s, .s] (fun K => (ALe (.v (.g [.fl 0 fun _ => []])) (.v (.g [.d (DL (α := Rect) [])]))) ∧ True) [(8, pt 8), (9, vi a.2)] [(8, bx [.d (DL (α := Rect) [])])] ⟨ALe.g ⟨CLe.fl .nil, ⟨⟩⟩, ⟨⟩⟩ ?_
   refine AW.ret ?_
   obtain rfl := Option.some.inj h
   exact Kn.D Fm
  ·have h := br_f h u
   refine AW.skip ?_
   refine AW.seq ?_
   obtain ⟨e, H, h⟩ := bd_some h
   refine AW.G Fm [.s, .s, .s, .s, .k (cE [] [] (.t [.g [.d (DL e.1.rects_)], .c (ci e.2)]) [] []), .s, .s, .s, .s, .s, .s] (fun K => K 4 ∧ True) [(4, pt 4), (8, pt 8), (11, pt 11), (12, vi e.2), (13, pt 13)] [(4, bx [.d (DL i.rects_)]), (8, bx [.fl 0 fun _ => []]), (11, bx [.d (DL a.1.rects_)]), (13, bx [.d (DL e.1.rects_)])] ⟨KAt.CC (zone_Soft_spec H) Tryz.call14 [], ⟨⟩⟩ ?_
   refine AW.seq ?_
   refine AW.SG0 Fm 2 [(4, pt 4), (8, pt 8), (11, pt 11), (12, vi e.2), (13, pt 13), (42, vb (e.2 != (0 : Int)))] [(4, bx [.d (DL i.rects_)]), (8, bx [.fl 0 fun _ => []]), (11, bx [.d (DL a.1.rects_)]), (13, bx [.d (DL e.1.rects_)])] ?_
   refine AW.cond (b := (e.2 != (0 : Int))) (by kernel_rfl) (fun A => ?_) (fun A => ?_)
   ·have h := br_t h A
    refine AW.SG Fm [.w (.v (.g [.d (DL (α := Rect) [])])), .s, .s, .s] (fun K => (ALe (.v (.g [.fl 0 fun _ => []])) (.v (.g [.d (DL (α := Rect) [])]))) ∧ True) [(8, pt 8), (9, vi e.2)] [(8, bx [.d (DL (α := Rect) [])])] ⟨ALe.g ⟨CLe.fl .nil, ⟨⟩⟩, ⟨⟩⟩ ?_
    refine AW.ret ?_
    obtain rfl := Option.some.inj h
    exact Kn.D Fm
   ·have h := br_f h A
    refine AW.skip ?_
    refine AW.seq ?_
    obtain ⟨N, I, h⟩ := bd_some h
    obtain ⟨O, L, h⟩ := bd_some h
    obtain ⟨o, M, h⟩ := bd_some h
    refine AW.G Fm [.s, .s, .s, .s, .s, .s, .w (AL (α := (List Rect)) ([a.1.rects_, e.1.rects_] : List (List Rect))), .k (cE [] [] (AL N) [] []), .k (cE [] [] (AL O) [] []), .k (cE [] [] (.t [.g [.d (DL o.1.rects_)], .c (ci o.2)]) [] []), .s, .s, .s, .s] (fun K => (ALe (.v (.c (.d (.lst 2 (litF 1 [DL a.1.rects_, DL e.1.rects_]))))) (AL (α := (List Rect)) ([a.1.rects_, e.1.rects_] : List (List Rect)))) ∧ K 7 ∧ K 8 ∧ K 9 ∧ True) [(8, pt 8), (9, vi o.2)] [(8, bx [.d (DL o.1.rects_)])] ⟨ALe.lst (.lit ([a.1.rects_, e.1.rects_] : List (List Rect)) (by kernel_rfl)), KAt.CC (FSpec.list (slices_Concat_Rect_spec I)) Tryz.call62 [], KAt.callX (region_Choose_spec L) Tryz.call61 [] [] [.tmp 46, .tmp 52, .func 63] rfl (by kernel_rfl) (by kernel_rfl) (by kernel_rfl) ⟨.p, .p, ArgT.cloX Tryz.call63 [] (fun args r hq => by obtain ⟨y0, y1, y, hq, rfl, rfl⟩ := hq; exact Eq.mp (by kernel_rfl) (zone_Eligible_1_spec hq)) (fun args r hq => by obtain ⟨y0, y1, y, hq, rfl, rfl⟩ := hq; rfl) (by kernel_rfl) [] (by kernel_rfl) (by kernel_rfl) (True.intro) (by kernel_rfl), ⟨⟩⟩, KAt.CC (region_Limited_spec M) Tryz.call60 [], ⟨⟩⟩ ?_
    refine AW.ret ?_
    obtain rfl := Option.some.inj h
    exact Kn.D Fm
theorem ref04_Size_spec {F : Nat} {a : (List Rect)} {r : Int} (h : ref04_Size F a = some r) :
  FSpec Tryz.prog 73 [AL a] [] (vi r) [] := by
 refine FSpec.intro prog_mixed prog_lay Tryz.func73 rfl (by kernel_rfl) fun C Fm => ?_
 unfold ref04_Size at h
 refine AW.SG0 Fm 1 [(0, AL a)] [] ?_
 refine AW.SG0 Fm 1 [(0, AL a), (3, vi (0 : Int))] [] ?_
 refine AW.join (r := r) (fun z : Int => ref04_Size_k1 F z) (fun z => [(3, vi z)]) (fun z => []) (fun q h => ?_) (fun u j => ?_)
 ·refine AW.SG0 Fm 2 [(2, vi q)] [] ?_
  refine AW.ret ?_
  obtain rfl := Option.some.inj h
  exact Kn.D Fm
 ·refine AW.SG0 Fm 3 [(3, vi (0 : Int)), (6, AL a), (7, vi ((List.length a : Nat) : Int)), (8, vi (0 : Int))] [] ?_
  refine AW.block ?_
  refine Kn.r Fm [(3, vi (0 : Int)), (6, AL a), (7, vi ((List.length a : Nat) : Int)), (8, vi (0 : Int))] [] (by kernel_rfl) ?_
  refine AW.loopF (E' := fun z => [(3, vi z.1), (6, AL a), (7, vi ((List.length a : Nat) : Int)), (8, vi z.2)]) (S' := fun z => []) (fun w z t i h => ?_) h
  obtain ⟨d, c⟩ := z
  refine AW.SG0 Fm 1 [(3, vi d), (6, AL a), (7, vi ((List.length a : Nat) : Int)), (8, vi c), (9, vb (decide (c < ((List.length a : Nat) : Int))))] [] ?_
  refine AW.seq ?_
  refine AW.cond (b := (decide (c < ((List.length a : Nat) : Int)))) (by kernel_rfl) (fun e => ?_) (fun e => ?_)
  ·have h := br_t h e
   refine AW.skip ?_
   refine AW.seq ?_
   refine AW.block ?_
   obtain ⟨k, h⟩ := gd_some h
   refine AW.SG Fm [.s, .s, .s, .s] (fun K => _ ∧ True) [(3, vi d), (5, pt 5), (6, AL a), (7, vi ((List.length a : Nat) : Int)), (8, vi c)] [(5, bx [ci ((gl a c.toNat).left_), ci ((gl a c.toNat).low_), ci ((gl a c.toNat).right_), ci ((gl a c.toNat).high_)])] ⟨k, ⟨⟩⟩ ?_
   obtain ⟨l, h⟩ := gd_some h
   obtain ⟨m, h⟩ := gd_some h
   obtain ⟨n, h⟩ := gd_some h
   obtain ⟨o, h⟩ := gd_some h
   refine AW.G Fm [.s, .s, .s, .s, .s, .s, .s, .s, .s, .s, .s, .s, .s, .s] (fun K => (I64 (((gl a c.toNat).right_) - ((gl a c.toNat).left_)) ∧ True) ∧ (I64 (((gl a c.toNat).high_) - ((gl a c.toNat).low_)) ∧ True) ∧ (I64 ((((gl a c.toNat).right_) - ((gl a c.toNat).left_)) * (((gl a c.toNat).high_) - ((gl a c.toNat).low_))) ∧ True) ∧ (I64 (d + ((((gl a c.toNat).right_) - ((gl a c.toNat).left_)) * (((gl a c.toNat).high_) - ((gl a c.toNat).low_)))) ∧ True) ∧ True) [(3, vi (d + ((((gl a c.toNat).right_) - ((gl a c.toNat).left_)) * (((gl a c.toNat).high_) - ((gl a c.toNat).low_))))), (6, AL a), (7, vi ((List.length a : Nat) : Int)), (8, vi c)] [] ⟨⟨l, ⟨⟩⟩, ⟨m, ⟨⟩⟩, ⟨n, ⟨⟩⟩, ⟨o, ⟨⟩⟩, ⟨⟩⟩ ?_
   obtain ⟨p, h⟩ := gd_some h
   refine AW.G Fm [.s, .s] (fun K => (I64 (c + (1 : Int)) ∧ True) ∧ True) [(3, vi (d + ((((gl a c.toNat).right_) - ((gl a c.toNat).left_)) * (((gl a c.toNat).high_) - ((gl a c.toNat).low_))))), (6, AL a), (7, vi ((List.length a : Nat) : Int)), (8, vi (c + (1 : Int)))] [] ⟨⟨p, ⟨⟩⟩, ⟨⟩⟩ ?_
   exact Kn.R Fm (i ((d + ((((gl a c.toNat).right_) - ((gl a c.toNat).left_)) * (((gl a c.toNat).high_) - ((gl a c.toNat).low_)))), (c + (1 : Int))) h)
  ·have h := br_f h e
   refine AW.exit ?_
   exact Kn.R Fm (j d h)
theorem ref04_Area_spec {F : Nat} {a : Region} {r : Int} (h : ref04_Area F a = some r) :
  FSpec Tryz.prog 21 [.v (.g [.d (DL a.rects_)])] [] (vi r) [] := by
 refine FSpec.intro prog_mixed prog_lay Tryz.func21 rfl (by kernel_rfl) fun C Fm => ?_
 unfold ref04_Area at h
 refine AW.SG0 Fm 2 [(1, pt 1)] [(1, bx [.d (DL a.rects_)])] ?_
 refine AW.seq ?_
 refine AW.seq ?_
 obtain ⟨e, j, h⟩ := bd_some h
 refine AW.G Fm [.s, .k (cE [] [] (vb e) [] []), .s] (fun K => K 1 ∧ True) [(1, pt 1), (5, vb (!e))] [(1, bx [.d (DL a.rects_)])] ⟨KAt.CC (ref04_Valid_spec j) Tryz.call70 [], ⟨⟩⟩ ?_
 refine AW.cond (b := (!e)) (by kernel_rfl) (fun c => ?_) (fun c => ?_)
 ·have h := br_t h c
  refine AW.SG0 Fm 1 [(2, vi (0 : Int))] [] ?_
  refine AW.ret ?_
  obtain rfl := Option.some.inj h
  exact Kn.D Fm
 ·have h := br_f h c
  refine AW.skip ?_
  refine AW.seq ?_
  obtain ⟨i, l, h⟩ := bd_some h
  refine AW.G Fm [.s, .s, .k (cE [] [] (vi i) [] []), .s] (fun K => K 2 ∧ True) [(2, vi i)] [] ⟨KAt.CC (ref04_Size_spec l) Tryz.call73 [], ⟨⟩⟩ ?_
  refine AW.ret ?_
  obtain rfl := Option.some.inj h
  exact Kn.D Fm
theorem law11_awake_spec {F : Nat} {r : Bool} (h : law11_awake F = some r) :
  FSpec Tryz.prog 19 [] [] (vb r) [] := by
 refine FSpec.intro prog_mixed prog_lay Tryz.func19 rfl (by kernel_rfl) fun C Fm => ?_
 unfold law11_awake at h
 refine AW.SG0 Fm 1 [] [] ?_
 refine AW.SG Fm [.s, .w (AL (α := Rect) ([(⟨0, 0, (10 : Int), (10 : Int)⟩ : Rect)] : List Rect)), .s, .s, .s] (fun K => (ALe (.v (.c (.d (.lst 1 (litF 4 [.int .i64 0, .int .i64 0, .int .i64 (10 : Int), .int .i64 (10 : Int)]))))) (AL (α := Rect) ([(⟨0, 0, (10 : Int), (10 : Int)⟩ : Rect)] : List Rect))) ∧ True) [(1, pt 1)] [(1, bx [.d (DL (α := Rect) ([(⟨0, 0, (10 : Int), (10 : Int)⟩ : Rect)] : List Rect))])] ⟨ALe.lst (.lit ([(⟨0, 0, (10 : Int), (10 : Int)⟩ : Rect)] : List Rect) (by kernel_rfl)), ⟨⟩⟩ ?_
 refine AW.SG Fm [.s, .w (AL (α := Rect) ([(⟨(3 : Int), (3 : Int), (5 : Int), (5 : Int)⟩ : Rect)] : List Rect)), .s, .s, .w (AL (α := Feature) ([(⟨(1 : Int), (8 : Int), 0, (9 : Int), (⟨([(⟨(3 : Int), (3 : Int), (5 : Int), (5 : Int)⟩ : Rect)] : List Rect)⟩ : Region)⟩ : Feature)] : List Feature)), .s] (fun K => (ALe (.v (.c (.d (.lst 1 (litF 4 [.int .i64 (3 : Int), .int .i64 (3 : Int), .int .i64 (5 : Int), .int .i64 (5 : Int)]))))) (AL (α := Rect) ([(⟨(3 : Int), (3 : Int), (5 : Int), (5 : Int)⟩ : Rect)] : List Rect))) ∧ (ALe (.v (.c (.d (.lst 1 (litF 5 [.int .i64 (1 : Int), .int .i64 (8 : Int), .int .i64 0, .int .i64 (9 : Int), DL (α := Rect) ([(⟨(3 : Int), (3 : Int), (5 : Int), (5 : Int)⟩ : Rect)] : List Rect)]))))) (AL (α := Feature) ([(⟨(1 : Int), (8 : Int), 0, (9 : Int), (⟨([(⟨(3 : Int), (3 : Int), (5 : Int), (5 : Int)⟩ : Rect)] : List Rect)⟩ : Region)⟩ : Feature)] : List Feature))) ∧ True) [(1, pt 1), (2, AL (α := Feature) ([(⟨(1 : Int), (8 : Int), 0, (9 : Int), (⟨([(⟨(3 : Int), (3 : Int), (5 : Int), (5 : Int)⟩ : Rect)] : List Rect)⟩ : Region)⟩ : Feature)] : List Feature))] [(1, bx [.d (DL (α := Rect) ([(⟨0, 0, (10 : Int), (10 : Int)⟩ : Rect)] : List Rect))])] ⟨ALe.lst (.lit ([(⟨(3 : Int), (3 : Int), (5 : Int), (5 : Int)⟩ : Rect)] : List Rect) (by kernel_rfl)), ALe.lst (.lit ([(⟨(1 : Int), (8 : Int), 0, (9 : Int), (⟨([(⟨(3 : Int), (3 : Int), (5 : Int), (5 : Int)⟩ : Rect)] : List Rect)⟩ : Region)⟩ : Feature)] : List Feature) (by kernel_rfl)), ⟨⟩⟩ ?_
 refine AW.seq ?_
 obtain ⟨a, p, h⟩ := bd_some h
 refine AW.G Fm [.s, .s, .k (cE [] [] (.t [.g [.d (DL a.1.rects_)], .c (ci a.2)]) [] []), .s, .s, .s, .s, .s, .s] (fun K => K 2 ∧ True) [(1, pt 1), (2, AL (α := Feature) ([(⟨(1 : Int), (8 : Int), 0, (9 : Int), (⟨([(⟨(3 : Int), (3 : Int), (5 : Int), (5 : Int)⟩ : Rect)] : List Rect)⟩ : Region)⟩ : Feature)] : List Feature)), (3, pt 3), (4, vi a.2)] [(1, bx [.d (DL (α := Rect) ([(⟨0, 0, (10 : Int), (10 : Int)⟩ : Rect)] : List Rect))]), (3, bx [.d (DL a.1.rects_)])] ⟨KAt.CC (zone_Eligible_spec p) Tryz.call12 [], ⟨⟩⟩ ?_
 refine AW.seq ?_
 obtain ⟨e, q, h⟩ := bd_some h
 refine AW.G Fm [.s, .s, .k (cE [] [] (.t [.g [.d (DL e.1.rects_)], .c (ci e.2)]) [] []), .s, .s, .s, .s, .s, .s] (fun K => K 2 ∧ True) [(3, pt 3), (4, vi a.2), (5, pt 5), (6, vi e.2)] [(3, bx [.d (DL a.1.rects_)]), (5, bx [.d (DL e.1.rects_)])] ⟨KAt.CC (zone_Eligible_spec q) Tryz.call12 [], ⟨⟩⟩ ?_
 refine AW.join (r := r) (fun z : Bool => law11_awake_k0 F z) (fun z => [(0, vb z)]) (fun z => []) (fun A h => ?_) (fun y m => ?_)
 ·refine AW.ret ?_
  obtain rfl := Option.some.inj h
  exact Kn.D Fm
 ·rcases Bool.eq_false_or_eq_true (a.2 == (0 : Int)) with b | b
  ·have h := br_t h b
   obtain ⟨i, n, h⟩ := bd_some h
   rcases Bool.eq_false_or_eq_true (i == (100 : Int)) with j | j
   ·have h := br_t h j
    rcases Bool.eq_false_or_eq_true (e.2 == (0 : Int)) with l | l
    ·have h := br_t h l
     obtain ⟨o, u, h⟩ := bd_some h
     refine AW.G Fm [.s, .s, .w (vb true), .s, .k (cE [] [] (vi i) [] []), .s, .s, .w (vb true), .s, .s, .s, .w (vb true), .s, .k (cE [] [] (vi o) [] []), .s, .s, .s] (fun K => (ALe (vb (a.2 == (0 : Int))) (vb true)) ∧ K 4 ∧ (ALe (vb (i == (100 : Int))) (vb true)) ∧ (ALe (vb (e.2 == (0 : Int))) (vb true)) ∧ K 13 ∧ True) [(0, vb (o == (96 : Int)))] [] ⟨ALe.bool b, KAt.CC (ref04_Area_spec n) Tryz.call21 [], ALe.bool j, ALe.bool l, KAt.CC (ref04_Area_spec u) Tryz.call21 [], ⟨⟩⟩ ?_
     exact Kn.R Fm (m (o == (96 : Int)) h)
    ·have h := br_f h l
     refine AW.G Fm [.s, .s, .w (vb true), .s, .k (cE [] [] (vi i) [] []), .s, .s, .w (vb true), .s, .s, .s, .w (vb false), .s, .s, .s, .s, .s] (fun K => (ALe (vb (a.2 == (0 : Int))) (vb true)) ∧ K 4 ∧ (ALe (vb (i == (100 : Int))) (vb true)) ∧ (ALe (vb (e.2 == (0 : Int))) (vb false)) ∧ True) [(0, vb false)] [] ⟨ALe.bool b, KAt.CC (ref04_Area_spec n) Tryz.call21 [], ALe.bool j, ALe.bool l, ⟨⟩⟩ ?_
     exact Kn.R Fm (m false h)
   ·have h := br_f h j
    refine AW.G Fm [.s, .s, .w (vb true), .s, .k (cE [] [] (vi i) [] []), .s, .s, .w (vb false), .s, .s, .s, .s, .s, .s, .s, .s, .s] (fun K => (ALe (vb (a.2 == (0 : Int))) (vb true)) ∧ K 4 ∧ (ALe (vb (i == (100 : Int))) (vb false)) ∧ True) [(0, vb false)] [] ⟨ALe.bool b, KAt.CC (ref04_Area_spec n) Tryz.call21 [], ALe.bool j, ⟨⟩⟩ ?_
    exact Kn.R Fm (m false h)
  ·have h := br_f h b
   refine AW.G Fm [.s, .s, .w (vb false), .s, .s, .s, .s, .s, .s, .s, .s, .s, .s, .s, .s, .s, .s] (fun K => (ALe (vb (a.2 == (0 : Int))) (vb false)) ∧ True) [(0, vb false)] [] ⟨ALe.bool b, ⟨⟩⟩ ?_
   exact Kn.R Fm (m false h)
theorem ref04_Same_spec {F : Nat} {a : Region} {b : Region} {r : Bool} (h : ref04_Same F a b = some r) :
  FSpec Tryz.prog 22 [.v (.g [.d (DL a.rects_)]), .v (.g [.d (DL b.rects_)])] [] (vb r) [] := by
 refine FSpec.intro prog_mixed prog_lay Tryz.func22 rfl (by kernel_rfl) fun C Fm => ?_
 unfold ref04_Same at h
 refine AW.SG0 Fm 3 [(2, pt 2), (3, pt 3)] [(2, bx [.d (DL a.rects_)]), (3, bx [.d (DL b.rects_)])] ?_
 refine AW.seq ?_
 obtain ⟨c, e, h⟩ := bd_some h
 refine AW.G Fm [.s, .s, .s, .s, .k (cE [] [] (vb c) [] []), .s] (fun K => K 4 ∧ True) [(4, vb c)] [] ⟨KAt.CC (ref04_Rects_spec e) Tryz.call74 [], ⟨⟩⟩ ?_
 refine AW.ret ?_
 obtain rfl := Option.some.inj h
 exact Kn.D Fm
theorem region_Has_1_spec {F : Nat} {b : Rect} {a : Int} {c : Int} {r : Bool} (h : region_Has_1 F b a c = some r) :
  FSpec Tryz.prog 123 [gE b, pt 0, pt 1] [(0, .box true [ci a]), (1, .box true [ci c])] (vb r) [(0, .box true [ci a]), (1, .box true [ci c])] := by
 refine FSpec.intro prog_mixed prog_lay Tryz.func123 rfl (by kernel_rfl) fun C Fm => ?_
 unfold region_Has_1 at h
 refine AW.SG0 Fm 2 [(1, pt 0), (2, pt 1), (3, pt 3)] [(0, .box true [ci a]), (1, .box true [ci c]), (3, bx (gC b))] ?_
 refine AW.join (r := r) (fun z : Bool => region_Has_1_k0 F z) (fun z => [(4, vb z)]) (fun z => [(0, .box true [ci a]), (1, .box true [ci c])]) (fun l h => ?_) (fun k j => ?_)
 ·refine AW.ret ?_
  obtain rfl := Option.some.inj h
  exact Kn.D Fm
 ·rcases Bool.eq_false_or_eq_true (decide (b.left_ ≤ a)) with d | d
  ·have h := br_t h d
   rcases Bool.eq_false_or_eq_true (decide (a < b.right_)) with e | e
   ·have h := br_t h e
    rcases Bool.eq_false_or_eq_true (decide (b.low_ ≤ c)) with i | i
    ·have h := br_t h i
     refine AW.G Fm [.s, .s, .s, .s, .w (vb true), .s, .s, .s, .s, .s, .w (vb true), .s, .s, .s, .s, .s, .w (vb true), .s, .s, .s, .s, .s, .s] (fun K => (ALe (vb (decide (b.left_ ≤ a))) (vb true)) ∧ (ALe (vb (decide (a < b.right_))) (vb true)) ∧ (ALe (vb (decide (b.low_ ≤ c))) (vb true)) ∧ True) [(4, vb (decide (c < b.high_)))] [(0, .box true [ci a]), (1, .box true [ci c])] ⟨ALe.bool d, ALe.bool e, ALe.bool i, ⟨⟩⟩ ?_
     exact Kn.R Fm (j (decide (c < b.high_)) h)
    ·have h := br_f h i
     refine AW.G Fm [.s, .s, .s, .s, .w (vb true), .s, .s, .s, .s, .s, .w (vb true), .s, .s, .s, .s, .s, .w (vb false), .s, .s, .s, .s, .s, .s] (fun K => (ALe (vb (decide (b.left_ ≤ a))) (vb true)) ∧ (ALe (vb (decide (a < b.right_))) (vb true)) ∧ (ALe (vb (decide (b.low_ ≤ c))) (vb false)) ∧ True) [(4, vb false)] [(0, .box true [ci a]), (1, .box true [ci c])] ⟨ALe.bool d, ALe.bool e, ALe.bool i, ⟨⟩⟩ ?_
     exact Kn.R Fm (j false h)
   ·have h := br_f h e
    refine AW.G Fm [.s, .s, .s, .s, .w (vb true), .s, .s, .s, .s, .s, .w (vb false), .s, .s, .s, .s, .s, .s, .s, .s, .s, .s, .s, .s] (fun K => (ALe (vb (decide (b.left_ ≤ a))) (vb true)) ∧ (ALe (vb (decide (a < b.right_))) (vb false)) ∧ True) [(4, vb false)] [(0, .box true [ci a]), (1, .box true [ci c])] ⟨ALe.bool d, ALe.bool e, ⟨⟩⟩ ?_
    exact Kn.R Fm (j false h)
  ·have h := br_f h d
   refine AW.G Fm [.s, .s, .s, .s, .w (vb false), .s, .s, .s, .s, .s, .s, .s, .s, .s, .s, .s, .s, .s, .s, .s, .s, .s, .s] (fun K => (ALe (vb (decide (b.left_ ≤ a))) (vb false)) ∧ True) [(4, vb false)] [(0, .box true [ci a]), (1, .box true [ci c])] ⟨ALe.bool d, ⟨⟩⟩ ?_
   exact Kn.R Fm (j false h)
theorem region_Has_spec {F : Nat} {i : Region} {c : Int} {e : Int} {r : Bool} (h : region_Has F i c e = some r) :
  FSpec Tryz.prog 75 [.v (.g [.d (DL i.rects_)]), vi c, vi e] [] (vb r) [] := by
 refine FSpec.intro prog_mixed prog_lay Tryz.func75 rfl (by kernel_rfl) fun C Fm => ?_
 unfold region_Has at h
 refine AW.SG0 Fm 4 [(3, pt 3), (4, pt 4), (5, pt 5)] [(3, bx [.d (DL i.rects_)]), (4, bx [ci c]), (5, bx [ci e])] ?_
 refine AW.join (r := r) (fun z : Bool => region_Has_k0 F z) (fun z => [(6, vb z)]) (fun z => []) (fun q h => ?_) (fun o l => ?_)
 ·refine AW.ret ?_
  obtain rfl := Option.some.inj h
  exact Kn.D Fm
 ·obtain ⟨b, m, h⟩ := bd_some h
  rcases Bool.eq_false_or_eq_true b with a | a
  ·have h := br_t h a
   obtain ⟨j, n, h⟩ := bd_some h
   refine AW.G Fm [.s, .k (cE [] [] (vb b) [] []), .w (vb true), .s, .s, .s, .k (cE [] [4, 5] (vb j) [] []), .s, .s] (fun K => K 1 ∧ (ALe (vb b) (vb true)) ∧ K 6 ∧ True) [(6, vb j)] [] ⟨KAt.CC (region_Valid_spec m) Tryz.call106 [], ALe.bool a, KAt.callX (slices_ContainsFunc_Rect_spec n) Tryz.call122 [] [4, 5] [.tmp 11, .tmp 12] rfl (by kernel_rfl) (by kernel_rfl) (by kernel_rfl) ⟨.p, ArgT.cloX Tryz.call123 [[ci c], [ci e]] (fun args r hq => by obtain ⟨y0, y, hq, rfl, rfl⟩ := hq; exact Eq.mp (by kernel_rfl) (region_Has_1_spec hq)) (fun args r hq => by obtain ⟨y0, y, hq, rfl, rfl⟩ := hq; rfl) (by kernel_rfl) [4, 5] (by kernel_rfl) (by kernel_rfl) (⟨⟨false, (by kernel_rfl)⟩, ⟨⟨false, (by kernel_rfl)⟩, ⟨⟩⟩⟩) (by kernel_rfl), ⟨⟩⟩, ⟨⟩⟩ ?_
   exact Kn.R Fm (l j h)
  ·have h := br_f h a
   refine AW.G Fm [.s, .k (cE [] [] (vb b) [] []), .w (vb false), .s, .s, .s, .s, .s, .s] (fun K => K 1 ∧ (ALe (vb b) (vb false)) ∧ True) [(6, vb false)] [] ⟨KAt.CC (region_Valid_spec m) Tryz.call106 [], ALe.bool a, ⟨⟩⟩ ?_
   exact Kn.R Fm (l false h)
theorem zone_Zones_spec {F : Nat} {y : (List Feature)} {i : Int} {l : Int} {A : Int} {r : (List Int) × Int} (h : zone_Zones F y i l A = some r) :
  FSpec Tryz.prog 23 [AL y, vi i, vi l, vi A] [] (.t [.c (.d (DL (α := Int) r.1)), .c (ci r.2)]) [] := by
 refine FSpec.intro prog_mixed prog_lay Tryz.func23 rfl (by kernel_rfl) fun C Fm => ?_
 unfold zone_Zones at h
 refine AW.SG0 Fm 2 [(0, AL y), (1, vi i), (2, vi l), (3, vi A)] [] ?_
 refine AW.seq ?_
 obtain ⟨a, U, h⟩ := bd_some h
 refine AW.G Fm [.s, .s, .k (cE [] [] (.t [.c (.d (DL a.1)), .c (ci a.2)]) [] []), .s, .s, .s, .s, .s] (fun K => K 2 ∧ True) [(1, vi i), (2, vi l), (10, AL a.1), (11, vi a.2)] [] ⟨KAt.CC (feature_On_spec U) Tryz.call44 [], ⟨⟩⟩ ?_
 refine AW.seq ?_
 refine AW.SG0 Fm 2 [(1, vi i), (2, vi l), (10, AL a.1), (11, vi a.2), (22, vb (a.2 != (0 : Int)))] [] ?_
 refine AW.cond (b := (a.2 != (0 : Int))) (by kernel_rfl) (fun p => ?_) (fun p => ?_)
 ·have h := br_t h p
  refine AW.SG0 Fm 3 [(8, .v (.c (.fl 0 fun _ => []))), (9, vi a.2)] [] ?_
  refine AW.ret ?_
  obtain rfl := Option.some.inj h
  refine Kn.r Fm [(8, .v (.c (.fl 0 fun _ => []))), (9, vi a.2)] [] (by kernel_rfl) ?_
  refine Kn.wk [(8, AL (α := Int) []), (9, vi a.2)] [] ⟨rfl, ALe.c (CLe.fl .nil), ⟨rfl, ALe.c (CLe.refl _), ⟨⟩⟩⟩ True.intro ?_
  exact Kn.D Fm
 ·have h := br_f h p
  refine AW.skip ?_
  refine AW.SG Fm [.m] (fun K => True) [(1, vi i), (2, vi l), (10, AL a.1), (12, ow 12)] [(12, .arr 1 (0) (fun _ => []))] True.intro ?_
  refine Kn.wk [(1, vi i), (2, vi l), (10, AL a.1), (12, ow 12)] [(12, AO (α := Int) ([] : List Int))] (FE.refl _) (⟨rfl, OLe.is ((Is.nil (α := Int))), ⟨⟩⟩) ?_
  refine AW.join (r := r) (fun z : (List Int) => zone_Zones_k2 F z) (fun z => [(12, ow 12)]) (fun z => [(12, AO z)]) (fun Y h => ?_) (fun b0 N => ?_)
  ·refine AW.seq ?_
   obtain ⟨E, W, h⟩ := bd_some h
   refine AW.G Fm [.s, .k (cE [(0, 12)] [] (.any) [(0, AO Y)] [(0, AO E)])] (fun K => K 1 ∧ True) [(12, ow 12)] [(12, AO E)] ⟨KAt.CC (sortI_spec W) Tryz.call76 [(0, 12)], ⟨⟩⟩ ?_
   refine AW.seq ?_
   obtain ⟨o, X, h⟩ := bd_some h
   refine AW.G Fm [.s, .k (cE [(0, 12), (100, 44)] [] (ow 100) [(0, AO E)] [(100, AO o)]), .s, .s] (fun K => K 1 ∧ True) [(8, ow 44), (9, vi (0 : Int))] [(44, AO o)] ⟨KAt.CC (slices_Compact_int_spec X) Tryz.call77 [(0, 12), (100, 44)], ⟨⟩⟩ ?_
   refine AW.ret ?_
   obtain rfl := Option.some.inj h
   refine Kn.r Fm [(8, ow 44), (9, vi (0 : Int))] [(44, AO o)] (by kernel_rfl) ?_
   refine Kn.frz [(8, AL o), (9, vi (0 : Int))] [] (by kernel_rfl) (by kernel_rfl) (by kernel_rfl) ?_
   exact Kn.D Fm
  ·refine AW.SG0 Fm 3 [(1, vi i), (2, vi l), (12, ow 12), (24, AL a.1), (25, vi ((List.length a.1 : Nat) : Int)), (26, vi (0 : Int))] [(12, AO (α := Int) ([] : List Int))] ?_
   refine AW.block ?_
   refine Kn.r Fm [(1, vi i), (2, vi l), (12, ow 12), (24, AL a.1), (25, vi ((List.length a.1 : Nat) : Int)), (26, vi (0 : Int))] [(12, AO ([] : List Int))] (by kernel_rfl) ?_
   refine AW.loopF (E' := fun z => [(1, vi i), (2, vi l), (12, ow 12), (24, AL a.1), (25, vi ((List.length a.1 : Nat) : Int)), (26, vi z.1)]) (S' := fun z => [(12, AO z.2)]) (fun L z Z M h => ?_) h
   obtain ⟨e, n⟩ := z
   refine AW.SG0 Fm 1 [(1, vi i), (2, vi l), (12, ow 12), (24, AL a.1), (25, vi ((List.length a.1 : Nat) : Int)), (26, vi e), (27, vb (decide (e < ((List.length a.1 : Nat) : Int))))] [(12, AO n)] ?_
   refine AW.seq ?_
   refine AW.cond (b := (decide (e < ((List.length a.1 : Nat) : Int)))) (by kernel_rfl) (fun q => ?_) (fun q => ?_)
   ·have h := br_t h q
    refine AW.skip ?_
    refine AW.join (r := r) (fun z : (List Int) => zone_Zones_k1 F e L z) (fun z => [(1, vi i), (2, vi l), (12, ow 39), (24, AL a.1), (25, vi ((List.length a.1 : Nat) : Int)), (26, vi e)]) (fun z => [(39, AO z)]) (fun I h => ?_) (fun a0 H => ?_)
    ·obtain ⟨T, h⟩ := gd_some h
     refine AW.G Fm [.s, .s] (fun K => (I64 (e + (1 : Int)) ∧ True) ∧ True) [(1, vi i), (2, vi l), (12, ow 39), (24, AL a.1), (25, vi ((List.length a.1 : Nat) : Int)), (26, vi (e + (1 : Int)))] [(39, AO I)] ⟨⟨T, ⟨⟩⟩, ⟨⟩⟩ ?_
     exact Kn.RE Fm [(12, 39)] (M ((e + (1 : Int)), I) h)
    ·refine AW.block ?_
     obtain ⟨O, h⟩ := gd_some h
     refine AW.SG Fm [.s, .s, .s, .s] (fun K => _ ∧ True) [(1, vi i), (2, vi l), (12, ow 12), (14, pt 14), (24, AL a.1), (25, vi ((List.length a.1 : Nat) : Int)), (26, vi e)] [(12, AO n), (14, bx [ci ((gl a.1 e.toNat).number_), ci ((gl a.1 e.toNat).kind_), ci ((gl a.1 e.toNat).from_), ci ((gl a.1 e.toNat).until_), .d (DL (α := Rect) (gl a.1 e.toNat).region_.rects_)])] ⟨O, ⟨⟩⟩ ?_
     refine AW.seq ?_
     obtain ⟨B, V, h⟩ := bd_some h
     refine AW.G Fm [.s, .s, .s, .s, .k (cE [] [] (vb B) [] [])] (fun K => K 4 ∧ True) [(1, vi i), (2, vi l), (12, ow 12), (14, pt 14), (24, AL a.1), (25, vi ((List.length a.1 : Nat) : Int)), (26, vi e), (34, vb B)] [(12, AO n), (14, bx [ci ((gl a.1 e.toNat).number_), ci ((gl a.1 e.toNat).kind_), ci ((gl a.1 e.toNat).from_), ci ((gl a.1 e.toNat).until_), .d (DL (α := Rect) (gl a.1 e.toNat).region_.rects_)])] ⟨KAt.CC (region_Has_spec V) Tryz.call75 [], ⟨⟩⟩ ?_
     refine AW.cond (b := B) (by kernel_rfl) (fun u => ?_) (fun u => ?_)
     ·have h := br_t h u
      obtain ⟨P, h⟩ := gd_some h
      refine AW.G Fm [.s, .s, .s, .w (AL (α := Int) ([(gl a.1 e.toNat).kind_] : List Int)), .s, .s] (fun K => (ALe (.v (.c (.d (.lst 1 (litF 1 [.int .i64 (gl a.1 e.toNat).kind_]))))) (AL (α := Int) ([(gl a.1 e.toNat).kind_] : List Int))) ∧ ((List.length (α := Int) n) + (List.length (α := Int) ([(gl a.1 e.toNat).kind_] : List Int)) ≤ LIM ∧ (∀ j, j < List.length (α := Int) ([(gl a.1 e.toNat).kind_] : List Int) → ((LF (α := Int) ([(gl a.1 e.toNat).kind_] : List Int)) j).length = 1) ∧ (True)) ∧ True) [(1, vi i), (2, vi l), (12, ow 39), (24, AL a.1), (25, vi ((List.length a.1 : Nat) : Int)), (26, vi e)] [(39, .arr 1 ((List.length (α := Int) n) + (List.length (α := Int) ([(gl a.1 e.toNat).kind_] : List Int))) (appF (List.length (α := Int) n) (LF (α := Int) n) (LF (α := Int) ([(gl a.1 e.toNat).kind_] : List Int))))] ⟨ALe.lst (.lit ([(gl a.1 e.toNat).kind_] : List Int) (by kernel_rfl)), ⟨P, (Is.refl ([(gl a.1 e.toNat).kind_] : List Int) : Is (List.length (α := Int) ([(gl a.1 e.toNat).kind_] : List Int)) (LF (α := Int) ([(gl a.1 e.toNat).kind_] : List Int)) ([(gl a.1 e.toNat).kind_] : List Int)).len, ⟨⟩⟩, ⟨⟩⟩ ?_
      refine Kn.wk [(1, vi i), (2, vi l), (12, ow 39), (24, AL a.1), (25, vi ((List.length a.1 : Nat) : Int)), (26, vi e)] [(39, AO (α := Int) (n ++ ([(gl a.1 e.toNat).kind_] : List Int)))] (FE.refl _) (⟨rfl, OLe.is (Is.app (Is.refl n) (Is.refl ([(gl a.1 e.toNat).kind_] : List Int))), ⟨⟩⟩) ?_
      exact Kn.R Fm (H (n ++ ([(gl a.1 e.toNat).kind_] : List Int)) h)
     ·have h := br_f h u
      refine AW.skip ?_
      exact Kn.RE Fm [(39, 12)] (H n h)
   ·have h := br_f h q
    refine AW.exit ?_
    exact Kn.R Fm (N n h)
theorem ref09_there_spec {F : Nat} {a : Feature} {b : Int} {r : Bool} (h : ref09_there F a b = some r) :
  FSpec Tryz.prog 94 [gE a, vi b] [] (vb r) [] := by
 refine FSpec.intro prog_mixed prog_lay Tryz.func94 rfl (by kernel_rfl) fun C Fm => ?_
 unfold ref09_there at h
 refine AW.SG0 Fm 2 [(1, vi b), (2, pt 2)] [(2, bx (gC a))] ?_
 refine AW.join (r := r) (fun z : Bool => ref09_there_k0 F z) (fun z => [(4, vb z)]) (fun z => []) (fun i h => ?_) (fun e d => ?_)
 ·refine AW.ret ?_
  obtain rfl := Option.some.inj h
  exact Kn.D Fm
 ·rcases Bool.eq_false_or_eq_true (decide (a.from_ ≤ b)) with c | c
  ·have h := br_t h c
   refine AW.G Fm [.s, .s, .s, .s, .w (vb true), .s, .s, .s, .s, .s, .s] (fun K => (ALe (vb (decide (a.from_ ≤ b))) (vb true)) ∧ True) [(4, vb (decide (b < a.until_)))] [] ⟨ALe.bool c, ⟨⟩⟩ ?_
   exact Kn.R Fm (d (decide (b < a.until_)) h)
  ·have h := br_f h c
   refine AW.G Fm [.s, .s, .s, .s, .w (vb false), .s, .s, .s, .s, .s, .s] (fun K => (ALe (vb (decide (a.from_ ≤ b))) (vb false)) ∧ True) [(4, vb false)] [] ⟨ALe.bool c, ⟨⟩⟩ ?_
   exact Kn.R Fm (d false h)
theorem ref09_Squares_spec {F : Nat} {a : (List Feature)} {i : Int} {j : Int} {l : Int} {r : (List Rect)} (h : ref09_Squares F a i j l = some r) :
  FSpec Tryz.prog 79 [AL a, vi i, vi j, vi l] [] (AL (α := Rect) r) [] := by
 refine FSpec.intro prog_mixed prog_lay Tryz.func79 rfl (by kernel_rfl) fun C Fm => ?_
 unfold ref09_Squares at h
 refine AW.SG0 Fm 1 [(0, AL a), (1, vi i), (2, vi j), (3, vi l)] [] ?_
 refine AW.SG Fm [.m] (fun K => True) [(0, AL a), (1, vi i), (2, vi j), (3, vi l), (9, ow 9)] [(9, .arr 4 (0) (fun _ => []))] True.intro ?_
 refine Kn.wk [(0, AL a), (1, vi i), (2, vi j), (3, vi l), (9, ow 9)] [(9, AO (α := Rect) ([] : List Rect))] (FE.refl _) (⟨rfl, OLe.is ((Is.nil (α := Rect))), ⟨⟩⟩) ?_
 refine AW.join (r := r) (fun z : (List Rect) => ref09_Squares_k3 F z) (fun z => [(9, AL z)]) (fun z => []) (fun U h => ?_) (fun Y M => ?_)
 ·refine AW.SG0 Fm 2 [(8, AL U)] [] ?_
  refine AW.ret ?_
  obtain rfl := Option.some.inj h
  exact Kn.D Fm
 ·refine AW.SG0 Fm 3 [(1, vi i), (2, vi j), (3, vi l), (9, ow 9), (12, AL a), (13, vi ((List.length a : Nat) : Int)), (14, vi (0 : Int))] [(9, AO (α := Rect) ([] : List Rect))] ?_
  refine AW.block ?_
  refine Kn.r Fm [(1, vi i), (2, vi j), (3, vi l), (9, ow 9), (12, AL a), (13, vi ((List.length a : Nat) : Int)), (14, vi (0 : Int))] [(9, AO (α := Rect) ([] : List Rect))] (by kernel_rfl) ?_
  refine Kn.frz [(1, vi i), (2, vi j), (3, vi l), (9, AL (α := Rect) ([] : List Rect)), (12, AL a), (13, vi ((List.length a : Nat) : Int)), (14, vi (0 : Int))] [] (by kernel_rfl) (by kernel_rfl) (by kernel_rfl) ?_
  refine Kn.r Fm [(1, vi i), (2, vi j), (3, vi l), (9, AL ([] : List Rect)), (12, AL a), (13, vi ((List.length a : Nat) : Int)), (14, vi (0 : Int))] [] (by kernel_rfl) ?_
  refine AW.loopF (E' := fun z => [(1, vi i), (2, vi j), (3, vi l), (9, AL z.1), (12, AL a), (13, vi ((List.length a : Nat) : Int)), (14, vi z.2)]) (S' := fun z => []) (fun E z V L h => ?_) h
  obtain ⟨n, e⟩ := z
  refine AW.SG0 Fm 1 [(1, vi i), (2, vi j), (3, vi l), (9, AL n), (12, AL a), (13, vi ((List.length a : Nat) : Int)), (14, vi e), (15, vb (decide (e < ((List.length a : Nat) : Int))))] [] ?_
  refine AW.seq ?_
  refine AW.cond (b := (decide (e < ((List.length a : Nat) : Int)))) (by kernel_rfl) (fun u => ?_) (fun u => ?_)
  ·have h := br_t h u
   refine AW.skip ?_
   refine AW.join (r := r) (fun z : (List Rect) => ref09_Squares_k2 F e E z) (fun z => [(1, vi i), (2, vi j), (3, vi l), (9, AL z), (12, AL a), (13, vi ((List.length a : Nat) : Int)), (14, vi e)]) (fun z => []) (fun I h => ?_) (fun X H => ?_)
   ·obtain ⟨O, h⟩ := gd_some h
    refine AW.G Fm [.s, .s] (fun K => (I64 (e + (1 : Int)) ∧ True) ∧ True) [(1, vi i), (2, vi j), (3, vi l), (9, AL I), (12, AL a), (13, vi ((List.length a : Nat) : Int)), (14, vi (e + (1 : Int)))] [] ⟨⟨O, ⟨⟩⟩, ⟨⟩⟩ ?_
    exact Kn.R Fm (L (I, (e + (1 : Int))) h)
   ·refine AW.block ?_
    obtain ⟨N, h⟩ := gd_some h
    refine AW.SG Fm [.s, .s, .s, .s] (fun K => _ ∧ True) [(1, vi i), (2, vi j), (3, vi l), (9, AL n), (11, pt 11), (12, AL a), (13, vi ((List.length a : Nat) : Int)), (14, vi e)] [(11, bx [ci ((gl a e.toNat).number_), ci ((gl a e.toNat).kind_), ci ((gl a e.toNat).from_), ci ((gl a e.toNat).until_), .d (DL (α := Rect) (gl a e.toNat).region_.rects_)])] ⟨N, ⟨⟩⟩ ?_
    refine AW.join (r := r) (fun z : Bool => ref09_Squares_k1 F a n e E z) (fun z => [(1, vi i), (2, vi j), (3, vi l), (9, AL n), (11, pt 11), (12, AL a), (13, vi ((List.length a : Nat) : Int)), (14, vi e), (32, vb z)]) (fun z => [(11, bx [ci ((gl a e.toNat).number_), ci ((gl a e.toNat).kind_), ci ((gl a e.toNat).from_), ci ((gl a e.toNat).until_), .d (DL (α := Rect) (gl a e.toNat).region_.rects_)])]) (fun T h => ?_) (fun W t => ?_)
    ·refine AW.cond (b := T) (by kernel_rfl) (fun y => ?_) (fun y => ?_)
     ·have h := br_t h y
      obtain ⟨B, P, h⟩ := bd_some h
      refine AW.G Fm [.s, .s, .s, .s, .k (cE [] [] (AL B) [] []), .s] (fun K => K 4 ∧ True) [(1, vi i), (2, vi j), (3, vi l), (9, AL B), (12, AL a), (13, vi ((List.length a : Nat) : Int)), (14, vi e)] [] ⟨KAt.CC (ref04_Combine_spec P) Tryz.call71 [], ⟨⟩⟩ ?_
      exact Kn.R Fm (H B h)
     ·have h := br_f h y
      refine AW.skip ?_
      exact Kn.R Fm (H n h)
    ·obtain ⟨o, A, h⟩ := bd_some h
     rcases Bool.eq_false_or_eq_true o with p | p
     ·have h := br_t h p
      rcases Bool.eq_false_or_eq_true (decide (i ≤ ((gl a e.toNat).kind_))) with q | q
      ·have h := br_t h q
       refine AW.G Fm [.s, .s, .k (cE [] [] (vb o) [] []), .w (vb true), .s, .s, .s, .s, .s, .w (vb true), .s, .s, .s, .s, .s] (fun K => K 2 ∧ (ALe (vb o) (vb true)) ∧ (ALe (vb (decide (i ≤ ((gl a e.toNat).kind_)))) (vb true)) ∧ True) [(1, vi i), (2, vi j), (3, vi l), (9, AL n), (11, pt 11), (12, AL a), (13, vi ((List.length a : Nat) : Int)), (14, vi e), (22, vi i), (23, .v (.c (.ptr 11 1))), (24, vi (gl a e.toNat).kind_), (25, vb (decide (i ≤ ((gl a e.toNat).kind_)))), (28, .v (.c (.ptr 11 1))), (29, vi (gl a e.toNat).kind_), (30, vi j), (31, vb (decide (((gl a e.toNat).kind_) ≤ j))), (32, vb (decide (((gl a e.toNat).kind_) ≤ j)))] [(11, bx [ci ((gl a e.toNat).number_), ci ((gl a e.toNat).kind_), ci ((gl a e.toNat).from_), ci ((gl a e.toNat).until_), .d (DL (α := Rect) (gl a e.toNat).region_.rects_)])] ⟨KAt.CC (ref09_there_spec A) Tryz.call94 [], ALe.bool p, ALe.bool q, ⟨⟩⟩ ?_
       exact Kn.R Fm (t (decide (((gl a e.toNat).kind_) ≤ j)) h)
      ·have h := br_f h q
       refine AW.G Fm [.s, .s, .k (cE [] [] (vb o) [] []), .w (vb true), .s, .s, .s, .s, .s, .w (vb false), .s, .s, .s, .s, .s] (fun K => K 2 ∧ (ALe (vb o) (vb true)) ∧ (ALe (vb (decide (i ≤ ((gl a e.toNat).kind_)))) (vb false)) ∧ True) [(1, vi i), (2, vi j), (3, vi l), (9, AL n), (11, pt 11), (12, AL a), (13, vi ((List.length a : Nat) : Int)), (14, vi e), (22, vi i), (23, .v (.c (.ptr 11 1))), (24, vi (gl a e.toNat).kind_), (25, vb (decide (i ≤ ((gl a e.toNat).kind_)))), (32, vb false)] [(11, bx [ci ((gl a e.toNat).number_), ci ((gl a e.toNat).kind_), ci ((gl a e.toNat).from_), ci ((gl a e.toNat).until_), .d (DL (α := Rect) (gl a e.toNat).region_.rects_)])] ⟨KAt.CC (ref09_there_spec A) Tryz.call94 [], ALe.bool p, ALe.bool q, ⟨⟩⟩ ?_
       exact Kn.R Fm (t false h)
     ·have h := br_f h p
      refine AW.G Fm [.s, .s, .k (cE [] [] (vb o) [] []), .w (vb false), .s, .s, .s, .s, .s, .s, .s, .s, .s, .s, .s] (fun K => K 2 ∧ (ALe (vb o) (vb false)) ∧ True) [(1, vi i), (2, vi j), (3, vi l), (9, AL n), (11, pt 11), (12, AL a), (13, vi ((List.length a : Nat) : Int)), (14, vi e), (32, vb false)] [(11, bx [ci ((gl a e.toNat).number_), ci ((gl a e.toNat).kind_), ci ((gl a e.toNat).from_), ci ((gl a e.toNat).until_), .d (DL (α := Rect) (gl a e.toNat).region_.rects_)])] ⟨KAt.CC (ref09_there_spec A) Tryz.call94 [], ALe.bool p, ⟨⟩⟩ ?_
      exact Kn.R Fm (t false h)
  ·have h := br_f h u
   refine AW.exit ?_
   exact Kn.R Fm (M n h)
theorem ref09_Kind_spec {F : Nat} {i : (List Feature)} {a : Int} {e : Int} {r : Region × Int} (h : ref09_Kind F i a e = some r) :
  FSpec Tryz.prog 24 [AL i, vi a, vi e] [] (.t [.g [.d (DL (α := Rect) r.1.rects_)], .c (ci r.2)]) [] := by
 refine FSpec.intro prog_mixed prog_lay Tryz.func24 rfl (by kernel_rfl) fun C Fm => ?_
 unfold ref09_Kind at h
 refine AW.SG0 Fm 2 [(0, AL i), (1, vi a), (2, vi e), (6, pt 6)] [(6, bx [.fl 0 fun _ => []])] ?_
 refine AW.seq ?_
 refine AW.seq ?_
 obtain ⟨j, A, h⟩ := bd_some h
 refine AW.G Fm [.s, .k (cE [] [] (vi j) [] []), .s] (fun K => K 1 ∧ True) [(0, AL i), (1, vi a), (2, vi e), (6, pt 6), (8, vi j)] [(6, bx [.fl 0 fun _ => []])] ⟨KAt.CC (ref09_Check_spec A) Tryz.call43 [], ⟨⟩⟩ ?_
 refine AW.SG0 Fm 2 [(0, AL i), (1, vi a), (2, vi e), (6, pt 6), (8, vi j), (12, vb (j != (0 : Int)))] [(6, bx [.fl 0 fun _ => []])] ?_
 refine AW.cond (b := (j != (0 : Int))) (by kernel_rfl) (fun o => ?_) (fun o => ?_)
 ·have h := br_t h o
  refine AW.SG Fm [.w (.v (.g [.d (DL (α := Rect) [])])), .s, .s, .s] (fun K => (ALe (.v (.g [.fl 0 fun _ => []])) (.v (.g [.d (DL (α := Rect) [])]))) ∧ True) [(6, pt 6), (7, vi j)] [(6, bx [.d (DL (α := Rect) [])])] ⟨ALe.g ⟨CLe.fl .nil, ⟨⟩⟩, ⟨⟩⟩ ?_
  refine AW.ret ?_
  obtain rfl := Option.some.inj h
  exact Kn.D Fm
 ·have h := br_f h o
  refine AW.skip ?_
  refine AW.seq ?_
  refine AW.join (r := r) (fun z : Bool => ref09_Kind_k0 F i a e z) (fun z => [(0, AL i), (1, vi a), (2, vi e), (6, pt 6), (20, vb z)]) (fun z => [(6, bx [.fl 0 fun _ => []])]) (fun H h => ?_) (fun M u => ?_)
  ·refine AW.cond (b := H) (by kernel_rfl) (fun p => ?_) (fun p => ?_)
   ·have h := br_t h p
    refine AW.SG Fm [.w (.v (.g [.d (DL (α := Rect) [])])), .s, .s] (fun K => (ALe (.v (.g [.fl 0 fun _ => []])) (.v (.g [.d (DL (α := Rect) [])]))) ∧ True) [(6, pt 6), (7, vi (9 : Int))] [(6, bx [.d (DL (α := Rect) [])])] ⟨ALe.g ⟨CLe.fl .nil, ⟨⟩⟩, ⟨⟩⟩ ?_
    refine AW.ret ?_
    obtain rfl := Option.some.inj h
    exact Kn.D Fm
   ·have h := br_f h p
    refine AW.skip ?_
    refine AW.seq ?_
    refine AW.join (r := r) (fun z : Bool => ref09_Kind_k1 F i a e z) (fun z => [(0, AL i), (1, vi a), (2, vi e), (6, pt 6), (27, vb z)]) (fun z => [(6, bx [.fl 0 fun _ => []])]) (fun I h => ?_) (fun N y => ?_)
    ·refine AW.cond (b := I) (by kernel_rfl) (fun q => ?_) (fun q => ?_)
     ·have h := br_t h q
      refine AW.SG Fm [.w (.v (.g [.d (DL (α := Rect) [])])), .s, .s] (fun K => (ALe (.v (.g [.fl 0 fun _ => []])) (.v (.g [.d (DL (α := Rect) [])]))) ∧ True) [(6, pt 6), (7, vi (14 : Int))] [(6, bx [.d (DL (α := Rect) [])])] ⟨ALe.g ⟨CLe.fl .nil, ⟨⟩⟩, ⟨⟩⟩ ?_
      refine AW.ret ?_
      obtain rfl := Option.some.inj h
      exact Kn.D Fm
     ·have h := br_f h q
      refine AW.skip ?_
      refine AW.seq ?_
      obtain ⟨L, B, h⟩ := bd_some h
      obtain ⟨n, E, h⟩ := bd_some h
      refine AW.G Fm [.s, .s, .s, .s, .k (cE [] [] (AL L) [] []), .k (cE [] [] (.t [.g [.d (DL n.1.rects_)], .c (ci n.2)]) [] []), .s, .s, .s, .s] (fun K => K 4 ∧ K 5 ∧ True) [(6, pt 6), (7, vi n.2)] [(6, bx [.d (DL n.1.rects_)])] ⟨KAt.CC (ref09_Squares_spec B) Tryz.call79 [], KAt.CC (ref04_Bound_spec E) Tryz.call78 [], ⟨⟩⟩ ?_
      refine AW.ret ?_
      obtain rfl := Option.some.inj h
      exact Kn.D Fm
    ·rcases Bool.eq_false_or_eq_true (decide (a < (0 : Int))) with m | m
     ·have h := br_t h m
      refine AW.G Fm [.s, .s, .w (vb true), .s, .s, .s] (fun K => (ALe (vb (decide (a < (0 : Int)))) (vb true)) ∧ True) [(0, AL i), (1, vi a), (2, vi e), (6, pt 6), (27, vb true)] [(6, bx [.fl 0 fun _ => []])] ⟨ALe.bool m, ⟨⟩⟩ ?_
      exact Kn.R Fm (y true h)
     ·have h := br_f h m
      refine AW.G Fm [.s, .s, .w (vb false), .s, .s, .s] (fun K => (ALe (vb (decide (a < (0 : Int)))) (vb false)) ∧ True) [(0, AL i), (1, vi a), (2, vi e), (6, pt 6), (27, vb (decide ((15 : Int) < a)))] [(6, bx [.fl 0 fun _ => []])] ⟨ALe.bool m, ⟨⟩⟩ ?_
      exact Kn.R Fm (y (decide ((15 : Int) < a)) h)
  ·rcases Bool.eq_false_or_eq_true (decide (e < (0 : Int))) with l | l
   ·have h := br_t h l
    refine AW.G Fm [.s, .s, .w (vb true), .s, .s, .s] (fun K => (ALe (vb (decide (e < (0 : Int)))) (vb true)) ∧ True) [(0, AL i), (1, vi a), (2, vi e), (6, pt 6), (20, vb true)] [(6, bx [.fl 0 fun _ => []])] ⟨ALe.bool l, ⟨⟩⟩ ?_
    exact Kn.R Fm (u true h)
   ·have h := br_f h l
    refine AW.G Fm [.s, .s, .w (vb false), .s, .s, .s] (fun K => (ALe (vb (decide (e < (0 : Int)))) (vb false)) ∧ True) [(0, AL i), (1, vi a), (2, vi e), (6, pt 6), (20, vb (decide ((36864 : Int) < e)))] [(6, bx [.fl 0 fun _ => []])] ⟨ALe.bool l, ⟨⟩⟩ ?_
    exact Kn.R Fm (u (decide ((36864 : Int) < e)) h)
theorem ref01_Has_spec {F : Nat} {a : (List Int)} {c : Int} {r : Bool} (h : ref01_Has F a c = some r) :
  FSpec Tryz.prog 25 [AL a, vi c] [] (vb r) [] := by
 refine FSpec.intro prog_mixed prog_lay Tryz.func25 rfl (by kernel_rfl) fun C Fm => ?_
 unfold ref01_Has at h
 refine AW.SG0 Fm 1 [(0, AL a), (1, vi c)] [] ?_
 refine AW.join (r := r) (fun z : Unit => ref01_Has_k1 F) (fun z => []) (fun z => []) (fun z h => ?_) (fun o k => ?_)
 ·refine AW.SG0 Fm 1 [(4, vb false)] [] ?_
  refine AW.ret ?_
  obtain rfl := Option.some.inj h
  exact Kn.D Fm
 ·refine AW.SG0 Fm 3 [(1, vi c), (7, AL a), (8, vi ((List.length a : Nat) : Int)), (9, vi (0 : Int))] [] ?_
  refine AW.block ?_
  refine Kn.r Fm [(1, vi c), (7, AL a), (8, vi ((List.length a : Nat) : Int)), (9, vi (0 : Int))] [] (by kernel_rfl) ?_
  refine AW.loopF (E' := fun z => [(1, vi c), (7, AL a), (8, vi ((List.length a : Nat) : Int)), (9, vi z)]) (S' := fun z => []) (fun p d n j h => ?_) h
  refine AW.SG0 Fm 1 [(1, vi c), (7, AL a), (8, vi ((List.length a : Nat) : Int)), (9, vi d), (10, vb (decide (d < ((List.length a : Nat) : Int))))] [] ?_
  refine AW.seq ?_
  refine AW.cond (b := (decide (d < ((List.length a : Nat) : Int)))) (by kernel_rfl) (fun e => ?_) (fun e => ?_)
  ·have h := br_t h e
   refine AW.skip ?_
   refine AW.seq ?_
   refine AW.block ?_
   obtain ⟨l, h⟩ := gd_some h
   refine AW.SG Fm [.s, .s, .s] (fun K => _ ∧ True) [(1, vi c), (6, vi (gl a d.toNat)), (7, AL a), (8, vi ((List.length a : Nat) : Int)), (9, vi d)] [] ⟨l, ⟨⟩⟩ ?_
   refine AW.SG0 Fm 3 [(1, vi c), (7, AL a), (8, vi ((List.length a : Nat) : Int)), (9, vi d), (15, vb ((gl a d.toNat) == c))] [] ?_
   refine AW.cond (b := ((gl a d.toNat) == c)) (by kernel_rfl) (fun i => ?_) (fun i => ?_)
   ·have h := br_t h i
    refine AW.SG0 Fm 1 [(4, vb true)] [] ?_
    refine AW.ret ?_
    obtain rfl := Option.some.inj h
    exact Kn.D Fm
   ·have h := br_f h i
    refine AW.skip ?_
    obtain ⟨m, h⟩ := gd_some h
    refine AW.G Fm [.s, .s] (fun K => (I64 (d + (1 : Int)) ∧ True) ∧ True) [(1, vi c), (7, AL a), (8, vi ((List.length a : Nat) : Int)), (9, vi (d + (1 : Int)))] [] ⟨⟨m, ⟨⟩⟩, ⟨⟩⟩ ?_
    exact Kn.R Fm (j (d + (1 : Int)) h)
  ·have h := br_f h e
   refine AW.exit ?_
   exact Kn.R Fm (k () h)
theorem ref04_Has_spec {F : Nat} {c : Region} {e : Int} {i : Int} {r : Bool} (h : ref04_Has F c e i = some r) :
  FSpec Tryz.prog 26 [.v (.g [.d (DL c.rects_)]), vi e, vi i] [] (vb r) [] := by
 refine FSpec.intro prog_mixed prog_lay Tryz.func26 rfl (by kernel_rfl) fun C Fm => ?_
 unfold ref04_Has at h
 refine AW.SG0 Fm 2 [(1, vi e), (2, vi i), (3, pt 3)] [(3, bx [.d (DL c.rects_)])] ?_
 refine AW.join (r := r) (fun z : Bool => ref04_Has_k0 F z) (fun z => [(6, vb z)]) (fun z => []) (fun p h => ?_) (fun o l => ?_)
 ·refine AW.ret ?_
  obtain rfl := Option.some.inj h
  exact Kn.D Fm
 ·obtain ⟨b, m, h⟩ := bd_some h
  rcases Bool.eq_false_or_eq_true b with a | a
  ·have h := br_t h a
   obtain ⟨j, n, h⟩ := bd_some h
   refine AW.G Fm [.s, .k (cE [] [] (vb b) [] []), .w (vb true), .s, .s, .s, .s, .k (cE [] [] (vb j) [] []), .s, .s] (fun K => K 1 ∧ (ALe (vb b) (vb true)) ∧ K 7 ∧ True) [(6, vb j)] [] ⟨KAt.CC (ref04_Valid_spec m) Tryz.call70 [], ALe.bool a, KAt.CC (ref04_inside_spec n) Tryz.call80 [], ⟨⟩⟩ ?_
   exact Kn.R Fm (l j h)
  ·have h := br_f h a
   refine AW.G Fm [.s, .k (cE [] [] (vb b) [] []), .w (vb false), .s, .s, .s, .s, .s, .s, .s] (fun K => K 1 ∧ (ALe (vb b) (vb false)) ∧ True) [(6, vb false)] [] ⟨KAt.CC (ref04_Valid_spec m) Tryz.call70 [], ALe.bool a, ⟨⟩⟩ ?_
   exact Kn.R Fm (l false h)
theorem law11_ZoneSquares_spec {F : Nat} {b0 : (List Int)} {i : Int} {r : Bool} (h : law11_ZoneSquares F b0 i = some r) :
  FSpec Tryz.prog 5 [AL b0, .v (.c (.d (.int .u8 i)))] [] (vb r) [] := by
 refine FSpec.intro prog_mixed prog_lay Tryz.func5 rfl (by kernel_rfl) fun C Fm => ?_
 unfold law11_ZoneSquares at h
 refine AW.SG0 Fm 1 [(0, AL b0), (1, .v (.c (.d (.int .u8 i))))] [] ?_
 refine AW.seq ?_
 obtain ⟨c0, M0, h⟩ := bd_some h
 refine AW.G Fm [.s, .k (cE [(100, 24)] [] (pt 100) [] [(100, bx (gC c0))]), .s] (fun K => K 1 ∧ True) [(1, .v (.c (.d (.int .u8 i)))), (5, pt 24)] [(24, bx (gC c0))] ⟨KAt.CC (keep_New_spec M0) Tryz.call9 [(100, 24)], ⟨⟩⟩ ?_
 refine AW.seq ?_
 obtain ⟨e, N0, h⟩ := bd_some h
 obtain ⟨o, O0, h⟩ := bd_some h
 refine AW.G Fm [.s, .k (cE [(0, 24)] [] (AL e.2) [(0, bx (gC c0))] [(0, bx (gC e.1))]), .s, .k (cE [(0, 24)] [] (.v (.g [.d (DL o.2.rects_)])) [(0, bx (gC e.1))] [(0, bx (gC o.1))]), .s, .s, .s] (fun K => K 1 ∧ K 3 ∧ True) [(1, .v (.c (.d (.int .u8 i)))), (6, AL e.2), (7, pt 7)] [(7, bx [.d (DL o.2.rects_)])] ⟨KAt.CC (keep_Tape_Layer_spec N0) Tryz.call10 [(0, 24)], KAt.CC (keep_Tape_Region_spec O0) Tryz.call11 [(0, 24)], ⟨⟩⟩ ?_
 obtain ⟨B0, h⟩ := gd_some h
 obtain ⟨D0, h⟩ := gd_some h
 refine AW.SG Fm [.s, .s, .s, .s] (fun K => (I64 i ∧ True) ∧ _ ∧ True) [(6, AL e.2), (7, pt 7), (8, vi (i.tmod (45 : Int)))] [(7, bx [.d (DL o.2.rects_)])] ⟨⟨B0, ⟨⟩⟩, D0, ⟨⟩⟩ ?_
 refine AW.SG Fm [.m] (fun K => True) [(6, AL e.2), (7, pt 7), (8, vi (i.tmod (45 : Int))), (9, ow 9)] [(7, bx [.d (DL o.2.rects_)]), (9, .arr 5 (0) (fun _ => []))] True.intro ?_
 refine Kn.wk [(6, AL e.2), (7, pt 7), (8, vi (i.tmod (45 : Int))), (9, ow 9)] [(7, bx [.d (DL o.2.rects_)]), (9, AO (α := Feature) ([] : List Feature))] (FE.refl _) (⟨rfl, OLe.refl _, ⟨rfl, OLe.is ((Is.nil (α := Feature))), ⟨⟩⟩⟩) ?_
 refine AW.join (r := r) (fun z : (List Feature) => law11_ZoneSquares_k2 F i e o z) (fun z => [(6, AL e.2), (7, pt 7), (8, vi (i.tmod (45 : Int))), (9, ow 9)]) (fun z => [(7, bx [.d (DL o.2.rects_)]), (9, AO z)]) (fun a0 h => ?_) (fun d1 q0 => ?_)
 ·refine AW.seq ?_
  obtain ⟨u, P0, h⟩ := bd_some h
  refine AW.G Fm [.s, .s, .s, .k (cE [] [] (.t [.g [.d (DL u.1.rects_)], .c (ci u.2)]) [] []), .s, .s, .s, .s, .s, .s] (fun K => K 3 ∧ True) [(6, AL e.2), (7, pt 7), (8, vi (i.tmod (45 : Int))), (9, ow 9), (12, pt 12), (13, vi u.2)] [(7, bx [.d (DL o.2.rects_)]), (9, AO a0), (12, bx [.d (DL u.1.rects_)])] ⟨KAt.CC (zone_Eligible_spec P0) Tryz.call12 [], ⟨⟩⟩ ?_
  refine AW.seq ?_
  refine Kn.r Fm [(6, AL e.2), (7, pt 7), (8, vi (i.tmod (45 : Int))), (9, ow 9), (12, pt 12), (13, vi u.2)] [(9, AO a0), (7, bx [.d (DL o.2.rects_)]), (12, bx [.d (DL u.1.rects_)])] (by kernel_rfl) ?_
  refine Kn.frz [(6, AL e.2), (7, pt 7), (8, vi (i.tmod (45 : Int))), (9, AL a0), (12, pt 12), (13, vi u.2)] [(7, bx [.d (DL o.2.rects_)]), (12, bx [.d (DL u.1.rects_)])] (by kernel_rfl) (by kernel_rfl) (by kernel_rfl) ?_
  obtain ⟨E, R0, h⟩ := bd_some h
  refine AW.G Fm [.s, .s, .s, .k (cE [] [] (.t [.g [.d (DL E.1.rects_)], .c (ci E.2)]) [] []), .s, .s, .s, .s, .s, .s] (fun K => K 3 ∧ True) [(6, AL e.2), (8, vi (i.tmod (45 : Int))), (12, pt 12), (13, vi u.2), (14, pt 14), (15, vi E.2)] [(12, bx [.d (DL u.1.rects_)]), (14, bx [.d (DL E.1.rects_)])] ⟨KAt.CC (zone_Eligible_spec R0) Tryz.call12 [], ⟨⟩⟩ ?_
  refine AW.seq ?_
  refine AW.join (r := r) (fun z : Bool => law11_ZoneSquares_k3 F i e z) (fun z => [(6, AL e.2), (8, vi (i.tmod (45 : Int))), (71, vb z)]) (fun z => []) (fun Z0 h => ?_) (fun e1 O => ?_)
  ·refine AW.cond (b := Z0) (by kernel_rfl) (fun U => ?_) (fun U => ?_)
   ·have h := br_t h U
    refine AW.SG0 Fm 1 [(4, vb false)] [] ?_
    refine AW.ret ?_
    obtain rfl := Option.some.inj h
    exact Kn.D Fm
   ·have h := br_f h U
    refine AW.skip ?_
    refine AW.join (r := r) (fun z : Unit => law11_ZoneSquares_k10 F) (fun z => []) (fun z => []) (fun z h => ?_) (fun o1 A0 => ?_)
    ·refine AW.seq ?_
     obtain ⟨k0, Y0, h⟩ := bd_some h
     refine AW.G Fm [.k (cE [] [] (vb k0) [] []), .s] (fun K => K 0 ∧ True) [(4, vb k0)] [] ⟨KAt.CC (law11_awake_spec Y0) Tryz.call19 [], ⟨⟩⟩ ?_
     refine AW.ret ?_
     obtain rfl := Option.some.inj h
     exact Kn.D Fm
    ·refine AW.SG0 Fm 1 [(6, AL e.2), (8, vi (i.tmod (45 : Int))), (16, vi (0 : Int))] [] ?_
     refine AW.block ?_
     refine Kn.r Fm [(6, AL e.2), (8, vi (i.tmod (45 : Int))), (16, vi (0 : Int))] [] (by kernel_rfl) ?_
     refine AW.loopF (E' := fun z => [(6, AL e.2), (8, vi (i.tmod (45 : Int))), (16, vi z)]) (S' := fun z => []) (fun m0 n i1 s0 h => ?_) h
     refine AW.seq ?_
     refine AW.SG0 Fm 2 [(6, AL e.2), (8, vi (i.tmod (45 : Int))), (16, vi n), (73, vb (decide (n < (10 : Int))))] [] ?_
     refine AW.cond (b := (decide (n < (10 : Int)))) (by kernel_rfl) (fun V => ?_) (fun V => ?_)
     ·have h := br_t h V
      refine AW.skip ?_
      refine AW.join (r := r) (fun z : Unit => law11_ZoneSquares_k9 F n m0) (fun z => [(6, AL e.2), (8, vi (i.tmod (45 : Int))), (16, vi n)]) (fun z => []) (fun z h => ?_) (fun n1 y0 => ?_)
      ·obtain ⟨L0, h⟩ := gd_some h
       refine AW.G Fm [.s, .s, .s] (fun K => (I64 (n + (3 : Int)) ∧ True) ∧ True) [(6, AL e.2), (8, vi (i.tmod (45 : Int))), (16, vi (n + (3 : Int)))] [] ⟨⟨L0, ⟨⟩⟩, ⟨⟩⟩ ?_
       exact Kn.R Fm (s0 (n + (3 : Int)) h)
      ·refine AW.block ?_
       refine AW.SG0 Fm 1 [(6, AL e.2), (8, vi (i.tmod (45 : Int))), (16, vi n), (17, vi (0 : Int))] [] ?_
       refine AW.block ?_
       refine Kn.r Fm [(6, AL e.2), (8, vi (i.tmod (45 : Int))), (16, vi n), (17, vi (0 : Int))] [] (by kernel_rfl) ?_
       refine AW.loopF (E' := fun z => [(6, AL e.2), (8, vi (i.tmod (45 : Int))), (16, vi n), (17, vi z)]) (S' := fun z => []) (fun n0 p j1 t0 h => ?_) h
       refine AW.seq ?_
       refine AW.SG0 Fm 2 [(6, AL e.2), (8, vi (i.tmod (45 : Int))), (16, vi n), (17, vi p), (77, vb (decide (p < (10 : Int))))] [] ?_
       refine AW.cond (b := (decide (p < (10 : Int)))) (by kernel_rfl) (fun W => ?_) (fun W => ?_)
       ·have h := br_t h W
        refine AW.skip ?_
        refine AW.join (r := r) (fun z : Unit => law11_ZoneSquares_k8 F p n0) (fun z => [(6, AL e.2), (8, vi (i.tmod (45 : Int))), (16, vi n), (17, vi p)]) (fun z => []) (fun z h => ?_) (fun m1 w0 => ?_)
        ·obtain ⟨K0, h⟩ := gd_some h
         refine AW.G Fm [.s, .s, .s] (fun K => (I64 (p + (2 : Int)) ∧ True) ∧ True) [(6, AL e.2), (8, vi (i.tmod (45 : Int))), (16, vi n), (17, vi (p + (2 : Int)))] [] ⟨⟨K0, ⟨⟩⟩, ⟨⟩⟩ ?_
         exact Kn.R Fm (t0 (p + (2 : Int)) h)
        ·refine AW.block ?_
         refine AW.seq ?_
         obtain ⟨q, U0, h⟩ := bd_some h
         refine AW.G Fm [.s, .s, .s, .s, .k (cE [] [] (.t [.c (.d (DL q.1)), .c (ci q.2)]) [] []), .s, .s, .s, .s, .s] (fun K => K 4 ∧ True) [(6, AL e.2), (8, vi (i.tmod (45 : Int))), (16, vi n), (17, vi p), (18, AL q.1), (19, vi q.2)] [] ⟨KAt.CC (zone_Zones_spec U0) Tryz.call23 [], ⟨⟩⟩ ?_
         refine AW.seq ?_
         refine AW.SG0 Fm 2 [(6, AL e.2), (8, vi (i.tmod (45 : Int))), (16, vi n), (17, vi p), (18, AL q.1), (89, vb (q.2 != (0 : Int)))] [] ?_
         refine AW.cond (b := (q.2 != (0 : Int))) (by kernel_rfl) (fun X => ?_) (fun X => ?_)
         ·have h := br_t h X
          refine AW.SG0 Fm 1 [(4, vb false)] [] ?_
          refine AW.ret ?_
          obtain rfl := Option.some.inj h
          exact Kn.D Fm
         ·have h := br_f h X
          refine AW.skip ?_
          refine AW.SG0 Fm 1 [(6, AL e.2), (8, vi (i.tmod (45 : Int))), (16, vi n), (17, vi p), (18, AL q.1), (20, vi (0 : Int))] [] ?_
          refine AW.block ?_
          refine Kn.r Fm [(6, AL e.2), (8, vi (i.tmod (45 : Int))), (16, vi n), (17, vi p), (18, AL q.1), (20, vi (0 : Int))] [] (by kernel_rfl) ?_
          refine AW.loopF (E' := fun z => [(6, AL e.2), (8, vi (i.tmod (45 : Int))), (16, vi n), (17, vi p), (18, AL q.1), (20, vi z)]) (S' := fun z => []) (fun o0 A k1 u0 h => ?_) h
          refine AW.seq ?_
          refine AW.SG0 Fm 2 [(6, AL e.2), (8, vi (i.tmod (45 : Int))), (16, vi n), (17, vi p), (18, AL q.1), (20, vi A), (91, vb (decide (A ≤ (15 : Int))))] [] ?_
          refine AW.cond (b := (decide (A ≤ (15 : Int)))) (by kernel_rfl) (fun Y => ?_) (fun Y => ?_)
          ·have h := br_t h Y
           refine AW.skip ?_
           refine AW.seq ?_
           refine AW.block ?_
           refine AW.seq ?_
           obtain ⟨B, V0, h⟩ := bd_some h
           refine AW.G Fm [.s, .s, .s, .k (cE [] [] (.t [.g [.d (DL B.1.rects_)], .c (ci B.2)]) [] []), .s, .s, .s, .s, .s, .s] (fun K => K 3 ∧ True) [(6, AL e.2), (8, vi (i.tmod (45 : Int))), (16, vi n), (17, vi p), (18, AL q.1), (20, vi A), (21, pt 21), (22, vi B.2)] [(21, bx [.d (DL B.1.rects_)])] ⟨KAt.CC (ref09_Kind_spec V0) Tryz.call24 [], ⟨⟩⟩ ?_
           refine AW.join (r := r) (fun z : Bool => law11_ZoneSquares_k7 F A o0 z) (fun z => [(6, AL e.2), (8, vi (i.tmod (45 : Int))), (16, vi n), (17, vi p), (18, AL q.1), (20, vi A), (112, vb z)]) (fun z => []) (fun a1 h => ?_) (fun l1 i0 => ?_)
           ·refine AW.cond (b := a1) (by kernel_rfl) (fun Z => ?_) (fun Z => ?_)
            ·have h := br_t h Z
             refine AW.SG0 Fm 1 [(4, vb false)] [] ?_
             refine AW.ret ?_
             obtain rfl := Option.some.inj h
             exact Kn.D Fm
            ·have h := br_f h Z
             refine AW.skip ?_
             obtain ⟨I0, h⟩ := gd_some h
             refine AW.G Fm [.s, .s, .s] (fun K => (I64 (A + (1 : Int)) ∧ True) ∧ True) [(6, AL e.2), (8, vi (i.tmod (45 : Int))), (16, vi n), (17, vi p), (18, AL q.1), (20, vi (A + (1 : Int)))] [] ⟨⟨I0, ⟨⟩⟩, ⟨⟩⟩ ?_
             exact Kn.R Fm (u0 (A + (1 : Int)) h)
           ·rcases Bool.eq_false_or_eq_true (B.2 != (0 : Int)) with N | N
            ·have h := br_t h N
             refine AW.G Fm [.s, .s, .w (vb true), .s, .s, .s, .s, .s, .s, .s, .s, .s] (fun K => (ALe (vb (B.2 != (0 : Int))) (vb true)) ∧ True) [(6, AL e.2), (8, vi (i.tmod (45 : Int))), (16, vi n), (17, vi p), (18, AL q.1), (20, vi A), (112, vb true)] [] ⟨ALe.bool N, ⟨⟩⟩ ?_
             exact Kn.R Fm (i0 true h)
            ·have h := br_f h N
             obtain ⟨H, W0, h⟩ := bd_some h
             obtain ⟨I, X0, h⟩ := bd_some h
             refine AW.G Fm [.s, .s, .w (vb false), .s, .s, .k (cE [] [] (vb H) [] []), .s, .s, .s, .k (cE [] [] (vb I) [] []), .k (sE (vb (!(H == I)))), .s] (fun K => (ALe (vb (B.2 != (0 : Int))) (vb false)) ∧ K 5 ∧ K 9 ∧ K 10 ∧ True) [(6, AL e.2), (8, vi (i.tmod (45 : Int))), (16, vi n), (17, vi p), (18, AL q.1), (20, vi A), (104, AL q.1), (105, vi A), (106, vb H), (107, .v (.g [.d (DL B.1.rects_)])), (108, vi n), (109, vi p), (110, vb I), (111, vb (!(H == I))), (112, vb (!(H == I)))] [] ⟨ALe.bool N, KAt.CC (ref01_Has_spec W0) Tryz.call25 [], KAt.CC (ref04_Has_spec X0) Tryz.call26 [], KAt.eqb (t := 4) (by kernel_rfl) false (a := H) (b := I) rfl rfl (by kernel_rfl) (by kernel_rfl) (by kernel_rfl), ⟨⟩⟩ ?_
             exact Kn.R Fm (i0 (!(H == I)) h)
          ·have h := br_f h Y
           refine AW.exit ?_
           exact Kn.R Fm (w0 () h)
       ·have h := br_f h W
        refine AW.exit ?_
        exact Kn.R Fm (y0 () h)
     ·have h := br_f h V
      refine AW.exit ?_
      exact Kn.R Fm (A0 () h)
  ·rcases Bool.eq_false_or_eq_true (u.2 != (0 : Int)) with L | L
   ·have h := br_t h L
    refine AW.G Fm [.s, .s, .w (vb true), .s, .s, .s, .s, .s, .s, .s, .s, .s] (fun K => (ALe (vb (u.2 != (0 : Int))) (vb true)) ∧ True) [(6, AL e.2), (8, vi (i.tmod (45 : Int))), (71, vb true)] [] ⟨ALe.bool L, ⟨⟩⟩ ?_
    exact Kn.R Fm (O true h)
   ·have h := br_f h L
    rcases Bool.eq_false_or_eq_true (E.2 != (0 : Int)) with M | M
    ·have h := br_t h M
     refine AW.G Fm [.s, .s, .w (vb false), .s, .s, .s, .w (vb true), .s, .s, .s, .s, .s] (fun K => (ALe (vb (u.2 != (0 : Int))) (vb false)) ∧ (ALe (vb (E.2 != (0 : Int))) (vb true)) ∧ True) [(6, AL e.2), (8, vi (i.tmod (45 : Int))), (71, vb true)] [] ⟨ALe.bool L, ALe.bool M, ⟨⟩⟩ ?_
     exact Kn.R Fm (O true h)
    ·have h := br_f h M
     obtain ⟨d0, T0, h⟩ := bd_some h
     refine AW.G Fm [.s, .s, .w (vb false), .s, .s, .s, .w (vb false), .s, .s, .k (cE [] [] (vb d0) [] []), .s, .s] (fun K => (ALe (vb (u.2 != (0 : Int))) (vb false)) ∧ (ALe (vb (E.2 != (0 : Int))) (vb false)) ∧ K 9 ∧ True) [(6, AL e.2), (8, vi (i.tmod (45 : Int))), (71, vb (!d0))] [] ⟨ALe.bool L, ALe.bool M, KAt.CC (ref04_Same_spec T0) Tryz.call22 [], ⟨⟩⟩ ?_
     exact Kn.R Fm (O (!d0) h)
 ·refine AW.SG0 Fm 3 [(6, AL e.2), (7, pt 7), (8, vi (i.tmod (45 : Int))), (9, ow 9), (32, AL e.2), (33, vi ((List.length e.2 : Nat) : Int)), (34, vi (0 : Int))] [(7, bx [.d (DL o.2.rects_)]), (9, AO (α := Feature) ([] : List Feature))] ?_
  refine AW.block ?_
  refine Kn.r Fm [(6, AL e.2), (7, pt 7), (8, vi (i.tmod (45 : Int))), (9, ow 9), (32, AL e.2), (33, vi ((List.length e.2 : Nat) : Int)), (34, vi (0 : Int))] [(7, bx [.d (DL o.2.rects_)]), (9, AO ([] : List Feature))] (by kernel_rfl) ?_
  refine AW.loopF (E' := fun z => [(6, AL e.2), (7, pt 7), (8, vi (i.tmod (45 : Int))), (9, ow 9), (32, AL e.2), (33, vi ((List.length e.2 : Nat) : Int)), (34, vi z.1)]) (S' := fun z => [(7, bx [.d (DL o.2.rects_)]), (9, AO z.2)]) (fun l0 z b1 p0 h => ?_) h
  obtain ⟨l, y⟩ := z
  refine AW.SG0 Fm 1 [(6, AL e.2), (7, pt 7), (8, vi (i.tmod (45 : Int))), (9, ow 9), (32, AL e.2), (33, vi ((List.length e.2 : Nat) : Int)), (34, vi l), (35, vb (decide (l < ((List.length e.2 : Nat) : Int))))] [(7, bx [.d (DL o.2.rects_)]), (9, AO y)] ?_
  refine AW.seq ?_
  refine AW.cond (b := (decide (l < ((List.length e.2 : Nat) : Int)))) (by kernel_rfl) (fun P => ?_) (fun P => ?_)
  ·have h := br_t h P
   refine AW.skip ?_
   refine AW.join (r := r) (fun z : (List Feature) => law11_ZoneSquares_k1 F l l0 z) (fun z => [(6, AL e.2), (7, pt 7), (8, vi (i.tmod (45 : Int))), (9, ow 44), (32, AL e.2), (33, vi ((List.length e.2 : Nat) : Int)), (34, vi l)]) (fun z => [(7, bx [.d (DL o.2.rects_)]), (44, AO z)]) (fun j0 h => ?_) (fun c1 e0 => ?_)
   ·obtain ⟨H0, h⟩ := gd_some h
    refine AW.G Fm [.s, .s] (fun K => (I64 (l + (1 : Int)) ∧ True) ∧ True) [(6, AL e.2), (7, pt 7), (8, vi (i.tmod (45 : Int))), (9, ow 44), (32, AL e.2), (33, vi ((List.length e.2 : Nat) : Int)), (34, vi (l + (1 : Int)))] [(7, bx [.d (DL o.2.rects_)]), (44, AO j0)] ⟨⟨H0, ⟨⟩⟩, ⟨⟩⟩ ?_
    exact Kn.RE Fm [(9, 44)] (p0 ((l + (1 : Int)), j0) h)
   ·refine AW.block ?_
    obtain ⟨E0, h⟩ := gd_some h
    refine AW.SG Fm [.s, .s, .s, .s] (fun K => _ ∧ True) [(6, AL e.2), (7, pt 7), (8, vi (i.tmod (45 : Int))), (9, ow 9), (11, pt 11), (32, AL e.2), (33, vi ((List.length e.2 : Nat) : Int)), (34, vi l)] [(7, bx [.d (DL o.2.rects_)]), (9, AO y), (11, bx [ci ((gl e.2 l.toNat).number_), ci ((gl e.2 l.toNat).kind_), ci ((gl e.2 l.toNat).from_), ci ((gl e.2 l.toNat).until_), .d (DL (α := Rect) (gl e.2 l.toNat).region_.rects_)])] ⟨E0, ⟨⟩⟩ ?_
    refine AW.SG0 Fm 3 [(6, AL e.2), (7, pt 7), (8, vi (i.tmod (45 : Int))), (9, ow 9), (11, pt 11), (32, AL e.2), (33, vi ((List.length e.2 : Nat) : Int)), (34, vi l), (40, vb (decide (((gl e.2 l.toNat).kind_) < (12 : Int))))] [(7, bx [.d (DL o.2.rects_)]), (9, AO y), (11, bx [ci ((gl e.2 l.toNat).number_), ci ((gl e.2 l.toNat).kind_), ci ((gl e.2 l.toNat).from_), ci ((gl e.2 l.toNat).until_), .d (DL (α := Rect) (gl e.2 l.toNat).region_.rects_)])] ?_
    refine AW.cond (b := (decide (((gl e.2 l.toNat).kind_) < (12 : Int)))) (by kernel_rfl) (fun T => ?_) (fun T => ?_)
    ·have h := br_t h T
     obtain ⟨G0, h⟩ := gd_some h
     refine AW.G Fm [.s, .s, .w (AL (α := Feature) ([(gl e.2 l.toNat)] : List Feature)), .s, .s] (fun K => (ALe (.v (.c (.d (.lst 1 (litF 5 [.int .i64 (gl e.2 l.toNat).number_, .int .i64 (gl e.2 l.toNat).kind_, .int .i64 (gl e.2 l.toNat).from_, .int .i64 (gl e.2 l.toNat).until_, DL (α := Rect) (gl e.2 l.toNat).region_.rects_]))))) (AL (α := Feature) ([(gl e.2 l.toNat)] : List Feature))) ∧ ((List.length (α := Feature) y) + (List.length (α := Feature) ([(gl e.2 l.toNat)] : List Feature)) ≤ LIM ∧ (∀ j, j < List.length (α := Feature) ([(gl e.2 l.toNat)] : List Feature) → ((LF (α := Feature) ([(gl e.2 l.toNat)] : List Feature)) j).length = 5) ∧ (True)) ∧ True) [(6, AL e.2), (7, pt 7), (8, vi (i.tmod (45 : Int))), (9, ow 44), (32, AL e.2), (33, vi ((List.length e.2 : Nat) : Int)), (34, vi l)] [(7, bx [.d (DL o.2.rects_)]), (44, .arr 5 ((List.length (α := Feature) y) + (List.length (α := Feature) ([(gl e.2 l.toNat)] : List Feature))) (appF (List.length (α := Feature) y) (LF (α := Feature) y) (LF (α := Feature) ([(gl e.2 l.toNat)] : List Feature))))] ⟨ALe.lst (.lit ([(gl e.2 l.toNat)] : List Feature) (by kernel_rfl)), ⟨G0, (Is.refl ([(gl e.2 l.toNat)] : List Feature) : Is (List.length (α := Feature) ([(gl e.2 l.toNat)] : List Feature)) (LF (α := Feature) ([(gl e.2 l.toNat)] : List Feature)) ([(gl e.2 l.toNat)] : List Feature)).len, ⟨⟩⟩, ⟨⟩⟩ ?_
     refine Kn.wk [(6, AL e.2), (7, pt 7), (8, vi (i.tmod (45 : Int))), (9, ow 44), (32, AL e.2), (33, vi ((List.length e.2 : Nat) : Int)), (34, vi l)] [(7, bx [.d (DL o.2.rects_)]), (44, AO (α := Feature) (y ++ ([(gl e.2 l.toNat)] : List Feature)))] (FE.refl _) (⟨rfl, OLe.refl _, ⟨rfl, OLe.is (Is.app (Is.refl y) (Is.refl ([(gl e.2 l.toNat)] : List Feature))), ⟨⟩⟩⟩) ?_
     exact Kn.R Fm (e0 (y ++ ([(gl e.2 l.toNat)] : List Feature)) h)
    ·have h := br_f h T
     refine AW.skip ?_
     exact Kn.RE Fm [(44, 9)] (e0 y h)
  ·have h := br_f h P
   refine AW.exit ?_
   exact Kn.R Fm (q0 y h)
end Go.Ab
end
