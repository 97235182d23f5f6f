/- The code that the statement reaches as plain programs, and what they compute: no condition on the program. -/
import Derived.Test.YthifkkpkmdpoiaaGreatAbC
set_option linter.unusedVariables false
set_option linter.unusedSimpArgs false
section
/- Pure programs of functions of the given program, written by a program. -/
namespace Go.Ab
set_option linter.unusedVariables false
set_option maxRecDepth 100000
noncomputable section
instance : Emb Rect := ⟨fun x => [.int .i64 x.left_, .int .i64 x.low_, .int .i64 x.right_, .int .i64 x.high_], 4, ⟨0, 0, 0, 0⟩, fun _ => rfl⟩
structure Region where
  rects_ : (List Rect)
  deriving DecidableEq
instance : Emb Region := ⟨fun x => [DL (α := Rect) x.rects_], 1, ⟨[]⟩, fun _ => rfl⟩
structure Feature where
  number_ : Int
  kind_ : Int
  from_ : Int
  until_ : Int
  region_ : Region
  deriving DecidableEq
instance : Emb Feature := ⟨fun x => [.int .i64 x.number_, .int .i64 x.kind_, .int .i64 x.from_, .int .i64 x.until_, DL (α := Rect) x.region_.rects_], 5, ⟨0, 0, 0, 0, ⟨[]⟩⟩, fun _ => rfl⟩
structure Tape where
  l_ : (List Int)
  at_ : Int
  deriving DecidableEq
instance : Emb Tape := ⟨fun x => [DL (α := Int) x.l_, .int .i64 x.at_], 2, ⟨[], 0⟩, fun _ => rfl⟩
instance : Emb Span := ⟨fun x => [.int .i64 x.left_, .int .i64 x.right_], 2, ⟨0, 0⟩, fun _ => rfl⟩
structure Band where
  low_ : Int
  high_ : Int
  spans_ : (List Span)
  deriving DecidableEq
instance : Emb Band := ⟨fun x => [.int .i64 x.low_, .int .i64 x.high_, DL (α := Span) x.spans_], 3, ⟨0, 0, []⟩, fun _ => rfl⟩
def FR_Rect_Bool (q : Rect → Option Bool) : List AVal → AVal → Prop := fun args r => ∃ x0 y, q x0 = some y ∧ args = [.v (.g [.d (.int .i64 x0.left_), .d (.int .i64 x0.low_), .d (.int .i64 x0.right_), .d (.int .i64 x0.high_)])] ∧ r = vb y
def FR_Span_Span_Int (q : Span → Span → Option Int) : List AVal → AVal → Prop := fun args r => ∃ x0 x1 y, q x0 x1 = some y ∧ args = [.v (.g [.d (.int .i64 x0.left_), .d (.int .i64 x0.right_)]), .v (.g [.d (.int .i64 x1.left_), .d (.int .i64 x1.right_)])] ∧ r = vi y
def FR_Int_ListSpan (q : Int → Option (List Span)) : List AVal → AVal → Prop := fun args r => ∃ x0 y, q x0 = some y ∧ args = [vi x0] ∧ r = AL (α := Span) y
def FR_Feature_Bool (q : Feature → Option Bool) : List AVal → AVal → Prop := fun args r => ∃ x0 y, q x0 = some y ∧ args = [.v (.g [.d (.int .i64 x0.number_), .d (.int .i64 x0.kind_), .d (.int .i64 x0.from_), .d (.int .i64 x0.until_), .d (DL (α := Rect) x0.region_.rects_)])] ∧ r = vb y
def FR_Feature_Feature_Int (q : Feature → Feature → Option Int) : List AVal → AVal → Prop := fun args r => ∃ x0 x1 y, q x0 x1 = some y ∧ args = [.v (.g [.d (.int .i64 x0.number_), .d (.int .i64 x0.kind_), .d (.int .i64 x0.from_), .d (.int .i64 x0.until_), .d (DL (α := Rect) x0.region_.rects_)]), .v (.g [.d (.int .i64 x1.number_), .d (.int .i64 x1.kind_), .d (.int .i64 x1.from_), .d (.int .i64 x1.until_), .d (DL (α := Rect) x1.region_.rects_)])] ∧ r = vi y
/- landaid/landaidkeep.New -/
def keep_New (F : Nat) (x1 : (List Int)) : Option (Tape) :=
  gd (0 ≤ (gmin ((List.length x1 : Nat) : Int) (400 : Int)) ∧ (gmin ((List.length x1 : Nat) : Int) (400 : Int)) ≤ ((List.length x1 : Nat) : Int)) <|
  some (⟨(x1.take (gmin ((List.length x1 : Nat) : Int) (400 : Int)).toNat), 0⟩ : Tape)
/- landaid/landaidkeep.Mod -/
def keep_Mod_k0 (F : Nat) (v9 : Int) : Option (Int) :=
  some v9
def keep_Mod (F : Nat) (x3 : Int) (x4 : Int) : Option (Int) :=
  br (decide (x4 < (1 : Int))) (some (0 : Int)) (gd (x4 ≠ 0) <|
  br (decide ((x3.tmod x4) < (0 : Int))) (gd (I64 ((x3.tmod x4) + x4)) <|
  keep_Mod_k0 F ((x3.tmod x4) + x4)) (keep_Mod_k0 F (x3.tmod x4)))
/- (*landaid/landaidkeep.Tape).Next -/
def keep_Tape_Next (F : Nat) (x11 : Tape) (x12 : Int) : Option (Tape × Int) :=
  br (decide (((List.length x11.l_ : Nat) : Int) ≤ x11.at_)) (some (x11, (0 : Int))) (gd (I64 (x11.at_ + (1 : Int))) <|
  gd (I64 ((x11.at_ + (1 : Int)) - (1 : Int))) <|
  gd (0 ≤ ((x11.at_ + (1 : Int)) - (1 : Int)) ∧ ((x11.at_ + (1 : Int)) - (1 : Int)) < ((List.length x11.l_ : Nat) : Int)) <|
  (keep_Mod F (gl x11.l_ ((x11.at_ + (1 : Int)) - (1 : Int)).toNat) x12).bind fun z17 =>
  some ((⟨x11.l_, (x11.at_ + (1 : Int))⟩ : Tape), z17))
/- (*landaid/landaidkeep.Tape).Range -/
def keep_Tape_Range (F : Nat) (x19 : Tape) (x20 : Int) (x21 : Int) : Option (Tape × Int) :=
  gd (I64 (x21 - x20)) <|
  gd (I64 ((x21 - x20) + (1 : Int))) <|
  (keep_Tape_Next F x19 ((x21 - x20) + (1 : Int))).bind fun z24 =>
  gd (I64 (x20 + z24.2)) <|
  some (z24.1, (x20 + z24.2))
/- (*landaid/landaidkeep.Tape).Rect -/
def keep_Tape_Rect (F : Nat) (x27 : Tape) (x28 : Int) : Option (Tape × Rect) :=
  (keep_Tape_Next F x27 x28).bind fun z29 =>
  (keep_Tape_Next F z29.1 x28).bind fun z31 =>
  gd (I64 (z29.2 + (1 : Int))) <|
  gd (I64 (x28 - z29.2)) <|
  (keep_Tape_Next F z31.1 (x28 - z29.2)).bind fun z35 =>
  gd (I64 ((z29.2 + (1 : Int)) + z35.2)) <|
  gd (I64 (z31.2 + (1 : Int))) <|
  gd (I64 (x28 - z31.2)) <|
  (keep_Tape_Next F z35.1 (x28 - z31.2)).bind fun z40 =>
  gd (I64 ((z31.2 + (1 : Int)) + z40.2)) <|
  some (z40.1, (⟨z29.2, z31.2, ((z29.2 + (1 : Int)) + z35.2), ((z31.2 + (1 : Int)) + z40.2)⟩ : Rect))
/- landaid/landaidref04.proper -/
def ref04_proper_k0 (F : Nat) (v49 : Bool) : Option (Bool) :=
  some v49
def ref04_proper (F : Nat) (x43 : Rect) : Option (Bool) :=
  br (decide ((0 : Int) ≤ x43.left_)) (br (decide (x43.left_ < x43.right_)) (br (decide (x43.right_ ≤ (16384 : Int))) (br (decide ((0 : Int) ≤ x43.low_)) (br (decide (x43.low_ < x43.high_)) (ref04_proper_k0 F (decide (x43.high_ ≤ (16384 : Int)))) (ref04_proper_k0 F false)) (ref04_proper_k0 F false)) (ref04_proper_k0 F false)) (ref04_proper_k0 F false)) (ref04_proper_k0 F false)
/- landaid/landaidref01.Put -/
def ref01_Put_k3 (F : Nat) (x51 : (List Int)) (x52 : Int) (v68 : Int) (v72 : Bool) : Option ((List Int)) :=
  br v72 (some x51) (gd (0 ≤ v68 ∧ v68 ≤ ((List.length x51 : Nat) : Int)) <|
  gd ((0) + (List.length (α := Int) (x51.take v68.toNat)) ≤ LIM) <|
  gd (((0) + (List.length (α := Int) (x51.take v68.toNat))) + (List.length (α := Int) ([x52] : List Int)) ≤ LIM) <|
  gd (0 ≤ v68 ∧ v68 ≤ ((List.length x51 : Nat) : Int)) <|
  gd ((((0) + (List.length (α := Int) (x51.take v68.toNat))) + (List.length (α := Int) ([x52] : List Int))) + (List.length (α := Int) (x51.drop v68.toNat)) ≤ LIM) <|
  some (((([] : List Int) ++ (x51.take v68.toNat)) ++ ([x52] : List Int)) ++ (x51.drop v68.toNat)))
def ref01_Put_k2 (F : Nat) (x51 : (List Int)) (x52 : Int) (v68 : Int) : Option ((List Int)) :=
  br (decide (v68 < ((List.length x51 : Nat) : Int))) (gd (0 ≤ v68 ∧ v68 < ((List.length x51 : Nat) : Int)) <|
  ref01_Put_k3 F x51 x52 v68 ((gl x51 v68.toNat) == x52)) (ref01_Put_k3 F x51 x52 v68 false)
def ref01_Put_k1 (F : Nat) (x51 : (List Int)) (x52 : Int) (v60 : Int) (ag_ref01_Put_b0 : (Int) → Option ((List Int))) (v64 : Bool) : Option ((List Int)) :=
  br v64 (gd (I64 (v60 + (1 : Int))) <|
  ag_ref01_Put_b0 (v60 + (1 : Int))) (ref01_Put_k2 F x51 x52 v60)
def ref01_Put_b0 (F : Nat) (x51 : (List Int)) (x52 : Int) (ag_ref01_Put_b0 : (Int) → Option ((List Int))) (v60 : Int) : Option ((List Int)) :=
  br (decide (v60 < ((List.length x51 : Nat) : Int))) (gd (0 ≤ v60 ∧ v60 < ((List.length x51 : Nat) : Int)) <|
  ref01_Put_k1 F x51 x52 v60 ag_ref01_Put_b0 (decide ((gl x51 v60.toNat) < x52))) (ref01_Put_k1 F x51 x52 v60 ag_ref01_Put_b0 false)
def ref01_Put (F : Nat) (x51 : (List Int)) (x52 : Int) : Option ((List Int)) :=
  loopN (fun again (z : Int) => ref01_Put_b0 F x51 x52 again z) F (0 : Int)
/- landaid/landaidref04.inside -/
def ref04_inside_k1 (F : Nat) (v93 : Int) (ag_ref04_inside_b0 : (Int) → Option (Bool)) (v100 : Bool) : Option (Bool) :=
  br v100 (some true) (gd (I64 (v93 + (1 : Int))) <|
  ag_ref04_inside_b0 (v93 + (1 : Int)))
def ref04_inside_k2 (F : Nat) : Option (Bool) :=
  some false
def ref04_inside_b0 (F : Nat) (x80 : (List Rect)) (x81 : Int) (x82 : Int) (ag_ref04_inside_b0 : (Int) → Option (Bool)) (v93 : Int) : Option (Bool) :=
  br (decide (v93 < ((List.length x80 : Nat) : Int))) (gd (0 ≤ v93 ∧ v93 < ((List.length x80 : Nat) : Int)) <|
  br (decide (((gl x80 v93.toNat).left_) ≤ x81)) (br (decide (x81 < ((gl x80 v93.toNat).right_))) (br (decide (((gl x80 v93.toNat).low_) ≤ x82)) (ref04_inside_k1 F v93 ag_ref04_inside_b0 (decide (x82 < ((gl x80 v93.toNat).high_)))) (ref04_inside_k1 F v93 ag_ref04_inside_b0 false)) (ref04_inside_k1 F v93 ag_ref04_inside_b0 false)) (ref04_inside_k1 F v93 ag_ref04_inside_b0 false)) (ref04_inside_k2 F)
def ref04_inside (F : Nat) (x80 : (List Rect)) (x81 : Int) (x82 : Int) : Option (Bool) :=
  loopN (fun again (z : Int) => ref04_inside_b0 F x80 x81 x82 again z) F (0 : Int)
/- landaid/landaidref04.keep -/
def ref04_keep_k0 (F : Nat) (v110 : Bool) : Option (Bool) :=
  some v110
def ref04_keep_k1 (F : Nat) (v114 : Bool) : Option (Bool) :=
  some v114
def ref04_keep_k2 (F : Nat) (v117 : Bool) : Option (Bool) :=
  some v117
def ref04_keep (F : Nat) (x105 : Bool) (x106 : Bool) (x107 : Int) : Option (Bool) :=
  br (x107 == (1 : Int)) (br x105 (ref04_keep_k0 F true) (ref04_keep_k0 F x106)) (br (x107 == (2 : Int)) (br x105 (ref04_keep_k1 F x106) (ref04_keep_k1 F false)) (br x105 (ref04_keep_k2 F (!x106)) (ref04_keep_k2 F false)))
/- landaid/landaidref04.same -/
def ref04_same_k1 (F : Nat) (v133 : Int) (ag_ref04_same_b0 : (Int) → Option (Bool)) (v141 : Bool) : Option (Bool) :=
  br v141 (some false) (gd (I64 (v133 + (1 : Int))) <|
  ag_ref04_same_b0 (v133 + (1 : Int)))
def ref04_same_k2 (F : Nat) : Option (Bool) :=
  some true
def ref04_same_b0 (F : Nat) (x119 : (List Rect)) (x120 : (List Rect)) (ag_ref04_same_b0 : (Int) → Option (Bool)) (v133 : Int) : Option (Bool) :=
  br (decide (v133 < ((List.length x119 : Nat) : Int))) (gd (0 ≤ v133 ∧ v133 < ((List.length x119 : Nat) : Int)) <|
  gd (0 ≤ v133 ∧ v133 < ((List.length x120 : Nat) : Int)) <|
  br (((gl x119 v133.toNat).left_) != ((gl x120 v133.toNat).left_)) (ref04_same_k1 F v133 ag_ref04_same_b0 true) (gd (0 ≤ v133 ∧ v133 < ((List.length x119 : Nat) : Int)) <|
  gd (0 ≤ v133 ∧ v133 < ((List.length x120 : Nat) : Int)) <|
  ref04_same_k1 F v133 ag_ref04_same_b0 (((gl x119 v133.toNat).right_) != ((gl x120 v133.toNat).right_)))) (ref04_same_k2 F)
def ref04_same (F : Nat) (x119 : (List Rect)) (x120 : (List Rect)) : Option (Bool) :=
  br (((List.length x119 : Nat) : Int) != ((List.length x120 : Nat) : Int)) (some false) (loopN (fun again (z : Int) => ref04_same_b0 F x119 x120 again z) F (0 : Int))
/- landaid/landaidref04.Combine -/
def ref04_Combine_k2 (F : Nat) (v189 : Int) (ag_ref04_Combine_b0 : ((List Int) × (List Int) × Int) → Option ((List Rect))) (v220 : (List Int)) (v221 : (List Int)) : Option ((List Rect)) :=
  gd (I64 (v189 + (1 : Int))) <|
  ag_ref04_Combine_b0 (v220, v221, (v189 + (1 : Int)))
def ref04_Combine_b1 (F : Nat) (x146 : (List Rect)) (x147 : (List Rect)) (v189 : Int) (ag_ref04_Combine_b0 : ((List Int) × (List Int) × Int) → Option ((List Rect))) (ag_ref04_Combine_b1 : ((List Int) × (List Int) × Int) → Option ((List Rect))) (v205 : (List Int)) (v206 : (List Int)) (v207 : Int) : Option ((List Rect)) :=
  br (decide (v207 < ((List.length (gl ([x146, x147] : List (List Rect)) v189.toNat) : Nat) : Int))) (gd (0 ≤ v207 ∧ v207 < ((List.length (gl ([x146, x147] : List (List Rect)) v189.toNat) : Nat) : Int)) <|
  (ref01_Put F v205 ((gl (gl ([x146, x147] : List (List Rect)) v189.toNat) v207.toNat).left_)).bind fun z211 =>
  (ref01_Put F z211 ((gl (gl ([x146, x147] : List (List Rect)) v189.toNat) v207.toNat).right_)).bind fun z213 =>
  (ref01_Put F v206 ((gl (gl ([x146, x147] : List (List Rect)) v189.toNat) v207.toNat).low_)).bind fun z215 =>
  (ref01_Put F z215 ((gl (gl ([x146, x147] : List (List Rect)) v189.toNat) v207.toNat).high_)).bind fun z217 =>
  gd (I64 (v207 + (1 : Int))) <|
  ag_ref04_Combine_b1 (z213, z217, (v207 + (1 : Int)))) (ref04_Combine_k2 F v189 ag_ref04_Combine_b0 v205 v206)
def ref04_Combine_k7 (F : Nat) (v376 : Int) (ag_ref04_Combine_b5 : (Int × (List Rect)) → Option ((List Rect))) (v410 : (List Rect)) : Option ((List Rect)) :=
  gd (I64 (v376 + (1 : Int))) <|
  ag_ref04_Combine_b5 ((v376 + (1 : Int)), v410)
def ref04_Combine_k6 (F : Nat) (v224 : (List Int)) (v225 : (List Int)) (v335 : Int) (v376 : Int) (v377 : (List Rect)) (ag_ref04_Combine_b5 : (Int × (List Rect)) → Option ((List Rect))) (v396 : Bool) : Option ((List Rect)) :=
  br v396 (gd (I64 (((List.length v377 : Nat) : Int) - (1 : Int))) <|
  gd (I64 (v376 + (1 : Int))) <|
  gd (0 ≤ (v376 + (1 : Int)) ∧ (v376 + (1 : Int)) < ((List.length v224 : Nat) : Int)) <|
  gd (0 ≤ (((List.length v377 : Nat) : Int) - (1 : Int)) ∧ (((List.length v377 : Nat) : Int) - (1 : Int)) < ((List.length v377 : Nat) : Int)) <|
  ref04_Combine_k7 F v376 ag_ref04_Combine_b5 (List.set v377 (((List.length v377 : Nat) : Int) - (1 : Int)).toNat (⟨(gl v377 (((List.length v377 : Nat) : Int) - (1 : Int)).toNat).left_, (gl v377 (((List.length v377 : Nat) : Int) - (1 : Int)).toNat).low_, (gl v224 (v376 + (1 : Int)).toNat), (gl v377 (((List.length v377 : Nat) : Int) - (1 : Int)).toNat).high_⟩ : Rect))) (gd (0 ≤ v376 ∧ v376 < ((List.length v224 : Nat) : Int)) <|
  gd (0 ≤ v335 ∧ v335 < ((List.length v225 : Nat) : Int)) <|
  gd (I64 (v376 + (1 : Int))) <|
  gd (0 ≤ (v376 + (1 : Int)) ∧ (v376 + (1 : Int)) < ((List.length v224 : Nat) : Int)) <|
  gd (I64 (v335 + (1 : Int))) <|
  gd (0 ≤ (v335 + (1 : Int)) ∧ (v335 + (1 : Int)) < ((List.length v225 : Nat) : Int)) <|
  gd ((List.length (α := Rect) v377) + (List.length (α := Rect) ([(⟨(gl v224 v376.toNat), (gl v225 v335.toNat), (gl v224 (v376 + (1 : Int)).toNat), (gl v225 (v335 + (1 : Int)).toNat)⟩ : Rect)] : List Rect)) ≤ LIM) <|
  ref04_Combine_k7 F v376 ag_ref04_Combine_b5 (v377 ++ ([(⟨(gl v224 v376.toNat), (gl v225 v335.toNat), (gl v224 (v376 + (1 : Int)).toNat), (gl v225 (v335 + (1 : Int)).toNat)⟩ : Rect)] : List Rect)))
def ref04_Combine_k13 (F : Nat) (v335 : Int) (ag_ref04_Combine_b4 : (Int × (List Rect) × (List Rect)) → Option ((List Rect))) (v442 : (List Rect)) (v443 : (List Rect)) : Option ((List Rect)) :=
  gd (I64 (v335 + (1 : Int))) <|
  ag_ref04_Combine_b4 ((v335 + (1 : Int)), v442, v443)
def ref04_Combine_k11 (F : Nat) (v335 : Int) (v336 : (List Rect)) (ag_ref04_Combine_b4 : (Int × (List Rect) × (List Rect)) → Option ((List Rect))) (v438 : (List Rect)) : Option ((List Rect)) :=
  ref04_Combine_k13 F v335 ag_ref04_Combine_b4 v336 v438
def ref04_Combine_b10 (F : Nat) (v225 : (List Int)) (v335 : Int) (v336 : (List Rect)) (v337 : (List Rect)) (ag_ref04_Combine_b4 : (Int × (List Rect) × (List Rect)) → Option ((List Rect))) (ag_ref04_Combine_b10 : (Int × (List Rect)) → Option ((List Rect))) (v430 : Int) (v431 : (List Rect)) : Option ((List Rect)) :=
  br (decide (v430 < ((List.length v337 : Nat) : Int))) (gd (I64 (v335 + (1 : Int))) <|
  gd (0 ≤ (v335 + (1 : Int)) ∧ (v335 + (1 : Int)) < ((List.length v225 : Nat) : Int)) <|
  gd (0 ≤ v430 ∧ v430 < ((List.length v431 : Nat) : Int)) <|
  gd (I64 (v430 + (1 : Int))) <|
  ag_ref04_Combine_b10 ((v430 + (1 : Int)), (List.set v431 v430.toNat (⟨(gl v431 v430.toNat).left_, (gl v431 v430.toNat).low_, (gl v431 v430.toNat).right_, (gl v225 (v335 + (1 : Int)).toNat)⟩ : Rect)))) (ref04_Combine_k11 F v335 v336 ag_ref04_Combine_b4 v431)
def ref04_Combine_k12 (F : Nat) (v335 : Int) (v336 : (List Rect)) (v337 : (List Rect)) (v413 : (List Rect)) (ag_ref04_Combine_b4 : (Int × (List Rect) × (List Rect)) → Option ((List Rect))) : Option ((List Rect)) :=
  gd ((List.length (α := Rect) v336) + (List.length (α := Rect) v337) ≤ LIM) <|
  ref04_Combine_k13 F v335 ag_ref04_Combine_b4 (v336 ++ v337) v413
def ref04_Combine_k9 (F : Nat) (v225 : (List Int)) (v335 : Int) (v336 : (List Rect)) (v337 : (List Rect)) (v413 : (List Rect)) (ag_ref04_Combine_b4 : (Int × (List Rect) × (List Rect)) → Option ((List Rect))) (v421 : Bool) : Option ((List Rect)) :=
  br v421 (loopN (fun again (z : Int × (List Rect)) => ref04_Combine_b10 F v225 v335 v336 v337 ag_ref04_Combine_b4 again z.1 z.2) F ((0 : Int), v337)) (ref04_Combine_k12 F v335 v336 v337 v413 ag_ref04_Combine_b4)
def ref04_Combine_k8 (F : Nat) (v225 : (List Int)) (v335 : Int) (v336 : (List Rect)) (v337 : (List Rect)) (ag_ref04_Combine_b4 : (Int × (List Rect) × (List Rect)) → Option ((List Rect))) (v413 : (List Rect)) : Option ((List Rect)) :=
  br (decide ((0 : Int) < ((List.length v337 : Nat) : Int))) ((ref04_same F v337 v413).bind fun z416 =>
  br z416 (gd (0 ≤ (0 : Int) ∧ (0 : Int) < ((List.length v337 : Nat) : Int)) <|
  gd (0 ≤ v335 ∧ v335 < ((List.length v225 : Nat) : Int)) <|
  ref04_Combine_k9 F v225 v335 v336 v337 v413 ag_ref04_Combine_b4 (((gl v337 (0 : Int).toNat).high_) == (gl v225 v335.toNat))) (ref04_Combine_k9 F v225 v335 v336 v337 v413 ag_ref04_Combine_b4 false)) (ref04_Combine_k9 F v225 v335 v336 v337 v413 ag_ref04_Combine_b4 false)
def ref04_Combine_b5 (F : Nat) (x146 : (List Rect)) (x147 : (List Rect)) (x148 : Int) (v224 : (List Int)) (v225 : (List Int)) (v335 : Int) (v336 : (List Rect)) (v337 : (List Rect)) (ag_ref04_Combine_b4 : (Int × (List Rect) × (List Rect)) → Option ((List Rect))) (ag_ref04_Combine_b5 : (Int × (List Rect)) → Option ((List Rect))) (v376 : Int) (v377 : (List Rect)) : Option ((List Rect)) :=
  gd (I64 (v376 + (1 : Int))) <|
  br (decide ((v376 + (1 : Int)) < ((List.length v224 : Nat) : Int))) (gd (0 ≤ v376 ∧ v376 < ((List.length v224 : Nat) : Int)) <|
  gd (0 ≤ v335 ∧ v335 < ((List.length v225 : Nat) : Int)) <|
  (ref04_inside F x146 (gl v224 v376.toNat) (gl v225 v335.toNat)).bind fun z383 =>
  gd (0 ≤ v376 ∧ v376 < ((List.length v224 : Nat) : Int)) <|
  gd (0 ≤ v335 ∧ v335 < ((List.length v225 : Nat) : Int)) <|
  (ref04_inside F x147 (gl v224 v376.toNat) (gl v225 v335.toNat)).bind fun z387 =>
  (ref04_keep F z383 z387 x148).bind fun z389 =>
  br (!z389) (ref04_Combine_k7 F v376 ag_ref04_Combine_b5 v377) (br (decide ((0 : Int) < ((List.length v377 : Nat) : Int))) (gd (I64 (((List.length v377 : Nat) : Int) - (1 : Int))) <|
  gd (0 ≤ (((List.length v377 : Nat) : Int) - (1 : Int)) ∧ (((List.length v377 : Nat) : Int) - (1 : Int)) < ((List.length v377 : Nat) : Int)) <|
  gd (0 ≤ v376 ∧ v376 < ((List.length v224 : Nat) : Int)) <|
  ref04_Combine_k6 F v224 v225 v335 v376 v377 ag_ref04_Combine_b5 (((gl v377 (((List.length v377 : Nat) : Int) - (1 : Int)).toNat).right_) == (gl v224 v376.toNat))) (ref04_Combine_k6 F v224 v225 v335 v376 v377 ag_ref04_Combine_b5 false))) (ref04_Combine_k8 F v225 v335 v336 v337 ag_ref04_Combine_b4 v377)
def ref04_Combine_k14 (F : Nat) (v446 : (List Rect)) (v447 : (List Rect)) : Option ((List Rect)) :=
  gd ((List.length (α := Rect) v446) + (List.length (α := Rect) v447) ≤ LIM) <|
  some (v446 ++ v447)
def ref04_Combine_b4 (F : Nat) (x146 : (List Rect)) (x147 : (List Rect)) (x148 : Int) (v224 : (List Int)) (v225 : (List Int)) (ag_ref04_Combine_b4 : (Int × (List Rect) × (List Rect)) → Option ((List Rect))) (v335 : Int) (v336 : (List Rect)) (v337 : (List Rect)) : Option ((List Rect)) :=
  gd (I64 (v335 + (1 : Int))) <|
  br (decide ((v335 + (1 : Int)) < ((List.length v225 : Nat) : Int))) (loopN (fun again (z : Int × (List Rect)) => ref04_Combine_b5 F x146 x147 x148 v224 v225 v335 v336 v337 ag_ref04_Combine_b4 again z.1 z.2) F ((0 : Int), ([] : List Rect))) (ref04_Combine_k14 F v336 v337)
def ref04_Combine_k3 (F : Nat) (x146 : (List Rect)) (x147 : (List Rect)) (x148 : Int) (v224 : (List Int)) (v225 : (List Int)) : Option ((List Rect)) :=
  loopN (fun again (z : Int × (List Rect) × (List Rect)) => ref04_Combine_b4 F x146 x147 x148 v224 v225 again z.1 z.2.1 z.2.2) F ((0 : Int), ([] : List Rect), ([] : List Rect))
def ref04_Combine_b0 (F : Nat) (x146 : (List Rect)) (x147 : (List Rect)) (x148 : Int) (ag_ref04_Combine_b0 : ((List Int) × (List Int) × Int) → Option ((List Rect))) (v187 : (List Int)) (v188 : (List Int)) (v189 : Int) : Option ((List Rect)) :=
  br (decide (v189 < ((List.length ([x146, x147] : List (List Rect)) : Nat) : Int))) (gd (0 ≤ v189 ∧ v189 < ((List.length ([x146, x147] : List (List Rect)) : Nat) : Int)) <|
  loopN (fun again (z : (List Int) × (List Int) × Int) => ref04_Combine_b1 F x146 x147 v189 ag_ref04_Combine_b0 again z.1 z.2.1 z.2.2) F (v187, v188, (0 : Int))) (ref04_Combine_k3 F x146 x147 x148 v187 v188)
def ref04_Combine (F : Nat) (x146 : (List Rect)) (x147 : (List Rect)) (x148 : Int) : Option ((List Rect)) :=
  loopN (fun again (z : (List Int) × (List Int) × Int) => ref04_Combine_b0 F x146 x147 x148 again z.1 z.2.1 z.2.2) F (([] : List Int), ([] : List Int), (0 : Int))
/- landaid/landaidref04.Bound -/
def ref04_Bound (F : Nat) (x450 : (List Rect)) : Option (Region × Int) :=
  br (decide ((120 : Int) < ((List.length x450 : Nat) : Int))) (some ((⟨[]⟩ : Region), (1 : Int))) (some ((⟨x450⟩ : Region), (0 : Int)))
/- landaid/landaidref04.Of -/
def ref04_Of_k1 (F : Nat) (x452 : (List Rect)) : Option (Region × Int) :=
  (ref04_Combine F x452 ([]) (1 : Int)).bind fun z470 =>
  (ref04_Bound F z470).bind fun z472 =>
  some (z472.1, z472.2)
def ref04_Of_b0 (F : Nat) (x452 : (List Rect)) (ag_ref04_Of_b0 : (Int) → Option (Region × Int)) (v461 : Int) : Option (Region × Int) :=
  br (decide (v461 < ((List.length x452 : Nat) : Int))) (gd (0 ≤ v461 ∧ v461 < ((List.length x452 : Nat) : Int)) <|
  (ref04_proper F (gl x452 v461.toNat)).bind fun z465 =>
  br (!z465) (some ((⟨[]⟩ : Region), (2 : Int))) (gd (I64 (v461 + (1 : Int))) <|
  ag_ref04_Of_b0 (v461 + (1 : Int)))) (ref04_Of_k1 F x452)
def ref04_Of (F : Nat) (x452 : (List Rect)) : Option (Region × Int) :=
  br (decide ((120 : Int) < ((List.length x452 : Nat) : Int))) (some ((⟨[]⟩ : Region), (1 : Int))) (loopN (fun again (z : Int) => ref04_Of_b0 F x452 again z) F (0 : Int))
/- (*landaid/landaidkeep.Tape).Region -/
def keep_Tape_Region_k1 (F : Nat) (v496 : (List Rect)) (v497 : (List Int)) (v498 : Int) : Option (Tape × Region) :=
  (ref04_Of F v496).bind fun z500 =>
  some ((⟨v497, v498⟩ : Tape), z500.1)
def keep_Tape_Region_b0 (F : Nat) (x475 : Int) (ag_keep_Tape_Region_b0 : (Int × (List Int) × Int × (List Rect)) → Option (Tape × Region)) (v486 : Int) (v487 : (List Int)) (v488 : Int) (v489 : (List Rect)) : Option (Tape × Region) :=
  br (decide ((0 : Int) < v486)) ((keep_Tape_Rect F (⟨v487, v488⟩ : Tape) x475).bind fun z492 =>
  gd ((List.length (α := Rect) v489) + (List.length (α := Rect) ([z492.2] : List Rect)) ≤ LIM) <|
  gd (I64 (v486 - (1 : Int))) <|
  ag_keep_Tape_Region_b0 ((v486 - (1 : Int)), z492.1.l_, z492.1.at_, (v489 ++ ([z492.2] : List Rect)))) (keep_Tape_Region_k1 F v489 v487 v488)
def keep_Tape_Region (F : Nat) (x474 : Tape) (x475 : Int) (x476 : Int) : Option (Tape × Region) :=
  gd (I64 (x476 + (1 : Int))) <|
  (keep_Tape_Next F x474 (x476 + (1 : Int))).bind fun z478 =>
  loopN (fun again (z : Int × (List Int) × Int × (List Rect)) => keep_Tape_Region_b0 F x475 again z.1 z.2.1 z.2.2.1 z.2.2.2) F (z478.2, z478.1.l_, z478.1.at_, ([] : List Rect))
/- (*landaid/landaidkeep.Tape).Land -/
def keep_Tape_Land_k0 (F : Nat) (v510 : (List Rect)) (v511 : (List Int)) (v512 : Int) : Option (Tape × Region) :=
  some ((⟨v511, v512⟩ : Tape), (⟨v510⟩ : Region))
def keep_Tape_Land (F : Nat) (x502 : Tape) (x503 : Int) (x504 : Int) : Option (Tape × Region) :=
  (keep_Tape_Region F x502 x503 x504).bind fun z505 =>
  br (((List.length z505.2.rects_ : Nat) : Int) == (0 : Int)) ((keep_Tape_Rect F z505.1 x503).bind fun z508 =>
  keep_Tape_Land_k0 F ([z508.2] : List Rect) z508.1.l_ z508.1.at_) (keep_Tape_Land_k0 F z505.2.rects_ z505.1.l_ z505.1.at_)
/- (*landaid/landaidkeep.Tape).Feature -/
def keep_Tape_Feature (F : Nat) (x514 : Tape) (x515 : Int) : Option (Tape × Feature) :=
  (keep_Tape_Next F x514 (20 : Int)).bind fun z516 =>
  (keep_Tape_Next F z516.1 (16 : Int)).bind fun z518 =>
  (keep_Tape_Range F z518.1 (1 : Int) (30 : Int)).bind fun z520 =>
  gd (I64 (z516.2 + z520.2)) <|
  (keep_Tape_Land F z520.1 (9 : Int) (2 : Int)).bind fun z523 =>
  some (z523.1, (⟨x515, z518.2, z516.2, (z516.2 + z520.2), z523.2⟩ : Feature))
/- landaid/landaidref04.Rects -/
def ref04_Rects_k1 (F : Nat) : Option (Bool) :=
  some true
def ref04_Rects_b0 (F : Nat) (x525 : (List Rect)) (x526 : (List Rect)) (ag_ref04_Rects_b0 : (Int) → Option (Bool)) (v534 : Int) : Option (Bool) :=
  br (decide (v534 < ((List.length x525 : Nat) : Int))) (gd (0 ≤ v534 ∧ v534 < ((List.length x525 : Nat) : Int)) <|
  gd (0 ≤ v534 ∧ v534 < ((List.length x526 : Nat) : Int)) <|
  br (!((((gl x525 v534.toNat).left_) == ((gl x526 v534.toNat).left_)) && ((((gl x525 v534.toNat).low_) == ((gl x526 v534.toNat).low_)) && ((((gl x525 v534.toNat).right_) == ((gl x526 v534.toNat).right_)) && ((((gl x525 v534.toNat).high_) == ((gl x526 v534.toNat).high_)) && true))))) (some false) (gd (I64 (v534 + (1 : Int))) <|
  ag_ref04_Rects_b0 (v534 + (1 : Int)))) (ref04_Rects_k1 F)
def ref04_Rects (F : Nat) (x525 : (List Rect)) (x526 : (List Rect)) : Option (Bool) :=
  br (((List.length x525 : Nat) : Int) != ((List.length x526 : Nat) : Int)) (some false) (loopN (fun again (z : Int) => ref04_Rects_b0 F x525 x526 again z) F (0 : Int))
/- landaid/landaidref04.Valid -/
def ref04_Valid_k1 (F : Nat) (x542 : Region) : Option (Bool) :=
  (ref04_Combine F x542.rects_ ([]) (1 : Int)).bind fun z560 =>
  (ref04_Rects F z560 x542.rects_).bind fun z562 =>
  some z562
def ref04_Valid_b0 (F : Nat) (x542 : Region) (ag_ref04_Valid_b0 : (Int) → Option (Bool)) (v551 : Int) : Option (Bool) :=
  br (decide (v551 < ((List.length x542.rects_ : Nat) : Int))) (gd (0 ≤ v551 ∧ v551 < ((List.length x542.rects_ : Nat) : Int)) <|
  (ref04_proper F (gl x542.rects_ v551.toNat)).bind fun z555 =>
  br (!z555) (some false) (gd (I64 (v551 + (1 : Int))) <|
  ag_ref04_Valid_b0 (v551 + (1 : Int)))) (ref04_Valid_k1 F x542)
def ref04_Valid (F : Nat) (x542 : Region) : Option (Bool) :=
  br (decide ((120 : Int) < ((List.length x542.rects_ : Nat) : Int))) (some false) (loopN (fun again (z : Int) => ref04_Valid_b0 F x542 again z) F (0 : Int))
/- landaid/landaidref09.one -/
def ref09_one_k3 (F : Nat) (v581 : Bool) : Option (Int) :=
  br v581 (some (7 : Int)) (some (0 : Int))
def ref09_one_k2 (F : Nat) (x564 : Feature) (v575 : Bool) : Option (Int) :=
  br v575 (some (9 : Int)) ((ref04_Valid F x564.region_).bind fun z578 =>
  br (!z578) (ref09_one_k3 F true) (ref09_one_k3 F (((List.length x564.region_.rects_ : Nat) : Int) == (0 : Int))))
def ref09_one_k1 (F : Nat) (x564 : Feature) (v570 : Bool) : Option (Int) :=
  br v570 (some (14 : Int)) (br (decide (x564.from_ < (0 : Int))) (ref09_one_k2 F x564 true) (br (decide (x564.until_ ≤ x564.from_)) (ref09_one_k2 F x564 true) (ref09_one_k2 F x564 (decide ((36865 : Int) < x564.until_)))))
def ref09_one_k0 (F : Nat) (x564 : Feature) (v566 : Bool) : Option (Int) :=
  br v566 (some (2 : Int)) (br (decide (x564.kind_ < (0 : Int))) (ref09_one_k1 F x564 true) (ref09_one_k1 F x564 (decide ((15 : Int) < x564.kind_))))
def ref09_one (F : Nat) (x564 : Feature) : Option (Int) :=
  br (decide (x564.number_ < (1 : Int))) (ref09_one_k0 F x564 true) (ref09_one_k0 F x564 (decide ((1073741824 : Int) < x564.number_)))
/- landaid/landaidref09.Check -/
def ref09_Check_k1 (F : Nat) (v599 : Int) (ag_ref09_Check_b0 : (Int) → Option (Int)) (v609 : Bool) : Option (Int) :=
  br v609 (some (3 : Int)) (gd (I64 (v599 + (1 : Int))) <|
  ag_ref09_Check_b0 (v599 + (1 : Int)))
def ref09_Check_k2 (F : Nat) : Option (Int) :=
  some (0 : Int)
def ref09_Check_b0 (F : Nat) (x584 : (List Feature)) (ag_ref09_Check_b0 : (Int) → Option (Int)) (v599 : Int) : Option (Int) :=
  br (decide (v599 < ((List.length x584 : Nat) : Int))) (gd (0 ≤ v599 ∧ v599 < ((List.length x584 : Nat) : Int)) <|
  (ref09_one F (gl x584 v599.toNat)).bind fun z603 =>
  br (z603 != (0 : Int)) (some z603) (br (decide ((0 : Int) < v599)) (gd (I64 (v599 - (1 : Int))) <|
  gd (0 ≤ (v599 - (1 : Int)) ∧ (v599 - (1 : Int)) < ((List.length x584 : Nat) : Int)) <|
  ref09_Check_k1 F v599 ag_ref09_Check_b0 (decide (((gl x584 v599.toNat).number_) ≤ ((gl x584 (v599 - (1 : Int)).toNat).number_)))) (ref09_Check_k1 F v599 ag_ref09_Check_b0 false))) (ref09_Check_k2 F)
def ref09_Check (F : Nat) (x584 : (List Feature)) : Option (Int) :=
  br (decide ((60 : Int) < ((List.length x584 : Nat) : Int))) (some (1 : Int)) (loopN (fun again (z : Int) => ref09_Check_b0 F x584 again z) F (0 : Int))
/- landaid/landaidref09.Add -/
def ref09_Add_k3 (F : Nat) (x614 : (List Feature)) (x615 : Feature) (v637 : Int) (v641 : Bool) : Option ((List Feature) × Int) :=
  br v641 (some ([], (6 : Int))) (br (((List.length x614 : Nat) : Int) == (60 : Int)) (some ([], (1 : Int))) (gd (0 ≤ v637 ∧ v637 ≤ ((List.length x614 : Nat) : Int)) <|
  gd ((0) + (List.length (α := Feature) (x614.take v637.toNat)) ≤ LIM) <|
  gd (((0) + (List.length (α := Feature) (x614.take v637.toNat))) + (List.length (α := Feature) ([x615] : List Feature)) ≤ LIM) <|
  gd (0 ≤ v637 ∧ v637 ≤ ((List.length x614 : Nat) : Int)) <|
  gd ((((0) + (List.length (α := Feature) (x614.take v637.toNat))) + (List.length (α := Feature) ([x615] : List Feature))) + (List.length (α := Feature) (x614.drop v637.toNat)) ≤ LIM) <|
  some ((((([] : List Feature) ++ (x614.take v637.toNat)) ++ ([x615] : List Feature)) ++ (x614.drop v637.toNat)), (0 : Int))))
def ref09_Add_k2 (F : Nat) (x614 : (List Feature)) (x615 : Feature) (v637 : Int) : Option ((List Feature) × Int) :=
  br (decide (v637 < ((List.length x614 : Nat) : Int))) (gd (0 ≤ v637 ∧ v637 < ((List.length x614 : Nat) : Int)) <|
  ref09_Add_k3 F x614 x615 v637 (((gl x614 v637.toNat).number_) == x615.number_)) (ref09_Add_k3 F x614 x615 v637 false)
def ref09_Add_k1 (F : Nat) (x614 : (List Feature)) (x615 : Feature) (v629 : Int) (ag_ref09_Add_b0 : (Int) → Option ((List Feature) × Int)) (v633 : Bool) : Option ((List Feature) × Int) :=
  br v633 (gd (I64 (v629 + (1 : Int))) <|
  ag_ref09_Add_b0 (v629 + (1 : Int))) (ref09_Add_k2 F x614 x615 v629)
def ref09_Add_b0 (F : Nat) (x614 : (List Feature)) (x615 : Feature) (ag_ref09_Add_b0 : (Int) → Option ((List Feature) × Int)) (v629 : Int) : Option ((List Feature) × Int) :=
  br (decide (v629 < ((List.length x614 : Nat) : Int))) (gd (0 ≤ v629 ∧ v629 < ((List.length x614 : Nat) : Int)) <|
  ref09_Add_k1 F x614 x615 v629 ag_ref09_Add_b0 (decide (((gl x614 v629.toNat).number_) < x615.number_))) (ref09_Add_k1 F x614 x615 v629 ag_ref09_Add_b0 false)
def ref09_Add (F : Nat) (x614 : (List Feature)) (x615 : Feature) : Option ((List Feature) × Int) :=
  (ref09_Check F x614).bind fun z616 =>
  br (z616 != (0 : Int)) (some ([], z616)) ((ref09_one F x615).bind fun z619 =>
  br (z619 != (0 : Int)) (some ([], z619)) (loopN (fun again (z : Int) => ref09_Add_b0 F x614 x615 again z) F (0 : Int)))
/- (*landaid/landaidkeep.Tape).Layer -/
def keep_Tape_Layer_k1 (F : Nat) (v674 : Int) (ag_keep_Tape_Layer_b0 : ((List Feature) × Int × (List Int) × Int) → Option (Tape × (List Feature))) (v686 : (List Feature)) (v687 : (List Int)) (v688 : Int) : Option (Tape × (List Feature)) :=
  gd (I64 (v674 - (1 : Int))) <|
  ag_keep_Tape_Layer_b0 (v686, (v674 - (1 : Int)), v687, v688)
def keep_Tape_Layer_k2 (F : Nat) (v691 : (List Feature)) (v692 : (List Int)) (v693 : Int) : Option (Tape × (List Feature)) :=
  some ((⟨v692, v693⟩ : Tape), v691)
def keep_Tape_Layer_b0 (F : Nat) (ag_keep_Tape_Layer_b0 : ((List Feature) × Int × (List Int) × Int) → Option (Tape × (List Feature))) (v673 : (List Feature)) (v674 : Int) (v675 : (List Int)) (v676 : Int) : Option (Tape × (List Feature)) :=
  br (decide ((0 : Int) < v674)) ((keep_Tape_Range F (⟨v675, v676⟩ : Tape) (1 : Int) (12 : Int)).bind fun z679 =>
  (keep_Tape_Feature F z679.1 z679.2).bind fun z681 =>
  (ref09_Add F v673 z681.2).bind fun z683 =>
  br (z683.2 == (0 : Int)) (keep_Tape_Layer_k1 F v674 ag_keep_Tape_Layer_b0 z683.1 z681.1.l_ z681.1.at_) (keep_Tape_Layer_k1 F v674 ag_keep_Tape_Layer_b0 v673 z681.1.l_ z681.1.at_)) (keep_Tape_Layer_k2 F v673 v675 v676)
def keep_Tape_Layer (F : Nat) (x650 : Tape) (x651 : Int) : Option (Tape × (List Feature)) :=
  gd (I64 (x651 + (1 : Int))) <|
  (keep_Tape_Next F x650 (x651 + (1 : Int))).bind fun z653 =>
  loopN (fun again (z : (List Feature) × Int × (List Int) × Int) => keep_Tape_Layer_b0 F again z.1 z.2.1 z.2.2.1 z.2.2.2) F (([] : List Feature), z653.2, z653.1.l_, z653.1.at_)
/- slices.IndexFunc[[]landaid/api.Rect,landaid/api.Rect] -/
def slices_IndexFunc_Rect_k1 (F : Nat) : Option (Int) :=
  some (-1 : Int)
def slices_IndexFunc_Rect_b0 (F : Nat) (x695 : (List Rect)) (x696 : Rect → Option Bool) (ag_slices_IndexFunc_Rect_b0 : (Int) → Option (Int)) (v704 : Int) : Option (Int) :=
  br (decide (v704 < ((List.length x695 : Nat) : Int))) (gd (0 ≤ v704 ∧ v704 < ((List.length x695 : Nat) : Int)) <|
  (x696 (gl x695 v704.toNat)).bind fun z708 =>
  br z708 (some v704) (gd (I64 (v704 + (1 : Int))) <|
  ag_slices_IndexFunc_Rect_b0 (v704 + (1 : Int)))) (slices_IndexFunc_Rect_k1 F)
def slices_IndexFunc_Rect (F : Nat) (x695 : (List Rect)) (x696 : Rect → Option Bool) : Option (Int) :=
  loopN (fun again (z : Int) => slices_IndexFunc_Rect_b0 F x695 x696 again z) F (0 : Int)
/- slices.ContainsFunc[[]landaid/api.Rect,landaid/api.Rect] -/
def slices_ContainsFunc_Rect (F : Nat) (x713 : (List Rect)) (x714 : Rect → Option Bool) : Option (Bool) :=
  (slices_IndexFunc_Rect F x713 x714).bind fun z715 =>
  some (decide ((0 : Int) ≤ z715))
/- landaid/region.proper -/
def region_proper_k0 (F : Nat) (v723 : Bool) : Option (Bool) :=
  some v723
def region_proper (F : Nat) (x717 : Rect) : Option (Bool) :=
  br (decide ((0 : Int) ≤ x717.left_)) (br (decide (x717.left_ < x717.right_)) (br (decide (x717.right_ ≤ (16384 : Int))) (br (decide ((0 : Int) ≤ x717.low_)) (br (decide (x717.low_ < x717.high_)) (region_proper_k0 F (decide (x717.high_ ≤ (16384 : Int)))) (region_proper_k0 F false)) (region_proper_k0 F false)) (region_proper_k0 F false)) (region_proper_k0 F false)) (region_proper_k0 F false)
/- landaid/region.Valid$1 -/
def region_Valid_1 (F : Nat) (x725 : Rect) : Option (Bool) :=
  (region_proper F x725).bind fun z726 =>
  some (!z726)
/- slices.Compact[[]int,int] -/
def slices_Compact_int_k2 (F : Nat) (v804 : Int) (ag_slices_Compact_int_b1 : (Int × Int × (List Int)) → Option ((List Int))) (v818 : Int) (v819 : (List Int)) : Option ((List Int)) :=
  gd (I64 (v804 + (1 : Int))) <|
  ag_slices_Compact_int_b1 (v818, (v804 + (1 : Int)), v819)
def slices_Compact_int_k3 (F : Nat) (v822 : Int) (v823 : (List Int)) : Option ((List Int)) :=
  gd (0 ≤ v822 ∧ v822 ≤ (((List.length (α := Int) v823) : Nat) : Int) ∧ ((0 : Nat) : Int) + (((List.length (α := Int) v823) : Nat) : Int) ≤ ((List.length (α := Int) v823 : Nat) : Int)) <|
  gd (0 ≤ v822 ∧ v822 ≤ ((List.length (clr v823 (0 + (v822).toNat) ((List.length (α := Int) v823) - (v822).toNat)) : Nat) : Int)) <|
  some ((clr v823 (0 + (v822).toNat) ((List.length (α := Int) v823) - (v822).toNat)).take (v822).toNat)
def slices_Compact_int_b1 (F : Nat) (x728 : (List Int)) (v779 : Int) (ag_slices_Compact_int_b1 : (Int × Int × (List Int)) → Option ((List Int))) (v803 : Int) (v804 : Int) (v805 : (List Int)) : Option ((List Int)) :=
  br (decide (v804 < ((((List.length (α := Int) x728) - (v779).toNat) : Nat) : Int))) (gd (0 ≤ v804 ∧ v804 < ((((List.length (α := Int) x728) - (v779).toNat) : Nat) : Int)) <|
  gd (((0 + (v779).toNat) + (v804).toNat) < List.length v805) <|
  gd (I64 (v804 - (1 : Int))) <|
  gd (0 ≤ (v804 - (1 : Int)) ∧ (v804 - (1 : Int)) < ((((List.length (α := Int) x728) - (v779).toNat) : Nat) : Int)) <|
  gd (((0 + (v779).toNat) + ((v804 - (1 : Int))).toNat) < List.length v805) <|
  br ((gl v805 ((0 + (v779).toNat) + (v804).toNat)) != (gl v805 ((0 + (v779).toNat) + ((v804 - (1 : Int))).toNat))) (gd (0 ≤ v804 ∧ v804 < ((((List.length (α := Int) x728) - (v779).toNat) : Nat) : Int)) <|
  gd (((0 + (v779).toNat) + (v804).toNat) < List.length v805) <|
  gd (0 ≤ v803 ∧ v803 < ((List.length v805 : Nat) : Int)) <|
  gd (I64 (v803 + (1 : Int))) <|
  slices_Compact_int_k2 F v804 ag_slices_Compact_int_b1 (v803 + (1 : Int)) (List.set v805 v803.toNat (gl v805 ((0 + (v779).toNat) + (v804).toNat)))) (slices_Compact_int_k2 F v804 ag_slices_Compact_int_b1 v803 v805)) (slices_Compact_int_k3 F v803 v805)
def slices_Compact_int_k4 (F : Nat) (v779 : Int) (ag_slices_Compact_int_b0 : (Int) → Option ((List Int))) : Option ((List Int)) :=
  gd (I64 (v779 + (1 : Int))) <|
  ag_slices_Compact_int_b0 (v779 + (1 : Int))
def slices_Compact_int_k5 (F : Nat) (x728 : (List Int)) : Option ((List Int)) :=
  some x728
def slices_Compact_int_b0 (F : Nat) (x728 : (List Int)) (ag_slices_Compact_int_b0 : (Int) → Option ((List Int))) (v779 : Int) : Option ((List Int)) :=
  br (decide (v779 < ((List.length x728 : Nat) : Int))) (gd (0 ≤ v779 ∧ v779 < ((List.length x728 : Nat) : Int)) <|
  gd (I64 (v779 - (1 : Int))) <|
  gd (0 ≤ (v779 - (1 : Int)) ∧ (v779 - (1 : Int)) < ((List.length x728 : Nat) : Int)) <|
  br ((gl x728 v779.toNat) == (gl x728 (v779 - (1 : Int)).toNat)) (gd (0 ≤ v779 ∧ v779 ≤ (((List.length (α := Int) x728) : Nat) : Int) ∧ ((0 : Nat) : Int) + (((List.length (α := Int) x728) : Nat) : Int) ≤ ((List.length (α := Int) x728 : Nat) : Int)) <|
  loopN (fun again (z : Int × Int × (List Int)) => slices_Compact_int_b1 F x728 v779 again z.1 z.2.1 z.2.2) F (v779, (1 : Int), x728)) (slices_Compact_int_k4 F v779 ag_slices_Compact_int_b0)) (slices_Compact_int_k5 F x728)
def slices_Compact_int (F : Nat) (x728 : (List Int)) : Option ((List Int)) :=
  br (decide (((List.length x728 : Nat) : Int) < (2 : Int))) (some x728) (loopN (fun again (z : Int) => slices_Compact_int_b0 F x728 again z) F (1 : Int))
/- landaid/region.Cuts -/
def region_Cuts_k2 (F : Nat) (v849 : Int) (ag_region_Cuts_b0 : (Int × (List Int)) → Option ((List Int))) (v866 : (List Int)) : Option ((List Int)) :=
  gd (I64 (v849 + (1 : Int))) <|
  ag_region_Cuts_b0 ((v849 + (1 : Int)), v866)
def region_Cuts_b1 (F : Nat) (x830 : (List (List Rect))) (v849 : Int) (ag_region_Cuts_b0 : (Int × (List Int)) → Option ((List Int))) (ag_region_Cuts_b1 : (Int × (List Int)) → Option ((List Int))) (v859 : Int) (v860 : (List Int)) : Option ((List Int)) :=
  br (decide (v859 < ((List.length (gl x830 v849.toNat) : Nat) : Int))) (gd (0 ≤ v859 ∧ v859 < ((List.length (gl x830 v849.toNat) : Nat) : Int)) <|
  gd ((List.length (α := Int) v860) + (List.length (α := Int) ([(gl (gl x830 v849.toNat) v859.toNat).low_, (gl (gl x830 v849.toNat) v859.toNat).high_] : List Int)) ≤ LIM) <|
  gd (I64 (v859 + (1 : Int))) <|
  ag_region_Cuts_b1 ((v859 + (1 : Int)), (v860 ++ ([(gl (gl x830 v849.toNat) v859.toNat).low_, (gl (gl x830 v849.toNat) v859.toNat).high_] : List Int)))) (region_Cuts_k2 F v849 ag_region_Cuts_b0 v860)
def region_Cuts_k3 (F : Nat) (v869 : (List Int)) : Option ((List Int)) :=
  (sortI v869).bind fun z871 =>
  (slices_Compact_int F z871).bind fun z873 =>
  some z873
def region_Cuts_b0 (F : Nat) (x830 : (List (List Rect))) (ag_region_Cuts_b0 : (Int × (List Int)) → Option ((List Int))) (v849 : Int) (v850 : (List Int)) : Option ((List Int)) :=
  br (decide (v849 < ((List.length x830 : Nat) : Int))) (gd (0 ≤ v849 ∧ v849 < ((List.length x830 : Nat) : Int)) <|
  loopN (fun again (z : Int × (List Int)) => region_Cuts_b1 F x830 v849 ag_region_Cuts_b0 again z.1 z.2) F ((0 : Int), v850)) (region_Cuts_k3 F v850)
def region_Cuts (F : Nat) (x830 : (List (List Rect))) : Option ((List Int)) :=
  loopN (fun again (z : Int × (List Int)) => region_Cuts_b0 F x830 again z.1 z.2) F ((0 : Int), ([] : List Int))
/- cmp.isNaN[int] -/
def cmp_isNaN_int (F : Nat) (x875 : Int) : Option (Bool) :=
  some (x875 != x875)
/- cmp.Compare[int] -/
def cmp_Compare_int (F : Nat) (x876 : Int) (x877 : Int) : Option (Int) :=
  (cmp_isNaN_int F x876).bind fun z878 =>
  (cmp_isNaN_int F x877).bind fun z880 =>
  br z878 (br z880 (some (0 : Int)) (some (-1 : Int))) (br z880 (some (1 : Int)) (br (decide (x876 < x877)) (some (-1 : Int)) (br (decide (x877 < x876)) (some (1 : Int)) (some (0 : Int)))))
/- landaid/region.Row$1 -/
def region_Row_1 (F : Nat) (x887 : Span) (x888 : Span) : Option (Int) :=
  (cmp_Compare_int F x887.left_ x888.left_).bind fun z889 =>
  some z889
/- landaid/region.Row -/
def region_Row_k2 (F : Nat) (v904 : Int) (ag_region_Row_b0 : (Int × (List Span)) → Option ((List Span))) (v914 : (List Span)) : Option ((List Span)) :=
  gd (I64 (v904 + (1 : Int))) <|
  ag_region_Row_b0 ((v904 + (1 : Int)), v914)
def region_Row_k1 (F : Nat) (x891 : (List Rect)) (v904 : Int) (v905 : (List Span)) (ag_region_Row_b0 : (Int × (List Span)) → Option ((List Span))) (v910 : Bool) : Option ((List Span)) :=
  br v910 (gd ((List.length (α := Span) v905) + (List.length (α := Span) ([(⟨(gl x891 v904.toNat).left_, (gl x891 v904.toNat).right_⟩ : Span)] : List Span)) ≤ LIM) <|
  region_Row_k2 F v904 ag_region_Row_b0 (v905 ++ ([(⟨(gl x891 v904.toNat).left_, (gl x891 v904.toNat).right_⟩ : Span)] : List Span))) (region_Row_k2 F v904 ag_region_Row_b0 v905)
def region_Row_k6 (F : Nat) (v938 : Int) (ag_region_Row_b4 : (Int × (List Span)) → Option ((List Span))) (v954 : (List Span)) : Option ((List Span)) :=
  gd (I64 (v938 + (1 : Int))) <|
  ag_region_Row_b4 ((v938 + (1 : Int)), v954)
def region_Row_k5 (F : Nat) (z919 : (List Span)) (v938 : Int) (v939 : (List Span)) (ag_region_Row_b4 : (Int × (List Span)) → Option ((List Span))) (v946 : Bool) : Option ((List Span)) :=
  br v946 (gd (I64 (((List.length v939 : Nat) : Int) - (1 : Int))) <|
  gd (I64 (((List.length v939 : Nat) : Int) - (1 : Int))) <|
  gd (0 ≤ (((List.length v939 : Nat) : Int) - (1 : Int)) ∧ (((List.length v939 : Nat) : Int) - (1 : Int)) < ((List.length v939 : Nat) : Int)) <|
  gd (0 ≤ (((List.length v939 : Nat) : Int) - (1 : Int)) ∧ (((List.length v939 : Nat) : Int) - (1 : Int)) < ((List.length v939 : Nat) : Int)) <|
  region_Row_k6 F v938 ag_region_Row_b4 (List.set v939 (((List.length v939 : Nat) : Int) - (1 : Int)).toNat (⟨(gl v939 (((List.length v939 : Nat) : Int) - (1 : Int)).toNat).left_, (gmax ((gl v939 (((List.length v939 : Nat) : Int) - (1 : Int)).toNat).right_) ((gl z919 v938.toNat).right_))⟩ : Span))) (gd ((List.length (α := Span) v939) + (List.length (α := Span) ([(gl z919 v938.toNat)] : List Span)) ≤ LIM) <|
  region_Row_k6 F v938 ag_region_Row_b4 (v939 ++ ([(gl z919 v938.toNat)] : List Span)))
def region_Row_k7 (F : Nat) (v957 : (List Span)) : Option ((List Span)) :=
  some v957
def region_Row_b4 (F : Nat) (z919 : (List Span)) (ag_region_Row_b4 : (Int × (List Span)) → Option ((List Span))) (v938 : Int) (v939 : (List Span)) : Option ((List Span)) :=
  br (decide (v938 < ((List.length z919 : Nat) : Int))) (gd (0 ≤ v938 ∧ v938 < ((List.length z919 : Nat) : Int)) <|
  br (decide ((0 : Int) < ((List.length v939 : Nat) : Int))) (gd (I64 (((List.length v939 : Nat) : Int) - (1 : Int))) <|
  gd (0 ≤ (((List.length v939 : Nat) : Int) - (1 : Int)) ∧ (((List.length v939 : Nat) : Int) - (1 : Int)) < ((List.length v939 : Nat) : Int)) <|
  region_Row_k5 F z919 v938 v939 ag_region_Row_b4 (decide (((gl z919 v938.toNat).left_) ≤ ((gl v939 (((List.length v939 : Nat) : Int) - (1 : Int)).toNat).right_)))) (region_Row_k5 F z919 v938 v939 ag_region_Row_b4 false)) (region_Row_k7 F v939)
def region_Row_k3 (F : Nat) (v917 : (List Span)) : Option ((List Span)) :=
  (sortF v917 (fun y0 y1 => region_Row_1 F y0 y1)).bind fun z919 =>
  loopN (fun again (z : Int × (List Span)) => region_Row_b4 F z919 again z.1 z.2) F ((0 : Int), ([] : List Span))
def region_Row_b0 (F : Nat) (x891 : (List Rect)) (x892 : Int) (ag_region_Row_b0 : (Int × (List Span)) → Option ((List Span))) (v904 : Int) (v905 : (List Span)) : Option ((List Span)) :=
  br (decide (v904 < ((List.length x891 : Nat) : Int))) (gd (0 ≤ v904 ∧ v904 < ((List.length x891 : Nat) : Int)) <|
  br (decide (((gl x891 v904.toNat).low_) ≤ x892)) (region_Row_k1 F x891 v904 v905 ag_region_Row_b0 (decide (x892 < ((gl x891 v904.toNat).high_)))) (region_Row_k1 F x891 v904 v905 ag_region_Row_b0 false)) (region_Row_k3 F v905)
def region_Row (F : Nat) (x891 : (List Rect)) (x892 : Int) : Option ((List Span)) :=
  loopN (fun again (z : Int × (List Span)) => region_Row_b0 F x891 x892 again z.1 z.2) F ((0 : Int), ([] : List Span))
/- landaid/region.canonical$1 -/
def region_canonical_1 (F : Nat) (x959 : Int) (x960 : (List Rect)) : Option ((List Span)) :=
  (region_Row F x960 x959).bind fun z961 =>
  some z961
/- slices.Equal[[]landaid/region.Span,landaid/region.Span] -/
def slices_Equal_Span_k1 (F : Nat) : Option (Bool) :=
  some true
def slices_Equal_Span_b0 (F : Nat) (x963 : (List Span)) (x964 : (List Span)) (ag_slices_Equal_Span_b0 : (Int) → Option (Bool)) (v972 : Int) : Option (Bool) :=
  br (decide (v972 < ((List.length x963 : Nat) : Int))) (gd (0 ≤ v972 ∧ v972 < ((List.length x963 : Nat) : Int)) <|
  gd (0 ≤ v972 ∧ v972 < ((List.length x964 : Nat) : Int)) <|
  br (!((((gl x963 v972.toNat).left_) == ((gl x964 v972.toNat).left_)) && ((((gl x963 v972.toNat).right_) == ((gl x964 v972.toNat).right_)) && true))) (some false) (gd (I64 (v972 + (1 : Int))) <|
  ag_slices_Equal_Span_b0 (v972 + (1 : Int)))) (slices_Equal_Span_k1 F)
def slices_Equal_Span (F : Nat) (x963 : (List Span)) (x964 : (List Span)) : Option (Bool) :=
  br (((List.length x963 : Nat) : Int) != ((List.length x964 : Nat) : Int)) (some false) (loopN (fun again (z : Int) => slices_Equal_Span_b0 F x963 x964 again z) F (0 : Int))
/- landaid/region.rects -/
def region_rects_k2 (F : Nat) (v999 : Int) (ag_region_rects_b0 : (Int × (List Rect)) → Option ((List Rect))) (v1016 : (List Rect)) : Option ((List Rect)) :=
  gd (I64 (v999 + (1 : Int))) <|
  ag_region_rects_b0 ((v999 + (1 : Int)), v1016)
def region_rects_b1 (F : Nat) (x980 : (List Band)) (v999 : Int) (ag_region_rects_b0 : (Int × (List Rect)) → Option ((List Rect))) (ag_region_rects_b1 : (Int × (List Rect)) → Option ((List Rect))) (v1009 : Int) (v1010 : (List Rect)) : Option ((List Rect)) :=
  br (decide (v1009 < ((List.length ((gl x980 v999.toNat).spans_) : Nat) : Int))) (gd (0 ≤ v1009 ∧ v1009 < ((List.length ((gl x980 v999.toNat).spans_) : Nat) : Int)) <|
  gd ((List.length (α := Rect) v1010) + (List.length (α := Rect) ([(⟨(gl ((gl x980 v999.toNat).spans_) v1009.toNat).left_, (gl x980 v999.toNat).low_, (gl ((gl x980 v999.toNat).spans_) v1009.toNat).right_, (gl x980 v999.toNat).high_⟩ : Rect)] : List Rect)) ≤ LIM) <|
  gd (I64 (v1009 + (1 : Int))) <|
  ag_region_rects_b1 ((v1009 + (1 : Int)), (v1010 ++ ([(⟨(gl ((gl x980 v999.toNat).spans_) v1009.toNat).left_, (gl x980 v999.toNat).low_, (gl ((gl x980 v999.toNat).spans_) v1009.toNat).right_, (gl x980 v999.toNat).high_⟩ : Rect)] : List Rect)))) (region_rects_k2 F v999 ag_region_rects_b0 v1010)
def region_rects_k3 (F : Nat) (v1019 : (List Rect)) : Option ((List Rect)) :=
  some v1019
def region_rects_b0 (F : Nat) (x980 : (List Band)) (ag_region_rects_b0 : (Int × (List Rect)) → Option ((List Rect))) (v999 : Int) (v1000 : (List Rect)) : Option ((List Rect)) :=
  br (decide (v999 < ((List.length x980 : Nat) : Int))) (gd (0 ≤ v999 ∧ v999 < ((List.length x980 : Nat) : Int)) <|
  loopN (fun again (z : Int × (List Rect)) => region_rects_b1 F x980 v999 ag_region_rects_b0 again z.1 z.2) F ((0 : Int), v1000)) (region_rects_k3 F v1000)
def region_rects (F : Nat) (x980 : (List Band)) : Option ((List Rect)) :=
  loopN (fun again (z : Int × (List Rect)) => region_rects_b0 F x980 again z.1 z.2) F ((0 : Int), ([] : List Rect))
/- landaid/region.Build -/
def region_Build_k2 (F : Nat) (v1049 : Int) (ag_region_Build_b0 : (Int × (List Band)) → Option ((List Rect))) (v1074 : (List Band)) : Option ((List Rect)) :=
  gd (I64 (v1049 + (1 : Int))) <|
  ag_region_Build_b0 ((v1049 + (1 : Int)), v1074)
def region_Build_k1 (F : Nat) (x1021 : (List Int)) (v1049 : Int) (v1050 : (List Band)) (z1058 : (List Span)) (ag_region_Build_b0 : (Int × (List Band)) → Option ((List Rect))) (v1068 : Bool) : Option ((List Rect)) :=
  br v1068 (gd (I64 (((List.length v1050 : Nat) : Int) - (1 : Int))) <|
  gd (0 ≤ (((List.length v1050 : Nat) : Int) - (1 : Int)) ∧ (((List.length v1050 : Nat) : Int) - (1 : Int)) < ((List.length v1050 : Nat) : Int)) <|
  region_Build_k2 F v1049 ag_region_Build_b0 (List.set v1050 (((List.length v1050 : Nat) : Int) - (1 : Int)).toNat (⟨(gl v1050 (((List.length v1050 : Nat) : Int) - (1 : Int)).toNat).low_, (gl x1021 v1049.toNat), (gl v1050 (((List.length v1050 : Nat) : Int) - (1 : Int)).toNat).spans_⟩ : Band))) (gd ((List.length (α := Band) v1050) + (List.length (α := Band) ([(⟨(gl x1021 (v1049 - (1 : Int)).toNat), (gl x1021 v1049.toNat), z1058⟩ : Band)] : List Band)) ≤ LIM) <|
  region_Build_k2 F v1049 ag_region_Build_b0 (v1050 ++ ([(⟨(gl x1021 (v1049 - (1 : Int)).toNat), (gl x1021 v1049.toNat), z1058⟩ : Band)] : List Band)))
def region_Build_k3 (F : Nat) (v1077 : (List Band)) : Option ((List Rect)) :=
  (region_rects F v1077).bind fun z1079 =>
  some z1079
def region_Build_b0 (F : Nat) (x1021 : (List Int)) (x1022 : Int → Option (List Span)) (ag_region_Build_b0 : (Int × (List Band)) → Option ((List Rect))) (v1049 : Int) (v1050 : (List Band)) : Option ((List Rect)) :=
  br (decide (v1049 < ((List.length x1021 : Nat) : Int))) (gd (I64 (v1049 - (1 : Int))) <|
  gd (0 ≤ (v1049 - (1 : Int)) ∧ (v1049 - (1 : Int)) < ((List.length x1021 : Nat) : Int)) <|
  gd (0 ≤ v1049 ∧ v1049 < ((List.length x1021 : Nat) : Int)) <|
  gd (I64 (v1049 - (1 : Int))) <|
  gd (0 ≤ (v1049 - (1 : Int)) ∧ (v1049 - (1 : Int)) < ((List.length x1021 : Nat) : Int)) <|
  (x1022 (gl x1021 (v1049 - (1 : Int)).toNat)).bind fun z1058 =>
  br (decide ((0 : Int) < ((List.length v1050 : Nat) : Int))) (gd (I64 (((List.length v1050 : Nat) : Int) - (1 : Int))) <|
  gd (0 ≤ (((List.length v1050 : Nat) : Int) - (1 : Int)) ∧ (((List.length v1050 : Nat) : Int) - (1 : Int)) < ((List.length v1050 : Nat) : Int)) <|
  br (((gl v1050 (((List.length v1050 : Nat) : Int) - (1 : Int)).toNat).high_) == (gl x1021 (v1049 - (1 : Int)).toNat)) (gd (I64 (((List.length v1050 : Nat) : Int) - (1 : Int))) <|
  gd (0 ≤ (((List.length v1050 : Nat) : Int) - (1 : Int)) ∧ (((List.length v1050 : Nat) : Int) - (1 : Int)) < ((List.length v1050 : Nat) : Int)) <|
  (slices_Equal_Span F ((gl v1050 (((List.length v1050 : Nat) : Int) - (1 : Int)).toNat).spans_) z1058).bind fun z1066 =>
  region_Build_k1 F x1021 v1049 v1050 z1058 ag_region_Build_b0 z1066) (region_Build_k1 F x1021 v1049 v1050 z1058 ag_region_Build_b0 false)) (region_Build_k1 F x1021 v1049 v1050 z1058 ag_region_Build_b0 false)) (region_Build_k3 F v1050)
def region_Build (F : Nat) (x1021 : (List Int)) (x1022 : Int → Option (List Span)) : Option ((List Rect)) :=
  loopN (fun again (z : Int × (List Band)) => region_Build_b0 F x1021 x1022 again z.1 z.2) F ((1 : Int), ([] : List Band))
/- landaid/region.canonical -/
def region_canonical (F : Nat) (x1081 : (List Rect)) : Option ((List Rect)) :=
  (region_Cuts F ([x1081] : List (List Rect))).bind fun z1082 =>
  (region_Build F z1082 (fun y0 => region_canonical_1 F y0 x1081)).bind fun z1084 =>
  some z1084
/- slices.Equal[[]landaid/api.Rect,landaid/api.Rect] -/
def slices_Equal_Rect_k1 (F : Nat) : Option (Bool) :=
  some true
def slices_Equal_Rect_b0 (F : Nat) (x1086 : (List Rect)) (x1087 : (List Rect)) (ag_slices_Equal_Rect_b0 : (Int) → Option (Bool)) (v1095 : Int) : Option (Bool) :=
  br (decide (v1095 < ((List.length x1086 : Nat) : Int))) (gd (0 ≤ v1095 ∧ v1095 < ((List.length x1086 : Nat) : Int)) <|
  gd (0 ≤ v1095 ∧ v1095 < ((List.length x1087 : Nat) : Int)) <|
  br (!((((gl x1086 v1095.toNat).left_) == ((gl x1087 v1095.toNat).left_)) && ((((gl x1086 v1095.toNat).low_) == ((gl x1087 v1095.toNat).low_)) && ((((gl x1086 v1095.toNat).right_) == ((gl x1087 v1095.toNat).right_)) && ((((gl x1086 v1095.toNat).high_) == ((gl x1087 v1095.toNat).high_)) && true))))) (some false) (gd (I64 (v1095 + (1 : Int))) <|
  ag_slices_Equal_Rect_b0 (v1095 + (1 : Int)))) (slices_Equal_Rect_k1 F)
def slices_Equal_Rect (F : Nat) (x1086 : (List Rect)) (x1087 : (List Rect)) : Option (Bool) :=
  br (((List.length x1086 : Nat) : Int) != ((List.length x1087 : Nat) : Int)) (some false) (loopN (fun again (z : Int) => slices_Equal_Rect_b0 F x1086 x1087 again z) F (0 : Int))
/- landaid/region.Valid -/
def region_Valid_k0 (F : Nat) (x1103 : Region) (v1107 : Bool) : Option (Bool) :=
  br v1107 (some false) ((region_canonical F x1103.rects_).bind fun z1110 =>
  (slices_Equal_Rect F z1110 x1103.rects_).bind fun z1112 =>
  some z1112)
def region_Valid (F : Nat) (x1103 : Region) : Option (Bool) :=
  br (decide ((120 : Int) < ((List.length x1103.rects_ : Nat) : Int))) (region_Valid_k0 F x1103 true) ((slices_ContainsFunc_Rect F x1103.rects_ (fun y0 => region_Valid_1 F y0)).bind fun z1105 =>
  region_Valid_k0 F x1103 z1105)
/- landaid/feature.single -/
def feature_single_k3 (F : Nat) (v1131 : Bool) : Option (Int) :=
  br v1131 (some (7 : Int)) (some (0 : Int))
def feature_single_k2 (F : Nat) (x1114 : Feature) (v1125 : Bool) : Option (Int) :=
  br v1125 (some (9 : Int)) (br (((List.length x1114.region_.rects_ : Nat) : Int) == (0 : Int)) (feature_single_k3 F true) ((region_Valid F x1114.region_).bind fun z1129 =>
  feature_single_k3 F (!z1129)))
def feature_single_k1 (F : Nat) (x1114 : Feature) (v1120 : Bool) : Option (Int) :=
  br v1120 (some (14 : Int)) (br (decide (x1114.from_ < (0 : Int))) (feature_single_k2 F x1114 true) (br (decide (x1114.until_ ≤ x1114.from_)) (feature_single_k2 F x1114 true) (feature_single_k2 F x1114 (decide ((36865 : Int) < x1114.until_)))))
def feature_single_k0 (F : Nat) (x1114 : Feature) (v1116 : Bool) : Option (Int) :=
  br v1116 (some (2 : Int)) (br (decide (x1114.kind_ < (0 : Int))) (feature_single_k1 F x1114 true) (feature_single_k1 F x1114 (decide ((15 : Int) < x1114.kind_))))
def feature_single (F : Nat) (x1114 : Feature) : Option (Int) :=
  br (decide (x1114.number_ < (1 : Int))) (feature_single_k0 F x1114 true) (feature_single_k0 F x1114 (decide ((1073741824 : Int) < x1114.number_)))
/- landaid/feature.Check -/
def feature_Check_k1 (F : Nat) (v1149 : Int) (ag_feature_Check_b0 : (Int) → Option (Int)) (v1159 : Bool) : Option (Int) :=
  br v1159 (some (3 : Int)) (gd (I64 (v1149 + (1 : Int))) <|
  ag_feature_Check_b0 (v1149 + (1 : Int)))
def feature_Check_k2 (F : Nat) : Option (Int) :=
  some (0 : Int)
def feature_Check_b0 (F : Nat) (x1134 : (List Feature)) (ag_feature_Check_b0 : (Int) → Option (Int)) (v1149 : Int) : Option (Int) :=
  br (decide (v1149 < ((List.length x1134 : Nat) : Int))) (gd (0 ≤ v1149 ∧ v1149 < ((List.length x1134 : Nat) : Int)) <|
  (feature_single F (gl x1134 v1149.toNat)).bind fun z1153 =>
  br (z1153 != (0 : Int)) (some z1153) (br (decide ((0 : Int) < v1149)) (gd (I64 (v1149 - (1 : Int))) <|
  gd (0 ≤ (v1149 - (1 : Int)) ∧ (v1149 - (1 : Int)) < ((List.length x1134 : Nat) : Int)) <|
  feature_Check_k1 F v1149 ag_feature_Check_b0 (decide (((gl x1134 v1149.toNat).number_) ≤ ((gl x1134 (v1149 - (1 : Int)).toNat).number_)))) (feature_Check_k1 F v1149 ag_feature_Check_b0 false))) (feature_Check_k2 F)
def feature_Check (F : Nat) (x1134 : (List Feature)) : Option (Int) :=
  br (decide ((60 : Int) < ((List.length x1134 : Nat) : Int))) (some (1 : Int)) (loopN (fun again (z : Int) => feature_Check_b0 F x1134 again z) F (0 : Int))
/- landaid/feature.right -/
def feature_right_k0 (F : Nat) (v1170 : Bool) : Option (Int) :=
  br v1170 (some (9 : Int)) (some (0 : Int))
def feature_right (F : Nat) (x1164 : (List Feature)) (x1165 : Int) : Option (Int) :=
  (feature_Check F x1164).bind fun z1166 =>
  br (z1166 != (0 : Int)) (some z1166) (br (decide (x1165 < (0 : Int))) (feature_right_k0 F true) (feature_right_k0 F (decide ((36864 : Int) < x1165))))
/- slices.Clone[[]landaid/api.Rect,landaid/api.Rect] -/
def slices_Clone_Rect (F : Nat) (x1173 : (List Rect)) : Option ((List Rect)) :=
  brN (List.length x1173) (some ([])) (gd ((0) + (List.length (α := Rect) x1173) ≤ LIM) <|
  some (([] : List Rect) ++ x1173))
/- landaid/feature.copied -/
def feature_copied (F : Nat) (x1176 : Feature) : Option (Feature) :=
  (slices_Clone_Rect F x1176.region_.rects_).bind fun z1177 =>
  some (⟨x1176.number_, x1176.kind_, x1176.from_, x1176.until_, (⟨z1177⟩ : Region)⟩ : Feature)
/- landaid/feature.all -/
def feature_all_k1 (F : Nat) (v1196 : (List Feature)) : Option ((List Feature)) :=
  some v1196
def feature_all_b0 (F : Nat) (x1179 : (List Feature)) (ag_feature_all_b0 : (Int × (List Feature)) → Option ((List Feature))) (v1187 : Int) (v1188 : (List Feature)) : Option ((List Feature)) :=
  br (decide (v1187 < ((List.length x1179 : Nat) : Int))) (gd (0 ≤ v1187 ∧ v1187 < ((List.length x1179 : Nat) : Int)) <|
  (feature_copied F (gl x1179 v1187.toNat)).bind fun z1192 =>
  gd ((List.length (α := Feature) v1188) + (List.length (α := Feature) ([z1192] : List Feature)) ≤ LIM) <|
  gd (I64 (v1187 + (1 : Int))) <|
  ag_feature_all_b0 ((v1187 + (1 : Int)), (v1188 ++ ([z1192] : List Feature)))) (feature_all_k1 F v1188)
def feature_all (F : Nat) (x1179 : (List Feature)) : Option ((List Feature)) :=
  loopN (fun again (z : Int × (List Feature)) => feature_all_b0 F x1179 again z.1 z.2) F ((0 : Int), ([] : List Feature))
/- landaid/feature.there -/
def feature_there_k0 (F : Nat) (v1201 : Bool) : Option (Bool) :=
  some v1201
def feature_there (F : Nat) (x1198 : Feature) (x1199 : Int) : Option (Bool) :=
  br (decide (x1198.from_ ≤ x1199)) (feature_there_k0 F (decide (x1199 < x1198.until_))) (feature_there_k0 F false)
/- landaid/feature.On$1 -/
def feature_On_1 (F : Nat) (x1203 : Feature) (x1204 : Int) : Option (Bool) :=
  (feature_there F x1203 x1204).bind fun z1205 =>
  some (!z1205)
/- slices.IndexFunc[[]landaid/api.Feature,landaid/api.Feature] -/
def slices_IndexFunc_Feature_k1 (F : Nat) : Option (Int) :=
  some (-1 : Int)
def slices_IndexFunc_Feature_b0 (F : Nat) (x1207 : (List Feature)) (x1208 : Feature → Option Bool) (ag_slices_IndexFunc_Feature_b0 : (Int) → Option (Int)) (v1216 : Int) : Option (Int) :=
  br (decide (v1216 < ((List.length x1207 : Nat) : Int))) (gd (0 ≤ v1216 ∧ v1216 < ((List.length x1207 : Nat) : Int)) <|
  (x1208 (gl x1207 v1216.toNat)).bind fun z1220 =>
  br z1220 (some v1216) (gd (I64 (v1216 + (1 : Int))) <|
  ag_slices_IndexFunc_Feature_b0 (v1216 + (1 : Int)))) (slices_IndexFunc_Feature_k1 F)
def slices_IndexFunc_Feature (F : Nat) (x1207 : (List Feature)) (x1208 : Feature → Option Bool) : Option (Int) :=
  loopN (fun again (z : Int) => slices_IndexFunc_Feature_b0 F x1207 x1208 again z) F (0 : Int)
/- slices.DeleteFunc[[]landaid/api.Feature,landaid/api.Feature] -/
def slices_DeleteFunc_Feature_k1 (F : Nat) (v1244 : Int) (ag_slices_DeleteFunc_Feature_b0 : (Int × Int × (List Feature)) → Option ((List Feature))) (v1254 : Int) (v1255 : (List Feature)) : Option ((List Feature)) :=
  gd (I64 (v1244 + (1 : Int))) <|
  ag_slices_DeleteFunc_Feature_b0 (v1254, (v1244 + (1 : Int)), v1255)
def slices_DeleteFunc_Feature_k2 (F : Nat) (v1258 : Int) (v1259 : (List Feature)) : Option ((List Feature)) :=
  gd (0 ≤ v1258 ∧ v1258 ≤ (((List.length (α := Feature) v1259) : Nat) : Int) ∧ ((0 : Nat) : Int) + (((List.length (α := Feature) v1259) : Nat) : Int) ≤ ((List.length (α := Feature) v1259 : Nat) : Int)) <|
  gd (0 ≤ v1258 ∧ v1258 ≤ ((List.length (clr v1259 (0 + (v1258).toNat) ((List.length (α := Feature) v1259) - (v1258).toNat)) : Nat) : Int)) <|
  some ((clr v1259 (0 + (v1258).toNat) ((List.length (α := Feature) v1259) - (v1258).toNat)).take (v1258).toNat)
def slices_DeleteFunc_Feature_b0 (F : Nat) (x1226 : Feature → Option Bool) (ag_slices_DeleteFunc_Feature_b0 : (Int × Int × (List Feature)) → Option ((List Feature))) (v1243 : Int) (v1244 : Int) (v1245 : (List Feature)) : Option ((List Feature)) :=
  br (decide (v1244 < ((List.length v1245 : Nat) : Int))) (gd (0 ≤ v1244 ∧ v1244 < ((List.length v1245 : Nat) : Int)) <|
  (x1226 (gl v1245 v1244.toNat)).bind fun z1249 =>
  br (!z1249) (gd (0 ≤ v1243 ∧ v1243 < ((List.length v1245 : Nat) : Int)) <|
  gd (I64 (v1243 + (1 : Int))) <|
  slices_DeleteFunc_Feature_k1 F v1244 ag_slices_DeleteFunc_Feature_b0 (v1243 + (1 : Int)) (List.set v1245 v1243.toNat (gl v1245 v1244.toNat))) (slices_DeleteFunc_Feature_k1 F v1244 ag_slices_DeleteFunc_Feature_b0 v1243 v1245)) (slices_DeleteFunc_Feature_k2 F v1243 v1245)
def slices_DeleteFunc_Feature (F : Nat) (x1225 : (List Feature)) (x1226 : Feature → Option Bool) : Option ((List Feature)) :=
  (slices_IndexFunc_Feature F x1225 x1226).bind fun z1227 =>
  br (z1227 == (-1 : Int)) (some x1225) (gd (I64 (z1227 + (1 : Int))) <|
  loopN (fun again (z : Int × Int × (List Feature)) => slices_DeleteFunc_Feature_b0 F x1226 again z.1 z.2.1 z.2.2) F (z1227, (z1227 + (1 : Int)), x1225))
/- landaid/feature.On -/
def feature_On (F : Nat) (x1263 : (List Feature)) (x1264 : Int) : Option ((List Feature) × Int) :=
  (feature_right F x1263 x1264).bind fun z1265 =>
  br (z1265 != (0 : Int)) (some ([], z1265)) ((feature_all F x1263).bind fun z1268 =>
  (slices_DeleteFunc_Feature F z1268 (fun y0 => feature_On_1 F y0 x1264)).bind fun z1270 =>
  some (z1270, (0 : Int)))
/- slices.BinarySearchFunc[[]landaid/api.Feature,landaid/api.Feature,landaid/api.Feature] -/
def slices_BinarySearchFunc_Feature_k2 (F : Nat) (v1297 : Int) (v1303 : Bool) : Option (Int × Bool) :=
  some (v1297, v1303)
def slices_BinarySearchFunc_Feature_k1 (F : Nat) (x1272 : (List Feature)) (x1273 : Feature) (x1274 : Feature → Feature → Option Int) (v1297 : Int) : Option (Int × Bool) :=
  br (decide (v1297 < ((List.length x1272 : Nat) : Int))) (gd (0 ≤ v1297 ∧ v1297 < ((List.length x1272 : Nat) : Int)) <|
  (x1274 (gl x1272 v1297.toNat) x1273).bind fun z1301 =>
  slices_BinarySearchFunc_Feature_k2 F v1297 (z1301 == (0 : Int))) (slices_BinarySearchFunc_Feature_k2 F v1297 false)
def slices_BinarySearchFunc_Feature_b0 (F : Nat) (x1272 : (List Feature)) (x1273 : Feature) (x1274 : Feature → Feature → Option Int) (ag_slices_BinarySearchFunc_Feature_b0 : (Int × Int) → Option (Int × Bool)) (v1285 : Int) (v1286 : Int) : Option (Int × Bool) :=
  br (decide (v1285 < v1286)) (gd (I64 (v1285 + v1286)) <|
  gd (0 ≤ (1 : Int)) <|
  gd (I64 ((IntKind.wrap .u64 (v1285 + v1286)).fdiv (2 ^ (min ((1 : Int)).toNat (IntKind.bits .u64))))) <|
  gd (0 ≤ ((IntKind.wrap .u64 (v1285 + v1286)).fdiv (2 ^ (min ((1 : Int)).toNat (IntKind.bits .u64)))) ∧ ((IntKind.wrap .u64 (v1285 + v1286)).fdiv (2 ^ (min ((1 : Int)).toNat (IntKind.bits .u64)))) < ((List.length x1272 : Nat) : Int)) <|
  (x1274 (gl x1272 ((IntKind.wrap .u64 (v1285 + v1286)).fdiv (2 ^ (min ((1 : Int)).toNat (IntKind.bits .u64)))).toNat) x1273).bind fun z1293 =>
  br (decide (z1293 < (0 : Int))) (gd (I64 (((IntKind.wrap .u64 (v1285 + v1286)).fdiv (2 ^ (min ((1 : Int)).toNat (IntKind.bits .u64)))) + (1 : Int))) <|
  ag_slices_BinarySearchFunc_Feature_b0 ((((IntKind.wrap .u64 (v1285 + v1286)).fdiv (2 ^ (min ((1 : Int)).toNat (IntKind.bits .u64)))) + (1 : Int)), v1286)) (ag_slices_BinarySearchFunc_Feature_b0 (v1285, ((IntKind.wrap .u64 (v1285 + v1286)).fdiv (2 ^ (min ((1 : Int)).toNat (IntKind.bits .u64))))))) (slices_BinarySearchFunc_Feature_k1 F x1272 x1273 x1274 v1285)
def slices_BinarySearchFunc_Feature (F : Nat) (x1272 : (List Feature)) (x1273 : Feature) (x1274 : Feature → Feature → Option Int) : Option (Int × Bool) :=
  loopN (fun again (z : Int × Int) => slices_BinarySearchFunc_Feature_b0 F x1272 x1273 x1274 again z.1 z.2) F ((0 : Int), ((List.length x1272 : Nat) : Int))
/- landaid/feature.compare -/
def feature_compare (F : Nat) (x1305 : Feature) (x1306 : Feature) : Option (Int) :=
  (cmp_Compare_int F x1305.number_ x1306.number_).bind fun z1307 =>
  some z1307
/- slices.Delete[[]landaid/api.Feature,landaid/api.Feature] -/
def slices_Delete_Feature (F : Nat) (x1309 : (List Feature)) (x1310 : Int) (x1311 : Int) : Option ((List Feature)) :=
  gd (0 ≤ x1310 ∧ x1310 ≤ x1311 ∧ x1311 ≤ ((List.length x1309 : Nat) : Int) ∧ ((List.length x1309 : Nat) : Int) ≤ (((List.length (α := Feature) x1309) : Nat) : Int)) <|
  br (x1310 == x1311) (some x1309) (gd (0 ≤ (0 : Int) ∧ (0 : Int) ≤ x1310 ∧ ((0 : Nat) : Int) + x1310 ≤ ((List.length (α := Feature) x1309 : Nat) : Int)) <|
  gd (0 ≤ x1311 ∧ x1311 ≤ (((List.length (α := Feature) x1309) : Nat) : Int) ∧ ((0 : Nat) : Int) + (((List.length (α := Feature) x1309) : Nat) : Int) ≤ ((List.length (α := Feature) x1309 : Nat) : Int)) <|
  gd (0 + ((x1310).toNat) + ((List.length (α := Feature) x1309) - (x1311).toNat) ≤ List.length (α := Feature) x1309 ∧ (0 + (x1311).toNat) + ((List.length (α := Feature) x1309) - (x1311).toNat) ≤ List.length (α := Feature) x1309) <|
  gd (0 ≤ (((((x1310).toNat) + ((List.length (α := Feature) x1309) - (x1311).toNat)) : Nat) : Int) ∧ (((((x1310).toNat) + ((List.length (α := Feature) x1309) - (x1311).toNat)) : Nat) : Int) ≤ ((List.length x1309 : Nat) : Int) ∧ ((0 : Nat) : Int) + ((List.length x1309 : Nat) : Int) ≤ ((List.length (α := Feature) (mvl x1309 (0 + ((x1310).toNat)) (0 + (x1311).toNat) ((List.length (α := Feature) x1309) - (x1311).toNat)) : Nat) : Int)) <|
  gd ((((x1310).toNat) + ((List.length (α := Feature) x1309) - (x1311).toNat)) ≤ List.length (α := Feature) (clr (mvl x1309 (0 + ((x1310).toNat)) (0 + (x1311).toNat) ((List.length (α := Feature) x1309) - (x1311).toNat)) (0 + ((((((x1310).toNat) + ((List.length (α := Feature) x1309) - (x1311).toNat)) : Nat) : Int)).toNat) ((((List.length x1309 : Nat) : Int)).toNat - ((((((x1310).toNat) + ((List.length (α := Feature) x1309) - (x1311).toNat)) : Nat) : Int)).toNat))) <|
  some ((clr (mvl x1309 (0 + ((x1310).toNat)) (0 + (x1311).toNat) ((List.length (α := Feature) x1309) - (x1311).toNat)) (0 + ((((((x1310).toNat) + ((List.length (α := Feature) x1309) - (x1311).toNat)) : Nat) : Int)).toNat) ((((List.length x1309 : Nat) : Int)).toNat - ((((((x1310).toNat) + ((List.length (α := Feature) x1309) - (x1311).toNat)) : Nat) : Int)).toNat)).take (((x1310).toNat) + ((List.length (α := Feature) x1309) - (x1311).toNat))))
/- landaid/feature.End -/
def feature_End (F : Nat) (x1319 : (List Feature)) (x1320 : Int) (x1321 : Int) : Option ((List Feature) × Int) :=
  (feature_Check F x1319).bind fun z1322 =>
  br (z1322 != (0 : Int)) (some ([], z1322)) ((slices_BinarySearchFunc_Feature F x1319 (⟨x1320, 0, 0, 0, (⟨[]⟩ : Region)⟩ : Feature) (fun y0 y1 => feature_compare F y0 y1)).bind fun z1325 =>
  br (!z1325.2) (some ([], (10 : Int))) (gd (0 ≤ z1325.1 ∧ z1325.1 < ((List.length x1319 : Nat) : Int)) <|
  (feature_there F (gl x1319 z1325.1.toNat) x1321).bind fun z1329 =>
  br (!z1329) (some ([], (9 : Int))) ((feature_all F x1319).bind fun z1332 =>
  gd (0 ≤ z1325.1 ∧ z1325.1 < ((List.length z1332 : Nat) : Int)) <|
  br (((gl z1332 z1325.1.toNat).from_) == x1321) (gd (I64 (z1325.1 + (1 : Int))) <|
  (slices_Delete_Feature F z1332 z1325.1 (z1325.1 + (1 : Int))).bind fun z1337 =>
  some (z1337, (0 : Int))) (gd (0 ≤ z1325.1 ∧ z1325.1 < ((List.length z1332 : Nat) : Int)) <|
  some ((List.set z1332 z1325.1.toNat (⟨(gl z1332 z1325.1.toNat).number_, (gl z1332 z1325.1.toNat).kind_, (gl z1332 z1325.1.toNat).from_, x1321, (gl z1332 z1325.1.toNat).region_⟩ : Feature)), (0 : Int))))))
/- landaid/landaidlaw09.awake -/
def law09_awake_k0 (F : Nat) (v1357 : Bool) : Option (Bool) :=
  some v1357
def law09_awake (F : Nat) : Option (Bool) :=
  (feature_On F ([(⟨(1 : Int), 0, (5 : Int), (10 : Int), (⟨([(⟨0, 0, (1 : Int), (1 : Int)⟩ : Rect)] : List Rect)⟩ : Region)⟩ : Feature)] : List Feature) (9 : Int)).bind fun z1340 =>
  (feature_On F ([(⟨(1 : Int), 0, (5 : Int), (10 : Int), (⟨([(⟨0, 0, (1 : Int), (1 : Int)⟩ : Rect)] : List Rect)⟩ : Region)⟩ : Feature)] : List Feature) (10 : Int)).bind fun z1342 =>
  (feature_End F ([(⟨(1 : Int), 0, (5 : Int), (10 : Int), (⟨([(⟨0, 0, (1 : Int), (1 : Int)⟩ : Rect)] : List Rect)⟩ : Region)⟩ : Feature)] : List Feature) (1 : Int) (7 : Int)).bind fun z1344 =>
  (feature_On F z1344.1 (7 : Int)).bind fun z1346 =>
  br (z1340.2 == (0 : Int)) (br (((List.length z1340.1 : Nat) : Int) == (1 : Int)) (br (z1342.2 == (0 : Int)) (br (((List.length z1342.1 : Nat) : Int) == (0 : Int)) (br (z1344.2 == (0 : Int)) (br (z1346.2 == (0 : Int)) (br (((List.length z1346.1 : Nat) : Int) == (0 : Int)) (br (((List.length z1344.1 : Nat) : Int) == (1 : Int)) (gd (0 ≤ (0 : Int) ∧ (0 : Int) < ((List.length z1344.1 : Nat) : Int)) <|
  law09_awake_k0 F (((gl z1344.1 (0 : Int).toNat).until_) == (7 : Int))) (law09_awake_k0 F false)) (law09_awake_k0 F false)) (law09_awake_k0 F false)) (law09_awake_k0 F false)) (law09_awake_k0 F false)) (law09_awake_k0 F false)) (law09_awake_k0 F false)) (law09_awake_k0 F false)
/- landaid/landaidref04.Same -/
def ref04_Same (F : Nat) (x1359 : Region) (x1360 : Region) : Option (Bool) :=
  (ref04_Rects F x1359.rects_ x1360.rects_).bind fun z1361 =>
  some z1361
/- landaid/landaidref09.Same -/
def ref09_Same_k1 (F : Nat) (v1388 : Int) (ag_ref09_Same_b0 : (Int) → Option (Bool)) (v1407 : Bool) : Option (Bool) :=
  br v1407 (some false) (gd (I64 (v1388 + (1 : Int))) <|
  ag_ref09_Same_b0 (v1388 + (1 : Int)))
def ref09_Same_k2 (F : Nat) : Option (Bool) :=
  some true
def ref09_Same_b0 (F : Nat) (x1363 : (List Feature)) (x1364 : (List Feature)) (ag_ref09_Same_b0 : (Int) → Option (Bool)) (v1388 : Int) : Option (Bool) :=
  br (decide (v1388 < ((List.length x1363 : Nat) : Int))) (gd (0 ≤ v1388 ∧ v1388 < ((List.length x1363 : Nat) : Int)) <|
  gd (0 ≤ v1388 ∧ v1388 < ((List.length x1364 : Nat) : Int)) <|
  br (((gl x1363 v1388.toNat).number_) != ((gl x1364 v1388.toNat).number_)) (ref09_Same_k1 F v1388 ag_ref09_Same_b0 true) (gd (0 ≤ v1388 ∧ v1388 < ((List.length x1363 : Nat) : Int)) <|
  gd (0 ≤ v1388 ∧ v1388 < ((List.length x1364 : Nat) : Int)) <|
  br (((gl x1363 v1388.toNat).kind_) != ((gl x1364 v1388.toNat).kind_)) (ref09_Same_k1 F v1388 ag_ref09_Same_b0 true) (gd (0 ≤ v1388 ∧ v1388 < ((List.length x1363 : Nat) : Int)) <|
  gd (0 ≤ v1388 ∧ v1388 < ((List.length x1364 : Nat) : Int)) <|
  br (((gl x1363 v1388.toNat).from_) != ((gl x1364 v1388.toNat).from_)) (ref09_Same_k1 F v1388 ag_ref09_Same_b0 true) (gd (0 ≤ v1388 ∧ v1388 < ((List.length x1363 : Nat) : Int)) <|
  gd (0 ≤ v1388 ∧ v1388 < ((List.length x1364 : Nat) : Int)) <|
  br (((gl x1363 v1388.toNat).until_) != ((gl x1364 v1388.toNat).until_)) (ref09_Same_k1 F v1388 ag_ref09_Same_b0 true) (gd (0 ≤ v1388 ∧ v1388 < ((List.length x1363 : Nat) : Int)) <|
  gd (0 ≤ v1388 ∧ v1388 < ((List.length x1364 : Nat) : Int)) <|
  (ref04_Same F ((gl x1363 v1388.toNat).region_) ((gl x1364 v1388.toNat).region_)).bind fun z1405 =>
  ref09_Same_k1 F v1388 ag_ref09_Same_b0 (!z1405)))))) (ref09_Same_k2 F)
def ref09_Same (F : Nat) (x1363 : (List Feature)) (x1364 : (List Feature)) : Option (Bool) :=
  br (((List.length x1363 : Nat) : Int) != ((List.length x1364 : Nat) : Int)) (some false) (loopN (fun again (z : Int) => ref09_Same_b0 F x1363 x1364 again z) F (0 : Int))
/- landaid/landaidlaw09.FeatureEnds -/
def law09_FeatureEnds_k5 (F : Nat) (v1500 : Int) (ag_law09_FeatureEnds_b3 : (Int × (List Feature)) → Option (Bool)) (v1510 : (List Feature)) : Option (Bool) :=
  gd (I64 (v1500 + (1 : Int))) <|
  ag_law09_FeatureEnds_b3 ((v1500 + (1 : Int)), v1510)
def law09_FeatureEnds_k4 (F : Nat) (z1481 : (List Feature) × Int) (v1500 : Int) (v1501 : (List Feature)) (ag_law09_FeatureEnds_b3 : (Int × (List Feature)) → Option (Bool)) (v1507 : Int) : Option (Bool) :=
  gd ((List.length (α := Feature) v1501) + (List.length (α := Feature) ([(⟨(gl z1481.1 v1500.toNat).number_, (gl z1481.1 v1500.toNat).kind_, (gl z1481.1 v1500.toNat).from_, v1507, (gl z1481.1 v1500.toNat).region_⟩ : Feature)] : List Feature)) ≤ LIM) <|
  law09_FeatureEnds_k5 F v1500 ag_law09_FeatureEnds_b3 (v1501 ++ ([(⟨(gl z1481.1 v1500.toNat).number_, (gl z1481.1 v1500.toNat).kind_, (gl z1481.1 v1500.toNat).from_, v1507, (gl z1481.1 v1500.toNat).region_⟩ : Feature)] : List Feature))
def law09_FeatureEnds_k7 (F : Nat) (v1478 : Int) (ag_law09_FeatureEnds_b1 : (Int) → Option (Bool)) : Option (Bool) :=
  gd (I64 (v1478 + (1 : Int))) <|
  ag_law09_FeatureEnds_b1 (v1478 + (1 : Int))
def law09_FeatureEnds_k6 (F : Nat) (v1478 : Int) (z1483 : (List Feature) × Int) (ag_law09_FeatureEnds_b1 : (Int) → Option (Bool)) (v1513 : (List Feature)) : Option (Bool) :=
  (ref09_Same F z1483.1 v1513).bind fun z1515 =>
  br (!z1515) (some false) (law09_FeatureEnds_k7 F v1478 ag_law09_FeatureEnds_b1)
def law09_FeatureEnds_b3 (F : Nat) (x1413 : Int) (x1414 : Int) (z1417 : Tape × (List Feature)) (v1478 : Int) (z1481 : (List Feature) × Int) (z1483 : (List Feature) × Int) (ag_law09_FeatureEnds_b1 : (Int) → Option (Bool)) (ag_law09_FeatureEnds_b3 : (Int × (List Feature)) → Option (Bool)) (v1500 : Int) (v1501 : (List Feature)) : Option (Bool) :=
  br (decide (v1500 < ((List.length z1481.1 : Nat) : Int))) (gd (0 ≤ v1500 ∧ v1500 < ((List.length z1481.1 : Nat) : Int)) <|
  br (((gl z1481.1 v1500.toNat).number_) == ((gl z1417.2 (x1413.tmod ((List.length z1417.2 : Nat) : Int)).toNat).number_)) (br (decide ((((gl z1417.2 (x1413.tmod ((List.length z1417.2 : Nat) : Int)).toNat).from_) + (x1414.tmod (((gl z1417.2 (x1413.tmod ((List.length z1417.2 : Nat) : Int)).toNat).until_) - ((gl z1417.2 (x1413.tmod ((List.length z1417.2 : Nat) : Int)).toNat).from_)))) ≤ v1478)) (law09_FeatureEnds_k5 F v1500 ag_law09_FeatureEnds_b3 v1501) (law09_FeatureEnds_k4 F z1481 v1500 v1501 ag_law09_FeatureEnds_b3 (((gl z1417.2 (x1413.tmod ((List.length z1417.2 : Nat) : Int)).toNat).from_) + (x1414.tmod (((gl z1417.2 (x1413.tmod ((List.length z1417.2 : Nat) : Int)).toNat).until_) - ((gl z1417.2 (x1413.tmod ((List.length z1417.2 : Nat) : Int)).toNat).from_)))))) (law09_FeatureEnds_k4 F z1481 v1500 v1501 ag_law09_FeatureEnds_b3 ((gl z1481.1 v1500.toNat).until_))) (law09_FeatureEnds_k6 F v1478 z1483 ag_law09_FeatureEnds_b1 v1501)
def law09_FeatureEnds_k2 (F : Nat) (x1413 : Int) (x1414 : Int) (z1417 : Tape × (List Feature)) (v1478 : Int) (z1481 : (List Feature) × Int) (z1483 : (List Feature) × Int) (ag_law09_FeatureEnds_b1 : (Int) → Option (Bool)) (v1486 : Bool) : Option (Bool) :=
  br v1486 (some false) (loopN (fun again (z : Int × (List Feature)) => law09_FeatureEnds_b3 F x1413 x1414 z1417 v1478 z1481 z1483 ag_law09_FeatureEnds_b1 again z.1 z.2) F ((0 : Int), ([] : List Feature)))
def law09_FeatureEnds_k8 (F : Nat) : Option (Bool) :=
  (law09_awake F).bind fun z1521 =>
  some z1521
def law09_FeatureEnds_b1 (F : Nat) (x1413 : Int) (x1414 : Int) (z1417 : Tape × (List Feature)) (z1429 : (List Feature) × Int) (ag_law09_FeatureEnds_b1 : (Int) → Option (Bool)) (v1478 : Int) : Option (Bool) :=
  br (decide (v1478 < (55 : Int))) ((feature_On F z1417.2 v1478).bind fun z1481 =>
  (feature_On F z1429.1 v1478).bind fun z1483 =>
  br (z1481.2 != (0 : Int)) (law09_FeatureEnds_k2 F x1413 x1414 z1417 v1478 z1481 z1483 ag_law09_FeatureEnds_b1 true) (law09_FeatureEnds_k2 F x1413 x1414 z1417 v1478 z1481 z1483 ag_law09_FeatureEnds_b1 (z1483.2 != (0 : Int)))) (law09_FeatureEnds_k8 F)
def law09_FeatureEnds_k0 (F : Nat) (x1413 : Int) (x1414 : Int) (z1417 : Tape × (List Feature)) (z1429 : (List Feature) × Int) (v1434 : Bool) : Option (Bool) :=
  br v1434 (some false) (loopN (fun again (z : Int) => law09_FeatureEnds_b1 F x1413 x1414 z1417 z1429 again z) F (0 : Int))
def law09_FeatureEnds (F : Nat) (x1412 : (List Int)) (x1413 : Int) (x1414 : Int) : Option (Bool) :=
  (keep_New F x1412).bind fun z1415 =>
  (keep_Tape_Layer F z1415 (4 : Int)).bind fun z1417 =>
  br (((List.length z1417.2 : Nat) : Int) == (0 : Int)) ((law09_awake F).bind fun z1420 =>
  some z1420) (gd (I64 x1413) <|
  gd (((List.length z1417.2 : Nat) : Int) ≠ 0) <|
  gd (0 ≤ (x1413.tmod ((List.length z1417.2 : Nat) : Int)) ∧ (x1413.tmod ((List.length z1417.2 : Nat) : Int)) < ((List.length z1417.2 : Nat) : Int)) <|
  gd (I64 x1414) <|
  gd (I64 (((gl z1417.2 (x1413.tmod ((List.length z1417.2 : Nat) : Int)).toNat).until_) - ((gl z1417.2 (x1413.tmod ((List.length z1417.2 : Nat) : Int)).toNat).from_))) <|
  gd ((((gl z1417.2 (x1413.tmod ((List.length z1417.2 : Nat) : Int)).toNat).until_) - ((gl z1417.2 (x1413.tmod ((List.length z1417.2 : Nat) : Int)).toNat).from_)) ≠ 0) <|
  gd (I64 (((gl z1417.2 (x1413.tmod ((List.length z1417.2 : Nat) : Int)).toNat).from_) + (x1414.tmod (((gl z1417.2 (x1413.tmod ((List.length z1417.2 : Nat) : Int)).toNat).until_) - ((gl z1417.2 (x1413.tmod ((List.length z1417.2 : Nat) : Int)).toNat).from_))))) <|
  (feature_End F z1417.2 ((gl z1417.2 (x1413.tmod ((List.length z1417.2 : Nat) : Int)).toNat).number_) (((gl z1417.2 (x1413.tmod ((List.length z1417.2 : Nat) : Int)).toNat).from_) + (x1414.tmod (((gl z1417.2 (x1413.tmod ((List.length z1417.2 : Nat) : Int)).toNat).until_) - ((gl z1417.2 (x1413.tmod ((List.length z1417.2 : Nat) : Int)).toNat).from_))))).bind fun z1429 =>
  br (z1429.2 != (0 : Int)) (law09_FeatureEnds_k0 F x1413 x1414 z1417 z1429 true) ((feature_Check F z1429.1).bind fun z1432 =>
  law09_FeatureEnds_k0 F x1413 x1414 z1417 z1429 (z1432 != (0 : Int))))
/- landaid/landaidref01.Has -/
def ref01_Has_k1 (F : Nat) : Option (Bool) :=
  some false
def ref01_Has_b0 (F : Nat) (x1523 : (List Int)) (x1524 : Int) (ag_ref01_Has_b0 : (Int) → Option (Bool)) (v1530 : Int) : Option (Bool) :=
  br (decide (v1530 < ((List.length x1523 : Nat) : Int))) (gd (0 ≤ v1530 ∧ v1530 < ((List.length x1523 : Nat) : Int)) <|
  br ((gl x1523 v1530.toNat) == x1524) (some true) (gd (I64 (v1530 + (1 : Int))) <|
  ag_ref01_Has_b0 (v1530 + (1 : Int)))) (ref01_Has_k1 F)
def ref01_Has (F : Nat) (x1523 : (List Int)) (x1524 : Int) : Option (Bool) :=
  loopN (fun again (z : Int) => ref01_Has_b0 F x1523 x1524 again z) F (0 : Int)
end
end Go.Ab
end

section
/- Pure programs of functions of the given program, written by a program. -/
namespace Go.Ab
set_option linter.unusedVariables false
set_option maxRecDepth 100000
noncomputable section

def FR_Int_Bool (q : Int → Option Bool) : List AVal → AVal → Prop := fun args r => ∃ x0 y, q x0 = some y ∧ args = [vi x0] ∧ r = vb y
/- landaid/feature.Kind$1 -/
def feature_Kind_1 (F : Nat) (x1173 : Int) (x1174 : Int) : Option (Bool) :=
  some (x1173 == x1174)
/- landaid/feature.Rects -/
def feature_Rects_k2 (F : Nat) (v1198 : Int) (ag_feature_Rects_b0 : (Int × (List Rect)) → Option ((List Rect))) (v1212 : (List Rect)) : Option ((List Rect)) :=
  gd (I64 (v1198 + (1 : Int))) <|
  ag_feature_Rects_b0 ((v1198 + (1 : Int)), v1212)
def feature_Rects_k1 (F : Nat) (x1180 : (List Feature)) (v1198 : Int) (v1199 : (List Rect)) (ag_feature_Rects_b0 : (Int × (List Rect)) → Option ((List Rect))) (v1208 : Bool) : Option ((List Rect)) :=
  br v1208 (gd ((List.length (α := Rect) v1199) + (List.length (α := Rect) ((gl x1180 v1198.toNat).region_.rects_)) ≤ LIM) <|
  feature_Rects_k2 F v1198 ag_feature_Rects_b0 (v1199 ++ ((gl x1180 v1198.toNat).region_.rects_))) (feature_Rects_k2 F v1198 ag_feature_Rects_b0 v1199)
def feature_Rects_k3 (F : Nat) (v1215 : (List Rect)) : Option ((List Rect)) :=
  some v1215
def feature_Rects_b0 (F : Nat) (x1180 : (List Feature)) (x1181 : Int) (x1182 : Int → Option Bool) (ag_feature_Rects_b0 : (Int × (List Rect)) → Option ((List Rect))) (v1198 : Int) (v1199 : (List Rect)) : Option ((List Rect)) :=
  br (decide (v1198 < ((List.length x1180 : Nat) : Int))) (gd (0 ≤ v1198 ∧ v1198 < ((List.length x1180 : Nat) : Int)) <|
  (feature_there F (gl x1180 v1198.toNat) x1181).bind fun z1203 =>
  br z1203 ((x1182 ((gl x1180 v1198.toNat).kind_)).bind fun z1206 =>
  feature_Rects_k1 F x1180 v1198 v1199 ag_feature_Rects_b0 z1206) (feature_Rects_k1 F x1180 v1198 v1199 ag_feature_Rects_b0 false)) (feature_Rects_k3 F v1199)
def feature_Rects (F : Nat) (x1180 : (List Feature)) (x1181 : Int) (x1182 : Int → Option Bool) : Option ((List Rect)) :=
  loopN (fun again (z : Int × (List Rect)) => feature_Rects_b0 F x1180 x1181 x1182 again z.1 z.2) F ((0 : Int), ([] : List Rect))
/- landaid/region.Limited -/
def region_Limited (F : Nat) (x1217 : (List Rect)) : Option (Region × Int) :=
  br (decide ((120 : Int) < ((List.length x1217 : Nat) : Int))) (some ((⟨[]⟩ : Region), (1 : Int))) (some ((⟨x1217⟩ : Region), (0 : Int)))
/- landaid/region.Joined -/
def region_Joined (F : Nat) (x1219 : (List Rect)) : Option (Region × Int) :=
  (region_canonical F x1219).bind fun z1220 =>
  (region_Limited F z1220).bind fun z1222 =>
  some (z1222.1, z1222.2)
/- landaid/feature.Kind -/
def feature_Kind_k0 (F : Nat) (x1224 : (List Feature)) (x1225 : Int) (x1226 : Int) (v1231 : Bool) : Option (Region × Int) :=
  br v1231 (some ((⟨[]⟩ : Region), (14 : Int))) ((feature_Rects F x1224 x1226 (fun y0 => feature_Kind_1 F y0 x1225)).bind fun z1234 =>
  (region_Joined F z1234).bind fun z1236 =>
  some (z1236.1, z1236.2))
def feature_Kind (F : Nat) (x1224 : (List Feature)) (x1225 : Int) (x1226 : Int) : Option (Region × Int) :=
  (feature_right F x1224 x1226).bind fun z1227 =>
  br (z1227 != (0 : Int)) (some ((⟨[]⟩ : Region), z1227)) (br (decide (x1225 < (0 : Int))) (feature_Kind_k0 F x1224 x1225 x1226 true) (feature_Kind_k0 F x1224 x1225 x1226 (decide ((15 : Int) < x1225))))
/- landaid/landaidref04.Has -/
def ref04_Has_k0 (F : Nat) (v1246 : Bool) : Option (Bool) :=
  some v1246
def ref04_Has (F : Nat) (x1238 : Region) (x1239 : Int) (x1240 : Int) : Option (Bool) :=
  (ref04_Valid F x1238).bind fun z1241 =>
  br z1241 ((ref04_inside F x1238.rects_ x1239 x1240).bind fun z1244 =>
  ref04_Has_k0 F z1244) (ref04_Has_k0 F false)
/- landaid/region.overlap -/
def region_overlap_k0 (F : Nat) (v1253 : Bool) : Option (Bool) :=
  some v1253
def region_overlap (F : Nat) (x1248 : Rect) (x1249 : Rect) : Option (Bool) :=
  br (decide (x1248.left_ < x1249.right_)) (br (decide (x1249.left_ < x1248.right_)) (br (decide (x1248.low_ < x1249.high_)) (region_overlap_k0 F (decide (x1249.low_ < x1248.high_))) (region_overlap_k0 F false)) (region_overlap_k0 F false)) (region_overlap_k0 F false)
/- landaid/region.Meets$1$1 -/
def region_Meets_1_1 (F : Nat) (x1255 : Rect) (x1256 : Rect) : Option (Bool) :=
  (region_overlap F x1256 x1255).bind fun z1257 =>
  some z1257
/- landaid/region.Meets$1 -/
def region_Meets_1 (F : Nat) (x1259 : Rect) (x1260 : Region) : Option (Bool) :=
  (slices_ContainsFunc_Rect F x1260.rects_ (fun y0 => region_Meets_1_1 F y0 x1259)).bind fun z1261 =>
  some z1261
/- landaid/region.Meets -/
def region_Meets_k0 (F : Nat) (v1273 : Bool) : Option (Bool) :=
  some v1273
def region_Meets (F : Nat) (x1263 : Region) (x1264 : Region) : Option (Bool) :=
  (region_Valid F x1263).bind fun z1265 =>
  br z1265 ((region_Valid F x1264).bind fun z1268 =>
  br z1268 ((slices_ContainsFunc_Rect F x1263.rects_ (fun y0 => region_Meets_1 F y0 x1264)).bind fun z1271 =>
  region_Meets_k0 F z1271) (region_Meets_k0 F false)) (region_Meets_k0 F false)
/- landaid/feature.Apart -/
def feature_Apart_k2 (F : Nat) (x1275 : (List Feature)) (v1309 : Int) (v1326 : Int) (ag_feature_Apart_b1 : (Int) → Option (Int × Int × Bool × Int)) (v1334 : Bool) : Option (Int × Int × Bool × Int) :=
  br v1334 (some ((gl x1275 v1309.toNat).number_, (gl (x1275.drop (v1309 + (1 : Int)).toNat) v1326.toNat).number_, true, (0 : Int))) (gd (I64 (v1326 + (1 : Int))) <|
  ag_feature_Apart_b1 (v1326 + (1 : Int)))
def feature_Apart_k3 (F : Nat) (v1309 : Int) (ag_feature_Apart_b0 : (Int) → Option (Int × Int × Bool × Int)) : Option (Int × Int × Bool × Int) :=
  gd (I64 (v1309 + (1 : Int))) <|
  ag_feature_Apart_b0 (v1309 + (1 : Int))
def feature_Apart_b1 (F : Nat) (x1275 : (List Feature)) (v1309 : Int) (ag_feature_Apart_b0 : (Int) → Option (Int × Int × Bool × Int)) (ag_feature_Apart_b1 : (Int) → Option (Int × Int × Bool × Int)) (v1326 : Int) : Option (Int × Int × Bool × Int) :=
  br (decide (v1326 < ((List.length (x1275.drop (v1309 + (1 : Int)).toNat) : Nat) : Int))) (gd (0 ≤ v1326 ∧ v1326 < ((List.length (x1275.drop (v1309 + (1 : Int)).toNat) : Nat) : Int)) <|
  br (decide (((gl x1275 v1309.toNat).from_) < ((gl (x1275.drop (v1309 + (1 : Int)).toNat) v1326.toNat).until_))) (br (decide (((gl (x1275.drop (v1309 + (1 : Int)).toNat) v1326.toNat).from_) < ((gl x1275 v1309.toNat).until_))) ((region_Meets F ((gl x1275 v1309.toNat).region_) ((gl (x1275.drop (v1309 + (1 : Int)).toNat) v1326.toNat).region_)).bind fun z1332 =>
  feature_Apart_k2 F x1275 v1309 v1326 ag_feature_Apart_b1 z1332) (feature_Apart_k2 F x1275 v1309 v1326 ag_feature_Apart_b1 false)) (feature_Apart_k2 F x1275 v1309 v1326 ag_feature_Apart_b1 false)) (feature_Apart_k3 F v1309 ag_feature_Apart_b0)
def feature_Apart_k4 (F : Nat) : Option (Int × Int × Bool × Int) :=
  some ((0 : Int), (0 : Int), false, (0 : Int))
def feature_Apart_b0 (F : Nat) (x1275 : (List Feature)) (ag_feature_Apart_b0 : (Int) → Option (Int × Int × Bool × Int)) (v1309 : Int) : Option (Int × Int × Bool × Int) :=
  br (decide (v1309 < ((List.length x1275 : Nat) : Int))) (gd (0 ≤ v1309 ∧ v1309 < ((List.length x1275 : Nat) : Int)) <|
  gd (I64 (v1309 + (1 : Int))) <|
  gd (0 ≤ (v1309 + (1 : Int)) ∧ (v1309 + (1 : Int)) ≤ ((List.length x1275 : Nat) : Int)) <|
  loopN (fun again (z : Int) => feature_Apart_b1 F x1275 v1309 ag_feature_Apart_b0 again z) F (0 : Int)) (feature_Apart_k4 F)
def feature_Apart (F : Nat) (x1275 : (List Feature)) : Option (Int × Int × Bool × Int) :=
  (feature_Check F x1275).bind fun z1276 =>
  br (z1276 != (0 : Int)) (some ((0 : Int), (0 : Int), false, z1276)) (loopN (fun again (z : Int) => feature_Apart_b0 F x1275 again z) F (0 : Int))
/- landaid/landaidref04.Meets -/
def ref04_Meets_k0 (F : Nat) (v1351 : Bool) : Option (Bool) :=
  some v1351
def ref04_Meets (F : Nat) (x1341 : Region) (x1342 : Region) : Option (Bool) :=
  (ref04_Valid F x1341).bind fun z1343 =>
  br z1343 ((ref04_Valid F x1342).bind fun z1346 =>
  br z1346 ((ref04_Combine F x1341.rects_ x1342.rects_ (2 : Int)).bind fun z1349 =>
  ref04_Meets_k0 F (decide ((0 : Int) < ((List.length z1349 : Nat) : Int)))) (ref04_Meets_k0 F false)) (ref04_Meets_k0 F false)
/- landaid/landaidlaw09.FeatureKinds -/
def law09_FeatureKinds_k3 (F : Nat) (v1697 : Int) (ag_law09_FeatureKinds_b2 : (Bool × Int) → Option (Bool)) (v1707 : Bool) : Option (Bool) :=
  gd (I64 (v1697 + (1 : Int))) <|
  ag_law09_FeatureKinds_b2 (v1707, (v1697 + (1 : Int)))
def law09_FeatureKinds_k5 (F : Nat) (v1676 : Int) (ag_law09_FeatureKinds_b1 : (Int) → Option (Bool)) : Option (Bool) :=
  gd (I64 (v1676 + (1 : Int))) <|
  ag_law09_FeatureKinds_b1 (v1676 + (1 : Int))
def law09_FeatureKinds_k4 (F : Nat) (z1545 : Region × Int) (v1633 : Int) (v1676 : Int) (ag_law09_FeatureKinds_b1 : (Int) → Option (Bool)) (v1710 : Bool) : Option (Bool) :=
  (ref04_Has F z1545.1 v1633 v1676).bind fun z1712 =>
  br (!(z1712 == v1710)) (some false) (law09_FeatureKinds_k5 F v1676 ag_law09_FeatureKinds_b1)
def law09_FeatureKinds_b2 (F : Nat) (x1535 : Int) (x1536 : Int) (z1539 : Tape × (List Feature)) (z1545 : Region × Int) (v1633 : Int) (v1676 : Int) (ag_law09_FeatureKinds_b1 : (Int) → Option (Bool)) (ag_law09_FeatureKinds_b2 : (Bool × Int) → Option (Bool)) (v1696 : Bool) (v1697 : Int) : Option (Bool) :=
  br (decide (v1697 < ((List.length z1539.2 : Nat) : Int))) (gd (0 ≤ v1697 ∧ v1697 < ((List.length z1539.2 : Nat) : Int)) <|
  br v1696 (law09_FeatureKinds_k3 F v1697 ag_law09_FeatureKinds_b2 true) (br (((gl z1539.2 v1697.toNat).kind_) == (x1535.tmod (16 : Int))) (br (decide (((gl z1539.2 v1697.toNat).from_) ≤ (x1536.tmod (50 : Int)))) (br (decide ((x1536.tmod (50 : Int)) < ((gl z1539.2 v1697.toNat).until_))) ((ref04_Has F ((gl z1539.2 v1697.toNat).region_) v1633 v1676).bind fun z1705 =>
  law09_FeatureKinds_k3 F v1697 ag_law09_FeatureKinds_b2 z1705) (law09_FeatureKinds_k3 F v1697 ag_law09_FeatureKinds_b2 false)) (law09_FeatureKinds_k3 F v1697 ag_law09_FeatureKinds_b2 false)) (law09_FeatureKinds_k3 F v1697 ag_law09_FeatureKinds_b2 false))) (law09_FeatureKinds_k4 F z1545 v1633 v1676 ag_law09_FeatureKinds_b1 v1696)
def law09_FeatureKinds_k6 (F : Nat) (v1633 : Int) (ag_law09_FeatureKinds_b0 : (Int) → Option (Bool)) : Option (Bool) :=
  gd (I64 (v1633 + (1 : Int))) <|
  ag_law09_FeatureKinds_b0 (v1633 + (1 : Int))
def law09_FeatureKinds_b1 (F : Nat) (x1535 : Int) (x1536 : Int) (z1539 : Tape × (List Feature)) (z1545 : Region × Int) (v1633 : Int) (ag_law09_FeatureKinds_b0 : (Int) → Option (Bool)) (ag_law09_FeatureKinds_b1 : (Int) → Option (Bool)) (v1676 : Int) : Option (Bool) :=
  br (decide (v1676 < (10 : Int))) (loopN (fun again (z : Bool × Int) => law09_FeatureKinds_b2 F x1535 x1536 z1539 z1545 v1633 v1676 ag_law09_FeatureKinds_b1 again z.1 z.2) F (false, (0 : Int))) (law09_FeatureKinds_k6 F v1633 ag_law09_FeatureKinds_b0)
def law09_FeatureKinds_k12 (F : Nat) (v1789 : Int) (v1800 : Bool) (ag_law09_FeatureKinds_b9 : (Bool × Int) → Option (Bool)) (v1804 : Bool) : Option (Bool) :=
  br v1804 (some false) (gd (I64 (v1789 + (1 : Int))) <|
  ag_law09_FeatureKinds_b9 (v1800, (v1789 + (1 : Int))))
def law09_FeatureKinds_k11 (F : Nat) (z1539 : Tape × (List Feature)) (z1720 : Int × Int × Bool × Int) (v1765 : Int) (v1789 : Int) (v1797 : Bool) (ag_law09_FeatureKinds_b9 : (Bool × Int) → Option (Bool)) (v1800 : Bool) : Option (Bool) :=
  br v1797 (br z1720.2.2.1 (law09_FeatureKinds_k12 F v1789 v1800 ag_law09_FeatureKinds_b9 (decide (((gl (z1539.2.take v1765.toNat) v1789.toNat).number_) < z1720.1))) (law09_FeatureKinds_k12 F v1789 v1800 ag_law09_FeatureKinds_b9 false)) (law09_FeatureKinds_k12 F v1789 v1800 ag_law09_FeatureKinds_b9 false)
def law09_FeatureKinds_k10 (F : Nat) (z1539 : Tape × (List Feature)) (z1720 : Int × Int × Bool × Int) (v1765 : Int) (v1788 : Bool) (v1789 : Int) (ag_law09_FeatureKinds_b9 : (Bool × Int) → Option (Bool)) (v1797 : Bool) : Option (Bool) :=
  br v1788 (law09_FeatureKinds_k11 F z1539 z1720 v1765 v1789 v1797 ag_law09_FeatureKinds_b9 true) (law09_FeatureKinds_k11 F z1539 z1720 v1765 v1789 v1797 ag_law09_FeatureKinds_b9 v1797)
def law09_FeatureKinds_k13 (F : Nat) (v1765 : Int) (ag_law09_FeatureKinds_b8 : (Bool × Int) → Option (Bool)) (v1808 : Bool) : Option (Bool) :=
  gd (I64 (v1765 + (1 : Int))) <|
  ag_law09_FeatureKinds_b8 (v1808, (v1765 + (1 : Int)))
def law09_FeatureKinds_b9 (F : Nat) (z1539 : Tape × (List Feature)) (z1720 : Int × Int × Bool × Int) (v1765 : Int) (ag_law09_FeatureKinds_b8 : (Bool × Int) → Option (Bool)) (ag_law09_FeatureKinds_b9 : (Bool × Int) → Option (Bool)) (v1788 : Bool) (v1789 : Int) : Option (Bool) :=
  br (decide (v1789 < ((List.length (z1539.2.take v1765.toNat) : Nat) : Int))) (gd (0 ≤ v1789 ∧ v1789 < ((List.length (z1539.2.take v1765.toNat) : Nat) : Int)) <|
  br (decide (((gl z1539.2 v1765.toNat).from_) < ((gl (z1539.2.take v1765.toNat) v1789.toNat).until_))) (br (decide (((gl (z1539.2.take v1765.toNat) v1789.toNat).from_) < ((gl z1539.2 v1765.toNat).until_))) ((ref04_Meets F ((gl z1539.2 v1765.toNat).region_) ((gl (z1539.2.take v1765.toNat) v1789.toNat).region_)).bind fun z1795 =>
  law09_FeatureKinds_k10 F z1539 z1720 v1765 v1788 v1789 ag_law09_FeatureKinds_b9 z1795) (law09_FeatureKinds_k10 F z1539 z1720 v1765 v1788 v1789 ag_law09_FeatureKinds_b9 false)) (law09_FeatureKinds_k10 F z1539 z1720 v1765 v1788 v1789 ag_law09_FeatureKinds_b9 false)) (law09_FeatureKinds_k13 F v1765 ag_law09_FeatureKinds_b8 v1788)
def law09_FeatureKinds_k15 (F : Nat) (v1822 : Bool) : Option (Bool) :=
  some v1822
def law09_FeatureKinds_k14 (F : Nat) (z1720 : Int × Int × Bool × Int) (v1811 : Bool) : Option (Bool) :=
  br (z1720.2.2.2 == (0 : Int)) (br (z1720.2.2.1 == v1811) (br z1720.2.2.1 ((law09_awake F).bind fun z1816 =>
  law09_FeatureKinds_k15 F z1816) (br (z1720.1 == (0 : Int)) (br (z1720.2.1 == (0 : Int)) ((law09_awake F).bind fun z1820 =>
  law09_FeatureKinds_k15 F z1820) (law09_FeatureKinds_k15 F false)) (law09_FeatureKinds_k15 F false))) (law09_FeatureKinds_k15 F false)) (law09_FeatureKinds_k15 F false)
def law09_FeatureKinds_b8 (F : Nat) (z1539 : Tape × (List Feature)) (z1720 : Int × Int × Bool × Int) (ag_law09_FeatureKinds_b8 : (Bool × Int) → Option (Bool)) (v1764 : Bool) (v1765 : Int) : Option (Bool) :=
  br (decide (v1765 < ((List.length z1539.2 : Nat) : Int))) (gd (0 ≤ v1765 ∧ v1765 < ((List.length z1539.2 : Nat) : Int)) <|
  gd (0 ≤ v1765 ∧ v1765 ≤ ((List.length z1539.2 : Nat) : Int)) <|
  loopN (fun again (z : Bool × Int) => law09_FeatureKinds_b9 F z1539 z1720 v1765 ag_law09_FeatureKinds_b8 again z.1 z.2) F (v1764, (0 : Int))) (law09_FeatureKinds_k14 F z1720 v1764)
def law09_FeatureKinds_k7 (F : Nat) (z1539 : Tape × (List Feature)) : Option (Bool) :=
  (feature_Apart F z1539.2).bind fun z1720 =>
  loopN (fun again (z : Bool × Int) => law09_FeatureKinds_b8 F z1539 z1720 again z.1 z.2) F (false, (0 : Int))
def law09_FeatureKinds_b0 (F : Nat) (x1535 : Int) (x1536 : Int) (z1539 : Tape × (List Feature)) (z1545 : Region × Int) (ag_law09_FeatureKinds_b0 : (Int) → Option (Bool)) (v1633 : Int) : Option (Bool) :=
  br (decide (v1633 < (10 : Int))) (loopN (fun again (z : Int) => law09_FeatureKinds_b1 F x1535 x1536 z1539 z1545 v1633 ag_law09_FeatureKinds_b0 again z) F (0 : Int)) (law09_FeatureKinds_k7 F z1539)
def law09_FeatureKinds (F : Nat) (x1534 : (List Int)) (x1535 : Int) (x1536 : Int) : Option (Bool) :=
  (keep_New F x1534).bind fun z1537 =>
  (keep_Tape_Layer F z1537 (4 : Int)).bind fun z1539 =>
  gd (I64 x1535) <|
  gd ((16 : Int) ≠ 0) <|
  gd (I64 x1536) <|
  gd ((50 : Int) ≠ 0) <|
  (feature_Kind F z1539.2 (x1535.tmod (16 : Int)) (x1536.tmod (50 : Int))).bind fun z1545 =>
  br (z1545.2 != (0 : Int)) (some false) (loopN (fun again (z : Int) => law09_FeatureKinds_b0 F x1535 x1536 z1539 z1545 again z) F (0 : Int))
end
end Go.Ab
end

section
/- Steps through pure programs. -/
namespace Go.Ab

/-- enough rounds for all loops -/
def BIG : Nat := 1099511627776

theorem gd_ok {R : Type} {p : Prop} [Decidable p] {x : Option R} {y : Option R} (h : p) (k : x = y) : gd p x = y := by unfold gd; rw [if_pos h]; exact k
theorem bd_ok {α R : Type} {x : Option α} {f : α → Option R} {a : α} {y : Option R} (h : x = some a) (k : f a = y) : x.bind f = y := by rw [h]; exact k
theorem br_ok {R : Type} {b : Bool} {x y z : Option R} (ht : b = true → x = z) (hf : b = false → y = z) : br b x y = z := by cases b; exact hf rfl; exact ht rfl
theorem br_tt {R : Type} {b : Bool} {x y z : Option R} (h : b = true) (k : x = z) : br b x y = z := by subst h; exact k
theorem br_ff {R : Type} {b : Bool} {x y z : Option R} (h : b = false) (k : y = z) : br b x y = z := by subst h; exact k
theorem br_ite {R : Type} (b : Bool) (x y : Option R) : br b x y = if b = true then x else y := by cases b <;> rfl
theorem br_some {R : Type} (b : Bool) (x y : R) : br b (some x) (some y) = some (if b = true then x else y) := by cases b <;> rfl

/-- a loop, by a relation that each round keeps, and a measure -/
theorem loopN_ok {σ R : Type} {body : (σ → Option R) → σ → Option R} {y : Option R} (I : σ → Prop) (μ : σ → Nat)
    (round : ∀ again z, I z → (∀ z', I z' → μ z' < μ z → again z' = y) → body again z = y) : ∀ {n : Nat} {z : σ}, I z → μ z < n → loopN body n z = y := by
  intro n
  induction n with
  | zero => intro z _ h; omega
  | succ n ih =>
    intro z hz hμ
    exact round (loopN body n) z hz fun z' hz' hlt => ih hz' (by omega)

section
variable {α : Type} [Emb α]
theorem gl_lt {l : List α} {i : Nat} (h : i < l.length) : gl l i = l[i] := by simp [gl, List.getD_eq_getElem?_getD, h]
theorem gl_mem {l : List α} {i : Nat} (h : i < l.length) : gl l i ∈ l := by rw [gl_lt h]; exact List.getElem_mem h
theorem drop_gl {l : List α} {i : Nat} (h : i < l.length) : l.drop i = gl l i :: l.drop (i + 1) := by rw [gl_lt h]; exact List.drop_eq_getElem_cons h
theorem take_gl {l : List α} {i : Nat} (h : i < l.length) : l.take (i + 1) = l.take i ++ [gl l i] := by rw [gl_lt h]; exact List.take_succ_eq_append_getElem h
end

theorem i64_of {n : Int} (h1 : -4611686018427387904 ≤ n) (h2 : n ≤ 4611686018427387904) : I64 n := ⟨by omega, by omega⟩

/-- ranging over a list: y tells the outcome of what is left -/
theorem range_ok {α R : Type} [Emb α] {l : List α} {body : (Int → Option R) → Int → Option R} (y : List α → Option R)
    (step : ∀ again (i : Nat), i < l.length → again ((i : Int) + 1) = y (l.drop (i + 1)) → body again (i : Int) = y (gl l i :: l.drop (i + 1)))
    (stop : ∀ again, body again (l.length : Int) = y []) {F : Nat} (hF : l.length < F) : loopN body F 0 = y l := by
  have key : ∀ (n : Nat) (i : Nat), i ≤ l.length → l.length - i < n → loopN body n (i : Int) = y (l.drop i) := by
    intro n
    induction n with
    | zero => intro i _ h; omega
    | succ n ih =>
      intro i hi hn
      show body (loopN body n) (i : Int) = _
      by_cases h : i < l.length
      · rw [drop_gl h]
        refine step _ i h ?_
        have := ih (i + 1) h (by omega)
        rw [← this]; congr 1
      · have : i = l.length := by omega
        subst this
        rw [List.drop_length]; exact stop _
  have := key F 0 (Nat.zero_le _) (by omega)
  rw [List.drop_zero] at this
  exact this

/-- .. with a state, that keeps a relation to what is left -/
theorem range_st {α σ R : Type} [Emb α] {l : List α} {body : (Int × σ → Option R) → Int × σ → Option R} (I : List α → σ → Prop) (y : List α → σ → Option R)
    (step : ∀ again (i : Nat) (s : σ), i < l.length → I (gl l i :: l.drop (i + 1)) s → (∀ s', I (l.drop (i + 1)) s' → again ((i : Int) + 1, s') = y (l.drop (i + 1)) s') → body again ((i : Int), s) = y (gl l i :: l.drop (i + 1)) s)
    (stop : ∀ again (s : σ), I [] s → body again ((l.length : Int), s) = y [] s) {F : Nat} (hF : l.length < F) {s0 : σ} (h0 : I l s0) : loopN body F (0, s0) = y l s0 := by
  have key : ∀ (n : Nat) (i : Nat) (s : σ), i ≤ l.length → l.length - i < n → I (l.drop i) s → loopN body n ((i : Int), s) = y (l.drop i) s := by
    intro n
    induction n with
    | zero => intro i _ _ h; omega
    | succ n ih =>
      intro i s hi hn hI
      show body (loopN body n) ((i : Int), s) = _
      by_cases h : i < l.length
      · rw [drop_gl h] at hI ⊢
        refine step _ i s h hI fun s' hs' => ?_
        have := ih (i + 1) s' h (by omega) hs'
        rw [← this]; congr 1
      · have : i = l.length := by omega
        subst this
        rw [List.drop_length] at hI ⊢; exact stop _ s hI
  have := key F 0 s0 (Nat.zero_le _) (by omega) (by rwa [List.drop_zero])
  rw [List.drop_zero] at this
  exact this

theorem and_br {R : Type} (K : Bool → Option R) (b x : Bool) : br b (K x) (K false) = K (b && x) := by cases b <;> rfl
theorem or_br {R : Type} (K : Bool → Option R) (b x : Bool) : br b (K true) (K x) = K (b || x) := by cases b <;> rfl
theorem any_drop {α : Type} [Emb α] {l : List α} {i : Nat} (h : i < l.length) (p : α → Bool) : (l.drop i).any p = (p (gl l i) || (l.drop (i + 1)).any p) := by rw [drop_gl h]; rfl
theorem lt_dec {a b : Nat} (h : a < b) : decide ((a : Int) < ((b : Nat) : Int)) = true := by simpa using h
theorem not_lt_dec (a : Nat) : decide ((a : Int) < ((a : Nat) : Int)) = false := by simp
end Go.Ab
end

section
/- Ascending cuts; rows of squares as spans. -/
namespace Go.Ab

def Asc (l : List Int) : Prop := l.Pairwise (· < ·)

theorem Asc.at_lt {l : List Int} (h : Asc l) {i j : Nat} (hij : i < j) (hj : j < l.length) : gl l i < gl l j := by
  rw [gl_lt (by omega), gl_lt hj]
  exact List.pairwise_iff_getElem.1 h i j (by omega) hj hij

theorem mem_gl {l : List Int} {v : Int} (h : v ∈ l) : ∃ j, j < l.length ∧ gl l j = v := by
  obtain ⟨j, hj, e⟩ := List.getElem_of_mem h
  exact ⟨j, hj, by rw [gl_lt hj]; exact e⟩

theorem Asc.gap {c : List Int} (h : Asc c) {i : Nat} (hi : i + 1 < c.length) {t v : Int} (h1 : gl c i ≤ t) (h2 : t < gl c (i + 1)) (hv : v ∈ c) : (v ≤ t ↔ v ≤ gl c i) := by
  obtain ⟨j, hj, rfl⟩ := mem_gl hv
  rcases Nat.lt_or_ge i j with hij | hij
  · rcases Nat.lt_or_ge (i + 1) j with h3 | h3
    · have := h.at_lt h3 hj
      have := h.at_lt (show i < i + 1 by omega) hi
      omega
    · have : j = i + 1 := by omega
      subst this
      have := h.at_lt (show i < i + 1 by omega) hi
      omega
  · rcases Nat.lt_or_ge j i with h3 | h3
    · have := h.at_lt h3 (by omega)
      omega
    · have : j = i := by omega
      subst this; omega

def CovX (c : List Int) (l : List Rect) : Prop := ∀ r ∈ l, r.left_ ∈ c ∧ r.right_ ∈ c
def CovY (c : List Int) (l : List Rect) : Prop := ∀ r ∈ l, r.low_ ∈ c ∧ r.high_ ∈ c

theorem inR_congr {l : List Rect} {x y x' y' : Int} (h : ∀ r ∈ l, r.has x y = r.has x' y') : inR l x y = inR l x' y' := by
  induction l with
  | nil => rfl
  | cons r l ih =>
    simp only [inR, List.any_cons] at ih ⊢
    rw [h r (by simp), ih fun q hq => h q (by simp [hq])]

theorem inR_false {l : List Rect} {x y : Int} (h : ∀ r ∈ l, r.has x y = false) : inR l x y = false := by
  induction l with
  | nil => rfl
  | cons r l ih =>
    simp only [inR, List.any_cons] at ih ⊢
    rw [h r (by simp), ih fun q hq => h q (by simp [hq])]; rfl

theorem has_iff (r : Rect) (x y : Int) : r.has x y = true ↔ r.left_ ≤ x ∧ x < r.right_ ∧ r.low_ ≤ y ∧ y < r.high_ := by simp [Rect.has, and_assoc]
theorem has_eq {r : Rect} {x y x' y' : Int} (h : (r.left_ ≤ x ∧ x < r.right_ ∧ r.low_ ≤ y ∧ y < r.high_) ↔ (r.left_ ≤ x' ∧ x' < r.right_ ∧ r.low_ ≤ y' ∧ y' < r.high_)) : r.has x y = r.has x' y' := by
  rw [Bool.eq_iff_iff, has_iff, has_iff]; exact h
theorem has_ff {r : Rect} {x y : Int} (h : ¬ (r.left_ ≤ x ∧ x < r.right_ ∧ r.low_ ≤ y ∧ y < r.high_)) : r.has x y = false := by
  rw [← Bool.not_eq_true, has_iff]; exact h

theorem CovX.gap {c : List Int} {l : List Rect} (hc : Asc c) (h : CovX c l) {i : Nat} (hi : i + 1 < c.length) {t : Int} (h1 : gl c i ≤ t) (h2 : t < gl c (i + 1)) (y : Int) : inR l t y = inR l (gl c i) y :=
  inR_congr fun r hr => has_eq (by
    have a := hc.gap hi h1 h2 (h r hr).1
    have b := hc.gap hi h1 h2 (h r hr).2
    omega)
theorem CovY.gap {c : List Int} {l : List Rect} (hc : Asc c) (h : CovY c l) {i : Nat} (hi : i + 1 < c.length) {t : Int} (h1 : gl c i ≤ t) (h2 : t < gl c (i + 1)) (x : Int) : inR l x t = inR l x (gl c i) :=
  inR_congr fun r hr => has_eq (by
    have a := hc.gap hi h1 h2 (h r hr).1
    have b := hc.gap hi h1 h2 (h r hr).2
    omega)
theorem CovX.before {c : List Int} {l : List Rect} (h : CovX c l) {t : Int} (ht : ∀ v ∈ c, t < v) (y : Int) : inR l t y = false :=
  inR_false fun r hr => has_ff (by have := ht _ (h r hr).1; omega)
theorem CovX.after {c : List Int} {l : List Rect} (h : CovX c l) {t : Int} (ht : ∀ v ∈ c, v ≤ t) (y : Int) : inR l t y = false :=
  inR_false fun r hr => has_ff (by have := ht _ (h r hr).2; omega)
theorem CovY.before {c : List Int} {l : List Rect} (h : CovY c l) {t : Int} (ht : ∀ v ∈ c, t < v) (x : Int) : inR l x t = false :=
  inR_false fun r hr => has_ff (by have := ht _ (h r hr).1; omega)
theorem CovY.after {c : List Int} {l : List Rect} (h : CovY c l) {t : Int} (ht : ∀ v ∈ c, v ≤ t) (x : Int) : inR l x t = false :=
  inR_false fun r hr => has_ff (by have := ht _ (h r hr).2; omega)

theorem Asc.first {c : List Int} (h : Asc c) {t : Int} (ht : t < gl c 0) : ∀ v ∈ c, t < v := by
  intro v hv
  obtain ⟨j, hj, rfl⟩ := mem_gl hv
  rcases Nat.eq_zero_or_pos j with rfl | hp
  · exact ht
  · have := h.at_lt hp hj; omega
theorem Asc.last {c : List Int} (h : Asc c) {t : Int} {i : Nat} (hi : i + 1 = c.length) (ht : gl c i ≤ t) : ∀ v ∈ c, v ≤ t := by
  intro v hv
  obtain ⟨j, hj, rfl⟩ := mem_gl hv
  rcases Nat.lt_or_ge j i with h1 | h1
  · have := h.at_lt h1 (by omega); omega
  · have : j = i := by omega
    subst this; exact ht

/-- what changes only at cuts, and is d outside of them -/
structure Step {α : Type} (d : α) (c : List Int) (f : Int → α) : Prop where
  asc : Asc c
  gap : ∀ i, i + 1 < c.length → ∀ t, gl c i ≤ t → t < gl c (i + 1) → f t = f (gl c i)
  before : ∀ t, (∀ v ∈ c, t < v) → f t = d
  after : ∀ t, (∀ v ∈ c, v ≤ t) → f t = d

theorem Step.start {α : Type} {d : α} {c : List Int} {f : Int → α} (h : Step d c f) (_ : 0 < c.length) : Bst d f [] (gl c 0) := .start fun t ht => h.before t (h.asc.first ht)
theorem Step.empty {α : Type} {d : α} {c : List Int} {f : Int → α} (h : Step d c f) (hc : c.length = 0) (t : Int) : f t = d := h.before t fun v hv => by
  rw [List.eq_nil_of_length_eq_zero hc] at hv; cases hv
/-- all cuts are behind -/
theorem Step.done {α : Type} {d : α} {c : List Int} {f : Int → α} (h : Step d c f) {i : Nat} (hi : i + 1 = c.length) {acc : List (Rn α)} (hb : Bst d f acc (gl c i)) (t : Int) : atR d acc t = f t := by
  rcases Int.lt_or_le t (gl c i) with h1 | h1
  · exact hb.val t h1
  · rw [hb.out t h1, h.after t (h.asc.last hi h1)]

open Classical in
/-- the spans of a row -/
noncomputable def spn (f : Int → Bool) : List Span := if h : ∃ l, SpOk l ∧ ∀ x, inS l x = f x then h.choose else []
theorem spn_eq {f : Int → Bool} {l : List Span} (hl : SpOk l) (h : ∀ x, inS l x = f x) : spn f = l := by
  have he : ∃ l, SpOk l ∧ ∀ x, inS l x = f x := ⟨l, hl, h⟩
  unfold spn
  rw [dif_pos he]
  exact he.choose_spec.1.unique hl fun x => (he.choose_spec.2 x).trans (h x).symm
theorem SpOk.nil : SpOk [] := ⟨fun s hs => (List.not_mem_nil hs).elim, List.Pairwise.nil⟩
theorem spn_false {f : Int → Bool} (h : ∀ x, f x = false) : spn f = [] := spn_eq .nil fun x => (h x).symm

/-- rows that have spans -/
def RowsOk (S : Int → Int → Bool) : Prop := ∀ y, ∃ l, SpOk l ∧ ∀ x, inS l x = S x y
theorem RowsOk.sp {S : Int → Int → Bool} (h : RowsOk S) (y : Int) : SpOk (spn fun x => S x y) ∧ ∀ x, inS (spn fun x => S x y) x = S x y := by
  obtain ⟨l, h1, h2⟩ := h y
  rw [spn_eq h1 h2]; exact ⟨h1, h2⟩

theorem Step.cn {S : Int → Int → Bool} (hr : RowsOk S) {c : List Int} (h : Step [] c fun y => spn fun x => S x y) {acc : List (Rn (List Span))} (hacc : Runs acc) (hval : ∀ t, atR [] acc t = spn fun x => S x t) (hne : ∀ b ∈ acc, b.v ≠ []) : cn S = flat acc ∧ Fin S := by
  have hv : ∀ b ∈ acc, b.v = spn fun x => S x b.lo := by
    intro b hb
    have hat : ∀ (l : List (Rn (List Span))), Runs l → b ∈ l → atR [] l b.lo = b.v := by
      intro l
      induction l with
      | nil => intro _ hb; cases hb
      | cons a l ih =>
        intro hl hb
        rcases List.mem_cons.1 hb with rfl | hb
        · have := hl.pos b (by simp)
          rw [atR, if_pos ⟨by omega, this⟩]
        · have h1 := (hl.head b hb).1
          rw [atR, if_neg (by omega)]; exact ih hl.tail hb
    rw [← hval, hat acc hacc hb]
  have hB : Bands acc := ⟨hacc, fun b hb => by rw [hv b hb]; exact (hr.sp _).1, hne⟩
  have hS : ∀ x y, inS (atR [] acc y) x = S x y := fun x y => by rw [hval]; exact (hr.sp y).2 x
  exact ⟨cn_eq hB hS, acc, hB, hS⟩

/-- squares that change only at cuts -/
structure Grid (xs ys : List Int) (S : Int → Int → Bool) : Prop where
  x : ∀ y, Step false xs fun x => S x y
  y : ∀ x, Step false ys fun y => S x y

/-- the spans of a row along its cuts -/
theorem Step.spansL {xs : List Int} {f : Int → Bool} (h : Step false xs f) : ∃ l, SpOk l ∧ (∀ x, inS l x = f x) ∧ l.length ≤ xs.length := by
  by_cases h0 : xs.length = 0
  · exact ⟨[], .nil, fun x => (h.empty h0 x).symm, by simp⟩
  · have key : ∀ i, i + 1 ≤ xs.length → ∃ l : List Span, Bst false f (l.map Span.rn) (gl xs i) ∧ l.length ≤ i := by
      intro i
      induction i with
      | zero => intro hi; exact ⟨[], h.start (by omega), by simp⟩
      | succ i ih =>
        intro hi
        obtain ⟨l, hl, hll⟩ := ih (by omega)
        have hlt := h.asc.at_lt (show i < i + 1 by omega) (by omega)
        cases hf : f (gl xs i) with
        | false => exact ⟨l, hl.skip (by omega) fun t h1 h2 => (h.gap i (by omega) t h1 h2).trans hf, by omega⟩
        | true =>
          rcases List.eq_nil_or_concat l with rfl | ⟨l', s, hls⟩
          · refine ⟨[⟨gl xs i, gl xs (i + 1)⟩], ?_, by simp⟩
            have := hl.add hlt (h.gap i (by omega)) (fun a ha => by simp at ha)
            rw [hf] at this; exact this
          · rw [List.concat_eq_append] at hls
            subst hls
            by_cases hs : s.right_ = gl xs i
            · refine ⟨l' ++ [⟨s.left_, gl xs (i + 1)⟩], ?_, by simp at hll ⊢; omega⟩
              rw [List.map_append] at hl
              have := hl.grow (a := s.rn) hs hlt fun t h1 h2 => (h.gap i (by omega) t h1 h2).trans hf
              rw [List.map_append]; exact this
            · refine ⟨(l' ++ [s]) ++ [⟨gl xs i, gl xs (i + 1)⟩], ?_, by simp at hll ⊢; omega⟩
              have := hl.add hlt (h.gap i (by omega)) (fun a ha he => by
                rw [List.map_append] at ha
                simp at ha
                subst ha
                exact absurd he hs)
              rw [hf] at this
              rw [List.map_append]; exact this
    obtain ⟨l, hl, hll⟩ := key (xs.length - 1) (by omega)
    refine ⟨l, .of_runs hl.runs, fun x => ?_, by omega⟩
    rw [inS_atR]; exact h.done (by omega) hl x
theorem Step.spans {xs : List Int} {f : Int → Bool} (h : Step false xs f) : ∃ l, SpOk l ∧ ∀ x, inS l x = f x := by
  obtain ⟨l, h1, h2, _⟩ := h.spansL; exact ⟨l, h1, h2⟩
theorem Step.spn_len {xs : List Int} {f : Int → Bool} (h : Step false xs f) : (spn f).length ≤ xs.length := by
  obtain ⟨l, h1, h2, h3⟩ := h.spansL; rw [spn_eq h1 h2]; exact h3

theorem Grid.rows {xs ys : List Int} {S : Int → Int → Bool} (h : Grid xs ys S) : RowsOk S := fun y => (h.x y).spans
theorem Grid.step {xs ys : List Int} {S : Int → Int → Bool} (h : Grid xs ys S) : Step [] ys fun y => spn fun x => S x y := by
  refine ⟨(h.y 0).asc, fun i hi t h1 h2 => ?_, fun t ht => ?_, fun t ht => ?_⟩
  · congr 1; funext x; exact (h.y x).gap i hi t h1 h2
  · exact spn_false fun x => (h.y x).before t ht
  · exact spn_false fun x => (h.y x).after t ht

/-- two lists of rectangles, combined -/
theorem Grid.of {xs ys : List Int} {a b : List Rect} (hx : Asc xs) (hy : Asc ys) (ax : CovX xs a) (bx : CovX xs b) (ay : CovY ys a) (by' : CovY ys b) {k : Bool → Bool → Bool} (hk : k false false = false) :
    Grid xs ys fun x y => k (inR a x y) (inR b x y) := by
  refine ⟨fun y => ⟨hx, fun i hi t h1 h2 => ?_, fun t ht => ?_, fun t ht => ?_⟩, fun x => ⟨hy, fun i hi t h1 h2 => ?_, fun t ht => ?_, fun t ht => ?_⟩⟩
  · simp only [ax.gap hx hi h1 h2, bx.gap hx hi h1 h2]
  · simp only [ax.before ht, bx.before ht, hk]
  · simp only [ax.after ht, bx.after ht, hk]
  · simp only [ay.gap hy hi h1 h2, by'.gap hy hi h1 h2]
  · simp only [ay.before ht, by'.before ht, hk]
  · simp only [ay.after ht, by'.after ht, hk]
end Go.Ab
end

section
/- Laws: numbers from a tape, ascending lists. -/
namespace Go.Ab

def put : List Int → Int → List Int
  | [], n => [n]
  | a :: l, n => if a < n then a :: put l n else if a = n then a :: l else n :: a :: l

theorem put_at (n : Int) (l : List Int) (i : Nat) (h : i < l.length) (hlt : gl l i < n) : put (l.drop i) n = gl l i :: put (l.drop (i + 1)) n := by
  rw [drop_gl h, put, if_pos hlt]

theorem ref01_Put_ok {F : Nat} (hF : BIG ≤ F) {l : List Int} (hl : l.length ≤ 1048576) (n : Int) : ref01_Put F l n = some (put l n) := by
  unfold BIG at hF
  unfold ref01_Put
  refine loopN_ok (fun z : Int => ∃ i : Nat, z = i ∧ i ≤ l.length ∧ put l n = l.take i ++ put (l.drop i) n) (fun z => l.length - z.toNat) (fun again z hz ih => ?_) ⟨0, rfl, by simp, by simp⟩ (by simp; omega)
  obtain ⟨i, rfl, hi, hp⟩ := hz
  have k2 : (∀ h : i < l.length, n ≤ gl l i) → ref01_Put_k2 F l n (i : Int) = some (put l n) := by
    intro hge
    unfold ref01_Put_k2
    refine br_ok (fun h => ?_) (fun h => ?_)
    · have h : i < l.length := by simpa using h
      have hge := hge h
      refine gd_ok (by first | omega | exact i64_of (by omega) (by omega) | (simp only [LIM, BIG, List.length_append, List.length_cons, List.length_nil, List.length_map, List.length_take, List.length_drop, List.length_set] at *; omega)) ?_
      unfold ref01_Put_k3
      rw [drop_gl h, put] at hp
      refine br_ok (fun h2 => ?_) (fun h2 => ?_)
      · have h2 : gl l i = n := by simpa using h2
        rw [hp, if_neg (by omega), if_pos h2, ← drop_gl h, List.take_append_drop]
      · have h2 : gl l i ≠ n := by simpa using h2
        repeat (refine gd_ok (by first | omega | exact i64_of (by omega) (by omega) | (simp only [LIM, BIG, List.length_append, List.length_cons, List.length_nil, List.length_map, List.length_take, List.length_drop, List.length_set] at *; omega)) ?_)
        rw [hp, if_neg (by omega), if_neg h2, ← drop_gl h]
        simp
    · have h : ¬ i < l.length := by simpa using h
      unfold ref01_Put_k3
      refine br_ff rfl ?_
      repeat (refine gd_ok (by first | omega | exact i64_of (by omega) (by omega) | (simp only [LIM, BIG, List.length_append, List.length_cons, List.length_nil, List.length_map, List.length_take, List.length_drop, List.length_set] at *; omega)) ?_)
      have : i = l.length := by omega
      subst this
      simp [put] at hp
      simp [hp]
  unfold ref01_Put_b0
  refine br_ok (fun h => ?_) (fun h => ?_)
  · have h : i < l.length := by simpa using h
    refine gd_ok (by first | omega | exact i64_of (by omega) (by omega) | (simp only [LIM, BIG, List.length_append, List.length_cons, List.length_nil, List.length_map, List.length_take, List.length_drop, List.length_set] at *; omega)) ?_
    unfold ref01_Put_k1
    refine br_ok (fun h2 => ?_) (fun h2 => ?_)
    · have h2 : gl l i < n := by simpa using h2
      refine gd_ok (by first | omega | exact i64_of (by omega) (by omega) | (simp only [LIM, BIG, List.length_append, List.length_cons, List.length_nil, List.length_map, List.length_take, List.length_drop, List.length_set] at *; omega)) ?_
      refine ih _ ⟨i + 1, by omega, h, ?_⟩ (by omega)
      rw [hp, put_at n l i h h2, take_gl h, List.append_assoc]; rfl
    · exact k2 fun _ => by simpa using h2
  · unfold ref01_Put_k1
    exact br_ff rfl (k2 fun h' => absurd h' (by simpa using h))
end Go.Ab
end

section
/- Laws: small functions of the references on regions. -/
namespace Go.Ab

def propB (r : Rect) : Bool := decide (0 ≤ r.left_) && (decide (r.left_ < r.right_) && (decide (r.right_ ≤ 16384) && (decide (0 ≤ r.low_) && (decide (r.low_ < r.high_) && decide (r.high_ ≤ 16384)))))
theorem propB_iff (r : Rect) : propB r = true ↔ 0 ≤ r.left_ ∧ r.left_ < r.right_ ∧ r.right_ ≤ 16384 ∧ 0 ≤ r.low_ ∧ r.low_ < r.high_ ∧ r.high_ ≤ 16384 := by simp [propB]

theorem ref04_proper_ok (F : Nat) (r : Rect) : ref04_proper F r = some (propB r) := by
  unfold ref04_proper
  rw [and_br (ref04_proper_k0 F), and_br (ref04_proper_k0 F), and_br (ref04_proper_k0 F), and_br (ref04_proper_k0 F), and_br (ref04_proper_k0 F)]
  rfl

/-- how two sets are combined -/
def keepB (a b : Bool) (how : Int) : Bool := if how = 1 then a || b else if how = 2 then a && b else a && !b
theorem ref04_keep_ok (F : Nat) (a b : Bool) (how : Int) : ref04_keep F a b how = some (keepB a b how) := by
  unfold ref04_keep keepB
  rw [br_ite, br_ite]
  by_cases h1 : how = 1
  · subst h1; cases a <;> cases b <;> rfl
  · by_cases h2 : how = 2
    · subst h2; cases a <;> cases b <;> rfl
    · have e1 : (how == 1) = false := by simpa using h1
      have e2 : (how == 2) = false := by simpa using h2
      rw [e1, e2, if_neg h1, if_neg h2]
      cases a <;> cases b <;> rfl

theorem ref04_inside_ok {F : Nat} (hF : BIG ≤ F) {l : List Rect} (hl : l.length ≤ LIM) (x y : Int) : ref04_inside F l x y = some (inR l x y) := by
  unfold BIG at hF; unfold LIM at hl
  unfold ref04_inside
  refine range_ok (l := l) (fun m => some (inR m x y)) (fun again i hi ha => ?_) (fun again => ?_) (by omega)
  · unfold ref04_inside_b0
    refine br_tt (lt_dec hi) ?_
    refine gd_ok (by first | omega | exact i64_of (by omega) (by omega) | (simp only [LIM, BIG, List.length_append, List.length_cons, List.length_nil, List.length_map, List.length_take, List.length_drop, List.length_set] at *; omega)) ?_
    rw [and_br (ref04_inside_k1 F i again), and_br (ref04_inside_k1 F i again), and_br (ref04_inside_k1 F i again)]
    unfold ref04_inside_k1
    have e : inR (gl l i :: l.drop (i + 1)) x y = ((gl l i).has x y || inR (l.drop (i + 1)) x y) := rfl
    rw [e]
    have e2 : (decide ((gl l i).left_ ≤ x) && (decide (x < (gl l i).right_) && (decide ((gl l i).low_ ≤ y) && decide (y < (gl l i).high_)))) = (gl l i).has x y := by
      simp only [Rect.has, Bool.and_assoc]
    show br (decide ((gl l i).left_ ≤ x) && (decide (x < (gl l i).right_) && (decide ((gl l i).low_ ≤ y) && decide (y < (gl l i).high_)))) _ _ = _
    rw [e2]
    refine br_ok (fun h => by rw [h]; rfl) (fun h => ?_)
    refine gd_ok (by first | omega | exact i64_of (by omega) (by omega) | (simp only [LIM, BIG, List.length_append, List.length_cons, List.length_nil, List.length_map, List.length_take, List.length_drop, List.length_set] at *; omega)) ?_
    rw [ha, h, Bool.false_or]
  · unfold ref04_inside_b0
    exact br_ff (not_lt_dec _) rfl

/-- the same spans -/
def sameX : List Rect → List Rect → Bool
  | [], [] => true
  | a :: l, b :: m => (a.left_ == b.left_ && a.right_ == b.right_) && sameX l m
  | _, _ => false
theorem sameX_len : ∀ {l m : List Rect}, sameX l m = true → l.length = m.length
  | [], [], _ => rfl
  | [], _ :: _, h => by cases h
  | _ :: _, [], h => by cases h
  | a :: l, b :: m, h => by
    simp only [sameX, Bool.and_eq_true] at h
    simp [sameX_len h.2]

theorem sameX_spec : ∀ (l m : List Rect), l.length = m.length → ∀ i, i ≤ l.length → sameX (l.drop i) (m.drop i) = if h : i < l.length then (((gl l i).left_ == (gl m i).left_ && (gl l i).right_ == (gl m i).right_) && sameX (l.drop (i + 1)) (m.drop (i + 1))) else true := by
  intro l m h i hi
  split
  · rename_i h2
    rw [drop_gl h2, drop_gl (l := m) (by omega)]; rfl
  · have : i = l.length := by omega
    rw [List.drop_of_length_le (by omega), List.drop_of_length_le (by omega)]; rfl

theorem ref04_same_ok {F : Nat} (hF : BIG ≤ F) {l m : List Rect} (hl : l.length ≤ LIM) : ref04_same F l m = some (sameX l m) := by
  unfold BIG at hF; unfold LIM at hl
  unfold ref04_same
  refine br_ok (fun h => ?_) (fun h => ?_)
  · have h : l.length ≠ m.length := by simp at h; omega
    cases hs : sameX l m with
    | false => rfl
    | true => exact absurd (sameX_len hs) h
  · have h : l.length = m.length := by simp at h; omega
    refine loopN_ok (fun z : Int => ∃ i : Nat, z = i ∧ i ≤ l.length ∧ sameX l m = sameX (l.drop i) (m.drop i)) (fun z => l.length - z.toNat) (fun again z hz ih => ?_) ⟨0, rfl, by simp, by simp⟩ (by simp; omega)
    obtain ⟨i, rfl, hi, he⟩ := hz
    rw [sameX_spec l m h i hi] at he
    unfold ref04_same_b0
    refine br_ok (fun h2 => ?_) (fun h2 => ?_)
    · have h2 : i < l.length := by simpa using h2
      rw [dif_pos h2] at he
      refine gd_ok (by first | omega | exact i64_of (by omega) (by omega) | (simp only [LIM, BIG, List.length_append, List.length_cons, List.length_nil, List.length_map, List.length_take, List.length_drop, List.length_set] at *; omega)) ?_
      refine gd_ok (by first | omega | exact i64_of (by omega) (by omega) | (simp only [LIM, BIG, List.length_append, List.length_cons, List.length_nil, List.length_map, List.length_take, List.length_drop, List.length_set] at *; omega)) ?_
      have h3 : i < m.length := by omega
      refine br_ok (fun hb => ?_) (fun hb => ?_)
      · unfold ref04_same_k1
        refine br_tt rfl ?_
        have hb : (gl l i).left_ ≠ (gl m i).left_ := by simpa using hb
        have e : ((gl l i).left_ == (gl m i).left_) = false := by simpa using hb
        rw [he, e]; rfl
      · repeat (refine gd_ok (by first | omega | exact i64_of (by omega) (by omega) | (simp only [LIM, BIG, List.length_append, List.length_cons, List.length_nil, List.length_map, List.length_take, List.length_drop, List.length_set] at *; omega)) ?_)
        have hb : (gl l i).left_ = (gl m i).left_ := by simpa using hb
        have e : ((gl l i).left_ == (gl m i).left_) = true := by simpa using hb
        rw [e, Bool.true_and] at he
        unfold ref04_same_k1
        refine br_ok (fun hc => ?_) (fun hc => ?_)
        · have hc : (gl l i).right_ ≠ (gl m i).right_ := by simpa using hc
          have e : ((gl l i).right_ == (gl m i).right_) = false := by simpa using hc
          rw [he, e]; rfl
        · have hc : (gl l i).right_ = (gl m i).right_ := by simpa using hc
          have e : ((gl l i).right_ == (gl m i).right_) = true := by simpa using hc
          rw [e, Bool.true_and] at he
          refine gd_ok (by first | omega | exact i64_of (by omega) (by omega) | (simp only [LIM, BIG, List.length_append, List.length_cons, List.length_nil, List.length_map, List.length_take, List.length_drop, List.length_set] at *; omega)) ?_
          exact ih _ ⟨i + 1, by omega, h2, he⟩ (by omega)
    · have h2 : ¬ i < l.length := by simpa using h2
      rw [dif_neg h2] at he
      rw [he]; rfl
end Go.Ab
end

section
/- Law: the reference's combination of rectangles. -/
namespace Go.Ab
set_option maxRecDepth 20000

theorem mem_put (l : List Int) (n v : Int) : v ∈ put l n ↔ v = n ∨ v ∈ l := by
  induction l with
  | nil => simp [put]
  | cons a l ih =>
    unfold put
    split
    · rw [List.mem_cons, ih, List.mem_cons]
      constructor
      · rintro (h | h | h); exact .inr (.inl h); exact .inl h; exact .inr (.inr h)
      · rintro (h | h | h); exact .inr (.inl h); exact .inl h; exact .inr (.inr h)
    · split
      · rename_i h; subst h
        rw [List.mem_cons]
        constructor
        · intro h; exact .inr h
        · rintro (h | h); exact .inl h; exact h
      · rw [List.mem_cons]
theorem asc_put {l : List Int} (h : Asc l) (n : Int) : Asc (put l n) := by
  induction l with
  | nil => exact List.pairwise_singleton _ _
  | cons a l ih =>
    obtain ⟨h1, h2⟩ := List.pairwise_cons.1 h
    unfold put
    split
    · rename_i hlt
      refine List.pairwise_cons.2 ⟨fun v hv => ?_, ih h2⟩
      rcases (mem_put l n v).1 hv with rfl | hv
      · exact hlt
      · exact h1 v hv
    · split
      · exact h
      · refine List.pairwise_cons.2 ⟨fun v hv => ?_, h⟩
        rcases List.mem_cons.1 hv with rfl | hv
        · omega
        · have := h1 v hv; omega
theorem len_put (l : List Int) (n : Int) : (put l n).length ≤ l.length + 1 := by
  induction l with
  | nil => simp [put]
  | cons a l ih =>
    unfold put
    split
    · simp; omega
    · split <;> simp

def cutX (l : List Rect) (xs : List Int) : List Int := l.foldl (fun xs r => put (put xs r.left_) r.right_) xs
def cutY (l : List Rect) (ys : List Int) : List Int := l.foldl (fun ys r => put (put ys r.low_) r.high_) ys
theorem cut_asc {f g : Rect → Int} (l : List Rect) : ∀ {xs : List Int}, Asc xs → Asc (l.foldl (fun xs r => put (put xs (f r)) (g r)) xs) := by
  induction l with
  | nil => intro xs h; exact h
  | cons r l ih => intro xs h; exact ih (asc_put (asc_put h _) _)
theorem cut_mem {f g : Rect → Int} (l : List Rect) : ∀ (xs : List Int) (v : Int), v ∈ l.foldl (fun xs r => put (put xs (f r)) (g r)) xs ↔ v ∈ xs ∨ ∃ r ∈ l, v = f r ∨ v = g r := by
  induction l with
  | nil => intro xs v; simp
  | cons r l ih =>
    intro xs v
    rw [List.foldl_cons, ih, mem_put, mem_put]
    constructor
    · rintro ((h | h | h) | ⟨q, hq, h⟩)
      · exact .inr ⟨r, by simp, .inr h⟩
      · exact .inr ⟨r, by simp, .inl h⟩
      · exact .inl h
      · exact .inr ⟨q, by simp [hq], h⟩
    · rintro (h | ⟨q, hq, h⟩)
      · exact .inl (.inr (.inr h))
      · rcases List.mem_cons.1 hq with rfl | hq
        · rcases h with h | h
          · exact .inl (.inr (.inl h))
          · exact .inl (.inl h)
        · exact .inr ⟨q, hq, h⟩
theorem cut_len {f g : Rect → Int} (l : List Rect) : ∀ (xs : List Int), (l.foldl (fun xs r => put (put xs (f r)) (g r)) xs).length ≤ xs.length + 2 * l.length := by
  induction l with
  | nil => intro xs; simp
  | cons r l ih =>
    intro xs
    have h1 := ih (put (put xs (f r)) (g r))
    have h2 := len_put (put xs (f r)) (g r)
    have h3 := len_put xs (f r)
    simp only [List.foldl_cons, List.length_cons]
    omega

section
variable {F : Nat}
theorem comb_b1 (hF : BIG ≤ F) {a b l : List Rect} {v : Int} (hv : 0 ≤ v ∧ v ≤ 1) (hl : gl [a, b] v.toNat = l) {ag : (List Int × List Int × Int) → Option (List Rect)} {y : Option (List Rect)} {xs ys : List Int} (hx : xs.length + 2 * l.length ≤ 1000000) (hy : ys.length + 2 * l.length ≤ 1000000)
    (h : ag (cutX l xs, cutY l ys, v + 1) = y) : loopN (fun again (z : List Int × List Int × Int) => ref04_Combine_b1 F a b v ag again z.1 z.2.1 z.2.2) F (xs, ys, 0) = y := by
  have hF' := hF
  unfold BIG at hF
  refine loopN_ok (fun z : List Int × List Int × Int => ∃ j : Nat, z.2.2 = j ∧ j ≤ l.length ∧ cutX (l.drop j) z.1 = cutX l xs ∧ cutY (l.drop j) z.2.1 = cutY l ys ∧ z.1.length + 2 * (l.length - j) ≤ 1000000 ∧ z.2.1.length + 2 * (l.length - j) ≤ 1000000)
    (fun z => l.length - z.2.2.toNat) (fun again z hz ih => ?_) ⟨0, rfl, by omega, by simp, by simp, by simpa using hx, by simpa using hy⟩ (by simp; omega)
  obtain ⟨x1, y1, j1⟩ := z
  obtain ⟨j, hj, hjl, e1, e2, b1, b2⟩ := hz
  simp only at hj e1 e2 b1 b2
  subst hj
  unfold ref04_Combine_b1
  simp only [hl, Int.toNat_natCast]
  refine br_ok (fun hlt => ?_) (fun hlt => ?_)
  · have hlt : j < l.length := by simpa using hlt
    refine gd_ok (by first | omega | exact i64_of (by omega) (by omega) | (simp only [LIM, BIG, List.length_append, List.length_cons, List.length_nil, List.length_map, List.length_take, List.length_drop, List.length_set] at *; omega)) ?_
    have l1 := len_put x1 (gl l j).left_
    have l2 := len_put (put x1 (gl l j).left_) (gl l j).right_
    have l3 := len_put y1 (gl l j).low_
    have l4 := len_put (put y1 (gl l j).low_) (gl l j).high_
    refine bd_ok (ref01_Put_ok hF' (by omega) _) ?_
    refine bd_ok (ref01_Put_ok hF' (by omega) _) ?_
    refine bd_ok (ref01_Put_ok hF' (by omega) _) ?_
    refine bd_ok (ref01_Put_ok hF' (by omega) _) ?_
    refine gd_ok (by first | omega | exact i64_of (by omega) (by omega) | (simp only [LIM, BIG, List.length_append, List.length_cons, List.length_nil, List.length_map, List.length_take, List.length_drop, List.length_set] at *; omega)) ?_
    refine ih _ ⟨j + 1, rfl, by omega, ?_, ?_, by simp only; omega, by simp only; omega⟩ (by simp only; omega)
    · rw [← e1, drop_gl hlt]; rfl
    · rw [← e2, drop_gl hlt]; rfl
  · have hlt : ¬ j < l.length := by simpa using hlt
    have : j = l.length := by omega
    subst this
    rw [List.drop_length] at e1 e2
    unfold ref04_Combine_k2
    refine gd_ok (by first | omega | exact i64_of (by omega) (by omega) | (simp only [LIM, BIG, List.length_append, List.length_cons, List.length_nil, List.length_map, List.length_take, List.length_drop, List.length_set] at *; omega)) ?_
    have e1 : x1 = cutX l xs := e1
    have e2 : y1 = cutY l ys := e2
    rw [e1, e2]; exact h

theorem flat1_nil (lo hi : Int) : flat1 ⟨lo, hi, []⟩ = [] := rfl
theorem flat1_app (lo hi : Int) (l : List Span) (s : Span) : flat1 ⟨lo, hi, l ++ [s]⟩ = flat1 ⟨lo, hi, l⟩ ++ [⟨s.left_, lo, s.right_, hi⟩] := by simp [flat1]
theorem flat1_len (b : Rn (List Span)) : (flat1 b).length = b.v.length := by simp [flat1]
theorem gl_last {α : Type} [Emb α] (l : List α) (x : α) {n : Nat} (h : n = l.length) : gl (l ++ [x]) n = x := by subst h; simp [gl, List.getD_eq_getElem?_getD]
theorem set_last {α : Type} (l : List α) (x y : α) {n : Nat} (h : n = l.length) : (l ++ [x]).set n y = l ++ [y] := by subst h; simp

theorem comb_k6t (hF : BIG ≤ F) {xs ys : List Int} {i k : Nat} {m : List Rect} {r : Rect} {ag : (Int × List Rect) → Option (List Rect)} {y : Option (List Rect)} (hk : k + 1 < xs.length) (hx : xs.length ≤ 65536) (hm : m.length ≤ 65536)
    (h : ag ((k : Int) + 1, m ++ [⟨r.left_, r.low_, gl xs (k + 1), r.high_⟩]) = y) : ref04_Combine_k6 F xs ys i k (m ++ [r]) ag true = y := by
  unfold BIG at hF
  unfold ref04_Combine_k6
  refine br_tt rfl ?_
  have hl : (m ++ [r]).length = m.length + 1 := by simp
  simp only [hl]
  have e1 : (((m.length + 1 : Nat) : Int) - 1).toNat = m.length := by omega
  have e2 : ((k : Int) + 1).toNat = k + 1 := by omega
  rw [e1, gl_last _ _ rfl, set_last _ _ _ rfl, e2]
  repeat (refine gd_ok (by first | omega | exact i64_of (by omega) (by omega) | (simp only [LIM, BIG, List.length_append, List.length_cons, List.length_nil, List.length_map, List.length_take, List.length_drop, List.length_set] at *; omega)) ?_)
  exact h

theorem comb_k6f (hF : BIG ≤ F) {xs ys : List Int} {i k : Nat} {m : List Rect} {ag : (Int × List Rect) → Option (List Rect)} {y : Option (List Rect)} (hk : k + 1 < xs.length) (hi : i + 1 < ys.length) (hx : xs.length ≤ 65536) (hy : ys.length ≤ 65536) (hm : m.length ≤ 65536)
    (h : ag ((k : Int) + 1, m ++ [⟨gl xs k, gl ys i, gl xs (k + 1), gl ys (i + 1)⟩]) = y) : ref04_Combine_k6 F xs ys i k m ag false = y := by
  unfold BIG at hF
  unfold ref04_Combine_k6
  refine br_ff rfl ?_
  have e2 : ((k : Int) + 1).toNat = k + 1 := by omega
  have e3 : ((i : Int) + 1).toNat = i + 1 := by omega
  rw [e2, e3]
  simp only [Int.toNat_natCast]
  repeat (refine gd_ok (by first | omega | exact i64_of (by omega) (by omega) | (simp only [LIM, BIG, List.length_append, List.length_cons, List.length_nil, List.length_map, List.length_take, List.length_drop, List.length_set] at *; omega)) ?_)
  exact h

theorem comb_b5 (hF : BIG ≤ F) {a b : List Rect} {how : Int} {xs ys : List Int} {i : Nat} (hi : i + 1 < ys.length) (hx : xs.length ≤ 65536) (hy : ys.length ≤ 65536) (ha : a.length ≤ LIM) (hb : b.length ≤ LIM)
    (hst : Step false xs fun x => keepB (inR a x (gl ys i)) (inR b x (gl ys i)) how) {out last : List Rect} {ag : (Int × List Rect × List Rect) → Option (List Rect)} {y : Option (List Rect)}
    (h : ∀ l : List Span, SpOk l → (∀ x, inS l x = keepB (inR a x (gl ys i)) (inR b x (gl ys i)) how) → l.length ≤ 65536 → ref04_Combine_k8 F ys i out last ag (flat1 ⟨gl ys i, gl ys (i + 1), l⟩) = y) :
    loopN (fun again (z : Int × List Rect) => ref04_Combine_b5 F a b how xs ys i out last ag again z.1 z.2) F (0, []) = y := by
  have hF' := hF
  unfold BIG at hF
  refine loopN_ok (fun z : Int × List Rect => ∃ (k : Nat) (l : List Span), z = ((k : Int), flat1 ⟨gl ys i, gl ys (i + 1), l⟩) ∧ l.length ≤ k ∧ (k + 1 ≤ xs.length ∨ k = 0) ∧ (0 < xs.length → Bst false (fun x => keepB (inR a x (gl ys i)) (inR b x (gl ys i)) how) (l.map Span.rn) (gl xs k)))
    (fun z => xs.length - z.1.toNat) (fun again z hz ih => ?_) ⟨0, [], rfl, Nat.le_refl _, .inr rfl, fun h0 => hst.start h0⟩ (by simp; omega)
  obtain ⟨k, l, rfl, hl, hk, hB⟩ := hz
  simp only at ih ⊢
  unfold ref04_Combine_b5
  refine gd_ok (by first | omega | exact i64_of (by omega) (by omega) | (simp only [LIM, BIG, List.length_append, List.length_cons, List.length_nil, List.length_map, List.length_take, List.length_drop, List.length_set] at *; omega)) ?_
  refine br_ok (fun hlt => ?_) (fun hlt => ?_)
  · have hlt : k + 1 < xs.length := by simp at hlt; omega
    have hB := hB (by omega)
    have hxk := hst.asc.at_lt (show k < k + 1 by omega) hlt
    simp only [Int.toNat_natCast]
    repeat (refine gd_ok (by first | omega | exact i64_of (by omega) (by omega) | (simp only [LIM, BIG, List.length_append, List.length_cons, List.length_nil, List.length_map, List.length_take, List.length_drop, List.length_set] at *; omega)) ?_)
    refine bd_ok (ref04_inside_ok hF' ha _ _) ?_
    repeat (refine gd_ok (by first | omega | exact i64_of (by omega) (by omega) | (simp only [LIM, BIG, List.length_append, List.length_cons, List.length_nil, List.length_map, List.length_take, List.length_drop, List.length_set] at *; omega)) ?_)
    refine bd_ok (ref04_inside_ok hF' hb _ _) ?_
    refine bd_ok (ref04_keep_ok _ _ _ _) ?_
    have hgap := hst.gap k hlt
    refine br_ok (fun hf => ?_) (fun hf => ?_)
    · have hf : keepB (inR a (gl xs k) (gl ys i)) (inR b (gl xs k) (gl ys i)) how = false := by simpa using hf
      unfold ref04_Combine_k7
      refine gd_ok (by first | omega | exact i64_of (by omega) (by omega) | (simp only [LIM, BIG, List.length_append, List.length_cons, List.length_nil, List.length_map, List.length_take, List.length_drop, List.length_set] at *; omega)) ?_
      exact ih _ ⟨k + 1, l, rfl, by omega, .inl (by omega), fun _ => hB.skip (by omega) fun t h1 h2 => (hgap t h1 h2).trans hf⟩ (by simp only; omega)
    · have hf : keepB (inR a (gl xs k) (gl ys i)) (inR b (gl xs k) (gl ys i)) how = true := by simpa using hf
      have hadd : (∀ s, l.getLast? = some s → s.right_ ≠ gl xs k) → ref04_Combine_k6 F xs ys i k (flat1 ⟨gl ys i, gl ys (i + 1), l⟩) again false = y := by
        intro hla
        refine comb_k6f hF' hlt hi hx hy (by rw [flat1_len]; simp only; omega) (ih _ ⟨k + 1, l ++ [⟨gl xs k, gl xs (k + 1)⟩], by rw [flat1_app]; rfl, by simp; omega, .inl (by omega), fun _ => ?_⟩ (by simp only; omega))
        have := hB.add hxk hgap (fun q hq he => by
          rw [List.getLast?_map] at hq
          cases hs : l.getLast? with
          | none => rw [hs] at hq; cases hq
          | some s => rw [hs] at hq; cases hq; exact absurd he (hla s hs))
        simp only [hf] at this
        rw [List.map_append]; exact this
      rcases List.eq_nil_or_concat l with rfl | ⟨l', s, hls⟩
      · refine br_ff (by simp [flat1_nil]) ?_
        exact hadd fun s hs => by simp at hs
      · rw [List.concat_eq_append] at hls
        subst hls
        rw [flat1_app] at hadd ⊢
        have hlen : (flat1 ⟨gl ys i, gl ys (i + 1), l'⟩ ++ [(⟨s.left_, gl ys i, s.right_, gl ys (i + 1)⟩ : Rect)]).length = l'.length + 1 := by simp [flat1_len]
        have hll : l'.length + 1 ≤ k := by simpa using hl
        simp only [hlen]
        have e1 : (((l'.length + 1 : Nat) : Int) - 1).toNat = l'.length := by omega
        rw [e1, gl_last _ _ (by rw [flat1_len])]
        refine br_tt (by simp) ?_
        repeat (refine gd_ok (by first | omega | exact i64_of (by omega) (by omega) | (simp only [LIM, BIG, List.length_append, List.length_cons, List.length_nil, List.length_map, List.length_take, List.length_drop, List.length_set] at *; omega)) ?_)
        by_cases hs : s.right_ = gl xs k
        · have e2 : (s.right_ == gl xs k) = true := by simpa using hs
          simp only [e2]
          refine comb_k6t hF' hlt hx (by rw [flat1_len]; simp only; omega) (ih _ ⟨k + 1, l' ++ [⟨s.left_, gl xs (k + 1)⟩], by rw [flat1_app]; rfl, by simp only [List.length_append, List.length_cons, List.length_nil]; omega, .inl (by omega), fun _ => ?_⟩ (by simp only; omega))
          rw [List.map_append] at hB
          have := hB.grow (a := s.rn) hs hxk fun t h1 h2 => (hgap t h1 h2).trans hf
          rw [List.map_append]; exact this
        · have e2 : (s.right_ == gl xs k) = false := by simpa using hs
          simp only [e2]
          exact hadd fun q hq => by simp at hq; subst hq; exact hs
  · have hlt : ¬ k + 1 < xs.length := by simp at hlt; omega
    by_cases h0 : xs.length = 0
    · have : k = 0 := by omega
      subst this
      have : l = [] := List.eq_nil_of_length_eq_zero (by omega)
      subst this
      exact h [] .nil (fun x => (hst.empty h0 x).symm) (by simp)
    · have hB := hB (by omega)
      exact h l (.of_runs hB.runs) (fun x => by rw [inS_atR]; exact hst.done (by omega) hB x) (by omega)

theorem gl_mid {α : Type} [Emb α] (l m : List α) (x : α) {n : Nat} (h : n = l.length) : gl (l ++ x :: m) n = x := by subst h; simp [gl, List.getD_eq_getElem?_getD]
theorem set_mid {α : Type} (l m : List α) (x y : α) {n : Nat} (h : n = l.length) : (l ++ x :: m).set n y = l ++ y :: m := by subst h; simp

theorem comb_b10 (hF : BIG ≤ F) {ys : List Int} {i : Nat} (hi : i + 1 < ys.length) (hy : ys.length ≤ 65536) {out : List Rect} {lo hi' : Int} {l : List Span} (hl : l.length ≤ 65536) {ag : (Int × List Rect × List Rect) → Option (List Rect)} {y : Option (List Rect)}
    (h : ag ((i : Int) + 1, out, flat1 ⟨lo, gl ys (i + 1), l⟩) = y) :
    loopN (fun again (z : Int × List Rect) => ref04_Combine_b10 F ys i out (flat1 ⟨lo, hi', l⟩) ag again z.1 z.2) F (0, flat1 ⟨lo, hi', l⟩) = y := by
  unfold BIG at hF
  refine loopN_ok (fun z : Int × List Rect => ∃ j : Nat, z = ((j : Int), flat1 ⟨lo, gl ys (i + 1), l.take j⟩ ++ flat1 ⟨lo, hi', l.drop j⟩) ∧ j ≤ l.length) (fun z => l.length - z.1.toNat) (fun again z hz ih => ?_) ⟨0, by simp [flat1], by omega⟩ (by simp; omega)
  obtain ⟨j, rfl, hj⟩ := hz
  simp only at ih ⊢
  have e2 : ((i : Int) + 1).toNat = i + 1 := by omega
  unfold ref04_Combine_b10
  rw [flat1_len]
  simp only
  refine br_ok (fun hlt => ?_) (fun hlt => ?_)
  · have hlt : j < l.length := by simpa using hlt
    refine gd_ok (by first | omega | exact i64_of (by omega) (by omega) | (simp only [LIM, BIG, List.length_append, List.length_cons, List.length_nil, List.length_map, List.length_take, List.length_drop, List.length_set] at *; omega)) ?_
    refine gd_ok (by first | omega | exact i64_of (by omega) (by omega) | (simp only [LIM, BIG, List.length_append, List.length_cons, List.length_nil, List.length_map, List.length_take, List.length_drop, List.length_set] at *; omega)) ?_
    have hd : l.drop j = l[j] :: l.drop (j + 1) := List.drop_eq_getElem_cons hlt
    have hlen : (flat1 ⟨lo, gl ys (i + 1), l.take j⟩ ++ flat1 ⟨lo, hi', l.drop j⟩).length = l.length := by
      rw [List.length_append, flat1_len, flat1_len]; simp; omega
    refine gd_ok (by rw [hlen]; omega) ?_
    refine gd_ok (by first | omega | exact i64_of (by omega) (by omega) | (simp only [LIM, BIG, List.length_append, List.length_cons, List.length_nil, List.length_map, List.length_take, List.length_drop, List.length_set] at *; omega)) ?_
    rw [e2]
    simp only [Int.toNat_natCast]
    have e3 : flat1 ⟨lo, hi', l.drop j⟩ = (⟨(l[j]).left_, lo, (l[j]).right_, hi'⟩ : Rect) :: flat1 ⟨lo, hi', l.drop (j + 1)⟩ := by rw [hd]; rfl
    have e4 : j = (flat1 ⟨lo, gl ys (i + 1), l.take j⟩).length := by rw [flat1_len]; simp; omega
    rw [e3, gl_mid _ _ _ e4, set_mid _ _ _ _ e4]
    refine ih _ ⟨j + 1, ?_, hlt⟩ (by simp only; omega)
    rw [List.take_succ_eq_append_getElem hlt, flat1_app]
    simp
  · have hlt : ¬ j < l.length := by simpa using hlt
    have : j = l.length := by omega
    subst this
    unfold ref04_Combine_k11 ref04_Combine_k13
    refine gd_ok (by first | omega | exact i64_of (by omega) (by omega) | (simp only [LIM, BIG, List.length_append, List.length_cons, List.length_nil, List.length_map, List.length_take, List.length_drop, List.length_set] at *; omega)) ?_
    rw [List.take_length, List.drop_length, flat1_nil, List.append_nil]
    exact h

/-- between two rows -/
structure RowSt (rowf : Int → List Span) (c : Int) (n : Nat) (out last : List Rect) : Prop where
  ex : ∃ acc, Bst [] rowf acc c ∧ (∀ r ∈ acc, r.v ≠ []) ∧ ((last = [] ∧ out = flat acc ∧ ∀ r ∈ acc, r.hi < c) ∨ ∃ acc' b, acc = acc' ++ [b] ∧ b.hi = c ∧ last = flat1 b ∧ out = flat acc' ∧ b.v.length ≤ 65536)
  len : out.length + last.length ≤ n * 65536

theorem flat_app (a b : List (Rn (List Span))) : flat (a ++ b) = flat a ++ flat b := by simp [flat]
theorem flat_one (b : Rn (List Span)) : flat [b] = flat1 b := by simp [flat]

theorem sameX_flat1 (lo hi lo' hi' : Int) : ∀ (l m : List Span), sameX (flat1 ⟨lo, hi, l⟩) (flat1 ⟨lo', hi', m⟩) = decide (l = m)
  | [], [] => rfl
  | [], b :: m => rfl
  | a :: l, [] => rfl
  | a :: l, b :: m => by
    have ih := sameX_flat1 lo hi lo' hi' l m
    have e1 : flat1 ⟨lo, hi, a :: l⟩ = (⟨a.left_, lo, a.right_, hi⟩ : Rect) :: flat1 ⟨lo, hi, l⟩ := rfl
    have e2 : flat1 ⟨lo', hi', b :: m⟩ = (⟨b.left_, lo', b.right_, hi'⟩ : Rect) :: flat1 ⟨lo', hi', m⟩ := rfl
    rw [e1, e2, sameX, ih]
    cases a; cases b
    rw [Bool.eq_iff_iff]
    constructor
    · intro h
      rw [Bool.and_eq_true, Bool.and_eq_true] at h
      obtain ⟨⟨h1, h2⟩, h3⟩ := h
      have h1 := eq_of_beq h1
      have h2 := eq_of_beq h2
      have h3 := of_decide_eq_true h3
      simp only at h1 h2
      rw [h1, h2, h3]; exact decide_eq_true rfl
    · intro h
      have h := of_decide_eq_true h
      injection h with h1 h2
      injection h1 with h3 h4
      subst h2; subst h3; subst h4
      rw [Bool.and_eq_true, Bool.and_eq_true]
      exact ⟨⟨beq_self_eq_true _, beq_self_eq_true _⟩, decide_eq_true rfl⟩

theorem comb_k8 (hF : BIG ≤ F) {ys : List Int} {i : Nat} (hi : i + 1 < ys.length) (hy : ys.length ≤ 65536) {rowf : Int → List Span} (hst : Step [] ys rowf) {out last : List Rect} (hR : RowSt rowf (gl ys i) i out last)
    {ag : (Int × List Rect × List Rect) → Option (List Rect)} {y : Option (List Rect)} (hlen : (rowf (gl ys i)).length ≤ 65536)
    (h : ∀ out' last', RowSt rowf (gl ys (i + 1)) (i + 1) out' last' → ag ((i : Int) + 1, out', last') = y) :
    ref04_Combine_k8 F ys i out last ag (flat1 ⟨gl ys i, gl ys (i + 1), rowf (gl ys i)⟩) = y := by
  have hF' := hF
  unfold BIG at hF
  obtain ⟨⟨acc, hB, hne, hcase⟩, hol⟩ := hR
  have hyk := hst.asc.at_lt (show i < i + 1 by omega) hi
  have hgap := hst.gap i hi
  have hi64 : i * 65536 ≤ 65536 * 65536 := Nat.mul_le_mul_right _ (by omega)
  generalize hv : rowf (gl ys i) = v at *
  -- the list goes out, the band comes in
  have push : (∀ a, acc.getLast? = some a → a.hi = gl ys i → a.v ≠ v) → flat acc = out ++ last → ref04_Combine_k12 F i out last (flat1 ⟨gl ys i, gl ys (i + 1), v⟩) ag = y := by
    intro hla hfl
    unfold ref04_Combine_k12 ref04_Combine_k13
    refine gd_ok (by first | omega | exact i64_of (by omega) (by omega) | (simp only [LIM, BIG, List.length_append, List.length_cons, List.length_nil, List.length_map, List.length_take, List.length_drop, List.length_set] at *; omega)) ?_
    refine gd_ok (by first | omega | exact i64_of (by omega) (by omega) | (simp only [LIM, BIG, List.length_append, List.length_cons, List.length_nil, List.length_map, List.length_take, List.length_drop, List.length_set] at *; omega)) ?_
    refine h _ _ ⟨?_, ?_⟩
    · by_cases hv0 : v = []
      · subst hv0
        exact ⟨acc, hB.skip (by omega) fun t h1 h2 => hgap t h1 h2, hne, .inl ⟨flat1_nil _ _, hfl.symm, fun r hr => by have := hB.le r hr; omega⟩⟩
      · refine ⟨acc ++ [⟨gl ys i, gl ys (i + 1), v⟩], ?_, fun r hr => ?_, .inr ⟨acc, _, rfl, rfl, rfl, hfl.symm, hlen⟩⟩
        · have := hB.add hyk (fun t h1 h2 => (hgap t h1 h2).trans hv.symm) (fun a ha he => by rw [hv]; exact hla a ha he)
          rw [hv] at this; exact this
        · rcases List.mem_append.1 hr with hr | hr
          · exact hne r hr
          · rw [List.mem_singleton.1 hr]; exact hv0
    · rw [List.length_append, flat1_len, Nat.add_mul]; simp only; omega
  unfold ref04_Combine_k8
  rcases hcase with ⟨rfl, rfl, hhi⟩ | ⟨acc', b, rfl, hbh, rfl, rfl, hbl⟩
  · refine br_ff rfl ?_
    unfold ref04_Combine_k9
    refine br_ff rfl ?_
    exact push (fun a ha he => by have := hhi a (List.mem_of_getLast? ha); omega) (by simp)
  · have hb0 : b.v ≠ [] := hne b (by simp)
    have hb1 : 0 < b.v.length := by
      cases hh : b.v with
      | nil => exact absurd hh hb0
      | cons _ _ => simp
    have e1 : flat1 b = flat1 ⟨b.lo, b.hi, b.v⟩ := rfl
    refine br_tt (by rw [flat1_len]; simpa using hb1) ?_
    refine bd_ok (ref04_same_ok hF' (by rw [flat1_len]; unfold LIM; omega)) ?_
    rw [e1, sameX_flat1]
    refine br_ok (fun hs => ?_) (fun hs => ?_)
    · have hs : b.v = v := of_decide_eq_true hs
      refine gd_ok (by rw [flat1_len]; simp only; omega) ?_
      refine gd_ok (by first | omega | exact i64_of (by omega) (by omega) | (simp only [LIM, BIG, List.length_append, List.length_cons, List.length_nil, List.length_map, List.length_take, List.length_drop, List.length_set] at *; omega)) ?_
      have e2 : ((gl (flat1 ⟨b.lo, b.hi, b.v⟩) (0 : Int).toNat).high_ == gl ys (i : Int).toNat) = true := by
        have : gl (flat1 ⟨b.lo, b.hi, b.v⟩) (0 : Int).toNat = (⟨(b.v[0]).left_, b.lo, (b.v[0]).right_, b.hi⟩ : Rect) := by
          have : 0 < (flat1 ⟨b.lo, b.hi, b.v⟩).length := by rw [flat1_len]; exact hb1
          show gl (flat1 ⟨b.lo, b.hi, b.v⟩) 0 = _
          rw [gl_lt this]; simp [flat1]
        rw [this]; simpa using hbh
      rw [e2]
      unfold ref04_Combine_k9
      refine br_tt rfl ?_
      refine comb_b10 hF' hi hy hbl ?_
      have hg := hB.grow hbh hyk fun t h1 h2 => (hgap t h1 h2).trans hs.symm
      refine h _ _ ⟨⟨acc' ++ [⟨b.lo, gl ys (i + 1), b.v⟩], hg, fun r hr => ?_, .inr ⟨acc', _, rfl, rfl, rfl, rfl, hbl⟩⟩, ?_⟩
      · rcases List.mem_append.1 hr with hr | hr
        · exact hne r (by simp [hr])
        · rw [List.mem_singleton.1 hr]; exact hb0
      · rw [flat1_len] at hol ⊢; rw [Nat.add_mul]; exact Nat.le_trans hol (Nat.le_add_right _ _)
    · have hs : b.v ≠ v := of_decide_eq_false hs
      unfold ref04_Combine_k9
      refine br_ff rfl ?_
      exact push (fun a ha he => by rw [List.getLast?_append] at ha; simp at ha; subst ha; exact hs) (by rw [flat_app, flat_one])

theorem comb_k3 (hF : BIG ≤ F) {a b : List Rect} {how : Int} {xs ys : List Int} (hx : xs.length ≤ 65536) (hy : ys.length ≤ 65536) (ha : a.length ≤ LIM) (hb : b.length ≤ LIM)
    (hG : Grid xs ys fun x y => keepB (inR a x y) (inR b x y) how) : ref04_Combine_k3 F a b how xs ys = some (cn fun x y => keepB (inR a x y) (inR b x y) how) := by
  have hF' := hF
  unfold BIG at hF
  unfold ref04_Combine_k3
  have hst := hG.step
  have hrows := hG.rows
  refine loopN_ok (fun z : Int × List Rect × List Rect => ∃ (i : Nat), z.1 = (i : Int) ∧ ((ys.length = 0 ∧ i = 0 ∧ z.2.1 = [] ∧ z.2.2 = []) ∨ (i + 1 ≤ ys.length ∧ RowSt (fun y => spn fun x => keepB (inR a x y) (inR b x y) how) (gl ys i) i z.2.1 z.2.2)))
    (fun z => ys.length - z.1.toNat) (fun again z hz ih => ?_) ⟨0, rfl, ?_⟩ (by simp; omega)
  · obtain ⟨z1, out, last⟩ := z
    obtain ⟨i, hi, hcase⟩ := hz
    simp only at hi hcase ih ⊢
    subst hi
    unfold ref04_Combine_b4
    refine gd_ok (by first | omega | exact i64_of (by omega) (by omega) | (simp only [LIM, BIG, List.length_append, List.length_cons, List.length_nil, List.length_map, List.length_take, List.length_drop, List.length_set] at *; omega)) ?_
    rcases hcase with ⟨h0, rfl, rfl, rfl⟩ | ⟨hi, hR⟩
    · refine br_ff (by simp [h0]) ?_
      unfold ref04_Combine_k14
      refine gd_ok (by first | omega | exact i64_of (by omega) (by omega) | (simp only [LIM, BIG, List.length_append, List.length_cons, List.length_nil, List.length_map, List.length_take, List.length_drop, List.length_set] at *; omega)) ?_
      have := Step.cn hrows hst .nil (fun t => (hst.empty h0 t).symm) (fun b hb => by cases hb)
      rw [this.1]; rfl
    · refine br_ok (fun hlt => ?_) (fun hlt => ?_)
      · have hlt : i + 1 < ys.length := by simp at hlt; omega
        refine comb_b5 hF' hlt hx hy ha hb (hG.x _) fun l hl hf hll => ?_
        have e1 : spn (fun x => keepB (inR a x (gl ys i)) (inR b x (gl ys i)) how) = l := spn_eq hl hf
        have := comb_k8 hF' hlt hy hst hR (ag := again) (y := some (cn fun x y => keepB (inR a x y) (inR b x y) how)) (by rw [e1]; exact hll) fun out' last' hR' => ih _ ⟨i + 1, rfl, .inr ⟨by omega, hR'⟩⟩ (by simp only; omega)
        rw [e1] at this
        exact this
      · have hlt : ¬ i + 1 < ys.length := by simp at hlt; omega
        unfold ref04_Combine_k14
        obtain ⟨⟨acc, hB, hne, hc⟩, hlen⟩ := hR
        have hi64 : i * 65536 ≤ 65536 * 65536 := Nat.mul_le_mul_right _ (by omega)
        refine gd_ok (by first | omega | exact i64_of (by omega) (by omega) | (simp only [LIM, BIG, List.length_append, List.length_cons, List.length_nil, List.length_map, List.length_take, List.length_drop, List.length_set] at *; omega)) ?_
        have := Step.cn hrows hst hB.runs (fun t => hst.done (by omega) hB t) hne
        rw [this.1]
        rcases hc with ⟨rfl, rfl, _⟩ | ⟨acc', b', rfl, _, rfl, rfl, _⟩
        · simp
        · rw [flat_app, flat_one]
  · by_cases h0 : ys.length = 0
    · exact .inl ⟨h0, rfl, rfl, rfl⟩
    · exact .inr ⟨by omega, ⟨⟨[], hst.start (by omega), fun r hr => (by cases hr), .inl ⟨rfl, rfl, fun r hr => (by cases hr)⟩⟩, by simp⟩⟩

theorem cut_grid (a b : List Rect) (how : Int) : Grid (cutX b (cutX a [])) (cutY b (cutY a [])) fun x y => keepB (inR a x y) (inR b x y) how :=
  Grid.of (cut_asc b (cut_asc a .nil)) (cut_asc b (cut_asc a .nil))
    (fun r hr => ⟨(cut_mem b _ _).2 (.inl ((cut_mem a _ _).2 (.inr ⟨r, hr, .inl rfl⟩))), (cut_mem b _ _).2 (.inl ((cut_mem a _ _).2 (.inr ⟨r, hr, .inr rfl⟩)))⟩)
    (fun r hr => ⟨(cut_mem b _ _).2 (.inr ⟨r, hr, .inl rfl⟩), (cut_mem b _ _).2 (.inr ⟨r, hr, .inr rfl⟩)⟩)
    (fun r hr => ⟨(cut_mem b _ _).2 (.inl ((cut_mem a _ _).2 (.inr ⟨r, hr, .inl rfl⟩))), (cut_mem b _ _).2 (.inl ((cut_mem a _ _).2 (.inr ⟨r, hr, .inr rfl⟩)))⟩)
    (fun r hr => ⟨(cut_mem b _ _).2 (.inr ⟨r, hr, .inl rfl⟩), (cut_mem b _ _).2 (.inr ⟨r, hr, .inr rfl⟩)⟩)
    (k := fun p q => keepB p q how) (by show keepB false false how = false; unfold keepB; split; rfl; split <;> rfl)

theorem ref04_Combine_ok (hF : BIG ≤ F) {a b : List Rect} {how : Int} (ha : a.length ≤ 200000) (hb : b.length ≤ 200000) (hx : (cutX b (cutX a [])).length ≤ 65536) (hy : (cutY b (cutY a [])).length ≤ 65536) :
    ref04_Combine F a b how = some (cn fun x y => keepB (inR a x y) (inR b x y) how) := by
  have hF' := hF
  unfold BIG at hF
  have hG := cut_grid a b how
  have k3 := comb_k3 hF' hx hy (by unfold LIM; omega) (by unfold LIM; omega) hG
  have la := cut_len (f := Rect.left_) (g := Rect.right_) a []
  have lb := cut_len (f := Rect.low_) (g := Rect.high_) a []
  have s2 : ∀ again : (List Int × List Int × Int) → Option (List Rect), ref04_Combine_b0 F a b how again (cutX b (cutX a [])) (cutY b (cutY a [])) 2 = some (cn fun x y => keepB (inR a x y) (inR b x y) how) := fun again => by
    unfold ref04_Combine_b0
    exact br_ff rfl k3
  have lX : (cutX a []).length ≤ 2 * a.length := by have := la; simpa [cutX] using this
  have lY : (cutY a []).length ≤ 2 * a.length := by have := lb; simpa [cutY] using this
  unfold ref04_Combine
  refine loopN_ok (fun z : List Int × List Int × Int => z = ([], [], 0) ∨ z = (cutX a [], cutY a [], 1) ∨ z = (cutX b (cutX a []), cutY b (cutY a []), 2)) (fun z => 2 - z.2.2.toNat) (fun again z hz ih => ?_) (.inl rfl) (by simp; omega)
  rcases hz with rfl | rfl | rfl
  · simp only
    unfold ref04_Combine_b0
    refine br_tt rfl ?_
    refine gd_ok (by first | omega | exact i64_of (by omega) (by omega) | (simp only [LIM, BIG, List.length_append, List.length_cons, List.length_nil, List.length_map, List.length_take, List.length_drop, List.length_set] at *; omega)) ?_
    refine comb_b1 hF' (l := a) (by omega) rfl (by simp; omega) (by simp; omega) ?_
    exact ih _ (.inr (.inl rfl)) (by simp)
  · simp only
    unfold ref04_Combine_b0
    refine br_tt rfl ?_
    refine gd_ok (by first | omega | exact i64_of (by omega) (by omega) | (simp only [LIM, BIG, List.length_append, List.length_cons, List.length_nil, List.length_map, List.length_take, List.length_drop, List.length_set] at *; omega)) ?_
    refine comb_b1 hF' (l := b) (by omega) rfl (xs := cutX a []) (ys := cutY a []) (by omega) (by omega) ?_
    exact ih _ (.inr (.inr rfl)) (by simp)
  · exact s2 again
end
end Go.Ab
end

section
/- Laws: the references' regions. -/
namespace Go.Ab
set_option maxRecDepth 20000

theorem grid_fin {xs ys : List Int} {S : Int → Int → Bool} (h : Grid xs ys S) : Fin S := by
  have hst := h.step
  by_cases h0 : ys.length = 0
  · exact (Step.cn h.rows hst .nil (fun t => (hst.empty h0 t).symm) (fun b hb => by cases hb)).2
  · have key : ∀ i, i + 1 ≤ ys.length → ∃ acc, Bst [] (fun y => spn fun x => S x y) acc (gl ys i) ∧ ∀ r ∈ acc, r.v ≠ [] := by
      intro i
      induction i with
      | zero => intro _; exact ⟨[], hst.start (by omega), fun r hr => by cases hr⟩
      | succ i ih =>
        intro hi
        obtain ⟨acc, hB, hne⟩ := ih (by omega)
        have hlt := hst.asc.at_lt (show i < i + 1 by omega) (by omega)
        have hgap := hst.gap i (by omega)
        by_cases hv : spn (fun x => S x (gl ys i)) = []
        · exact ⟨acc, hB.skip (by omega) fun t h1 h2 => (hgap t h1 h2).trans hv, hne⟩
        · rcases List.eq_nil_or_concat acc with rfl | ⟨acc', b, hacc⟩
          · refine ⟨_, hB.add hlt hgap (fun a ha => by simp at ha), fun r hr => ?_⟩
            simp at hr; rw [hr]; exact hv
          · rw [List.concat_eq_append] at hacc
            subst hacc
            by_cases hm : b.hi = gl ys i ∧ b.v = spn fun x => S x (gl ys i)
            · refine ⟨_, hB.grow hm.1 hlt fun t h1 h2 => (hgap t h1 h2).trans hm.2.symm, fun r hr => ?_⟩
              rcases List.mem_append.1 hr with hr | hr
              · exact hne r (by simp [hr])
              · rw [List.mem_singleton.1 hr]; exact hne b (by simp)
            · refine ⟨_, hB.add hlt hgap (fun a ha he hav => ?_), fun r hr => ?_⟩
              · simp at ha; subst ha; exact hm ⟨he, hav⟩
              · rcases List.mem_append.1 hr with hr | hr
                · exact hne r hr
                · rw [List.mem_singleton.1 hr]; exact hv
    obtain ⟨acc, hB, hne⟩ := key (ys.length - 1) (by omega)
    exact (Step.cn h.rows hst hB.runs (fun t => hst.done (by omega) hB t) hne).2

theorem fin_comb (a b : List Rect) (how : Int) : Fin fun x y => keepB (inR a x y) (inR b x y) how := grid_fin (cut_grid a b how)
theorem or_nil (l : List Rect) : (fun x y => keepB (inR l x y) (inR [] x y) 1) = inR l := by
  funext x y; simp [keepB, inR]
theorem fin_inR (l : List Rect) : Fin (inR l) := by have := fin_comb l [] 1; rwa [or_nil] at this
theorem canon_iff (l : List Rect) : Canon l ↔ cn (inR l) = l := ⟨fun h => h.eq_cn.symm, fun h => by rw [← h]; exact Canon.cn (fin_inR l)⟩

theorem cutX_small {l : List Rect} : (cutX l []).length ≤ 2 * l.length := by have := cut_len (f := Rect.left_) (g := Rect.right_) l []; simpa [cutX] using this
theorem cutY_small {l : List Rect} : (cutY l []).length ≤ 2 * l.length := by have := cut_len (f := Rect.low_) (g := Rect.high_) l []; simpa [cutY] using this
theorem cutX_small2 {a b : List Rect} : (cutX b (cutX a [])).length ≤ 2 * a.length + 2 * b.length := by
  have h1 := cut_len (f := Rect.left_) (g := Rect.right_) b (cutX a [])
  have h2 := cutX_small (l := a)
  have h1 : (cutX b (cutX a [])).length ≤ (cutX a []).length + 2 * b.length := h1
  omega
theorem cutY_small2 {a b : List Rect} : (cutY b (cutY a [])).length ≤ 2 * a.length + 2 * b.length := by
  have h1 := cut_len (f := Rect.low_) (g := Rect.high_) b (cutY a [])
  have h2 := cutY_small (l := a)
  have h1 : (cutY b (cutY a [])).length ≤ (cutY a []).length + 2 * b.length := h1
  omega

theorem ref04_Combine_small {F : Nat} (hF : BIG ≤ F) {a b : List Rect} {how : Int} (h : a.length + b.length ≤ 32768) : ref04_Combine F a b how = some (cn fun x y => keepB (inR a x y) (inR b x y) how) :=
  ref04_Combine_ok hF (by omega) (by omega) (by have := cutX_small2 (a := a) (b := b); omega) (by have := cutY_small2 (a := a) (b := b); omega)
theorem ref04_Combine_one {F : Nat} (hF : BIG ≤ F) {l : List Rect} (h : l.length ≤ 32768) : ref04_Combine F l [] 1 = some (cn (inR l)) := by
  rw [ref04_Combine_small hF (by simpa using h), or_nil]

theorem list_eq_spec {α : Type} [Emb α] [DecidableEq α] (l m : List α) (h : l.length = m.length) (i : Nat) (hi : i < l.length) : decide (l.drop i = m.drop i) = (decide (gl l i = gl m i) && decide (l.drop (i + 1) = m.drop (i + 1))) := by
  rw [drop_gl hi, drop_gl (l := m) (by omega)]
  rw [Bool.eq_iff_iff, Bool.and_eq_true, decide_eq_true_iff, decide_eq_true_iff, decide_eq_true_iff, List.cons.injEq]

theorem rect_eq (r s : Rect) : ((r.left_ == s.left_) && ((r.low_ == s.low_) && ((r.right_ == s.right_) && ((r.high_ == s.high_) && true)))) = decide (r = s) := by
  cases r; cases s
  rw [Bool.eq_iff_iff, decide_eq_true_iff]
  simp

theorem ref04_Rects_ok {F : Nat} (hF : BIG ≤ F) {l m : List Rect} (hm : m.length ≤ LIM) : ref04_Rects F l m = some (decide (l = m)) := by
  unfold BIG at hF; unfold LIM at hm
  unfold ref04_Rects
  refine br_ok (fun h => ?_) (fun h => ?_)
  · have h : l.length ≠ m.length := by simp at h; omega
    rw [decide_eq_false fun e => h (by rw [e])]
  · have h : l.length = m.length := by simp at h; omega
    refine loopN_ok (fun z : Int => ∃ i : Nat, z = i ∧ i ≤ l.length ∧ decide (l = m) = decide (l.drop i = m.drop i)) (fun z => l.length - z.toNat) (fun again z hz ih => ?_) ⟨0, rfl, by omega, by simp⟩ (by simp; omega)
    obtain ⟨i, rfl, hi, he⟩ := hz
    unfold ref04_Rects_b0
    refine br_ok (fun h2 => ?_) (fun h2 => ?_)
    · have h2 : i < l.length := by simpa using h2
      rw [list_eq_spec l m h i h2] at he
      refine gd_ok (by first | omega | exact i64_of (by omega) (by omega) | (simp only [LIM, BIG, List.length_append, List.length_cons, List.length_nil, List.length_map, List.length_take, List.length_drop, List.length_set] at *; omega)) ?_
      refine gd_ok (by first | omega | exact i64_of (by omega) (by omega) | (simp only [LIM, BIG, List.length_append, List.length_cons, List.length_nil, List.length_map, List.length_take, List.length_drop, List.length_set] at *; omega)) ?_
      rw [rect_eq]
      refine br_ok (fun hb => ?_) (fun hb => ?_)
      · have hb : decide (gl l i = gl m i) = false := by simpa using hb
        rw [he, hb]; rfl
      · have hb : decide (gl l i = gl m i) = true := by simpa using hb
        rw [hb, Bool.true_and] at he
        refine gd_ok (by first | omega | exact i64_of (by omega) (by omega) | (simp only [LIM, BIG, List.length_append, List.length_cons, List.length_nil, List.length_map, List.length_take, List.length_drop, List.length_set] at *; omega)) ?_
        exact ih _ ⟨i + 1, by omega, h2, he⟩ (by omega)
    · have h2 : ¬ i < l.length := by simpa using h2
      have : i = l.length := by omega
      rw [he, List.drop_of_length_le (by omega), List.drop_of_length_le (by omega), decide_eq_true rfl]; rfl

/-- valid -/
def Val (l : List Rect) : Prop := l.length ≤ 120 ∧ (∀ r ∈ l, propB r = true) ∧ Canon l
open Classical in
noncomputable def valB (l : List Rect) : Bool := decide (Val l)
theorem valB_iff (l : List Rect) : valB l = true ↔ Val l := by unfold valB; exact @decide_eq_true_iff (Val l) (Classical.propDecidable _)
theorem valB_false {l : List Rect} (h : ¬ Val l) : valB l = false := by rw [← Bool.not_eq_true, valB_iff]; exact h
theorem valB_true {l : List Rect} (h : Val l) : valB l = true := (valB_iff l).2 h

theorem all_drop {α : Type} [Emb α] {l : List α} {p : α → Prop} {i : Nat} (h : i < l.length) : (∀ x ∈ l.drop i, p x) ↔ p (gl l i) ∧ ∀ x ∈ l.drop (i + 1), p x := by rw [drop_gl h]; simp

theorem ref04_Valid_ok {F : Nat} (hF : BIG ≤ F) (a : Region) : ref04_Valid F a = some (valB a.rects_) := by
  have hF' := hF
  unfold BIG at hF
  obtain ⟨l⟩ := a
  simp only
  unfold ref04_Valid
  refine br_ok (fun h => ?_) (fun h => ?_)
  · have h : 120 < l.length := by simp at h; omega
    rw [valB_false fun hv => by have := hv.1; omega]
  · have h : l.length ≤ 120 := by simp at h; omega
    refine loopN_ok (fun z : Int => ∃ i : Nat, z = i ∧ i ≤ l.length ∧ ((∀ r ∈ l, propB r = true) ↔ ∀ r ∈ l.drop i, propB r = true)) (fun z => l.length - z.toNat) (fun again z hz ih => ?_) ⟨0, rfl, by omega, by simp⟩ (by simp; omega)
    obtain ⟨i, rfl, hi, he⟩ := hz
    unfold ref04_Valid_b0
    simp only
    refine br_ok (fun h2 => ?_) (fun h2 => ?_)
    · have h2 : i < l.length := by simpa using h2
      rw [all_drop (p := fun r => propB r = true) h2] at he
      refine gd_ok (by first | omega | exact i64_of (by omega) (by omega) | (simp only [LIM, BIG, List.length_append, List.length_cons, List.length_nil, List.length_map, List.length_take, List.length_drop, List.length_set] at *; omega)) ?_
      refine bd_ok (ref04_proper_ok _ _) ?_
      refine br_ok (fun hb => ?_) (fun hb => ?_)
      · have hb : propB (gl l i) = false := by simpa using hb
        rw [valB_false fun hv => by have := (he.1 hv.2.1).1; rw [hb] at this; cases this]
      · have hb : propB (gl l i) = true := by simpa using hb
        refine gd_ok (by first | omega | exact i64_of (by omega) (by omega) | (simp only [LIM, BIG, List.length_append, List.length_cons, List.length_nil, List.length_map, List.length_take, List.length_drop, List.length_set] at *; omega)) ?_
        exact ih _ ⟨i + 1, by omega, h2, he.trans ⟨fun h => h.2, fun h => ⟨hb, h⟩⟩⟩ (by omega)
    · have h2 : ¬ i < l.length := by simpa using h2
      rw [List.drop_of_length_le (by omega)] at he
      unfold ref04_Valid_k1
      refine bd_ok (ref04_Combine_one hF' (by simp only; omega)) ?_
      refine bd_ok (ref04_Rects_ok hF' (by unfold LIM; simp only; omega)) ?_
      simp only
      by_cases hc : cn (inR l) = l
      · rw [decide_eq_true hc, valB_true ⟨h, he.2 (by simp), (canon_iff l).2 hc⟩]
      · rw [decide_eq_false hc, valB_false fun hv => hc ((canon_iff l).1 hv.2.2)]

theorem ref04_Bound_ok {F : Nat} (l : List Rect) : ref04_Bound F l = some (if 120 < l.length then (⟨[]⟩, 1) else (⟨l⟩, 0)) := by
  unfold ref04_Bound
  refine br_ok (fun h => ?_) (fun h => ?_)
  · have h : 120 < l.length := by simp at h; omega
    rw [if_pos h]
  · have h : ¬ 120 < l.length := by simp at h; omega
    rw [if_neg h]

theorem ref04_Of_ok {F : Nat} (hF : BIG ≤ F) {l : List Rect} (hl : l.length ≤ 120) (hp : ∀ r ∈ l, propB r = true) : ref04_Of F l = some (if 120 < (cn (inR l)).length then (⟨[]⟩, 1) else (⟨cn (inR l)⟩, 0)) := by
  have hF' := hF
  unfold BIG at hF
  unfold ref04_Of
  refine br_ff (by simp; omega) ?_
  refine loopN_ok (fun z : Int => ∃ i : Nat, z = i ∧ i ≤ l.length) (fun z => l.length - z.toNat) (fun again z hz ih => ?_) ⟨0, rfl, by omega⟩ (by simp; omega)
  obtain ⟨i, rfl, hi⟩ := hz
  unfold ref04_Of_b0
  refine br_ok (fun h2 => ?_) (fun h2 => ?_)
  · have h2 : i < l.length := by simpa using h2
    refine gd_ok (by first | omega | exact i64_of (by omega) (by omega) | (simp only [LIM, BIG, List.length_append, List.length_cons, List.length_nil, List.length_map, List.length_take, List.length_drop, List.length_set] at *; omega)) ?_
    refine bd_ok (ref04_proper_ok _ _) ?_
    refine br_ff (by rw [Int.toNat_natCast, hp _ (gl_mem h2)]; rfl) ?_
    refine gd_ok (by first | omega | exact i64_of (by omega) (by omega) | (simp only [LIM, BIG, List.length_append, List.length_cons, List.length_nil, List.length_map, List.length_take, List.length_drop, List.length_set] at *; omega)) ?_
    exact ih _ ⟨i + 1, by omega, h2⟩ (by omega)
  · unfold ref04_Of_k1
    refine bd_ok (ref04_Combine_one hF' (by omega)) ?_
    refine bd_ok (ref04_Bound_ok _) ?_
    rfl
end Go.Ab
end
