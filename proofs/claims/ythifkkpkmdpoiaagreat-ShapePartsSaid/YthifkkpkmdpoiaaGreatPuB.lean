/- The code that the statement reaches as plain programs, and what they compute: no condition on the program. -/
import Derived.Test.YthifkkpkmdpoiaaGreatAbC
import Derived.Test.YthifkkpkmdpoiaaGreatPuA
set_option linter.unusedVariables false
set_option linter.unusedSimpArgs false
section
namespace Go.Ab
set_option linter.unusedVariables false
set_option maxRecDepth 100000
noncomputable section
instance : Emb Rect := ⟨fun x => [.int .i64 x.left_, .int .i64 x.low_, .int .i64 x.right_, .int .i64 x.high_], 4, ⟨0, 0, 0, 0⟩, fun _ => rfl⟩
structure Region where
  rects_ : (List Rect)
  deriving DecidableEq
instance : Emb Region := ⟨fun x => [DL (α := Rect) x.rects_], 1, ⟨[]⟩, fun _ => rfl⟩
structure Feature where
  number_ : Int
  kind_ : Int
  from_ : Int
  until_ : Int
  region_ : Region
  deriving DecidableEq
instance : Emb Feature := ⟨fun x => [.int .i64 x.number_, .int .i64 x.kind_, .int .i64 x.from_, .int .i64 x.until_, DL (α := Rect) x.region_.rects_], 5, ⟨0, 0, 0, 0, ⟨[]⟩⟩, fun _ => rfl⟩
structure Tape where
  l_ : (List Int)
  at_ : Int
  deriving DecidableEq
instance : Emb Tape := ⟨fun x => [DL (α := Int) x.l_, .int .i64 x.at_], 2, ⟨[], 0⟩, fun _ => rfl⟩
instance : Emb Span := ⟨fun x => [.int .i64 x.left_, .int .i64 x.right_], 2, ⟨0, 0⟩, fun _ => rfl⟩
structure Band where
  low_ : Int
  high_ : Int
  spans_ : (List Span)
  deriving DecidableEq
instance : Emb Band := ⟨fun x => [.int .i64 x.low_, .int .i64 x.high_, DL (α := Span) x.spans_], 3, ⟨0, 0, []⟩, fun _ => rfl⟩
def FR_Rect_Bool (q : Rect → Option Bool) : List AVal → AVal → Prop := fun args r => ∃ x0 y, q x0 = some y ∧ args = [gE x0] ∧ r = vb y
def FR_Span_Span_Int (q : Span → Span → Option Int) : List AVal → AVal → Prop := fun args r => ∃ x0 x1 y, q x0 x1 = some y ∧ args = [gE x0, gE x1] ∧ r = vi y
def FR_Int_ListSpan (q : Int → Option (List Span)) : List AVal → AVal → Prop := fun args r => ∃ x0 y, q x0 = some y ∧ args = [vi x0] ∧ r = AL (α := Span) y
def keep_New (F : Nat) (x1 : (List Int)) : Option (Tape) :=
  gd (0 ≤ (gmin ((List.length x1 : Nat) : Int) (400 : Int)) ∧ (gmin ((List.length x1 : Nat) : Int) (400 : Int)) ≤ ((List.length x1 : Nat) : Int)) <|
  some (⟨(x1.take (gmin ((List.length x1 : Nat) : Int) (400 : Int)).toNat), 0⟩ : Tape)
def keep_Mod_k0 (F : Nat) (v9 : Int) : Option (Int) :=
  some v9
def keep_Mod (F : Nat) (x3 : Int) (x4 : Int) : Option (Int) :=
  br (decide (x4 < (1 : Int))) (some (0 : Int)) (gd (x4 ≠ 0) <|
  br (decide ((x3.tmod x4) < (0 : Int))) (gd (I64 ((x3.tmod x4) + x4)) <|
  keep_Mod_k0 F ((x3.tmod x4) + x4)) (keep_Mod_k0 F (x3.tmod x4)))
def keep_Tape_Next (F : Nat) (x11 : Tape) (x12 : Int) : Option (Tape × Int) :=
  br (decide (((List.length x11.l_ : Nat) : Int) ≤ x11.at_)) (some (x11, (0 : Int))) (gd (I64 (x11.at_ + (1 : Int))) <|
  gd (I64 ((x11.at_ + (1 : Int)) - (1 : Int))) <|
  gd (0 ≤ ((x11.at_ + (1 : Int)) - (1 : Int)) ∧ ((x11.at_ + (1 : Int)) - (1 : Int)) < ((List.length x11.l_ : Nat) : Int)) <|
  (keep_Mod F (gl x11.l_ ((x11.at_ + (1 : Int)) - (1 : Int)).toNat) x12).bind fun z17 =>
  some ((⟨x11.l_, (x11.at_ + (1 : Int))⟩ : Tape), z17))
def keep_Tape_Rect (F : Nat) (x27 : Tape) (x28 : Int) : Option (Tape × Rect) :=
  (keep_Tape_Next F x27 x28).bind fun z29 =>
  (keep_Tape_Next F z29.1 x28).bind fun z31 =>
  gd (I64 (z29.2 + (1 : Int))) <|
  gd (I64 (x28 - z29.2)) <|
  (keep_Tape_Next F z31.1 (x28 - z29.2)).bind fun z35 =>
  gd (I64 ((z29.2 + (1 : Int)) + z35.2)) <|
  gd (I64 (z31.2 + (1 : Int))) <|
  gd (I64 (x28 - z31.2)) <|
  (keep_Tape_Next F z35.1 (x28 - z31.2)).bind fun z40 =>
  gd (I64 ((z31.2 + (1 : Int)) + z40.2)) <|
  some (z40.1, (⟨z29.2, z31.2, ((z29.2 + (1 : Int)) + z35.2), ((z31.2 + (1 : Int)) + z40.2)⟩ : Rect))
def ref04_proper_k0 (F : Nat) (v49 : Bool) : Option (Bool) :=
  some v49
def ref04_proper (F : Nat) (x43 : Rect) : Option (Bool) :=
  br (decide ((0 : Int) ≤ x43.left_)) (br (decide (x43.left_ < x43.right_)) (br (decide (x43.right_ ≤ (16384 : Int))) (br (decide ((0 : Int) ≤ x43.low_)) (br (decide (x43.low_ < x43.high_)) (ref04_proper_k0 F (decide (x43.high_ ≤ (16384 : Int)))) (ref04_proper_k0 F false)) (ref04_proper_k0 F false)) (ref04_proper_k0 F false)) (ref04_proper_k0 F false)) (ref04_proper_k0 F false)
def ref01_Put_k3 (F : Nat) (x51 : (List Int)) (x52 : Int) (v68 : Int) (v72 : Bool) : Option ((List Int)) :=
  br v72 (some x51) (gd (0 ≤ v68 ∧ v68 ≤ ((List.length x51 : Nat) : Int)) <|
  gd ((0) + (List.length (α := Int) (x51.take v68.toNat)) ≤ LIM) <|
  gd (((0) + (List.length (α := Int) (x51.take v68.toNat))) + (List.length (α := Int) ([x52] : List Int)) ≤ LIM) <|
  gd (0 ≤ v68 ∧ v68 ≤ ((List.length x51 : Nat) : Int)) <|
  gd ((((0) + (List.length (α := Int) (x51.take v68.toNat))) + (List.length (α := Int) ([x52] : List Int))) + (List.length (α := Int) (x51.drop v68.toNat)) ≤ LIM) <|
  some (((([] : List Int) ++ (x51.take v68.toNat)) ++ ([x52] : List Int)) ++ (x51.drop v68.toNat)))
def ref01_Put_k2 (F : Nat) (x51 : (List Int)) (x52 : Int) (v68 : Int) : Option ((List Int)) :=
  br (decide (v68 < ((List.length x51 : Nat) : Int))) (gd (0 ≤ v68 ∧ v68 < ((List.length x51 : Nat) : Int)) <|
  ref01_Put_k3 F x51 x52 v68 ((gl x51 v68.toNat) == x52)) (ref01_Put_k3 F x51 x52 v68 false)
def ref01_Put_k1 (F : Nat) (x51 : (List Int)) (x52 : Int) (v60 : Int) (ag_ref01_Put_b0 : (Int) → Option ((List Int))) (v64 : Bool) : Option ((List Int)) :=
  br v64 (gd (I64 (v60 + (1 : Int))) <|
  ag_ref01_Put_b0 (v60 + (1 : Int))) (ref01_Put_k2 F x51 x52 v60)
def ref01_Put_b0 (F : Nat) (x51 : (List Int)) (x52 : Int) (ag_ref01_Put_b0 : (Int) → Option ((List Int))) (v60 : Int) : Option ((List Int)) :=
  br (decide (v60 < ((List.length x51 : Nat) : Int))) (gd (0 ≤ v60 ∧ v60 < ((List.length x51 : Nat) : Int)) <|
  ref01_Put_k1 F x51 x52 v60 ag_ref01_Put_b0 (decide ((gl x51 v60.toNat) < x52))) (ref01_Put_k1 F x51 x52 v60 ag_ref01_Put_b0 false)
def ref01_Put (F : Nat) (x51 : (List Int)) (x52 : Int) : Option ((List Int)) :=
  loopN (fun again (z : Int) => ref01_Put_b0 F x51 x52 again z) F (0 : Int)
def ref04_inside_k1 (F : Nat) (v93 : Int) (ag_ref04_inside_b0 : (Int) → Option (Bool)) (v100 : Bool) : Option (Bool) :=
  br v100 (some true) (gd (I64 (v93 + (1 : Int))) <|
  ag_ref04_inside_b0 (v93 + (1 : Int)))
def ref04_inside_k2 (F : Nat) : Option (Bool) :=
  some false
def ref04_inside_b0 (F : Nat) (x80 : (List Rect)) (x81 : Int) (x82 : Int) (ag_ref04_inside_b0 : (Int) → Option (Bool)) (v93 : Int) : Option (Bool) :=
  br (decide (v93 < ((List.length x80 : Nat) : Int))) (gd (0 ≤ v93 ∧ v93 < ((List.length x80 : Nat) : Int)) <|
  br (decide (((gl x80 v93.toNat).left_) ≤ x81)) (br (decide (x81 < ((gl x80 v93.toNat).right_))) (br (decide (((gl x80 v93.toNat).low_) ≤ x82)) (ref04_inside_k1 F v93 ag_ref04_inside_b0 (decide (x82 < ((gl x80 v93.toNat).high_)))) (ref04_inside_k1 F v93 ag_ref04_inside_b0 false)) (ref04_inside_k1 F v93 ag_ref04_inside_b0 false)) (ref04_inside_k1 F v93 ag_ref04_inside_b0 false)) (ref04_inside_k2 F)
def ref04_inside (F : Nat) (x80 : (List Rect)) (x81 : Int) (x82 : Int) : Option (Bool) :=
  loopN (fun again (z : Int) => ref04_inside_b0 F x80 x81 x82 again z) F (0 : Int)
def ref04_keep_k0 (F : Nat) (v110 : Bool) : Option (Bool) :=
  some v110
def ref04_keep_k1 (F : Nat) (v114 : Bool) : Option (Bool) :=
  some v114
def ref04_keep_k2 (F : Nat) (v117 : Bool) : Option (Bool) :=
  some v117
def ref04_keep (F : Nat) (x105 : Bool) (x106 : Bool) (x107 : Int) : Option (Bool) :=
  br (x107 == (1 : Int)) (br x105 (ref04_keep_k0 F true) (ref04_keep_k0 F x106)) (br (x107 == (2 : Int)) (br x105 (ref04_keep_k1 F x106) (ref04_keep_k1 F false)) (br x105 (ref04_keep_k2 F (!x106)) (ref04_keep_k2 F false)))
def ref04_same_k1 (F : Nat) (v133 : Int) (ag_ref04_same_b0 : (Int) → Option (Bool)) (v141 : Bool) : Option (Bool) :=
  br v141 (some false) (gd (I64 (v133 + (1 : Int))) <|
  ag_ref04_same_b0 (v133 + (1 : Int)))
def ref04_same_k2 (F : Nat) : Option (Bool) :=
  some true
def ref04_same_b0 (F : Nat) (x119 : (List Rect)) (x120 : (List Rect)) (ag_ref04_same_b0 : (Int) → Option (Bool)) (v133 : Int) : Option (Bool) :=
  br (decide (v133 < ((List.length x119 : Nat) : Int))) (gd (0 ≤ v133 ∧ v133 < ((List.length x119 : Nat) : Int)) <|
  gd (0 ≤ v133 ∧ v133 < ((List.length x120 : Nat) : Int)) <|
  br (((gl x119 v133.toNat).left_) != ((gl x120 v133.toNat).left_)) (ref04_same_k1 F v133 ag_ref04_same_b0 true) (gd (0 ≤ v133 ∧ v133 < ((List.length x119 : Nat) : Int)) <|
  gd (0 ≤ v133 ∧ v133 < ((List.length x120 : Nat) : Int)) <|
  ref04_same_k1 F v133 ag_ref04_same_b0 (((gl x119 v133.toNat).right_) != ((gl x120 v133.toNat).right_)))) (ref04_same_k2 F)
def ref04_same (F : Nat) (x119 : (List Rect)) (x120 : (List Rect)) : Option (Bool) :=
  br (((List.length x119 : Nat) : Int) != ((List.length x120 : Nat) : Int)) (some false) (loopN (fun again (z : Int) => ref04_same_b0 F x119 x120 again z) F (0 : Int))
def ref04_Combine_k2 (F : Nat) (v189 : Int) (ag_ref04_Combine_b0 : ((List Int) × (List Int) × Int) → Option ((List Rect))) (v220 : (List Int)) (v221 : (List Int)) : Option ((List Rect)) :=
  gd (I64 (v189 + (1 : Int))) <|
  ag_ref04_Combine_b0 (v220, v221, (v189 + (1 : Int)))
def ref04_Combine_b1 (F : Nat) (x146 : (List Rect)) (x147 : (List Rect)) (v189 : Int) (ag_ref04_Combine_b0 : ((List Int) × (List Int) × Int) → Option ((List Rect))) (ag_ref04_Combine_b1 : ((List Int) × (List Int) × Int) → Option ((List Rect))) (v205 : (List Int)) (v206 : (List Int)) (v207 : Int) : Option ((List Rect)) :=
  br (decide (v207 < ((List.length (gl ([x146, x147] : List (List Rect)) v189.toNat) : Nat) : Int))) (gd (0 ≤ v207 ∧ v207 < ((List.length (gl ([x146, x147] : List (List Rect)) v189.toNat) : Nat) : Int)) <|
  (ref01_Put F v205 ((gl (gl ([x146, x147] : List (List Rect)) v189.toNat) v207.toNat).left_)).bind fun z211 =>
  (ref01_Put F z211 ((gl (gl ([x146, x147] : List (List Rect)) v189.toNat) v207.toNat).right_)).bind fun z213 =>
  (ref01_Put F v206 ((gl (gl ([x146, x147] : List (List Rect)) v189.toNat) v207.toNat).low_)).bind fun z215 =>
  (ref01_Put F z215 ((gl (gl ([x146, x147] : List (List Rect)) v189.toNat) v207.toNat).high_)).bind fun z217 =>
  gd (I64 (v207 + (1 : Int))) <|
  ag_ref04_Combine_b1 (z213, z217, (v207 + (1 : Int)))) (ref04_Combine_k2 F v189 ag_ref04_Combine_b0 v205 v206)
def ref04_Combine_k7 (F : Nat) (v376 : Int) (ag_ref04_Combine_b5 : (Int × (List Rect)) → Option ((List Rect))) (v410 : (List Rect)) : Option ((List Rect)) :=
  gd (I64 (v376 + (1 : Int))) <|
  ag_ref04_Combine_b5 ((v376 + (1 : Int)), v410)
def ref04_Combine_k6 (F : Nat) (v224 : (List Int)) (v225 : (List Int)) (v335 : Int) (v376 : Int) (v377 : (List Rect)) (ag_ref04_Combine_b5 : (Int × (List Rect)) → Option ((List Rect))) (v396 : Bool) : Option ((List Rect)) :=
  br v396 (gd (I64 (((List.length v377 : Nat) : Int) - (1 : Int))) <|
  gd (I64 (v376 + (1 : Int))) <|
  gd (0 ≤ (v376 + (1 : Int)) ∧ (v376 + (1 : Int)) < ((List.length v224 : Nat) : Int)) <|
  gd (0 ≤ (((List.length v377 : Nat) : Int) - (1 : Int)) ∧ (((List.length v377 : Nat) : Int) - (1 : Int)) < ((List.length v377 : Nat) : Int)) <|
  ref04_Combine_k7 F v376 ag_ref04_Combine_b5 (List.set v377 (((List.length v377 : Nat) : Int) - (1 : Int)).toNat (⟨(gl v377 (((List.length v377 : Nat) : Int) - (1 : Int)).toNat).left_, (gl v377 (((List.length v377 : Nat) : Int) - (1 : Int)).toNat).low_, (gl v224 (v376 + (1 : Int)).toNat), (gl v377 (((List.length v377 : Nat) : Int) - (1 : Int)).toNat).high_⟩ : Rect))) (gd (0 ≤ v376 ∧ v376 < ((List.length v224 : Nat) : Int)) <|
  gd (0 ≤ v335 ∧ v335 < ((List.length v225 : Nat) : Int)) <|
  gd (I64 (v376 + (1 : Int))) <|
  gd (0 ≤ (v376 + (1 : Int)) ∧ (v376 + (1 : Int)) < ((List.length v224 : Nat) : Int)) <|
  gd (I64 (v335 + (1 : Int))) <|
  gd (0 ≤ (v335 + (1 : Int)) ∧ (v335 + (1 : Int)) < ((List.length v225 : Nat) : Int)) <|
  gd ((List.length (α := Rect) v377) + (List.length (α := Rect) ([(⟨(gl v224 v376.toNat), (gl v225 v335.toNat), (gl v224 (v376 + (1 : Int)).toNat), (gl v225 (v335 + (1 : Int)).toNat)⟩ : Rect)] : List Rect)) ≤ LIM) <|
  ref04_Combine_k7 F v376 ag_ref04_Combine_b5 (v377 ++ ([(⟨(gl v224 v376.toNat), (gl v225 v335.toNat), (gl v224 (v376 + (1 : Int)).toNat), (gl v225 (v335 + (1 : Int)).toNat)⟩ : Rect)] : List Rect)))
def ref04_Combine_k13 (F : Nat) (v335 : Int) (ag_ref04_Combine_b4 : (Int × (List Rect) × (List Rect)) → Option ((List Rect))) (v442 : (List Rect)) (v443 : (List Rect)) : Option ((List Rect)) :=
  gd (I64 (v335 + (1 : Int))) <|
  ag_ref04_Combine_b4 ((v335 + (1 : Int)), v442, v443)
def ref04_Combine_k11 (F : Nat) (v335 : Int) (v336 : (List Rect)) (ag_ref04_Combine_b4 : (Int × (List Rect) × (List Rect)) → Option ((List Rect))) (v438 : (List Rect)) : Option ((List Rect)) :=
  ref04_Combine_k13 F v335 ag_ref04_Combine_b4 v336 v438
def ref04_Combine_b10 (F : Nat) (v225 : (List Int)) (v335 : Int) (v336 : (List Rect)) (v337 : (List Rect)) (ag_ref04_Combine_b4 : (Int × (List Rect) × (List Rect)) → Option ((List Rect))) (ag_ref04_Combine_b10 : (Int × (List Rect)) → Option ((List Rect))) (v430 : Int) (v431 : (List Rect)) : Option ((List Rect)) :=
  br (decide (v430 < ((List.length v337 : Nat) : Int))) (gd (I64 (v335 + (1 : Int))) <|
  gd (0 ≤ (v335 + (1 : Int)) ∧ (v335 + (1 : Int)) < ((List.length v225 : Nat) : Int)) <|
  gd (0 ≤ v430 ∧ v430 < ((List.length v431 : Nat) : Int)) <|
  gd (I64 (v430 + (1 : Int))) <|
  ag_ref04_Combine_b10 ((v430 + (1 : Int)), (List.set v431 v430.toNat (⟨(gl v431 v430.toNat).left_, (gl v431 v430.toNat).low_, (gl v431 v430.toNat).right_, (gl v225 (v335 + (1 : Int)).toNat)⟩ : Rect)))) (ref04_Combine_k11 F v335 v336 ag_ref04_Combine_b4 v431)
def ref04_Combine_k12 (F : Nat) (v335 : Int) (v336 : (List Rect)) (v337 : (List Rect)) (v413 : (List Rect)) (ag_ref04_Combine_b4 : (Int × (List Rect) × (List Rect)) → Option ((List Rect))) : Option ((List Rect)) :=
  gd ((List.length (α := Rect) v336) + (List.length (α := Rect) v337) ≤ LIM) <|
  ref04_Combine_k13 F v335 ag_ref04_Combine_b4 (v336 ++ v337) v413
def ref04_Combine_k9 (F : Nat) (v225 : (List Int)) (v335 : Int) (v336 : (List Rect)) (v337 : (List Rect)) (v413 : (List Rect)) (ag_ref04_Combine_b4 : (Int × (List Rect) × (List Rect)) → Option ((List Rect))) (v421 : Bool) : Option ((List Rect)) :=
  br v421 (loopN (fun again (z : Int × (List Rect)) => ref04_Combine_b10 F v225 v335 v336 v337 ag_ref04_Combine_b4 again z.1 z.2) F ((0 : Int), v337)) (ref04_Combine_k12 F v335 v336 v337 v413 ag_ref04_Combine_b4)
def ref04_Combine_k8 (F : Nat) (v225 : (List Int)) (v335 : Int) (v336 : (List Rect)) (v337 : (List Rect)) (ag_ref04_Combine_b4 : (Int × (List Rect) × (List Rect)) → Option ((List Rect))) (v413 : (List Rect)) : Option ((List Rect)) :=
  br (decide ((0 : Int) < ((List.length v337 : Nat) : Int))) ((ref04_same F v337 v413).bind fun z416 =>
  br z416 (gd (0 ≤ (0 : Int) ∧ (0 : Int) < ((List.length v337 : Nat) : Int)) <|
  gd (0 ≤ v335 ∧ v335 < ((List.length v225 : Nat) : Int)) <|
  ref04_Combine_k9 F v225 v335 v336 v337 v413 ag_ref04_Combine_b4 (((gl v337 (0 : Int).toNat).high_) == (gl v225 v335.toNat))) (ref04_Combine_k9 F v225 v335 v336 v337 v413 ag_ref04_Combine_b4 false)) (ref04_Combine_k9 F v225 v335 v336 v337 v413 ag_ref04_Combine_b4 false)
def ref04_Combine_b5 (F : Nat) (x146 : (List Rect)) (x147 : (List Rect)) (x148 : Int) (v224 : (List Int)) (v225 : (List Int)) (v335 : Int) (v336 : (List Rect)) (v337 : (List Rect)) (ag_ref04_Combine_b4 : (Int × (List Rect) × (List Rect)) → Option ((List Rect))) (ag_ref04_Combine_b5 : (Int × (List Rect)) → Option ((List Rect))) (v376 : Int) (v377 : (List Rect)) : Option ((List Rect)) :=
  gd (I64 (v376 + (1 : Int))) <|
  br (decide ((v376 + (1 : Int)) < ((List.length v224 : Nat) : Int))) (gd (0 ≤ v376 ∧ v376 < ((List.length v224 : Nat) : Int)) <|
  gd (0 ≤ v335 ∧ v335 < ((List.length v225 : Nat) : Int)) <|
  (ref04_inside F x146 (gl v224 v376.toNat) (gl v225 v335.toNat)).bind fun z383 =>
  gd (0 ≤ v376 ∧ v376 < ((List.length v224 : Nat) : Int)) <|
  gd (0 ≤ v335 ∧ v335 < ((List.length v225 : Nat) : Int)) <|
  (ref04_inside F x147 (gl v224 v376.toNat) (gl v225 v335.toNat)).bind fun z387 =>
  (ref04_keep F z383 z387 x148).bind fun z389 =>
  br (!z389) (ref04_Combine_k7 F v376 ag_ref04_Combine_b5 v377) (br (decide ((0 : Int) < ((List.length v377 : Nat) : Int))) (gd (I64 (((List.length v377 : Nat) : Int) - (1 : Int))) <|
  gd (0 ≤ (((List.length v377 : Nat) : Int) - (1 : Int)) ∧ (((List.length v377 : Nat) : Int) - (1 : Int)) < ((List.length v377 : Nat) : Int)) <|
  gd (0 ≤ v376 ∧ v376 < ((List.length v224 : Nat) : Int)) <|
  ref04_Combine_k6 F v224 v225 v335 v376 v377 ag_ref04_Combine_b5 (((gl v377 (((List.length v377 : Nat) : Int) - (1 : Int)).toNat).right_) == (gl v224 v376.toNat))) (ref04_Combine_k6 F v224 v225 v335 v376 v377 ag_ref04_Combine_b5 false))) (ref04_Combine_k8 F v225 v335 v336 v337 ag_ref04_Combine_b4 v377)
def ref04_Combine_k14 (F : Nat) (v446 : (List Rect)) (v447 : (List Rect)) : Option ((List Rect)) :=
  gd ((List.length (α := Rect) v446) + (List.length (α := Rect) v447) ≤ LIM) <|
  some (v446 ++ v447)
def ref04_Combine_b4 (F : Nat) (x146 : (List Rect)) (x147 : (List Rect)) (x148 : Int) (v224 : (List Int)) (v225 : (List Int)) (ag_ref04_Combine_b4 : (Int × (List Rect) × (List Rect)) → Option ((List Rect))) (v335 : Int) (v336 : (List Rect)) (v337 : (List Rect)) : Option ((List Rect)) :=
  gd (I64 (v335 + (1 : Int))) <|
  br (decide ((v335 + (1 : Int)) < ((List.length v225 : Nat) : Int))) (loopN (fun again (z : Int × (List Rect)) => ref04_Combine_b5 F x146 x147 x148 v224 v225 v335 v336 v337 ag_ref04_Combine_b4 again z.1 z.2) F ((0 : Int), ([] : List Rect))) (ref04_Combine_k14 F v336 v337)
def ref04_Combine_k3 (F : Nat) (x146 : (List Rect)) (x147 : (List Rect)) (x148 : Int) (v224 : (List Int)) (v225 : (List Int)) : Option ((List Rect)) :=
  loopN (fun again (z : Int × (List Rect) × (List Rect)) => ref04_Combine_b4 F x146 x147 x148 v224 v225 again z.1 z.2.1 z.2.2) F ((0 : Int), ([] : List Rect), ([] : List Rect))
def ref04_Combine_b0 (F : Nat) (x146 : (List Rect)) (x147 : (List Rect)) (x148 : Int) (ag_ref04_Combine_b0 : ((List Int) × (List Int) × Int) → Option ((List Rect))) (v187 : (List Int)) (v188 : (List Int)) (v189 : Int) : Option ((List Rect)) :=
  br (decide (v189 < ((List.length ([x146, x147] : List (List Rect)) : Nat) : Int))) (gd (0 ≤ v189 ∧ v189 < ((List.length ([x146, x147] : List (List Rect)) : Nat) : Int)) <|
  loopN (fun again (z : (List Int) × (List Int) × Int) => ref04_Combine_b1 F x146 x147 v189 ag_ref04_Combine_b0 again z.1 z.2.1 z.2.2) F (v187, v188, (0 : Int))) (ref04_Combine_k3 F x146 x147 x148 v187 v188)
def ref04_Combine (F : Nat) (x146 : (List Rect)) (x147 : (List Rect)) (x148 : Int) : Option ((List Rect)) :=
  loopN (fun again (z : (List Int) × (List Int) × Int) => ref04_Combine_b0 F x146 x147 x148 again z.1 z.2.1 z.2.2) F (([] : List Int), ([] : List Int), (0 : Int))
def ref04_Bound (F : Nat) (x450 : (List Rect)) : Option (Region × Int) :=
  br (decide ((120 : Int) < ((List.length x450 : Nat) : Int))) (some ((⟨[]⟩ : Region), (1 : Int))) (some ((⟨x450⟩ : Region), (0 : Int)))
def ref04_Of_k1 (F : Nat) (x452 : (List Rect)) : Option (Region × Int) :=
  (ref04_Combine F x452 ([]) (1 : Int)).bind fun z470 =>
  (ref04_Bound F z470).bind fun z472 =>
  some (z472.1, z472.2)
def ref04_Of_b0 (F : Nat) (x452 : (List Rect)) (ag_ref04_Of_b0 : (Int) → Option (Region × Int)) (v461 : Int) : Option (Region × Int) :=
  br (decide (v461 < ((List.length x452 : Nat) : Int))) (gd (0 ≤ v461 ∧ v461 < ((List.length x452 : Nat) : Int)) <|
  (ref04_proper F (gl x452 v461.toNat)).bind fun z465 =>
  br (!z465) (some ((⟨[]⟩ : Region), (2 : Int))) (gd (I64 (v461 + (1 : Int))) <|
  ag_ref04_Of_b0 (v461 + (1 : Int)))) (ref04_Of_k1 F x452)
def ref04_Of (F : Nat) (x452 : (List Rect)) : Option (Region × Int) :=
  br (decide ((120 : Int) < ((List.length x452 : Nat) : Int))) (some ((⟨[]⟩ : Region), (1 : Int))) (loopN (fun again (z : Int) => ref04_Of_b0 F x452 again z) F (0 : Int))
def keep_Tape_Region_k1 (F : Nat) (v496 : (List Rect)) (v497 : (List Int)) (v498 : Int) : Option (Tape × Region) :=
  (ref04_Of F v496).bind fun z500 =>
  some ((⟨v497, v498⟩ : Tape), z500.1)
def keep_Tape_Region_b0 (F : Nat) (x475 : Int) (ag_keep_Tape_Region_b0 : (Int × (List Int) × Int × (List Rect)) → Option (Tape × Region)) (v486 : Int) (v487 : (List Int)) (v488 : Int) (v489 : (List Rect)) : Option (Tape × Region) :=
  br (decide ((0 : Int) < v486)) ((keep_Tape_Rect F (⟨v487, v488⟩ : Tape) x475).bind fun z492 =>
  gd ((List.length (α := Rect) v489) + (List.length (α := Rect) ([z492.2] : List Rect)) ≤ LIM) <|
  gd (I64 (v486 - (1 : Int))) <|
  ag_keep_Tape_Region_b0 ((v486 - (1 : Int)), z492.1.l_, z492.1.at_, (v489 ++ ([z492.2] : List Rect)))) (keep_Tape_Region_k1 F v489 v487 v488)
def keep_Tape_Region (F : Nat) (x474 : Tape) (x475 : Int) (x476 : Int) : Option (Tape × Region) :=
  gd (I64 (x476 + (1 : Int))) <|
  (keep_Tape_Next F x474 (x476 + (1 : Int))).bind fun z478 =>
  loopN (fun again (z : Int × (List Int) × Int × (List Rect)) => keep_Tape_Region_b0 F x475 again z.1 z.2.1 z.2.2.1 z.2.2.2) F (z478.2, z478.1.l_, z478.1.at_, ([] : List Rect))
def ref04_Rects_k1 (F : Nat) : Option (Bool) :=
  some true
def ref04_Rects_b0 (F : Nat) (x525 : (List Rect)) (x526 : (List Rect)) (ag_ref04_Rects_b0 : (Int) → Option (Bool)) (v534 : Int) : Option (Bool) :=
  br (decide (v534 < ((List.length x525 : Nat) : Int))) (gd (0 ≤ v534 ∧ v534 < ((List.length x525 : Nat) : Int)) <|
  gd (0 ≤ v534 ∧ v534 < ((List.length x526 : Nat) : Int)) <|
  br (!((((gl x525 v534.toNat).left_) == ((gl x526 v534.toNat).left_)) && ((((gl x525 v534.toNat).low_) == ((gl x526 v534.toNat).low_)) && ((((gl x525 v534.toNat).right_) == ((gl x526 v534.toNat).right_)) && ((((gl x525 v534.toNat).high_) == ((gl x526 v534.toNat).high_)) && true))))) (some false) (gd (I64 (v534 + (1 : Int))) <|
  ag_ref04_Rects_b0 (v534 + (1 : Int)))) (ref04_Rects_k1 F)
def ref04_Rects (F : Nat) (x525 : (List Rect)) (x526 : (List Rect)) : Option (Bool) :=
  br (((List.length x525 : Nat) : Int) != ((List.length x526 : Nat) : Int)) (some false) (loopN (fun again (z : Int) => ref04_Rects_b0 F x525 x526 again z) F (0 : Int))
def ref04_Valid_k1 (F : Nat) (x542 : Region) : Option (Bool) :=
  (ref04_Combine F x542.rects_ ([]) (1 : Int)).bind fun z560 =>
  (ref04_Rects F z560 x542.rects_).bind fun z562 =>
  some z562
def ref04_Valid_b0 (F : Nat) (x542 : Region) (ag_ref04_Valid_b0 : (Int) → Option (Bool)) (v551 : Int) : Option (Bool) :=
  br (decide (v551 < ((List.length x542.rects_ : Nat) : Int))) (gd (0 ≤ v551 ∧ v551 < ((List.length x542.rects_ : Nat) : Int)) <|
  (ref04_proper F (gl x542.rects_ v551.toNat)).bind fun z555 =>
  br (!z555) (some false) (gd (I64 (v551 + (1 : Int))) <|
  ag_ref04_Valid_b0 (v551 + (1 : Int)))) (ref04_Valid_k1 F x542)
def ref04_Valid (F : Nat) (x542 : Region) : Option (Bool) :=
  br (decide ((120 : Int) < ((List.length x542.rects_ : Nat) : Int))) (some false) (loopN (fun again (z : Int) => ref04_Valid_b0 F x542 again z) F (0 : Int))
def slices_IndexFunc_Rect_k1 (F : Nat) : Option (Int) :=
  some (-1 : Int)
def slices_IndexFunc_Rect_b0 (F : Nat) (x695 : (List Rect)) (x696 : Rect → Option Bool) (ag_slices_IndexFunc_Rect_b0 : (Int) → Option (Int)) (v704 : Int) : Option (Int) :=
  br (decide (v704 < ((List.length x695 : Nat) : Int))) (gd (0 ≤ v704 ∧ v704 < ((List.length x695 : Nat) : Int)) <|
  (x696 (gl x695 v704.toNat)).bind fun z708 =>
  br z708 (some v704) (gd (I64 (v704 + (1 : Int))) <|
  ag_slices_IndexFunc_Rect_b0 (v704 + (1 : Int)))) (slices_IndexFunc_Rect_k1 F)
def slices_IndexFunc_Rect (F : Nat) (x695 : (List Rect)) (x696 : Rect → Option Bool) : Option (Int) :=
  loopN (fun again (z : Int) => slices_IndexFunc_Rect_b0 F x695 x696 again z) F (0 : Int)
def slices_ContainsFunc_Rect (F : Nat) (x713 : (List Rect)) (x714 : Rect → Option Bool) : Option (Bool) :=
  (slices_IndexFunc_Rect F x713 x714).bind fun z715 =>
  some (decide ((0 : Int) ≤ z715))
def region_proper_k0 (F : Nat) (v723 : Bool) : Option (Bool) :=
  some v723
def region_proper (F : Nat) (x717 : Rect) : Option (Bool) :=
  br (decide ((0 : Int) ≤ x717.left_)) (br (decide (x717.left_ < x717.right_)) (br (decide (x717.right_ ≤ (16384 : Int))) (br (decide ((0 : Int) ≤ x717.low_)) (br (decide (x717.low_ < x717.high_)) (region_proper_k0 F (decide (x717.high_ ≤ (16384 : Int)))) (region_proper_k0 F false)) (region_proper_k0 F false)) (region_proper_k0 F false)) (region_proper_k0 F false)) (region_proper_k0 F false)
def region_Valid_1 (F : Nat) (x725 : Rect) : Option (Bool) :=
  (region_proper F x725).bind fun z726 =>
  some (!z726)
def slices_Compact_int_k2 (F : Nat) (v804 : Int) (ag_slices_Compact_int_b1 : (Int × Int × (List Int)) → Option ((List Int))) (v818 : Int) (v819 : (List Int)) : Option ((List Int)) :=
  gd (I64 (v804 + (1 : Int))) <|
  ag_slices_Compact_int_b1 (v818, (v804 + (1 : Int)), v819)
def slices_Compact_int_k3 (F : Nat) (v822 : Int) (v823 : (List Int)) : Option ((List Int)) :=
  gd (0 ≤ v822 ∧ v822 ≤ (((List.length (α := Int) v823) : Nat) : Int) ∧ ((0 : Nat) : Int) + (((List.length (α := Int) v823) : Nat) : Int) ≤ ((List.length (α := Int) v823 : Nat) : Int)) <|
  gd (0 ≤ v822 ∧ v822 ≤ ((List.length (clr v823 (0 + (v822).toNat) ((List.length (α := Int) v823) - (v822).toNat)) : Nat) : Int)) <|
  some ((clr v823 (0 + (v822).toNat) ((List.length (α := Int) v823) - (v822).toNat)).take (v822).toNat)
def slices_Compact_int_b1 (F : Nat) (x728 : (List Int)) (v779 : Int) (ag_slices_Compact_int_b1 : (Int × Int × (List Int)) → Option ((List Int))) (v803 : Int) (v804 : Int) (v805 : (List Int)) : Option ((List Int)) :=
  br (decide (v804 < ((((List.length (α := Int) x728) - (v779).toNat) : Nat) : Int))) (gd (0 ≤ v804 ∧ v804 < ((((List.length (α := Int) x728) - (v779).toNat) : Nat) : Int)) <|
  gd (((0 + (v779).toNat) + (v804).toNat) < List.length v805) <|
  gd (I64 (v804 - (1 : Int))) <|
  gd (0 ≤ (v804 - (1 : Int)) ∧ (v804 - (1 : Int)) < ((((List.length (α := Int) x728) - (v779).toNat) : Nat) : Int)) <|
  gd (((0 + (v779).toNat) + ((v804 - (1 : Int))).toNat) < List.length v805) <|
  br ((gl v805 ((0 + (v779).toNat) + (v804).toNat)) != (gl v805 ((0 + (v779).toNat) + ((v804 - (1 : Int))).toNat))) (gd (0 ≤ v804 ∧ v804 < ((((List.length (α := Int) x728) - (v779).toNat) : Nat) : Int)) <|
  gd (((0 + (v779).toNat) + (v804).toNat) < List.length v805) <|
  gd (0 ≤ v803 ∧ v803 < ((List.length v805 : Nat) : Int)) <|
  gd (I64 (v803 + (1 : Int))) <|
  slices_Compact_int_k2 F v804 ag_slices_Compact_int_b1 (v803 + (1 : Int)) (List.set v805 v803.toNat (gl v805 ((0 + (v779).toNat) + (v804).toNat)))) (slices_Compact_int_k2 F v804 ag_slices_Compact_int_b1 v803 v805)) (slices_Compact_int_k3 F v803 v805)
def slices_Compact_int_k4 (F : Nat) (v779 : Int) (ag_slices_Compact_int_b0 : (Int) → Option ((List Int))) : Option ((List Int)) :=
  gd (I64 (v779 + (1 : Int))) <|
  ag_slices_Compact_int_b0 (v779 + (1 : Int))
def slices_Compact_int_k5 (F : Nat) (x728 : (List Int)) : Option ((List Int)) :=
  some x728
def slices_Compact_int_b0 (F : Nat) (x728 : (List Int)) (ag_slices_Compact_int_b0 : (Int) → Option ((List Int))) (v779 : Int) : Option ((List Int)) :=
  br (decide (v779 < ((List.length x728 : Nat) : Int))) (gd (0 ≤ v779 ∧ v779 < ((List.length x728 : Nat) : Int)) <|
  gd (I64 (v779 - (1 : Int))) <|
  gd (0 ≤ (v779 - (1 : Int)) ∧ (v779 - (1 : Int)) < ((List.length x728 : Nat) : Int)) <|
  br ((gl x728 v779.toNat) == (gl x728 (v779 - (1 : Int)).toNat)) (gd (0 ≤ v779 ∧ v779 ≤ (((List.length (α := Int) x728) : Nat) : Int) ∧ ((0 : Nat) : Int) + (((List.length (α := Int) x728) : Nat) : Int) ≤ ((List.length (α := Int) x728 : Nat) : Int)) <|
  loopN (fun again (z : Int × Int × (List Int)) => slices_Compact_int_b1 F x728 v779 again z.1 z.2.1 z.2.2) F (v779, (1 : Int), x728)) (slices_Compact_int_k4 F v779 ag_slices_Compact_int_b0)) (slices_Compact_int_k5 F x728)
def slices_Compact_int (F : Nat) (x728 : (List Int)) : Option ((List Int)) :=
  br (decide (((List.length x728 : Nat) : Int) < (2 : Int))) (some x728) (loopN (fun again (z : Int) => slices_Compact_int_b0 F x728 again z) F (1 : Int))
def region_Cuts_k2 (F : Nat) (v849 : Int) (ag_region_Cuts_b0 : (Int × (List Int)) → Option ((List Int))) (v866 : (List Int)) : Option ((List Int)) :=
  gd (I64 (v849 + (1 : Int))) <|
  ag_region_Cuts_b0 ((v849 + (1 : Int)), v866)
def region_Cuts_b1 (F : Nat) (x830 : (List (List Rect))) (v849 : Int) (ag_region_Cuts_b0 : (Int × (List Int)) → Option ((List Int))) (ag_region_Cuts_b1 : (Int × (List Int)) → Option ((List Int))) (v859 : Int) (v860 : (List Int)) : Option ((List Int)) :=
  br (decide (v859 < ((List.length (gl x830 v849.toNat) : Nat) : Int))) (gd (0 ≤ v859 ∧ v859 < ((List.length (gl x830 v849.toNat) : Nat) : Int)) <|
  gd ((List.length (α := Int) v860) + (List.length (α := Int) ([(gl (gl x830 v849.toNat) v859.toNat).low_, (gl (gl x830 v849.toNat) v859.toNat).high_] : List Int)) ≤ LIM) <|
  gd (I64 (v859 + (1 : Int))) <|
  ag_region_Cuts_b1 ((v859 + (1 : Int)), (v860 ++ ([(gl (gl x830 v849.toNat) v859.toNat).low_, (gl (gl x830 v849.toNat) v859.toNat).high_] : List Int)))) (region_Cuts_k2 F v849 ag_region_Cuts_b0 v860)
def region_Cuts_k3 (F : Nat) (v869 : (List Int)) : Option ((List Int)) :=
  (sortI v869).bind fun z871 =>
  (slices_Compact_int F z871).bind fun z873 =>
  some z873
def region_Cuts_b0 (F : Nat) (x830 : (List (List Rect))) (ag_region_Cuts_b0 : (Int × (List Int)) → Option ((List Int))) (v849 : Int) (v850 : (List Int)) : Option ((List Int)) :=
  br (decide (v849 < ((List.length x830 : Nat) : Int))) (gd (0 ≤ v849 ∧ v849 < ((List.length x830 : Nat) : Int)) <|
  loopN (fun again (z : Int × (List Int)) => region_Cuts_b1 F x830 v849 ag_region_Cuts_b0 again z.1 z.2) F ((0 : Int), v850)) (region_Cuts_k3 F v850)
def region_Cuts (F : Nat) (x830 : (List (List Rect))) : Option ((List Int)) :=
  loopN (fun again (z : Int × (List Int)) => region_Cuts_b0 F x830 again z.1 z.2) F ((0 : Int), ([] : List Int))
def cmp_isNaN_int (F : Nat) (x875 : Int) : Option (Bool) :=
  some (x875 != x875)
def cmp_Compare_int (F : Nat) (x876 : Int) (x877 : Int) : Option (Int) :=
  (cmp_isNaN_int F x876).bind fun z878 =>
  (cmp_isNaN_int F x877).bind fun z880 =>
  br z878 (br z880 (some (0 : Int)) (some (-1 : Int))) (br z880 (some (1 : Int)) (br (decide (x876 < x877)) (some (-1 : Int)) (br (decide (x877 < x876)) (some (1 : Int)) (some (0 : Int)))))
def region_Row_1 (F : Nat) (x887 : Span) (x888 : Span) : Option (Int) :=
  (cmp_Compare_int F x887.left_ x888.left_).bind fun z889 =>
  some z889
def region_Row_k2 (F : Nat) (v904 : Int) (ag_region_Row_b0 : (Int × (List Span)) → Option ((List Span))) (v914 : (List Span)) : Option ((List Span)) :=
  gd (I64 (v904 + (1 : Int))) <|
  ag_region_Row_b0 ((v904 + (1 : Int)), v914)
def region_Row_k1 (F : Nat) (x891 : (List Rect)) (v904 : Int) (v905 : (List Span)) (ag_region_Row_b0 : (Int × (List Span)) → Option ((List Span))) (v910 : Bool) : Option ((List Span)) :=
  br v910 (gd ((List.length (α := Span) v905) + (List.length (α := Span) ([(⟨(gl x891 v904.toNat).left_, (gl x891 v904.toNat).right_⟩ : Span)] : List Span)) ≤ LIM) <|
  region_Row_k2 F v904 ag_region_Row_b0 (v905 ++ ([(⟨(gl x891 v904.toNat).left_, (gl x891 v904.toNat).right_⟩ : Span)] : List Span))) (region_Row_k2 F v904 ag_region_Row_b0 v905)
def region_Row_k6 (F : Nat) (v938 : Int) (ag_region_Row_b4 : (Int × (List Span)) → Option ((List Span))) (v954 : (List Span)) : Option ((List Span)) :=
  gd (I64 (v938 + (1 : Int))) <|
  ag_region_Row_b4 ((v938 + (1 : Int)), v954)
def region_Row_k5 (F : Nat) (z919 : (List Span)) (v938 : Int) (v939 : (List Span)) (ag_region_Row_b4 : (Int × (List Span)) → Option ((List Span))) (v946 : Bool) : Option ((List Span)) :=
  br v946 (gd (I64 (((List.length v939 : Nat) : Int) - (1 : Int))) <|
  gd (I64 (((List.length v939 : Nat) : Int) - (1 : Int))) <|
  gd (0 ≤ (((List.length v939 : Nat) : Int) - (1 : Int)) ∧ (((List.length v939 : Nat) : Int) - (1 : Int)) < ((List.length v939 : Nat) : Int)) <|
  gd (0 ≤ (((List.length v939 : Nat) : Int) - (1 : Int)) ∧ (((List.length v939 : Nat) : Int) - (1 : Int)) < ((List.length v939 : Nat) : Int)) <|
  region_Row_k6 F v938 ag_region_Row_b4 (List.set v939 (((List.length v939 : Nat) : Int) - (1 : Int)).toNat (⟨(gl v939 (((List.length v939 : Nat) : Int) - (1 : Int)).toNat).left_, (gmax ((gl v939 (((List.length v939 : Nat) : Int) - (1 : Int)).toNat).right_) ((gl z919 v938.toNat).right_))⟩ : Span))) (gd ((List.length (α := Span) v939) + (List.length (α := Span) ([(gl z919 v938.toNat)] : List Span)) ≤ LIM) <|
  region_Row_k6 F v938 ag_region_Row_b4 (v939 ++ ([(gl z919 v938.toNat)] : List Span)))
def region_Row_k7 (F : Nat) (v957 : (List Span)) : Option ((List Span)) :=
  some v957
def region_Row_b4 (F : Nat) (z919 : (List Span)) (ag_region_Row_b4 : (Int × (List Span)) → Option ((List Span))) (v938 : Int) (v939 : (List Span)) : Option ((List Span)) :=
  br (decide (v938 < ((List.length z919 : Nat) : Int))) (gd (0 ≤ v938 ∧ v938 < ((List.length z919 : Nat) : Int)) <|
  br (decide ((0 : Int) < ((List.length v939 : Nat) : Int))) (gd (I64 (((List.length v939 : Nat) : Int) - (1 : Int))) <|
  gd (0 ≤ (((List.length v939 : Nat) : Int) - (1 : Int)) ∧ (((List.length v939 : Nat) : Int) - (1 : Int)) < ((List.length v939 : Nat) : Int)) <|
  region_Row_k5 F z919 v938 v939 ag_region_Row_b4 (decide (((gl z919 v938.toNat).left_) ≤ ((gl v939 (((List.length v939 : Nat) : Int) - (1 : Int)).toNat).right_)))) (region_Row_k5 F z919 v938 v939 ag_region_Row_b4 false)) (region_Row_k7 F v939)
def region_Row_k3 (F : Nat) (v917 : (List Span)) : Option ((List Span)) :=
  (sortF v917 (fun y0 y1 => region_Row_1 F y0 y1)).bind fun z919 =>
  loopN (fun again (z : Int × (List Span)) => region_Row_b4 F z919 again z.1 z.2) F ((0 : Int), ([] : List Span))
def region_Row_b0 (F : Nat) (x891 : (List Rect)) (x892 : Int) (ag_region_Row_b0 : (Int × (List Span)) → Option ((List Span))) (v904 : Int) (v905 : (List Span)) : Option ((List Span)) :=
  br (decide (v904 < ((List.length x891 : Nat) : Int))) (gd (0 ≤ v904 ∧ v904 < ((List.length x891 : Nat) : Int)) <|
  br (decide (((gl x891 v904.toNat).low_) ≤ x892)) (region_Row_k1 F x891 v904 v905 ag_region_Row_b0 (decide (x892 < ((gl x891 v904.toNat).high_)))) (region_Row_k1 F x891 v904 v905 ag_region_Row_b0 false)) (region_Row_k3 F v905)
def region_Row (F : Nat) (x891 : (List Rect)) (x892 : Int) : Option ((List Span)) :=
  loopN (fun again (z : Int × (List Span)) => region_Row_b0 F x891 x892 again z.1 z.2) F ((0 : Int), ([] : List Span))
def region_canonical_1 (F : Nat) (x959 : Int) (x960 : (List Rect)) : Option ((List Span)) :=
  (region_Row F x960 x959).bind fun z961 =>
  some z961
def slices_Equal_Span_k1 (F : Nat) : Option (Bool) :=
  some true
def slices_Equal_Span_b0 (F : Nat) (x963 : (List Span)) (x964 : (List Span)) (ag_slices_Equal_Span_b0 : (Int) → Option (Bool)) (v972 : Int) : Option (Bool) :=
  br (decide (v972 < ((List.length x963 : Nat) : Int))) (gd (0 ≤ v972 ∧ v972 < ((List.length x963 : Nat) : Int)) <|
  gd (0 ≤ v972 ∧ v972 < ((List.length x964 : Nat) : Int)) <|
  br (!((((gl x963 v972.toNat).left_) == ((gl x964 v972.toNat).left_)) && ((((gl x963 v972.toNat).right_) == ((gl x964 v972.toNat).right_)) && true))) (some false) (gd (I64 (v972 + (1 : Int))) <|
  ag_slices_Equal_Span_b0 (v972 + (1 : Int)))) (slices_Equal_Span_k1 F)
def slices_Equal_Span (F : Nat) (x963 : (List Span)) (x964 : (List Span)) : Option (Bool) :=
  br (((List.length x963 : Nat) : Int) != ((List.length x964 : Nat) : Int)) (some false) (loopN (fun again (z : Int) => slices_Equal_Span_b0 F x963 x964 again z) F (0 : Int))
def region_rects_k2 (F : Nat) (v999 : Int) (ag_region_rects_b0 : (Int × (List Rect)) → Option ((List Rect))) (v1016 : (List Rect)) : Option ((List Rect)) :=
  gd (I64 (v999 + (1 : Int))) <|
  ag_region_rects_b0 ((v999 + (1 : Int)), v1016)
def region_rects_b1 (F : Nat) (x980 : (List Band)) (v999 : Int) (ag_region_rects_b0 : (Int × (List Rect)) → Option ((List Rect))) (ag_region_rects_b1 : (Int × (List Rect)) → Option ((List Rect))) (v1009 : Int) (v1010 : (List Rect)) : Option ((List Rect)) :=
  br (decide (v1009 < ((List.length ((gl x980 v999.toNat).spans_) : Nat) : Int))) (gd (0 ≤ v1009 ∧ v1009 < ((List.length ((gl x980 v999.toNat).spans_) : Nat) : Int)) <|
  gd ((List.length (α := Rect) v1010) + (List.length (α := Rect) ([(⟨(gl ((gl x980 v999.toNat).spans_) v1009.toNat).left_, (gl x980 v999.toNat).low_, (gl ((gl x980 v999.toNat).spans_) v1009.toNat).right_, (gl x980 v999.toNat).high_⟩ : Rect)] : List Rect)) ≤ LIM) <|
  gd (I64 (v1009 + (1 : Int))) <|
  ag_region_rects_b1 ((v1009 + (1 : Int)), (v1010 ++ ([(⟨(gl ((gl x980 v999.toNat).spans_) v1009.toNat).left_, (gl x980 v999.toNat).low_, (gl ((gl x980 v999.toNat).spans_) v1009.toNat).right_, (gl x980 v999.toNat).high_⟩ : Rect)] : List Rect)))) (region_rects_k2 F v999 ag_region_rects_b0 v1010)
def region_rects_k3 (F : Nat) (v1019 : (List Rect)) : Option ((List Rect)) :=
  some v1019
def region_rects_b0 (F : Nat) (x980 : (List Band)) (ag_region_rects_b0 : (Int × (List Rect)) → Option ((List Rect))) (v999 : Int) (v1000 : (List Rect)) : Option ((List Rect)) :=
  br (decide (v999 < ((List.length x980 : Nat) : Int))) (gd (0 ≤ v999 ∧ v999 < ((List.length x980 : Nat) : Int)) <|
  loopN (fun again (z : Int × (List Rect)) => region_rects_b1 F x980 v999 ag_region_rects_b0 again z.1 z.2) F ((0 : Int), v1000)) (region_rects_k3 F v1000)
def region_rects (F : Nat) (x980 : (List Band)) : Option ((List Rect)) :=
  loopN (fun again (z : Int × (List Rect)) => region_rects_b0 F x980 again z.1 z.2) F ((0 : Int), ([] : List Rect))
def region_Build_k2 (F : Nat) (v1049 : Int) (ag_region_Build_b0 : (Int × (List Band)) → Option ((List Rect))) (v1074 : (List Band)) : Option ((List Rect)) :=
  gd (I64 (v1049 + (1 : Int))) <|
  ag_region_Build_b0 ((v1049 + (1 : Int)), v1074)
def region_Build_k1 (F : Nat) (x1021 : (List Int)) (v1049 : Int) (v1050 : (List Band)) (z1058 : (List Span)) (ag_region_Build_b0 : (Int × (List Band)) → Option ((List Rect))) (v1068 : Bool) : Option ((List Rect)) :=
  br v1068 (gd (I64 (((List.length v1050 : Nat) : Int) - (1 : Int))) <|
  gd (0 ≤ (((List.length v1050 : Nat) : Int) - (1 : Int)) ∧ (((List.length v1050 : Nat) : Int) - (1 : Int)) < ((List.length v1050 : Nat) : Int)) <|
  region_Build_k2 F v1049 ag_region_Build_b0 (List.set v1050 (((List.length v1050 : Nat) : Int) - (1 : Int)).toNat (⟨(gl v1050 (((List.length v1050 : Nat) : Int) - (1 : Int)).toNat).low_, (gl x1021 v1049.toNat), (gl v1050 (((List.length v1050 : Nat) : Int) - (1 : Int)).toNat).spans_⟩ : Band))) (gd ((List.length (α := Band) v1050) + (List.length (α := Band) ([(⟨(gl x1021 (v1049 - (1 : Int)).toNat), (gl x1021 v1049.toNat), z1058⟩ : Band)] : List Band)) ≤ LIM) <|
  region_Build_k2 F v1049 ag_region_Build_b0 (v1050 ++ ([(⟨(gl x1021 (v1049 - (1 : Int)).toNat), (gl x1021 v1049.toNat), z1058⟩ : Band)] : List Band)))
def region_Build_k3 (F : Nat) (v1077 : (List Band)) : Option ((List Rect)) :=
  (region_rects F v1077).bind fun z1079 =>
  some z1079
def region_Build_b0 (F : Nat) (x1021 : (List Int)) (x1022 : Int → Option (List Span)) (ag_region_Build_b0 : (Int × (List Band)) → Option ((List Rect))) (v1049 : Int) (v1050 : (List Band)) : Option ((List Rect)) :=
  br (decide (v1049 < ((List.length x1021 : Nat) : Int))) (gd (I64 (v1049 - (1 : Int))) <|
  gd (0 ≤ (v1049 - (1 : Int)) ∧ (v1049 - (1 : Int)) < ((List.length x1021 : Nat) : Int)) <|
  gd (0 ≤ v1049 ∧ v1049 < ((List.length x1021 : Nat) : Int)) <|
  gd (I64 (v1049 - (1 : Int))) <|
  gd (0 ≤ (v1049 - (1 : Int)) ∧ (v1049 - (1 : Int)) < ((List.length x1021 : Nat) : Int)) <|
  (x1022 (gl x1021 (v1049 - (1 : Int)).toNat)).bind fun z1058 =>
  br (decide ((0 : Int) < ((List.length v1050 : Nat) : Int))) (gd (I64 (((List.length v1050 : Nat) : Int) - (1 : Int))) <|
  gd (0 ≤ (((List.length v1050 : Nat) : Int) - (1 : Int)) ∧ (((List.length v1050 : Nat) : Int) - (1 : Int)) < ((List.length v1050 : Nat) : Int)) <|
  br (((gl v1050 (((List.length v1050 : Nat) : Int) - (1 : Int)).toNat).high_) == (gl x1021 (v1049 - (1 : Int)).toNat)) (gd (I64 (((List.length v1050 : Nat) : Int) - (1 : Int))) <|
  gd (0 ≤ (((List.length v1050 : Nat) : Int) - (1 : Int)) ∧ (((List.length v1050 : Nat) : Int) - (1 : Int)) < ((List.length v1050 : Nat) : Int)) <|
  (slices_Equal_Span F ((gl v1050 (((List.length v1050 : Nat) : Int) - (1 : Int)).toNat).spans_) z1058).bind fun z1066 =>
  region_Build_k1 F x1021 v1049 v1050 z1058 ag_region_Build_b0 z1066) (region_Build_k1 F x1021 v1049 v1050 z1058 ag_region_Build_b0 false)) (region_Build_k1 F x1021 v1049 v1050 z1058 ag_region_Build_b0 false)) (region_Build_k3 F v1050)
def region_Build (F : Nat) (x1021 : (List Int)) (x1022 : Int → Option (List Span)) : Option ((List Rect)) :=
  loopN (fun again (z : Int × (List Band)) => region_Build_b0 F x1021 x1022 again z.1 z.2) F ((1 : Int), ([] : List Band))
def region_canonical (F : Nat) (x1081 : (List Rect)) : Option ((List Rect)) :=
  (region_Cuts F ([x1081] : List (List Rect))).bind fun z1082 =>
  (region_Build F z1082 (fun y0 => region_canonical_1 F y0 x1081)).bind fun z1084 =>
  some z1084
def slices_Equal_Rect_k1 (F : Nat) : Option (Bool) :=
  some true
def slices_Equal_Rect_b0 (F : Nat) (x1086 : (List Rect)) (x1087 : (List Rect)) (ag_slices_Equal_Rect_b0 : (Int) → Option (Bool)) (v1095 : Int) : Option (Bool) :=
  br (decide (v1095 < ((List.length x1086 : Nat) : Int))) (gd (0 ≤ v1095 ∧ v1095 < ((List.length x1086 : Nat) : Int)) <|
  gd (0 ≤ v1095 ∧ v1095 < ((List.length x1087 : Nat) : Int)) <|
  br (!((((gl x1086 v1095.toNat).left_) == ((gl x1087 v1095.toNat).left_)) && ((((gl x1086 v1095.toNat).low_) == ((gl x1087 v1095.toNat).low_)) && ((((gl x1086 v1095.toNat).right_) == ((gl x1087 v1095.toNat).right_)) && ((((gl x1086 v1095.toNat).high_) == ((gl x1087 v1095.toNat).high_)) && true))))) (some false) (gd (I64 (v1095 + (1 : Int))) <|
  ag_slices_Equal_Rect_b0 (v1095 + (1 : Int)))) (slices_Equal_Rect_k1 F)
def slices_Equal_Rect (F : Nat) (x1086 : (List Rect)) (x1087 : (List Rect)) : Option (Bool) :=
  br (((List.length x1086 : Nat) : Int) != ((List.length x1087 : Nat) : Int)) (some false) (loopN (fun again (z : Int) => slices_Equal_Rect_b0 F x1086 x1087 again z) F (0 : Int))
def region_Valid_k0 (F : Nat) (x1103 : Region) (v1107 : Bool) : Option (Bool) :=
  br v1107 (some false) ((region_canonical F x1103.rects_).bind fun z1110 =>
  (slices_Equal_Rect F z1110 x1103.rects_).bind fun z1112 =>
  some z1112)
def region_Valid (F : Nat) (x1103 : Region) : Option (Bool) :=
  br (decide ((120 : Int) < ((List.length x1103.rects_ : Nat) : Int))) (region_Valid_k0 F x1103 true) ((slices_ContainsFunc_Rect F x1103.rects_ (fun y0 => region_Valid_1 F y0)).bind fun z1105 =>
  region_Valid_k0 F x1103 z1105)
def ref04_Same (F : Nat) (x1359 : Region) (x1360 : Region) : Option (Bool) :=
  (ref04_Rects F x1359.rects_ x1360.rects_).bind fun z1361 =>
  some z1361
end
end Go.Ab
end

section
namespace Go.Ab
set_option linter.unusedVariables false
set_option maxRecDepth 100000
noncomputable section
structure Crop where
  name_ : ByteArray
  family_ : Int
  marks_ : Int
  deriving DecidableEq
instance : Emb Crop := ⟨fun x => [.str x.name_, .int .i64 x.family_, .int .i64 x.marks_], 3, ⟨ByteArray.empty, 0, 0⟩, fun _ => rfl⟩
structure Record where
  year_ : Int
  crop_ : Int
  region_ : Region
  deriving DecidableEq
instance : Emb Record := ⟨fun x => [.int .i64 x.year_, .int .i64 x.crop_, DL (α := Rect) x.region_.rects_], 3, ⟨0, 0, ⟨[]⟩⟩, fun _ => rfl⟩
structure Records where
  l_ : (List Record)
  crops_ : (List Crop)
  deriving DecidableEq
instance : Emb Records := ⟨fun x => [DL (α := Record) x.l_, DL (α := Crop) x.crops_], 2, ⟨[], []⟩, fun _ => rfl⟩
def FR_Region_Region_Int (q : Region → Region → Option Int) : List AVal → AVal → Prop := fun args r => ∃ x0 x1 y, q x0 x1 = some y ∧ args = [.v (.g [.d (DL x0.rects_)]), .v (.g [.d (DL x1.rects_)])] ∧ r = vi y
def region_Limited (F : Nat) (x1217 : (List Rect)) : Option (Region × Int) :=
  br (decide ((120 : Int) < ((List.length x1217 : Nat) : Int))) (some ((⟨[]⟩ : Region), (1 : Int))) (some ((⟨x1217⟩ : Region), (0 : Int)))
def region_overlap_k0 (F : Nat) (v1253 : Bool) : Option (Bool) :=
  some v1253
def region_overlap (F : Nat) (x1248 : Rect) (x1249 : Rect) : Option (Bool) :=
  br (decide (x1248.left_ < x1249.right_)) (br (decide (x1249.left_ < x1248.right_)) (br (decide (x1248.low_ < x1249.high_)) (region_overlap_k0 F (decide (x1249.low_ < x1248.high_))) (region_overlap_k0 F false)) (region_overlap_k0 F false)) (region_overlap_k0 F false)
def region_Meets_1_1 (F : Nat) (x1255 : Rect) (x1256 : Rect) : Option (Bool) :=
  (region_overlap F x1256 x1255).bind fun z1257 =>
  some z1257
def region_Meets_1 (F : Nat) (x1259 : Rect) (x1260 : Region) : Option (Bool) :=
  (slices_ContainsFunc_Rect F x1260.rects_ (fun y0 => region_Meets_1_1 F y0 x1259)).bind fun z1261 =>
  some z1261
def region_Meets_k0 (F : Nat) (v1273 : Bool) : Option (Bool) :=
  some v1273
def region_Meets (F : Nat) (x1263 : Region) (x1264 : Region) : Option (Bool) :=
  (region_Valid F x1263).bind fun z1265 =>
  br z1265 ((region_Valid F x1264).bind fun z1268 =>
  br z1268 ((slices_ContainsFunc_Rect F x1263.rects_ (fun y0 => region_Meets_1 F y0 x1264)).bind fun z1271 =>
  region_Meets_k0 F z1271) (region_Meets_k0 F false)) (region_Meets_k0 F false)
def shape_common_k3 (F : Nat) (v1840 : Int) : Option (Int) :=
  some v1840
def shape_common_k2 (F : Nat) (x1824 : Rect) (x1825 : Rect) (v1832 : Int) (v1835 : Bool) : Option (Int) :=
  br v1835 (gd (I64 ((gmin x1824.right_ x1825.right_) - (gmax x1824.left_ x1825.left_))) <|
  gd (I64 (v1832 + (gmax (0 : Int) ((gmin x1824.right_ x1825.right_) - (gmax x1824.left_ x1825.left_))))) <|
  shape_common_k3 F (v1832 + (gmax (0 : Int) ((gmin x1824.right_ x1825.right_) - (gmax x1824.left_ x1825.left_))))) (shape_common_k3 F v1832)
def shape_common_k1 (F : Nat) (x1824 : Rect) (x1825 : Rect) (v1832 : Int) : Option (Int) :=
  br (x1824.high_ == x1825.low_) (shape_common_k2 F x1824 x1825 v1832 true) (shape_common_k2 F x1824 x1825 v1832 (x1825.high_ == x1824.low_))
def shape_common_k0 (F : Nat) (x1824 : Rect) (x1825 : Rect) (v1827 : Bool) : Option (Int) :=
  br v1827 (gd (I64 ((gmin x1824.high_ x1825.high_) - (gmax x1824.low_ x1825.low_))) <|
  gd (I64 ((0 : Int) + (gmax (0 : Int) ((gmin x1824.high_ x1825.high_) - (gmax x1824.low_ x1825.low_))))) <|
  shape_common_k1 F x1824 x1825 ((0 : Int) + (gmax (0 : Int) ((gmin x1824.high_ x1825.high_) - (gmax x1824.low_ x1825.low_))))) (shape_common_k1 F x1824 x1825 (0 : Int))
def shape_common (F : Nat) (x1824 : Rect) (x1825 : Rect) : Option (Int) :=
  br (x1824.right_ == x1825.left_) (shape_common_k0 F x1824 x1825 true) (shape_common_k0 F x1824 x1825 (x1825.right_ == x1824.left_))
def shape_Joined_1_k1 (F : Nat) (v1848 : Bool) (v1852 : (List Rect)) : Option ((List Rect) × Bool) :=
  some (v1852, v1848)
def shape_Joined_1_k0 (F : Nat) (x1842 : Rect) (x1843 : (List Rect)) (v1848 : Bool) : Option ((List Rect) × Bool) :=
  br v1848 (gd ((List.length (α := Rect) x1843) + (List.length (α := Rect) ([x1842] : List Rect)) ≤ LIM) <|
  shape_Joined_1_k1 F v1848 (x1843 ++ ([x1842] : List Rect))) (shape_Joined_1_k1 F v1848 x1843)
def shape_Joined_1 (F : Nat) (x1842 : Rect) (x1843 : (List Rect)) (x1844 : Int) : Option ((List Rect) × Bool) :=
  gd (0 ≤ x1844 ∧ x1844 < ((List.length x1843 : Nat) : Int)) <|
  (shape_common F (gl x1843 x1844.toNat) x1842).bind fun z1846 =>
  shape_Joined_1_k0 F x1842 x1843 (decide ((0 : Int) < z1846))
def slices_Clone_Rect_O (F : Nat) (x1892 : (List Rect)) : Option ((List Rect)) :=
  brN (List.length x1892) (some ([] : List Rect)) (gd ((0) + (List.length (α := Rect) x1892) ≤ LIM) <|
  some (([] : List Rect) ++ x1892))
def slices_IndexFunc_Rect_J_k1 (F : Nat) (x1895 : (List Rect)) (v1914 : (List Rect)) : Option ((List Rect) × (List Rect) × Int) :=
  some (x1895, v1914, (-1 : Int))
def slices_IndexFunc_Rect_J_b0 (F : Nat) (x1895 : (List Rect)) (x1897 : Int) (ag_slices_IndexFunc_Rect_J_b0 : (Int × (List Rect)) → Option ((List Rect) × (List Rect) × Int)) (v1905 : Int) (v1906 : (List Rect)) : Option ((List Rect) × (List Rect) × Int) :=
  br (decide (v1905 < ((List.length x1895 : Nat) : Int))) (gd (0 ≤ v1905 ∧ v1905 < ((List.length x1895 : Nat) : Int)) <|
  (shape_Joined_1 F (gl x1895 v1905.toNat) v1906 x1897).bind fun z1910 =>
  br z1910.2 (some (x1895, z1910.1, v1905)) (gd (I64 (v1905 + (1 : Int))) <|
  ag_slices_IndexFunc_Rect_J_b0 ((v1905 + (1 : Int)), z1910.1))) (slices_IndexFunc_Rect_J_k1 F x1895 v1906)
def slices_IndexFunc_Rect_J (F : Nat) (x1895 : (List Rect)) (x1896 : (List Rect)) (x1897 : Int) : Option ((List Rect) × (List Rect) × Int) :=
  loopN (fun again (z : Int × (List Rect)) => slices_IndexFunc_Rect_J_b0 F x1895 x1897 again z.1 z.2) F ((0 : Int), x1896)
def slices_DeleteFunc_Rect_J_k1 (F : Nat) (v1937 : Int) (ag_slices_DeleteFunc_Rect_J_b0 : (Int × Int × (List Rect) × (List Rect)) → Option ((List Rect) × (List Rect))) (v1948 : Int) (v1949 : (List Rect)) (v1950 : (List Rect)) : Option ((List Rect) × (List Rect)) :=
  gd (I64 (v1937 + (1 : Int))) <|
  ag_slices_DeleteFunc_Rect_J_b0 (v1948, (v1937 + (1 : Int)), v1949, v1950)
def slices_DeleteFunc_Rect_J_k2 (F : Nat) (v1953 : Int) (v1954 : (List Rect)) (v1955 : (List Rect)) : Option ((List Rect) × (List Rect)) :=
  gd (0 ≤ v1953 ∧ v1953 ≤ (((List.length (α := Rect) v1954) : Nat) : Int) ∧ ((0 : Nat) : Int) + (((List.length (α := Rect) v1954) : Nat) : Int) ≤ ((List.length (α := Rect) v1954 : Nat) : Int)) <|
  gd (0 ≤ v1953 ∧ v1953 ≤ ((List.length (clr v1954 (0 + (v1953).toNat) ((List.length (α := Rect) v1954) - (v1953).toNat)) : Nat) : Int)) <|
  some (v1955, ((clr v1954 (0 + (v1953).toNat) ((List.length (α := Rect) v1954) - (v1953).toNat)).take (v1953).toNat))
def slices_DeleteFunc_Rect_J_b0 (F : Nat) (x1918 : Int) (ag_slices_DeleteFunc_Rect_J_b0 : (Int × Int × (List Rect) × (List Rect)) → Option ((List Rect) × (List Rect))) (v1936 : Int) (v1937 : Int) (v1938 : (List Rect)) (v1939 : (List Rect)) : Option ((List Rect) × (List Rect)) :=
  br (decide (v1937 < ((List.length v1938 : Nat) : Int))) (gd (0 ≤ v1937 ∧ v1937 < ((List.length v1938 : Nat) : Int)) <|
  (shape_Joined_1 F (gl v1938 v1937.toNat) v1939 x1918).bind fun z1943 =>
  br (!z1943.2) (gd (0 ≤ v1936 ∧ v1936 < ((List.length v1938 : Nat) : Int)) <|
  gd (I64 (v1936 + (1 : Int))) <|
  slices_DeleteFunc_Rect_J_k1 F v1937 ag_slices_DeleteFunc_Rect_J_b0 (v1936 + (1 : Int)) (List.set v1938 v1936.toNat (gl v1938 v1937.toNat)) z1943.1) (slices_DeleteFunc_Rect_J_k1 F v1937 ag_slices_DeleteFunc_Rect_J_b0 v1936 v1938 z1943.1)) (slices_DeleteFunc_Rect_J_k2 F v1936 v1938 v1939)
def slices_DeleteFunc_Rect_J (F : Nat) (x1916 : (List Rect)) (x1917 : (List Rect)) (x1918 : Int) : Option ((List Rect) × (List Rect)) :=
  (slices_IndexFunc_Rect_J F x1916 x1917 x1918).bind fun z1919 =>
  br (z1919.2.2 == (-1 : Int)) (some (z1919.2.1, z1919.1)) (gd (I64 (z1919.2.2 + (1 : Int))) <|
  loopN (fun again (z : Int × Int × (List Rect) × (List Rect)) => slices_DeleteFunc_Rect_J_b0 F x1918 again z.1 z.2.1 z.2.2.1 z.2.2.2) F (z1919.2.2, (z1919.2.2 + (1 : Int)), z1919.1, z1919.2.1))
def shape_Joined_k2 (F : Nat) (v1979 : (List Rect)) (v1980 : (List Rect)) : Option ((List Rect) × (List Rect)) :=
  some (v1980, v1979)
def shape_Joined_k1 (F : Nat) (v1970 : (List Rect)) (v1971 : Int) (v1972 : (List Rect)) (ag_shape_Joined_b0 : ((List Rect) × Int × (List Rect)) → Option ((List Rect) × (List Rect))) : Option ((List Rect) × (List Rect)) :=
  br (decide (v1971 < ((List.length v1972 : Nat) : Int))) ((slices_DeleteFunc_Rect_J F v1970 v1972 v1971).bind fun z1976 =>
  gd (I64 (v1971 + (1 : Int))) <|
  ag_shape_Joined_b0 (z1976.2, (v1971 + (1 : Int)), z1976.1)) (shape_Joined_k2 F v1970 v1972)
def shape_Joined_b0 (F : Nat) (ag_shape_Joined_b0 : ((List Rect) × Int × (List Rect)) → Option ((List Rect) × (List Rect))) (v1970 : (List Rect)) (v1971 : Int) (v1972 : (List Rect)) : Option ((List Rect) × (List Rect)) :=
  shape_Joined_k1 F v1970 v1971 v1972 ag_shape_Joined_b0
def shape_Joined (F : Nat) (x1959 : (List Rect)) : Option ((List Rect) × (List Rect)) :=
  gd ((1 : Int) ≤ ((List.length x1959 : Nat) : Int)) <|
  gd (0 ≤ (1 : Int) ∧ (1 : Int) ≤ ((List.length x1959 : Nat) : Int)) <|
  (slices_Clone_Rect_O F (x1959.drop (1 : Int).toNat)).bind fun z1962 =>
  loopN (fun again (z : (List Rect) × Int × (List Rect)) => shape_Joined_b0 F again z.1 z.2.1 z.2.2) F (z1962, (0 : Int), (x1959.take ((1 : Int)).toNat))
def region_Of_1 (F : Nat) (x1982 : Rect) : Option (Bool) :=
  (region_proper F x1982).bind fun z1983 =>
  some (!z1983)
def region_Of (F : Nat) (x1985 : (List Rect)) : Option (Region × Int) :=
  br (decide ((120 : Int) < ((List.length x1985 : Nat) : Int))) (some ((⟨[]⟩ : Region), (1 : Int))) ((slices_ContainsFunc_Rect F x1985 (fun y0 => region_Of_1 F y0)).bind fun z1987 =>
  br z1987 (some ((⟨[]⟩ : Region), (2 : Int))) ((region_canonical F x1985).bind fun z1990 =>
  (region_Limited F z1990).bind fun z1992 =>
  some (z1992.1, z1992.2)))
def cmp_Or_int_k1 (F : Nat) : Option (Int) :=
  some (0 : Int)
def cmp_Or_int_b0 (F : Nat) (x1994 : (List Int)) (ag_cmp_Or_int_b0 : (Int) → Option (Int)) (v2000 : Int) : Option (Int) :=
  br (decide (v2000 < ((List.length x1994 : Nat) : Int))) (gd (0 ≤ v2000 ∧ v2000 < ((List.length x1994 : Nat) : Int)) <|
  br ((gl x1994 v2000.toNat) != (0 : Int)) (some (gl x1994 v2000.toNat)) (gd (I64 (v2000 + (1 : Int))) <|
  ag_cmp_Or_int_b0 (v2000 + (1 : Int)))) (cmp_Or_int_k1 F)
def cmp_Or_int (F : Nat) (x1994 : (List Int)) : Option (Int) :=
  loopN (fun again (z : Int) => cmp_Or_int_b0 F x1994 again z) F (0 : Int)
def shape_Parts_1 (F : Nat) (x2007 : Region) (x2008 : Region) : Option (Int) :=
  gd (0 ≤ (0 : Int) ∧ (0 : Int) < ((List.length x2007.rects_ : Nat) : Int)) <|
  gd (0 ≤ (0 : Int) ∧ (0 : Int) < ((List.length x2008.rects_ : Nat) : Int)) <|
  (cmp_Compare_int F ((gl x2007.rects_ (0 : Int).toNat).low_) ((gl x2008.rects_ (0 : Int).toNat).low_)).bind fun z2011 =>
  gd (0 ≤ (0 : Int) ∧ (0 : Int) < ((List.length x2007.rects_ : Nat) : Int)) <|
  gd (0 ≤ (0 : Int) ∧ (0 : Int) < ((List.length x2008.rects_ : Nat) : Int)) <|
  (cmp_Compare_int F ((gl x2007.rects_ (0 : Int).toNat).left_) ((gl x2008.rects_ (0 : Int).toNat).left_)).bind fun z2015 =>
  (cmp_Or_int F ([z2011, z2015] : List Int)).bind fun z2017 =>
  some z2017
def shape_Parts_k1 (F : Nat) (v2041 : (List Region)) : Option ((List Region) × Int) :=
  (sortG v2041 (fun y0 y1 => shape_Parts_1 F y0 y1)).bind fun z2043 =>
  some (z2043, (0 : Int))
def shape_Parts_b0 (F : Nat) (ag_shape_Parts_b0 : ((List Rect) × (List Region)) → Option ((List Region) × Int)) (v2031 : (List Rect)) (v2032 : (List Region)) : Option ((List Region) × Int) :=
  br (decide ((0 : Int) < ((List.length v2031 : Nat) : Int))) ((shape_Joined F v2031).bind fun z2035 =>
  (region_Of F z2035.1).bind fun z2037 =>
  br (z2037.2 != (0 : Int)) (some ([], z2037.2)) (gd ((List.length (α := Region) v2032) + (List.length (α := Region) ([z2037.1] : List Region)) ≤ LIM) <|
  ag_shape_Parts_b0 (z2035.2, (v2032 ++ ([z2037.1] : List Region))))) (shape_Parts_k1 F v2032)
def shape_Parts (F : Nat) (x2019 : Region) : Option ((List Region) × Int) :=
  (region_Valid F x2019).bind fun z2020 =>
  br (!z2020) (some ([], (7 : Int))) (loopN (fun again (z : (List Rect) × (List Region)) => shape_Parts_b0 F again z.1 z.2) F (x2019.rects_, ([] : List Region)))
def shape_Touch_k3 (F : Nat) (v2085 : Int) (ag_shape_Touch_b1 : (Int × Int) → Option (Int × Int)) (v2105 : Int) : Option (Int × Int) :=
  gd (I64 (v2085 + (1 : Int))) <|
  ag_shape_Touch_b1 (v2105, (v2085 + (1 : Int)))
def shape_Touch_b2 (F : Nat) (x2049 : Region) (x2050 : Region) (v2085 : Int) (ag_shape_Touch_b1 : (Int × Int) → Option (Int × Int)) (ag_shape_Touch_b2 : (Int × Int) → Option (Int × Int)) (v2096 : Int) (v2097 : Int) : Option (Int × Int) :=
  br (decide (v2097 < ((List.length x2050.rects_ : Nat) : Int))) (gd (0 ≤ v2097 ∧ v2097 < ((List.length x2050.rects_ : Nat) : Int)) <|
  (shape_common F (gl x2049.rects_ v2085.toNat) (gl x2050.rects_ v2097.toNat)).bind fun z2101 =>
  gd (I64 (v2096 + z2101)) <|
  gd (I64 (v2097 + (1 : Int))) <|
  ag_shape_Touch_b2 ((v2096 + z2101), (v2097 + (1 : Int)))) (shape_Touch_k3 F v2085 ag_shape_Touch_b1 v2096)
def shape_Touch_k4 (F : Nat) (v2108 : Int) : Option (Int × Int) :=
  some (v2108, (0 : Int))
def shape_Touch_b1 (F : Nat) (x2049 : Region) (x2050 : Region) (ag_shape_Touch_b1 : (Int × Int) → Option (Int × Int)) (v2084 : Int) (v2085 : Int) : Option (Int × Int) :=
  br (decide (v2085 < ((List.length x2049.rects_ : Nat) : Int))) (gd (0 ≤ v2085 ∧ v2085 < ((List.length x2049.rects_ : Nat) : Int)) <|
  loopN (fun again (z : Int × Int) => shape_Touch_b2 F x2049 x2050 v2085 ag_shape_Touch_b1 again z.1 z.2) F (v2084, (0 : Int))) (shape_Touch_k4 F v2084)
def shape_Touch_k0 (F : Nat) (x2049 : Region) (x2050 : Region) (v2056 : Bool) : Option (Int × Int) :=
  br v2056 (some ((0 : Int), (7 : Int))) ((region_Meets F x2049 x2050).bind fun z2059 =>
  br z2059 (some ((0 : Int), (11 : Int))) (loopN (fun again (z : Int × Int) => shape_Touch_b1 F x2049 x2050 again z.1 z.2) F ((0 : Int), (0 : Int))))
def shape_Touch (F : Nat) (x2049 : Region) (x2050 : Region) : Option (Int × Int) :=
  (region_Valid F x2049).bind fun z2051 =>
  br (!z2051) (shape_Touch_k0 F x2049 x2050 true) ((region_Valid F x2050).bind fun z2054 =>
  shape_Touch_k0 F x2049 x2050 (!z2054))
def shape_check_k0 (F : Nat) (v2116 : Bool) : Option (Int) :=
  br v2116 (some (2 : Int)) (some (0 : Int))
def shape_check (F : Nat) (x2110 : Region) (x2111 : Int) : Option (Int) :=
  (region_Valid F x2110).bind fun z2112 =>
  br (!z2112) (some (7 : Int)) (br (decide (x2111 < (0 : Int))) (shape_check_k0 F true) (shape_check_k0 F (decide ((64 : Int) < x2111))))
def shape_wider_k1 (F : Nat) (v2141 : (List Rect)) : Option ((List Rect)) :=
  some v2141
def shape_wider_b0 (F : Nat) (x2119 : (List Rect)) (x2120 : Int) (ag_shape_wider_b0 : (Int × (List Rect)) → Option ((List Rect))) (v2130 : Int) (v2131 : (List Rect)) : Option ((List Rect)) :=
  br (decide (v2130 < ((List.length x2119 : Nat) : Int))) (gd (0 ≤ v2130 ∧ v2130 < ((List.length x2119 : Nat) : Int)) <|
  gd (I64 (((gl x2119 v2130.toNat).left_) - x2120)) <|
  gd (I64 (((gl x2119 v2130.toNat).low_) - x2120)) <|
  gd (I64 (((gl x2119 v2130.toNat).right_) + x2120)) <|
  gd (I64 (((gl x2119 v2130.toNat).high_) + x2120)) <|
  gd ((List.length (α := Rect) v2131) + (List.length (α := Rect) ([(⟨(((gl x2119 v2130.toNat).left_) - x2120), (((gl x2119 v2130.toNat).low_) - x2120), (((gl x2119 v2130.toNat).right_) + x2120), (((gl x2119 v2130.toNat).high_) + x2120)⟩ : Rect)] : List Rect)) ≤ LIM) <|
  gd (I64 (v2130 + (1 : Int))) <|
  ag_shape_wider_b0 ((v2130 + (1 : Int)), (v2131 ++ ([(⟨(((gl x2119 v2130.toNat).left_) - x2120), (((gl x2119 v2130.toNat).low_) - x2120), (((gl x2119 v2130.toNat).right_) + x2120), (((gl x2119 v2130.toNat).high_) + x2120)⟩ : Rect)] : List Rect)))) (shape_wider_k1 F v2131)
def shape_wider (F : Nat) (x2119 : (List Rect)) (x2120 : Int) : Option ((List Rect)) :=
  loopN (fun again (z : Int × (List Rect)) => shape_wider_b0 F x2119 x2120 again z.1 z.2) F ((0 : Int), ([] : List Rect))
def shape_Grow_k1 (F : Nat) (v2162 : (List Rect)) : Option (Region × Int) :=
  (region_Of F v2162).bind fun z2164 =>
  some (z2164.1, z2164.2)
def shape_Grow_b0 (F : Nat) (z2148 : (List Rect)) (ag_shape_Grow_b0 : (Int × (List Rect)) → Option (Region × Int)) (v2155 : Int) (v2156 : (List Rect)) : Option (Region × Int) :=
  br (decide (v2155 < ((List.length z2148 : Nat) : Int))) (gd (0 ≤ v2155 ∧ v2155 < ((List.length v2156 : Nat) : Int)) <|
  gd (0 ≤ v2155 ∧ v2155 < ((List.length v2156 : Nat) : Int)) <|
  gd (I64 (v2155 + (1 : Int))) <|
  ag_shape_Grow_b0 ((v2155 + (1 : Int)), (List.set v2156 v2155.toNat (⟨(gmax (0 : Int) ((gl v2156 v2155.toNat).left_)), (gmax (0 : Int) ((gl v2156 v2155.toNat).low_)), (gmin (16384 : Int) ((gl v2156 v2155.toNat).right_)), (gmin (16384 : Int) ((gl v2156 v2155.toNat).high_))⟩ : Rect)))) (shape_Grow_k1 F v2156)
def shape_Grow (F : Nat) (x2143 : Region) (x2144 : Int) : Option (Region × Int) :=
  (shape_check F x2143 x2144).bind fun z2145 =>
  br (z2145 != (0 : Int)) (some ((⟨[]⟩ : Region), z2145)) ((shape_wider F x2143.rects_ x2144).bind fun z2148 =>
  loopN (fun again (z : Int × (List Rect)) => shape_Grow_b0 F z2148 again z.1 z.2) F ((0 : Int), z2148))
def law06_awake_k0 (F : Nat) (v2175 : Bool) : Option (Bool) :=
  some v2175
def law06_awake (F : Nat) : Option (Bool) :=
  (shape_Parts F (⟨([(⟨0, 0, (1 : Int), (1 : Int)⟩ : Rect), (⟨(1 : Int), (1 : Int), (2 : Int), (2 : Int)⟩ : Rect)] : List Rect)⟩ : Region)).bind fun z2166 =>
  (shape_Grow F (⟨([(⟨(5 : Int), (5 : Int), (6 : Int), (6 : Int)⟩ : Rect)] : List Rect)⟩ : Region) (1 : Int)).bind fun z2168 =>
  br (z2166.2 == (0 : Int)) (br (((List.length z2166.1 : Nat) : Int) == (2 : Int)) (br (z2168.2 == (0 : Int)) ((ref04_Rects F z2168.1.rects_ ([(⟨(4 : Int), (4 : Int), (7 : Int), (7 : Int)⟩ : Rect)] : List Rect)).bind fun z2173 =>
  law06_awake_k0 F z2173) (law06_awake_k0 F false)) (law06_awake_k0 F false)) (law06_awake_k0 F false)
def law06_ShapeParts_k4 (F : Nat) (v2262 : Int) (ag_law06_ShapeParts_b3 : (Int) → Option (Bool)) (v2269 : Bool) : Option (Bool) :=
  br v2269 (some false) (gd (I64 (v2262 + (1 : Int))) <|
  ag_law06_ShapeParts_b3 (v2262 + (1 : Int)))
def law06_ShapeParts_k5 (F : Nat) (z2182 : (List Region) × Int) (v2229 : Int) (v2230 : (List Rect)) (ag_law06_ShapeParts_b0 : (Int × (List Rect)) → Option (Bool)) : Option (Bool) :=
  gd (I64 (v2229 + (1 : Int))) <|
  ag_law06_ShapeParts_b0 ((v2229 + (1 : Int)), (v2230 ++ ((gl z2182.1 v2229.toNat).rects_)))
def law06_ShapeParts_b3 (F : Nat) (z2182 : (List Region) × Int) (v2229 : Int) (v2230 : (List Rect)) (ag_law06_ShapeParts_b0 : (Int × (List Rect)) → Option (Bool)) (ag_law06_ShapeParts_b3 : (Int) → Option (Bool)) (v2262 : Int) : Option (Bool) :=
  br (decide (v2262 < ((List.length (z2182.1.take v2229.toNat) : Nat) : Int))) (gd (0 ≤ v2262 ∧ v2262 < ((List.length (z2182.1.take v2229.toNat) : Nat) : Int)) <|
  (shape_Touch F (gl z2182.1 v2229.toNat) (gl (z2182.1.take v2229.toNat) v2262.toNat)).bind fun z2266 =>
  br (z2266.2 != (0 : Int)) (law06_ShapeParts_k4 F v2262 ag_law06_ShapeParts_b3 true) (law06_ShapeParts_k4 F v2262 ag_law06_ShapeParts_b3 (z2266.1 != (0 : Int)))) (law06_ShapeParts_k5 F z2182 v2229 v2230 ag_law06_ShapeParts_b0)
def law06_ShapeParts_k2 (F : Nat) (z2182 : (List Region) × Int) (v2229 : Int) (v2230 : (List Rect)) (ag_law06_ShapeParts_b0 : (Int × (List Rect)) → Option (Bool)) (v2248 : Bool) : Option (Bool) :=
  br v2248 (some false) (gd (0 ≤ v2229 ∧ v2229 ≤ ((List.length z2182.1 : Nat) : Int)) <|
  loopN (fun again (z : Int) => law06_ShapeParts_b3 F z2182 v2229 v2230 ag_law06_ShapeParts_b0 again z) F (0 : Int))
def law06_ShapeParts_k1 (F : Nat) (z2182 : (List Region) × Int) (v2229 : Int) (v2230 : (List Rect)) (ag_law06_ShapeParts_b0 : (Int × (List Rect)) → Option (Bool)) (v2237 : Bool) : Option (Bool) :=
  br v2237 (some false) (gd ((List.length (α := Rect) v2230) + (List.length (α := Rect) ((gl z2182.1 v2229.toNat).rects_)) ≤ LIM) <|
  (shape_Parts F (gl z2182.1 v2229.toNat)).bind fun z2241 =>
  br (z2241.2 != (0 : Int)) (law06_ShapeParts_k2 F z2182 v2229 v2230 ag_law06_ShapeParts_b0 true) (br (((List.length z2241.1 : Nat) : Int) != (1 : Int)) (law06_ShapeParts_k2 F z2182 v2229 v2230 ag_law06_ShapeParts_b0 true) (gd (0 ≤ (0 : Int) ∧ (0 : Int) < ((List.length z2241.1 : Nat) : Int)) <|
  (ref04_Same F (gl z2241.1 (0 : Int).toNat) (gl z2182.1 v2229.toNat)).bind fun z2246 =>
  law06_ShapeParts_k2 F z2182 v2229 v2230 ag_law06_ShapeParts_b0 (!z2246))))
def law06_ShapeParts_k7 (F : Nat) (v2285 : Bool) : Option (Bool) :=
  some v2285
def law06_ShapeParts_k6 (F : Nat) (z2180 : Tape × Region) (v2275 : (List Rect)) : Option (Bool) :=
  (ref04_Of F v2275).bind fun z2277 =>
  br (z2277.2 == (0 : Int)) ((ref04_Same F z2180.2 z2277.1).bind fun z2280 =>
  br z2280 ((law06_awake F).bind fun z2283 =>
  law06_ShapeParts_k7 F z2283) (law06_ShapeParts_k7 F false)) (law06_ShapeParts_k7 F false)
def law06_ShapeParts_b0 (F : Nat) (z2180 : Tape × Region) (z2182 : (List Region) × Int) (ag_law06_ShapeParts_b0 : (Int × (List Rect)) → Option (Bool)) (v2229 : Int) (v2230 : (List Rect)) : Option (Bool) :=
  br (decide (v2229 < ((List.length z2182.1 : Nat) : Int))) (gd (0 ≤ v2229 ∧ v2229 < ((List.length z2182.1 : Nat) : Int)) <|
  br (((List.length ((gl z2182.1 v2229.toNat).rects_) : Nat) : Int) == (0 : Int)) (law06_ShapeParts_k1 F z2182 v2229 v2230 ag_law06_ShapeParts_b0 true) ((ref04_Valid F (gl z2182.1 v2229.toNat)).bind fun z2235 =>
  law06_ShapeParts_k1 F z2182 v2229 v2230 ag_law06_ShapeParts_b0 (!z2235))) (law06_ShapeParts_k6 F z2180 v2230)
def law06_ShapeParts (F : Nat) (x2177 : (List Int)) : Option (Bool) :=
  (keep_New F x2177).bind fun z2178 =>
  (keep_Tape_Region F z2178 (9 : Int) (5 : Int)).bind fun z2180 =>
  (shape_Parts F z2180.2).bind fun z2182 =>
  br (z2182.2 != (0 : Int)) (some false) (loopN (fun again (z : Int × (List Rect)) => law06_ShapeParts_b0 F z2180 z2182 again z.1 z.2) F ((0 : Int), ([] : List Rect)))
end
end Go.Ab
end

section
namespace Go.Ab
/-- enough rounds for all loops -/
def BIG : Nat := 1099511627776

theorem gd_ok {R : Type} {p : Prop} [Decidable p] {x : Option R} {y : Option R} (h : p) (k : x = y) : gd p x = y := by unfold gd; rw [if_pos h]; exact k
theorem bd_ok {α R : Type} {x : Option α} {f : α → Option R} {a : α} {y : Option R} (h : x = some a) (k : f a = y) : x.bind f = y := by rw [h]; exact k
theorem br_ok {R : Type} {b : Bool} {x y z : Option R} (ht : b = true → x = z) (hf : b = false → y = z) : br b x y = z := by cases b; exact hf rfl; exact ht rfl
theorem br_tt {R : Type} {b : Bool} {x y z : Option R} (h : b = true) (k : x = z) : br b x y = z := by subst h; exact k
theorem br_ff {R : Type} {b : Bool} {x y z : Option R} (h : b = false) (k : y = z) : br b x y = z := by subst h; exact k
theorem br_ite {R : Type} (b : Bool) (x y : Option R) : br b x y = if b = true then x else y := by cases b <;> rfl
/-- a loop, by a relation that each round keeps, and a measure -/
theorem loopN_ok {σ R : Type} {body : (σ → Option R) → σ → Option R} {y : Option R} (I : σ → Prop) (μ : σ → Nat)
    (round : ∀ again z, I z → (∀ z', I z' → μ z' < μ z → again z' = y) → body again z = y) : ∀ {n : Nat} {z : σ}, I z → μ z < n → loopN body n z = y := by
  intro n
  induction n with
  | zero => intro z _ h; omega
  | succ n ih =>
    intro z hz hμ
    exact round (loopN body n) z hz fun z' hz' hlt => ih hz' (by omega)

section
variable {α : Type} [Emb α]
theorem gl_lt {l : List α} {i : Nat} (h : i < l.length) : gl l i = l[i] := by simp [gl, List.getD_eq_getElem?_getD, h]
theorem gl_mem {l : List α} {i : Nat} (h : i < l.length) : gl l i ∈ l := by rw [gl_lt h]; exact List.getElem_mem h
theorem drop_gl {l : List α} {i : Nat} (h : i < l.length) : l.drop i = gl l i :: l.drop (i + 1) := by rw [gl_lt h]; exact List.drop_eq_getElem_cons h
theorem take_gl {l : List α} {i : Nat} (h : i < l.length) : l.take (i + 1) = l.take i ++ [gl l i] := by rw [gl_lt h]; exact List.take_succ_eq_append_getElem h
end
theorem i64_of {n : Int} (h1 : -4611686018427387904 ≤ n) (h2 : n ≤ 4611686018427387904) : I64 n := ⟨by omega, by omega⟩

/-- ranging over a list: y tells the outcome of what is left -/
theorem range_ok {α R : Type} [Emb α] {l : List α} {body : (Int → Option R) → Int → Option R} (y : List α → Option R)
    (step : ∀ again (i : Nat), i < l.length → again ((i : Int) + 1) = y (l.drop (i + 1)) → body again (i : Int) = y (gl l i :: l.drop (i + 1)))
    (stop : ∀ again, body again (l.length : Int) = y []) {F : Nat} (hF : l.length < F) : loopN body F 0 = y l := by
  have key : ∀ (n : Nat) (i : Nat), i ≤ l.length → l.length - i < n → loopN body n (i : Int) = y (l.drop i) := by
    intro n
    induction n with
    | zero => intro i _ h; omega
    | succ n ih =>
      intro i hi hn
      show body (loopN body n) (i : Int) = _
      by_cases h : i < l.length
      · rw [drop_gl h]
        refine step _ i h ?_
        have := ih (i + 1) h (by omega)
        rw [← this]; congr 1
      · have : i = l.length := by omega
        subst this
        rw [List.drop_length]; exact stop _
  have := key F 0 (Nat.zero_le _) (by omega)
  rw [List.drop_zero] at this
  exact this

/-- .. with a state, that keeps a relation to what is left -/
theorem range_st {α σ R : Type} [Emb α] {l : List α} {body : (Int × σ → Option R) → Int × σ → Option R} (I : List α → σ → Prop) (y : List α → σ → Option R)
    (step : ∀ again (i : Nat) (s : σ), i < l.length → I (gl l i :: l.drop (i + 1)) s → (∀ s', I (l.drop (i + 1)) s' → again ((i : Int) + 1, s') = y (l.drop (i + 1)) s') → body again ((i : Int), s) = y (gl l i :: l.drop (i + 1)) s)
    (stop : ∀ again (s : σ), I [] s → body again ((l.length : Int), s) = y [] s) {F : Nat} (hF : l.length < F) {s0 : σ} (h0 : I l s0) : loopN body F (0, s0) = y l s0 := by
  have key : ∀ (n : Nat) (i : Nat) (s : σ), i ≤ l.length → l.length - i < n → I (l.drop i) s → loopN body n ((i : Int), s) = y (l.drop i) s := by
    intro n
    induction n with
    | zero => intro i _ _ h; omega
    | succ n ih =>
      intro i s hi hn hI
      show body (loopN body n) ((i : Int), s) = _
      by_cases h : i < l.length
      · rw [drop_gl h] at hI ⊢
        refine step _ i s h hI fun s' hs' => ?_
        have := ih (i + 1) s' h (by omega) hs'
        rw [← this]; congr 1
      · have : i = l.length := by omega
        subst this
        rw [List.drop_length] at hI ⊢; exact stop _ s hI
  have := key F 0 s0 (Nat.zero_le _) (by omega) (by rwa [List.drop_zero])
  rw [List.drop_zero] at this
  exact this

theorem and_br {R : Type} (K : Bool → Option R) (b x : Bool) : br b (K x) (K false) = K (b && x) := by cases b <;> rfl
theorem any_drop {α : Type} [Emb α] {l : List α} {i : Nat} (h : i < l.length) (p : α → Bool) : (l.drop i).any p = (p (gl l i) || (l.drop (i + 1)).any p) := by rw [drop_gl h]; rfl
theorem lt_dec {a b : Nat} (h : a < b) : decide ((a : Int) < ((b : Nat) : Int)) = true := by simpa using h
theorem not_lt_dec (a : Nat) : decide ((a : Int) < ((a : Nat) : Int)) = false := by simp
end Go.Ab
end

section
namespace Go.Ab
def Asc (l : List Int) : Prop := l.Pairwise (· < ·)

theorem Asc.at_lt {l : List Int} (h : Asc l) {i j : Nat} (hij : i < j) (hj : j < l.length) : gl l i < gl l j := by
  rw [gl_lt (by omega), gl_lt hj]
  exact List.pairwise_iff_getElem.1 h i j (by omega) hj hij

theorem mem_gl {l : List Int} {v : Int} (h : v ∈ l) : ∃ j, j < l.length ∧ gl l j = v := by
  obtain ⟨j, hj, e⟩ := List.getElem_of_mem h
  exact ⟨j, hj, by rw [gl_lt hj]; exact e⟩

theorem Asc.gap {c : List Int} (h : Asc c) {i : Nat} (hi : i + 1 < c.length) {t v : Int} (h1 : gl c i ≤ t) (h2 : t < gl c (i + 1)) (hv : v ∈ c) : (v ≤ t ↔ v ≤ gl c i) := by
  obtain ⟨j, hj, rfl⟩ := mem_gl hv
  rcases Nat.lt_or_ge i j with hij | hij
  · rcases Nat.lt_or_ge (i + 1) j with h3 | h3
    · have := h.at_lt h3 hj
      have := h.at_lt (show i < i + 1 by omega) hi
      omega
    · have : j = i + 1 := by omega
      subst this
      have := h.at_lt (show i < i + 1 by omega) hi
      omega
  · rcases Nat.lt_or_ge j i with h3 | h3
    · have := h.at_lt h3 (by omega)
      omega
    · have : j = i := by omega
      subst this; omega

def CovX (c : List Int) (l : List Rect) : Prop := ∀ r ∈ l, r.left_ ∈ c ∧ r.right_ ∈ c
def CovY (c : List Int) (l : List Rect) : Prop := ∀ r ∈ l, r.low_ ∈ c ∧ r.high_ ∈ c

theorem inR_congr {l : List Rect} {x y x' y' : Int} (h : ∀ r ∈ l, r.has x y = r.has x' y') : inR l x y = inR l x' y' := by
  induction l with
  | nil => rfl
  | cons r l ih =>
    simp only [inR, List.any_cons] at ih ⊢
    rw [h r (by simp), ih fun q hq => h q (by simp [hq])]

theorem inR_false {l : List Rect} {x y : Int} (h : ∀ r ∈ l, r.has x y = false) : inR l x y = false := by
  induction l with
  | nil => rfl
  | cons r l ih =>
    simp only [inR, List.any_cons] at ih ⊢
    rw [h r (by simp), ih fun q hq => h q (by simp [hq])]; rfl

theorem has_iff (r : Rect) (x y : Int) : r.has x y = true ↔ r.left_ ≤ x ∧ x < r.right_ ∧ r.low_ ≤ y ∧ y < r.high_ := by simp [Rect.has, and_assoc]
theorem has_eq {r : Rect} {x y x' y' : Int} (h : (r.left_ ≤ x ∧ x < r.right_ ∧ r.low_ ≤ y ∧ y < r.high_) ↔ (r.left_ ≤ x' ∧ x' < r.right_ ∧ r.low_ ≤ y' ∧ y' < r.high_)) : r.has x y = r.has x' y' := by
  rw [Bool.eq_iff_iff, has_iff, has_iff]; exact h
theorem has_ff {r : Rect} {x y : Int} (h : ¬ (r.left_ ≤ x ∧ x < r.right_ ∧ r.low_ ≤ y ∧ y < r.high_)) : r.has x y = false := by
  rw [← Bool.not_eq_true, has_iff]; exact h

theorem CovX.gap {c : List Int} {l : List Rect} (hc : Asc c) (h : CovX c l) {i : Nat} (hi : i + 1 < c.length) {t : Int} (h1 : gl c i ≤ t) (h2 : t < gl c (i + 1)) (y : Int) : inR l t y = inR l (gl c i) y :=
  inR_congr fun r hr => has_eq (by
    have a := hc.gap hi h1 h2 (h r hr).1
    have b := hc.gap hi h1 h2 (h r hr).2
    omega)
theorem CovY.gap {c : List Int} {l : List Rect} (hc : Asc c) (h : CovY c l) {i : Nat} (hi : i + 1 < c.length) {t : Int} (h1 : gl c i ≤ t) (h2 : t < gl c (i + 1)) (x : Int) : inR l x t = inR l x (gl c i) :=
  inR_congr fun r hr => has_eq (by
    have a := hc.gap hi h1 h2 (h r hr).1
    have b := hc.gap hi h1 h2 (h r hr).2
    omega)
theorem CovX.before {c : List Int} {l : List Rect} (h : CovX c l) {t : Int} (ht : ∀ v ∈ c, t < v) (y : Int) : inR l t y = false :=
  inR_false fun r hr => has_ff (by have := ht _ (h r hr).1; omega)
theorem CovX.after {c : List Int} {l : List Rect} (h : CovX c l) {t : Int} (ht : ∀ v ∈ c, v ≤ t) (y : Int) : inR l t y = false :=
  inR_false fun r hr => has_ff (by have := ht _ (h r hr).2; omega)
theorem CovY.before {c : List Int} {l : List Rect} (h : CovY c l) {t : Int} (ht : ∀ v ∈ c, t < v) (x : Int) : inR l x t = false :=
  inR_false fun r hr => has_ff (by have := ht _ (h r hr).1; omega)
theorem CovY.after {c : List Int} {l : List Rect} (h : CovY c l) {t : Int} (ht : ∀ v ∈ c, v ≤ t) (x : Int) : inR l x t = false :=
  inR_false fun r hr => has_ff (by have := ht _ (h r hr).2; omega)

theorem Asc.first {c : List Int} (h : Asc c) {t : Int} (ht : t < gl c 0) : ∀ v ∈ c, t < v := by
  intro v hv
  obtain ⟨j, hj, rfl⟩ := mem_gl hv
  rcases Nat.eq_zero_or_pos j with rfl | hp
  · exact ht
  · have := h.at_lt hp hj; omega
theorem Asc.last {c : List Int} (h : Asc c) {t : Int} {i : Nat} (hi : i + 1 = c.length) (ht : gl c i ≤ t) : ∀ v ∈ c, v ≤ t := by
  intro v hv
  obtain ⟨j, hj, rfl⟩ := mem_gl hv
  rcases Nat.lt_or_ge j i with h1 | h1
  · have := h.at_lt h1 (by omega); omega
  · have : j = i := by omega
    subst this; exact ht

/-- what changes only at cuts, and is d outside of them -/
structure Step {α : Type} (d : α) (c : List Int) (f : Int → α) : Prop where
  asc : Asc c
  gap : ∀ i, i + 1 < c.length → ∀ t, gl c i ≤ t → t < gl c (i + 1) → f t = f (gl c i)
  before : ∀ t, (∀ v ∈ c, t < v) → f t = d
  after : ∀ t, (∀ v ∈ c, v ≤ t) → f t = d

theorem Step.start {α : Type} {d : α} {c : List Int} {f : Int → α} (h : Step d c f) (_ : 0 < c.length) : Bst d f [] (gl c 0) := .start fun t ht => h.before t (h.asc.first ht)
theorem Step.empty {α : Type} {d : α} {c : List Int} {f : Int → α} (h : Step d c f) (hc : c.length = 0) (t : Int) : f t = d := h.before t fun v hv => by
  rw [List.eq_nil_of_length_eq_zero hc] at hv; cases hv
/-- all cuts are behind -/
theorem Step.done {α : Type} {d : α} {c : List Int} {f : Int → α} (h : Step d c f) {i : Nat} (hi : i + 1 = c.length) {acc : List (Rn α)} (hb : Bst d f acc (gl c i)) (t : Int) : atR d acc t = f t := by
  rcases Int.lt_or_le t (gl c i) with h1 | h1
  · exact hb.val t h1
  · rw [hb.out t h1, h.after t (h.asc.last hi h1)]

open Classical in
/-- the spans of a row -/
noncomputable def spn (f : Int → Bool) : List Span := if h : ∃ l, SpOk l ∧ ∀ x, inS l x = f x then h.choose else []
theorem spn_eq {f : Int → Bool} {l : List Span} (hl : SpOk l) (h : ∀ x, inS l x = f x) : spn f = l := by
  have he : ∃ l, SpOk l ∧ ∀ x, inS l x = f x := ⟨l, hl, h⟩
  unfold spn
  rw [dif_pos he]
  exact he.choose_spec.1.unique hl fun x => (he.choose_spec.2 x).trans (h x).symm
theorem SpOk.nil : SpOk [] := ⟨fun s hs => (List.not_mem_nil hs).elim, List.Pairwise.nil⟩
theorem spn_false {f : Int → Bool} (h : ∀ x, f x = false) : spn f = [] := spn_eq .nil fun x => (h x).symm

/-- rows that have spans -/
def RowsOk (S : Int → Int → Bool) : Prop := ∀ y, ∃ l, SpOk l ∧ ∀ x, inS l x = S x y
theorem RowsOk.sp {S : Int → Int → Bool} (h : RowsOk S) (y : Int) : SpOk (spn fun x => S x y) ∧ ∀ x, inS (spn fun x => S x y) x = S x y := by
  obtain ⟨l, h1, h2⟩ := h y
  rw [spn_eq h1 h2]; exact ⟨h1, h2⟩

theorem Step.cn {S : Int → Int → Bool} (hr : RowsOk S) {c : List Int} (h : Step [] c fun y => spn fun x => S x y) {acc : List (Rn (List Span))} (hacc : Runs acc) (hval : ∀ t, atR [] acc t = spn fun x => S x t) (hne : ∀ b ∈ acc, b.v ≠ []) : cn S = flat acc ∧ Fin S := by
  have hv : ∀ b ∈ acc, b.v = spn fun x => S x b.lo := by
    intro b hb
    have hat : ∀ (l : List (Rn (List Span))), Runs l → b ∈ l → atR [] l b.lo = b.v := by
      intro l
      induction l with
      | nil => intro _ hb; cases hb
      | cons a l ih =>
        intro hl hb
        rcases List.mem_cons.1 hb with rfl | hb
        · have := hl.pos b (by simp)
          rw [atR, if_pos ⟨by omega, this⟩]
        · have h1 := (hl.head b hb).1
          rw [atR, if_neg (by omega)]; exact ih hl.tail hb
    rw [← hval, hat acc hacc hb]
  have hB : Bands acc := ⟨hacc, fun b hb => by rw [hv b hb]; exact (hr.sp _).1, hne⟩
  have hS : ∀ x y, inS (atR [] acc y) x = S x y := fun x y => by rw [hval]; exact (hr.sp y).2 x
  exact ⟨cn_eq hB hS, acc, hB, hS⟩

/-- squares that change only at cuts -/
structure Grid (xs ys : List Int) (S : Int → Int → Bool) : Prop where
  x : ∀ y, Step false xs fun x => S x y
  y : ∀ x, Step false ys fun y => S x y

/-- the spans of a row along its cuts -/
theorem Step.spansL {xs : List Int} {f : Int → Bool} (h : Step false xs f) : ∃ l, SpOk l ∧ (∀ x, inS l x = f x) ∧ l.length ≤ xs.length := by
  by_cases h0 : xs.length = 0
  · exact ⟨[], .nil, fun x => (h.empty h0 x).symm, by simp⟩
  · have key : ∀ i, i + 1 ≤ xs.length → ∃ l : List Span, Bst false f (l.map Span.rn) (gl xs i) ∧ l.length ≤ i := by
      intro i
      induction i with
      | zero => intro hi; exact ⟨[], h.start (by omega), by simp⟩
      | succ i ih =>
        intro hi
        obtain ⟨l, hl, hll⟩ := ih (by omega)
        have hlt := h.asc.at_lt (show i < i + 1 by omega) (by omega)
        cases hf : f (gl xs i) with
        | false => exact ⟨l, hl.skip (by omega) fun t h1 h2 => (h.gap i (by omega) t h1 h2).trans hf, by omega⟩
        | true =>
          rcases List.eq_nil_or_concat l with rfl | ⟨l', s, hls⟩
          · refine ⟨[⟨gl xs i, gl xs (i + 1)⟩], ?_, by simp⟩
            have := hl.add hlt (h.gap i (by omega)) (fun a ha => by simp at ha)
            rw [hf] at this; exact this
          · rw [List.concat_eq_append] at hls
            subst hls
            by_cases hs : s.right_ = gl xs i
            · refine ⟨l' ++ [⟨s.left_, gl xs (i + 1)⟩], ?_, by simp at hll ⊢; omega⟩
              rw [List.map_append] at hl
              have := hl.grow (a := s.rn) hs hlt fun t h1 h2 => (h.gap i (by omega) t h1 h2).trans hf
              rw [List.map_append]; exact this
            · refine ⟨(l' ++ [s]) ++ [⟨gl xs i, gl xs (i + 1)⟩], ?_, by simp at hll ⊢; omega⟩
              have := hl.add hlt (h.gap i (by omega)) (fun a ha he => by
                rw [List.map_append] at ha
                simp at ha
                subst ha
                exact absurd he hs)
              rw [hf] at this
              rw [List.map_append]; exact this
    obtain ⟨l, hl, hll⟩ := key (xs.length - 1) (by omega)
    refine ⟨l, .of_runs hl.runs, fun x => ?_, by omega⟩
    rw [inS_atR]; exact h.done (by omega) hl x
theorem Step.spans {xs : List Int} {f : Int → Bool} (h : Step false xs f) : ∃ l, SpOk l ∧ ∀ x, inS l x = f x := by
  obtain ⟨l, h1, h2, _⟩ := h.spansL; exact ⟨l, h1, h2⟩
theorem Step.spn_len {xs : List Int} {f : Int → Bool} (h : Step false xs f) : (spn f).length ≤ xs.length := by
  obtain ⟨l, h1, h2, h3⟩ := h.spansL; rw [spn_eq h1 h2]; exact h3

theorem Grid.rows {xs ys : List Int} {S : Int → Int → Bool} (h : Grid xs ys S) : RowsOk S := fun y => (h.x y).spans
theorem Grid.step {xs ys : List Int} {S : Int → Int → Bool} (h : Grid xs ys S) : Step [] ys fun y => spn fun x => S x y := by
  refine ⟨(h.y 0).asc, fun i hi t h1 h2 => ?_, fun t ht => ?_, fun t ht => ?_⟩
  · congr 1; funext x; exact (h.y x).gap i hi t h1 h2
  · exact spn_false fun x => (h.y x).before t ht
  · exact spn_false fun x => (h.y x).after t ht

/-- two lists of rectangles, combined -/
theorem Grid.of {xs ys : List Int} {a b : List Rect} (hx : Asc xs) (hy : Asc ys) (ax : CovX xs a) (bx : CovX xs b) (ay : CovY ys a) (by' : CovY ys b) {k : Bool → Bool → Bool} (hk : k false false = false) :
    Grid xs ys fun x y => k (inR a x y) (inR b x y) := by
  refine ⟨fun y => ⟨hx, fun i hi t h1 h2 => ?_, fun t ht => ?_, fun t ht => ?_⟩, fun x => ⟨hy, fun i hi t h1 h2 => ?_, fun t ht => ?_, fun t ht => ?_⟩⟩
  · simp only [ax.gap hx hi h1 h2, bx.gap hx hi h1 h2]
  · simp only [ax.before ht, bx.before ht, hk]
  · simp only [ax.after ht, bx.after ht, hk]
  · simp only [ay.gap hy hi h1 h2, by'.gap hy hi h1 h2]
  · simp only [ay.before ht, by'.before ht, hk]
  · simp only [ay.after ht, by'.after ht, hk]
end Go.Ab
end
