/- The code that the statement reaches as plain programs, and what they compute: no condition on the program. -/
import Derived.Test.YtoeflmnpedachaaGreatAbC
import Derived.Test.YtoeflmnpedachaaGreatPuA
set_option linter.unusedVariables false
set_option linter.unusedSimpArgs false
section
namespace Go.Ab
set_option linter.unusedVariables false
set_option maxRecDepth 100000
noncomputable section
instance : Emb Rect := ⟨fun x => [.int .i64 x.left_, .int .i64 x.low_, .int .i64 x.right_, .int .i64 x.high_], 4, ⟨0, 0, 0, 0⟩, fun _ => rfl⟩
structure Region where
 rects_ : (List Rect)
 deriving DecidableEq
instance : Emb Region := ⟨fun x => [DL (α := Rect) x.rects_], 1, ⟨[]⟩, fun _ => rfl⟩
structure Feature where
 number_ : Int
 kind_ : Int
 from_ : Int
 until_ : Int
 region_ : Region
 deriving DecidableEq
instance : Emb Feature := ⟨fun x => [.int .i64 x.number_, .int .i64 x.kind_, .int .i64 x.from_, .int .i64 x.until_, DL (α := Rect) x.region_.rects_], 5, ⟨0, 0, 0, 0, ⟨[]⟩⟩, fun _ => rfl⟩
structure Tape where
 l_ : (List Int)
 at_ : Int
 deriving DecidableEq
instance : Emb Tape := ⟨fun x => [DL (α := Int) x.l_, .int .i64 x.at_], 2, ⟨[], 0⟩, fun _ => rfl⟩
instance : Emb Span := ⟨fun x => [.int .i64 x.left_, .int .i64 x.right_], 2, ⟨0, 0⟩, fun _ => rfl⟩
structure Band where
 low_ : Int
 high_ : Int
 spans_ : (List Span)
 deriving DecidableEq
instance : Emb Band := ⟨fun x => [.int .i64 x.low_, .int .i64 x.high_, DL (α := Span) x.spans_], 3, ⟨0, 0, []⟩, fun _ => rfl⟩
def FR_Rect_Bool (q : Rect → Option Bool) : List AVal → AVal → Prop := fun args r => ∃ x0 y, q x0 = some y ∧ args = [gE x0] ∧ r = vb y
def FR_Span_Span_Int (q : Span → Span → Option Int) : List AVal → AVal → Prop := fun args r => ∃ x0 x1 y, q x0 x1 = some y ∧ args = [gE x0, gE x1] ∧ r = vi y
def FR_Int_ListSpan (q : Int → Option (List Span)) : List AVal → AVal → Prop := fun args r => ∃ x0 y, q x0 = some y ∧ args = [vi x0] ∧ r = AL (α := Span) y
def FR_Feature_Bool (q : Feature → Option Bool) : List AVal → AVal → Prop := fun args r => ∃ x0 y, q x0 = some y ∧ args = [gE x0] ∧ r = vb y
def keep_New (F : Nat) (x1 : (List Int)) : Option (Tape) :=
 gd (0 ≤ (gmin ((List.length x1 : Nat) : Int) (400 : Int)) ∧ (gmin ((List.length x1 : Nat) : Int) (400 : Int)) ≤ ((List.length x1 : Nat) : Int)) <|
 some (⟨(x1.take (gmin ((List.length x1 : Nat) : Int) (400 : Int)).toNat), 0⟩ : Tape)
def keep_Mod_k0 (F : Nat) (v9 : Int) : Option (Int) :=
 some v9
def keep_Mod (F : Nat) (x3 : Int) (x4 : Int) : Option (Int) :=
 br (decide (x4 < (1 : Int))) (some (0 : Int)) (gd (x4 ≠ 0) <|
 br (decide ((x3.tmod x4) < (0 : Int))) (gd (I64 ((x3.tmod x4) + x4)) <|
 keep_Mod_k0 F ((x3.tmod x4) + x4)) (keep_Mod_k0 F (x3.tmod x4)))
def keep_Tape_Next (F : Nat) (a : Tape) (b : Int) : Option (Tape × Int) :=
 br (decide (((List.length a.l_ : Nat) : Int) ≤ a.at_)) (some (a, (0 : Int))) (gd (I64 (a.at_ + (1 : Int))) <|
 gd (I64 ((a.at_ + (1 : Int)) - (1 : Int))) <|
 gd (0 ≤ ((a.at_ + (1 : Int)) - (1 : Int)) ∧ ((a.at_ + (1 : Int)) - (1 : Int)) < ((List.length a.l_ : Nat) : Int)) <|
 (keep_Mod F (gl a.l_ ((a.at_ + (1 : Int)) - (1 : Int)).toNat) b).bind fun c =>
 some ((⟨a.l_, (a.at_ + (1 : Int))⟩ : Tape), c))
def keep_Tape_Range (F : Nat) (d : Tape) (a : Int) (b : Int) : Option (Tape × Int) :=
 gd (I64 (b - a)) <|
 gd (I64 ((b - a) + (1 : Int))) <|
 (keep_Tape_Next F d ((b - a) + (1 : Int))).bind fun c =>
 gd (I64 (a + c.2)) <|
 some (c.1, (a + c.2))
def keep_Tape_Rect (F : Nat) (i : Tape) (c : Int) : Option (Tape × Rect) :=
 (keep_Tape_Next F i c).bind fun a =>
 (keep_Tape_Next F a.1 c).bind fun b =>
 gd (I64 (a.2 + (1 : Int))) <|
 gd (I64 (c - a.2)) <|
 (keep_Tape_Next F b.1 (c - a.2)).bind fun d =>
 gd (I64 ((a.2 + (1 : Int)) + d.2)) <|
 gd (I64 (b.2 + (1 : Int))) <|
 gd (I64 (c - b.2)) <|
 (keep_Tape_Next F d.1 (c - b.2)).bind fun e =>
 gd (I64 ((b.2 + (1 : Int)) + e.2)) <|
 some (e.1, (⟨a.2, b.2, ((a.2 + (1 : Int)) + d.2), ((b.2 + (1 : Int)) + e.2)⟩ : Rect))
def ref04_proper_k0 (F : Nat) (a : Bool) : Option (Bool) :=
 some a
def ref04_proper (F : Nat) (a : Rect) : Option (Bool) :=
 br (decide ((0 : Int) ≤ a.left_)) (br (decide (a.left_ < a.right_)) (br (decide (a.right_ ≤ (16384 : Int))) (br (decide ((0 : Int) ≤ a.low_)) (br (decide (a.low_ < a.high_)) (ref04_proper_k0 F (decide (a.high_ ≤ (16384 : Int)))) (ref04_proper_k0 F false)) (ref04_proper_k0 F false)) (ref04_proper_k0 F false)) (ref04_proper_k0 F false)) (ref04_proper_k0 F false)
def ref01_Put_k3 (F : Nat) (b : (List Int)) (c : Int) (a : Int) (d : Bool) : Option ((List Int)) :=
 br d (some b) (gd (0 ≤ a ∧ a ≤ ((List.length b : Nat) : Int)) <|
 gd ((0) + (List.length (α := Int) (b.take a.toNat)) ≤ LIM) <|
 gd (((0) + (List.length (α := Int) (b.take a.toNat))) + (List.length (α := Int) ([c] : List Int)) ≤ LIM) <|
 gd (0 ≤ a ∧ a ≤ ((List.length b : Nat) : Int)) <|
 gd ((((0) + (List.length (α := Int) (b.take a.toNat))) + (List.length (α := Int) ([c] : List Int))) + (List.length (α := Int) (b.drop a.toNat)) ≤ LIM) <|
 some (((([] : List Int) ++ (b.take a.toNat)) ++ ([c] : List Int)) ++ (b.drop a.toNat)))
def ref01_Put_k2 (F : Nat) (b : (List Int)) (c : Int) (a : Int) : Option ((List Int)) :=
 br (decide (a < ((List.length b : Nat) : Int))) (gd (0 ≤ a ∧ a < ((List.length b : Nat) : Int)) <|
 ref01_Put_k3 F b c a ((gl b a.toNat) == c)) (ref01_Put_k3 F b c a false)
def ref01_Put_k1 (F : Nat) (d : (List Int)) (e : Int) (a : Int) (b : (Int) → Option ((List Int))) (c : Bool) : Option ((List Int)) :=
 br c (gd (I64 (a + (1 : Int))) <|
 b (a + (1 : Int))) (ref01_Put_k2 F d e a)
def ref01_Put_b0 (F : Nat) (b : (List Int)) (c : Int) (d : (Int) → Option ((List Int))) (a : Int) : Option ((List Int)) :=
 br (decide (a < ((List.length b : Nat) : Int))) (gd (0 ≤ a ∧ a < ((List.length b : Nat) : Int)) <|
 ref01_Put_k1 F b c a d (decide ((gl b a.toNat) < c))) (ref01_Put_k1 F b c a d false)
def ref01_Put (F : Nat) (a : (List Int)) (b : Int) : Option ((List Int)) :=
 loopN (fun again (z : Int) => ref01_Put_b0 F a b again z) F (0 : Int)
def ref04_inside_k1 (F : Nat) (a : Int) (b : (Int) → Option (Bool)) (c : Bool) : Option (Bool) :=
 br c (some true) (gd (I64 (a + (1 : Int))) <|
 b (a + (1 : Int)))
def ref04_inside_k2 (F : Nat) : Option (Bool) :=
 some false
def ref04_inside_b0 (F : Nat) (b : (List Rect)) (d : Int) (e : Int) (c : (Int) → Option (Bool)) (a : Int) : Option (Bool) :=
 br (decide (a < ((List.length b : Nat) : Int))) (gd (0 ≤ a ∧ a < ((List.length b : Nat) : Int)) <|
 br (decide (((gl b a.toNat).left_) ≤ d)) (br (decide (d < ((gl b a.toNat).right_))) (br (decide (((gl b a.toNat).low_) ≤ e)) (ref04_inside_k1 F a c (decide (e < ((gl b a.toNat).high_)))) (ref04_inside_k1 F a c false)) (ref04_inside_k1 F a c false)) (ref04_inside_k1 F a c false)) (ref04_inside_k2 F)
def ref04_inside (F : Nat) (a : (List Rect)) (b : Int) (c : Int) : Option (Bool) :=
 loopN (fun again (z : Int) => ref04_inside_b0 F a b c again z) F (0 : Int)
def ref04_keep_k0 (F : Nat) (a : Bool) : Option (Bool) :=
 some a
def ref04_keep_k1 (F : Nat) (a : Bool) : Option (Bool) :=
 some a
def ref04_keep_k2 (F : Nat) (a : Bool) : Option (Bool) :=
 some a
def ref04_keep (F : Nat) (a : Bool) (b : Bool) (c : Int) : Option (Bool) :=
 br (c == (1 : Int)) (br a (ref04_keep_k0 F true) (ref04_keep_k0 F b)) (br (c == (2 : Int)) (br a (ref04_keep_k1 F b) (ref04_keep_k1 F false)) (br a (ref04_keep_k2 F (!b)) (ref04_keep_k2 F false)))
def ref04_same_k1 (F : Nat) (a : Int) (b : (Int) → Option (Bool)) (c : Bool) : Option (Bool) :=
 br c (some false) (gd (I64 (a + (1 : Int))) <|
 b (a + (1 : Int)))
def ref04_same_k2 (F : Nat) : Option (Bool) :=
 some true
def ref04_same_b0 (F : Nat) (b : (List Rect)) (c : (List Rect)) (d : (Int) → Option (Bool)) (a : Int) : Option (Bool) :=
 br (decide (a < ((List.length b : Nat) : Int))) (gd (0 ≤ a ∧ a < ((List.length b : Nat) : Int)) <|
 gd (0 ≤ a ∧ a < ((List.length c : Nat) : Int)) <|
 br (((gl b a.toNat).left_) != ((gl c a.toNat).left_)) (ref04_same_k1 F a d true) (gd (0 ≤ a ∧ a < ((List.length b : Nat) : Int)) <|
 gd (0 ≤ a ∧ a < ((List.length c : Nat) : Int)) <|
 ref04_same_k1 F a d (((gl b a.toNat).right_) != ((gl c a.toNat).right_)))) (ref04_same_k2 F)
def ref04_same (F : Nat) (a : (List Rect)) (b : (List Rect)) : Option (Bool) :=
 br (((List.length a : Nat) : Int) != ((List.length b : Nat) : Int)) (some false) (loopN (fun again (z : Int) => ref04_same_b0 F a b again z) F (0 : Int))
def ref04_Combine_k2 (F : Nat) (a : Int) (b : ((List Int) × (List Int) × Int) → Option ((List Rect))) (c : (List Int)) (d : (List Int)) : Option ((List Rect)) :=
 gd (I64 (a + (1 : Int))) <|
 b (c, d, (a + (1 : Int)))
def ref04_Combine_b1 (F : Nat) (c : (List Rect)) (d : (List Rect)) (b : Int) (j : ((List Int) × (List Int) × Int) → Option ((List Rect))) (k : ((List Int) × (List Int) × Int) → Option ((List Rect))) (e : (List Int)) (i : (List Int)) (a : Int) : Option ((List Rect)) :=
 br (decide (a < ((List.length (gl ([c, d] : List (List Rect)) b.toNat) : Nat) : Int))) (gd (0 ≤ a ∧ a < ((List.length (gl ([c, d] : List (List Rect)) b.toNat) : Nat) : Int)) <|
 (ref01_Put F e ((gl (gl ([c, d] : List (List Rect)) b.toNat) a.toNat).left_)).bind fun l =>
 (ref01_Put F l ((gl (gl ([c, d] : List (List Rect)) b.toNat) a.toNat).right_)).bind fun m =>
 (ref01_Put F i ((gl (gl ([c, d] : List (List Rect)) b.toNat) a.toNat).low_)).bind fun n =>
 (ref01_Put F n ((gl (gl ([c, d] : List (List Rect)) b.toNat) a.toNat).high_)).bind fun o =>
 gd (I64 (a + (1 : Int))) <|
 k (m, o, (a + (1 : Int)))) (ref04_Combine_k2 F b j e i)
def ref04_Combine_k7 (F : Nat) (a : Int) (b : (Int × (List Rect)) → Option ((List Rect))) (c : (List Rect)) : Option ((List Rect)) :=
 gd (I64 (a + (1 : Int))) <|
 b ((a + (1 : Int)), c)
def ref04_Combine_k6 (F : Nat) (d : (List Int)) (e : (List Int)) (c : Int) (a : Int) (b : (List Rect)) (i : (Int × (List Rect)) → Option ((List Rect))) (j : Bool) : Option ((List Rect)) :=
 br j (gd (I64 (((List.length b : Nat) : Int) - (1 : Int))) <|
 gd (I64 (a + (1 : Int))) <|
 gd (0 ≤ (a + (1 : Int)) ∧ (a + (1 : Int)) < ((List.length d : Nat) : Int)) <|
 gd (0 ≤ (((List.length b : Nat) : Int) - (1 : Int)) ∧ (((List.length b : Nat) : Int) - (1 : Int)) < ((List.length b : Nat) : Int)) <|
 ref04_Combine_k7 F a i (List.set b (((List.length b : Nat) : Int) - (1 : Int)).toNat (⟨(gl b (((List.length b : Nat) : Int) - (1 : Int)).toNat).left_, (gl b (((List.length b : Nat) : Int) - (1 : Int)).toNat).low_, (gl d (a + (1 : Int)).toNat), (gl b (((List.length b : Nat) : Int) - (1 : Int)).toNat).high_⟩ : Rect))) (gd (0 ≤ a ∧ a < ((List.length d : Nat) : Int)) <|
 gd (0 ≤ c ∧ c < ((List.length e : Nat) : Int)) <|
 gd (I64 (a + (1 : Int))) <|
 gd (0 ≤ (a + (1 : Int)) ∧ (a + (1 : Int)) < ((List.length d : Nat) : Int)) <|
 gd (I64 (c + (1 : Int))) <|
 gd (0 ≤ (c + (1 : Int)) ∧ (c + (1 : Int)) < ((List.length e : Nat) : Int)) <|
 gd ((List.length (α := Rect) b) + (List.length (α := Rect) ([(⟨(gl d a.toNat), (gl e c.toNat), (gl d (a + (1 : Int)).toNat), (gl e (c + (1 : Int)).toNat)⟩ : Rect)] : List Rect)) ≤ LIM) <|
 ref04_Combine_k7 F a i (b ++ ([(⟨(gl d a.toNat), (gl e c.toNat), (gl d (a + (1 : Int)).toNat), (gl e (c + (1 : Int)).toNat)⟩ : Rect)] : List Rect)))
def ref04_Combine_k13 (F : Nat) (a : Int) (b : (Int × (List Rect) × (List Rect)) → Option ((List Rect))) (c : (List Rect)) (d : (List Rect)) : Option ((List Rect)) :=
 gd (I64 (a + (1 : Int))) <|
 b ((a + (1 : Int)), c, d)
def ref04_Combine_k11 (F : Nat) (b : Int) (c : (List Rect)) (a : (Int × (List Rect) × (List Rect)) → Option ((List Rect))) (d : (List Rect)) : Option ((List Rect)) :=
 ref04_Combine_k13 F b a c d
def ref04_Combine_b10 (F : Nat) (d : (List Int)) (c : Int) (j : (List Rect)) (k : (List Rect)) (i : (Int × (List Rect) × (List Rect)) → Option ((List Rect))) (e : (Int × (List Rect)) → Option ((List Rect))) (a : Int) (b : (List Rect)) : Option ((List Rect)) :=
 br (decide (a < ((List.length k : Nat) : Int))) (gd (I64 (c + (1 : Int))) <|
 gd (0 ≤ (c + (1 : Int)) ∧ (c + (1 : Int)) < ((List.length d : Nat) : Int)) <|
 gd (0 ≤ a ∧ a < ((List.length b : Nat) : Int)) <|
 gd (I64 (a + (1 : Int))) <|
 e ((a + (1 : Int)), (List.set b a.toNat (⟨(gl b a.toNat).left_, (gl b a.toNat).low_, (gl b a.toNat).right_, (gl d (c + (1 : Int)).toNat)⟩ : Rect)))) (ref04_Combine_k11 F c j i b)
def ref04_Combine_k12 (F : Nat) (d : Int) (a : (List Rect)) (b : (List Rect)) (e : (List Rect)) (c : (Int × (List Rect) × (List Rect)) → Option ((List Rect))) : Option ((List Rect)) :=
 gd ((List.length (α := Rect) a) + (List.length (α := Rect) b) ≤ LIM) <|
 ref04_Combine_k13 F d c (a ++ b) e
def ref04_Combine_k9 (F : Nat) (e : (List Int)) (c : Int) (d : (List Rect)) (a : (List Rect)) (i : (List Rect)) (b : (Int × (List Rect) × (List Rect)) → Option ((List Rect))) (j : Bool) : Option ((List Rect)) :=
 br j (loopN (fun again (z : Int × (List Rect)) => ref04_Combine_b10 F e c d a b again z.1 z.2) F ((0 : Int), a)) (ref04_Combine_k12 F c d a i b)
def ref04_Combine_k8 (F : Nat) (c : (List Int)) (b : Int) (i : (List Rect)) (a : (List Rect)) (e : (Int × (List Rect) × (List Rect)) → Option ((List Rect))) (d : (List Rect)) : Option ((List Rect)) :=
 br (decide ((0 : Int) < ((List.length a : Nat) : Int))) ((ref04_same F a d).bind fun j =>
 br j (gd (0 ≤ (0 : Int) ∧ (0 : Int) < ((List.length a : Nat) : Int)) <|
 gd (0 ≤ b ∧ b < ((List.length c : Nat) : Int)) <|
 ref04_Combine_k9 F c b i a d e (((gl a (0 : Int).toNat).high_) == (gl c b.toNat))) (ref04_Combine_k9 F c b i a d e false)) (ref04_Combine_k9 F c b i a d e false)
def ref04_Combine_b5 (F : Nat) (m : (List Rect)) (n : (List Rect)) (o : Int) (c : (List Int)) (e : (List Int)) (d : Int) (k : (List Rect)) (l : (List Rect)) (j : (Int × (List Rect) × (List Rect)) → Option ((List Rect))) (i : (Int × (List Rect)) → Option ((List Rect))) (a : Int) (b : (List Rect)) : Option ((List Rect)) :=
 gd (I64 (a + (1 : Int))) <|
 br (decide ((a + (1 : Int)) < ((List.length c : Nat) : Int))) (gd (0 ≤ a ∧ a < ((List.length c : Nat) : Int)) <|
 gd (0 ≤ d ∧ d < ((List.length e : Nat) : Int)) <|
 (ref04_inside F m (gl c a.toNat) (gl e d.toNat)).bind fun p =>
 gd (0 ≤ a ∧ a < ((List.length c : Nat) : Int)) <|
 gd (0 ≤ d ∧ d < ((List.length e : Nat) : Int)) <|
 (ref04_inside F n (gl c a.toNat) (gl e d.toNat)).bind fun q =>
 (ref04_keep F p q o).bind fun s =>
 br (!s) (ref04_Combine_k7 F a i b) (br (decide ((0 : Int) < ((List.length b : Nat) : Int))) (gd (I64 (((List.length b : Nat) : Int) - (1 : Int))) <|
 gd (0 ≤ (((List.length b : Nat) : Int) - (1 : Int)) ∧ (((List.length b : Nat) : Int) - (1 : Int)) < ((List.length b : Nat) : Int)) <|
 gd (0 ≤ a ∧ a < ((List.length c : Nat) : Int)) <|
 ref04_Combine_k6 F c e d a b i (((gl b (((List.length b : Nat) : Int) - (1 : Int)).toNat).right_) == (gl c a.toNat))) (ref04_Combine_k6 F c e d a b i false))) (ref04_Combine_k8 F e d k l j b)
def ref04_Combine_k14 (F : Nat) (a : (List Rect)) (b : (List Rect)) : Option ((List Rect)) :=
 gd ((List.length (α := Rect) a) + (List.length (α := Rect) b) ≤ LIM) <|
 some (a ++ b)
def ref04_Combine_b4 (F : Nat) (j : (List Rect)) (k : (List Rect)) (l : Int) (i : (List Int)) (b : (List Int)) (e : (Int × (List Rect) × (List Rect)) → Option ((List Rect))) (a : Int) (c : (List Rect)) (d : (List Rect)) : Option ((List Rect)) :=
 gd (I64 (a + (1 : Int))) <|
 br (decide ((a + (1 : Int)) < ((List.length b : Nat) : Int))) (loopN (fun again (z : Int × (List Rect)) => ref04_Combine_b5 F j k l i b a c d e again z.1 z.2) F ((0 : Int), ([] : List Rect))) (ref04_Combine_k14 F c d)
def ref04_Combine_k3 (F : Nat) (c : (List Rect)) (d : (List Rect)) (e : Int) (a : (List Int)) (b : (List Int)) : Option ((List Rect)) :=
 loopN (fun again (z : Int × (List Rect) × (List Rect)) => ref04_Combine_b4 F c d e a b again z.1 z.2.1 z.2.2) F ((0 : Int), ([] : List Rect), ([] : List Rect))
def ref04_Combine_b0 (F : Nat) (b : (List Rect)) (c : (List Rect)) (j : Int) (i : ((List Int) × (List Int) × Int) → Option ((List Rect))) (d : (List Int)) (e : (List Int)) (a : Int) : Option ((List Rect)) :=
 br (decide (a < ((List.length ([b, c] : List (List Rect)) : Nat) : Int))) (gd (0 ≤ a ∧ a < ((List.length ([b, c] : List (List Rect)) : Nat) : Int)) <|
 loopN (fun again (z : (List Int) × (List Int) × Int) => ref04_Combine_b1 F b c a i again z.1 z.2.1 z.2.2) F (d, e, (0 : Int))) (ref04_Combine_k3 F b c j d e)
def ref04_Combine (F : Nat) (a : (List Rect)) (b : (List Rect)) (c : Int) : Option ((List Rect)) :=
 loopN (fun again (z : (List Int) × (List Int) × Int) => ref04_Combine_b0 F a b c again z.1 z.2.1 z.2.2) F (([] : List Int), ([] : List Int), (0 : Int))
def ref04_Bound (F : Nat) (a : (List Rect)) : Option (Region × Int) :=
 br (decide ((120 : Int) < ((List.length a : Nat) : Int))) (some ((⟨[]⟩ : Region), (1 : Int))) (some ((⟨a⟩ : Region), (0 : Int)))
def ref04_Of_k1 (F : Nat) (b : (List Rect)) : Option (Region × Int) :=
 (ref04_Combine F b ([]) (1 : Int)).bind fun c =>
 (ref04_Bound F c).bind fun a =>
 some (a.1, a.2)
def ref04_Of_b0 (F : Nat) (b : (List Rect)) (c : (Int) → Option (Region × Int)) (a : Int) : Option (Region × Int) :=
 br (decide (a < ((List.length b : Nat) : Int))) (gd (0 ≤ a ∧ a < ((List.length b : Nat) : Int)) <|
 (ref04_proper F (gl b a.toNat)).bind fun d =>
 br (!d) (some ((⟨[]⟩ : Region), (2 : Int))) (gd (I64 (a + (1 : Int))) <|
 c (a + (1 : Int)))) (ref04_Of_k1 F b)
def ref04_Of (F : Nat) (a : (List Rect)) : Option (Region × Int) :=
 br (decide ((120 : Int) < ((List.length a : Nat) : Int))) (some ((⟨[]⟩ : Region), (1 : Int))) (loopN (fun again (z : Int) => ref04_Of_b0 F a again z) F (0 : Int))
def keep_Tape_Region_k1 (F : Nat) (a : (List Rect)) (b : (List Int)) (c : Int) : Option (Tape × Region) :=
 (ref04_Of F a).bind fun d =>
 some ((⟨b, c⟩ : Tape), d.1)
def keep_Tape_Region_b0 (F : Nat) (j : Int) (i : (Int × (List Int) × Int × (List Rect)) → Option (Tape × Region)) (b : Int) (d : (List Int)) (e : Int) (c : (List Rect)) : Option (Tape × Region) :=
 br (decide ((0 : Int) < b)) ((keep_Tape_Rect F (⟨d, e⟩ : Tape) j).bind fun a =>
 gd ((List.length (α := Rect) c) + (List.length (α := Rect) ([a.2] : List Rect)) ≤ LIM) <|
 gd (I64 (b - (1 : Int))) <|
 i ((b - (1 : Int)), a.1.l_, a.1.at_, (c ++ ([a.2] : List Rect)))) (keep_Tape_Region_k1 F c d e)
def keep_Tape_Region (F : Nat) (c : Tape) (d : Int) (b : Int) : Option (Tape × Region) :=
 gd (I64 (b + (1 : Int))) <|
 (keep_Tape_Next F c (b + (1 : Int))).bind fun a =>
 loopN (fun again (z : Int × (List Int) × Int × (List Rect)) => keep_Tape_Region_b0 F d again z.1 z.2.1 z.2.2.1 z.2.2.2) F (a.2, a.1.l_, a.1.at_, ([] : List Rect))
def keep_Tape_Land_k0 (F : Nat) (a : (List Rect)) (b : (List Int)) (c : Int) : Option (Tape × Region) :=
 some ((⟨b, c⟩ : Tape), (⟨a⟩ : Region))
def keep_Tape_Land (F : Nat) (d : Tape) (c : Int) (e : Int) : Option (Tape × Region) :=
 (keep_Tape_Region F d c e).bind fun a =>
 br (((List.length a.2.rects_ : Nat) : Int) == (0 : Int)) ((keep_Tape_Rect F a.1 c).bind fun b =>
 keep_Tape_Land_k0 F ([b.2] : List Rect) b.1.l_ b.1.at_) (keep_Tape_Land_k0 F a.2.rects_ a.1.l_ a.1.at_)
def keep_Tape_Feature (F : Nat) (e : Tape) (i : Int) : Option (Tape × Feature) :=
 (keep_Tape_Next F e (20 : Int)).bind fun a =>
 (keep_Tape_Next F a.1 (16 : Int)).bind fun c =>
 (keep_Tape_Range F c.1 (1 : Int) (30 : Int)).bind fun b =>
 gd (I64 (a.2 + b.2)) <|
 (keep_Tape_Land F b.1 (9 : Int) (2 : Int)).bind fun d =>
 some (d.1, (⟨i, c.2, a.2, (a.2 + b.2), d.2⟩ : Feature))
def ref04_Rects_k1 (F : Nat) : Option (Bool) :=
 some true
def ref04_Rects_b0 (F : Nat) (b : (List Rect)) (c : (List Rect)) (d : (Int) → Option (Bool)) (a : Int) : Option (Bool) :=
 br (decide (a < ((List.length b : Nat) : Int))) (gd (0 ≤ a ∧ a < ((List.length b : Nat) : Int)) <|
 gd (0 ≤ a ∧ a < ((List.length c : Nat) : Int)) <|
 br (!((((gl b a.toNat).left_) == ((gl c a.toNat).left_)) && ((((gl b a.toNat).low_) == ((gl c a.toNat).low_)) && ((((gl b a.toNat).right_) == ((gl c a.toNat).right_)) && ((((gl b a.toNat).high_) == ((gl c a.toNat).high_)) && true))))) (some false) (gd (I64 (a + (1 : Int))) <|
 d (a + (1 : Int)))) (ref04_Rects_k1 F)
def ref04_Rects (F : Nat) (a : (List Rect)) (b : (List Rect)) : Option (Bool) :=
 br (((List.length a : Nat) : Int) != ((List.length b : Nat) : Int)) (some false) (loopN (fun again (z : Int) => ref04_Rects_b0 F a b again z) F (0 : Int))
def ref04_Valid_k1 (F : Nat) (a : Region) : Option (Bool) :=
 (ref04_Combine F a.rects_ ([]) (1 : Int)).bind fun b =>
 (ref04_Rects F b a.rects_).bind fun c =>
 some c
def ref04_Valid_b0 (F : Nat) (b : Region) (c : (Int) → Option (Bool)) (a : Int) : Option (Bool) :=
 br (decide (a < ((List.length b.rects_ : Nat) : Int))) (gd (0 ≤ a ∧ a < ((List.length b.rects_ : Nat) : Int)) <|
 (ref04_proper F (gl b.rects_ a.toNat)).bind fun d =>
 br (!d) (some false) (gd (I64 (a + (1 : Int))) <|
 c (a + (1 : Int)))) (ref04_Valid_k1 F b)
def ref04_Valid (F : Nat) (a : Region) : Option (Bool) :=
 br (decide ((120 : Int) < ((List.length a.rects_ : Nat) : Int))) (some false) (loopN (fun again (z : Int) => ref04_Valid_b0 F a again z) F (0 : Int))
def ref09_one_k3 (F : Nat) (a : Bool) : Option (Int) :=
 br a (some (7 : Int)) (some (0 : Int))
def ref09_one_k2 (F : Nat) (a : Feature) (b : Bool) : Option (Int) :=
 br b (some (9 : Int)) ((ref04_Valid F a.region_).bind fun c =>
 br (!c) (ref09_one_k3 F true) (ref09_one_k3 F (((List.length a.region_.rects_ : Nat) : Int) == (0 : Int))))
def ref09_one_k1 (F : Nat) (a : Feature) (b : Bool) : Option (Int) :=
 br b (some (14 : Int)) (br (decide (a.from_ < (0 : Int))) (ref09_one_k2 F a true) (br (decide (a.until_ ≤ a.from_)) (ref09_one_k2 F a true) (ref09_one_k2 F a (decide ((36865 : Int) < a.until_)))))
def ref09_one_k0 (F : Nat) (a : Feature) (b : Bool) : Option (Int) :=
 br b (some (2 : Int)) (br (decide (a.kind_ < (0 : Int))) (ref09_one_k1 F a true) (ref09_one_k1 F a (decide ((15 : Int) < a.kind_))))
def ref09_one (F : Nat) (a : Feature) : Option (Int) :=
 br (decide (a.number_ < (1 : Int))) (ref09_one_k0 F a true) (ref09_one_k0 F a (decide ((1073741824 : Int) < a.number_)))
def ref09_Check_k1 (F : Nat) (a : Int) (b : (Int) → Option (Int)) (c : Bool) : Option (Int) :=
 br c (some (3 : Int)) (gd (I64 (a + (1 : Int))) <|
 b (a + (1 : Int)))
def ref09_Check_k2 (F : Nat) : Option (Int) :=
 some (0 : Int)
def ref09_Check_b0 (F : Nat) (b : (List Feature)) (c : (Int) → Option (Int)) (a : Int) : Option (Int) :=
 br (decide (a < ((List.length b : Nat) : Int))) (gd (0 ≤ a ∧ a < ((List.length b : Nat) : Int)) <|
 (ref09_one F (gl b a.toNat)).bind fun d =>
 br (d != (0 : Int)) (some d) (br (decide ((0 : Int) < a)) (gd (I64 (a - (1 : Int))) <|
 gd (0 ≤ (a - (1 : Int)) ∧ (a - (1 : Int)) < ((List.length b : Nat) : Int)) <|
 ref09_Check_k1 F a c (decide (((gl b a.toNat).number_) ≤ ((gl b (a - (1 : Int)).toNat).number_)))) (ref09_Check_k1 F a c false))) (ref09_Check_k2 F)
def ref09_Check (F : Nat) (a : (List Feature)) : Option (Int) :=
 br (decide ((60 : Int) < ((List.length a : Nat) : Int))) (some (1 : Int)) (loopN (fun again (z : Int) => ref09_Check_b0 F a again z) F (0 : Int))
def slices_IndexFunc_Rect_k1 (F : Nat) : Option (Int) :=
 some (-1 : Int)
def slices_IndexFunc_Rect_b0 (F : Nat) (b : (List Rect)) (d : Rect → Option Bool) (c : (Int) → Option (Int)) (a : Int) : Option (Int) :=
 br (decide (a < ((List.length b : Nat) : Int))) (gd (0 ≤ a ∧ a < ((List.length b : Nat) : Int)) <|
 (d (gl b a.toNat)).bind fun e =>
 br e (some a) (gd (I64 (a + (1 : Int))) <|
 c (a + (1 : Int)))) (slices_IndexFunc_Rect_k1 F)
def slices_IndexFunc_Rect (F : Nat) (a : (List Rect)) (b : Rect → Option Bool) : Option (Int) :=
 loopN (fun again (z : Int) => slices_IndexFunc_Rect_b0 F a b again z) F (0 : Int)
def slices_ContainsFunc_Rect (F : Nat) (a : (List Rect)) (b : Rect → Option Bool) : Option (Bool) :=
 (slices_IndexFunc_Rect F a b).bind fun c =>
 some (decide ((0 : Int) ≤ c))
def region_proper_k0 (F : Nat) (a : Bool) : Option (Bool) :=
 some a
def region_proper (F : Nat) (a : Rect) : Option (Bool) :=
 br (decide ((0 : Int) ≤ a.left_)) (br (decide (a.left_ < a.right_)) (br (decide (a.right_ ≤ (16384 : Int))) (br (decide ((0 : Int) ≤ a.low_)) (br (decide (a.low_ < a.high_)) (region_proper_k0 F (decide (a.high_ ≤ (16384 : Int)))) (region_proper_k0 F false)) (region_proper_k0 F false)) (region_proper_k0 F false)) (region_proper_k0 F false)) (region_proper_k0 F false)
def region_Valid_1 (F : Nat) (a : Rect) : Option (Bool) :=
 (region_proper F a).bind fun b =>
 some (!b)
def slices_Compact_int_k2 (F : Nat) (a : Int) (b : (Int × Int × (List Int)) → Option ((List Int))) (c : Int) (d : (List Int)) : Option ((List Int)) :=
 gd (I64 (a + (1 : Int))) <|
 b (c, (a + (1 : Int)), d)
def slices_Compact_int_k3 (F : Nat) (a : Int) (b : (List Int)) : Option ((List Int)) :=
 gd (0 ≤ a ∧ a ≤ (((List.length (α := Int) b) : Nat) : Int) ∧ ((0 : Nat) : Int) + (((List.length (α := Int) b) : Nat) : Int) ≤ ((List.length (α := Int) b : Nat) : Int)) <|
 gd (0 ≤ a ∧ a ≤ ((List.length (clr b (0 + (a).toNat) ((List.length (α := Int) b) - (a).toNat)) : Nat) : Int)) <|
 some ((clr b (0 + (a).toNat) ((List.length (α := Int) b) - (a).toNat)).take (a).toNat)
def slices_Compact_int_b1 (F : Nat) (e : (List Int)) (b : Int) (i : (Int × Int × (List Int)) → Option ((List Int))) (d : Int) (a : Int) (c : (List Int)) : Option ((List Int)) :=
 br (decide (a < ((((List.length (α := Int) e) - (b).toNat) : Nat) : Int))) (gd (0 ≤ a ∧ a < ((((List.length (α := Int) e) - (b).toNat) : Nat) : Int)) <|
 gd (((0 + (b).toNat) + (a).toNat) < List.length c) <|
 gd (I64 (a - (1 : Int))) <|
 gd (0 ≤ (a - (1 : Int)) ∧ (a - (1 : Int)) < ((((List.length (α := Int) e) - (b).toNat) : Nat) : Int)) <|
 gd (((0 + (b).toNat) + ((a - (1 : Int))).toNat) < List.length c) <|
 br ((gl c ((0 + (b).toNat) + (a).toNat)) != (gl c ((0 + (b).toNat) + ((a - (1 : Int))).toNat))) (gd (0 ≤ a ∧ a < ((((List.length (α := Int) e) - (b).toNat) : Nat) : Int)) <|
 gd (((0 + (b).toNat) + (a).toNat) < List.length c) <|
 gd (0 ≤ d ∧ d < ((List.length c : Nat) : Int)) <|
 gd (I64 (d + (1 : Int))) <|
 slices_Compact_int_k2 F a i (d + (1 : Int)) (List.set c d.toNat (gl c ((0 + (b).toNat) + (a).toNat)))) (slices_Compact_int_k2 F a i d c)) (slices_Compact_int_k3 F d c)
def slices_Compact_int_k4 (F : Nat) (a : Int) (b : (Int) → Option ((List Int))) : Option ((List Int)) :=
 gd (I64 (a + (1 : Int))) <|
 b (a + (1 : Int))
def slices_Compact_int_k5 (F : Nat) (a : (List Int)) : Option ((List Int)) :=
 some a
def slices_Compact_int_b0 (F : Nat) (b : (List Int)) (c : (Int) → Option ((List Int))) (a : Int) : Option ((List Int)) :=
 br (decide (a < ((List.length b : Nat) : Int))) (gd (0 ≤ a ∧ a < ((List.length b : Nat) : Int)) <|
 gd (I64 (a - (1 : Int))) <|
 gd (0 ≤ (a - (1 : Int)) ∧ (a - (1 : Int)) < ((List.length b : Nat) : Int)) <|
 br ((gl b a.toNat) == (gl b (a - (1 : Int)).toNat)) (gd (0 ≤ a ∧ a ≤ (((List.length (α := Int) b) : Nat) : Int) ∧ ((0 : Nat) : Int) + (((List.length (α := Int) b) : Nat) : Int) ≤ ((List.length (α := Int) b : Nat) : Int)) <|
 loopN (fun again (z : Int × Int × (List Int)) => slices_Compact_int_b1 F b a again z.1 z.2.1 z.2.2) F (a, (1 : Int), b)) (slices_Compact_int_k4 F a c)) (slices_Compact_int_k5 F b)
def slices_Compact_int (F : Nat) (a : (List Int)) : Option ((List Int)) :=
 br (decide (((List.length a : Nat) : Int) < (2 : Int))) (some a) (loopN (fun again (z : Int) => slices_Compact_int_b0 F a again z) F (1 : Int))
def region_Cuts_k2 (F : Nat) (a : Int) (b : (Int × (List Int)) → Option ((List Int))) (c : (List Int)) : Option ((List Int)) :=
 gd (I64 (a + (1 : Int))) <|
 b ((a + (1 : Int)), c)
def region_Cuts_b1 (F : Nat) (c : (List (List Rect))) (b : Int) (e : (Int × (List Int)) → Option ((List Int))) (i : (Int × (List Int)) → Option ((List Int))) (a : Int) (d : (List Int)) : Option ((List Int)) :=
 br (decide (a < ((List.length (gl c b.toNat) : Nat) : Int))) (gd (0 ≤ a ∧ a < ((List.length (gl c b.toNat) : Nat) : Int)) <|
 gd ((List.length (α := Int) d) + (List.length (α := Int) ([(gl (gl c b.toNat) a.toNat).low_, (gl (gl c b.toNat) a.toNat).high_] : List Int)) ≤ LIM) <|
 gd (I64 (a + (1 : Int))) <|
 i ((a + (1 : Int)), (d ++ ([(gl (gl c b.toNat) a.toNat).low_, (gl (gl c b.toNat) a.toNat).high_] : List Int)))) (region_Cuts_k2 F b e d)
def region_Cuts_k3 (F : Nat) (a : (List Int)) : Option ((List Int)) :=
 (sortI a).bind fun b =>
 (slices_Compact_int F b).bind fun c =>
 some c
def region_Cuts_b0 (F : Nat) (b : (List (List Rect))) (d : (Int × (List Int)) → Option ((List Int))) (a : Int) (c : (List Int)) : Option ((List Int)) :=
 br (decide (a < ((List.length b : Nat) : Int))) (gd (0 ≤ a ∧ a < ((List.length b : Nat) : Int)) <|
 loopN (fun again (z : Int × (List Int)) => region_Cuts_b1 F b a d again z.1 z.2) F ((0 : Int), c)) (region_Cuts_k3 F c)
def region_Cuts (F : Nat) (a : (List (List Rect))) : Option ((List Int)) :=
 loopN (fun again (z : Int × (List Int)) => region_Cuts_b0 F a again z.1 z.2) F ((0 : Int), ([] : List Int))
def cmp_isNaN_int (F : Nat) (a : Int) : Option (Bool) :=
 some (a != a)
def cmp_Compare_int (F : Nat) (a : Int) (b : Int) : Option (Int) :=
 (cmp_isNaN_int F a).bind fun d =>
 (cmp_isNaN_int F b).bind fun c =>
 br d (br c (some (0 : Int)) (some (-1 : Int))) (br c (some (1 : Int)) (br (decide (a < b)) (some (-1 : Int)) (br (decide (b < a)) (some (1 : Int)) (some (0 : Int)))))
def region_Row_1 (F : Nat) (a : Span) (b : Span) : Option (Int) :=
 (cmp_Compare_int F a.left_ b.left_).bind fun c =>
 some c
def region_Row_k2 (F : Nat) (a : Int) (b : (Int × (List Span)) → Option ((List Span))) (c : (List Span)) : Option ((List Span)) :=
 gd (I64 (a + (1 : Int))) <|
 b ((a + (1 : Int)), c)
def region_Row_k1 (F : Nat) (b : (List Rect)) (a : Int) (c : (List Span)) (d : (Int × (List Span)) → Option ((List Span))) (e : Bool) : Option ((List Span)) :=
 br e (gd ((List.length (α := Span) c) + (List.length (α := Span) ([(⟨(gl b a.toNat).left_, (gl b a.toNat).right_⟩ : Span)] : List Span)) ≤ LIM) <|
 region_Row_k2 F a d (c ++ ([(⟨(gl b a.toNat).left_, (gl b a.toNat).right_⟩ : Span)] : List Span))) (region_Row_k2 F a d c)
def region_Row_k6 (F : Nat) (a : Int) (b : (Int × (List Span)) → Option ((List Span))) (c : (List Span)) : Option ((List Span)) :=
 gd (I64 (a + (1 : Int))) <|
 b ((a + (1 : Int)), c)
def region_Row_k5 (F : Nat) (c : (List Span)) (b : Int) (a : (List Span)) (d : (Int × (List Span)) → Option ((List Span))) (e : Bool) : Option ((List Span)) :=
 br e (gd (I64 (((List.length a : Nat) : Int) - (1 : Int))) <|
 gd (I64 (((List.length a : Nat) : Int) - (1 : Int))) <|
 gd (0 ≤ (((List.length a : Nat) : Int) - (1 : Int)) ∧ (((List.length a : Nat) : Int) - (1 : Int)) < ((List.length a : Nat) : Int)) <|
 gd (0 ≤ (((List.length a : Nat) : Int) - (1 : Int)) ∧ (((List.length a : Nat) : Int) - (1 : Int)) < ((List.length a : Nat) : Int)) <|
 region_Row_k6 F b d (List.set a (((List.length a : Nat) : Int) - (1 : Int)).toNat (⟨(gl a (((List.length a : Nat) : Int) - (1 : Int)).toNat).left_, (gmax ((gl a (((List.length a : Nat) : Int) - (1 : Int)).toNat).right_) ((gl c b.toNat).right_))⟩ : Span))) (gd ((List.length (α := Span) a) + (List.length (α := Span) ([(gl c b.toNat)] : List Span)) ≤ LIM) <|
 region_Row_k6 F b d (a ++ ([(gl c b.toNat)] : List Span)))
def region_Row_k7 (F : Nat) (a : (List Span)) : Option ((List Span)) :=
 some a
def region_Row_b4 (F : Nat) (c : (List Span)) (d : (Int × (List Span)) → Option ((List Span))) (b : Int) (a : (List Span)) : Option ((List Span)) :=
 br (decide (b < ((List.length c : Nat) : Int))) (gd (0 ≤ b ∧ b < ((List.length c : Nat) : Int)) <|
 br (decide ((0 : Int) < ((List.length a : Nat) : Int))) (gd (I64 (((List.length a : Nat) : Int) - (1 : Int))) <|
 gd (0 ≤ (((List.length a : Nat) : Int) - (1 : Int)) ∧ (((List.length a : Nat) : Int) - (1 : Int)) < ((List.length a : Nat) : Int)) <|
 region_Row_k5 F c b a d (decide (((gl c b.toNat).left_) ≤ ((gl a (((List.length a : Nat) : Int) - (1 : Int)).toNat).right_)))) (region_Row_k5 F c b a d false)) (region_Row_k7 F a)
def region_Row_k3 (F : Nat) (a : (List Span)) : Option ((List Span)) :=
 (sortF a (fun y0 y1 => region_Row_1 F y0 y1)).bind fun b =>
 loopN (fun again (z : Int × (List Span)) => region_Row_b4 F b again z.1 z.2) F ((0 : Int), ([] : List Span))
def region_Row_b0 (F : Nat) (b : (List Rect)) (e : Int) (d : (Int × (List Span)) → Option ((List Span))) (a : Int) (c : (List Span)) : Option ((List Span)) :=
 br (decide (a < ((List.length b : Nat) : Int))) (gd (0 ≤ a ∧ a < ((List.length b : Nat) : Int)) <|
 br (decide (((gl b a.toNat).low_) ≤ e)) (region_Row_k1 F b a c d (decide (e < ((gl b a.toNat).high_)))) (region_Row_k1 F b a c d false)) (region_Row_k3 F c)
def region_Row (F : Nat) (a : (List Rect)) (b : Int) : Option ((List Span)) :=
 loopN (fun again (z : Int × (List Span)) => region_Row_b0 F a b again z.1 z.2) F ((0 : Int), ([] : List Span))
def region_canonical_1 (F : Nat) (a : Int) (b : (List Rect)) : Option ((List Span)) :=
 (region_Row F b a).bind fun c =>
 some c
def slices_Equal_Span_k1 (F : Nat) : Option (Bool) :=
 some true
def slices_Equal_Span_b0 (F : Nat) (b : (List Span)) (c : (List Span)) (d : (Int) → Option (Bool)) (a : Int) : Option (Bool) :=
 br (decide (a < ((List.length b : Nat) : Int))) (gd (0 ≤ a ∧ a < ((List.length b : Nat) : Int)) <|
 gd (0 ≤ a ∧ a < ((List.length c : Nat) : Int)) <|
 br (!((((gl b a.toNat).left_) == ((gl c a.toNat).left_)) && ((((gl b a.toNat).right_) == ((gl c a.toNat).right_)) && true))) (some false) (gd (I64 (a + (1 : Int))) <|
 d (a + (1 : Int)))) (slices_Equal_Span_k1 F)
def slices_Equal_Span (F : Nat) (a : (List Span)) (b : (List Span)) : Option (Bool) :=
 br (((List.length a : Nat) : Int) != ((List.length b : Nat) : Int)) (some false) (loopN (fun again (z : Int) => slices_Equal_Span_b0 F a b again z) F (0 : Int))
def region_rects_k2 (F : Nat) (a : Int) (b : (Int × (List Rect)) → Option ((List Rect))) (c : (List Rect)) : Option ((List Rect)) :=
 gd (I64 (a + (1 : Int))) <|
 b ((a + (1 : Int)), c)
def region_rects_b1 (F : Nat) (b : (List Band)) (a : Int) (e : (Int × (List Rect)) → Option ((List Rect))) (i : (Int × (List Rect)) → Option ((List Rect))) (c : Int) (d : (List Rect)) : Option ((List Rect)) :=
 br (decide (c < ((List.length ((gl b a.toNat).spans_) : Nat) : Int))) (gd (0 ≤ c ∧ c < ((List.length ((gl b a.toNat).spans_) : Nat) : Int)) <|
 gd ((List.length (α := Rect) d) + (List.length (α := Rect) ([(⟨(gl ((gl b a.toNat).spans_) c.toNat).left_, (gl b a.toNat).low_, (gl ((gl b a.toNat).spans_) c.toNat).right_, (gl b a.toNat).high_⟩ : Rect)] : List Rect)) ≤ LIM) <|
 gd (I64 (c + (1 : Int))) <|
 i ((c + (1 : Int)), (d ++ ([(⟨(gl ((gl b a.toNat).spans_) c.toNat).left_, (gl b a.toNat).low_, (gl ((gl b a.toNat).spans_) c.toNat).right_, (gl b a.toNat).high_⟩ : Rect)] : List Rect)))) (region_rects_k2 F a e d)
def region_rects_k3 (F : Nat) (a : (List Rect)) : Option ((List Rect)) :=
 some a
def region_rects_b0 (F : Nat) (b : (List Band)) (d : (Int × (List Rect)) → Option ((List Rect))) (a : Int) (c : (List Rect)) : Option ((List Rect)) :=
 br (decide (a < ((List.length b : Nat) : Int))) (gd (0 ≤ a ∧ a < ((List.length b : Nat) : Int)) <|
 loopN (fun again (z : Int × (List Rect)) => region_rects_b1 F b a d again z.1 z.2) F ((0 : Int), c)) (region_rects_k3 F c)
def region_rects (F : Nat) (a : (List Band)) : Option ((List Rect)) :=
 loopN (fun again (z : Int × (List Rect)) => region_rects_b0 F a again z.1 z.2) F ((0 : Int), ([] : List Rect))
def region_Build_k2 (F : Nat) (a : Int) (b : (Int × (List Band)) → Option ((List Rect))) (c : (List Band)) : Option ((List Rect)) :=
 gd (I64 (a + (1 : Int))) <|
 b ((a + (1 : Int)), c)
def region_Build_k1 (F : Nat) (c : (List Int)) (b : Int) (a : (List Band)) (e : (List Span)) (d : (Int × (List Band)) → Option ((List Rect))) (i : Bool) : Option ((List Rect)) :=
 br i (gd (I64 (((List.length a : Nat) : Int) - (1 : Int))) <|
 gd (0 ≤ (((List.length a : Nat) : Int) - (1 : Int)) ∧ (((List.length a : Nat) : Int) - (1 : Int)) < ((List.length a : Nat) : Int)) <|
 region_Build_k2 F b d (List.set a (((List.length a : Nat) : Int) - (1 : Int)).toNat (⟨(gl a (((List.length a : Nat) : Int) - (1 : Int)).toNat).low_, (gl c b.toNat), (gl a (((List.length a : Nat) : Int) - (1 : Int)).toNat).spans_⟩ : Band))) (gd ((List.length (α := Band) a) + (List.length (α := Band) ([(⟨(gl c (b - (1 : Int)).toNat), (gl c b.toNat), e⟩ : Band)] : List Band)) ≤ LIM) <|
 region_Build_k2 F b d (a ++ ([(⟨(gl c (b - (1 : Int)).toNat), (gl c b.toNat), e⟩ : Band)] : List Band)))
def region_Build_k3 (F : Nat) (a : (List Band)) : Option ((List Rect)) :=
 (region_rects F a).bind fun b =>
 some b
def region_Build_b0 (F : Nat) (c : (List Int)) (i : Int → Option (List Span)) (e : (Int × (List Band)) → Option ((List Rect))) (b : Int) (a : (List Band)) : Option ((List Rect)) :=
 br (decide (b < ((List.length c : Nat) : Int))) (gd (I64 (b - (1 : Int))) <|
 gd (0 ≤ (b - (1 : Int)) ∧ (b - (1 : Int)) < ((List.length c : Nat) : Int)) <|
 gd (0 ≤ b ∧ b < ((List.length c : Nat) : Int)) <|
 gd (I64 (b - (1 : Int))) <|
 gd (0 ≤ (b - (1 : Int)) ∧ (b - (1 : Int)) < ((List.length c : Nat) : Int)) <|
 (i (gl c (b - (1 : Int)).toNat)).bind fun d =>
 br (decide ((0 : Int) < ((List.length a : Nat) : Int))) (gd (I64 (((List.length a : Nat) : Int) - (1 : Int))) <|
 gd (0 ≤ (((List.length a : Nat) : Int) - (1 : Int)) ∧ (((List.length a : Nat) : Int) - (1 : Int)) < ((List.length a : Nat) : Int)) <|
 br (((gl a (((List.length a : Nat) : Int) - (1 : Int)).toNat).high_) == (gl c (b - (1 : Int)).toNat)) (gd (I64 (((List.length a : Nat) : Int) - (1 : Int))) <|
 gd (0 ≤ (((List.length a : Nat) : Int) - (1 : Int)) ∧ (((List.length a : Nat) : Int) - (1 : Int)) < ((List.length a : Nat) : Int)) <|
 (slices_Equal_Span F ((gl a (((List.length a : Nat) : Int) - (1 : Int)).toNat).spans_) d).bind fun j =>
 region_Build_k1 F c b a d e j) (region_Build_k1 F c b a d e false)) (region_Build_k1 F c b a d e false)) (region_Build_k3 F a)
def region_Build (F : Nat) (a : (List Int)) (b : Int → Option (List Span)) : Option ((List Rect)) :=
 loopN (fun again (z : Int × (List Band)) => region_Build_b0 F a b again z.1 z.2) F ((1 : Int), ([] : List Band))
def region_canonical (F : Nat) (a : (List Rect)) : Option ((List Rect)) :=
 (region_Cuts F ([a] : List (List Rect))).bind fun b =>
 (region_Build F b (fun y0 => region_canonical_1 F y0 a)).bind fun c =>
 some c
def slices_Equal_Rect_k1 (F : Nat) : Option (Bool) :=
 some true
def slices_Equal_Rect_b0 (F : Nat) (b : (List Rect)) (c : (List Rect)) (d : (Int) → Option (Bool)) (a : Int) : Option (Bool) :=
 br (decide (a < ((List.length b : Nat) : Int))) (gd (0 ≤ a ∧ a < ((List.length b : Nat) : Int)) <|
 gd (0 ≤ a ∧ a < ((List.length c : Nat) : Int)) <|
 br (!((((gl b a.toNat).left_) == ((gl c a.toNat).left_)) && ((((gl b a.toNat).low_) == ((gl c a.toNat).low_)) && ((((gl b a.toNat).right_) == ((gl c a.toNat).right_)) && ((((gl b a.toNat).high_) == ((gl c a.toNat).high_)) && true))))) (some false) (gd (I64 (a + (1 : Int))) <|
 d (a + (1 : Int)))) (slices_Equal_Rect_k1 F)
def slices_Equal_Rect (F : Nat) (a : (List Rect)) (b : (List Rect)) : Option (Bool) :=
 br (((List.length a : Nat) : Int) != ((List.length b : Nat) : Int)) (some false) (loopN (fun again (z : Int) => slices_Equal_Rect_b0 F a b again z) F (0 : Int))
def region_Valid_k0 (F : Nat) (a : Region) (b : Bool) : Option (Bool) :=
 br b (some false) ((region_canonical F a.rects_).bind fun c =>
 (slices_Equal_Rect F c a.rects_).bind fun d =>
 some d)
def region_Valid (F : Nat) (a : Region) : Option (Bool) :=
 br (decide ((120 : Int) < ((List.length a.rects_ : Nat) : Int))) (region_Valid_k0 F a true) ((slices_ContainsFunc_Rect F a.rects_ (fun y0 => region_Valid_1 F y0)).bind fun b =>
 region_Valid_k0 F a b)
def feature_single_k3 (F : Nat) (a : Bool) : Option (Int) :=
 br a (some (7 : Int)) (some (0 : Int))
def feature_single_k2 (F : Nat) (a : Feature) (b : Bool) : Option (Int) :=
 br b (some (9 : Int)) (br (((List.length a.region_.rects_ : Nat) : Int) == (0 : Int)) (feature_single_k3 F true) ((region_Valid F a.region_).bind fun c =>
 feature_single_k3 F (!c)))
def feature_single_k1 (F : Nat) (a : Feature) (b : Bool) : Option (Int) :=
 br b (some (14 : Int)) (br (decide (a.from_ < (0 : Int))) (feature_single_k2 F a true) (br (decide (a.until_ ≤ a.from_)) (feature_single_k2 F a true) (feature_single_k2 F a (decide ((36865 : Int) < a.until_)))))
def feature_single_k0 (F : Nat) (a : Feature) (b : Bool) : Option (Int) :=
 br b (some (2 : Int)) (br (decide (a.kind_ < (0 : Int))) (feature_single_k1 F a true) (feature_single_k1 F a (decide ((15 : Int) < a.kind_))))
def feature_single (F : Nat) (a : Feature) : Option (Int) :=
 br (decide (a.number_ < (1 : Int))) (feature_single_k0 F a true) (feature_single_k0 F a (decide ((1073741824 : Int) < a.number_)))
def feature_Check_k1 (F : Nat) (a : Int) (b : (Int) → Option (Int)) (c : Bool) : Option (Int) :=
 br c (some (3 : Int)) (gd (I64 (a + (1 : Int))) <|
 b (a + (1 : Int)))
def feature_Check_k2 (F : Nat) : Option (Int) :=
 some (0 : Int)
def feature_Check_b0 (F : Nat) (b : (List Feature)) (c : (Int) → Option (Int)) (a : Int) : Option (Int) :=
 br (decide (a < ((List.length b : Nat) : Int))) (gd (0 ≤ a ∧ a < ((List.length b : Nat) : Int)) <|
 (feature_single F (gl b a.toNat)).bind fun d =>
 br (d != (0 : Int)) (some d) (br (decide ((0 : Int) < a)) (gd (I64 (a - (1 : Int))) <|
 gd (0 ≤ (a - (1 : Int)) ∧ (a - (1 : Int)) < ((List.length b : Nat) : Int)) <|
 feature_Check_k1 F a c (decide (((gl b a.toNat).number_) ≤ ((gl b (a - (1 : Int)).toNat).number_)))) (feature_Check_k1 F a c false))) (feature_Check_k2 F)
def feature_Check (F : Nat) (a : (List Feature)) : Option (Int) :=
 br (decide ((60 : Int) < ((List.length a : Nat) : Int))) (some (1 : Int)) (loopN (fun again (z : Int) => feature_Check_b0 F a again z) F (0 : Int))
def feature_right_k0 (F : Nat) (a : Bool) : Option (Int) :=
 br a (some (9 : Int)) (some (0 : Int))
def feature_right (F : Nat) (c : (List Feature)) (a : Int) : Option (Int) :=
 (feature_Check F c).bind fun b =>
 br (b != (0 : Int)) (some b) (br (decide (a < (0 : Int))) (feature_right_k0 F true) (feature_right_k0 F (decide ((36864 : Int) < a))))
def slices_Clone_Rect (F : Nat) (a : (List Rect)) : Option ((List Rect)) :=
 brN (List.length a) (some ([])) (gd ((0) + (List.length (α := Rect) a) ≤ LIM) <|
 some (([] : List Rect) ++ a))
def feature_copied (F : Nat) (a : Feature) : Option (Feature) :=
 (slices_Clone_Rect F a.region_.rects_).bind fun b =>
 some (⟨a.number_, a.kind_, a.from_, a.until_, (⟨b⟩ : Region)⟩ : Feature)
def feature_all_k1 (F : Nat) (a : (List Feature)) : Option ((List Feature)) :=
 some a
def feature_all_b0 (F : Nat) (c : (List Feature)) (e : (Int × (List Feature)) → Option ((List Feature))) (a : Int) (b : (List Feature)) : Option ((List Feature)) :=
 br (decide (a < ((List.length c : Nat) : Int))) (gd (0 ≤ a ∧ a < ((List.length c : Nat) : Int)) <|
 (feature_copied F (gl c a.toNat)).bind fun d =>
 gd ((List.length (α := Feature) b) + (List.length (α := Feature) ([d] : List Feature)) ≤ LIM) <|
 gd (I64 (a + (1 : Int))) <|
 e ((a + (1 : Int)), (b ++ ([d] : List Feature)))) (feature_all_k1 F b)
def feature_all (F : Nat) (a : (List Feature)) : Option ((List Feature)) :=
 loopN (fun again (z : Int × (List Feature)) => feature_all_b0 F a again z.1 z.2) F ((0 : Int), ([] : List Feature))
def feature_there_k0 (F : Nat) (a : Bool) : Option (Bool) :=
 some a
def feature_there (F : Nat) (a : Feature) (b : Int) : Option (Bool) :=
 br (decide (a.from_ ≤ b)) (feature_there_k0 F (decide (b < a.until_))) (feature_there_k0 F false)
def feature_On_1 (F : Nat) (a : Feature) (b : Int) : Option (Bool) :=
 (feature_there F a b).bind fun c =>
 some (!c)
def slices_IndexFunc_Feature_k1 (F : Nat) : Option (Int) :=
 some (-1 : Int)
def slices_IndexFunc_Feature_b0 (F : Nat) (b : (List Feature)) (d : Feature → Option Bool) (c : (Int) → Option (Int)) (a : Int) : Option (Int) :=
 br (decide (a < ((List.length b : Nat) : Int))) (gd (0 ≤ a ∧ a < ((List.length b : Nat) : Int)) <|
 (d (gl b a.toNat)).bind fun e =>
 br e (some a) (gd (I64 (a + (1 : Int))) <|
 c (a + (1 : Int)))) (slices_IndexFunc_Feature_k1 F)
def slices_IndexFunc_Feature (F : Nat) (a : (List Feature)) (b : Feature → Option Bool) : Option (Int) :=
 loopN (fun again (z : Int) => slices_IndexFunc_Feature_b0 F a b again z) F (0 : Int)
def slices_DeleteFunc_Feature_k1 (F : Nat) (a : Int) (b : (Int × Int × (List Feature)) → Option ((List Feature))) (c : Int) (d : (List Feature)) : Option ((List Feature)) :=
 gd (I64 (a + (1 : Int))) <|
 b (c, (a + (1 : Int)), d)
def slices_DeleteFunc_Feature_k2 (F : Nat) (a : Int) (b : (List Feature)) : Option ((List Feature)) :=
 gd (0 ≤ a ∧ a ≤ (((List.length (α := Feature) b) : Nat) : Int) ∧ ((0 : Nat) : Int) + (((List.length (α := Feature) b) : Nat) : Int) ≤ ((List.length (α := Feature) b : Nat) : Int)) <|
 gd (0 ≤ a ∧ a ≤ ((List.length (clr b (0 + (a).toNat) ((List.length (α := Feature) b) - (a).toNat)) : Nat) : Int)) <|
 some ((clr b (0 + (a).toNat) ((List.length (α := Feature) b) - (a).toNat)).take (a).toNat)
def slices_DeleteFunc_Feature_b0 (F : Nat) (e : Feature → Option Bool) (d : (Int × Int × (List Feature)) → Option ((List Feature))) (b : Int) (c : Int) (a : (List Feature)) : Option ((List Feature)) :=
 br (decide (c < ((List.length a : Nat) : Int))) (gd (0 ≤ c ∧ c < ((List.length a : Nat) : Int)) <|
 (e (gl a c.toNat)).bind fun i =>
 br (!i) (gd (0 ≤ b ∧ b < ((List.length a : Nat) : Int)) <|
 gd (I64 (b + (1 : Int))) <|
 slices_DeleteFunc_Feature_k1 F c d (b + (1 : Int)) (List.set a b.toNat (gl a c.toNat))) (slices_DeleteFunc_Feature_k1 F c d b a)) (slices_DeleteFunc_Feature_k2 F b a)
def slices_DeleteFunc_Feature (F : Nat) (b : (List Feature)) (c : Feature → Option Bool) : Option ((List Feature)) :=
 (slices_IndexFunc_Feature F b c).bind fun a =>
 br (a == (-1 : Int)) (some b) (gd (I64 (a + (1 : Int))) <|
 loopN (fun again (z : Int × Int × (List Feature)) => slices_DeleteFunc_Feature_b0 F c again z.1 z.2.1 z.2.2) F (a, (a + (1 : Int)), b))
def feature_On (F : Nat) (a : (List Feature)) (b : Int) : Option ((List Feature) × Int) :=
 (feature_right F a b).bind fun c =>
 br (c != (0 : Int)) (some ([], c)) ((feature_all F a).bind fun d =>
 (slices_DeleteFunc_Feature F d (fun y0 => feature_On_1 F y0 b)).bind fun e =>
 some (e, (0 : Int)))
def ref04_Same (F : Nat) (a : Region) (b : Region) : Option (Bool) :=
 (ref04_Rects F a.rects_ b.rects_).bind fun c =>
 some c
end
end Go.Ab
end

section
namespace Go.Ab
set_option linter.unusedVariables false
set_option maxRecDepth 100000
noncomputable section
structure Crop where
 name_ : ByteArray
 family_ : Int
 marks_ : Int
 deriving DecidableEq
instance : Emb Crop := ⟨fun x => [.str x.name_, .int .i64 x.family_, .int .i64 x.marks_], 3, ⟨ByteArray.empty, 0, 0⟩, fun _ => rfl⟩
structure Record where
 year_ : Int
 crop_ : Int
 region_ : Region
 deriving DecidableEq
instance : Emb Record := ⟨fun x => [.int .i64 x.year_, .int .i64 x.crop_, DL (α := Rect) x.region_.rects_], 3, ⟨0, 0, ⟨[]⟩⟩, fun _ => rfl⟩
structure Arr2Region where
 e0_ : Region
 e1_ : Region
 deriving DecidableEq
instance : Emb Arr2Region := ⟨fun x => [DL (α := Rect) x.e0_.rects_, DL (α := Rect) x.e1_.rects_], 2, ⟨⟨[]⟩, ⟨[]⟩⟩, fun _ => rfl⟩
structure Arr2Int where
 e0_ : Int
 e1_ : Int
 deriving DecidableEq
instance : Emb Arr2Int := ⟨fun x => [.int .i64 x.e0_, .int .i64 x.e1_], 2, ⟨0, 0⟩, fun _ => rfl⟩
structure Records where
 l_ : (List Record)
 crops_ : (List Crop)
 deriving DecidableEq
instance : Emb Records := ⟨fun x => [DL (α := Record) x.l_, DL (α := Crop) x.crops_], 2, ⟨[], []⟩, fun _ => rfl⟩
def FR_Int_Bool (q : Int → Option Bool) : List AVal → AVal → Prop := fun args r => ∃ x0 y, q x0 = some y ∧ args = [vi x0] ∧ r = vb y
def FR_Span_Bool (q : Span → Option Bool) : List AVal → AVal → Prop := fun args r => ∃ x0 y, q x0 = some y ∧ args = [gE x0] ∧ r = vb y
def FR_Bool_Bool_Bool (q : Bool → Bool → Option Bool) : List AVal → AVal → Prop := fun args r => ∃ x0 x1 y, q x0 x1 = some y ∧ args = [vb x0, vb x1] ∧ r = vb y
def feature_Kind_1 (F : Nat) (a : Int) (b : Int) : Option (Bool) :=
 some (a == b)
def feature_Rects_k2 (F : Nat) (a : Int) (b : (Int × (List Rect)) → Option ((List Rect))) (c : (List Rect)) : Option ((List Rect)) :=
 gd (I64 (a + (1 : Int))) <|
 b ((a + (1 : Int)), c)
def feature_Rects_k1 (F : Nat) (d : (List Feature)) (a : Int) (b : (List Rect)) (c : (Int × (List Rect)) → Option ((List Rect))) (e : Bool) : Option ((List Rect)) :=
 br e (gd ((List.length (α := Rect) b) + (List.length (α := Rect) ((gl d a.toNat).region_.rects_)) ≤ LIM) <|
 feature_Rects_k2 F a c (b ++ ((gl d a.toNat).region_.rects_))) (feature_Rects_k2 F a c b)
def feature_Rects_k3 (F : Nat) (a : (List Rect)) : Option ((List Rect)) :=
 some a
def feature_Rects_b0 (F : Nat) (b : (List Feature)) (e : Int) (i : Int → Option Bool) (d : (Int × (List Rect)) → Option ((List Rect))) (a : Int) (c : (List Rect)) : Option ((List Rect)) :=
 br (decide (a < ((List.length b : Nat) : Int))) (gd (0 ≤ a ∧ a < ((List.length b : Nat) : Int)) <|
 (feature_there F (gl b a.toNat) e).bind fun j =>
 br j ((i ((gl b a.toNat).kind_)).bind fun k =>
 feature_Rects_k1 F b a c d k) (feature_Rects_k1 F b a c d false)) (feature_Rects_k3 F c)
def feature_Rects (F : Nat) (a : (List Feature)) (b : Int) (c : Int → Option Bool) : Option ((List Rect)) :=
 loopN (fun again (z : Int × (List Rect)) => feature_Rects_b0 F a b c again z.1 z.2) F ((0 : Int), ([] : List Rect))
def region_Limited (F : Nat) (a : (List Rect)) : Option (Region × Int) :=
 br (decide ((120 : Int) < ((List.length a : Nat) : Int))) (some ((⟨[]⟩ : Region), (1 : Int))) (some ((⟨a⟩ : Region), (0 : Int)))
def region_Joined (F : Nat) (b : (List Rect)) : Option (Region × Int) :=
 (region_canonical F b).bind fun c =>
 (region_Limited F c).bind fun a =>
 some (a.1, a.2)
def feature_Kind_k0 (F : Nat) (c : (List Feature)) (d : Int) (e : Int) (b : Bool) : Option (Region × Int) :=
 br b (some ((⟨[]⟩ : Region), (14 : Int))) ((feature_Rects F c e (fun y0 => feature_Kind_1 F y0 d)).bind fun i =>
 (region_Joined F i).bind fun a =>
 some (a.1, a.2))
def feature_Kind (F : Nat) (b : (List Feature)) (a : Int) (c : Int) : Option (Region × Int) :=
 (feature_right F b c).bind fun d =>
 br (d != (0 : Int)) (some ((⟨[]⟩ : Region), d)) (br (decide (a < (0 : Int))) (feature_Kind_k0 F b a c true) (feature_Kind_k0 F b a c (decide ((15 : Int) < a))))
def ref04_Has_k0 (F : Nat) (a : Bool) : Option (Bool) :=
 some a
def ref04_Has (F : Nat) (a : Region) (b : Int) (c : Int) : Option (Bool) :=
 (ref04_Valid F a).bind fun d =>
 br d ((ref04_inside F a.rects_ b c).bind fun e =>
 ref04_Has_k0 F e) (ref04_Has_k0 F false)
def shape_common_k3 (F : Nat) (a : Int) : Option (Int) :=
 some a
def shape_common_k2 (F : Nat) (a : Rect) (b : Rect) (c : Int) (d : Bool) : Option (Int) :=
 br d (gd (I64 ((gmin a.right_ b.right_) - (gmax a.left_ b.left_))) <|
 gd (I64 (c + (gmax (0 : Int) ((gmin a.right_ b.right_) - (gmax a.left_ b.left_))))) <|
 shape_common_k3 F (c + (gmax (0 : Int) ((gmin a.right_ b.right_) - (gmax a.left_ b.left_))))) (shape_common_k3 F c)
def shape_common_k1 (F : Nat) (a : Rect) (b : Rect) (c : Int) : Option (Int) :=
 br (a.high_ == b.low_) (shape_common_k2 F a b c true) (shape_common_k2 F a b c (b.high_ == a.low_))
def shape_common_k0 (F : Nat) (a : Rect) (b : Rect) (c : Bool) : Option (Int) :=
 br c (gd (I64 ((gmin a.high_ b.high_) - (gmax a.low_ b.low_))) <|
 gd (I64 ((0 : Int) + (gmax (0 : Int) ((gmin a.high_ b.high_) - (gmax a.low_ b.low_))))) <|
 shape_common_k1 F a b ((0 : Int) + (gmax (0 : Int) ((gmin a.high_ b.high_) - (gmax a.low_ b.low_))))) (shape_common_k1 F a b (0 : Int))
def shape_common (F : Nat) (a : Rect) (b : Rect) : Option (Int) :=
 br (a.right_ == b.left_) (shape_common_k0 F a b true) (shape_common_k0 F a b (b.right_ == a.left_))
def shape_Joined_1_k1 (F : Nat) (a : Bool) (b : (List Rect)) : Option ((List Rect) × Bool) :=
 some (b, a)
def shape_Joined_1_k0 (F : Nat) (c : Rect) (b : (List Rect)) (a : Bool) : Option ((List Rect) × Bool) :=
 br a (gd ((List.length (α := Rect) b) + (List.length (α := Rect) ([c] : List Rect)) ≤ LIM) <|
 shape_Joined_1_k1 F a (b ++ ([c] : List Rect))) (shape_Joined_1_k1 F a b)
def shape_Joined_1 (F : Nat) (c : Rect) (a : (List Rect)) (b : Int) : Option ((List Rect) × Bool) :=
 gd (0 ≤ b ∧ b < ((List.length a : Nat) : Int)) <|
 (shape_common F (gl a b.toNat) c).bind fun d =>
 shape_Joined_1_k0 F c a (decide ((0 : Int) < d))
def slices_Clone_Rect_O (F : Nat) (a : (List Rect)) : Option ((List Rect)) :=
 brN (List.length a) (some ([] : List Rect)) (gd ((0) + (List.length (α := Rect) a) ≤ LIM) <|
 some (([] : List Rect) ++ a))
def slices_IndexFunc_Rect_J_k1 (F : Nat) (b : (List Rect)) (a : (List Rect)) : Option ((List Rect) × (List Rect) × Int) :=
 some (b, a, (-1 : Int))
def slices_IndexFunc_Rect_J_b0 (F : Nat) (b : (List Rect)) (i : Int) (e : (Int × (List Rect)) → Option ((List Rect) × (List Rect) × Int)) (a : Int) (d : (List Rect)) : Option ((List Rect) × (List Rect) × Int) :=
 br (decide (a < ((List.length b : Nat) : Int))) (gd (0 ≤ a ∧ a < ((List.length b : Nat) : Int)) <|
 (shape_Joined_1 F (gl b a.toNat) d i).bind fun c =>
 br c.2 (some (b, c.1, a)) (gd (I64 (a + (1 : Int))) <|
 e ((a + (1 : Int)), c.1))) (slices_IndexFunc_Rect_J_k1 F b d)
def slices_IndexFunc_Rect_J (F : Nat) (a : (List Rect)) (b : (List Rect)) (c : Int) : Option ((List Rect) × (List Rect) × Int) :=
 loopN (fun again (z : Int × (List Rect)) => slices_IndexFunc_Rect_J_b0 F a c again z.1 z.2) F ((0 : Int), b)
def slices_DeleteFunc_Rect_J_k1 (F : Nat) (a : Int) (b : (Int × Int × (List Rect) × (List Rect)) → Option ((List Rect) × (List Rect))) (c : Int) (d : (List Rect)) (e : (List Rect)) : Option ((List Rect) × (List Rect)) :=
 gd (I64 (a + (1 : Int))) <|
 b (c, (a + (1 : Int)), d, e)
def slices_DeleteFunc_Rect_J_k2 (F : Nat) (a : Int) (b : (List Rect)) (c : (List Rect)) : Option ((List Rect) × (List Rect)) :=
 gd (0 ≤ a ∧ a ≤ (((List.length (α := Rect) b) : Nat) : Int) ∧ ((0 : Nat) : Int) + (((List.length (α := Rect) b) : Nat) : Int) ≤ ((List.length (α := Rect) b : Nat) : Int)) <|
 gd (0 ≤ a ∧ a ≤ ((List.length (clr b (0 + (a).toNat) ((List.length (α := Rect) b) - (a).toNat)) : Nat) : Int)) <|
 some (c, ((clr b (0 + (a).toNat) ((List.length (α := Rect) b) - (a).toNat)).take (a).toNat))
def slices_DeleteFunc_Rect_J_b0 (F : Nat) (j : Int) (e : (Int × Int × (List Rect) × (List Rect)) → Option ((List Rect) × (List Rect))) (b : Int) (c : Int) (a : (List Rect)) (i : (List Rect)) : Option ((List Rect) × (List Rect)) :=
 br (decide (c < ((List.length a : Nat) : Int))) (gd (0 ≤ c ∧ c < ((List.length a : Nat) : Int)) <|
 (shape_Joined_1 F (gl a c.toNat) i j).bind fun d =>
 br (!d.2) (gd (0 ≤ b ∧ b < ((List.length a : Nat) : Int)) <|
 gd (I64 (b + (1 : Int))) <|
 slices_DeleteFunc_Rect_J_k1 F c e (b + (1 : Int)) (List.set a b.toNat (gl a c.toNat)) d.1) (slices_DeleteFunc_Rect_J_k1 F c e b a d.1)) (slices_DeleteFunc_Rect_J_k2 F b a i)
def slices_DeleteFunc_Rect_J (F : Nat) (c : (List Rect)) (d : (List Rect)) (b : Int) : Option ((List Rect) × (List Rect)) :=
 (slices_IndexFunc_Rect_J F c d b).bind fun a =>
 br (a.2.2 == (-1 : Int)) (some (a.2.1, a.1)) (gd (I64 (a.2.2 + (1 : Int))) <|
 loopN (fun again (z : Int × Int × (List Rect) × (List Rect)) => slices_DeleteFunc_Rect_J_b0 F b again z.1 z.2.1 z.2.2.1 z.2.2.2) F (a.2.2, (a.2.2 + (1 : Int)), a.1, a.2.1))
def shape_Joined_k2 (F : Nat) (a : (List Rect)) (b : (List Rect)) : Option ((List Rect) × (List Rect)) :=
 some (b, a)
def shape_Joined_k1 (F : Nat) (c : (List Rect)) (a : Int) (b : (List Rect)) (e : ((List Rect) × Int × (List Rect)) → Option ((List Rect) × (List Rect))) : Option ((List Rect) × (List Rect)) :=
 br (decide (a < ((List.length b : Nat) : Int))) ((slices_DeleteFunc_Rect_J F c b a).bind fun d =>
 gd (I64 (a + (1 : Int))) <|
 e (d.2, (a + (1 : Int)), d.1)) (shape_Joined_k2 F c b)
def shape_Joined_b0 (F : Nat) (a : ((List Rect) × Int × (List Rect)) → Option ((List Rect) × (List Rect))) (b : (List Rect)) (c : Int) (d : (List Rect)) : Option ((List Rect) × (List Rect)) :=
 shape_Joined_k1 F b c d a
def shape_Joined (F : Nat) (a : (List Rect)) : Option ((List Rect) × (List Rect)) :=
 gd ((1 : Int) ≤ ((List.length a : Nat) : Int)) <|
 gd (0 ≤ (1 : Int) ∧ (1 : Int) ≤ ((List.length a : Nat) : Int)) <|
 (slices_Clone_Rect_O F (a.drop (1 : Int).toNat)).bind fun b =>
 loopN (fun again (z : (List Rect) × Int × (List Rect)) => shape_Joined_b0 F again z.1 z.2.1 z.2.2) F (b, (0 : Int), (a.take ((1 : Int)).toNat))
def region_Of_1 (F : Nat) (a : Rect) : Option (Bool) :=
 (region_proper F a).bind fun b =>
 some (!b)
def region_Of (F : Nat) (a : (List Rect)) : Option (Region × Int) :=
 br (decide ((120 : Int) < ((List.length a : Nat) : Int))) (some ((⟨[]⟩ : Region), (1 : Int))) ((slices_ContainsFunc_Rect F a (fun y0 => region_Of_1 F y0)).bind fun c =>
 br c (some ((⟨[]⟩ : Region), (2 : Int))) ((region_canonical F a).bind fun d =>
 (region_Limited F d).bind fun b =>
 some (b.1, b.2)))
def shape_check_k0 (F : Nat) (a : Bool) : Option (Int) :=
 br a (some (2 : Int)) (some (0 : Int))
def shape_check (F : Nat) (b : Region) (a : Int) : Option (Int) :=
 (region_Valid F b).bind fun c =>
 br (!c) (some (7 : Int)) (br (decide (a < (0 : Int))) (shape_check_k0 F true) (shape_check_k0 F (decide ((64 : Int) < a))))
def shape_wider_k1 (F : Nat) (a : (List Rect)) : Option ((List Rect)) :=
 some a
def shape_wider_b0 (F : Nat) (b : (List Rect)) (c : Int) (e : (Int × (List Rect)) → Option ((List Rect))) (a : Int) (d : (List Rect)) : Option ((List Rect)) :=
 br (decide (a < ((List.length b : Nat) : Int))) (gd (0 ≤ a ∧ a < ((List.length b : Nat) : Int)) <|
 gd (I64 (((gl b a.toNat).left_) - c)) <|
 gd (I64 (((gl b a.toNat).low_) - c)) <|
 gd (I64 (((gl b a.toNat).right_) + c)) <|
 gd (I64 (((gl b a.toNat).high_) + c)) <|
 gd ((List.length (α := Rect) d) + (List.length (α := Rect) ([(⟨(((gl b a.toNat).left_) - c), (((gl b a.toNat).low_) - c), (((gl b a.toNat).right_) + c), (((gl b a.toNat).high_) + c)⟩ : Rect)] : List Rect)) ≤ LIM) <|
 gd (I64 (a + (1 : Int))) <|
 e ((a + (1 : Int)), (d ++ ([(⟨(((gl b a.toNat).left_) - c), (((gl b a.toNat).low_) - c), (((gl b a.toNat).right_) + c), (((gl b a.toNat).high_) + c)⟩ : Rect)] : List Rect)))) (shape_wider_k1 F d)
def shape_wider (F : Nat) (a : (List Rect)) (b : Int) : Option ((List Rect)) :=
 loopN (fun again (z : Int × (List Rect)) => shape_wider_b0 F a b again z.1 z.2) F ((0 : Int), ([] : List Rect))
def shape_Grow_k1 (F : Nat) (b : (List Rect)) : Option (Region × Int) :=
 (region_Of F b).bind fun a =>
 some (a.1, a.2)
def shape_Grow_b0 (F : Nat) (d : (List Rect)) (c : (Int × (List Rect)) → Option (Region × Int)) (a : Int) (b : (List Rect)) : Option (Region × Int) :=
 br (decide (a < ((List.length d : Nat) : Int))) (gd (0 ≤ a ∧ a < ((List.length b : Nat) : Int)) <|
 gd (0 ≤ a ∧ a < ((List.length b : Nat) : Int)) <|
 gd (I64 (a + (1 : Int))) <|
 c ((a + (1 : Int)), (List.set b a.toNat (⟨(gmax (0 : Int) ((gl b a.toNat).left_)), (gmax (0 : Int) ((gl b a.toNat).low_)), (gmin (16384 : Int) ((gl b a.toNat).right_)), (gmin (16384 : Int) ((gl b a.toNat).high_))⟩ : Rect)))) (shape_Grow_k1 F b)
def shape_Grow (F : Nat) (a : Region) (b : Int) : Option (Region × Int) :=
 (shape_check F a b).bind fun c =>
 br (c != (0 : Int)) (some ((⟨[]⟩ : Region), c)) ((shape_wider F a.rects_ b).bind fun d =>
 loopN (fun again (z : Int × (List Rect)) => shape_Grow_b0 F d again z.1 z.2) F ((0 : Int), d))
def ref04_Size_k1 (F : Nat) (a : Int) : Option (Int) :=
 some a
def ref04_Size_b0 (F : Nat) (b : (List Rect)) (d : (Int × Int) → Option (Int)) (c : Int) (a : Int) : Option (Int) :=
 br (decide (a < ((List.length b : Nat) : Int))) (gd (0 ≤ a ∧ a < ((List.length b : Nat) : Int)) <|
 gd (I64 (((gl b a.toNat).right_) - ((gl b a.toNat).left_))) <|
 gd (I64 (((gl b a.toNat).high_) - ((gl b a.toNat).low_))) <|
 gd (I64 ((((gl b a.toNat).right_) - ((gl b a.toNat).left_)) * (((gl b a.toNat).high_) - ((gl b a.toNat).low_)))) <|
 gd (I64 (c + ((((gl b a.toNat).right_) - ((gl b a.toNat).left_)) * (((gl b a.toNat).high_) - ((gl b a.toNat).low_))))) <|
 gd (I64 (a + (1 : Int))) <|
 d ((c + ((((gl b a.toNat).right_) - ((gl b a.toNat).left_)) * (((gl b a.toNat).high_) - ((gl b a.toNat).low_)))), (a + (1 : Int)))) (ref04_Size_k1 F c)
def ref04_Size (F : Nat) (a : (List Rect)) : Option (Int) :=
 loopN (fun again (z : Int × Int) => ref04_Size_b0 F a again z.1 z.2) F ((0 : Int), (0 : Int))
def ref04_Area (F : Nat) (a : Region) : Option (Int) :=
 (ref04_Valid F a).bind fun b =>
 br (!b) (some (0 : Int)) ((ref04_Size F a.rects_).bind fun c =>
 some c)
def slices_Concat_Span_k3 (F : Nat) (a : (List Span)) : Option ((List Span)) :=
 some a
def slices_Concat_Span_b2 (F : Nat) (b : (List (List Span))) (d : (Int × (List Span)) → Option ((List Span))) (a : Int) (c : (List Span)) : Option ((List Span)) :=
 br (decide (a < ((List.length b : Nat) : Int))) (gd (0 ≤ a ∧ a < ((List.length b : Nat) : Int)) <|
 gd ((List.length (α := Span) c) + (List.length (α := Span) (gl b a.toNat)) ≤ LIM) <|
 gd (I64 (a + (1 : Int))) <|
 d ((a + (1 : Int)), (c ++ (gl b a.toNat)))) (slices_Concat_Span_k3 F c)
def slices_Concat_Span_k1 (F : Nat) (b : (List (List Span))) (a : Int) : Option ((List Span)) :=
 (growN a).bind fun c =>
 loopN (fun again (z : Int × (List Span)) => slices_Concat_Span_b2 F b again z.1 z.2) F ((0 : Int), c)
def slices_Concat_Span_b0 (F : Nat) (b : (List (List Span))) (d : (Int × Int) → Option ((List Span))) (c : Int) (a : Int) : Option ((List Span)) :=
 br (decide (a < ((List.length b : Nat) : Int))) (gd (0 ≤ a ∧ a < ((List.length b : Nat) : Int)) <|
 gd (I64 (c + ((List.length (gl b a.toNat) : Nat) : Int))) <|
 br (decide ((c + ((List.length (gl b a.toNat) : Nat) : Int)) < (0 : Int))) (none) (gd (I64 (a + (1 : Int))) <|
 d ((c + ((List.length (gl b a.toNat) : Nat) : Int)), (a + (1 : Int))))) (slices_Concat_Span_k1 F b c)
def slices_Concat_Span (F : Nat) (a : (List (List Span))) : Option ((List Span)) :=
 loopN (fun again (z : Int × Int) => slices_Concat_Span_b0 F a again z.1 z.2) F ((0 : Int), (0 : Int))
def region_inside_1_k0 (F : Nat) (a : Bool) : Option (Bool) :=
 some a
def region_inside_1 (F : Nat) (a : Span) (b : Int) : Option (Bool) :=
 br (decide (a.left_ ≤ b)) (region_inside_1_k0 F (decide (b < a.right_))) (region_inside_1_k0 F false)
def slices_IndexFunc_Span_k1 (F : Nat) : Option (Int) :=
 some (-1 : Int)
def slices_IndexFunc_Span_b0 (F : Nat) (b : (List Span)) (d : Span → Option Bool) (c : (Int) → Option (Int)) (a : Int) : Option (Int) :=
 br (decide (a < ((List.length b : Nat) : Int))) (gd (0 ≤ a ∧ a < ((List.length b : Nat) : Int)) <|
 (d (gl b a.toNat)).bind fun e =>
 br e (some a) (gd (I64 (a + (1 : Int))) <|
 c (a + (1 : Int)))) (slices_IndexFunc_Span_k1 F)
def slices_IndexFunc_Span (F : Nat) (a : (List Span)) (b : Span → Option Bool) : Option (Int) :=
 loopN (fun again (z : Int) => slices_IndexFunc_Span_b0 F a b again z) F (0 : Int)
def slices_ContainsFunc_Span (F : Nat) (a : (List Span)) (b : Span → Option Bool) : Option (Bool) :=
 (slices_IndexFunc_Span F a b).bind fun c =>
 some (decide ((0 : Int) ≤ c))
def region_inside (F : Nat) (a : (List Span)) (b : Int) : Option (Bool) :=
 (slices_ContainsFunc_Span F a (fun y0 => region_inside_1 F y0 b)).bind fun c =>
 some c
def region_merge_k4 (F : Nat) (a : Int) (b : (Int × (List Span)) → Option ((List Span))) (c : (List Span)) : Option ((List Span)) :=
 gd (I64 (a + (1 : Int))) <|
 b ((a + (1 : Int)), c)
def region_merge_k3 (F : Nat) (c : (List Int)) (a : Int) (b : (List Span)) (d : (Int × (List Span)) → Option ((List Span))) (e : Bool) : Option ((List Span)) :=
 br e (gd (I64 (((List.length b : Nat) : Int) - (1 : Int))) <|
 gd (0 ≤ a ∧ a < ((List.length c : Nat) : Int)) <|
 gd (0 ≤ (((List.length b : Nat) : Int) - (1 : Int)) ∧ (((List.length b : Nat) : Int) - (1 : Int)) < ((List.length b : Nat) : Int)) <|
 region_merge_k4 F a d (List.set b (((List.length b : Nat) : Int) - (1 : Int)).toNat (⟨(gl b (((List.length b : Nat) : Int) - (1 : Int)).toNat).left_, (gl c a.toNat)⟩ : Span))) (gd (0 ≤ a ∧ a < ((List.length c : Nat) : Int)) <|
 gd ((List.length (α := Span) b) + (List.length (α := Span) ([(⟨(gl c (a - (1 : Int)).toNat), (gl c a.toNat)⟩ : Span)] : List Span)) ≤ LIM) <|
 region_merge_k4 F a d (b ++ ([(⟨(gl c (a - (1 : Int)).toNat), (gl c a.toNat)⟩ : Span)] : List Span)))
def region_merge_k5 (F : Nat) (a : (List Span)) : Option ((List Span)) :=
 some a
def region_merge_b2 (F : Nat) (e : (List Span)) (i : (List Span)) (j : Bool → Bool → Option Bool) (c : (List Int)) (d : (Int × (List Span)) → Option ((List Span))) (b : Int) (a : (List Span)) : Option ((List Span)) :=
 br (decide (b < ((List.length c : Nat) : Int))) (gd (I64 (b - (1 : Int))) <|
 gd (0 ≤ (b - (1 : Int)) ∧ (b - (1 : Int)) < ((List.length c : Nat) : Int)) <|
 (region_inside F e (gl c (b - (1 : Int)).toNat)).bind fun k =>
 (region_inside F i (gl c (b - (1 : Int)).toNat)).bind fun l =>
 (j k l).bind fun m =>
 br (!m) (region_merge_k4 F b d a) (br (decide ((0 : Int) < ((List.length a : Nat) : Int))) (gd (I64 (((List.length a : Nat) : Int) - (1 : Int))) <|
 gd (0 ≤ (((List.length a : Nat) : Int) - (1 : Int)) ∧ (((List.length a : Nat) : Int) - (1 : Int)) < ((List.length a : Nat) : Int)) <|
 region_merge_k3 F c b a d (((gl a (((List.length a : Nat) : Int) - (1 : Int)).toNat).right_) == (gl c (b - (1 : Int)).toNat))) (region_merge_k3 F c b a d false))) (region_merge_k5 F a)
def region_merge_k1 (F : Nat) (b : (List Span)) (c : (List Span)) (d : Bool → Bool → Option Bool) (a : (List Int)) : Option ((List Span)) :=
 (sortI a).bind fun e =>
 (slices_Compact_int F e).bind fun i =>
 loopN (fun again (z : Int × (List Span)) => region_merge_b2 F b c d i again z.1 z.2) F ((1 : Int), ([] : List Span))
def region_merge_b0 (F : Nat) (e : (List Span)) (i : (List Span)) (j : Bool → Bool → Option Bool) (b : (List Span)) (d : (Int × (List Int)) → Option ((List Span))) (a : Int) (c : (List Int)) : Option ((List Span)) :=
 br (decide (a < ((List.length b : Nat) : Int))) (gd (0 ≤ a ∧ a < ((List.length b : Nat) : Int)) <|
 gd ((List.length (α := Int) c) + (List.length (α := Int) ([(gl b a.toNat).left_, (gl b a.toNat).right_] : List Int)) ≤ LIM) <|
 gd (I64 (a + (1 : Int))) <|
 d ((a + (1 : Int)), (c ++ ([(gl b a.toNat).left_, (gl b a.toNat).right_] : List Int)))) (region_merge_k1 F e i j c)
def region_merge (F : Nat) (a : (List Span)) (b : (List Span)) (c : Bool → Bool → Option Bool) : Option ((List Span)) :=
 (slices_Concat_Span F ([a, b] : List (List Span))).bind fun d =>
 loopN (fun again (z : Int × (List Int)) => region_merge_b0 F a b c d again z.1 z.2) F ((0 : Int), ([] : List Int))
def region_Choose_1 (F : Nat) (a : Int) (b : (List Rect)) (c : (List Rect)) (d : Bool → Bool → Option Bool) : Option ((List Span)) :=
 (region_Row F b a).bind fun e =>
 (region_Row F c a).bind fun i =>
 (region_merge F e i d).bind fun j =>
 some j
def region_Choose (F : Nat) (a : (List Rect)) (b : (List Rect)) (c : Bool → Bool → Option Bool) : Option ((List Rect)) :=
 (region_Cuts F ([a, b] : List (List Rect))).bind fun d =>
 (region_Build F d (fun y0 => region_Choose_1 F y0 a b c)).bind fun e =>
 some e
def keep_Tape_One (F : Nat) (c : Tape) (a : Int) : Option (Tape × Bool) :=
 (keep_Tape_Next F c a).bind fun b =>
 gd (I64 (a - (1 : Int))) <|
 some (b.1, (b.2 == (a - (1 : Int))))
def keep_Tape_Broken_k1 (F : Nat) (a : (List Rect)) (b : (List Int)) (c : Int) : Option (Tape × Region) :=
 some ((⟨b, c⟩ : Tape), (⟨a⟩ : Region))
def keep_Tape_Broken_k0 (F : Nat) (b : Tape × Region) (i : Bool) (d : (List Int)) (e : Int) : Option (Tape × Region) :=
 br i (some ((⟨d, e⟩ : Tape), b.2)) (gd ((0) + (List.length (α := Rect) b.2.rects_) ≤ LIM) <|
 (keep_Tape_Next F (⟨d, e⟩ : Tape) ((List.length (([] : List Rect) ++ b.2.rects_) : Nat) : Int)).bind fun a =>
 (keep_Tape_Next F a.1 (5 : Int)).bind fun c =>
 br (c.2 == (0 : Int)) (gd (0 ≤ a.2 ∧ a.2 < ((List.length (([] : List Rect) ++ b.2.rects_) : Nat) : Int)) <|
 gd (I64 (((gl (([] : List Rect) ++ b.2.rects_) a.2.toNat).right_) + (1 : Int))) <|
 gd (0 ≤ a.2 ∧ a.2 < ((List.length (([] : List Rect) ++ b.2.rects_) : Nat) : Int)) <|
 keep_Tape_Broken_k1 F (List.set (([] : List Rect) ++ b.2.rects_) a.2.toNat (⟨(gl (([] : List Rect) ++ b.2.rects_) a.2.toNat).left_, (gl (([] : List Rect) ++ b.2.rects_) a.2.toNat).low_, (((gl (([] : List Rect) ++ b.2.rects_) a.2.toNat).right_) + (1 : Int)), (gl (([] : List Rect) ++ b.2.rects_) a.2.toNat).high_⟩ : Rect)) c.1.l_ c.1.at_) (br (c.2 == (1 : Int)) (gd (0 ≤ a.2 ∧ a.2 < ((List.length (([] : List Rect) ++ b.2.rects_) : Nat) : Int)) <|
 keep_Tape_Broken_k1 F (List.set (([] : List Rect) ++ b.2.rects_) a.2.toNat (⟨(-1 : Int), (gl (([] : List Rect) ++ b.2.rects_) a.2.toNat).low_, (gl (([] : List Rect) ++ b.2.rects_) a.2.toNat).right_, (gl (([] : List Rect) ++ b.2.rects_) a.2.toNat).high_⟩ : Rect)) c.1.l_ c.1.at_) (br (c.2 == (2 : Int)) (gd (0 ≤ a.2 ∧ a.2 < ((List.length (([] : List Rect) ++ b.2.rects_) : Nat) : Int)) <|
 gd ((List.length (α := Rect) (([] : List Rect) ++ b.2.rects_)) + (List.length (α := Rect) ([(gl (([] : List Rect) ++ b.2.rects_) a.2.toNat)] : List Rect)) ≤ LIM) <|
 keep_Tape_Broken_k1 F ((([] : List Rect) ++ b.2.rects_) ++ ([(gl (([] : List Rect) ++ b.2.rects_) a.2.toNat)] : List Rect)) c.1.l_ c.1.at_) (br (c.2 == (3 : Int)) (gd (0 ≤ a.2 ∧ a.2 < ((List.length (([] : List Rect) ++ b.2.rects_) : Nat) : Int)) <|
 gd (0 ≤ (0 : Int) ∧ (0 : Int) < ((List.length (([] : List Rect) ++ b.2.rects_) : Nat) : Int)) <|
 gd (0 ≤ (0 : Int) ∧ (0 : Int) < ((List.length (([] : List Rect) ++ b.2.rects_) : Nat) : Int)) <|
 gd (0 ≤ a.2 ∧ a.2 < ((List.length (List.set (([] : List Rect) ++ b.2.rects_) (0 : Int).toNat (gl (([] : List Rect) ++ b.2.rects_) a.2.toNat)) : Nat) : Int)) <|
 keep_Tape_Broken_k1 F (List.set (List.set (([] : List Rect) ++ b.2.rects_) (0 : Int).toNat (gl (([] : List Rect) ++ b.2.rects_) a.2.toNat)) a.2.toNat (gl (([] : List Rect) ++ b.2.rects_) (0 : Int).toNat)) c.1.l_ c.1.at_) (gd (0 ≤ a.2 ∧ a.2 < ((List.length (([] : List Rect) ++ b.2.rects_) : Nat) : Int)) <|
 gd (0 ≤ a.2 ∧ a.2 < ((List.length (([] : List Rect) ++ b.2.rects_) : Nat) : Int)) <|
 keep_Tape_Broken_k1 F (List.set (([] : List Rect) ++ b.2.rects_) a.2.toNat (⟨(gl (([] : List Rect) ++ b.2.rects_) a.2.toNat).left_, (gl (([] : List Rect) ++ b.2.rects_) a.2.toNat).low_, (gl (([] : List Rect) ++ b.2.rects_) a.2.toNat).right_, (gl (([] : List Rect) ++ b.2.rects_) a.2.toNat).low_⟩ : Rect)) c.1.l_ c.1.at_)))))
def keep_Tape_Broken (F : Nat) (c : Tape) (d : Int) (e : Int) : Option (Tape × Region) :=
 (keep_Tape_Region F c d e).bind fun a =>
 br (((List.length a.2.rects_ : Nat) : Int) == (0 : Int)) (keep_Tape_Broken_k0 F a true a.1.l_ a.1.at_) ((keep_Tape_One F a.1 (6 : Int)).bind fun b =>
 keep_Tape_Broken_k0 F a (!b.2) b.1.l_ b.1.at_)
def ref06_touch_k1 (F : Nat) (a : Rect) (b : Rect) (c : Bool) : Option (Int) :=
 br c (gd (I64 ((gmin a.right_ b.right_) - (gmax a.left_ b.left_))) <|
 some (gmax (0 : Int) ((gmin a.right_ b.right_) - (gmax a.left_ b.left_)))) (some (0 : Int))
def ref06_touch_k0 (F : Nat) (a : Rect) (b : Rect) (c : Bool) : Option (Int) :=
 br c (gd (I64 ((gmin a.high_ b.high_) - (gmax a.low_ b.low_))) <|
 some (gmax (0 : Int) ((gmin a.high_ b.high_) - (gmax a.low_ b.low_)))) (br (a.high_ == b.low_) (ref06_touch_k1 F a b true) (ref06_touch_k1 F a b (b.high_ == a.low_)))
def ref06_touch (F : Nat) (a : Rect) (b : Rect) : Option (Int) :=
 br (a.right_ == b.left_) (ref06_touch_k0 F a b true) (ref06_touch_k0 F a b (b.right_ == a.left_))
def ref06_Parts_k6 (F : Nat) (a : Int) (b : (Bool × Int × (List Int)) → Option ((List Region) × Int)) (c : Bool) (d : (List Int)) : Option ((List Region) × Int) :=
 gd (I64 (a + (1 : Int))) <|
 b (c, (a + (1 : Int)), d)
def ref06_Parts_k5 (F : Nat) (c : Int) (e : Bool) (a : Int) (b : (List Int)) (d : (Bool × Int × (List Int)) → Option ((List Region) × Int)) (i : Bool) : Option ((List Region) × Int) :=
 br i (gd (0 ≤ a ∧ a < ((List.length b : Nat) : Int)) <|
 gd (0 ≤ c ∧ c < ((List.length b : Nat) : Int)) <|
 ref06_Parts_k6 F a d true (List.set b c.toNat (gl b a.toNat))) (ref06_Parts_k6 F a d e b)
def ref06_Parts_k7 (F : Nat) (a : Int) (b : (Bool × Int × (List Int)) → Option ((List Region) × Int)) (c : Bool) (d : (List Int)) : Option ((List Region) × Int) :=
 gd (I64 (a + (1 : Int))) <|
 b (c, (a + (1 : Int)), d)
def ref06_Parts_b4 (F : Nat) (d : Region) (a : Int) (k : (List Int)) (j : (Bool × Int × (List Int)) → Option ((List Region) × Int)) (i : (Bool × Int × (List Int)) → Option ((List Region) × Int)) (e : Bool) (b : Int) (c : (List Int)) : Option ((List Region) × Int) :=
 br (decide (b < ((List.length k : Nat) : Int))) (gd (0 ≤ b ∧ b < ((List.length c : Nat) : Int)) <|
 gd (0 ≤ a ∧ a < ((List.length c : Nat) : Int)) <|
 br (decide ((gl c b.toNat) < (gl c a.toNat))) (gd (0 ≤ a ∧ a < ((List.length d.rects_ : Nat) : Int)) <|
 gd (0 ≤ b ∧ b < ((List.length d.rects_ : Nat) : Int)) <|
 (ref06_touch F (gl d.rects_ a.toNat) (gl d.rects_ b.toNat)).bind fun l =>
 ref06_Parts_k5 F a e b c i (decide ((0 : Int) < l))) (ref06_Parts_k5 F a e b c i false)) (ref06_Parts_k7 F a j e c)
def ref06_Parts_b3 (F : Nat) (j : Region) (i : (List Int)) (d : (Bool × (List Int)) → Option ((List Region) × Int)) (e : (Bool × Int × (List Int)) → Option ((List Region) × Int)) (b : Bool) (c : Int) (a : (List Int)) : Option ((List Region) × Int) :=
 br (decide (c < ((List.length i : Nat) : Int))) (loopN (fun again (z : Bool × Int × (List Int)) => ref06_Parts_b4 F j c a e again z.1 z.2.1 z.2.2) F (b, (0 : Int), a)) (d (b, a))
def ref06_Parts_k13 (F : Nat) (a : Int) (b : (Int × (List Region)) → Option ((List Region) × Int)) (c : (List Region)) : Option ((List Region) × Int) :=
 gd (I64 (a + (1 : Int))) <|
 b ((a + (1 : Int)), c)
def ref06_Parts_k11 (F : Nat) (a : Int) (b : (Int × (List Rect)) → Option ((List Region) × Int)) (c : (List Rect)) : Option ((List Region) × Int) :=
 gd (I64 (a + (1 : Int))) <|
 b ((a + (1 : Int)), c)
def ref06_Parts_k12 (F : Nat) (d : Int) (a : (List Region)) (c : (Int × (List Region)) → Option ((List Region) × Int)) (e : (List Rect)) : Option ((List Region) × Int) :=
 (ref04_Combine F e ([]) (1 : Int)).bind fun b =>
 gd ((List.length (α := Region) a) + (List.length (α := Region) ([(⟨b⟩ : Region)] : List Region)) ≤ LIM) <|
 ref06_Parts_k13 F d c (a ++ ([(⟨b⟩ : Region)] : List Region))
def ref06_Parts_b10 (F : Nat) (d : Region) (c : (List Int)) (i : Int) (k : (List Region)) (j : (Int × (List Region)) → Option ((List Region) × Int)) (e : (Int × (List Rect)) → Option ((List Region) × Int)) (a : Int) (b : (List Rect)) : Option ((List Region) × Int) :=
 br (decide (a < ((List.length c : Nat) : Int))) (gd (0 ≤ a ∧ a < ((List.length c : Nat) : Int)) <|
 br ((gl c a.toNat) == i) (gd (0 ≤ a ∧ a < ((List.length d.rects_ : Nat) : Int)) <|
 gd ((List.length (α := Rect) b) + (List.length (α := Rect) ([(gl d.rects_ a.toNat)] : List Rect)) ≤ LIM) <|
 ref06_Parts_k11 F a e (b ++ ([(gl d.rects_ a.toNat)] : List Rect))) (ref06_Parts_k11 F a e b)) (ref06_Parts_k12 F i k j b)
def ref06_Parts_k14 (F : Nat) (a : (List Region)) : Option ((List Region) × Int) :=
 some (a, (0 : Int))
def ref06_Parts_b9 (F : Nat) (e : Region) (b : (List Int)) (d : (Int × (List Region)) → Option ((List Region) × Int)) (a : Int) (c : (List Region)) : Option ((List Region) × Int) :=
 br (decide (a < ((List.length b : Nat) : Int))) (gd (0 ≤ a ∧ a < ((List.length b : Nat) : Int)) <|
 br ((gl b a.toNat) != a) (ref06_Parts_k13 F a d c) (loopN (fun again (z : Int × (List Rect)) => ref06_Parts_b10 F e b a c d again z.1 z.2) F ((0 : Int), ([] : List Rect)))) (ref06_Parts_k14 F c)
def ref06_Parts_k8 (F : Nat) (b : Region) (a : (List Int)) : Option ((List Region) × Int) :=
 loopN (fun again (z : Int × (List Region)) => ref06_Parts_b9 F b a again z.1 z.2) F ((0 : Int), ([] : List Region))
def ref06_Parts_b2 (F : Nat) (b : Region) (c : (Bool × (List Int)) → Option ((List Region) × Int)) (d : Bool) (a : (List Int)) : Option ((List Region) × Int) :=
 br d (loopN (fun again (z : Bool × Int × (List Int)) => ref06_Parts_b3 F b a c again z.1 z.2.1 z.2.2) F (false, (0 : Int), a)) (ref06_Parts_k8 F b a)
def ref06_Parts_k1 (F : Nat) (b : Region) (a : (List Int)) : Option ((List Region) × Int) :=
 loopN (fun again (z : Bool × (List Int)) => ref06_Parts_b2 F b again z.1 z.2) F (true, a)
def ref06_Parts_b0 (F : Nat) (c : Region) (d : (Int × (List Int)) → Option ((List Region) × Int)) (a : Int) (b : (List Int)) : Option ((List Region) × Int) :=
 br (decide (a < ((List.length (List.replicate (((List.length c.rects_ : Nat) : Int)).toNat (0 : Int)) : Nat) : Int))) (gd (0 ≤ a ∧ a < ((List.length b : Nat) : Int)) <|
 gd (I64 (a + (1 : Int))) <|
 d ((a + (1 : Int)), (List.set b a.toNat a))) (ref06_Parts_k1 F c b)
def ref06_Parts (F : Nat) (a : Region) : Option ((List Region) × Int) :=
 (ref04_Valid F a).bind fun b =>
 br (!b) (some ([], (7 : Int))) (gd (0 ≤ ((List.length a.rects_ : Nat) : Int) ∧ ((List.length a.rects_ : Nat) : Int) ≤ ((LIM : Nat) : Int)) <|
 loopN (fun again (z : Int × (List Int)) => ref06_Parts_b0 F a again z.1 z.2) F ((0 : Int), (List.replicate (((List.length a.rects_ : Nat) : Int)).toNat (0 : Int))))
def ref06_wide_k1 (F : Nat) (a : (List Rect)) : Option ((List Rect)) :=
 some a
def ref06_wide_b0 (F : Nat) (b : (List Rect)) (c : Int) (e : (Int × (List Rect)) → Option ((List Rect))) (a : Int) (d : (List Rect)) : Option ((List Rect)) :=
 br (decide (a < ((List.length b : Nat) : Int))) (gd (0 ≤ a ∧ a < ((List.length b : Nat) : Int)) <|
 gd (I64 (((gl b a.toNat).left_) - c)) <|
 gd (I64 (((gl b a.toNat).low_) - c)) <|
 gd (I64 (((gl b a.toNat).right_) + c)) <|
 gd (I64 (((gl b a.toNat).high_) + c)) <|
 gd ((List.length (α := Rect) d) + (List.length (α := Rect) ([(⟨(((gl b a.toNat).left_) - c), (((gl b a.toNat).low_) - c), (((gl b a.toNat).right_) + c), (((gl b a.toNat).high_) + c)⟩ : Rect)] : List Rect)) ≤ LIM) <|
 gd (I64 (a + (1 : Int))) <|
 e ((a + (1 : Int)), (d ++ ([(⟨(((gl b a.toNat).left_) - c), (((gl b a.toNat).low_) - c), (((gl b a.toNat).right_) + c), (((gl b a.toNat).high_) + c)⟩ : Rect)] : List Rect)))) (ref06_wide_k1 F d)
def ref06_wide (F : Nat) (a : (List Rect)) (b : Int) : Option ((List Rect)) :=
 loopN (fun again (z : Int × (List Rect)) => ref06_wide_b0 F a b again z.1 z.2) F ((0 : Int), ([] : List Rect))
def ref06_grid (F : Nat) : Option ((List Rect)) :=
 some ([(⟨0, 0, (16384 : Int), (16384 : Int)⟩ : Rect)] : List Rect)
def ref06_Grow_k0 (F : Nat) (c : Region) (d : Int) (b : Bool) : Option (Region × Int) :=
 br b (some ((⟨[]⟩ : Region), (2 : Int))) ((ref06_wide F c.rects_ d).bind fun e =>
 (ref06_grid F).bind fun i =>
 (ref04_Combine F e i (2 : Int)).bind fun j =>
 (ref04_Bound F j).bind fun a =>
 some (a.1, a.2))
def ref06_Grow (F : Nat) (b : Region) (a : Int) : Option (Region × Int) :=
 (ref04_Valid F b).bind fun c =>
 br (!c) (some ((⟨[]⟩ : Region), (7 : Int))) (br (decide (a < (0 : Int))) (ref06_Grow_k0 F b a true) (ref06_Grow_k0 F b a (decide ((64 : Int) < a))))
def region_Has_1_k0 (F : Nat) (a : Bool) : Option (Bool) :=
 some a
def region_Has_1 (F : Nat) (a : Rect) (b : Int) (c : Int) : Option (Bool) :=
 br (decide (a.left_ ≤ b)) (br (decide (b < a.right_)) (br (decide (a.low_ ≤ c)) (region_Has_1_k0 F (decide (c < a.high_))) (region_Has_1_k0 F false)) (region_Has_1_k0 F false)) (region_Has_1_k0 F false)
def region_Has_k0 (F : Nat) (a : Bool) : Option (Bool) :=
 some a
def region_Has (F : Nat) (a : Region) (b : Int) (c : Int) : Option (Bool) :=
 (region_Valid F a).bind fun d =>
 br d ((slices_ContainsFunc_Rect F a.rects_ (fun y0 => region_Has_1 F y0 b c)).bind fun e =>
 region_Has_k0 F e) (region_Has_k0 F false)
def region_Size_k1 (F : Nat) (a : Int) : Option (Int) :=
 some a
def region_Size_b0 (F : Nat) (b : (List Rect)) (d : (Int × Int) → Option (Int)) (c : Int) (a : Int) : Option (Int) :=
 br (decide (a < ((List.length b : Nat) : Int))) (gd (0 ≤ a ∧ a < ((List.length b : Nat) : Int)) <|
 gd (I64 (((gl b a.toNat).right_) - ((gl b a.toNat).left_))) <|
 gd (I64 (((gl b a.toNat).high_) - ((gl b a.toNat).low_))) <|
 gd (I64 ((((gl b a.toNat).right_) - ((gl b a.toNat).left_)) * (((gl b a.toNat).high_) - ((gl b a.toNat).low_)))) <|
 gd (I64 (c + ((((gl b a.toNat).right_) - ((gl b a.toNat).left_)) * (((gl b a.toNat).high_) - ((gl b a.toNat).low_))))) <|
 gd (I64 (a + (1 : Int))) <|
 d ((c + ((((gl b a.toNat).right_) - ((gl b a.toNat).left_)) * (((gl b a.toNat).high_) - ((gl b a.toNat).low_)))), (a + (1 : Int)))) (region_Size_k1 F c)
def region_Size (F : Nat) (a : (List Rect)) : Option (Int) :=
 loopN (fun again (z : Int × Int) => region_Size_b0 F a again z.1 z.2) F ((0 : Int), (0 : Int))
end
end Go.Ab
end

section
namespace Go.Ab
set_option linter.unusedVariables false
set_option maxRecDepth 100000
noncomputable section
def zone_check_k0 (F : Nat) (a : Bool) : Option (Int) :=
 br a (some (2 : Int)) (some (0 : Int))
def zone_check (F : Nat) (c : (List Feature)) (d : Int) (a : Int) (e : Region) : Option (Int) :=
 (feature_On F c d).bind fun b =>
 br (b.2 != (0 : Int)) (some b.2) ((region_Valid F e).bind fun i =>
 br (!i) (some (7 : Int)) (br (decide (a < (0 : Int))) (zone_check_k0 F true) (zone_check_k0 F (decide ((268435456 : Int) < a)))))
def zone_sort_k1 (F : Nat) (a : Bool) : Option (Int) :=
 br a (some (1 : Int)) (some (2 : Int))
def zone_sort_k0 (F : Nat) (a : Int) (b : Bool) : Option (Int) :=
 br b (some (0 : Int)) (br (a == (8 : Int)) (zone_sort_k1 F (a == (8 : Int))) (br (a == (9 : Int)) (zone_sort_k1 F (a == (9 : Int))) (br (a == (10 : Int)) (zone_sort_k1 F (a == (10 : Int))) (zone_sort_k1 F (a == (11 : Int))))))
def zone_sort (F : Nat) (a : Int) : Option (Int) :=
 br (a == (0 : Int)) (zone_sort_k0 F a (a == (0 : Int))) (br (a == (1 : Int)) (zone_sort_k0 F a (a == (1 : Int))) (br (a == (2 : Int)) (zone_sort_k0 F a (a == (2 : Int))) (br (a == (3 : Int)) (zone_sort_k0 F a (a == (3 : Int))) (br (a == (4 : Int)) (zone_sort_k0 F a (a == (4 : Int))) (br (a == (5 : Int)) (zone_sort_k0 F a (a == (5 : Int))) (br (a == (6 : Int)) (zone_sort_k0 F a (a == (6 : Int))) (zone_sort_k0 F a (a == (7 : Int)))))))))
def zone_of_1 (F : Nat) (a : Int) (b : Int) : Option (Bool) :=
 (zone_sort F a).bind fun c =>
 some (c == b)
def zone_of (F : Nat) (b : (List Feature)) (c : Int) (d : Int) : Option (Region × Int) :=
 (feature_Rects F b c (fun y0 => zone_of_1 F y0 d)).bind fun e =>
 (region_Joined F e).bind fun a =>
 some (a.1, a.2)
def zone_Hard (F : Nat) (a : (List Feature)) (b : Int) : Option (Region × Int) :=
 (zone_check F a b (0 : Int) (⟨[]⟩ : Region)).bind fun c =>
 br (c != (0 : Int)) (some ((⟨[]⟩ : Region), c)) ((zone_of F a b (0 : Int)).bind fun d =>
 some (d.1, d.2))
def zone_Soft_1_k0 (F : Nat) (a : Bool) : Option (Bool) :=
 some a
def zone_Soft_1 (F : Nat) (a : Bool) (b : Bool) : Option (Bool) :=
 br a (zone_Soft_1_k0 F b) (zone_Soft_1_k0 F false)
def zone_Soft_k1 (F : Nat) (b : (List Rect)) : Option (Region × Int) :=
 (region_Joined F b).bind fun a =>
 some (a.1, a.2)
def zone_Soft_b0 (F : Nat) (e : Int) (c : ((List Rect) × (List Rect)) → Option (Region × Int)) (d : (List Rect)) (b : (List Rect)) : Option (Region × Int) :=
 br (decide ((0 : Int) < ((List.length d : Nat) : Int))) ((shape_Joined F d).bind fun a =>
 (region_Size F a.1).bind fun i =>
 br (decide (e < i)) (gd ((List.length (α := Rect) b) + (List.length (α := Rect) a.1) ≤ LIM) <|
 c (a.2, (b ++ a.1))) (c (a.2, b))) (zone_Soft_k1 F b)
def zone_Soft (F : Nat) (b : (List Feature)) (c : Int) (d : Int) (e : Region) : Option (Region × Int) :=
 (zone_check F b c d e).bind fun i =>
 br (i != (0 : Int)) (some ((⟨[]⟩ : Region), i)) ((zone_of F b c (1 : Int)).bind fun a =>
 br (a.2 != (0 : Int)) (some ((⟨[]⟩ : Region), a.2)) ((region_Choose F a.1.rects_ e.rects_ (fun y0 y1 => zone_Soft_1 F y0 y1)).bind fun j =>
 br (decide ((120 : Int) < ((List.length j : Nat) : Int))) (some ((⟨[]⟩ : Region), (1 : Int))) (loopN (fun again (z : (List Rect) × (List Rect)) => zone_Soft_b0 F d again z.1 z.2) F (j, ([] : List Rect)))))
def slices_Concat_Rect_k3 (F : Nat) (a : (List Rect)) : Option ((List Rect)) :=
 some a
def slices_Concat_Rect_b2 (F : Nat) (b : (List (List Rect))) (d : (Int × (List Rect)) → Option ((List Rect))) (a : Int) (c : (List Rect)) : Option ((List Rect)) :=
 br (decide (a < ((List.length b : Nat) : Int))) (gd (0 ≤ a ∧ a < ((List.length b : Nat) : Int)) <|
 gd ((List.length (α := Rect) c) + (List.length (α := Rect) (gl b a.toNat)) ≤ LIM) <|
 gd (I64 (a + (1 : Int))) <|
 d ((a + (1 : Int)), (c ++ (gl b a.toNat)))) (slices_Concat_Rect_k3 F c)
def slices_Concat_Rect_k1 (F : Nat) (b : (List (List Rect))) (a : Int) : Option ((List Rect)) :=
 (growN a).bind fun c =>
 loopN (fun again (z : Int × (List Rect)) => slices_Concat_Rect_b2 F b again z.1 z.2) F ((0 : Int), c)
def slices_Concat_Rect_b0 (F : Nat) (b : (List (List Rect))) (d : (Int × Int) → Option ((List Rect))) (c : Int) (a : Int) : Option ((List Rect)) :=
 br (decide (a < ((List.length b : Nat) : Int))) (gd (0 ≤ a ∧ a < ((List.length b : Nat) : Int)) <|
 gd (I64 (c + ((List.length (gl b a.toNat) : Nat) : Int))) <|
 br (decide ((c + ((List.length (gl b a.toNat) : Nat) : Int)) < (0 : Int))) (none) (gd (I64 (a + (1 : Int))) <|
 d ((c + ((List.length (gl b a.toNat) : Nat) : Int)), (a + (1 : Int))))) (slices_Concat_Rect_k1 F b c)
def slices_Concat_Rect (F : Nat) (a : (List (List Rect))) : Option ((List Rect)) :=
 loopN (fun again (z : Int × Int) => slices_Concat_Rect_b0 F a again z.1 z.2) F ((0 : Int), (0 : Int))
def zone_Eligible_1_k0 (F : Nat) (a : Bool) : Option (Bool) :=
 some a
def zone_Eligible_1 (F : Nat) (a : Bool) (b : Bool) : Option (Bool) :=
 br a (zone_Eligible_1_k0 F (!b)) (zone_Eligible_1_k0 F false)
def zone_Eligible (F : Nat) (a : Region) (b : (List Feature)) (c : Int) (i : Int) : Option (Region × Int) :=
 (zone_check F b c i a).bind fun j =>
 br (j != (0 : Int)) (some ((⟨[]⟩ : Region), j)) ((zone_Hard F b c).bind fun d =>
 br (d.2 != (0 : Int)) (some ((⟨[]⟩ : Region), d.2)) ((zone_Soft F b c i a).bind fun e =>
 br (e.2 != (0 : Int)) (some ((⟨[]⟩ : Region), e.2)) ((slices_Concat_Rect F ([d.1.rects_, e.1.rects_] : List (List Rect))).bind fun l =>
 (region_Choose F a.rects_ l (fun y0 y1 => zone_Eligible_1 F y0 y1)).bind fun m =>
 (region_Limited F m).bind fun k =>
 some (k.1, k.2))))
def law11_awake_k0 (F : Nat) (a : Bool) : Option (Bool) :=
 some a
def law11_awake (F : Nat) : Option (Bool) :=
 (zone_Eligible F (⟨([(⟨0, 0, (10 : Int), (10 : Int)⟩ : Rect)] : List Rect)⟩ : Region) ([(⟨(1 : Int), (8 : Int), 0, (9 : Int), (⟨([(⟨(3 : Int), (3 : Int), (5 : Int), (5 : Int)⟩ : Rect)] : List Rect)⟩ : Region)⟩ : Feature)] : List Feature) (0 : Int) (4 : Int)).bind fun a =>
 (zone_Eligible F (⟨([(⟨0, 0, (10 : Int), (10 : Int)⟩ : Rect)] : List Rect)⟩ : Region) ([(⟨(1 : Int), (8 : Int), 0, (9 : Int), (⟨([(⟨(3 : Int), (3 : Int), (5 : Int), (5 : Int)⟩ : Rect)] : List Rect)⟩ : Region)⟩ : Feature)] : List Feature) (0 : Int) (3 : Int)).bind fun b =>
 br (a.2 == (0 : Int)) ((ref04_Area F a.1).bind fun c =>
 br (c == (100 : Int)) (br (b.2 == (0 : Int)) ((ref04_Area F b.1).bind fun d =>
 law11_awake_k0 F (d == (96 : Int))) (law11_awake_k0 F false)) (law11_awake_k0 F false)) (law11_awake_k0 F false)
def ref11_begin_k0 (F : Nat) (a : Bool) : Option (Int) :=
 br a (some (9 : Int)) (some (0 : Int))
def ref11_begin (F : Nat) (c : (List Feature)) (a : Int) : Option (Int) :=
 (ref09_Check F c).bind fun b =>
 br (b != (0 : Int)) (some b) (br (decide (a < (0 : Int))) (ref11_begin_k0 F true) (ref11_begin_k0 F (decide ((36864 : Int) < a))))
def ref09_there_k0 (F : Nat) (a : Bool) : Option (Bool) :=
 some a
def ref09_there (F : Nat) (a : Feature) (b : Int) : Option (Bool) :=
 br (decide (a.from_ ≤ b)) (ref09_there_k0 F (decide (b < a.until_))) (ref09_there_k0 F false)
def ref09_Squares_k2 (F : Nat) (a : Int) (b : ((List Rect) × Int) → Option ((List Rect))) (c : (List Rect)) : Option ((List Rect)) :=
 gd (I64 (a + (1 : Int))) <|
 b (c, (a + (1 : Int)))
def ref09_Squares_k1 (F : Nat) (e : (List Feature)) (c : (List Rect)) (a : Int) (b : ((List Rect) × Int) → Option ((List Rect))) (d : Bool) : Option ((List Rect)) :=
 br d ((ref04_Combine F c ((gl e a.toNat).region_.rects_) (1 : Int)).bind fun i =>
 ref09_Squares_k2 F a b i) (ref09_Squares_k2 F a b c)
def ref09_Squares_k3 (F : Nat) (a : (List Rect)) : Option ((List Rect)) :=
 some a
def ref09_Squares_b0 (F : Nat) (b : (List Feature)) (e : Int) (i : Int) (j : Int) (d : ((List Rect) × Int) → Option ((List Rect))) (c : (List Rect)) (a : Int) : Option ((List Rect)) :=
 br (decide (a < ((List.length b : Nat) : Int))) (gd (0 ≤ a ∧ a < ((List.length b : Nat) : Int)) <|
 (ref09_there F (gl b a.toNat) j).bind fun k =>
 br k (br (decide (e ≤ ((gl b a.toNat).kind_))) (ref09_Squares_k1 F b c a d (decide (((gl b a.toNat).kind_) ≤ i))) (ref09_Squares_k1 F b c a d false)) (ref09_Squares_k1 F b c a d false)) (ref09_Squares_k3 F c)
def ref09_Squares (F : Nat) (a : (List Feature)) (b : Int) (c : Int) (d : Int) : Option ((List Rect)) :=
 loopN (fun again (z : (List Rect) × Int) => ref09_Squares_b0 F a b c d again z.1 z.2) F (([] : List Rect), (0 : Int))
def ref11_Hard (F : Nat) (a : (List Feature)) (b : Int) : Option (Region × Int) :=
 (ref11_begin F a b).bind fun c =>
 br (c != (0 : Int)) (some ((⟨[]⟩ : Region), c)) ((ref09_Squares F a (0 : Int) (7 : Int) b).bind fun e =>
 (ref04_Bound F e).bind fun d =>
 some (d.1, d.2))
def ref11_Soft_k3 (F : Nat) (a : Int) (b : ((List Rect) × Int) → Option (Region × Int)) (c : (List Rect)) : Option (Region × Int) :=
 gd (I64 (a + (1 : Int))) <|
 b (c, (a + (1 : Int)))
def ref11_Soft_k4 (F : Nat) (b : (List Rect)) : Option (Region × Int) :=
 (ref04_Bound F b).bind fun a =>
 some (a.1, a.2)
def ref11_Soft_b2 (F : Nat) (e : Int) (b : (List Region) × Int) (d : ((List Rect) × Int) → Option (Region × Int)) (c : (List Rect)) (a : Int) : Option (Region × Int) :=
 br (decide (a < ((List.length b.1 : Nat) : Int))) (gd (0 ≤ a ∧ a < ((List.length b.1 : Nat) : Int)) <|
 (ref04_Area F (gl b.1 a.toNat)).bind fun i =>
 br (decide (e < i)) ((ref04_Combine F c ((gl b.1 a.toNat).rects_) (1 : Int)).bind fun j =>
 ref11_Soft_k3 F a d j) (ref11_Soft_k3 F a d c)) (ref11_Soft_k4 F c)
def ref11_Soft_k1 (F : Nat) (b : Int) (c : (List Rect)) (a : Bool) : Option (Region × Int) :=
 br a (some ((⟨[]⟩ : Region), (1 : Int))) ((ref06_Parts F (⟨c⟩ : Region)).bind fun d =>
 loopN (fun again (z : (List Rect) × Int) => ref11_Soft_b2 F b d again z.1 z.2) F (([] : List Rect), (0 : Int)))
def ref11_Soft_k0 (F : Nat) (e : (List Feature)) (i : Int) (b : Int) (j : Region) (d : Bool) : Option (Region × Int) :=
 br d (some ((⟨[]⟩ : Region), (2 : Int))) ((ref09_Squares F e (8 : Int) (11 : Int) i).bind fun c =>
 (ref04_Combine F c j.rects_ (2 : Int)).bind fun a =>
 br (decide ((120 : Int) < ((List.length c : Nat) : Int))) (ref11_Soft_k1 F b a true) (ref11_Soft_k1 F b a (decide ((120 : Int) < ((List.length a : Nat) : Int)))))
def ref11_Soft (F : Nat) (b : (List Feature)) (c : Int) (a : Int) (d : Region) : Option (Region × Int) :=
 (ref11_begin F b c).bind fun e =>
 br (e != (0 : Int)) (some ((⟨[]⟩ : Region), e)) ((ref04_Valid F d).bind fun i =>
 br (!i) (some ((⟨[]⟩ : Region), (7 : Int))) (br (decide (a < (0 : Int))) (ref11_Soft_k0 F b c a d true) (ref11_Soft_k0 F b c a d (decide ((268435456 : Int) < a)))))
def ref11_Eligible_k0 (F : Nat) (c : Region) (d : (List Feature)) (e : Int) (k : Int) (j : Bool) : Option (Region × Int) :=
 br j (some ((⟨[]⟩ : Region), (2 : Int))) ((ref11_Hard F d e).bind fun a =>
 br (a.2 != (0 : Int)) (some ((⟨[]⟩ : Region), a.2)) ((ref11_Soft F d e k c).bind fun b =>
 br (b.2 != (0 : Int)) (some ((⟨[]⟩ : Region), b.2)) ((ref04_Combine F c.rects_ a.1.rects_ (3 : Int)).bind fun l =>
 (ref04_Combine F l b.1.rects_ (3 : Int)).bind fun m =>
 (ref04_Bound F m).bind fun i =>
 some (i.1, i.2))))
def ref11_Eligible (F : Nat) (b : Region) (c : (List Feature)) (d : Int) (a : Int) : Option (Region × Int) :=
 (ref11_begin F c d).bind fun e =>
 br (e != (0 : Int)) (some ((⟨[]⟩ : Region), e)) ((ref04_Valid F b).bind fun i =>
 br (!i) (some ((⟨[]⟩ : Region), (7 : Int))) (br (decide (a < (0 : Int))) (ref11_Eligible_k0 F b c d a true) (ref11_Eligible_k0 F b c d a (decide ((268435456 : Int) < a)))))
def zone_Buffer_k1 (F : Nat) (d : (List Feature)) (e : Int) (i : Int) (j : Int) (c : Bool) : Option (Region × Int) :=
 br c (some ((⟨[]⟩ : Region), (2 : Int))) ((feature_Kind F d e i).bind fun a =>
 br (a.2 != (0 : Int)) (some ((⟨[]⟩ : Region), a.2)) ((shape_Grow F a.1 j).bind fun b =>
 some (b.1, b.2)))
def zone_Buffer_k0 (F : Nat) (b : (List Feature)) (c : Int) (d : Int) (a : Int) (e : Bool) : Option (Region × Int) :=
 br e (some ((⟨[]⟩ : Region), (14 : Int))) (br (decide (a < (0 : Int))) (zone_Buffer_k1 F b c d a true) (zone_Buffer_k1 F b c d a (decide ((64 : Int) < a))))
def zone_Buffer (F : Nat) (b : (List Feature)) (a : Int) (c : Int) (d : Int) : Option (Region × Int) :=
 (feature_On F b c).bind fun e =>
 br (e.2 != (0 : Int)) (some ((⟨[]⟩ : Region), e.2)) (br (decide (a < (0 : Int))) (zone_Buffer_k0 F b a c d true) (zone_Buffer_k0 F b a c d (decide ((15 : Int) < a))))
def ref09_Kind_k1 (F : Nat) (d : (List Feature)) (a : Int) (e : Int) (c : Bool) : Option (Region × Int) :=
 br c (some ((⟨[]⟩ : Region), (14 : Int))) ((ref09_Squares F d a a e).bind fun i =>
 (ref04_Bound F i).bind fun b =>
 some (b.1, b.2))
def ref09_Kind_k0 (F : Nat) (b : (List Feature)) (a : Int) (c : Int) (d : Bool) : Option (Region × Int) :=
 br d (some ((⟨[]⟩ : Region), (9 : Int))) (br (decide (a < (0 : Int))) (ref09_Kind_k1 F b a c true) (ref09_Kind_k1 F b a c (decide ((15 : Int) < a))))
def ref09_Kind (F : Nat) (b : (List Feature)) (c : Int) (a : Int) : Option (Region × Int) :=
 (ref09_Check F b).bind fun d =>
 br (d != (0 : Int)) (some ((⟨[]⟩ : Region), d)) (br (decide (a < (0 : Int))) (ref09_Kind_k0 F b c a true) (ref09_Kind_k0 F b c a (decide ((36864 : Int) < a))))
def ref11_Buffer_k1 (F : Nat) (d : (List Feature)) (e : Int) (i : Int) (j : Int) (c : Bool) : Option (Region × Int) :=
 br c (some ((⟨[]⟩ : Region), (2 : Int))) ((ref09_Kind F d e i).bind fun a =>
 br (a.2 != (0 : Int)) (some ((⟨[]⟩ : Region), a.2)) ((ref06_Grow F a.1 j).bind fun b =>
 some (b.1, b.2)))
def ref11_Buffer_k0 (F : Nat) (b : (List Feature)) (c : Int) (d : Int) (a : Int) (e : Bool) : Option (Region × Int) :=
 br e (some ((⟨[]⟩ : Region), (14 : Int))) (br (decide (a < (0 : Int))) (ref11_Buffer_k1 F b c d a true) (ref11_Buffer_k1 F b c d a (decide ((64 : Int) < a))))
def ref11_Buffer (F : Nat) (b : (List Feature)) (a : Int) (c : Int) (d : Int) : Option (Region × Int) :=
 (ref11_begin F b c).bind fun e =>
 br (e != (0 : Int)) (some ((⟨[]⟩ : Region), e)) (br (decide (a < (0 : Int))) (ref11_Buffer_k0 F b a c d true) (ref11_Buffer_k0 F b a c d (decide ((15 : Int) < a))))
def zone_Zones_k1 (F : Nat) (a : Int) (b : (Int × (List Int)) → Option ((List Int) × Int)) (c : (List Int)) : Option ((List Int) × Int) :=
 gd (I64 (a + (1 : Int))) <|
 b ((a + (1 : Int)), c)
def zone_Zones_k2 (F : Nat) (a : (List Int)) : Option ((List Int) × Int) :=
 (sortI a).bind fun b =>
 (slices_Compact_int F b).bind fun c =>
 some (c, (0 : Int))
def zone_Zones_b0 (F : Nat) (e : Int) (i : Int) (b : (List Feature) × Int) (d : (Int × (List Int)) → Option ((List Int) × Int)) (a : Int) (c : (List Int)) : Option ((List Int) × Int) :=
 br (decide (a < ((List.length b.1 : Nat) : Int))) (gd (0 ≤ a ∧ a < ((List.length b.1 : Nat) : Int)) <|
 (region_Has F ((gl b.1 a.toNat).region_) e i).bind fun j =>
 br j (gd ((List.length (α := Int) c) + (List.length (α := Int) ([(gl b.1 a.toNat).kind_] : List Int)) ≤ LIM) <|
 zone_Zones_k1 F a d (c ++ ([(gl b.1 a.toNat).kind_] : List Int))) (zone_Zones_k1 F a d c)) (zone_Zones_k2 F c)
def zone_Zones (F : Nat) (b : (List Feature)) (c : Int) (d : Int) (e : Int) : Option ((List Int) × Int) :=
 (feature_On F b e).bind fun a =>
 br (a.2 != (0 : Int)) (some ([], a.2)) (loopN (fun again (z : Int × (List Int)) => zone_Zones_b0 F c d a again z.1 z.2) F ((0 : Int), ([] : List Int)))
def ref11_Zones_k2 (F : Nat) (a : Int) (b : ((List Int) × Int) → Option ((List Int) × Int)) (c : (List Int)) : Option ((List Int) × Int) :=
 gd (I64 (a + (1 : Int))) <|
 b (c, (a + (1 : Int)))
def ref11_Zones_k1 (F : Nat) (e : (List Feature)) (c : (List Int)) (a : Int) (b : ((List Int) × Int) → Option ((List Int) × Int)) (d : Bool) : Option ((List Int) × Int) :=
 br d ((ref01_Put F c ((gl e a.toNat).kind_)).bind fun i =>
 ref11_Zones_k2 F a b i) (ref11_Zones_k2 F a b c)
def ref11_Zones_k3 (F : Nat) (a : (List Int)) : Option ((List Int) × Int) :=
 some (a, (0 : Int))
def ref11_Zones_b0 (F : Nat) (b : (List Feature)) (i : Int) (j : Int) (e : Int) (d : ((List Int) × Int) → Option ((List Int) × Int)) (c : (List Int)) (a : Int) : Option ((List Int) × Int) :=
 br (decide (a < ((List.length b : Nat) : Int))) (gd (0 ≤ a ∧ a < ((List.length b : Nat) : Int)) <|
 br (decide (((gl b a.toNat).from_) ≤ e)) (br (decide (e < ((gl b a.toNat).until_))) ((ref04_Has F ((gl b a.toNat).region_) i j).bind fun k =>
 ref11_Zones_k1 F b c a d k) (ref11_Zones_k1 F b c a d false)) (ref11_Zones_k1 F b c a d false)) (ref11_Zones_k3 F c)
def ref11_Zones (F : Nat) (a : (List Feature)) (d : Int) (e : Int) (b : Int) : Option ((List Int) × Int) :=
 (ref11_begin F a b).bind fun c =>
 br (c != (0 : Int)) (some ([], c)) (loopN (fun again (z : (List Int) × Int) => ref11_Zones_b0 F a d e b again z.1 z.2) F (([] : List Int), (0 : Int)))
def ref01_Ints_k1 (F : Nat) : Option (Bool) :=
 some true
def ref01_Ints_b0 (F : Nat) (b : (List Int)) (c : (List Int)) (d : (Int) → Option (Bool)) (a : Int) : Option (Bool) :=
 br (decide (a < ((List.length b : Nat) : Int))) (gd (0 ≤ a ∧ a < ((List.length b : Nat) : Int)) <|
 gd (0 ≤ a ∧ a < ((List.length c : Nat) : Int)) <|
 br ((gl b a.toNat) != (gl c a.toNat)) (some false) (gd (I64 (a + (1 : Int))) <|
 d (a + (1 : Int)))) (ref01_Ints_k1 F)
def ref01_Ints (F : Nat) (a : (List Int)) (b : (List Int)) : Option (Bool) :=
 br (((List.length a : Nat) : Int) != ((List.length b : Nat) : Int)) (some false) (loopN (fun again (z : Int) => ref01_Ints_b0 F a b again z) F (0 : Int))
def ref09_Add_O_k3 (F : Nat) (a : (List Feature)) (c : Feature) (b : Int) (d : Bool) : Option ((List Feature) × (List Feature) × Int) :=
 br d (some (a, ([] : List Feature), (6 : Int))) (br (((List.length a : Nat) : Int) == (60 : Int)) (some (a, ([] : List Feature), (1 : Int))) (gd (0 ≤ (0 : Int) ∧ (0 : Int) ≤ b ∧ ((0 : Nat) : Int) + b ≤ ((List.length (α := Feature) a : Nat) : Int)) <|
 gd (0 + ((b).toNat) ≤ List.length (α := Feature) a) <|
 gd ((0) + (((b).toNat)) ≤ LIM) <|
 gd (((0) + (((b).toNat))) + (List.length (α := Feature) ([c] : List Feature)) ≤ LIM) <|
 gd (0 ≤ b ∧ b ≤ (((List.length (α := Feature) a) : Nat) : Int) ∧ ((0 : Nat) : Int) + (((List.length (α := Feature) a) : Nat) : Int) ≤ ((List.length (α := Feature) a : Nat) : Int)) <|
 gd ((0 + (b).toNat) + ((List.length (α := Feature) a) - (b).toNat) ≤ List.length (α := Feature) a) <|
 gd ((((0) + (((b).toNat))) + (List.length (α := Feature) ([c] : List Feature))) + (((List.length (α := Feature) a) - (b).toNat)) ≤ LIM) <|
 some (a, (((([] : List Feature) ++ ((a.drop 0).take ((b).toNat))) ++ ([c] : List Feature)) ++ ((a.drop (0 + (b).toNat)).take ((List.length (α := Feature) a) - (b).toNat))), (0 : Int))))
def ref09_Add_O_k2 (F : Nat) (b : (List Feature)) (c : Feature) (a : Int) : Option ((List Feature) × (List Feature) × Int) :=
 br (decide (a < ((List.length b : Nat) : Int))) (gd (0 ≤ a ∧ a < ((List.length b : Nat) : Int)) <|
 ref09_Add_O_k3 F b c a (((gl b a.toNat).number_) == c.number_)) (ref09_Add_O_k3 F b c a false)
def ref09_Add_O_k1 (F : Nat) (d : (List Feature)) (e : Feature) (a : Int) (b : (Int) → Option ((List Feature) × (List Feature) × Int)) (c : Bool) : Option ((List Feature) × (List Feature) × Int) :=
 br c (gd (I64 (a + (1 : Int))) <|
 b (a + (1 : Int))) (ref09_Add_O_k2 F d e a)
def ref09_Add_O_b0 (F : Nat) (b : (List Feature)) (c : Feature) (d : (Int) → Option ((List Feature) × (List Feature) × Int)) (a : Int) : Option ((List Feature) × (List Feature) × Int) :=
 br (decide (a < ((List.length b : Nat) : Int))) (gd (0 ≤ a ∧ a < ((List.length b : Nat) : Int)) <|
 ref09_Add_O_k1 F b c a d (decide (((gl b a.toNat).number_) < c.number_))) (ref09_Add_O_k1 F b c a d false)
def ref09_Add_O (F : Nat) (a : (List Feature)) (b : Feature) : Option ((List Feature) × (List Feature) × Int) :=
 (ref09_Check F a).bind fun c =>
 br (c != (0 : Int)) (some (a, ([] : List Feature), c)) ((ref09_one F b).bind fun d =>
 br (d != (0 : Int)) (some (a, ([] : List Feature), d)) (loopN (fun again (z : Int) => ref09_Add_O_b0 F a b again z) F (0 : Int)))
def keep_Tape_Layer_O_k1 (F : Nat) (a : Int) (b : (Int × (List Int) × Int × (List Feature)) → Option (Tape × (List Feature))) (c : (List Int)) (d : Int) (e : (List Feature)) : Option (Tape × (List Feature)) :=
 gd (I64 (a - (1 : Int))) <|
 b ((a - (1 : Int)), c, d, e)
def keep_Tape_Layer_O_k2 (F : Nat) (a : (List Feature)) (b : (List Int)) (c : Int) : Option (Tape × (List Feature)) :=
 some ((⟨b, c⟩ : Tape), a)
def keep_Tape_Layer_O_b0 (F : Nat) (d : (Int × (List Int) × Int × (List Feature)) → Option (Tape × (List Feature))) (b : Int) (e : (List Int)) (i : Int) (j : (List Feature)) : Option (Tape × (List Feature)) :=
 br (decide ((0 : Int) < b)) ((keep_Tape_Range F (⟨e, i⟩ : Tape) (1 : Int) (12 : Int)).bind fun k =>
 (keep_Tape_Feature F k.1 k.2).bind fun a =>
 (ref09_Add_O F j a.2).bind fun c =>
 br (c.2.2 == (0 : Int)) (keep_Tape_Layer_O_k1 F b d a.1.l_ a.1.at_ c.2.1) (keep_Tape_Layer_O_k1 F b d a.1.l_ a.1.at_ c.1)) (keep_Tape_Layer_O_k2 F j e i)
def keep_Tape_Layer_O (F : Nat) (c : Tape) (b : Int) : Option (Tape × (List Feature)) :=
 gd (I64 (b + (1 : Int))) <|
 (keep_Tape_Next F c (b + (1 : Int))).bind fun a =>
 loopN (fun again (z : Int × (List Int) × Int × (List Feature)) => keep_Tape_Layer_O_b0 F again z.1 z.2.1 z.2.2.1 z.2.2.2) F (a.2, a.1.l_, a.1.at_, ([] : List Feature))
def law11_ZoneAnswers_k10 (F : Nat) (a : Int) (b : (Int) → Option (Bool)) (c : Bool) : Option (Bool) :=
 br c (some false) (gd (I64 (a + (1 : Int))) <|
 b (a + (1 : Int)))
def law11_ZoneAnswers_k13 (F : Nat) (a : Int) (b : (Int) → Option (Bool)) : Option (Bool) :=
 gd (I64 (a + (1 : Int))) <|
 b (a + (1 : Int))
def law11_ZoneAnswers_k12 (F : Nat) (b : Int) (a : (Int) → Option (Bool)) (c : Bool) : Option (Bool) :=
 br c (some false) (law11_ZoneAnswers_k13 F b a)
def law11_ZoneAnswers_k11 (F : Nat) (i : (List Feature)) (j : Int) (k : Int) (l : Int) (c : (List Feature)) (d : Int) (m : Int) (e : Int) (n : Int) (a : Int) (b : (Int) → Option (Bool)) : Option (Bool) :=
 (keep_Mod F l (18 : Int)).bind fun o =>
 gd (I64 (o - (1 : Int))) <|
 (zone_Buffer F (gl ([i, c] : List (List Feature)) d.toNat) (o - (1 : Int)) (gl ([j, m] : List Int) e.toNat) (gl ([k, (n - (1 : Int))] : List Int) a.toNat)).bind fun p =>
 (keep_Mod F l (18 : Int)).bind fun q =>
 gd (I64 (q - (1 : Int))) <|
 (ref11_Buffer F (gl ([i, c] : List (List Feature)) d.toNat) (q - (1 : Int)) (gl ([j, m] : List Int) e.toNat) (gl ([k, (n - (1 : Int))] : List Int) a.toNat)).bind fun s =>
 (ref04_Same F p.1 s.1).bind fun t =>
 br (!t) (law11_ZoneAnswers_k12 F a b true) (law11_ZoneAnswers_k12 F a b (p.2 != s.2))
def law11_ZoneAnswers_b9 (F : Nat) (k : (List Feature)) (b : Region) (l : Int) (m : Int) (y : Int) (d : (List Feature)) (c : Tape × Region) (e : Int) (n : Int) (i : Int) (o : Int) (j : Int) (w : (Int) → Option (Bool)) (p : (Int) → Option (Bool)) (a : Int) : Option (Bool) :=
 br (decide (a < ((List.length ([b, c.2] : List Region) : Nat) : Int))) (gd (0 ≤ a ∧ a < ((List.length ([b, c.2] : List Region) : Nat) : Int)) <|
 (zone_Soft F (gl ([k, d] : List (List Feature)) e.toNat) (gl ([l, n] : List Int) i.toNat) (gl ([m, (o - (1 : Int))] : List Int) j.toNat) (gl ([b, c.2] : List Region) a.toNat)).bind fun q =>
 (ref11_Soft F (gl ([k, d] : List (List Feature)) e.toNat) (gl ([l, n] : List Int) i.toNat) (gl ([m, (o - (1 : Int))] : List Int) j.toNat) (gl ([b, c.2] : List Region) a.toNat)).bind fun s =>
 (zone_Eligible F (gl ([b, c.2] : List Region) a.toNat) (gl ([k, d] : List (List Feature)) e.toNat) (gl ([l, n] : List Int) i.toNat) (gl ([m, (o - (1 : Int))] : List Int) j.toNat)).bind fun t =>
 (ref11_Eligible F (gl ([b, c.2] : List Region) a.toNat) (gl ([k, d] : List (List Feature)) e.toNat) (gl ([l, n] : List Int) i.toNat) (gl ([m, (o - (1 : Int))] : List Int) j.toNat)).bind fun u =>
 (ref04_Same F q.1 s.1).bind fun A =>
 br (!A) (law11_ZoneAnswers_k10 F a p true) (br (q.2 != s.2) (law11_ZoneAnswers_k10 F a p true) ((ref04_Same F t.1 u.1).bind fun B =>
 br (!B) (law11_ZoneAnswers_k10 F a p true) (law11_ZoneAnswers_k10 F a p (t.2 != u.2))))) (law11_ZoneAnswers_k11 F k l m y d e n i o j w)
def law11_ZoneAnswers_k16 (F : Nat) (a : Int) (b : (Int) → Option (Bool)) (c : Bool) : Option (Bool) :=
 br c (some false) (gd (I64 (a + (1 : Int))) <|
 b (a + (1 : Int)))
def law11_ZoneAnswers_k17 (F : Nat) (a : Int) (b : (Int) → Option (Bool)) : Option (Bool) :=
 gd (I64 (a + (1 : Int))) <|
 b (a + (1 : Int))
def law11_ZoneAnswers_b15 (F : Nat) (m : (List Feature)) (n : Int) (b : Int) (c : Int) (k : (List Feature)) (l : Int) (o : Int) (i : Int) (d : Int) (e : Int) (s : (Int) → Option (Bool)) (j : (Int) → Option (Bool)) (a : Int) : Option (Bool) :=
 br (decide (a < ((List.length ([(⟨b, c⟩ : Arr2Int), (⟨d, e⟩ : Arr2Int)] : List Arr2Int) : Nat) : Int))) (gd (0 ≤ a ∧ a < ((List.length ([(⟨b, c⟩ : Arr2Int), (⟨d, e⟩ : Arr2Int)] : List Arr2Int) : Nat) : Int)) <|
 (zone_Zones F (gl ([m, k] : List (List Feature)) l.toNat) ((gl ([(⟨b, c⟩ : Arr2Int), (⟨d, e⟩ : Arr2Int)] : List Arr2Int) a.toNat).e0_) ((gl ([(⟨b, c⟩ : Arr2Int), (⟨d, e⟩ : Arr2Int)] : List Arr2Int) a.toNat).e1_) (gl ([n, o] : List Int) i.toNat)).bind fun p =>
 (ref11_Zones F (gl ([m, k] : List (List Feature)) l.toNat) ((gl ([(⟨b, c⟩ : Arr2Int), (⟨d, e⟩ : Arr2Int)] : List Arr2Int) a.toNat).e0_) ((gl ([(⟨b, c⟩ : Arr2Int), (⟨d, e⟩ : Arr2Int)] : List Arr2Int) a.toNat).e1_) (gl ([n, o] : List Int) i.toNat)).bind fun q =>
 (ref01_Ints F p.1 q.1).bind fun t =>
 br (!t) (law11_ZoneAnswers_k16 F a j true) (law11_ZoneAnswers_k16 F a j (p.2 != q.2))) (law11_ZoneAnswers_k17 F i s)
def law11_ZoneAnswers_k14 (F : Nat) (j : (List Feature)) (k : Int) (a : Int) (b : Int) (d : (List Feature)) (e : Int) (l : Int) (i : Int) (c : (Int) → Option (Bool)) : Option (Bool) :=
 (keep_Mod F a (10 : Int)).bind fun m =>
 (keep_Mod F b (10 : Int)).bind fun n =>
 loopN (fun again (z : Int) => law11_ZoneAnswers_b15 F j k a b d e l i m n c again z) F (0 : Int)
def law11_ZoneAnswers_b8 (F : Nat) (j : (List Feature)) (o : Region) (k : Int) (b : Int) (p : Int) (q : Int) (s : Int) (d : (List Feature)) (t : Tape × Region) (e : Int) (l : Int) (i : Int) (c : Int) (m : (Int) → Option (Bool)) (n : (Int) → Option (Bool)) (a : Int) : Option (Bool) :=
 br (decide (a < ((List.length ([b, (c - (1 : Int))] : List Int) : Nat) : Int))) (gd (0 ≤ a ∧ a < ((List.length ([b, (c - (1 : Int))] : List Int) : Nat) : Int)) <|
 loopN (fun again (z : Int) => law11_ZoneAnswers_b9 F j o k b p d t e l i c a n again z) F (0 : Int)) (law11_ZoneAnswers_k14 F j k q s d e l i m)
def law11_ZoneAnswers_k7 (F : Nat) (k : (List Feature)) (l : Region) (m : Int) (a : Int) (n : Int) (o : Int) (p : Int) (d : (List Feature)) (q : Tape × Region) (e : Int) (s : Int) (i : Int) (c : (Int) → Option (Bool)) (j : Bool) : Option (Bool) :=
 br j (some false) ((keep_Mod F a (12 : Int)).bind fun b =>
 gd (I64 (b - (1 : Int))) <|
 loopN (fun again (z : Int) => law11_ZoneAnswers_b8 F k l m a n o p d q e s i b c again z) F (0 : Int))
def law11_ZoneAnswers_k18 (F : Nat) (a : Int) (b : (Int) → Option (Bool)) : Option (Bool) :=
 gd (I64 (a + (1 : Int))) <|
 b (a + (1 : Int))
def law11_ZoneAnswers_b6 (F : Nat) (i : (List Feature)) (k : Region) (b : Int) (l : Int) (m : Int) (n : Int) (o : Int) (e : (List Feature)) (p : Tape × Region) (d : Int) (c : Int) (t : (Int) → Option (Bool)) (j : (Int) → Option (Bool)) (a : Int) : Option (Bool) :=
 br (decide (a < ((List.length ([b, c] : List Int) : Nat) : Int))) (gd (0 ≤ a ∧ a < ((List.length ([b, c] : List Int) : Nat) : Int)) <|
 (zone_Hard F (gl ([i, e] : List (List Feature)) d.toNat) (gl ([b, c] : List Int) a.toNat)).bind fun q =>
 (ref11_Hard F (gl ([i, e] : List (List Feature)) d.toNat) (gl ([b, c] : List Int) a.toNat)).bind fun s =>
 (ref04_Same F q.1 s.1).bind fun u =>
 br (!u) (law11_ZoneAnswers_k7 F i k b l m n o e p d c a j true) (law11_ZoneAnswers_k7 F i k b l m n o e p d c a j (q.2 != s.2))) (law11_ZoneAnswers_k18 F d t)
def law11_ZoneAnswers_k19 (F : Nat) : Option (Bool) :=
 (law11_awake F).bind fun a =>
 some a
def law11_ZoneAnswers_b5 (F : Nat) (c : (List Feature)) (i : Region) (d : Int) (j : Int) (k : Int) (l : Int) (m : Int) (b : (List Feature)) (n : Tape × Region) (e : (Int) → Option (Bool)) (a : Int) : Option (Bool) :=
 br (decide (a < ((List.length ([c, b] : List (List Feature)) : Nat) : Int))) (gd (0 ≤ a ∧ a < ((List.length ([c, b] : List (List Feature)) : Nat) : Int)) <|
 (keep_Mod F d (45 : Int)).bind fun o =>
 loopN (fun again (z : Int) => law11_ZoneAnswers_b6 F c i d j k l m b n a o e again z) F (0 : Int)) (law11_ZoneAnswers_k19 F)
def law11_ZoneAnswers_k4 (F : Nat) (d : (List Feature)) (e : Region) (i : Int) (j : Int) (k : Int) (l : Int) (m : Int) (a : (List Int)) (b : Int) (c : (List Feature)) : Option (Bool) :=
 (keep_Tape_Broken F (⟨a, b⟩ : Tape) (9 : Int) (3 : Int)).bind fun n =>
 loopN (fun again (z : Int) => law11_ZoneAnswers_b5 F d e i j k l m c n again z) F (0 : Int)
def law11_ZoneAnswers_k3 (F : Nat) (e : (List Feature)) (i : Region) (j : Int) (k : Int) (l : Int) (m : Int) (n : Int) (a : Tape × (List Feature)) (o : Bool) (c : (List Int)) (d : Int) : Option (Bool) :=
 br o ((keep_Tape_Broken F (⟨c, d⟩ : Tape) (9 : Int) (2 : Int)).bind fun b =>
 gd (0 ≤ (0 : Int) ∧ (0 : Int) < ((List.length a.2 : Nat) : Int)) <|
 law11_ZoneAnswers_k4 F e i j k l m n b.1.l_ b.1.at_ (List.set a.2 (0 : Int).toNat (⟨(gl a.2 (0 : Int).toNat).number_, (gl a.2 (0 : Int).toNat).kind_, (gl a.2 (0 : Int).toNat).from_, (gl a.2 (0 : Int).toNat).until_, b.2⟩ : Feature))) (law11_ZoneAnswers_k4 F e i j k l m n c d a.2)
def law11_ZoneAnswers_k2 (F : Nat) (c : (List Feature)) (d : Region) (e : Int) (i : Int) (j : Int) (k : Int) (l : Int) (m : (List Int)) : Option (Bool) :=
 (keep_New F m).bind fun n =>
 (keep_Tape_Layer_O F n (5 : Int)).bind fun a =>
 br (decide ((0 : Int) < ((List.length a.2 : Nat) : Int))) ((keep_Tape_One F a.1 (6 : Int)).bind fun b =>
 law11_ZoneAnswers_k3 F c d e i j k l a b.2 b.1.l_ b.1.at_) (law11_ZoneAnswers_k3 F c d e i j k l a false a.1.l_ a.1.at_)
def law11_ZoneAnswers_b1 (F : Nat) (b : (List Feature)) (d : Region) (e : Int) (i : Int) (j : Int) (k : Int) (l : Int) (m : (List Int)) (c : (Int) → Option (Bool)) (a : Int) : Option (Bool) :=
 br (decide (a < ((List.length b : Nat) : Int))) (gd (0 ≤ a ∧ a < ((List.length b : Nat) : Int)) <|
 br (decide ((5 : Int) < ((List.length ((gl b a.toNat).region_.rects_) : Nat) : Int))) ((law11_awake F).bind fun n =>
 some n) (gd (I64 (a + (1 : Int))) <|
 c (a + (1 : Int)))) (law11_ZoneAnswers_k2 F b d e i j k l m)
def law11_ZoneAnswers_k0 (F : Nat) (b : (List Feature)) (c : Region) (d : Int) (e : Int) (i : Int) (j : Int) (k : Int) (l : (List Int)) (a : Bool) : Option (Bool) :=
 br a ((law11_awake F).bind fun m =>
 some m) (loopN (fun again (z : Int) => law11_ZoneAnswers_b1 F b c d e i j k l again z) F (0 : Int))
def law11_ZoneAnswers (F : Nat) (a : (List Feature)) (b : Region) (c : Int) (d : Int) (e : Int) (i : Int) (j : Int) (k : (List Int)) : Option (Bool) :=
 br (decide ((8 : Int) < ((List.length a : Nat) : Int))) (law11_ZoneAnswers_k0 F a b c d e i j k true) (law11_ZoneAnswers_k0 F a b c d e i j k (decide ((6 : Int) < ((List.length b.rects_ : Nat) : Int))))
end
end Go.Ab
end

section
namespace Go.Ab
def BIG : Nat := 1099511627776
theorem gd_ok {R : Type} {p : Prop} [Decidable p] {x : Option R} {y : Option R} (h : p) (k : x = y) : gd p x = y := by unfold gd; rw [if_pos h]; exact k
theorem bd_ok {α R : Type} {x : Option α} {f : α → Option R} {a : α} {y : Option R} (h : x = some a) (k : f a = y) : x.bind f = y := by rw [h]; exact k
theorem br_ok {R : Type} {b : Bool} {x y z : Option R} (ht : b = true → x = z) (hf : b = false → y = z) : br b x y = z := by cases b; exact hf rfl; exact ht rfl
theorem br_tt {R : Type} {b : Bool} {x y z : Option R} (h : b = true) (k : x = z) : br b x y = z := by subst h; exact k
theorem br_ff {R : Type} {b : Bool} {x y z : Option R} (h : b = false) (k : y = z) : br b x y = z := by subst h; exact k
theorem br_ite {R : Type} (b : Bool) (x y : Option R) : br b x y = if b = true then x else y := by cases b <;> rfl
theorem loopN_ok {σ R : Type} {body : (σ → Option R) → σ → Option R} {y : Option R} (I : σ → Prop) (μ : σ → Nat)
  (round : ∀ again z, I z → (∀ z', I z' → μ z' < μ z → again z' = y) → body again z = y) : ∀ {n : Nat} {z : σ}, I z → μ z < n → loopN body n z = y := by
 intro n
 induction n with
 | zero => intro z _ h; omega
 | succ n ih =>
  intro z hz hμ
  exact round (loopN body n) z hz fun z' hz' hlt => ih hz' (by omega)
section
variable {α : Type} [Emb α]
theorem gl_lt {l : List α} {i : Nat} (h : i < l.length) : gl l i = l[i] := by simp [gl, List.getD_eq_getElem?_getD, h]
theorem gl_mem {l : List α} {i : Nat} (h : i < l.length) : gl l i ∈ l := by rw [gl_lt h]; exact List.getElem_mem h
theorem drop_gl {l : List α} {i : Nat} (h : i < l.length) : l.drop i = gl l i :: l.drop (i + 1) := by rw [gl_lt h]; exact List.drop_eq_getElem_cons h
theorem take_gl {l : List α} {i : Nat} (h : i < l.length) : l.take (i + 1) = l.take i ++ [gl l i] := by rw [gl_lt h]; exact List.take_succ_eq_append_getElem h
end
theorem i64_of {n : Int} (h1 : -4611686018427387904 ≤ n) (h2 : n ≤ 4611686018427387904) : I64 n := ⟨by omega, by omega⟩
theorem range_ok {α R : Type} [Emb α] {l : List α} {body : (Int → Option R) → Int → Option R} (y : List α → Option R)
  (step : ∀ again (i : Nat), i < l.length → again ((i : Int) + 1) = y (l.drop (i + 1)) → body again (i : Int) = y (gl l i :: l.drop (i + 1)))
  (stop : ∀ again, body again (l.length : Int) = y []) {F : Nat} (hF : l.length < F) : loopN body F 0 = y l := by
 have key : ∀ (n : Nat) (i : Nat), i ≤ l.length → l.length - i < n → loopN body n (i : Int) = y (l.drop i) := by
  intro n
  induction n with
  | zero => intro i _ h; omega
  | succ n ih =>
   intro i hi hn
   show body (loopN body n) (i : Int) = _
   by_cases h : i < l.length
   ·rw [drop_gl h]
    refine step _ i h ?_
    have := ih (i + 1) h (by omega)
    rw [← this]; congr 1
   ·have : i = l.length := by omega
    subst this
    rw [List.drop_length]; exact stop _
 have := key F 0 (Nat.zero_le _) (by omega)
 rw [List.drop_zero] at this
 exact this
theorem range_st {α σ R : Type} [Emb α] {l : List α} {body : (Int × σ → Option R) → Int × σ → Option R} (I : List α → σ → Prop) (y : List α → σ → Option R)
  (step : ∀ again (i : Nat) (s : σ), i < l.length → I (gl l i :: l.drop (i + 1)) s → (∀ s', I (l.drop (i + 1)) s' → again ((i : Int) + 1, s') = y (l.drop (i + 1)) s') → body again ((i : Int), s) = y (gl l i :: l.drop (i + 1)) s)
  (stop : ∀ again (s : σ), I [] s → body again ((l.length : Int), s) = y [] s) {F : Nat} (hF : l.length < F) {s0 : σ} (h0 : I l s0) : loopN body F (0, s0) = y l s0 := by
 have key : ∀ (n : Nat) (i : Nat) (s : σ), i ≤ l.length → l.length - i < n → I (l.drop i) s → loopN body n ((i : Int), s) = y (l.drop i) s := by
  intro n
  induction n with
  | zero => intro i _ _ h; omega
  | succ n ih =>
   intro i s hi hn hI
   show body (loopN body n) ((i : Int), s) = _
   by_cases h : i < l.length
   ·rw [drop_gl h] at hI ⊢
    refine step _ i s h hI fun s' hs' => ?_
    have := ih (i + 1) s' h (by omega) hs'
    rw [← this]; congr 1
   ·have : i = l.length := by omega
    subst this
    rw [List.drop_length] at hI ⊢; exact stop _ s hI
 have := key F 0 s0 (Nat.zero_le _) (by omega) (by rwa [List.drop_zero])
 rw [List.drop_zero] at this
 exact this
theorem and_br {R : Type} (K : Bool → Option R) (b x : Bool) : br b (K x) (K false) = K (b && x) := by cases b <;> rfl
theorem or_br {R : Type} (K : Bool → Option R) (b x : Bool) : br b (K true) (K x) = K (b || x) := by cases b <;> rfl
theorem any_drop {α : Type} [Emb α] {l : List α} {i : Nat} (h : i < l.length) (p : α → Bool) : (l.drop i).any p = (p (gl l i) || (l.drop (i + 1)).any p) := by rw [drop_gl h]; rfl
theorem lt_dec {a b : Nat} (h : a < b) : decide ((a : Int) < ((b : Nat) : Int)) = true := by simpa using h
theorem not_lt_dec (a : Nat) : decide ((a : Int) < ((a : Nat) : Int)) = false := by simp
theorem gd_G {R : Type} {p : Prop} [Decidable p] {x : Option R} {y : Option R} (h : p := by first | omega | exact i64_of (by omega) (by omega) | (simp only [LIM, BIG, List.length_append, List.length_cons, List.length_nil, List.length_map, List.length_take, List.length_drop, List.length_set] at *; omega)) (k : x = y) : gd p x = y := gd_ok h k
end Go.Ab
end

section
namespace Go.Ab
def Asc (l : List Int) : Prop := l.Pairwise (· < ·)
theorem Asc.at_lt {l : List Int} (h : Asc l) {i j : Nat} (hij : i < j) (hj : j < l.length) : gl l i < gl l j := by
 rw [gl_lt (by omega), gl_lt hj]
 exact List.pairwise_iff_getElem.1 h i j (by omega) hj hij
theorem mem_gl {l : List Int} {v : Int} (h : v ∈ l) : ∃ j, j < l.length ∧ gl l j = v := by
 obtain ⟨j, hj, e⟩ := List.getElem_of_mem h
 exact ⟨j, hj, by rw [gl_lt hj]; exact e⟩
theorem Asc.gap {c : List Int} (h : Asc c) {i : Nat} (hi : i + 1 < c.length) {t v : Int} (h1 : gl c i ≤ t) (h2 : t < gl c (i + 1)) (hv : v ∈ c) : (v ≤ t ↔ v ≤ gl c i) := by
 obtain ⟨j, hj, rfl⟩ := mem_gl hv
 rcases Nat.lt_or_ge i j with hij | hij
 ·rcases Nat.lt_or_ge (i + 1) j with h3 | h3
  ·have := h.at_lt h3 hj
   have := h.at_lt (show i < i + 1 by omega) hi
   omega
  ·have : j = i + 1 := by omega
   subst this
   have := h.at_lt (show i < i + 1 by omega) hi
   omega
 ·rcases Nat.lt_or_ge j i with h3 | h3
  ·have := h.at_lt h3 (by omega)
   omega
  ·have : j = i := by omega
   subst this; omega
def CovX (c : List Int) (l : List Rect) : Prop := ∀ r ∈ l, r.left_ ∈ c ∧ r.right_ ∈ c
def CovY (c : List Int) (l : List Rect) : Prop := ∀ r ∈ l, r.low_ ∈ c ∧ r.high_ ∈ c
theorem inR_congr {l : List Rect} {x y x' y' : Int} (h : ∀ r ∈ l, r.has x y = r.has x' y') : inR l x y = inR l x' y' := by
 induction l with
 | nil => rfl
 | cons r l ih =>
  simp only [inR, List.any_cons] at ih ⊢
  rw [h r (by simp), ih fun q hq => h q (by simp [hq])]
theorem inR_false {l : List Rect} {x y : Int} (h : ∀ r ∈ l, r.has x y = false) : inR l x y = false := by
 induction l with
 | nil => rfl
 | cons r l ih =>
  simp only [inR, List.any_cons] at ih ⊢
  rw [h r (by simp), ih fun q hq => h q (by simp [hq])]; rfl
theorem has_iff (r : Rect) (x y : Int) : r.has x y = true ↔ r.left_ ≤ x ∧ x < r.right_ ∧ r.low_ ≤ y ∧ y < r.high_ := by simp [Rect.has, and_assoc]
theorem has_eq {r : Rect} {x y x' y' : Int} (h : (r.left_ ≤ x ∧ x < r.right_ ∧ r.low_ ≤ y ∧ y < r.high_) ↔ (r.left_ ≤ x' ∧ x' < r.right_ ∧ r.low_ ≤ y' ∧ y' < r.high_)) : r.has x y = r.has x' y' := by
 rw [Bool.eq_iff_iff, has_iff, has_iff]; exact h
theorem has_ff {r : Rect} {x y : Int} (h : ¬ (r.left_ ≤ x ∧ x < r.right_ ∧ r.low_ ≤ y ∧ y < r.high_)) : r.has x y = false := by
 rw [← Bool.not_eq_true, has_iff]; exact h
theorem CovX.gap {c : List Int} {l : List Rect} (hc : Asc c) (h : CovX c l) {i : Nat} (hi : i + 1 < c.length) {t : Int} (h1 : gl c i ≤ t) (h2 : t < gl c (i + 1)) (y : Int) : inR l t y = inR l (gl c i) y :=
 inR_congr fun r hr => has_eq (by
  have a := hc.gap hi h1 h2 (h r hr).1
  have b := hc.gap hi h1 h2 (h r hr).2
  omega)
theorem CovY.gap {c : List Int} {l : List Rect} (hc : Asc c) (h : CovY c l) {i : Nat} (hi : i + 1 < c.length) {t : Int} (h1 : gl c i ≤ t) (h2 : t < gl c (i + 1)) (x : Int) : inR l x t = inR l x (gl c i) :=
 inR_congr fun r hr => has_eq (by
  have a := hc.gap hi h1 h2 (h r hr).1
  have b := hc.gap hi h1 h2 (h r hr).2
  omega)
theorem CovX.before {c : List Int} {l : List Rect} (h : CovX c l) {t : Int} (ht : ∀ v ∈ c, t < v) (y : Int) : inR l t y = false :=
 inR_false fun r hr => has_ff (by have := ht _ (h r hr).1; omega)
theorem CovX.after {c : List Int} {l : List Rect} (h : CovX c l) {t : Int} (ht : ∀ v ∈ c, v ≤ t) (y : Int) : inR l t y = false :=
 inR_false fun r hr => has_ff (by have := ht _ (h r hr).2; omega)
theorem CovY.before {c : List Int} {l : List Rect} (h : CovY c l) {t : Int} (ht : ∀ v ∈ c, t < v) (x : Int) : inR l x t = false :=
 inR_false fun r hr => has_ff (by have := ht _ (h r hr).1; omega)
theorem CovY.after {c : List Int} {l : List Rect} (h : CovY c l) {t : Int} (ht : ∀ v ∈ c, v ≤ t) (x : Int) : inR l x t = false :=
 inR_false fun r hr => has_ff (by have := ht _ (h r hr).2; omega)
theorem Asc.first {c : List Int} (h : Asc c) {t : Int} (ht : t < gl c 0) : ∀ v ∈ c, t < v := by
 intro v hv
 obtain ⟨j, hj, rfl⟩ := mem_gl hv
 rcases Nat.eq_zero_or_pos j with rfl | hp
 ·exact ht
 ·have := h.at_lt hp hj; omega
theorem Asc.last {c : List Int} (h : Asc c) {t : Int} {i : Nat} (hi : i + 1 = c.length) (ht : gl c i ≤ t) : ∀ v ∈ c, v ≤ t := by
 intro v hv
 obtain ⟨j, hj, rfl⟩ := mem_gl hv
 rcases Nat.lt_or_ge j i with h1 | h1
 ·have := h.at_lt h1 (by omega); omega
 ·have : j = i := by omega
  subst this; exact ht
structure Step {α : Type} (d : α) (c : List Int) (f : Int → α) : Prop where
 asc : Asc c
 gap : ∀ i, i + 1 < c.length → ∀ t, gl c i ≤ t → t < gl c (i + 1) → f t = f (gl c i)
 before : ∀ t, (∀ v ∈ c, t < v) → f t = d
 after : ∀ t, (∀ v ∈ c, v ≤ t) → f t = d
theorem Step.start {α : Type} {d : α} {c : List Int} {f : Int → α} (h : Step d c f) (_ : 0 < c.length) : Bst d f [] (gl c 0) := .start fun t ht => h.before t (h.asc.first ht)
theorem Step.empty {α : Type} {d : α} {c : List Int} {f : Int → α} (h : Step d c f) (hc : c.length = 0) (t : Int) : f t = d := h.before t fun v hv => by
 rw [List.eq_nil_of_length_eq_zero hc] at hv; cases hv
theorem Step.done {α : Type} {d : α} {c : List Int} {f : Int → α} (h : Step d c f) {i : Nat} (hi : i + 1 = c.length) {acc : List (Rn α)} (hb : Bst d f acc (gl c i)) (t : Int) : atR d acc t = f t := by
 rcases Int.lt_or_le t (gl c i) with h1 | h1
 ·exact hb.val t h1
 ·rw [hb.out t h1, h.after t (h.asc.last hi h1)]
open Classical in
noncomputable def spn (f : Int → Bool) : List Span := if h : ∃ l, SpOk l ∧ ∀ x, inS l x = f x then h.choose else []
theorem spn_eq {f : Int → Bool} {l : List Span} (hl : SpOk l) (h : ∀ x, inS l x = f x) : spn f = l := by
 have he : ∃ l, SpOk l ∧ ∀ x, inS l x = f x := ⟨l, hl, h⟩
 unfold spn
 rw [dif_pos he]
 exact he.choose_spec.1.unique hl fun x => (he.choose_spec.2 x).trans (h x).symm
theorem SpOk.nil : SpOk [] := ⟨fun s hs => (List.not_mem_nil hs).elim, List.Pairwise.nil⟩
theorem spn_false {f : Int → Bool} (h : ∀ x, f x = false) : spn f = [] := spn_eq .nil fun x => (h x).symm
def RowsOk (S : Int → Int → Bool) : Prop := ∀ y, ∃ l, SpOk l ∧ ∀ x, inS l x = S x y
theorem RowsOk.sp {S : Int → Int → Bool} (h : RowsOk S) (y : Int) : SpOk (spn fun x => S x y) ∧ ∀ x, inS (spn fun x => S x y) x = S x y := by
 obtain ⟨l, h1, h2⟩ := h y
 rw [spn_eq h1 h2]; exact ⟨h1, h2⟩
theorem Step.cn {S : Int → Int → Bool} (hr : RowsOk S) {c : List Int} (h : Step [] c fun y => spn fun x => S x y) {acc : List (Rn (List Span))} (hacc : Runs acc) (hval : ∀ t, atR [] acc t = spn fun x => S x t) (hne : ∀ b ∈ acc, b.v ≠ []) : cn S = flat acc ∧ Fin S := by
 have hv : ∀ b ∈ acc, b.v = spn fun x => S x b.lo := by
  intro b hb
  have hat : ∀ (l : List (Rn (List Span))), Runs l → b ∈ l → atR [] l b.lo = b.v := by
   intro l
   induction l with
   | nil => intro _ hb; cases hb
   | cons a l ih =>
    intro hl hb
    rcases List.mem_cons.1 hb with rfl | hb
    ·have := hl.pos b (by simp)
     rw [atR, if_pos ⟨by omega, this⟩]
    ·have h1 := (hl.head b hb).1
     rw [atR, if_neg (by omega)]; exact ih hl.tail hb
  rw [← hval, hat acc hacc hb]
 have hB : Bands acc := ⟨hacc, fun b hb => by rw [hv b hb]; exact (hr.sp _).1, hne⟩
 have hS : ∀ x y, inS (atR [] acc y) x = S x y := fun x y => by rw [hval]; exact (hr.sp y).2 x
 exact ⟨cn_eq hB hS, acc, hB, hS⟩
structure Grid (xs ys : List Int) (S : Int → Int → Bool) : Prop where
 x : ∀ y, Step false xs fun x => S x y
 y : ∀ x, Step false ys fun y => S x y
theorem Step.spansL {xs : List Int} {f : Int → Bool} (h : Step false xs f) : ∃ l, SpOk l ∧ (∀ x, inS l x = f x) ∧ l.length ≤ xs.length := by
 by_cases h0 : xs.length = 0
 ·exact ⟨[], .nil, fun x => (h.empty h0 x).symm, by simp⟩
 ·have key : ∀ i, i + 1 ≤ xs.length → ∃ l : List Span, Bst false f (l.map Span.rn) (gl xs i) ∧ l.length ≤ i := by
   intro i
   induction i with
   | zero => intro hi; exact ⟨[], h.start (by omega), by simp⟩
   | succ i ih =>
    intro hi
    obtain ⟨l, hl, hll⟩ := ih (by omega)
    have hlt := h.asc.at_lt (show i < i + 1 by omega) (by omega)
    cases hf : f (gl xs i) with
    | false => exact ⟨l, hl.skip (by omega) fun t h1 h2 => (h.gap i (by omega) t h1 h2).trans hf, by omega⟩
    | true =>
     rcases List.eq_nil_or_concat l with rfl | ⟨l', s, hls⟩
     ·refine ⟨[⟨gl xs i, gl xs (i + 1)⟩], ?_, by simp⟩
      have := hl.add hlt (h.gap i (by omega)) (fun a ha => by simp at ha)
      rw [hf] at this; exact this
     ·rw [List.concat_eq_append] at hls
      subst hls
      by_cases hs : s.right_ = gl xs i
      ·refine ⟨l' ++ [⟨s.left_, gl xs (i + 1)⟩], ?_, by simp at hll ⊢; omega⟩
       rw [List.map_append] at hl
       have := hl.grow (a := s.rn) hs hlt fun t h1 h2 => (h.gap i (by omega) t h1 h2).trans hf
       rw [List.map_append]; exact this
      ·refine ⟨(l' ++ [s]) ++ [⟨gl xs i, gl xs (i + 1)⟩], ?_, by simp at hll ⊢; omega⟩
       have := hl.add hlt (h.gap i (by omega)) (fun a ha he => by
        rw [List.map_append] at ha
        simp at ha
        subst ha
        exact absurd he hs)
       rw [hf] at this
       rw [List.map_append]; exact this
  obtain ⟨l, hl, hll⟩ := key (xs.length - 1) (by omega)
  refine ⟨l, .of_runs hl.runs, fun x => ?_, by omega⟩
  rw [inS_atR]; exact h.done (by omega) hl x
theorem Step.spans {xs : List Int} {f : Int → Bool} (h : Step false xs f) : ∃ l, SpOk l ∧ ∀ x, inS l x = f x := by
 obtain ⟨l, h1, h2, _⟩ := h.spansL; exact ⟨l, h1, h2⟩
theorem Step.spn_len {xs : List Int} {f : Int → Bool} (h : Step false xs f) : (spn f).length ≤ xs.length := by
 obtain ⟨l, h1, h2, h3⟩ := h.spansL; rw [spn_eq h1 h2]; exact h3
theorem Grid.rows {xs ys : List Int} {S : Int → Int → Bool} (h : Grid xs ys S) : RowsOk S := fun y => (h.x y).spans
theorem Grid.step {xs ys : List Int} {S : Int → Int → Bool} (h : Grid xs ys S) : Step [] ys fun y => spn fun x => S x y := by
 refine ⟨(h.y 0).asc, fun i hi t h1 h2 => ?_, fun t ht => ?_, fun t ht => ?_⟩
 ·congr 1; funext x; exact (h.y x).gap i hi t h1 h2
 ·exact spn_false fun x => (h.y x).before t ht
 ·exact spn_false fun x => (h.y x).after t ht
theorem Grid.of {xs ys : List Int} {a b : List Rect} (hx : Asc xs) (hy : Asc ys) (ax : CovX xs a) (bx : CovX xs b) (ay : CovY ys a) (by' : CovY ys b) {k : Bool → Bool → Bool} (hk : k false false = false) :
  Grid xs ys fun x y => k (inR a x y) (inR b x y) := by
 refine ⟨fun y => ⟨hx, fun i hi t h1 h2 => ?_, fun t ht => ?_, fun t ht => ?_⟩, fun x => ⟨hy, fun i hi t h1 h2 => ?_, fun t ht => ?_, fun t ht => ?_⟩⟩
 ·simp only [ax.gap hx hi h1 h2, bx.gap hx hi h1 h2]
 ·simp only [ax.before ht, bx.before ht, hk]
 ·simp only [ax.after ht, bx.after ht, hk]
 ·simp only [ay.gap hy hi h1 h2, by'.gap hy hi h1 h2]
 ·simp only [ay.before ht, by'.before ht, hk]
 ·simp only [ay.after ht, by'.after ht, hk]
end Go.Ab
end
