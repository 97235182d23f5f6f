/- The code follows the plain programs: whenever the plain program has a result. -/
import Derived.Test.YthifkkpkmdpoiaaSpA
import Derived.Test.YthifkkpkmdpoiaaBaB
set_option linter.unusedVariables false
set_option linter.unusedSimpArgs false
section
namespace Go.Ab
open Go.Proofs
set_option linter.unusedVariables false
set_option maxRecDepth 100000
theorem slices_Delete_Feature_spec {F : Nat} {a : (List Feature)} {e : Int} {d : Int} {r : (List Feature)} (h : slices_Delete_Feature F a e d = some r) :
  FSpec Try.prog 22 [ow 0, vi e, vi d] [(0, AO a)] (ow 100) [(100, AO (α := Feature) r)] := by
 refine FSpec.intro prog_mixed prog_lay Try.func22 rfl (by kernel_rfl) fun C Fm => ?_
 unfold slices_Delete_Feature at h
 refine AW.SG Fm [.m] (fun K => True) [(0, ow 0), (1, vi e), (2, vi d)] [(0, AO a)] True.intro ?_
 obtain ⟨q, h⟩ := gd_some h
 refine AW.SG Fm [.s, .s, .s, .s, .s, .k (rE { v := .any })] (fun K => K 5 ∧ True) [(0, ow 0), (1, vi e), (2, vi d)] [(0, AO a)] ⟨KAt.vslice3 (l := e) (u := d) (m := ((List.length a : Nat) : Int)) (id := 0) (lo0 := 0) (n := (List.length (α := Feature) a)) (N := List.length (α := Feature) a) (f := LF (α := Feature) a) prog_lay slT23 rfl rfl (by kernel_rfl) (by kernel_rfl) (by kernel_rfl) (by kernel_rfl) (by kernel_rfl) (by kernel_rfl) q, ⟨⟩⟩ ?_
 refine AW.seq ?_
 refine AW.SG0 Fm 3 [(0, ow 0), (1, vi e), (2, vi d), (16, vb (e == d))] [(0, AO a)] ?_
 refine AW.cond (b := (e == d)) (by kernel_rfl) (fun o => ?_) (fun o => ?_)
 ·have h := br_t h o
  refine AW.SG0 Fm 2 [(6, ow 0)] [(0, AO a)] ?_
  refine AW.ret ?_
  obtain rfl := Option.some.inj h
  exact Kn.re Fm [(100, 0)] [(6, ow 100)] [(100, AO a)] (by kernel_rfl) (by kernel_rfl) (by kernel_rfl) (by kernel_rfl) (Kn.dn Fm (by kernel_rfl))
 ·have h := br_f h o
  refine AW.skip ?_
  refine AW.SG0 Fm 3 [(0, ow 0), (1, vi e), (2, vi d), (7, vi ((List.length a : Nat) : Int))] [(0, AO a)] ?_
  obtain ⟨t, h⟩ := gd_some h
  obtain ⟨w, h⟩ := gd_some h
  obtain ⟨p, h⟩ := gd_some h
  refine AW.SG Fm [.s, .s, .k (rE { v := .v (.c (.sub 0 5 0 ((e).toNat))) }), .s, .s, .k (rE { v := .v (.c (.sub 0 5 (0 + (d).toNat) ((List.length (α := Feature) a) - (d).toNat))) }), .k (rE { v := .v (.c (.sub 0 5 0 (((e).toNat) + ((List.length (α := Feature) a) - (d).toNat)))), upd := some (0, .arr 5 (List.length (α := Feature) a) (fun i => if 0 + ((e).toNat) ≤ i ∧ i < 0 + ((e).toNat) + ((List.length (α := Feature) a) - (d).toNat) then (fun j => (LF (α := Feature) a) ((0 + (d).toNat) + j)) (i - (0 + ((e).toNat))) else (LF (α := Feature) a) i)) }), .s] (fun K => K 2 ∧ K 5 ∧ K 6 ∧ True) [(0, .v (.c (.sub 0 5 0 (((e).toNat) + ((List.length (α := Feature) a) - (d).toNat))))), (7, vi ((List.length a : Nat) : Int))] [(0, .arr 5 (List.length (α := Feature) a) (fun i => if 0 + ((e).toNat) ≤ i ∧ i < 0 + ((e).toNat) + ((List.length (α := Feature) a) - (d).toNat) then (fun j => (LF (α := Feature) a) ((0 + (d).toNat) + j)) (i - (0 + ((e).toNat))) else (LF (α := Feature) a) i))] ⟨KAt.vslice (l := none) (u := (some e)) (id := 0) (lo0 := 0) (n := (List.length (α := Feature) a)) (N := List.length (α := Feature) a) (f := LF (α := Feature) a) prog_lay slT23 rfl rfl (by kernel_rfl) (by kernel_rfl) (by kernel_rfl) (by kernel_rfl) (by kernel_rfl) t (by kernel_rfl), KAt.vslice (l := (some d)) (u := none) (id := 0) (lo0 := 0) (n := (List.length (α := Feature) a)) (N := List.length (α := Feature) a) (f := LF (α := Feature) a) prog_lay slT23 rfl rfl (by kernel_rfl) (by kernel_rfl) (by kernel_rfl) (by kernel_rfl) (by kernel_rfl) w (by kernel_rfl), KAt.vappend (id := 0) (lo0 := 0) (n := ((e).toNat)) (lo2 := (0 + (d).toNat)) (m := ((List.length (α := Feature) a) - (d).toNat)) (N := List.length (α := Feature) a) (f := (LF (α := Feature) a)) prog_lay slT23 rfl rfl (by kernel_rfl) (by kernel_rfl) (by kernel_rfl) (by kernel_rfl) p.1 rfl rfl, ⟨⟩⟩ ?_
  refine Kn.wk [(0, .v (.c (.sub 0 5 0 (((e).toNat) + ((List.length (α := Feature) a) - (d).toNat))))), (7, vi ((List.length a : Nat) : Int))] [(0, AO (α := Feature) (mvl a (0 + ((e).toNat)) (0 + (d).toNat) ((List.length (α := Feature) a) - (d).toNat)))] (FE.refl _) (⟨rfl, OLe.is (Is.mvl (l := a) (m := 0 + ((e).toNat)) (lo := (0 + (d).toNat)) (k := ((List.length (α := Feature) a) - (d).toNat)) p.2), ⟨⟩⟩) ?_
  obtain ⟨y, h⟩ := gd_some h
  refine AW.SG Fm [.s, .s, .k (rE { v := vi (((((e).toNat) + ((List.length (α := Feature) a) - (d).toNat)) : Nat) : Int) }), .s, .k (rE { v := .v (.c (.sub 0 5 (0 + ((((((e).toNat) + ((List.length (α := Feature) a) - (d).toNat)) : Nat) : Int)).toNat) ((((List.length a : Nat) : Int)).toNat - ((((((e).toNat) + ((List.length (α := Feature) a) - (d).toNat)) : Nat) : Int)).toNat))) }), .k (rE { v := .any, upd := some (0, .arr 5 (List.length (α := Feature) (mvl a (0 + ((e).toNat)) (0 + (d).toNat) ((List.length (α := Feature) a) - (d).toNat))) (fun i => if (0 + ((((((e).toNat) + ((List.length (α := Feature) a) - (d).toNat)) : Nat) : Int)).toNat) ≤ i ∧ i < (0 + ((((((e).toNat) + ((List.length (α := Feature) a) - (d).toNat)) : Nat) : Int)).toNat) + ((((List.length a : Nat) : Int)).toNat - ((((((e).toNat) + ((List.length (α := Feature) a) - (d).toNat)) : Nat) : Int)).toNat) then (fun _ => [.int .i64 0, .int .i64 0, .int .i64 0, .int .i64 0, DL (α := Rect) []]) (i - (0 + ((((((e).toNat) + ((List.length (α := Feature) a) - (d).toNat)) : Nat) : Int)).toNat)) else (LF (α := Feature) (mvl a (0 + ((e).toNat)) (0 + (d).toNat) ((List.length (α := Feature) a) - (d).toNat))) i)) })] (fun K => K 2 ∧ K 4 ∧ K 5 ∧ True) [(0, .v (.c (.sub 0 5 0 (((e).toNat) + ((List.length (α := Feature) a) - (d).toNat)))))] [(0, .arr 5 (List.length (α := Feature) (mvl a (0 + ((e).toNat)) (0 + (d).toNat) ((List.length (α := Feature) a) - (d).toNat))) (fun i => if (0 + ((((((e).toNat) + ((List.length (α := Feature) a) - (d).toNat)) : Nat) : Int)).toNat) ≤ i ∧ i < (0 + ((((((e).toNat) + ((List.length (α := Feature) a) - (d).toNat)) : Nat) : Int)).toNat) + ((((List.length a : Nat) : Int)).toNat - ((((((e).toNat) + ((List.length (α := Feature) a) - (d).toNat)) : Nat) : Int)).toNat) then (fun _ => [.int .i64 0, .int .i64 0, .int .i64 0, .int .i64 0, DL (α := Rect) []]) (i - (0 + ((((((e).toNat) + ((List.length (α := Feature) a) - (d).toNat)) : Nat) : Int)).toNat)) else (LF (α := Feature) (mvl a (0 + ((e).toNat)) (0 + (d).toNat) ((List.length (α := Feature) a) - (d).toNat))) i))] ⟨KAt.vlen (es := 5) (id := 0) (lo0 := 0) (n := (((e).toNat) + ((List.length (α := Feature) a) - (d).toNat))) (N := List.length (α := Feature) (mvl a (0 + ((e).toNat)) (0 + (d).toNat) ((List.length (α := Feature) a) - (d).toNat))) (f := LF (α := Feature) (mvl a (0 + ((e).toNat)) (0 + (d).toNat) ((List.length (α := Feature) a) - (d).toNat))) prog_lay slT23 rfl rfl (by kernel_rfl) (by kernel_rfl) (by kernel_rfl), KAt.vslice (l := (some (((((e).toNat) + ((List.length (α := Feature) a) - (d).toNat)) : Nat) : Int))) (u := (some ((List.length a : Nat) : Int))) (id := 0) (lo0 := 0) (n := (((e).toNat) + ((List.length (α := Feature) a) - (d).toNat))) (N := List.length (α := Feature) (mvl a (0 + ((e).toNat)) (0 + (d).toNat) ((List.length (α := Feature) a) - (d).toNat))) (f := LF (α := Feature) (mvl a (0 + ((e).toNat)) (0 + (d).toNat) ((List.length (α := Feature) a) - (d).toNat))) prog_lay slT23 rfl rfl (by kernel_rfl) (by kernel_rfl) (by kernel_rfl) (by kernel_rfl) (by kernel_rfl) y (by kernel_rfl), KAt.vclear (id := 0) (lo0 := (0 + ((((((e).toNat) + ((List.length (α := Feature) a) - (d).toNat)) : Nat) : Int)).toNat)) (n := ((((List.length a : Nat) : Int)).toNat - ((((((e).toNat) + ((List.length (α := Feature) a) - (d).toNat)) : Nat) : Int)).toNat)) (N := List.length (α := Feature) (mvl a (0 + ((e).toNat)) (0 + (d).toNat) ((List.length (α := Feature) a) - (d).toNat))) (f := (LF (α := Feature) (mvl a (0 + ((e).toNat)) (0 + (d).toNat) ((List.length (α := Feature) a) - (d).toNat)))) prog_lay slT23 [.int .i64 0, .int .i64 0, .int .i64 0, .int .i64 0, .lst 0 fun _ => []] [.int .i64 0, .int .i64 0, .int .i64 0, .int .i64 0, DL (α := Rect) []] ⟨DLe.refl _, DLe.refl _, DLe.refl _, DLe.refl _, DLe.nil _ _, ⟨⟩⟩ rfl rfl (by kernel_rfl) (Nat.succ_pos _) (by kernel_rfl) (by kernel_rfl) (by kernel_rfl) (by kernel_rfl) rfl, ⟨⟩⟩ ?_
  refine Kn.wk [(0, .v (.c (.sub 0 5 0 (((e).toNat) + ((List.length (α := Feature) a) - (d).toNat)))))] [(0, AO (α := Feature) (clr (mvl a (0 + ((e).toNat)) (0 + (d).toNat) ((List.length (α := Feature) a) - (d).toNat)) (0 + ((((((e).toNat) + ((List.length (α := Feature) a) - (d).toNat)) : Nat) : Int)).toNat) ((((List.length a : Nat) : Int)).toNat - ((((((e).toNat) + ((List.length (α := Feature) a) - (d).toNat)) : Nat) : Int)).toNat)))] (FE.refl _) (⟨rfl, OLe.is (Is.clr (l := (mvl a (0 + ((e).toNat)) (0 + (d).toNat) ((List.length (α := Feature) a) - (d).toNat))) (0 + ((((((e).toNat) + ((List.length (α := Feature) a) - (d).toNat)) : Nat) : Int)).toNat) ((((List.length a : Nat) : Int)).toNat - ((((((e).toNat) + ((List.length (α := Feature) a) - (d).toNat)) : Nat) : Int)).toNat) (zd := [.int .i64 0, .int .i64 0, .int .i64 0, .int .i64 0, DL (α := Rect) []]) (by kernel_rfl)), ⟨⟩⟩) ?_
  refine AW.SG0 Fm 2 [(6, .v (.c (.sub 0 5 0 (((e).toNat) + ((List.length (α := Feature) a) - (d).toNat)))))] [(0, AO (α := Feature) (clr (mvl a (0 + ((e).toNat)) (0 + (d).toNat) ((List.length (α := Feature) a) - (d).toNat)) (0 + ((((((e).toNat) + ((List.length (α := Feature) a) - (d).toNat)) : Nat) : Int)).toNat) ((((List.length a : Nat) : Int)).toNat - ((((((e).toNat) + ((List.length (α := Feature) a) - (d).toNat)) : Nat) : Int)).toNat)))] ?_
  refine AW.ret ?_
  obtain ⟨A, h⟩ := gd_some h
  refine Kn.r Fm ((6, .v (.c (.sub 0 5 0 (((e).toNat) + ((List.length (α := Feature) a) - (d).toNat))))) :: []) ((0, AO (α := Feature) (clr (mvl a (0 + ((e).toNat)) (0 + (d).toNat) ((List.length (α := Feature) a) - (d).toNat)) (0 + ((((((e).toNat) + ((List.length (α := Feature) a) - (d).toNat)) : Nat) : Int)).toNat) ((((List.length a : Nat) : Int)).toNat - ((((((e).toNat) + ((List.length (α := Feature) a) - (d).toNat)) : Nat) : Int)).toNat))) :: []) (by kernel_rfl) ?_
  refine Kn.shrink Fm (k := 1000) (n := (((e).toNat) + ((List.length (α := Feature) a) - (d).toNat))) (by kernel_rfl) (by kernel_rfl) (by kernel_rfl) ?_
  refine Kn.obj (OLe.is (Is.takeN (Is.refl (clr (mvl a (0 + ((e).toNat)) (0 + (d).toNat) ((List.length (α := Feature) a) - (d).toNat)) (0 + ((((((e).toNat) + ((List.length (α := Feature) a) - (d).toNat)) : Nat) : Int)).toNat) ((((List.length a : Nat) : Int)).toNat - ((((((e).toNat) + ((List.length (α := Feature) a) - (d).toNat)) : Nat) : Int)).toNat))) A)) ?_
  obtain rfl := Option.some.inj h
  exact Kn.re Fm [(100, 1000)] [(6, ow 100)] [(100, AO (α := Feature) ((clr (mvl a (0 + ((e).toNat)) (0 + (d).toNat) ((List.length (α := Feature) a) - (d).toNat)) (0 + ((((((e).toNat) + ((List.length (α := Feature) a) - (d).toNat)) : Nat) : Int)).toNat) ((((List.length a : Nat) : Int)).toNat - ((((((e).toNat) + ((List.length (α := Feature) a) - (d).toNat)) : Nat) : Int)).toNat)).take (((e).toNat) + ((List.length (α := Feature) a) - (d).toNat))))] (by kernel_rfl) (by kernel_rfl) (by kernel_rfl) (by kernel_rfl) (Kn.dn Fm (by kernel_rfl))
theorem feature_End_spec {F : Nat} {l : (List Feature)} {m : Int} {i : Int} {r : (List Feature) × Int} (h : feature_End F l m i = some r) :
  FSpec Try.prog 8 [AL l, vi m, vi i] [] (.t [.c (.d (DL (α := Feature) r.1)), .c (ci r.2)]) [] := by
 refine FSpec.intro prog_mixed prog_lay Try.func8 rfl (by kernel_rfl) fun C Fm => ?_
 unfold feature_End at h
 refine AW.SG0 Fm 2 [(0, AL l), (1, vi m), (2, vi i)] [] ?_
 refine AW.seq ?_
 refine AW.seq ?_
 obtain ⟨n, N, h⟩ := bd_some h
 refine AW.G Fm [.s, .k (cE [] [] (vi n) [] []), .s] (fun K => K 1 ∧ True) [(0, AL l), (1, vi m), (2, vi i), (8, vi n)] [] ⟨KAt.CC (feature_Check_spec N) Try.call9 [], ⟨⟩⟩ ?_
 refine AW.SG0 Fm 2 [(0, AL l), (1, vi m), (2, vi i), (8, vi n), (15, vb (n != (0 : Int)))] [] ?_
 refine AW.cond (b := (n != (0 : Int))) (by kernel_rfl) (fun q => ?_) (fun q => ?_)
 ·have h := br_t h q
  refine AW.SG0 Fm 3 [(6, .v (.c (.fl 0 fun _ => []))), (7, vi n)] [] ?_
  refine AW.ret ?_
  obtain rfl := Option.some.inj h
  refine Kn.r Fm [(6, .v (.c (.fl 0 fun _ => []))), (7, vi n)] [] (by kernel_rfl) ?_
  refine Kn.wk [(6, AL (α := Feature) []), (7, vi n)] [] ⟨rfl, ALe.c (CLe.fl .nil), ⟨rfl, ALe.c (CLe.refl _), ⟨⟩⟩⟩ True.intro ?_
  exact Kn.D Fm
 ·have h := br_f h q
  refine AW.skip ?_
  refine AW.seq ?_
  obtain ⟨a, O, h⟩ := bd_some h
  refine AW.G Fm [.s, .s, .w (.v (.g [ci m, ci 0, ci 0, ci 0, .d (DL (α := Rect) [])])), .k (cE [] [] (.t [.c (ci a.1), .c (.d (.bool a.2))]) [] []), .s, .s, .s, .s, .s] (fun K => (ALe (.v (.g [ci m, ci 0, ci 0, ci 0, .fl 0 fun _ => []])) (.v (.g [ci m, ci 0, ci 0, ci 0, .d (DL (α := Rect) [])]))) ∧ K 3 ∧ True) [(0, AL l), (2, vi i), (9, vi a.1), (10, vb a.2)] [] ⟨ALe.g ⟨CLe.refl _, CLe.refl _, CLe.refl _, CLe.refl _, CLe.fl .nil, ⟨⟩⟩, KAt.callX (slices_BinarySearchFunc_Feature_spec O) Try.call18 [] [] [.tmp 18, .tmp 20, .func 19] rfl (by kernel_rfl) (by kernel_rfl) (by kernel_rfl) ⟨.p, .p, ArgT.cloX Try.call19 [] (fun args r hq => by obtain ⟨y0, y1, y, hq, rfl, rfl⟩ := hq; exact Eq.mp (by kernel_rfl) (feature_compare_spec hq)) (fun args r hq => by obtain ⟨y0, y1, y, hq, rfl, rfl⟩ := hq; rfl) (by kernel_rfl) [] (by kernel_rfl) (by kernel_rfl) (True.intro) (by kernel_rfl), ⟨⟩⟩, ⟨⟩⟩ ?_
  refine AW.seq ?_
  refine AW.block ?_
  refine AW.SG0 Fm 3 [(0, AL l), (2, vi i), (9, vi a.1), (24, vb (!a.2))] [] ?_
  refine AW.cond (b := (!a.2)) (by kernel_rfl) (fun u => ?_) (fun u => ?_)
  ·have h := br_t h u
   refine AW.SG0 Fm 2 [(6, .v (.c (.fl 0 fun _ => []))), (7, vi (10 : Int))] [] ?_
   refine AW.ret ?_
   obtain rfl := Option.some.inj h
   refine Kn.r Fm [(6, .v (.c (.fl 0 fun _ => []))), (7, vi (10 : Int))] [] (by kernel_rfl) ?_
   refine Kn.wk [(6, AL (α := Feature) []), (7, vi (10 : Int))] [] ⟨rfl, ALe.c (CLe.fl .nil), ⟨rfl, ALe.c (CLe.refl _), ⟨⟩⟩⟩ True.intro ?_
   exact Kn.D Fm
  ·have h := br_f h u
   refine AW.seq ?_
   obtain ⟨L, h⟩ := gd_some h
   obtain ⟨H, P, h⟩ := bd_some h
   refine AW.G Fm [.s, .s, .s, .s, .s, .k (cE [] [] (vb H) [] []), .s, .s] (fun K => _ ∧ K 5 ∧ True) [(0, AL l), (2, vi i), (9, vi a.1), (27, vb (!H))] [] ⟨L, KAt.CC (feature_there_spec P) Try.call20 [], ⟨⟩⟩ ?_
   refine AW.cond (b := (!H)) (by kernel_rfl) (fun A => ?_) (fun A => ?_)
   ·have h := br_t h A
    refine AW.SG0 Fm 2 [(6, .v (.c (.fl 0 fun _ => []))), (7, vi (9 : Int))] [] ?_
    refine AW.ret ?_
    obtain rfl := Option.some.inj h
    refine Kn.r Fm [(6, .v (.c (.fl 0 fun _ => []))), (7, vi (9 : Int))] [] (by kernel_rfl) ?_
    refine Kn.wk [(6, AL (α := Feature) []), (7, vi (9 : Int))] [] ⟨rfl, ALe.c (CLe.fl .nil), ⟨rfl, ALe.c (CLe.refl _), ⟨⟩⟩⟩ True.intro ?_
    exact Kn.D Fm
   ·have h := br_f h A
    refine AW.skip ?_
    refine AW.seq ?_
    obtain ⟨e, R, h⟩ := bd_some h
    refine AW.G Fm [.s, .k (cE [(100, 36)] [] (ow 100) [] [(100, AO e)]), .s] (fun K => K 1 ∧ True) [(2, vi i), (9, vi a.1), (11, ow 36)] [(36, AO e)] ⟨KAt.CC (feature_all_spec R) Try.call21 [(100, 36)], ⟨⟩⟩ ?_
    refine AW.seq ?_
    obtain ⟨I, h⟩ := gd_some h
    refine AW.SG Fm [.s, .s, .s, .s, .s, .s, .s] (fun K => _ ∧ (a.1.toNat < List.length e) ∧ True) [(2, vi i), (9, vi a.1), (11, ow 36), (43, vb (((gl e a.1.toNat).from_) == i))] [(36, AO e)] ⟨I, (toNat_lt I), ⟨⟩⟩ ?_
    refine AW.cond (b := (((gl e a.1.toNat).from_) == i)) (by kernel_rfl) (fun B => ?_) (fun B => ?_)
    ·have h := br_t h B
     refine AW.seq ?_
     obtain ⟨M, h⟩ := gd_some h
     obtain ⟨o, T, h⟩ := bd_some h
     refine AW.G Fm [.s, .s, .s, .s, .k (cE [(0, 36), (100, 48)] [] (ow 100) [(0, AO e)] [(100, AO o)]), .s, .s] (fun K => (I64 (a.1 + (1 : Int)) ∧ True) ∧ K 4 ∧ True) [(6, ow 48), (7, vi (0 : Int))] [(48, AO o)] ⟨⟨M, ⟨⟩⟩, KAt.CC (slices_Delete_Feature_spec T) Try.call22 [(0, 36), (100, 48)], ⟨⟩⟩ ?_
     refine AW.ret ?_
     obtain rfl := Option.some.inj h
     refine Kn.r Fm [(6, ow 48), (7, vi (0 : Int))] [(48, AO o)] (by kernel_rfl) ?_
     refine Kn.frz [(6, AL o), (7, vi (0 : Int))] [] (by kernel_rfl) (by kernel_rfl) (by kernel_rfl) ?_
     exact Kn.D Fm
    ·have h := br_f h B
     refine AW.skip ?_
     obtain ⟨E, h⟩ := gd_some h
     refine AW.SG Fm [.s, .s, .s, .s, .s, .s] (fun K => _ ∧ (a.1.toNat < List.length e) ∧ True) [(11, ow 36)] [(36, .arr 5 (List.length (α := Feature) e) (fun j => if j = a.1.toNat then splice ((LF (α := Feature) e) a.1.toNat) 3 [.int .i64 i] else (LF (α := Feature) e) j))] ⟨E, (toNat_lt E), ⟨⟩⟩ ?_
     refine Kn.wk [(11, ow 36)] [(36, AO (α := Feature) (List.set e a.1.toNat (⟨(gl e a.1.toNat).number_, (gl e a.1.toNat).kind_, (gl e a.1.toNat).from_, i, (gl e a.1.toNat).region_⟩ : Feature)))] (FE.refl _) (⟨rfl, OLe.is (Is.set (Is.refl e) (toNat_lt E) (⟨(gl e a.1.toNat).number_, (gl e a.1.toNat).kind_, (gl e a.1.toNat).from_, i, (gl e a.1.toNat).region_⟩ : Feature) (by kernel_rfl)), ⟨⟩⟩) ?_
     refine AW.SG0 Fm 3 [(6, ow 36), (7, vi (0 : Int))] [(36, AO (α := Feature) (List.set e a.1.toNat (⟨(gl e a.1.toNat).number_, (gl e a.1.toNat).kind_, (gl e a.1.toNat).from_, i, (gl e a.1.toNat).region_⟩ : Feature)))] ?_
     refine AW.ret ?_
     obtain rfl := Option.some.inj h
     refine Kn.r Fm [(6, ow 36), (7, vi (0 : Int))] [(36, AO (α := Feature) (List.set e a.1.toNat (⟨(gl e a.1.toNat).number_, (gl e a.1.toNat).kind_, (gl e a.1.toNat).from_, i, (gl e a.1.toNat).region_⟩ : Feature)))] (by kernel_rfl) ?_
     refine Kn.frz [(6, AL (α := Feature) (List.set e a.1.toNat (⟨(gl e a.1.toNat).number_, (gl e a.1.toNat).kind_, (gl e a.1.toNat).from_, i, (gl e a.1.toNat).region_⟩ : Feature))), (7, vi (0 : Int))] [] (by kernel_rfl) (by kernel_rfl) (by kernel_rfl) ?_
     exact Kn.D Fm
theorem law09_awake_spec {F : Nat} {r : Bool} (h : law09_awake F = some r) :
  FSpec Try.prog 7 [] [] (vb r) [] := by
 refine FSpec.intro prog_mixed prog_lay Try.func7 rfl (by kernel_rfl) fun C Fm => ?_
 unfold law09_awake at h
 refine AW.SG0 Fm 1 [] [] ?_
 refine AW.SG Fm [.s, .w (AL (α := Rect) ([(⟨0, 0, (1 : Int), (1 : Int)⟩ : Rect)] : List Rect)), .s, .s, .w (AL (α := Feature) ([(⟨(1 : Int), 0, (5 : Int), (10 : Int), (⟨([(⟨0, 0, (1 : Int), (1 : Int)⟩ : Rect)] : List Rect)⟩ : Region)⟩ : Feature)] : List Feature)), .s] (fun K => (ALe (.v (.c (.d (.lst 1 (litF 4 [.int .i64 0, .int .i64 0, .int .i64 (1 : Int), .int .i64 (1 : Int)]))))) (AL (α := Rect) ([(⟨0, 0, (1 : Int), (1 : Int)⟩ : Rect)] : List Rect))) ∧ (ALe (.v (.c (.d (.lst 1 (litF 5 [.int .i64 (1 : Int), .int .i64 0, .int .i64 (5 : Int), .int .i64 (10 : Int), DL (α := Rect) ([(⟨0, 0, (1 : Int), (1 : Int)⟩ : Rect)] : List Rect)]))))) (AL (α := Feature) ([(⟨(1 : Int), 0, (5 : Int), (10 : Int), (⟨([(⟨0, 0, (1 : Int), (1 : Int)⟩ : Rect)] : List Rect)⟩ : Region)⟩ : Feature)] : List Feature))) ∧ True) [(1, AL (α := Feature) ([(⟨(1 : Int), 0, (5 : Int), (10 : Int), (⟨([(⟨0, 0, (1 : Int), (1 : Int)⟩ : Rect)] : List Rect)⟩ : Region)⟩ : Feature)] : List Feature))] [] ⟨ALe.lst (.lit ([(⟨0, 0, (1 : Int), (1 : Int)⟩ : Rect)] : List Rect) (by kernel_rfl)), ALe.lst (.lit ([(⟨(1 : Int), 0, (5 : Int), (10 : Int), (⟨([(⟨0, 0, (1 : Int), (1 : Int)⟩ : Rect)] : List Rect)⟩ : Region)⟩ : Feature)] : List Feature) (by kernel_rfl)), ⟨⟩⟩ ?_
 refine AW.seq ?_
 obtain ⟨a, B, h⟩ := bd_some h
 refine AW.G Fm [.s, .k (cE [] [] (.t [.c (.d (DL a.1)), .c (ci a.2)]) [] []), .s, .s, .s, .s, .s] (fun K => K 1 ∧ True) [(1, AL (α := Feature) ([(⟨(1 : Int), 0, (5 : Int), (10 : Int), (⟨([(⟨0, 0, (1 : Int), (1 : Int)⟩ : Rect)] : List Rect)⟩ : Region)⟩ : Feature)] : List Feature)), (2, AL a.1), (3, vi a.2)] [] ⟨KAt.CC (feature_On_spec B) Try.call10 [], ⟨⟩⟩ ?_
 refine AW.seq ?_
 obtain ⟨b, E, h⟩ := bd_some h
 refine AW.G Fm [.s, .k (cE [] [] (.t [.c (.d (DL b.1)), .c (ci b.2)]) [] []), .s, .s, .s, .s, .s] (fun K => K 1 ∧ True) [(1, AL (α := Feature) ([(⟨(1 : Int), 0, (5 : Int), (10 : Int), (⟨([(⟨0, 0, (1 : Int), (1 : Int)⟩ : Rect)] : List Rect)⟩ : Region)⟩ : Feature)] : List Feature)), (2, AL a.1), (3, vi a.2), (4, AL b.1), (5, vi b.2)] [] ⟨KAt.CC (feature_On_spec E) Try.call10 [], ⟨⟩⟩ ?_
 refine AW.seq ?_
 obtain ⟨e, H, h⟩ := bd_some h
 refine AW.G Fm [.s, .k (cE [] [] (.t [.c (.d (DL e.1)), .c (ci e.2)]) [] []), .s, .s, .s, .s, .s] (fun K => K 1 ∧ True) [(2, AL a.1), (3, vi a.2), (4, AL b.1), (5, vi b.2), (6, AL e.1), (7, vi e.2)] [] ⟨KAt.CC (feature_End_spec H) Try.call8 [], ⟨⟩⟩ ?_
 refine AW.seq ?_
 obtain ⟨i, I, h⟩ := bd_some h
 refine AW.G Fm [.s, .k (cE [] [] (.t [.c (.d (DL i.1)), .c (ci i.2)]) [] []), .s, .s, .s, .s, .s] (fun K => K 1 ∧ True) [(2, AL a.1), (3, vi a.2), (4, AL b.1), (5, vi b.2), (6, AL e.1), (7, vi e.2), (8, AL i.1), (9, vi i.2)] [] ⟨KAt.CC (feature_On_spec I) Try.call10 [], ⟨⟩⟩ ?_
 refine AW.join (r := r) (fun z : Bool => law09_awake_k0 F z) (fun z => [(0, vb z)]) (fun z => []) (fun M h => ?_) (fun L n => ?_)
 ·refine AW.ret ?_
  obtain rfl := Option.some.inj h
  exact Kn.D Fm
 ·rcases Bool.eq_false_or_eq_true (a.2 == (0 : Int)) with j | j
  ·have h := br_t h j
   rcases Bool.eq_false_or_eq_true (((List.length a.1 : Nat) : Int) == (1 : Int)) with l | l
   ·have h := br_t h l
    rcases Bool.eq_false_or_eq_true (b.2 == (0 : Int)) with m | m
    ·have h := br_t h m
     rcases Bool.eq_false_or_eq_true (((List.length b.1 : Nat) : Int) == (0 : Int)) with o | o
     ·have h := br_t h o
      rcases Bool.eq_false_or_eq_true (e.2 == (0 : Int)) with p | p
      ·have h := br_t h p
       rcases Bool.eq_false_or_eq_true (i.2 == (0 : Int)) with q | q
       ·have h := br_t h q
        rcases Bool.eq_false_or_eq_true (((List.length i.1 : Nat) : Int) == (0 : Int)) with u | u
        ·have h := br_t h u
         rcases Bool.eq_false_or_eq_true (((List.length e.1 : Nat) : Int) == (1 : Int)) with y | y
         ·have h := br_t h y
          obtain ⟨A, h⟩ := gd_some h
          refine AW.G Fm [.s, .s, .w (vb true), .s, .s, .s, .s, .w (vb true), .s, .s, .s, .w (vb true), .s, .s, .s, .s, .w (vb true), .s, .s, .s, .w (vb true), .s, .s, .s, .w (vb true), .s, .s, .s, .s, .w (vb true), .s, .s, .s, .s, .w (vb true), .s, .s, .s, .s, .s, .s, .s] (fun K => (ALe (vb (a.2 == (0 : Int))) (vb true)) ∧ (ALe (vb (((List.length a.1 : Nat) : Int) == (1 : Int))) (vb true)) ∧ (ALe (vb (b.2 == (0 : Int))) (vb true)) ∧ (ALe (vb (((List.length b.1 : Nat) : Int) == (0 : Int))) (vb true)) ∧ (ALe (vb (e.2 == (0 : Int))) (vb true)) ∧ (ALe (vb (i.2 == (0 : Int))) (vb true)) ∧ (ALe (vb (((List.length i.1 : Nat) : Int) == (0 : Int))) (vb true)) ∧ (ALe (vb (((List.length e.1 : Nat) : Int) == (1 : Int))) (vb true)) ∧ _ ∧ True) [(0, vb (((gl e.1 (0 : Int).toNat).until_) == (7 : Int)))] [] ⟨ALe.bool j, ALe.bool l, ALe.bool m, ALe.bool o, ALe.bool p, ALe.bool q, ALe.bool u, ALe.bool y, A, ⟨⟩⟩ ?_
          exact Kn.R Fm (n (((gl e.1 (0 : Int).toNat).until_) == (7 : Int)) h)
         ·have h := br_f h y
          refine AW.G Fm [.s, .s, .w (vb true), .s, .s, .s, .s, .w (vb true), .s, .s, .s, .w (vb true), .s, .s, .s, .s, .w (vb true), .s, .s, .s, .w (vb true), .s, .s, .s, .w (vb true), .s, .s, .s, .s, .w (vb true), .s, .s, .s, .s, .w (vb false), .s, .s, .s, .s, .s, .s, .s] (fun K => (ALe (vb (a.2 == (0 : Int))) (vb true)) ∧ (ALe (vb (((List.length a.1 : Nat) : Int) == (1 : Int))) (vb true)) ∧ (ALe (vb (b.2 == (0 : Int))) (vb true)) ∧ (ALe (vb (((List.length b.1 : Nat) : Int) == (0 : Int))) (vb true)) ∧ (ALe (vb (e.2 == (0 : Int))) (vb true)) ∧ (ALe (vb (i.2 == (0 : Int))) (vb true)) ∧ (ALe (vb (((List.length i.1 : Nat) : Int) == (0 : Int))) (vb true)) ∧ (ALe (vb (((List.length e.1 : Nat) : Int) == (1 : Int))) (vb false)) ∧ True) [(0, vb false)] [] ⟨ALe.bool j, ALe.bool l, ALe.bool m, ALe.bool o, ALe.bool p, ALe.bool q, ALe.bool u, ALe.bool y, ⟨⟩⟩ ?_
          exact Kn.R Fm (n false h)
        ·have h := br_f h u
         refine AW.G Fm [.s, .s, .w (vb true), .s, .s, .s, .s, .w (vb true), .s, .s, .s, .w (vb true), .s, .s, .s, .s, .w (vb true), .s, .s, .s, .w (vb true), .s, .s, .s, .w (vb true), .s, .s, .s, .s, .w (vb false), .s, .s, .s, .s, .s, .s, .s, .s, .s, .s, .s, .s] (fun K => (ALe (vb (a.2 == (0 : Int))) (vb true)) ∧ (ALe (vb (((List.length a.1 : Nat) : Int) == (1 : Int))) (vb true)) ∧ (ALe (vb (b.2 == (0 : Int))) (vb true)) ∧ (ALe (vb (((List.length b.1 : Nat) : Int) == (0 : Int))) (vb true)) ∧ (ALe (vb (e.2 == (0 : Int))) (vb true)) ∧ (ALe (vb (i.2 == (0 : Int))) (vb true)) ∧ (ALe (vb (((List.length i.1 : Nat) : Int) == (0 : Int))) (vb false)) ∧ True) [(0, vb false)] [] ⟨ALe.bool j, ALe.bool l, ALe.bool m, ALe.bool o, ALe.bool p, ALe.bool q, ALe.bool u, ⟨⟩⟩ ?_
         exact Kn.R Fm (n false h)
       ·have h := br_f h q
        refine AW.G Fm [.s, .s, .w (vb true), .s, .s, .s, .s, .w (vb true), .s, .s, .s, .w (vb true), .s, .s, .s, .s, .w (vb true), .s, .s, .s, .w (vb true), .s, .s, .s, .w (vb false), .s, .s, .s, .s, .s, .s, .s, .s, .s, .s, .s, .s, .s, .s, .s, .s, .s] (fun K => (ALe (vb (a.2 == (0 : Int))) (vb true)) ∧ (ALe (vb (((List.length a.1 : Nat) : Int) == (1 : Int))) (vb true)) ∧ (ALe (vb (b.2 == (0 : Int))) (vb true)) ∧ (ALe (vb (((List.length b.1 : Nat) : Int) == (0 : Int))) (vb true)) ∧ (ALe (vb (e.2 == (0 : Int))) (vb true)) ∧ (ALe (vb (i.2 == (0 : Int))) (vb false)) ∧ True) [(0, vb false)] [] ⟨ALe.bool j, ALe.bool l, ALe.bool m, ALe.bool o, ALe.bool p, ALe.bool q, ⟨⟩⟩ ?_
        exact Kn.R Fm (n false h)
      ·have h := br_f h p
       refine AW.G Fm [.s, .s, .w (vb true), .s, .s, .s, .s, .w (vb true), .s, .s, .s, .w (vb true), .s, .s, .s, .s, .w (vb true), .s, .s, .s, .w (vb false), .s, .s, .s, .s, .s, .s, .s, .s, .s, .s, .s, .s, .s, .s, .s, .s, .s, .s, .s, .s, .s] (fun K => (ALe (vb (a.2 == (0 : Int))) (vb true)) ∧ (ALe (vb (((List.length a.1 : Nat) : Int) == (1 : Int))) (vb true)) ∧ (ALe (vb (b.2 == (0 : Int))) (vb true)) ∧ (ALe (vb (((List.length b.1 : Nat) : Int) == (0 : Int))) (vb true)) ∧ (ALe (vb (e.2 == (0 : Int))) (vb false)) ∧ True) [(0, vb false)] [] ⟨ALe.bool j, ALe.bool l, ALe.bool m, ALe.bool o, ALe.bool p, ⟨⟩⟩ ?_
       exact Kn.R Fm (n false h)
     ·have h := br_f h o
      refine AW.G Fm [.s, .s, .w (vb true), .s, .s, .s, .s, .w (vb true), .s, .s, .s, .w (vb true), .s, .s, .s, .s, .w (vb false), .s, .s, .s, .s, .s, .s, .s, .s, .s, .s, .s, .s, .s, .s, .s, .s, .s, .s, .s, .s, .s, .s, .s, .s, .s] (fun K => (ALe (vb (a.2 == (0 : Int))) (vb true)) ∧ (ALe (vb (((List.length a.1 : Nat) : Int) == (1 : Int))) (vb true)) ∧ (ALe (vb (b.2 == (0 : Int))) (vb true)) ∧ (ALe (vb (((List.length b.1 : Nat) : Int) == (0 : Int))) (vb false)) ∧ True) [(0, vb false)] [] ⟨ALe.bool j, ALe.bool l, ALe.bool m, ALe.bool o, ⟨⟩⟩ ?_
      exact Kn.R Fm (n false h)
    ·have h := br_f h m
     refine AW.G Fm [.s, .s, .w (vb true), .s, .s, .s, .s, .w (vb true), .s, .s, .s, .w (vb false), .s, .s, .s, .s, .s, .s, .s, .s, .s, .s, .s, .s, .s, .s, .s, .s, .s, .s, .s, .s, .s, .s, .s, .s, .s, .s, .s, .s, .s, .s] (fun K => (ALe (vb (a.2 == (0 : Int))) (vb true)) ∧ (ALe (vb (((List.length a.1 : Nat) : Int) == (1 : Int))) (vb true)) ∧ (ALe (vb (b.2 == (0 : Int))) (vb false)) ∧ True) [(0, vb false)] [] ⟨ALe.bool j, ALe.bool l, ALe.bool m, ⟨⟩⟩ ?_
     exact Kn.R Fm (n false h)
   ·have h := br_f h l
    refine AW.G Fm [.s, .s, .w (vb true), .s, .s, .s, .s, .w (vb false), .s, .s, .s, .s, .s, .s, .s, .s, .s, .s, .s, .s, .s, .s, .s, .s, .s, .s, .s, .s, .s, .s, .s, .s, .s, .s, .s, .s, .s, .s, .s, .s, .s, .s] (fun K => (ALe (vb (a.2 == (0 : Int))) (vb true)) ∧ (ALe (vb (((List.length a.1 : Nat) : Int) == (1 : Int))) (vb false)) ∧ True) [(0, vb false)] [] ⟨ALe.bool j, ALe.bool l, ⟨⟩⟩ ?_
    exact Kn.R Fm (n false h)
  ·have h := br_f h j
   refine AW.G Fm [.s, .s, .w (vb false), .s, .s, .s, .s, .s, .s, .s, .s, .s, .s, .s, .s, .s, .s, .s, .s, .s, .s, .s, .s, .s, .s, .s, .s, .s, .s, .s, .s, .s, .s, .s, .s, .s, .s, .s, .s, .s, .s, .s] (fun K => (ALe (vb (a.2 == (0 : Int))) (vb false)) ∧ True) [(0, vb false)] [] ⟨ALe.bool j, ⟨⟩⟩ ?_
   exact Kn.R Fm (n false h)
theorem ref04_Same_spec {F : Nat} {a : Region} {b : Region} {r : Bool} (h : ref04_Same F a b = some r) :
  FSpec Try.prog 27 [.v (.g [.d (DL a.rects_)]), .v (.g [.d (DL b.rects_)])] [] (vb r) [] := by
 refine FSpec.intro prog_mixed prog_lay Try.func27 rfl (by kernel_rfl) fun C Fm => ?_
 unfold ref04_Same at h
 refine AW.SG0 Fm 3 [(2, pt 2), (3, pt 3)] [(2, bx [.d (DL a.rects_)]), (3, bx [.d (DL b.rects_)])] ?_
 refine AW.seq ?_
 obtain ⟨c, e, h⟩ := bd_some h
 refine AW.G Fm [.s, .s, .s, .s, .k (cE [] [] (vb c) [] []), .s] (fun K => K 4 ∧ True) [(4, vb c)] [] ⟨KAt.CC (ref04_Rects_spec e) Try.call38 [], ⟨⟩⟩ ?_
 refine AW.ret ?_
 obtain rfl := Option.some.inj h
 exact Kn.D Fm
theorem ref09_Same_spec {F : Nat} {e : (List Feature)} {i : (List Feature)} {r : Bool} (h : ref09_Same F e i = some r) :
  FSpec Try.prog 11 [AL e, AL i] [] (vb r) [] := by
 refine FSpec.intro prog_mixed prog_lay Try.func11 rfl (by kernel_rfl) fun C Fm => ?_
 unfold ref09_Same at h
 refine AW.SG0 Fm 1 [(0, AL e), (1, AL i)] [] ?_
 refine AW.seq ?_
 refine AW.SG0 Fm 5 [(0, AL e), (1, AL i), (10, vb (((List.length e : Nat) : Int) != ((List.length i : Nat) : Int)))] [] ?_
 refine AW.cond (b := (((List.length e : Nat) : Int) != ((List.length i : Nat) : Int))) (by kernel_rfl) (fun A => ?_) (fun A => ?_)
 ·have h := br_t h A
  refine AW.SG0 Fm 1 [(4, vb false)] [] ?_
  refine AW.ret ?_
  obtain rfl := Option.some.inj h
  exact Kn.D Fm
 ·have h := br_f h A
  refine AW.skip ?_
  refine AW.join (r := r) (fun z : Unit => ref09_Same_k2 F) (fun z => []) (fun z => []) (fun z h => ?_) (fun a0 P => ?_)
  ·refine AW.SG0 Fm 1 [(4, vb true)] [] ?_
   refine AW.ret ?_
   obtain rfl := Option.some.inj h
   exact Kn.D Fm
  ·refine AW.SG0 Fm 3 [(0, AL e), (1, AL i), (12, vi ((List.length e : Nat) : Int)), (13, vi (0 : Int))] [] ?_
   refine AW.block ?_
   refine Kn.r Fm [(0, AL e), (1, AL i), (12, vi ((List.length e : Nat) : Int)), (13, vi (0 : Int))] [] (by kernel_rfl) ?_
   refine AW.loopF (E' := fun z => [(0, AL e), (1, AL i), (12, vi ((List.length e : Nat) : Int)), (13, vi z)]) (S' := fun z => []) (fun N a Y O h => ?_) h
   refine AW.SG0 Fm 1 [(0, AL e), (1, AL i), (12, vi ((List.length e : Nat) : Int)), (13, vi a), (14, vb (decide (a < ((List.length e : Nat) : Int))))] [] ?_
   refine AW.seq ?_
   refine AW.cond (b := (decide (a < ((List.length e : Nat) : Int)))) (by kernel_rfl) (fun B => ?_) (fun B => ?_)
   ·have h := br_t h B
    refine AW.skip ?_
    refine AW.seq ?_
    refine AW.block ?_
    refine AW.SG0 Fm 2 [(0, AL e), (1, AL i), (5, vi a), (12, vi ((List.length e : Nat) : Int)), (13, vi a)] [] ?_
    refine AW.join (r := r) (fun z : Bool => ref09_Same_k1 F a N z) (fun z => [(0, AL e), (1, AL i), (12, vi ((List.length e : Nat) : Int)), (13, vi a), (79, vb z)]) (fun z => []) (fun X h => ?_) (fun Z n => ?_)
    ·refine AW.cond (b := X) (by kernel_rfl) (fun E => ?_) (fun E => ?_)
     ·have h := br_t h E
      refine AW.SG0 Fm 1 [(4, vb false)] [] ?_
      refine AW.ret ?_
      obtain rfl := Option.some.inj h
      exact Kn.D Fm
     ·have h := br_f h E
      refine AW.skip ?_
      obtain ⟨V, h⟩ := gd_some h
      refine AW.G Fm [.s, .s] (fun K => (I64 (a + (1 : Int)) ∧ True) ∧ True) [(0, AL e), (1, AL i), (12, vi ((List.length e : Nat) : Int)), (13, vi (a + (1 : Int)))] [] ⟨⟨V, ⟨⟩⟩, ⟨⟩⟩ ?_
      exact Kn.R Fm (O (a + (1 : Int)) h)
    ·obtain ⟨p, h⟩ := gd_some h
     obtain ⟨q, h⟩ := gd_some h
     rcases Bool.eq_false_or_eq_true (((gl e a.toNat).number_) != ((gl i a.toNat).number_)) with j | j
     ·have h := br_t h j
      refine AW.G Fm [.s, .s, .s, .s, .s, .s, .s, .s, .s, .s, .s, .w (vb true), .s, .s, .s, .s, .s, .s, .s, .s, .s, .s, .s, .s, .s, .s, .s, .s, .s, .s, .s, .s, .s, .s, .s, .s, .s, .s, .s, .s, .s, .s, .s, .s, .s, .s, .s, .s, .s, .s, .s, .s, .s, .s, .s, .s, .s, .s, .s, .s, .s, .s, .s, .s] (fun K => _ ∧ _ ∧ (ALe (vb (((gl e a.toNat).number_) != ((gl i a.toNat).number_))) (vb true)) ∧ True) [(0, AL e), (1, AL i), (12, vi ((List.length e : Nat) : Int)), (13, vi a), (79, vb true)] [] ⟨p, q, ALe.bool j, ⟨⟩⟩ ?_
      exact Kn.R Fm (n true h)
     ·have h := br_f h j
      obtain ⟨u, h⟩ := gd_some h
      obtain ⟨y, h⟩ := gd_some h
      rcases Bool.eq_false_or_eq_true (((gl e a.toNat).kind_) != ((gl i a.toNat).kind_)) with l | l
      ·have h := br_t h l
       refine AW.G Fm [.s, .s, .s, .s, .s, .s, .s, .s, .s, .s, .s, .w (vb false), .s, .s, .s, .s, .s, .s, .s, .s, .s, .s, .s, .s, .w (vb true), .s, .s, .s, .s, .s, .s, .s, .s, .s, .s, .s, .s, .s, .s, .s, .s, .s, .s, .s, .s, .s, .s, .s, .s, .s, .s, .s, .s, .s, .s, .s, .s, .s, .s, .s, .s, .s, .s, .s] (fun K => _ ∧ _ ∧ (ALe (vb (((gl e a.toNat).number_) != ((gl i a.toNat).number_))) (vb false)) ∧ _ ∧ _ ∧ (ALe (vb (((gl e a.toNat).kind_) != ((gl i a.toNat).kind_))) (vb true)) ∧ True) [(0, AL e), (1, AL i), (12, vi ((List.length e : Nat) : Int)), (13, vi a), (28, AL e), (29, vi a), (30, .v (.c (.elm [.int .i64 (gl e a.toNat).number_, .int .i64 (gl e a.toNat).kind_, .int .i64 (gl e a.toNat).from_, .int .i64 (gl e a.toNat).until_, DL (α := Rect) (gl e a.toNat).region_.rects_]))), (31, .v (.c (.elm [.int .i64 (gl e a.toNat).kind_, .int .i64 (gl e a.toNat).from_, .int .i64 (gl e a.toNat).until_, DL (α := Rect) (gl e a.toNat).region_.rects_]))), (32, vi (gl e a.toNat).kind_), (33, AL i), (34, vi a), (35, .v (.c (.elm [.int .i64 (gl i a.toNat).number_, .int .i64 (gl i a.toNat).kind_, .int .i64 (gl i a.toNat).from_, .int .i64 (gl i a.toNat).until_, DL (α := Rect) (gl i a.toNat).region_.rects_]))), (36, .v (.c (.elm [.int .i64 (gl i a.toNat).kind_, .int .i64 (gl i a.toNat).from_, .int .i64 (gl i a.toNat).until_, DL (α := Rect) (gl i a.toNat).region_.rects_]))), (37, vi (gl i a.toNat).kind_), (38, vb (((gl e a.toNat).kind_) != ((gl i a.toNat).kind_))), (79, vb true)] [] ⟨p, q, ALe.bool j, u, y, ALe.bool l, ⟨⟩⟩ ?_
       exact Kn.R Fm (n true h)
      ·have h := br_f h l
       obtain ⟨H, h⟩ := gd_some h
       obtain ⟨I, h⟩ := gd_some h
       rcases Bool.eq_false_or_eq_true (((gl e a.toNat).from_) != ((gl i a.toNat).from_)) with m | m
       ·have h := br_t h m
        refine AW.G Fm [.s, .s, .s, .s, .s, .s, .s, .s, .s, .s, .s, .w (vb false), .s, .s, .s, .s, .s, .s, .s, .s, .s, .s, .s, .s, .w (vb false), .s, .s, .s, .s, .s, .s, .s, .s, .s, .s, .s, .s, .w (vb true), .s, .s, .s, .s, .s, .s, .s, .s, .s, .s, .s, .s, .s, .s, .s, .s, .s, .s, .s, .s, .s, .s, .s, .s, .s, .s] (fun K => _ ∧ _ ∧ (ALe (vb (((gl e a.toNat).number_) != ((gl i a.toNat).number_))) (vb false)) ∧ _ ∧ _ ∧ (ALe (vb (((gl e a.toNat).kind_) != ((gl i a.toNat).kind_))) (vb false)) ∧ _ ∧ _ ∧ (ALe (vb (((gl e a.toNat).from_) != ((gl i a.toNat).from_))) (vb true)) ∧ True) [(0, AL e), (1, AL i), (12, vi ((List.length e : Nat) : Int)), (13, vi a), (28, AL e), (29, vi a), (30, .v (.c (.elm [.int .i64 (gl e a.toNat).number_, .int .i64 (gl e a.toNat).kind_, .int .i64 (gl e a.toNat).from_, .int .i64 (gl e a.toNat).until_, DL (α := Rect) (gl e a.toNat).region_.rects_]))), (31, .v (.c (.elm [.int .i64 (gl e a.toNat).kind_, .int .i64 (gl e a.toNat).from_, .int .i64 (gl e a.toNat).until_, DL (α := Rect) (gl e a.toNat).region_.rects_]))), (32, vi (gl e a.toNat).kind_), (33, AL i), (34, vi a), (35, .v (.c (.elm [.int .i64 (gl i a.toNat).number_, .int .i64 (gl i a.toNat).kind_, .int .i64 (gl i a.toNat).from_, .int .i64 (gl i a.toNat).until_, DL (α := Rect) (gl i a.toNat).region_.rects_]))), (36, .v (.c (.elm [.int .i64 (gl i a.toNat).kind_, .int .i64 (gl i a.toNat).from_, .int .i64 (gl i a.toNat).until_, DL (α := Rect) (gl i a.toNat).region_.rects_]))), (37, vi (gl i a.toNat).kind_), (38, vb (((gl e a.toNat).kind_) != ((gl i a.toNat).kind_))), (41, AL e), (42, vi a), (43, .v (.c (.elm [.int .i64 (gl e a.toNat).number_, .int .i64 (gl e a.toNat).kind_, .int .i64 (gl e a.toNat).from_, .int .i64 (gl e a.toNat).until_, DL (α := Rect) (gl e a.toNat).region_.rects_]))), (44, .v (.c (.elm [.int .i64 (gl e a.toNat).from_, .int .i64 (gl e a.toNat).until_, DL (α := Rect) (gl e a.toNat).region_.rects_]))), (45, vi (gl e a.toNat).from_), (46, AL i), (47, vi a), (48, .v (.c (.elm [.int .i64 (gl i a.toNat).number_, .int .i64 (gl i a.toNat).kind_, .int .i64 (gl i a.toNat).from_, .int .i64 (gl i a.toNat).until_, DL (α := Rect) (gl i a.toNat).region_.rects_]))), (49, .v (.c (.elm [.int .i64 (gl i a.toNat).from_, .int .i64 (gl i a.toNat).until_, DL (α := Rect) (gl i a.toNat).region_.rects_]))), (50, vi (gl i a.toNat).from_), (51, vb (((gl e a.toNat).from_) != ((gl i a.toNat).from_))), (79, vb true)] [] ⟨p, q, ALe.bool j, u, y, ALe.bool l, H, I, ALe.bool m, ⟨⟩⟩ ?_
        exact Kn.R Fm (n true h)
       ·have h := br_f h m
        obtain ⟨L, h⟩ := gd_some h
        obtain ⟨M, h⟩ := gd_some h
        rcases Bool.eq_false_or_eq_true (((gl e a.toNat).until_) != ((gl i a.toNat).until_)) with o | o
        ·have h := br_t h o
         refine AW.G Fm [.s, .s, .s, .s, .s, .s, .s, .s, .s, .s, .s, .w (vb false), .s, .s, .s, .s, .s, .s, .s, .s, .s, .s, .s, .s, .w (vb false), .s, .s, .s, .s, .s, .s, .s, .s, .s, .s, .s, .s, .w (vb false), .s, .s, .s, .s, .s, .s, .s, .s, .s, .s, .s, .s, .w (vb true), .s, .s, .s, .s, .s, .s, .s, .s, .s, .s, .s, .s, .s] (fun K => _ ∧ _ ∧ (ALe (vb (((gl e a.toNat).number_) != ((gl i a.toNat).number_))) (vb false)) ∧ _ ∧ _ ∧ (ALe (vb (((gl e a.toNat).kind_) != ((gl i a.toNat).kind_))) (vb false)) ∧ _ ∧ _ ∧ (ALe (vb (((gl e a.toNat).from_) != ((gl i a.toNat).from_))) (vb false)) ∧ _ ∧ _ ∧ (ALe (vb (((gl e a.toNat).until_) != ((gl i a.toNat).until_))) (vb true)) ∧ True) [(0, AL e), (1, AL i), (12, vi ((List.length e : Nat) : Int)), (13, vi a), (28, AL e), (29, vi a), (30, .v (.c (.elm [.int .i64 (gl e a.toNat).number_, .int .i64 (gl e a.toNat).kind_, .int .i64 (gl e a.toNat).from_, .int .i64 (gl e a.toNat).until_, DL (α := Rect) (gl e a.toNat).region_.rects_]))), (31, .v (.c (.elm [.int .i64 (gl e a.toNat).kind_, .int .i64 (gl e a.toNat).from_, .int .i64 (gl e a.toNat).until_, DL (α := Rect) (gl e a.toNat).region_.rects_]))), (32, vi (gl e a.toNat).kind_), (33, AL i), (34, vi a), (35, .v (.c (.elm [.int .i64 (gl i a.toNat).number_, .int .i64 (gl i a.toNat).kind_, .int .i64 (gl i a.toNat).from_, .int .i64 (gl i a.toNat).until_, DL (α := Rect) (gl i a.toNat).region_.rects_]))), (36, .v (.c (.elm [.int .i64 (gl i a.toNat).kind_, .int .i64 (gl i a.toNat).from_, .int .i64 (gl i a.toNat).until_, DL (α := Rect) (gl i a.toNat).region_.rects_]))), (37, vi (gl i a.toNat).kind_), (38, vb (((gl e a.toNat).kind_) != ((gl i a.toNat).kind_))), (41, AL e), (42, vi a), (43, .v (.c (.elm [.int .i64 (gl e a.toNat).number_, .int .i64 (gl e a.toNat).kind_, .int .i64 (gl e a.toNat).from_, .int .i64 (gl e a.toNat).until_, DL (α := Rect) (gl e a.toNat).region_.rects_]))), (44, .v (.c (.elm [.int .i64 (gl e a.toNat).from_, .int .i64 (gl e a.toNat).until_, DL (α := Rect) (gl e a.toNat).region_.rects_]))), (45, vi (gl e a.toNat).from_), (46, AL i), (47, vi a), (48, .v (.c (.elm [.int .i64 (gl i a.toNat).number_, .int .i64 (gl i a.toNat).kind_, .int .i64 (gl i a.toNat).from_, .int .i64 (gl i a.toNat).until_, DL (α := Rect) (gl i a.toNat).region_.rects_]))), (49, .v (.c (.elm [.int .i64 (gl i a.toNat).from_, .int .i64 (gl i a.toNat).until_, DL (α := Rect) (gl i a.toNat).region_.rects_]))), (50, vi (gl i a.toNat).from_), (51, vb (((gl e a.toNat).from_) != ((gl i a.toNat).from_))), (54, AL e), (55, vi a), (56, .v (.c (.elm [.int .i64 (gl e a.toNat).number_, .int .i64 (gl e a.toNat).kind_, .int .i64 (gl e a.toNat).from_, .int .i64 (gl e a.toNat).until_, DL (α := Rect) (gl e a.toNat).region_.rects_]))), (57, .v (.c (.elm [.int .i64 (gl e a.toNat).until_, DL (α := Rect) (gl e a.toNat).region_.rects_]))), (58, vi (gl e a.toNat).until_), (59, AL i), (60, vi a), (61, .v (.c (.elm [.int .i64 (gl i a.toNat).number_, .int .i64 (gl i a.toNat).kind_, .int .i64 (gl i a.toNat).from_, .int .i64 (gl i a.toNat).until_, DL (α := Rect) (gl i a.toNat).region_.rects_]))), (62, .v (.c (.elm [.int .i64 (gl i a.toNat).until_, DL (α := Rect) (gl i a.toNat).region_.rects_]))), (63, vi (gl i a.toNat).until_), (64, vb (((gl e a.toNat).until_) != ((gl i a.toNat).until_))), (79, vb true)] [] ⟨p, q, ALe.bool j, u, y, ALe.bool l, H, I, ALe.bool m, L, M, ALe.bool o, ⟨⟩⟩ ?_
         exact Kn.R Fm (n true h)
        ·have h := br_f h o
         obtain ⟨T, h⟩ := gd_some h
         obtain ⟨U, h⟩ := gd_some h
         obtain ⟨t, W, h⟩ := bd_some h
         refine AW.G Fm [.s, .s, .s, .s, .s, .s, .s, .s, .s, .s, .s, .w (vb false), .s, .s, .s, .s, .s, .s, .s, .s, .s, .s, .s, .s, .w (vb false), .s, .s, .s, .s, .s, .s, .s, .s, .s, .s, .s, .s, .w (vb false), .s, .s, .s, .s, .s, .s, .s, .s, .s, .s, .s, .s, .w (vb false), .s, .s, .s, .s, .s, .s, .s, .s, .s, .s, .k (cE [] [] (vb t) [] []), .s, .s] (fun K => _ ∧ _ ∧ (ALe (vb (((gl e a.toNat).number_) != ((gl i a.toNat).number_))) (vb false)) ∧ _ ∧ _ ∧ (ALe (vb (((gl e a.toNat).kind_) != ((gl i a.toNat).kind_))) (vb false)) ∧ _ ∧ _ ∧ (ALe (vb (((gl e a.toNat).from_) != ((gl i a.toNat).from_))) (vb false)) ∧ _ ∧ _ ∧ (ALe (vb (((gl e a.toNat).until_) != ((gl i a.toNat).until_))) (vb false)) ∧ _ ∧ _ ∧ K 61 ∧ True) [(0, AL e), (1, AL i), (12, vi ((List.length e : Nat) : Int)), (13, vi a), (28, AL e), (29, vi a), (30, .v (.c (.elm [.int .i64 (gl e a.toNat).number_, .int .i64 (gl e a.toNat).kind_, .int .i64 (gl e a.toNat).from_, .int .i64 (gl e a.toNat).until_, DL (α := Rect) (gl e a.toNat).region_.rects_]))), (31, .v (.c (.elm [.int .i64 (gl e a.toNat).kind_, .int .i64 (gl e a.toNat).from_, .int .i64 (gl e a.toNat).until_, DL (α := Rect) (gl e a.toNat).region_.rects_]))), (32, vi (gl e a.toNat).kind_), (33, AL i), (34, vi a), (35, .v (.c (.elm [.int .i64 (gl i a.toNat).number_, .int .i64 (gl i a.toNat).kind_, .int .i64 (gl i a.toNat).from_, .int .i64 (gl i a.toNat).until_, DL (α := Rect) (gl i a.toNat).region_.rects_]))), (36, .v (.c (.elm [.int .i64 (gl i a.toNat).kind_, .int .i64 (gl i a.toNat).from_, .int .i64 (gl i a.toNat).until_, DL (α := Rect) (gl i a.toNat).region_.rects_]))), (37, vi (gl i a.toNat).kind_), (38, vb (((gl e a.toNat).kind_) != ((gl i a.toNat).kind_))), (41, AL e), (42, vi a), (43, .v (.c (.elm [.int .i64 (gl e a.toNat).number_, .int .i64 (gl e a.toNat).kind_, .int .i64 (gl e a.toNat).from_, .int .i64 (gl e a.toNat).until_, DL (α := Rect) (gl e a.toNat).region_.rects_]))), (44, .v (.c (.elm [.int .i64 (gl e a.toNat).from_, .int .i64 (gl e a.toNat).until_, DL (α := Rect) (gl e a.toNat).region_.rects_]))), (45, vi (gl e a.toNat).from_), (46, AL i), (47, vi a), (48, .v (.c (.elm [.int .i64 (gl i a.toNat).number_, .int .i64 (gl i a.toNat).kind_, .int .i64 (gl i a.toNat).from_, .int .i64 (gl i a.toNat).until_, DL (α := Rect) (gl i a.toNat).region_.rects_]))), (49, .v (.c (.elm [.int .i64 (gl i a.toNat).from_, .int .i64 (gl i a.toNat).until_, DL (α := Rect) (gl i a.toNat).region_.rects_]))), (50, vi (gl i a.toNat).from_), (51, vb (((gl e a.toNat).from_) != ((gl i a.toNat).from_))), (54, AL e), (55, vi a), (56, .v (.c (.elm [.int .i64 (gl e a.toNat).number_, .int .i64 (gl e a.toNat).kind_, .int .i64 (gl e a.toNat).from_, .int .i64 (gl e a.toNat).until_, DL (α := Rect) (gl e a.toNat).region_.rects_]))), (57, .v (.c (.elm [.int .i64 (gl e a.toNat).until_, DL (α := Rect) (gl e a.toNat).region_.rects_]))), (58, vi (gl e a.toNat).until_), (59, AL i), (60, vi a), (61, .v (.c (.elm [.int .i64 (gl i a.toNat).number_, .int .i64 (gl i a.toNat).kind_, .int .i64 (gl i a.toNat).from_, .int .i64 (gl i a.toNat).until_, DL (α := Rect) (gl i a.toNat).region_.rects_]))), (62, .v (.c (.elm [.int .i64 (gl i a.toNat).until_, DL (α := Rect) (gl i a.toNat).region_.rects_]))), (63, vi (gl i a.toNat).until_), (64, vb (((gl e a.toNat).until_) != ((gl i a.toNat).until_))), (67, AL e), (68, vi a), (69, .v (.c (.elm [.int .i64 (gl e a.toNat).number_, .int .i64 (gl e a.toNat).kind_, .int .i64 (gl e a.toNat).from_, .int .i64 (gl e a.toNat).until_, DL (α := Rect) (gl e a.toNat).region_.rects_]))), (70, .v (.c (.elm [DL (α := Rect) (gl e a.toNat).region_.rects_]))), (71, .v (.g [.d (DL (α := Rect) (gl e a.toNat).region_.rects_)])), (72, AL i), (73, vi a), (74, .v (.c (.elm [.int .i64 (gl i a.toNat).number_, .int .i64 (gl i a.toNat).kind_, .int .i64 (gl i a.toNat).from_, .int .i64 (gl i a.toNat).until_, DL (α := Rect) (gl i a.toNat).region_.rects_]))), (75, .v (.c (.elm [DL (α := Rect) (gl i a.toNat).region_.rects_]))), (76, .v (.g [.d (DL (α := Rect) (gl i a.toNat).region_.rects_)])), (77, vb t), (78, vb (!t)), (79, vb (!t))] [] ⟨p, q, ALe.bool j, u, y, ALe.bool l, H, I, ALe.bool m, L, M, ALe.bool o, T, U, KAt.CC (ref04_Same_spec W) Try.call27 [], ⟨⟩⟩ ?_
         exact Kn.R Fm (n (!t) h)
   ·have h := br_f h B
    refine AW.exit ?_
    exact Kn.R Fm (P () h)
theorem ref01_Has_spec {F : Nat} {a : (List Int)} {c : Int} {r : Bool} (h : ref01_Has F a c = some r) :
  FSpec Try.prog 13 [AL a, vi c] [] (vb r) [] := by
 refine FSpec.intro prog_mixed prog_lay Try.func13 rfl (by kernel_rfl) fun C Fm => ?_
 unfold ref01_Has at h
 refine AW.SG0 Fm 1 [(0, AL a), (1, vi c)] [] ?_
 refine AW.join (r := r) (fun z : Unit => ref01_Has_k1 F) (fun z => []) (fun z => []) (fun z h => ?_) (fun o k => ?_)
 ·refine AW.SG0 Fm 1 [(4, vb false)] [] ?_
  refine AW.ret ?_
  obtain rfl := Option.some.inj h
  exact Kn.D Fm
 ·refine AW.SG0 Fm 3 [(1, vi c), (7, AL a), (8, vi ((List.length a : Nat) : Int)), (9, vi (0 : Int))] [] ?_
  refine AW.block ?_
  refine Kn.r Fm [(1, vi c), (7, AL a), (8, vi ((List.length a : Nat) : Int)), (9, vi (0 : Int))] [] (by kernel_rfl) ?_
  refine AW.loopF (E' := fun z => [(1, vi c), (7, AL a), (8, vi ((List.length a : Nat) : Int)), (9, vi z)]) (S' := fun z => []) (fun p d n j h => ?_) h
  refine AW.SG0 Fm 1 [(1, vi c), (7, AL a), (8, vi ((List.length a : Nat) : Int)), (9, vi d), (10, vb (decide (d < ((List.length a : Nat) : Int))))] [] ?_
  refine AW.seq ?_
  refine AW.cond (b := (decide (d < ((List.length a : Nat) : Int)))) (by kernel_rfl) (fun e => ?_) (fun e => ?_)
  ·have h := br_t h e
   refine AW.skip ?_
   refine AW.seq ?_
   refine AW.block ?_
   obtain ⟨l, h⟩ := gd_some h
   refine AW.SG Fm [.s, .s, .s] (fun K => _ ∧ True) [(1, vi c), (6, vi (gl a d.toNat)), (7, AL a), (8, vi ((List.length a : Nat) : Int)), (9, vi d)] [] ⟨l, ⟨⟩⟩ ?_
   refine AW.SG0 Fm 3 [(1, vi c), (7, AL a), (8, vi ((List.length a : Nat) : Int)), (9, vi d), (15, vb ((gl a d.toNat) == c))] [] ?_
   refine AW.cond (b := ((gl a d.toNat) == c)) (by kernel_rfl) (fun i => ?_) (fun i => ?_)
   ·have h := br_t h i
    refine AW.SG0 Fm 1 [(4, vb true)] [] ?_
    refine AW.ret ?_
    obtain rfl := Option.some.inj h
    exact Kn.D Fm
   ·have h := br_f h i
    refine AW.skip ?_
    obtain ⟨m, h⟩ := gd_some h
    refine AW.G Fm [.s, .s] (fun K => (I64 (d + (1 : Int)) ∧ True) ∧ True) [(1, vi c), (7, AL a), (8, vi ((List.length a : Nat) : Int)), (9, vi (d + (1 : Int)))] [] ⟨⟨m, ⟨⟩⟩, ⟨⟩⟩ ?_
    exact Kn.R Fm (j (d + (1 : Int)) h)
  ·have h := br_f h e
   refine AW.exit ?_
   exact Kn.R Fm (k () h)
theorem feature_Changes_spec {F : Nat} {a : (List Feature)} {r : (List Int) × Int} (h : feature_Changes F a = some r) :
  FSpec0 Try.prog 12 [AL a] [] (.t [.c (.d (DL (α := Int) r.1)), .c (ci r.2)]) [] := by
 refine FSpec0.intro prog_mixed prog_lay Try.func12 rfl (by kernel_rfl) fun C hzd Fm => ?_
 unfold feature_Changes at h
 refine AW.SG0 Fm 2 [(0, AL a)] [] ?_
 refine AW.seq ?_
 refine AW.seq ?_
 obtain ⟨j, M, h⟩ := bd_some h
 refine AW.G Fm [.s, .k (cE [] [] (vi j) [] []), .s] (fun K => K 1 ∧ True) [(0, AL a), (4, vi j)] [] ⟨KAt.CC (feature_Check_spec M) Try.call9 [], ⟨⟩⟩ ?_
 refine AW.SG0 Fm 2 [(0, AL a), (4, vi j), (11, vb (j != (0 : Int)))] [] ?_
 refine AW.cond (b := (j != (0 : Int))) (by kernel_rfl) (fun o => ?_) (fun o => ?_)
 ·have h := br_t h o
  refine AW.SG0 Fm 3 [(2, .v (.c (.fl 0 fun _ => []))), (3, vi j)] [] ?_
  refine AW.ret ?_
  obtain rfl := Option.some.inj h
  refine Kn.r Fm [(2, .v (.c (.fl 0 fun _ => []))), (3, vi j)] [] (by kernel_rfl) ?_
  refine Kn.wk [(2, AL (α := Int) []), (3, vi j)] [] ⟨rfl, ALe.c (CLe.fl .nil), ⟨rfl, ALe.c (CLe.refl _), ⟨⟩⟩⟩ True.intro ?_
  exact Kn.D Fm
 ·have h := br_f h o
  refine AW.skip ?_
  refine AW.SG Fm [.k (rE { v := .v (.c (.own 13)), new := some (.ext (mapP Try.prog 3 4 [])) }), .s] (fun K => K 0 ∧ True) [(0, AL a), (5, ow 13)] [(13, .ext (mapP Try.prog 3 4 ([] : List Int)))] ⟨KAt.mkMap (kT := 3) (eT := 4) rfl rfl (by kernel_rfl), ⟨⟩⟩ ?_
  refine AW.join (r := r) (fun z : (List Int) => feature_Changes_k2 F z) (fun z => [(5, ow 13)]) (fun z => [(13, .ext (mapP Try.prog 3 4 z))]) (fun l h => ?_) (fun T H => ?_)
  ·refine AW.seq ?_
   obtain ⟨m, N, h⟩ := bd_some h
   refine AW.G Fm [.s, .k (cE [(0, 13), (101, 31)] [] (.v (.c (.clo 41 [101]))) [(0, .ext (mapP Try.prog 3 4 l))] [(0, .ext (mapP Try.prog 3 4 l)), (101, bx [.own 0])]), .k (cE [(0, 13), (1, 31), (100, 32)] [] (ow 100) [(0, .ext (mapP Try.prog 3 4 l)), (1, bx [.own 0])] [(0, .ext (mapP Try.prog 3 4 l)), (1, bx [.own 0]), (100, AO m)]), .s, .s] (fun K => K 1 ∧ K 2 ∧ True) [(2, ow 32), (3, vi (0 : Int))] [(32, AO m)] ⟨KAt.CC (@keys_spec l) Try.call29 [(0, 13), (101, 31)], KAt.CC0 hzd (sorted_spec N) Try.call28 [(0, 13), (1, 31), (100, 32)], ⟨⟩⟩ ?_
   refine AW.ret ?_
   obtain rfl := Option.some.inj h
   refine Kn.r Fm [(2, ow 32), (3, vi (0 : Int))] [(32, AO m)] (by kernel_rfl) ?_
   refine Kn.frz [(2, AL m), (3, vi (0 : Int))] [] (by kernel_rfl) (by kernel_rfl) (by kernel_rfl) ?_
   exact Kn.D Fm
  ·refine AW.SG0 Fm 3 [(5, ow 13), (14, AL a), (15, vi ((List.length a : Nat) : Int)), (16, vi (0 : Int))] [(13, .ext (mapP Try.prog 3 4 ([] : List Int)))] ?_
   refine AW.block ?_
   refine Kn.r Fm [(5, ow 13), (14, AL a), (15, vi ((List.length a : Nat) : Int)), (16, vi (0 : Int))] [(13, .ext (mapP Try.prog 3 4 ([] : List Int)))] (by kernel_rfl) ?_
   refine AW.loopF (E' := fun z => [(5, ow 13), (14, AL a), (15, vi ((List.length a : Nat) : Int)), (16, vi z.1)]) (S' := fun z => [(13, .ext (mapP Try.prog 3 4 z.2))]) (fun B z O E h => ?_) h
   obtain ⟨e, i⟩ := z
   refine AW.SG0 Fm 1 [(5, ow 13), (14, AL a), (15, vi ((List.length a : Nat) : Int)), (16, vi e), (17, vb (decide (e < ((List.length a : Nat) : Int))))] [(13, .ext (mapP Try.prog 3 4 i))] ?_
   refine AW.seq ?_
   refine AW.cond (b := (decide (e < ((List.length a : Nat) : Int)))) (by kernel_rfl) (fun p => ?_) (fun p => ?_)
   ·have h := br_t h p
    refine AW.skip ?_
    refine AW.join (r := r) (fun z : (List Int) => feature_Changes_k1 F e B z) (fun z => [(5, ow 13), (14, AL a), (15, vi ((List.length a : Nat) : Int)), (16, vi e)]) (fun z => [(13, .ext (mapP Try.prog 3 4 z))]) (fun A h => ?_) (fun P u => ?_)
    ·obtain ⟨L, h⟩ := gd_some h
     refine AW.G Fm [.s, .s] (fun K => (I64 (e + (1 : Int)) ∧ True) ∧ True) [(5, ow 13), (14, AL a), (15, vi ((List.length a : Nat) : Int)), (16, vi (e + (1 : Int)))] [(13, .ext (mapP Try.prog 3 4 A))] ⟨⟨L, ⟨⟩⟩, ⟨⟩⟩ ?_
     exact Kn.R Fm (E ((e + (1 : Int)), A) h)
    ·refine AW.block ?_
     obtain ⟨I, h⟩ := gd_some h
     refine AW.SG Fm [.s, .s, .s, .s] (fun K => _ ∧ True) [(5, ow 13), (7, pt 7), (14, AL a), (15, vi ((List.length a : Nat) : Int)), (16, vi e)] [(7, bx [ci ((gl a e.toNat).number_), ci ((gl a e.toNat).kind_), ci ((gl a e.toNat).from_), ci ((gl a e.toNat).until_), .d (DL (α := Rect) (gl a e.toNat).region_.rects_)]), (13, .ext (mapP Try.prog 3 4 i))] ⟨I, ⟨⟩⟩ ?_
     obtain ⟨w, h⟩ := gd_some h
     refine AW.SG Fm [.s, .s, .s, .k (rE { upd := some (13, .ext (mapP Try.prog 3 4 (i ++ [((gl a e.toNat).from_)]))) })] (fun K => K 3 ∧ True) [(5, ow 13), (7, pt 7), (14, AL a), (15, vi ((List.length a : Nat) : Int)), (16, vi e)] [(7, bx [ci ((gl a e.toNat).number_), ci ((gl a e.toNat).kind_), ci ((gl a e.toNat).from_), ci ((gl a e.toNat).until_), .d (DL (α := Rect) (gl a e.toNat).region_.rects_)]), (13, .ext (mapP Try.prog 3 4 (i ++ [((gl a e.toNat).from_)])))] ⟨KAt.mapPut (kT := 3) (eT := 4) (id := 13) (ks := i) (n := ((gl a e.toNat).from_)) (by kernel_rfl) (by kernel_rfl) (by kernel_rfl) rfl rfl (by kernel_rfl) (by kernel_rfl) (by kernel_rfl) (by kernel_rfl) (by kernel_rfl) w.1 w.2, ⟨⟩⟩ ?_
     refine AW.SG0 Fm 3 [(5, ow 13), (7, pt 7), (14, AL a), (15, vi ((List.length a : Nat) : Int)), (16, vi e), (25, vb (decide (((gl a e.toNat).until_) ≤ (36864 : Int))))] [(7, bx [ci ((gl a e.toNat).number_), ci ((gl a e.toNat).kind_), ci ((gl a e.toNat).from_), ci ((gl a e.toNat).until_), .d (DL (α := Rect) (gl a e.toNat).region_.rects_)]), (13, .ext (mapP Try.prog 3 4 (i ++ [((gl a e.toNat).from_)])))] ?_
     refine AW.cond (b := (decide (((gl a e.toNat).until_) ≤ (36864 : Int)))) (by kernel_rfl) (fun q => ?_) (fun q => ?_)
     ·have h := br_t h q
      obtain ⟨y, h⟩ := gd_some h
      refine AW.G Fm [.s, .s, .s, .k (rE { upd := some (13, .ext (mapP Try.prog 3 4 ((i ++ [((gl a e.toNat).from_)]) ++ [((gl a e.toNat).until_)]))) })] (fun K => K 3 ∧ True) [(5, ow 13), (14, AL a), (15, vi ((List.length a : Nat) : Int)), (16, vi e)] [(13, .ext (mapP Try.prog 3 4 ((i ++ [((gl a e.toNat).from_)]) ++ [((gl a e.toNat).until_)])))] ⟨KAt.mapPut (kT := 3) (eT := 4) (id := 13) (ks := (i ++ [((gl a e.toNat).from_)])) (n := ((gl a e.toNat).until_)) (by kernel_rfl) (by kernel_rfl) (by kernel_rfl) rfl rfl (by kernel_rfl) (by kernel_rfl) (by kernel_rfl) (by kernel_rfl) (by kernel_rfl) y.1 y.2, ⟨⟩⟩ ?_
      exact Kn.R Fm (u ((i ++ [((gl a e.toNat).from_)]) ++ [((gl a e.toNat).until_)]) h)
     ·have h := br_f h q
      refine AW.skip ?_
      exact Kn.R Fm (u (i ++ [((gl a e.toNat).from_)]) h)
   ·have h := br_f h p
    refine AW.exit ?_
    exact Kn.R Fm (H i h)
theorem law09_FeatureDays_spec {F : Nat} {W : (List Int)} {r : Bool} (h : law09_FeatureDays F W = some r) :
  FSpec0 Try.prog 4 [AL W] [] (vb r) [] := by
 refine FSpec0.intro prog_mixed prog_lay Try.func4 rfl (by kernel_rfl) fun C hzd Fm => ?_
 unfold law09_FeatureDays at h
 refine AW.SG0 Fm 1 [(0, AL W)] [] ?_
 refine AW.seq ?_
 obtain ⟨e0, u0, h⟩ := bd_some h
 obtain ⟨a, w0, h⟩ := bd_some h
 refine AW.G Fm [.s, .k (cE [(100, 14)] [] (pt 100) [] [(100, bx (gC e0))]), .k (cE [(0, 14)] [] (AL a.2) [(0, bx (gC e0))] [(0, bx (gC a.1))]), .s] (fun K => K 1 ∧ K 2 ∧ True) [(3, AL a.2)] [] ⟨KAt.CC (keep_New_spec u0) Try.call5 [(100, 14)], KAt.CC (keep_Tape_Layer_spec w0) Try.call6 [(0, 14)], ⟨⟩⟩ ?_
 refine AW.seq ?_
 obtain ⟨l, y0, h⟩ := bd_some h
 refine AW.G Fm [.s, .k (cE [] [] (.t [.c (.d (DL l.1)), .c (ci l.2)]) [] []), .s, .s, .s, .s, .s] (fun K => K 1 ∧ True) [(3, AL a.2), (4, AL l.1), (5, vi l.2)] [] ⟨KAt.CC0 hzd (feature_Changes_spec y0) Try.call12 [], ⟨⟩⟩ ?_
 refine AW.seq ?_
 refine AW.SG0 Fm 2 [(3, AL a.2), (4, AL l.1), (22, vb (l.2 != (0 : Int)))] [] ?_
 refine AW.cond (b := (l.2 != (0 : Int))) (by kernel_rfl) (fun L => ?_) (fun L => ?_)
 ·have h := br_t h L
  refine AW.SG0 Fm 1 [(2, vb false)] [] ?_
  refine AW.ret ?_
  obtain rfl := Option.some.inj h
  exact Kn.D Fm
 ·have h := br_f h L
  refine AW.skip ?_
  refine AW.SG Fm [.m] (fun K => True) [(3, AL a.2), (4, AL l.1), (6, ow 6)] [(6, .arr 5 (0) (fun _ => []))] True.intro ?_
  refine Kn.wk [(3, AL a.2), (4, AL l.1), (6, ow 6)] [(6, AO (α := Feature) ([] : List Feature))] (FE.refl _) (⟨rfl, OLe.is ((Is.nil (α := Feature))), ⟨⟩⟩) ?_
  refine AW.join (r := r) (fun z : Unit => law09_FeatureDays_k8 F) (fun z => []) (fun z => []) (fun z h => ?_) (fun U0 n0 => ?_)
  ·refine AW.seq ?_
   obtain ⟨i0, D0, h⟩ := bd_some h
   refine AW.G Fm [.k (cE [] [] (vb i0) [] []), .s] (fun K => K 0 ∧ True) [(2, vb i0)] [] ⟨KAt.CC (law09_awake_spec D0) Try.call7 [], ⟨⟩⟩ ?_
   refine AW.ret ?_
   obtain rfl := Option.some.inj h
   exact Kn.D Fm
  ·refine AW.SG0 Fm 1 [(3, AL a.2), (4, AL l.1), (6, ow 6), (7, vi (0 : Int))] [(6, AO (α := Feature) ([] : List Feature))] ?_
   refine AW.block ?_
   refine Kn.r Fm [(3, AL a.2), (4, AL l.1), (6, ow 6), (7, vi (0 : Int))] [(6, AO (α := Feature) ([] : List Feature))] (by kernel_rfl) ?_
   refine Kn.frz [(3, AL a.2), (4, AL l.1), (6, AL (α := Feature) ([] : List Feature)), (7, vi (0 : Int))] [] (by kernel_rfl) (by kernel_rfl) (by kernel_rfl) ?_
   refine Kn.r Fm [(3, AL a.2), (4, AL l.1), (6, AL ([] : List Feature)), (7, vi (0 : Int))] [] (by kernel_rfl) ?_
   refine AW.loopF (E' := fun z => [(3, AL a.2), (4, AL l.1), (6, AL z.1), (7, vi z.2)]) (S' := fun z => []) (fun H z K0 j0 h => ?_) h
   obtain ⟨V, j⟩ := z
   refine AW.seq ?_
   refine AW.SG0 Fm 2 [(3, AL a.2), (4, AL l.1), (6, AL V), (7, vi j), (24, vb (decide (j < (55 : Int))))] [] ?_
   refine AW.cond (b := (decide (j < (55 : Int)))) (by kernel_rfl) (fun M => ?_) (fun M => ?_)
   ·have h := br_t h M
    refine AW.skip ?_
    refine AW.join (r := r) (fun z : (List Feature) => law09_FeatureDays_k7 F j H z) (fun z => [(3, AL a.2), (4, AL l.1), (6, AL z), (7, vi j)]) (fun z => []) (fun d0 h => ?_) (fun T0 m0 => ?_)
    ·obtain ⟨t0, h⟩ := gd_some h
     refine AW.G Fm [.s, .s, .s] (fun K => (I64 (j + (1 : Int)) ∧ True) ∧ True) [(3, AL a.2), (4, AL l.1), (6, AL d0), (7, vi (j + (1 : Int)))] [] ⟨⟨t0, ⟨⟩⟩, ⟨⟩⟩ ?_
     exact Kn.R Fm (j0 (d0, (j + (1 : Int))) h)
    ·refine AW.block ?_
     refine AW.seq ?_
     obtain ⟨e, A0, h⟩ := bd_some h
     refine AW.G Fm [.s, .s, .k (cE [] [] (.t [.c (.d (DL e.1)), .c (ci e.2)]) [] []), .s, .s, .s, .s, .s] (fun K => K 2 ∧ True) [(3, AL a.2), (4, AL l.1), (6, AL V), (7, vi j), (8, AL e.1), (9, vi e.2)] [] ⟨KAt.CC (feature_On_spec A0) Try.call10 [], ⟨⟩⟩ ?_
     refine AW.seq ?_
     refine AW.join (r := r) (fun z : Bool => law09_FeatureDays_k1 F a j e H z) (fun z => [(3, AL a.2), (4, AL l.1), (7, vi j), (8, AL e.1), (50, vb z)]) (fun z => []) (fun E0 h => ?_) (fun L0 E => ?_)
     ·refine AW.cond (b := E0) (by kernel_rfl) (fun N => ?_) (fun N => ?_)
      ·have h := br_t h N
       refine AW.SG0 Fm 1 [(2, vb false)] [] ?_
       refine AW.ret ?_
       obtain rfl := Option.some.inj h
       exact Kn.D Fm
      ·have h := br_f h N
       refine AW.skip ?_
       refine AW.SG0 Fm 1 [(3, AL a.2), (4, AL l.1), (7, vi j), (8, AL e.1), (10, vi (0 : Int))] [] ?_
       refine AW.join (r := r) (fun z : Int => law09_FeatureDays_k6 F j e H z) (fun z => [(3, AL a.2), (4, AL l.1), (7, vi j), (8, AL e.1), (10, vi z)]) (fun z => []) (fun c0 h => ?_) (fun R0 l0 => ?_)
       ·refine AW.seq ?_
        refine AW.SG0 Fm 4 [(3, AL a.2), (4, AL l.1), (7, vi j), (8, AL e.1), (87, vb (c0 != ((List.length e.1 : Nat) : Int)))] [] ?_
        refine AW.cond (b := (c0 != ((List.length e.1 : Nat) : Int))) (by kernel_rfl) (fun U => ?_) (fun U => ?_)
        ·have h := br_t h U
         refine AW.SG0 Fm 1 [(2, vb false)] [] ?_
         refine AW.ret ?_
         obtain rfl := Option.some.inj h
         exact Kn.D Fm
        ·have h := br_f h U
         refine AW.skip ?_
         refine AW.G0 Fm 2 [(3, AL a.2), (4, AL l.1), (6, AL e.1), (7, vi j)] [] ?_
         exact Kn.R Fm (m0 e.1 h)
       ·refine AW.SG0 Fm 3 [(3, AL a.2), (4, AL l.1), (7, vi j), (8, AL e.1), (10, vi (0 : Int)), (51, AL a.2), (52, vi ((List.length a.2 : Nat) : Int)), (53, vi (0 : Int))] [] ?_
        refine AW.block ?_
        refine Kn.r Fm [(3, AL a.2), (4, AL l.1), (7, vi j), (8, AL e.1), (10, vi (0 : Int)), (51, AL a.2), (52, vi ((List.length a.2 : Nat) : Int)), (53, vi (0 : Int))] [] (by kernel_rfl) ?_
        refine AW.loopF (E' := fun z => [(3, AL a.2), (4, AL l.1), (7, vi j), (8, AL e.1), (10, vi z.1), (51, AL a.2), (52, vi ((List.length a.2 : Nat) : Int)), (53, vi z.2)]) (S' := fun z => []) (fun I z M0 k0 h => ?_) h
        obtain ⟨n, i⟩ := z
        refine AW.SG0 Fm 1 [(3, AL a.2), (4, AL l.1), (7, vi j), (8, AL e.1), (10, vi n), (51, AL a.2), (52, vi ((List.length a.2 : Nat) : Int)), (53, vi i), (54, vb (decide (i < ((List.length a.2 : Nat) : Int))))] [] ?_
        refine AW.seq ?_
        refine AW.cond (b := (decide (i < ((List.length a.2 : Nat) : Int)))) (by kernel_rfl) (fun O => ?_) (fun O => ?_)
        ·have h := br_t h O
         refine AW.skip ?_
         refine AW.join (r := r) (fun z : Int => law09_FeatureDays_k5 F i I z) (fun z => [(3, AL a.2), (4, AL l.1), (7, vi j), (8, AL e.1), (10, vi z), (51, AL a.2), (52, vi ((List.length a.2 : Nat) : Int)), (53, vi i)]) (fun z => []) (fun b0 h => ?_) (fun P0 Z => ?_)
         ·obtain ⟨s0, h⟩ := gd_some h
          refine AW.G Fm [.s, .s] (fun K => (I64 (i + (1 : Int)) ∧ True) ∧ True) [(3, AL a.2), (4, AL l.1), (7, vi j), (8, AL e.1), (10, vi b0), (51, AL a.2), (52, vi ((List.length a.2 : Nat) : Int)), (53, vi (i + (1 : Int)))] [] ⟨⟨s0, ⟨⟩⟩, ⟨⟩⟩ ?_
          exact Kn.R Fm (k0 (b0, (i + (1 : Int))) h)
         ·refine AW.block ?_
          obtain ⟨o0, h⟩ := gd_some h
          refine AW.SG Fm [.s, .s, .s, .s] (fun K => _ ∧ True) [(3, AL a.2), (4, AL l.1), (7, vi j), (8, AL e.1), (10, vi n), (12, pt 12), (51, AL a.2), (52, vi ((List.length a.2 : Nat) : Int)), (53, vi i)] [(12, bx [ci ((gl a.2 i.toNat).number_), ci ((gl a.2 i.toNat).kind_), ci ((gl a.2 i.toNat).from_), ci ((gl a.2 i.toNat).until_), .d (DL (α := Rect) (gl a.2 i.toNat).region_.rects_)])] ⟨o0, ⟨⟩⟩ ?_
          refine AW.join (r := r) (fun z : Bool => law09_FeatureDays_k3 F a e n i I z) (fun z => [(3, AL a.2), (4, AL l.1), (7, vi j), (8, AL e.1), (10, vi n), (12, pt 12), (51, AL a.2), (52, vi ((List.length a.2 : Nat) : Int)), (53, vi i), (66, vb z)]) (fun z => [(12, bx [ci ((gl a.2 i.toNat).number_), ci ((gl a.2 i.toNat).kind_), ci ((gl a.2 i.toNat).from_), ci ((gl a.2 i.toNat).until_), .d (DL (α := Rect) (gl a.2 i.toNat).region_.rects_)])]) (fun H0 h => ?_) (fun N0 X => ?_)
          ·refine AW.cond (b := H0) (by kernel_rfl) (fun P => ?_) (fun P => ?_)
           ·have h := br_t h P
            refine AW.seq ?_
            refine AW.join (r := r) (fun z : Bool => law09_FeatureDays_k4 F n i I z) (fun z => [(3, AL a.2), (4, AL l.1), (7, vi j), (8, AL e.1), (10, vi n), (51, AL a.2), (52, vi ((List.length a.2 : Nat) : Int)), (53, vi i), (80, vb z)]) (fun z => []) (fun I0 h => ?_) (fun O0 Y => ?_)
            ·refine AW.cond (b := I0) (by kernel_rfl) (fun T => ?_) (fun T => ?_)
             ·have h := br_t h T
              refine AW.SG0 Fm 1 [(2, vb false)] [] ?_
              refine AW.ret ?_
              obtain rfl := Option.some.inj h
              exact Kn.D Fm
             ·have h := br_f h T
              refine AW.skip ?_
              obtain ⟨q0, h⟩ := gd_some h
              refine AW.G Fm [.s, .s, .s] (fun K => (I64 (n + (1 : Int)) ∧ True) ∧ True) [(3, AL a.2), (4, AL l.1), (7, vi j), (8, AL e.1), (10, vi (n + (1 : Int))), (51, AL a.2), (52, vi ((List.length a.2 : Nat) : Int)), (53, vi i)] [] ⟨⟨q0, ⟨⟩⟩, ⟨⟩⟩ ?_
              exact Kn.R Fm (Z (n + (1 : Int)) h)
            ·rcases Bool.eq_false_or_eq_true (decide (((List.length e.1 : Nat) : Int) ≤ n)) with B | B
             ·have h := br_t h B
              refine AW.G Fm [.s, .s, .s, .s, .w (vb true), .s, .s, .s, .s, .s, .s, .s, .s, .s] (fun K => (ALe (vb (decide (((List.length e.1 : Nat) : Int) ≤ n))) (vb true)) ∧ True) [(3, AL a.2), (4, AL l.1), (7, vi j), (8, AL e.1), (10, vi n), (51, AL a.2), (52, vi ((List.length a.2 : Nat) : Int)), (53, vi i), (80, vb true)] [] ⟨ALe.bool B, ⟨⟩⟩ ?_
              exact Kn.R Fm (Y true h)
             ·have h := br_f h B
              obtain ⟨p0, h⟩ := gd_some h
              refine AW.G Fm [.s, .s, .s, .s, .w (vb false), .s, .s, .s, .s, .s, .s, .s, .s, .s] (fun K => (ALe (vb (decide (((List.length e.1 : Nat) : Int) ≤ n))) (vb false)) ∧ _ ∧ True) [(3, AL a.2), (4, AL l.1), (7, vi j), (8, AL e.1), (10, vi n), (51, AL a.2), (52, vi ((List.length a.2 : Nat) : Int)), (53, vi i), (72, AL e.1), (73, vi n), (74, .v (.c (.elm [.int .i64 (gl e.1 n.toNat).number_, .int .i64 (gl e.1 n.toNat).kind_, .int .i64 (gl e.1 n.toNat).from_, .int .i64 (gl e.1 n.toNat).until_, DL (α := Rect) (gl e.1 n.toNat).region_.rects_]))), (75, .v (.c (.elm [.int .i64 (gl e.1 n.toNat).number_, .int .i64 (gl e.1 n.toNat).kind_, .int .i64 (gl e.1 n.toNat).from_, .int .i64 (gl e.1 n.toNat).until_, DL (α := Rect) (gl e.1 n.toNat).region_.rects_]))), (76, vi (gl e.1 n.toNat).number_), (77, pt 12), (78, vi (gl a.2 i.toNat).number_), (79, vb (((gl e.1 n.toNat).number_) != ((gl a.2 i.toNat).number_))), (80, vb (((gl e.1 n.toNat).number_) != ((gl a.2 i.toNat).number_)))] [(12, bx [ci ((gl a.2 i.toNat).number_), ci ((gl a.2 i.toNat).kind_), ci ((gl a.2 i.toNat).from_), ci ((gl a.2 i.toNat).until_), .d (DL (α := Rect) (gl a.2 i.toNat).region_.rects_)])] ⟨ALe.bool B, p0, ⟨⟩⟩ ?_
              exact Kn.R Fm (Y (((gl e.1 n.toNat).number_) != ((gl a.2 i.toNat).number_)) h)
           ·have h := br_f h P
            refine AW.skip ?_
            exact Kn.R Fm (Z n h)
          ·rcases Bool.eq_false_or_eq_true (decide (((gl a.2 i.toNat).from_) ≤ j)) with A | A
           ·have h := br_t h A
            refine AW.G Fm [.s, .s, .s, .s, .w (vb true), .s, .s, .s, .s, .s] (fun K => (ALe (vb (decide (((gl a.2 i.toNat).from_) ≤ j))) (vb true)) ∧ True) [(3, AL a.2), (4, AL l.1), (7, vi j), (8, AL e.1), (10, vi n), (12, pt 12), (51, AL a.2), (52, vi ((List.length a.2 : Nat) : Int)), (53, vi i), (62, vi j), (63, .v (.c (.ptr 12 3))), (64, vi (gl a.2 i.toNat).until_), (65, vb (decide (j < ((gl a.2 i.toNat).until_)))), (66, vb (decide (j < ((gl a.2 i.toNat).until_))))] [(12, bx [ci ((gl a.2 i.toNat).number_), ci ((gl a.2 i.toNat).kind_), ci ((gl a.2 i.toNat).from_), ci ((gl a.2 i.toNat).until_), .d (DL (α := Rect) (gl a.2 i.toNat).region_.rects_)])] ⟨ALe.bool A, ⟨⟩⟩ ?_
            exact Kn.R Fm (X (decide (j < ((gl a.2 i.toNat).until_))) h)
           ·have h := br_f h A
            refine AW.G Fm [.s, .s, .s, .s, .w (vb false), .s, .s, .s, .s, .s] (fun K => (ALe (vb (decide (((gl a.2 i.toNat).from_) ≤ j))) (vb false)) ∧ True) [(3, AL a.2), (4, AL l.1), (7, vi j), (8, AL e.1), (10, vi n), (12, pt 12), (51, AL a.2), (52, vi ((List.length a.2 : Nat) : Int)), (53, vi i), (66, vb false)] [(12, bx [ci ((gl a.2 i.toNat).number_), ci ((gl a.2 i.toNat).kind_), ci ((gl a.2 i.toNat).from_), ci ((gl a.2 i.toNat).until_), .d (DL (α := Rect) (gl a.2 i.toNat).region_.rects_)])] ⟨ALe.bool A, ⟨⟩⟩ ?_
            exact Kn.R Fm (X false h)
        ·have h := br_f h O
         refine AW.exit ?_
         exact Kn.R Fm (l0 n h)
     ·rcases Bool.eq_false_or_eq_true (e.2 != (0 : Int)) with p | p
      ·have h := br_t h p
       refine AW.G Fm [.s, .s, .w (vb true), .s, .s, .s, .s, .s, .s, .s, .s, .s, .s, .s, .s, .s, .s, .s] (fun K => (ALe (vb (e.2 != (0 : Int))) (vb true)) ∧ True) [(3, AL a.2), (4, AL l.1), (7, vi j), (8, AL e.1), (50, vb true)] [] ⟨ALe.bool p, ⟨⟩⟩ ?_
       exact Kn.R Fm (E true h)
      ·have h := br_f h p
       rcases Bool.eq_false_or_eq_true (decide ((0 : Int) < j)) with q | q
       ·have h := br_t h q
        obtain ⟨o, a0, h⟩ := bd_some h
        rcases Bool.eq_false_or_eq_true (!o) with y | y
        ·have h := br_t h y
         obtain ⟨u, B0, h⟩ := bd_some h
         refine AW.G Fm [.s, .s, .w (vb false), .s, .s, .w (vb true), .s, .s, .k (cE [] [] (vb o) [] []), .s, .s, .w (vb true), .s, .s, .k (cE [] [] (vb u) [] []), .s, .s, .s] (fun K => (ALe (vb (e.2 != (0 : Int))) (vb false)) ∧ (ALe (vb (decide ((0 : Int) < j))) (vb true)) ∧ K 8 ∧ (ALe (vb (!o)) (vb true)) ∧ K 14 ∧ True) [(3, AL a.2), (4, AL l.1), (7, vi j), (8, AL e.1), (36, vi j), (37, vb (decide ((0 : Int) < j))), (38, vb true), (39, AL l.1), (40, vi j), (41, vb o), (42, vb (!o)), (43, vb (!o)), (44, vb true), (45, AL e.1), (46, AL V), (47, vb u), (48, vb (!u)), (49, vb (!u)), (50, vb (!u))] [] ⟨ALe.bool p, ALe.bool q, KAt.CC (ref01_Has_spec a0) Try.call13 [], ALe.bool y, KAt.CC (ref09_Same_spec B0) Try.call11 [], ⟨⟩⟩ ?_
         exact Kn.R Fm (E (!u) h)
        ·have h := br_f h y
         refine AW.G Fm [.s, .s, .w (vb false), .s, .s, .w (vb true), .s, .s, .k (cE [] [] (vb o) [] []), .s, .s, .w (vb false), .s, .s, .s, .s, .s, .s] (fun K => (ALe (vb (e.2 != (0 : Int))) (vb false)) ∧ (ALe (vb (decide ((0 : Int) < j))) (vb true)) ∧ K 8 ∧ (ALe (vb (!o)) (vb false)) ∧ True) [(3, AL a.2), (4, AL l.1), (7, vi j), (8, AL e.1), (36, vi j), (37, vb (decide ((0 : Int) < j))), (38, vb true), (39, AL l.1), (40, vi j), (41, vb o), (42, vb (!o)), (43, vb (!o)), (44, vb false), (49, vb false), (50, vb false)] [] ⟨ALe.bool p, ALe.bool q, KAt.CC (ref01_Has_spec a0) Try.call13 [], ALe.bool y, ⟨⟩⟩ ?_
         exact Kn.R Fm (E false h)
       ·have h := br_f h q
        refine AW.G Fm [.s, .s, .w (vb false), .s, .s, .w (vb false), .s, .s, .s, .s, .s, .s, .s, .s, .s, .s, .s, .s] (fun K => (ALe (vb (e.2 != (0 : Int))) (vb false)) ∧ (ALe (vb (decide ((0 : Int) < j))) (vb false)) ∧ True) [(3, AL a.2), (4, AL l.1), (7, vi j), (8, AL e.1), (36, vi j), (37, vb (decide ((0 : Int) < j))), (38, vb false), (43, vb false), (44, vb false), (49, vb false), (50, vb false)] [] ⟨ALe.bool p, ALe.bool q, ⟨⟩⟩ ?_
        exact Kn.R Fm (E false h)
   ·have h := br_f h M
    refine AW.exit ?_
    exact Kn.R Fm (n0 () h)
end Go.Ab
end
