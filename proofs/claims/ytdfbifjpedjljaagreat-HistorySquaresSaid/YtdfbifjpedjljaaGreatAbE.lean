/- Abstract states over the model: every lemma holds of any program of the form that it names. -/
import Derived.Test.YtdfbifjpedjljaaGreatAbD
import Derived.Test.YtdfbifjpedjljaaGreatBaA
set_option linter.unusedVariables false
set_option linter.unusedSimpArgs false
section
namespace Go.Ab
open Go.Proofs
set_option linter.unusedVariables false
set_option maxRecDepth 100000
theorem history_Add_spec {F : Nat} {x1380 : (List Record)} {x1381 : Int} {x1382 : Int} {x1383 : Region} {r : (List Record) × Int} (h : history_Add F x1380 x1381 x1382 x1383 = some r) :
  FSpec Tryz.prog 17 [AL x1380, vi x1381, vi x1382, .v (.g [.d (DL x1383.rects_)])] [] (.t [.c (.d (DL (α := Record) r.1)), .c (ci r.2)]) [] := by
 refine FI Tryz.func17 prog_mixed prog_lay fun C Fm => ?_
 unfold history_Add at h
 refine AW.SG0 Fm 3 [(0, AL x1380), (1, vi x1381), (2, vi x1382), (7, pt 7)] [(7, bx [.d (DL x1383.rects_)])] ?_
 refine AW.seq (AW.seq ?_)
 obtain ⟨z1384, hz1385, h⟩ := bS h
 refine AW.G Fm [.s, .k (cE [] [] (vi z1384) [] []), .s] (fun K => K 1 ∧ True) [(0, AL x1380), (1, vi x1381), (2, vi x1382), (7, pt 7), (10, vi z1384)] [(7, bx [.d (DL x1383.rects_)])] ⟨KAt.CC (history_Check_spec hz1385) Tryz.call18 [], ⟨⟩⟩ ?_
 refine AW.SG0 Fm 2 [(0, AL x1380), (1, vi x1381), (2, vi x1382), (7, pt 7), (10, vi z1384), (19, vb (z1384 != (0 : Int)))] [(7, bx [.d (DL x1383.rects_)])] ?_
 refine AW.cN h (fun hb1386 h => ?_) (fun hb1386 h => ?_)
 ·refine AW.SG0 Fm 3 [(8, .v (.c (.fl 0 fun _ => []))), (9, vi z1384)] [] ?_
  refine AW.ret ?_
  obtain rfl := Option.some.inj h
  refine Kn.r Fm [(8, .v (.c (.fl 0 fun _ => []))), (9, vi z1384)] [] (by kernel_rfl) ?_
  refine Kn.wk [(8, AL (α := Record) []), (9, vi z1384)] [] ⟨rfl, ALe.c (CLe.fl .nil), ⟨rfl, ALe.c (CLe.refl _), ⟨⟩⟩⟩ True.intro ?_
  exact Kn.D Fm
 ·refine AW.skip (AW.seq (AW.block (AW.join (r := r) (fun z : Bool => history_Add_k0 F x1380 x1381 x1382 x1383 z) (fun z => [(0, AL x1380), (1, vi x1381), (2, vi x1382), (7, pt 7), (21, vb z)]) (fun z => [(7, bx [.d (DL x1383.rects_)])]) (fun v1388 h => ?_) (fun J1389 hJ1389 => ?_))))
  ·refine AW.cN h (fun hb1390 h => ?_) (fun hb1390 h => ?_)
   ·refine AW.SG0 Fm 2 [(8, .v (.c (.fl 0 fun _ => []))), (9, vi 18)] [] ?_
    refine AW.ret ?_
    obtain rfl := Option.some.inj h
    refine Kn.r Fm [(8, .v (.c (.fl 0 fun _ => []))), (9, vi 18)] [] (by kernel_rfl) ?_
    refine Kn.wk [(8, AL (α := Record) []), (9, vi 18)] [] ⟨rfl, ALe.c (CLe.fl .nil), ⟨rfl, ALe.c (CLe.refl _), ⟨⟩⟩⟩ True.intro ?_
    exact Kn.D Fm
   ·refine AW.join (r := r) (fun z : Bool => history_Add_k1 F x1380 x1381 x1382 x1383 z) (fun z => [(0, AL x1380), (1, vi x1381), (2, vi x1382), (7, pt 7), (28, vb z)]) (fun z => [(7, bx [.d (DL x1383.rects_)])]) (fun v1392 h => ?_) (fun J1393 hJ1393 => ?_)
    ·refine AW.cN h (fun hb1394 h => ?_) (fun hb1394 h => ?_)
     ·refine AW.SG0 Fm 2 [(8, .v (.c (.fl 0 fun _ => []))), (9, vi 13)] [] ?_
      refine AW.ret ?_
      obtain rfl := Option.some.inj h
      refine Kn.r Fm [(8, .v (.c (.fl 0 fun _ => []))), (9, vi 13)] [] (by kernel_rfl) ?_
      refine Kn.wk [(8, AL (α := Record) []), (9, vi 13)] [] ⟨rfl, ALe.c (CLe.fl .nil), ⟨rfl, ALe.c (CLe.refl _), ⟨⟩⟩⟩ True.intro ?_
      exact Kn.D Fm
     ·refine AW.seq ?_
      obtain ⟨z1395, hz1396, h⟩ := bS h
      refine AW.G Fm [.s, .k (cE [] [] (vb z1395) [] []), .s, .s] (fun K => K 1 ∧ True) [(0, AL x1380), (1, vi x1381), (2, vi x1382), (7, pt 7), (35, vb (!z1395))] [(7, bx [.d (DL x1383.rects_)])] ⟨KAt.CC (region_Valid_spec hz1396) Tryz.call94 [], ⟨⟩⟩ ?_
      refine AW.cN h (fun hb1397 h => ?_) (fun hb1397 h => ?_)
      ·refine AW.SG0 Fm 2 [(8, .v (.c (.fl 0 fun _ => []))), (9, vi 7)] [] ?_
       refine AW.ret ?_
       obtain rfl := Option.some.inj h
       refine Kn.r Fm [(8, .v (.c (.fl 0 fun _ => []))), (9, vi 7)] [] (by kernel_rfl) ?_
       refine Kn.wk [(8, AL (α := Record) []), (9, vi 7)] [] ⟨rfl, ALe.c (CLe.fl .nil), ⟨rfl, ALe.c (CLe.refl _), ⟨⟩⟩⟩ True.intro ?_
       exact Kn.D Fm
      ·refine AW.skip (AW.SG0 Fm 6 [(0, AL x1380), (1, vi x1381), (2, vi x1382), (7, pt 7), (11, pt 11)] [(7, bx [.d (DL x1383.rects_)]), (11, bx [ci x1381, ci x1382, .d (DL x1383.rects_)])] ?_)
       refine AW.SW Fm [.m] (fun K => True) [(0, AL x1380), (1, vi x1381), (2, vi x1382), (7, pt 7), (11, pt 11), (12, ow 12)] [(7, bx [.d (DL x1383.rects_)]), (11, bx [ci x1381, ci x1382, .d (DL x1383.rects_)]), (12, AO (α := Record) ([] : List Record))] True.intro [(12, .arr 3 (0) (fun _ => []))] ⟨OLe.is ((Is.nil (α := Record))), ⟨⟩⟩ ?_
       refine AW.join (r := r) (fun z : (List Rect) × (List Record) => history_Add_k6 F x1381 x1382 z.1 z.2) (fun z => [(11, pt 11), (12, ow 12)]) (fun z => [(11, bx [ci x1381, ci x1382, .d (DL z.1)]), (12, AO z.2)]) (fun z h => ?_) (fun J1445 hJ1445 => ?_)
       ·obtain ⟨v1443, v1444⟩ := z
        refine AW.seq ?_
        obtain ⟨z1446, hz1447, h⟩ := bS h
        obtain ⟨hg1448, h⟩ := gS h
        refine AW.GW Fm [.s, .s, .s, .s, .s, .k (cE [] [] (gE z1446) [] []), .w (AL (α := Record) ([z1446] : List Record)), .s, .s] (fun K => K 5 ∧ (ALe (.v (.c (.d (.lst 1 (litF 3 [.int .i64 z1446.year_, .int .i64 z1446.crop_, DL z1446.region_.rects_]))))) (AL (α := Record) ([z1446] : List Record))) ∧ (_ ∧ _ ∧ True) ∧ True) [(12, ow 92)] [(92, AO (α := Record) (v1444 ++ ([z1446] : List Record)))] ⟨KAt.CC (history_copied_spec hz1447) Tryz.call98 [], ALe.lst (.lit ([z1446] : List Record) (by kernel_rfl)), ⟨hg1448, (Is.refl ([z1446] : List Record) : Is (List.length (α := Record) ([z1446] : List Record)) (LF (α := Record) ([z1446] : List Record)) ([z1446] : List Record)).len, ⟨⟩⟩, ⟨⟩⟩ [(92, .arr 3 ((List.length (α := Record) v1444) + (List.length (α := Record) ([z1446] : List Record))) (appF (List.length (α := Record) v1444) (LF (α := Record) v1444) (LF (α := Record) ([z1446] : List Record))))] ⟨OLe.is (Is.app (Is.refl v1444) (Is.refl ([z1446] : List Record))), ⟨⟩⟩ ?_
        refine AW.seq ?_
        obtain ⟨z1449, hz1450, h⟩ := bS h
        refine AW.G Fm [.s, .k (cE [(0, 92), (100, 94)] [] (ow 100) [(0, AO (α := Record) (v1444 ++ ([z1446] : List Record)))] [(100, AO z1449)]), .s] (fun K => K 1 ∧ True) [(12, ow 94)] [(94, AO z1449)] ⟨KAt.callX (slices_DeleteFunc_Record_spec hz1450) Tryz.call99 [(0, 92), (100, 94)] [] [.tmp 93, .func 100] rfl (by kernel_rfl) (by kernel_rfl) (by kernel_rfl) ⟨.p, ArgT.cloX Tryz.call100 [] (fun args r hq => by obtain ⟨y0, y, hq, rfl, rfl⟩ := hq; exact Eq.mp (by kernel_rfl) (history_Add_3_spec hq)) (fun args r hq => by obtain ⟨y0, y, hq, rfl, rfl⟩ := hq; rfl) (by kernel_rfl) [] (by kernel_rfl) (by kernel_rfl) (True.intro) (by kernel_rfl), ⟨⟩⟩, ⟨⟩⟩ ?_
        refine AW.seq (AW.join (r := r) (fun z : Bool × (List Record) => history_Add_k7 F z.1 z.2) (fun z => [(12, ow 94), (101, vb z.1)]) (fun z => [(94, AO z.2)]) (fun z h => ?_) (fun J1456 hJ1456 => ?_))
        ·obtain ⟨v1454, v1455⟩ := z
         refine AW.cN h (fun hb1457 h => ?_) (fun hb1457 h => ?_)
         ·refine AW.SG0 Fm 2 [(8, .v (.c (.fl 0 fun _ => []))), (9, vi 1)] [] ?_
          refine AW.ret ?_
          obtain rfl := Option.some.inj h
          refine Kn.r Fm [(8, .v (.c (.fl 0 fun _ => []))), (9, vi 1)] [] (by kernel_rfl) ?_
          refine Kn.wk [(8, AL (α := Record) []), (9, vi 1)] [] ⟨rfl, ALe.c (CLe.fl .nil), ⟨rfl, ALe.c (CLe.refl _), ⟨⟩⟩⟩ True.intro ?_
          exact Kn.D Fm
         ·refine AW.skip (AW.seq ?_)
          obtain ⟨z1458, hz1459, h⟩ := bS h
          refine AW.G Fm [.s, .k (cE [(0, 94)] [] (.any) [(0, AO v1455)] [(0, AO z1458)])] (fun K => K 1 ∧ True) [(12, ow 94)] [(94, AO z1458)] ⟨KAt.callX (sortG_Record_spec hz1459) Tryz.call103 [(0, 94)] [] [.tmp 102, .func 104] rfl (by kernel_rfl) (by kernel_rfl) (by kernel_rfl) ⟨.p, ArgT.cloX Tryz.call104 [] (fun args r hq => by obtain ⟨y0, y1, y, hq, rfl, rfl⟩ := hq; exact Eq.mp (by kernel_rfl) (history_compare_spec hq)) (fun args r hq => by obtain ⟨y0, y1, y, hq, rfl, rfl⟩ := hq; rfl) (by kernel_rfl) [] (by kernel_rfl) (by kernel_rfl) (True.intro) (by kernel_rfl), ⟨⟩⟩, ⟨⟩⟩ ?_
          refine AW.SG0 Fm 3 [(8, ow 94), (9, vi 0)] [(94, AO z1458)] ?_
          refine AW.ret ?_
          obtain rfl := Option.some.inj h
          refine Kn.r Fm [(8, ow 94), (9, vi 0)] [(94, AO z1458)] (by kernel_rfl) ?_
          refine Kn.frz [(8, AL z1458), (9, vi 0)] [] (by kernel_rfl) (by kernel_rfl) (by kernel_rfl) ?_
          exact Kn.D Fm
        ·rcases br_or h with ⟨hb1451, h⟩ | ⟨hb1451, h⟩
         ·refine AW.pN Fm [.s, .s, .s, .w (vb true), .s, .s, .s] [(12, ow 94), (101, vb true)] [(94, AO z1449)] (cT (ALe.bool hb1451)) ?_
          exact Kn.R Fm (hJ1456 (true, z1449) h)
         ·obtain ⟨z1452, hz1453, h⟩ := bS h
          refine AW.G Fm [.s, .s, .s, .w (vb false), .s, .k (cE [(0, 94)] [] (vb z1452.2) [(0, AO z1449)] [(0, AO z1452.1)]), .s] (fun K => _ ∧ K 5 ∧ True) [(12, ow 94), (101, vb z1452.2)] [(94, AO z1452.1)] ⟨ALe.bool hb1451, KAt.callX (slices_ContainsFunc_Record_O_spec hz1453) Tryz.call101 [(0, 94)] [] [.tmp 99, .func 102] rfl (by kernel_rfl) (by kernel_rfl) (by kernel_rfl) ⟨.p, ArgT.cloX Tryz.call102 [] (fun args r hq => by obtain ⟨y0, y, hq, rfl, rfl⟩ := hq; exact Eq.mp (by kernel_rfl) (history_Add_4_spec hq)) (fun args r hq => by obtain ⟨y0, y, hq, rfl, rfl⟩ := hq; rfl) (by kernel_rfl) [] (by kernel_rfl) (by kernel_rfl) (True.intro) (by kernel_rfl), ⟨⟩⟩, ⟨⟩⟩ ?_
          exact Kn.R Fm (hJ1456 (z1452.2, z1452.1) h)
       ·refine AW.SG0 Fm 3 [(1, vi x1381), (2, vi x1382), (7, pt 7), (11, pt 11), (12, ow 12), (43, AL x1380), (44, vi (lI x1380)), (45, vi 0)] [(7, bx [.d (DL x1383.rects_)]), (11, bx [ci x1381, ci x1382, .d (DL x1383.rects_)]), (12, AO (α := Record) ([] : List Record))] ?_
        refine AW.block (Kn.r Fm [(1, vi x1381), (2, vi x1382), (7, pt 7), (11, pt 11), (12, ow 12), (43, AL x1380), (44, vi (lI x1380)), (45, vi 0)] [(7, bx [.d (DL x1383.rects_)]), (11, bx [ci x1381, ci x1382, .d (DL x1383.rects_)]), (12, AO ([] : List Record))] (by kernel_rfl) ?_)
        refine AW.loopF (E' := fun z => [(1, vi x1381), (2, vi x1382), (7, pt 7), (11, pt 11), (12, ow 12), (43, AL x1380), (44, vi (lI x1380)), (45, vi z.1)]) (S' := fun z => [(7, bx [.d (DL x1383.rects_)]), (11, bx [ci x1381, ci x1382, .d (DL z.2.1)]), (12, AO z.2.2)]) (fun ag_history_Add_b2 z J1422 hJ1422 h => ?_) h
        obtain ⟨v1419, v1420, v1421⟩ := z
        refine AW.SG0 Fm 1 [(1, vi x1381), (2, vi x1382), (7, pt 7), (11, pt 11), (12, ow 12), (43, AL x1380), (44, vi (lI x1380)), (45, vi v1419), (46, vb (decide (v1419 < (lI x1380))))] [(7, bx [.d (DL x1383.rects_)]), (11, bx [ci x1381, ci x1382, .d (DL v1420)]), (12, AO v1421)] ?_
        refine AW.seq (AW.cN h (fun hb1423 h => ?_) (fun hb1423 h => ?_))
        ·refine AW.skip (AW.join (r := r) (fun z : (List Rect) × (List Record) => history_Add_k5 F v1419 ag_history_Add_b2 z.1 z.2) (fun z => [(1, vi x1381), (2, vi x1382), (7, pt 7), (11, pt 11), (12, ow 12), (43, AL x1380), (44, vi (lI x1380)), (45, vi v1419)]) (fun z => [(7, bx [.d (DL x1383.rects_)]), (11, bx [ci x1381, ci x1382, .d (DL z.1)]), (12, AO z.2)]) (fun z h => ?_) (fun J1441 hJ1441 => ?_))
         ·obtain ⟨v1439, v1440⟩ := z
          obtain ⟨hg1442, h⟩ := gS h
          refine AW.pN Fm [.s, .s] [(1, vi x1381), (2, vi x1382), (7, pt 7), (11, pt 11), (12, ow 12), (43, AL x1380), (44, vi (lI x1380)), (45, vi (v1419 + 1))] [(7, bx [.d (DL x1383.rects_)]), (11, bx [ci x1381, ci x1382, .d (DL v1439)]), (12, AO v1440)] (cT (cT hg1442)) ?_
          exact Kn.R Fm (hJ1422 ((v1419 + 1), v1439, v1440) h)
         ·refine AW.block ?_
          obtain ⟨hg1424, h⟩ := gS h
          refine AW.SP Fm [.s, .s, .s, .s] [(1, vi x1381), (2, vi x1382), (7, pt 7), (11, pt 11), (12, ow 12), (14, pt 14), (43, AL x1380), (44, vi (lI x1380)), (45, vi v1419)] [(7, bx [.d (DL x1383.rects_)]), (11, bx [ci x1381, ci x1382, .d (DL v1420)]), (12, AO v1421), (14, bx [ci ((gl x1380 v1419.toNat).year_), ci ((gl x1380 v1419.toNat).crop_), .d (DL (α := Rect) (gl x1380 v1419.toNat).region_.rects_)])] (cT hg1424) ?_
          refine AW.SG0 Fm 4 [(1, vi x1381), (2, vi x1382), (7, pt 7), (11, pt 11), (12, ow 12), (14, pt 14), (15, AL (α := Rect) (gl x1380 v1419.toNat).region_.rects_), (43, AL x1380), (44, vi (lI x1380)), (45, vi v1419)] [(7, bx [.d (DL x1383.rects_)]), (11, bx [ci x1381, ci x1382, .d (DL v1420)]), (12, AO v1421), (14, bx [ci ((gl x1380 v1419.toNat).year_), ci ((gl x1380 v1419.toNat).crop_), .d (DL (α := Rect) (gl x1380 v1419.toNat).region_.rects_)])] ?_
          refine AW.join (r := r) (fun z : (List Rect) => history_Add_k4 F x1380 v1419 v1420 v1421 ag_history_Add_b2 z) (fun z => [(1, vi x1381), (2, vi x1382), (7, pt 7), (11, pt 11), (12, ow 12), (14, pt 14), (15, AL z), (43, AL x1380), (44, vi (lI x1380)), (45, vi v1419)]) (fun z => [(7, bx [.d (DL x1383.rects_)]), (11, bx [ci x1381, ci x1382, .d (DL v1420)]), (12, AO v1421), (14, bx [ci ((gl x1380 v1419.toNat).year_), ci ((gl x1380 v1419.toNat).crop_), .d (DL (α := Rect) (gl x1380 v1419.toNat).region_.rects_)])]) (fun v1434 h => ?_) (fun J1435 hJ1435 => ?_)
          ·obtain ⟨z1436, hz1437, h⟩ := bS h
           obtain ⟨hg1438, h⟩ := gS h
           refine AW.GW Fm [.s, .s, .s, .k (cE [] [] (gE z1436) [] []), .w (AL (α := Record) ([z1436] : List Record)), .s, .s] (fun K => K 3 ∧ (ALe (.v (.c (.d (.lst 1 (litF 3 [.int .i64 z1436.year_, .int .i64 z1436.crop_, DL z1436.region_.rects_]))))) (AL (α := Record) ([z1436] : List Record))) ∧ (_ ∧ _ ∧ True) ∧ True) [(1, vi x1381), (2, vi x1382), (7, pt 7), (11, pt 11), (12, ow 83), (43, AL x1380), (44, vi (lI x1380)), (45, vi v1419)] [(7, bx [.d (DL x1383.rects_)]), (11, bx [ci x1381, ci x1382, .d (DL v1420)]), (83, AO (α := Record) (v1421 ++ ([z1436] : List Record)))] ⟨KAt.CC (history_copied_spec hz1437) Tryz.call98 [], ALe.lst (.lit ([z1436] : List Record) (by kernel_rfl)), ⟨hg1438, (Is.refl ([z1436] : List Record) : Is (List.length (α := Record) ([z1436] : List Record)) (LF (α := Record) ([z1436] : List Record)) ([z1436] : List Record)).len, ⟨⟩⟩, ⟨⟩⟩ [(83, .arr 3 ((List.length (α := Record) v1421) + (List.length (α := Record) ([z1436] : List Record))) (appF (List.length (α := Record) v1421) (LF (α := Record) v1421) (LF (α := Record) ([z1436] : List Record))))] ⟨OLe.is (Is.app (Is.refl v1421) (Is.refl ([z1436] : List Record))), ⟨⟩⟩ ?_
           exact Kn.RE Fm [(12, 83)] (hJ1441 (v1420, (v1421 ++ ([z1436] : List Record))) h)
          ·refine AW.block (AW.join (r := r) (fun z : Bool => history_Add_k3 F x1380 x1381 x1383 v1419 v1420 v1421 ag_history_Add_b2 z) (fun z => [(1, vi x1381), (2, vi x1382), (7, pt 7), (11, pt 11), (12, ow 12), (14, pt 14), (15, AL (α := Rect) (gl x1380 v1419.toNat).region_.rects_), (43, AL x1380), (44, vi (lI x1380)), (45, vi v1419), (52, vb z)]) (fun z => [(7, bx [.d (DL x1383.rects_)]), (11, bx [ci x1381, ci x1382, .d (DL v1420)]), (12, AO v1421), (14, bx [ci ((gl x1380 v1419.toNat).year_), ci ((gl x1380 v1419.toNat).crop_), .d (DL (α := Rect) (gl x1380 v1419.toNat).region_.rects_)])]) (fun v1426 h => ?_) (fun J1427 hJ1427 => ?_))
           ·refine AW.cN h (fun hb1428 h => ?_) (fun hb1428 h => ?_)
            ·refine AW.seq ?_
             obtain ⟨z1429, hz1430, h⟩ := bS h
             refine AW.G Fm [.s, .s, .s, .k (cE [] [] (AL z1429) [] []), .s, .s, .s] (fun K => K 3 ∧ True) [(1, vi x1381), (2, vi x1382), (7, pt 7), (11, pt 11), (12, ow 12), (43, AL x1380), (44, vi (lI x1380)), (45, vi v1419)] [(7, bx [.d (DL x1383.rects_)]), (11, bx [ci x1381, ci x1382, .d (DL z1429)]), (12, AO v1421)] ⟨KAt.callX (region_Choose_spec hz1430) Tryz.call95 [] [] [.tmp 63, .tmp 65, .func 96] rfl (by kernel_rfl) (by kernel_rfl) (by kernel_rfl) ⟨.p, .p, ArgT.cloX Tryz.call96 [] (fun args r hq => by obtain ⟨y0, y1, y, hq, rfl, rfl⟩ := hq; exact Eq.mp (by kernel_rfl) (history_Add_1_spec hq)) (fun args r hq => by obtain ⟨y0, y1, y, hq, rfl, rfl⟩ := hq; rfl) (by kernel_rfl) [] (by kernel_rfl) (by kernel_rfl) (True.intro) (by kernel_rfl), ⟨⟩⟩, ⟨⟩⟩ ?_
             exact AW.exit (Kn.R Fm (hJ1441 (z1429, v1421) h))
            ·refine AW.SG0 Fm 5 [(1, vi x1381), (2, vi x1382), (7, pt 7), (11, pt 11), (12, ow 12), (14, pt 14), (15, AL (α := Rect) (gl x1380 v1419.toNat).region_.rects_), (43, AL x1380), (44, vi (lI x1380)), (45, vi v1419), (69, vb (((gl x1380 v1419.toNat).year_) == x1381))] [(7, bx [.d (DL x1383.rects_)]), (11, bx [ci x1381, ci x1382, .d (DL v1420)]), (12, AO v1421), (14, bx [ci ((gl x1380 v1419.toNat).year_), ci ((gl x1380 v1419.toNat).crop_), .d (DL (α := Rect) (gl x1380 v1419.toNat).region_.rects_)])] ?_
             refine AW.cN h (fun hb1431 h => ?_) (fun hb1431 h => ?_)
             ·obtain ⟨z1432, hz1433, h⟩ := bS h
              refine AW.G Fm [.s, .s, .s, .k (cE [] [] (AL z1432) [] []), .s] (fun K => K 3 ∧ True) [(1, vi x1381), (2, vi x1382), (7, pt 7), (11, pt 11), (12, ow 12), (14, pt 14), (15, AL z1432), (43, AL x1380), (44, vi (lI x1380)), (45, vi v1419)] [(7, bx [.d (DL x1383.rects_)]), (11, bx [ci x1381, ci x1382, .d (DL v1420)]), (12, AO v1421), (14, bx [ci ((gl x1380 v1419.toNat).year_), ci ((gl x1380 v1419.toNat).crop_), .d (DL (α := Rect) (gl x1380 v1419.toNat).region_.rects_)])] ⟨KAt.callX (region_Choose_spec hz1433) Tryz.call95 [] [] [.tmp 74, .tmp 76, .func 97] rfl (by kernel_rfl) (by kernel_rfl) (by kernel_rfl) ⟨.p, .p, ArgT.cloX Tryz.call97 [] (fun args r hq => by obtain ⟨y0, y1, y, hq, rfl, rfl⟩ := hq; exact Eq.mp (by kernel_rfl) (history_Add_2_spec hq)) (fun args r hq => by obtain ⟨y0, y1, y, hq, rfl, rfl⟩ := hq; rfl) (by kernel_rfl) [] (by kernel_rfl) (by kernel_rfl) (True.intro) (by kernel_rfl), ⟨⟩⟩, ⟨⟩⟩ ?_
              exact Kn.R Fm (hJ1435 z1432 h)
             ·exact AW.skip (Kn.R Fm (hJ1435 ((gl x1380 v1419.toNat).region_.rects_) h))
           ·rcases br_or h with ⟨hb1425, h⟩ | ⟨hb1425, h⟩
            ·refine AW.pN Fm [.s, .s, .s, .s, .w (vb true), .s, .s, .s, .s, .s, .s] [(1, vi x1381), (2, vi x1382), (7, pt 7), (11, pt 11), (12, ow 12), (14, pt 14), (15, AL (α := Rect) (gl x1380 v1419.toNat).region_.rects_), (43, AL x1380), (44, vi (lI x1380)), (45, vi v1419), (52, vb (((gl x1380 v1419.toNat).crop_) == x1382)), (58, .v (.c (.ptr 14 1))), (59, vi (gl x1380 v1419.toNat).crop_), (60, vi x1382), (61, vb (((gl x1380 v1419.toNat).crop_) == x1382))] [(7, bx [.d (DL x1383.rects_)]), (11, bx [ci x1381, ci x1382, .d (DL v1420)]), (12, AO v1421), (14, bx [ci ((gl x1380 v1419.toNat).year_), ci ((gl x1380 v1419.toNat).crop_), .d (DL (α := Rect) (gl x1380 v1419.toNat).region_.rects_)])] (cT (ALe.bool hb1425)) ?_
             exact Kn.R Fm (hJ1427 (((gl x1380 v1419.toNat).crop_) == x1382) h)
            ·refine AW.pN Fm [.s, .s, .s, .s, .w (vb false), .s, .s, .s, .s, .s, .s] [(1, vi x1381), (2, vi x1382), (7, pt 7), (11, pt 11), (12, ow 12), (14, pt 14), (15, AL (α := Rect) (gl x1380 v1419.toNat).region_.rects_), (43, AL x1380), (44, vi (lI x1380)), (45, vi v1419), (52, vb false)] [(7, bx [.d (DL x1383.rects_)]), (11, bx [ci x1381, ci x1382, .d (DL v1420)]), (12, AO v1421), (14, bx [ci ((gl x1380 v1419.toNat).year_), ci ((gl x1380 v1419.toNat).crop_), .d (DL (α := Rect) (gl x1380 v1419.toNat).region_.rects_)])] (cT (ALe.bool hb1425)) ?_
             exact Kn.R Fm (hJ1427 false h)
        ·exact AW.exit (Kn.R Fm (hJ1445 (v1420, v1421) h))
    ·rcases br_or h with ⟨hb1391, h⟩ | ⟨hb1391, h⟩
     ·refine AW.pN Fm [.s, .s, .w (vb true), .s, .s, .s, .s] [(0, AL x1380), (1, vi x1381), (2, vi x1382), (7, pt 7), (28, vb true)] [(7, bx [.d (DL x1383.rects_)])] (cT (ALe.bool hb1391)) ?_
      exact Kn.R Fm (hJ1393 true h)
     ·refine AW.pN Fm [.s, .s, .w (vb false), .s, .s, .s, .s] [(0, AL x1380), (1, vi x1381), (2, vi x1382), (7, pt 7), (28, vb (decide ((40 : Int) ≤ x1382)))] [(7, bx [.d (DL x1383.rects_)])] (cT (ALe.bool hb1391)) ?_
      exact Kn.R Fm (hJ1393 (decide ((40 : Int) ≤ x1382)) h)
  ·rcases br_or h with ⟨hb1387, h⟩ | ⟨hb1387, h⟩
   ·refine AW.pN Fm [.s, .s, .w (vb true), .s, .s, .s, .s] [(0, AL x1380), (1, vi x1381), (2, vi x1382), (7, pt 7), (21, vb true)] [(7, bx [.d (DL x1383.rects_)])] (cT (ALe.bool hb1387)) ?_
    exact Kn.R Fm (hJ1389 true h)
   ·refine AW.pN Fm [.s, .s, .w (vb false), .s, .s, .s, .s] [(0, AL x1380), (1, vi x1381), (2, vi x1382), (7, pt 7), (21, vb (decide ((100 : Int) < x1381)))] [(7, bx [.d (DL x1383.rects_)])] (cT (ALe.bool hb1387)) ?_
    exact Kn.R Fm (hJ1389 (decide ((100 : Int) < x1381)) h)
theorem ref04_Rects_spec {F : Nat} {x1460 : (List Rect)} {x1461 : (List Rect)} {r : Bool} (h : ref04_Rects F x1460 x1461 = some r) :
  FSpec Tryz.prog 120 [AL x1460, AL x1461] [] (vb r) [] := by
 refine FI Tryz.func120 prog_mixed prog_lay fun C Fm => ?_
 unfold ref04_Rects at h
 refine AW.SG0 Fm 1 [(0, AL x1460), (1, AL x1461)] [] ?_
 refine AW.seq (AW.SG0 Fm 5 [(0, AL x1460), (1, AL x1461), (10, vb ((lI x1460) != (lI x1461)))] [] ?_)
 refine AW.cN h (fun hb1462 h => ?_) (fun hb1462 h => ?_)
 ·refine AW.SG0 Fm 1 [(4, vb false)] [] ?_
  refine AW.ret ?_
  obtain rfl := Option.some.inj h
  exact Kn.D Fm
 ·refine AW.skip (AW.join (r := r) (fun z : Unit => ref04_Rects_k1 F) (fun z => []) (fun z => []) (fun z h => ?_) (fun J1476 hJ1476 => ?_))
  ·refine AW.SG0 Fm 1 [(4, vb true)] [] ?_
   refine AW.ret ?_
   obtain rfl := Option.some.inj h
   exact Kn.D Fm
  ·refine AW.SG0 Fm 3 [(0, AL x1460), (1, AL x1461), (12, vi (lI x1460)), (13, vi 0)] [] ?_
   refine AW.block (AW.loopF (E' := fun z => [(0, AL x1460), (1, AL x1461), (12, vi (lI x1460)), (13, vi z)]) (S' := fun z => []) (fun ag_ref04_Rects_b0 v1469 J1470 hJ1470 h => ?_) h)
   refine AW.SG0 Fm 1 [(0, AL x1460), (1, AL x1461), (12, vi (lI x1460)), (13, vi v1469), (14, vb (decide (v1469 < (lI x1460))))] [] ?_
   refine AW.seq (AW.cN h (fun hb1471 h => ?_) (fun hb1471 h => ?_))
   ·refine AW.skip (AW.seq (AW.block (AW.SG0 Fm 2 [(0, AL x1460), (1, AL x1461), (5, vi v1469), (12, vi (lI x1460)), (13, vi v1469)] [] ?_)))
    obtain ⟨hg1472, hg1473, h⟩ := gS2 h
    refine AW.SG Fm [.s, .s, .s, .s, .s, .s, .s, .s, .k (sE (vb (!((((gl x1460 v1469.toNat).left_) == ((gl x1461 v1469.toNat).left_)) && ((((gl x1460 v1469.toNat).low_) == ((gl x1461 v1469.toNat).low_)) && ((((gl x1460 v1469.toNat).right_) == ((gl x1461 v1469.toNat).right_)) && ((((gl x1460 v1469.toNat).high_) == ((gl x1461 v1469.toNat).high_)) && true)))))))] (fun K => _ ∧ _ ∧ K 8 ∧ True) [(0, AL x1460), (1, AL x1461), (12, vi (lI x1460)), (13, vi v1469), (24, vb (!((((gl x1460 v1469.toNat).left_) == ((gl x1461 v1469.toNat).left_)) && ((((gl x1460 v1469.toNat).low_) == ((gl x1461 v1469.toNat).low_)) && ((((gl x1460 v1469.toNat).right_) == ((gl x1461 v1469.toNat).right_)) && ((((gl x1460 v1469.toNat).high_) == ((gl x1461 v1469.toNat).high_)) && true))))))] [] ⟨hg1472, hg1473, KAt.eq (xs := [ci ((gl x1460 v1469.toNat).left_), ci ((gl x1460 v1469.toNat).low_), ci ((gl x1460 v1469.toNat).right_), ci ((gl x1460 v1469.toNat).high_)]) (ys := [ci ((gl x1461 v1469.toNat).left_), ci ((gl x1461 v1469.toNat).low_), ci ((gl x1461 v1469.toNat).right_), ci ((gl x1461 v1469.toNat).high_)]) eqT103 false (b := ((((gl x1460 v1469.toNat).left_) == ((gl x1461 v1469.toNat).left_)) && ((((gl x1460 v1469.toNat).low_) == ((gl x1461 v1469.toNat).low_)) && ((((gl x1460 v1469.toNat).right_) == ((gl x1461 v1469.toNat).right_)) && ((((gl x1460 v1469.toNat).high_) == ((gl x1461 v1469.toNat).high_)) && true))))) rfl rfl (by kernel_rfl) (by kernel_rfl) (by kernel_rfl) (by kernel_rfl), ⟨⟩⟩ ?_
    refine AW.cN h (fun hb1474 h => ?_) (fun hb1474 h => ?_)
    ·refine AW.SG0 Fm 1 [(4, vb false)] [] ?_
     refine AW.ret ?_
     obtain rfl := Option.some.inj h
     exact Kn.D Fm
    ·refine AW.skip ?_
     obtain ⟨hg1475, h⟩ := gS h
     refine AW.pN Fm [.s, .s] [(0, AL x1460), (1, AL x1461), (12, vi (lI x1460)), (13, vi (v1469 + 1))] [] (cT (cT hg1475)) ?_
     exact Kn.R Fm (hJ1470 (v1469 + 1) h)
   ·exact AW.exit (Kn.R Fm (hJ1476 () h))
theorem ref04_Valid_spec {F : Nat} {x1477 : Region} {r : Bool} (h : ref04_Valid F x1477 = some r) :
  FSpec Tryz.prog 109 [.v (.g [.d (DL x1477.rects_)])] [] (vb r) [] := by
 refine FI Tryz.func109 prog_mixed prog_lay fun C Fm => ?_
 unfold ref04_Valid at h
 refine AW.SG0 Fm 2 [(1, pt 1)] [(1, bx [.d (DL x1477.rects_)])] ?_
 refine AW.seq (AW.SG0 Fm 4 [(1, pt 1), (8, vb (decide ((120 : Int) < (lI x1477.rects_))))] [(1, bx [.d (DL x1477.rects_)])] ?_)
 refine AW.cN h (fun hb1478 h => ?_) (fun hb1478 h => ?_)
 ·refine AW.SG0 Fm 1 [(2, vb false)] [] ?_
  refine AW.ret ?_
  obtain rfl := Option.some.inj h
  exact Kn.D Fm
 ·refine AW.skip (AW.join (r := r) (fun z : Unit => ref04_Valid_k1 F x1477) (fun z => [(1, pt 1)]) (fun z => [(1, bx [.d (DL x1477.rects_)])]) (fun z h => ?_) (fun J1494 hJ1494 => ?_))
  ·refine AW.seq ?_
   obtain ⟨z1495, hz1496, h⟩ := bS h
   obtain ⟨z1497, hz1498, h⟩ := bS h
   refine AW.G Fm [.s, .s, .k (cE [] [] (AL z1495) [] []), .s, .s, .k (cE [] [] (vb z1497) [] []), .s] (fun K => K 2 ∧ K 5 ∧ True) [(2, vb z1497)] [] ⟨KAt.callX (ref04_Combine_spec hz1496) Tryz.call112 [] [] [.tmp 21, .const (.slice none 0 0), .const (.int .i64 1)] rfl (by kernel_rfl) (by kernel_rfl) (by kernel_rfl) ⟨.p, ArgT.plain (by kernel_rfl) (ALe.c (CLe.fl .nil)) (by kernel_rfl), .p, ⟨⟩⟩, KAt.CC (ref04_Rects_spec hz1498) Tryz.call120 [], ⟨⟩⟩ ?_
   refine AW.ret ?_
   obtain rfl := Option.some.inj h
   exact Kn.D Fm
  ·refine AW.SG0 Fm 4 [(1, pt 1), (10, AL x1477.rects_), (11, vi (lI x1477.rects_)), (12, vi 0)] [(1, bx [.d (DL x1477.rects_)])] ?_
   refine AW.block (AW.loopF (E' := fun z => [(1, pt 1), (10, AL x1477.rects_), (11, vi (lI x1477.rects_)), (12, vi z)]) (S' := fun z => [(1, bx [.d (DL x1477.rects_)])]) (fun ag_ref04_Valid_b0 v1486 J1487 hJ1487 h => ?_) h)
   refine AW.SG0 Fm 1 [(1, pt 1), (10, AL x1477.rects_), (11, vi (lI x1477.rects_)), (12, vi v1486), (13, vb (decide (v1486 < (lI x1477.rects_))))] [(1, bx [.d (DL x1477.rects_)])] ?_
   refine AW.seq (AW.cN h (fun hb1488 h => ?_) (fun hb1488 h => ?_))
   ·refine AW.skip (AW.seq (AW.block ?_))
    obtain ⟨hg1489, h⟩ := gS h
    refine AW.SP Fm [.s, .s, .s, .s] [(1, pt 1), (4, pt 4), (10, AL x1477.rects_), (11, vi (lI x1477.rects_)), (12, vi v1486)] [(1, bx [.d (DL x1477.rects_)]), (4, bx [ci ((gl x1477.rects_ v1486.toNat).left_), ci ((gl x1477.rects_ v1486.toNat).low_), ci ((gl x1477.rects_ v1486.toNat).right_), ci ((gl x1477.rects_ v1486.toNat).high_)])] (cT hg1489) ?_
    refine AW.seq ?_
    obtain ⟨z1490, hz1491, h⟩ := bS h
    refine AW.G Fm [.s, .k (cE [] [] (vb z1490) [] []), .s] (fun K => K 1 ∧ True) [(1, pt 1), (10, AL x1477.rects_), (11, vi (lI x1477.rects_)), (12, vi v1486), (18, vb (!z1490))] [(1, bx [.d (DL x1477.rects_)])] ⟨KAt.CC (ref04_proper_spec hz1491) Tryz.call181 [], ⟨⟩⟩ ?_
    refine AW.cN h (fun hb1492 h => ?_) (fun hb1492 h => ?_)
    ·refine AW.SG0 Fm 1 [(2, vb false)] [] ?_
     refine AW.ret ?_
     obtain rfl := Option.some.inj h
     exact Kn.D Fm
    ·refine AW.skip ?_
     obtain ⟨hg1493, h⟩ := gS h
     refine AW.pN Fm [.s, .s] [(1, pt 1), (10, AL x1477.rects_), (11, vi (lI x1477.rects_)), (12, vi (v1486 + 1))] [(1, bx [.d (DL x1477.rects_)])] (cT (cT hg1493)) ?_
     exact Kn.R Fm (hJ1487 (v1486 + 1) h)
   ·exact AW.exit (Kn.R Fm (hJ1494 () h))
theorem ref04_Has_spec {F : Nat} {x1499 : Region} {x1500 : Int} {x1501 : Int} {r : Bool} (h : ref04_Has F x1499 x1500 x1501 = some r) :
  FSpec Tryz.prog 19 [.v (.g [.d (DL x1499.rects_)]), vi x1500, vi x1501] [] (vb r) [] := by
 refine FI Tryz.func19 prog_mixed prog_lay fun C Fm => ?_
 unfold ref04_Has at h
 refine AW.SG0 Fm 2 [(1, vi x1500), (2, vi x1501), (3, pt 3)] [(3, bx [.d (DL x1499.rects_)])] ?_
 refine AW.join (r := r) (fun z : Bool => ref04_Has_k0 F z) (fun z => [(6, vb z)]) (fun z => []) (fun v1507 h => ?_) (fun J1508 hJ1508 => ?_)
 ·refine AW.ret ?_
  obtain rfl := Option.some.inj h
  exact Kn.D Fm
 ·obtain ⟨z1502, hz1503, h⟩ := bS h
  rcases br_or h with ⟨hb1504, h⟩ | ⟨hb1504, h⟩
  ·obtain ⟨z1505, hz1506, h⟩ := bS h
   refine AW.G Fm [.s, .k (cE [] [] (vb z1502) [] []), .w (vb true), .s, .s, .s, .s, .k (cE [] [] (vb z1505) [] []), .s, .s] (fun K => K 1 ∧ _ ∧ K 7 ∧ True) [(6, vb z1505)] [] ⟨KAt.CC (ref04_Valid_spec hz1503) Tryz.call109 [], ALe.bool hb1504, KAt.CC (ref04_inside_spec hz1506) Tryz.call110 [], ⟨⟩⟩ ?_
   exact Kn.R Fm (hJ1508 z1505 h)
  ·refine AW.G Fm [.s, .k (cE [] [] (vb z1502) [] []), .w (vb false), .s, .s, .s, .s, .s, .s, .s] (fun K => K 1 ∧ _ ∧ True) [(6, vb false)] [] ⟨KAt.CC (ref04_Valid_spec hz1503) Tryz.call109 [], ALe.bool hb1504, ⟨⟩⟩ ?_
   exact Kn.R Fm (hJ1508 false h)
theorem region_Has_1_spec {F : Nat} {x1509 : Rect} {x1510 : Int} {x1511 : Int} {r : Bool} (h : region_Has_1 F x1509 x1510 x1511 = some r) :
  FSpec Tryz.prog 201 [gE x1509, pt 0, pt 1] [(0, .box true [ci x1510]), (1, .box true [ci x1511])] (vb r) [(0, .box true [ci x1510]), (1, .box true [ci x1511])] := by
 refine FI Tryz.func201 prog_mixed prog_lay fun C Fm => ?_
 unfold region_Has_1 at h
 refine AW.SG0 Fm 2 [(1, pt 0), (2, pt 1), (3, pt 3)] [(0, .box true [ci x1510]), (1, .box true [ci x1511]), (3, bx (gC x1509))] ?_
 refine AW.join (r := r) (fun z : Bool => region_Has_1_k0 F z) (fun z => [(4, vb z)]) (fun z => [(0, .box true [ci x1510]), (1, .box true [ci x1511])]) (fun v1515 h => ?_) (fun J1516 hJ1516 => ?_)
 ·refine AW.ret ?_
  obtain rfl := Option.some.inj h
  exact Kn.D Fm
 ·rcases br_or h with ⟨hb1512, h⟩ | ⟨hb1512, h⟩
  ·rcases br_or h with ⟨hb1513, h⟩ | ⟨hb1513, h⟩
   ·rcases br_or h with ⟨hb1514, h⟩ | ⟨hb1514, h⟩
    ·refine AW.pN Fm [.s, .s, .s, .s, .w (vb true), .s, .s, .s, .s, .s, .w (vb true), .s, .s, .s, .s, .s, .w (vb true), .s, .s, .s, .s, .s, .s] [(4, vb (decide (x1511 < x1509.high_)))] [(0, .box true [ci x1510]), (1, .box true [ci x1511])] (cA (ALe.bool hb1512) (cA (ALe.bool hb1513) (cT (ALe.bool hb1514)))) ?_
     exact Kn.R Fm (hJ1516 (decide (x1511 < x1509.high_)) h)
    ·refine AW.pN Fm [.s, .s, .s, .s, .w (vb true), .s, .s, .s, .s, .s, .w (vb true), .s, .s, .s, .s, .s, .w (vb false), .s, .s, .s, .s, .s, .s] [(4, vb false)] [(0, .box true [ci x1510]), (1, .box true [ci x1511])] (cA (ALe.bool hb1512) (cA (ALe.bool hb1513) (cT (ALe.bool hb1514)))) ?_
     exact Kn.R Fm (hJ1516 false h)
   ·refine AW.pN Fm [.s, .s, .s, .s, .w (vb true), .s, .s, .s, .s, .s, .w (vb false), .s, .s, .s, .s, .s, .s, .s, .s, .s, .s, .s, .s] [(4, vb false)] [(0, .box true [ci x1510]), (1, .box true [ci x1511])] (cA (ALe.bool hb1512) (cT (ALe.bool hb1513))) ?_
    exact Kn.R Fm (hJ1516 false h)
  ·refine AW.pN Fm [.s, .s, .s, .s, .w (vb false), .s, .s, .s, .s, .s, .s, .s, .s, .s, .s, .s, .s, .s, .s, .s, .s, .s, .s] [(4, vb false)] [(0, .box true [ci x1510]), (1, .box true [ci x1511])] (cT (ALe.bool hb1512)) ?_
   exact Kn.R Fm (hJ1516 false h)
theorem region_Has_spec {F : Nat} {x1517 : Region} {x1518 : Int} {x1519 : Int} {r : Bool} (h : region_Has F x1517 x1518 x1519 = some r) :
  FSpec Tryz.prog 111 [.v (.g [.d (DL x1517.rects_)]), vi x1518, vi x1519] [] (vb r) [] := by
 refine FI Tryz.func111 prog_mixed prog_lay fun C Fm => ?_
 unfold region_Has at h
 refine AW.SG0 Fm 4 [(3, pt 3), (4, pt 4), (5, pt 5)] [(3, bx [.d (DL x1517.rects_)]), (4, bx [ci x1518]), (5, bx [ci x1519])] ?_
 refine AW.join (r := r) (fun z : Bool => region_Has_k0 F z) (fun z => [(6, vb z)]) (fun z => []) (fun v1525 h => ?_) (fun J1526 hJ1526 => ?_)
 ·refine AW.ret ?_
  obtain rfl := Option.some.inj h
  exact Kn.D Fm
 ·obtain ⟨z1520, hz1521, h⟩ := bS h
  rcases br_or h with ⟨hb1522, h⟩ | ⟨hb1522, h⟩
  ·obtain ⟨z1523, hz1524, h⟩ := bS h
   refine AW.G Fm [.s, .k (cE [] [] (vb z1520) [] []), .w (vb true), .s, .s, .s, .k (cE [] [4, 5] (vb z1523) [] []), .s, .s] (fun K => K 1 ∧ _ ∧ K 6 ∧ True) [(6, vb z1523)] [] ⟨KAt.CC (region_Valid_spec hz1521) Tryz.call94 [], ALe.bool hb1522, KAt.callX (slices_ContainsFunc_Rect_spec hz1524) Tryz.call182 [] [4, 5] [.tmp 11, .tmp 12] rfl (by kernel_rfl) (by kernel_rfl) (by kernel_rfl) ⟨.p, ArgT.cloX Tryz.call201 [[ci x1518], [ci x1519]] (fun args r hq => by obtain ⟨y0, y, hq, rfl, rfl⟩ := hq; exact Eq.mp (by kernel_rfl) (region_Has_1_spec hq)) (fun args r hq => by obtain ⟨y0, y, hq, rfl, rfl⟩ := hq; rfl) (by kernel_rfl) [4, 5] (by kernel_rfl) (by kernel_rfl) (⟨⟨false, (by kernel_rfl)⟩, ⟨⟨false, (by kernel_rfl)⟩, ⟨⟩⟩⟩) (by kernel_rfl), ⟨⟩⟩, ⟨⟩⟩ ?_
   exact Kn.R Fm (hJ1526 z1523 h)
  ·refine AW.G Fm [.s, .k (cE [] [] (vb z1520) [] []), .w (vb false), .s, .s, .s, .s, .s, .s] (fun K => K 1 ∧ _ ∧ True) [(6, vb false)] [] ⟨KAt.CC (region_Valid_spec hz1521) Tryz.call94 [], ALe.bool hb1522, ⟨⟩⟩ ?_
   exact Kn.R Fm (hJ1526 false h)
theorem history_At_spec {F : Nat} {x1527 : (List Record)} {x1528 : Int} {x1529 : Int} {x1530 : Int} {r : Int} (h : history_At F x1527 x1528 x1529 x1530 = some r) :
  FSpec Tryz.prog 20 [AL x1527, vi x1528, vi x1529, vi x1530] [] (vi r) [] := by
 refine FI Tryz.func20 prog_mixed prog_lay fun C Fm => ?_
 unfold history_At at h
 refine AW.SG0 Fm 1 [(0, AL x1527), (1, vi x1528), (2, vi x1529), (3, vi x1530)] [] ?_
 refine AW.seq (AW.seq ?_)
 obtain ⟨z1531, hz1532, h⟩ := bS h
 refine AW.G Fm [.s, .k (cE [] [] (vi z1531) [] []), .s] (fun K => K 1 ∧ True) [(0, AL x1527), (1, vi x1528), (2, vi x1529), (3, vi x1530), (13, vb (z1531 != (0 : Int)))] [] ⟨KAt.CC (history_Check_spec hz1532) Tryz.call18 [], ⟨⟩⟩ ?_
 refine AW.cN h (fun hb1533 h => ?_) (fun hb1533 h => ?_)
 ·refine AW.SG0 Fm 1 [(8, vi (-1 : Int))] [] ?_
  refine AW.ret ?_
  obtain rfl := Option.some.inj h
  exact Kn.D Fm
 ·refine AW.skip (AW.join (r := r) (fun z : Unit => history_At_k2 F) (fun z => []) (fun z => []) (fun z h => ?_) (fun J1555 hJ1555 => ?_))
  ·refine AW.SG0 Fm 1 [(8, vi (-1 : Int))] [] ?_
   refine AW.ret ?_
   obtain rfl := Option.some.inj h
   exact Kn.D Fm
  ·refine AW.SG0 Fm 3 [(1, vi x1528), (2, vi x1529), (3, vi x1530), (14, AL x1527), (15, vi (lI x1527)), (16, vi 0)] [] ?_
   refine AW.block (AW.loopF (E' := fun z => [(1, vi x1528), (2, vi x1529), (3, vi x1530), (14, AL x1527), (15, vi (lI x1527)), (16, vi z)]) (S' := fun z => []) (fun ag_history_At_b0 v1544 J1545 hJ1545 h => ?_) h)
   refine AW.SG0 Fm 1 [(1, vi x1528), (2, vi x1529), (3, vi x1530), (14, AL x1527), (15, vi (lI x1527)), (16, vi v1544), (17, vb (decide (v1544 < (lI x1527))))] [] ?_
   refine AW.seq (AW.cN h (fun hb1546 h => ?_) (fun hb1546 h => ?_))
   ·refine AW.skip (AW.seq (AW.block ?_))
    obtain ⟨hg1547, h⟩ := gS h
    refine AW.SP Fm [.s, .s, .s, .s] [(1, vi x1528), (2, vi x1529), (3, vi x1530), (10, pt 10), (14, AL x1527), (15, vi (lI x1527)), (16, vi v1544)] [(10, bx [ci ((gl x1527 v1544.toNat).year_), ci ((gl x1527 v1544.toNat).crop_), .d (DL (α := Rect) (gl x1527 v1544.toNat).region_.rects_)])] (cT hg1547) ?_
    refine AW.join (r := r) (fun z : Bool => history_At_k1 F x1527 v1544 ag_history_At_b0 z) (fun z => [(1, vi x1528), (2, vi x1529), (3, vi x1530), (10, pt 10), (14, AL x1527), (15, vi (lI x1527)), (16, vi v1544), (30, vb z)]) (fun z => [(10, bx [ci ((gl x1527 v1544.toNat).year_), ci ((gl x1527 v1544.toNat).crop_), .d (DL (α := Rect) (gl x1527 v1544.toNat).region_.rects_)])]) (fun v1551 h => ?_) (fun J1552 hJ1552 => ?_)
    ·refine AW.cN h (fun hb1553 h => ?_) (fun hb1553 h => ?_)
     ·refine AW.SG0 Fm 3 [(8, vi (gl x1527 v1544.toNat).crop_)] [] ?_
      refine AW.ret ?_
      obtain rfl := Option.some.inj h
      exact Kn.D Fm
     ·refine AW.skip ?_
      obtain ⟨hg1554, h⟩ := gS h
      refine AW.pN Fm [.s, .s] [(1, vi x1528), (2, vi x1529), (3, vi x1530), (14, AL x1527), (15, vi (lI x1527)), (16, vi (v1544 + 1))] [] (cT (cT hg1554)) ?_
      exact Kn.R Fm (hJ1545 (v1544 + 1) h)
    ·rcases br_or h with ⟨hb1548, h⟩ | ⟨hb1548, h⟩
     ·obtain ⟨z1549, hz1550, h⟩ := bS h
      refine AW.G Fm [.s, .s, .s, .s, .w (vb true), .s, .s, .s, .s, .k (cE [] [] (vb z1549) [] []), .s] (fun K => _ ∧ K 9 ∧ True) [(1, vi x1528), (2, vi x1529), (3, vi x1530), (10, pt 10), (14, AL x1527), (15, vi (lI x1527)), (16, vi v1544), (25, .v (.c (.ptr 10 2))), (26, .v (.g [.d (DL (α := Rect) (gl x1527 v1544.toNat).region_.rects_)])), (27, vi x1529), (28, vi x1530), (29, vb z1549), (30, vb z1549)] [(10, bx [ci ((gl x1527 v1544.toNat).year_), ci ((gl x1527 v1544.toNat).crop_), .d (DL (α := Rect) (gl x1527 v1544.toNat).region_.rects_)])] ⟨ALe.bool hb1548, KAt.CC (region_Has_spec hz1550) Tryz.call111 [], ⟨⟩⟩ ?_
      exact Kn.R Fm (hJ1552 z1549 h)
     ·refine AW.pN Fm [.s, .s, .s, .s, .w (vb false), .s, .s, .s, .s, .s, .s] [(1, vi x1528), (2, vi x1529), (3, vi x1530), (10, pt 10), (14, AL x1527), (15, vi (lI x1527)), (16, vi v1544), (30, vb false)] [(10, bx [ci ((gl x1527 v1544.toNat).year_), ci ((gl x1527 v1544.toNat).crop_), .d (DL (α := Rect) (gl x1527 v1544.toNat).region_.rects_)])] (cT (ALe.bool hb1548)) ?_
      exact Kn.R Fm (hJ1552 false h)
   ·exact AW.exit (Kn.R Fm (hJ1555 () h))
theorem law15_awake_spec {F : Nat} {r : Bool} (h : law15_awake F = some r) :
  FSpec Tryz.prog 21 [] [] (vb r) [] := by
 refine FI Tryz.func21 prog_mixed prog_lay fun C Fm => ?_
 unfold law15_awake at h
 refine AW.SG0 Fm 1 [] [] ?_
 refine AW.seq ?_
 obtain ⟨z1556, hz1557, h⟩ := bS h
 refine AW.G Fm [.s, .w (AL (α := Rect) ([(⟨0, 0, (2 : Int), (1 : Int)⟩ : Rect)] : List Rect)), .s, .k (cE [] [] (.t [.c (.d (DL z1556.1)), .c (ci z1556.2)]) [] []), .s, .s, .s, .s, .s] (fun K => (ALe (.v (.c (.d (.lst 1 (litF 4 [.int .i64 0, .int .i64 0, .int .i64 (2 : Int), .int .i64 (1 : Int)]))))) (AL (α := Rect) ([(⟨0, 0, (2 : Int), (1 : Int)⟩ : Rect)] : List Rect))) ∧ K 3 ∧ True) [(1, AL z1556.1), (2, vi z1556.2)] [] ⟨ALe.lst (.lit ([(⟨0, 0, (2 : Int), (1 : Int)⟩ : Rect)] : List Rect) (by kernel_rfl)), KAt.callX (history_Add_spec hz1557) Tryz.call17 [] [] [.const (.slice none 0 0), .const (.int .i64 3), .const (.int .i64 2), .tmp 7] rfl (by kernel_rfl) (by kernel_rfl) (by kernel_rfl) ⟨ArgT.plain (by kernel_rfl) (ALe.c (CLe.fl .nil)) (by kernel_rfl), .p, .p, .p, ⟨⟩⟩, ⟨⟩⟩ ?_
 refine AW.seq ?_
 obtain ⟨z1558, hz1559, h⟩ := bS h
 refine AW.G Fm [.s, .s, .w (AL (α := Rect) ([(⟨(1 : Int), 0, (2 : Int), (1 : Int)⟩ : Rect)] : List Rect)), .s, .k (cE [] [] (.t [.c (.d (DL z1558.1)), .c (ci z1558.2)]) [] []), .s, .s, .s, .s, .s] (fun K => (ALe (.v (.c (.d (.lst 1 (litF 4 [.int .i64 (1 : Int), .int .i64 0, .int .i64 (2 : Int), .int .i64 (1 : Int)]))))) (AL (α := Rect) ([(⟨(1 : Int), 0, (2 : Int), (1 : Int)⟩ : Rect)] : List Rect))) ∧ K 4 ∧ True) [(1, AL z1558.1), (2, vi z1556.2), (3, vi z1558.2)] [] ⟨ALe.lst (.lit ([(⟨(1 : Int), 0, (2 : Int), (1 : Int)⟩ : Rect)] : List Rect) (by kernel_rfl)), KAt.CC (history_Add_spec hz1559) Tryz.call17 [], ⟨⟩⟩ ?_
 refine AW.join (r := r) (fun z : Bool => law15_awake_k0 F z) (fun z => [(0, vb z)]) (fun z => []) (fun v1570 h => ?_) (fun J1571 hJ1571 => ?_)
 ·refine AW.ret ?_
  obtain rfl := Option.some.inj h
  exact Kn.D Fm
 ·rcases br_or h with ⟨hb1560, h⟩ | ⟨hb1560, h⟩
  ·rcases br_or h with ⟨hb1561, h⟩ | ⟨hb1561, h⟩
   ·obtain ⟨z1562, hz1563, h⟩ := bS h
    rcases br_or h with ⟨hb1564, h⟩ | ⟨hb1564, h⟩
    ·obtain ⟨z1565, hz1566, h⟩ := bS h
     rcases br_or h with ⟨hb1567, h⟩ | ⟨hb1567, h⟩
     ·obtain ⟨z1568, hz1569, h⟩ := bS h
      refine AW.G Fm [.s, .s, .w (vb true), .s, .s, .s, .w (vb true), .s, .k (cE [] [] (vi z1562) [] []), .s, .s, .w (vb true), .s, .k (cE [] [] (vi z1565) [] []), .s, .s, .w (vb true), .s, .k (cE [] [] (vi z1568) [] []), .s, .s, .s] (fun K => _ ∧ _ ∧ K 8 ∧ _ ∧ K 13 ∧ _ ∧ K 18 ∧ True) [(0, vb (z1568 == (-1 : Int)))] [] ⟨ALe.bool hb1560, ALe.bool hb1561, KAt.CC (history_At_spec hz1563) Tryz.call20 [], ALe.bool hb1564, KAt.CC (history_At_spec hz1566) Tryz.call20 [], ALe.bool hb1567, KAt.CC (history_At_spec hz1569) Tryz.call20 [], ⟨⟩⟩ ?_
      exact Kn.R Fm (hJ1571 (z1568 == (-1 : Int)) h)
     ·refine AW.G Fm [.s, .s, .w (vb true), .s, .s, .s, .w (vb true), .s, .k (cE [] [] (vi z1562) [] []), .s, .s, .w (vb true), .s, .k (cE [] [] (vi z1565) [] []), .s, .s, .w (vb false), .s, .s, .s, .s, .s] (fun K => _ ∧ _ ∧ K 8 ∧ _ ∧ K 13 ∧ _ ∧ True) [(0, vb false)] [] ⟨ALe.bool hb1560, ALe.bool hb1561, KAt.CC (history_At_spec hz1563) Tryz.call20 [], ALe.bool hb1564, KAt.CC (history_At_spec hz1566) Tryz.call20 [], ALe.bool hb1567, ⟨⟩⟩ ?_
      exact Kn.R Fm (hJ1571 false h)
    ·refine AW.G Fm [.s, .s, .w (vb true), .s, .s, .s, .w (vb true), .s, .k (cE [] [] (vi z1562) [] []), .s, .s, .w (vb false), .s, .s, .s, .s, .s, .s, .s, .s, .s, .s] (fun K => _ ∧ _ ∧ K 8 ∧ _ ∧ True) [(0, vb false)] [] ⟨ALe.bool hb1560, ALe.bool hb1561, KAt.CC (history_At_spec hz1563) Tryz.call20 [], ALe.bool hb1564, ⟨⟩⟩ ?_
     exact Kn.R Fm (hJ1571 false h)
   ·refine AW.pN Fm [.s, .s, .w (vb true), .s, .s, .s, .w (vb false), .s, .s, .s, .s, .s, .s, .s, .s, .s, .s, .s, .s, .s, .s, .s] [(0, vb false)] [] (cA (ALe.bool hb1560) (cT (ALe.bool hb1561))) ?_
    exact Kn.R Fm (hJ1571 false h)
  ·refine AW.pN Fm [.s, .s, .w (vb false), .s, .s, .s, .s, .s, .s, .s, .s, .s, .s, .s, .s, .s, .s, .s, .s, .s, .s, .s] [(0, vb false)] [] (cT (ALe.bool hb1560)) ?_
   exact Kn.R Fm (hJ1571 false h)
theorem law15_HistorySquares_spec {F : Nat} {x1572 : (List Int)} {r : Bool} (h : law15_HistorySquares F x1572 = some r) :
  FSpec Tryz.prog 3 [AL x1572] [] (vb r) [] := by
 refine FI Tryz.func3 prog_mixed prog_lay fun C Fm => ?_
 unfold law15_HistorySquares at h
 refine AW.SG0 Fm 1 [(0, AL x1572)] [] ?_
 refine AW.seq ?_
 obtain ⟨z1573, hz1574, h⟩ := bS h
 refine AW.G Fm [.s, .k (cE [(100, 17)] [] (pt 100) [] [(100, bx (gC z1573))]), .s] (fun K => K 1 ∧ True) [(3, pt 17)] [(17, bx (gC z1573))] ⟨KAt.CC (keep_New_spec hz1574) Tryz.call13 [(100, 17)], ⟨⟩⟩ ?_
 refine AW.seq ?_
 obtain ⟨z1575, hz1576, h⟩ := bS h
 refine AW.G Fm [.s, .k (cE [(0, 17)] [] (AL z1575.2) [(0, bx (gC z1573))] [(0, bx (gC z1575.1))]), .s] (fun K => K 1 ∧ True) [(3, pt 17), (4, AL z1575.2)] [(17, bx (gC z1575.1))] ⟨KAt.CC (keep_Tape_Crops_spec hz1576) Tryz.call14 [(0, 17)], ⟨⟩⟩ ?_
 refine AW.SW Fm [.m] (fun K => True) [(3, pt 17), (4, AL z1575.2), (5, ow 5)] [(5, AO (α := Record) ([] : List Record)), (17, bx (gC z1575.1))] True.intro [(5, .arr 3 (0) (fun _ => []))] ⟨OLe.is ((Is.nil (α := Record))), ⟨⟩⟩ ?_
 refine AW.SW Fm [.s] (fun K => True) [(3, pt 17), (4, AL z1575.2), (5, ow 5), (6, pt 6)] [(5, AO (α := Record) ([] : List Record)), (6, .ext (bxP (List.replicate 128 (0 : Int)))), (17, bx (gC z1575.1))] True.intro [(6, .box false (bxI (List.replicate 128 (0 : Int))))] ⟨OLe.bx _, ⟨⟩⟩ ?_
 refine AW.join (r := r) (fun z : (List Record) × (List Int) => law15_HistorySquares_k5 F z.1 z.2) (fun z => [(5, AL z.1), (6, pt 6)]) (fun z => [(6, .ext (bxP z.2))]) (fun z h => ?_) (fun J1690 hJ1690 => ?_)
 ·obtain ⟨v1688, v1689⟩ := z
  refine AW.join (r := r) (fun z : Unit => law15_HistorySquares_k9 F) (fun z => []) (fun z => []) (fun z h => ?_) (fun J1750 hJ1750 => ?_)
  ·refine AW.seq ?_
   obtain ⟨z1751, hz1752, h⟩ := bS h
   refine AW.G Fm [.k (cE [] [] (vb z1751) [] []), .s] (fun K => K 0 ∧ True) [(2, vb z1751)] [] ⟨KAt.CC (law15_awake_spec hz1752) Tryz.call21 [], ⟨⟩⟩ ?_
   refine AW.ret ?_
   obtain rfl := Option.some.inj h
   exact Kn.D Fm
  ·refine AW.SG0 Fm 1 [(5, AL v1688), (6, pt 6), (14, vi 0)] [(6, .ext (bxP v1689))] ?_
   refine AW.block (AW.loopF (E' := fun z => [(5, AL v1688), (6, pt 6), (14, vi z)]) (S' := fun z => [(6, .ext (bxP v1689))]) (fun ag_law15_HistorySquares_b6 v1720 J1721 hJ1721 h => ?_) h)
   refine AW.seq (AW.SG0 Fm 2 [(5, AL v1688), (6, pt 6), (14, vi v1720), (67, vb (decide (v1720 < (2 : Int))))] [(6, .ext (bxP v1689))] ?_)
   refine AW.cN h (fun hb1722 h => ?_) (fun hb1722 h => ?_)
   ·refine AW.skip (AW.join (r := r) (fun z : Unit => law15_HistorySquares_k8 F v1720 ag_law15_HistorySquares_b6) (fun z => [(5, AL v1688), (6, pt 6), (14, vi v1720)]) (fun z => [(6, .ext (bxP v1689))]) (fun z h => ?_) (fun J1748 hJ1748 => ?_))
    ·obtain ⟨hg1749, h⟩ := gS h
     refine AW.pN Fm [.s, .s, .s] [(5, AL v1688), (6, pt 6), (14, vi (v1720 + 1))] [(6, .ext (bxP v1689))] (cT (cT hg1749)) ?_
     exact Kn.R Fm (hJ1721 (v1720 + 1) h)
    ·refine AW.block (AW.SG0 Fm 1 [(5, AL v1688), (6, pt 6), (14, vi v1720), (15, vi 0)] [(6, .ext (bxP v1689))] ?_)
     refine AW.block (AW.loopF (E' := fun z => [(5, AL v1688), (6, pt 6), (14, vi v1720), (15, vi z)]) (S' := fun z => [(6, .ext (bxP v1689))]) (fun ag_law15_HistorySquares_b7 v1735 J1736 hJ1736 h => ?_) h)
     refine AW.seq (AW.SG0 Fm 2 [(5, AL v1688), (6, pt 6), (14, vi v1720), (15, vi v1735), (71, vb (decide (v1735 < (64 : Int))))] [(6, .ext (bxP v1689))] ?_)
     refine AW.cN h (fun hb1737 h => ?_) (fun hb1737 h => ?_)
     ·refine AW.skip (AW.seq (AW.block (AW.seq ?_)))
      obtain ⟨hg1738, hg1739, h⟩ := gS2 h
      obtain ⟨z1740, hz1741, h⟩ := bS h
      obtain ⟨hg1742, hg1743, hg1744, hg1745, h⟩ := gS4 h
      refine AW.G Fm [.s, .s, .s, .s, .s, .s, .k (cE [] [] (vi z1740) [] []), .s, .s, .k (rE { v := .v (.c (.ptr 6 (0 + (v1720).toNat * 64))) }), .k (rE { v := .v (.c (.ptr 6 ((0 + (v1720).toNat * 64) + (v1735).toNat * 1))) }), .k (rE { v := vi (List.getD v1689 ((0 + (v1720).toNat * 64) + (v1735).toNat * 1) 0) }), .s, .s] (fun K => _ ∧ _ ∧ K 6 ∧ K 9 ∧ K 10 ∧ K 11 ∧ (_ ∧ True) ∧ True) [(5, AL v1688), (6, pt 6), (14, vi v1720), (15, vi v1735), (87, vb (z1740 != ((List.getD v1689 ((0 + (v1720).toNat * 64) + (v1735).toNat * 1) 0) - 1)))] [(6, .ext (bxP v1689))] ⟨hg1738, hg1739, KAt.CC (history_At_spec hz1741) Tryz.call20 [], KAt.aidx prog_lay (t := 29) (ti := ⟨.array 2 28, 128, 1024, [.d (.int .i64 0), .d (.int .i64 0), .d (.int .i64 0), .d (.int .i64 0), .d (.int .i64 0), .d (.int .i64 0), .d (.int .i64 0), .d (.int .i64 0), .d (.int .i64 0), .d (.int .i64 0), .d (.int .i64 0), .d (.int .i64 0), .d (.int .i64 0), .d (.int .i64 0), .d (.int .i64 0), .d (.int .i64 0), .d (.int .i64 0), .d (.int .i64 0), .d (.int .i64 0), .d (.int .i64 0), .d (.int .i64 0), .d (.int .i64 0), .d (.int .i64 0), .d (.int .i64 0), .d (.int .i64 0), .d (.int .i64 0), .d (.int .i64 0), .d (.int .i64 0), .d (.int .i64 0), .d (.int .i64 0), .d (.int .i64 0), .d (.int .i64 0), .d (.int .i64 0), .d (.int .i64 0), .d (.int .i64 0), .d (.int .i64 0), .d (.int .i64 0), .d (.int .i64 0), .d (.int .i64 0), .d (.int .i64 0), .d (.int .i64 0), .d (.int .i64 0), .d (.int .i64 0), .d (.int .i64 0), .d (.int .i64 0), .d (.int .i64 0), .d (.int .i64 0), .d (.int .i64 0), .d (.int .i64 0), .d (.int .i64 0), .d (.int .i64 0), .d (.int .i64 0), .d (.int .i64 0), .d (.int .i64 0), .d (.int .i64 0), .d (.int .i64 0), .d (.int .i64 0), .d (.int .i64 0), .d (.int .i64 0), .d (.int .i64 0), .d (.int .i64 0), .d (.int .i64 0), .d (.int .i64 0), .d (.int .i64 0), .d (.int .i64 0), .d (.int .i64 0), .d (.int .i64 0), .d (.int .i64 0), .d (.int .i64 0), .d (.int .i64 0), .d (.int .i64 0), .d (.int .i64 0), .d (.int .i64 0), .d (.int .i64 0), .d (.int .i64 0), .d (.int .i64 0), .d (.int .i64 0), .d (.int .i64 0), .d (.int .i64 0), .d (.int .i64 0), .d (.int .i64 0), .d (.int .i64 0), .d (.int .i64 0), .d (.int .i64 0), .d (.int .i64 0), .d (.int .i64 0), .d (.int .i64 0), .d (.int .i64 0), .d (.int .i64 0), .d (.int .i64 0), .d (.int .i64 0), .d (.int .i64 0), .d (.int .i64 0), .d (.int .i64 0), .d (.int .i64 0), .d (.int .i64 0), .d (.int .i64 0), .d (.int .i64 0), .d (.int .i64 0), .d (.int .i64 0), .d (.int .i64 0), .d (.int .i64 0), .d (.int .i64 0), .d (.int .i64 0), .d (.int .i64 0), .d (.int .i64 0), .d (.int .i64 0), .d (.int .i64 0), .d (.int .i64 0), .d (.int .i64 0), .d (.int .i64 0), .d (.int .i64 0), .d (.int .i64 0), .d (.int .i64 0), .d (.int .i64 0), .d (.int .i64 0), .d (.int .i64 0), .d (.int .i64 0), .d (.int .i64 0), .d (.int .i64 0), .d (.int .i64 0), .d (.int .i64 0), .d (.int .i64 0), .d (.int .i64 0), .d (.int .i64 0), .d (.int .i64 0), .d (.int .i64 0), .d (.int .i64 0)]⟩) (te := ⟨.array 64 3, 64, 512, [.d (.int .i64 0), .d (.int .i64 0), .d (.int .i64 0), .d (.int .i64 0), .d (.int .i64 0), .d (.int .i64 0), .d (.int .i64 0), .d (.int .i64 0), .d (.int .i64 0), .d (.int .i64 0), .d (.int .i64 0), .d (.int .i64 0), .d (.int .i64 0), .d (.int .i64 0), .d (.int .i64 0), .d (.int .i64 0), .d (.int .i64 0), .d (.int .i64 0), .d (.int .i64 0), .d (.int .i64 0), .d (.int .i64 0), .d (.int .i64 0), .d (.int .i64 0), .d (.int .i64 0), .d (.int .i64 0), .d (.int .i64 0), .d (.int .i64 0), .d (.int .i64 0), .d (.int .i64 0), .d (.int .i64 0), .d (.int .i64 0), .d (.int .i64 0), .d (.int .i64 0), .d (.int .i64 0), .d (.int .i64 0), .d (.int .i64 0), .d (.int .i64 0), .d (.int .i64 0), .d (.int .i64 0), .d (.int .i64 0), .d (.int .i64 0), .d (.int .i64 0), .d (.int .i64 0), .d (.int .i64 0), .d (.int .i64 0), .d (.int .i64 0), .d (.int .i64 0), .d (.int .i64 0), .d (.int .i64 0), .d (.int .i64 0), .d (.int .i64 0), .d (.int .i64 0), .d (.int .i64 0), .d (.int .i64 0), .d (.int .i64 0), .d (.int .i64 0), .d (.int .i64 0), .d (.int .i64 0), .d (.int .i64 0), .d (.int .i64 0), .d (.int .i64 0), .d (.int .i64 0), .d (.int .i64 0), .d (.int .i64 0)]⟩) (n := 2) (el := 28) (m := v1720) (id := 6) (off := 0) rfl rfl rfl rfl rfl (by kernel_rfl) (by kernel_rfl) (by kernel_rfl) hg1742 rfl, KAt.aidx prog_lay (t := 28) (ti := ⟨.array 64 3, 64, 512, [.d (.int .i64 0), .d (.int .i64 0), .d (.int .i64 0), .d (.int .i64 0), .d (.int .i64 0), .d (.int .i64 0), .d (.int .i64 0), .d (.int .i64 0), .d (.int .i64 0), .d (.int .i64 0), .d (.int .i64 0), .d (.int .i64 0), .d (.int .i64 0), .d (.int .i64 0), .d (.int .i64 0), .d (.int .i64 0), .d (.int .i64 0), .d (.int .i64 0), .d (.int .i64 0), .d (.int .i64 0), .d (.int .i64 0), .d (.int .i64 0), .d (.int .i64 0), .d (.int .i64 0), .d (.int .i64 0), .d (.int .i64 0), .d (.int .i64 0), .d (.int .i64 0), .d (.int .i64 0), .d (.int .i64 0), .d (.int .i64 0), .d (.int .i64 0), .d (.int .i64 0), .d (.int .i64 0), .d (.int .i64 0), .d (.int .i64 0), .d (.int .i64 0), .d (.int .i64 0), .d (.int .i64 0), .d (.int .i64 0), .d (.int .i64 0), .d (.int .i64 0), .d (.int .i64 0), .d (.int .i64 0), .d (.int .i64 0), .d (.int .i64 0), .d (.int .i64 0), .d (.int .i64 0), .d (.int .i64 0), .d (.int .i64 0), .d (.int .i64 0), .d (.int .i64 0), .d (.int .i64 0), .d (.int .i64 0), .d (.int .i64 0), .d (.int .i64 0), .d (.int .i64 0), .d (.int .i64 0), .d (.int .i64 0), .d (.int .i64 0), .d (.int .i64 0), .d (.int .i64 0), .d (.int .i64 0), .d (.int .i64 0)]⟩) (te := ⟨.int .i64, 1, 8, [.d (.int .i64 0)]⟩) (n := 64) (el := 3) (m := v1735) (id := 6) (off := (0 + (v1720).toNat * 64)) rfl rfl rfl rfl rfl (by kernel_rfl) (by kernel_rfl) (by kernel_rfl) hg1743 rfl, KAt.bload prog_lay (t := 3) (ti := ⟨.int .i64, 1, 8, [.d (.int .i64 0)]⟩) (off := ((0 + (v1720).toNat * 64) + (v1735).toNat * 1)) (l := v1689) (id := 6) rfl rfl rfl rfl rfl (by kernel_rfl) (by kernel_rfl) (by kernel_rfl) hg1744, ⟨hg1745, ⟨⟩⟩, ⟨⟩⟩ ?_
      refine AW.cN h (fun hb1746 h => ?_) (fun hb1746 h => ?_)
      ·refine AW.SG0 Fm 1 [(2, vb false)] [] ?_
       refine AW.ret ?_
       obtain rfl := Option.some.inj h
       exact Kn.D Fm
      ·refine AW.skip ?_
       obtain ⟨hg1747, h⟩ := gS h
       refine AW.pN Fm [.s, .s, .s] [(5, AL v1688), (6, pt 6), (14, vi v1720), (15, vi (v1735 + 1))] [(6, .ext (bxP v1689))] (cT (cT hg1747)) ?_
       exact Kn.R Fm (hJ1736 (v1735 + 1) h)
     ·exact AW.exit (Kn.R Fm (hJ1748 () h))
   ·exact AW.exit (Kn.R Fm (hJ1750 () h))
 ·refine AW.seq ?_
  obtain ⟨z1577, hz1578, h⟩ := bS h
  refine AW.G Fm [.s, .k (cE [(0, 17)] [] (vi z1577.2) [(0, bx (gC z1575.1))] [(0, bx (gC z1577.1))]), .s] (fun K => K 1 ∧ True) [(3, pt 17), (4, AL z1575.2), (5, ow 5), (6, pt 6), (7, vi z1577.2)] [(5, AO (α := Record) ([] : List Record)), (6, .ext (bxP (List.replicate 128 (0 : Int)))), (17, bx (gC z1577.1))] ⟨KAt.CC (keep_Tape_Next_spec hz1578) Tryz.call15 [(0, 17)], ⟨⟩⟩ ?_
  refine AW.block (Kn.r Fm [(3, pt 17), (4, AL z1575.2), (5, ow 5), (6, pt 6), (7, vi z1577.2)] [(5, AO (α := Record) ([] : List Record)), (6, .ext (bxP (List.replicate 128 (0 : Int)))), (17, bx (gC z1577.1))] (by kernel_rfl) ?_)
  refine Kn.frz [(3, pt 17), (4, AL z1575.2), (5, AL (α := Record) ([] : List Record)), (6, pt 6), (7, vi z1577.2)] [(6, .ext (bxP (List.replicate 128 (0 : Int)))), (17, bx (gC z1577.1))] (by kernel_rfl) (by kernel_rfl) (by kernel_rfl) ?_
  refine Kn.r Fm [(3, pt 17), (4, AL z1575.2), (5, AL ([] : List Record)), (6, pt 6), (7, vi z1577.2)] [(6, .ext (bxP (List.replicate 128 (0 : Int)))), (17, bx [.d (DL z1577.1.l_), ci z1577.1.at_])] (by kernel_rfl) ?_
  refine AW.loopF (E' := fun z => [(3, pt 17), (4, AL z1575.2), (5, AL z.1), (6, pt 6), (7, vi z.2.1)]) (S' := fun z => [(6, .ext (bxP z.2.2.2.2)), (17, bx [.d (DL z.2.2.1), ci z.2.2.2.1])]) (fun ag_law15_HistorySquares_b0 z J1636 hJ1636 h => ?_) h
  obtain ⟨v1631, v1632, v1633, v1634, v1635⟩ := z
  refine AW.seq (AW.SG0 Fm 2 [(3, pt 17), (4, AL z1575.2), (5, AL v1631), (6, pt 6), (7, vi v1632), (23, vb (decide ((0 : Int) < v1632)))] [(6, .ext (bxP v1635)), (17, bx [.d (DL v1633), ci v1634])] ?_)
  refine AW.cN h (fun hb1637 h => ?_) (fun hb1637 h => ?_)
  ·refine AW.skip (AW.join (r := r) (fun z : (List Record) × (List Int) × Int × (List Int) => law15_HistorySquares_k4 F v1632 ag_law15_HistorySquares_b0 z.1 z.2.1 z.2.2.1 z.2.2.2) (fun z => [(3, pt 17), (4, AL z1575.2), (5, AL z.1), (6, pt 6), (7, vi v1632)]) (fun z => [(6, .ext (bxP z.2.2.2)), (17, bx [.d (DL z.2.1), ci z.2.2.1])]) (fun z h => ?_) (fun J1686 hJ1686 => ?_))
   ·obtain ⟨v1682, v1683, v1684, v1685⟩ := z
    obtain ⟨hg1687, h⟩ := gS h
    refine AW.pN Fm [.s, .s, .s] [(3, pt 17), (4, AL z1575.2), (5, AL v1682), (6, pt 6), (7, vi (v1632 - 1))] [(6, .ext (bxP v1685)), (17, bx [.d (DL v1683), ci v1684])] (cT (cT hg1687)) ?_
    exact Kn.R Fm (hJ1636 (v1682, (v1632 - 1), v1683, v1684, v1685) h)
   ·refine AW.block (AW.seq ?_)
    obtain ⟨z1638, hz1639, h⟩ := bS h
    obtain ⟨z1640, hz1641, h⟩ := bS h
    obtain ⟨z1642, hz1643, h⟩ := bS h
    refine AW.G Fm [.s, .k (cE [(0, 17)] [] (vi z1638.2) [(0, bx [.d (DL (α := Int) (⟨v1633, v1634⟩ : Tape).l_), ci ((⟨v1633, v1634⟩ : Tape).at_)])] [(0, bx (gC z1638.1))]), .s, .s, .s, .k (cE [(0, 17)] [] (vi z1640.2) [(0, bx (gC z1638.1))] [(0, bx (gC z1640.1))]), .s, .k (cE [(0, 17)] [] (.v (.g [.d (DL z1642.2.rects_)])) [(0, bx (gC z1640.1))] [(0, bx (gC z1642.1))]), .s, .s, .s, .s] (fun K => K 1 ∧ K 5 ∧ K 7 ∧ True) [(3, pt 17), (4, AL z1575.2), (5, AL v1631), (6, pt 6), (7, vi v1632), (8, vi z1638.2), (9, vi z1640.2), (10, pt 10)] [(6, .ext (bxP v1635)), (10, bx [.d (DL z1642.2.rects_)]), (17, bx (gC z1642.1))] ⟨KAt.CC (keep_Tape_Next_spec hz1639) Tryz.call15 [(0, 17)], KAt.CC (keep_Tape_Next_spec hz1641) Tryz.call15 [(0, 17)], KAt.CC (keep_Tape_Region_spec hz1643) Tryz.call16 [(0, 17)], ⟨⟩⟩ ?_
    refine AW.seq ?_
    obtain ⟨z1644, hz1645, h⟩ := bS h
    refine AW.G Fm [.s, .s, .s, .s, .k (cE [] [] (.t [.c (.d (DL z1644.1)), .c (ci z1644.2)]) [] []), .s, .s, .s, .s, .s] (fun K => K 4 ∧ True) [(3, pt 17), (4, AL z1575.2), (6, pt 6), (7, vi v1632), (8, vi z1638.2), (9, vi z1640.2), (10, pt 10), (11, AL z1644.1), (12, vi z1644.2)] [(6, .ext (bxP v1635)), (10, bx [.d (DL z1642.2.rects_)]), (17, bx (gC z1642.1))] ⟨KAt.CC (history_Add_spec hz1645) Tryz.call17 [], ⟨⟩⟩ ?_
    refine AW.seq (AW.join (r := r) (fun z : Bool => law15_HistorySquares_k1 F v1632 v1635 z1638 z1640 z1642 z1644 ag_law15_HistorySquares_b0 z) (fun z => [(3, pt 17), (4, AL z1575.2), (6, pt 6), (7, vi v1632), (8, vi z1638.2), (9, vi z1640.2), (10, pt 10), (11, AL z1644.1), (48, vb z)]) (fun z => [(6, .ext (bxP v1635)), (10, bx [.d (DL z1642.2.rects_)]), (17, bx (gC z1642.1))]) (fun v1649 h => ?_) (fun J1650 hJ1650 => ?_))
    ·refine AW.cN h (fun hb1651 h => ?_) (fun hb1651 h => ?_)
     ·refine AW.SG0 Fm 1 [(2, vb false)] [] ?_
      refine AW.ret ?_
      obtain rfl := Option.some.inj h
      exact Kn.D Fm
     ·refine AW.skip (AW.SG0 Fm 2 [(3, pt 17), (4, AL z1575.2), (5, AL z1644.1), (6, pt 6), (7, vi v1632), (8, vi z1638.2), (9, vi z1640.2), (10, pt 10)] [(6, .ext (bxP v1635)), (10, bx [.d (DL z1642.2.rects_)]), (17, bx (gC z1642.1))] ?_)
      refine AW.SG0 Fm 1 [(3, pt 17), (4, AL z1575.2), (5, AL z1644.1), (6, pt 6), (7, vi v1632), (8, vi z1638.2), (9, vi z1640.2), (10, pt 10), (13, vi 0)] [(6, .ext (bxP v1635)), (10, bx [.d (DL z1642.2.rects_)]), (17, bx (gC z1642.1))] ?_
      refine AW.block (AW.loopF (E' := fun z => [(3, pt 17), (4, AL z1575.2), (5, AL z1644.1), (6, pt 6), (7, vi v1632), (8, vi z1638.2), (9, vi z1640.2), (10, pt 10), (13, vi z.1)]) (S' := fun z => [(6, .ext (bxP z.2)), (10, bx [.d (DL z1642.2.rects_)]), (17, bx (gC z1642.1))]) (fun ag_law15_HistorySquares_b2 z J1668 hJ1668 h => ?_) h)
      obtain ⟨v1666, v1667⟩ := z
      refine AW.seq (AW.SG0 Fm 2 [(3, pt 17), (4, AL z1575.2), (5, AL z1644.1), (6, pt 6), (7, vi v1632), (8, vi z1638.2), (9, vi z1640.2), (10, pt 10), (13, vi v1666), (51, vb (decide (v1666 < (64 : Int))))] [(6, .ext (bxP v1667)), (10, bx [.d (DL z1642.2.rects_)]), (17, bx (gC z1642.1))] ?_)
      refine AW.cN h (fun hb1669 h => ?_) (fun hb1669 h => ?_)
      ·refine AW.skip (AW.join (r := r) (fun z : (List Int) => law15_HistorySquares_k3 F v1666 ag_law15_HistorySquares_b2 z) (fun z => [(3, pt 17), (4, AL z1575.2), (5, AL z1644.1), (6, pt 6), (7, vi v1632), (8, vi z1638.2), (9, vi z1640.2), (10, pt 10), (13, vi v1666)]) (fun z => [(6, .ext (bxP z)), (10, bx [.d (DL z1642.2.rects_)]), (17, bx (gC z1642.1))]) (fun v1679 h => ?_) (fun J1680 hJ1680 => ?_))
       ·obtain ⟨hg1681, h⟩ := gS h
        refine AW.pN Fm [.s, .s, .s] [(3, pt 17), (4, AL z1575.2), (5, AL z1644.1), (6, pt 6), (7, vi v1632), (8, vi z1638.2), (9, vi z1640.2), (10, pt 10), (13, vi (v1666 + 1))] [(6, .ext (bxP v1679)), (10, bx [.d (DL z1642.2.rects_)]), (17, bx (gC z1642.1))] (cT (cT hg1681)) ?_
        exact Kn.R Fm (hJ1668 ((v1666 + 1), v1679) h)
       ·refine AW.block (AW.seq ?_)
        obtain ⟨hg1670, hg1671, h⟩ := gS2 h
        obtain ⟨z1672, hz1673, h⟩ := bS h
        refine AW.G Fm [.s, .s, .s, .s, .s, .k (cE [] [] (vb z1672) [] [])] (fun K => _ ∧ _ ∧ K 5 ∧ True) [(3, pt 17), (4, AL z1575.2), (5, AL z1644.1), (6, pt 6), (7, vi v1632), (8, vi z1638.2), (9, vi z1640.2), (10, pt 10), (13, vi v1666), (59, vb z1672)] [(6, .ext (bxP v1667)), (10, bx [.d (DL z1642.2.rects_)]), (17, bx (gC z1642.1))] ⟨hg1670, hg1671, KAt.CC (ref04_Has_spec hz1673) Tryz.call19 [], ⟨⟩⟩ ?_
        refine AW.cN h (fun hb1674 h => ?_) (fun hb1674 h => ?_)
        ·obtain ⟨hg1675, hg1676, hg1677, hg1678, h⟩ := gS4 h
         refine AW.G Fm [.s, .s, .s, .s, .k (rE { v := .v (.c (.ptr 6 (0 + (z1638.2).toNat * 64))) }), .k (rE { v := .v (.c (.ptr 6 ((0 + (z1638.2).toNat * 64) + (v1666).toNat * 1))) }), .k (rE { v := .any, upd := some (6, .ext (bxP (List.set v1667 ((0 + (z1638.2).toNat * 64) + (v1666).toNat * 1) (z1640.2 + 1)))) })] (fun K => (_ ∧ True) ∧ K 4 ∧ K 5 ∧ K 6 ∧ True) [(3, pt 17), (4, AL z1575.2), (5, AL z1644.1), (6, pt 6), (7, vi v1632), (8, vi z1638.2), (9, vi z1640.2), (10, pt 10), (13, vi v1666)] [(6, .ext (bxP (List.set v1667 ((0 + (z1638.2).toNat * 64) + (v1666).toNat * 1) (z1640.2 + 1)))), (10, bx [.d (DL z1642.2.rects_)]), (17, bx (gC z1642.1))] ⟨⟨hg1675, ⟨⟩⟩, KAt.aidx prog_lay (t := 29) (ti := ⟨.array 2 28, 128, 1024, [.d (.int .i64 0), .d (.int .i64 0), .d (.int .i64 0), .d (.int .i64 0), .d (.int .i64 0), .d (.int .i64 0), .d (.int .i64 0), .d (.int .i64 0), .d (.int .i64 0), .d (.int .i64 0), .d (.int .i64 0), .d (.int .i64 0), .d (.int .i64 0), .d (.int .i64 0), .d (.int .i64 0), .d (.int .i64 0), .d (.int .i64 0), .d (.int .i64 0), .d (.int .i64 0), .d (.int .i64 0), .d (.int .i64 0), .d (.int .i64 0), .d (.int .i64 0), .d (.int .i64 0), .d (.int .i64 0), .d (.int .i64 0), .d (.int .i64 0), .d (.int .i64 0), .d (.int .i64 0), .d (.int .i64 0), .d (.int .i64 0), .d (.int .i64 0), .d (.int .i64 0), .d (.int .i64 0), .d (.int .i64 0), .d (.int .i64 0), .d (.int .i64 0), .d (.int .i64 0), .d (.int .i64 0), .d (.int .i64 0), .d (.int .i64 0), .d (.int .i64 0), .d (.int .i64 0), .d (.int .i64 0), .d (.int .i64 0), .d (.int .i64 0), .d (.int .i64 0), .d (.int .i64 0), .d (.int .i64 0), .d (.int .i64 0), .d (.int .i64 0), .d (.int .i64 0), .d (.int .i64 0), .d (.int .i64 0), .d (.int .i64 0), .d (.int .i64 0), .d (.int .i64 0), .d (.int .i64 0), .d (.int .i64 0), .d (.int .i64 0), .d (.int .i64 0), .d (.int .i64 0), .d (.int .i64 0), .d (.int .i64 0), .d (.int .i64 0), .d (.int .i64 0), .d (.int .i64 0), .d (.int .i64 0), .d (.int .i64 0), .d (.int .i64 0), .d (.int .i64 0), .d (.int .i64 0), .d (.int .i64 0), .d (.int .i64 0), .d (.int .i64 0), .d (.int .i64 0), .d (.int .i64 0), .d (.int .i64 0), .d (.int .i64 0), .d (.int .i64 0), .d (.int .i64 0), .d (.int .i64 0), .d (.int .i64 0), .d (.int .i64 0), .d (.int .i64 0), .d (.int .i64 0), .d (.int .i64 0), .d (.int .i64 0), .d (.int .i64 0), .d (.int .i64 0), .d (.int .i64 0), .d (.int .i64 0), .d (.int .i64 0), .d (.int .i64 0), .d (.int .i64 0), .d (.int .i64 0), .d (.int .i64 0), .d (.int .i64 0), .d (.int .i64 0), .d (.int .i64 0), .d (.int .i64 0), .d (.int .i64 0), .d (.int .i64 0), .d (.int .i64 0), .d (.int .i64 0), .d (.int .i64 0), .d (.int .i64 0), .d (.int .i64 0), .d (.int .i64 0), .d (.int .i64 0), .d (.int .i64 0), .d (.int .i64 0), .d (.int .i64 0), .d (.int .i64 0), .d (.int .i64 0), .d (.int .i64 0), .d (.int .i64 0), .d (.int .i64 0), .d (.int .i64 0), .d (.int .i64 0), .d (.int .i64 0), .d (.int .i64 0), .d (.int .i64 0), .d (.int .i64 0), .d (.int .i64 0), .d (.int .i64 0), .d (.int .i64 0), .d (.int .i64 0)]⟩) (te := ⟨.array 64 3, 64, 512, [.d (.int .i64 0), .d (.int .i64 0), .d (.int .i64 0), .d (.int .i64 0), .d (.int .i64 0), .d (.int .i64 0), .d (.int .i64 0), .d (.int .i64 0), .d (.int .i64 0), .d (.int .i64 0), .d (.int .i64 0), .d (.int .i64 0), .d (.int .i64 0), .d (.int .i64 0), .d (.int .i64 0), .d (.int .i64 0), .d (.int .i64 0), .d (.int .i64 0), .d (.int .i64 0), .d (.int .i64 0), .d (.int .i64 0), .d (.int .i64 0), .d (.int .i64 0), .d (.int .i64 0), .d (.int .i64 0), .d (.int .i64 0), .d (.int .i64 0), .d (.int .i64 0), .d (.int .i64 0), .d (.int .i64 0), .d (.int .i64 0), .d (.int .i64 0), .d (.int .i64 0), .d (.int .i64 0), .d (.int .i64 0), .d (.int .i64 0), .d (.int .i64 0), .d (.int .i64 0), .d (.int .i64 0), .d (.int .i64 0), .d (.int .i64 0), .d (.int .i64 0), .d (.int .i64 0), .d (.int .i64 0), .d (.int .i64 0), .d (.int .i64 0), .d (.int .i64 0), .d (.int .i64 0), .d (.int .i64 0), .d (.int .i64 0), .d (.int .i64 0), .d (.int .i64 0), .d (.int .i64 0), .d (.int .i64 0), .d (.int .i64 0), .d (.int .i64 0), .d (.int .i64 0), .d (.int .i64 0), .d (.int .i64 0), .d (.int .i64 0), .d (.int .i64 0), .d (.int .i64 0), .d (.int .i64 0), .d (.int .i64 0)]⟩) (n := 2) (el := 28) (m := z1638.2) (id := 6) (off := 0) rfl rfl rfl rfl rfl (by kernel_rfl) (by kernel_rfl) (by kernel_rfl) hg1676 rfl, KAt.aidx prog_lay (t := 28) (ti := ⟨.array 64 3, 64, 512, [.d (.int .i64 0), .d (.int .i64 0), .d (.int .i64 0), .d (.int .i64 0), .d (.int .i64 0), .d (.int .i64 0), .d (.int .i64 0), .d (.int .i64 0), .d (.int .i64 0), .d (.int .i64 0), .d (.int .i64 0), .d (.int .i64 0), .d (.int .i64 0), .d (.int .i64 0), .d (.int .i64 0), .d (.int .i64 0), .d (.int .i64 0), .d (.int .i64 0), .d (.int .i64 0), .d (.int .i64 0), .d (.int .i64 0), .d (.int .i64 0), .d (.int .i64 0), .d (.int .i64 0), .d (.int .i64 0), .d (.int .i64 0), .d (.int .i64 0), .d (.int .i64 0), .d (.int .i64 0), .d (.int .i64 0), .d (.int .i64 0), .d (.int .i64 0), .d (.int .i64 0), .d (.int .i64 0), .d (.int .i64 0), .d (.int .i64 0), .d (.int .i64 0), .d (.int .i64 0), .d (.int .i64 0), .d (.int .i64 0), .d (.int .i64 0), .d (.int .i64 0), .d (.int .i64 0), .d (.int .i64 0), .d (.int .i64 0), .d (.int .i64 0), .d (.int .i64 0), .d (.int .i64 0), .d (.int .i64 0), .d (.int .i64 0), .d (.int .i64 0), .d (.int .i64 0), .d (.int .i64 0), .d (.int .i64 0), .d (.int .i64 0), .d (.int .i64 0), .d (.int .i64 0), .d (.int .i64 0), .d (.int .i64 0), .d (.int .i64 0), .d (.int .i64 0), .d (.int .i64 0), .d (.int .i64 0), .d (.int .i64 0)]⟩) (te := ⟨.int .i64, 1, 8, [.d (.int .i64 0)]⟩) (n := 64) (el := 3) (m := v1666) (id := 6) (off := (0 + (z1638.2).toNat * 64)) rfl rfl rfl rfl rfl (by kernel_rfl) (by kernel_rfl) (by kernel_rfl) hg1677 rfl, KAt.bstore prog_lay (t := 3) (ti := ⟨.int .i64, 1, 8, [.d (.int .i64 0)]⟩) (off := ((0 + (z1638.2).toNat * 64) + (v1666).toNat * 1)) (l := v1667) (v := (z1640.2 + 1)) (id := 6) rfl rfl rfl rfl (by kernel_rfl) (by kernel_rfl) (by kernel_rfl) (by kernel_rfl) hg1678, ⟨⟩⟩ ?_
         exact Kn.R Fm (hJ1680 (List.set v1667 ((0 + (z1638.2).toNat * 64) + (v1666).toNat * 1) (z1640.2 + 1)) h)
        ·exact AW.skip (Kn.R Fm (hJ1680 v1667 h))
      ·exact AW.exit (Kn.R Fm (hJ1686 (z1644.1, z1642.1.l_, z1642.1.at_, v1667) h))
    ·rcases br_or h with ⟨hb1646, h⟩ | ⟨hb1646, h⟩
     ·refine AW.pN Fm [.s, .s, .w (vb true), .s, .s, .s, .s] [(3, pt 17), (4, AL z1575.2), (6, pt 6), (7, vi v1632), (8, vi z1638.2), (9, vi z1640.2), (10, pt 10), (11, AL z1644.1), (48, vb true)] [(6, .ext (bxP v1635)), (10, bx [.d (DL z1642.2.rects_)]), (17, bx (gC z1642.1))] (cT (ALe.bool hb1646)) ?_
      exact Kn.R Fm (hJ1650 true h)
     ·obtain ⟨z1647, hz1648, h⟩ := bS h
      refine AW.G Fm [.s, .s, .w (vb false), .s, .k (cE [] [] (vi z1647) [] []), .s, .s] (fun K => _ ∧ K 4 ∧ True) [(3, pt 17), (4, AL z1575.2), (6, pt 6), (7, vi v1632), (8, vi z1638.2), (9, vi z1640.2), (10, pt 10), (11, AL z1644.1), (45, AL z1644.1), (46, vi z1647), (47, vb (z1647 != (0 : Int))), (48, vb (z1647 != (0 : Int)))] [(6, .ext (bxP v1635)), (10, bx [.d (DL z1642.2.rects_)]), (17, bx (gC z1642.1))] ⟨ALe.bool hb1646, KAt.CC (history_Check_spec hz1648) Tryz.call18 [], ⟨⟩⟩ ?_
      exact Kn.R Fm (hJ1650 (z1647 != (0 : Int)) h)
  ·exact AW.exit (Kn.R Fm (hJ1690 (v1631, v1635) h))
end Go.Ab
end
