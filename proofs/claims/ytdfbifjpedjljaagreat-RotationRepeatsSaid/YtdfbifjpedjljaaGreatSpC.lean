/- The code follows the plain programs: whenever the plain program has a result. -/
import Derived.Test.YtdfbifjpedjljaaGreatAbF
set_option linter.unusedVariables false
set_option linter.unusedSimpArgs false
section
namespace Go.Ab
open Go.Proofs
set_option linter.unusedVariables false
set_option maxRecDepth 100000
theorem law19_RotationRepeats_spec {F:Nat} {x1:(List Int)} {x2:Int} {x3:Int} {r:Bool} (h:law19_RotationRepeats F x1 x2 x3=some r) :
  FSpec Tryz.prog 10 [AL x1,.v (.c (.d (.int .u8 x2))),.v (.c (.d (.int .u8 x3)))] [] (vb r) []:=by
 refine FI Tryz.func10 prog_mixed prog_lay fun C Fm=>?_
 unfold law19_RotationRepeats at h
 refine AW.SG0 Fm 1 [(0,AL x1),(1,.v (.c (.d (.int .u8 x2)))),(2,.v (.c (.d (.int .u8 x3))))] [] ?_
 refine AW.seq ?_
 obtain ⟨z4,hz5,h⟩:=bS h
 refine AW.G Fm [.s,.k (cE [(100,27)] [] (pt 100) [] [(100,bx (gC z4))]),.s] (fun K=>K 1∧True) [(1,.v (.c (.d (.int .u8 x2)))),(2,.v (.c (.d (.int .u8 x3)))),(7,pt 27)] [(27,bx (gC z4))] ⟨KAt.CC (keep_New_spec hz5) Tryz.call13 [(100,27)],⟨⟩⟩ ?_
 refine AW.seq ?_
 obtain ⟨z6,hz7,h⟩:=bS h
 refine AW.G Fm [.s,.k (cE [(0,27)] [] (AL z6.2) [(0,bx (gC z4))] [(0,bx (gC z6.1))]),.s] (fun K=>K 1∧True) [(1,.v (.c (.d (.int .u8 x2)))),(2,.v (.c (.d (.int .u8 x3)))),(7,pt 27),(8,AL z6.2)] [(27,bx (gC z6.1))] ⟨KAt.CC (keep_Tape_Crops_spec hz7) Tryz.call14 [(0,27)],⟨⟩⟩ ?_
 refine AW.seq ?_
 obtain ⟨z8,hz9,h⟩:=bS h
 refine AW.G Fm [.s,.s,.k (cE [(0,27)] [] (.t [.c (.d (DL z8.2.1)),.c (.d (DL z8.2.2.1)),.c (.d (DL z8.2.2.2))]) [(0,bx (gC z6.1))] [(0,bx (gC z8.1))]),.s,.s,.s,.s,.s,.s,.s] (fun K=>K 2∧True) [(1,.v (.c (.d (.int .u8 x2)))),(2,.v (.c (.d (.int .u8 x3)))),(7,pt 27),(8,AL z6.2),(9,AL z8.2.1)] [(27,bx (gC z8.1))] ⟨KAt.CC (keep_Tape_Lines_spec hz9) Tryz.call79 [(0,27)],⟨⟩⟩ ?_
 refine AW.seq ?_
 obtain ⟨j,O0,h⟩:=bS h
 refine AW.G Fm [.s,.s,.k (cE [(0,27)] [] (AL j.2) [(0,bx (gC z8.1))] [(0,bx (gC j.1))]),.s] (fun K=>K 2∧True) [(1,.v (.c (.d (.int .u8 x2)))),(2,.v (.c (.d (.int .u8 x3)))),(8,AL z6.2),(9,AL z8.2.1),(12,AL j.2)] [] ⟨KAt.CC (keep_Tape_History_spec O0) Tryz.call22 [(0,27)],⟨⟩⟩ ?_
 obtain ⟨t0,u0,w0,y0,h⟩:=gS4 h
 obtain ⟨A0,h⟩:=gS h
 refine AW.SP Fm [.s,.s,.s,.s,.s,.s,.s,.s,.s] [(8,AL z6.2),(9,AL z8.2.1),(12,AL j.2),(13,vi (x2.tmod (6:Int))),(14,vi ((2:Int)+(x3.tmod (3:Int))))] [] (cA (cT t0) (cA u0 (cA (cT w0) (cA y0 (cT (cT A0)))))) ?_
 refine AW.seq ?_
 obtain ⟨i,P0,h⟩:=bS h
 refine AW.G Fm [.s,.s,.s,.s,.s,.k (cE [] [] (.t [.g [.d (DL i.1.rects_)],.c (ci i.2)]) [] []),.s,.s,.s,.s,.s,.s] (fun K=>K 5∧True) [(8,AL z6.2),(9,AL z8.2.1),(12,AL j.2),(13,vi (x2.tmod (6:Int))),(14,vi ((2:Int)+(x3.tmod (3:Int)))),(15,pt 15),(16,vi i.2)] [(15,bx [.d (DL i.1.rects_)])] ⟨KAt.CC (rotation_Repeats_spec P0) Tryz.call84 [],⟨⟩⟩ ?_
 refine AW.seq ?_
 obtain ⟨B0,h⟩:=gS h
 obtain ⟨u,R0,h⟩:=bS h
 refine AW.G Fm [.s,.s,.s,.s,.s,.s,.k (cE [] [] (.t [.g [.d (DL u.1.rects_)],.c (ci u.2)]) [] []),.s,.s,.s,.s,.s,.s] (fun K=>(_∧True)∧K 6∧True) [(8,AL z6.2),(9,AL z8.2.1),(12,AL j.2),(13,vi (x2.tmod (6:Int))),(14,vi ((2:Int)+(x3.tmod (3:Int)))),(15,pt 15),(16,vi i.2),(17,pt 17),(18,vi u.2)] [(15,bx [.d (DL i.1.rects_)]),(17,bx [.d (DL u.1.rects_)])] ⟨⟨B0,⟨⟩⟩,KAt.CC (rotation_Repeats_spec R0) Tryz.call84 [],⟨⟩⟩ ?_
 refine AW.seq (AW.join (r:=r) (fun z:Bool=>law19_RotationRepeats_k0 F x2 x3 z6 z8 j i z) (fun z=>[(8,AL z6.2),(9,AL z8.2.1),(12,AL j.2),(13,vi (x2.tmod (6:Int))),(14,vi ((2:Int)+(x3.tmod (3:Int)))),(15,pt 15),(77,vb z)]) (fun z=>[(15,bx [.d (DL i.1.rects_)])]) (fun n1 h=>?_) (fun Z0 B=>?_))
 ·refine AW.cN h (fun m0 h=>?_) (fun m0 h=>?_)
  ·refine AW.SG0 Fm 1 [(6,vb false)] [] ?_
   refine AW.ret ?_
   obtain rfl:=Option.some.inj h
   exact Kn.D Fm
  ·refine AW.skip (AW.join (r:=r) (fun z:Unit=>law19_RotationRepeats_k11 F) (fun z=>[]) (fun z=>[]) (fun z h=>?_) (fun m1 k0=>?_))
   ·refine AW.seq ?_
    obtain ⟨X,X0,h⟩:=bS h
    refine AW.G Fm [.k (cE [] [] (vb X) [] []),.s] (fun K=>K 0∧True) [(6,vb X)] [] ⟨KAt.CC (law19_awake_spec X0) Tryz.call83 [],⟨⟩⟩ ?_
    refine AW.ret ?_
    obtain rfl:=Option.some.inj h
    exact Kn.D Fm
   ·refine AW.SG0 Fm 3 [(8,AL z6.2),(12,AL j.2),(13,vi (x2.tmod (6:Int))),(14,vi ((2:Int)+(x3.tmod (3:Int)))),(15,pt 15),(78,AL z8.2.1),(79,vi (lI z8.2.1)),(80,vi 0)] [(15,bx [.d (DL i.1.rects_)])] ?_
    refine AW.block (AW.loopF (E' := fun z=>[(8,AL z6.2),(12,AL j.2),(13,vi (x2.tmod (6:Int))),(14,vi ((2:Int)+(x3.tmod (3:Int)))),(15,pt 15),(78,AL z8.2.1),(79,vi (lI z8.2.1)),(80,vi z)]) (S' := fun z=>[(15,bx [.d (DL i.1.rects_)])]) (fun Y e Y0 a0 h=>?_) h)
    refine AW.SG0 Fm 1 [(8,AL z6.2),(12,AL j.2),(13,vi (x2.tmod (6:Int))),(14,vi ((2:Int)+(x3.tmod (3:Int)))),(15,pt 15),(78,AL z8.2.1),(79,vi (lI z8.2.1)),(80,vi e),(81,vb (decide (e<(lI z8.2.1))))] [(15,bx [.d (DL i.1.rects_)])] ?_
    refine AW.seq (AW.cN h (fun l0 h=>?_) (fun l0 h=>?_))
    ·refine AW.skip (AW.join (r:=r) (fun z:Unit=>law19_RotationRepeats_k10 F e Y) (fun z=>[(8,AL z6.2),(12,AL j.2),(13,vi (x2.tmod (6:Int))),(14,vi ((2:Int)+(x3.tmod (3:Int)))),(15,pt 15),(78,AL z8.2.1),(79,vi (lI z8.2.1)),(80,vi e)]) (fun z=>[(15,bx [.d (DL i.1.rects_)])]) (fun z h=>?_) (fun l1 j0=>?_))
     ·obtain ⟨N0,h⟩:=gS h
      refine AW.pN Fm [.s,.s] [(8,AL z6.2),(12,AL j.2),(13,vi (x2.tmod (6:Int))),(14,vi ((2:Int)+(x3.tmod (3:Int)))),(15,pt 15),(78,AL z8.2.1),(79,vi (lI z8.2.1)),(80,vi (e+1))] [(15,bx [.d (DL i.1.rects_)])] (cT (cT N0)) ?_
      exact Kn.R Fm (a0 (e+1) h)
     ·refine AW.block ?_
      obtain ⟨D0,h⟩:=gS h
      refine AW.SP Fm [.s,.s,.s,.s] [(8,AL z6.2),(12,AL j.2),(13,vi (x2.tmod (6:Int))),(14,vi ((2:Int)+(x3.tmod (3:Int)))),(15,pt 15),(20,pt 20),(78,AL z8.2.1),(79,vi (lI z8.2.1)),(80,vi e)] [(15,bx [.d (DL i.1.rects_)]),(20,bx [ci ((gl z8.2.1 e.toNat).parcel_),.d (DL (α:=Rect) (gl z8.2.1 e.toNat).region_.rects_),ci ((gl z8.2.1 e.toNat).crop_),ci ((gl z8.2.1 e.toNat).schemes_)])] (cT D0) ?_
      refine AW.SG0 Fm 1 [(8,AL z6.2),(12,AL j.2),(13,vi (x2.tmod (6:Int))),(14,vi ((2:Int)+(x3.tmod (3:Int)))),(15,pt 15),(20,pt 20),(21,vi 0),(78,AL z8.2.1),(79,vi (lI z8.2.1)),(80,vi e)] [(15,bx [.d (DL i.1.rects_)]),(20,bx [ci ((gl z8.2.1 e.toNat).parcel_),.d (DL (α:=Rect) (gl z8.2.1 e.toNat).region_.rects_),ci ((gl z8.2.1 e.toNat).crop_),ci ((gl z8.2.1 e.toNat).schemes_)])] ?_
      refine AW.block (AW.loopF (E' := fun z=>[(8,AL z6.2),(12,AL j.2),(13,vi (x2.tmod (6:Int))),(14,vi ((2:Int)+(x3.tmod (3:Int)))),(15,pt 15),(20,pt 20),(21,vi z),(78,AL z8.2.1),(79,vi (lI z8.2.1)),(80,vi e)]) (S' := fun z=>[(15,bx [.d (DL i.1.rects_)]),(20,bx [ci ((gl z8.2.1 e.toNat).parcel_),.d (DL (α:=Rect) (gl z8.2.1 e.toNat).region_.rects_),ci ((gl z8.2.1 e.toNat).crop_),ci ((gl z8.2.1 e.toNat).schemes_)])]) (fun Z l a1 b0 h=>?_) h)
      refine AW.seq (AW.SG0 Fm 2 [(8,AL z6.2),(12,AL j.2),(13,vi (x2.tmod (6:Int))),(14,vi ((2:Int)+(x3.tmod (3:Int)))),(15,pt 15),(20,pt 20),(21,vi l),(78,AL z8.2.1),(79,vi (lI z8.2.1)),(80,vi e),(85,vb (decide (l<(9:Int))))] [(15,bx [.d (DL i.1.rects_)]),(20,bx [ci ((gl z8.2.1 e.toNat).parcel_),.d (DL (α:=Rect) (gl z8.2.1 e.toNat).region_.rects_),ci ((gl z8.2.1 e.toNat).crop_),ci ((gl z8.2.1 e.toNat).schemes_)])] ?_)
      refine AW.cN h (fun n0 h=>?_) (fun n0 h=>?_)
      ·refine AW.skip (AW.join (r:=r) (fun z:Unit=>law19_RotationRepeats_k9 F l Z) (fun z=>[(8,AL z6.2),(12,AL j.2),(13,vi (x2.tmod (6:Int))),(14,vi ((2:Int)+(x3.tmod (3:Int)))),(15,pt 15),(20,pt 20),(21,vi l),(78,AL z8.2.1),(79,vi (lI z8.2.1)),(80,vi e)]) (fun z=>[(15,bx [.d (DL i.1.rects_)]),(20,bx [ci ((gl z8.2.1 e.toNat).parcel_),.d (DL (α:=Rect) (gl z8.2.1 e.toNat).region_.rects_),ci ((gl z8.2.1 e.toNat).crop_),ci ((gl z8.2.1 e.toNat).schemes_)])]) (fun z h=>?_) (fun k1 i0=>?_))
       ·obtain ⟨M0,h⟩:=gS h
        refine AW.pN Fm [.s,.s,.s] [(8,AL z6.2),(12,AL j.2),(13,vi (x2.tmod (6:Int))),(14,vi ((2:Int)+(x3.tmod (3:Int)))),(15,pt 15),(20,pt 20),(21,vi (l+(2:Int))),(78,AL z8.2.1),(79,vi (lI z8.2.1)),(80,vi e)] [(15,bx [.d (DL i.1.rects_)]),(20,bx [ci ((gl z8.2.1 e.toNat).parcel_),.d (DL (α:=Rect) (gl z8.2.1 e.toNat).region_.rects_),ci ((gl z8.2.1 e.toNat).crop_),ci ((gl z8.2.1 e.toNat).schemes_)])] (cT (cT M0)) ?_
        exact Kn.R Fm (b0 (l+(2:Int)) h)
       ·refine AW.block (AW.SG0 Fm 1 [(8,AL z6.2),(12,AL j.2),(13,vi (x2.tmod (6:Int))),(14,vi ((2:Int)+(x3.tmod (3:Int)))),(15,pt 15),(20,pt 20),(21,vi l),(22,vi 0),(78,AL z8.2.1),(79,vi (lI z8.2.1)),(80,vi e)] [(15,bx [.d (DL i.1.rects_)]),(20,bx [ci ((gl z8.2.1 e.toNat).parcel_),.d (DL (α:=Rect) (gl z8.2.1 e.toNat).region_.rects_),ci ((gl z8.2.1 e.toNat).crop_),ci ((gl z8.2.1 e.toNat).schemes_)])] ?_)
        refine AW.block (AW.loopF (E' := fun z=>[(8,AL z6.2),(12,AL j.2),(13,vi (x2.tmod (6:Int))),(14,vi ((2:Int)+(x3.tmod (3:Int)))),(15,pt 15),(20,pt 20),(21,vi l),(22,vi z),(78,AL z8.2.1),(79,vi (lI z8.2.1)),(80,vi e)]) (S' := fun z=>[(15,bx [.d (DL i.1.rects_)]),(20,bx [ci ((gl z8.2.1 e.toNat).parcel_),.d (DL (α:=Rect) (gl z8.2.1 e.toNat).region_.rects_),ci ((gl z8.2.1 e.toNat).crop_),ci ((gl z8.2.1 e.toNat).schemes_)])]) (fun A m b1 c0 h=>?_) h)
        refine AW.seq (AW.SG0 Fm 2 [(8,AL z6.2),(12,AL j.2),(13,vi (x2.tmod (6:Int))),(14,vi ((2:Int)+(x3.tmod (3:Int)))),(15,pt 15),(20,pt 20),(21,vi l),(22,vi m),(78,AL z8.2.1),(79,vi (lI z8.2.1)),(80,vi e),(89,vb (decide (m<(9:Int))))] [(15,bx [.d (DL i.1.rects_)]),(20,bx [ci ((gl z8.2.1 e.toNat).parcel_),.d (DL (α:=Rect) (gl z8.2.1 e.toNat).region_.rects_),ci ((gl z8.2.1 e.toNat).crop_),ci ((gl z8.2.1 e.toNat).schemes_)])] ?_)
        refine AW.cN h (fun o0 h=>?_) (fun o0 h=>?_)
        ·refine AW.skip (AW.join (r:=r) (fun z:Unit=>law19_RotationRepeats_k8 F m A) (fun z=>[(8,AL z6.2),(12,AL j.2),(13,vi (x2.tmod (6:Int))),(14,vi ((2:Int)+(x3.tmod (3:Int)))),(15,pt 15),(20,pt 20),(21,vi l),(22,vi m),(78,AL z8.2.1),(79,vi (lI z8.2.1)),(80,vi e)]) (fun z=>[(15,bx [.d (DL i.1.rects_)]),(20,bx [ci ((gl z8.2.1 e.toNat).parcel_),.d (DL (α:=Rect) (gl z8.2.1 e.toNat).region_.rects_),ci ((gl z8.2.1 e.toNat).crop_),ci ((gl z8.2.1 e.toNat).schemes_)])]) (fun z h=>?_) (fun j1 T=>?_))
         ·obtain ⟨L0,h⟩:=gS h
          refine AW.pN Fm [.s,.s,.s] [(8,AL z6.2),(12,AL j.2),(13,vi (x2.tmod (6:Int))),(14,vi ((2:Int)+(x3.tmod (3:Int)))),(15,pt 15),(20,pt 20),(21,vi l),(22,vi (m+(3:Int))),(78,AL z8.2.1),(79,vi (lI z8.2.1)),(80,vi e)] [(15,bx [.d (DL i.1.rects_)]),(20,bx [ci ((gl z8.2.1 e.toNat).parcel_),.d (DL (α:=Rect) (gl z8.2.1 e.toNat).region_.rects_),ci ((gl z8.2.1 e.toNat).crop_),ci ((gl z8.2.1 e.toNat).schemes_)])] (cT (cT L0)) ?_
          exact Kn.R Fm (c0 (m+(3:Int)) h)
         ·refine AW.block (AW.seq (AW.seq ?_))
          obtain ⟨W,U0,h⟩:=bS h
          refine AW.G Fm [.s,.s,.s,.s,.k (cE [] [] (vb W) [] []),.s] (fun K=>K 4∧True) [(8,AL z6.2),(12,AL j.2),(13,vi (x2.tmod (6:Int))),(14,vi ((2:Int)+(x3.tmod (3:Int)))),(15,pt 15),(20,pt 20),(21,vi l),(22,vi m),(78,AL z8.2.1),(79,vi (lI z8.2.1)),(80,vi e),(97,vb (!W))] [(15,bx [.d (DL i.1.rects_)]),(20,bx [ci ((gl z8.2.1 e.toNat).parcel_),.d (DL (α:=Rect) (gl z8.2.1 e.toNat).region_.rects_),ci ((gl z8.2.1 e.toNat).crop_),ci ((gl z8.2.1 e.toNat).schemes_)])] ⟨KAt.CC (ref04_Has_spec U0) Tryz.call19 [],⟨⟩⟩ ?_
          refine AW.cN h (fun p0 h=>?_) (fun p0 h=>?_)
          ·exact AW.exit (Kn.R Fm (T () h))
          ·refine AW.skip ?_
           obtain ⟨E0,h⟩:=gS h
           refine AW.SP Fm [.s,.s,.s,.s,.s,.s,.s,.s,.s] [(8,AL z6.2),(12,AL j.2),(13,vi (x2.tmod (6:Int))),(14,vi ((2:Int)+(x3.tmod (3:Int)))),(15,pt 15),(20,pt 20),(21,vi l),(22,vi m),(23,vb ((band .i64 ((gl z6.2 ((gl z8.2.1 e.toNat).crop_).toNat).marks_) (3:Int))==(0:Int))),(78,AL z8.2.1),(79,vi (lI z8.2.1)),(80,vi e)] [(15,bx [.d (DL i.1.rects_)]),(20,bx [ci ((gl z8.2.1 e.toNat).parcel_),.d (DL (α:=Rect) (gl z8.2.1 e.toNat).region_.rects_),ci ((gl z8.2.1 e.toNat).crop_),ci ((gl z8.2.1 e.toNat).schemes_)])] (cT E0) ?_
           refine AW.join (r:=r) (fun z:Bool=>law19_RotationRepeats_k7 F i l m A z) (fun z=>[(8,AL z6.2),(12,AL j.2),(13,vi (x2.tmod (6:Int))),(14,vi ((2:Int)+(x3.tmod (3:Int)))),(15,pt 15),(20,pt 20),(21,vi l),(22,vi m),(23,vb z),(78,AL z8.2.1),(79,vi (lI z8.2.1)),(80,vi e)]) (fun z=>[(15,bx [.d (DL i.1.rects_)]),(20,bx [ci ((gl z8.2.1 e.toNat).parcel_),.d (DL (α:=Rect) (gl z8.2.1 e.toNat).region_.rects_),ci ((gl z8.2.1 e.toNat).crop_),ci ((gl z8.2.1 e.toNat).schemes_)])]) (fun L h=>?_) (fun i1 e0=>?_)
           ·refine AW.seq ?_
            obtain ⟨y,W0,h⟩:=bS h
            refine AW.G Fm [.s,.s,.s,.k (cE [] [] (vb y) [] []),.s,.k (sE (vb (!(y==L))))] (fun K=>K 3∧K 5∧True) [(8,AL z6.2),(12,AL j.2),(13,vi (x2.tmod (6:Int))),(14,vi ((2:Int)+(x3.tmod (3:Int)))),(15,pt 15),(20,pt 20),(21,vi l),(22,vi m),(78,AL z8.2.1),(79,vi (lI z8.2.1)),(80,vi e),(144,vb (!(y==L)))] [(15,bx [.d (DL i.1.rects_)]),(20,bx [ci ((gl z8.2.1 e.toNat).parcel_),.d (DL (α:=Rect) (gl z8.2.1 e.toNat).region_.rects_),ci ((gl z8.2.1 e.toNat).crop_),ci ((gl z8.2.1 e.toNat).schemes_)])] ⟨KAt.CC (ref04_Has_spec W0) Tryz.call19 [],KAt.eqb (t:=4) (by kernel_rfl) false (a:=y) (b:=L) rfl rfl (by kernel_rfl) (by kernel_rfl) (by kernel_rfl),⟨⟩⟩ ?_
            refine AW.cN h (fun s0 h=>?_) (fun s0 h=>?_)
            ·refine AW.SG0 Fm 1 [(6,vb false)] [] ?_
             refine AW.ret ?_
             obtain rfl:=Option.some.inj h
             exact Kn.D Fm
            ·exact AW.skip (Kn.R Fm (T () h))
           ·obtain ⟨G0,h⟩:=gS h
            refine AW.SP Fm [.s,.s,.s] [(8,AL z6.2),(12,AL j.2),(13,vi (x2.tmod (6:Int))),(14,vi ((2:Int)+(x3.tmod (3:Int)))),(15,pt 15),(20,pt 20),(21,vi l),(22,vi m),(23,vb ((band .i64 ((gl z6.2 ((gl z8.2.1 e.toNat).crop_).toNat).marks_) (3:Int))==(0:Int))),(24,vi ((x2.tmod (6:Int))-1)),(78,AL z8.2.1),(79,vi (lI z8.2.1)),(80,vi e)] [(15,bx [.d (DL i.1.rects_)]),(20,bx [ci ((gl z8.2.1 e.toNat).parcel_),.d (DL (α:=Rect) (gl z8.2.1 e.toNat).region_.rects_),ci ((gl z8.2.1 e.toNat).crop_),ci ((gl z8.2.1 e.toNat).schemes_)])] (cT (cT G0)) ?_
            refine AW.block (AW.loopF (E' := fun z=>[(8,AL z6.2),(12,AL j.2),(13,vi (x2.tmod (6:Int))),(14,vi ((2:Int)+(x3.tmod (3:Int)))),(15,pt 15),(20,pt 20),(21,vi l),(22,vi m),(23,vb z.1),(24,vi z.2),(78,AL z8.2.1),(79,vi (lI z8.2.1)),(80,vi e)]) (S' := fun z=>[(15,bx [.d (DL i.1.rects_)]),(20,bx [ci ((gl z8.2.1 e.toNat).parcel_),.d (DL (α:=Rect) (gl z8.2.1 e.toNat).region_.rects_),ci ((gl z8.2.1 e.toNat).crop_),ci ((gl z8.2.1 e.toNat).schemes_)])]) (fun N z c1 d0 h=>?_) h)
            obtain ⟨p,o⟩:=z
            refine AW.seq (AW.join (r:=r) (fun z:Bool=>law19_RotationRepeats_k5 F z6 z8 j i e l m p o N A z) (fun z=>[(8,AL z6.2),(12,AL j.2),(13,vi (x2.tmod (6:Int))),(14,vi ((2:Int)+(x3.tmod (3:Int)))),(15,pt 15),(20,pt 20),(21,vi l),(22,vi m),(23,vb p),(24,vi o),(78,AL z8.2.1),(79,vi (lI z8.2.1)),(80,vi e),(115,vb z)]) (fun z=>[(15,bx [.d (DL i.1.rects_)]),(20,bx [ci ((gl z8.2.1 e.toNat).parcel_),.d (DL (α:=Rect) (gl z8.2.1 e.toNat).region_.rects_),ci ((gl z8.2.1 e.toNat).crop_),ci ((gl z8.2.1 e.toNat).schemes_)])]) (fun o1 h=>?_) (fun d1 O=>?_))
            ·refine AW.cN h (fun q0 h=>?_) (fun q0 h=>?_)
             ·refine AW.skip (AW.join (r:=r) (fun z:Bool=>law19_RotationRepeats_k6 F o N z) (fun z=>[(8,AL z6.2),(12,AL j.2),(13,vi (x2.tmod (6:Int))),(14,vi ((2:Int)+(x3.tmod (3:Int)))),(15,pt 15),(20,pt 20),(21,vi l),(22,vi m),(23,vb z),(24,vi o),(78,AL z8.2.1),(79,vi (lI z8.2.1)),(80,vi e)]) (fun z=>[(15,bx [.d (DL i.1.rects_)]),(20,bx [ci ((gl z8.2.1 e.toNat).parcel_),.d (DL (α:=Rect) (gl z8.2.1 e.toNat).region_.rects_),ci ((gl z8.2.1 e.toNat).crop_),ci ((gl z8.2.1 e.toNat).schemes_)])]) (fun V h=>?_) (fun e1 P=>?_))
              ·obtain ⟨K0,h⟩:=gS h
               refine AW.pN Fm [.s,.s,.s] [(8,AL z6.2),(12,AL j.2),(13,vi (x2.tmod (6:Int))),(14,vi ((2:Int)+(x3.tmod (3:Int)))),(15,pt 15),(20,pt 20),(21,vi l),(22,vi m),(23,vb V),(24,vi (o-1)),(78,AL z8.2.1),(79,vi (lI z8.2.1)),(80,vi e)] [(15,bx [.d (DL i.1.rects_)]),(20,bx [ci ((gl z8.2.1 e.toNat).parcel_),.d (DL (α:=Rect) (gl z8.2.1 e.toNat).region_.rects_),ci ((gl z8.2.1 e.toNat).crop_),ci ((gl z8.2.1 e.toNat).schemes_)])] (cT (cT K0)) ?_
               exact Kn.R Fm (d0 (V,(o-1)) h)
              ·refine AW.block (AW.seq ?_)
               obtain ⟨n,V0,h⟩:=bS h
               refine AW.G Fm [.s,.s,.s,.s,.k (cE [] [] (vi n) [] []),.s] (fun K=>K 4∧True) [(8,AL z6.2),(12,AL j.2),(13,vi (x2.tmod (6:Int))),(14,vi ((2:Int)+(x3.tmod (3:Int)))),(15,pt 15),(20,pt 20),(21,vi l),(22,vi m),(24,vi o),(25,vi n),(78,AL z8.2.1),(79,vi (lI z8.2.1)),(80,vi e)] [(15,bx [.d (DL i.1.rects_)]),(20,bx [ci ((gl z8.2.1 e.toNat).parcel_),.d (DL (α:=Rect) (gl z8.2.1 e.toNat).region_.rects_),ci ((gl z8.2.1 e.toNat).crop_),ci ((gl z8.2.1 e.toNat).schemes_)])] ⟨KAt.CC (ref15_At_spec V0) Tryz.call35 [],⟨⟩⟩ ?_
               rcases br_or h with ⟨I,h⟩|⟨I,h⟩
               ·obtain ⟨H0,I0,h⟩:=gS2 h
                refine AW.pN Fm [.s,.s,.w (vb true),.s,.s,.s,.s,.s,.s,.s,.s,.s,.s,.s,.s,.s,.s] [(8,AL z6.2),(12,AL j.2),(13,vi (x2.tmod (6:Int))),(14,vi ((2:Int)+(x3.tmod (3:Int)))),(15,pt 15),(20,pt 20),(21,vi l),(22,vi m),(23,vb (((gl z6.2 n.toNat).family_)==((gl z6.2 ((gl z8.2.1 e.toNat).crop_).toNat).family_))),(24,vi o),(78,AL z8.2.1),(79,vi (lI z8.2.1)),(80,vi e),(126,AL z6.2),(127,vi n),(128,.v (.c (.elm [.str (gl z6.2 n.toNat).name_,.int .i64 (gl z6.2 n.toNat).family_,.int .i64 (gl z6.2 n.toNat).marks_]))),(129,.v (.c (.elm [.int .i64 (gl z6.2 n.toNat).family_,.int .i64 (gl z6.2 n.toNat).marks_]))),(130,vi (gl z6.2 n.toNat).family_),(131,AL z6.2),(132,.v (.c (.ptr 20 2))),(133,vi (gl z8.2.1 e.toNat).crop_),(134,.v (.c (.elm [.str (gl z6.2 ((gl z8.2.1 e.toNat).crop_).toNat).name_,.int .i64 (gl z6.2 ((gl z8.2.1 e.toNat).crop_).toNat).family_,.int .i64 (gl z6.2 ((gl z8.2.1 e.toNat).crop_).toNat).marks_]))),(135,.v (.c (.elm [.int .i64 (gl z6.2 ((gl z8.2.1 e.toNat).crop_).toNat).family_,.int .i64 (gl z6.2 ((gl z8.2.1 e.toNat).crop_).toNat).marks_]))),(136,vi (gl z6.2 ((gl z8.2.1 e.toNat).crop_).toNat).family_),(137,vb (((gl z6.2 n.toNat).family_)==((gl z6.2 ((gl z8.2.1 e.toNat).crop_).toNat).family_)))] [(15,bx [.d (DL i.1.rects_)]),(20,bx [ci ((gl z8.2.1 e.toNat).parcel_),.d (DL (α:=Rect) (gl z8.2.1 e.toNat).region_.rects_),ci ((gl z8.2.1 e.toNat).crop_),ci ((gl z8.2.1 e.toNat).schemes_)])] (cA (ALe.bool I) (cA H0 (cT I0))) ?_
                exact Kn.R Fm (P (((gl z6.2 n.toNat).family_)==((gl z6.2 ((gl z8.2.1 e.toNat).crop_).toNat).family_)) h)
               ·refine AW.pN Fm [.s,.s,.w (vb false),.s,.s,.s,.s,.s,.s,.s,.s,.s,.s,.s,.s,.s,.s] [(8,AL z6.2),(12,AL j.2),(13,vi (x2.tmod (6:Int))),(14,vi ((2:Int)+(x3.tmod (3:Int)))),(15,pt 15),(20,pt 20),(21,vi l),(22,vi m),(23,vb false),(24,vi o),(78,AL z8.2.1),(79,vi (lI z8.2.1)),(80,vi e)] [(15,bx [.d (DL i.1.rects_)]),(20,bx [ci ((gl z8.2.1 e.toNat).parcel_),.d (DL (α:=Rect) (gl z8.2.1 e.toNat).region_.rects_),ci ((gl z8.2.1 e.toNat).crop_),ci ((gl z8.2.1 e.toNat).schemes_)])] (cT (ALe.bool I)) ?_
                exact Kn.R Fm (P false h)
             ·exact AW.exit (Kn.R Fm (e0 p h))
            ·obtain ⟨U,h⟩:=gS h
             rcases br_or h with ⟨H,h⟩|⟨H,h⟩
             ·refine AW.pN Fm [.s,.s,.s,.s,.s,.w (vb true),.s,.s] [(8,AL z6.2),(12,AL j.2),(13,vi (x2.tmod (6:Int))),(14,vi ((2:Int)+(x3.tmod (3:Int)))),(15,pt 15),(20,pt 20),(21,vi l),(22,vi m),(23,vb p),(24,vi o),(78,AL z8.2.1),(79,vi (lI z8.2.1)),(80,vi e),(114,vb p),(115,vb p)] [(15,bx [.d (DL i.1.rects_)]),(20,bx [ci ((gl z8.2.1 e.toNat).parcel_),.d (DL (α:=Rect) (gl z8.2.1 e.toNat).region_.rects_),ci ((gl z8.2.1 e.toNat).crop_),ci ((gl z8.2.1 e.toNat).schemes_)])] (cA (cT U) (cT (ALe.bool H))) ?_
              exact Kn.R Fm (O p h)
             ·refine AW.pN Fm [.s,.s,.s,.s,.s,.w (vb false),.s,.s] [(8,AL z6.2),(12,AL j.2),(13,vi (x2.tmod (6:Int))),(14,vi ((2:Int)+(x3.tmod (3:Int)))),(15,pt 15),(20,pt 20),(21,vi l),(22,vi m),(23,vb p),(24,vi o),(78,AL z8.2.1),(79,vi (lI z8.2.1)),(80,vi e),(115,vb false)] [(15,bx [.d (DL i.1.rects_)]),(20,bx [ci ((gl z8.2.1 e.toNat).parcel_),.d (DL (α:=Rect) (gl z8.2.1 e.toNat).region_.rects_),ci ((gl z8.2.1 e.toNat).crop_),ci ((gl z8.2.1 e.toNat).schemes_)])] (cA (cT U) (cT (ALe.bool H))) ?_
              exact Kn.R Fm (O false h)
        ·exact AW.exit (Kn.R Fm (i0 () h))
      ·exact AW.exit (Kn.R Fm (j0 () h))
    ·exact AW.exit (Kn.R Fm (k0 () h))
 ·rcases br_or h with ⟨q,h⟩|⟨q,h⟩
  ·refine AW.pN Fm [.s,.s,.w (vb true),.s,.s,.s,.s,.s,.s,.s,.s,.s] [(8,AL z6.2),(9,AL z8.2.1),(12,AL j.2),(13,vi (x2.tmod (6:Int))),(14,vi ((2:Int)+(x3.tmod (3:Int)))),(15,pt 15),(77,vb true)] [(15,bx [.d (DL i.1.rects_)])] (cT (ALe.bool q)) ?_
   exact Kn.R Fm (B true h)
  ·rcases br_or h with ⟨E,h⟩|⟨E,h⟩
   ·refine AW.pN Fm [.s,.s,.w (vb false),.s,.s,.s,.w (vb true),.s,.s,.s,.s,.s] [(8,AL z6.2),(9,AL z8.2.1),(12,AL j.2),(13,vi (x2.tmod (6:Int))),(14,vi ((2:Int)+(x3.tmod (3:Int)))),(15,pt 15),(77,vb true)] [(15,bx [.d (DL i.1.rects_)])] (cA (ALe.bool q) (cT (ALe.bool E))) ?_
    exact Kn.R Fm (B true h)
   ·obtain ⟨M,T0,h⟩:=bS h
    refine AW.G Fm [.s,.s,.w (vb false),.s,.s,.s,.w (vb false),.s,.s,.k (cE [] [] (vb M) [] []),.s,.s] (fun K=>_∧_∧K 9∧True) [(8,AL z6.2),(9,AL z8.2.1),(12,AL j.2),(13,vi (x2.tmod (6:Int))),(14,vi ((2:Int)+(x3.tmod (3:Int)))),(15,pt 15),(77,vb (!M))] [(15,bx [.d (DL i.1.rects_)])] ⟨ALe.bool q,ALe.bool E,KAt.CC (ref04_Within_spec T0) Tryz.call69 [],⟨⟩⟩ ?_
    exact Kn.R Fm (B (!M) h)
end Go.Ab
end
