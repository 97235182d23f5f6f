/- The code follows the plain programs: whenever the plain program has a result. -/
import Derived.Test.YtdfbifjpedjljaaGreatAbF
set_option linter.unusedVariables false
set_option linter.unusedSimpArgs false
section
namespace Go.Ab
open Go.Proofs
set_option linter.unusedVariables false
set_option maxRecDepth 100000
theorem law19_RotationFamilies_spec {F:Nat} {x1:(List Int)} {x2:Int} {r:Bool} (h:law19_RotationFamilies F x1 x2=some r) :
  FSpec Tryz.prog 8 [AL x1,.v (.c (.d (.int .u8 x2)))] [] (vb r) []:=by
 refine FI Tryz.func8 prog_mixed prog_lay fun C Fm=>?_
 unfold law19_RotationFamilies at h
 refine AW.SG0 Fm 1 [(0,AL x1),(1,.v (.c (.d (.int .u8 x2))))] [] ?_
 refine AW.seq ?_
 obtain ⟨z3,hz4,h⟩:=bS h
 refine AW.G Fm [.s,.k (cE [(100,32)] [] (pt 100) [] [(100,bx (gC z3))]),.s] (fun K=>K 1∧True) [(1,.v (.c (.d (.int .u8 x2)))),(5,pt 32)] [(32,bx (gC z3))] ⟨KAt.CC (keep_New_spec hz4) Tryz.call13 [(100,32)],⟨⟩⟩ ?_
 refine AW.seq ?_
 obtain ⟨z5,hz6,h⟩:=bS h
 refine AW.G Fm [.s,.k (cE [(0,32)] [] (AL z5.2) [(0,bx (gC z3))] [(0,bx (gC z5.1))]),.s] (fun K=>K 1∧True) [(1,.v (.c (.d (.int .u8 x2)))),(5,pt 32),(6,AL z5.2)] [(32,bx (gC z5.1))] ⟨KAt.CC (keep_Tape_Crops_spec hz6) Tryz.call14 [(0,32)],⟨⟩⟩ ?_
 refine AW.seq ?_
 obtain ⟨z7,hz8,h⟩:=bS h
 refine AW.G Fm [.s,.s,.k (cE [(0,32)] [] (.t [.c (.d (DL z7.2.1)),.c (.d (DL z7.2.2.1)),.c (.d (DL z7.2.2.2))]) [(0,bx (gC z5.1))] [(0,bx (gC z7.1))]),.s,.s,.s,.s,.s,.s,.s] (fun K=>K 2∧True) [(1,.v (.c (.d (.int .u8 x2)))),(6,AL z5.2),(7,AL z7.2.1)] [] ⟨KAt.CC (keep_Tape_Lines_spec hz8) Tryz.call79 [(0,32)],⟨⟩⟩ ?_
 refine AW.seq ?_
 obtain ⟨z9,L0,h⟩:=bS h
 refine AW.G Fm [.s,.s,.k (cE [] [] (.t [.c (.d (DL z9.1)),.c (ci z9.2)]) [] []),.s,.s,.s,.s,.s] (fun K=>K 2∧True) [(1,.v (.c (.d (.int .u8 x2)))),(6,AL z5.2),(7,AL z7.2.1),(10,AL z9.1),(11,vi z9.2)] [] ⟨KAt.CC (rotation_Families_spec L0) Tryz.call80 [],⟨⟩⟩ ?_
 refine AW.SG0 Fm 2 [(1,.v (.c (.d (.int .u8 x2)))),(6,AL z5.2),(7,AL z7.2.1),(10,AL z9.1),(11,vi z9.2),(12,vi 0),(13,vi 0)] [] ?_
 refine AW.join (r:=r) (fun z:Int=>law19_RotationFamilies_k2 F x2 z5 z7 z9 z) (fun z=>[(1,.v (.c (.d (.int .u8 x2)))),(6,AL z5.2),(7,AL z7.2.1),(10,AL z9.1),(11,vi z9.2),(12,vi z),(13,vi 0)]) (fun z=>[]) (fun j h=>?_) (fun Y0 m0=>?_)
 ·refine AW.SW Fm [.m] (fun K=>True) [(1,.v (.c (.d (.int .u8 x2)))),(6,AL z5.2),(7,AL z7.2.1),(10,AL z9.1),(11,vi z9.2),(12,vi j),(13,vi 0),(16,ow 16)] [(16,AO (α:=Line) ([]:List Line))] True.intro [(16,.arr 4 (0) (fun _=>[]))] ⟨OLe.is ((Is.nil (α:=Line))),⟨⟩⟩ ?_
  refine AW.join (r:=r) (fun z:Int×(List Line)=>law19_RotationFamilies_k5 F z5 z7 z9 j z.1 z.2) (fun z=>[(6,AL z5.2),(7,AL z7.2.1),(10,AL z9.1),(11,vi z9.2),(12,vi j),(13,vi z.1),(16,ow 16)]) (fun z=>[(16,AO z.2)]) (fun z h=>?_) (fun b1 o0=>?_)
  ·obtain ⟨U,X⟩:=z
   refine AW.seq (Kn.r Fm [(6,AL z5.2),(7,AL z7.2.1),(10,AL z9.1),(11,vi z9.2),(12,vi j),(13,vi U),(16,ow 16)] [(16,AO X)] (by kernel_rfl) ?_)
   refine Kn.frz [(6,AL z5.2),(7,AL z7.2.1),(10,AL z9.1),(11,vi z9.2),(12,vi j),(13,vi U),(16,AL X)] [] (by kernel_rfl) (by kernel_rfl) (by kernel_rfl) ?_
   obtain ⟨H,P0,h⟩:=bS h
   refine AW.G Fm [.s,.s,.k (cE [] [] (.t [.c (.d (DL H.1)),.c (ci H.2)]) [] []),.s,.s,.s,.s,.s] (fun K=>K 2∧True) [(6,AL z5.2),(7,AL z7.2.1),(10,AL z9.1),(11,vi z9.2),(12,vi j),(13,vi U),(16,AL X),(25,AL H.1),(26,vi H.2)] [] ⟨KAt.CC (rotation_Families_spec P0) Tryz.call80 [],⟨⟩⟩ ?_
   refine AW.seq ?_
   obtain ⟨u,R0,h⟩:=bS h
   refine AW.G Fm [.s,.s,.k (cE [] [] (.t [.c (.d (.bool u.1)),.c (ci u.2)]) [] []),.s,.s,.s,.s,.s] (fun K=>K 2∧True) [(6,AL z5.2),(10,AL z9.1),(11,vi z9.2),(12,vi j),(13,vi U),(16,AL X),(25,AL H.1),(26,vi H.2),(27,vb u.1),(28,vi u.2)] [] ⟨KAt.CC (rotation_Diverse_spec R0) Tryz.call81 [],⟨⟩⟩ ?_
   refine AW.seq ?_
   obtain ⟨I,T0,h⟩:=bS h
   refine AW.G Fm [.s,.s,.k (cE [] [] (.t [.c (.d (.bool I.1)),.c (ci I.2)]) [] []),.s,.s,.s,.s,.s] (fun K=>K 2∧True) [(10,AL z9.1),(11,vi z9.2),(12,vi j),(13,vi U),(25,AL H.1),(26,vi H.2),(27,vb u.1),(28,vi u.2),(29,vb I.1),(30,vi I.2)] [] ⟨KAt.CC (rotation_Diverse_spec T0) Tryz.call81 [],⟨⟩⟩ ?_
   refine AW.join (r:=r) (fun z:Bool=>law19_RotationFamilies_k6 F z) (fun z=>[(4,vb z)]) (fun z=>[]) (fun c1 h=>?_) (fun V0 A=>?_)
   ·refine AW.ret ?_
    obtain rfl:=Option.some.inj h
    exact Kn.D Fm
   ·rcases br_or h with ⟨y,h⟩|⟨y,h⟩
    ·rcases br_or h with ⟨B,h⟩|⟨B,h⟩
     ·obtain ⟨P,O,h⟩:=bS h
      rcases br_or h with ⟨L,h⟩|⟨L,h⟩
      ·rcases br_or h with ⟨N,h⟩|⟨N,h⟩
       ·rcases br_or h with ⟨T,h⟩|⟨T,h⟩
        ·rcases br_or h with ⟨W,h⟩|⟨W,h⟩
         ·rcases br_or h with ⟨a0,h⟩|⟨a0,h⟩
          ·obtain ⟨c0,U0,h⟩:=bS h
           refine AW.G Fm [.s,.s,.w (vb true),.s,.s,.s,.w (vb true),.s,.s,.k (cE [] [] (vb P) [] []),.s,.w (vb true),.s,.s,.s,.s,.w (vb true),.s,.s,.s,.w (vb true),.s,.s,.s,.w (vb true),.s,.s,.k (sE (vb (u.1==I.1))),.s,.w (vb true),.k (cE [] [] (vb c0) [] []),.s,.s] (fun K=>_∧_∧K 9∧_∧_∧_∧_∧K 27∧_∧K 30∧True) [(4,vb c0)] [] ⟨ALe.bool y,ALe.bool B,KAt.CC (ref19_Pairs_spec O) Tryz.call82 [],ALe.bool L,ALe.bool N,ALe.bool T,ALe.bool W,KAt.eqb (t:=4) (by kernel_rfl) true (a:=u.1) (b:=I.1) rfl rfl (by kernel_rfl) (by kernel_rfl) (by kernel_rfl),ALe.bool a0,KAt.CC (law19_awake_spec U0) Tryz.call83 [],⟨⟩⟩ ?_
           exact Kn.R Fm (A c0 h)
          ·refine AW.G Fm [.s,.s,.w (vb true),.s,.s,.s,.w (vb true),.s,.s,.k (cE [] [] (vb P) [] []),.s,.w (vb true),.s,.s,.s,.s,.w (vb true),.s,.s,.s,.w (vb true),.s,.s,.s,.w (vb true),.s,.s,.k (sE (vb (u.1==I.1))),.s,.w (vb false),.s,.s,.s] (fun K=>_∧_∧K 9∧_∧_∧_∧_∧K 27∧_∧True) [(4,vb false)] [] ⟨ALe.bool y,ALe.bool B,KAt.CC (ref19_Pairs_spec O) Tryz.call82 [],ALe.bool L,ALe.bool N,ALe.bool T,ALe.bool W,KAt.eqb (t:=4) (by kernel_rfl) true (a:=u.1) (b:=I.1) rfl rfl (by kernel_rfl) (by kernel_rfl) (by kernel_rfl),ALe.bool a0,⟨⟩⟩ ?_
           exact Kn.R Fm (A false h)
         ·refine AW.G Fm [.s,.s,.w (vb true),.s,.s,.s,.w (vb true),.s,.s,.k (cE [] [] (vb P) [] []),.s,.w (vb true),.s,.s,.s,.s,.w (vb true),.s,.s,.s,.w (vb true),.s,.s,.s,.w (vb false),.s,.s,.s,.s,.s,.s,.s,.s] (fun K=>_∧_∧K 9∧_∧_∧_∧_∧True) [(4,vb false)] [] ⟨ALe.bool y,ALe.bool B,KAt.CC (ref19_Pairs_spec O) Tryz.call82 [],ALe.bool L,ALe.bool N,ALe.bool T,ALe.bool W,⟨⟩⟩ ?_
          exact Kn.R Fm (A false h)
        ·refine AW.G Fm [.s,.s,.w (vb true),.s,.s,.s,.w (vb true),.s,.s,.k (cE [] [] (vb P) [] []),.s,.w (vb true),.s,.s,.s,.s,.w (vb true),.s,.s,.s,.w (vb false),.s,.s,.s,.s,.s,.s,.s,.s,.s,.s,.s,.s] (fun K=>_∧_∧K 9∧_∧_∧_∧True) [(4,vb false)] [] ⟨ALe.bool y,ALe.bool B,KAt.CC (ref19_Pairs_spec O) Tryz.call82 [],ALe.bool L,ALe.bool N,ALe.bool T,⟨⟩⟩ ?_
         exact Kn.R Fm (A false h)
       ·refine AW.G Fm [.s,.s,.w (vb true),.s,.s,.s,.w (vb true),.s,.s,.k (cE [] [] (vb P) [] []),.s,.w (vb true),.s,.s,.s,.s,.w (vb false),.s,.s,.s,.s,.s,.s,.s,.s,.s,.s,.s,.s,.s,.s,.s,.s] (fun K=>_∧_∧K 9∧_∧_∧True) [(4,vb false)] [] ⟨ALe.bool y,ALe.bool B,KAt.CC (ref19_Pairs_spec O) Tryz.call82 [],ALe.bool L,ALe.bool N,⟨⟩⟩ ?_
        exact Kn.R Fm (A false h)
      ·refine AW.G Fm [.s,.s,.w (vb true),.s,.s,.s,.w (vb true),.s,.s,.k (cE [] [] (vb P) [] []),.s,.w (vb false),.s,.s,.s,.s,.s,.s,.s,.s,.s,.s,.s,.s,.s,.s,.s,.s,.s,.s,.s,.s,.s] (fun K=>_∧_∧K 9∧_∧True) [(4,vb false)] [] ⟨ALe.bool y,ALe.bool B,KAt.CC (ref19_Pairs_spec O) Tryz.call82 [],ALe.bool L,⟨⟩⟩ ?_
       exact Kn.R Fm (A false h)
     ·refine AW.pN Fm [.s,.s,.w (vb true),.s,.s,.s,.w (vb false),.s,.s,.s,.s,.s,.s,.s,.s,.s,.s,.s,.s,.s,.s,.s,.s,.s,.s,.s,.s,.s,.s,.s,.s,.s,.s] [(4,vb false)] [] (cA (ALe.bool y) (cT (ALe.bool B))) ?_
      exact Kn.R Fm (A false h)
    ·refine AW.pN Fm [.s,.s,.w (vb false),.s,.s,.s,.s,.s,.s,.s,.s,.s,.s,.s,.s,.s,.s,.s,.s,.s,.s,.s,.s,.s,.s,.s,.s,.s,.s,.s,.s,.s,.s] [(4,vb false)] [] (cT (ALe.bool y)) ?_
     exact Kn.R Fm (A false h)
  ·refine AW.SG0 Fm 3 [(1,.v (.c (.d (.int .u8 x2)))),(6,AL z5.2),(7,AL z7.2.1),(10,AL z9.1),(11,vi z9.2),(12,vi j),(13,vi 0),(16,ow 16),(78,AL z7.2.1),(79,vi (lI z7.2.1)),(80,vi 0)] [(16,AO (α:=Line) ([]:List Line))] ?_
   refine AW.block (Kn.r Fm [(1,.v (.c (.d (.int .u8 x2)))),(6,AL z5.2),(7,AL z7.2.1),(10,AL z9.1),(11,vi z9.2),(12,vi j),(13,vi 0),(16,ow 16),(78,AL z7.2.1),(79,vi (lI z7.2.1)),(80,vi 0)] [(16,AO ([]:List Line))] (by kernel_rfl) ?_)
   refine AW.loopF (E' := fun z=>[(1,.v (.c (.d (.int .u8 x2)))),(6,AL z5.2),(7,AL z7.2.1),(10,AL z9.1),(11,vi z9.2),(12,vi j),(13,vi z.1),(16,ow 16),(78,AL z7.2.1),(79,vi (lI z7.2.1)),(80,vi z.2.1)]) (S' := fun z=>[(16,AO z.2.2)]) (fun k0 z Z0 n0 h=>?_) h
   obtain ⟨M,e,o⟩:=z
   refine AW.SG0 Fm 1 [(1,.v (.c (.d (.int .u8 x2)))),(6,AL z5.2),(7,AL z7.2.1),(10,AL z9.1),(11,vi z9.2),(12,vi j),(13,vi M),(16,ow 16),(78,AL z7.2.1),(79,vi (lI z7.2.1)),(80,vi e),(81,vb (decide (e<(lI z7.2.1))))] [(16,AO o)] ?_
   refine AW.seq (AW.cN h (fun s0 h=>?_) (fun s0 h=>?_))
   ·refine AW.skip (AW.seq (AW.block ?_))
    obtain ⟨A0,h⟩:=gS h
    refine AW.SP Fm [.s,.s,.s,.s] [(1,.v (.c (.d (.int .u8 x2)))),(6,AL z5.2),(7,AL z7.2.1),(10,AL z9.1),(11,vi z9.2),(12,vi j),(13,vi M),(16,ow 16),(18,pt 18),(78,AL z7.2.1),(79,vi (lI z7.2.1)),(80,vi e)] [(16,AO o),(18,bx [ci ((gl z7.2.1 e.toNat).parcel_),.d (DL (α:=Rect) (gl z7.2.1 e.toNat).region_.rects_),ci ((gl z7.2.1 e.toNat).crop_),ci ((gl z7.2.1 e.toNat).schemes_)])] (cT A0) ?_
    refine AW.join (r:=r) (fun z:Int=>law19_RotationFamilies_k4 F x2 z7 e o k0 z) (fun z=>[(1,.v (.c (.d (.int .u8 x2)))),(6,AL z5.2),(7,AL z7.2.1),(10,AL z9.1),(11,vi z9.2),(12,vi j),(13,vi z),(16,ow 16),(18,pt 18),(78,AL z7.2.1),(79,vi (lI z7.2.1)),(80,vi e)]) (fun z=>[(16,AO o),(18,bx [ci ((gl z7.2.1 e.toNat).parcel_),.d (DL (α:=Rect) (gl z7.2.1 e.toNat).region_.rects_),ci ((gl z7.2.1 e.toNat).crop_),ci ((gl z7.2.1 e.toNat).schemes_)])]) (fun E h=>?_) (fun a1 d0=>?_)
    ·obtain ⟨E0,G0,H0,h⟩:=gS3 h
     refine AW.SP Fm [.s,.s,.s,.s,.s,.w (AL (α:=Rect) ([(⟨0,0,((1:Int)+(x2.tmod (30:Int))),(20:Int)⟩ : Rect)]:List Rect)),.s,.s,.s] [(1,.v (.c (.d (.int .u8 x2)))),(6,AL z5.2),(7,AL z7.2.1),(10,AL z9.1),(11,vi z9.2),(12,vi j),(13,vi E),(16,ow 16),(18,pt 18),(19,pt 19),(78,AL z7.2.1),(79,vi (lI z7.2.1)),(80,vi e)] [(16,AO o),(18,bx [ci ((gl z7.2.1 e.toNat).parcel_),.d (DL (α:=Rect) (gl z7.2.1 e.toNat).region_.rects_),ci ((gl z7.2.1 e.toNat).crop_),ci ((gl z7.2.1 e.toNat).schemes_)]),(19,bx [.d (DL (α:=Rect) ([(⟨0,0,((1:Int)+(x2.tmod (30:Int))),(20:Int)⟩ : Rect)]:List Rect))])] (cA (cT E0) (cA G0 (cA (cT H0) (cT (ALe.lst (.lit ([(⟨0,0,((1:Int)+(x2.tmod (30:Int))),(20:Int)⟩ : Rect)]:List Rect) (by kernel_rfl)):ALe (.v (.c (.d (.lst 1 (litF 4 [.int .i64 0,.int .i64 0,.int .i64 ((1:Int)+(x2.tmod (30:Int))),.int .i64 (20:Int)]))))) (AL (α:=Rect) ([(⟨0,0,((1:Int)+(x2.tmod (30:Int))),(20:Int)⟩ : Rect)]:List Rect))))))) ?_
     refine AW.seq ?_
     obtain ⟨l,N0,h⟩:=bS h
     refine AW.G Fm [.s,.s,.s,.k (cE [] [] (.t [.g [.d (DL l.1.rects_)],.c (ci l.2)]) [] []),.s,.s,.s,.s,.s,.s] (fun K=>K 3∧True) [(1,.v (.c (.d (.int .u8 x2)))),(6,AL z5.2),(7,AL z7.2.1),(10,AL z9.1),(11,vi z9.2),(12,vi j),(13,vi E),(16,ow 16),(18,pt 18),(19,pt 19),(20,pt 20),(78,AL z7.2.1),(79,vi (lI z7.2.1)),(80,vi e)] [(16,AO o),(18,bx [ci ((gl z7.2.1 e.toNat).parcel_),.d (DL (α:=Rect) (gl z7.2.1 e.toNat).region_.rects_),ci ((gl z7.2.1 e.toNat).crop_),ci ((gl z7.2.1 e.toNat).schemes_)]),(19,bx [.d (DL (α:=Rect) ([(⟨0,0,((1:Int)+(x2.tmod (30:Int))),(20:Int)⟩ : Rect)]:List Rect))]),(20,bx [.d (DL l.1.rects_)])] ⟨KAt.CC (ref04_Both_spec N0) Tryz.call67 [],⟨⟩⟩ ?_
     refine AW.seq ?_
     obtain ⟨p,O0,h⟩:=bS h
     refine AW.G Fm [.s,.s,.s,.k (cE [] [] (.t [.g [.d (DL p.1.rects_)],.c (ci p.2)]) [] []),.s,.s,.s,.s,.s,.s] (fun K=>K 3∧True) [(1,.v (.c (.d (.int .u8 x2)))),(6,AL z5.2),(7,AL z7.2.1),(10,AL z9.1),(11,vi z9.2),(12,vi j),(13,vi E),(16,ow 16),(18,pt 18),(20,pt 20),(22,pt 22),(78,AL z7.2.1),(79,vi (lI z7.2.1)),(80,vi e)] [(16,AO o),(18,bx [ci ((gl z7.2.1 e.toNat).parcel_),.d (DL (α:=Rect) (gl z7.2.1 e.toNat).region_.rects_),ci ((gl z7.2.1 e.toNat).crop_),ci ((gl z7.2.1 e.toNat).schemes_)]),(20,bx [.d (DL l.1.rects_)]),(22,bx [.d (DL p.1.rects_)])] ⟨KAt.CC (ref04_Without_spec O0) Tryz.call65 [],⟨⟩⟩ ?_
     refine AW.SG0 Fm 3 [(1,.v (.c (.d (.int .u8 x2)))),(6,AL z5.2),(7,AL z7.2.1),(10,AL z9.1),(11,vi z9.2),(12,vi j),(13,vi E),(16,ow 16),(18,pt 18),(20,pt 20),(22,pt 22),(24,pt 24),(78,AL z7.2.1),(79,vi (lI z7.2.1)),(80,vi e)] [(16,AO o),(18,bx [ci ((gl z7.2.1 e.toNat).parcel_),.d (DL (α:=Rect) (gl z7.2.1 e.toNat).region_.rects_),ci ((gl z7.2.1 e.toNat).crop_),ci ((gl z7.2.1 e.toNat).schemes_)]),(20,bx [.d (DL l.1.rects_)]),(22,bx [.d (DL p.1.rects_)]),(24,bx [ci ((gl z7.2.1 e.toNat).parcel_),.d (DL (α:=Rect) (gl z7.2.1 e.toNat).region_.rects_),ci ((gl z7.2.1 e.toNat).crop_),ci ((gl z7.2.1 e.toNat).schemes_)])] ?_
     refine AW.SG0 Fm 6 [(1,.v (.c (.d (.int .u8 x2)))),(6,AL z5.2),(7,AL z7.2.1),(10,AL z9.1),(11,vi z9.2),(12,vi j),(13,vi E),(16,ow 16),(18,pt 18),(24,pt 24),(78,AL z7.2.1),(79,vi (lI z7.2.1)),(80,vi e)] [(16,AO o),(18,bx [ci ((gl z7.2.1 e.toNat).parcel_),.d (DL l.1.rects_),ci ((gl z7.2.1 e.toNat).crop_),ci ((gl z7.2.1 e.toNat).schemes_)]),(24,bx [ci ((gl z7.2.1 e.toNat).parcel_),.d (DL p.1.rects_),ci ((gl z7.2.1 e.toNat).crop_),ci ((gl z7.2.1 e.toNat).schemes_)])] ?_
     obtain ⟨I0,h⟩:=gS h
     refine AW.WP Fm [.s,.s,.s,.w (AL (α:=Line) ([(⟨(gl z7.2.1 e.toNat).parcel_,l.1,(gl z7.2.1 e.toNat).crop_,(gl z7.2.1 e.toNat).schemes_⟩ : Line),(⟨(gl z7.2.1 e.toNat).parcel_,p.1,(gl z7.2.1 e.toNat).crop_,(gl z7.2.1 e.toNat).schemes_⟩ : Line)]:List Line)),.s,.s] [(1,.v (.c (.d (.int .u8 x2)))),(6,AL z5.2),(7,AL z7.2.1),(10,AL z9.1),(11,vi z9.2),(12,vi j),(13,vi E),(16,ow 127),(78,AL z7.2.1),(79,vi (lI z7.2.1)),(80,vi e)] [(127,AO (α:=Line) (o++([(⟨(gl z7.2.1 e.toNat).parcel_,l.1,(gl z7.2.1 e.toNat).crop_,(gl z7.2.1 e.toNat).schemes_⟩ : Line),(⟨(gl z7.2.1 e.toNat).parcel_,p.1,(gl z7.2.1 e.toNat).crop_,(gl z7.2.1 e.toNat).schemes_⟩ : Line)]:List Line)))] (cA (ALe.lst (.lit ([(⟨(gl z7.2.1 e.toNat).parcel_,l.1,(gl z7.2.1 e.toNat).crop_,(gl z7.2.1 e.toNat).schemes_⟩ : Line),(⟨(gl z7.2.1 e.toNat).parcel_,p.1,(gl z7.2.1 e.toNat).crop_,(gl z7.2.1 e.toNat).schemes_⟩ : Line)]:List Line) (by kernel_rfl)):ALe (.v (.c (.d (.lst 2 (litF 4 [.int .i64 (gl z7.2.1 e.toNat).parcel_,DL l.1.rects_,.int .i64 (gl z7.2.1 e.toNat).crop_,.int .i64 (gl z7.2.1 e.toNat).schemes_,.int .i64 (gl z7.2.1 e.toNat).parcel_,DL p.1.rects_,.int .i64 (gl z7.2.1 e.toNat).crop_,.int .i64 (gl z7.2.1 e.toNat).schemes_]))))) (AL (α:=Line) ([(⟨(gl z7.2.1 e.toNat).parcel_,l.1,(gl z7.2.1 e.toNat).crop_,(gl z7.2.1 e.toNat).schemes_⟩ : Line),(⟨(gl z7.2.1 e.toNat).parcel_,p.1,(gl z7.2.1 e.toNat).crop_,(gl z7.2.1 e.toNat).schemes_⟩ : Line)]:List Line))) (cT (cA I0 (cT (Is.refl ([(⟨(gl z7.2.1 e.toNat).parcel_,l.1,(gl z7.2.1 e.toNat).crop_,(gl z7.2.1 e.toNat).schemes_⟩ : Line),(⟨(gl z7.2.1 e.toNat).parcel_,p.1,(gl z7.2.1 e.toNat).crop_,(gl z7.2.1 e.toNat).schemes_⟩ : Line)]:List Line):Is (List.length (α:=Line) ([(⟨(gl z7.2.1 e.toNat).parcel_,l.1,(gl z7.2.1 e.toNat).crop_,(gl z7.2.1 e.toNat).schemes_⟩ : Line),(⟨(gl z7.2.1 e.toNat).parcel_,p.1,(gl z7.2.1 e.toNat).crop_,(gl z7.2.1 e.toNat).schemes_⟩ : Line)]:List Line)) (LF (α:=Line) ([(⟨(gl z7.2.1 e.toNat).parcel_,l.1,(gl z7.2.1 e.toNat).crop_,(gl z7.2.1 e.toNat).schemes_⟩ : Line),(⟨(gl z7.2.1 e.toNat).parcel_,p.1,(gl z7.2.1 e.toNat).crop_,(gl z7.2.1 e.toNat).schemes_⟩ : Line)]:List Line)) ([(⟨(gl z7.2.1 e.toNat).parcel_,l.1,(gl z7.2.1 e.toNat).crop_,(gl z7.2.1 e.toNat).schemes_⟩ : Line),(⟨(gl z7.2.1 e.toNat).parcel_,p.1,(gl z7.2.1 e.toNat).crop_,(gl z7.2.1 e.toNat).schemes_⟩ : Line)]:List Line)).len)))) [(127,.arr 4 ((List.length (α:=Line) o)+(List.length (α:=Line) ([(⟨(gl z7.2.1 e.toNat).parcel_,l.1,(gl z7.2.1 e.toNat).crop_,(gl z7.2.1 e.toNat).schemes_⟩ : Line),(⟨(gl z7.2.1 e.toNat).parcel_,p.1,(gl z7.2.1 e.toNat).crop_,(gl z7.2.1 e.toNat).schemes_⟩ : Line)]:List Line))) (appF (List.length (α:=Line) o) (LF (α:=Line) o) (LF (α:=Line) ([(⟨(gl z7.2.1 e.toNat).parcel_,l.1,(gl z7.2.1 e.toNat).crop_,(gl z7.2.1 e.toNat).schemes_⟩ : Line),(⟨(gl z7.2.1 e.toNat).parcel_,p.1,(gl z7.2.1 e.toNat).crop_,(gl z7.2.1 e.toNat).schemes_⟩ : Line)]:List Line))))] ⟨OLe.is (Is.app (Is.refl o) (Is.refl ([(⟨(gl z7.2.1 e.toNat).parcel_,l.1,(gl z7.2.1 e.toNat).crop_,(gl z7.2.1 e.toNat).schemes_⟩ : Line),(⟨(gl z7.2.1 e.toNat).parcel_,p.1,(gl z7.2.1 e.toNat).crop_,(gl z7.2.1 e.toNat).schemes_⟩ : Line)]:List Line))),⟨⟩⟩ ?_
     obtain ⟨K0,h⟩:=gS h
     refine AW.pN Fm [.s,.s] [(1,.v (.c (.d (.int .u8 x2)))),(6,AL z5.2),(7,AL z7.2.1),(10,AL z9.1),(11,vi z9.2),(12,vi j),(13,vi E),(16,ow 127),(78,AL z7.2.1),(79,vi (lI z7.2.1)),(80,vi (e+1))] [(127,AO (α:=Line) (o++([(⟨(gl z7.2.1 e.toNat).parcel_,l.1,(gl z7.2.1 e.toNat).crop_,(gl z7.2.1 e.toNat).schemes_⟩ : Line),(⟨(gl z7.2.1 e.toNat).parcel_,p.1,(gl z7.2.1 e.toNat).crop_,(gl z7.2.1 e.toNat).schemes_⟩ : Line)]:List Line)))] (cT (cT K0)) ?_
     exact Kn.RE Fm [(16,127)] (n0 (E,(e+1),(o++([(⟨(gl z7.2.1 e.toNat).parcel_,l.1,(gl z7.2.1 e.toNat).crop_,(gl z7.2.1 e.toNat).schemes_⟩ : Line),(⟨(gl z7.2.1 e.toNat).parcel_,p.1,(gl z7.2.1 e.toNat).crop_,(gl z7.2.1 e.toNat).schemes_⟩ : Line)]:List Line))) h)
    ·obtain ⟨B0,h⟩:=gS h
     refine AW.SP Fm [.s,.s,.s,.s,.s,.s,.s,.s] [(1,.v (.c (.d (.int .u8 x2)))),(6,AL z5.2),(7,AL z7.2.1),(10,AL z9.1),(11,vi z9.2),(12,vi j),(13,vi M),(16,ow 16),(18,pt 18),(78,AL z7.2.1),(79,vi (lI z7.2.1)),(80,vi e),(91,vb ((band .i64 ((gl z5.2 ((gl z7.2.1 e.toNat).crop_).toNat).marks_) (3:Int))==(0:Int)))] [(16,AO o),(18,bx [ci ((gl z7.2.1 e.toNat).parcel_),.d (DL (α:=Rect) (gl z7.2.1 e.toNat).region_.rects_),ci ((gl z7.2.1 e.toNat).crop_),ci ((gl z7.2.1 e.toNat).schemes_)])] (cT B0) ?_
     refine AW.cN h (fun t0 h=>?_) (fun t0 h=>?_)
     ·obtain ⟨b0,M0,h⟩:=bS h
      obtain ⟨D0,h⟩:=gS h
      refine AW.G Fm [.s,.s,.s,.k (cE [] [] (vi b0) [] []),.s,.s] (fun K=>K 3∧(_∧True)∧True) [(1,.v (.c (.d (.int .u8 x2)))),(6,AL z5.2),(7,AL z7.2.1),(10,AL z9.1),(11,vi z9.2),(12,vi j),(13,vi (M+b0)),(16,ow 16),(18,pt 18),(78,AL z7.2.1),(79,vi (lI z7.2.1)),(80,vi e)] [(16,AO o),(18,bx [ci ((gl z7.2.1 e.toNat).parcel_),.d (DL (α:=Rect) (gl z7.2.1 e.toNat).region_.rects_),ci ((gl z7.2.1 e.toNat).crop_),ci ((gl z7.2.1 e.toNat).schemes_)])] ⟨KAt.CC (ref04_Area_spec M0) Tryz.call68 [],⟨D0,⟨⟩⟩,⟨⟩⟩ ?_
      exact Kn.R Fm (d0 (M+b0) h)
     ·exact AW.skip (Kn.R Fm (d0 M h))
   ·exact AW.exit (Kn.R Fm (o0 (M,o) h))
 ·refine AW.SG0 Fm 3 [(1,.v (.c (.d (.int .u8 x2)))),(6,AL z5.2),(7,AL z7.2.1),(10,AL z9.1),(11,vi z9.2),(12,vi 0),(13,vi 0),(48,AL z9.1),(49,vi (lI z9.1)),(50,vi 0)] [] ?_
  refine AW.block (AW.loopF (E' := fun z=>[(1,.v (.c (.d (.int .u8 x2)))),(6,AL z5.2),(7,AL z7.2.1),(10,AL z9.1),(11,vi z9.2),(12,vi z.1),(13,vi 0),(48,AL z9.1),(49,vi (lI z9.1)),(50,vi z.2)]) (S' := fun z=>[]) (fun j0 z W0 l0 h=>?_) h)
  obtain ⟨q,i⟩:=z
  refine AW.SG0 Fm 1 [(1,.v (.c (.d (.int .u8 x2)))),(6,AL z5.2),(7,AL z7.2.1),(10,AL z9.1),(11,vi z9.2),(12,vi q),(13,vi 0),(48,AL z9.1),(49,vi (lI z9.1)),(50,vi i),(51,vb (decide (i<(lI z9.1))))] [] ?_
  refine AW.seq (AW.cN h (fun p0 h=>?_) (fun p0 h=>?_))
  ·refine AW.skip (AW.seq (AW.block ?_))
   obtain ⟨u0,h⟩:=gS h
   refine AW.SP Fm [.s,.s,.s,.s,.s,.s] [(1,.v (.c (.d (.int .u8 x2)))),(6,AL z5.2),(7,AL z7.2.1),(10,AL z9.1),(11,vi z9.2),(12,vi q),(13,vi 0),(14,vi i),(15,pt 15),(48,AL z9.1),(49,vi (lI z9.1)),(50,vi i)] [(15,bx [ci ((gl z9.1 i.toNat).e0_),ci ((gl z9.1 i.toNat).e1_)])] (cT u0) ?_
   refine AW.seq (AW.join (r:=r) (fun z:Bool=>law19_RotationFamilies_k1 F z9 q i j0 z) (fun z=>[(1,.v (.c (.d (.int .u8 x2)))),(6,AL z5.2),(7,AL z7.2.1),(10,AL z9.1),(11,vi z9.2),(12,vi q),(13,vi 0),(15,pt 15),(48,AL z9.1),(49,vi (lI z9.1)),(50,vi i),(72,vb z)]) (fun z=>[(15,bx [ci ((gl z9.1 i.toNat).e0_),ci ((gl z9.1 i.toNat).e1_)])]) (fun d1 h=>?_) (fun X0 Y=>?_))
   ·refine AW.cN h (fun q0 h=>?_) (fun q0 h=>?_)
    ·refine AW.SG0 Fm 1 [(4,vb false)] [] ?_
     refine AW.ret ?_
     obtain rfl:=Option.some.inj h
     exact Kn.D Fm
    ·refine AW.skip ?_
     obtain ⟨w0,h⟩:=gS h
     refine AW.pN Fm [.s,.s,.s,.s,.s] [(1,.v (.c (.d (.int .u8 x2)))),(6,AL z5.2),(7,AL z7.2.1),(10,AL z9.1),(11,vi z9.2),(12,vi (q+((gl z9.1 i.toNat).e1_))),(13,vi 0),(48,AL z9.1),(49,vi (lI z9.1)),(50,vi i)] [] (cA (True.intro:True) (cT (cT w0))) ?_
     obtain ⟨y0,h⟩:=gS h
     refine AW.pN Fm [.s,.s] [(1,.v (.c (.d (.int .u8 x2)))),(6,AL z5.2),(7,AL z7.2.1),(10,AL z9.1),(11,vi z9.2),(12,vi (q+((gl z9.1 i.toNat).e1_))),(13,vi 0),(48,AL z9.1),(49,vi (lI z9.1)),(50,vi (i+1))] [] (cT (cT y0)) ?_
     exact Kn.R Fm (l0 ((q+((gl z9.1 i.toNat).e1_)),(i+1)) h)
   ·rcases br_or h with ⟨V,h⟩|⟨V,h⟩
    ·obtain ⟨e0,i0,h⟩:=gS2 h
     rcases br_or h with ⟨Z,h⟩|⟨Z,h⟩
     ·refine AW.G Fm [.s,.s,.w (vb true),.s,.s,.s,.s,.s,.s,.k (rE { v:=.v (.c (.elm [.int .i64 (gl z9.1 (i-1).toNat).e0_,.int .i64 (gl z9.1 (i-1).toNat).e1_])) }),.s,.s,.s,.w (vb true),.s,.s,.s,.s] (fun K=>_∧(True)∧(_∧True)∧_∧K 9∧_∧True) [(1,.v (.c (.d (.int .u8 x2)))),(6,AL z5.2),(7,AL z7.2.1),(10,AL z9.1),(11,vi z9.2),(12,vi q),(13,vi 0),(15,pt 15),(48,AL z9.1),(49,vi (lI z9.1)),(50,vi i),(58,pt 15),(59,vi (gl z9.1 i.toNat).e0_),(60,AL z9.1),(61,vi i),(62,vi (i-1)),(63,.v (.c (.elm [.int .i64 (gl z9.1 (i-1).toNat).e0_,.int .i64 (gl z9.1 (i-1).toNat).e1_]))),(64,.v (.c (.elm [.int .i64 (gl z9.1 (i-1).toNat).e0_,.int .i64 (gl z9.1 (i-1).toNat).e1_]))),(65,vi (gl z9.1 (i-1).toNat).e0_),(66,vb (decide (((gl z9.1 i.toNat).e0_)≤((gl z9.1 (i-1).toNat).e0_)))),(72,vb true)] [(15,bx [ci ((gl z9.1 i.toNat).e0_),ci ((gl z9.1 i.toNat).e1_)])] ⟨ALe.bool V,True.intro,⟨e0,⟨⟩⟩,i0,KAt.eidx prog_lay (t:=54) (ti:=⟨.array 2 3,2,16,[.d (.int .i64 0),.d (.int .i64 0)]⟩) (te:=⟨.int .i64,1,8,[.d (.int .i64 0)]⟩) (n:=2) (el:=3) (m:=0) (cs:=[.int .i64 (gl z9.1 (i-1).toNat).e0_,.int .i64 (gl z9.1 (i-1).toNat).e1_]) rfl rfl rfl rfl rfl (by kernel_rfl) (by kernel_rfl) (by kernel_rfl) (by decide) (by simp) rfl,ALe.bool Z,⟨⟩⟩ ?_
      exact Kn.R Fm (Y true h)
     ·refine AW.G Fm [.s,.s,.w (vb true),.s,.s,.s,.s,.s,.s,.k (rE { v:=.v (.c (.elm [.int .i64 (gl z9.1 (i-1).toNat).e0_,.int .i64 (gl z9.1 (i-1).toNat).e1_])) }),.s,.s,.s,.w (vb false),.s,.s,.s,.s] (fun K=>_∧(True)∧(_∧True)∧_∧K 9∧_∧(True)∧True) [(1,.v (.c (.d (.int .u8 x2)))),(6,AL z5.2),(7,AL z7.2.1),(10,AL z9.1),(11,vi z9.2),(12,vi q),(13,vi 0),(15,pt 15),(48,AL z9.1),(49,vi (lI z9.1)),(50,vi i),(58,pt 15),(59,vi (gl z9.1 i.toNat).e0_),(60,AL z9.1),(61,vi i),(62,vi (i-1)),(63,.v (.c (.elm [.int .i64 (gl z9.1 (i-1).toNat).e0_,.int .i64 (gl z9.1 (i-1).toNat).e1_]))),(64,.v (.c (.elm [.int .i64 (gl z9.1 (i-1).toNat).e0_,.int .i64 (gl z9.1 (i-1).toNat).e1_]))),(65,vi (gl z9.1 (i-1).toNat).e0_),(66,vb (decide (((gl z9.1 i.toNat).e0_)≤((gl z9.1 (i-1).toNat).e0_)))),(69,.v (.c (.ptr 15 1))),(70,vi (gl z9.1 i.toNat).e1_),(71,vb (decide (((gl z9.1 i.toNat).e1_)≤(0:Int)))),(72,vb (decide (((gl z9.1 i.toNat).e1_)≤(0:Int))))] [(15,bx [ci ((gl z9.1 i.toNat).e0_),ci ((gl z9.1 i.toNat).e1_)])] ⟨ALe.bool V,True.intro,⟨e0,⟨⟩⟩,i0,KAt.eidx prog_lay (t:=54) (ti:=⟨.array 2 3,2,16,[.d (.int .i64 0),.d (.int .i64 0)]⟩) (te:=⟨.int .i64,1,8,[.d (.int .i64 0)]⟩) (n:=2) (el:=3) (m:=0) (cs:=[.int .i64 (gl z9.1 (i-1).toNat).e0_,.int .i64 (gl z9.1 (i-1).toNat).e1_]) rfl rfl rfl rfl rfl (by kernel_rfl) (by kernel_rfl) (by kernel_rfl) (by decide) (by simp) rfl,ALe.bool Z,True.intro,⟨⟩⟩ ?_
      exact Kn.R Fm (Y (decide (((gl z9.1 i.toNat).e1_)≤(0:Int))) h)
    ·refine AW.pN Fm [.s,.s,.w (vb false),.s,.s,.s,.s,.s,.s,.s,.s,.s,.s,.s,.s,.s,.s,.s] [(1,.v (.c (.d (.int .u8 x2)))),(6,AL z5.2),(7,AL z7.2.1),(10,AL z9.1),(11,vi z9.2),(12,vi q),(13,vi 0),(15,pt 15),(48,AL z9.1),(49,vi (lI z9.1)),(50,vi i),(69,.v (.c (.ptr 15 1))),(70,vi (gl z9.1 i.toNat).e1_),(71,vb (decide (((gl z9.1 i.toNat).e1_)≤(0:Int)))),(72,vb (decide (((gl z9.1 i.toNat).e1_)≤(0:Int))))] [(15,bx [ci ((gl z9.1 i.toNat).e0_),ci ((gl z9.1 i.toNat).e1_)])] (cA (ALe.bool V) (cT (True.intro:True))) ?_
     exact Kn.R Fm (Y (decide (((gl z9.1 i.toNat).e1_)≤(0:Int))) h)
  ·exact AW.exit (Kn.R Fm (m0 q h))
end Go.Ab
end
