/- The code follows the plain programs: whenever the plain program has a result. -/
import Derived.Test.YtdfbifjpedjljaaGreatAbF
set_option linter.unusedVariables false
set_option linter.unusedSimpArgs false
section
namespace Go.Ab
open Go.Proofs
set_option linter.unusedVariables false
set_option maxRecDepth 100000
theorem law19_RotationShares_spec {F:Nat} {X:(List Int)} {A:Int} {m:Int} {r:Bool} (h:law19_RotationShares F X A m=some r) :
  FSpec Tryz.prog 12 [AL X,.v (.c (.d (.int .u8 A))),.v (.c (.d (.int .u32 m)))] [] (vb r) []:=by
 refine FI Tryz.func12 prog_mixed prog_lay fun C Fm=>?_
 unfold law19_RotationShares at h
 refine AW.SG0 Fm 1 [(0,AL X),(1,.v (.c (.d (.int .u8 A)))),(2,.v (.c (.d (.int .u32 m))))] [] ?_
 refine AW.seq ?_
 obtain ⟨Y,A0,h⟩:=bS h
 refine AW.G Fm [.s,.k (cE [(100,28)] [] (pt 100) [] [(100,bx (gC Y))]),.s] (fun K=>K 1∧True) [(1,.v (.c (.d (.int .u8 A)))),(2,.v (.c (.d (.int .u32 m)))),(7,pt 28)] [(28,bx (gC Y))] ⟨KAt.CC (keep_New_spec A0) Tryz.call13 [(100,28)],⟨⟩⟩ ?_
 refine AW.seq ?_
 obtain ⟨o,B0,h⟩:=bS h
 refine AW.G Fm [.s,.k (cE [(0,28)] [] (AL o.2) [(0,bx (gC Y))] [(0,bx (gC o.1))]),.s] (fun K=>K 1∧True) [(1,.v (.c (.d (.int .u8 A)))),(2,.v (.c (.d (.int .u32 m)))),(7,pt 28),(8,AL o.2)] [(28,bx (gC o.1))] ⟨KAt.CC (keep_Tape_Crops_spec B0) Tryz.call14 [(0,28)],⟨⟩⟩ ?_
 refine AW.seq ?_
 obtain ⟨e,D0,h⟩:=bS h
 refine AW.G Fm [.s,.s,.k (cE [(0,28)] [] (.t [.c (.d (DL e.2.1)),.c (.d (DL e.2.2.1)),.c (.d (DL e.2.2.2))]) [(0,bx (gC o.1))] [(0,bx (gC e.1))]),.s,.s,.s,.s,.s,.s,.s] (fun K=>K 2∧True) [(1,.v (.c (.d (.int .u8 A)))),(2,.v (.c (.d (.int .u32 m)))),(7,pt 28),(8,AL o.2),(9,AL e.2.1)] [(28,bx (gC e.1))] ⟨KAt.CC (keep_Tape_Lines_spec D0) Tryz.call79 [(0,28)],⟨⟩⟩ ?_
 refine AW.seq ?_
 obtain ⟨M,E0,h⟩:=bS h
 refine AW.G Fm [.s,.s,.k (cE [(0,28)] [] (AL M.2) [(0,bx (gC e.1))] [(0,bx (gC M.1))]),.s] (fun K=>K 2∧True) [(1,.v (.c (.d (.int .u8 A)))),(2,.v (.c (.d (.int .u32 m)))),(8,AL o.2),(9,AL e.2.1),(12,AL M.2)] [] ⟨KAt.CC (keep_Tape_History_spec E0) Tryz.call22 [(0,28)],⟨⟩⟩ ?_
 obtain ⟨n0,o0,p0,q0,h⟩:=gS4 h
 refine AW.SP Fm [.s,.s,.s,.s,.s,.s,.s,.s] [(8,AL o.2),(9,AL e.2.1),(12,AL M.2),(13,vi (A.tmod (6:Int))),(14,vi (m.tmod (1000001:Int)))] [] (cA (cT n0) (cA o0 (cA (cT p0) (cT q0)))) ?_
 refine AW.seq ?_
 obtain ⟨j,G0,h⟩:=bS h
 refine AW.G Fm [.s,.s,.s,.s,.k (cE [] [] (.t [.g [.d (DL j.1.rects_)],.c (ci j.2)]) [] []),.s,.s,.s,.s,.s,.s] (fun K=>K 4∧True) [(8,AL o.2),(9,AL e.2.1),(12,AL M.2),(13,vi (A.tmod (6:Int))),(14,vi (m.tmod (1000001:Int))),(15,pt 15),(16,vi j.2)] [(15,bx [.d (DL j.1.rects_)])] ⟨KAt.CC (rotation_Repeats_spec G0) Tryz.call84 [],⟨⟩⟩ ?_
 refine AW.seq ?_
 obtain ⟨i,H0,h⟩:=bS h
 refine AW.G Fm [.s,.s,.s,.s,.s,.k (cE [] [] (.t [.c (.d (.bool i.1)),.c (ci i.2)]) [] []),.s,.s,.s,.s,.s] (fun K=>K 5∧True) [(8,AL o.2),(9,AL e.2.1),(14,vi (m.tmod (1000001:Int))),(15,pt 15),(16,vi j.2),(17,vb i.1),(18,vi i.2)] [(15,bx [.d (DL j.1.rects_)])] ⟨KAt.CC (rotation_Rotates_spec H0) Tryz.call89 [],⟨⟩⟩ ?_
 refine AW.seq ?_
 obtain ⟨l,I0,h⟩:=bS h
 refine AW.G Fm [.s,.s,.s,.k (cE [] [] (.t [.c (.d (.bool l.1)),.c (ci l.2)]) [] []),.s,.s,.s,.s,.s] (fun K=>K 3∧True) [(8,AL o.2),(9,AL e.2.1),(14,vi (m.tmod (1000001:Int))),(15,pt 15),(16,vi j.2),(17,vb i.1),(18,vi i.2),(19,vb l.1),(20,vi l.2)] [(15,bx [.d (DL j.1.rects_)])] ⟨KAt.CC (rotation_Covered_spec I0) Tryz.call87 [],⟨⟩⟩ ?_
 refine AW.SG0 Fm 2 [(8,AL o.2),(9,AL e.2.1),(14,vi (m.tmod (1000001:Int))),(15,pt 15),(16,vi j.2),(17,vb i.1),(18,vi i.2),(19,vb l.1),(20,vi l.2),(21,vi 0),(22,vi 0)] [(15,bx [.d (DL j.1.rects_)])] ?_
 refine AW.join (r:=r) (fun z:Int×Int=>law19_RotationShares_k2 F m j i l z.1 z.2) (fun z=>[(14,vi (m.tmod (1000001:Int))),(15,pt 15),(16,vi j.2),(17,vb i.1),(18,vi i.2),(19,vb l.1),(20,vi l.2),(21,vi z.1),(22,vi z.2)]) (fun z=>[(15,bx [.d (DL j.1.rects_)])]) (fun z h=>?_) (fun O0 j0=>?_)
 ·obtain ⟨y,O⟩:=z
  refine AW.join (r:=r) (fun z:Bool=>law19_RotationShares_k3 F z) (fun z=>[(6,vb z)]) (fun z=>[]) (fun R0 h=>?_) (fun P0 H=>?_)
  ·refine AW.ret ?_
   obtain rfl:=Option.some.inj h
   exact Kn.D Fm
  ·rcases br_or h with ⟨E,h⟩|⟨E,h⟩
   ·rcases br_or h with ⟨I,h⟩|⟨I,h⟩
    ·rcases br_or h with ⟨L,h⟩|⟨L,h⟩
     ·obtain ⟨B,W,h⟩:=bS h
      obtain ⟨U,V,h⟩:=gS2 h
      rcases br_or h with ⟨N,h⟩|⟨N,h⟩
      ·obtain ⟨a0,b0,h⟩:=gS2 h
       rcases br_or h with ⟨T,h⟩|⟨T,h⟩
       ·obtain ⟨Z,L0,h⟩:=bS h
        refine AW.G Fm [.s,.s,.w (vb true),.s,.s,.s,.w (vb true),.s,.s,.s,.w (vb true),.s,.s,.k (cE [] [] (vi B) [] []),.s,.s,.s,.s,.s,.k (sE (vb (i.1==(decide ((B*(1000000:Int))≤(y*(m.tmod (1000001:Int)))))))),.s,.w (vb true),.s,.s,.s,.s,.s,.s,.s,.k (sE (vb (l.1==(decide ((y*(m.tmod (1000001:Int)))≤(O*(1000000:Int))))))),.s,.w (vb true),.k (cE [] [] (vb Z) [] []),.s,.s] (fun K=>_∧_∧_∧K 13∧(_∧True)∧(_∧True)∧K 19∧_∧(_∧True)∧(_∧True)∧K 29∧_∧K 32∧True) [(6,vb Z)] [] ⟨ALe.bool E,ALe.bool I,ALe.bool L,KAt.CC (ref04_Area_spec W) Tryz.call68 [],⟨U,⟨⟩⟩,⟨V,⟨⟩⟩,KAt.eqb (t:=4) (by kernel_rfl) true (a:=i.1) (b:=(decide ((B*(1000000:Int))≤(y*(m.tmod (1000001:Int)))))) rfl rfl (by kernel_rfl) (by kernel_rfl) (by kernel_rfl),ALe.bool N,⟨a0,⟨⟩⟩,⟨b0,⟨⟩⟩,KAt.eqb (t:=4) (by kernel_rfl) true (a:=l.1) (b:=(decide ((y*(m.tmod (1000001:Int)))≤(O*(1000000:Int))))) rfl rfl (by kernel_rfl) (by kernel_rfl) (by kernel_rfl),ALe.bool T,KAt.CC (law19_awake_spec L0) Tryz.call83 [],⟨⟩⟩ ?_
        exact Kn.R Fm (H Z h)
       ·refine AW.G Fm [.s,.s,.w (vb true),.s,.s,.s,.w (vb true),.s,.s,.s,.w (vb true),.s,.s,.k (cE [] [] (vi B) [] []),.s,.s,.s,.s,.s,.k (sE (vb (i.1==(decide ((B*(1000000:Int))≤(y*(m.tmod (1000001:Int)))))))),.s,.w (vb true),.s,.s,.s,.s,.s,.s,.s,.k (sE (vb (l.1==(decide ((y*(m.tmod (1000001:Int)))≤(O*(1000000:Int))))))),.s,.w (vb false),.s,.s,.s] (fun K=>_∧_∧_∧K 13∧(_∧True)∧(_∧True)∧K 19∧_∧(_∧True)∧(_∧True)∧K 29∧_∧True) [(6,vb false)] [] ⟨ALe.bool E,ALe.bool I,ALe.bool L,KAt.CC (ref04_Area_spec W) Tryz.call68 [],⟨U,⟨⟩⟩,⟨V,⟨⟩⟩,KAt.eqb (t:=4) (by kernel_rfl) true (a:=i.1) (b:=(decide ((B*(1000000:Int))≤(y*(m.tmod (1000001:Int)))))) rfl rfl (by kernel_rfl) (by kernel_rfl) (by kernel_rfl),ALe.bool N,⟨a0,⟨⟩⟩,⟨b0,⟨⟩⟩,KAt.eqb (t:=4) (by kernel_rfl) true (a:=l.1) (b:=(decide ((y*(m.tmod (1000001:Int)))≤(O*(1000000:Int))))) rfl rfl (by kernel_rfl) (by kernel_rfl) (by kernel_rfl),ALe.bool T,⟨⟩⟩ ?_
        exact Kn.R Fm (H false h)
      ·refine AW.G Fm [.s,.s,.w (vb true),.s,.s,.s,.w (vb true),.s,.s,.s,.w (vb true),.s,.s,.k (cE [] [] (vi B) [] []),.s,.s,.s,.s,.s,.k (sE (vb (i.1==(decide ((B*(1000000:Int))≤(y*(m.tmod (1000001:Int)))))))),.s,.w (vb false),.s,.s,.s,.s,.s,.s,.s,.s,.s,.s,.s,.s,.s] (fun K=>_∧_∧_∧K 13∧(_∧True)∧(_∧True)∧K 19∧_∧True) [(6,vb false)] [] ⟨ALe.bool E,ALe.bool I,ALe.bool L,KAt.CC (ref04_Area_spec W) Tryz.call68 [],⟨U,⟨⟩⟩,⟨V,⟨⟩⟩,KAt.eqb (t:=4) (by kernel_rfl) true (a:=i.1) (b:=(decide ((B*(1000000:Int))≤(y*(m.tmod (1000001:Int)))))) rfl rfl (by kernel_rfl) (by kernel_rfl) (by kernel_rfl),ALe.bool N,⟨⟩⟩ ?_
       exact Kn.R Fm (H false h)
     ·refine AW.pN Fm [.s,.s,.w (vb true),.s,.s,.s,.w (vb true),.s,.s,.s,.w (vb false),.s,.s,.s,.s,.s,.s,.s,.s,.s,.s,.s,.s,.s,.s,.s,.s,.s,.s,.s,.s,.s,.s,.s,.s] [(6,vb false)] [] (cA (ALe.bool E) (cA (ALe.bool I) (cT (ALe.bool L)))) ?_
      exact Kn.R Fm (H false h)
    ·refine AW.pN Fm [.s,.s,.w (vb true),.s,.s,.s,.w (vb false),.s,.s,.s,.s,.s,.s,.s,.s,.s,.s,.s,.s,.s,.s,.s,.s,.s,.s,.s,.s,.s,.s,.s,.s,.s,.s,.s,.s] [(6,vb false)] [] (cA (ALe.bool E) (cT (ALe.bool I))) ?_
     exact Kn.R Fm (H false h)
   ·refine AW.pN Fm [.s,.s,.w (vb false),.s,.s,.s,.s,.s,.s,.s,.s,.s,.s,.s,.s,.s,.s,.s,.s,.s,.s,.s,.s,.s,.s,.s,.s,.s,.s,.s,.s,.s,.s,.s,.s] [(6,vb false)] [] (cT (ALe.bool E)) ?_
    exact Kn.R Fm (H false h)
 ·refine AW.SG0 Fm 3 [(8,AL o.2),(14,vi (m.tmod (1000001:Int))),(15,pt 15),(16,vi j.2),(17,vb i.1),(18,vi i.2),(19,vb l.1),(20,vi l.2),(21,vi 0),(22,vi 0),(71,AL e.2.1),(72,vi (lI e.2.1)),(73,vi 0)] [(15,bx [.d (DL j.1.rects_)])] ?_
  refine AW.block (AW.loopF (E' := fun z=>[(8,AL o.2),(14,vi (m.tmod (1000001:Int))),(15,pt 15),(16,vi j.2),(17,vb i.1),(18,vi i.2),(19,vb l.1),(20,vi l.2),(21,vi z.1),(22,vi z.2.1),(71,AL e.2.1),(72,vi (lI e.2.1)),(73,vi z.2.2)]) (S' := fun z=>[(15,bx [.d (DL j.1.rects_)])]) (fun e0 z M0 i0 h=>?_) h)
  obtain ⟨p,q,n⟩:=z
  refine AW.SG0 Fm 1 [(8,AL o.2),(14,vi (m.tmod (1000001:Int))),(15,pt 15),(16,vi j.2),(17,vb i.1),(18,vi i.2),(19,vb l.1),(20,vi l.2),(21,vi p),(22,vi q),(71,AL e.2.1),(72,vi (lI e.2.1)),(73,vi n),(74,vb (decide (n<(lI e.2.1))))] [(15,bx [.d (DL j.1.rects_)])] ?_
  refine AW.seq (AW.cN h (fun k0 h=>?_) (fun k0 h=>?_))
  ·refine AW.skip (AW.join (r:=r) (fun z:Int×Int=>law19_RotationShares_k1 F n e0 z.1 z.2) (fun z=>[(8,AL o.2),(14,vi (m.tmod (1000001:Int))),(15,pt 15),(16,vi j.2),(17,vb i.1),(18,vi i.2),(19,vb l.1),(20,vi l.2),(21,vi z.1),(22,vi z.2),(71,AL e.2.1),(72,vi (lI e.2.1)),(73,vi n)]) (fun z=>[(15,bx [.d (DL j.1.rects_)])]) (fun z h=>?_) (fun N0 P=>?_))
   ·obtain ⟨c0,d0⟩:=z
    obtain ⟨y0,h⟩:=gS h
    refine AW.pN Fm [.s,.s] [(8,AL o.2),(14,vi (m.tmod (1000001:Int))),(15,pt 15),(16,vi j.2),(17,vb i.1),(18,vi i.2),(19,vb l.1),(20,vi l.2),(21,vi c0),(22,vi d0),(71,AL e.2.1),(72,vi (lI e.2.1)),(73,vi (n+1))] [(15,bx [.d (DL j.1.rects_)])] (cT (cT y0)) ?_
    exact Kn.R Fm (i0 (c0,d0,(n+1)) h)
   ·refine AW.block ?_
    obtain ⟨s0,h⟩:=gS h
    refine AW.SP Fm [.s,.s,.s,.s] [(8,AL o.2),(14,vi (m.tmod (1000001:Int))),(15,pt 15),(16,vi j.2),(17,vb i.1),(18,vi i.2),(19,vb l.1),(20,vi l.2),(21,vi p),(22,vi q),(24,pt 24),(71,AL e.2.1),(72,vi (lI e.2.1)),(73,vi n)] [(15,bx [.d (DL j.1.rects_)]),(24,bx [ci ((gl e.2.1 n.toNat).parcel_),.d (DL (α:=Rect) (gl e.2.1 n.toNat).region_.rects_),ci ((gl e.2.1 n.toNat).crop_),ci ((gl e.2.1 n.toNat).schemes_)])] (cT s0) ?_
    obtain ⟨t0,h⟩:=gS h
    refine AW.SP Fm [.s,.s,.s,.s,.s,.s,.s] [(8,AL o.2),(14,vi (m.tmod (1000001:Int))),(15,pt 15),(16,vi j.2),(17,vb i.1),(18,vi i.2),(19,vb l.1),(20,vi l.2),(21,vi p),(22,vi q),(24,pt 24),(25,vi (gl o.2 ((gl e.2.1 n.toNat).crop_).toNat).marks_),(71,AL e.2.1),(72,vi (lI e.2.1)),(73,vi n)] [(15,bx [.d (DL j.1.rects_)]),(24,bx [ci ((gl e.2.1 n.toNat).parcel_),.d (DL (α:=Rect) (gl e.2.1 n.toNat).region_.rects_),ci ((gl e.2.1 n.toNat).crop_),ci ((gl e.2.1 n.toNat).schemes_)])] (cT t0) ?_
    refine AW.seq (AW.SG0 Fm 3 [(8,AL o.2),(14,vi (m.tmod (1000001:Int))),(15,pt 15),(16,vi j.2),(17,vb i.1),(18,vi i.2),(19,vb l.1),(20,vi l.2),(21,vi p),(22,vi q),(24,pt 24),(25,vi (gl o.2 ((gl e.2.1 n.toNat).crop_).toNat).marks_),(71,AL e.2.1),(72,vi (lI e.2.1)),(73,vi n),(85,vb ((band .i64 ((gl o.2 ((gl e.2.1 n.toNat).crop_).toNat).marks_) (3:Int)) != (0:Int)))] [(15,bx [.d (DL j.1.rects_)]),(24,bx [ci ((gl e.2.1 n.toNat).parcel_),.d (DL (α:=Rect) (gl e.2.1 n.toNat).region_.rects_),ci ((gl e.2.1 n.toNat).crop_),ci ((gl e.2.1 n.toNat).schemes_)])] ?_)
    refine AW.cN h (fun l0 h=>?_) (fun l0 h=>?_)
    ·exact AW.exit (Kn.R Fm (P (p,q) h))
    ·refine AW.skip (AW.seq ?_)
     obtain ⟨u,K0,h⟩:=bS h
     refine AW.G Fm [.s,.s,.k (cE [] [] (vi u) [] []),.s] (fun K=>K 2∧True) [(8,AL o.2),(14,vi (m.tmod (1000001:Int))),(15,pt 15),(16,vi j.2),(17,vb i.1),(18,vi i.2),(19,vb l.1),(20,vi l.2),(21,vi p),(22,vi q),(25,vi (gl o.2 ((gl e.2.1 n.toNat).crop_).toNat).marks_),(26,vi u),(71,AL e.2.1),(72,vi (lI e.2.1)),(73,vi n)] [(15,bx [.d (DL j.1.rects_)])] ⟨KAt.CC (ref04_Area_spec K0) Tryz.call68 [],⟨⟩⟩ ?_
     obtain ⟨u0,h⟩:=gS h
     refine AW.SP Fm [.s,.s,.s,.s] [(8,AL o.2),(14,vi (m.tmod (1000001:Int))),(15,pt 15),(16,vi j.2),(17,vb i.1),(18,vi i.2),(19,vb l.1),(20,vi l.2),(21,vi (p+u)),(22,vi q),(25,vi (gl o.2 ((gl e.2.1 n.toNat).crop_).toNat).marks_),(26,vi u),(71,AL e.2.1),(72,vi (lI e.2.1)),(73,vi n)] [(15,bx [.d (DL j.1.rects_)])] (cT (cT u0)) ?_
     refine AW.SG0 Fm 3 [(8,AL o.2),(14,vi (m.tmod (1000001:Int))),(15,pt 15),(16,vi j.2),(17,vb i.1),(18,vi i.2),(19,vb l.1),(20,vi l.2),(21,vi (p+u)),(22,vi q),(26,vi u),(71,AL e.2.1),(72,vi (lI e.2.1)),(73,vi n),(94,vb ((band .i64 ((gl o.2 ((gl e.2.1 n.toNat).crop_).toNat).marks_) (28:Int)) != (0:Int)))] [(15,bx [.d (DL j.1.rects_)])] ?_
     refine AW.cN h (fun m0 h=>?_) (fun m0 h=>?_)
     ·obtain ⟨w0,h⟩:=gS h
      refine AW.pN Fm [.s,.s,.s,.s] [(8,AL o.2),(14,vi (m.tmod (1000001:Int))),(15,pt 15),(16,vi j.2),(17,vb i.1),(18,vi i.2),(19,vb l.1),(20,vi l.2),(21,vi (p+u)),(22,vi (q+u)),(71,AL e.2.1),(72,vi (lI e.2.1)),(73,vi n)] [(15,bx [.d (DL j.1.rects_)])] (cT (cT w0)) ?_
      exact Kn.R Fm (P ((p+u),(q+u)) h)
     ·exact AW.skip (Kn.R Fm (P ((p+u),q) h))
  ·exact AW.exit (Kn.R Fm (j0 (p,q) h))
end Go.Ab
end
