/- The code follows the plain programs: whenever the plain program has a result. -/
import Derived.Test.YtdfbifjpedjljaaGreatAbF
set_option linter.unusedVariables false
set_option linter.unusedSimpArgs false
section
namespace Go.Ab
open Go.Proofs
set_option linter.unusedVariables false
set_option maxRecDepth 100000
theorem law19_RotationSmall_spec {F:Nat} {P:(List Int)} {j:Int} {q:Int} {u:Int} {y:Int} {r:Bool} (h:law19_RotationSmall F P j q u y=some r) :
  FSpec Tryz.prog 9 [AL P,.v (.c (.d (.int .u8 j))),.v (.c (.d (.int .u8 q))),.v (.c (.d (.int .u8 u))),.v (.c (.d (.int .u8 y)))] [] (vb r) []:=by
 refine FI Tryz.func9 prog_mixed prog_lay fun C Fm=>?_
 unfold law19_RotationSmall at h
 refine AW.SG0 Fm 1 [(0,AL P),(1,.v (.c (.d (.int .u8 j)))),(2,.v (.c (.d (.int .u8 q)))),(3,.v (.c (.d (.int .u8 u)))),(4,.v (.c (.d (.int .u8 y))))] [] ?_
 refine AW.seq ?_
 obtain ⟨T,j0,h⟩:=bS h
 refine AW.G Fm [.s,.k (cE [(100,27)] [] (pt 100) [] [(100,bx (gC T))]),.s] (fun K=>K 1∧True) [(1,.v (.c (.d (.int .u8 j)))),(2,.v (.c (.d (.int .u8 q)))),(3,.v (.c (.d (.int .u8 u)))),(4,.v (.c (.d (.int .u8 y)))),(11,pt 27)] [(27,bx (gC T))] ⟨KAt.CC (keep_New_spec j0) Tryz.call13 [(100,27)],⟨⟩⟩ ?_
 refine AW.seq ?_
 obtain ⟨l,k0,h⟩:=bS h
 refine AW.G Fm [.s,.k (cE [(0,27)] [] (AL l.2) [(0,bx (gC T))] [(0,bx (gC l.1))]),.s] (fun K=>K 1∧True) [(1,.v (.c (.d (.int .u8 j)))),(2,.v (.c (.d (.int .u8 q)))),(3,.v (.c (.d (.int .u8 u)))),(4,.v (.c (.d (.int .u8 y)))),(11,pt 27),(12,AL l.2)] [(27,bx (gC l.1))] ⟨KAt.CC (keep_Tape_Crops_spec k0) Tryz.call14 [(0,27)],⟨⟩⟩ ?_
 refine AW.seq ?_
 obtain ⟨A,l0,h⟩:=bS h
 refine AW.G Fm [.s,.s,.k (cE [(0,27)] [] (.t [.c (.d (DL A.2.1)),.c (.d (DL A.2.2.1)),.c (.d (DL A.2.2.2))]) [(0,bx (gC l.1))] [(0,bx (gC A.1))]),.s,.s,.s,.s,.s,.s,.s] (fun K=>K 2∧True) [(1,.v (.c (.d (.int .u8 j)))),(2,.v (.c (.d (.int .u8 q)))),(3,.v (.c (.d (.int .u8 u)))),(4,.v (.c (.d (.int .u8 y)))),(12,AL l.2),(13,AL A.2.1)] [] ⟨KAt.CC (keep_Tape_Lines_spec l0) Tryz.call79 [(0,27)],⟨⟩⟩ ?_
 obtain ⟨W,X,Y,Z,h⟩:=gS4 h
 refine AW.SP Fm [.s,.s,.s,.s,.s,.s,.s,.s,.s] [(3,.v (.c (.d (.int .u8 u)))),(4,.v (.c (.d (.int .u8 y)))),(12,AL l.2),(13,AL A.2.1),(16,vi j),(17,vi (j+q))] [] (cA (cT W) (cA (cT X) (cA (cT Y) (cT (cT Z))))) ?_
 refine AW.seq ?_
 obtain ⟨m,m0,h⟩:=bS h
 refine AW.G Fm [.s,.s,.s,.s,.k (cE [] [] (.t [.c (.d (.bool m.1)),.c (ci m.2)]) [] []),.s,.s,.s,.s,.s] (fun K=>K 4∧True) [(3,.v (.c (.d (.int .u8 u)))),(4,.v (.c (.d (.int .u8 y)))),(12,AL l.2),(13,AL A.2.1),(16,vi j),(17,vi (j+q)),(18,vb m.1),(19,vi m.2)] [] ⟨KAt.CC (rotation_Diverse_spec m0) Tryz.call81 [],⟨⟩⟩ ?_
 refine AW.seq ?_
 obtain ⟨a0,b0,c0,d0,h⟩:=gS4 h
 obtain ⟨e0,i0,h⟩:=gS2 h
 obtain ⟨B,n0,h⟩:=bS h
 refine AW.G Fm [.s,.s,.s,.s,.s,.s,.s,.s,.s,.s,.s,.s,.s,.k (cE [] [] (.t [.c (.d (.bool B.1)),.c (ci B.2)]) [] []),.s,.s,.s,.s,.s] (fun K=>(_∧True)∧(_∧True)∧(_∧True)∧(_∧True)∧(_∧True)∧(_∧True)∧K 13∧True) [(12,AL l.2),(13,AL A.2.1),(18,vb m.1),(19,vi m.2),(20,vb B.1),(21,vi B.2)] [] ⟨⟨a0,⟨⟩⟩,⟨b0,⟨⟩⟩,⟨c0,⟨⟩⟩,⟨d0,⟨⟩⟩,⟨e0,⟨⟩⟩,⟨i0,⟨⟩⟩,KAt.CC (rotation_Diverse_spec n0) Tryz.call81 [],⟨⟩⟩ ?_
 refine AW.seq ?_
 obtain ⟨E,o0,h⟩:=bS h
 refine AW.G Fm [.s,.s,.k (cE [] [] (.t [.c (.d (.bool E.1)),.c (ci E.2)]) [] []),.s,.s,.s,.s,.s] (fun K=>K 2∧True) [(12,AL l.2),(18,vb m.1),(19,vi m.2),(20,vb B.1),(21,vi B.2),(22,vb E.1),(23,vi E.2)] [] ⟨KAt.CC (rotation_Diverse_spec o0) Tryz.call81 [],⟨⟩⟩ ?_
 refine AW.seq ?_
 obtain ⟨M,p0,h⟩:=bS h
 refine AW.G Fm [.s,.k (cE [] [] (.t [.c (.d (.bool M.1)),.c (ci M.2)]) [] []),.s,.s,.s,.s,.s] (fun K=>K 1∧True) [(18,vb m.1),(19,vi m.2),(20,vb B.1),(21,vi B.2),(22,vb E.1),(23,vi E.2),(24,vb M.1),(25,vi M.2)] [] ⟨KAt.callX (rotation_Diverse_spec p0) Tryz.call81 [] [] [.const (.slice none 0 0),.tmp 76,.const (.int .i64 0),.const (.int .i64 0)] rfl (by kernel_rfl) (by kernel_rfl) (by kernel_rfl) ⟨ArgT.plain (by kernel_rfl) (ALe.c (CLe.fl .nil)) (by kernel_rfl),.p,.p,.p,⟨⟩⟩,⟨⟩⟩ ?_
 refine AW.join (r:=r) (fun z:Bool=>law19_RotationSmall_k0 F z) (fun z=>[(10,vb z)]) (fun z=>[]) (fun u0 h=>?_) (fun t0 b=>?_)
 ·refine AW.ret ?_
  obtain rfl:=Option.some.inj h
  exact Kn.D Fm
 ·rcases br_or h with ⟨a,h⟩|⟨a,h⟩
  ·rcases br_or h with ⟨e,h⟩|⟨e,h⟩
   ·rcases br_or h with ⟨i,h⟩|⟨i,h⟩
    ·rcases br_or h with ⟨n,h⟩|⟨n,h⟩
     ·rcases br_or h with ⟨o,h⟩|⟨o,h⟩
      ·rcases br_or h with ⟨I,h⟩|⟨I,h⟩
       ·rcases br_or h with ⟨N,h⟩|⟨N,h⟩
        ·obtain ⟨U,q0,h⟩:=bS h
         refine AW.G Fm [.s,.s,.w (vb true),.s,.s,.s,.w (vb true),.s,.s,.s,.w (vb true),.s,.s,.s,.w (vb true),.s,.s,.w (vb true),.s,.s,.s,.s,.s,.s,.w (vb true),.s,.s,.w (vb true),.k (cE [] [] (vb U) [] []),.s,.s] (fun K=>_∧_∧_∧_∧_∧_∧_∧K 28∧True) [(10,vb U)] [] ⟨ALe.bool a,ALe.bool e,ALe.bool i,ALe.bool n,ALe.bool o,ALe.bool I,ALe.bool N,KAt.CC (law19_awake_spec q0) Tryz.call83 [],⟨⟩⟩ ?_
         exact Kn.R Fm (b U h)
        ·refine AW.pN Fm [.s,.s,.w (vb true),.s,.s,.s,.w (vb true),.s,.s,.s,.w (vb true),.s,.s,.s,.w (vb true),.s,.s,.w (vb true),.s,.s,.s,.s,.s,.s,.w (vb true),.s,.s,.w (vb false),.s,.s,.s] [(10,vb false)] [] (cA (ALe.bool a) (cA (ALe.bool e) (cA (ALe.bool i) (cA (ALe.bool n) (cA (ALe.bool o) (cA (ALe.bool I) (cT (ALe.bool N)))))))) ?_
         exact Kn.R Fm (b false h)
       ·refine AW.pN Fm [.s,.s,.w (vb true),.s,.s,.s,.w (vb true),.s,.s,.s,.w (vb true),.s,.s,.s,.w (vb true),.s,.s,.w (vb true),.s,.s,.s,.s,.s,.s,.w (vb false),.s,.s,.s,.s,.s,.s] [(10,vb false)] [] (cA (ALe.bool a) (cA (ALe.bool e) (cA (ALe.bool i) (cA (ALe.bool n) (cA (ALe.bool o) (cT (ALe.bool I))))))) ?_
        exact Kn.R Fm (b false h)
      ·rcases br_or h with ⟨H,h⟩|⟨H,h⟩
       ·rcases br_or h with ⟨L,h⟩|⟨L,h⟩
        ·rcases br_or h with ⟨O,h⟩|⟨O,h⟩
         ·obtain ⟨V,s0,h⟩:=bS h
          refine AW.G Fm [.s,.s,.w (vb true),.s,.s,.s,.w (vb true),.s,.s,.s,.w (vb true),.s,.s,.s,.w (vb true),.s,.s,.w (vb false),.s,.s,.s,.w (vb true),.s,.s,.w (vb true),.s,.s,.w (vb true),.k (cE [] [] (vb V) [] []),.s,.s] (fun K=>_∧_∧_∧_∧_∧_∧_∧_∧K 28∧True) [(10,vb V)] [] ⟨ALe.bool a,ALe.bool e,ALe.bool i,ALe.bool n,ALe.bool o,ALe.bool H,ALe.bool L,ALe.bool O,KAt.CC (law19_awake_spec s0) Tryz.call83 [],⟨⟩⟩ ?_
          exact Kn.R Fm (b V h)
         ·refine AW.pN Fm [.s,.s,.w (vb true),.s,.s,.s,.w (vb true),.s,.s,.s,.w (vb true),.s,.s,.s,.w (vb true),.s,.s,.w (vb false),.s,.s,.s,.w (vb true),.s,.s,.w (vb true),.s,.s,.w (vb false),.s,.s,.s] [(10,vb false)] [] (cA (ALe.bool a) (cA (ALe.bool e) (cA (ALe.bool i) (cA (ALe.bool n) (cA (ALe.bool o) (cA (ALe.bool H) (cA (ALe.bool L) (cT (ALe.bool O))))))))) ?_
          exact Kn.R Fm (b false h)
        ·refine AW.pN Fm [.s,.s,.w (vb true),.s,.s,.s,.w (vb true),.s,.s,.s,.w (vb true),.s,.s,.s,.w (vb true),.s,.s,.w (vb false),.s,.s,.s,.w (vb true),.s,.s,.w (vb false),.s,.s,.s,.s,.s,.s] [(10,vb false)] [] (cA (ALe.bool a) (cA (ALe.bool e) (cA (ALe.bool i) (cA (ALe.bool n) (cA (ALe.bool o) (cA (ALe.bool H) (cT (ALe.bool L)))))))) ?_
         exact Kn.R Fm (b false h)
       ·refine AW.pN Fm [.s,.s,.w (vb true),.s,.s,.s,.w (vb true),.s,.s,.s,.w (vb true),.s,.s,.s,.w (vb true),.s,.s,.w (vb false),.s,.s,.s,.w (vb false),.s,.s,.s,.s,.s,.s,.s,.s,.s] [(10,vb false)] [] (cA (ALe.bool a) (cA (ALe.bool e) (cA (ALe.bool i) (cA (ALe.bool n) (cA (ALe.bool o) (cT (ALe.bool H))))))) ?_
        exact Kn.R Fm (b false h)
     ·refine AW.pN Fm [.s,.s,.w (vb true),.s,.s,.s,.w (vb true),.s,.s,.s,.w (vb true),.s,.s,.s,.w (vb false),.s,.s,.s,.s,.s,.s,.s,.s,.s,.s,.s,.s,.s,.s,.s,.s] [(10,vb false)] [] (cA (ALe.bool a) (cA (ALe.bool e) (cA (ALe.bool i) (cT (ALe.bool n))))) ?_
      exact Kn.R Fm (b false h)
    ·refine AW.pN Fm [.s,.s,.w (vb true),.s,.s,.s,.w (vb true),.s,.s,.s,.w (vb false),.s,.s,.s,.s,.s,.s,.s,.s,.s,.s,.s,.s,.s,.s,.s,.s,.s,.s,.s,.s] [(10,vb false)] [] (cA (ALe.bool a) (cA (ALe.bool e) (cT (ALe.bool i)))) ?_
     exact Kn.R Fm (b false h)
   ·refine AW.pN Fm [.s,.s,.w (vb true),.s,.s,.s,.w (vb false),.s,.s,.s,.s,.s,.s,.s,.s,.s,.s,.s,.s,.s,.s,.s,.s,.s,.s,.s,.s,.s,.s,.s,.s] [(10,vb false)] [] (cA (ALe.bool a) (cT (ALe.bool e))) ?_
    exact Kn.R Fm (b false h)
  ·refine AW.pN Fm [.s,.s,.w (vb false),.s,.s,.s,.s,.s,.s,.s,.s,.s,.s,.s,.s,.s,.s,.s,.s,.s,.s,.s,.s,.s,.s,.s,.s,.s,.s,.s,.s] [(10,vb false)] [] (cT (ALe.bool a)) ?_
   exact Kn.R Fm (b false h)
end Go.Ab
end
