/- The code follows the plain programs: whenever the plain program has a result. -/
import Derived.Test.YtgfmopdbhjcpfaaGreatSpA
import Derived.Test.YtgfmopdbhjcpfaaGreatBaA
set_option linter.unusedVariables false
set_option linter.unusedSimpArgs false
section
namespace Go.Ab
open Go.Proofs
set_option linter.unusedVariables false
set_option maxRecDepth 100000
theorem ref17_brackets_spec {F:Nat} {a:(List Bracket)} {r:Bool} (h:ref17_brackets F a=some r) :
  FSpec Tryz.prog 119 [AL a] [] (vb r) []:=by
 refine FI Tryz.func119 prog_mixed prog_lay fun C Fm=>?_
 unfold ref17_brackets at h
 refine AW.dSG0 Fm 1 [0] [] [] [] ?_
 refine AW.seq (AW.dJ (r:=r) (fun z:Bool=>ref17_brackets_k0 F a z) [0] (fun z=>[(13,vb z)]) [] (fun _=>[]) (fun H h=>?_) (fun A l=>?_))
 ·refine AW.cN h (fun p h=>?_) (fun p h=>?_)
  ·refine AW.dSG0 Fm 1 [] [(2,vb false)] [] [] ?_
   refine AW.ret ?_
   obtain rfl:=Option.some.inj h
   exact Kn.D Fm
  ·refine AW.skip (AW.dSG0 Fm 1 [0] [(3,vi 0)] [] [] ?_)
   refine AW.dJ (r:=r) (fun z:Unit=>ref17_brackets_k3 F) [] (fun _=>[]) [] (fun _=>[]) (fun z h=>?_) (fun G o=>?_)
   ·refine AW.dSG0 Fm 1 [] [(2,vb true)] [] [] ?_
    refine AW.ret ?_
    obtain rfl:=Option.some.inj h
    exact Kn.D Fm
   ·refine AW.dSG0 Fm 3 [3] [(14,AL a),(15,vi (lI a)),(16,vi 0)] [] [] ?_
    refine AW.block (Kn.r Fm [(3,vi 0),(14,AL a),(15,vi (lI a)),(16,vi 0)] [] (by kernel_rfl) ?_)
    refine AW.loopF (E' := fun z=>[(3,vi z.1),(14,AL a),(15,vi (lI a)),(16,vi z.2)]) (S' := fun z=>[]) (fun m z B n h=>?_) h
    obtain ⟨I,b⟩:=z
    refine AW.dSG0 Fm 1 [3,14,15,16] [(17,vb (decide (b<(lI a))))] [] [] ?_
    refine AW.seq (AW.cN h (fun q h=>?_) (fun q h=>?_))
    ·refine AW.skip (AW.seq (AW.block ?_))
     obtain ⟨u,h⟩:=gS h
     refine AW.dSP Fm [.s,.s,.s,.s] [3,14,15,16] [(5,pt 5)] [] [(5,bx [ci ((gl a b.toNat).up_),ci ((gl a b.toNat).rate_)])] (cT u) ?_
     refine AW.seq (AW.dJ (r:=r) (fun z:Bool=>ref17_brackets_k2 F a b m z) [5,14,15,16] (fun z=>[(38,vb z)]) [5] (fun _=>[]) (fun K h=>?_) (fun E e=>?_))
     ·refine AW.cN h (fun t h=>?_) (fun t h=>?_)
      ·refine AW.dSG0 Fm 1 [] [(2,vb false)] [] [] ?_
       refine AW.ret ?_
       obtain rfl:=Option.some.inj h
       exact Kn.D Fm
      ·refine AW.skip (AW.dG0 Fm 3 [14,15,16] [(3,vi (gl a b.toNat).up_)] [] [] ?_)
       obtain ⟨y,h⟩:=gS h
       refine AW.dpN Fm [.s,.s] [3,14,15] [(16,vi (b+1))] [] [] (cT (cT y)) ?_
       exact Kn.R Fm (n ((gl a b.toNat).up_,(b+1)) h)
     ·rcases br_or h with ⟨d,h⟩|⟨d,h⟩
      ·refine AW.dpN Fm [.s,.s,.s,.s,.w (vb true),.s,.s,.s,.s,.s,.s,.s,.s,.s,.s,.s,.s,.s,.s] [5,14,15,16] [(38,vb true)] [5] [] (cT (ALe.bool d)) ?_
       exact Kn.R Fm (e true h)
      ·rcases br_or h with ⟨i,h⟩|⟨i,h⟩
       ·refine AW.dpN Fm [.s,.s,.s,.s,.w (vb false),.s,.s,.s,.s,.w (vb true),.s,.s,.s,.s,.s,.s,.s,.s,.s] [5,14,15,16] [(25,pt 5),(26,vi (gl a b.toNat).up_),(27,vb (decide ((268435456:Int)<((gl a b.toNat).up_)))),(38,vb true)] [5] [] (cA (ALe.bool d) (cT (ALe.bool i))) ?_
        exact Kn.R Fm (e true h)
       ·rcases br_or h with ⟨k,h⟩|⟨k,h⟩
        ·refine AW.dpN Fm [.s,.s,.s,.s,.w (vb false),.s,.s,.s,.s,.w (vb false),.s,.s,.s,.s,.w (vb true),.s,.s,.s,.s] [5,14,15,16] [(25,pt 5),(26,vi (gl a b.toNat).up_),(27,vb (decide ((268435456:Int)<((gl a b.toNat).up_)))),(30,.v (.c (.ptr 5 1))),(31,vi (gl a b.toNat).rate_),(32,vb (decide (((gl a b.toNat).rate_)<(0:Int)))),(38,vb true)] [5] [] (cA (ALe.bool d) (cA (ALe.bool i) (cT (ALe.bool k)))) ?_
         exact Kn.R Fm (e true h)
        ·refine AW.dpN Fm [.s,.s,.s,.s,.w (vb false),.s,.s,.s,.s,.w (vb false),.s,.s,.s,.s,.w (vb false),.s,.s,.s,.s] [5,14,15,16] [(25,pt 5),(26,vi (gl a b.toNat).up_),(27,vb (decide ((268435456:Int)<((gl a b.toNat).up_)))),(30,.v (.c (.ptr 5 1))),(31,vi (gl a b.toNat).rate_),(32,vb (decide (((gl a b.toNat).rate_)<(0:Int)))),(35,.v (.c (.ptr 5 1))),(36,vi (gl a b.toNat).rate_),(37,vb (decide ((1048576:Int)<((gl a b.toNat).rate_)))),(38,vb (decide ((1048576:Int)<((gl a b.toNat).rate_))))] [5] [] (cA (ALe.bool d) (cA (ALe.bool i) (cT (ALe.bool k)))) ?_
         exact Kn.R Fm (e (decide ((1048576:Int)<((gl a b.toNat).rate_))) h)
    ·exact AW.exit (Kn.R Fm (o () h))
 ·rcases br_or h with ⟨j,h⟩|⟨j,h⟩
  ·refine AW.dpN Fm [.s,.s,.s,.w (vb true),.s,.s,.s,.s] [0] [(13,vb true)] [] [] (cT (ALe.bool j)) ?_
   exact Kn.R Fm (l true h)
  ·refine AW.dpN Fm [.s,.s,.s,.w (vb false),.s,.s,.s,.s] [0] [(13,vb (decide ((6:Int)<(lI a))))] [] [] (cT (ALe.bool j)) ?_
   exact Kn.R Fm (l (decide ((6:Int)<(lI a))) h)
theorem ref17_One_spec {F:Nat} {a:Scheme} {r:Int} (h:ref17_One F a=some r) :
  FSpec Tryz.prog 63 [gE a] [] (vi r) []:=by
 refine FI Tryz.func63 prog_mixed prog_lay fun C Fm=>?_
 unfold ref17_One at h
 refine AW.dSG0 Fm 2 [] [(1,pt 1)] [] [(1,bx (gC a))] ?_
 refine AW.seq (AW.dJ (r:=r) (fun z:Bool=>ref17_One_k0 F a z) [1] (fun z=>[(21,vb z)]) [1] (fun _=>[]) (fun I h=>?_) (fun G d=>?_))
 ·refine AW.cN h (fun p h=>?_) (fun p h=>?_)
  ·refine AW.dSG0 Fm 1 [] [(2,vi 2)] [] [] ?_
   refine AW.ret ?_
   obtain rfl:=Option.some.inj h
   exact Kn.D Fm
  ·refine AW.skip (AW.seq (AW.seq ?_))
   obtain ⟨E,A,h⟩:=bS h
   refine AW.dG Fm [.s,.s,.k _,.s] (fun K=>K 2∧True) [1] [(25,vb (!E))] [1] [] ⟨KAt.CC (ref02_Name_spec A) Tryz.call118 [],⟨⟩⟩ ?_
   refine AW.cN h (fun q h=>?_) (fun q h=>?_)
   ·refine AW.dSG0 Fm 1 [] [(2,vi 5)] [] [] ?_
    refine AW.ret ?_
    obtain rfl:=Option.some.inj h
    exact Kn.D Fm
   ·refine AW.skip (AW.seq (AW.seq ?_))
    obtain ⟨o,B,h⟩:=bS h
    refine AW.dG Fm [.s,.s,.k _,.s] (fun K=>K 2∧True) [1] [(3,vi o)] [1] [] ⟨KAt.CC (ref16_Check_spec B) Tryz.call92 [],⟨⟩⟩ ?_
    refine AW.dSG0 Fm 2 [1,3] [(30,vb (o != (0:Int)))] [1] [] ?_
    refine AW.cN h (fun t h=>?_) (fun t h=>?_)
    ·refine AW.dSG0 Fm 2 [] [(2,vi o)] [] [] ?_
     refine AW.ret ?_
     obtain rfl:=Option.some.inj h
     exact Kn.D Fm
    ·refine AW.skip (AW.seq (AW.dJ (r:=r) (fun z:Bool=>ref17_One_k1 F z) [] (fun z=>[(54,vb z)]) [] (fun _=>[]) (fun L h=>?_) (fun H e=>?_)))
     ·refine AW.cN h (fun u h=>?_) (fun u h=>?_)
      ·refine AW.dSG0 Fm 1 [] [(2,vi 3)] [] [] ?_
       refine AW.ret ?_
       obtain rfl:=Option.some.inj h
       exact Kn.D Fm
      ·refine AW.skip (AW.dSG0 Fm 1 [] [(2,vi 0)] [] [] ?_)
       refine AW.ret ?_
       obtain rfl:=Option.some.inj h
       exact Kn.D Fm
     ·obtain ⟨M,l,h⟩:=bS h
      rcases br_or h with ⟨c,h⟩|⟨c,h⟩
      ·refine AW.dG Fm [.s,.s,.k _,.s,.w (vb true),.s,.s,.s,.s,.s,.s,.s,.s,.s,.s,.s,.s,.s,.s,.s,.s,.s,.s] (fun K=>K 2∧_∧True) [] [(54,vb true)] [] [] ⟨KAt.CC (ref17_brackets_spec l) Tryz.call119 [],ALe.bool c,⟨⟩⟩ ?_
       exact Kn.R Fm (e true h)
      ·rcases br_or h with ⟨j,h⟩|⟨j,h⟩
       ·refine AW.dG Fm [.s,.s,.k _,.s,.w (vb false),.s,.s,.s,.s,.w (vb true),.s,.s,.s,.s,.s,.s,.s,.s,.s,.s,.s,.s,.s] (fun K=>K 2∧_∧_∧True) [] [(54,vb true)] [] [] ⟨KAt.CC (ref17_brackets_spec l) Tryz.call119 [],ALe.bool c,ALe.bool j,⟨⟩⟩ ?_
        exact Kn.R Fm (e true h)
       ·rcases br_or h with ⟨n,h⟩|⟨n,h⟩
        ·refine AW.dG Fm [.s,.s,.k _,.s,.w (vb false),.s,.s,.s,.s,.w (vb false),.s,.s,.s,.s,.w (vb true),.s,.s,.s,.s,.s,.s,.s,.s] (fun K=>K 2∧_∧_∧_∧True) [] [(54,vb true)] [] [] ⟨KAt.CC (ref17_brackets_spec l) Tryz.call119 [],ALe.bool c,ALe.bool j,ALe.bool n,⟨⟩⟩ ?_
         exact Kn.R Fm (e true h)
        ·obtain ⟨y,h⟩:=gS h
         refine AW.dG Fm [.s,.s,.k _,.s,.w (vb false),.s,.s,.s,.s,.w (vb false),.s,.s,.s,.s,.w (vb false),.s,.s,.s,.s,.s,.s,.s,.s] (fun K=>K 2∧_∧_∧_∧_∧True) [] [(54,vb ((band .i64 (a.excludes_.fdiv (2 ^ (min (a.number_).toNat (IntKind.bits .i64)))) (1:Int))==(1:Int)))] [] [] ⟨KAt.CC (ref17_brackets_spec l) Tryz.call119 [],ALe.bool c,ALe.bool j,ALe.bool n,y,⟨⟩⟩ ?_
         exact Kn.R Fm (e ((band .i64 (a.excludes_.fdiv (2 ^ (min (a.number_).toNat (IntKind.bits .i64)))) (1:Int))==(1:Int)) h)
 ·rcases br_or h with ⟨b,h⟩|⟨b,h⟩
  ·refine AW.dpN Fm [.s,.s,.s,.w (vb true),.s,.s,.s,.s,.s,.s,.s,.s,.s,.s,.s,.s,.s,.s] [1] [(21,vb true)] [1] [] (cT (ALe.bool b)) ?_
   exact Kn.R Fm (d true h)
  ·rcases br_or h with ⟨i,h⟩|⟨i,h⟩
   ·refine AW.dpN Fm [.s,.s,.s,.w (vb false),.s,.s,.s,.s,.w (vb true),.s,.s,.s,.s,.s,.s,.s,.s,.s] [1] [(21,vb true)] [1] [] (cA (ALe.bool b) (cT (ALe.bool i))) ?_
    exact Kn.R Fm (d true h)
   ·rcases br_or h with ⟨m,h⟩|⟨m,h⟩
    ·refine AW.dpN Fm [.s,.s,.s,.w (vb false),.s,.s,.s,.s,.w (vb false),.s,.s,.s,.s,.w (vb true),.s,.s,.s,.s] [1] [(21,vb true)] [1] [] (cA (ALe.bool b) (cA (ALe.bool i) (cT (ALe.bool m)))) ?_
     exact Kn.R Fm (d true h)
    ·refine AW.dpN Fm [.s,.s,.s,.w (vb false),.s,.s,.s,.s,.w (vb false),.s,.s,.s,.s,.w (vb false),.s,.s,.s,.s] [1] [(21,vb (decide ((268435456:Int)<a.least_)))] [1] [] (cA (ALe.bool b) (cA (ALe.bool i) (cT (ALe.bool m)))) ?_
     exact Kn.R Fm (d (decide ((268435456:Int)<a.least_)) h)
theorem ref17_Find_spec {F:Nat} {a:(List Scheme)} {c:Int} {r:Int} (h:ref17_Find F a c=some r) :
  FSpec Tryz.prog 64 [AL a,vi c] [] (vi r) []:=by
 refine FI Tryz.func64 prog_mixed prog_lay fun C Fm=>?_
 unfold ref17_Find at h
 refine AW.dSG0 Fm 1 [0,1] [] [] [] ?_
 refine AW.dJ (r:=r) (fun z:Unit=>ref17_Find_k1 F) [] (fun _=>[]) [] (fun _=>[]) (fun z h=>?_) (fun o i=>?_)
 ·refine AW.dSG0 Fm 1 [] [(4,vi (-1:Int))] [] [] ?_
  refine AW.ret ?_
  obtain rfl:=Option.some.inj h
  exact Kn.D Fm
 ·refine AW.dSG0 Fm 3 [1] [(7,AL a),(8,vi (lI a)),(9,vi 0)] [] [] ?_
  refine AW.block (Kn.r Fm [(1,vi c),(7,AL a),(8,vi (lI a)),(9,vi 0)] [] (by kernel_rfl) ?_)
  refine AW.loopF (E' := fun z=>[(1,vi c),(7,AL a),(8,vi (lI a)),(9,vi z)]) (S' := fun z=>[]) (fun p b n e h=>?_) h
  refine AW.dSG0 Fm 1 [1,7,8,9] [(10,vb (decide (b<(lI a))))] [] [] ?_
  refine AW.seq (AW.cN h (fun j h=>?_) (fun j h=>?_))
  ·refine AW.skip (AW.seq (AW.block ?_))
   obtain ⟨l,h⟩:=gS h
   refine AW.dSP Fm [.s,.s,.s,.s,.s,.s] [1,7,8,9] [(5,vi b),(6,pt 6)] [] [(6,bx [ci ((gl a b.toNat).number_),.d (.str (gl a b.toNat).name_),ci ((gl a b.toNat).cond_.op_),ci ((gl a b.toNat).cond_.num_),ci ((gl a b.toNat).cond_.more_),.d (DL (α:=Term) (gl a b.toNat).cond_.kids_),.d (DL (α:=Bracket) (gl a b.toNat).brackets_),ci ((gl a b.toNat).least_),ci ((gl a b.toNat).excludes_),.d (.bool (gl a b.toNat).needs_)])] (cT l) ?_
   refine AW.dSG0 Fm 4 [1,5,7,8,9] [(17,vb (((gl a b.toNat).number_)==c))] [] [] ?_
   refine AW.cN h (fun k h=>?_) (fun k h=>?_)
   ·refine AW.dSG0 Fm 2 [] [(4,vi b)] [] [] ?_
    refine AW.ret ?_
    obtain rfl:=Option.some.inj h
    exact Kn.D Fm
   ·refine AW.skip ?_
    obtain ⟨m,h⟩:=gS h
    refine AW.dpN Fm [.s,.s] [1,7,8] [(9,vi (b+1))] [] [] (cT (cT m)) ?_
    exact Kn.R Fm (e (b+1) h)
  ·exact AW.exit (Kn.R Fm (i () h))
theorem ref17_Check_spec {F:Nat} {e:(List Scheme)} {r:Int×Int} (h:ref17_Check F e=some r) :
  FSpec Tryz.prog 27 [AL e] [] (.t [.c (ci r.1),.c (ci r.2)]) []:=by
 refine FI Tryz.func27 prog_mixed prog_lay fun C Fm=>?_
 unfold ref17_Check at h
 refine AW.dSG0 Fm 2 [0] [] [] [] ?_
 refine AW.seq (AW.dSG0 Fm 3 [0] [(15,vb (decide ((16:Int)<(lI e))))] [] [] ?_)
 refine AW.cN h (fun Z h=>?_) (fun Z h=>?_)
 ·refine AW.dSG0 Fm 2 [] [(2,vi 0),(3,vi 1)] [] [] ?_
  refine AW.ret ?_
  obtain rfl:=Option.some.inj h
  exact Kn.D Fm
 ·refine AW.skip (AW.dJ (r:=r) (fun z:Unit=>ref17_Check_k4 F e) [0] (fun _=>[]) [] (fun _=>[]) (fun z h=>?_) (fun H0 U=>?_))
  ·refine AW.dJ (r:=r) (fun z:Unit=>ref17_Check_k10 F) [] (fun _=>[]) [] (fun _=>[]) (fun z h=>?_) (fun O0 Y=>?_)
   ·refine AW.dSG0 Fm 2 [] [(2,vi (-1:Int)),(3,vi 0)] [] [] ?_
    refine AW.ret ?_
    obtain rfl:=Option.some.inj h
    exact Kn.D Fm
   ·refine AW.dSG0 Fm 3 [0] [(59,AL e),(60,vi (lI e)),(61,vi 0)] [] [] ?_
    refine AW.block (Kn.r Fm [(0,AL e),(59,AL e),(60,vi (lI e)),(61,vi 0)] [] (by kernel_rfl) ?_)
    refine AW.loopF (E' := fun z=>[(0,AL e),(59,AL e),(60,vi (lI e)),(61,vi z)]) (S' := fun z=>[]) (fun N l I0 V h=>?_) h
    refine AW.dSG0 Fm 1 [0,59,60,61] [(62,vb (decide (l<(lI e))))] [] [] ?_
    refine AW.seq (AW.cN h (fun e0 h=>?_) (fun e0 h=>?_))
    ·refine AW.skip (AW.dJ (r:=r) (fun z:Unit=>ref17_Check_k9 F l N) [0,59,60,61] (fun _=>[]) [] (fun _=>[]) (fun z h=>?_) (fun N0 X=>?_))
     ·obtain ⟨w0,h⟩:=gS h
      refine AW.dpN Fm [.s,.s] [0,59,60] [(61,vi (l+1))] [] [] (cT (cT w0)) ?_
      exact Kn.R Fm (V (l+1) h)
     ·refine AW.block ?_
      obtain ⟨p0,h⟩:=gS h
      refine AW.dSP Fm [.s,.s,.s,.s,.s,.s] [0,59,60,61] [(9,vi l),(10,pt 10)] [] [(10,bx [ci ((gl e l.toNat).number_),.d (.str (gl e l.toNat).name_),ci ((gl e l.toNat).cond_.op_),ci ((gl e l.toNat).cond_.num_),ci ((gl e l.toNat).cond_.more_),.d (DL (α:=Term) (gl e l.toNat).cond_.kids_),.d (DL (α:=Bracket) (gl e l.toNat).brackets_),ci ((gl e l.toNat).least_),ci ((gl e l.toNat).excludes_),.d (.bool (gl e l.toNat).needs_)])] (cT p0) ?_
      refine AW.dSG0 Fm 1 [0,9,10,59,60,61] [(11,vi 0)] [10] [] ?_
      refine AW.block (Kn.r Fm [(0,AL e),(9,vi l),(10,pt 10),(11,vi 0),(59,AL e),(60,vi (lI e)),(61,vi l)] [(10,bx [ci ((gl e l.toNat).number_),.d (.str (gl e l.toNat).name_),ci ((gl e l.toNat).cond_.op_),ci ((gl e l.toNat).cond_.num_),ci ((gl e l.toNat).cond_.more_),.d (DL (α:=Term) (gl e l.toNat).cond_.kids_),.d (DL (α:=Bracket) (gl e l.toNat).brackets_),ci ((gl e l.toNat).least_),ci ((gl e l.toNat).excludes_),.d (.bool (gl e l.toNat).needs_)])] (by kernel_rfl) ?_)
      refine AW.loopF (E' := fun z=>[(0,AL e),(9,vi l),(10,pt 10),(11,vi z),(59,AL e),(60,vi (lI e)),(61,vi l)]) (S' := fun z=>[(10,bx [ci ((gl e l.toNat).number_),.d (.str (gl e l.toNat).name_),ci ((gl e l.toNat).cond_.op_),ci ((gl e l.toNat).cond_.num_),ci ((gl e l.toNat).cond_.more_),.d (DL (α:=Term) (gl e l.toNat).cond_.kids_),.d (DL (α:=Bracket) (gl e l.toNat).brackets_),ci ((gl e l.toNat).least_),ci ((gl e l.toNat).excludes_),.d (.bool (gl e l.toNat).needs_)])]) (fun B o K0 W h=>?_) h
      refine AW.seq (AW.dSG0 Fm 2 [0,9,10,11,59,60,61] [(67,vb (decide (o≤(15:Int))))] [10] [] ?_)
      refine AW.cN h (fun i0 h=>?_) (fun i0 h=>?_)
      ·refine AW.skip (AW.dJ (r:=r) (fun z:Unit=>ref17_Check_k8 F o B) [0,9,10,11,59,60,61] (fun _=>[]) [10] (fun _=>[]) (fun z h=>?_) (fun M0 G=>?_))
       ·obtain ⟨u0,h⟩:=gS h
        refine AW.dpN Fm [.s,.s,.s] [0,9,10,59,60,61] [(11,vi (o+1))] [10] [] (cT (cT u0)) ?_
        exact Kn.R Fm (W (o+1) h)
       ·refine AW.block (AW.seq ?_)
        obtain ⟨q0,h⟩:=gS h
        refine AW.dSP Fm [.s,.s,.s,.s,.s,.s] [0,9,10,11,59,60,61] [(75,vb ((band .i64 (((gl e l.toNat).excludes_).fdiv (2 ^ (min (o).toNat (IntKind.bits .i64)))) (1:Int))==(0:Int)))] [10] [] (cT q0) ?_
        refine AW.cN h (fun j0 h=>?_) (fun j0 h=>?_)
        ·exact AW.exit (Kn.R Fm (G () h))
        ·refine AW.skip (AW.seq ?_)
         obtain ⟨n,A0,h⟩:=bS h
         refine AW.dG Fm [.s,.s,.k _,.s] (fun K=>K 2∧True) [0,9,10,11,59,60,61] [(12,vi n)] [10] [] ⟨KAt.CC (ref17_Find_spec A0) Tryz.call64 [],⟨⟩⟩ ?_
         refine AW.dJ (r:=r) (fun z:Bool=>ref17_Check_k7 F l o B z) [0,9,10,11,59,60,61] (fun z=>[(92,vb z)]) [10] (fun _=>[]) (fun R0 h=>?_) (fun L0 E=>?_)
         ·refine AW.cN h (fun k0 h=>?_) (fun k0 h=>?_)
          ·refine AW.dSG0 Fm 3 [] [(2,vi l),(3,vi 17)] [] [] ?_
           refine AW.ret ?_
           obtain rfl:=Option.some.inj h
           exact Kn.D Fm
          ·exact AW.skip (Kn.R Fm (G () h))
         ·rcases br_or h with ⟨y,h⟩|⟨y,h⟩
          ·refine AW.dpN Fm [.s,.s,.w (vb true),.s,.s,.s,.s,.s,.s,.s,.s,.s,.s,.s] [0,9,10,11,59,60,61] [(92,vb true)] [10] [] (cT (ALe.bool y)) ?_
           exact Kn.R Fm (E true h)
          ·obtain ⟨s0,t0,h⟩:=gS2 h
           refine AW.dpN Fm [.s,.s,.w (vb false),.s,.s,.s,.s,.s,.s,.s,.s,.s,.s,.s] [0,9,10,11,59,60,61] [(82,AL e),(83,vi n),(84,.v (.c (.elm [.int .i64 (gl e n.toNat).number_,.str (gl e n.toNat).name_,.int .i64 (gl e n.toNat).cond_.op_,.int .i64 (gl e n.toNat).cond_.num_,.int .i64 (gl e n.toNat).cond_.more_,DL (α:=Term) (gl e n.toNat).cond_.kids_,DL (α:=Bracket) (gl e n.toNat).brackets_,.int .i64 (gl e n.toNat).least_,.int .i64 (gl e n.toNat).excludes_,.bool (gl e n.toNat).needs_]))),(85,.v (.c (.elm [.int .i64 (gl e n.toNat).excludes_,.bool (gl e n.toNat).needs_]))),(86,vi (gl e n.toNat).excludes_),(87,pt 10),(88,vi (gl e l.toNat).number_),(89,vi (((gl e n.toNat).excludes_).fdiv (2 ^ (min (((gl e l.toNat).number_)).toNat (IntKind.bits .i64))))),(90,vi (band .i64 (((gl e n.toNat).excludes_).fdiv (2 ^ (min (((gl e l.toNat).number_)).toNat (IntKind.bits .i64)))) (1:Int))),(91,vb ((band .i64 (((gl e n.toNat).excludes_).fdiv (2 ^ (min (((gl e l.toNat).number_)).toNat (IntKind.bits .i64)))) (1:Int))==(0:Int))),(92,vb ((band .i64 (((gl e n.toNat).excludes_).fdiv (2 ^ (min (((gl e l.toNat).number_)).toNat (IntKind.bits .i64)))) (1:Int))==(0:Int)))] [10] [] (cA (ALe.bool y) (cA s0 (cT t0))) ?_
           exact Kn.R Fm (E ((band .i64 (((gl e n.toNat).excludes_).fdiv (2 ^ (min (((gl e l.toNat).number_)).toNat (IntKind.bits .i64)))) (1:Int))==(0:Int)) h)
      ·exact AW.exit (Kn.R Fm (X () h))
    ·exact AW.exit (Kn.R Fm (Y () h))
  ·refine AW.dSG0 Fm 3 [0] [(16,AL e),(17,vi (lI e)),(18,vi 0)] [] [] ?_
   refine AW.block (Kn.r Fm [(0,AL e),(16,AL e),(17,vi (lI e)),(18,vi 0)] [] (by kernel_rfl) ?_)
   refine AW.loopF (E' := fun z=>[(0,AL e),(16,AL e),(17,vi (lI e)),(18,vi z)]) (S' := fun z=>[]) (fun L i B0 O h=>?_) h
   refine AW.dSG0 Fm 1 [0,16,17,18] [(19,vb (decide (i<(lI e))))] [] [] ?_
   refine AW.seq (AW.cN h (fun a0 h=>?_) (fun a0 h=>?_))
   ·refine AW.skip (AW.dJ (r:=r) (fun z:Unit=>ref17_Check_k3 F i L) [0,16,17,18] (fun _=>[]) [] (fun _=>[]) (fun z h=>?_) (fun G0 T=>?_))
    ·obtain ⟨o0,h⟩:=gS h
     refine AW.dpN Fm [.s,.s] [0,16,17] [(18,vi (i+1))] [] [] (cT (cT o0)) ?_
     exact Kn.R Fm (O (i+1) h)
    ·refine AW.block ?_
     obtain ⟨l0,h⟩:=gS h
     refine AW.dSP Fm [.s,.s,.s,.s,.s,.s] [0,16,17,18] [(4,vi i),(5,pt 5)] [] [(5,bx [ci ((gl e i.toNat).number_),.d (.str (gl e i.toNat).name_),ci ((gl e i.toNat).cond_.op_),ci ((gl e i.toNat).cond_.num_),ci ((gl e i.toNat).cond_.more_),.d (DL (α:=Term) (gl e i.toNat).cond_.kids_),.d (DL (α:=Bracket) (gl e i.toNat).brackets_),ci ((gl e i.toNat).least_),ci ((gl e i.toNat).excludes_),.d (.bool (gl e i.toNat).needs_)])] (cT l0) ?_
     refine AW.seq (AW.seq ?_)
     obtain ⟨A,y0,h⟩:=bS h
     refine AW.dG Fm [.s,.k _,.s] (fun K=>K 1∧True) [0,4,5,16,17,18] [(6,vi A)] [5] [] ⟨KAt.CC (ref17_One_spec y0) Tryz.call63 [],⟨⟩⟩ ?_
     refine AW.dSG0 Fm 2 [0,4,5,6,16,17,18] [(26,vb (A != (0:Int)))] [5] [] ?_
     refine AW.cN h (fun b0 h=>?_) (fun b0 h=>?_)
     ·refine AW.dSG0 Fm 4 [] [(2,vi i),(3,vi A)] [] [] ?_
      refine AW.ret ?_
      obtain rfl:=Option.some.inj h
      exact Kn.D Fm
     ·refine AW.skip ?_
      obtain ⟨H,h⟩:=gS h
      refine AW.dSP Fm [.s,.s,.w (AL (α:=Scheme) (e.take i.toNat)),.s,.s] [0,4,5,16,17,18] [(31,AL (α:=Scheme) (e.take i.toNat)),(32,vi (lI (e.take i.toNat))),(33,vi 0)] [5] [] (cA (⟨H,(Is.refl e).len⟩ : ((sl (List.length e) (LF e) none (some i)).2∧∀ j,j<List.length e→(LF e j).length=10)) (cT (ALe.lst (sl_is e none (some i) H):ALe (.v (.c (.d (.lst (sl (List.length e) (LF e) none (some i)).1.1 (sl (List.length e) (LF e) none (some i)).1.2)))) (AL (α:=Scheme) (e.take i.toNat))))) ?_
      refine AW.block (Kn.r Fm [(0,AL e),(4,vi i),(5,pt 5),(16,AL e),(17,vi (lI e)),(18,vi i),(31,AL (α:=Scheme) (e.take i.toNat)),(32,vi (lI (e.take i.toNat))),(33,vi 0)] [(5,bx [ci ((gl e i.toNat).number_),.d (.str (gl e i.toNat).name_),ci ((gl e i.toNat).cond_.op_),ci ((gl e i.toNat).cond_.num_),ci ((gl e i.toNat).cond_.more_),.d (DL (α:=Term) (gl e i.toNat).cond_.kids_),.d (DL (α:=Bracket) (gl e i.toNat).brackets_),ci ((gl e i.toNat).least_),ci ((gl e i.toNat).excludes_),.d (.bool (gl e i.toNat).needs_)])] (by kernel_rfl) ?_)
      refine AW.loopF (E' := fun z=>[(0,AL e),(4,vi i),(5,pt 5),(16,AL e),(17,vi (lI e)),(18,vi i),(31,AL (α:=Scheme) (e.take i.toNat)),(32,vi (lI (e.take i.toNat))),(33,vi z)]) (S' := fun z=>[(5,bx [ci ((gl e i.toNat).number_),.d (.str (gl e i.toNat).name_),ci ((gl e i.toNat).cond_.op_),ci ((gl e i.toNat).cond_.num_),ci ((gl e i.toNat).cond_.more_),.d (DL (α:=Term) (gl e i.toNat).cond_.kids_),.d (DL (α:=Bracket) (gl e i.toNat).brackets_),ci ((gl e i.toNat).least_),ci ((gl e i.toNat).excludes_),.d (.bool (gl e i.toNat).needs_)])]) (fun M m D0 P h=>?_) h
      refine AW.dSG0 Fm 1 [0,4,5,16,17,18,31,32,33] [(34,vb (decide (m<(lI (e.take i.toNat)))))] [5] [] ?_
      refine AW.seq (AW.cN h (fun c0 h=>?_) (fun c0 h=>?_))
      ·refine AW.skip (AW.seq (AW.block ?_))
       obtain ⟨m0,h⟩:=gS h
       refine AW.dSP Fm [.s,.s,.s,.s,.s,.s] [0,4,5,16,17,18,31,32,33] [(7,vi m),(8,pt 8)] [5] [(8,bx [ci ((gl (e.take i.toNat) m.toNat).number_),.d (.str (gl (e.take i.toNat) m.toNat).name_),ci ((gl (e.take i.toNat) m.toNat).cond_.op_),ci ((gl (e.take i.toNat) m.toNat).cond_.num_),ci ((gl (e.take i.toNat) m.toNat).cond_.more_),.d (DL (α:=Term) (gl (e.take i.toNat) m.toNat).cond_.kids_),.d (DL (α:=Bracket) (gl (e.take i.toNat) m.toNat).brackets_),ci ((gl (e.take i.toNat) m.toNat).least_),ci ((gl (e.take i.toNat) m.toNat).excludes_),.d (.bool (gl (e.take i.toNat) m.toNat).needs_)])] (cT m0) ?_
       refine AW.dJ (r:=r) (fun z:Bool=>ref17_Check_k2 F i m M z) [0,4,5,16,17,18,31,32,33] (fun z=>[(55,vb z)]) [5] (fun _=>[]) (fun P0 h=>?_) (fun E0 q=>?_)
       ·refine AW.cN h (fun d0 h=>?_) (fun d0 h=>?_)
        ·refine AW.dSG0 Fm 3 [] [(2,vi i),(3,vi 6)] [] [] ?_
         refine AW.ret ?_
         obtain rfl:=Option.some.inj h
         exact Kn.D Fm
        ·refine AW.skip ?_
         obtain ⟨n0,h⟩:=gS h
         refine AW.dpN Fm [.s,.s] [0,4,5,16,17,18,31,32] [(33,vi (m+1))] [5] [] (cT (cT n0)) ?_
         exact Kn.R Fm (P (m+1) h)
       ·rcases br_or h with ⟨p,h⟩|⟨p,h⟩
        ·refine AW.dG Fm [.s,.s,.s,.s,.k (sE (vb (sEq ((gl (e.take i.toNat) m.toNat).name_) ((gl e i.toNat).name_)))),.w (vb true),.s,.s,.s,.s,.s,.s,.s,.s,.s,.s,.s,.s] (fun K=>K 4∧_∧True) [0,4,5,16,17,18,31,32,33] [(55,vb true)] [5] [] ⟨KAt.strC (op:=.eql) (a:=((gl (e.take i.toNat) m.toNat).name_)) (b:=((gl e i.toNat).name_)) rfl rfl (by kernel_rfl) (by kernel_rfl) (by kernel_rfl) rfl,ALe.bool p,⟨⟩⟩ ?_
         exact Kn.R Fm (q true h)
        ·obtain ⟨I,h⟩:=gS h
         rcases br_or h with ⟨u,h⟩|⟨u,h⟩
         ·refine AW.dG Fm [.s,.s,.s,.s,.k (sE (vb (sEq ((gl (e.take i.toNat) m.toNat).name_) ((gl e i.toNat).name_)))),.w (vb false),.s,.s,.s,.s,.w (vb true),.s,.s,.s,.s,.s,.s,.s] (fun K=>K 4∧_∧(_∧True)∧_∧True) [0,4,5,16,17,18,31,32,33] [(44,vi m),(45,vi i),(46,vi (i-1)),(47,vb (m==(i-1))),(48,vb true),(49,pt 5),(50,vi (gl e i.toNat).number_),(51,pt 8),(52,vi (gl (e.take i.toNat) m.toNat).number_),(53,vb (decide (((gl e i.toNat).number_)≤((gl (e.take i.toNat) m.toNat).number_)))),(54,vb (decide (((gl e i.toNat).number_)≤((gl (e.take i.toNat) m.toNat).number_)))),(55,vb (decide (((gl e i.toNat).number_)≤((gl (e.take i.toNat) m.toNat).number_))))] [5,8] [] ⟨KAt.strC (op:=.eql) (a:=((gl (e.take i.toNat) m.toNat).name_)) (b:=((gl e i.toNat).name_)) rfl rfl (by kernel_rfl) (by kernel_rfl) (by kernel_rfl) rfl,ALe.bool p,⟨I,⟨⟩⟩,ALe.bool u,⟨⟩⟩ ?_
          exact Kn.R Fm (q (decide (((gl e i.toNat).number_)≤((gl (e.take i.toNat) m.toNat).number_))) h)
         ·refine AW.dG Fm [.s,.s,.s,.s,.k (sE (vb (sEq ((gl (e.take i.toNat) m.toNat).name_) ((gl e i.toNat).name_)))),.w (vb false),.s,.s,.s,.s,.w (vb false),.s,.s,.s,.s,.s,.s,.s] (fun K=>K 4∧_∧(_∧True)∧_∧True) [0,4,5,16,17,18,31,32,33] [(44,vi m),(45,vi i),(46,vi (i-1)),(47,vb (m==(i-1))),(48,vb false),(54,vb false),(55,vb false)] [5] [] ⟨KAt.strC (op:=.eql) (a:=((gl (e.take i.toNat) m.toNat).name_)) (b:=((gl e i.toNat).name_)) rfl rfl (by kernel_rfl) (by kernel_rfl) (by kernel_rfl) rfl,ALe.bool p,⟨I,⟨⟩⟩,ALe.bool u,⟨⟩⟩ ?_
          exact Kn.R Fm (q false h)
      ·exact AW.exit (Kn.R Fm (T () h))
   ·exact AW.exit (Kn.R Fm (U () h))
theorem keep_Tape_Law_spec {F:Nat} {B0:Tape} {D0:Int} {r:Tape×(List Scheme)} (h:keep_Tape_Law F B0 D0=some r) :
  FSpec Tryz.prog 35 [pt 0,vi D0] [(0,bx (gC B0))] (ow 100) [(0,bx (gC r.1)),(100,AO (α:=Scheme) r.2)]:=by
 refine FI Tryz.func35 prog_mixed prog_lay fun C Fm=>?_
 unfold keep_Tape_Law at h
 refine AW.dSG Fm [.m] (fun K=>True) [0,1] [] [0] [] True.intro ?_
 refine AW.dSW Fm [.m] (fun K=>True) [0,1] [(5,ow 5)] [0] [(5,AO (α:=Scheme) ([]:List Scheme))] True.intro [(5,.arr 10 (0) (fun _=>[]))] ⟨OLe.is ((Is.nil (α:=Scheme))),⟨⟩⟩ ?_
 refine AW.seq ?_
 obtain ⟨i0,p1,h⟩:=bS h
 refine AW.dG Fm [.s,.k _,.s] (fun K=>K 1∧True) [0,1,5] [(6,vi i0.2)] [5] [(0,bx (gC i0.1))] ⟨KAt.CC (keep_Tape_Next_spec p1) Tryz.call18 [(0,0)],⟨⟩⟩ ?_
 refine AW.dJ (r:=r) (fun z:(List Int)×Int×(List Scheme)=>keep_Tape_Law_k5 F z.1 z.2.1 z.2.2) [0,5] (fun _=>[]) [] (fun z=>[(0,bx [.d (DL z.1),ci z.2.1]),(5,AO z.2.2)]) (fun z h=>?_) (fun i2 M0=>?_)
 ·obtain ⟨O1,P1,P⟩:=z
  refine AW.dJ (r:=r) (fun z:(List Scheme)×(List Int)×Int=>keep_Tape_Law_k10 F z.1 z.2.1 z.2.2) [5] (fun _=>[]) [] (fun z=>[(0,bx [.d (DL z.2.1),ci z.2.2]),(5,AO z.1)]) (fun z h=>?_) (fun n2 R0=>?_)
  ·obtain ⟨e0,y0,A0⟩:=z
   refine AW.seq (AW.seq ?_)
   obtain ⟨Y,G1,h⟩:=bS h
   refine AW.dG Fm [.s,.k (sE (.t [.c (ci Y.1),.c (ci Y.2)])),.s,.s,.s,.s,.s] (fun K=>K 1∧True) [5] [(14,vi Y.2)] [0,5] [] ⟨KAt.callBX (ref17_Check_spec G1) Tryz.call27 [5] [.tmp 112] rfl (by kernel_rfl) (by kernel_rfl) ⟨ArgB.own 5 (es:=10) (n:=List.length e0) (f:=LF e0) (by kernel_rfl) (by kernel_rfl) (by kernel_rfl) (by kernel_rfl),⟨⟩⟩,⟨⟩⟩ ?_
   refine AW.dSG0 Fm 2 [5] [(117,vb (Y.2 != (0:Int)))] [0,5] [] ?_
   refine AW.cN h (fun Y0 h=>?_) (fun Y0 h=>?_)
   ·refine AW.dSW Fm [.m] (fun K=>True) [] [(4,ow 4)] [0] [(4,AO (α:=Scheme) ([]:List Scheme))] True.intro [(4,.arr 10 (0) (fun _=>[]))] ⟨OLe.is ((Is.nil (α:=Scheme))),⟨⟩⟩ ?_
    refine AW.ret ?_
    obtain rfl:=Option.some.inj h
    exact Kn.re Fm [(100,4)] [(4,ow 100)] [(0,bx [.d (DL y0),ci A0]),(100,AO (α:=Scheme) ([]:List Scheme))] (by kernel_rfl) (by kernel_rfl) (by kernel_rfl) (by kernel_rfl) (Kn.dn Fm (by kernel_rfl))
   ·refine AW.skip (AW.dSG0 Fm 2 [] [(4,ow 5)] [0,5] [] ?_)
    refine AW.ret ?_
    obtain rfl:=Option.some.inj h
    exact Kn.re Fm [(100,5)] [(4,ow 100)] [(0,bx [.d (DL y0),ci A0]),(100,AO e0)] (by kernel_rfl) (by kernel_rfl) (by kernel_rfl) (by kernel_rfl) (Kn.dn Fm (by kernel_rfl))
  ·refine AW.dSG0 Fm 3 [0,5] [(68,vi (lI P)),(69,vi 0)] [0,5] [] ?_
   refine AW.block (Kn.r Fm [(0,pt 0),(5,ow 5),(68,vi (lI P)),(69,vi 0)] [(0,bx [.d (DL O1),ci P1]),(5,AO P)] (by kernel_rfl) ?_)
   refine AW.loopF (E' := fun z=>[(0,pt 0),(5,ow 5),(68,vi (lI P)),(69,vi z.1)]) (S' := fun z=>[(0,bx [.d (DL z.2.1),ci z.2.2.1]),(5,AO z.2.2.2)]) (fun E0 z j2 N0 h=>?_) h
   obtain ⟨o,u0,w0,T⟩:=z
   refine AW.dSG0 Fm 1 [0,5,68,69] [(70,vb (decide (o<(lI P))))] [0,5] [] ?_
   refine AW.seq (AW.cN h (fun V0 h=>?_) (fun V0 h=>?_))
   ·refine AW.skip (AW.dJ (r:=r) (fun z:(List Int)×Int×(List Scheme)=>keep_Tape_Law_k9 F o E0 z.1 z.2.1 z.2.2) [0,5,68,69] (fun _=>[]) [] (fun z=>[(0,bx [.d (DL z.1),ci z.2.1]),(5,AO z.2.2)]) (fun z h=>?_) (fun m2 P0=>?_))
    ·obtain ⟨X1,Y1,Z1⟩:=z
     obtain ⟨o1,h⟩:=gS h
     refine AW.dpN Fm [.s,.s] [0,5,68] [(69,vi (o+1))] [0,5] [] (cT (cT o1)) ?_
     exact Kn.R Fm (N0 ((o+1),X1,Y1,Z1) h)
    ·refine AW.block (AW.dSG0 Fm 2 [0,5,68,69] [(11,vi o)] [0,5] [] ?_)
     obtain ⟨k1,h⟩:=gS h
     refine AW.dSG Fm [.s,.s,.k (rE { v:=.v (.c (.sub 5 10 0 ((o).toNat))) }),.k (rE { v:=vi ((((o).toNat):Nat):Int) }),.s] (fun K=>K 2∧K 3∧True) [0,5,11,68,69] [(75,vi ((((o).toNat):Nat):Int)),(76,vi 0)] [0,5] [] ⟨KAt.vslice (l:=none) (u:=(some o)) (id:=5) (lo0:=0) (n:=(List.length (α:=Scheme) T)) (N:=List.length (α:=Scheme) T) (f:=LF (α:=Scheme) T) prog_lay slT23 rfl rfl (by kernel_rfl) (by kernel_rfl) (by kernel_rfl) (by kernel_rfl) (by kernel_rfl) k1 (by kernel_rfl),KAt.vlen (es:=10) (id:=5) (lo0:=0) (n:=((o).toNat)) (N:=List.length (α:=Scheme) T) (f:=LF (α:=Scheme) T) prog_lay slT23 rfl rfl (by kernel_rfl) (by kernel_rfl) (by kernel_rfl),⟨⟩⟩ ?_
     refine AW.block (Kn.r Fm [(0,pt 0),(5,ow 5),(11,vi o),(68,vi (lI P)),(69,vi o),(75,vi ((((o).toNat):Nat):Int)),(76,vi 0)] [(0,bx [.d (DL u0),ci w0]),(5,AO T)] (by kernel_rfl) ?_)
     refine AW.loopF (E' := fun z=>[(0,pt 0),(5,ow 5),(11,vi o),(68,vi (lI P)),(69,vi o),(75,vi ((((o).toNat):Nat):Int)),(76,vi z.1)]) (S' := fun z=>[(0,bx [.d (DL z.2.1),ci z.2.2.1]),(5,AO z.2.2.2)]) (fun G0 z k2 O0 h=>?_) h
     obtain ⟨p,R1,T1,e⟩:=z
     refine AW.dSG0 Fm 1 [0,5,11,68,69,75,76] [(77,vb (decide (p<((((o).toNat):Nat):Int))))] [0,5] [] ?_
     refine AW.seq (AW.cN h (fun W0 h=>?_) (fun W0 h=>?_))
     ·refine AW.skip (AW.dJ (r:=r) (fun z:(List Int)×Int×(List Scheme)=>keep_Tape_Law_k8 F p G0 z.1 z.2.1 z.2.2) [0,5,11,68,69,75,76] (fun _=>[]) [] (fun z=>[(0,bx [.d (DL z.1),ci z.2.1]),(5,AO z.2.2)]) (fun z h=>?_) (fun l2 k0=>?_))
      ·obtain ⟨U1,V1,W1⟩:=z
       obtain ⟨n1,h⟩:=gS h
       refine AW.dpN Fm [.s,.s] [0,5,11,68,69,75] [(76,vi (p+1))] [0,5] [] (cT (cT n1)) ?_
       exact Kn.R Fm (O0 ((p+1),U1,V1,W1) h)
      ·refine AW.block (AW.dSG0 Fm 2 [0,5,11,68,69,75,76] [(12,vi p)] [0,5] [] ?_)
       refine AW.seq ?_
       obtain ⟨U,E1,h⟩:=bS h
       refine AW.dG Fm [.s,.k _] (fun K=>K 1∧True) [0,5,11,12,68,69,75,76] [(80,vb U.2)] [5] [(0,bx (gC U.1))] ⟨KAt.CC (keep_Tape_One_spec E1) Tryz.call55 [(0,0)],⟨⟩⟩ ?_
       refine AW.cN h (fun X0 h=>?_) (fun X0 h=>?_)
       ·obtain ⟨l0,m0,l1,b0,h⟩:=gS4 h
        refine AW.dSV Fm [.s,.s,.s,.s,.s,.s,.s,.s,.s,.s,.s,.s,.s,.s,.s] [0,5,11,12,68,69,75,76] [] [0] [(5,AO (α:=Scheme) (List.set e o.toNat (⟨(gl e o.toNat).number_,(gl e o.toNat).name_,(gl e o.toNat).cond_,(gl e o.toNat).brackets_,(gl e o.toNat).least_,(bor .i64 ((gl e o.toNat).excludes_) ((1:Int)*2 ^ (min (((gl e p.toNat).number_)).toNat (IntKind.bits .i64)))),(gl e o.toNat).needs_⟩ : Scheme)))] (cA l0 (cA (toNat_lt l0) (cA m0 (cA (toNat_lt m0) (cA l1 (cA b0 (cT (toNat_lt b0)))))))) [(5,rSt e o.toNat 8 [.int .i64 (bor .i64 ((gl e o.toNat).excludes_) ((1:Int)*2 ^ (min (((gl e p.toNat).number_)).toNat (IntKind.bits .i64))))])] ⟨oSt (toNat_lt b0),⟨⟩⟩ ?_
        obtain ⟨n0,o0,m1,c0,h⟩:=gS4 h
        refine AW.dWP Fm [.s,.s,.s,.s,.s,.s,.s,.s,.s,.s,.s,.s,.s,.s,.s] [0,5,11,68,69,75,76] [] [0] [(5,AO (α:=Scheme) (List.set (List.set e o.toNat (⟨(gl e o.toNat).number_,(gl e o.toNat).name_,(gl e o.toNat).cond_,(gl e o.toNat).brackets_,(gl e o.toNat).least_,(bor .i64 ((gl e o.toNat).excludes_) ((1:Int)*2 ^ (min (((gl e p.toNat).number_)).toNat (IntKind.bits .i64)))),(gl e o.toNat).needs_⟩ : Scheme)) p.toNat (⟨(gl (List.set e o.toNat (⟨(gl e o.toNat).number_,(gl e o.toNat).name_,(gl e o.toNat).cond_,(gl e o.toNat).brackets_,(gl e o.toNat).least_,(bor .i64 ((gl e o.toNat).excludes_) ((1:Int)*2 ^ (min (((gl e p.toNat).number_)).toNat (IntKind.bits .i64)))),(gl e o.toNat).needs_⟩ : Scheme)) p.toNat).number_,(gl (List.set e o.toNat (⟨(gl e o.toNat).number_,(gl e o.toNat).name_,(gl e o.toNat).cond_,(gl e o.toNat).brackets_,(gl e o.toNat).least_,(bor .i64 ((gl e o.toNat).excludes_) ((1:Int)*2 ^ (min (((gl e p.toNat).number_)).toNat (IntKind.bits .i64)))),(gl e o.toNat).needs_⟩ : Scheme)) p.toNat).name_,(gl (List.set e o.toNat (⟨(gl e o.toNat).number_,(gl e o.toNat).name_,(gl e o.toNat).cond_,(gl e o.toNat).brackets_,(gl e o.toNat).least_,(bor .i64 ((gl e o.toNat).excludes_) ((1:Int)*2 ^ (min (((gl e p.toNat).number_)).toNat (IntKind.bits .i64)))),(gl e o.toNat).needs_⟩ : Scheme)) p.toNat).cond_,(gl (List.set e o.toNat (⟨(gl e o.toNat).number_,(gl e o.toNat).name_,(gl e o.toNat).cond_,(gl e o.toNat).brackets_,(gl e o.toNat).least_,(bor .i64 ((gl e o.toNat).excludes_) ((1:Int)*2 ^ (min (((gl e p.toNat).number_)).toNat (IntKind.bits .i64)))),(gl e o.toNat).needs_⟩ : Scheme)) p.toNat).brackets_,(gl (List.set e o.toNat (⟨(gl e o.toNat).number_,(gl e o.toNat).name_,(gl e o.toNat).cond_,(gl e o.toNat).brackets_,(gl e o.toNat).least_,(bor .i64 ((gl e o.toNat).excludes_) ((1:Int)*2 ^ (min (((gl e p.toNat).number_)).toNat (IntKind.bits .i64)))),(gl e o.toNat).needs_⟩ : Scheme)) p.toNat).least_,(bor .i64 ((gl (List.set e o.toNat (⟨(gl e o.toNat).number_,(gl e o.toNat).name_,(gl e o.toNat).cond_,(gl e o.toNat).brackets_,(gl e o.toNat).least_,(bor .i64 ((gl e o.toNat).excludes_) ((1:Int)*2 ^ (min (((gl e p.toNat).number_)).toNat (IntKind.bits .i64)))),(gl e o.toNat).needs_⟩ : Scheme)) p.toNat).excludes_) ((1:Int)*2 ^ (min (((gl (List.set e o.toNat (⟨(gl e o.toNat).number_,(gl e o.toNat).name_,(gl e o.toNat).cond_,(gl e o.toNat).brackets_,(gl e o.toNat).least_,(bor .i64 ((gl e o.toNat).excludes_) ((1:Int)*2 ^ (min (((gl e p.toNat).number_)).toNat (IntKind.bits .i64)))),(gl e o.toNat).needs_⟩ : Scheme)) o.toNat).number_)).toNat (IntKind.bits .i64)))),(gl (List.set e o.toNat (⟨(gl e o.toNat).number_,(gl e o.toNat).name_,(gl e o.toNat).cond_,(gl e o.toNat).brackets_,(gl e o.toNat).least_,(bor .i64 ((gl e o.toNat).excludes_) ((1:Int)*2 ^ (min (((gl e p.toNat).number_)).toNat (IntKind.bits .i64)))),(gl e o.toNat).needs_⟩ : Scheme)) p.toNat).needs_⟩ : Scheme)))] (cA n0 (cA (toNat_lt n0) (cA o0 (cA (toNat_lt o0) (cA m1 (cA c0 (cT (toNat_lt c0)))))))) [(5,rSt (List.set e o.toNat (⟨(gl e o.toNat).number_,(gl e o.toNat).name_,(gl e o.toNat).cond_,(gl e o.toNat).brackets_,(gl e o.toNat).least_,(bor .i64 ((gl e o.toNat).excludes_) ((1:Int)*2 ^ (min (((gl e p.toNat).number_)).toNat (IntKind.bits .i64)))),(gl e o.toNat).needs_⟩ : Scheme)) p.toNat 8 [.int .i64 (bor .i64 ((gl (List.set e o.toNat (⟨(gl e o.toNat).number_,(gl e o.toNat).name_,(gl e o.toNat).cond_,(gl e o.toNat).brackets_,(gl e o.toNat).least_,(bor .i64 ((gl e o.toNat).excludes_) ((1:Int)*2 ^ (min (((gl e p.toNat).number_)).toNat (IntKind.bits .i64)))),(gl e o.toNat).needs_⟩ : Scheme)) p.toNat).excludes_) ((1:Int)*2 ^ (min (((gl (List.set e o.toNat (⟨(gl e o.toNat).number_,(gl e o.toNat).name_,(gl e o.toNat).cond_,(gl e o.toNat).brackets_,(gl e o.toNat).least_,(bor .i64 ((gl e o.toNat).excludes_) ((1:Int)*2 ^ (min (((gl e p.toNat).number_)).toNat (IntKind.bits .i64)))),(gl e o.toNat).needs_⟩ : Scheme)) o.toNat).number_)).toNat (IntKind.bits .i64))))])] ⟨oSt (toNat_lt c0),⟨⟩⟩ ?_
        exact Kn.R Fm (k0 (U.1.l_,U.1.at_,(List.set (List.set e o.toNat (⟨(gl e o.toNat).number_,(gl e o.toNat).name_,(gl e o.toNat).cond_,(gl e o.toNat).brackets_,(gl e o.toNat).least_,(bor .i64 ((gl e o.toNat).excludes_) ((1:Int)*2 ^ (min (((gl e p.toNat).number_)).toNat (IntKind.bits .i64)))),(gl e o.toNat).needs_⟩ : Scheme)) p.toNat (⟨(gl (List.set e o.toNat (⟨(gl e o.toNat).number_,(gl e o.toNat).name_,(gl e o.toNat).cond_,(gl e o.toNat).brackets_,(gl e o.toNat).least_,(bor .i64 ((gl e o.toNat).excludes_) ((1:Int)*2 ^ (min (((gl e p.toNat).number_)).toNat (IntKind.bits .i64)))),(gl e o.toNat).needs_⟩ : Scheme)) p.toNat).number_,(gl (List.set e o.toNat (⟨(gl e o.toNat).number_,(gl e o.toNat).name_,(gl e o.toNat).cond_,(gl e o.toNat).brackets_,(gl e o.toNat).least_,(bor .i64 ((gl e o.toNat).excludes_) ((1:Int)*2 ^ (min (((gl e p.toNat).number_)).toNat (IntKind.bits .i64)))),(gl e o.toNat).needs_⟩ : Scheme)) p.toNat).name_,(gl (List.set e o.toNat (⟨(gl e o.toNat).number_,(gl e o.toNat).name_,(gl e o.toNat).cond_,(gl e o.toNat).brackets_,(gl e o.toNat).least_,(bor .i64 ((gl e o.toNat).excludes_) ((1:Int)*2 ^ (min (((gl e p.toNat).number_)).toNat (IntKind.bits .i64)))),(gl e o.toNat).needs_⟩ : Scheme)) p.toNat).cond_,(gl (List.set e o.toNat (⟨(gl e o.toNat).number_,(gl e o.toNat).name_,(gl e o.toNat).cond_,(gl e o.toNat).brackets_,(gl e o.toNat).least_,(bor .i64 ((gl e o.toNat).excludes_) ((1:Int)*2 ^ (min (((gl e p.toNat).number_)).toNat (IntKind.bits .i64)))),(gl e o.toNat).needs_⟩ : Scheme)) p.toNat).brackets_,(gl (List.set e o.toNat (⟨(gl e o.toNat).number_,(gl e o.toNat).name_,(gl e o.toNat).cond_,(gl e o.toNat).brackets_,(gl e o.toNat).least_,(bor .i64 ((gl e o.toNat).excludes_) ((1:Int)*2 ^ (min (((gl e p.toNat).number_)).toNat (IntKind.bits .i64)))),(gl e o.toNat).needs_⟩ : Scheme)) p.toNat).least_,(bor .i64 ((gl (List.set e o.toNat (⟨(gl e o.toNat).number_,(gl e o.toNat).name_,(gl e o.toNat).cond_,(gl e o.toNat).brackets_,(gl e o.toNat).least_,(bor .i64 ((gl e o.toNat).excludes_) ((1:Int)*2 ^ (min (((gl e p.toNat).number_)).toNat (IntKind.bits .i64)))),(gl e o.toNat).needs_⟩ : Scheme)) p.toNat).excludes_) ((1:Int)*2 ^ (min (((gl (List.set e o.toNat (⟨(gl e o.toNat).number_,(gl e o.toNat).name_,(gl e o.toNat).cond_,(gl e o.toNat).brackets_,(gl e o.toNat).least_,(bor .i64 ((gl e o.toNat).excludes_) ((1:Int)*2 ^ (min (((gl e p.toNat).number_)).toNat (IntKind.bits .i64)))),(gl e o.toNat).needs_⟩ : Scheme)) o.toNat).number_)).toNat (IntKind.bits .i64)))),(gl (List.set e o.toNat (⟨(gl e o.toNat).number_,(gl e o.toNat).name_,(gl e o.toNat).cond_,(gl e o.toNat).brackets_,(gl e o.toNat).least_,(bor .i64 ((gl e o.toNat).excludes_) ((1:Int)*2 ^ (min (((gl e p.toNat).number_)).toNat (IntKind.bits .i64)))),(gl e o.toNat).needs_⟩ : Scheme)) p.toNat).needs_⟩ : Scheme))) h)
       ·exact AW.skip (Kn.R Fm (k0 (U.1.l_,U.1.at_,e) h))
     ·exact AW.exit (Kn.R Fm (P0 (R1,T1,e) h))
   ·exact AW.exit (Kn.R Fm (R0 (T,u0,w0) h))
 ·refine AW.seq ?_
  obtain ⟨Z0,h⟩:=gS h
  obtain ⟨V,q1,h⟩:=bS h
  refine AW.dG Fm [.s,.s,.s,.k _,.s] (fun K=>(_∧True)∧K 3∧True) [0,5,6] [(7,vi V.2)] [5] [(0,bx (gC V.1))] ⟨⟨Z0,⟨⟩⟩,KAt.CC (keep_Tape_Next_spec q1) Tryz.call18 [(0,0)],⟨⟩⟩ ?_
  refine AW.block (Kn.r Fm [(0,pt 0),(5,ow 5),(6,vi i0.2),(7,vi V.2)] [(0,bx [.d (DL V.1.l_),ci V.1.at_]),(5,AO ([]:List Scheme))] (by kernel_rfl) ?_)
  refine AW.loopF (E' := fun z=>[(0,pt 0),(5,ow 5),(6,vi z.1),(7,vi z.2.1)]) (S' := fun z=>[(0,bx [.d (DL z.2.2.1),ci z.2.2.2.1]),(5,AO z.2.2.2.2)]) (fun Z z a2 H0 h=>?_) h
  obtain ⟨y,G,p0,q0,E⟩:=z
  refine AW.seq (AW.dJ (r:=r) (fun z:Bool=>keep_Tape_Law_k1 F y G p0 q0 E Z z) [0,5,6,7] (fun z=>[(26,vb z)]) [0,5] (fun _=>[]) (fun p2 h=>?_) (fun b2 j0=>?_))
  ·refine AW.cN h (fun T0 h=>?_) (fun T0 h=>?_)
   ·refine AW.skip (AW.dJ (r:=r) (fun z:Int×(List Int)×Int×(List Scheme)=>keep_Tape_Law_k4 F G Z z.1 z.2.1 z.2.2.1 z.2.2.2) [0,7] (fun z=>[(5,ow 62),(6,vi z.1)]) [] (fun z=>[(0,bx [.d (DL z.2.1),ci z.2.2.1]),(62,AO z.2.2.2)]) (fun z h=>?_) (fun e2 L0=>?_))
    ·obtain ⟨K1,L1,M1,N1⟩:=z
     obtain ⟨j1,h⟩:=gS h
     refine AW.dpN Fm [.s,.s,.s] [0,5,6] [(7,vi (G-1))] [0,62] [] (cT (cT j1)) ?_
     exact Kn.RE Fm [(5,62)] (H0 (K1,(G-1),L1,M1,N1) h)
    ·refine AW.block (AW.seq ?_)
     obtain ⟨A,s1,h⟩:=bS h
     obtain ⟨a1,h⟩:=gS h
     obtain ⟨q,t1,h⟩:=bS h
     obtain ⟨D,u1,h⟩:=bS h
     obtain ⟨B,w1,h⟩:=bS h
     refine AW.dG Fm [.s,.s,.k _,.k (sE (.v (.c (.d (.str ((ByteArray.mk #[115])++A)))))),.s,.k _,.s,.k _,.s,.k _,.s,.s,.s] (fun K=>K 2∧K 3∧K 5∧K 7∧K 9∧True) [0,5,6,7] [(8,pt 8)] [5] [(0,bx (gC B.1)),(8,bx [ci y,.d (.str ((ByteArray.mk #[115])++A)),ci q.2.op_,ci q.2.num_,ci q.2.more_,.d (DL q.2.kids_),.fl 0 fun _=>[],ci D.2,ci 0,.d (.bool B.2)])] ⟨KAt.CC (ref02_Decimal_spec s1) Tryz.call75 [],KAt.strA (a:=(ByteArray.mk #[115])) (b:=A) rfl rfl (by kernel_rfl) (by kernel_rfl) (by kernel_rfl) a1,KAt.CC (keep_Tape_Term_spec t1) Tryz.call76 [(0,0)],KAt.CC (keep_Tape_Next_spec u1) Tryz.call18 [(0,0)],KAt.CC (keep_Tape_One_spec w1) Tryz.call55 [(0,0)],⟨⟩⟩ ?_
     refine AW.dSG0 Fm 1 [0,5,6,7,8] [(9,vi 0)] [0,5,8] [] ?_
     refine AW.dJ (r:=r) (fun z:(List Int)×Int×(List Bracket)=>keep_Tape_Law_k3 F y G E A q D B Z z.1 z.2.1 z.2.2) [0,5,6,7,8] (fun _=>[]) [5] (fun z=>[(0,bx [.d (DL z.1),ci z.2.1]),(8,bx [ci y,.d (.str ((ByteArray.mk #[115])++A)),ci q.2.op_,ci q.2.num_,ci q.2.more_,.d (DL q.2.kids_),.own 906,ci D.2,ci 0,.d (.bool B.2)]),(906,AO z.2.2)]) (fun z h=>?_) (fun d2 K0=>?_)
     ·obtain ⟨s0,t0,O⟩:=z
      refine AW.seq (Kn.r Fm [(0,pt 0),(5,ow 5),(6,vi y),(7,vi G),(8,pt 8)] [(906,AO O),(0,bx [.d (DL s0),ci t0]),(5,AO E),(8,bx [ci y,.d (.str ((ByteArray.mk #[115])++A)),ci q.2.op_,ci q.2.num_,ci q.2.more_,.d (DL q.2.kids_),.own 906,ci D.2,ci 0,.d (.bool B.2)])] (by kernel_rfl) ?_)
      refine Kn.frz [(0,pt 0),(5,ow 5),(6,vi y),(7,vi G),(8,pt 8)] [(0,bx [.d (DL s0),ci t0]),(5,AO E),(8,bx [ci y,.d (.str ((ByteArray.mk #[115])++A)),ci q.2.op_,ci q.2.num_,ci q.2.more_,.d (DL q.2.kids_),.d (DL O),ci D.2,ci 0,.d (.bool B.2)])] (by kernel_rfl) (by kernel_rfl) (by kernel_rfl) ?_
      obtain ⟨e1,h⟩:=gS h
      refine AW.dWP Fm [.s,.s,.w (AL [(⟨y,((ByteArray.mk #[115])++A),q.2,O,D.2,0,B.2⟩ : Scheme)]),.s,.s] [0,6,7] [(5,ow 62)] [0] [(62,AO (α:=Scheme) (E++([(⟨y,((ByteArray.mk #[115])++A),q.2,O,D.2,0,B.2⟩ : Scheme)]:List Scheme)))] (cA (lit1 (⟨y,((ByteArray.mk #[115])++A),q.2,O,D.2,0,B.2⟩ : Scheme)) (cT (cA e1 (cT (lfl ([(⟨y,((ByteArray.mk #[115])++A),q.2,O,D.2,0,B.2⟩ : Scheme)]:List Scheme)))))) [(62,rAp E ([(⟨y,((ByteArray.mk #[115])++A),q.2,O,D.2,0,B.2⟩ : Scheme)]:List Scheme))] ⟨oAp,⟨⟩⟩ ?_
      obtain ⟨W,D1,h⟩:=bS h
      obtain ⟨i1,h⟩:=gS h
      refine AW.dG Fm [.s,.s,.k _,.s,.s] (fun K=>K 2∧(_∧True)∧True) [0,5,7] [(6,vi (y+W.2))] [62] [(0,bx (gC W.1))] ⟨KAt.CC (keep_Tape_Range_spec D1) Tryz.call72 [(0,0)],⟨i1,⟨⟩⟩,⟨⟩⟩ ?_
      exact Kn.R Fm (L0 ((y+W.2),W.1.l_,W.1.at_,(E++([(⟨y,((ByteArray.mk #[115])++A),q.2,O,D.2,0,B.2⟩ : Scheme)]:List Scheme))) h)
     ·refine AW.seq ?_
      obtain ⟨H,y1,h⟩:=bS h
      refine AW.dG Fm [.s,.k _,.s] (fun K=>K 1∧True) [0,5,6,7,8,9] [(10,vi H.2)] [5,8] [(0,bx (gC H.1))] ⟨KAt.CC (keep_Tape_Range_spec y1) Tryz.call72 [(0,0)],⟨⟩⟩ ?_
      refine AW.block (Kn.r Fm [(0,pt 0),(5,ow 5),(6,vi y),(7,vi G),(8,pt 8),(9,vi 0),(10,vi H.2)] [(8,bx [ci y,.d (.str ((ByteArray.mk #[115])++A)),ci q.2.op_,ci q.2.num_,ci q.2.more_,.d (DL q.2.kids_),.fl 0 fun _=>[],ci D.2,ci 0,.d (.bool B.2)]),(0,bx (gC H.1)),(5,AO E)] (by kernel_rfl) ?_)
      refine Kn.own0 Fm (i:=8) (k:=906) (es:=2) (j:=6) (f' := LF (α:=Bracket) []) (by kernel_rfl) (by kernel_rfl) (by simp) rfl ?_
      refine Kn.r Fm [(0,pt 0),(5,ow 5),(6,vi y),(7,vi G),(8,pt 8),(9,vi 0),(10,vi H.2)] [(0,bx (gC H.1)),(5,AO E),(8,bx [ci y,.d (.str ((ByteArray.mk #[115])++A)),ci q.2.op_,ci q.2.num_,ci q.2.more_,.d (DL q.2.kids_),.own 906,ci D.2,ci 0,.d (.bool B.2)]),(906,AO (α:=Bracket) ([]:List Bracket))] (by kernel_rfl) ?_
      refine Kn.r Fm [(0,pt 0),(5,ow 5),(6,vi y),(7,vi G),(8,pt 8),(9,vi 0),(10,vi H.2)] [(0,bx [.d (DL H.1.l_),ci H.1.at_]),(5,AO E),(8,bx [ci y,.d (.str ((ByteArray.mk #[115])++A)),ci q.2.op_,ci q.2.num_,ci q.2.more_,.d (DL q.2.kids_),.own 906,ci D.2,ci 0,.d (.bool B.2)]),(906,AO ([]:List Bracket))] (by kernel_rfl) ?_
      refine AW.loopF (E' := fun z=>[(0,pt 0),(5,ow 5),(6,vi y),(7,vi G),(8,pt 8),(9,vi z.1),(10,vi z.2.1)]) (S' := fun z=>[(0,bx [.d (DL z.2.2.1),ci z.2.2.2.1]),(5,AO E),(8,bx [ci y,.d (.str ((ByteArray.mk #[115])++A)),ci q.2.op_,ci q.2.num_,ci q.2.more_,.d (DL q.2.kids_),.own 906,ci D.2,ci 0,.d (.bool B.2)]),(906,AO z.2.2.2.2)]) (fun o2 z c2 I0 h=>?_) h
      obtain ⟨M,d0,H1,I1,X⟩:=z
      refine AW.seq (AW.dSG0 Fm 2 [0,5,6,7,8,9,10] [(43,vb (decide ((0:Int)<d0)))] [0,5,8,906] [] ?_)
      refine AW.cN h (fun U0 h=>?_) (fun U0 h=>?_)
      ·refine AW.skip (AW.seq (AW.block (AW.seq ?_)))
       obtain ⟨I,A1,h⟩:=bS h
       obtain ⟨b1,h⟩:=gS h
       refine AW.dG Fm [.s,.s,.k _,.s,.s] (fun K=>K 2∧(_∧True)∧True) [0,5,6,7,8,10] [(9,vi (M+I.2))] [5,8,906] [(0,bx (gC I.1))] ⟨KAt.CC (keep_Tape_Range_spec A1) Tryz.call72 [(0,0)],⟨b1,⟨⟩⟩,⟨⟩⟩ ?_
       obtain ⟨L,B1,h⟩:=bS h
       obtain ⟨c1,h⟩:=gS h
       refine AW.dGW Fm [.s,.s,.s,.s,.k _,.s,.w (AL [(⟨(M+I.2),L.2⟩ : Bracket)]),.s,.s,.s] (fun K=>K 4∧_∧(_∧_∧True)∧True) [0,5,6,7,8,9,10] [] [5] [(0,bx (gC L.1)),(8,bx [ci y,.d (.str ((ByteArray.mk #[115])++A)),ci q.2.op_,ci q.2.num_,ci q.2.more_,.d (DL q.2.kids_),.own 57,ci D.2,ci 0,.d (.bool B.2)]),(57,AO (α:=Bracket) (X++([(⟨(M+I.2),L.2⟩ : Bracket)]:List Bracket)))] ⟨KAt.CC (keep_Tape_Next_spec B1) Tryz.call18 [(0,0)],lit1 (⟨(M+I.2),L.2⟩ : Bracket),⟨c1,lfl ([(⟨(M+I.2),L.2⟩ : Bracket)]:List Bracket),⟨⟩⟩,⟨⟩⟩ [(57,rAp X ([(⟨(M+I.2),L.2⟩ : Bracket)]:List Bracket))] ⟨oAp,⟨⟩⟩ ?_
       obtain ⟨d1,h⟩:=gS h
       refine AW.dpN Fm [.s,.s,.s] [0,5,6,7,8,9] [(10,vi (d0-1))] [0,5,8,57] [] (cT (cT d1)) ?_
       exact Kn.RE Fm [(906,57)] (I0 ((M+I.2),(d0-1),L.1.l_,L.1.at_,(X++([(⟨(M+I.2),L.2⟩ : Bracket)]:List Bracket))) h)
      ·exact AW.exit (Kn.R Fm (K0 (H1,I1,X) h))
   ·exact AW.exit (Kn.R Fm (M0 (p0,q0,E) h))
  ·rcases br_or h with ⟨a0,h⟩|⟨a0,h⟩
   ·refine AW.dpN Fm [.s,.s,.w (vb true),.s,.s,.s] [0,5,6,7] [(24,vi y),(25,vb (decide (y≤(3:Int)))),(26,vb (decide (y≤(3:Int))))] [0,5] [] (cT (ALe.bool a0)) ?_
    exact Kn.R Fm (j0 (decide (y≤(3:Int))) h)
   ·refine AW.dpN Fm [.s,.s,.w (vb false),.s,.s,.s] [0,5,6,7] [(26,vb false)] [0,5] [] (cT (ALe.bool a0)) ?_
    exact Kn.R Fm (j0 false h)
theorem second_Schemes_spec {F:Nat} {u:Tape} {r:Tape×(List Scheme)} (h:second_Schemes F u=some r) :
  FSpec Tryz.prog 15 [pt 0] [(0,bx (gC u))] (AL (α:=Scheme) r.2) [(0,bx (gC r.1))]:=by
 refine FI Tryz.func15 prog_mixed prog_lay fun C Fm=>?_
 unfold second_Schemes at h
 refine AW.dSG0 Fm 1 [0] [] [0] [] ?_
 refine AW.seq ?_
 obtain ⟨e,M,h⟩:=bS h
 refine AW.dG Fm [.s,.k _,.s] (fun K=>K 1∧True) [0] [(3,ow 6)] [] [(0,bx (gC e.1)),(6,AO e.2)] ⟨KAt.CC (keep_Tape_Law_spec M) Tryz.call35 [(0,0),(100,6)],⟨⟩⟩ ?_
 refine AW.dJ (r:=r) (fun z:(List Int)×Int×(List Scheme)=>second_Schemes_k0 F z.1 z.2.1 z.2.2) [0] (fun _=>[(3,ow 17)]) [] (fun z=>[(0,bx [.d (DL z.1),ci z.2.1]),(17,AO z.2.2)]) (fun z h=>?_) (fun Z n=>?_)
 ·obtain ⟨P,T,j⟩:=z
  refine AW.dJ (r:=r) (fun z:(List Scheme)×(List Int)×Int=>second_Schemes_k3 F z.1 z.2.1 z.2.2) [3] (fun _=>[]) [] (fun z=>[(0,bx [.d (DL z.2.1),ci z.2.2]),(17,AO z.1)]) (fun z h=>?_) (fun c0 B=>?_)
  ·obtain ⟨p,q,t⟩:=z
   refine AW.dSG0 Fm 2 [] [(2,ow 17)] [0,17] [] ?_
   refine AW.ret ?_
   obtain rfl:=Option.some.inj h
   refine Kn.r Fm [(2,ow 17)] [(17,AO p),(0,bx [.d (DL q),ci t])] (by kernel_rfl) ?_
   refine Kn.frz [(2,AL p)] [(0,bx [.d (DL q),ci t])] (by kernel_rfl) (by kernel_rfl) (by kernel_rfl) ?_
   exact Kn.D Fm
  ·refine AW.dSG0 Fm 3 [0,3] [(19,vi (lI j)),(20,vi 0)] [0,17] [] ?_
   refine AW.block (Kn.r Fm [(0,pt 0),(3,ow 17),(19,vi (lI j)),(20,vi 0)] [(0,bx [.d (DL P),ci T]),(17,AO j)] (by kernel_rfl) ?_)
   refine AW.loopF (E' := fun z=>[(0,pt 0),(3,ow 17),(19,vi (lI j)),(20,vi z.1)]) (S' := fun z=>[(0,bx [.d (DL z.2.1),ci z.2.2.1]),(17,AO z.2.2.2)]) (fun y z a0 A h=>?_) h
   obtain ⟨a,U,V,b⟩:=z
   refine AW.dSG0 Fm 1 [0,3,19,20] [(21,vb (decide (a<(lI j))))] [0,17] [] ?_
   refine AW.seq (AW.cN h (fun G h=>?_) (fun G h=>?_))
   ·refine AW.skip (AW.dJ (r:=r) (fun z:(List Int)×Int×(List Scheme)=>second_Schemes_k2 F a y z.1 z.2.1 z.2.2) [0,3,19,20] (fun _=>[]) [] (fun z=>[(0,bx [.d (DL z.1),ci z.2.1]),(17,AO z.2.2)]) (fun z h=>?_) (fun b0 o=>?_))
    ·obtain ⟨W,X,Y⟩:=z
     obtain ⟨L,h⟩:=gS h
     refine AW.dpN Fm [.s,.s] [0,3,19] [(20,vi (a+1))] [0,17] [] (cT (cT L)) ?_
     exact Kn.R Fm (A ((a+1),W,X,Y) h)
    ·refine AW.block (AW.dSG0 Fm 2 [0,3,19,20] [(4,vi a)] [0,17] [] ?_)
     refine AW.seq ?_
     obtain ⟨i,O,h⟩:=bS h
     refine AW.dG Fm [.s,.k _,.s] (fun K=>K 1∧True) [0,3,4,19,20] [(25,vb (decide ((0:Int)<i.2)))] [17] [(0,bx (gC i.1))] ⟨KAt.CC (keep_Tape_Next_spec O) Tryz.call18 [(0,0)],⟨⟩⟩ ?_
     refine AW.cN h (fun H h=>?_) (fun H h=>?_)
     ·obtain ⟨l,h⟩:=gS h
      refine AW.dWP Fm [.s,.s,.w (.v (.g [ci (1:Int),ci 0,ci 0,.d (DL (α:=Term) [])])),.s,.s,.s] [0,3,19,20] [] [0] [(17,AO (α:=Scheme) (List.set b a.toNat (⟨(gl b a.toNat).number_,(gl b a.toNat).name_,(⟨(1:Int),0,0,[]⟩ : Term),(gl b a.toNat).brackets_,(gl b a.toNat).least_,(gl b a.toNat).excludes_,(gl b a.toNat).needs_⟩ : Scheme)))] (cA (ALe.g ⟨CLe.refl _,CLe.refl _,CLe.refl _,CLe.fl .nil,⟨⟩⟩ : ALe (.v (.g [ci (1:Int),ci 0,ci 0,.fl 0 fun _=>[]])) (.v (.g [ci (1:Int),ci 0,ci 0,.d (DL (α:=Term) [])]))) (cA l (cT (toNat_lt l)))) [(17,rSt b a.toNat 2 [.int .i64 (1:Int),.int .i64 0,.int .i64 0,DL (α:=Term) []])] ⟨oSt (toNat_lt l),⟨⟩⟩ ?_
      exact Kn.R Fm (o (i.1.l_,i.1.at_,(List.set b a.toNat (⟨(gl b a.toNat).number_,(gl b a.toNat).name_,(⟨(1:Int),0,0,[]⟩ : Term),(gl b a.toNat).brackets_,(gl b a.toNat).least_,(gl b a.toNat).excludes_,(gl b a.toNat).needs_⟩ : Scheme))) h)
     ·exact AW.skip (Kn.R Fm (o (i.1.l_,i.1.at_,b) h))
   ·exact AW.exit (Kn.R Fm (B (b,U,V) h))
 ·refine AW.dSG0 Fm 3 [0,3] [(9,vb ((lI e.2)==(0:Int)))] [0,6] [] ?_
  refine AW.cN h (fun E h=>?_) (fun E h=>?_)
  ·obtain ⟨c,N,h⟩:=bS h
   obtain ⟨I,h⟩:=gS h
   refine AW.dGW Fm [.w (.v (.g [ci (1:Int),ci 0,ci 0,.d (DL (α:=Term) [])])),.s,.k _,.s,.s,.w (AL [(⟨(500:Int),((100:Int)+c.2)⟩ : Bracket)]),.s,.m,.s] (fun K=>(ALe (.v (.g [ci (1:Int),ci 0,ci 0,.fl 0 fun _=>[]])) (.v (.g [ci (1:Int),ci 0,ci 0,.d (DL (α:=Term) [])])))∧K 2∧(_∧True)∧_∧True) [0] [(3,ow 17)] [] [(0,bx (gC c.1)),(17,AO (α:=Scheme) ([(⟨(0:Int),(ByteArray.mk #[115,48]),(⟨(1:Int),0,0,[]⟩ : Term),([(⟨(500:Int),((100:Int)+c.2)⟩ : Bracket)]:List Bracket),0,0,false⟩ : Scheme)]:List Scheme))] ⟨ALe.g ⟨CLe.refl _,CLe.refl _,CLe.refl _,CLe.fl .nil,⟨⟩⟩,KAt.CC (keep_Tape_Next_spec N) Tryz.call18 [(0,0)],⟨I,⟨⟩⟩,lit1 (⟨(500:Int),((100:Int)+c.2)⟩ : Bracket),⟨⟩⟩ [(17,.arr 10 (1) (litF 10 [.int .i64 (0:Int),.str (ByteArray.mk #[115,48]),.int .i64 (1:Int),.int .i64 0,.int .i64 0,DL (α:=Term) [],DL (α:=Bracket) ([(⟨(500:Int),((100:Int)+c.2)⟩ : Bracket)]:List Bracket),.int .i64 0,.int .i64 0,.bool false]))] ⟨OLe.is (Is.lit ([(⟨(0:Int),(ByteArray.mk #[115,48]),(⟨(1:Int),0,0,[]⟩ : Term),([(⟨(500:Int),((100:Int)+c.2)⟩ : Bracket)]:List Bracket),0,0,false⟩ : Scheme)]:List Scheme) (by kernel_rfl)),⟨⟩⟩ ?_
   exact Kn.R Fm (n (c.1.l_,c.1.at_,([(⟨(0:Int),(ByteArray.mk #[115,48]),(⟨(1:Int),0,0,[]⟩ : Term),([(⟨(500:Int),((100:Int)+c.2)⟩ : Bracket)]:List Bracket),0,0,false⟩ : Scheme)]:List Scheme)) h)
  ·exact AW.skip (Kn.RE Fm [(17,6)] (n (e.1.l_,e.1.at_,e.2) h))
theorem keep_Tape_Rect_spec {F:Nat} {c:Tape} {d:Int} {r:Tape×Rect} (h:keep_Tape_Rect F c d=some r) :
  FSpec Tryz.prog 107 [pt 0,vi d] [(0,bx (gC c))] (gE r.2) [(0,bx (gC r.1))]:=by
 refine FI Tryz.func107 prog_mixed prog_lay fun C Fm=>?_
 unfold keep_Tape_Rect at h
 refine AW.dSG0 Fm 1 [0,1] [(4,pt 4)] [0] [(4,bx [ci 0,ci 0,ci 0,ci 0])] ?_
 refine AW.seq ?_
 obtain ⟨b,p,h⟩:=bS h
 obtain ⟨a,q,h⟩:=bS h
 refine AW.dG Fm [.s,.s,.k _,.s,.s,.k _,.s,.s] (fun K=>K 2∧K 5∧True) [0,1,4] [(5,vi b.2),(6,vi a.2)] [4] [(0,bx (gC a.1))] ⟨KAt.CC (keep_Tape_Next_spec p) Tryz.call18 [(0,0)],KAt.CC (keep_Tape_Next_spec q) Tryz.call18 [(0,0)],⟨⟩⟩ ?_
 refine AW.seq ?_
 obtain ⟨i,j,h⟩:=gS2 h
 obtain ⟨w,t,h⟩:=bS h
 obtain ⟨l,m,n,h⟩:=gS3 h
 obtain ⟨e,u,h⟩:=bS h
 obtain ⟨o,h⟩:=gS h
 refine AW.dG Fm [.s,.s,.s,.s,.s,.s,.s,.s,.k _,.s,.s,.s,.s,.s,.s,.s,.k _,.s,.s,.s] (fun K=>(_∧True)∧(_∧True)∧K 8∧(_∧True)∧(_∧True)∧(_∧True)∧K 16∧(_∧True)∧True) [4] [] [] [(0,bx (gC e.1)),(4,bx [ci b.2,ci a.2,ci ((b.2+1)+w.2),ci ((a.2+1)+e.2)])] ⟨⟨i,⟨⟩⟩,⟨j,⟨⟩⟩,KAt.CC (keep_Tape_Next_spec t) Tryz.call18 [(0,0)],⟨l,⟨⟩⟩,⟨m,⟨⟩⟩,⟨n,⟨⟩⟩,KAt.CC (keep_Tape_Next_spec u) Tryz.call18 [(0,0)],⟨o,⟨⟩⟩,⟨⟩⟩ ?_
 refine AW.ret ?_
 obtain rfl:=Option.some.inj h
 exact Kn.D Fm
theorem ref04_proper_spec {F:Nat} {e:Rect} {r:Bool} (h:ref04_proper F e=some r) :
  FSpec Tryz.prog 124 [gE e] [] (vb r) []:=by
 refine FI Tryz.func124 prog_mixed prog_lay fun C Fm=>?_
 unfold ref04_proper at h
 refine AW.dSG0 Fm 2 [] [(1,pt 1)] [] [(1,bx (gC e))] ?_
 refine AW.dJ (r:=r) (fun z:Bool=>ref04_proper_k0 F z) [] (fun z=>[(2,vb z)]) [] (fun _=>[]) (fun l h=>?_) (fun k b=>?_)
 ·refine AW.ret ?_
  obtain rfl:=Option.some.inj h
  exact Kn.D Fm
 ·rcases br_or h with ⟨a,h⟩|⟨a,h⟩
  ·rcases br_or h with ⟨c,h⟩|⟨c,h⟩
   ·rcases br_or h with ⟨d,h⟩|⟨d,h⟩
    ·rcases br_or h with ⟨i,h⟩|⟨i,h⟩
     ·rcases br_or h with ⟨j,h⟩|⟨j,h⟩
      ·refine AW.dpN Fm ([.s,.s,.s,.w (vb true),.s,.s,.s,.s,.s,.s,.w (vb true),.s,.s,.s,.s,.w (vb true),.s,.s,.s,.s,.w (vb true),.s,.s,.s,.s,.s,.s,.w (vb true)]++[.s,.s,.s,.s,.s]) [] [(2,vb (decide (e.high_≤(16384:Int))))] [] [] (cA (ALe.bool a) (cA (ALe.bool c) (cA (ALe.bool d) (cA (ALe.bool i) (cT (ALe.bool j)))))) ?_
       exact Kn.R Fm (b (decide (e.high_≤(16384:Int))) h)
      ·refine AW.dpN Fm ([.s,.s,.s,.w (vb true),.s,.s,.s,.s,.s,.s,.w (vb true),.s,.s,.s,.s,.w (vb true),.s,.s,.s,.s,.w (vb true),.s,.s,.s,.s,.s,.s,.w (vb false)]++[.s,.s,.s,.s,.s]) [] [(2,vb false)] [] [] (cA (ALe.bool a) (cA (ALe.bool c) (cA (ALe.bool d) (cA (ALe.bool i) (cT (ALe.bool j)))))) ?_
       exact Kn.R Fm (b false h)
     ·refine AW.dpN Fm ([.s,.s,.s,.w (vb true),.s,.s,.s,.s,.s,.s,.w (vb true),.s,.s,.s,.s,.w (vb true),.s,.s,.s,.s,.w (vb false),.s,.s,.s,.s,.s,.s,.s]++[.s,.s,.s,.s,.s]) [] [(2,vb false)] [] [] (cA (ALe.bool a) (cA (ALe.bool c) (cA (ALe.bool d) (cT (ALe.bool i))))) ?_
      exact Kn.R Fm (b false h)
    ·refine AW.dpN Fm ([.s,.s,.s,.w (vb true),.s,.s,.s,.s,.s,.s,.w (vb true),.s,.s,.s,.s,.w (vb false),.s,.s,.s,.s,.s,.s,.s,.s,.s,.s,.s,.s]++[.s,.s,.s,.s,.s]) [] [(2,vb false)] [] [] (cA (ALe.bool a) (cA (ALe.bool c) (cT (ALe.bool d)))) ?_
     exact Kn.R Fm (b false h)
   ·refine AW.dpN Fm ([.s,.s,.s,.w (vb true),.s,.s,.s,.s,.s,.s,.w (vb false),.s,.s,.s,.s,.s,.s,.s,.s,.s,.s,.s,.s,.s,.s,.s,.s,.s]++[.s,.s,.s,.s,.s]) [] [(2,vb false)] [] [] (cA (ALe.bool a) (cT (ALe.bool c))) ?_
    exact Kn.R Fm (b false h)
  ·refine AW.dpN Fm ([.s,.s,.s,.w (vb false),.s,.s,.s,.s,.s,.s,.s,.s,.s,.s,.s,.s,.s,.s,.s,.s,.s,.s,.s,.s,.s,.s,.s,.s]++[.s,.s,.s,.s,.s]) [] [(2,vb false)] [] [] (cT (ALe.bool a)) ?_
   exact Kn.R Fm (b false h)
theorem ref01_Put_spec {F:Nat} {a:(List Int)} {e:Int} {r:(List Int)} (h:ref01_Put F a e=some r) :
  FSpec Tryz.prog 126 [AL a,vi e] [] (AL (α:=Int) r) []:=by
 refine FI Tryz.func126 prog_mixed prog_lay fun C Fm=>?_
 unfold ref01_Put at h
 refine AW.dSG0 Fm 1 [0,1] [] [] [] ?_
 refine AW.dSG0 Fm 1 [0,1] [(5,vi 0)] [] [] ?_
 refine AW.dJ (r:=r) (fun z:Int=>ref01_Put_k2 F a e z) [0,1] (fun z=>[(5,vi z)]) [] (fun _=>[]) (fun b h=>?_) (fun O y=>?_)
 ·refine AW.seq (AW.dJ (r:=r) (fun z:Bool=>ref01_Put_k3 F a e b z) [0,1,5] (fun z=>[(31,vb z)]) [] (fun _=>[]) (fun U h=>?_) (fun P o=>?_))
  ·refine AW.cN h (fun B h=>?_) (fun B h=>?_)
   ·refine AW.dSG0 Fm 2 [] [(4,AL a)] [] [] ?_
    refine AW.ret ?_
    obtain rfl:=Option.some.inj h
    exact Kn.D Fm
   ·refine AW.skip ?_
    obtain ⟨p,I,K,q,h⟩:=gS4 h
    obtain ⟨L,h⟩:=gS h
    refine AW.dSV Fm [.m,.s,.s,.w (AL (α:=Int) (a.take b.toNat)),.s,.s,.w (AL (α:=Int) ([e]:List Int)),.s,.s,.s,.w (AL (α:=Int) (a.drop b.toNat)),.s,.s] [] [(4,ow 44)] [] [(44,AO (α:=Int) (((([]:List Int)++(a.take b.toNat))++([e]:List Int))++(a.drop b.toNat)))] (cA (⟨p,(Is.refl a).len⟩ : ((sl (List.length a) (LF a) none (some b)).2∧∀ j,j<List.length a→(LF a j).length=1)) (cA (ALe.lst (sl_is a none (some b) p):ALe (.v (.c (.d (.lst (sl (List.length a) (LF a) none (some b)).1.1 (sl (List.length a) (LF a) none (some b)).1.2)))) (AL (α:=Int) (a.take b.toNat))) (cA (cA I (cT (lfl (a.take b.toNat)))) (cA (ALe.lst (.lit ([e]:List Int) (by kernel_rfl)):ALe (.v (.c (.d (.lst 1 (litF 1 [.int .i64 e]))))) (AL (α:=Int) ([e]:List Int))) (cA (cA K (cT (Is.refl ([e]:List Int):Is (List.length (α:=Int) ([e]:List Int)) (LF (α:=Int) ([e]:List Int)) ([e]:List Int)).len)) (cA (⟨q,(Is.refl a).len⟩ : ((sl (List.length a) (LF a) (some b) none).2∧∀ j,j<List.length a→(LF a j).length=1)) (cA (ALe.lst (sl_is a (some b) none q):ALe (.v (.c (.d (.lst (sl (List.length a) (LF a) (some b) none).1.1 (sl (List.length a) (LF a) (some b) none).1.2)))) (AL (α:=Int) (a.drop b.toNat))) (cT (cA L (cT (Is.refl (a.drop b.toNat):Is (List.length (α:=Int) (a.drop b.toNat)) (LF (α:=Int) (a.drop b.toNat)) (a.drop b.toNat)).len)))))))))) [(44,.arr 1 ((((0)+(List.length (α:=Int) (a.take b.toNat)))+(List.length (α:=Int) ([e]:List Int)))+(List.length (α:=Int) (a.drop b.toNat))) (appF (((0)+(List.length (α:=Int) (a.take b.toNat)))+(List.length (α:=Int) ([e]:List Int))) (appF ((0)+(List.length (α:=Int) (a.take b.toNat))) (appF (0) (litF 1 []) (LF (α:=Int) (a.take b.toNat))) (LF (α:=Int) ([e]:List Int))) (LF (α:=Int) (a.drop b.toNat))))] ⟨OLe.is (Is.app (Is.app (Is.app (Is.lit ([]:List Int) (by kernel_rfl)) (Is.refl (a.take b.toNat))) (Is.refl ([e]:List Int))) (Is.refl (a.drop b.toNat))),⟨⟩⟩ ?_
    refine AW.ret ?_
    obtain rfl:=Option.some.inj h
    refine Kn.r Fm [(4,ow 44)] [(44,AO (α:=Int) (((([]:List Int)++(a.take b.toNat))++([e]:List Int))++(a.drop b.toNat)))] (by kernel_rfl) ?_
    refine Kn.frz [(4,AL (α:=Int) (((([]:List Int)++(a.take b.toNat))++([e]:List Int))++(a.drop b.toNat)))] [] (by kernel_rfl) (by kernel_rfl) (by kernel_rfl) ?_
    exact Kn.D Fm
  ·rcases br_or h with ⟨l,h⟩|⟨l,h⟩
   ·obtain ⟨H,h⟩:=gS h
    refine AW.dpN Fm [.s,.s,.s,.s,.w (vb true),.s,.s,.s,.s,.s,.s,.s] [0,1,5] [(31,vb ((gl a b.toNat)==e))] [] [] (cA (ALe.bool l) (cT H)) ?_
    exact Kn.R Fm (o ((gl a b.toNat)==e) h)
   ·refine AW.dpN Fm [.s,.s,.s,.s,.w (vb false),.s,.s,.s,.s,.s,.s,.s] [0,1,5] [(31,vb false)] [] [] (cT (ALe.bool l)) ?_
    exact Kn.R Fm (o false h)
 ·refine AW.block (Kn.r Fm [(0,AL a),(1,vi e),(5,vi 0)] [] (by kernel_rfl) ?_)
  refine AW.loopF (E' := fun z=>[(0,AL a),(1,vi e),(5,vi z)]) (S' := fun z=>[]) (fun t i M u h=>?_) h
  refine AW.seq (AW.dJ (r:=r) (fun z:Bool=>ref01_Put_k1 F a e i t z) [0,1,5] (fun z=>[(17,vb z)]) [] (fun _=>[]) (fun T h=>?_) (fun N n=>?_))
  ·refine AW.cN h (fun A h=>?_) (fun A h=>?_)
   ·refine AW.skip (AW.block ?_)
    obtain ⟨G,h⟩:=gS h
    refine AW.dpN Fm [.s,.s,.s] [0,1] [(5,vi (i+1))] [] [] (cT (cT G)) ?_
    exact Kn.R Fm (u (i+1) h)
   ·exact AW.exit (Kn.R Fm (y i h))
  ·rcases br_or h with ⟨k,h⟩|⟨k,h⟩
   ·obtain ⟨E,h⟩:=gS h
    refine AW.dpN Fm [.s,.s,.s,.s,.w (vb true),.s,.s,.s,.s,.s,.s,.s] [0,1,5] [(11,AL a),(12,vi i),(13,.v (.c (.elm [.int .i64 (gl a i.toNat)]))),(14,vi (gl a i.toNat)),(15,vi e),(16,vb (decide ((gl a i.toNat)<e))),(17,vb (decide ((gl a i.toNat)<e)))] [] [] (cA (ALe.bool k) (cT E)) ?_
    exact Kn.R Fm (n (decide ((gl a i.toNat)<e)) h)
   ·refine AW.dpN Fm [.s,.s,.s,.s,.w (vb false),.s,.s,.s,.s,.s,.s,.s] [0,1,5] [(17,vb false)] [] [] (cT (ALe.bool k)) ?_
    exact Kn.R Fm (n false h)
theorem ref04_inside_spec {F:Nat} {a:(List Rect)} {e:Int} {d:Int} {r:Bool} (h:ref04_inside F a e d=some r) :
  FSpec Tryz.prog 71 [AL a,vi e,vi d] [] (vb r) []:=by
 refine FI Tryz.func71 prog_mixed prog_lay fun C Fm=>?_
 unfold ref04_inside at h
 refine AW.dSG0 Fm 1 [0,1,2] [] [] [] ?_
 refine AW.dJ (r:=r) (fun z:Unit=>ref04_inside_k2 F) [] (fun _=>[]) [] (fun _=>[]) (fun z h=>?_) (fun B o=>?_)
 ·refine AW.dSG0 Fm 1 [] [(6,vb false)] [] [] ?_
  refine AW.ret ?_
  obtain rfl:=Option.some.inj h
  exact Kn.D Fm
 ·refine AW.dSG0 Fm 3 [1,2] [(9,AL a),(10,vi (lI a)),(11,vi 0)] [] [] ?_
  refine AW.block (Kn.r Fm [(1,vi e),(2,vi d),(9,AL a),(10,vi (lI a)),(11,vi 0)] [] (by kernel_rfl) ?_)
  refine AW.loopF (E' := fun z=>[(1,vi e),(2,vi d),(9,AL a),(10,vi (lI a)),(11,vi z)]) (S' := fun z=>[]) (fun m b y n h=>?_) h
  refine AW.dSG0 Fm 1 [1,2,9,10,11] [(12,vb (decide (b<(lI a))))] [] [] ?_
  refine AW.seq (AW.cN h (fun p h=>?_) (fun p h=>?_))
  ·refine AW.skip (AW.seq (AW.block ?_))
   obtain ⟨t,h⟩:=gS h
   refine AW.dSP Fm [.s,.s,.s,.s] [1,2,9,10,11] [(8,pt 8)] [] [(8,bx [ci ((gl a b.toNat).left_),ci ((gl a b.toNat).low_),ci ((gl a b.toNat).right_),ci ((gl a b.toNat).high_)])] (cT t) ?_
   refine AW.dJ (r:=r) (fun z:Bool=>ref04_inside_k1 F b m z) [1,2,9,10,11] (fun z=>[(36,vb z)]) [] (fun _=>[]) (fun E h=>?_) (fun A j=>?_)
   ·refine AW.cN h (fun q h=>?_) (fun q h=>?_)
    ·refine AW.dSG0 Fm 1 [] [(6,vb true)] [] [] ?_
     refine AW.ret ?_
     obtain rfl:=Option.some.inj h
     exact Kn.D Fm
    ·refine AW.skip ?_
     obtain ⟨u,h⟩:=gS h
     refine AW.dpN Fm [.s,.s] [1,2,9,10] [(11,vi (b+1))] [] [] (cT (cT u)) ?_
     exact Kn.R Fm (n (b+1) h)
   ·rcases br_or h with ⟨i,h⟩|⟨i,h⟩
    ·rcases br_or h with ⟨k,h⟩|⟨k,h⟩
     ·rcases br_or h with ⟨l,h⟩|⟨l,h⟩
      ·refine AW.dpN Fm [.s,.s,.s,.s,.w (vb true),.s,.s,.s,.s,.s,.w (vb true),.s,.s,.s,.s,.s,.w (vb true),.s,.s,.s,.s,.s] [1,2,9,10,11] [(20,vi e),(21,.v (.c (.ptr 8 2))),(22,vi (gl a b.toNat).right_),(23,vb (decide (e<((gl a b.toNat).right_)))),(26,.v (.c (.ptr 8 1))),(27,vi (gl a b.toNat).low_),(28,vi d),(29,vb (decide (((gl a b.toNat).low_)≤d))),(32,vi d),(33,.v (.c (.ptr 8 3))),(34,vi (gl a b.toNat).high_),(35,vb (decide (d<((gl a b.toNat).high_)))),(36,vb (decide (d<((gl a b.toNat).high_))))] [8] [] (cA (ALe.bool i) (cA (ALe.bool k) (cT (ALe.bool l)))) ?_
       exact Kn.R Fm (j (decide (d<((gl a b.toNat).high_))) h)
      ·refine AW.dpN Fm [.s,.s,.s,.s,.w (vb true),.s,.s,.s,.s,.s,.w (vb true),.s,.s,.s,.s,.s,.w (vb false),.s,.s,.s,.s,.s] [1,2,9,10,11] [(20,vi e),(21,.v (.c (.ptr 8 2))),(22,vi (gl a b.toNat).right_),(23,vb (decide (e<((gl a b.toNat).right_)))),(26,.v (.c (.ptr 8 1))),(27,vi (gl a b.toNat).low_),(28,vi d),(29,vb (decide (((gl a b.toNat).low_)≤d))),(36,vb false)] [8] [] (cA (ALe.bool i) (cA (ALe.bool k) (cT (ALe.bool l)))) ?_
       exact Kn.R Fm (j false h)
     ·refine AW.dpN Fm [.s,.s,.s,.s,.w (vb true),.s,.s,.s,.s,.s,.w (vb false),.s,.s,.s,.s,.s,.s,.s,.s,.s,.s,.s] [1,2,9,10,11] [(20,vi e),(21,.v (.c (.ptr 8 2))),(22,vi (gl a b.toNat).right_),(23,vb (decide (e<((gl a b.toNat).right_)))),(36,vb false)] [8] [] (cA (ALe.bool i) (cT (ALe.bool k))) ?_
      exact Kn.R Fm (j false h)
    ·refine AW.dpN Fm [.s,.s,.s,.s,.w (vb false),.s,.s,.s,.s,.s,.s,.s,.s,.s,.s,.s,.s,.s,.s,.s,.s,.s] [1,2,9,10,11] [(36,vb false)] [] [] (cT (ALe.bool i)) ?_
     exact Kn.R Fm (j false h)
  ·exact AW.exit (Kn.R Fm (o () h))
theorem ref04_keep_spec {F:Nat} {l:Bool} {a:Bool} {b:Int} {r:Bool} (h:ref04_keep F l a b=some r) :
  FSpec Tryz.prog 127 [vb l,vb a,vi b] [] (vb r) []:=by
 refine FI Tryz.func127 prog_mixed prog_lay fun C Fm=>?_
 unfold ref04_keep at h
 refine AW.dSG0 Fm 1 [0,1,2] [] [] [] ?_
 refine AW.seq (AW.dSG0 Fm 1 [0,1] [(7,vi b)] [] [] ?_)
 refine AW.block (AW.dSG0 Fm 2 [0,1,7] [(8,vb (b==(1:Int)))] [] [] ?_)
 refine AW.cN h (fun m h=>?_) (fun m h=>?_)
 ·refine AW.dJ (r:=r) (fun z:Bool=>ref04_keep_k0 F z) [] (fun z=>[(6,vb z)]) [] (fun _=>[]) (fun t h=>?_) (fun o i=>?_)
  ·refine AW.ret ?_
   obtain rfl:=Option.some.inj h
   exact Kn.D Fm
  ·rcases br_or h with ⟨c,h⟩|⟨c,h⟩
   ·refine AW.dpN Fm [.s,.w (vb true),.s,.s,.s] [] [(6,vb true)] [] [] (cT (ALe.bool c)) ?_
    exact Kn.R Fm (i true h)
   ·refine AW.dpN Fm [.s,.w (vb false),.s,.s,.s] [] [(6,vb a)] [] [] (cT (ALe.bool c)) ?_
    exact Kn.R Fm (i a h)
 ·refine AW.dSG0 Fm 2 [0,1] [(14,vb (b==(2:Int)))] [] [] ?_
  refine AW.cN h (fun n h=>?_) (fun n h=>?_)
  ·refine AW.dJ (r:=r) (fun z:Bool=>ref04_keep_k1 F z) [] (fun z=>[(6,vb z)]) [] (fun _=>[]) (fun u h=>?_) (fun p j=>?_)
   ·refine AW.ret ?_
    obtain rfl:=Option.some.inj h
    exact Kn.D Fm
   ·rcases br_or h with ⟨d,h⟩|⟨d,h⟩
    ·refine AW.dpN Fm [.s,.w (vb true),.s,.s,.s] [] [(6,vb a)] [] [] (cT (ALe.bool d)) ?_
     exact Kn.R Fm (j a h)
    ·refine AW.dpN Fm [.s,.w (vb false),.s,.s,.s] [] [(6,vb false)] [] [] (cT (ALe.bool d)) ?_
     exact Kn.R Fm (j false h)
  ·refine AW.skip (AW.dJ (r:=r) (fun z:Bool=>ref04_keep_k2 F z) [] (fun z=>[(6,vb z)]) [] (fun _=>[]) (fun y h=>?_) (fun q k=>?_))
   ·refine AW.ret ?_
    obtain rfl:=Option.some.inj h
    exact Kn.D Fm
   ·rcases br_or h with ⟨e,h⟩|⟨e,h⟩
    ·refine AW.dpN Fm [.s,.w (vb true),.s,.s,.s,.s] [] [(6,vb (!a))] [] [] (cT (ALe.bool e)) ?_
     exact Kn.R Fm (k (!a) h)
    ·refine AW.dpN Fm [.s,.w (vb false),.s,.s,.s,.s] [] [(6,vb false)] [] [] (cT (ALe.bool e)) ?_
     exact Kn.R Fm (k false h)
theorem ref04_same_spec {F:Nat} {b:(List Rect)} {d:(List Rect)} {r:Bool} (h:ref04_same F b d=some r) :
  FSpec Tryz.prog 128 [AL b,AL d] [] (vb r) []:=by
 refine FI Tryz.func128 prog_mixed prog_lay fun C Fm=>?_
 unfold ref04_same at h
 refine AW.dSG0 Fm 1 [0,1] [] [] [] ?_
 refine AW.seq (AW.dSG0 Fm 5 [0,1] [(10,vb ((lI b) != (lI d)))] [] [] ?_)
 refine AW.cN h (fun o h=>?_) (fun o h=>?_)
 ·refine AW.dSG0 Fm 1 [] [(4,vb false)] [] [] ?_
  refine AW.ret ?_
  obtain rfl:=Option.some.inj h
  exact Kn.D Fm
 ·refine AW.skip (AW.dJ (r:=r) (fun z:Unit=>ref04_same_k2 F) [] (fun _=>[]) [] (fun _=>[]) (fun z h=>?_) (fun E n=>?_))
  ·refine AW.dSG0 Fm 1 [] [(4,vb true)] [] [] ?_
   refine AW.ret ?_
   obtain rfl:=Option.some.inj h
   exact Kn.D Fm
  ·refine AW.dSG0 Fm 3 [0,1] [(12,vi (lI b)),(13,vi 0)] [] [] ?_
   refine AW.block (Kn.r Fm [(0,AL b),(1,AL d),(12,vi (lI b)),(13,vi 0)] [] (by kernel_rfl) ?_)
   refine AW.loopF (E' := fun z=>[(0,AL b),(1,AL d),(12,vi (lI b)),(13,vi z)]) (S' := fun z=>[]) (fun l a A m h=>?_) h
   refine AW.dSG0 Fm 1 [0,1,12,13] [(14,vb (decide (a<(lI b))))] [] [] ?_
   refine AW.seq (AW.cN h (fun p h=>?_) (fun p h=>?_))
   ·refine AW.skip (AW.seq (AW.block (AW.dSG0 Fm 2 [0,1,12,13] [(5,vi a)] [] [] ?_)))
    refine AW.dJ (r:=r) (fun z:Bool=>ref04_same_k1 F a l z) [0,1,12,13] (fun z=>[(39,vb z)]) [] (fun _=>[]) (fun G h=>?_) (fun B i=>?_)
    ·refine AW.cN h (fun q h=>?_) (fun q h=>?_)
     ·refine AW.dSG0 Fm 1 [] [(4,vb false)] [] [] ?_
      refine AW.ret ?_
      obtain rfl:=Option.some.inj h
      exact Kn.D Fm
     ·refine AW.skip ?_
      obtain ⟨y,h⟩:=gS h
      refine AW.dpN Fm [.s,.s] [0,1,12] [(13,vi (a+1))] [] [] (cT (cT y)) ?_
      exact Kn.R Fm (m (a+1) h)
    ·obtain ⟨j,k,h⟩:=gS2 h
     rcases br_or h with ⟨e,h⟩|⟨e,h⟩
     ·refine AW.dpN Fm [.s,.s,.s,.s,.s,.s,.s,.s,.s,.s,.s,.w (vb true),.s,.s,.s,.s,.s,.s,.s,.s,.s,.s,.s,.s] [0,1,12,13] [(39,vb true)] [] [] (cA j (cA k (cT (ALe.bool e)))) ?_
      exact Kn.R Fm (i true h)
     ·obtain ⟨t,u,h⟩:=gS2 h
      refine AW.dpN Fm [.s,.s,.s,.s,.s,.s,.s,.s,.s,.s,.s,.w (vb false),.s,.s,.s,.s,.s,.s,.s,.s,.s,.s,.s,.s] [0,1,12,13] [(28,AL b),(29,vi a),(30,.v (.c (.elm [.int .i64 (gl b a.toNat).left_,.int .i64 (gl b a.toNat).low_,.int .i64 (gl b a.toNat).right_,.int .i64 (gl b a.toNat).high_]))),(31,.v (.c (.elm [.int .i64 (gl b a.toNat).right_,.int .i64 (gl b a.toNat).high_]))),(32,vi (gl b a.toNat).right_),(33,AL d),(34,vi a),(35,.v (.c (.elm [.int .i64 (gl d a.toNat).left_,.int .i64 (gl d a.toNat).low_,.int .i64 (gl d a.toNat).right_,.int .i64 (gl d a.toNat).high_]))),(36,.v (.c (.elm [.int .i64 (gl d a.toNat).right_,.int .i64 (gl d a.toNat).high_]))),(37,vi (gl d a.toNat).right_),(38,vb (((gl b a.toNat).right_) != ((gl d a.toNat).right_))),(39,vb (((gl b a.toNat).right_) != ((gl d a.toNat).right_)))] [] [] (cA j (cA k (cA (ALe.bool e) (cA t (cT u))))) ?_
      exact Kn.R Fm (i (((gl b a.toNat).right_) != ((gl d a.toNat).right_)) h)
   ·exact AW.exit (Kn.R Fm (n () h))
theorem ref04_Combine_O_spec {F:Nat} {a:(List Rect)} {b:(List Rect)} {t:Int} {r:(List Rect)} (h:ref04_Combine F a b t=some r) :
  FSpec Tryz.prog 74 [AL a,AL b,vi t] [] (ow 100) [(100,AO (α:=Rect) r)]:=by
 refine FI Tryz.func74 prog_mixed prog_lay fun C Fm=>?_
 unfold ref04_Combine at h
 refine AW.dSG Fm [.m] (fun K=>True) [0,1,2] [] [] [] True.intro ?_
 refine AW.dSW Fm [.m,.m] (fun K=>True) [0,1,2] [(7,ow 7),(8,ow 8)] [] [(7,AO (α:=Int) ([]:List Int)),(8,AO (α:=Int) ([]:List Int))] True.intro [(7,.arr 1 (0) (fun _=>[])),(8,.arr 1 (0) (fun _=>[]))] ⟨OLe.is ((Is.nil (α:=Int))),OLe.is ((Is.nil (α:=Int))),⟨⟩⟩ ?_
 refine AW.dJ (r:=r) (fun z:(List Int)×(List Int)=>ref04_Combine_k3 F a b t z.1 z.2) [0,1,2] (fun z=>[(7,AL z.1),(8,AL z.2)]) [] (fun _=>[]) (fun z h=>?_) (fun U1 m0=>?_)
 ·obtain ⟨l,j⟩:=z
  refine AW.dSW Fm [.m,.m] (fun K=>True) [0,1,2,7,8] [(13,ow 13),(14,ow 14)] [] [(13,AO (α:=Rect) ([]:List Rect)),(14,AO (α:=Rect) ([]:List Rect))] True.intro [(13,.arr 4 (0) (fun _=>[])),(14,.arr 4 (0) (fun _=>[]))] ⟨OLe.is ((Is.nil (α:=Rect))),OLe.is ((Is.nil (α:=Rect))),⟨⟩⟩ ?_
  refine AW.dJ (r:=r) (fun z:(List Rect)×(List Rect)=>ref04_Combine_k14 F z.1 z.2) [13,14] (fun _=>[]) [] (fun z=>[(13,AO z.1),(14,AO z.2)]) (fun z h=>?_) (fun i2 u0=>?_)
  ·obtain ⟨U,H⟩:=z
   obtain ⟨s1,h⟩:=gS h
   refine AW.dSV Fm [.s,.s,.s,.s] [] [(6,ow 176)] [] [(176,AO (α:=Rect) (U++H))] (cT (cA s1 (cT (lfl H)))) [(176,rAp U H)] ⟨oAp,⟨⟩⟩ ?_
   refine AW.ret ?_
   obtain rfl:=Option.some.inj h
   exact Kn.re Fm [(100,176)] [(6,ow 100)] [(100,AO (α:=Rect) (U++H))] (by kernel_rfl) (by kernel_rfl) (by kernel_rfl) (by kernel_rfl) (Kn.dn Fm (by kernel_rfl))
  ·refine AW.dSG0 Fm 1 [0,1,2,7,8,13,14] [(15,vi 0)] [13,14] [] ?_
   refine AW.block (Kn.r Fm [(0,AL a),(1,AL b),(2,vi t),(7,AL l),(8,AL j),(13,ow 13),(14,ow 14),(15,vi 0)] [(13,AO ([]:List Rect)),(14,AO ([]:List Rect))] (by kernel_rfl) ?_)
   refine AW.loopF (E' := fun z=>[(0,AL a),(1,AL b),(2,vi t),(7,AL l),(8,AL j),(13,ow 13),(14,ow 14),(15,vi z.1)]) (S' := fun z=>[(13,AO z.2.1),(14,AO z.2.2)]) (fun E z V1 n0 h=>?_) h
   obtain ⟨i,u,p⟩:=z
   refine AW.seq ?_
   obtain ⟨N0,h⟩:=gS h
   refine AW.dSP Fm [.s,.s,.s,.s,.s] [0,1,2,7,8,13,14,15] [(54,vb (decide ((i+1)<(lI j))))] [13,14] [] (cT (cT N0)) ?_
   refine AW.cN h (fun A0 h=>?_) (fun A0 h=>?_)
   ·refine AW.skip (AW.dJ (r:=r) (fun z:(List Rect)×(List Rect)=>ref04_Combine_k13 F i E z.1 z.2) [0,1,2,7,8,13,14,15] (fun _=>[]) [] (fun z=>[(13,AO z.1),(14,AO z.2)]) (fun z h=>?_) (fun e2 X=>?_))
    ·obtain ⟨M1,N1⟩:=z
     obtain ⟨q1,h⟩:=gS h
     refine AW.dpN Fm [.s,.s,.s] [0,1,2,7,8,13,14] [(15,vi (i+1))] [13,14] [] (cT (cT q1)) ?_
     exact Kn.R Fm (n0 ((i+1),M1,N1) h)
    ·refine AW.block (AW.dSW Fm [.m] (fun K=>True) [0,1,2,7,8,13,14,15] [(16,ow 16)] [13,14] [(16,AO (α:=Rect) ([]:List Rect))] True.intro [(16,.arr 4 (0) (fun _=>[]))] ⟨OLe.is ((Is.nil (α:=Rect))),⟨⟩⟩ ?_)
     refine AW.dJ (r:=r) (fun z:(List Rect)=>ref04_Combine_k8 F j i u p E z) [0,1,2,7,8,13,14,15,16] (fun _=>[]) [13,14] (fun z=>[(16,AO z)]) (fun D h=>?_) (fun Z1 p0=>?_)
     ·refine AW.dJ (r:=r) (fun z:Unit=>ref04_Combine_k12 F i u p D E) [0,1,2,7,8,13,14,15,16] (fun _=>[]) [13,14,16] (fun _=>[]) (fun z h=>?_) (fun d2 t0=>?_)
      ·obtain ⟨p1,h⟩:=gS h
       refine AW.dSV Fm [.s,.s,.s,.s] [0,1,2,7,8,15,16] [(13,ow 172)] [16] [(172,AO (α:=Rect) (u++p))] (cT (cA p1 (cT (lfl p)))) [(172,rAp u p)] ⟨oAp,⟨⟩⟩ ?_
       refine AW.dG0 Fm 2 [0,1,2,7,8,13,15] [(14,ow 16)] [16,172] [] ?_
       exact Kn.RE Fm [(13,172),(14,16)] (X ((u++p),D) h)
      ·refine AW.dJ (r:=r) (fun z:Bool=>ref04_Combine_k9 F j i u p D E z) [0,1,2,7,8,13,14,15,16] (fun z=>[(154,vb z)]) [13,14,16] (fun _=>[]) (fun m2 h=>?_) (fun a2 M=>?_)
       ·refine AW.cN h (fun G0 h=>?_) (fun G0 h=>?_)
        ·refine AW.dJ (r:=r) (fun z:(List Rect)=>ref04_Combine_k11 F i u E z) [0,1,2,7,8,13,14,15] (fun _=>[]) [13] (fun z=>[(14,AO z)]) (fun L1 h=>?_) (fun c2 s0=>?_)
         ·exact AW.exit (Kn.R Fm (X (u,L1) h))
         ·refine AW.dSG0 Fm 3 [0,1,2,7,8,13,14,15] [(156,vi (lI p)),(157,vi 0)] [13,14] [] ?_
          refine AW.block (Kn.r Fm [(0,AL a),(1,AL b),(2,vi t),(7,AL l),(8,AL j),(13,ow 13),(14,ow 14),(15,vi i),(156,vi (lI p)),(157,vi 0)] [(13,AO u),(14,AO p)] (by kernel_rfl) ?_)
          refine AW.loopF (E' := fun z=>[(0,AL a),(1,AL b),(2,vi t),(7,AL l),(8,AL j),(13,ow 13),(14,ow 14),(15,vi i),(156,vi (lI p)),(157,vi z.1)]) (S' := fun z=>[(13,AO u),(14,AO z.2)]) (fun k2 z b2 q0 h=>?_) h
          obtain ⟨y,A⟩:=z
          refine AW.dSG0 Fm 1 [0,1,2,7,8,13,14,15,156,157] [(158,vb (decide (y<(lI p))))] [13,14] [] ?_
          refine AW.seq (AW.cN h (fun H0 h=>?_) (fun H0 h=>?_))
          ·refine AW.skip (AW.seq (AW.block (AW.dSG0 Fm 2 [0,1,2,7,8,13,14,15,156,157] [(19,vi y)] [13,14] [] ?_)))
           obtain ⟨m1,n1,T,h⟩:=gS3 h
           refine AW.dWP Fm [.s,.s,.s,.s,.s,.s,.s,.s,.s,.s] [0,1,2,7,8,13,14,15,156,157] [] [13] [(14,AO (α:=Rect) (List.set A y.toNat (⟨(gl A y.toNat).left_,(gl A y.toNat).low_,(gl A y.toNat).right_,(gl j (i+1).toNat)⟩ : Rect)))] (cA (cT m1) (cA n1 (cA T (cT (toNat_lt T))))) [(14,rSt A y.toNat 3 [.int .i64 (gl j (i+1).toNat)])] ⟨oSt (toNat_lt T),⟨⟩⟩ ?_
           obtain ⟨o1,h⟩:=gS h
           refine AW.dpN Fm [.s,.s] [0,1,2,7,8,13,14,15,156] [(157,vi (y+1))] [13,14] [] (cT (cT o1)) ?_
           exact Kn.R Fm (q0 ((y+1),(List.set A y.toNat (⟨(gl A y.toNat).left_,(gl A y.toNat).low_,(gl A y.toNat).right_,(gl j (i+1).toNat)⟩ : Rect))) h)
          ·exact AW.exit (Kn.R Fm (s0 A h))
        ·exact AW.skip (Kn.R Fm (t0 () h))
       ·rcases br_or h with ⟨G,h⟩|⟨G,h⟩
        ·obtain ⟨I,a0,h⟩:=bS h
         rcases br_or h with ⟨O,h⟩|⟨O,h⟩
         ·obtain ⟨Z,l1,h⟩:=gS2 h
          refine AW.dG Fm [.s,.s,.s,.w (vb true),.s,.s,.k (sE (vb I)),.s,.w (vb true),.s,.s,.s,.s,.s,.s,.s,.s,.s,.s] (fun K=>_∧K 6∧_∧_∧_∧_∧True) [0,1,2,7,8,13,14,15,16] [(140,ow 14),(141,ow 16),(142,vb I),(145,ow 14),(146,.v (.c (.pte 14 4 ((0:Int).toNat) 0))),(147,.v (.c (.pte 14 4 ((0:Int).toNat) 3))),(148,vi (gl p (0:Int).toNat).high_),(149,AL j),(150,vi i),(151,.v (.c (.elm [.int .i64 (gl j i.toNat)]))),(152,vi (gl j i.toNat)),(153,vb (((gl p (0:Int).toNat).high_)==(gl j i.toNat))),(154,vb (((gl p (0:Int).toNat).high_)==(gl j i.toNat)))] [13,14,16] [] ⟨ALe.bool G,KAt.callBX (ref04_same_spec a0) Tryz.call128 [14,16] [.tmp 140,.tmp 141] rfl (by kernel_rfl) (by kernel_rfl) ⟨ArgB.own 14 (es:=4) (n:=List.length p) (f:=LF p) (by kernel_rfl) (by kernel_rfl) (by kernel_rfl) (by kernel_rfl),ArgB.own 16 (es:=4) (n:=List.length D) (f:=LF D) (by kernel_rfl) (by kernel_rfl) (by kernel_rfl) (by kernel_rfl),⟨⟩⟩,ALe.bool O,Z,(toNat_lt Z),l1,⟨⟩⟩ ?_
          exact Kn.R Fm (M (((gl p (0:Int).toNat).high_)==(gl j i.toNat)) h)
         ·refine AW.dG Fm [.s,.s,.s,.w (vb true),.s,.s,.k (sE (vb I)),.s,.w (vb false),.s,.s,.s,.s,.s,.s,.s,.s,.s,.s] (fun K=>_∧K 6∧_∧True) [0,1,2,7,8,13,14,15,16] [(140,ow 14),(141,ow 16),(142,vb I),(154,vb false)] [13,14,16] [] ⟨ALe.bool G,KAt.callBX (ref04_same_spec a0) Tryz.call128 [14,16] [.tmp 140,.tmp 141] rfl (by kernel_rfl) (by kernel_rfl) ⟨ArgB.own 14 (es:=4) (n:=List.length p) (f:=LF p) (by kernel_rfl) (by kernel_rfl) (by kernel_rfl) (by kernel_rfl),ArgB.own 16 (es:=4) (n:=List.length D) (f:=LF D) (by kernel_rfl) (by kernel_rfl) (by kernel_rfl) (by kernel_rfl),⟨⟩⟩,ALe.bool O,⟨⟩⟩ ?_
          exact Kn.R Fm (M false h)
        ·refine AW.dpN Fm [.s,.s,.s,.w (vb false),.s,.s,.s,.s,.s,.s,.s,.s,.s,.s,.s,.s,.s,.s,.s] [0,1,2,7,8,13,14,15,16] [(154,vb false)] [13,14,16] [] (cT (ALe.bool G)) ?_
         exact Kn.R Fm (M false h)
     ·refine AW.dSG0 Fm 1 [0,1,2,7,8,13,14,15,16] [(17,vi 0)] [13,14,16] [] ?_
      refine AW.block (Kn.r Fm [(0,AL a),(1,AL b),(2,vi t),(7,AL l),(8,AL j),(13,ow 13),(14,ow 14),(15,vi i),(16,ow 16),(17,vi 0)] [(13,AO u),(14,AO p),(16,AO ([]:List Rect))] (by kernel_rfl) ?_)
      refine AW.loopF (E' := fun z=>[(0,AL a),(1,AL b),(2,vi t),(7,AL l),(8,AL j),(13,ow 13),(14,ow 14),(15,vi i),(16,ow 16),(17,vi z.1)]) (S' := fun z=>[(13,AO u),(14,AO p),(16,AO z.2)]) (fun V z W1 o0 h=>?_) h
      obtain ⟨o,e⟩:=z
      refine AW.seq ?_
      obtain ⟨O0,h⟩:=gS h
      refine AW.dSP Fm [.s,.s,.s,.s,.s] [0,1,2,7,8,13,14,15,16,17] [(61,vb (decide ((o+1)<(lI l))))] [13,14,16] [] (cT (cT O0)) ?_
      refine AW.cN h (fun B0 h=>?_) (fun B0 h=>?_)
      ·refine AW.skip (AW.dJ (r:=r) (fun z:(List Rect)=>ref04_Combine_k7 F o V z) [0,1,2,7,8,13,14,15,16,17] (fun _=>[]) [13,14] (fun z=>[(16,AO z)]) (fun K1 h=>?_) (fun Y1 L=>?_))
       ·obtain ⟨k1,h⟩:=gS h
        refine AW.dpN Fm [.s,.s,.s] [0,1,2,7,8,13,14,15,16] [(17,vi (o+1))] [13,14,16] [] (cT (cT k1)) ?_
        exact Kn.R Fm (o0 ((o+1),K1) h)
       ·refine AW.block (AW.seq (AW.seq ?_))
        obtain ⟨P0,R0,h⟩:=gS2 h
        obtain ⟨p2,A1,h⟩:=bS h
        obtain ⟨T0,U0,h⟩:=gS2 h
        obtain ⟨q2,B1,h⟩:=bS h
        obtain ⟨O1,D1,h⟩:=bS h
        refine AW.dG Fm [.s,.s,.s,.s,.s,.s,.s,.s,.s,.k _,.s,.s,.s,.s,.s,.s,.s,.s,.s,.k _,.s,.k _,.s] (fun K=>_∧_∧K 9∧_∧_∧K 19∧K 21∧True) [0,1,2,7,8,13,14,15,16,17] [(86,vb (!O1))] [13,14,16] [] ⟨P0,R0,KAt.CC (ref04_inside_spec A1) Tryz.call71 [],T0,U0,KAt.CC (ref04_inside_spec B1) Tryz.call71 [],KAt.CC (ref04_keep_spec D1) Tryz.call127 [],⟨⟩⟩ ?_
        refine AW.cN h (fun D0 h=>?_) (fun D0 h=>?_)
        ·exact AW.exit (Kn.R Fm (L e h))
        ·refine AW.skip (AW.dSG0 Fm 3 [0,1,2,7,8,13,14,15,16,17] [(18,vi (lI e))] [13,14,16] [] ?_)
         refine AW.dJ (r:=r) (fun z:Bool=>ref04_Combine_k6 F l j i o e V z) [0,1,2,7,8,13,14,15,16,17,18] (fun z=>[(103,vb z)]) [13,14,16] (fun _=>[]) (fun l2 h=>?_) (fun X1 W=>?_)
         ·refine AW.cN h (fun E0 h=>?_) (fun E0 h=>?_)
          ·obtain ⟨X0,Y0,Z0,P,h⟩:=gS4 h
           refine AW.dWP Fm [.s,.s,.s,.s,.s,.s,.s,.s,.s,.s,.s] [0,1,2,7,8,13,14,15,16,17] [] [13,14] [(16,AO (α:=Rect) (List.set e ((lI e)-1).toNat (⟨(gl e ((lI e)-1).toNat).left_,(gl e ((lI e)-1).toNat).low_,(gl l (o+1).toNat),(gl e ((lI e)-1).toNat).high_⟩ : Rect)))] (cA (cT X0) (cA (cT Y0) (cA Z0 (cA P (cT (toNat_lt P)))))) [(16,rSt e ((lI e)-1).toNat 2 [.int .i64 (gl l (o+1).toNat)])] ⟨oSt (toNat_lt P),⟨⟩⟩ ?_
           exact Kn.R Fm (L (List.set e ((lI e)-1).toNat (⟨(gl e ((lI e)-1).toNat).left_,(gl e ((lI e)-1).toNat).low_,(gl l (o+1).toNat),(gl e ((lI e)-1).toNat).high_⟩ : Rect)) h)
          ·obtain ⟨a1,b1,c1,d1,h⟩:=gS4 h
           obtain ⟨e1,i1,j1,h⟩:=gS3 h
           refine AW.dWP Fm [.s,.s,.s,.s,.s,.s,.s,.s,.s,.s,.s,.s,.s,.s,.s,.s,.s,.s,.s,.s,.w (AL [(⟨(gl l o.toNat),(gl j i.toNat),(gl l (o+1).toNat),(gl j (i+1).toNat)⟩ : Rect)]),.s,.s] [0,1,2,7,8,13,14,15,17] [(16,ow 135)] [13,14] [(135,AO (α:=Rect) (e++([(⟨(gl l o.toNat),(gl j i.toNat),(gl l (o+1).toNat),(gl j (i+1).toNat)⟩ : Rect)]:List Rect)))] (cA a1 (cA b1 (cA (cT c1) (cA d1 (cA (cT e1) (cA i1 (cA (lit1 (⟨(gl l o.toNat),(gl j i.toNat),(gl l (o+1).toNat),(gl j (i+1).toNat)⟩ : Rect)) (cT (cA j1 (cT (lfl ([(⟨(gl l o.toNat),(gl j i.toNat),(gl l (o+1).toNat),(gl j (i+1).toNat)⟩ : Rect)]:List Rect)))))))))))) [(135,rAp e ([(⟨(gl l o.toNat),(gl j i.toNat),(gl l (o+1).toNat),(gl j (i+1).toNat)⟩ : Rect)]:List Rect))] ⟨oAp,⟨⟩⟩ ?_
           exact Kn.RE Fm [(16,135)] (L (e++([(⟨(gl l o.toNat),(gl j i.toNat),(gl l (o+1).toNat),(gl j (i+1).toNat)⟩ : Rect)]:List Rect)) h)
         ·rcases br_or h with ⟨N,h⟩|⟨N,h⟩
          ·obtain ⟨V0,Y,W0,h⟩:=gS3 h
           refine AW.dpN Fm [.s,.s,.w (vb true),.s,.s,.s,.s,.s,.s,.s,.s,.s,.s,.s,.s] [0,1,2,7,8,13,14,15,16,17,18] [(92,ow 16),(93,vi (lI e)),(94,vi ((lI e)-1)),(95,.v (.c (.pte 16 4 (((lI e)-1).toNat) 0))),(96,.v (.c (.pte 16 4 (((lI e)-1).toNat) 2))),(97,vi (gl e ((lI e)-1).toNat).right_),(98,AL l),(99,vi o),(100,.v (.c (.elm [.int .i64 (gl l o.toNat)]))),(101,vi (gl l o.toNat)),(102,vb (((gl e ((lI e)-1).toNat).right_)==(gl l o.toNat))),(103,vb (((gl e ((lI e)-1).toNat).right_)==(gl l o.toNat)))] [13,14,16] [] (cA (ALe.bool N) (cA (cT V0) (cA Y (cA (toNat_lt Y) (cT W0))))) ?_
           exact Kn.R Fm (W (((gl e ((lI e)-1).toNat).right_)==(gl l o.toNat)) h)
          ·refine AW.dpN Fm [.s,.s,.w (vb false),.s,.s,.s,.s,.s,.s,.s,.s,.s,.s,.s,.s] [0,1,2,7,8,13,14,15,16,17,18] [(103,vb false)] [13,14,16] [] (cT (ALe.bool N)) ?_
           exact Kn.R Fm (W false h)
      ·exact AW.exit (Kn.R Fm (p0 e h))
   ·exact AW.exit (Kn.R Fm (u0 (u,p) h))
 ·refine AW.dSP Fm [.s,.s,.w (AL (α:=(List Rect)) ([a,b]:List (List Rect))),.s,.s] [0,1,2,7,8] [(22,AL (α:=(List Rect)) ([a,b]:List (List Rect))),(23,vi ((List.length ([a,b]:List (List Rect)):Nat):Int)),(24,vi 0)] [7,8] [] (cT (ALe.lst (.lit ([a,b]:List (List Rect)) (by kernel_rfl)):ALe (.v (.c (.d (.lst 2 (litF 1 [DL a,DL b]))))) (AL (α:=(List Rect)) ([a,b]:List (List Rect))))) ?_
  refine AW.block (Kn.r Fm [(0,AL a),(1,AL b),(2,vi t),(7,ow 7),(8,ow 8),(22,AL (α:=(List Rect)) ([a,b]:List (List Rect))),(23,vi ((List.length ([a,b]:List (List Rect)):Nat):Int)),(24,vi 0)] [(7,AO (α:=Int) ([]:List Int)),(8,AO (α:=Int) ([]:List Int))] (by kernel_rfl) ?_)
  refine Kn.frz [(0,AL a),(1,AL b),(2,vi t),(7,AL (α:=Int) ([]:List Int)),(8,ow 8),(22,AL (α:=(List Rect)) ([a,b]:List (List Rect))),(23,vi ((List.length ([a,b]:List (List Rect)):Nat):Int)),(24,vi 0)] [(8,AO (α:=Int) ([]:List Int))] (by kernel_rfl) (by kernel_rfl) (by kernel_rfl) ?_
  refine Kn.r Fm [(0,AL a),(1,AL b),(2,vi t),(7,AL (α:=Int) ([]:List Int)),(8,ow 8),(22,AL (α:=(List Rect)) ([a,b]:List (List Rect))),(23,vi ((List.length ([a,b]:List (List Rect)):Nat):Int)),(24,vi 0)] [(8,AO (α:=Int) ([]:List Int))] (by kernel_rfl) ?_
  refine Kn.frz [(0,AL a),(1,AL b),(2,vi t),(7,AL (α:=Int) ([]:List Int)),(8,AL (α:=Int) ([]:List Int)),(22,AL (α:=(List Rect)) ([a,b]:List (List Rect))),(23,vi ((List.length ([a,b]:List (List Rect)):Nat):Int)),(24,vi 0)] [] (by kernel_rfl) (by kernel_rfl) (by kernel_rfl) ?_
  refine Kn.r Fm [(0,AL a),(1,AL b),(2,vi t),(7,AL ([]:List Int)),(8,AL ([]:List Int)),(22,AL (α:=(List Rect)) ([a,b]:List (List Rect))),(23,vi ((List.length ([a,b]:List (List Rect)):Nat):Int)),(24,vi 0)] [] (by kernel_rfl) ?_
  refine AW.loopF (E' := fun z=>[(0,AL a),(1,AL b),(2,vi t),(7,AL z.1),(8,AL z.2.1),(22,AL (α:=(List Rect)) ([a,b]:List (List Rect))),(23,vi ((List.length ([a,b]:List (List Rect)):Nat):Int)),(24,vi z.2.2)]) (S' := fun z=>[]) (fun i0 z P1 j0 h=>?_) h
  obtain ⟨b0,c0,q⟩:=z
  refine AW.dSG0 Fm 1 [0,1,2,7,8,22,23,24] [(25,vb (decide (q<((List.length ([a,b]:List (List Rect)):Nat):Int))))] [] [] ?_
  refine AW.seq (AW.cN h (fun w0 h=>?_) (fun w0 h=>?_))
  ·refine AW.skip (AW.dJ (r:=r) (fun z:(List Int)×(List Int)=>ref04_Combine_k2 F q i0 z.1 z.2) [0,1,2,22,23,24] (fun z=>[(7,AL z.1),(8,AL z.2)]) [] (fun _=>[]) (fun z h=>?_) (fun T1 l0=>?_))
   ·obtain ⟨H1,I1⟩:=z
    obtain ⟨M0,h⟩:=gS h
    refine AW.dpN Fm [.s,.s] [0,1,2,7,8,22,23] [(24,vi (q+1))] [] [] (cT (cT M0)) ?_
    exact Kn.R Fm (j0 (H1,I1,(q+1)) h)
   ·refine AW.block ?_
    obtain ⟨I0,h⟩:=gS h
    refine AW.dSP Fm [.s,.s,.s] [0,1,2,7,8,22,23,24] [(10,AL (α:=Rect) (gl ([a,b]:List (List Rect)) q.toNat))] [] [] (cT I0) ?_
    refine AW.dSG0 Fm 3 [0,1,2,7,8,22,23,24] [(28,AL (α:=Rect) (gl ([a,b]:List (List Rect)) q.toNat)),(29,vi ((List.length (gl ([a,b]:List (List Rect)) q.toNat):Nat):Int)),(30,vi 0)] [] [] ?_
    refine AW.block (Kn.r Fm [(0,AL a),(1,AL b),(2,vi t),(7,AL b0),(8,AL c0),(22,AL (α:=(List Rect)) ([a,b]:List (List Rect))),(23,vi ((List.length ([a,b]:List (List Rect)):Nat):Int)),(24,vi q),(28,AL (α:=Rect) (gl ([a,b]:List (List Rect)) q.toNat)),(29,vi ((List.length (gl ([a,b]:List (List Rect)) q.toNat):Nat):Int)),(30,vi 0)] [] (by kernel_rfl) ?_)
    refine AW.loopF (E' := fun z=>[(0,AL a),(1,AL b),(2,vi t),(7,AL z.1),(8,AL z.2.1),(22,AL (α:=(List Rect)) ([a,b]:List (List Rect))),(23,vi ((List.length ([a,b]:List (List Rect)):Nat):Int)),(24,vi q),(28,AL (α:=Rect) (gl ([a,b]:List (List Rect)) q.toNat)),(29,vi ((List.length (gl ([a,b]:List (List Rect)) q.toNat):Nat):Int)),(30,vi z.2.2)]) (S' := fun z=>[]) (fun j2 z R1 k0 h=>?_) h
    obtain ⟨E1,G1,B⟩:=z
    refine AW.dSG0 Fm 1 [0,1,2,7,8,22,23,24,28,29,30] [(31,vb (decide (B<((List.length (gl ([a,b]:List (List Rect)) q.toNat):Nat):Int))))] [] [] ?_
    refine AW.seq (AW.cN h (fun y0 h=>?_) (fun y0 h=>?_))
    ·refine AW.skip (AW.seq (AW.block ?_))
     obtain ⟨K0,h⟩:=gS h
     refine AW.dSP Fm [.s,.s,.s,.s] [0,1,2,7,8,22,23,24,28,29,30] [(12,pt 12)] [] [(12,bx [ci ((gl (gl ([a,b]:List (List Rect)) q.toNat) B.toNat).left_),ci ((gl (gl ([a,b]:List (List Rect)) q.toNat) B.toNat).low_),ci ((gl (gl ([a,b]:List (List Rect)) q.toNat) B.toNat).right_),ci ((gl (gl ([a,b]:List (List Rect)) q.toNat) B.toNat).high_)])] (cT K0) ?_
     obtain ⟨n2,t1,h⟩:=bS h
     obtain ⟨d0,u1,h⟩:=bS h
     obtain ⟨o2,w1,h⟩:=bS h
     obtain ⟨e0,y1,h⟩:=bS h
     refine AW.dG Fm [.s,.s,.s,.k _,.s,.s,.k _,.s,.s,.s,.k _,.s,.s,.k _,.s,.s] (fun K=>K 3∧K 6∧K 10∧K 13∧True) [0,1,2,22,23,24,28,29,30] [(7,AL d0),(8,AL e0)] [] [] ⟨KAt.CC (ref01_Put_spec t1) Tryz.call126 [],KAt.CC (ref01_Put_spec u1) Tryz.call126 [],KAt.CC (ref01_Put_spec w1) Tryz.call126 [],KAt.CC (ref01_Put_spec y1) Tryz.call126 [],⟨⟩⟩ ?_
     obtain ⟨L0,h⟩:=gS h
     refine AW.dpN Fm [.s,.s] [0,1,2,7,8,22,23,24,28,29] [(30,vi (B+1))] [] [] (cT (cT L0)) ?_
     exact Kn.R Fm (k0 (d0,e0,(B+1)) h)
    ·exact AW.exit (Kn.R Fm (l0 (E1,G1) h))
  ·exact AW.exit (Kn.R Fm (m0 (b0,c0) h))
theorem ref04_Combine_spec {F:Nat} {a:(List Rect)} {b:(List Rect)} {c:Int} {r:(List Rect)} (h:ref04_Combine F a b c=some r) :
  FSpec Tryz.prog 74 [AL a,AL b,vi c] [] (AL (α:=Rect) r) []:=FSpec.list (ref04_Combine_O_spec (F:=F) h)
theorem ref04_Bound_spec {F:Nat} {a:(List Rect)} {r:Region×Int} (h:ref04_Bound F a=some r) :
  FSpec Tryz.prog 82 [AL a] [] (.t [.g [.d (DL (α:=Rect) r.1.rects_)],.c (ci r.2)]) []:=by
 refine FI Tryz.func82 prog_mixed prog_lay fun C Fm=>?_
 unfold ref04_Bound at h
 refine AW.dSG0 Fm 2 [0] [(2,pt 2)] [] [(2,bx [.fl 0 fun _=>[]])] ?_
 refine AW.seq (AW.dSG0 Fm 3 [0,2] [(6,vb (decide ((120:Int)<(lI a))))] [2] [] ?_)
 refine AW.cN h (fun b h=>?_) (fun b h=>?_)
 ·refine AW.dSP Fm [.w (.v (.g [.d (DL (α:=Rect) [])])),.s,.s] [2] [(3,vi 1)] [] [(2,bx [.d (DL (α:=Rect) [])])] (cT (ALe.g ⟨CLe.fl .nil,⟨⟩⟩ : ALe (.v (.g [.fl 0 fun _=>[]])) (.v (.g [.d (DL (α:=Rect) [])])))) ?_
  refine AW.ret ?_
  obtain rfl:=Option.some.inj h
  exact Kn.D Fm
 ·refine AW.skip (AW.dSG0 Fm 4 [2] [(3,vi 0)] [] [(2,bx [.d (DL a)])] ?_)
  refine AW.ret ?_
  obtain rfl:=Option.some.inj h
  exact Kn.D Fm
theorem ref04_Of_spec {F:Nat} {a:(List Rect)} {r:Region×Int} (h:ref04_Of F a=some r) :
  FSpec Tryz.prog 108 [AL a] [] (.t [.g [.d (DL (α:=Rect) r.1.rects_)],.c (ci r.2)]) []:=by
 refine FI Tryz.func108 prog_mixed prog_lay fun C Fm=>?_
 unfold ref04_Of at h
 refine AW.dSG0 Fm 2 [0] [(2,pt 2)] [] [(2,bx [.fl 0 fun _=>[]])] ?_
 refine AW.seq (AW.dSG0 Fm 3 [0,2] [(8,vb (decide ((120:Int)<(lI a))))] [2] [] ?_)
 refine AW.cN h (fun l h=>?_) (fun l h=>?_)
 ·refine AW.dSP Fm [.w (.v (.g [.d (DL (α:=Rect) [])])),.s,.s] [2] [(3,vi 1)] [] [(2,bx [.d (DL (α:=Rect) [])])] (cT (ALe.g ⟨CLe.fl .nil,⟨⟩⟩ : ALe (.v (.g [.fl 0 fun _=>[]])) (.v (.g [.d (DL (α:=Rect) [])])))) ?_
  refine AW.ret ?_
  obtain rfl:=Option.some.inj h
  exact Kn.D Fm
 ·refine AW.skip (AW.dJ (r:=r) (fun z:Unit=>ref04_Of_k1 F a) [0,2] (fun _=>[]) [2] (fun _=>[]) (fun z h=>?_) (fun H j=>?_))
  ·refine AW.seq ?_
   obtain ⟨E,y,h⟩:=bS h
   obtain ⟨e,A,h⟩:=bS h
   refine AW.dG Fm [.s,.k (cE [] [] (AL E) [] []),.k _,.s,.s,.s,.s] (fun K=>K 1∧K 2∧True) [2] [(3,vi e.2)] [] [(2,bx [.d (DL e.1.rects_)])] ⟨KAt.callX (ref04_Combine_spec y) Tryz.call74 [] [] [.tmp 21,.const (.slice none 0 0),.const (.int .i64 1)] rfl (by kernel_rfl) (by kernel_rfl) (by kernel_rfl) ⟨.p,ArgT.plain (by kernel_rfl) (ALe.c (CLe.fl .nil)) (by kernel_rfl),.p,⟨⟩⟩,KAt.CC (ref04_Bound_spec A) Tryz.call82 [],⟨⟩⟩ ?_
   refine AW.ret ?_
   obtain rfl:=Option.some.inj h
   exact Kn.D Fm
  ·refine AW.dSG0 Fm 3 [0,2] [(10,AL a),(11,vi (lI a)),(12,vi 0)] [2] [] ?_
   refine AW.block (Kn.r Fm [(0,AL a),(2,pt 2),(10,AL a),(11,vi (lI a)),(12,vi 0)] [(2,bx [.fl 0 fun _=>[]])] (by kernel_rfl) ?_)
   refine AW.loopF (E' := fun z=>[(0,AL a),(2,pt 2),(10,AL a),(11,vi (lI a)),(12,vi z)]) (S' := fun z=>[(2,bx [.fl 0 fun _=>[]])]) (fun I b G i h=>?_) h
   refine AW.dSG0 Fm 1 [0,2,10,11,12] [(13,vb (decide (b<(lI a))))] [2] [] ?_
   refine AW.seq (AW.cN h (fun m h=>?_) (fun m h=>?_))
   ·refine AW.skip (AW.seq (AW.block ?_))
    obtain ⟨o,h⟩:=gS h
    refine AW.dSP Fm [.s,.s,.s,.s] [0,2,10,11,12] [(5,pt 5)] [2] [(5,bx [ci ((gl a b.toNat).left_),ci ((gl a b.toNat).low_),ci ((gl a b.toNat).right_),ci ((gl a b.toNat).high_)])] (cT o) ?_
    refine AW.seq ?_
    obtain ⟨B,u,h⟩:=bS h
    refine AW.dG Fm [.s,.k _,.s] (fun K=>K 1∧True) [0,2,10,11,12] [(18,vb (!B))] [2] [] ⟨KAt.CC (ref04_proper_spec u) Tryz.call124 [],⟨⟩⟩ ?_
    refine AW.cN h (fun n h=>?_) (fun n h=>?_)
    ·refine AW.dSP Fm [.w (.v (.g [.d (DL (α:=Rect) [])])),.s,.s] [2] [(3,vi 2)] [] [(2,bx [.d (DL (α:=Rect) [])])] (cT (ALe.g ⟨CLe.fl .nil,⟨⟩⟩ : ALe (.v (.g [.fl 0 fun _=>[]])) (.v (.g [.d (DL (α:=Rect) [])])))) ?_
     refine AW.ret ?_
     obtain rfl:=Option.some.inj h
     exact Kn.D Fm
    ·refine AW.skip ?_
     obtain ⟨q,h⟩:=gS h
     refine AW.dpN Fm [.s,.s] [0,2,10,11] [(12,vi (b+1))] [2] [] (cT (cT q)) ?_
     exact Kn.R Fm (i (b+1) h)
   ·exact AW.exit (Kn.R Fm (j () h))
theorem keep_Tape_Region_spec {F:Nat} {o:Tape} {e:Int} {p:Int} {r:Tape×Region} (h:keep_Tape_Region F o e p=some r) :
  FSpec Tryz.prog 54 [pt 0,vi e,vi p] [(0,bx (gC o))] (.v (.g [.d (DL (α:=Rect) r.2.rects_)])) [(0,bx (gC r.1))]:=by
 refine FI Tryz.func54 prog_mixed prog_lay fun C Fm=>?_
 unfold keep_Tape_Region at h
 refine AW.dSG0 Fm 1 [0,1,2] [(6,pt 6)] [0] [(6,bx [.fl 0 fun _=>[]])] ?_
 refine AW.dSW Fm [.m] (fun K=>True) [0,1,2,6] [(7,ow 7)] [0,6] [(7,AO (α:=Rect) ([]:List Rect))] True.intro [(7,.arr 4 (0) (fun _=>[]))] ⟨OLe.is ((Is.nil (α:=Rect))),⟨⟩⟩ ?_
 refine AW.dJ (r:=r) (fun z:(List Rect)×(List Int)×Int=>keep_Tape_Region_k1 F z.1 z.2.1 z.2.2) [6,7] (fun _=>[]) [6] (fun z=>[(0,bx [.d (DL z.2.1),ci z.2.2]),(7,AO z.1)]) (fun z h=>?_) (fun O u=>?_)
 ·obtain ⟨j,l,n⟩:=z
  refine AW.seq (Kn.r Fm [(6,pt 6),(7,ow 7)] [(7,AO j),(0,bx [.d (DL l),ci n]),(6,bx [.fl 0 fun _=>[]])] (by kernel_rfl) ?_)
  refine Kn.frz [(6,pt 6),(7,AL j)] [(0,bx [.d (DL l),ci n]),(6,bx [.fl 0 fun _=>[]])] (by kernel_rfl) (by kernel_rfl) (by kernel_rfl) ?_
  obtain ⟨q,I,h⟩:=bS h
  refine AW.dG Fm [.s,.k _,.s,.s,.s,.s,.s,.s] (fun K=>K 1∧True) [6] [(9,pt 9)] [0,6] [(9,bx [.d (DL q.1.rects_)])] ⟨KAt.CC (ref04_Of_spec I) Tryz.call108 [],⟨⟩⟩ ?_
  refine AW.dSG0 Fm 2 [6] [] [0] [(6,bx [.d (DL q.1.rects_)])] ?_
  refine AW.ret ?_
  obtain rfl:=Option.some.inj h
  exact Kn.D Fm
 ·refine AW.seq ?_
  obtain ⟨A,h⟩:=gS h
  obtain ⟨b,G,h⟩:=bS h
  refine AW.dG Fm [.s,.s,.s,.k _,.s] (fun K=>(_∧True)∧K 3∧True) [0,1,6,7] [(8,vi b.2)] [6,7] [(0,bx (gC b.1))] ⟨⟨A,⟨⟩⟩,KAt.CC (keep_Tape_Next_spec G) Tryz.call18 [(0,0)],⟨⟩⟩ ?_
  refine AW.block (Kn.r Fm [(0,pt 0),(1,vi e),(6,pt 6),(7,ow 7),(8,vi b.2)] [(0,bx [.d (DL b.1.l_),ci b.1.at_]),(6,bx [.fl 0 fun _=>[]]),(7,AO ([]:List Rect))] (by kernel_rfl) ?_)
  refine AW.loopF (E' := fun z=>[(0,pt 0),(1,vi e),(6,pt 6),(7,ow 7),(8,vi z.1)]) (S' := fun z=>[(0,bx [.d (DL z.2.1),ci z.2.2.1]),(6,bx [.fl 0 fun _=>[]]),(7,AO z.2.2.2)]) (fun P z N t h=>?_) h
  obtain ⟨i,L,M,c⟩:=z
  refine AW.seq (AW.dSG0 Fm 2 [0,1,6,7,8] [(16,vb (decide ((0:Int)<i)))] [0,6,7] [] ?_)
  refine AW.cN h (fun y h=>?_) (fun y h=>?_)
  ·refine AW.skip (AW.seq (AW.block ?_))
   obtain ⟨a,H,h⟩:=bS h
   obtain ⟨B,h⟩:=gS h
   refine AW.dGW Fm [.s,.s,.s,.k _,.w (AL [a.2]),.s,.s] (fun K=>K 3∧_∧(_∧_∧True)∧True) [0,1,6,8] [(7,ow 24)] [6] [(0,bx (gC a.1)),(24,AO (α:=Rect) (c++([a.2]:List Rect)))] ⟨KAt.CC (keep_Tape_Rect_spec H) Tryz.call107 [(0,0)],lit1 a.2,⟨B,lfl ([a.2]:List Rect),⟨⟩⟩,⟨⟩⟩ [(24,rAp c ([a.2]:List Rect))] ⟨oAp,⟨⟩⟩ ?_
   obtain ⟨E,h⟩:=gS h
   refine AW.dpN Fm [.s,.s,.s] [0,1,6,7] [(8,vi (i-1))] [0,6,24] [] (cT (cT E)) ?_
   exact Kn.RE Fm [(7,24)] (t ((i-1),a.1.l_,a.1.at_,(c++([a.2]:List Rect))) h)
  ·exact AW.exit (Kn.R Fm (u (c,L,M) h))
theorem law31_regions_spec {F:Nat} {e:Tape} {b:(List Scheme)} {r:Tape×(List Region)} (h:law31_regions F e b=some r) :
  FSpec Tryz.prog 16 [pt 0,AL b] [(0,bx (gC e))] (AL (α:=Region) r.2) [(0,bx (gC r.1))]:=by
 refine FI Tryz.func16 prog_mixed prog_lay fun C Fm=>?_
 unfold law31_regions at h
 refine AW.dSG0 Fm 1 [0,1] [] [0] [] ?_
 refine AW.dSW Fm [.m] (fun K=>True) [0,1] [(5,ow 5)] [0] [(5,AO (α:=Region) ([]:List Region))] True.intro [(5,.arr 1 (0) (fun _=>[]))] ⟨OLe.is ((Is.nil (α:=Region))),⟨⟩⟩ ?_
 refine AW.dJ (r:=r) (fun z:(List Region)×(List Int)×Int=>law31_regions_k1 F z.1 z.2.1 z.2.2) [5] (fun _=>[]) [] (fun z=>[(0,bx [.d (DL z.2.1),ci z.2.2]),(5,AO z.1)]) (fun z h=>?_) (fun G p=>?_)
 ·obtain ⟨j,l,n⟩:=z
  refine AW.dSG0 Fm 2 [] [(4,ow 5)] [0,5] [] ?_
  refine AW.ret ?_
  obtain rfl:=Option.some.inj h
  refine Kn.r Fm [(4,ow 5)] [(5,AO j),(0,bx [.d (DL l),ci n])] (by kernel_rfl) ?_
  refine Kn.frz [(4,AL j)] [(0,bx [.d (DL l),ci n])] (by kernel_rfl) (by kernel_rfl) (by kernel_rfl) ?_
  exact Kn.D Fm
 ·refine AW.dSG0 Fm 3 [0,5] [(7,vi (lI b)),(8,vi 0)] [0,5] [] ?_
  refine AW.block (Kn.r Fm [(0,pt 0),(5,ow 5),(7,vi (lI b)),(8,vi 0)] [(0,bx [.d (DL e.l_),ci e.at_]),(5,AO ([]:List Region))] (by kernel_rfl) ?_)
  refine AW.loopF (E' := fun z=>[(0,pt 0),(5,ow 5),(7,vi (lI b)),(8,vi z.1)]) (S' := fun z=>[(0,bx [.d (DL z.2.1),ci z.2.2.1]),(5,AO z.2.2.2)]) (fun H z E o h=>?_) h
  obtain ⟨i,A,B,c⟩:=z
  refine AW.dSG0 Fm 1 [0,5,7,8] [(9,vb (decide (i<(lI b))))] [0,5] [] ?_
  refine AW.seq (AW.cN h (fun q h=>?_) (fun q h=>?_))
  ·refine AW.skip (AW.seq (AW.block ?_))
   obtain ⟨a,y,h⟩:=bS h
   obtain ⟨t,h⟩:=gS h
   refine AW.dGW Fm [.s,.s,.k _,.w (AL [a.2]),.s,.s] (fun K=>K 2∧_∧(_∧_∧True)∧True) [0,7,8] [(5,ow 14)] [] [(0,bx (gC a.1)),(14,AO (α:=Region) (c++([a.2]:List Region)))] ⟨KAt.CC (keep_Tape_Region_spec y) Tryz.call54 [(0,0)],lit1 a.2,⟨t,lfl ([a.2]:List Region),⟨⟩⟩,⟨⟩⟩ [(14,rAp c ([a.2]:List Region))] ⟨oAp,⟨⟩⟩ ?_
   obtain ⟨u,h⟩:=gS h
   refine AW.dpN Fm [.s,.s] [0,5,7] [(8,vi (i+1))] [0,14] [] (cT (cT u)) ?_
   exact Kn.RE Fm [(5,14)] (o ((i+1),a.1.l_,a.1.at_,(c++([a.2]:List Region))) h)
  ·exact AW.exit (Kn.R Fm (p (c,A,B) h))
theorem keep_Tape_Broken_spec {F:Nat} {N:Tape} {O:Int} {P:Int} {r:Tape×Region} (h:keep_Tape_Broken F N O P=some r) :
  FSpec Tryz.prog 17 [pt 0,vi O,vi P] [(0,bx (gC N))] (.v (.g [.d (DL (α:=Rect) r.2.rects_)])) [(0,bx (gC r.1))]:=by
 refine FI Tryz.func17 prog_mixed prog_lay fun C Fm=>?_
 unfold keep_Tape_Broken at h
 refine AW.dSG0 Fm 1 [0,1,2] [(6,pt 6)] [0] [(6,bx [.fl 0 fun _=>[]])] ?_
 refine AW.seq ?_
 obtain ⟨a,b0,h⟩:=bS h
 refine AW.dG Fm [.s,.s,.s,.k _,.s,.s] (fun K=>K 3∧True) [0,6] [(7,pt 7)] [6] [(0,bx (gC a.1)),(7,bx [.d (DL a.2.rects_)])] ⟨KAt.CC (keep_Tape_Region_spec b0) Tryz.call54 [(0,0)],⟨⟩⟩ ?_
 refine AW.seq (AW.dJ (r:=r) (fun z:Bool×(List Int)×Int=>keep_Tape_Broken_k0 F a z.1 z.2.1 z.2.2) [0,6,7] (fun z=>[(22,vb z.1)]) [6,7] (fun z=>[(0,bx [.d (DL z.2.1),ci z.2.2])]) (fun z h=>?_) (fun i0 y=>?_))
 ·obtain ⟨k0,l0,m0⟩:=z
  refine AW.cN h (fun T h=>?_) (fun T h=>?_)
  ·refine AW.dSG0 Fm 2 [6] [] [0] [(6,bx [.d (DL a.2.rects_)])] ?_
   refine AW.ret ?_
   obtain rfl:=Option.some.inj h
   exact Kn.D Fm
  ·refine AW.skip ?_
   obtain ⟨Y,h⟩:=gS h
   refine AW.dSV Fm [.m,.s,.s,.s,.s] [0,6] [(8,ow 27)] [0,6] [(27,AO (α:=Rect) (([]:List Rect)++a.2.rects_))] (cT (cA Y (cT (lfl a.2.rects_)))) [(27,rA0 a.2.rects_)] ⟨oA0,⟨⟩⟩ ?_
   refine AW.seq ?_
   obtain ⟨b,d0,h⟩:=bS h
   refine AW.dG Fm [.s,.s,.s,.k _,.s] (fun K=>K 3∧True) [0,6,8] [(9,vi b.2)] [6,27] [(0,bx (gC b.1))] ⟨KAt.CC (keep_Tape_Next_spec d0) Tryz.call18 [(0,0)],⟨⟩⟩ ?_
   refine AW.dJ (r:=r) (fun z:(List Rect)×(List Int)×Int=>keep_Tape_Broken_k1 F z.1 z.2.1 z.2.2) [6,8] (fun _=>[]) [6] (fun z=>[(0,bx [.d (DL z.2.1),ci z.2.2]),(27,AO z.1)]) (fun z h=>?_) (fun j0 i=>?_)
   ·obtain ⟨I,L,M⟩:=z
    refine AW.dSG0 Fm 3 [6] [] [0,27] [(6,bx [.own 27])] ?_
    refine AW.ret ?_
    obtain rfl:=Option.some.inj h
    refine Kn.r Fm [(6,pt 6)] [(27,AO I),(0,bx [.d (DL L),ci M]),(6,bx [.own 27])] (by kernel_rfl) ?_
    refine Kn.frz [(6,pt 6)] [(0,bx [.d (DL L),ci M]),(6,bx [.d (DL I)])] (by kernel_rfl) (by kernel_rfl) (by kernel_rfl) ?_
    exact Kn.D Fm
   ·refine AW.seq ?_
    obtain ⟨e,e0,h⟩:=bS h
    refine AW.dG Fm [.s,.k _] (fun K=>K 1∧True) [6,8,9] [(33,vi e.2)] [6,27] [(0,bx (gC e.1))] ⟨KAt.CC (keep_Tape_Next_spec e0) Tryz.call18 [(0,0)],⟨⟩⟩ ?_
    refine AW.block (AW.dSG0 Fm 2 [6,8,9,33] [(43,vb (e.2==(0:Int)))] [0,6,27] [] ?_)
    refine AW.cN h (fun U h=>?_) (fun U h=>?_)
    ·obtain ⟨A,Z,o,h⟩:=gS3 h
     refine AW.dWP Fm [.s,.s,.s,.s,.s,.s,.s,.s,.s] [6,8] [] [0,6] [(27,AO (α:=Rect) (List.set (([]:List Rect)++a.2.rects_) b.2.toNat (⟨(gl (([]:List Rect)++a.2.rects_) b.2.toNat).left_,(gl (([]:List Rect)++a.2.rects_) b.2.toNat).low_,(((gl (([]:List Rect)++a.2.rects_) b.2.toNat).right_)+1),(gl (([]:List Rect)++a.2.rects_) b.2.toNat).high_⟩ : Rect)))] (cA A (cA (toNat_lt A) (cA (cT Z) (cA o (cT (toNat_lt o)))))) [(27,rSt (([]:List Rect)++a.2.rects_) b.2.toNat 2 [.int .i64 (((gl (([]:List Rect)++a.2.rects_) b.2.toNat).right_)+1)])] ⟨oSt (toNat_lt o),⟨⟩⟩ ?_
     exact Kn.R Fm (i ((List.set (([]:List Rect)++a.2.rects_) b.2.toNat (⟨(gl (([]:List Rect)++a.2.rects_) b.2.toNat).left_,(gl (([]:List Rect)++a.2.rects_) b.2.toNat).low_,(((gl (([]:List Rect)++a.2.rects_) b.2.toNat).right_)+1),(gl (([]:List Rect)++a.2.rects_) b.2.toNat).high_⟩ : Rect)),e.1.l_,e.1.at_) h)
    ·refine AW.dSG0 Fm 2 [6,8,9,33] [(53,vb (e.2==(1:Int)))] [0,6,27] [] ?_
     refine AW.cN h (fun V h=>?_) (fun V h=>?_)
     ·obtain ⟨p,h⟩:=gS h
      refine AW.dWP Fm [.s,.s,.s,.s,.s] [6,8] [] [0,6] [(27,AO (α:=Rect) (List.set (([]:List Rect)++a.2.rects_) b.2.toNat (⟨(-1:Int),(gl (([]:List Rect)++a.2.rects_) b.2.toNat).low_,(gl (([]:List Rect)++a.2.rects_) b.2.toNat).right_,(gl (([]:List Rect)++a.2.rects_) b.2.toNat).high_⟩ : Rect)))] (cA p (cT (toNat_lt p))) [(27,rSt (([]:List Rect)++a.2.rects_) b.2.toNat 0 [.int .i64 (-1:Int)])] ⟨oSt (toNat_lt p),⟨⟩⟩ ?_
      exact Kn.R Fm (i ((List.set (([]:List Rect)++a.2.rects_) b.2.toNat (⟨(-1:Int),(gl (([]:List Rect)++a.2.rects_) b.2.toNat).low_,(gl (([]:List Rect)++a.2.rects_) b.2.toNat).right_,(gl (([]:List Rect)++a.2.rects_) b.2.toNat).high_⟩ : Rect)),e.1.l_,e.1.at_) h)
     ·refine AW.dSG0 Fm 2 [6,8,9,33] [(59,vb (e.2==(2:Int)))] [0,6,27] [] ?_
      refine AW.cN h (fun W h=>?_) (fun W h=>?_)
      ·obtain ⟨B,a0,h⟩:=gS2 h
       refine AW.dWP Fm [.s,.s,.s,.s,.s,.w (AL [(gl (([]:List Rect)++a.2.rects_) b.2.toNat)]),.s,.s] [6] [(8,ow 67)] [0,6] [(67,AO (α:=Rect) ((([]:List Rect)++a.2.rects_)++([(gl (([]:List Rect)++a.2.rects_) b.2.toNat)]:List Rect)))] (cA B (cA (toNat_lt B) (cA (lit1 (gl (([]:List Rect)++a.2.rects_) b.2.toNat)) (cT (cA a0 (cT (lfl ([(gl (([]:List Rect)++a.2.rects_) b.2.toNat)]:List Rect)))))))) [(67,rAp (([]:List Rect)++a.2.rects_) ([(gl (([]:List Rect)++a.2.rects_) b.2.toNat)]:List Rect))] ⟨oAp,⟨⟩⟩ ?_
       exact Kn.RE Fm [(27,67)] (i (((([]:List Rect)++a.2.rects_)++([(gl (([]:List Rect)++a.2.rects_) b.2.toNat)]:List Rect)),e.1.l_,e.1.at_) h)
      ·refine AW.dSG0 Fm 2 [6,8,9] [(68,vb (e.2==(3:Int)))] [0,6,27] [] ?_
       refine AW.cN h (fun X h=>?_) (fun X h=>?_)
       ·obtain ⟨E,G,q,t,h⟩:=gS4 h
        refine AW.dGW Fm [.s,.s,.s,.s,.s,.s,.s,.s,.s,.s,.s,.k (rE { v:=.any,upd:=some (27,AO (α:=Rect) (List.set (([]:List Rect)++a.2.rects_) (0:Int).toNat (gl (([]:List Rect)++a.2.rects_) b.2.toNat))) }),.s,.s] (fun K=>_∧_∧_∧_∧_∧K 11∧_∧_∧True) [6,8] [] [0,6] [(27,AO (α:=Rect) (List.set (List.set (([]:List Rect)++a.2.rects_) (0:Int).toNat (gl (([]:List Rect)++a.2.rects_) b.2.toNat)) b.2.toNat (gl (([]:List Rect)++a.2.rects_) (0:Int).toNat)))] ⟨E,(toNat_lt E),G,(toNat_lt G),q,KAt.upd prog_lay (ob:=.arr 4 (List.length (α:=Rect) (([]:List Rect)++a.2.rects_)) (fun j=>if j=(0:Int).toNat then splice ((LF (α:=Rect) (([]:List Rect)++a.2.rects_)) (0:Int).toNat) 0 [.int .i64 (gl (([]:List Rect)++a.2.rects_) b.2.toNat).left_,.int .i64 (gl (([]:List Rect)++a.2.rects_) b.2.toNat).low_,.int .i64 (gl (([]:List Rect)++a.2.rects_) b.2.toNat).right_,.int .i64 (gl (([]:List Rect)++a.2.rects_) b.2.toNat).high_] else (LF (α:=Rect) (([]:List Rect)++a.2.rects_)) j)) (c:=(0:Int).toNat<List.length (([]:List Rect)++a.2.rects_)) rfl (by kernel_rfl) (by kernel_rfl) (toNat_lt q) (OLe.is (Is.set (Is.refl (([]:List Rect)++a.2.rects_)) (toNat_lt q) (gl (([]:List Rect)++a.2.rects_) b.2.toNat) (by kernel_rfl))),t,(toNat_lt t),⟨⟩⟩ [(27,rSt (List.set (([]:List Rect)++a.2.rects_) (0:Int).toNat (gl (([]:List Rect)++a.2.rects_) b.2.toNat)) b.2.toNat 0 [.int .i64 (gl (([]:List Rect)++a.2.rects_) (0:Int).toNat).left_,.int .i64 (gl (([]:List Rect)++a.2.rects_) (0:Int).toNat).low_,.int .i64 (gl (([]:List Rect)++a.2.rects_) (0:Int).toNat).right_,.int .i64 (gl (([]:List Rect)++a.2.rects_) (0:Int).toNat).high_])] ⟨oSt (toNat_lt t),⟨⟩⟩ ?_
        exact Kn.R Fm (i ((List.set (List.set (([]:List Rect)++a.2.rects_) (0:Int).toNat (gl (([]:List Rect)++a.2.rects_) b.2.toNat)) b.2.toNat (gl (([]:List Rect)++a.2.rects_) (0:Int).toNat)),e.1.l_,e.1.at_) h)
       ·obtain ⟨H,u,h⟩:=gS2 h
        refine AW.dWP Fm [.s,.s,.s,.s,.s,.s,.s,.s,.s,.s] [6,8] [] [0,6] [(27,AO (α:=Rect) (List.set (([]:List Rect)++a.2.rects_) b.2.toNat (⟨(gl (([]:List Rect)++a.2.rects_) b.2.toNat).left_,(gl (([]:List Rect)++a.2.rects_) b.2.toNat).low_,(gl (([]:List Rect)++a.2.rects_) b.2.toNat).right_,(gl (([]:List Rect)++a.2.rects_) b.2.toNat).low_⟩ : Rect)))] (cA H (cA (toNat_lt H) (cA u (cT (toNat_lt u))))) [(27,rSt (([]:List Rect)++a.2.rects_) b.2.toNat 3 [.int .i64 (gl (([]:List Rect)++a.2.rects_) b.2.toNat).low_])] ⟨oSt (toNat_lt u),⟨⟩⟩ ?_
        exact Kn.R Fm (i ((List.set (([]:List Rect)++a.2.rects_) b.2.toNat (⟨(gl (([]:List Rect)++a.2.rects_) b.2.toNat).left_,(gl (([]:List Rect)++a.2.rects_) b.2.toNat).low_,(gl (([]:List Rect)++a.2.rects_) b.2.toNat).right_,(gl (([]:List Rect)++a.2.rects_) b.2.toNat).low_⟩ : Rect)),e.1.l_,e.1.at_) h)
 ·rcases br_or h with ⟨n,h⟩|⟨n,h⟩
  ·refine AW.dpN Fm [.s,.s,.s,.s,.w (vb true),.s,.s,.s,.s] [0,6,7] [(22,vb true)] [0,6,7] [] (cT (ALe.bool n)) ?_
   exact Kn.R Fm (y (true,a.1.l_,a.1.at_) h)
  ·obtain ⟨l,c0,h⟩:=bS h
   refine AW.dG Fm [.s,.s,.s,.s,.w (vb false),.s,.k _,.s,.s] (fun K=>_∧K 6∧True) [0,6,7] [(22,vb (!l.2))] [6,7] [(0,bx (gC l.1))] ⟨ALe.bool n,KAt.CC (keep_Tape_One_spec c0) Tryz.call55 [(0,0)],⟨⟩⟩ ?_
   exact Kn.R Fm (y ((!l.2),l.1.l_,l.1.at_) h)
theorem ref04_Valid_spec {F:Nat} {a:Region} {r:Bool} (h:ref04_Valid F a=some r) :
  FSpec Tryz.prog 67 [.v (.g [.d (DL a.rects_)])] [] (vb r) []:=by
 refine FI Tryz.func67 prog_mixed prog_lay fun C Fm=>?_
 unfold ref04_Valid at h
 refine AW.dSG0 Fm 2 [] [(1,pt 1)] [] [(1,bx [.d (DL a.rects_)])] ?_
 refine AW.seq (AW.dSG0 Fm 4 [1] [(8,vb (decide ((120:Int)<(lI a.rects_))))] [1] [] ?_)
 refine AW.cN h (fun j h=>?_) (fun j h=>?_)
 ·refine AW.dSG0 Fm 1 [] [(2,vb false)] [] [] ?_
  refine AW.ret ?_
  obtain rfl:=Option.some.inj h
  exact Kn.D Fm
 ·refine AW.skip (AW.dJ (r:=r) (fun z:Unit=>ref04_Valid_k1 F a) [1] (fun _=>[]) [1] (fun _=>[]) (fun z h=>?_) (fun E i=>?_))
  ·refine AW.seq ?_
   obtain ⟨y,t,h⟩:=bS h
   obtain ⟨A,u,h⟩:=bS h
   refine AW.dG Fm [.s,.s,.k (cE [] [] (AL y) [] []),.s,.s,.k _,.s] (fun K=>K 2∧K 5∧True) [] [(2,vb A)] [] [] ⟨KAt.callX (ref04_Combine_spec t) Tryz.call74 [] [] [.tmp 21,.const (.slice none 0 0),.const (.int .i64 1)] rfl (by kernel_rfl) (by kernel_rfl) (by kernel_rfl) ⟨.p,ArgT.plain (by kernel_rfl) (ALe.c (CLe.fl .nil)) (by kernel_rfl),.p,⟨⟩⟩,KAt.CC (ref04_Rects_spec u) Tryz.call98 [],⟨⟩⟩ ?_
   refine AW.ret ?_
   obtain rfl:=Option.some.inj h
   exact Kn.D Fm
  ·refine AW.dSG0 Fm 4 [1] [(10,AL a.rects_),(11,vi (lI a.rects_)),(12,vi 0)] [1] [] ?_
   refine AW.block (Kn.r Fm [(1,pt 1),(10,AL a.rects_),(11,vi (lI a.rects_)),(12,vi 0)] [(1,bx [.d (DL a.rects_)])] (by kernel_rfl) ?_)
   refine AW.loopF (E' := fun z=>[(1,pt 1),(10,AL a.rects_),(11,vi (lI a.rects_)),(12,vi z)]) (S' := fun z=>[(1,bx [.d (DL a.rects_)])]) (fun G b B e h=>?_) h
   refine AW.dSG0 Fm 1 [1,10,11,12] [(13,vb (decide (b<(lI a.rects_))))] [1] [] ?_
   refine AW.seq (AW.cN h (fun l h=>?_) (fun l h=>?_))
   ·refine AW.skip (AW.seq (AW.block ?_))
    obtain ⟨n,h⟩:=gS h
    refine AW.dSP Fm [.s,.s,.s,.s] [1,10,11,12] [(4,pt 4)] [1] [(4,bx [ci ((gl a.rects_ b.toNat).left_),ci ((gl a.rects_ b.toNat).low_),ci ((gl a.rects_ b.toNat).right_),ci ((gl a.rects_ b.toNat).high_)])] (cT n) ?_
    refine AW.seq ?_
    obtain ⟨w,q,h⟩:=bS h
    refine AW.dG Fm [.s,.k _,.s] (fun K=>K 1∧True) [1,10,11,12] [(18,vb (!w))] [1] [] ⟨KAt.CC (ref04_proper_spec q) Tryz.call124 [],⟨⟩⟩ ?_
    refine AW.cN h (fun m h=>?_) (fun m h=>?_)
    ·refine AW.dSG0 Fm 1 [] [(2,vb false)] [] [] ?_
     refine AW.ret ?_
     obtain rfl:=Option.some.inj h
     exact Kn.D Fm
    ·refine AW.skip ?_
     obtain ⟨o,h⟩:=gS h
     refine AW.dpN Fm [.s,.s] [1,10,11] [(12,vi (b+1))] [1] [] (cT (cT o)) ?_
     exact Kn.R Fm (e (b+1) h)
   ·exact AW.exit (Kn.R Fm (i () h))
theorem ref31_check_spec {F:Nat} {c:(List Scheme)} {a:(List Region)} {r:Int} (h:ref31_check F c a=some r) :
  FSpec Tryz.prog 60 [AL c,AL a] [] (vi r) []:=by
 refine FI Tryz.func60 prog_mixed prog_lay fun C Fm=>?_
 unfold ref31_check at h
 refine AW.dSG0 Fm 1 [0,1] [] [] [] ?_
 refine AW.seq (AW.seq ?_)
 obtain ⟨d,q,h⟩:=bS h
 refine AW.dG Fm [.s,.k _,.s,.s,.s,.s,.s] (fun K=>K 1∧True) [0,1] [(6,vi d.2)] [] [] ⟨KAt.CC (ref17_Check_spec q) Tryz.call27 [],⟨⟩⟩ ?_
 refine AW.dSG0 Fm 2 [0,1,6] [(14,vb (d.2 != (0:Int)))] [] [] ?_
 refine AW.cN h (fun j h=>?_) (fun j h=>?_)
 ·refine AW.dSG0 Fm 2 [] [(4,vi d.2)] [] [] ?_
  refine AW.ret ?_
  obtain rfl:=Option.some.inj h
  exact Kn.D Fm
 ·refine AW.skip (AW.seq (AW.dSG0 Fm 5 [1] [(20,vb ((lI a) != (lI c)))] [] [] ?_))
  refine AW.cN h (fun l h=>?_) (fun l h=>?_)
  ·refine AW.dSG0 Fm 1 [] [(4,vi 3)] [] [] ?_
   refine AW.ret ?_
   obtain rfl:=Option.some.inj h
   exact Kn.D Fm
  ·refine AW.skip (AW.dJ (r:=r) (fun z:Unit=>ref31_check_k1 F) [] (fun _=>[]) [] (fun _=>[]) (fun z h=>?_) (fun y i=>?_))
   ·refine AW.dSG0 Fm 1 [] [(4,vi 0)] [] [] ?_
    refine AW.ret ?_
    obtain rfl:=Option.some.inj h
    exact Kn.D Fm
   ·refine AW.dSG0 Fm 1 [1] [(7,vi 0)] [] [] ?_
    refine AW.block (Kn.r Fm [(1,AL a),(7,vi 0)] [] (by kernel_rfl) ?_)
    refine AW.loopF (E' := fun z=>[(1,AL a),(7,vi z)]) (S' := fun z=>[]) (fun A b w e h=>?_) h
    refine AW.seq (AW.dSG0 Fm 4 [1,7] [(24,vb (decide (b<(lI a))))] [] [] ?_)
    refine AW.cN h (fun m h=>?_) (fun m h=>?_)
    ·refine AW.skip (AW.seq (AW.block (AW.seq ?_)))
     obtain ⟨o,h⟩:=gS h
     obtain ⟨u,t,h⟩:=bS h
     refine AW.dG Fm [.s,.s,.s,.s,.k _,.s] (fun K=>_∧K 4∧True) [1,7] [(32,vb (!u))] [] [] ⟨o,KAt.CC (ref04_Valid_spec t) Tryz.call67 [],⟨⟩⟩ ?_
     refine AW.cN h (fun n h=>?_) (fun n h=>?_)
     ·refine AW.dSG0 Fm 1 [] [(4,vi 7)] [] [] ?_
      refine AW.ret ?_
      obtain rfl:=Option.some.inj h
      exact Kn.D Fm
     ·refine AW.skip ?_
      obtain ⟨p,h⟩:=gS h
      refine AW.dpN Fm [.s,.s,.s] [1] [(7,vi (b+1))] [] [] (cT (cT p)) ?_
      exact Kn.R Fm (e (b+1) h)
    ·exact AW.exit (Kn.R Fm (i () h))
theorem ref31_Excludes_spec {F:Nat} {a:Scheme} {b:Scheme} {r:Bool} (h:ref31_Excludes F a b=some r) :
  FSpec Tryz.prog 61 [gE a,gE b] [] (vb r) []:=by
 refine FI Tryz.func61 prog_mixed prog_lay fun C Fm=>?_
 unfold ref31_Excludes at h
 refine AW.dSG0 Fm 3 [] [(2,pt 2),(3,pt 3)] [] [(2,bx (gC a)),(3,bx (gC b))] ?_
 obtain ⟨c,h⟩:=gS h
 refine AW.dSP Fm [.s,.s,.s,.s,.s,.s,.s,.s,.s] [] [(4,vb ((band .i64 (a.excludes_.fdiv (2 ^ (min ((IntKind.wrap .u64 b.number_)).toNat (IntKind.bits .i64)))) (1:Int))==(1:Int)))] [] [] (cA (True.intro:True) (cT c)) ?_
 refine AW.ret ?_
 obtain rfl:=Option.some.inj h
 exact Kn.D Fm
theorem ref04_combine_spec {F:Nat} {a:Region} {b:Region} {i:Int} {r:Region×Int} (h:ref04_combine F a b i=some r) :
  FSpec Tryz.prog 97 [.v (.g [.d (DL a.rects_)]),.v (.g [.d (DL b.rects_)]),vi i] [] (.t [.g [.d (DL (α:=Rect) r.1.rects_)],.c (ci r.2)]) []:=by
 refine FI Tryz.func97 prog_mixed prog_lay fun C Fm=>?_
 unfold ref04_combine at h
 refine AW.dSG0 Fm 4 [2] [(3,pt 3),(4,pt 4),(6,pt 6)] [] [(3,bx [.d (DL a.rects_)]),(4,bx [.d (DL b.rects_)]),(6,bx [.fl 0 fun _=>[]])] ?_
 refine AW.seq (AW.dJ (r:=r) (fun z:Bool=>ref04_combine_k0 F a b i z) [2,3,4,6] (fun z=>[(15,vb z)]) [3,4,6] (fun _=>[]) (fun A h=>?_) (fun y j=>?_))
 ·refine AW.cN h (fun o h=>?_) (fun o h=>?_)
  ·refine AW.dSP Fm [.w (.v (.g [.d (DL (α:=Rect) [])])),.s,.s] [6] [(7,vi 7)] [] [(6,bx [.d (DL (α:=Rect) [])])] (cT (ALe.g ⟨CLe.fl .nil,⟨⟩⟩ : ALe (.v (.g [.fl 0 fun _=>[]])) (.v (.g [.d (DL (α:=Rect) [])])))) ?_
   refine AW.ret ?_
   obtain rfl:=Option.some.inj h
   exact Kn.D Fm
  ·refine AW.skip (AW.seq ?_)
   obtain ⟨E,q,h⟩:=bS h
   obtain ⟨n,u,h⟩:=bS h
   refine AW.dG Fm [.s,.s,.s,.s,.s,.k _,.k _,.s,.s,.s,.s] (fun K=>K 5∧K 6∧True) [6] [(7,vi n.2)] [] [(6,bx [.d (DL n.1.rects_)])] ⟨KAt.CC (ref04_Combine_spec q) Tryz.call74 [],KAt.CC (ref04_Bound_spec u) Tryz.call82 [],⟨⟩⟩ ?_
   refine AW.ret ?_
   obtain rfl:=Option.some.inj h
   exact Kn.D Fm
 ·obtain ⟨B,l,h⟩:=bS h
  rcases br_or h with ⟨e,h⟩|⟨e,h⟩
  ·refine AW.dG Fm [.s,.k _,.s,.w (vb true),.s,.s,.s,.s] (fun K=>K 1∧_∧True) [2,3,4,6] [(15,vb true)] [3,4,6] [] ⟨KAt.CC (ref04_Valid_spec l) Tryz.call67 [],ALe.bool e,⟨⟩⟩ ?_
   exact Kn.R Fm (j true h)
  ·obtain ⟨m,p,h⟩:=bS h
   refine AW.dG Fm [.s,.k _,.s,.w (vb false),.s,.k _,.s,.s] (fun K=>K 1∧_∧K 5∧True) [2,3,4,6] [(15,vb (!m))] [3,4,6] [] ⟨KAt.CC (ref04_Valid_spec l) Tryz.call67 [],ALe.bool e,KAt.CC (ref04_Valid_spec p) Tryz.call67 [],⟨⟩⟩ ?_
   exact Kn.R Fm (j (!m) h)
theorem ref04_Without_spec {F:Nat} {a:Region} {b:Region} {r:Region×Int} (h:ref04_Without F a b=some r) :
  FSpec Tryz.prog 45 [.v (.g [.d (DL a.rects_)]),.v (.g [.d (DL b.rects_)])] [] (.t [.g [.d (DL (α:=Rect) r.1.rects_)],.c (ci r.2)]) []:=by
 refine FI Tryz.func45 prog_mixed prog_lay fun C Fm=>?_
 unfold ref04_Without at h
 refine AW.dSG0 Fm 4 [] [(2,pt 2),(3,pt 3),(4,pt 4)] [] [(2,bx [.d (DL a.rects_)]),(3,bx [.d (DL b.rects_)]),(4,bx [.fl 0 fun _=>[]])] ?_
 refine AW.seq ?_
 obtain ⟨e,i,h⟩:=bS h
 refine AW.dG Fm [.s,.s,.k _,.s,.s,.s,.s] (fun K=>K 2∧True) [4] [(5,vi e.2)] [] [(4,bx [.d (DL e.1.rects_)])] ⟨KAt.CC (ref04_combine_spec i) Tryz.call97 [],⟨⟩⟩ ?_
 refine AW.ret ?_
 obtain rfl:=Option.some.inj h
 exact Kn.D Fm
theorem ref31_Assign_spec {F:Nat} {j:(List Scheme)} {b:(List Region)} {r:(List Region)×Int} (h:ref31_Assign F j b=some r) :
  FSpec Tryz.prog 20 [AL j,AL b] [] (.t [.c (.d (DL (α:=Region) r.1)),.c (ci r.2)]) []:=by
 refine FI Tryz.func20 prog_mixed prog_lay fun C Fm=>?_
 unfold ref31_Assign at h
 refine AW.dSG0 Fm 2 [0,1] [] [] [] ?_
 refine AW.seq (AW.seq ?_)
 obtain ⟨n,a0,h⟩:=bS h
 refine AW.dG Fm [.s,.s,.k _,.s] (fun K=>K 2∧True) [0,1] [(6,vi n)] [] [] ⟨KAt.CC (ref31_check_spec a0) Tryz.call60 [],⟨⟩⟩ ?_
 refine AW.dSG0 Fm 2 [0,1,6] [(17,vb (n != (0:Int)))] [] [] ?_
 refine AW.cN h (fun M h=>?_) (fun M h=>?_)
 ·refine AW.dSG0 Fm 3 [] [(4,.v (.c (.fl 0 fun _=>[]))),(5,vi n)] [] [] ?_
  refine AW.ret ?_
  obtain rfl:=Option.some.inj h
  refine Kn.r Fm [(4,.v (.c (.fl 0 fun _=>[]))),(5,vi n)] [] (by kernel_rfl) ?_
  refine Kn.wk [(4,AL (α:=Region) []),(5,vi n)] [] ⟨rfl,ALe.c (CLe.fl .nil),⟨rfl,ALe.c (CLe.refl _),⟨⟩⟩⟩ True.intro ?_
  exact Kn.D Fm
 ·refine AW.skip (AW.dSW Fm [.m] (fun K=>True) [0,1] [(7,ow 7)] [] [(7,AO (α:=Region) ([]:List Region))] True.intro [(7,.arr 1 (0) (fun _=>[]))] ⟨OLe.is ((Is.nil (α:=Region))),⟨⟩⟩ ?_)
  refine AW.dJ (r:=r) (fun z:(List Region)=>ref31_Assign_k5 F z) [7] (fun _=>[]) [] (fun z=>[(7,AO z)]) (fun A h=>?_) (fun o0 L=>?_)
  ·refine AW.dSG0 Fm 3 [] [(4,ow 7),(5,vi 0)] [7] [] ?_
   refine AW.ret ?_
   obtain rfl:=Option.some.inj h
   refine Kn.r Fm [(4,ow 7),(5,vi 0)] [(7,AO A)] (by kernel_rfl) ?_
   refine Kn.frz [(4,AL A),(5,vi 0)] [] (by kernel_rfl) (by kernel_rfl) (by kernel_rfl) ?_
   exact Kn.D Fm
  ·refine AW.dSG0 Fm 1 [0,1,7] [(8,vi 0)] [7] [] ?_
   refine AW.block (Kn.r Fm [(0,AL j),(1,AL b),(7,ow 7),(8,vi 0)] [(7,AO ([]:List Region))] (by kernel_rfl) ?_)
   refine AW.loopF (E' := fun z=>[(0,AL j),(1,AL b),(7,ow 7),(8,vi z.1)]) (S' := fun z=>[(7,AO z.2)]) (fun p z j0 E h=>?_) h
   obtain ⟨a,i⟩:=z
   refine AW.seq (AW.dSG0 Fm 4 [0,1,7,8] [(22,vb (decide (a<(lI j))))] [7] [] ?_)
   refine AW.cN h (fun N h=>?_) (fun N h=>?_)
   ·refine AW.skip (AW.dJ (r:=r) (fun z:(List Region)=>ref31_Assign_k4 F a p z) [0,1,8] (fun _=>[(7,ow 60)]) [] (fun z=>[(60,AO z)]) (fun e0 h=>?_) (fun n0 I=>?_))
    ·obtain ⟨Z,h⟩:=gS h
     refine AW.dpN Fm [.s,.s,.s] [0,1,7] [(8,vi (a+1))] [60] [] (cT (cT Z)) ?_
     exact Kn.RE Fm [(7,60)] (E ((a+1),e0) h)
    ·refine AW.block ?_
     obtain ⟨U,h⟩:=gS h
     refine AW.dSP Fm [.s,.s,.s,.s,.s,.s] [0,1,7,8] [(9,pt 9)] [7] [(9,bx [.d (DL (α:=Rect) (gl b a.toNat).rects_)])] (cT U) ?_
     refine AW.dJ (r:=r) (fun z:(List Rect)=>ref31_Assign_k3 F a i p z) [0,1,7,8,9] (fun _=>[]) [7] (fun z=>[(9,bx [.d (DL z)])]) (fun l h=>?_) (fun m0 H=>?_)
     ·obtain ⟨Y,h⟩:=gS h
      refine AW.dWP Fm [.s,.s,.w (AL [(⟨l⟩ : Region)]),.s,.s] [0,1,8] [(7,ow 60)] [] [(60,AO (α:=Region) (i++([(⟨l⟩ : Region)]:List Region)))] (cA (lit1 (⟨l⟩ : Region)) (cT (cA Y (cT (lfl ([(⟨l⟩ : Region)]:List Region)))))) [(60,rAp i ([(⟨l⟩ : Region)]:List Region))] ⟨oAp,⟨⟩⟩ ?_
      exact Kn.R Fm (I (i++([(⟨l⟩ : Region)]:List Region)) h)
     ·refine AW.dSG0 Fm 1 [0,1,7,8,9] [(10,vi 0)] [7,9] [] ?_
      refine AW.block (Kn.r Fm [(0,AL j),(1,AL b),(7,ow 7),(8,vi a),(9,pt 9),(10,vi 0)] [(7,AO i),(9,bx [.d (DL ((gl b a.toNat).rects_))])] (by kernel_rfl) ?_)
      refine AW.loopF (E' := fun z=>[(0,AL j),(1,AL b),(7,ow 7),(8,vi a),(9,pt 9),(10,vi z.1)]) (S' := fun z=>[(7,AO i),(9,bx [.d (DL z.2)])]) (fun B z k0 G h=>?_) h
      obtain ⟨o,y⟩:=z
      refine AW.seq (AW.dSG0 Fm 3 [0,1,7,8,9,10] [(31,vb (decide (o<a)))] [7,9] [] ?_)
      refine AW.cN h (fun O h=>?_) (fun O h=>?_)
      ·refine AW.skip (AW.dJ (r:=r) (fun z:(List Rect)=>ref31_Assign_k2 F o B z) [0,1,7,8,9,10] (fun _=>[]) [7] (fun z=>[(9,bx [.d (DL z)])]) (fun d0 h=>?_) (fun l0 q=>?_))
       ·obtain ⟨X,h⟩:=gS h
        refine AW.dpN Fm [.s,.s,.s] [0,1,7,8,9] [(10,vi (o+1))] [7,9] [] (cT (cT X)) ?_
        exact Kn.R Fm (G ((o+1),d0) h)
       ·refine AW.block (AW.seq (AW.seq ?_))
        obtain ⟨V,W,h⟩:=gS2 h
        obtain ⟨i0,b0,h⟩:=bS h
        refine AW.dG Fm [.s,.s,.s,.s,.s,.s,.s,.s,.k _,.s] (fun K=>_∧_∧K 8∧True) [0,1,7,8,9,10] [(43,vb (!i0))] [7,9] [] ⟨V,W,KAt.CC (ref31_Excludes_spec b0) Tryz.call61 [],⟨⟩⟩ ?_
        refine AW.cN h (fun P h=>?_) (fun P h=>?_)
        ·exact AW.exit (Kn.R Fm (q y h))
        ·refine AW.skip (AW.seq ?_)
         obtain ⟨u,h⟩:=gS h
         obtain ⟨e,c0,h⟩:=bS h
         refine AW.dG Fm [.s,.s,.s,.s,.s,.k _,.s,.s,.s,.s,.s,.s] (fun K=>_∧_∧K 5∧True) [0,1,7,8,9,10] [(11,pt 11),(12,vi e.2)] [7,9] [(11,bx [.d (DL e.1.rects_)])] ⟨u,(toNat_lt u),KAt.CC (ref04_Without_spec c0) Tryz.call45 [],⟨⟩⟩ ?_
         refine AW.seq (AW.dSG0 Fm 2 [0,1,7,8,9,10,11,12] [(54,vb (e.2 != (0:Int)))] [7,9,11] [] ?_)
         refine AW.cN h (fun T h=>?_) (fun T h=>?_)
         ·refine AW.dSG0 Fm 3 [] [(4,.v (.c (.fl 0 fun _=>[]))),(5,vi e.2)] [] [] ?_
          refine AW.ret ?_
          obtain rfl:=Option.some.inj h
          refine Kn.r Fm [(4,.v (.c (.fl 0 fun _=>[]))),(5,vi e.2)] [] (by kernel_rfl) ?_
          refine Kn.wk [(4,AL (α:=Region) []),(5,vi e.2)] [] ⟨rfl,ALe.c (CLe.fl .nil),⟨rfl,ALe.c (CLe.refl _),⟨⟩⟩⟩ True.intro ?_
          exact Kn.D Fm
         ·refine AW.skip (AW.dG0 Fm 2 [0,1,7,8,9,10] [] [7] [(9,bx [.d (DL e.1.rects_)])] ?_)
          exact Kn.R Fm (q e.1.rects_ h)
      ·exact AW.exit (Kn.R Fm (H y h))
   ·exact AW.exit (Kn.R Fm (L i h))
theorem ref04_All_spec {F:Nat} {a:(List Region)} {b:(List Region)} {r:Bool} (h:ref04_All F a b=some r) :
  FSpec Tryz.prog 21 [AL a,AL b] [] (vb r) []:=by
 refine FI Tryz.func21 prog_mixed prog_lay fun C Fm=>?_
 unfold ref04_All at h
 refine AW.dSG0 Fm 1 [0,1] [] [] [] ?_
 refine AW.seq (AW.dSG0 Fm 5 [0,1] [(10,vb ((lI a) != (lI b)))] [] [] ?_)
 refine AW.cN h (fun i h=>?_) (fun i h=>?_)
 ·refine AW.dSG0 Fm 1 [] [(4,vb false)] [] [] ?_
  refine AW.ret ?_
  obtain rfl:=Option.some.inj h
  exact Kn.D Fm
 ·refine AW.skip (AW.dJ (r:=r) (fun z:Unit=>ref04_All_k1 F) [] (fun _=>[]) [] (fun _=>[]) (fun z h=>?_) (fun u e=>?_))
  ·refine AW.dSG0 Fm 1 [] [(4,vb true)] [] [] ?_
   refine AW.ret ?_
   obtain rfl:=Option.some.inj h
   exact Kn.D Fm
  ·refine AW.dSG0 Fm 3 [0,1] [(12,vi (lI a)),(13,vi 0)] [] [] ?_
   refine AW.block (Kn.r Fm [(0,AL a),(1,AL b),(12,vi (lI a)),(13,vi 0)] [] (by kernel_rfl) ?_)
   refine AW.loopF (E' := fun z=>[(0,AL a),(1,AL b),(12,vi (lI a)),(13,vi z)]) (S' := fun z=>[]) (fun w c t d h=>?_) h
   refine AW.dSG0 Fm 1 [0,1,12,13] [(14,vb (decide (c<(lI a))))] [] [] ?_
   refine AW.seq (AW.cN h (fun j h=>?_) (fun j h=>?_))
   ·refine AW.skip (AW.seq (AW.block (AW.dSG0 Fm 2 [0,1,12,13] [(5,vi c)] [] [] ?_)))
    refine AW.seq ?_
    obtain ⟨m,n,h⟩:=gS2 h
    obtain ⟨q,p,h⟩:=bS h
    refine AW.dG Fm [.s,.s,.s,.s,.s,.s,.s,.s,.k _,.s] (fun K=>_∧_∧K 8∧True) [0,1,12,13] [(25,vb (!q))] [] [] ⟨m,n,KAt.CC (ref04_Same_spec p) Tryz.call47 [],⟨⟩⟩ ?_
    refine AW.cN h (fun l h=>?_) (fun l h=>?_)
    ·refine AW.dSG0 Fm 1 [] [(4,vb false)] [] [] ?_
     refine AW.ret ?_
     obtain rfl:=Option.some.inj h
     exact Kn.D Fm
    ·refine AW.skip ?_
     obtain ⟨o,h⟩:=gS h
     refine AW.dpN Fm [.s,.s] [0,1,12] [(13,vi (c+1))] [] [] (cT (cT o)) ?_
     exact Kn.R Fm (d (c+1) h)
   ·exact AW.exit (Kn.R Fm (e () h))
theorem ref04_Meets_spec {F:Nat} {i:Region} {j:Region} {r:Bool} (h:ref04_Meets F i j=some r) :
  FSpec Tryz.prog 39 [.v (.g [.d (DL i.rects_)]),.v (.g [.d (DL j.rects_)])] [] (vb r) []:=by
 refine FI Tryz.func39 prog_mixed prog_lay fun C Fm=>?_
 unfold ref04_Meets at h
 refine AW.dSG0 Fm 3 [] [(2,pt 2),(3,pt 3)] [] [(2,bx [.d (DL i.rects_)]),(3,bx [.d (DL j.rects_)])] ?_
 refine AW.dJ (r:=r) (fun z:Bool=>ref04_Meets_k0 F z) [] (fun z=>[(4,vb z)]) [] (fun _=>[]) (fun p h=>?_) (fun o b=>?_)
 ·refine AW.ret ?_
  obtain rfl:=Option.some.inj h
  exact Kn.D Fm
 ·obtain ⟨q,e,h⟩:=bS h
  rcases br_or h with ⟨a,h⟩|⟨a,h⟩
  ·obtain ⟨t,l,h⟩:=bS h
   rcases br_or h with ⟨c,h⟩|⟨c,h⟩
   ·obtain ⟨m,n,h⟩:=bS h
    refine AW.dG Fm [.s,.k _,.w (vb true),.s,.k _,.s,.w (vb true),.s,.s,.s,.s,.k _,.s,.s,.s,.s] (fun K=>K 1∧_∧K 4∧_∧K 11∧True) [] [(4,vb (decide ((0:Int)<(lI m))))] [] [] ⟨KAt.CC (ref04_Valid_spec e) Tryz.call67 [],ALe.bool a,KAt.CC (ref04_Valid_spec l) Tryz.call67 [],ALe.bool c,KAt.CC (ref04_Combine_spec n) Tryz.call74 [],⟨⟩⟩ ?_
    exact Kn.R Fm (b (decide ((0:Int)<(lI m))) h)
   ·refine AW.dG Fm [.s,.k _,.w (vb true),.s,.k _,.s,.w (vb false),.s,.s,.s,.s,.s,.s,.s,.s,.s] (fun K=>K 1∧_∧K 4∧_∧True) [] [(4,vb false)] [] [] ⟨KAt.CC (ref04_Valid_spec e) Tryz.call67 [],ALe.bool a,KAt.CC (ref04_Valid_spec l) Tryz.call67 [],ALe.bool c,⟨⟩⟩ ?_
    exact Kn.R Fm (b false h)
  ·refine AW.dG Fm [.s,.k _,.w (vb false),.s,.s,.s,.s,.s,.s,.s,.s,.s,.s,.s,.s,.s] (fun K=>K 1∧_∧True) [] [(4,vb false)] [] [] ⟨KAt.CC (ref04_Valid_spec e) Tryz.call67 [],ALe.bool a,⟨⟩⟩ ?_
   exact Kn.R Fm (b false h)
theorem ref31_Once_spec {F:Nat} {i:(List Scheme)} {b:(List Region)} {r:Int×Int×Bool×Int} (h:ref31_Once F i b=some r) :
  FSpec Tryz.prog 23 [AL i,AL b] [] (.t [.c (ci r.1),.c (ci r.2.1),.c (.d (.bool r.2.2.1)),.c (ci r.2.2.2)]) []:=by
 refine FI Tryz.func23 prog_mixed prog_lay fun C Fm=>?_
 unfold ref31_Once at h
 refine AW.dSG0 Fm 4 [0,1] [] [] [] ?_
 refine AW.seq (AW.seq ?_)
 obtain ⟨l,V,h⟩:=bS h
 refine AW.dG Fm [.s,.s,.k _,.s] (fun K=>K 2∧True) [0,1] [(8,vi l)] [] [] ⟨KAt.CC (ref31_check_spec V) Tryz.call60 [],⟨⟩⟩ ?_
 refine AW.dSG0 Fm 2 [0,1,8] [(15,vb (l != (0:Int)))] [] [] ?_
 refine AW.cN h (fun H h=>?_) (fun H h=>?_)
 ·refine AW.dSG0 Fm 5 [] [(4,vi 0),(5,vi 0),(6,vb false),(7,vi l)] [] [] ?_
  refine AW.ret ?_
  obtain rfl:=Option.some.inj h
  exact Kn.D Fm
 ·refine AW.skip (AW.dJ (r:=r) (fun z:Unit=>ref31_Once_k4 F) [] (fun _=>[]) [] (fun _=>[]) (fun z h=>?_) (fun b0 G=>?_))
  ·refine AW.dSG0 Fm 4 [] [(4,vi 0),(5,vi 0),(6,vb true),(7,vi 0)] [] [] ?_
   refine AW.ret ?_
   obtain rfl:=Option.some.inj h
   exact Kn.D Fm
  ·refine AW.dSG0 Fm 1 [0,1] [(9,vi 0)] [] [] ?_
   refine AW.block (Kn.r Fm [(0,AL i),(1,AL b),(9,vi 0)] [] (by kernel_rfl) ?_)
   refine AW.loopF (E' := fun z=>[(0,AL i),(1,AL b),(9,vi z)]) (S' := fun z=>[]) (fun u a X A h=>?_) h
   refine AW.seq (AW.dSG0 Fm 4 [0,1,9] [(20,vb (decide (a<(lI i))))] [] [] ?_)
   refine AW.cN h (fun I h=>?_) (fun I h=>?_)
   ·refine AW.skip (AW.dJ (r:=r) (fun z:Unit=>ref31_Once_k3 F a u) [0,1,9] (fun _=>[]) [] (fun _=>[]) (fun z h=>?_) (fun a0 E=>?_))
    ·obtain ⟨U,h⟩:=gS h
     refine AW.dpN Fm [.s,.s,.s] [0,1] [(9,vi (a+1))] [] [] (cT (cT U)) ?_
     exact Kn.R Fm (A (a+1) h)
    ·refine AW.block ?_
     obtain ⟨N,h⟩:=gS h
     refine AW.dSP Fm [.s,.s,.s] [0,1,9] [(10,vi (a+1))] [] [] (cT (cT N)) ?_
     refine AW.block (Kn.r Fm [(0,AL i),(1,AL b),(9,vi a),(10,vi (a+1))] [] (by kernel_rfl) ?_)
     refine AW.loopF (E' := fun z=>[(0,AL i),(1,AL b),(9,vi a),(10,vi z)]) (S' := fun z=>[]) (fun y e Y B h=>?_) h
     refine AW.seq (AW.dSG0 Fm 4 [0,1,9,10] [(28,vb (decide (e<(lI i))))] [] [] ?_)
     refine AW.cN h (fun L h=>?_) (fun L h=>?_)
     ·refine AW.skip (AW.seq (AW.block (AW.dJ (r:=r) (fun z:Bool=>ref31_Once_k2 F a e y z) [0,1,9,10] (fun z=>[(50,vb z)]) [] (fun _=>[]) (fun c0 h=>?_) (fun Z n=>?_))))
      ·refine AW.cN h (fun M h=>?_) (fun M h=>?_)
       ·refine AW.dSG0 Fm 6 [] [(4,vi a),(5,vi e),(6,vb false),(7,vi 0)] [] [] ?_
        refine AW.ret ?_
        obtain rfl:=Option.some.inj h
        exact Kn.D Fm
       ·refine AW.skip ?_
        obtain ⟨T,h⟩:=gS h
        refine AW.dpN Fm [.s,.s,.s] [0,1,9] [(10,vi (e+1))] [] [] (cT (cT T)) ?_
        exact Kn.R Fm (B (e+1) h)
      ·obtain ⟨o,p,h⟩:=gS2 h
       obtain ⟨d0,q,h⟩:=bS h
       rcases br_or h with ⟨j,h⟩|⟨j,h⟩
       ·obtain ⟨O,P,h⟩:=gS2 h
        obtain ⟨m,W,h⟩:=bS h
        refine AW.dG Fm [.s,.s,.s,.s,.s,.s,.s,.s,.k _,.w (vb true),.s,.s,.s,.s,.s,.s,.s,.s,.k _,.s] (fun K=>_∧_∧K 8∧_∧_∧_∧K 18∧True) [0,1,9,10] [(41,AL b),(42,vi a),(43,.v (.c (.elm [DL (α:=Rect) (gl b a.toNat).rects_]))),(44,.v (.g [.d (DL (α:=Rect) (gl b a.toNat).rects_)])),(45,AL b),(46,vi e),(47,.v (.c (.elm [DL (α:=Rect) (gl b e.toNat).rects_]))),(48,.v (.g [.d (DL (α:=Rect) (gl b e.toNat).rects_)])),(49,vb m),(50,vb m)] [] [] ⟨o,p,KAt.CC (ref31_Excludes_spec q) Tryz.call61 [],ALe.bool j,O,P,KAt.CC (ref04_Meets_spec W) Tryz.call39 [],⟨⟩⟩ ?_
        exact Kn.R Fm (n m h)
       ·refine AW.dG Fm [.s,.s,.s,.s,.s,.s,.s,.s,.k _,.w (vb false),.s,.s,.s,.s,.s,.s,.s,.s,.s,.s] (fun K=>_∧_∧K 8∧_∧True) [0,1,9,10] [(50,vb false)] [] [] ⟨o,p,KAt.CC (ref31_Excludes_spec q) Tryz.call61 [],ALe.bool j,⟨⟩⟩ ?_
        exact Kn.R Fm (n false h)
     ·exact AW.exit (Kn.R Fm (E () h))
   ·exact AW.exit (Kn.R Fm (G () h))
theorem ref04_Size_spec {F:Nat} {a:(List Rect)} {r:Int} (h:ref04_Size F a=some r) :
  FSpec Tryz.prog 68 [AL a] [] (vi r) []:=by
 refine FI Tryz.func68 prog_mixed prog_lay fun C Fm=>?_
 unfold ref04_Size at h
 refine AW.dSG0 Fm 1 [0] [] [] [] ?_
 refine AW.dSG0 Fm 1 [0] [(3,vi 0)] [] [] ?_
 refine AW.dJ (r:=r) (fun z:Int=>ref04_Size_k1 F z) [] (fun z=>[(3,vi z)]) [] (fun _=>[]) (fun p h=>?_) (fun t e=>?_)
 ·refine AW.dSG0 Fm 2 [] [(2,vi p)] [] [] ?_
  refine AW.ret ?_
  obtain rfl:=Option.some.inj h
  exact Kn.D Fm
 ·refine AW.dSG0 Fm 3 [3] [(6,AL a),(7,vi (lI a)),(8,vi 0)] [] [] ?_
  refine AW.block (Kn.r Fm [(3,vi 0),(6,AL a),(7,vi (lI a)),(8,vi 0)] [] (by kernel_rfl) ?_)
  refine AW.loopF (E' := fun z=>[(3,vi z.1),(6,AL a),(7,vi (lI a)),(8,vi z.2)]) (S' := fun z=>[]) (fun u z q d h=>?_) h
  obtain ⟨c,b⟩:=z
  refine AW.dSG0 Fm 1 [3,6,7,8] [(9,vb (decide (b<(lI a))))] [] [] ?_
  refine AW.seq (AW.cN h (fun i h=>?_) (fun i h=>?_))
  ·refine AW.skip (AW.seq (AW.block ?_))
   obtain ⟨j,h⟩:=gS h
   refine AW.dSP Fm [.s,.s,.s,.s] [3,6,7,8] [(5,pt 5)] [] [(5,bx [ci ((gl a b.toNat).left_),ci ((gl a b.toNat).low_),ci ((gl a b.toNat).right_),ci ((gl a b.toNat).high_)])] (cT j) ?_
   obtain ⟨k,l,m,n,h⟩:=gS4 h
   refine AW.dpN Fm [.s,.s,.s,.s,.s,.s,.s,.s,.s,.s,.s,.s,.s,.s] [6,7,8] [(3,vi (c+((((gl a b.toNat).right_)-((gl a b.toNat).left_))*(((gl a b.toNat).high_)-((gl a b.toNat).low_)))))] [] [] (cA (cT k) (cA (cT l) (cA (cT m) (cT (cT n))))) ?_
   obtain ⟨o,h⟩:=gS h
   refine AW.dpN Fm [.s,.s] [3,6,7] [(8,vi (b+1))] [] [] (cT (cT o)) ?_
   exact Kn.R Fm (d ((c+((((gl a b.toNat).right_)-((gl a b.toNat).left_))*(((gl a b.toNat).high_)-((gl a b.toNat).low_)))),(b+1)) h)
  ·exact AW.exit (Kn.R Fm (e c h))
theorem ref04_Area_spec {F:Nat} {a:Region} {r:Int} (h:ref04_Area F a=some r) :
  FSpec Tryz.prog 29 [.v (.g [.d (DL a.rects_)])] [] (vi r) []:=by
 refine FI Tryz.func29 prog_mixed prog_lay fun C Fm=>?_
 unfold ref04_Area at h
 refine AW.dSG0 Fm 2 [] [(1,pt 1)] [] [(1,bx [.d (DL a.rects_)])] ?_
 refine AW.seq (AW.seq ?_)
 obtain ⟨i,c,h⟩:=bS h
 refine AW.dG Fm [.s,.k _,.s] (fun K=>K 1∧True) [1] [(5,vb (!i))] [1] [] ⟨KAt.CC (ref04_Valid_spec c) Tryz.call67 [],⟨⟩⟩ ?_
 refine AW.cN h (fun b h=>?_) (fun b h=>?_)
 ·refine AW.dSG0 Fm 1 [] [(2,vi 0)] [] [] ?_
  refine AW.ret ?_
  obtain rfl:=Option.some.inj h
  exact Kn.D Fm
 ·refine AW.skip (AW.seq ?_)
  obtain ⟨j,e,h⟩:=bS h
  refine AW.dG Fm [.s,.s,.k _,.s] (fun K=>K 2∧True) [] [(2,vi j)] [] [] ⟨KAt.CC (ref04_Size_spec e) Tryz.call68 [],⟨⟩⟩ ?_
  refine AW.ret ?_
  obtain rfl:=Option.some.inj h
  exact Kn.D Fm
theorem ref31_Lost_spec {F:Nat} {i:(List Scheme)} {l:(List Region)} {r:(List Int)×Int} (h:ref31_Lost F i l=some r) :
  FSpec Tryz.prog 25 [AL i,AL l] [] (.t [.c (.d (DL (α:=Int) r.1)),.c (ci r.2)]) []:=by
 refine FI Tryz.func25 prog_mixed prog_lay fun C Fm=>?_
 unfold ref31_Lost at h
 refine AW.dSG0 Fm 2 [0,1] [] [] [] ?_
 refine AW.seq ?_
 obtain ⟨a,I,h⟩:=bS h
 refine AW.dG Fm [.s,.s,.k _,.s,.s,.s,.s,.s] (fun K=>K 2∧True) [0,1] [(6,AL a.1),(7,vi a.2)] [] [] ⟨KAt.CC (ref31_Assign_spec I) Tryz.call20 [],⟨⟩⟩ ?_
 refine AW.seq (AW.dSG0 Fm 2 [0,1,6,7] [(17,vb (a.2 != (0:Int)))] [] [] ?_)
 refine AW.cN h (fun u h=>?_) (fun u h=>?_)
 ·refine AW.dSG0 Fm 3 [] [(4,.v (.c (.fl 0 fun _=>[]))),(5,vi a.2)] [] [] ?_
  refine AW.ret ?_
  obtain rfl:=Option.some.inj h
  refine Kn.r Fm [(4,.v (.c (.fl 0 fun _=>[]))),(5,vi a.2)] [] (by kernel_rfl) ?_
  refine Kn.wk [(4,AL (α:=Int) []),(5,vi a.2)] [] ⟨rfl,ALe.c (CLe.fl .nil),⟨rfl,ALe.c (CLe.refl _),⟨⟩⟩⟩ True.intro ?_
  exact Kn.D Fm
 ·refine AW.skip (AW.dSW Fm [.m] (fun K=>True) [0,1,6] [(8,ow 8)] [] [(8,AO (α:=Int) ([]:List Int))] True.intro [(8,.arr 1 (0) (fun _=>[]))] ⟨OLe.is ((Is.nil (α:=Int))),⟨⟩⟩ ?_)
  refine AW.dJ (r:=r) (fun z:(List Int)=>ref31_Lost_k1 F z) [8] (fun _=>[]) [] (fun z=>[(8,AO z)]) (fun o h=>?_) (fun O q=>?_)
  ·refine AW.dSG0 Fm 3 [] [(4,ow 8),(5,vi 0)] [8] [] ?_
   refine AW.ret ?_
   obtain rfl:=Option.some.inj h
   refine Kn.r Fm [(4,ow 8),(5,vi 0)] [(8,AO o)] (by kernel_rfl) ?_
   refine Kn.frz [(4,AL o),(5,vi 0)] [] (by kernel_rfl) (by kernel_rfl) (by kernel_rfl) ?_
   exact Kn.D Fm
  ·refine AW.dSG0 Fm 1 [0,1,6,8] [(9,vi 0)] [8] [] ?_
   refine AW.block (Kn.r Fm [(0,AL i),(1,AL l),(6,AL a.1),(8,ow 8),(9,vi 0)] [(8,AO ([]:List Int))] (by kernel_rfl) ?_)
   refine AW.loopF (E' := fun z=>[(0,AL i),(1,AL l),(6,AL a.1),(8,ow 8),(9,vi z.1)]) (S' := fun z=>[(8,AO z.2)]) (fun P z N p h=>?_) h
   obtain ⟨n,j⟩:=z
   refine AW.seq (AW.dSG0 Fm 4 [0,1,6,8,9] [(22,vb (decide (n<(lI i))))] [8] [] ?_)
   refine AW.cN h (fun y h=>?_) (fun y h=>?_)
   ·refine AW.skip (AW.seq (AW.block ?_))
    obtain ⟨A,h⟩:=gS h
    obtain ⟨b,L,h⟩:=bS h
    obtain ⟨B,h⟩:=gS h
    obtain ⟨e,M,h⟩:=bS h
    obtain ⟨E,G,h⟩:=gS2 h
    refine AW.dGW Fm [.s,.s,.s,.s,.s,.k _,.s,.s,.s,.s,.k _,.s,.w (AL (α:=Int) ([(b-e)]:List Int)),.s,.s] (fun K=>_∧K 5∧_∧K 10∧(_∧True)∧(ALe (.v (.c (.d (.lst 1 (litF 1 [.int .i64 (b-e)]))))) (AL (α:=Int) ([(b-e)]:List Int)))∧(_∧_∧True)∧True) [0,1,6,9] [(8,ow 38)] [] [(38,AO (α:=Int) (j++([(b-e)]:List Int)))] ⟨A,KAt.CC (ref04_Area_spec L) Tryz.call29 [],B,KAt.CC (ref04_Area_spec M) Tryz.call29 [],⟨E,⟨⟩⟩,ALe.lst (.lit ([(b-e)]:List Int) (by kernel_rfl)),⟨G,lfl ([(b-e)]:List Int),⟨⟩⟩,⟨⟩⟩ [(38,rAp j ([(b-e)]:List Int))] ⟨oAp,⟨⟩⟩ ?_
    obtain ⟨H,h⟩:=gS h
    refine AW.dpN Fm [.s,.s,.s] [0,1,6,8] [(9,vi (n+1))] [38] [] (cT (cT H)) ?_
    exact Kn.RE Fm [(8,38)] (p ((n+1),(j++([(b-e)]:List Int))) h)
   ·exact AW.exit (Kn.R Fm (q j h))
theorem law31_ExclusionAnswers_spec {F:Nat} {T:(List Int)} {n:(List Scheme)} {i:(List Region)} {r:Bool} (h:law31_ExclusionAnswers F T n i=some r) :
  FSpec Tryz.prog 3 [AL T,AL n,AL i] [] (vb r) []:=by
 refine FI Tryz.func3 prog_mixed prog_lay fun C Fm=>?_
 unfold law31_ExclusionAnswers at h
 refine AW.dSG0 Fm 1 [0,1,2] [] [] [] ?_
 refine AW.seq (AW.dJ (r:=r) (fun z:Bool=>law31_ExclusionAnswers_k0 F T n i z) [0,1,2] (fun z=>[(36,vb z)]) [] (fun _=>[]) (fun d1 h=>?_) (fun V0 Y=>?_))
 ·refine AW.cN h (fun j0 h=>?_) (fun j0 h=>?_)
  ·refine AW.seq ?_
   obtain ⟨R0,w0,h⟩:=bS h
   refine AW.dG Fm [.k _,.s] (fun K=>K 0∧True) [] [(6,vb R0)] [] [] ⟨KAt.CC (law31_awake_spec w0) Tryz.call13 [],⟨⟩⟩ ?_
   refine AW.ret ?_
   obtain rfl:=Option.some.inj h
   exact Kn.D Fm
  ·refine AW.skip (AW.seq ?_)
   obtain ⟨T0,y0,h⟩:=bS h
   refine AW.dG Fm [.s,.k _,.s] (fun K=>K 1∧True) [1,2] [(7,pt 39)] [] [(39,bx (gC T0))] ⟨KAt.CC (keep_New_spec y0) Tryz.call14 [(100,39)],⟨⟩⟩ ?_
   refine AW.seq ?_
   obtain ⟨o,A0,h⟩:=bS h
   refine AW.dG Fm [.s,.k _,.s] (fun K=>K 1∧True) [1,2,7] [(8,AL o.2)] [] [(39,bx (gC o.1))] ⟨KAt.CC (second_Schemes_spec A0) Tryz.call15 [(0,39)],⟨⟩⟩ ?_
   refine AW.seq ?_
   obtain ⟨e,B0,h⟩:=bS h
   refine AW.dG Fm [.s,.s,.k _,.s] (fun K=>K 2∧True) [1,2,7,8] [(9,AL e.2)] [] [(39,bx (gC e.1))] ⟨KAt.CC (law31_regions_spec B0) Tryz.call16 [(0,39)],⟨⟩⟩ ?_
   obtain ⟨p0,h⟩:=gS h
   refine AW.dSV Fm [.m,.s,.s,.s] [1,2,7,8,9] [(10,ow 47)] [39] [(47,AO (α:=Region) (([]:List Region)++e.2))] (cT (cA p0 (cT (lfl e.2)))) [(47,rA0 e.2)] ⟨oA0,⟨⟩⟩ ?_
   refine AW.seq ?_
   obtain ⟨j,D0,h⟩:=bS h
   obtain ⟨l,E0,h⟩:=bS h
   obtain ⟨P,h⟩:=gS h
   refine AW.dGW Fm [.s,.s,.s,.s,.k _,.s,.k _,.s,.s] (fun K=>K 4∧K 6∧_∧_∧True) [1,2,8,9,10] [] [] [(47,AO (α:=Region) (List.set (([]:List Region)++e.2) j.2.toNat l.2))] ⟨KAt.CC (keep_Tape_Next_spec D0) Tryz.call18 [(0,39)],KAt.CC (keep_Tape_Broken_spec E0) Tryz.call17 [(0,39)],P,(toNat_lt P),⟨⟩⟩ [(47,rSt (([]:List Region)++e.2) j.2.toNat 0 [DL l.2.rects_])] ⟨oSt (toNat_lt P),⟨⟩⟩ ?_
   refine AW.dJ (r:=r) (fun z:Unit=>law31_ExclusionAnswers_k7 F) [] (fun _=>[]) [] (fun _=>[]) (fun z h=>?_) (fun c1 i0=>?_)
   ·refine AW.seq ?_
    obtain ⟨U0,P0,h⟩:=bS h
    refine AW.dG Fm [.k _,.s] (fun K=>K 0∧True) [] [(6,vb U0)] [] [] ⟨KAt.CC (law31_awake_spec P0) Tryz.call13 [],⟨⟩⟩ ?_
    refine AW.ret ?_
    obtain rfl:=Option.some.inj h
    exact Kn.D Fm
   ·refine AW.seq (Kn.r Fm [(1,AL n),(2,AL i),(8,AL o.2),(9,AL e.2),(10,ow 47)] [(47,AO (α:=Region) (List.set (([]:List Region)++e.2) j.2.toNat l.2))] (by kernel_rfl) ?_)
    refine Kn.frz [(1,AL n),(2,AL i),(8,AL o.2),(9,AL e.2),(10,AL (α:=Region) (List.set (([]:List Region)++e.2) j.2.toNat l.2))] [] (by kernel_rfl) (by kernel_rfl) (by kernel_rfl) ?_
    refine AW.dpN Fm [.s,.s,.s,.w (AL (α:=(List Region)) ([e.2,(List.set (([]:List Region)++e.2) j.2.toNat l.2),i]:List (List Region))),.s,.s] [1,8] [(59,AL (α:=(List Region)) ([e.2,(List.set (([]:List Region)++e.2) j.2.toNat l.2),i]:List (List Region))),(60,vi ((List.length ([e.2,(List.set (([]:List Region)++e.2) j.2.toNat l.2),i]:List (List Region)):Nat):Int)),(61,vi 0)] [] [] (cT (ALe.lst (.lit ([e.2,(List.set (([]:List Region)++e.2) j.2.toNat l.2),i]:List (List Region)) (by kernel_rfl)):ALe (.v (.c (.d (.lst 3 (litF 1 [DL e.2,DL (α:=Region) (List.set (([]:List Region)++e.2) j.2.toNat l.2),DL i]))))) (AL (α:=(List Region)) ([e.2,(List.set (([]:List Region)++e.2) j.2.toNat l.2),i]:List (List Region))))) ?_
    refine AW.block (Kn.r Fm [(1,AL n),(8,AL o.2),(59,AL (α:=(List Region)) ([e.2,(List.set (([]:List Region)++e.2) j.2.toNat l.2),i]:List (List Region))),(60,vi ((List.length ([e.2,(List.set (([]:List Region)++e.2) j.2.toNat l.2),i]:List (List Region)):Nat):Int)),(61,vi 0)] [] (by kernel_rfl) ?_)
    refine AW.loopF (E' := fun z=>[(1,AL n),(8,AL o.2),(59,AL (α:=(List Region)) ([e.2,(List.set (([]:List Region)++e.2) j.2.toNat l.2),i]:List (List Region))),(60,vi ((List.length ([e.2,(List.set (([]:List Region)++e.2) j.2.toNat l.2),i]:List (List Region)):Nat):Int)),(61,vi z)]) (S' := fun z=>[]) (fun b0 u W0 c0 h=>?_) h
    refine AW.dSG0 Fm 1 [1,8,59,60,61] [(62,vb (decide (u<((List.length ([e.2,(List.set (([]:List Region)++e.2) j.2.toNat l.2),i]:List (List Region)):Nat):Int))))] [] [] ?_
    refine AW.seq (AW.cN h (fun k0 h=>?_) (fun k0 h=>?_))
    ·refine AW.skip (AW.dJ (r:=r) (fun z:Unit=>law31_ExclusionAnswers_k6 F u b0) [1,8,59,60,61] (fun _=>[]) [] (fun _=>[]) (fun z h=>?_) (fun b1 e0=>?_))
     ·obtain ⟨u0,h⟩:=gS h
      refine AW.dpN Fm [.s,.s] [1,8,59,60] [(61,vi (u+1))] [] [] (cT (cT u0)) ?_
      exact Kn.R Fm (c0 (u+1) h)
     ·refine AW.block ?_
      obtain ⟨q0,h⟩:=gS h
      refine AW.dSP Fm [.s,.s,.s] [1,8,59,60,61] [(12,AL (α:=Region) (gl ([e.2,(List.set (([]:List Region)++e.2) j.2.toNat l.2),i]:List (List Region)) u.toNat))] [] [] (cT q0) ?_
      refine AW.dSP Fm [.s,.s,.w (AL (α:=(List Scheme)) ([o.2,n]:List (List Scheme))),.s,.s] [1,8,12,59,60,61] [(67,AL (α:=(List Scheme)) ([o.2,n]:List (List Scheme))),(68,vi ((List.length ([o.2,n]:List (List Scheme)):Nat):Int)),(69,vi 0)] [] [] (cT (ALe.lst (.lit ([o.2,n]:List (List Scheme)) (by kernel_rfl)):ALe (.v (.c (.d (.lst 2 (litF 1 [DL o.2,DL n]))))) (AL (α:=(List Scheme)) ([o.2,n]:List (List Scheme))))) ?_
      refine AW.block (Kn.r Fm [(1,AL n),(8,AL o.2),(12,AL (α:=Region) (gl ([e.2,(List.set (([]:List Region)++e.2) j.2.toNat l.2),i]:List (List Region)) u.toNat)),(59,AL (α:=(List Region)) ([e.2,(List.set (([]:List Region)++e.2) j.2.toNat l.2),i]:List (List Region))),(60,vi ((List.length ([e.2,(List.set (([]:List Region)++e.2) j.2.toNat l.2),i]:List (List Region)):Nat):Int)),(61,vi u),(67,AL (α:=(List Scheme)) ([o.2,n]:List (List Scheme))),(68,vi ((List.length ([o.2,n]:List (List Scheme)):Nat):Int)),(69,vi 0)] [] (by kernel_rfl) ?_)
      refine AW.loopF (E' := fun z=>[(1,AL n),(8,AL o.2),(12,AL (α:=Region) (gl ([e.2,(List.set (([]:List Region)++e.2) j.2.toNat l.2),i]:List (List Region)) u.toNat)),(59,AL (α:=(List Region)) ([e.2,(List.set (([]:List Region)++e.2) j.2.toNat l.2),i]:List (List Region))),(60,vi ((List.length ([e.2,(List.set (([]:List Region)++e.2) j.2.toNat l.2),i]:List (List Region)):Nat):Int)),(61,vi u),(67,AL (α:=(List Scheme)) ([o.2,n]:List (List Scheme))),(68,vi ((List.length ([o.2,n]:List (List Scheme)):Nat):Int)),(69,vi z)]) (S' := fun z=>[]) (fun I y X0 d0 h=>?_) h
      refine AW.dSG0 Fm 1 [1,8,12,59,60,61,67,68,69] [(70,vb (decide (y<((List.length ([o.2,n]:List (List Scheme)):Nat):Int))))] [] [] ?_
      refine AW.seq (AW.cN h (fun l0 h=>?_) (fun l0 h=>?_))
      ·refine AW.skip (AW.seq (AW.block ?_))
       obtain ⟨s0,h⟩:=gS h
       refine AW.dSP Fm [.s,.s,.s] [1,8,12,59,60,61,67,68,69] [(14,AL (α:=Scheme) (gl ([o.2,n]:List (List Scheme)) y.toNat))] [] [] (cT s0) ?_
       refine AW.seq ?_
       obtain ⟨U,G0,h⟩:=bS h
       refine AW.dG Fm [.s,.s,.k _,.s,.s,.s,.s,.s] (fun K=>K 2∧True) [1,8,12,14,59,60,61,67,68,69] [(15,AL U.1),(16,vi U.2)] [] [] ⟨KAt.CC (exclusion_Assign_spec G0) Tryz.call19 [],⟨⟩⟩ ?_
       refine AW.seq ?_
       obtain ⟨V,H0,h⟩:=bS h
       refine AW.dG Fm [.s,.s,.k _,.s,.s,.s,.s,.s] (fun K=>K 2∧True) [1,8,12,14,15,16,59,60,61,67,68,69] [(17,AL V.1),(18,vi V.2)] [] [] ⟨KAt.CC (ref31_Assign_spec H0) Tryz.call20 [],⟨⟩⟩ ?_
       refine AW.seq (AW.dJ (r:=r) (fun z:Bool=>law31_ExclusionAnswers_k3 F n i o e j l u y I z) [1,8,12,14,59,60,61,67,68,69] (fun z=>[(93,vb z)]) [] (fun _=>[]) (fun e1 h=>?_) (fun Y0 Z=>?_))
       ·refine AW.cN h (fun m0 h=>?_) (fun m0 h=>?_)
        ·refine AW.dSG0 Fm 1 [] [(6,vb false)] [] [] ?_
         refine AW.ret ?_
         obtain rfl:=Option.some.inj h
         exact Kn.D Fm
        ·refine AW.skip (AW.seq ?_)
         obtain ⟨p,K0,h⟩:=bS h
         refine AW.dG Fm [.s,.s,.k _,.s,.s,.s,.s,.s,.s,.s,.s,.s] (fun K=>K 2∧True) [1,8,12,14,59,60,61,67,68,69] [(19,vi p.1),(20,vi p.2.1),(21,vb p.2.2.1),(22,vi p.2.2.2)] [] [] ⟨KAt.CC (exclusion_Once_spec K0) Tryz.call22 [],⟨⟩⟩ ?_
         refine AW.seq ?_
         obtain ⟨q,L0,h⟩:=bS h
         refine AW.dG Fm [.s,.s,.k _,.s,.s,.s,.s,.s,.s,.s,.s,.s] (fun K=>K 2∧True) [1,8,12,14,19,20,21,22,59,60,61,67,68,69] [(23,vi q.1),(24,vi q.2.1),(25,vb q.2.2.1),(26,vi q.2.2.2)] [] [] ⟨KAt.CC (ref31_Once_spec L0) Tryz.call23 [],⟨⟩⟩ ?_
         refine AW.seq (AW.dJ (r:=r) (fun z:Bool=>law31_ExclusionAnswers_k4 F n i o e j l u y I z) [1,8,12,14,59,60,61,67,68,69] (fun z=>[(127,vb z)]) [] (fun _=>[]) (fun i1 h=>?_) (fun Z0 B=>?_))
         ·refine AW.cN h (fun n0 h=>?_) (fun n0 h=>?_)
          ·refine AW.dSG0 Fm 1 [] [(6,vb false)] [] [] ?_
           refine AW.ret ?_
           obtain rfl:=Option.some.inj h
           exact Kn.D Fm
          ·refine AW.skip (AW.seq ?_)
           obtain ⟨W,M0,h⟩:=bS h
           refine AW.dG Fm [.s,.s,.k _,.s,.s,.s,.s,.s] (fun K=>K 2∧True) [1,8,12,14,59,60,61,67,68,69] [(16,vi W.2),(27,AL W.1)] [] [] ⟨KAt.CC (exclusion_Lost_spec M0) Tryz.call24 [],⟨⟩⟩ ?_
           refine AW.seq ?_
           obtain ⟨X,N0,h⟩:=bS h
           refine AW.dG Fm [.s,.s,.k _,.s,.s,.s,.s,.s] (fun K=>K 2∧True) [1,8,12,16,27,59,60,61,67,68,69] [(18,vi X.2),(28,AL X.1)] [] [] ⟨KAt.CC (ref31_Lost_spec N0) Tryz.call25 [],⟨⟩⟩ ?_
           refine AW.dJ (r:=r) (fun z:Bool=>law31_ExclusionAnswers_k5 F y I z) [1,8,12,59,60,61,67,68,69] (fun z=>[(148,vb z)]) [] (fun _=>[]) (fun j1 h=>?_) (fun a1 a0=>?_)
           ·refine AW.cN h (fun o0 h=>?_) (fun o0 h=>?_)
            ·refine AW.dSG0 Fm 1 [] [(6,vb false)] [] [] ?_
             refine AW.ret ?_
             obtain rfl:=Option.some.inj h
             exact Kn.D Fm
            ·refine AW.skip ?_
             obtain ⟨t0,h⟩:=gS h
             refine AW.dpN Fm [.s,.s] [1,8,12,59,60,61,67,68] [(69,vi (y+1))] [] [] (cT (cT t0)) ?_
             exact Kn.R Fm (d0 (y+1) h)
           ·rcases br_or h with ⟨O,h⟩|⟨O,h⟩
            ·refine AW.dpN Fm [.s,.s,.s,.w (vb true),.s,.s,.s,.s,.s] [1,8,12,59,60,61,67,68,69] [(148,vb true)] [] [] (cT (ALe.bool O)) ?_
             exact Kn.R Fm (a0 true h)
            ·obtain ⟨H,O0,h⟩:=bS h
             refine AW.dG Fm [.s,.s,.s,.w (vb false),.s,.s,.k _,.s,.s] (fun K=>_∧K 6∧True) [1,8,12,59,60,61,67,68,69] [(144,AL W.1),(145,AL X.1),(146,vb H),(147,vb (!H)),(148,vb (!H))] [] [] ⟨ALe.bool O,KAt.CC (ref24_Ints_spec O0) Tryz.call26 [],⟨⟩⟩ ?_
             exact Kn.R Fm (a0 (!H) h)
         ·rcases br_or h with ⟨A,h⟩|⟨A,h⟩
          ·refine AW.dpN Fm [.s,.s,.s,.w (vb true),.s,.s,.s,.s,.s,.s,.s,.s,.s,.s,.s,.s,.s,.s] [1,8,12,14,59,60,61,67,68,69] [(127,vb true)] [] [] (cT (ALe.bool A)) ?_
           exact Kn.R Fm (B true h)
          ·rcases br_or h with ⟨E,h⟩|⟨E,h⟩
           ·refine AW.dpN Fm [.s,.s,.s,.w (vb false),.s,.s,.s,.s,.w (vb true),.s,.s,.s,.s,.s,.s,.s,.s,.s] [1,8,12,14,59,60,61,67,68,69] [(114,vi p.2.1),(115,vi q.2.1),(116,vb (p.2.1 != q.2.1)),(127,vb true)] [] [] (cA (ALe.bool A) (cT (ALe.bool E))) ?_
            exact Kn.R Fm (B true h)
           ·rcases br_or h with ⟨N,h⟩|⟨N,h⟩
            ·refine AW.dG Fm [.s,.s,.s,.w (vb false),.s,.s,.s,.s,.w (vb false),.s,.s,.k (sE (vb (!(p.2.2.1==q.2.2.1)))),.s,.w (vb true),.s,.s,.s,.s] (fun K=>_∧_∧K 11∧_∧True) [1,8,12,14,59,60,61,67,68,69] [(114,vi p.2.1),(115,vi q.2.1),(116,vb (p.2.1 != q.2.1)),(119,vb p.2.2.1),(120,vb q.2.2.1),(121,vb (!(p.2.2.1==q.2.2.1))),(127,vb true)] [] [] ⟨ALe.bool A,ALe.bool E,KAt.eqb (t:=4) (by kernel_rfl) false (a:=p.2.2.1) (b:=q.2.2.1) rfl rfl (by kernel_rfl) (by kernel_rfl) (by kernel_rfl),ALe.bool N,⟨⟩⟩ ?_
             exact Kn.R Fm (B true h)
            ·refine AW.dG Fm [.s,.s,.s,.w (vb false),.s,.s,.s,.s,.w (vb false),.s,.s,.k (sE (vb (!(p.2.2.1==q.2.2.1)))),.s,.w (vb false),.s,.s,.s,.s] (fun K=>_∧_∧K 11∧_∧True) [1,8,12,14,59,60,61,67,68,69] [(114,vi p.2.1),(115,vi q.2.1),(116,vb (p.2.1 != q.2.1)),(119,vb p.2.2.1),(120,vb q.2.2.1),(121,vb (!(p.2.2.1==q.2.2.1))),(124,vi p.2.2.2),(125,vi q.2.2.2),(126,vb (p.2.2.2 != q.2.2.2)),(127,vb (p.2.2.2 != q.2.2.2))] [] [] ⟨ALe.bool A,ALe.bool E,KAt.eqb (t:=4) (by kernel_rfl) false (a:=p.2.2.1) (b:=q.2.2.1) rfl rfl (by kernel_rfl) (by kernel_rfl) (by kernel_rfl),ALe.bool N,⟨⟩⟩ ?_
             exact Kn.R Fm (B (p.2.2.2 != q.2.2.2) h)
       ·rcases br_or h with ⟨M,h⟩|⟨M,h⟩
        ·refine AW.dpN Fm [.s,.s,.s,.w (vb true),.s,.s,.s,.s,.s] [1,8,12,14,59,60,61,67,68,69] [(93,vb true)] [] [] (cT (ALe.bool M)) ?_
         exact Kn.R Fm (Z true h)
        ·obtain ⟨G,I0,h⟩:=bS h
         refine AW.dG Fm [.s,.s,.s,.w (vb false),.s,.s,.k _,.s,.s] (fun K=>_∧K 6∧True) [1,8,12,14,59,60,61,67,68,69] [(89,AL U.1),(90,AL V.1),(91,vb G),(92,vb (!G)),(93,vb (!G))] [] [] ⟨ALe.bool M,KAt.CC (ref04_All_spec I0) Tryz.call21 [],⟨⟩⟩ ?_
         exact Kn.R Fm (Z (!G) h)
      ·exact AW.exit (Kn.R Fm (e0 () h))
    ·exact AW.exit (Kn.R Fm (i0 () h))
 ·rcases br_or h with ⟨L,h⟩|⟨L,h⟩
  ·refine AW.dpN Fm [.s,.s,.s,.w (vb true),.s,.s,.s,.s] [0,1,2] [(36,vb true)] [] [] (cT (ALe.bool L)) ?_
   exact Kn.R Fm (Y true h)
  ·refine AW.dpN Fm [.s,.s,.s,.w (vb false),.s,.s,.s,.s] [0,1,2] [(36,vb (decide ((10:Int)<(lI i))))] [] [] (cT (ALe.bool L)) ?_
   exact Kn.R Fm (Y (decide ((10:Int)<(lI i))) h)
end Go.Ab
end
