/- The code follows the plain programs: whenever the plain program has a result. -/
import Derived.Test.YtgfmopdbhjcpfaaGreatBaA
set_option linter.unusedVariables false
set_option linter.unusedSimpArgs false
section
namespace Go.Ab
open Go.Proofs
set_option linter.unusedVariables false
set_option maxRecDepth 100000
theorem words_Name_spec {F:Nat} {x1:ByteArray} {r:Bool} (h:words_Name F x1=some r) :
  FSpec Tryz.prog 137 [.v (.c (.d (.str x1)))] [] (vb r) []:=by
 refine FI Tryz.func137 prog_mixed prog_lay fun C Fm=>?_
 unfold words_Name at h
 refine AW.dSG0 Fm 1 [0] [] [] [] ?_
 refine AW.dJ (r:=r) (fun z:Unit=>words_Name_k4 F x1) [0] (fun _=>[]) [] (fun _=>[]) (fun z h=>?_) (fun X H=>?_)
 ·refine AW.dJ (r:=r) (fun z:Bool=>words_Name_k5 F z) [] (fun z=>[(2,vb z)]) [] (fun _=>[]) (fun a0 h=>?_) (fun Y A=>?_)
  ·refine AW.ret ?_
   obtain rfl:=Option.some.inj h
   exact Kn.D Fm
  ·rcases br_or h with ⟨q,h⟩|⟨q,h⟩
   ·refine AW.dpN Fm [.s,.s,.s,.w (vb true),.s,.s,.s,.s,.s] [] [(2,vb (decide (((x1.size:Nat):Int)≤(12:Int))))] [] [] (cT (ALe.bool q)) ?_
    exact Kn.R Fm (A (decide (((x1.size:Nat):Int)≤(12:Int))) h)
   ·refine AW.dpN Fm [.s,.s,.s,.w (vb false),.s,.s,.s,.s,.s] [] [(2,vb false)] [] [] (cT (ALe.bool q)) ?_
    exact Kn.R Fm (A false h)
 ·refine AW.dSG0 Fm 3 [0] [(7,vi ((x1.size:Nat):Int)),(8,vi 0)] [] [] ?_
  refine AW.block (Kn.r Fm [(0,.v (.c (.d (.str x1)))),(7,vi ((x1.size:Nat):Int)),(8,vi 0)] [] (by kernel_rfl) ?_)
  refine AW.loopF (E' := fun z=>[(0,.v (.c (.d (.str x1)))),(7,vi ((x1.size:Nat):Int)),(8,vi z)]) (S' := fun z=>[]) (fun j b T G h=>?_) h
  refine AW.dSG0 Fm 1 [0,7,8] [(9,vb (decide (b<((x1.size:Nat):Int))))] [] [] ?_
  refine AW.seq (AW.cN h (fun I h=>?_) (fun I h=>?_))
  ·refine AW.skip (AW.seq (AW.block (AW.dSG0 Fm 2 [0,7,8] [(3,vi b)] [] [] ?_)))
   refine AW.dJ (r:=r) (fun z:Bool=>words_Name_k1 F x1 b j z) [0,3,7,8] (fun z=>[(4,vb z)]) [] (fun _=>[]) (fun P h=>?_) (fun U u=>?_)
   ·refine AW.dJ (r:=r) (fun z:Bool=>words_Name_k2 F b P j z) [0,3,4,7,8] (fun z=>[(5,vb z)]) [] (fun _=>[]) (fun e h=>?_) (fun V y=>?_)
    ·refine AW.dJ (r:=r) (fun z:Bool=>words_Name_k3 F b j z) [0,7,8] (fun z=>[(40,vb z)]) [] (fun _=>[]) (fun Z h=>?_) (fun W l=>?_)
     ·refine AW.cN h (fun L h=>?_) (fun L h=>?_)
      ·refine AW.dSG0 Fm 1 [] [(2,vb false)] [] [] ?_
       refine AW.ret ?_
       obtain rfl:=Option.some.inj h
       exact Kn.D Fm
      ·refine AW.skip ?_
       obtain ⟨O,h⟩:=gS h
       refine AW.dpN Fm [.s,.s] [0,7] [(8,vi (b+1))] [] [] (cT (cT O)) ?_
       exact Kn.R Fm (G (b+1) h)
     ·rcases br_or h with ⟨i,h⟩|⟨i,h⟩
      ·rcases br_or h with ⟨p,h⟩|⟨p,h⟩
       ·refine AW.dpN Fm [.s,.s,.w (vb true),.s,.s,.w (vb true),.s,.s,.s,.s] [0,7,8] [(34,vi b),(35,vb (b==(0:Int))),(36,vb true),(39,vb true),(40,vb true)] [] [] (cA (ALe.bool i) (cT (ALe.bool p))) ?_
        exact Kn.R Fm (l true h)
       ·refine AW.dpN Fm [.s,.s,.w (vb true),.s,.s,.w (vb false),.s,.s,.s,.s] [0,7,8] [(34,vi b),(35,vb (b==(0:Int))),(36,vb false),(37,vb e),(38,vb (!e)),(39,vb (!e)),(40,vb (!e))] [] [] (cA (ALe.bool i) (cT (ALe.bool p))) ?_
        exact Kn.R Fm (l (!e) h)
      ·refine AW.dpN Fm [.s,.s,.w (vb false),.s,.s,.s,.s,.s,.s,.s] [0,7,8] [(40,vb false)] [] [] (cT (ALe.bool i)) ?_
       exact Kn.R Fm (l false h)
    ·obtain ⟨E,h⟩:=gS h
     rcases br_or h with ⟨o,h⟩|⟨o,h⟩
     ·obtain ⟨N,h⟩:=gS h
      refine AW.dG Fm [.s,.s,.k (sE (.v (.c (.d (.int .u8 (sAt x1 b)))))),.s,.w (vb true),.s,.s,.k (sE (.v (.c (.d (.int .u8 (sAt x1 b)))))),.s,.s,.s] (fun K=>K 2∧_∧K 7∧True) [0,3,4,7,8] [(5,vb (decide ((sAt x1 b)≤(57:Int)))),(26,.v (.c (.d (.str x1)))),(27,vi b),(28,.v (.c (.d (.int .u8 (sAt x1 b))))),(29,vb (decide ((sAt x1 b)≤(57:Int))))] [] [] ⟨KAt.strI (t:=9) (a:=x1) (m:=b) (by kernel_rfl) rfl rfl (by kernel_rfl) (by kernel_rfl) (by kernel_rfl) E,ALe.bool o,KAt.strI (t:=9) (a:=x1) (m:=b) (by kernel_rfl) rfl rfl (by kernel_rfl) (by kernel_rfl) (by kernel_rfl) N,⟨⟩⟩ ?_
      exact Kn.R Fm (y (decide ((sAt x1 b)≤(57:Int))) h)
     ·refine AW.dG Fm [.s,.s,.k (sE (.v (.c (.d (.int .u8 (sAt x1 b)))))),.s,.w (vb false),.s,.s,.s,.s,.s,.s] (fun K=>K 2∧_∧True) [0,3,4,7,8] [(5,vb false)] [] [] ⟨KAt.strI (t:=9) (a:=x1) (m:=b) (by kernel_rfl) rfl rfl (by kernel_rfl) (by kernel_rfl) (by kernel_rfl) E,ALe.bool o,⟨⟩⟩ ?_
      exact Kn.R Fm (y false h)
   ·obtain ⟨B,h⟩:=gS h
    rcases br_or h with ⟨n,h⟩|⟨n,h⟩
    ·obtain ⟨M,h⟩:=gS h
     refine AW.dG Fm [.s,.s,.k (sE (.v (.c (.d (.int .u8 (sAt x1 b)))))),.s,.w (vb true),.s,.s,.k (sE (.v (.c (.d (.int .u8 (sAt x1 b)))))),.s,.s,.s] (fun K=>K 2∧_∧K 7∧True) [0,3,7,8] [(4,vb (decide ((sAt x1 b)≤(122:Int)))),(16,.v (.c (.d (.str x1)))),(17,vi b),(18,.v (.c (.d (.int .u8 (sAt x1 b))))),(19,vb (decide ((sAt x1 b)≤(122:Int))))] [] [] ⟨KAt.strI (t:=9) (a:=x1) (m:=b) (by kernel_rfl) rfl rfl (by kernel_rfl) (by kernel_rfl) (by kernel_rfl) B,ALe.bool n,KAt.strI (t:=9) (a:=x1) (m:=b) (by kernel_rfl) rfl rfl (by kernel_rfl) (by kernel_rfl) (by kernel_rfl) M,⟨⟩⟩ ?_
     exact Kn.R Fm (u (decide ((sAt x1 b)≤(122:Int))) h)
    ·refine AW.dG Fm [.s,.s,.k (sE (.v (.c (.d (.int .u8 (sAt x1 b)))))),.s,.w (vb false),.s,.s,.s,.s,.s,.s] (fun K=>K 2∧_∧True) [0,3,7,8] [(4,vb false)] [] [] ⟨KAt.strI (t:=9) (a:=x1) (m:=b) (by kernel_rfl) rfl rfl (by kernel_rfl) (by kernel_rfl) (by kernel_rfl) B,ALe.bool n,⟨⟩⟩ ?_
     exact Kn.R Fm (u false h)
  ·exact AW.exit (Kn.R Fm (H () h))
theorem term_count_B_spec {F:Nat} {rc:Term→Int→Option (Int)} (hrc : ∀ {a:Term} {e:Int} {r:Int},rc a e=some r→FSpec Tryz.prog 182 [.v (.g [ci a.op_,ci a.num_,ci a.more_,.d (DL a.kids_)]),vi e] [] (vi r) []) {a:Term} {e:Int} {r:Int} (h:term_count_B F rc a e=some r) :
  FSpec Tryz.prog 182 [.v (.g [ci a.op_,ci a.num_,ci a.more_,.d (DL a.kids_)]),vi e] [] (vi r) []:=by
 refine FI Tryz.func182 prog_mixed prog_lay fun C Fm=>?_
 unfold term_count_B at h
 refine AW.dSG0 Fm 2 [1] [(2,pt 2)] [] [(2,bx [ci a.op_,ci a.num_,ci a.more_,.d (DL a.kids_)])] ?_
 refine AW.dSG0 Fm 1 [1,2] [(5,vi 1)] [2] [] ?_
 refine AW.dJ (r:=r) (fun z:Int=>term_count_k1 F rc z) [] (fun z=>[(5,vi z)]) [] (fun _=>[]) (fun B h=>?_) (fun G j=>?_)
 ·refine AW.dSG0 Fm 2 [] [(4,vi B)] [] [] ?_
  refine AW.ret ?_
  obtain rfl:=Option.some.inj h
  exact Kn.D Fm
 ·refine AW.dSG0 Fm 4 [1,5] [(9,AL a.kids_),(10,vi (lI a.kids_)),(11,vi 0)] [] [] ?_
  refine AW.block (Kn.r Fm [(1,vi e),(5,vi 1),(9,AL a.kids_),(10,vi (lI a.kids_)),(11,vi 0)] [] (by kernel_rfl) ?_)
  refine AW.loopF (E' := fun z=>[(1,vi e),(5,vi z.1),(9,AL a.kids_),(10,vi (lI a.kids_)),(11,vi z.2)]) (S' := fun z=>[]) (fun H z E m h=>?_) h
  obtain ⟨i,b⟩:=z
  refine AW.dSG0 Fm 1 [1,5,9,10,11] [(12,vb (decide (b<(lI a.kids_))))] [] [] ?_
  refine AW.seq (AW.cN h (fun n h=>?_) (fun n h=>?_))
  ·refine AW.skip (AW.seq (AW.block ?_))
   obtain ⟨p,q,h⟩:=gS2 h
   refine AW.dSP Fm [.w (.v (.c (.elm [.int .i64 (gl a.kids_ b.toNat).op_,.int .i64 (gl a.kids_ b.toNat).num_,.int .i64 (gl a.kids_ b.toNat).more_,DL (α:=Term) (gl a.kids_ b.toNat).kids_]))),.s,.s,.s] [1,5,9,10,11] [(7,pt 7)] [] [(7,bx [ci ((gl a.kids_ b.toNat).op_),ci ((gl a.kids_ b.toNat).num_),ci ((gl a.kids_ b.toNat).more_),.d (DL (α:=Term) (gl a.kids_ b.toNat).kids_)])] (cA p (cT (ALe.of_eq (Term.elm q):ALe (.v (.c (.elm (LF (α:=Term) a.kids_ b.toNat)))) (.v (.c (.elm [.int .i64 (gl a.kids_ b.toNat).op_,.int .i64 (gl a.kids_ b.toNat).num_,.int .i64 (gl a.kids_ b.toNat).more_,DL (α:=Term) (gl a.kids_ b.toNat).kids_])))))) ?_
   refine AW.seq (AW.dSG0 Fm 3 [1,5,7,9,10,11] [(17,vb (decide (e<i)))] [7] [] ?_)
   refine AW.cN h (fun o h=>?_) (fun o h=>?_)
   ·exact AW.exit (Kn.R Fm (j i h))
   ·refine AW.skip ?_
    obtain ⟨t,h⟩:=gS h
    obtain ⟨l,A,h⟩:=bS h
    obtain ⟨u,h⟩:=gS h
    refine AW.dG Fm [.s,.s,.s,.s,.s,.k _,.s,.s] (fun K=>(_∧True)∧K 5∧(_∧True)∧True) [1,9,10,11] [(5,vi (i+l))] [] [] ⟨⟨t,⟨⟩⟩,KAt.CC (hrc A) Tryz.call182 [],⟨u,⟨⟩⟩,⟨⟩⟩ ?_
    obtain ⟨y,h⟩:=gS h
    refine AW.dpN Fm [.s,.s] [1,5,9,10] [(11,vi (b+1))] [] [] (cT (cT y)) ?_
    exact Kn.R Fm (m ((i+l),(b+1)) h)
  ·exact AW.exit (Kn.R Fm (j i h))
theorem term_count_spec : ∀ {F:Nat} {a:Term} {b:Int} {r:Int},term_count F a b=some r →
  FSpec Tryz.prog 182 [.v (.g [ci a.op_,ci a.num_,ci a.more_,.d (DL a.kids_)]),vi b] [] (vi r) []
 | 0,_,_,_,h=>by cases h
 | F+1,_,_,_,h=>term_count_B_spec term_count_spec (F:=F) (rc:=term_count F) h
theorem term_limits_spec {F:Nat} {a:Int} {r:Int×Int×Bool} (h:term_limits F a=some r) :
  FSpec Tryz.prog 221 [vi a] [] (.t [.c (ci r.1),.c (ci r.2.1),.c (.d (.bool r.2.2))]) []:=by
 refine FI Tryz.func221 prog_mixed prog_lay fun C Fm=>?_
 unfold term_limits at h
 refine AW.dSG0 Fm 3 [0] [] [] [] ?_
 refine AW.seq (AW.dSG0 Fm 1 [] [(5,vi a)] [] [] ?_)
 refine AW.block (AW.dSG0 Fm 2 [5] [(6,vb (a==(2:Int)))] [] [] ?_)
 refine AW.cN h (fun e h=>?_) (fun e h=>?_)
 ·refine AW.dSG0 Fm 3 [] [(2,vi 0),(3,vi 39),(4,vb true)] [] [] ?_
  refine AW.ret ?_
  obtain rfl:=Option.some.inj h
  exact Kn.D Fm
 ·refine AW.dSG0 Fm 2 [5] [(8,vb (a==(3:Int)))] [] [] ?_
  refine AW.cN h (fun i h=>?_) (fun i h=>?_)
  ·refine AW.dSG0 Fm 3 [] [(2,vi 0),(3,vi 40),(4,vb true)] [] [] ?_
   refine AW.ret ?_
   obtain rfl:=Option.some.inj h
   exact Kn.D Fm
  ·refine AW.dSG0 Fm 2 [5] [(10,vb (a==(4:Int)))] [] [] ?_
   refine AW.cN h (fun j h=>?_) (fun j h=>?_)
   ·refine AW.dSG0 Fm 3 [] [(2,vi 1),(3,vi 16),(4,vb true)] [] [] ?_
    refine AW.ret ?_
    obtain rfl:=Option.some.inj h
    exact Kn.D Fm
   ·refine AW.dSG0 Fm 2 [5] [(12,vb (a==(5:Int)))] [] [] ?_
    refine AW.cN h (fun k h=>?_) (fun k h=>?_)
    ·refine AW.dSG0 Fm 3 [] [(2,vi 0),(3,vi 15),(4,vb true)] [] [] ?_
     refine AW.ret ?_
     obtain rfl:=Option.some.inj h
     exact Kn.D Fm
    ·refine AW.dSG0 Fm 2 [5] [(14,vb (a==(6:Int)))] [] [] ?_
     refine AW.cN h (fun l h=>?_) (fun l h=>?_)
     ·refine AW.dSG0 Fm 3 [] [(2,vi 2),(3,vi 10),(4,vb true)] [] [] ?_
      refine AW.ret ?_
      obtain rfl:=Option.some.inj h
      exact Kn.D Fm
     ·refine AW.dJ (r:=r) (fun z:Bool=>term_limits_k0 F z) [] (fun z=>[(16,vb z)]) [] (fun _=>[]) (fun p h=>?_) (fun o b=>?_)
      ·refine AW.cN h (fun n h=>?_) (fun n h=>?_)
       ·refine AW.dSG0 Fm 3 [] [(2,vi 1),(3,vi 10),(4,vb true)] [] [] ?_
        refine AW.ret ?_
        obtain rfl:=Option.some.inj h
        exact Kn.D Fm
       ·refine AW.skip (AW.dSG0 Fm 3 [] [(2,vi 0),(3,vi 0),(4,vb false)] [] [] ?_)
        refine AW.ret ?_
        obtain rfl:=Option.some.inj h
        exact Kn.D Fm
      ·refine AW.dSG0 Fm 2 [5] [(16,vb (a==(7:Int)))] [] [] ?_
       refine AW.cN h (fun m h=>?_) (fun m h=>?_)
       ·exact AW.skip (Kn.R Fm (b (a==(7:Int)) h))
       ·refine AW.dG0 Fm 2 [] [(16,vb (a==(8:Int)))] [] [] ?_
        exact Kn.R Fm (b (a==(8:Int)) h)
theorem term_kids_spec {F:Nat} {a:Int} {r:Int×Int} (h:term_kids F a=some r) :
  FSpec Tryz.prog 222 [vi a] [] (.t [.c (ci r.1),.c (ci r.2)]) []:=by
 refine FI Tryz.func222 prog_mixed prog_lay fun C Fm=>?_
 unfold term_kids at h
 refine AW.dSG0 Fm 2 [0] [] [] [] ?_
 refine AW.seq (AW.dSG0 Fm 1 [] [(4,vi a)] [] [] ?_)
 refine AW.block (AW.dJ (r:=r) (fun z:Bool=>term_kids_k0 F a z) [4] (fun z=>[(5,vb z)]) [] (fun _=>[]) (fun k h=>?_) (fun j b=>?_))
 ·refine AW.cN h (fun e h=>?_) (fun e h=>?_)
  ·refine AW.dSG0 Fm 2 [] [(2,vi 1),(3,vi 40)] [] [] ?_
   refine AW.ret ?_
   obtain rfl:=Option.some.inj h
   exact Kn.D Fm
  ·refine AW.dSG0 Fm 2 [] [(8,vb (a==(11:Int)))] [] [] ?_
   refine AW.cN h (fun i h=>?_) (fun i h=>?_)
   ·refine AW.dSG0 Fm 2 [] [(2,vi 1),(3,vi 1)] [] [] ?_
    refine AW.ret ?_
    obtain rfl:=Option.some.inj h
    exact Kn.D Fm
   ·refine AW.skip (AW.dSG0 Fm 2 [] [(2,vi 0),(3,vi 0)] [] [] ?_)
    refine AW.ret ?_
    obtain rfl:=Option.some.inj h
    exact Kn.D Fm
 ·refine AW.dSG0 Fm 2 [4] [(5,vb (a==(9:Int)))] [] [] ?_
  refine AW.cN h (fun d h=>?_) (fun d h=>?_)
  ·exact AW.skip (Kn.R Fm (b (a==(9:Int)) h))
  ·refine AW.dG0 Fm 2 [4] [(5,vb (a==(10:Int)))] [] [] ?_
   exact Kn.R Fm (b (a==(10:Int)) h)
theorem math_bits_OnesCount64_spec {F:Nat} {b:Int} {r:Int} (h:math_bits_OnesCount64 F b=some r) :
  FSpec Tryz.prog 270 [.v (.c (.d (.int .u64 b)))] [] (vi r) []:=by
 refine FI Tryz.func270 prog_mixed prog_lay fun C Fm=>?_
 unfold math_bits_OnesCount64 at h
 refine AW.dSG0 Fm 1 [0] [] [] [] ?_
 refine AW.seq ?_
 obtain ⟨q,h⟩:=gS h
 obtain ⟨O,H,h⟩:=bS h
 obtain ⟨j,I,h⟩:=bS h
 refine AW.dpN Fm [.s,.s,.w (.v (.c (.d (.int .u64 O)))),.s,.s,.w (.v (.c (.d (.int .u64 j)))),.s] [] [(0,.v (.c (.d (.int .u64 j))))] [] [] (cA q (cA (eI (k:=.u64) H) (cA (True.intro:True) (cT (eI (k:=.u64) I))))) ?_
 refine AW.seq ?_
 obtain ⟨t,h⟩:=gS h
 obtain ⟨P,K,h⟩:=bS h
 obtain ⟨l,L,h⟩:=bS h
 refine AW.dpN Fm [.s,.s,.w (.v (.c (.d (.int .u64 P)))),.s,.s,.w (.v (.c (.d (.int .u64 l)))),.s] [] [(0,.v (.c (.d (.int .u64 l))))] [] [] (cA t (cA (eI (k:=.u64) K) (cA (True.intro:True) (cT (eI (k:=.u64) L))))) ?_
 refine AW.seq ?_
 obtain ⟨u,h⟩:=gS h
 obtain ⟨m,M,h⟩:=bS h
 refine AW.dpN Fm [.s,.s,.s,.w (.v (.c (.d (.int .u64 m)))),.s,.s] [] [(0,.v (.c (.d (.int .u64 (band .u64 m (1085102592571150095:Int))))))] [] [] (cA u (cA (True.intro:True) (cT (eI (k:=.u64) M)))) ?_
 refine AW.seq ?_
 obtain ⟨y,h⟩:=gS h
 obtain ⟨N,A,h⟩:=bS h
 obtain ⟨e,B,h⟩:=bS h
 refine AW.dpN Fm [.s,.s,.w (.v (.c (.d (.int .u64 N)))),.w (.v (.c (.d (.int .u64 e)))),.s] [] [(0,.v (.c (.d (.int .u64 e))))] [] [] (cA y (cA (eI (k:=.u64) A) (cA (True.intro:True) (cT (eI (k:=.u64) B))))) ?_
 refine AW.seq ?_
 obtain ⟨n,h⟩:=gS h
 obtain ⟨i,E,h⟩:=bS h
 refine AW.dpN Fm [.s,.s,.s,.w (.v (.c (.d (.int .u64 i)))),.s] [] [(0,.v (.c (.d (.int .u64 i))))] [] [] (cA n (cA (True.intro:True) (cT (eI (k:=.u64) E)))) ?_
 refine AW.seq ?_
 obtain ⟨o,h⟩:=gS h
 obtain ⟨a,G,h⟩:=bS h
 refine AW.dpN Fm [.s,.s,.s,.w (.v (.c (.d (.int .u64 a)))),.s] [] [(0,.v (.c (.d (.int .u64 a))))] [] [] (cA o (cA (True.intro:True) (cT (eI (k:=.u64) G)))) ?_
 obtain ⟨p,h⟩:=gS h
 refine AW.dSP Fm [.s,.s,.s,.s] [] [(2,vi (band .i64 a (127:Int)))] [] [] (cT (cT p)) ?_
 refine AW.ret ?_
 obtain rfl:=Option.some.inj h
 exact Kn.D Fm
theorem math_bits_OnesCount_spec {F:Nat} {a:Int} {r:Int} (h:math_bits_OnesCount F a=some r) :
  FSpec Tryz.prog 246 [.v (.c (.d (.int .u64 a)))] [] (vi r) []:=by
 refine FI Tryz.func246 prog_mixed prog_lay fun C Fm=>?_
 unfold math_bits_OnesCount at h
 refine AW.dSG0 Fm 1 [0] [] [] [] ?_
 refine AW.seq (AW.cF ?_)
 refine AW.skip (AW.seq ?_)
 obtain ⟨e,b,h⟩:=bS h
 refine AW.dG Fm [.s,.k _,.s] (fun K=>K 1∧True) [] [(2,vi e)] [] [] ⟨KAt.CC (math_bits_OnesCount64_spec b) Tryz.call270 [],⟨⟩⟩ ?_
 refine AW.ret ?_
 obtain rfl:=Option.some.inj h
 exact Kn.D Fm
theorem term_single_spec {F:Nat} {d:Int} {r:Bool} (h:term_single F d=some r) :
  FSpec Tryz.prog 223 [vi d] [] (vb r) []:=by
 refine FI Tryz.func223 prog_mixed prog_lay fun C Fm=>?_
 unfold term_single at h
 refine AW.dSG0 Fm 1 [0] [] [] [] ?_
 refine AW.dJ (r:=r) (fun z:Bool=>term_single_k0 F z) [] (fun z=>[(2,vb z)]) [] (fun _=>[]) (fun l h=>?_) (fun j b=>?_)
 ·refine AW.ret ?_
  obtain rfl:=Option.some.inj h
  exact Kn.D Fm
 ·rcases br_or h with ⟨a,h⟩|⟨a,h⟩
  ·rcases br_or h with ⟨c,h⟩|⟨c,h⟩
   ·obtain ⟨e,i,h⟩:=bS h
    refine AW.dG Fm [.s,.s,.w (vb true),.s,.s,.s,.w (vb true),.s,.s,.k _,.s,.s,.s] (fun K=>_∧_∧(True)∧K 9∧True) [] [(2,vb (e==(1:Int)))] [] [] ⟨ALe.bool a,ALe.bool c,True.intro,KAt.CC (math_bits_OnesCount_spec i) Tryz.call246 [],⟨⟩⟩ ?_
    exact Kn.R Fm (b (e==(1:Int)) h)
   ·refine AW.dpN Fm [.s,.s,.w (vb true),.s,.s,.s,.w (vb false),.s,.s,.s,.s,.s,.s] [] [(2,vb false)] [] [] (cA (ALe.bool a) (cT (ALe.bool c))) ?_
    exact Kn.R Fm (b false h)
  ·refine AW.dpN Fm [.s,.s,.w (vb false),.s,.s,.s,.s,.s,.s,.s,.s,.s,.s] [] [(2,vb false)] [] [] (cT (ALe.bool a)) ?_
   exact Kn.R Fm (b false h)
theorem slices_IndexFunc_Term_spec {F:Nat} {a:(List Term)} {e:Term→Option Bool} {r:Int} (h:slices_IndexFunc_Term F a e=some r) :
  FSpec Tryz.prog 247 [AL a,.v (.c (.sem (CloOK Tryz.prog (FR_Term_Bool e))))] [] (vi r) []:=by
 refine FI Tryz.func247 prog_mixed prog_lay fun C Fm=>?_
 unfold slices_IndexFunc_Term at h
 refine AW.dSG0 Fm 1 [0,1] [] [] [] ?_
 refine AW.dJ (r:=r) (fun z:Unit=>slices_IndexFunc_Term_k1 F) [] (fun _=>[]) [] (fun _=>[]) (fun z h=>?_) (fun y l=>?_)
 ·refine AW.dSG0 Fm 1 [] [(4,vi (-1:Int))] [] [] ?_
  refine AW.ret ?_
  obtain rfl:=Option.some.inj h
  exact Kn.D Fm
 ·refine AW.dSG0 Fm 3 [0,1] [(7,vi (lI a)),(8,vi 0)] [] [] ?_
  refine AW.block (Kn.r Fm [(0,AL a),(1,.v (.c (.sem (CloOK Tryz.prog (FR_Term_Bool e))))),(7,vi (lI a)),(8,vi 0)] [] (by kernel_rfl) ?_)
  refine AW.loopF (E' := fun z=>[(0,AL a),(1,.v (.c (.sem (CloOK Tryz.prog (FR_Term_Bool e))))),(7,vi (lI a)),(8,vi z)]) (S' := fun z=>[]) (fun A b u j h=>?_) h
  refine AW.dSG0 Fm 1 [0,1,7,8] [(9,vb (decide (b<(lI a))))] [] [] ?_
  refine AW.seq (AW.cN h (fun m h=>?_) (fun m h=>?_))
  ·refine AW.skip (AW.seq (AW.block (AW.dSG0 Fm 2 [0,1,7,8] [(5,vi b)] [] [] ?_)))
   refine AW.seq ?_
   obtain ⟨o,p,h⟩:=gS2 h
   obtain ⟨i,t,h⟩:=bS h
   refine AW.dG Fm [.s,.s,.s,.w (.v (.c (.elm [.int .i64 (gl a b.toNat).op_,.int .i64 (gl a b.toNat).num_,.int .i64 (gl a b.toNat).more_,DL (α:=Term) (gl a b.toNat).kids_]))),.s,.k (sE (vb i))] (fun K=>_∧(ALe (.v (.c (.elm (LF (α:=Term) a b.toNat)))) (.v (.c (.elm [.int .i64 (gl a b.toNat).op_,.int .i64 (gl a b.toNat).num_,.int .i64 (gl a b.toNat).more_,DL (α:=Term) (gl a b.toNat).kids_]))))∧K 5∧True) [0,1,5,7,8] [(16,vb i)] [] [] ⟨o,ALe.of_eq (Term.elm p),KAt.sem (F:=(FR_Term_Bool e)) (args:=[.v (.g [ci ((gl a b.toNat).op_),ci ((gl a b.toNat).num_),ci ((gl a b.toNat).more_),.d (DL (α:=Term) (gl a b.toNat).kids_)])]) ⟨(gl a b.toNat),i,t,rfl,rfl⟩ rfl (by kernel_rfl) (by kernel_rfl) (by kernel_rfl),⟨⟩⟩ ?_
   refine AW.cN h (fun n h=>?_) (fun n h=>?_)
   ·refine AW.dSG0 Fm 2 [] [(4,vi b)] [] [] ?_
    refine AW.ret ?_
    obtain rfl:=Option.some.inj h
    exact Kn.D Fm
   ·refine AW.skip ?_
    obtain ⟨q,h⟩:=gS h
    refine AW.dpN Fm [.s,.s] [0,1,7] [(8,vi (b+1))] [] [] (cT (cT q)) ?_
    exact Kn.R Fm (j (b+1) h)
  ·exact AW.exit (Kn.R Fm (l () h))
theorem slices_ContainsFunc_Term_spec {F:Nat} {a:(List Term)} {b:Term→Option Bool} {r:Bool} (h:slices_ContainsFunc_Term F a b=some r) :
  FSpec Tryz.prog 224 [AL a,.v (.c (.sem (CloOK Tryz.prog (FR_Term_Bool b))))] [] (vb r) []:=by
 refine FI Tryz.func224 prog_mixed prog_lay fun C Fm=>?_
 unfold slices_ContainsFunc_Term at h
 refine AW.dSG0 Fm 1 [0,1] [] [] [] ?_
 refine AW.seq ?_
 obtain ⟨d,e,h⟩:=bS h
 refine AW.dG Fm [.s,.s,.k (cE [] [] (vi d) [] []),.s,.s] (fun K=>K 2∧True) [] [(4,vb (decide ((0:Int)≤d)))] [] [] ⟨KAt.callX (slices_IndexFunc_Term_spec e) Tryz.call247 [] [] [.tmp 5,.tmp 6] rfl (by kernel_rfl) (by kernel_rfl) (by kernel_rfl) ⟨.p,ArgT.semX (by kernel_rfl) (by kernel_rfl) (by kernel_rfl),⟨⟩⟩,⟨⟩⟩ ?_
 refine AW.ret ?_
 obtain rfl:=Option.some.inj h
 exact Kn.D Fm
theorem term_right_1_spec {F:Nat} {rc:Term→Int→Option (Bool)} (hrc : ∀ {q0:Term} {q1:Int} {r:Bool},rc q0 q1=some r→FSpec Tryz.prog 183 [.v (.g [ci q0.op_,ci q0.num_,ci q0.more_,.d (DL q0.kids_)]),vi q1] [] (vb r) []) {a:Term} {b:Int} {r:Bool} (h:term_right_1 F rc a b=some r) :
  FSpec Tryz.prog 225 [.v (.g [ci a.op_,ci a.num_,ci a.more_,.d (DL a.kids_)]),pt 0] [(0,.box true [ci b])] (vb r) [(0,.box true [ci b])]:=by
 refine FI Tryz.func225 prog_mixed prog_lay fun C Fm=>?_
 unfold term_right_1 at h
 refine AW.dSG0 Fm 2 [1] [(2,pt 2)] [0] [(2,bx [ci a.op_,ci a.num_,ci a.more_,.d (DL a.kids_)])] ?_
 refine AW.seq ?_
 obtain ⟨c,h⟩:=gS h
 obtain ⟨i,e,h⟩:=bS h
 refine AW.dG Fm [.s,.s,.s,.k _,.s,.s] (fun K=>(_∧True)∧K 3∧True) [] [(3,vb (!i))] [0] [] ⟨⟨c,⟨⟩⟩,KAt.CC (hrc e) Tryz.call183 [],⟨⟩⟩ ?_
 refine AW.ret ?_
 obtain rfl:=Option.some.inj h
 exact Kn.D Fm
theorem term_right_B_spec {F:Nat} {rc:Term→Int→Option (Bool)} (hrc : ∀ {a:Term} {b:Int} {r:Bool},rc a b=some r→FSpec Tryz.prog 183 [.v (.g [ci a.op_,ci a.num_,ci a.more_,.d (DL a.kids_)]),vi b] [] (vb r) []) {a:Term} {b:Int} {r:Bool} (h:term_right_B F rc a b=some r) :
  FSpec Tryz.prog 183 [.v (.g [ci a.op_,ci a.num_,ci a.more_,.d (DL a.kids_)]),vi b] [] (vb r) []:=by
 refine FI Tryz.func183 prog_mixed prog_lay fun C Fm=>?_
 unfold term_right_B at h
 refine AW.dSG0 Fm 3 [] [(2,pt 2),(3,pt 3)] [] [(2,bx [ci a.op_,ci a.num_,ci a.more_,.d (DL a.kids_)]),(3,bx [ci b])] ?_
 refine AW.seq ?_
 obtain ⟨G,d0,h⟩:=bS h
 refine AW.dG Fm [.s,.s,.k _,.s,.s,.s,.s,.s,.s,.s] (fun K=>K 2∧True) [2,3] [(5,vi G.1),(6,vi G.2.1),(7,vb G.2.2)] [2,3] [] ⟨KAt.CC (term_limits_spec d0) Tryz.call221 [],⟨⟩⟩ ?_
 refine AW.seq ?_
 obtain ⟨l,e0,h⟩:=bS h
 refine AW.dG Fm [.s,.s,.k _,.s,.s,.s,.s,.s] (fun K=>K 2∧True) [2,3,5,6,7] [(8,vi l.1),(9,vi l.2)] [2,3] [] ⟨KAt.CC (term_kids_spec e0) Tryz.call222 [],⟨⟩⟩ ?_
 refine AW.seq (AW.block (AW.dJ (r:=r) (fun z:Bool=>term_right_k0 F rc a b G l z) [2,3,5,6,7,8,9] (fun z=>[(23,vb z)]) [2,3] (fun _=>[]) (fun n0 h=>?_) (fun j0 H=>?_)))
 ·refine AW.cN h (fun Z h=>?_) (fun Z h=>?_)
  ·refine AW.dSG0 Fm 1 [] [(4,vb false)] [] [] ?_
   refine AW.ret ?_
   obtain rfl:=Option.some.inj h
   exact Kn.D Fm
  ·refine AW.dJ (r:=r) (fun z:Bool=>term_right_k1 F rc a b l z) [2,3,8,9] (fun z=>[(36,vb z)]) [2,3] (fun _=>[]) (fun o0 h=>?_) (fun k0 m=>?_)
   ·refine AW.cN h (fun a0 h=>?_) (fun a0 h=>?_)
    ·refine AW.dSG0 Fm 1 [] [(4,vb false)] [] [] ?_
     refine AW.ret ?_
     obtain rfl:=Option.some.inj h
     exact Kn.D Fm
    ·refine AW.dJ (r:=r) (fun z:Bool=>term_right_k2 F rc a b l z) [2,3,8,9] (fun z=>[(59,vb z)]) [2,3] (fun _=>[]) (fun p0 h=>?_) (fun l0 e=>?_)
     ·refine AW.cN h (fun b0 h=>?_) (fun b0 h=>?_)
      ·refine AW.dSG0 Fm 1 [] [(4,vb false)] [] [] ?_
       refine AW.ret ?_
       obtain rfl:=Option.some.inj h
       exact Kn.D Fm
      ·refine AW.dJ (r:=r) (fun z:Bool=>term_right_k3 F rc a b z) [2,3] (fun z=>[(90,vb z)]) [2,3] (fun _=>[]) (fun q0 h=>?_) (fun m0 X=>?_)
       ·refine AW.cN h (fun c0 h=>?_) (fun c0 h=>?_)
        ·refine AW.dSG0 Fm 1 [] [(4,vb false)] [] [] ?_
         refine AW.ret ?_
         obtain rfl:=Option.some.inj h
         exact Kn.D Fm
        ·refine AW.skip (AW.seq ?_)
         obtain ⟨Y,i0,h⟩:=bS h
         refine AW.dG Fm [.s,.s,.s,.k (cE [] [3] (vb Y) [] []),.s,.s] (fun K=>K 3∧True) [] [(4,vb (!Y))] [] [] ⟨KAt.callX (slices_ContainsFunc_Term_spec i0) Tryz.call224 [] [3] [.tmp 104,.tmp 105] rfl (by kernel_rfl) (by kernel_rfl) (by kernel_rfl) ⟨.p,ArgT.cloX Tryz.call225 [[ci b]] (fun args r hq=>by obtain ⟨y0,y,hq,rfl,rfl⟩:=hq; exact Eq.mp (by kernel_rfl) (term_right_1_spec hrc hq)) (fun args r hq=>by obtain ⟨y0,y,hq,rfl,rfl⟩:=hq; rfl) (by kernel_rfl) [3] (by kernel_rfl) (by kernel_rfl) (⟨⟨false,(by kernel_rfl)⟩,⟨⟩⟩) (by kernel_rfl),⟨⟩⟩,⟨⟩⟩ ?_
         refine AW.ret ?_
         obtain rfl:=Option.some.inj h
         exact Kn.D Fm
       ·rcases br_or h with ⟨U,h⟩|⟨U,h⟩
        ·refine AW.dpN Fm [.s,.s,.s,.s,.s,.w (vb true),.s,.s,.s,.s,.s,.s,.s] [2,3] [(90,vb true)] [2,3] [] (cT (ALe.bool U)) ?_
         exact Kn.R Fm (X true h)
        ·refine AW.dpN Fm [.s,.s,.s,.s,.s,.w (vb false),.s,.s,.s,.s,.s,.s,.s] [2,3] [(90,vb (decide (l.2<(lI a.kids_))))] [2,3] [] (cT (ALe.bool U)) ?_
         exact Kn.R Fm (X (decide (l.2<(lI a.kids_))) h)
     ·rcases br_or h with ⟨c,h⟩|⟨c,h⟩
      ·obtain ⟨s0,q,h⟩:=bS h
       rcases br_or h with ⟨j,h⟩|⟨j,h⟩
       ·refine AW.dG Fm ([.s,.s,.s,.w (vb true),.s,.s,.k _,.s,.s,.w (vb true),.s,.s,.s,.s,.s,.s,.s,.s,.s,.s,.s,.s,.s,.s,.s,.s,.s,.s]++[.s,.s,.s]) (fun K=>_∧K 6∧_∧True) [2,3,8,9] [(59,vb true)] [2,3] [] ⟨ALe.bool c,KAt.CC (term_single_spec q) Tryz.call223 [],ALe.bool j,⟨⟩⟩ ?_
        exact Kn.R Fm (e true h)
       ·rcases br_or h with ⟨n,h⟩|⟨n,h⟩
        ·obtain ⟨t0,V,h⟩:=bS h
         rcases br_or h with ⟨B,h⟩|⟨B,h⟩
         ·refine AW.dG Fm ([.s,.s,.s,.w (vb true),.s,.s,.k _,.s,.s,.w (vb false),.s,.s,.s,.w (vb true),.s,.s,.k _,.s,.s,.s,.w (vb true),.s,.s,.s,.s,.s,.s,.s]++[.s,.s,.s]) (fun K=>_∧K 6∧_∧_∧K 16∧_∧True) [2,3,8,9] [(59,vb true)] [2,3] [] ⟨ALe.bool c,KAt.CC (term_single_spec q) Tryz.call223 [],ALe.bool j,ALe.bool n,KAt.CC (term_single_spec V) Tryz.call223 [],ALe.bool B,⟨⟩⟩ ?_
          exact Kn.R Fm (e true h)
         ·rcases br_or h with ⟨N,h⟩|⟨N,h⟩
          ·refine AW.dG Fm ([.s,.s,.s,.w (vb true),.s,.s,.k _,.s,.s,.w (vb false),.s,.s,.s,.w (vb true),.s,.s,.k _,.s,.s,.s,.w (vb false),.s,.s,.s,.w (vb true),.s,.s,.s]++[.s,.s,.s]) (fun K=>_∧K 6∧_∧_∧K 16∧_∧_∧True) [2,3,8,9] [(59,vb (a.more_ != (0:Int)))] [2,3] [] ⟨ALe.bool c,KAt.CC (term_single_spec q) Tryz.call223 [],ALe.bool j,ALe.bool n,KAt.CC (term_single_spec V) Tryz.call223 [],ALe.bool B,ALe.bool N,⟨⟩⟩ ?_
           exact Kn.R Fm (e (a.more_ != (0:Int)) h)
          ·refine AW.dG Fm ([.s,.s,.s,.w (vb true),.s,.s,.k _,.s,.s,.w (vb false),.s,.s,.s,.w (vb true),.s,.s,.k _,.s,.s,.s,.w (vb false),.s,.s,.s,.w (vb false),.s,.s,.s]++[.s,.s,.s]) (fun K=>_∧K 6∧_∧_∧K 16∧_∧_∧True) [2,3,8,9] [(59,vb false)] [2,3] [] ⟨ALe.bool c,KAt.CC (term_single_spec q) Tryz.call223 [],ALe.bool j,ALe.bool n,KAt.CC (term_single_spec V) Tryz.call223 [],ALe.bool B,ALe.bool N,⟨⟩⟩ ?_
           exact Kn.R Fm (e false h)
        ·rcases br_or h with ⟨O,h⟩|⟨O,h⟩
         ·refine AW.dG Fm ([.s,.s,.s,.w (vb true),.s,.s,.k _,.s,.s,.w (vb false),.s,.s,.s,.w (vb false),.s,.s,.s,.s,.s,.s,.s,.s,.s,.s,.w (vb true),.s,.s,.s]++[.s,.s,.s]) (fun K=>_∧K 6∧_∧_∧_∧True) [2,3,8,9] [(59,vb (a.more_ != (0:Int)))] [2,3] [] ⟨ALe.bool c,KAt.CC (term_single_spec q) Tryz.call223 [],ALe.bool j,ALe.bool n,ALe.bool O,⟨⟩⟩ ?_
          exact Kn.R Fm (e (a.more_ != (0:Int)) h)
         ·refine AW.dG Fm ([.s,.s,.s,.w (vb true),.s,.s,.k _,.s,.s,.w (vb false),.s,.s,.s,.w (vb false),.s,.s,.s,.s,.s,.s,.s,.s,.s,.s,.w (vb false),.s,.s,.s]++[.s,.s,.s]) (fun K=>_∧K 6∧_∧_∧_∧True) [2,3,8,9] [(59,vb false)] [2,3] [] ⟨ALe.bool c,KAt.CC (term_single_spec q) Tryz.call223 [],ALe.bool j,ALe.bool n,ALe.bool O,⟨⟩⟩ ?_
          exact Kn.R Fm (e false h)
      ·rcases br_or h with ⟨o,h⟩|⟨o,h⟩
       ·obtain ⟨u0,W,h⟩:=bS h
        rcases br_or h with ⟨E,h⟩|⟨E,h⟩
        ·refine AW.dG Fm ([.s,.s,.s,.w (vb false),.s,.s,.s,.s,.s,.s,.s,.s,.s,.w (vb true),.s,.s,.k _,.s,.s,.s,.w (vb true),.s,.s,.s,.s,.s,.s,.s]++[.s,.s,.s]) (fun K=>_∧_∧K 16∧_∧True) [2,3,8,9] [(59,vb true)] [2,3] [] ⟨ALe.bool c,ALe.bool o,KAt.CC (term_single_spec W) Tryz.call223 [],ALe.bool E,⟨⟩⟩ ?_
         exact Kn.R Fm (e true h)
        ·rcases br_or h with ⟨P,h⟩|⟨P,h⟩
         ·refine AW.dG Fm ([.s,.s,.s,.w (vb false),.s,.s,.s,.s,.s,.s,.s,.s,.s,.w (vb true),.s,.s,.k _,.s,.s,.s,.w (vb false),.s,.s,.s,.w (vb true),.s,.s,.s]++[.s,.s,.s]) (fun K=>_∧_∧K 16∧_∧_∧True) [2,3,8,9] [(59,vb (a.more_ != (0:Int)))] [2,3] [] ⟨ALe.bool c,ALe.bool o,KAt.CC (term_single_spec W) Tryz.call223 [],ALe.bool E,ALe.bool P,⟨⟩⟩ ?_
          exact Kn.R Fm (e (a.more_ != (0:Int)) h)
         ·refine AW.dG Fm ([.s,.s,.s,.w (vb false),.s,.s,.s,.s,.s,.s,.s,.s,.s,.w (vb true),.s,.s,.k _,.s,.s,.s,.w (vb false),.s,.s,.s,.w (vb false),.s,.s,.s]++[.s,.s,.s]) (fun K=>_∧_∧K 16∧_∧_∧True) [2,3,8,9] [(59,vb false)] [2,3] [] ⟨ALe.bool c,ALe.bool o,KAt.CC (term_single_spec W) Tryz.call223 [],ALe.bool E,ALe.bool P,⟨⟩⟩ ?_
          exact Kn.R Fm (e false h)
       ·rcases br_or h with ⟨T,h⟩|⟨T,h⟩
        ·refine AW.dpN Fm ([.s,.s,.s,.w (vb false),.s,.s,.s,.s,.s,.s,.s,.s,.s,.w (vb false),.s,.s,.s,.s,.s,.s,.s,.s,.s,.s,.w (vb true),.s,.s,.s]++[.s,.s,.s]) [2,3,8,9] [(59,vb (a.more_ != (0:Int)))] [2,3] [] (cA (ALe.bool c) (cA (ALe.bool o) (cT (ALe.bool T)))) ?_
         exact Kn.R Fm (e (a.more_ != (0:Int)) h)
        ·refine AW.dpN Fm ([.s,.s,.s,.w (vb false),.s,.s,.s,.s,.s,.s,.s,.s,.s,.w (vb false),.s,.s,.s,.s,.s,.s,.s,.s,.s,.s,.w (vb false),.s,.s,.s]++[.s,.s,.s]) [2,3,8,9] [(59,vb false)] [2,3] [] (cA (ALe.bool c) (cA (ALe.bool o) (cT (ALe.bool T)))) ?_
         exact Kn.R Fm (e false h)
   ·rcases br_or h with ⟨i,h⟩|⟨i,h⟩
    ·rcases br_or h with ⟨t,h⟩|⟨t,h⟩
     ·refine AW.dpN Fm [.s,.w (vb true),.s,.s,.s,.s,.w (vb true),.s,.s,.s,.s,.s,.s,.s,.s,.s,.s,.s,.s,.s,.s,.s,.s] [2,3,8,9] [(36,vb true)] [2,3] [] (cA (ALe.bool i) (cT (ALe.bool t))) ?_
      exact Kn.R Fm (m true h)
     ·rcases br_or h with ⟨A,h⟩|⟨A,h⟩
      ·refine AW.dpN Fm [.s,.w (vb true),.s,.s,.s,.s,.w (vb false),.s,.s,.s,.s,.s,.s,.w (vb true),.s,.s,.s,.s,.s,.s,.s,.s,.s] [2,3,8,9] [(36,vb true)] [2,3] [] (cA (ALe.bool i) (cA (ALe.bool t) (cT (ALe.bool A)))) ?_
       exact Kn.R Fm (m true h)
      ·rcases br_or h with ⟨L,h⟩|⟨L,h⟩
       ·refine AW.dpN Fm [.s,.w (vb true),.s,.s,.s,.s,.w (vb false),.s,.s,.s,.s,.s,.s,.w (vb false),.s,.s,.w (vb true),.s,.s,.s,.s,.s,.s] [2,3,8,9] [(36,vb (a.num_ != (0:Int)))] [2,3] [] (cA (ALe.bool i) (cA (ALe.bool t) (cA (ALe.bool A) (cT (ALe.bool L))))) ?_
        exact Kn.R Fm (m (a.num_ != (0:Int)) h)
       ·refine AW.dpN Fm [.s,.w (vb true),.s,.s,.s,.s,.w (vb false),.s,.s,.s,.s,.s,.s,.w (vb false),.s,.s,.w (vb false),.s,.s,.s,.s,.s,.s] [2,3,8,9] [(36,vb false)] [2,3] [] (cA (ALe.bool i) (cA (ALe.bool t) (cA (ALe.bool A) (cT (ALe.bool L))))) ?_
        exact Kn.R Fm (m false h)
    ·rcases br_or h with ⟨M,h⟩|⟨M,h⟩
     ·refine AW.dpN Fm [.s,.w (vb false),.s,.s,.s,.s,.s,.s,.s,.s,.s,.s,.s,.s,.s,.s,.w (vb true),.s,.s,.s,.s,.s,.s] [2,3,8,9] [(36,vb (a.num_ != (0:Int)))] [2,3] [] (cA (ALe.bool i) (cT (ALe.bool M))) ?_
      exact Kn.R Fm (m (a.num_ != (0:Int)) h)
     ·refine AW.dpN Fm [.s,.w (vb false),.s,.s,.s,.s,.s,.s,.s,.s,.s,.s,.s,.s,.s,.s,.w (vb false),.s,.s,.s,.s,.s,.s] [2,3,8,9] [(36,vb false)] [2,3] [] (cA (ALe.bool i) (cT (ALe.bool M))) ?_
      exact Kn.R Fm (m false h)
 ·rcases br_or h with ⟨u,h⟩|⟨u,h⟩
  ·refine AW.dpN Fm [.s,.s,.s,.w (vb true),.s,.s,.s,.s,.s,.s,.s,.s,.s] [2,3,5,6,7,8,9] [(23,vb true)] [2,3] [] (cT (ALe.bool u)) ?_
   exact Kn.R Fm (H true h)
  ·rcases br_or h with ⟨I,h⟩|⟨I,h⟩
   ·refine AW.dpN Fm [.s,.s,.s,.w (vb false),.s,.s,.s,.s,.w (vb true),.s,.s,.s,.s] [2,3,5,6,7,8,9] [(23,vb true)] [2,3] [] (cA (ALe.bool u) (cT (ALe.bool I))) ?_
    exact Kn.R Fm (H true h)
   ·refine AW.dpN Fm [.s,.s,.s,.w (vb false),.s,.s,.s,.s,.w (vb false),.s,.s,.s,.s] [2,3,5,6,7,8,9] [(23,vb (b==(0:Int)))] [2,3] [] (cA (ALe.bool u) (cT (ALe.bool I))) ?_
    exact Kn.R Fm (H (b==(0:Int)) h)
theorem term_right_spec : ∀ {F:Nat} {a:Term} {b:Int} {r:Bool},term_right F a b=some r →
  FSpec Tryz.prog 183 [.v (.g [ci a.op_,ci a.num_,ci a.more_,.d (DL a.kids_)]),vi b] [] (vb r) []
 | 0,_,_,_,h=>by cases h
 | F+1,_,_,_,h=>term_right_B_spec term_right_spec (F:=F) (rc:=term_right F) h
theorem term_Check_spec {F:Nat} {a:Term} {r:Int} (h:term_Check F a=some r) :
  FSpec Tryz.prog 138 [.v (.g [ci a.op_,ci a.num_,ci a.more_,.d (DL a.kids_)])] [] (vi r) []:=by
 refine FI Tryz.func138 prog_mixed prog_lay fun C Fm=>?_
 unfold term_Check at h
 refine AW.dSG0 Fm 2 [] [(1,pt 1)] [] [(1,bx [ci a.op_,ci a.num_,ci a.more_,.d (DL a.kids_)])] ?_
 refine AW.seq (AW.block (AW.seq ?_))
 obtain ⟨j,e,h⟩:=bS h
 refine AW.dG Fm [.s,.k _,.s,.s] (fun K=>K 1∧True) [1] [(3,vb (decide ((40:Int)<j)))] [1] [] ⟨KAt.CC (term_count_spec e) Tryz.call182 [],⟨⟩⟩ ?_
 refine AW.cN h (fun b h=>?_) (fun b h=>?_)
 ·refine AW.dSG0 Fm 1 [] [(2,vi 1)] [] [] ?_
  refine AW.ret ?_
  obtain rfl:=Option.some.inj h
  exact Kn.D Fm
 ·refine AW.seq ?_
  obtain ⟨l,i,h⟩:=bS h
  refine AW.dG Fm [.s,.k _,.s,.s] (fun K=>K 1∧True) [] [(7,vb (!l))] [] [] ⟨KAt.CC (term_right_spec i) Tryz.call183 [],⟨⟩⟩ ?_
  refine AW.cN h (fun c h=>?_) (fun c h=>?_)
  ·refine AW.dSG0 Fm 1 [] [(2,vi 16)] [] [] ?_
   refine AW.ret ?_
   obtain rfl:=Option.some.inj h
   exact Kn.D Fm
  ·refine AW.skip (AW.dSG0 Fm 1 [] [(2,vi 0)] [] [] ?_)
   refine AW.ret ?_
   obtain rfl:=Option.some.inj h
   exact Kn.D Fm
theorem scheme_brackets_spec {F:Nat} {a:(List Bracket)} {r:Bool} (h:scheme_brackets F a=some r) :
  FSpec Tryz.prog 139 [AL a] [] (vb r) []:=by
 refine FI Tryz.func139 prog_mixed prog_lay fun C Fm=>?_
 unfold scheme_brackets at h
 refine AW.dSG0 Fm 1 [0] [] [] [] ?_
 refine AW.dJ (r:=r) (fun z:Unit=>scheme_brackets_k2 F a) [0] (fun _=>[]) [] (fun _=>[]) (fun z h=>?_) (fun I q=>?_)
 ·refine AW.dJ (r:=r) (fun z:Bool=>scheme_brackets_k3 F z) [] (fun z=>[(2,vb z)]) [] (fun _=>[]) (fun M h=>?_) (fun K n=>?_)
  ·refine AW.ret ?_
   obtain rfl:=Option.some.inj h
   exact Kn.D Fm
  ·rcases br_or h with ⟨m,h⟩|⟨m,h⟩
   ·refine AW.dpN Fm [.s,.s,.s,.w (vb true),.s,.s,.s,.s,.s] [] [(2,vb (decide ((lI a)≤(6:Int))))] [] [] (cT (ALe.bool m)) ?_
    exact Kn.R Fm (n (decide ((lI a)≤(6:Int))) h)
   ·refine AW.dpN Fm [.s,.s,.s,.w (vb false),.s,.s,.s,.s,.s] [] [(2,vb false)] [] [] (cT (ALe.bool m)) ?_
    exact Kn.R Fm (n false h)
 ·refine AW.dSG0 Fm 3 [0] [(5,AL a),(6,vi (lI a)),(7,vi 0)] [] [] ?_
  refine AW.block (Kn.r Fm [(0,AL a),(5,AL a),(6,vi (lI a)),(7,vi 0)] [] (by kernel_rfl) ?_)
  refine AW.loopF (E' := fun z=>[(0,AL a),(5,AL a),(6,vi (lI a)),(7,vi z)]) (S' := fun z=>[]) (fun o b G p h=>?_) h
  refine AW.dSG0 Fm 1 [0,5,6,7] [(8,vb (decide (b<(lI a))))] [] [] ?_
  refine AW.seq (AW.cN h (fun t h=>?_) (fun t h=>?_))
  ·refine AW.skip (AW.seq (AW.block ?_))
   obtain ⟨y,h⟩:=gS h
   refine AW.dSP Fm [.s,.s,.s,.s,.s,.s] [0,5,6,7] [(3,vi b),(4,pt 4)] [] [(4,bx [ci ((gl a b.toNat).up_),ci ((gl a b.toNat).rate_)])] (cT y) ?_
   refine AW.dJ (r:=r) (fun z:Bool=>scheme_brackets_k1 F b o z) [0,5,6,7] (fun z=>[(44,vb z)]) [] (fun _=>[]) (fun L h=>?_) (fun H e=>?_)
   ·refine AW.cN h (fun u h=>?_) (fun u h=>?_)
    ·refine AW.dSG0 Fm 1 [] [(2,vb false)] [] [] ?_
     refine AW.ret ?_
     obtain rfl:=Option.some.inj h
     exact Kn.D Fm
    ·refine AW.skip ?_
     obtain ⟨E,h⟩:=gS h
     refine AW.dpN Fm [.s,.s] [0,5,6] [(7,vi (b+1))] [] [] (cT (cT E)) ?_
     exact Kn.R Fm (p (b+1) h)
   ·rcases br_or h with ⟨d,h⟩|⟨d,h⟩
    ·refine AW.dpN Fm ([.s,.s,.s,.w (vb true),.s,.s,.s,.s,.s,.s,.s,.s,.s,.s,.s,.s,.s,.s,.s,.s,.s,.s,.s,.s,.s,.s,.s,.s]++[.s,.s,.s,.s,.s]) [0,5,6,7] [(44,vb true)] [] [] (cT (ALe.bool d)) ?_
     exact Kn.R Fm (e true h)
    ·rcases br_or h with ⟨i,h⟩|⟨i,h⟩
     ·refine AW.dpN Fm ([.s,.s,.s,.w (vb false),.s,.s,.s,.s,.w (vb true),.s,.s,.s,.s,.s,.s,.s,.s,.s,.s,.s,.s,.s,.s,.s,.s,.s,.s,.s]++[.s,.s,.s,.s,.s]) [0,5,6,7] [(16,pt 4),(17,vi (gl a b.toNat).up_),(18,vb (decide ((268435456:Int)<((gl a b.toNat).up_)))),(44,vb true)] [4] [] (cA (ALe.bool d) (cT (ALe.bool i))) ?_
      exact Kn.R Fm (e true h)
     ·rcases br_or h with ⟨j,h⟩|⟨j,h⟩
      ·refine AW.dpN Fm ([.s,.s,.s,.w (vb false),.s,.s,.s,.s,.w (vb false),.s,.s,.s,.s,.w (vb true),.s,.s,.s,.s,.s,.s,.s,.s,.s,.s,.s,.s,.s,.s]++[.s,.s,.s,.s,.s]) [0,5,6,7] [(16,pt 4),(17,vi (gl a b.toNat).up_),(18,vb (decide ((268435456:Int)<((gl a b.toNat).up_)))),(21,.v (.c (.ptr 4 1))),(22,vi (gl a b.toNat).rate_),(23,vb (decide (((gl a b.toNat).rate_)<(0:Int)))),(44,vb true)] [4] [] (cA (ALe.bool d) (cA (ALe.bool i) (cT (ALe.bool j)))) ?_
       exact Kn.R Fm (e true h)
      ·rcases br_or h with ⟨k,h⟩|⟨k,h⟩
       ·refine AW.dpN Fm ([.s,.s,.s,.w (vb false),.s,.s,.s,.s,.w (vb false),.s,.s,.s,.s,.w (vb false),.s,.s,.s,.s,.w (vb true),.s,.s,.s,.s,.s,.s,.s,.s,.s]++[.s,.s,.s,.s,.s]) [0,5,6,7] [(16,pt 4),(17,vi (gl a b.toNat).up_),(18,vb (decide ((268435456:Int)<((gl a b.toNat).up_)))),(21,.v (.c (.ptr 4 1))),(22,vi (gl a b.toNat).rate_),(23,vb (decide (((gl a b.toNat).rate_)<(0:Int)))),(26,.v (.c (.ptr 4 1))),(27,vi (gl a b.toNat).rate_),(28,vb (decide ((1048576:Int)<((gl a b.toNat).rate_)))),(44,vb true)] [4] [] (cA (ALe.bool d) (cA (ALe.bool i) (cA (ALe.bool j) (cT (ALe.bool k))))) ?_
        exact Kn.R Fm (e true h)
       ·rcases br_or h with ⟨l,h⟩|⟨l,h⟩
        ·obtain ⟨A,B,h⟩:=gS2 h
         refine AW.dpN Fm ([.s,.s,.s,.w (vb false),.s,.s,.s,.s,.w (vb false),.s,.s,.s,.s,.w (vb false),.s,.s,.s,.s,.w (vb false),.s,.s,.w (vb true),.s,.s,.s,.s,.s,.s]++[.s,.s,.s,.s,.s]) [0,5,6,7] [(16,pt 4),(17,vi (gl a b.toNat).up_),(18,vb (decide ((268435456:Int)<((gl a b.toNat).up_)))),(21,.v (.c (.ptr 4 1))),(22,vi (gl a b.toNat).rate_),(23,vb (decide (((gl a b.toNat).rate_)<(0:Int)))),(26,.v (.c (.ptr 4 1))),(27,vi (gl a b.toNat).rate_),(28,vb (decide ((1048576:Int)<((gl a b.toNat).rate_)))),(31,vi b),(32,vb (decide ((0:Int)<b))),(33,vb true),(34,pt 4),(35,vi (gl a b.toNat).up_),(36,AL a),(37,vi b),(38,vi (b-1)),(39,.v (.c (.elm [.int .i64 (gl a (b-1).toNat).up_,.int .i64 (gl a (b-1).toNat).rate_]))),(40,.v (.c (.elm [.int .i64 (gl a (b-1).toNat).up_,.int .i64 (gl a (b-1).toNat).rate_]))),(41,vi (gl a (b-1).toNat).up_),(42,vb (decide (((gl a b.toNat).up_)≤((gl a (b-1).toNat).up_)))),(43,vb (decide (((gl a b.toNat).up_)≤((gl a (b-1).toNat).up_)))),(44,vb (decide (((gl a b.toNat).up_)≤((gl a (b-1).toNat).up_))))] [4] [] (cA (ALe.bool d) (cA (ALe.bool i) (cA (ALe.bool j) (cA (ALe.bool k) (cA (ALe.bool l) (cA (cT A) (cT B))))))) ?_
         exact Kn.R Fm (e (decide (((gl a b.toNat).up_)≤((gl a (b-1).toNat).up_))) h)
        ·refine AW.dpN Fm ([.s,.s,.s,.w (vb false),.s,.s,.s,.s,.w (vb false),.s,.s,.s,.s,.w (vb false),.s,.s,.s,.s,.w (vb false),.s,.s,.w (vb false),.s,.s,.s,.s,.s,.s]++[.s,.s,.s,.s,.s]) [0,5,6,7] [(16,pt 4),(17,vi (gl a b.toNat).up_),(18,vb (decide ((268435456:Int)<((gl a b.toNat).up_)))),(21,.v (.c (.ptr 4 1))),(22,vi (gl a b.toNat).rate_),(23,vb (decide (((gl a b.toNat).rate_)<(0:Int)))),(26,.v (.c (.ptr 4 1))),(27,vi (gl a b.toNat).rate_),(28,vb (decide ((1048576:Int)<((gl a b.toNat).rate_)))),(31,vi b),(32,vb (decide ((0:Int)<b))),(33,vb false),(43,vb false),(44,vb false)] [4] [] (cA (ALe.bool d) (cA (ALe.bool i) (cA (ALe.bool j) (cA (ALe.bool k) (cT (ALe.bool l)))))) ?_
         exact Kn.R Fm (e false h)
  ·exact AW.exit (Kn.R Fm (q () h))
theorem scheme_Valid_spec {F:Nat} {a:Scheme} {r:Int} (h:scheme_Valid F a=some r) :
  FSpec Tryz.prog 84 [gE a] [] (vi r) []:=by
 refine FI Tryz.func84 prog_mixed prog_lay fun C Fm=>?_
 unfold scheme_Valid at h
 refine AW.dSG0 Fm 2 [] [(1,pt 1)] [] [(1,bx (gC a))] ?_
 refine AW.seq (AW.block (AW.dJ (r:=r) (fun z:Bool=>scheme_Valid_k0 F a z) [1] (fun z=>[(4,vb z)]) [1] (fun _=>[]) (fun I h=>?_) (fun G d=>?_)))
 ·refine AW.cN h (fun p h=>?_) (fun p h=>?_)
  ·refine AW.dSG0 Fm 1 [] [(2,vi 2)] [] [] ?_
   refine AW.ret ?_
   obtain rfl:=Option.some.inj h
   exact Kn.D Fm
  ·refine AW.seq ?_
   obtain ⟨E,A,h⟩:=bS h
   refine AW.dG Fm [.s,.s,.k _,.s,.s] (fun K=>K 2∧True) [1] [(23,vb (!E))] [1] [] ⟨KAt.CC (words_Name_spec A) Tryz.call137 [],⟨⟩⟩ ?_
   refine AW.cN h (fun q h=>?_) (fun q h=>?_)
   ·refine AW.dSG0 Fm 1 [] [(2,vi 5)] [] [] ?_
    refine AW.ret ?_
    obtain rfl:=Option.some.inj h
    exact Kn.D Fm
   ·refine AW.skip (AW.seq (AW.seq ?_))
    obtain ⟨o,B,h⟩:=bS h
    refine AW.dG Fm [.s,.s,.k _,.s] (fun K=>K 2∧True) [1] [(3,vi o)] [1] [] ⟨KAt.CC (term_Check_spec B) Tryz.call138 [],⟨⟩⟩ ?_
    refine AW.dSG0 Fm 2 [1,3] [(32,vb (o != (0:Int)))] [1] [] ?_
    refine AW.cN h (fun t h=>?_) (fun t h=>?_)
    ·refine AW.dSG0 Fm 2 [] [(2,vi o)] [] [] ?_
     refine AW.ret ?_
     obtain rfl:=Option.some.inj h
     exact Kn.D Fm
    ·refine AW.skip (AW.seq (AW.dJ (r:=r) (fun z:Bool=>scheme_Valid_k1 F z) [] (fun z=>[(56,vb z)]) [] (fun _=>[]) (fun L h=>?_) (fun H e=>?_)))
     ·refine AW.cN h (fun u h=>?_) (fun u h=>?_)
      ·refine AW.dSG0 Fm 1 [] [(2,vi 3)] [] [] ?_
       refine AW.ret ?_
       obtain rfl:=Option.some.inj h
       exact Kn.D Fm
      ·refine AW.skip (AW.dSG0 Fm 1 [] [(2,vi 0)] [] [] ?_)
       refine AW.ret ?_
       obtain rfl:=Option.some.inj h
       exact Kn.D Fm
     ·obtain ⟨M,l,h⟩:=bS h
      rcases br_or h with ⟨c,h⟩|⟨c,h⟩
      ·refine AW.dG Fm [.s,.s,.k _,.s,.w (vb true),.s,.s,.s,.s,.s,.s,.s,.s,.s,.s,.s,.s,.s,.s,.s,.s,.s,.s] (fun K=>K 2∧_∧True) [] [(56,vb true)] [] [] ⟨KAt.CC (scheme_brackets_spec l) Tryz.call139 [],ALe.bool c,⟨⟩⟩ ?_
       exact Kn.R Fm (e true h)
      ·rcases br_or h with ⟨j,h⟩|⟨j,h⟩
       ·refine AW.dG Fm [.s,.s,.k _,.s,.w (vb false),.s,.s,.s,.s,.w (vb true),.s,.s,.s,.s,.s,.s,.s,.s,.s,.s,.s,.s,.s] (fun K=>K 2∧_∧_∧True) [] [(56,vb true)] [] [] ⟨KAt.CC (scheme_brackets_spec l) Tryz.call139 [],ALe.bool c,ALe.bool j,⟨⟩⟩ ?_
        exact Kn.R Fm (e true h)
       ·rcases br_or h with ⟨n,h⟩|⟨n,h⟩
        ·refine AW.dG Fm [.s,.s,.k _,.s,.w (vb false),.s,.s,.s,.s,.w (vb false),.s,.s,.s,.s,.w (vb true),.s,.s,.s,.s,.s,.s,.s,.s] (fun K=>K 2∧_∧_∧_∧True) [] [(56,vb true)] [] [] ⟨KAt.CC (scheme_brackets_spec l) Tryz.call139 [],ALe.bool c,ALe.bool j,ALe.bool n,⟨⟩⟩ ?_
         exact Kn.R Fm (e true h)
        ·obtain ⟨y,h⟩:=gS h
         refine AW.dG Fm [.s,.s,.k _,.s,.w (vb false),.s,.s,.s,.s,.w (vb false),.s,.s,.s,.s,.w (vb false),.s,.s,.s,.s,.s,.s,.s,.s] (fun K=>K 2∧_∧_∧_∧_∧True) [] [(56,vb ((band .i64 (a.excludes_.fdiv (2 ^ (min (a.number_).toNat (IntKind.bits .i64)))) (1:Int))==(1:Int)))] [] [] ⟨KAt.CC (scheme_brackets_spec l) Tryz.call139 [],ALe.bool c,ALe.bool j,ALe.bool n,y,⟨⟩⟩ ?_
         exact Kn.R Fm (e ((band .i64 (a.excludes_.fdiv (2 ^ (min (a.number_).toNat (IntKind.bits .i64)))) (1:Int))==(1:Int)) h)
 ·rcases br_or h with ⟨b,h⟩|⟨b,h⟩
  ·refine AW.dpN Fm [.s,.s,.s,.w (vb true),.s,.s,.s,.s,.s,.s,.s,.s,.s,.s,.s,.s,.s,.s,.s] [1] [(4,vb true)] [1] [] (cT (ALe.bool b)) ?_
   exact Kn.R Fm (d true h)
  ·rcases br_or h with ⟨i,h⟩|⟨i,h⟩
   ·refine AW.dpN Fm [.s,.s,.s,.w (vb false),.s,.s,.s,.s,.w (vb true),.s,.s,.s,.s,.s,.s,.s,.s,.s,.s] [1] [(4,vb true)] [1] [] (cA (ALe.bool b) (cT (ALe.bool i))) ?_
    exact Kn.R Fm (d true h)
   ·rcases br_or h with ⟨m,h⟩|⟨m,h⟩
    ·refine AW.dpN Fm [.s,.s,.s,.w (vb false),.s,.s,.s,.s,.w (vb false),.s,.s,.s,.s,.w (vb true),.s,.s,.s,.s,.s] [1] [(4,vb true)] [1] [] (cA (ALe.bool b) (cA (ALe.bool i) (cT (ALe.bool m)))) ?_
     exact Kn.R Fm (d true h)
    ·refine AW.dpN Fm [.s,.s,.s,.w (vb false),.s,.s,.s,.s,.w (vb false),.s,.s,.s,.s,.w (vb false),.s,.s,.s,.s,.s] [1] [(4,vb (decide ((268435456:Int)<a.least_)))] [1] [] (cA (ALe.bool b) (cA (ALe.bool i) (cT (ALe.bool m)))) ?_
     exact Kn.R Fm (d (decide ((268435456:Int)<a.least_)) h)
theorem scheme_Check_1_spec {F:Nat} {c:Scheme} {d:Scheme} {r:Bool} (h:scheme_Check_1 F c d=some r) :
  FSpec Tryz.prog 167 [gE c,pt 0] [(0,.box true (gC d))] (vb r) [(0,.box true (gC d))]:=by
 refine FI Tryz.func167 prog_mixed prog_lay fun C Fm=>?_
 unfold scheme_Check_1 at h
 refine AW.dSG0 Fm 2 [1] [(2,pt 2)] [0] [(2,bx (gC c))] ?_
 refine AW.dSG Fm [.s,.s,.s,.s,.k (sE (vb (sEq c.name_ d.name_))),.s] (fun K=>K 4∧True) [] [(3,vb (sEq c.name_ d.name_))] [0] [] ⟨KAt.strC (op:=.eql) (a:=c.name_) (b:=d.name_) rfl rfl (by kernel_rfl) (by kernel_rfl) (by kernel_rfl) rfl,⟨⟩⟩ ?_
 refine AW.ret ?_
 obtain rfl:=Option.some.inj h
 exact Kn.D Fm
theorem slices_IndexFunc_Scheme_spec {F:Nat} {a:(List Scheme)} {e:Scheme→Option Bool} {r:Int} (h:slices_IndexFunc_Scheme F a e=some r) :
  FSpec Tryz.prog 164 [AL a,.v (.c (.sem (CloOK Tryz.prog (FR_Scheme_Bool e))))] [] (vi r) []:=by
 refine FI Tryz.func164 prog_mixed prog_lay fun C Fm=>?_
 unfold slices_IndexFunc_Scheme at h
 refine AW.dSG0 Fm 1 [0,1] [] [] [] ?_
 refine AW.dJ (r:=r) (fun z:Unit=>slices_IndexFunc_Scheme_k1 F) [] (fun _=>[]) [] (fun _=>[]) (fun z h=>?_) (fun u l=>?_)
 ·refine AW.dSG0 Fm 1 [] [(4,vi (-1:Int))] [] [] ?_
  refine AW.ret ?_
  obtain rfl:=Option.some.inj h
  exact Kn.D Fm
 ·refine AW.dSG0 Fm 3 [0,1] [(7,vi (lI a)),(8,vi 0)] [] [] ?_
  refine AW.block (Kn.r Fm [(0,AL a),(1,.v (.c (.sem (CloOK Tryz.prog (FR_Scheme_Bool e))))),(7,vi (lI a)),(8,vi 0)] [] (by kernel_rfl) ?_)
  refine AW.loopF (E' := fun z=>[(0,AL a),(1,.v (.c (.sem (CloOK Tryz.prog (FR_Scheme_Bool e))))),(7,vi (lI a)),(8,vi z)]) (S' := fun z=>[]) (fun w b t j h=>?_) h
  refine AW.dSG0 Fm 1 [0,1,7,8] [(9,vb (decide (b<(lI a))))] [] [] ?_
  refine AW.seq (AW.cN h (fun m h=>?_) (fun m h=>?_))
  ·refine AW.skip (AW.seq (AW.block (AW.dSG0 Fm 2 [0,1,7,8] [(5,vi b)] [] [] ?_)))
   refine AW.seq ?_
   obtain ⟨o,h⟩:=gS h
   obtain ⟨i,q,h⟩:=bS h
   refine AW.dG Fm [.s,.s,.s,.s,.s,.k (sE (vb i))] (fun K=>_∧K 5∧True) [0,1,5,7,8] [(16,vb i)] [] [] ⟨o,KAt.sem (F:=(FR_Scheme_Bool e)) (args:=[.v (.g [ci ((gl a b.toNat).number_),.d (.str (gl a b.toNat).name_),ci ((gl a b.toNat).cond_.op_),ci ((gl a b.toNat).cond_.num_),ci ((gl a b.toNat).cond_.more_),.d (DL (α:=Term) (gl a b.toNat).cond_.kids_),.d (DL (α:=Bracket) (gl a b.toNat).brackets_),ci ((gl a b.toNat).least_),ci ((gl a b.toNat).excludes_),.d (.bool (gl a b.toNat).needs_)])]) ⟨(gl a b.toNat),i,q,rfl,rfl⟩ rfl (by kernel_rfl) (by kernel_rfl) (by kernel_rfl),⟨⟩⟩ ?_
   refine AW.cN h (fun n h=>?_) (fun n h=>?_)
   ·refine AW.dSG0 Fm 2 [] [(4,vi b)] [] [] ?_
    refine AW.ret ?_
    obtain rfl:=Option.some.inj h
    exact Kn.D Fm
   ·refine AW.skip ?_
    obtain ⟨p,h⟩:=gS h
    refine AW.dpN Fm [.s,.s] [0,1,7] [(8,vi (b+1))] [] [] (cT (cT p)) ?_
    exact Kn.R Fm (j (b+1) h)
  ·exact AW.exit (Kn.R Fm (l () h))
theorem slices_ContainsFunc_Scheme_spec {F:Nat} {a:(List Scheme)} {b:Scheme→Option Bool} {r:Bool} (h:slices_ContainsFunc_Scheme F a b=some r) :
  FSpec Tryz.prog 166 [AL a,.v (.c (.sem (CloOK Tryz.prog (FR_Scheme_Bool b))))] [] (vb r) []:=by
 refine FI Tryz.func166 prog_mixed prog_lay fun C Fm=>?_
 unfold slices_ContainsFunc_Scheme at h
 refine AW.dSG0 Fm 1 [0,1] [] [] [] ?_
 refine AW.seq ?_
 obtain ⟨d,e,h⟩:=bS h
 refine AW.dG Fm [.s,.s,.k (cE [] [] (vi d) [] []),.s,.s] (fun K=>K 2∧True) [] [(4,vb (decide ((0:Int)≤d)))] [] [] ⟨KAt.callX (slices_IndexFunc_Scheme_spec e) Tryz.call164 [] [] [.tmp 5,.tmp 6] rfl (by kernel_rfl) (by kernel_rfl) (by kernel_rfl) ⟨.p,ArgT.semX (by kernel_rfl) (by kernel_rfl) (by kernel_rfl),⟨⟩⟩,⟨⟩⟩ ?_
 refine AW.ret ?_
 obtain rfl:=Option.some.inj h
 exact Kn.D Fm
theorem scheme_Find_1_spec {F:Nat} {a:Scheme} {b:Int} {r:Bool} (h:scheme_Find_1 F a b=some r) :
  FSpec Tryz.prog 165 [gE a,pt 0] [(0,.box true [ci b])] (vb r) [(0,.box true [ci b])]:=by
 refine FI Tryz.func165 prog_mixed prog_lay fun C Fm=>?_
 unfold scheme_Find_1 at h
 refine AW.dSG0 Fm 2 [1] [(2,pt 2)] [0] [(2,bx (gC a))] ?_
 refine AW.dSG0 Fm 5 [] [(3,vb (a.number_==b))] [0] [] ?_
 refine AW.ret ?_
 obtain rfl:=Option.some.inj h
 exact Kn.D Fm
theorem scheme_Find_spec {F:Nat} {b:(List Scheme)} {a:Int} {r:Int} (h:scheme_Find F b a=some r) :
  FSpec Tryz.prog 105 [AL b,vi a] [] (vi r) []:=by
 refine FI Tryz.func105 prog_mixed prog_lay fun C Fm=>?_
 unfold scheme_Find at h
 refine AW.dSG0 Fm 2 [0] [(3,pt 3)] [] [(3,bx [ci a])] ?_
 refine AW.seq ?_
 obtain ⟨c,d,h⟩:=bS h
 refine AW.dG Fm [.s,.s,.k (cE [] [3] (vi c) [] []),.s] (fun K=>K 2∧True) [] [(4,vi c)] [] [] ⟨KAt.callX (slices_IndexFunc_Scheme_spec d) Tryz.call164 [] [3] [.tmp 5,.tmp 6] rfl (by kernel_rfl) (by kernel_rfl) (by kernel_rfl) ⟨.p,ArgT.cloX Tryz.call165 [[ci a]] (fun args r hq=>by obtain ⟨y0,y,hq,rfl,rfl⟩:=hq; exact Eq.mp (by kernel_rfl) (scheme_Find_1_spec hq)) (fun args r hq=>by obtain ⟨y0,y,hq,rfl,rfl⟩:=hq; rfl) (by kernel_rfl) [3] (by kernel_rfl) (by kernel_rfl) (⟨⟨false,(by kernel_rfl)⟩,⟨⟩⟩) (by kernel_rfl),⟨⟩⟩,⟨⟩⟩ ?_
 refine AW.ret ?_
 obtain rfl:=Option.some.inj h
 exact Kn.D Fm
theorem scheme_mutual_spec {F:Nat} {a:(List Scheme)} {d:Scheme} {r:Bool} (h:scheme_mutual F a d=some r) :
  FSpec Tryz.prog 168 [AL a,gE d] [] (vb r) []:=by
 refine FI Tryz.func168 prog_mixed prog_lay fun C Fm=>?_
 unfold scheme_mutual at h
 refine AW.dSG0 Fm 2 [0] [(3,pt 3)] [] [(3,bx (gC d))] ?_
 refine AW.dJ (r:=r) (fun z:Unit=>scheme_mutual_k3 F) [] (fun _=>[]) [] (fun _=>[]) (fun z h=>?_) (fun L o=>?_)
 ·refine AW.dSG0 Fm 1 [] [(4,vb true)] [] [] ?_
  refine AW.ret ?_
  obtain rfl:=Option.some.inj h
  exact Kn.D Fm
 ·refine AW.dSG0 Fm 1 [0,3] [(7,vi 0)] [3] [] ?_
  refine AW.block (Kn.r Fm [(0,AL a),(3,pt 3),(7,vi 0)] [(3,bx (gC d))] (by kernel_rfl) ?_)
  refine AW.loopF (E' := fun z=>[(0,AL a),(3,pt 3),(7,vi z)]) (S' := fun z=>[(3,bx (gC d))]) (fun j e G n h=>?_) h
  refine AW.dSG0 Fm 1 [0,3,7] [(8,vb (decide (e<(16:Int))))] [3] [] ?_
  refine AW.seq (AW.cN h (fun p h=>?_) (fun p h=>?_))
  ·refine AW.skip (AW.dJ (r:=r) (fun z:Unit=>scheme_mutual_k2 F e j) [0,3,7] (fun _=>[]) [3] (fun _=>[]) (fun z h=>?_) (fun I m=>?_))
   ·obtain ⟨B,h⟩:=gS h
    refine AW.dpN Fm [.s,.s] [0,3] [(7,vi (e+1))] [3] [] (cT (cT B)) ?_
    exact Kn.R Fm (n (e+1) h)
   ·refine AW.block (AW.dSG0 Fm 2 [0,3,7] [(5,vi e)] [3] [] ?_)
    refine AW.seq ?_
    obtain ⟨u,h⟩:=gS h
    refine AW.dSP Fm [.s,.s,.s,.s,.s,.s] [0,3,5,7] [(15,vb ((band .i64 (d.excludes_.fdiv (2 ^ (min (e).toNat (IntKind.bits .i64)))) (1:Int))==(0:Int)))] [3] [] (cT u) ?_
    refine AW.cN h (fun q h=>?_) (fun q h=>?_)
    ·exact AW.exit (Kn.R Fm (m () h))
    ·refine AW.skip (AW.seq ?_)
     obtain ⟨b,E,h⟩:=bS h
     refine AW.dG Fm [.s,.s,.k _,.s] (fun K=>K 2∧True) [0,3,7] [(6,vi b)] [3] [] ⟨KAt.CC (scheme_Find_spec E) Tryz.call105 [],⟨⟩⟩ ?_
     refine AW.dJ (r:=r) (fun z:Bool=>scheme_mutual_k1 F e j z) [0,3,7] (fun z=>[(32,vb z)]) [3] (fun _=>[]) (fun M h=>?_) (fun H l=>?_)
     ·refine AW.cN h (fun t h=>?_) (fun t h=>?_)
      ·refine AW.dSG0 Fm 1 [] [(4,vb false)] [] [] ?_
       refine AW.ret ?_
       obtain rfl:=Option.some.inj h
       exact Kn.D Fm
      ·exact AW.skip (Kn.R Fm (m () h))
     ·rcases br_or h with ⟨i,h⟩|⟨i,h⟩
      ·refine AW.dpN Fm [.s,.s,.w (vb true),.s,.s,.s,.s,.s,.s,.s,.s,.s,.s,.s] [0,3,7] [(32,vb true)] [3] [] (cT (ALe.bool i)) ?_
       exact Kn.R Fm (l true h)
      ·obtain ⟨y,A,h⟩:=gS2 h
       refine AW.dpN Fm [.s,.s,.w (vb false),.s,.s,.s,.s,.s,.s,.s,.s,.s,.s,.s] [0,3,7] [(22,AL a),(23,vi b),(24,.v (.c (.elm [.int .i64 (gl a b.toNat).number_,.str (gl a b.toNat).name_,.int .i64 (gl a b.toNat).cond_.op_,.int .i64 (gl a b.toNat).cond_.num_,.int .i64 (gl a b.toNat).cond_.more_,DL (α:=Term) (gl a b.toNat).cond_.kids_,DL (α:=Bracket) (gl a b.toNat).brackets_,.int .i64 (gl a b.toNat).least_,.int .i64 (gl a b.toNat).excludes_,.bool (gl a b.toNat).needs_]))),(25,.v (.c (.elm [.int .i64 (gl a b.toNat).excludes_,.bool (gl a b.toNat).needs_]))),(26,vi (gl a b.toNat).excludes_),(27,pt 3),(28,vi d.number_),(29,vi (((gl a b.toNat).excludes_).fdiv (2 ^ (min (d.number_).toNat (IntKind.bits .i64))))),(30,vi (band .i64 (((gl a b.toNat).excludes_).fdiv (2 ^ (min (d.number_).toNat (IntKind.bits .i64)))) (1:Int))),(31,vb ((band .i64 (((gl a b.toNat).excludes_).fdiv (2 ^ (min (d.number_).toNat (IntKind.bits .i64)))) (1:Int))==(0:Int))),(32,vb ((band .i64 (((gl a b.toNat).excludes_).fdiv (2 ^ (min (d.number_).toNat (IntKind.bits .i64)))) (1:Int))==(0:Int)))] [3] [] (cA (ALe.bool i) (cA y (cT A))) ?_
       exact Kn.R Fm (l ((band .i64 (((gl a b.toNat).excludes_).fdiv (2 ^ (min (d.number_).toNat (IntKind.bits .i64)))) (1:Int))==(0:Int)) h)
  ·exact AW.exit (Kn.R Fm (o () h))
theorem scheme_Check_spec {F:Nat} {a:(List Scheme)} {r:Int×Int} (h:scheme_Check F a=some r) :
  FSpec Tryz.prog 109 [AL a] [] (.t [.c (ci r.1),.c (ci r.2)]) []:=by
 refine FI Tryz.func109 prog_mixed prog_lay fun C Fm=>?_
 unfold scheme_Check at h
 refine AW.dSG0 Fm 2 [0] [] [] [] ?_
 refine AW.seq (AW.dSG0 Fm 3 [0] [(11,vb (decide ((16:Int)<(lI a))))] [] [] ?_)
 refine AW.cN h (fun N h=>?_) (fun N h=>?_)
 ·refine AW.dSG0 Fm 2 [] [(2,vi 0),(3,vi 1)] [] [] ?_
  refine AW.ret ?_
  obtain rfl:=Option.some.inj h
  exact Kn.D Fm
 ·refine AW.skip (AW.dJ (r:=r) (fun z:Unit=>scheme_Check_k2 F a) [0] (fun _=>[]) [] (fun _=>[]) (fun z h=>?_) (fun k0 I=>?_))
  ·refine AW.dJ (r:=r) (fun z:Unit=>scheme_Check_k4 F) [] (fun _=>[]) [] (fun _=>[]) (fun z h=>?_) (fun m0 M=>?_)
   ·refine AW.dSG0 Fm 2 [] [(2,vi (-1:Int)),(3,vi 0)] [] [] ?_
    refine AW.ret ?_
    obtain rfl:=Option.some.inj h
    exact Kn.D Fm
   ·refine AW.dSG0 Fm 3 [0] [(47,AL a),(48,vi (lI a)),(49,vi 0)] [] [] ?_
    refine AW.block (Kn.r Fm [(0,AL a),(47,AL a),(48,vi (lI a)),(49,vi 0)] [] (by kernel_rfl) ?_)
    refine AW.loopF (E' := fun z=>[(0,AL a),(47,AL a),(48,vi (lI a)),(49,vi z)]) (S' := fun z=>[]) (fun n0 e l0 L h=>?_) h
    refine AW.dSG0 Fm 1 [0,47,48,49] [(50,vb (decide (e<(lI a))))] [] [] ?_
    refine AW.seq (AW.cN h (fun U h=>?_) (fun U h=>?_))
    ·refine AW.skip (AW.seq (AW.block ?_))
     obtain ⟨Y,h⟩:=gS h
     refine AW.dSP Fm [.s,.s,.s,.s,.s,.s] [0,47,48,49] [(7,vi e),(8,pt 8)] [] [(8,bx [ci ((gl a e.toNat).number_),.d (.str (gl a e.toNat).name_),ci ((gl a e.toNat).cond_.op_),ci ((gl a e.toNat).cond_.num_),ci ((gl a e.toNat).cond_.more_),.d (DL (α:=Term) (gl a e.toNat).cond_.kids_),.d (DL (α:=Bracket) (gl a e.toNat).brackets_),ci ((gl a e.toNat).least_),ci ((gl a e.toNat).excludes_),.d (.bool (gl a e.toNat).needs_)])] (cT Y) ?_
     refine AW.seq ?_
     obtain ⟨e0,d0,h⟩:=bS h
     refine AW.dG Fm [.s,.s,.k _,.s] (fun K=>K 2∧True) [0,7,47,48,49] [(57,vb (!e0))] [] [] ⟨KAt.CC (scheme_mutual_spec d0) Tryz.call168 [],⟨⟩⟩ ?_
     refine AW.cN h (fun V h=>?_) (fun V h=>?_)
     ·refine AW.dSG0 Fm 3 [] [(2,vi e),(3,vi 17)] [] [] ?_
      refine AW.ret ?_
      obtain rfl:=Option.some.inj h
      exact Kn.D Fm
     ·refine AW.skip ?_
      obtain ⟨Z,h⟩:=gS h
      refine AW.dpN Fm [.s,.s] [0,47,48] [(49,vi (e+1))] [] [] (cT (cT Z)) ?_
      exact Kn.R Fm (L (e+1) h)
    ·exact AW.exit (Kn.R Fm (M () h))
  ·refine AW.dSG0 Fm 3 [0] [(12,AL a),(13,vi (lI a)),(14,vi 0)] [] [] ?_
   refine AW.block (Kn.r Fm [(0,AL a),(12,AL a),(13,vi (lI a)),(14,vi 0)] [] (by kernel_rfl) ?_)
   refine AW.loopF (E' := fun z=>[(0,AL a),(12,AL a),(13,vi (lI a)),(14,vi z)]) (S' := fun z=>[]) (fun G b i0 H h=>?_) h
   refine AW.dSG0 Fm 1 [0,12,13,14] [(15,vb (decide (b<(lI a))))] [] [] ?_
   refine AW.seq (AW.cN h (fun O h=>?_) (fun O h=>?_))
   ·refine AW.skip (AW.seq (AW.block ?_))
    obtain ⟨W,h⟩:=gS h
    refine AW.dSP Fm [.s,.s,.s,.s,.s,.s] [0,12,13,14] [(4,vi b),(5,pt 5)] [] [(5,bx [ci ((gl a b.toNat).number_),.d (.str (gl a b.toNat).name_),ci ((gl a b.toNat).cond_.op_),ci ((gl a b.toNat).cond_.num_),ci ((gl a b.toNat).cond_.more_),.d (DL (α:=Term) (gl a b.toNat).cond_.kids_),.d (DL (α:=Bracket) (gl a b.toNat).brackets_),ci ((gl a b.toNat).least_),ci ((gl a b.toNat).excludes_),.d (.bool (gl a b.toNat).needs_)])] (cT W) ?_
    refine AW.seq (AW.seq ?_)
    obtain ⟨q,a0,h⟩:=bS h
    refine AW.dG Fm [.s,.k _,.s] (fun K=>K 1∧True) [0,4,5,12,13,14] [(6,vi q)] [5] [] ⟨KAt.CC (scheme_Valid_spec a0) Tryz.call84 [],⟨⟩⟩ ?_
    refine AW.dSG0 Fm 2 [0,4,5,6,12,13,14] [(22,vb (q != (0:Int)))] [5] [] ?_
    refine AW.cN h (fun P h=>?_) (fun P h=>?_)
    ·refine AW.dSG0 Fm 4 [] [(2,vi b),(3,vi q)] [] [] ?_
     refine AW.ret ?_
     obtain rfl:=Option.some.inj h
     exact Kn.D Fm
    ·refine AW.skip (AW.dJ (r:=r) (fun z:Bool=>scheme_Check_k1 F b G z) [0,4,12,13,14] (fun z=>[(44,vb z)]) [] (fun _=>[]) (fun o0 h=>?_) (fun j0 n=>?_))
     ·refine AW.cN h (fun T h=>?_) (fun T h=>?_)
      ·refine AW.dSG0 Fm 3 [] [(2,vi b),(3,vi 6)] [] [] ?_
       refine AW.ret ?_
       obtain rfl:=Option.some.inj h
       exact Kn.D Fm
      ·refine AW.skip ?_
       obtain ⟨X,h⟩:=gS h
       refine AW.dpN Fm [.s,.s] [0,12,13] [(14,vi (b+1))] [] [] (cT (cT X)) ?_
       exact Kn.R Fm (H (b+1) h)
     ·rcases br_or h with ⟨i,h⟩|⟨i,h⟩
      ·obtain ⟨u,A,h⟩:=gS2 h
       rcases br_or h with ⟨o,h⟩|⟨o,h⟩
       ·refine AW.dpN Fm [.s,.s,.w (vb true),.s,.s,.s,.s,.s,.s,.s,.s,.s,.s,.w (vb true),.s,.s,.s,.s,.s,.s] [0,4,12,13,14] [(28,pt 5),(29,vi (gl a b.toNat).number_),(30,AL a),(31,vi b),(32,vi (b-1)),(33,.v (.c (.elm [.int .i64 (gl a (b-1).toNat).number_,.str (gl a (b-1).toNat).name_,.int .i64 (gl a (b-1).toNat).cond_.op_,.int .i64 (gl a (b-1).toNat).cond_.num_,.int .i64 (gl a (b-1).toNat).cond_.more_,DL (α:=Term) (gl a (b-1).toNat).cond_.kids_,DL (α:=Bracket) (gl a (b-1).toNat).brackets_,.int .i64 (gl a (b-1).toNat).least_,.int .i64 (gl a (b-1).toNat).excludes_,.bool (gl a (b-1).toNat).needs_]))),(34,.v (.c (.elm [.int .i64 (gl a (b-1).toNat).number_,.str (gl a (b-1).toNat).name_,.int .i64 (gl a (b-1).toNat).cond_.op_,.int .i64 (gl a (b-1).toNat).cond_.num_,.int .i64 (gl a (b-1).toNat).cond_.more_,DL (α:=Term) (gl a (b-1).toNat).cond_.kids_,DL (α:=Bracket) (gl a (b-1).toNat).brackets_,.int .i64 (gl a (b-1).toNat).least_,.int .i64 (gl a (b-1).toNat).excludes_,.bool (gl a (b-1).toNat).needs_]))),(35,vi (gl a (b-1).toNat).number_),(36,vb (decide (((gl a b.toNat).number_)≤((gl a (b-1).toNat).number_)))),(44,vb true)] [5] [] (cA (ALe.bool i) (cA (cT u) (cA A (cT (ALe.bool o))))) ?_
        exact Kn.R Fm (n true h)
       ·obtain ⟨B,h⟩:=gS h
        obtain ⟨l,b0,h⟩:=bS h
        refine AW.dG Fm [.s,.s,.w (vb true),.s,.s,.s,.s,.s,.s,.s,.s,.s,.s,.w (vb false),.s,.s,.w (AL (α:=Scheme) (a.take b.toNat)),.s,.k (cE [] [5] (vb l) [] []),.s] (fun K=>_∧(_∧True)∧_∧_∧(((sl (List.length a) (LF a) none (some b)).2∧∀ j,j<List.length a→(LF a j).length=10))∧(ALe (.v (.c (.d (.lst (sl (List.length a) (LF a) none (some b)).1.1 (sl (List.length a) (LF a) none (some b)).1.2)))) (AL (α:=Scheme) (a.take b.toNat)))∧K 18∧True) [0,4,12,13,14] [(28,pt 5),(29,vi (gl a b.toNat).number_),(30,AL a),(31,vi b),(32,vi (b-1)),(33,.v (.c (.elm [.int .i64 (gl a (b-1).toNat).number_,.str (gl a (b-1).toNat).name_,.int .i64 (gl a (b-1).toNat).cond_.op_,.int .i64 (gl a (b-1).toNat).cond_.num_,.int .i64 (gl a (b-1).toNat).cond_.more_,DL (α:=Term) (gl a (b-1).toNat).cond_.kids_,DL (α:=Bracket) (gl a (b-1).toNat).brackets_,.int .i64 (gl a (b-1).toNat).least_,.int .i64 (gl a (b-1).toNat).excludes_,.bool (gl a (b-1).toNat).needs_]))),(34,.v (.c (.elm [.int .i64 (gl a (b-1).toNat).number_,.str (gl a (b-1).toNat).name_,.int .i64 (gl a (b-1).toNat).cond_.op_,.int .i64 (gl a (b-1).toNat).cond_.num_,.int .i64 (gl a (b-1).toNat).cond_.more_,DL (α:=Term) (gl a (b-1).toNat).cond_.kids_,DL (α:=Bracket) (gl a (b-1).toNat).brackets_,.int .i64 (gl a (b-1).toNat).least_,.int .i64 (gl a (b-1).toNat).excludes_,.bool (gl a (b-1).toNat).needs_]))),(35,vi (gl a (b-1).toNat).number_),(36,vb (decide (((gl a b.toNat).number_)≤((gl a (b-1).toNat).number_)))),(39,AL a),(40,vi b),(41,AL (α:=Scheme) (a.take b.toNat)),(42,.v (.c (.clo 167 [5]))),(43,vb l),(44,vb l)] [5] [] ⟨ALe.bool i,⟨u,⟨⟩⟩,A,ALe.bool o,⟨B,(Is.refl a).len⟩,ALe.lst (sl_is a none (some b) B),KAt.callX (slices_ContainsFunc_Scheme_spec b0) Tryz.call166 [] [5] [.tmp 41,.tmp 42] rfl (by kernel_rfl) (by kernel_rfl) (by kernel_rfl) ⟨.p,ArgT.cloX Tryz.call167 [[ci ((gl a b.toNat).number_),.d (.str (gl a b.toNat).name_),ci ((gl a b.toNat).cond_.op_),ci ((gl a b.toNat).cond_.num_),ci ((gl a b.toNat).cond_.more_),.d (DL (α:=Term) (gl a b.toNat).cond_.kids_),.d (DL (α:=Bracket) (gl a b.toNat).brackets_),ci ((gl a b.toNat).least_),ci ((gl a b.toNat).excludes_),.d (.bool (gl a b.toNat).needs_)]] (fun args r hq=>by obtain ⟨y0,y,hq,rfl,rfl⟩:=hq; exact Eq.mp (by kernel_rfl) (scheme_Check_1_spec hq)) (fun args r hq=>by obtain ⟨y0,y,hq,rfl,rfl⟩:=hq; rfl) (by kernel_rfl) [5] (by kernel_rfl) (by kernel_rfl) (⟨⟨false,(by kernel_rfl)⟩,⟨⟩⟩) (by kernel_rfl),⟨⟩⟩,⟨⟩⟩ ?_
        exact Kn.R Fm (n l h)
      ·obtain ⟨E,h⟩:=gS h
       obtain ⟨m,c0,h⟩:=bS h
       refine AW.dG Fm [.s,.s,.w (vb false),.s,.s,.s,.s,.s,.s,.s,.s,.s,.s,.s,.s,.s,.w (AL (α:=Scheme) (a.take b.toNat)),.s,.k (cE [] [5] (vb m) [] []),.s] (fun K=>_∧(((sl (List.length a) (LF a) none (some b)).2∧∀ j,j<List.length a→(LF a j).length=10))∧(ALe (.v (.c (.d (.lst (sl (List.length a) (LF a) none (some b)).1.1 (sl (List.length a) (LF a) none (some b)).1.2)))) (AL (α:=Scheme) (a.take b.toNat)))∧K 18∧True) [0,4,12,13,14] [(39,AL a),(40,vi b),(41,AL (α:=Scheme) (a.take b.toNat)),(42,.v (.c (.clo 167 [5]))),(43,vb m),(44,vb m)] [5] [] ⟨ALe.bool i,⟨E,(Is.refl a).len⟩,ALe.lst (sl_is a none (some b) E),KAt.callX (slices_ContainsFunc_Scheme_spec c0) Tryz.call166 [] [5] [.tmp 41,.tmp 42] rfl (by kernel_rfl) (by kernel_rfl) (by kernel_rfl) ⟨.p,ArgT.cloX Tryz.call167 [[ci ((gl a b.toNat).number_),.d (.str (gl a b.toNat).name_),ci ((gl a b.toNat).cond_.op_),ci ((gl a b.toNat).cond_.num_),ci ((gl a b.toNat).cond_.more_),.d (DL (α:=Term) (gl a b.toNat).cond_.kids_),.d (DL (α:=Bracket) (gl a b.toNat).brackets_),ci ((gl a b.toNat).least_),ci ((gl a b.toNat).excludes_),.d (.bool (gl a b.toNat).needs_)]] (fun args r hq=>by obtain ⟨y0,y,hq,rfl,rfl⟩:=hq; exact Eq.mp (by kernel_rfl) (scheme_Check_1_spec hq)) (fun args r hq=>by obtain ⟨y0,y,hq,rfl,rfl⟩:=hq; rfl) (by kernel_rfl) [5] (by kernel_rfl) (by kernel_rfl) (⟨⟨false,(by kernel_rfl)⟩,⟨⟩⟩) (by kernel_rfl),⟨⟩⟩,⟨⟩⟩ ?_
       exact Kn.R Fm (n m h)
   ·exact AW.exit (Kn.R Fm (I () h))
theorem slices_IndexFunc_Region_spec {F:Nat} {a:(List Region)} {e:Region→Option Bool} {r:Int} (h:slices_IndexFunc_Region F a e=some r) :
  FSpec Tryz.prog 169 [AL a,.v (.c (.sem (CloOK Tryz.prog (FR_Region_Bool e))))] [] (vi r) []:=by
 refine FI Tryz.func169 prog_mixed prog_lay fun C Fm=>?_
 unfold slices_IndexFunc_Region at h
 refine AW.dSG0 Fm 1 [0,1] [] [] [] ?_
 refine AW.dJ (r:=r) (fun z:Unit=>slices_IndexFunc_Region_k1 F) [] (fun _=>[]) [] (fun _=>[]) (fun z h=>?_) (fun u l=>?_)
 ·refine AW.dSG0 Fm 1 [] [(4,vi (-1:Int))] [] [] ?_
  refine AW.ret ?_
  obtain rfl:=Option.some.inj h
  exact Kn.D Fm
 ·refine AW.dSG0 Fm 3 [0,1] [(7,vi (lI a)),(8,vi 0)] [] [] ?_
  refine AW.block (Kn.r Fm [(0,AL a),(1,.v (.c (.sem (CloOK Tryz.prog (FR_Region_Bool e))))),(7,vi (lI a)),(8,vi 0)] [] (by kernel_rfl) ?_)
  refine AW.loopF (E' := fun z=>[(0,AL a),(1,.v (.c (.sem (CloOK Tryz.prog (FR_Region_Bool e))))),(7,vi (lI a)),(8,vi z)]) (S' := fun z=>[]) (fun w b t j h=>?_) h
  refine AW.dSG0 Fm 1 [0,1,7,8] [(9,vb (decide (b<(lI a))))] [] [] ?_
  refine AW.seq (AW.cN h (fun m h=>?_) (fun m h=>?_))
  ·refine AW.skip (AW.seq (AW.block (AW.dSG0 Fm 2 [0,1,7,8] [(5,vi b)] [] [] ?_)))
   refine AW.seq ?_
   obtain ⟨o,h⟩:=gS h
   obtain ⟨i,q,h⟩:=bS h
   refine AW.dG Fm [.s,.s,.s,.s,.s,.k (sE (vb i))] (fun K=>_∧K 5∧True) [0,1,5,7,8] [(16,vb i)] [] [] ⟨o,KAt.sem (F:=(FR_Region_Bool e)) (args:=[.v (.g [.d (DL (α:=Rect) (gl a b.toNat).rects_)])]) ⟨(gl a b.toNat),i,q,rfl,rfl⟩ rfl (by kernel_rfl) (by kernel_rfl) (by kernel_rfl),⟨⟩⟩ ?_
   refine AW.cN h (fun n h=>?_) (fun n h=>?_)
   ·refine AW.dSG0 Fm 2 [] [(4,vi b)] [] [] ?_
    refine AW.ret ?_
    obtain rfl:=Option.some.inj h
    exact Kn.D Fm
   ·refine AW.skip ?_
    obtain ⟨p,h⟩:=gS h
    refine AW.dpN Fm [.s,.s] [0,1,7] [(8,vi (b+1))] [] [] (cT (cT p)) ?_
    exact Kn.R Fm (j (b+1) h)
  ·exact AW.exit (Kn.R Fm (l () h))
theorem slices_ContainsFunc_Region_spec {F:Nat} {a:(List Region)} {b:Region→Option Bool} {r:Bool} (h:slices_ContainsFunc_Region F a b=some r) :
  FSpec Tryz.prog 110 [AL a,.v (.c (.sem (CloOK Tryz.prog (FR_Region_Bool b))))] [] (vb r) []:=by
 refine FI Tryz.func110 prog_mixed prog_lay fun C Fm=>?_
 unfold slices_ContainsFunc_Region at h
 refine AW.dSG0 Fm 1 [0,1] [] [] [] ?_
 refine AW.seq ?_
 obtain ⟨d,e,h⟩:=bS h
 refine AW.dG Fm [.s,.s,.k (cE [] [] (vi d) [] []),.s,.s] (fun K=>K 2∧True) [] [(4,vb (decide ((0:Int)≤d)))] [] [] ⟨KAt.callX (slices_IndexFunc_Region_spec e) Tryz.call169 [] [] [.tmp 5,.tmp 6] rfl (by kernel_rfl) (by kernel_rfl) (by kernel_rfl) ⟨.p,ArgT.semX (by kernel_rfl) (by kernel_rfl) (by kernel_rfl),⟨⟩⟩,⟨⟩⟩ ?_
 refine AW.ret ?_
 obtain rfl:=Option.some.inj h
 exact Kn.D Fm
theorem slices_IndexFunc_Rect_spec {F:Nat} {a:(List Rect)} {d:Rect→Option Bool} {r:Int} (h:slices_IndexFunc_Rect F a d=some r) :
  FSpec Tryz.prog 125 [AL a,.v (.c (.sem (CloOK Tryz.prog (FR_Rect_Bool d))))] [] (vi r) []:=by
 refine FI Tryz.func125 prog_mixed prog_lay fun C Fm=>?_
 unfold slices_IndexFunc_Rect at h
 refine AW.dSG0 Fm 1 [0,1] [] [] [] ?_
 refine AW.dJ (r:=r) (fun z:Unit=>slices_IndexFunc_Rect_k1 F) [] (fun _=>[]) [] (fun _=>[]) (fun z h=>?_) (fun t j=>?_)
 ·refine AW.dSG0 Fm 1 [] [(4,vi (-1:Int))] [] [] ?_
  refine AW.ret ?_
  obtain rfl:=Option.some.inj h
  exact Kn.D Fm
 ·refine AW.dSG0 Fm 3 [0,1] [(7,vi (lI a)),(8,vi 0)] [] [] ?_
  refine AW.block (Kn.r Fm [(0,AL a),(1,.v (.c (.sem (CloOK Tryz.prog (FR_Rect_Bool d))))),(7,vi (lI a)),(8,vi 0)] [] (by kernel_rfl) ?_)
  refine AW.loopF (E' := fun z=>[(0,AL a),(1,.v (.c (.sem (CloOK Tryz.prog (FR_Rect_Bool d))))),(7,vi (lI a)),(8,vi z)]) (S' := fun z=>[]) (fun u b q i h=>?_) h
  refine AW.dSG0 Fm 1 [0,1,7,8] [(9,vb (decide (b<(lI a))))] [] [] ?_
  refine AW.seq (AW.cN h (fun l h=>?_) (fun l h=>?_))
  ·refine AW.skip (AW.seq (AW.block (AW.dSG0 Fm 2 [0,1,7,8] [(5,vi b)] [] [] ?_)))
   refine AW.seq ?_
   obtain ⟨n,h⟩:=gS h
   obtain ⟨e,p,h⟩:=bS h
   refine AW.dG Fm [.s,.s,.s,.s,.s,.k (sE (vb e))] (fun K=>_∧K 5∧True) [0,1,5,7,8] [(16,vb e)] [] [] ⟨n,KAt.sem (F:=(FR_Rect_Bool d)) (args:=[.v (.g [ci ((gl a b.toNat).left_),ci ((gl a b.toNat).low_),ci ((gl a b.toNat).right_),ci ((gl a b.toNat).high_)])]) ⟨(gl a b.toNat),e,p,rfl,rfl⟩ rfl (by kernel_rfl) (by kernel_rfl) (by kernel_rfl),⟨⟩⟩ ?_
   refine AW.cN h (fun m h=>?_) (fun m h=>?_)
   ·refine AW.dSG0 Fm 2 [] [(4,vi b)] [] [] ?_
    refine AW.ret ?_
    obtain rfl:=Option.some.inj h
    exact Kn.D Fm
   ·refine AW.skip ?_
    obtain ⟨o,h⟩:=gS h
    refine AW.dpN Fm [.s,.s] [0,1,7] [(8,vi (b+1))] [] [] (cT (cT o)) ?_
    exact Kn.R Fm (i (b+1) h)
  ·exact AW.exit (Kn.R Fm (j () h))
theorem slices_ContainsFunc_Rect_spec {F:Nat} {a:(List Rect)} {b:Rect→Option Bool} {r:Bool} (h:slices_ContainsFunc_Rect F a b=some r) :
  FSpec Tryz.prog 69 [AL a,.v (.c (.sem (CloOK Tryz.prog (FR_Rect_Bool b))))] [] (vb r) []:=by
 refine FI Tryz.func69 prog_mixed prog_lay fun C Fm=>?_
 unfold slices_ContainsFunc_Rect at h
 refine AW.dSG0 Fm 1 [0,1] [] [] [] ?_
 refine AW.seq ?_
 obtain ⟨d,e,h⟩:=bS h
 refine AW.dG Fm [.s,.s,.k (cE [] [] (vi d) [] []),.s,.s] (fun K=>K 2∧True) [] [(4,vb (decide ((0:Int)≤d)))] [] [] ⟨KAt.callX (slices_IndexFunc_Rect_spec e) Tryz.call125 [] [] [.tmp 5,.tmp 6] rfl (by kernel_rfl) (by kernel_rfl) (by kernel_rfl) ⟨.p,ArgT.semX (by kernel_rfl) (by kernel_rfl) (by kernel_rfl),⟨⟩⟩,⟨⟩⟩ ?_
 refine AW.ret ?_
 obtain rfl:=Option.some.inj h
 exact Kn.D Fm
theorem region_proper_spec {F:Nat} {e:Rect} {r:Bool} (h:region_proper F e=some r) :
  FSpec Tryz.prog 121 [gE e] [] (vb r) []:=by
 refine FI Tryz.func121 prog_mixed prog_lay fun C Fm=>?_
 unfold region_proper at h
 refine AW.dSG0 Fm 2 [] [(1,pt 1)] [] [(1,bx (gC e))] ?_
 refine AW.dJ (r:=r) (fun z:Bool=>region_proper_k0 F z) [] (fun z=>[(2,vb z)]) [] (fun _=>[]) (fun l h=>?_) (fun k b=>?_)
 ·refine AW.ret ?_
  obtain rfl:=Option.some.inj h
  exact Kn.D Fm
 ·rcases br_or h with ⟨a,h⟩|⟨a,h⟩
  ·rcases br_or h with ⟨c,h⟩|⟨c,h⟩
   ·rcases br_or h with ⟨d,h⟩|⟨d,h⟩
    ·rcases br_or h with ⟨i,h⟩|⟨i,h⟩
     ·rcases br_or h with ⟨j,h⟩|⟨j,h⟩
      ·refine AW.dpN Fm ([.s,.s,.s,.w (vb true),.s,.s,.s,.s,.s,.s,.w (vb true),.s,.s,.s,.s,.w (vb true),.s,.s,.s,.s,.w (vb true),.s,.s,.s,.s,.s,.s,.w (vb true)]++[.s,.s,.s,.s,.s]) [] [(2,vb (decide (e.high_≤(16384:Int))))] [] [] (cA (ALe.bool a) (cA (ALe.bool c) (cA (ALe.bool d) (cA (ALe.bool i) (cT (ALe.bool j)))))) ?_
       exact Kn.R Fm (b (decide (e.high_≤(16384:Int))) h)
      ·refine AW.dpN Fm ([.s,.s,.s,.w (vb true),.s,.s,.s,.s,.s,.s,.w (vb true),.s,.s,.s,.s,.w (vb true),.s,.s,.s,.s,.w (vb true),.s,.s,.s,.s,.s,.s,.w (vb false)]++[.s,.s,.s,.s,.s]) [] [(2,vb false)] [] [] (cA (ALe.bool a) (cA (ALe.bool c) (cA (ALe.bool d) (cA (ALe.bool i) (cT (ALe.bool j)))))) ?_
       exact Kn.R Fm (b false h)
     ·refine AW.dpN Fm ([.s,.s,.s,.w (vb true),.s,.s,.s,.s,.s,.s,.w (vb true),.s,.s,.s,.s,.w (vb true),.s,.s,.s,.s,.w (vb false),.s,.s,.s,.s,.s,.s,.s]++[.s,.s,.s,.s,.s]) [] [(2,vb false)] [] [] (cA (ALe.bool a) (cA (ALe.bool c) (cA (ALe.bool d) (cT (ALe.bool i))))) ?_
      exact Kn.R Fm (b false h)
    ·refine AW.dpN Fm ([.s,.s,.s,.w (vb true),.s,.s,.s,.s,.s,.s,.w (vb true),.s,.s,.s,.s,.w (vb false),.s,.s,.s,.s,.s,.s,.s,.s,.s,.s,.s,.s]++[.s,.s,.s,.s,.s]) [] [(2,vb false)] [] [] (cA (ALe.bool a) (cA (ALe.bool c) (cT (ALe.bool d)))) ?_
     exact Kn.R Fm (b false h)
   ·refine AW.dpN Fm ([.s,.s,.s,.w (vb true),.s,.s,.s,.s,.s,.s,.w (vb false),.s,.s,.s,.s,.s,.s,.s,.s,.s,.s,.s,.s,.s,.s,.s,.s,.s]++[.s,.s,.s,.s,.s]) [] [(2,vb false)] [] [] (cA (ALe.bool a) (cT (ALe.bool c))) ?_
    exact Kn.R Fm (b false h)
  ·refine AW.dpN Fm ([.s,.s,.s,.w (vb false),.s,.s,.s,.s,.s,.s,.s,.s,.s,.s,.s,.s,.s,.s,.s,.s,.s,.s,.s,.s,.s,.s,.s,.s]++[.s,.s,.s,.s,.s]) [] [(2,vb false)] [] [] (cT (ALe.bool a)) ?_
   exact Kn.R Fm (b false h)
theorem region_Valid_1_spec {F:Nat} {a:Rect} {r:Bool} (h:region_Valid_1 F a=some r) :
  FSpec Tryz.prog 120 [gE a] [] (vb r) []:=by
 refine FI Tryz.func120 prog_mixed prog_lay fun C Fm=>?_
 unfold region_Valid_1 at h
 refine AW.dSG0 Fm 2 [] [(1,pt 1)] [] [(1,bx (gC a))] ?_
 refine AW.seq ?_
 obtain ⟨c,b,h⟩:=bS h
 refine AW.dG Fm [.s,.k _,.s,.s] (fun K=>K 1∧True) [] [(2,vb (!c))] [] [] ⟨KAt.CC (region_proper_spec b) Tryz.call121 [],⟨⟩⟩ ?_
 refine AW.ret ?_
 obtain rfl:=Option.some.inj h
 exact Kn.D Fm
theorem slices_Compact_int_spec {F:Nat} {e:(List Int)} {r:(List Int)} (h:slices_Compact_int F e=some r) :
  FSpec Tryz.prog 190 [ow 0] [(0,AO e)] (ow 100) [(100,AO (α:=Int) r)]:=by
 refine FI Tryz.func190 prog_mixed prog_lay fun C Fm=>?_
 unfold slices_Compact_int at h
 refine AW.dSG Fm [.m] (fun K=>True) [0] [] [0] [] True.intro ?_
 refine AW.seq (AW.dSG0 Fm 3 [0] [(8,vb (decide ((lI e)<(2:Int))))] [0] [] ?_)
 refine AW.cN h (fun M h=>?_) (fun M h=>?_)
 ·refine AW.dSG0 Fm 2 [] [(2,ow 0)] [0] [] ?_
  refine AW.ret ?_
  obtain rfl:=Option.some.inj h
  exact Kn.re Fm [(100,0)] [(2,ow 100)] [(100,AO e)] (by kernel_rfl) (by kernel_rfl) (by kernel_rfl) (by kernel_rfl) (Kn.dn Fm (by kernel_rfl))
 ·refine AW.skip (AW.dJ (r:=r) (fun z:Unit=>slices_Compact_int_k5 F e) [0] (fun _=>[]) [0] (fun _=>[]) (fun z h=>?_) (fun t0 L=>?_))
  ·refine AW.dSG0 Fm 2 [] [(2,ow 0)] [0] [] ?_
   refine AW.ret ?_
   obtain rfl:=Option.some.inj h
   exact Kn.re Fm [(100,0)] [(2,ow 100)] [(100,AO e)] (by kernel_rfl) (by kernel_rfl) (by kernel_rfl) (by kernel_rfl) (Kn.dn Fm (by kernel_rfl))
  ·refine AW.dSG0 Fm 1 [0] [(3,vi 1)] [0] [] ?_
   refine AW.block (Kn.r Fm [(0,ow 0),(3,vi 1)] [(0,AO e)] (by kernel_rfl) ?_)
   refine AW.loopF (E' := fun z=>[(0,ow 0),(3,vi z)]) (S' := fun z=>[(0,AO e)]) (fun B a n0 E h=>?_) h
   refine AW.seq (AW.dSG0 Fm 4 [0,3] [(13,vb (decide (a<(lI e))))] [0] [] ?_)
   refine AW.cN h (fun O h=>?_) (fun O h=>?_)
   ·refine AW.skip (AW.dJ (r:=r) (fun z:Unit=>slices_Compact_int_k4 F a B) [0,3] (fun _=>[]) [0] (fun _=>[]) (fun z h=>?_) (fun s0 I=>?_))
    ·obtain ⟨k0,h⟩:=gS h
     refine AW.dpN Fm [.s,.s,.s] [0] [(3,vi (a+1))] [0] [] (cT (cT k0)) ?_
     exact Kn.R Fm (E (a+1) h)
    ·refine AW.block ?_
     obtain ⟨w,V,y,h⟩:=gS3 h
     refine AW.dSP Fm [.s,.s,.s,.s,.s,.s,.s,.s,.s,.s] [0,3] [(25,vb ((gl e a.toNat)==(gl e (a-1).toNat)))] [0] [] (cA w (cA (toNat_lt w) (cA (cT V) (cA y (cT (toNat_lt y)))))) ?_
     refine AW.cN h (fun P h=>?_) (fun P h=>?_)
     ·obtain ⟨W,h⟩:=gS h
      refine AW.dSG Fm [.s,.s,.k (rE { v:=.v (.c (.sub 0 1 (0+(a).toNat) ((List.length (α:=Int) e)-(a).toNat))) }),.s] (fun K=>K 2∧True) [0,3] [(4,.v (.c (.sub 0 1 (0+(a).toNat) ((List.length (α:=Int) e)-(a).toNat))))] [0] [] ⟨KAt.vslice (l:=(some a)) (u:=none) (id:=0) (lo0:=0) (n:=(List.length (α:=Int) e)) (N:=List.length (α:=Int) e) (f:=LF (α:=Int) e) prog_lay slT22 rfl rfl (by kernel_rfl) (by kernel_rfl) (by kernel_rfl) (by kernel_rfl) (by kernel_rfl) W (by kernel_rfl),⟨⟩⟩ ?_
      refine AW.dJ (r:=r) (fun z:Int×(List Int)=>slices_Compact_int_k3 F z.1 z.2) [0] (fun z=>[(3,vi z.1)]) [] (fun z=>[(0,AO z.2)]) (fun z h=>?_) (fun q0 H=>?_)
      ·obtain ⟨b,d⟩:=z
       obtain ⟨j0,h⟩:=gS h
       refine AW.dSW Fm [.s,.s,.k (rE { v:=.v (.c (.sub 0 1 (0+(b).toNat) ((List.length (α:=Int) d)-(b).toNat))) }),.k (rE { v:=.any,upd:=some (0,.arr 1 (List.length (α:=Int) d) (fun i=>if (0+(b).toNat)≤i∧i<(0+(b).toNat)+((List.length (α:=Int) d)-(b).toNat) then (fun _=>[.int .i64 0]) (i-(0+(b).toNat)) else (LF (α:=Int) d) i)) })] (fun K=>K 2∧K 3∧True) [0,3] [] [] [(0,AO (α:=Int) (clr d (0+(b).toNat) ((List.length (α:=Int) d)-(b).toNat)))] ⟨KAt.vslice (l:=(some b)) (u:=none) (id:=0) (lo0:=0) (n:=(List.length (α:=Int) d)) (N:=List.length (α:=Int) d) (f:=LF (α:=Int) d) prog_lay slT22 rfl rfl (by kernel_rfl) (by kernel_rfl) (by kernel_rfl) (by kernel_rfl) (by kernel_rfl) j0 (by kernel_rfl),KAt.vclear (id:=0) (lo0:=(0+(b).toNat)) (n:=((List.length (α:=Int) d)-(b).toNat)) (N:=List.length (α:=Int) d) (f:=(LF (α:=Int) d)) prog_lay slT22 [.int .i64 0] [.int .i64 0] ⟨DLe.refl _,⟨⟩⟩ rfl rfl (by kernel_rfl) (Nat.succ_pos _) (by kernel_rfl) (by kernel_rfl) (by kernel_rfl) (by kernel_rfl) rfl,⟨⟩⟩ [(0,.arr 1 (List.length (α:=Int) d) (fun i=>if (0+(b).toNat)≤i∧i<(0+(b).toNat)+((List.length (α:=Int) d)-(b).toNat) then (fun _=>[.int .i64 0]) (i-(0+(b).toNat)) else (LF (α:=Int) d) i))] ⟨OLe.is (Is.clr (l:=d) (0+(b).toNat) ((List.length (α:=Int) d)-(b).toNat) (zd:=[.int .i64 0]) (by kernel_rfl)),⟨⟩⟩ ?_
       obtain ⟨A,h⟩:=gS h
       refine AW.dSV Fm [.s,.s,.m,.s] [] [(2,ow 59)] [] [(59,AO (α:=Int) ((clr d (0+(b).toNat) ((List.length (α:=Int) d)-(b).toNat)).take (b).toNat))] (cT A) [(59,.arr 1 ((b).toNat) (LF (α:=Int) (clr d (0+(b).toNat) ((List.length (α:=Int) d)-(b).toNat))))] ⟨OLe.is (Is.take (Is.refl (clr d (0+(b).toNat) ((List.length (α:=Int) d)-(b).toNat))) A.2),⟨⟩⟩ ?_
       refine AW.ret ?_
       obtain rfl:=Option.some.inj h
       exact Kn.re Fm [(100,59)] [(2,ow 100)] [(100,AO (α:=Int) ((clr d (0+(b).toNat) ((List.length (α:=Int) d)-(b).toNat)).take (b).toNat))] (by kernel_rfl) (by kernel_rfl) (by kernel_rfl) (by kernel_rfl) (Kn.dn Fm (by kernel_rfl))
      ·refine AW.dSG0 Fm 1 [0,3,4] [(5,vi 1)] [0] [] ?_
       refine AW.block (Kn.r Fm [(0,ow 0),(3,vi a),(4,.v (.c (.sub 0 1 (0+(a).toNat) ((List.length (α:=Int) e)-(a).toNat)))),(5,vi 1)] [(0,AO e)] (by kernel_rfl) ?_)
       refine AW.loopF (E' := fun z=>[(0,ow 0),(3,vi z.1),(4,.v (.c (.sub 0 1 (0+(a).toNat) ((List.length (α:=Int) e)-(a).toNat)))),(5,vi z.2.1)]) (S' := fun z=>[(0,AO z.2.2)]) (fun D z o0 G h=>?_) h
       obtain ⟨p,o,j⟩:=z
       refine AW.seq (AW.dSG Fm [.s,.s,.k (rE { v:=vi ((((List.length (α:=Int) e)-(a).toNat):Nat):Int) }),.s] (fun K=>K 2∧True) [0,3,4,5] [(32,vb (decide (o<((((List.length (α:=Int) e)-(a).toNat):Nat):Int))))] [0] [] ⟨KAt.vlen (es:=1) (id:=0) (lo0:=(0+(a).toNat)) (n:=((List.length (α:=Int) e)-(a).toNat)) (N:=List.length (α:=Int) j) (f:=LF (α:=Int) j) prog_lay slT22 rfl rfl (by kernel_rfl) (by kernel_rfl) (by kernel_rfl),⟨⟩⟩ ?_)
       refine AW.cN h (fun T h=>?_) (fun T h=>?_)
       ·refine AW.skip (AW.dJ (r:=r) (fun z:Int×(List Int)=>slices_Compact_int_k2 F o D z.1 z.2) [0,4,5] (fun z=>[(3,vi z.1)]) [] (fun z=>[(0,AO z.2)]) (fun z h=>?_) (fun p0 t=>?_))
        ·obtain ⟨l0,m0⟩:=z
         obtain ⟨i0,h⟩:=gS h
         refine AW.dpN Fm [.s,.s,.s] [0,3,4] [(5,vi (o+1))] [0] [] (cT (cT i0)) ?_
         exact Kn.R Fm (G (l0,(o+1),m0) h)
        ·refine AW.block ?_
         obtain ⟨X,Y,Z,a0,h⟩:=gS4 h
         obtain ⟨b0,h⟩:=gS h
         refine AW.dSG Fm [.s,.s,.k (rE { v:=.v (.c (.pte 0 1 ((0+(a).toNat)+(o).toNat) 0)) }),.s,.s,.s,.s,.k (rE { v:=.v (.c (.pte 0 1 ((0+(a).toNat)+((o-1)).toNat) 0)) }),.s,.s] (fun K=>K 2∧_∧(_∧True)∧K 7∧_∧True) [0,3,4,5] [(44,vb ((gl j ((0+(a).toNat)+(o).toNat)) != (gl j ((0+(a).toNat)+((o-1)).toNat))))] [0] [] ⟨KAt.vindex (m:=o) (id:=0) (lo0:=(0+(a).toNat)) (n:=((List.length (α:=Int) e)-(a).toNat)) (N:=List.length (α:=Int) j) (f:=LF (α:=Int) j) prog_lay slT22 rfl rfl (by kernel_rfl) (by kernel_rfl) (by kernel_rfl) (by kernel_rfl) X (by kernel_rfl),Y,⟨Z,⟨⟩⟩,KAt.vindex (m:=(o-1)) (id:=0) (lo0:=(0+(a).toNat)) (n:=((List.length (α:=Int) e)-(a).toNat)) (N:=List.length (α:=Int) j) (f:=LF (α:=Int) j) prog_lay slT22 rfl rfl (by kernel_rfl) (by kernel_rfl) (by kernel_rfl) (by kernel_rfl) a0 (by kernel_rfl),b0,⟨⟩⟩ ?_
         refine AW.cN h (fun U h=>?_) (fun U h=>?_)
         ·obtain ⟨c0,d0,q,h⟩:=gS3 h
          refine AW.dSW Fm [.s,.s,.s,.s,.k (rE { v:=.v (.c (.pte 0 1 ((0+(a).toNat)+(o).toNat) 0)) }),.s,.s,.s] (fun K=>K 4∧_∧_∧_∧True) [0,3,4,5] [] [] [(0,AO (α:=Int) (List.set j p.toNat (gl j ((0+(a).toNat)+(o).toNat))))] ⟨KAt.vindex (m:=o) (id:=0) (lo0:=(0+(a).toNat)) (n:=((List.length (α:=Int) e)-(a).toNat)) (N:=List.length (α:=Int) j) (f:=LF (α:=Int) j) prog_lay slT22 rfl rfl (by kernel_rfl) (by kernel_rfl) (by kernel_rfl) (by kernel_rfl) c0 (by kernel_rfl),d0,q,(toNat_lt q),⟨⟩⟩ [(0,rSt j p.toNat 0 [.int .i64 (gl j ((0+(a).toNat)+(o).toNat))])] ⟨oSt (toNat_lt q),⟨⟩⟩ ?_
          obtain ⟨e0,h⟩:=gS h
          refine AW.dpN Fm [.s,.s,.s] [0,4,5] [(3,vi (p+1))] [0] [] (cT (cT e0)) ?_
          exact Kn.R Fm (t ((p+1),(List.set j p.toNat (gl j ((0+(a).toNat)+(o).toNat)))) h)
         ·exact AW.skip (Kn.R Fm (t (p,j) h))
       ·exact AW.exit (Kn.R Fm (H (p,j) h))
     ·exact AW.skip (Kn.R Fm (I () h))
   ·exact AW.exit (Kn.R Fm (L () h))
theorem region_Cuts_spec {F:Nat} {a:(List (List Rect))} {r:(List Int)} (h:region_Cuts F a=some r) :
  FSpec Tryz.prog 148 [AL a] [] (AL (α:=Int) r) []:=by
 refine FI Tryz.func148 prog_mixed prog_lay fun C Fm=>?_
 unfold region_Cuts at h
 refine AW.dSG0 Fm 1 [0] [] [] [] ?_
 refine AW.dSW Fm [.m] (fun K=>True) [0] [(3,ow 3)] [] [(3,AO (α:=Int) ([]:List Int))] True.intro [(3,.arr 1 (0) (fun _=>[]))] ⟨OLe.is ((Is.nil (α:=Int))),⟨⟩⟩ ?_
 refine AW.dJ (r:=r) (fun z:(List Int)=>region_Cuts_k3 F z) [3] (fun _=>[]) [] (fun z=>[(3,AO z)]) (fun W h=>?_) (fun U t=>?_)
 ·refine AW.seq ?_
  obtain ⟨N,I,h⟩:=bS h
  refine AW.dG Fm [.s,.k _] (fun K=>K 1∧True) [3] [] [] [(3,AO N)] ⟨KAt.CC (sortI_spec I) Tryz.call189 [(0,3)],⟨⟩⟩ ?_
  refine AW.seq ?_
  obtain ⟨j,L,h⟩:=bS h
  refine AW.dG Fm [.s,.k _,.s] (fun K=>K 1∧True) [] [(2,ow 32)] [] [(32,AO j)] ⟨KAt.CC (slices_Compact_int_spec L) Tryz.call190 [(0,3),(100,32)],⟨⟩⟩ ?_
  refine AW.ret ?_
  obtain rfl:=Option.some.inj h
  refine Kn.r Fm [(2,ow 32)] [(32,AO j)] (by kernel_rfl) ?_
  refine Kn.frz [(2,AL j)] [] (by kernel_rfl) (by kernel_rfl) (by kernel_rfl) ?_
  exact Kn.D Fm
 ·refine AW.dSG0 Fm 3 [3] [(8,AL a),(9,vi (lI a)),(10,vi 0)] [3] [] ?_
  refine AW.block (Kn.r Fm [(3,ow 3),(8,AL a),(9,vi (lI a)),(10,vi 0)] [(3,AO ([]:List Int))] (by kernel_rfl) ?_)
  refine AW.loopF (E' := fun z=>[(3,ow 3),(8,AL a),(9,vi (lI a)),(10,vi z.1)]) (S' := fun z=>[(3,AO z.2)]) (fun n z O o h=>?_) h
  obtain ⟨b,l⟩:=z
  refine AW.dSG0 Fm 1 [3,8,9,10] [(11,vb (decide (b<(lI a))))] [3] [] ?_
  refine AW.seq (AW.cN h (fun u h=>?_) (fun u h=>?_))
  ·refine AW.skip (AW.dJ (r:=r) (fun z:(List Int)=>region_Cuts_k2 F b n z) [3,8,9,10] (fun _=>[]) [] (fun z=>[(3,AO z)]) (fun M h=>?_) (fun T q=>?_))
   ·obtain ⟨H,h⟩:=gS h
    refine AW.dpN Fm [.s,.s] [3,8,9] [(10,vi (b+1))] [3] [] (cT (cT H)) ?_
    exact Kn.R Fm (o ((b+1),M) h)
   ·refine AW.block ?_
    obtain ⟨A,h⟩:=gS h
    refine AW.dSP Fm [.s,.s,.s] [3,8,9,10] [(5,AL (α:=Rect) (gl a b.toNat))] [3] [] (cT A) ?_
    refine AW.dSG0 Fm 3 [3,8,9,10] [(14,AL (α:=Rect) (gl a b.toNat)),(15,vi (lI (gl a b.toNat))),(16,vi 0)] [3] [] ?_
    refine AW.block (Kn.r Fm [(3,ow 3),(8,AL a),(9,vi (lI a)),(10,vi b),(14,AL (α:=Rect) (gl a b.toNat)),(15,vi (lI (gl a b.toNat))),(16,vi 0)] [(3,AO l)] (by kernel_rfl) ?_)
    refine AW.loopF (E' := fun z=>[(3,ow 3),(8,AL a),(9,vi (lI a)),(10,vi b),(14,AL (α:=Rect) (gl a b.toNat)),(15,vi (lI (gl a b.toNat))),(16,vi z.1)]) (S' := fun z=>[(3,AO z.2)]) (fun V z P p h=>?_) h
    obtain ⟨e,i⟩:=z
    refine AW.dSG0 Fm 1 [3,8,9,10,14,15,16] [(17,vb (decide (e<(lI (gl a b.toNat)))))] [3] [] ?_
    refine AW.seq (AW.cN h (fun y h=>?_) (fun y h=>?_))
    ·refine AW.skip (AW.seq (AW.block ?_))
     obtain ⟨B,h⟩:=gS h
     refine AW.dSP Fm [.s,.s,.s,.s] [3,8,9,10,14,15,16] [(7,pt 7)] [3] [(7,bx [ci ((gl (gl a b.toNat) e.toNat).left_),ci ((gl (gl a b.toNat) e.toNat).low_),ci ((gl (gl a b.toNat) e.toNat).right_),ci ((gl (gl a b.toNat) e.toNat).high_)])] (cT B) ?_
     obtain ⟨E,h⟩:=gS h
     refine AW.dWP Fm [.s,.s,.s,.s,.s,.w (AL (α:=Int) ([(gl (gl a b.toNat) e.toNat).low_,(gl (gl a b.toNat) e.toNat).high_]:List Int)),.s,.s] [8,9,10,14,15,16] [(3,ow 26)] [] [(26,AO (α:=Int) (i++([(gl (gl a b.toNat) e.toNat).low_,(gl (gl a b.toNat) e.toNat).high_]:List Int)))] (cA (ALe.lst (.lit ([(gl (gl a b.toNat) e.toNat).low_,(gl (gl a b.toNat) e.toNat).high_]:List Int) (by kernel_rfl)):ALe (.v (.c (.d (.lst 2 (litF 1 [.int .i64 (gl (gl a b.toNat) e.toNat).low_,.int .i64 (gl (gl a b.toNat) e.toNat).high_]))))) (AL (α:=Int) ([(gl (gl a b.toNat) e.toNat).low_,(gl (gl a b.toNat) e.toNat).high_]:List Int))) (cT (cA E (cT (lfl ([(gl (gl a b.toNat) e.toNat).low_,(gl (gl a b.toNat) e.toNat).high_]:List Int)))))) [(26,rAp i ([(gl (gl a b.toNat) e.toNat).low_,(gl (gl a b.toNat) e.toNat).high_]:List Int))] ⟨oAp,⟨⟩⟩ ?_
     obtain ⟨G,h⟩:=gS h
     refine AW.dpN Fm [.s,.s] [3,8,9,10,14,15] [(16,vi (e+1))] [26] [] (cT (cT G)) ?_
     exact Kn.RE Fm [(3,26)] (p ((e+1),(i++([(gl (gl a b.toNat) e.toNat).low_,(gl (gl a b.toNat) e.toNat).high_]:List Int))) h)
    ·exact AW.exit (Kn.R Fm (q i h))
  ·exact AW.exit (Kn.R Fm (t l h))
theorem cmp_isNaN_int_spec {F:Nat} {a:Int} {r:Bool} (h:cmp_isNaN_int F a=some r) :
  FSpec Tryz.prog 237 [vi a] [] (vb r) []:=by
 refine FI Tryz.func237 prog_mixed prog_lay fun C Fm=>?_
 unfold cmp_isNaN_int at h
 refine AW.dSG0 Fm 1 [0] [] [] [] ?_
 refine AW.dSG0 Fm 4 [] [(2,vb (a != a))] [] [] ?_
 refine AW.ret ?_
 obtain rfl:=Option.some.inj h
 exact Kn.D Fm
theorem cmp_Compare_int_spec {F:Nat} {a:Int} {b:Int} {r:Int} (h:cmp_Compare_int F a b=some r) :
  FSpec Tryz.prog 195 [vi a,vi b] [] (vi r) []:=by
 refine FI Tryz.func195 prog_mixed prog_lay fun C Fm=>?_
 unfold cmp_Compare_int at h
 refine AW.dSG0 Fm 1 [0,1] [] [] [] ?_
 refine AW.seq ?_
 obtain ⟨d,n,h⟩:=bS h
 refine AW.dG Fm [.s,.k _,.s] (fun K=>K 1∧True) [0,1] [(5,vb d)] [] [] ⟨KAt.CC (cmp_isNaN_int_spec n) Tryz.call237 [],⟨⟩⟩ ?_
 refine AW.seq ?_
 obtain ⟨c,o,h⟩:=bS h
 refine AW.dG Fm [.s,.k _,.s] (fun K=>K 1∧True) [0,1,5] [(6,vb c)] [] [] ⟨KAt.CC (cmp_isNaN_int_spec o) Tryz.call237 [],⟨⟩⟩ ?_
 refine AW.seq (AW.dSG0 Fm 1 [0,1,6] [(11,vb d)] [] [] ?_)
 refine AW.cN h (fun e h=>?_) (fun e h=>?_)
 ·refine AW.seq (AW.dSG0 Fm 1 [] [(12,vb c)] [] [] ?_)
  refine AW.cN h (fun i h=>?_) (fun i h=>?_)
  ·refine AW.dSG0 Fm 1 [] [(4,vi 0)] [] [] ?_
   refine AW.ret ?_
   obtain rfl:=Option.some.inj h
   exact Kn.D Fm
  ·refine AW.skip (AW.dSG0 Fm 1 [] [(4,vi (-1:Int))] [] [] ?_)
   refine AW.ret ?_
   obtain rfl:=Option.some.inj h
   exact Kn.D Fm
 ·refine AW.skip (AW.seq (AW.dSG0 Fm 1 [0,1] [(13,vb c)] [] [] ?_))
  refine AW.cN h (fun j h=>?_) (fun j h=>?_)
  ·refine AW.dSG0 Fm 1 [] [(4,vi 1)] [] [] ?_
   refine AW.ret ?_
   obtain rfl:=Option.some.inj h
   exact Kn.D Fm
  ·refine AW.skip (AW.seq (AW.dSG0 Fm 3 [0,1] [(16,vb (decide (a<b)))] [] [] ?_))
   refine AW.cN h (fun l h=>?_) (fun l h=>?_)
   ·refine AW.dSG0 Fm 1 [] [(4,vi (-1:Int))] [] [] ?_
    refine AW.ret ?_
    obtain rfl:=Option.some.inj h
    exact Kn.D Fm
   ·refine AW.skip (AW.seq (AW.dSG0 Fm 3 [] [(19,vb (decide (b<a)))] [] [] ?_))
    refine AW.cN h (fun m h=>?_) (fun m h=>?_)
    ·refine AW.dSG0 Fm 1 [] [(4,vi 1)] [] [] ?_
     refine AW.ret ?_
     obtain rfl:=Option.some.inj h
     exact Kn.D Fm
    ·refine AW.skip (AW.dSG0 Fm 1 [] [(4,vi 0)] [] [] ?_)
     refine AW.ret ?_
     obtain rfl:=Option.some.inj h
     exact Kn.D Fm
theorem region_Row_1_spec {F:Nat} {a:Span} {b:Span} {r:Int} (h:region_Row_1 F a b=some r) :
  FSpec Tryz.prog 194 [gE a,gE b] [] (vi r) []:=by
 refine FI Tryz.func194 prog_mixed prog_lay fun C Fm=>?_
 unfold region_Row_1 at h
 refine AW.dSG0 Fm 3 [] [(2,pt 2),(3,pt 3)] [] [(2,bx (gC a)),(3,bx (gC b))] ?_
 refine AW.seq ?_
 obtain ⟨d,c,h⟩:=bS h
 refine AW.dG Fm [.s,.s,.s,.s,.k _,.s] (fun K=>K 4∧True) [] [(4,vi d)] [] [] ⟨KAt.CC (cmp_Compare_int_spec c) Tryz.call195 [],⟨⟩⟩ ?_
 refine AW.ret ?_
 obtain rfl:=Option.some.inj h
 exact Kn.D Fm
theorem region_Row_spec {F:Nat} {b:(List Rect)} {j:Int} {r:(List Span)} (h:region_Row F b j=some r) :
  FSpec Tryz.prog 151 [AL b,vi j] [] (AL (α:=Span) r) []:=by
 refine FI Tryz.func151 prog_mixed prog_lay fun C Fm=>?_
 unfold region_Row at h
 refine AW.dSG0 Fm 1 [0,1] [] [] [] ?_
 refine AW.dSW Fm [.m] (fun K=>True) [0,1] [(5,ow 5)] [] [(5,AO (α:=Span) ([]:List Span))] True.intro [(5,.arr 2 (0) (fun _=>[]))] ⟨OLe.is ((Is.nil (α:=Span))),⟨⟩⟩ ?_
 refine AW.dJ (r:=r) (fun z:(List Span)=>region_Row_k3 F z) [5] (fun _=>[]) [] (fun z=>[(5,AO z)]) (fun l0 h=>?_) (fun q0 O=>?_)
 ·refine AW.seq ?_
  obtain ⟨e,j0,h⟩:=bS h
  refine AW.dG Fm [.s,.k (cE [(0,5)] [] (.any) [(0,AO l0)] [(0,AO e)])] (fun K=>K 1∧True) [5] [] [] [(5,AO e)] ⟨KAt.callX (sortF_spec j0) Tryz.call193 [(0,5)] [] [.tmp 37,.func 194] rfl (by kernel_rfl) (by kernel_rfl) (by kernel_rfl) ⟨.p,ArgT.cloX Tryz.call194 [] (fun args r hq=>by obtain ⟨y0,y1,y,hq,rfl,rfl⟩:=hq; exact Eq.mp (by kernel_rfl) (region_Row_1_spec hq)) (fun args r hq=>by obtain ⟨y0,y1,y,hq,rfl,rfl⟩:=hq; rfl) (by kernel_rfl) [] (by kernel_rfl) (by kernel_rfl) (True.intro) (by kernel_rfl),⟨⟩⟩,⟨⟩⟩ ?_
  refine AW.dSW Fm [.m] (fun K=>True) [5] [(8,ow 8)] [5] [(8,AO (α:=Span) ([]:List Span))] True.intro [(8,.arr 2 (0) (fun _=>[]))] ⟨OLe.is ((Is.nil (α:=Span))),⟨⟩⟩ ?_
  refine AW.dJ (r:=r) (fun z:(List Span)=>region_Row_k7 F z) [8] (fun _=>[]) [] (fun z=>[(8,AO z)]) (fun M h=>?_) (fun w0 T=>?_)
  ·refine AW.dSG0 Fm 2 [] [(4,ow 8)] [8] [] ?_
   refine AW.ret ?_
   obtain rfl:=Option.some.inj h
   refine Kn.r Fm [(4,ow 8)] [(8,AO M)] (by kernel_rfl) ?_
   refine Kn.frz [(4,AL M)] [] (by kernel_rfl) (by kernel_rfl) (by kernel_rfl) ?_
   exact Kn.D Fm
  ·refine AW.dSG0 Fm 3 [8] [(39,ow 5),(40,vi (lI e)),(41,vi 0)] [5,8] [] ?_
   refine AW.block (Kn.r Fm [(8,ow 8),(39,ow 5),(40,vi (lI e)),(41,vi 0)] [(5,AO e),(8,AO ([]:List Span))] (by kernel_rfl) ?_)
   refine AW.loopF (E' := fun z=>[(8,ow 8),(39,ow 5),(40,vi (lI e)),(41,vi z.1)]) (S' := fun z=>[(5,AO e),(8,AO z.2)]) (fun u z s0 P h=>?_) h
   obtain ⟨i,a⟩:=z
   refine AW.dSG0 Fm 1 [8,39,40,41] [(42,vb (decide (i<(lI e))))] [5,8] [] ?_
   refine AW.seq (AW.cN h (fun W h=>?_) (fun W h=>?_))
   ·refine AW.skip (AW.dJ (r:=r) (fun z:(List Span)=>region_Row_k6 F i u z) [8,39,40,41] (fun _=>[]) [5] (fun z=>[(8,AO z)]) (fun m0 h=>?_) (fun u0 G=>?_))
    ·obtain ⟨i0,h⟩:=gS h
     refine AW.dpN Fm [.s,.s] [8,39,40] [(41,vi (i+1))] [5,8] [] (cT (cT i0)) ?_
     exact Kn.R Fm (P ((i+1),m0) h)
    ·refine AW.block ?_
     obtain ⟨H,h⟩:=gS h
     refine AW.dSP Fm [.s,.s,.s,.s] [8,39,40,41] [(10,pt 10)] [5,8] [(10,bx [ci ((gl e i.toNat).left_),ci ((gl e i.toNat).right_)])] (cA H (cT (toNat_lt H))) ?_
     refine AW.dSG0 Fm 3 [8,10,39,40,41] [(11,vi (lI a))] [5,8,10] [] ?_
     refine AW.dJ (r:=r) (fun z:Bool=>region_Row_k5 F e i a u z) [8,10,11,39,40,41] (fun z=>[(59,vb z)]) [5,8,10] (fun _=>[]) (fun B0 h=>?_) (fun t0 E=>?_)
     ·refine AW.cN h (fun X h=>?_) (fun X h=>?_)
      ·obtain ⟨c0,d0,L,q,h⟩:=gS4 h
       refine AW.dWP Fm [.s,.s,.s,.s,.s,.s,.s,.s,.s,.s,.s,.s,.s,.s,.s] [8,39,40,41] [] [5] [(8,AO (α:=Span) (List.set a ((lI a)-1).toNat (⟨(gl a ((lI a)-1).toNat).left_,(gmax ((gl a ((lI a)-1).toNat).right_) ((gl e i.toNat).right_))⟩ : Span)))] (cA (cT c0) (cA (cT d0) (cA L (cA (toNat_lt L) (cA q (cT (toNat_lt q))))))) [(8,rSt a ((lI a)-1).toNat 1 [.int .i64 (gmax ((gl a ((lI a)-1).toNat).right_) ((gl e i.toNat).right_))])] ⟨oSt (toNat_lt q),⟨⟩⟩ ?_
       exact Kn.R Fm (G (List.set a ((lI a)-1).toNat (⟨(gl a ((lI a)-1).toNat).left_,(gmax ((gl a ((lI a)-1).toNat).right_) ((gl e i.toNat).right_))⟩ : Span)) h)
      ·obtain ⟨e0,h⟩:=gS h
       refine AW.dWP Fm [.s,.s,.w (AL [(gl e i.toNat)]),.s,.s] [39,40,41] [(8,ow 77)] [5] [(77,AO (α:=Span) (a++([(gl e i.toNat)]:List Span)))] (cA (lit1 (gl e i.toNat)) (cT (cA e0 (cT (lfl ([(gl e i.toNat)]:List Span)))))) [(77,rAp a ([(gl e i.toNat)]:List Span))] ⟨oAp,⟨⟩⟩ ?_
       exact Kn.RE Fm [(8,77)] (G (a++([(gl e i.toNat)]:List Span)) h)
     ·rcases br_or h with ⟨o,h⟩|⟨o,h⟩
      ·obtain ⟨b0,I,h⟩:=gS2 h
       refine AW.dpN Fm [.s,.s,.w (vb true),.s,.s,.s,.s,.s,.s,.s,.s,.s,.s] [8,10,11,39,40,41] [(50,pt 10),(51,vi (gl e i.toNat).left_),(52,ow 8),(53,vi (lI a)),(54,vi ((lI a)-1)),(55,.v (.c (.pte 8 2 (((lI a)-1).toNat) 0))),(56,.v (.c (.pte 8 2 (((lI a)-1).toNat) 1))),(57,vi (gl a ((lI a)-1).toNat).right_),(58,vb (decide (((gl e i.toNat).left_)≤((gl a ((lI a)-1).toNat).right_)))),(59,vb (decide (((gl e i.toNat).left_)≤((gl a ((lI a)-1).toNat).right_))))] [5,8,10] [] (cA (ALe.bool o) (cA (cT b0) (cA I (cT (toNat_lt I))))) ?_
       exact Kn.R Fm (E (decide (((gl e i.toNat).left_)≤((gl a ((lI a)-1).toNat).right_))) h)
      ·refine AW.dpN Fm [.s,.s,.w (vb false),.s,.s,.s,.s,.s,.s,.s,.s,.s,.s] [8,10,11,39,40,41] [(59,vb false)] [5,8,10] [] (cT (ALe.bool o)) ?_
       exact Kn.R Fm (E false h)
   ·exact AW.exit (Kn.R Fm (T a h))
 ·refine AW.dSG0 Fm 3 [1,5] [(12,AL b),(13,vi (lI b)),(14,vi 0)] [5] [] ?_
  refine AW.block (Kn.r Fm [(1,vi j),(5,ow 5),(12,AL b),(13,vi (lI b)),(14,vi 0)] [(5,AO ([]:List Span))] (by kernel_rfl) ?_)
  refine AW.loopF (E' := fun z=>[(1,vi j),(5,ow 5),(12,AL b),(13,vi (lI b)),(14,vi z.1)]) (S' := fun z=>[(5,AO z.2)]) (fun t z n0 N h=>?_) h
  obtain ⟨d,l⟩:=z
  refine AW.dSG0 Fm 1 [1,5,12,13,14] [(15,vb (decide (d<(lI b))))] [5] [] ?_
  refine AW.seq (AW.cN h (fun U h=>?_) (fun U h=>?_))
  ·refine AW.skip (AW.dJ (r:=r) (fun z:(List Span)=>region_Row_k2 F d t z) [1,12,13,14] (fun _=>[(5,ow 35)]) [] (fun z=>[(35,AO z)]) (fun k0 h=>?_) (fun p0 B=>?_))
   ·obtain ⟨a0,h⟩:=gS h
    refine AW.dpN Fm [.s,.s] [1,5,12,13] [(14,vi (d+1))] [35] [] (cT (cT a0)) ?_
    exact Kn.RE Fm [(5,35)] (N ((d+1),k0) h)
   ·refine AW.block ?_
    obtain ⟨Y,h⟩:=gS h
    refine AW.dSP Fm [.s,.s,.s,.s] [1,5,12,13,14] [(7,pt 7)] [5] [(7,bx [ci ((gl b d.toNat).left_),ci ((gl b d.toNat).low_),ci ((gl b d.toNat).right_),ci ((gl b d.toNat).high_)])] (cT Y) ?_
    refine AW.dJ (r:=r) (fun z:Bool=>region_Row_k1 F b d l t z) [1,5,7,12,13,14] (fun z=>[(27,vb z)]) [5,7] (fun _=>[]) (fun A0 h=>?_) (fun o0 A=>?_)
    ·refine AW.cN h (fun V h=>?_) (fun V h=>?_)
     ·obtain ⟨Z,h⟩:=gS h
      refine AW.dWP Fm [.s,.s,.s,.s,.s,.s,.w (AL [(⟨(gl b d.toNat).left_,(gl b d.toNat).right_⟩ : Span)]),.s,.s] [1,12,13,14] [(5,ow 35)] [] [(35,AO (α:=Span) (l++([(⟨(gl b d.toNat).left_,(gl b d.toNat).right_⟩ : Span)]:List Span)))] (cA (lit1 (⟨(gl b d.toNat).left_,(gl b d.toNat).right_⟩ : Span)) (cT (cA Z (cT (lfl ([(⟨(gl b d.toNat).left_,(gl b d.toNat).right_⟩ : Span)]:List Span)))))) [(35,rAp l ([(⟨(gl b d.toNat).left_,(gl b d.toNat).right_⟩ : Span)]:List Span))] ⟨oAp,⟨⟩⟩ ?_
      exact Kn.R Fm (B (l++([(⟨(gl b d.toNat).left_,(gl b d.toNat).right_⟩ : Span)]:List Span)) h)
     ·exact AW.skip (Kn.RE Fm [(35,5)] (B l h))
    ·rcases br_or h with ⟨n,h⟩|⟨n,h⟩
     ·refine AW.dpN Fm [.s,.s,.s,.s,.w (vb true),.s,.s,.s,.s,.s] [1,5,7,12,13,14] [(23,vi j),(24,.v (.c (.ptr 7 3))),(25,vi (gl b d.toNat).high_),(26,vb (decide (j<((gl b d.toNat).high_)))),(27,vb (decide (j<((gl b d.toNat).high_))))] [5,7] [] (cT (ALe.bool n)) ?_
      exact Kn.R Fm (A (decide (j<((gl b d.toNat).high_))) h)
     ·refine AW.dpN Fm [.s,.s,.s,.s,.w (vb false),.s,.s,.s,.s,.s] [1,5,7,12,13,14] [(27,vb false)] [5,7] [] (cT (ALe.bool n)) ?_
      exact Kn.R Fm (A false h)
  ·exact AW.exit (Kn.R Fm (O l h))
theorem region_canonical_1_spec {F:Nat} {b:Int} {a:(List Rect)} {r:(List Span)} (h:region_canonical_1 F b a=some r) :
  FSpec Tryz.prog 170 [vi b,pt 0] [(0,.box true [.d (DL a)])] (AL (α:=Span) r) [(0,.box true [.d (DL a)])]:=by
 refine FI Tryz.func170 prog_mixed prog_lay fun C Fm=>?_
 unfold region_canonical_1 at h
 refine AW.dSG0 Fm 1 [0,1] [] [0] [] ?_
 refine AW.seq ?_
 obtain ⟨e,c,h⟩:=bS h
 refine AW.dG Fm [.s,.s,.k _,.s] (fun K=>K 2∧True) [] [(3,AL e)] [0] [] ⟨KAt.CC (region_Row_spec c) Tryz.call151 [],⟨⟩⟩ ?_
 refine AW.ret ?_
 obtain rfl:=Option.some.inj h
 exact Kn.D Fm
theorem slices_Equal_Span_spec {F:Nat} {c:(List Span)} {d:(List Span)} {r:Bool} (h:slices_Equal_Span F c d=some r) :
  FSpec Tryz.prog 187 [AL c,AL d] [] (vb r) []:=by
 refine FI Tryz.func187 prog_mixed prog_lay fun C Fm=>?_
 unfold slices_Equal_Span at h
 refine AW.dSG0 Fm 1 [0,1] [] [] [] ?_
 refine AW.seq (AW.dSG0 Fm 5 [0,1] [(10,vb ((lI c) != (lI d)))] [] [] ?_)
 refine AW.cN h (fun j h=>?_) (fun j h=>?_)
 ·refine AW.dSG0 Fm 1 [] [(4,vb false)] [] [] ?_
  refine AW.ret ?_
  obtain rfl:=Option.some.inj h
  exact Kn.D Fm
 ·refine AW.skip (AW.dJ (r:=r) (fun z:Unit=>slices_Equal_Span_k1 F) [] (fun _=>[]) [] (fun _=>[]) (fun z h=>?_) (fun t i=>?_))
  ·refine AW.dSG0 Fm 1 [] [(4,vb true)] [] [] ?_
   refine AW.ret ?_
   obtain rfl:=Option.some.inj h
   exact Kn.D Fm
  ·refine AW.dSG0 Fm 3 [0,1] [(12,vi (lI c)),(13,vi 0)] [] [] ?_
   refine AW.block (Kn.r Fm [(0,AL c),(1,AL d),(12,vi (lI c)),(13,vi 0)] [] (by kernel_rfl) ?_)
   refine AW.loopF (E' := fun z=>[(0,AL c),(1,AL d),(12,vi (lI c)),(13,vi z)]) (S' := fun z=>[]) (fun u a q e h=>?_) h
   refine AW.dSG0 Fm 1 [0,1,12,13] [(14,vb (decide (a<(lI c))))] [] [] ?_
   refine AW.seq (AW.cN h (fun l h=>?_) (fun l h=>?_))
   ·refine AW.skip (AW.seq (AW.block (AW.dSG0 Fm 2 [0,1,12,13] [(5,vi a)] [] [] ?_)))
    obtain ⟨n,o,h⟩:=gS2 h
    refine AW.dSG Fm [.s,.s,.s,.s,.s,.s,.s,.s,.k (sE (vb (!((((gl c a.toNat).left_)==((gl d a.toNat).left_))&&((((gl c a.toNat).right_)==((gl d a.toNat).right_))&&true)))))] (fun K=>_∧_∧K 8∧True) [0,1,12,13] [(24,vb (!((((gl c a.toNat).left_)==((gl d a.toNat).left_))&&((((gl c a.toNat).right_)==((gl d a.toNat).right_))&&true))))] [] [] ⟨n,o,KAt.eq (xs:=[ci ((gl c a.toNat).left_),ci ((gl c a.toNat).right_)]) (ys:=[ci ((gl d a.toNat).left_),ci ((gl d a.toNat).right_)]) eqT216 false (b:=((((gl c a.toNat).left_)==((gl d a.toNat).left_))&&((((gl c a.toNat).right_)==((gl d a.toNat).right_))&&true))) rfl rfl (by kernel_rfl) (by kernel_rfl) (by kernel_rfl) (by kernel_rfl),⟨⟩⟩ ?_
    refine AW.cN h (fun m h=>?_) (fun m h=>?_)
    ·refine AW.dSG0 Fm 1 [] [(4,vb false)] [] [] ?_
     refine AW.ret ?_
     obtain rfl:=Option.some.inj h
     exact Kn.D Fm
    ·refine AW.skip ?_
     obtain ⟨p,h⟩:=gS h
     refine AW.dpN Fm [.s,.s] [0,1,12] [(13,vi (a+1))] [] [] (cT (cT p)) ?_
     exact Kn.R Fm (e (a+1) h)
   ·exact AW.exit (Kn.R Fm (i () h))
theorem region_rects_spec {F:Nat} {a:(List Band)} {r:(List Rect)} (h:region_rects F a=some r) :
  FSpec Tryz.prog 188 [AL a] [] (AL (α:=Rect) r) []:=by
 refine FI Tryz.func188 prog_mixed prog_lay fun C Fm=>?_
 unfold region_rects at h
 refine AW.dSG0 Fm 1 [0] [] [] [] ?_
 refine AW.dSW Fm [.m] (fun K=>True) [0] [(3,ow 3)] [] [(3,AO (α:=Rect) ([]:List Rect))] True.intro [(3,.arr 4 (0) (fun _=>[]))] ⟨OLe.is ((Is.nil (α:=Rect))),⟨⟩⟩ ?_
 refine AW.dJ (r:=r) (fun z:(List Rect)=>region_rects_k3 F z) [3] (fun _=>[]) [] (fun z=>[(3,AO z)]) (fun j h=>?_) (fun M p=>?_)
 ·refine AW.dSG0 Fm 2 [] [(2,ow 3)] [3] [] ?_
  refine AW.ret ?_
  obtain rfl:=Option.some.inj h
  refine Kn.r Fm [(2,ow 3)] [(3,AO j)] (by kernel_rfl) ?_
  refine Kn.frz [(2,AL j)] [] (by kernel_rfl) (by kernel_rfl) (by kernel_rfl) ?_
  exact Kn.D Fm
 ·refine AW.dSG0 Fm 3 [3] [(8,AL a),(9,vi (lI a)),(10,vi 0)] [3] [] ?_
  refine AW.block (Kn.r Fm [(3,ow 3),(8,AL a),(9,vi (lI a)),(10,vi 0)] [(3,AO ([]:List Rect))] (by kernel_rfl) ?_)
  refine AW.loopF (E' := fun z=>[(3,ow 3),(8,AL a),(9,vi (lI a)),(10,vi z.1)]) (S' := fun z=>[(3,AO z.2)]) (fun k z H l h=>?_) h
  obtain ⟨b,i⟩:=z
  refine AW.dSG0 Fm 1 [3,8,9,10] [(11,vb (decide (b<(lI a))))] [3] [] ?_
  refine AW.seq (AW.cN h (fun q h=>?_) (fun q h=>?_))
  ·refine AW.skip (AW.dJ (r:=r) (fun z:(List Rect)=>region_rects_k2 F b k z) [3,8,9,10] (fun _=>[]) [] (fun z=>[(3,AO z)]) (fun G h=>?_) (fun L o=>?_))
   ·obtain ⟨E,h⟩:=gS h
    refine AW.dpN Fm [.s,.s] [3,8,9] [(10,vi (b+1))] [3] [] (cT (cT E)) ?_
    exact Kn.R Fm (l ((b+1),G) h)
   ·refine AW.block ?_
    obtain ⟨u,h⟩:=gS h
    refine AW.dSP Fm [.s,.s,.s,.s] [3,8,9,10] [(5,pt 5)] [3] [(5,bx [ci ((gl a b.toNat).low_),ci ((gl a b.toNat).high_),.d (DL (α:=Span) (gl a b.toNat).spans_)])] (cT u) ?_
    refine AW.dSG0 Fm 4 [3,5,8,9,10] [(15,AL (α:=Span) (gl a b.toNat).spans_),(16,vi (lI ((gl a b.toNat).spans_))),(17,vi 0)] [3,5] [] ?_
    refine AW.block (Kn.r Fm [(3,ow 3),(5,pt 5),(8,AL a),(9,vi (lI a)),(10,vi b),(15,AL (α:=Span) (gl a b.toNat).spans_),(16,vi (lI ((gl a b.toNat).spans_))),(17,vi 0)] [(3,AO i),(5,bx [ci ((gl a b.toNat).low_),ci ((gl a b.toNat).high_),.d (DL (α:=Span) (gl a b.toNat).spans_)])] (by kernel_rfl) ?_)
    refine AW.loopF (E' := fun z=>[(3,ow 3),(5,pt 5),(8,AL a),(9,vi (lI a)),(10,vi b),(15,AL (α:=Span) (gl a b.toNat).spans_),(16,vi (lI ((gl a b.toNat).spans_))),(17,vi z.1)]) (S' := fun z=>[(3,AO z.2),(5,bx [ci ((gl a b.toNat).low_),ci ((gl a b.toNat).high_),.d (DL (α:=Span) (gl a b.toNat).spans_)])]) (fun N z I n h=>?_) h
    obtain ⟨c,e⟩:=z
    refine AW.dSG0 Fm 1 [3,5,8,9,10,15,16,17] [(18,vb (decide (c<(lI ((gl a b.toNat).spans_)))))] [3,5] [] ?_
    refine AW.seq (AW.cN h (fun t h=>?_) (fun t h=>?_))
    ·refine AW.skip (AW.seq (AW.block ?_))
     obtain ⟨y,h⟩:=gS h
     refine AW.dSP Fm [.s,.s,.s,.s] [3,5,8,9,10,15,16,17] [(7,pt 7)] [3,5] [(7,bx [ci ((gl ((gl a b.toNat).spans_) c.toNat).left_),ci ((gl ((gl a b.toNat).spans_) c.toNat).right_)])] (cT y) ?_
     obtain ⟨A,h⟩:=gS h
     refine AW.dWP Fm [.s,.s,.s,.s,.s,.s,.s,.s,.s,.s,.w (AL [(⟨(gl ((gl a b.toNat).spans_) c.toNat).left_,(gl a b.toNat).low_,(gl ((gl a b.toNat).spans_) c.toNat).right_,(gl a b.toNat).high_⟩ : Rect)]),.s,.s] [5,8,9,10,15,16,17] [(3,ow 32)] [5] [(32,AO (α:=Rect) (e++([(⟨(gl ((gl a b.toNat).spans_) c.toNat).left_,(gl a b.toNat).low_,(gl ((gl a b.toNat).spans_) c.toNat).right_,(gl a b.toNat).high_⟩ : Rect)]:List Rect)))] (cA (lit1 (⟨(gl ((gl a b.toNat).spans_) c.toNat).left_,(gl a b.toNat).low_,(gl ((gl a b.toNat).spans_) c.toNat).right_,(gl a b.toNat).high_⟩ : Rect)) (cT (cA A (cT (lfl ([(⟨(gl ((gl a b.toNat).spans_) c.toNat).left_,(gl a b.toNat).low_,(gl ((gl a b.toNat).spans_) c.toNat).right_,(gl a b.toNat).high_⟩ : Rect)]:List Rect)))))) [(32,rAp e ([(⟨(gl ((gl a b.toNat).spans_) c.toNat).left_,(gl a b.toNat).low_,(gl ((gl a b.toNat).spans_) c.toNat).right_,(gl a b.toNat).high_⟩ : Rect)]:List Rect))] ⟨oAp,⟨⟩⟩ ?_
     obtain ⟨B,h⟩:=gS h
     refine AW.dpN Fm [.s,.s] [3,5,8,9,10,15,16] [(17,vi (c+1))] [5,32] [] (cT (cT B)) ?_
     exact Kn.RE Fm [(3,32)] (n ((c+1),(e++([(⟨(gl ((gl a b.toNat).spans_) c.toNat).left_,(gl a b.toNat).low_,(gl ((gl a b.toNat).spans_) c.toNat).right_,(gl a b.toNat).high_⟩ : Rect)]:List Rect))) h)
    ·exact AW.exit (Kn.R Fm (o e h))
  ·exact AW.exit (Kn.R Fm (p i h))
theorem region_Build_spec {F:Nat} {b:(List Int)} {j:Int→Option (List Span)} {r:(List Rect)} (h:region_Build F b j=some r) :
  FSpec Tryz.prog 147 [AL b,.v (.c (.sem (CloOK Tryz.prog (FR_Int_ListSpan j))))] [] (AL (α:=Rect) r) []:=by
 refine FI Tryz.func147 prog_mixed prog_lay fun C Fm=>?_
 unfold region_Build at h
 refine AW.dSG0 Fm 1 [0,1] [] [] [] ?_
 refine AW.dSW Fm [.m] (fun K=>True) [0,1] [(5,ow 5)] [] [(5,AO (α:=Band) ([]:List Band))] True.intro [(5,.arr 3 (0) (fun _=>[]))] ⟨OLe.is ((Is.nil (α:=Band))),⟨⟩⟩ ?_
 refine AW.dJ (r:=r) (fun z:(List Band)=>region_Build_k3 F z) [5] (fun _=>[]) [] (fun z=>[(5,AO z)]) (fun E h=>?_) (fun j0 H=>?_)
 ·refine AW.seq (Kn.r Fm [(5,ow 5)] [(5,AO E)] (by kernel_rfl) ?_)
  refine Kn.frz [(5,AL E)] [] (by kernel_rfl) (by kernel_rfl) (by kernel_rfl) ?_
  obtain ⟨c0,a0,h⟩:=bS h
  refine AW.dG Fm [.s,.k _,.s] (fun K=>K 1∧True) [] [(4,AL c0)] [] [] ⟨KAt.CC (region_rects_spec a0) Tryz.call188 [],⟨⟩⟩ ?_
  refine AW.ret ?_
  obtain rfl:=Option.some.inj h
  exact Kn.D Fm
 ·refine AW.dSG0 Fm 1 [0,1,5] [(6,vi 1)] [5] [] ?_
  refine AW.block (Kn.r Fm [(0,AL b),(1,.v (.c (.sem (CloOK Tryz.prog (FR_Int_ListSpan j))))),(5,ow 5),(6,vi 1)] [(5,AO ([]:List Band))] (by kernel_rfl) ?_)
  refine AW.loopF (E' := fun z=>[(0,AL b),(1,.v (.c (.sem (CloOK Tryz.prog (FR_Int_ListSpan j))))),(5,ow 5),(6,vi z.1)]) (S' := fun z=>[(5,AO z.2)]) (fun u z d0 G h=>?_) h
  obtain ⟨e,a⟩:=z
  refine AW.seq (AW.dSG0 Fm 4 [0,1,5,6] [(12,vb (decide (e<(lI b))))] [5] [] ?_)
  refine AW.cN h (fun I h=>?_) (fun I h=>?_)
  ·refine AW.skip (AW.dJ (r:=r) (fun z:(List Band)=>region_Build_k2 F e u z) [0,1,5,6] (fun _=>[]) [] (fun z=>[(5,AO z)]) (fun b0 h=>?_) (fun i0 y=>?_))
   ·obtain ⟨X,h⟩:=gS h
    refine AW.dpN Fm [.s,.s,.s] [0,1,5] [(6,vi (e+1))] [5] [] (cT (cT X)) ?_
    exact Kn.R Fm (G ((e+1),b0) h)
   ·refine AW.block (AW.seq ?_)
    obtain ⟨M,N,O,P,h⟩:=gS4 h
    obtain ⟨T,h⟩:=gS h
    obtain ⟨i,Y,h⟩:=bS h
    refine AW.dG Fm [.s,.s,.s,.s,.s,.s,.s,.s,.s,.s,.s,.s,.s,.s,.s,.k (sE (AL i)),.s,.s,.s] (fun K=>(_∧True)∧_∧_∧(_∧True)∧_∧K 15∧True) [0,1,5,6] [(7,pt 7)] [5] [(7,bx [ci (gl b (e-1).toNat),ci (gl b e.toNat),.d (DL i)])] ⟨⟨M,⟨⟩⟩,N,O,⟨P,⟨⟩⟩,T,KAt.sem (F:=(FR_Int_ListSpan j)) (args:=[vi (gl b (e-1).toNat)]) ⟨(gl b (e-1).toNat),i,Y,rfl,rfl⟩ rfl (by kernel_rfl) (by kernel_rfl) (by kernel_rfl),⟨⟩⟩ ?_
    refine AW.dSG0 Fm 3 [0,1,5,6,7] [(8,vi (lI a))] [5,7] [] ?_
    refine AW.dJ (r:=r) (fun z:Bool=>region_Build_k1 F b e a i u z) [0,1,5,6,7,8] (fun z=>[(57,vb z)]) [5,7] (fun _=>[]) (fun k0 h=>?_) (fun e0 o=>?_)
    ·refine AW.cN h (fun L h=>?_) (fun L h=>?_)
     ·obtain ⟨V,q,h⟩:=gS2 h
      refine AW.dWP Fm [.s,.s,.s,.s,.s,.s,.s,.s] [0,1,5,6] [] [] [(5,AO (α:=Band) (List.set a ((lI a)-1).toNat (⟨(gl a ((lI a)-1).toNat).low_,(gl b e.toNat),(gl a ((lI a)-1).toNat).spans_⟩ : Band)))] (cA (cT V) (cA q (cT (toNat_lt q)))) [(5,rSt a ((lI a)-1).toNat 1 [.int .i64 (gl b e.toNat)])] ⟨oSt (toNat_lt q),⟨⟩⟩ ?_
      exact Kn.R Fm (y (List.set a ((lI a)-1).toNat (⟨(gl a ((lI a)-1).toNat).low_,(gl b e.toNat),(gl a ((lI a)-1).toNat).spans_⟩ : Band)) h)
     ·obtain ⟨W,h⟩:=gS h
      refine AW.dWP Fm [.s,.s,.w (AL [(⟨(gl b (e-1).toNat),(gl b e.toNat),i⟩ : Band)]),.s,.s] [0,1,6] [(5,ow 68)] [] [(68,AO (α:=Band) (a++([(⟨(gl b (e-1).toNat),(gl b e.toNat),i⟩ : Band)]:List Band)))] (cA (lit1 (⟨(gl b (e-1).toNat),(gl b e.toNat),i⟩ : Band)) (cT (cA W (cT (lfl ([(⟨(gl b (e-1).toNat),(gl b e.toNat),i⟩ : Band)]:List Band)))))) [(68,rAp a ([(⟨(gl b (e-1).toNat),(gl b e.toNat),i⟩ : Band)]:List Band))] ⟨oAp,⟨⟩⟩ ?_
      exact Kn.RE Fm [(5,68)] (y (a++([(⟨(gl b (e-1).toNat),(gl b e.toNat),i⟩ : Band)]:List Band)) h)
    ·rcases br_or h with ⟨l,h⟩|⟨l,h⟩
     ·obtain ⟨A,n,h⟩:=gS2 h
      rcases br_or h with ⟨p,h⟩|⟨p,h⟩
      ·obtain ⟨U,B,h⟩:=gS2 h
       obtain ⟨t,Z,h⟩:=bS h
       refine AW.dG Fm [.s,.s,.w (vb true),.s,.s,.s,.s,.s,.s,.s,.s,.s,.s,.w (vb true),.s,.s,.s,.s,.s,.s,.s,.s,.k _,.s] (fun K=>_∧(_∧True)∧_∧_∧_∧(_∧True)∧_∧_∧K 22∧True) [0,1,5,6,7,8] [(37,ow 5),(38,vi (lI a)),(39,vi ((lI a)-1)),(40,.v (.c (.pte 5 3 (((lI a)-1).toNat) 0))),(41,.v (.c (.pte 5 3 (((lI a)-1).toNat) 1))),(42,vi (gl a ((lI a)-1).toNat).high_),(43,pt 7),(44,vi (gl b (e-1).toNat)),(45,vb (((gl a ((lI a)-1).toNat).high_)==(gl b (e-1).toNat))),(48,ow 5),(49,vi (lI a)),(50,vi ((lI a)-1)),(51,.v (.c (.pte 5 3 (((lI a)-1).toNat) 0))),(52,.v (.c (.pte 5 3 (((lI a)-1).toNat) 2))),(53,AL (α:=Span) (gl a ((lI a)-1).toNat).spans_),(54,.v (.c (.ptr 7 2))),(55,AL i),(56,vb t),(57,vb t)] [5,7] [] ⟨ALe.bool l,⟨A,⟨⟩⟩,n,(toNat_lt n),ALe.bool p,⟨U,⟨⟩⟩,B,(toNat_lt B),KAt.CC (slices_Equal_Span_spec Z) Tryz.call187 [],⟨⟩⟩ ?_
       exact Kn.R Fm (o t h)
      ·refine AW.dpN Fm [.s,.s,.w (vb true),.s,.s,.s,.s,.s,.s,.s,.s,.s,.s,.w (vb false),.s,.s,.s,.s,.s,.s,.s,.s,.s,.s] [0,1,5,6,7,8] [(37,ow 5),(38,vi (lI a)),(39,vi ((lI a)-1)),(40,.v (.c (.pte 5 3 (((lI a)-1).toNat) 0))),(41,.v (.c (.pte 5 3 (((lI a)-1).toNat) 1))),(42,vi (gl a ((lI a)-1).toNat).high_),(43,pt 7),(44,vi (gl b (e-1).toNat)),(45,vb (((gl a ((lI a)-1).toNat).high_)==(gl b (e-1).toNat))),(57,vb false)] [5,7] [] (cA (ALe.bool l) (cA (cT A) (cA n (cA (toNat_lt n) (cT (ALe.bool p)))))) ?_
       exact Kn.R Fm (o false h)
     ·refine AW.dpN Fm [.s,.s,.w (vb false),.s,.s,.s,.s,.s,.s,.s,.s,.s,.s,.s,.s,.s,.s,.s,.s,.s,.s,.s,.s,.s] [0,1,5,6,7,8] [(57,vb false)] [5,7] [] (cT (ALe.bool l)) ?_
      exact Kn.R Fm (o false h)
  ·exact AW.exit (Kn.R Fm (H a h))
theorem region_canonical_spec {F:Nat} {a:(List Rect)} {r:(List Rect)} (h:region_canonical F a=some r) :
  FSpec Tryz.prog 123 [AL a] [] (AL (α:=Rect) r) []:=by
 refine FI Tryz.func123 prog_mixed prog_lay fun C Fm=>?_
 unfold region_canonical at h
 refine AW.dSG0 Fm 2 [] [(1,pt 1)] [] [(1,bx [.d (DL a)])] ?_
 refine AW.seq ?_
 obtain ⟨j,e,h⟩:=bS h
 obtain ⟨b,i,h⟩:=bS h
 refine AW.dG Fm [.s,.w (AL (α:=(List Rect)) ([a]:List (List Rect))),.k _,.s,.k (cE [] [1] (AL b) [] []),.s] (fun K=>(ALe (.v (.c (.d (.lst 1 (litF 1 [DL a]))))) (AL (α:=(List Rect)) ([a]:List (List Rect))))∧K 2∧K 4∧True) [] [(2,AL b)] [] [] ⟨ALe.lst (.lit ([a]:List (List Rect)) (by kernel_rfl)),KAt.CC (region_Cuts_spec e) Tryz.call148 [],KAt.callX (region_Build_spec i) Tryz.call147 [] [1] [.tmp 5,.tmp 6] rfl (by kernel_rfl) (by kernel_rfl) (by kernel_rfl) ⟨.p,ArgT.cloX Tryz.call170 [[.d (DL a)]] (fun args r hq=>by obtain ⟨y0,y,hq,rfl,rfl⟩:=hq; exact Eq.mp (by kernel_rfl) (region_canonical_1_spec hq)) (fun args r hq=>by obtain ⟨y0,y,hq,rfl,rfl⟩:=hq; rfl) (by kernel_rfl) [1] (by kernel_rfl) (by kernel_rfl) (⟨⟨false,(by kernel_rfl)⟩,⟨⟩⟩) (by kernel_rfl),⟨⟩⟩,⟨⟩⟩ ?_
 refine AW.ret ?_
 obtain rfl:=Option.some.inj h
 exact Kn.D Fm
theorem slices_Equal_Rect_spec {F:Nat} {c:(List Rect)} {d:(List Rect)} {r:Bool} (h:slices_Equal_Rect F c d=some r) :
  FSpec Tryz.prog 122 [AL c,AL d] [] (vb r) []:=by
 refine FI Tryz.func122 prog_mixed prog_lay fun C Fm=>?_
 unfold slices_Equal_Rect at h
 refine AW.dSG0 Fm 1 [0,1] [] [] [] ?_
 refine AW.seq (AW.dSG0 Fm 5 [0,1] [(10,vb ((lI c) != (lI d)))] [] [] ?_)
 refine AW.cN h (fun j h=>?_) (fun j h=>?_)
 ·refine AW.dSG0 Fm 1 [] [(4,vb false)] [] [] ?_
  refine AW.ret ?_
  obtain rfl:=Option.some.inj h
  exact Kn.D Fm
 ·refine AW.skip (AW.dJ (r:=r) (fun z:Unit=>slices_Equal_Rect_k1 F) [] (fun _=>[]) [] (fun _=>[]) (fun z h=>?_) (fun t i=>?_))
  ·refine AW.dSG0 Fm 1 [] [(4,vb true)] [] [] ?_
   refine AW.ret ?_
   obtain rfl:=Option.some.inj h
   exact Kn.D Fm
  ·refine AW.dSG0 Fm 3 [0,1] [(12,vi (lI c)),(13,vi 0)] [] [] ?_
   refine AW.block (Kn.r Fm [(0,AL c),(1,AL d),(12,vi (lI c)),(13,vi 0)] [] (by kernel_rfl) ?_)
   refine AW.loopF (E' := fun z=>[(0,AL c),(1,AL d),(12,vi (lI c)),(13,vi z)]) (S' := fun z=>[]) (fun u a q e h=>?_) h
   refine AW.dSG0 Fm 1 [0,1,12,13] [(14,vb (decide (a<(lI c))))] [] [] ?_
   refine AW.seq (AW.cN h (fun l h=>?_) (fun l h=>?_))
   ·refine AW.skip (AW.seq (AW.block (AW.dSG0 Fm 2 [0,1,12,13] [(5,vi a)] [] [] ?_)))
    obtain ⟨n,o,h⟩:=gS2 h
    refine AW.dSG Fm [.s,.s,.s,.s,.s,.s,.s,.s,.k (sE (vb (!((((gl c a.toNat).left_)==((gl d a.toNat).left_))&&((((gl c a.toNat).low_)==((gl d a.toNat).low_))&&((((gl c a.toNat).right_)==((gl d a.toNat).right_))&&((((gl c a.toNat).high_)==((gl d a.toNat).high_))&&true)))))))] (fun K=>_∧_∧K 8∧True) [0,1,12,13] [(24,vb (!((((gl c a.toNat).left_)==((gl d a.toNat).left_))&&((((gl c a.toNat).low_)==((gl d a.toNat).low_))&&((((gl c a.toNat).right_)==((gl d a.toNat).right_))&&((((gl c a.toNat).high_)==((gl d a.toNat).high_))&&true))))))] [] [] ⟨n,o,KAt.eq (xs:=[ci ((gl c a.toNat).left_),ci ((gl c a.toNat).low_),ci ((gl c a.toNat).right_),ci ((gl c a.toNat).high_)]) (ys:=[ci ((gl d a.toNat).left_),ci ((gl d a.toNat).low_),ci ((gl d a.toNat).right_),ci ((gl d a.toNat).high_)]) eqT85 false (b:=((((gl c a.toNat).left_)==((gl d a.toNat).left_))&&((((gl c a.toNat).low_)==((gl d a.toNat).low_))&&((((gl c a.toNat).right_)==((gl d a.toNat).right_))&&((((gl c a.toNat).high_)==((gl d a.toNat).high_))&&true))))) rfl rfl (by kernel_rfl) (by kernel_rfl) (by kernel_rfl) (by kernel_rfl),⟨⟩⟩ ?_
    refine AW.cN h (fun m h=>?_) (fun m h=>?_)
    ·refine AW.dSG0 Fm 1 [] [(4,vb false)] [] [] ?_
     refine AW.ret ?_
     obtain rfl:=Option.some.inj h
     exact Kn.D Fm
    ·refine AW.skip ?_
     obtain ⟨p,h⟩:=gS h
     refine AW.dpN Fm [.s,.s] [0,1,12] [(13,vi (a+1))] [] [] (cT (cT p)) ?_
     exact Kn.R Fm (e (a+1) h)
   ·exact AW.exit (Kn.R Fm (i () h))
theorem region_Valid_spec {F:Nat} {a:Region} {r:Bool} (h:region_Valid F a=some r) :
  FSpec Tryz.prog 65 [.v (.g [.d (DL a.rects_)])] [] (vb r) []:=by
 refine FI Tryz.func65 prog_mixed prog_lay fun C Fm=>?_
 unfold region_Valid at h
 refine AW.dSG0 Fm 2 [] [(1,pt 1)] [] [(1,bx [.d (DL a.rects_)])] ?_
 refine AW.seq (AW.dJ (r:=r) (fun z:Bool=>region_Valid_k0 F a z) [1] (fun z=>[(11,vb z)]) [1] (fun _=>[]) (fun q h=>?_) (fun o e=>?_))
 ·refine AW.cN h (fun i h=>?_) (fun i h=>?_)
  ·refine AW.dSG0 Fm 1 [] [(2,vb false)] [] [] ?_
   refine AW.ret ?_
   obtain rfl:=Option.some.inj h
   exact Kn.D Fm
  ·refine AW.skip (AW.seq ?_)
   obtain ⟨t,l,h⟩:=bS h
   obtain ⟨n,m,h⟩:=bS h
   refine AW.dG Fm [.s,.s,.k _,.s,.s,.k _,.s] (fun K=>K 2∧K 5∧True) [] [(2,vb n)] [] [] ⟨KAt.CC (region_canonical_spec l) Tryz.call123 [],KAt.CC (slices_Equal_Rect_spec m) Tryz.call122 [],⟨⟩⟩ ?_
   refine AW.ret ?_
   obtain rfl:=Option.some.inj h
   exact Kn.D Fm
 ·rcases br_or h with ⟨b,h⟩|⟨b,h⟩
  ·refine AW.dpN Fm [.s,.s,.s,.s,.w (vb true),.s,.s,.s,.s] [1] [(11,vb true)] [1] [] (cT (ALe.bool b)) ?_
   exact Kn.R Fm (e true h)
  ·obtain ⟨c,j,h⟩:=bS h
   refine AW.dG Fm [.s,.s,.s,.s,.w (vb false),.s,.s,.k (cE [] [] (vb c) [] []),.s] (fun K=>_∧K 7∧True) [1] [(11,vb c)] [1] [] ⟨ALe.bool b,KAt.callX (slices_ContainsFunc_Rect_spec j) Tryz.call69 [] [] [.tmp 9,.func 120] rfl (by kernel_rfl) (by kernel_rfl) (by kernel_rfl) ⟨.p,ArgT.cloX Tryz.call120 [] (fun args r hq=>by obtain ⟨y0,y,hq,rfl,rfl⟩:=hq; exact Eq.mp (by kernel_rfl) (region_Valid_1_spec hq)) (fun args r hq=>by obtain ⟨y0,y,hq,rfl,rfl⟩:=hq; rfl) (by kernel_rfl) [] (by kernel_rfl) (by kernel_rfl) (True.intro) (by kernel_rfl),⟨⟩⟩,⟨⟩⟩ ?_
   exact Kn.R Fm (e c h)
theorem exclusion_check_1_spec {F:Nat} {a:Region} {r:Bool} (h:exclusion_check_1 F a=some r) :
  FSpec Tryz.prog 111 [.v (.g [.d (DL a.rects_)])] [] (vb r) []:=by
 refine FI Tryz.func111 prog_mixed prog_lay fun C Fm=>?_
 unfold exclusion_check_1 at h
 refine AW.dSG0 Fm 2 [] [(1,pt 1)] [] [(1,bx [.d (DL a.rects_)])] ?_
 refine AW.seq ?_
 obtain ⟨c,b,h⟩:=bS h
 refine AW.dG Fm [.s,.k _,.s,.s] (fun K=>K 1∧True) [] [(2,vb (!c))] [] [] ⟨KAt.CC (region_Valid_spec b) Tryz.call65 [],⟨⟩⟩ ?_
 refine AW.ret ?_
 obtain rfl:=Option.some.inj h
 exact Kn.D Fm
theorem exclusion_check_spec {F:Nat} {a:(List Scheme)} {b:(List Region)} {r:Int} (h:exclusion_check F a b=some r) :
  FSpec Tryz.prog 56 [AL a,AL b] [] (vi r) []:=by
 refine FI Tryz.func56 prog_mixed prog_lay fun C Fm=>?_
 unfold exclusion_check at h
 refine AW.dSG0 Fm 1 [0,1] [] [] [] ?_
 refine AW.seq (AW.seq ?_)
 obtain ⟨c,l,h⟩:=bS h
 refine AW.dG Fm [.s,.k _,.s,.s,.s,.s,.s] (fun K=>K 1∧True) [0,1] [(6,vi c.2)] [] [] ⟨KAt.CC (scheme_Check_spec l) Tryz.call109 [],⟨⟩⟩ ?_
 refine AW.dSG0 Fm 2 [0,1,6] [(13,vb (c.2 != (0:Int)))] [] [] ?_
 refine AW.cN h (fun e h=>?_) (fun e h=>?_)
 ·refine AW.dSG0 Fm 2 [] [(4,vi c.2)] [] [] ?_
  refine AW.ret ?_
  obtain rfl:=Option.some.inj h
  exact Kn.D Fm
 ·refine AW.skip (AW.seq (AW.dSG0 Fm 5 [1] [(19,vb ((lI a) != (lI b)))] [] [] ?_))
  refine AW.cN h (fun i h=>?_) (fun i h=>?_)
  ·refine AW.dSG0 Fm 1 [] [(4,vi 3)] [] [] ?_
   refine AW.ret ?_
   obtain rfl:=Option.some.inj h
   exact Kn.D Fm
  ·refine AW.skip (AW.seq (AW.seq ?_))
   obtain ⟨d,m,h⟩:=bS h
   refine AW.dG Fm [.s,.k (cE [] [] (vb d) [] [])] (fun K=>K 1∧True) [] [(21,vb d)] [] [] ⟨KAt.callX (slices_ContainsFunc_Region_spec m) Tryz.call110 [] [] [.tmp 20,.func 111] rfl (by kernel_rfl) (by kernel_rfl) (by kernel_rfl) ⟨.p,ArgT.cloX Tryz.call111 [] (fun args r hq=>by obtain ⟨y0,y,hq,rfl,rfl⟩:=hq; exact Eq.mp (by kernel_rfl) (exclusion_check_1_spec hq)) (fun args r hq=>by obtain ⟨y0,y,hq,rfl,rfl⟩:=hq; rfl) (by kernel_rfl) [] (by kernel_rfl) (by kernel_rfl) (True.intro) (by kernel_rfl),⟨⟩⟩,⟨⟩⟩ ?_
   refine AW.cN h (fun j h=>?_) (fun j h=>?_)
   ·refine AW.dSG0 Fm 1 [] [(4,vi 7)] [] [] ?_
    refine AW.ret ?_
    obtain rfl:=Option.some.inj h
    exact Kn.D Fm
   ·refine AW.skip (AW.dSG0 Fm 1 [] [(4,vi 0)] [] [] ?_)
    refine AW.ret ?_
    obtain rfl:=Option.some.inj h
    exact Kn.D Fm
theorem slices_Clone_Rect_spec {F:Nat} {a:(List Rect)} {r:(List Rect)} (h:slices_Clone_Rect F a=some r) :
  FSpec Tryz.prog 112 [AL a] [] (AL (α:=Rect) r) []:=by
 refine FI Tryz.func112 prog_mixed prog_lay fun C Fm=>?_
 unfold slices_Clone_Rect at h
 refine AW.dSG0 Fm 1 [0] [] [] [] ?_
 refine AW.seq (AW.dSG Fm [.s,.k (sE (nb (List.length a)))] (fun K=>K 1∧True) [0] [(4,.v (.c (.sem (nbP (List.length a)))))] [] [] ⟨KAt.nil (t:=30) (el:=85) (n:=List.length a) (by kernel_rfl) rfl rfl (by kernel_rfl) (by kernel_rfl) (by kernel_rfl),⟨⟩⟩ ?_)
 refine AW.condNil (n:=List.length a) (by kernel_rfl) (fun d=>?_) ?_
 ·have h:=brN_t h d
  refine AW.dSG0 Fm 1 [] [(2,.v (.c (.fl 0 fun _=>[])))] [] [] ?_
  refine AW.ret ?_
  obtain rfl:=Option.some.inj h
  refine Kn.r Fm [(2,.v (.c (.fl 0 fun _=>[])))] [] (by kernel_rfl) ?_
  refine Kn.wk [(2,AL (α:=Rect) [])] [] ⟨rfl,ALe.c (CLe.fl .nil),⟨⟩⟩ True.intro ?_
  exact Kn.D Fm
 ·have h:=brN_f h
  refine AW.skip ?_
  obtain ⟨b,h⟩:=gS h
  refine AW.dSV Fm [.m,.s,.s,.s] [] [(2,ow 7)] [] [(7,AO (α:=Rect) (([]:List Rect)++a))] (cT (cA b (cT (lfl a)))) [(7,rA0 a)] ⟨oA0,⟨⟩⟩ ?_
  refine AW.ret ?_
  obtain rfl:=Option.some.inj h
  refine Kn.r Fm [(2,ow 7)] [(7,AO (α:=Rect) (([]:List Rect)++a))] (by kernel_rfl) ?_
  refine Kn.frz [(2,AL (α:=Rect) (([]:List Rect)++a))] [] (by kernel_rfl) (by kernel_rfl) (by kernel_rfl) ?_
  exact Kn.D Fm
theorem exclusion_clone_spec {F:Nat} {a:Region} {r:Region} (h:exclusion_clone F a=some r) :
  FSpec Tryz.prog 57 [.v (.g [.d (DL a.rects_)])] [] (.v (.g [.d (DL (α:=Rect) r.rects_)])) []:=by
 refine FI Tryz.func57 prog_mixed prog_lay fun C Fm=>?_
 unfold exclusion_clone at h
 refine AW.dSG0 Fm 2 [] [(1,pt 1),(2,pt 2)] [] [(1,bx [.d (DL a.rects_)]),(2,bx [.fl 0 fun _=>[]])] ?_
 refine AW.seq ?_
 obtain ⟨c,b,h⟩:=bS h
 refine AW.dG Fm [.s,.s,.k _,.s,.s] (fun K=>K 2∧True) [2] [] [] [(2,bx [.d (DL c)])] ⟨KAt.CC (slices_Clone_Rect_spec b) Tryz.call112 [],⟨⟩⟩ ?_
 refine AW.ret ?_
 obtain rfl:=Option.some.inj h
 exact Kn.D Fm
theorem exclusion_excludes_spec {F:Nat} {a:Scheme} {b:Scheme} {r:Bool} (h:exclusion_excludes F a b=some r) :
  FSpec Tryz.prog 58 [gE a,gE b] [] (vb r) []:=by
 refine FI Tryz.func58 prog_mixed prog_lay fun C Fm=>?_
 unfold exclusion_excludes at h
 refine AW.dSG0 Fm 3 [] [(2,pt 2),(3,pt 3)] [] [(2,bx (gC a)),(3,bx (gC b))] ?_
 obtain ⟨c,h⟩:=gS h
 refine AW.dSP Fm [.s,.s,.s,.s,.s,.s,.s,.s] [] [(4,vb ((band .i64 (a.excludes_.fdiv (2 ^ (min (b.number_).toNat (IntKind.bits .i64)))) (1:Int))==(1:Int)))] [] [] (cT c) ?_
 refine AW.ret ?_
 obtain rfl:=Option.some.inj h
 exact Kn.D Fm
theorem slices_Concat_Span_spec {F:Nat} {a:(List (List Span))} {r:(List Span)} (h:slices_Concat_Span F a=some r) :
  FSpec Tryz.prog 191 [AL a] [] (ow 100) [(100,AO (α:=Span) r)]:=by
 refine FI Tryz.func191 prog_mixed prog_lay fun C Fm=>?_
 unfold slices_Concat_Span at h
 refine AW.dSG Fm [.m] (fun K=>True) [0] [] [] [] True.intro ?_
 refine AW.dSG0 Fm 1 [0] [(3,vi 0)] [] [] ?_
 refine AW.dJ (r:=r) (fun z:Int=>slices_Concat_Span_k1 F a z) [0] (fun z=>[(3,vi z)]) [] (fun _=>[]) (fun P h=>?_) (fun I l=>?_)
 ·refine AW.seq ?_
  obtain ⟨i,E,h⟩:=bS h
  refine AW.dG Fm [.s,.k _,.s] (fun K=>K 1∧True) [0] [(6,ow 24)] [] [(24,AO i)] ⟨KAt.CC (growN_spec E) Tryz.call233 [(100,24)],⟨⟩⟩ ?_
  refine AW.dJ (r:=r) (fun z:(List Span)=>slices_Concat_Span_k3 F z) [6] (fun _=>[]) [] (fun z=>[(24,AO z)]) (fun G h=>?_) (fun M o=>?_)
  ·refine AW.dSG0 Fm 2 [] [(2,ow 24)] [24] [] ?_
   refine AW.ret ?_
   obtain rfl:=Option.some.inj h
   exact Kn.re Fm [(100,24)] [(2,ow 100)] [(100,AO G)] (by kernel_rfl) (by kernel_rfl) (by kernel_rfl) (by kernel_rfl) (Kn.dn Fm (by kernel_rfl))
  ·refine AW.dSG0 Fm 3 [6] [(25,AL a),(26,vi (lI a)),(27,vi 0)] [24] [] ?_
   refine AW.block (Kn.r Fm [(6,ow 24),(25,AL a),(26,vi (lI a)),(27,vi 0)] [(24,AO i)] (by kernel_rfl) ?_)
   refine AW.loopF (E' := fun z=>[(6,ow 24),(25,AL a),(26,vi (lI a)),(27,vi z.1)]) (S' := fun z=>[(24,AO z.2)]) (fun O z L n h=>?_) h
   obtain ⟨b,e⟩:=z
   refine AW.dSG0 Fm 1 [6,25,26,27] [(28,vb (decide (b<(lI a))))] [24] [] ?_
   refine AW.seq (AW.cN h (fun t h=>?_) (fun t h=>?_))
   ·refine AW.skip (AW.seq (AW.block ?_))
    obtain ⟨A,h⟩:=gS h
    refine AW.dSP Fm [.s,.s,.s] [6,25,26,27] [(8,AL (α:=Span) (gl a b.toNat))] [24] [] (cT A) ?_
    obtain ⟨B,h⟩:=gS h
    refine AW.dWP Fm [.s,.s,.s,.s] [25,26,27] [(6,ow 33)] [] [(33,AO (α:=Span) (e++(gl a b.toNat)))] (cT (cA B (cT (lfl (gl a b.toNat))))) [(33,rAp e (gl a b.toNat))] ⟨oAp,⟨⟩⟩ ?_
    obtain ⟨D,h⟩:=gS h
    refine AW.dpN Fm [.s,.s] [6,25,26] [(27,vi (b+1))] [33] [] (cT (cT D)) ?_
    exact Kn.RE Fm [(24,33)] (n ((b+1),(e++(gl a b.toNat))) h)
   ·exact AW.exit (Kn.R Fm (o e h))
 ·refine AW.dSG0 Fm 3 [0,3] [(9,AL a),(10,vi (lI a)),(11,vi 0)] [] [] ?_
  refine AW.block (Kn.r Fm [(0,AL a),(3,vi 0),(9,AL a),(10,vi (lI a)),(11,vi 0)] [] (by kernel_rfl) ?_)
  refine AW.loopF (E' := fun z=>[(0,AL a),(3,vi z.1),(9,AL a),(10,vi (lI a)),(11,vi z.2)]) (S' := fun z=>[]) (fun N z H j h=>?_) h
  obtain ⟨d,c⟩:=z
  refine AW.dSG0 Fm 1 [0,3,9,10,11] [(12,vb (decide (c<(lI a))))] [] [] ?_
  refine AW.seq (AW.cN h (fun p h=>?_) (fun p h=>?_))
  ·refine AW.skip (AW.seq (AW.block ?_))
   obtain ⟨u,h⟩:=gS h
   refine AW.dSP Fm [.s,.s,.s] [0,3,9,10,11] [(5,AL (α:=Span) (gl a c.toNat))] [] [] (cT u) ?_
   obtain ⟨w,h⟩:=gS h
   refine AW.dSP Fm [.s,.s,.s,.s,.s] [0,9,10,11] [(3,vi (d+(lI (gl a c.toNat))))] [] [] (cT (cT w)) ?_
   refine AW.dSG0 Fm 2 [0,3,9,10,11] [(20,vb (decide ((d+(lI (gl a c.toNat)))<(0:Int))))] [] [] ?_
   refine AW.cN h (fun q h=>?_) (fun q h=>?_)
   ·cases h
   ·refine AW.skip ?_
    obtain ⟨y,h⟩:=gS h
    refine AW.dpN Fm [.s,.s] [0,3,9,10] [(11,vi (c+1))] [] [] (cT (cT y)) ?_
    exact Kn.R Fm (j ((d+(lI (gl a c.toNat))),(c+1)) h)
  ·exact AW.exit (Kn.R Fm (l d h))
theorem region_inside_1_spec {F:Nat} {a:Span} {b:Int} {r:Bool} (h:region_inside_1 F a b=some r) :
  FSpec Tryz.prog 235 [gE a,pt 0] [(0,.box true [ci b])] (vb r) [(0,.box true [ci b])]:=by
 refine FI Tryz.func235 prog_mixed prog_lay fun C Fm=>?_
 unfold region_inside_1 at h
 refine AW.dSG0 Fm 2 [1] [(2,pt 2)] [0] [(2,bx (gC a))] ?_
 refine AW.dJ (r:=r) (fun z:Bool=>region_inside_1_k0 F z) [] (fun z=>[(3,vb z)]) [0] (fun _=>[]) (fun i h=>?_) (fun e d=>?_)
 ·refine AW.ret ?_
  obtain rfl:=Option.some.inj h
  exact Kn.D Fm
 ·rcases br_or h with ⟨c,h⟩|⟨c,h⟩
  ·refine AW.dpN Fm [.s,.s,.s,.s,.w (vb true),.s,.s,.s,.s,.s,.s] [] [(3,vb (decide (b<a.right_)))] [0] [] (cT (ALe.bool c)) ?_
   exact Kn.R Fm (d (decide (b<a.right_)) h)
  ·refine AW.dpN Fm [.s,.s,.s,.s,.w (vb false),.s,.s,.s,.s,.s,.s] [] [(3,vb false)] [0] [] (cT (ALe.bool c)) ?_
   exact Kn.R Fm (d false h)
theorem slices_IndexFunc_Span_spec {F:Nat} {a:(List Span)} {d:Span→Option Bool} {r:Int} (h:slices_IndexFunc_Span F a d=some r) :
  FSpec Tryz.prog 259 [AL a,.v (.c (.sem (CloOK Tryz.prog (FR_Span_Bool d))))] [] (vi r) []:=by
 refine FI Tryz.func259 prog_mixed prog_lay fun C Fm=>?_
 unfold slices_IndexFunc_Span at h
 refine AW.dSG0 Fm 1 [0,1] [] [] [] ?_
 refine AW.dJ (r:=r) (fun z:Unit=>slices_IndexFunc_Span_k1 F) [] (fun _=>[]) [] (fun _=>[]) (fun z h=>?_) (fun t j=>?_)
 ·refine AW.dSG0 Fm 1 [] [(4,vi (-1:Int))] [] [] ?_
  refine AW.ret ?_
  obtain rfl:=Option.some.inj h
  exact Kn.D Fm
 ·refine AW.dSG0 Fm 3 [0,1] [(7,vi (lI a)),(8,vi 0)] [] [] ?_
  refine AW.block (Kn.r Fm [(0,AL a),(1,.v (.c (.sem (CloOK Tryz.prog (FR_Span_Bool d))))),(7,vi (lI a)),(8,vi 0)] [] (by kernel_rfl) ?_)
  refine AW.loopF (E' := fun z=>[(0,AL a),(1,.v (.c (.sem (CloOK Tryz.prog (FR_Span_Bool d))))),(7,vi (lI a)),(8,vi z)]) (S' := fun z=>[]) (fun u b q i h=>?_) h
  refine AW.dSG0 Fm 1 [0,1,7,8] [(9,vb (decide (b<(lI a))))] [] [] ?_
  refine AW.seq (AW.cN h (fun l h=>?_) (fun l h=>?_))
  ·refine AW.skip (AW.seq (AW.block (AW.dSG0 Fm 2 [0,1,7,8] [(5,vi b)] [] [] ?_)))
   refine AW.seq ?_
   obtain ⟨n,h⟩:=gS h
   obtain ⟨e,p,h⟩:=bS h
   refine AW.dG Fm [.s,.s,.s,.s,.s,.k (sE (vb e))] (fun K=>_∧K 5∧True) [0,1,5,7,8] [(16,vb e)] [] [] ⟨n,KAt.sem (F:=(FR_Span_Bool d)) (args:=[.v (.g [ci ((gl a b.toNat).left_),ci ((gl a b.toNat).right_)])]) ⟨(gl a b.toNat),e,p,rfl,rfl⟩ rfl (by kernel_rfl) (by kernel_rfl) (by kernel_rfl),⟨⟩⟩ ?_
   refine AW.cN h (fun m h=>?_) (fun m h=>?_)
   ·refine AW.dSG0 Fm 2 [] [(4,vi b)] [] [] ?_
    refine AW.ret ?_
    obtain rfl:=Option.some.inj h
    exact Kn.D Fm
   ·refine AW.skip ?_
    obtain ⟨o,h⟩:=gS h
    refine AW.dpN Fm [.s,.s] [0,1,7] [(8,vi (b+1))] [] [] (cT (cT o)) ?_
    exact Kn.R Fm (i (b+1) h)
  ·exact AW.exit (Kn.R Fm (j () h))
theorem slices_ContainsFunc_Span_spec {F:Nat} {a:(List Span)} {b:Span→Option Bool} {r:Bool} (h:slices_ContainsFunc_Span F a b=some r) :
  FSpec Tryz.prog 234 [AL a,.v (.c (.sem (CloOK Tryz.prog (FR_Span_Bool b))))] [] (vb r) []:=by
 refine FI Tryz.func234 prog_mixed prog_lay fun C Fm=>?_
 unfold slices_ContainsFunc_Span at h
 refine AW.dSG0 Fm 1 [0,1] [] [] [] ?_
 refine AW.seq ?_
 obtain ⟨d,e,h⟩:=bS h
 refine AW.dG Fm [.s,.s,.k (cE [] [] (vi d) [] []),.s,.s] (fun K=>K 2∧True) [] [(4,vb (decide ((0:Int)≤d)))] [] [] ⟨KAt.callX (slices_IndexFunc_Span_spec e) Tryz.call259 [] [] [.tmp 5,.tmp 6] rfl (by kernel_rfl) (by kernel_rfl) (by kernel_rfl) ⟨.p,ArgT.semX (by kernel_rfl) (by kernel_rfl) (by kernel_rfl),⟨⟩⟩,⟨⟩⟩ ?_
 refine AW.ret ?_
 obtain rfl:=Option.some.inj h
 exact Kn.D Fm
theorem region_inside_spec {F:Nat} {b:(List Span)} {a:Int} {r:Bool} (h:region_inside F b a=some r) :
  FSpec Tryz.prog 192 [AL b,vi a] [] (vb r) []:=by
 refine FI Tryz.func192 prog_mixed prog_lay fun C Fm=>?_
 unfold region_inside at h
 refine AW.dSG0 Fm 2 [0] [(3,pt 3)] [] [(3,bx [ci a])] ?_
 refine AW.seq ?_
 obtain ⟨c,d,h⟩:=bS h
 refine AW.dG Fm [.s,.s,.k (cE [] [3] (vb c) [] []),.s] (fun K=>K 2∧True) [] [(4,vb c)] [] [] ⟨KAt.callX (slices_ContainsFunc_Span_spec d) Tryz.call234 [] [3] [.tmp 5,.tmp 6] rfl (by kernel_rfl) (by kernel_rfl) (by kernel_rfl) ⟨.p,ArgT.cloX Tryz.call235 [[ci a]] (fun args r hq=>by obtain ⟨y0,y,hq,rfl,rfl⟩:=hq; exact Eq.mp (by kernel_rfl) (region_inside_1_spec hq)) (fun args r hq=>by obtain ⟨y0,y,hq,rfl,rfl⟩:=hq; rfl) (by kernel_rfl) [3] (by kernel_rfl) (by kernel_rfl) (⟨⟨false,(by kernel_rfl)⟩,⟨⟩⟩) (by kernel_rfl),⟨⟩⟩,⟨⟩⟩ ?_
 refine AW.ret ?_
 obtain rfl:=Option.some.inj h
 exact Kn.D Fm
theorem region_merge_spec {F:Nat} {l:(List Span)} {n:(List Span)} {o:Bool→Bool→Option Bool} {r:(List Span)} (h:region_merge F l n o=some r) :
  FSpec Tryz.prog 150 [AL l,AL n,.v (.c (.sem (CloOK Tryz.prog (FR_Bool_Bool_Bool o))))] [] (AL (α:=Span) r) []:=by
 refine FI Tryz.func150 prog_mixed prog_lay fun C Fm=>?_
 unfold region_merge at h
 refine AW.dSG0 Fm 1 [0,1,2] [] [] [] ?_
 refine AW.dSW Fm [.m] (fun K=>True) [0,1,2] [(7,ow 7)] [] [(7,AO (α:=Int) ([]:List Int))] True.intro [(7,.arr 1 (0) (fun _=>[]))] ⟨OLe.is ((Is.nil (α:=Int))),⟨⟩⟩ ?_
 refine AW.dJ (r:=r) (fun z:(List Int)=>region_merge_k1 F l n o z) [0,1,2,7] (fun _=>[]) [] (fun z=>[(7,AO z)]) (fun E0 h=>?_) (fun u0 T=>?_)
 ·refine AW.seq ?_
  obtain ⟨s0,l0,h⟩:=bS h
  refine AW.dG Fm [.s,.k _] (fun K=>K 1∧True) [0,1,2,7] [] [] [(7,AO s0)] ⟨KAt.CC (sortI_spec l0) Tryz.call189 [(0,7)],⟨⟩⟩ ?_
  refine AW.seq ?_
  obtain ⟨i,m0,h⟩:=bS h
  refine AW.dG Fm [.s,.k _,.s] (fun K=>K 1∧True) [0,1,2] [(7,ow 34)] [] [(34,AO i)] ⟨KAt.CC (slices_Compact_int_spec m0) Tryz.call190 [(0,7),(100,34)],⟨⟩⟩ ?_
  refine AW.dSW Fm [.m] (fun K=>True) [0,1,2,7] [(10,ow 10)] [34] [(10,AO (α:=Span) ([]:List Span))] True.intro [(10,.arr 2 (0) (fun _=>[]))] ⟨OLe.is ((Is.nil (α:=Span))),⟨⟩⟩ ?_
  refine AW.dJ (r:=r) (fun z:(List Span)=>region_merge_k5 F z) [10] (fun _=>[]) [] (fun z=>[(10,AO z)]) (fun M h=>?_) (fun B0 V=>?_)
  ·refine AW.dSG0 Fm 2 [] [(6,ow 10)] [10] [] ?_
   refine AW.ret ?_
   obtain rfl:=Option.some.inj h
   refine Kn.r Fm [(6,ow 10)] [(10,AO M)] (by kernel_rfl) ?_
   refine Kn.frz [(6,AL M)] [] (by kernel_rfl) (by kernel_rfl) (by kernel_rfl) ?_
   exact Kn.D Fm
  ·refine AW.dSG0 Fm 1 [0,1,2,7,10] [(11,vi 1)] [10,34] [] ?_
   refine AW.block (Kn.r Fm [(0,AL l),(1,AL n),(2,.v (.c (.sem (CloOK Tryz.prog (FR_Bool_Bool_Bool o))))),(7,ow 34),(10,ow 10),(11,vi 1)] [(10,AO ([]:List Span)),(34,AO i)] (by kernel_rfl) ?_)
   refine AW.loopF (E' := fun z=>[(0,AL l),(1,AL n),(2,.v (.c (.sem (CloOK Tryz.prog (FR_Bool_Bool_Bool o))))),(7,ow 34),(10,ow 10),(11,vi z.1)]) (S' := fun z=>[(10,AO z.2),(34,AO i)]) (fun A z w0 U h=>?_) h
   obtain ⟨b,a⟩:=z
   refine AW.seq (AW.dSG0 Fm 4 [0,1,2,7,10,11] [(38,vb (decide (b<(lI i))))] [10,34] [] ?_)
   refine AW.cN h (fun X h=>?_) (fun X h=>?_)
   ·refine AW.skip (AW.dJ (r:=r) (fun z:(List Span)=>region_merge_k4 F b A z) [0,1,2,7,10,11] (fun _=>[]) [34] (fun z=>[(10,AO z)]) (fun q0 h=>?_) (fun A0 q=>?_))
    ·obtain ⟨j0,h⟩:=gS h
     refine AW.dpN Fm [.s,.s,.s] [0,1,2,7,10] [(11,vi (b+1))] [10,34] [] (cT (cT j0)) ?_
     exact Kn.R Fm (U ((b+1),q0) h)
    ·refine AW.block ?_
     obtain ⟨c0,G,h⟩:=gS2 h
     refine AW.dSP Fm [.s,.s,.s,.s,.s,.s] [0,1,2,7,10,11] [(12,vi (gl i (b-1).toNat))] [10,34] [] (cA (cT c0) (cA G (cT (toNat_lt G)))) ?_
     refine AW.seq (AW.seq ?_)
     obtain ⟨N,n0,h⟩:=bS h
     obtain ⟨O,o0,h⟩:=bS h
     obtain ⟨y,p0,h⟩:=bS h
     refine AW.dG Fm [.s,.s,.s,.k _,.s,.s,.k _,.k (sE (vb y)),.s] (fun K=>K 3∧K 6∧K 7∧True) [0,1,2,7,10,11,12] [(54,vb (!y))] [10,34] [] ⟨KAt.CC (region_inside_spec n0) Tryz.call192 [],KAt.CC (region_inside_spec o0) Tryz.call192 [],KAt.sem (F:=(FR_Bool_Bool_Bool o)) (args:=[vb N,vb O]) ⟨N,O,y,p0,rfl,rfl⟩ rfl (by kernel_rfl) (by kernel_rfl) (by kernel_rfl),⟨⟩⟩ ?_
     refine AW.cN h (fun Y h=>?_) (fun Y h=>?_)
     ·exact AW.exit (Kn.R Fm (q a h))
     ·refine AW.skip (AW.dSG0 Fm 3 [0,1,2,7,10,11,12] [(13,vi (lI a))] [10,34] [] ?_)
      refine AW.dJ (r:=r) (fun z:Bool=>region_merge_k3 F i b a A z) [0,1,2,7,10,11,12,13] (fun z=>[(68,vb z)]) [10,34] (fun _=>[]) (fun G0 h=>?_) (fun y0 B=>?_)
      ·refine AW.cN h (fun Z h=>?_) (fun Z h=>?_)
       ·obtain ⟨e0,I,u,h⟩:=gS3 h
        refine AW.dWP Fm [.s,.s,.s,.s,.s,.s,.s,.s,.s,.s] [0,1,2,7,10,11] [] [34] [(10,AO (α:=Span) (List.set a ((lI a)-1).toNat (⟨(gl a ((lI a)-1).toNat).left_,(gl i b.toNat)⟩ : Span)))] (cA (cT e0) (cA I (cA (toNat_lt I) (cA u (cT (toNat_lt u)))))) [(10,rSt a ((lI a)-1).toNat 1 [.int .i64 (gl i b.toNat)])] ⟨oSt (toNat_lt u),⟨⟩⟩ ?_
        exact Kn.R Fm (q (List.set a ((lI a)-1).toNat (⟨(gl a ((lI a)-1).toNat).left_,(gl i b.toNat)⟩ : Span)) h)
       ·obtain ⟨L,i0,h⟩:=gS2 h
        refine AW.dWP Fm [.s,.s,.s,.s,.s,.s,.s,.w (AL [(⟨(gl i (b-1).toNat),(gl i b.toNat)⟩ : Span)]),.s,.s] [0,1,2,7,11] [(10,ow 86)] [34] [(86,AO (α:=Span) (a++([(⟨(gl i (b-1).toNat),(gl i b.toNat)⟩ : Span)]:List Span)))] (cA L (cA (toNat_lt L) (cA (lit1 (⟨(gl i (b-1).toNat),(gl i b.toNat)⟩ : Span)) (cT (cA i0 (cT (lfl ([(⟨(gl i (b-1).toNat),(gl i b.toNat)⟩ : Span)]:List Span)))))))) [(86,rAp a ([(⟨(gl i (b-1).toNat),(gl i b.toNat)⟩ : Span)]:List Span))] ⟨oAp,⟨⟩⟩ ?_
        exact Kn.RE Fm [(10,86)] (q (a++([(⟨(gl i (b-1).toNat),(gl i b.toNat)⟩ : Span)]:List Span)) h)
      ·rcases br_or h with ⟨t,h⟩|⟨t,h⟩
       ·obtain ⟨d0,H,h⟩:=gS2 h
        refine AW.dpN Fm [.s,.s,.w (vb true),.s,.s,.s,.s,.s,.s,.s,.s,.s] [0,1,2,7,10,11,12,13] [(60,ow 10),(61,vi (lI a)),(62,vi ((lI a)-1)),(63,.v (.c (.pte 10 2 (((lI a)-1).toNat) 0))),(64,.v (.c (.pte 10 2 (((lI a)-1).toNat) 1))),(65,vi (gl a ((lI a)-1).toNat).right_),(66,vi (gl i (b-1).toNat)),(67,vb (((gl a ((lI a)-1).toNat).right_)==(gl i (b-1).toNat))),(68,vb (((gl a ((lI a)-1).toNat).right_)==(gl i (b-1).toNat)))] [10,34] [] (cA (ALe.bool t) (cA (cT d0) (cA H (cT (toNat_lt H))))) ?_
        exact Kn.R Fm (B (((gl a ((lI a)-1).toNat).right_)==(gl i (b-1).toNat)) h)
       ·refine AW.dpN Fm [.s,.s,.w (vb false),.s,.s,.s,.s,.s,.s,.s,.s,.s] [0,1,2,7,10,11,12,13] [(68,vb false)] [10,34] [] (cT (ALe.bool t)) ?_
        exact Kn.R Fm (B false h)
   ·exact AW.exit (Kn.R Fm (V a h))
 ·refine AW.seq ?_
  obtain ⟨e,k0,h⟩:=bS h
  refine AW.dG Fm [.s,.s,.w (AL (α:=(List Span)) ([l,n]:List (List Span))),.k _,.s,.s] (fun K=>(ALe (.v (.c (.d (.lst 2 (litF 1 [DL l,DL n]))))) (AL (α:=(List Span)) ([l,n]:List (List Span))))∧K 3∧True) [0,1,2,7] [(17,ow 17),(18,vi (lI e)),(19,vi 0)] [7] [(17,AO e)] ⟨ALe.lst (.lit ([l,n]:List (List Span)) (by kernel_rfl)),KAt.CC (slices_Concat_Span_spec k0) Tryz.call191 [(100,17)],⟨⟩⟩ ?_
  refine AW.block (Kn.r Fm [(0,AL l),(1,AL n),(2,.v (.c (.sem (CloOK Tryz.prog (FR_Bool_Bool_Bool o))))),(7,ow 7),(17,ow 17),(18,vi (lI e)),(19,vi 0)] [(7,AO ([]:List Int)),(17,AO e)] (by kernel_rfl) ?_)
  refine AW.loopF (E' := fun z=>[(0,AL l),(1,AL n),(2,.v (.c (.sem (CloOK Tryz.prog (FR_Bool_Bool_Bool o))))),(7,ow 7),(17,ow 17),(18,vi (lI e)),(19,vi z.1)]) (S' := fun z=>[(7,AO z.2),(17,AO e)]) (fun D0 z t0 P h=>?_) h
  obtain ⟨j,p⟩:=z
  refine AW.dSG0 Fm 1 [0,1,2,7,17,18,19] [(20,vb (decide (j<(lI e))))] [7,17] [] ?_
  refine AW.seq (AW.cN h (fun W h=>?_) (fun W h=>?_))
  ·refine AW.skip (AW.seq (AW.block ?_))
   obtain ⟨E,h⟩:=gS h
   refine AW.dSP Fm [.s,.s,.s,.s] [0,1,2,7,17,18,19] [(9,pt 9)] [7,17] [(9,bx [ci ((gl e j.toNat).left_),ci ((gl e j.toNat).right_)])] (cA E (cT (toNat_lt E))) ?_
   obtain ⟨a0,h⟩:=gS h
   refine AW.dWP Fm [.s,.s,.s,.s,.s,.w (AL (α:=Int) ([(gl e j.toNat).left_,(gl e j.toNat).right_]:List Int)),.s,.s] [0,1,2,17,18,19] [(7,ow 29)] [17] [(29,AO (α:=Int) (p++([(gl e j.toNat).left_,(gl e j.toNat).right_]:List Int)))] (cA (ALe.lst (.lit ([(gl e j.toNat).left_,(gl e j.toNat).right_]:List Int) (by kernel_rfl)):ALe (.v (.c (.d (.lst 2 (litF 1 [.int .i64 (gl e j.toNat).left_,.int .i64 (gl e j.toNat).right_]))))) (AL (α:=Int) ([(gl e j.toNat).left_,(gl e j.toNat).right_]:List Int))) (cT (cA a0 (cT (lfl ([(gl e j.toNat).left_,(gl e j.toNat).right_]:List Int)))))) [(29,rAp p ([(gl e j.toNat).left_,(gl e j.toNat).right_]:List Int))] ⟨oAp,⟨⟩⟩ ?_
   obtain ⟨b0,h⟩:=gS h
   refine AW.dpN Fm [.s,.s] [0,1,2,7,17,18] [(19,vi (j+1))] [17,29] [] (cT (cT b0)) ?_
   exact Kn.RE Fm [(7,29)] (P ((j+1),(p++([(gl e j.toNat).left_,(gl e j.toNat).right_]:List Int))) h)
  ·exact AW.exit (Kn.R Fm (T p h))
theorem region_Choose_1_spec {F:Nat} {e:Int} {a:(List Rect)} {b:(List Rect)} {c:Bool→Bool→Option Bool} {r:(List Span)} (h:region_Choose_1 F e a b c=some r) :
  FSpec Tryz.prog 149 [vi e,pt 0,pt 1,pt 2] [(0,.box true [.d (DL a)]),(1,.box true [.d (DL b)]),(2,.box true [.sem (CloOK Tryz.prog (FR_Bool_Bool_Bool c))])] (AL (α:=Span) r) [(0,.box true [.d (DL a)]),(1,.box true [.d (DL b)]),(2,.box true [.sem (CloOK Tryz.prog (FR_Bool_Bool_Bool c))])]:=by
 refine FI Tryz.func149 prog_mixed prog_lay fun C Fm=>?_
 unfold region_Choose_1 at h
 refine AW.dSG0 Fm 1 [0,1,2,3] [] [0,1,2] [] ?_
 refine AW.seq ?_
 obtain ⟨n,j,h⟩:=bS h
 obtain ⟨o,l,h⟩:=bS h
 obtain ⟨i,m,h⟩:=bS h
 refine AW.dG Fm [.s,.s,.k _,.s,.s,.k _,.s,.k (cE [] [] (AL i) [] []),.s] (fun K=>K 2∧K 5∧K 7∧True) [] [(5,AL i)] [0,1,2] [] ⟨KAt.CC (region_Row_spec j) Tryz.call151 [],KAt.CC (region_Row_spec l) Tryz.call151 [],KAt.callX (region_merge_spec m) Tryz.call150 [] [] [.tmp 8,.tmp 11,.tmp 12] rfl (by kernel_rfl) (by kernel_rfl) (by kernel_rfl) ⟨.p,.p,ArgT.semX (by kernel_rfl) (by kernel_rfl) (by kernel_rfl),⟨⟩⟩,⟨⟩⟩ ?_
 refine AW.ret ?_
 obtain rfl:=Option.some.inj h
 exact Kn.D Fm
theorem region_Choose_spec {F:Nat} {a:(List Rect)} {b:(List Rect)} {e:Bool→Bool→Option Bool} {r:(List Rect)} (h:region_Choose F a b e=some r) :
  FSpec Tryz.prog 88 [AL a,AL b,.v (.c (.sem (CloOK Tryz.prog (FR_Bool_Bool_Bool e))))] [] (AL (α:=Rect) r) []:=by
 refine FI Tryz.func88 prog_mixed prog_lay fun C Fm=>?_
 unfold region_Choose at h
 refine AW.dSG0 Fm 4 [] [(3,pt 3),(4,pt 4),(5,pt 5)] [] [(3,bx [.d (DL a)]),(4,bx [.d (DL b)]),(5,bx [.sem (CloOK Tryz.prog (FR_Bool_Bool_Bool e))])] ?_
 refine AW.seq ?_
 obtain ⟨m,j,h⟩:=bS h
 obtain ⟨i,l,h⟩:=bS h
 refine AW.dG Fm [.s,.s,.w (AL (α:=(List Rect)) ([a,b]:List (List Rect))),.k _,.s,.k (cE [] [3,4,5] (AL i) [] []),.s] (fun K=>(ALe (.v (.c (.d (.lst 2 (litF 1 [DL a,DL b]))))) (AL (α:=(List Rect)) ([a,b]:List (List Rect))))∧K 3∧K 5∧True) [] [(6,AL i)] [] [] ⟨ALe.lst (.lit ([a,b]:List (List Rect)) (by kernel_rfl)),KAt.CC (region_Cuts_spec j) Tryz.call148 [],KAt.callX (region_Build_spec l) Tryz.call147 [] [3,4,5] [.tmp 10,.tmp 11] rfl (by kernel_rfl) (by kernel_rfl) (by kernel_rfl) ⟨.p,ArgT.cloXP Tryz.call149 [[.d (DL a)],[.d (DL b)],[.sem (CloOK Tryz.prog (FR_Bool_Bool_Bool e))]] (fun args r hq=>by obtain ⟨y0,y,hq,rfl,rfl⟩:=hq; exact Eq.mp (by kernel_rfl) (region_Choose_1_spec hq)) (fun args r hq=>by obtain ⟨y0,y,hq,rfl,rfl⟩:=hq; rfl) (by kernel_rfl) [3,4,5] (by kernel_rfl) (by kernel_rfl) ⟨⟨.inl (by kernel_rfl),⟨⟩⟩,⟨.inl (by kernel_rfl),⟨⟩⟩,⟨.inr ⟨_,rfl⟩,⟨⟩⟩,⟨⟩⟩ (⟨⟨false,(by kernel_rfl)⟩,⟨⟨false,(by kernel_rfl)⟩,⟨⟨false,(by kernel_rfl)⟩,⟨⟩⟩⟩⟩) (by kernel_rfl),⟨⟩⟩,⟨⟩⟩ ?_
 refine AW.ret ?_
 obtain rfl:=Option.some.inj h
 exact Kn.D Fm
theorem region_Limited_spec {F:Nat} {a:(List Rect)} {r:Region×Int} (h:region_Limited F a=some r) :
  FSpec Tryz.prog 143 [AL a] [] (.t [.g [.d (DL (α:=Rect) r.1.rects_)],.c (ci r.2)]) []:=by
 refine FI Tryz.func143 prog_mixed prog_lay fun C Fm=>?_
 unfold region_Limited at h
 refine AW.dSG0 Fm 2 [0] [(2,pt 2)] [] [(2,bx [.fl 0 fun _=>[]])] ?_
 refine AW.seq (AW.dSG0 Fm 3 [0,2] [(6,vb (decide ((120:Int)<(lI a))))] [2] [] ?_)
 refine AW.cN h (fun b h=>?_) (fun b h=>?_)
 ·refine AW.dSP Fm [.w (.v (.g [.d (DL (α:=Rect) [])])),.s,.s] [2] [(3,vi 1)] [] [(2,bx [.d (DL (α:=Rect) [])])] (cT (ALe.g ⟨CLe.fl .nil,⟨⟩⟩ : ALe (.v (.g [.fl 0 fun _=>[]])) (.v (.g [.d (DL (α:=Rect) [])])))) ?_
  refine AW.ret ?_
  obtain rfl:=Option.some.inj h
  exact Kn.D Fm
 ·refine AW.skip (AW.dSG0 Fm 4 [2] [(3,vi 0)] [] [(2,bx [.d (DL a)])] ?_)
  refine AW.ret ?_
  obtain rfl:=Option.some.inj h
  exact Kn.D Fm
theorem region_combine_spec {F:Nat} {a:Region} {b:Region} {i:Bool→Bool→Option Bool} {r:Region×Int} (h:region_combine F a b i=some r) :
  FSpec Tryz.prog 113 [.v (.g [.d (DL a.rects_)]),.v (.g [.d (DL b.rects_)]),.v (.c (.sem (CloOK Tryz.prog (FR_Bool_Bool_Bool i))))] [] (.t [.g [.d (DL (α:=Rect) r.1.rects_)],.c (ci r.2)]) []:=by
 refine FI Tryz.func113 prog_mixed prog_lay fun C Fm=>?_
 unfold region_combine at h
 refine AW.dSG0 Fm 4 [2] [(3,pt 3),(4,pt 4),(6,pt 6)] [] [(3,bx [.d (DL a.rects_)]),(4,bx [.d (DL b.rects_)]),(6,bx [.fl 0 fun _=>[]])] ?_
 refine AW.seq (AW.dJ (r:=r) (fun z:Bool=>region_combine_k0 F a b i z) [2,3,4,6] (fun z=>[(15,vb z)]) [3,4,6] (fun _=>[]) (fun E h=>?_) (fun B j=>?_))
 ·refine AW.cN h (fun o h=>?_) (fun o h=>?_)
  ·refine AW.dSP Fm [.w (.v (.g [.d (DL (α:=Rect) [])])),.s,.s] [6] [(7,vi 7)] [] [(6,bx [.d (DL (α:=Rect) [])])] (cT (ALe.g ⟨CLe.fl .nil,⟨⟩⟩ : ALe (.v (.g [.fl 0 fun _=>[]])) (.v (.g [.d (DL (α:=Rect) [])])))) ?_
   refine AW.ret ?_
   obtain rfl:=Option.some.inj h
   exact Kn.D Fm
  ·refine AW.skip (AW.seq ?_)
   obtain ⟨A,u,h⟩:=bS h
   obtain ⟨n,y,h⟩:=bS h
   refine AW.dG Fm [.s,.s,.s,.s,.s,.k (cE [] [] (AL A) [] []),.k _,.s,.s,.s,.s] (fun K=>K 5∧K 6∧True) [6] [(7,vi n.2)] [] [(6,bx [.d (DL n.1.rects_)])] ⟨KAt.callX (region_Choose_spec u) Tryz.call88 [] [] [.tmp 18,.tmp 20,.tmp 21] rfl (by kernel_rfl) (by kernel_rfl) (by kernel_rfl) ⟨.p,.p,ArgT.semX (by kernel_rfl) (by kernel_rfl) (by kernel_rfl),⟨⟩⟩,KAt.CC (region_Limited_spec y) Tryz.call143 [],⟨⟩⟩ ?_
   refine AW.ret ?_
   obtain rfl:=Option.some.inj h
   exact Kn.D Fm
 ·obtain ⟨G,l,h⟩:=bS h
  rcases br_or h with ⟨e,h⟩|⟨e,h⟩
  ·refine AW.dG Fm [.s,.k _,.s,.w (vb true),.s,.s,.s,.s] (fun K=>K 1∧_∧True) [2,3,4,6] [(15,vb true)] [3,4,6] [] ⟨KAt.CC (region_Valid_spec l) Tryz.call65 [],ALe.bool e,⟨⟩⟩ ?_
   exact Kn.R Fm (j true h)
  ·obtain ⟨m,q,h⟩:=bS h
   refine AW.dG Fm [.s,.k _,.s,.w (vb false),.s,.k _,.s,.s] (fun K=>K 1∧_∧K 5∧True) [2,3,4,6] [(15,vb (!m))] [3,4,6] [] ⟨KAt.CC (region_Valid_spec l) Tryz.call65 [],ALe.bool e,KAt.CC (region_Valid_spec q) Tryz.call65 [],⟨⟩⟩ ?_
   exact Kn.R Fm (j (!m) h)
theorem region_Without_1_spec {F:Nat} {d:Bool} {a:Bool} {r:Bool} (h:region_Without_1 F d a=some r) :
  FSpec Tryz.prog 114 [vb d,vb a] [] (vb r) []:=by
 refine FI Tryz.func114 prog_mixed prog_lay fun C Fm=>?_
 unfold region_Without_1 at h
 refine AW.dSG0 Fm 1 [0,1] [] [] [] ?_
 refine AW.dJ (r:=r) (fun z:Bool=>region_Without_1_k0 F z) [] (fun z=>[(4,vb z)]) [] (fun _=>[]) (fun i h=>?_) (fun e c=>?_)
 ·refine AW.ret ?_
  obtain rfl:=Option.some.inj h
  exact Kn.D Fm
 ·rcases br_or h with ⟨b,h⟩|⟨b,h⟩
  ·refine AW.dpN Fm [.s,.w (vb true),.s,.s,.s,.s] [] [(4,vb (!a))] [] [] (cT (ALe.bool b)) ?_
   exact Kn.R Fm (c (!a) h)
  ·refine AW.dpN Fm [.s,.w (vb false),.s,.s,.s,.s] [] [(4,vb false)] [] [] (cT (ALe.bool b)) ?_
   exact Kn.R Fm (c false h)
theorem region_Without_spec {F:Nat} {b:Region} {e:Region} {r:Region×Int} (h:region_Without F b e=some r) :
  FSpec Tryz.prog 59 [.v (.g [.d (DL b.rects_)]),.v (.g [.d (DL e.rects_)])] [] (.t [.g [.d (DL (α:=Rect) r.1.rects_)],.c (ci r.2)]) []:=by
 refine FI Tryz.func59 prog_mixed prog_lay fun C Fm=>?_
 unfold region_Without at h
 refine AW.dSG0 Fm 4 [] [(2,pt 2),(3,pt 3),(4,pt 4)] [] [(2,bx [.d (DL b.rects_)]),(3,bx [.d (DL e.rects_)]),(4,bx [.fl 0 fun _=>[]])] ?_
 refine AW.seq ?_
 obtain ⟨a,i,h⟩:=bS h
 refine AW.dG Fm [.s,.s,.k (cE [] [] (.t [.g [.d (DL a.1.rects_)],.c (ci a.2)]) [] []),.s,.s,.s,.s] (fun K=>K 2∧True) [4] [(5,vi a.2)] [] [(4,bx [.d (DL a.1.rects_)])] ⟨KAt.callX (region_combine_spec i) Tryz.call113 [] [] [.tmp 6,.tmp 7,.func 114] rfl (by kernel_rfl) (by kernel_rfl) (by kernel_rfl) ⟨.p,.p,ArgT.cloX Tryz.call114 [] (fun args r hq=>by obtain ⟨y0,y1,y,hq,rfl,rfl⟩:=hq; exact Eq.mp (by kernel_rfl) (region_Without_1_spec hq)) (fun args r hq=>by obtain ⟨y0,y1,y,hq,rfl,rfl⟩:=hq; rfl) (by kernel_rfl) [] (by kernel_rfl) (by kernel_rfl) (True.intro) (by kernel_rfl),⟨⟩⟩,⟨⟩⟩ ?_
 refine AW.ret ?_
 obtain rfl:=Option.some.inj h
 exact Kn.D Fm
theorem exclusion_Assign_spec {F:Nat} {a:(List Scheme)} {n:(List Region)} {r:(List Region)×Int} (h:exclusion_Assign F a n=some r) :
  FSpec Tryz.prog 19 [AL a,AL n] [] (.t [.c (.d (DL (α:=Region) r.1)),.c (ci r.2)]) []:=by
 refine FI Tryz.func19 prog_mixed prog_lay fun C Fm=>?_
 unfold exclusion_Assign at h
 refine AW.dSG0 Fm 2 [0,1] [] [] [] ?_
 refine AW.seq (AW.seq ?_)
 obtain ⟨o,b0,h⟩:=bS h
 refine AW.dG Fm [.s,.s,.k _,.s] (fun K=>K 2∧True) [0,1] [(6,vi o)] [] [] ⟨KAt.CC (exclusion_check_spec b0) Tryz.call56 [],⟨⟩⟩ ?_
 refine AW.dSG0 Fm 2 [0,1,6] [(19,vb (o != (0:Int)))] [] [] ?_
 refine AW.cN h (fun N h=>?_) (fun N h=>?_)
 ·refine AW.dSG0 Fm 3 [] [(4,.v (.c (.fl 0 fun _=>[]))),(5,vi o)] [] [] ?_
  refine AW.ret ?_
  obtain rfl:=Option.some.inj h
  refine Kn.r Fm [(4,.v (.c (.fl 0 fun _=>[]))),(5,vi o)] [] (by kernel_rfl) ?_
  refine Kn.wk [(4,AL (α:=Region) []),(5,vi o)] [] ⟨rfl,ALe.c (CLe.fl .nil),⟨rfl,ALe.c (CLe.refl _),⟨⟩⟩⟩ True.intro ?_
  exact Kn.D Fm
 ·refine AW.skip (AW.dSW Fm [.m] (fun K=>True) [0,1] [(7,ow 7)] [] [(7,AO (α:=Region) ([]:List Region))] True.intro [(7,.arr 1 (0) (fun _=>[]))] ⟨OLe.is ((Is.nil (α:=Region))),⟨⟩⟩ ?_)
  refine AW.dJ (r:=r) (fun z:(List Region)=>exclusion_Assign_k5 F z) [7] (fun _=>[]) [] (fun z=>[(7,AO z)]) (fun A h=>?_) (fun q0 M=>?_)
  ·refine AW.dSG0 Fm 3 [] [(4,ow 7),(5,vi 0)] [7] [] ?_
   refine AW.ret ?_
   obtain rfl:=Option.some.inj h
   refine Kn.r Fm [(4,ow 7),(5,vi 0)] [(7,AO A)] (by kernel_rfl) ?_
   refine Kn.frz [(4,AL A),(5,vi 0)] [] (by kernel_rfl) (by kernel_rfl) (by kernel_rfl) ?_
   exact Kn.D Fm
  ·refine AW.dSG0 Fm 3 [0,1,7] [(21,AL a),(22,vi (lI a)),(23,vi 0)] [7] [] ?_
   refine AW.block (Kn.r Fm [(0,AL a),(1,AL n),(7,ow 7),(21,AL a),(22,vi (lI a)),(23,vi 0)] [(7,AO ([]:List Region))] (by kernel_rfl) ?_)
   refine AW.loopF (E' := fun z=>[(0,AL a),(1,AL n),(7,ow 7),(21,AL a),(22,vi (lI a)),(23,vi z.1)]) (S' := fun z=>[(7,AO z.2)]) (fun p z l0 G h=>?_) h
   obtain ⟨b,e⟩:=z
   refine AW.dSG0 Fm 1 [0,1,7,21,22,23] [(24,vb (decide (b<(lI a))))] [7] [] ?_
   refine AW.seq (AW.cN h (fun O h=>?_) (fun O h=>?_))
   ·refine AW.skip (AW.dJ (r:=r) (fun z:(List Region)=>exclusion_Assign_k4 F b p z) [0,1,21,22,23] (fun _=>[(7,ow 61)]) [] (fun z=>[(61,AO z)]) (fun j0 h=>?_) (fun p0 L=>?_))
    ·obtain ⟨a0,h⟩:=gS h
     refine AW.dpN Fm [.s,.s] [0,1,7,21,22] [(23,vi (b+1))] [61] [] (cT (cT a0)) ?_
     exact Kn.RE Fm [(7,61)] (G ((b+1),j0) h)
    ·refine AW.block ?_
     obtain ⟨V,h⟩:=gS h
     refine AW.dSP Fm [.s,.s,.s,.s,.s,.s] [0,1,7,21,22,23] [(8,vi b),(9,pt 9)] [7] [(9,bx [ci ((gl a b.toNat).number_),.d (.str (gl a b.toNat).name_),ci ((gl a b.toNat).cond_.op_),ci ((gl a b.toNat).cond_.num_),ci ((gl a b.toNat).cond_.more_),.d (DL (α:=Term) (gl a b.toNat).cond_.kids_),.d (DL (α:=Bracket) (gl a b.toNat).brackets_),ci ((gl a b.toNat).least_),ci ((gl a b.toNat).excludes_),.d (.bool (gl a b.toNat).needs_)])] (cT V) ?_
     refine AW.seq ?_
     obtain ⟨W,h⟩:=gS h
     obtain ⟨B,c0,h⟩:=bS h
     refine AW.dG Fm [.s,.s,.s,.s,.k _,.s,.s] (fun K=>_∧K 4∧True) [0,1,7,9,21,22,23] [(10,pt 10)] [7,9] [(10,bx [.d (DL B.rects_)])] ⟨W,KAt.CC (exclusion_clone_spec c0) Tryz.call57 [],⟨⟩⟩ ?_
     refine AW.dJ (r:=r) (fun z:(List Rect)=>exclusion_Assign_k3 F b e p z) [0,1,7,10,21,22,23] (fun _=>[]) [7] (fun z=>[(10,bx [.d (DL z)])]) (fun l h=>?_) (fun o0 I=>?_)
     ·obtain ⟨Z,h⟩:=gS h
      refine AW.dWP Fm [.s,.s,.w (AL [(⟨l⟩ : Region)]),.s,.s] [0,1,21,22,23] [(7,ow 61)] [] [(61,AO (α:=Region) (e++([(⟨l⟩ : Region)]:List Region)))] (cA (lit1 (⟨l⟩ : Region)) (cT (cA Z (cT (lfl ([(⟨l⟩ : Region)]:List Region)))))) [(61,rAp e ([(⟨l⟩ : Region)]:List Region))] ⟨oAp,⟨⟩⟩ ?_
      exact Kn.R Fm (L (e++([(⟨l⟩ : Region)]:List Region)) h)
     ·refine AW.dSG0 Fm 3 [0,1,7,9,10,21,22,23] [(33,ow 7),(34,vi (lI e)),(35,vi 0)] [7,9,10] [] ?_
      refine AW.block (Kn.r Fm [(0,AL a),(1,AL n),(7,ow 7),(9,pt 9),(10,pt 10),(21,AL a),(22,vi (lI a)),(23,vi b),(33,ow 7),(34,vi (lI e)),(35,vi 0)] [(7,AO e),(9,bx [ci ((gl a b.toNat).number_),.d (.str (gl a b.toNat).name_),ci ((gl a b.toNat).cond_.op_),ci ((gl a b.toNat).cond_.num_),ci ((gl a b.toNat).cond_.more_),.d (DL (α:=Term) (gl a b.toNat).cond_.kids_),.d (DL (α:=Bracket) (gl a b.toNat).brackets_),ci ((gl a b.toNat).least_),ci ((gl a b.toNat).excludes_),.d (.bool (gl a b.toNat).needs_)]),(10,bx [.d (DL B.rects_)])] (by kernel_rfl) ?_)
      refine AW.loopF (E' := fun z=>[(0,AL a),(1,AL n),(7,ow 7),(9,pt 9),(10,pt 10),(21,AL a),(22,vi (lI a)),(23,vi b),(33,ow 7),(34,vi (lI e)),(35,vi z.1)]) (S' := fun z=>[(7,AO e),(9,bx [ci ((gl a b.toNat).number_),.d (.str (gl a b.toNat).name_),ci ((gl a b.toNat).cond_.op_),ci ((gl a b.toNat).cond_.num_),ci ((gl a b.toNat).cond_.more_),.d (DL (α:=Term) (gl a b.toNat).cond_.kids_),.d (DL (α:=Bracket) (gl a b.toNat).brackets_),ci ((gl a b.toNat).least_),ci ((gl a b.toNat).excludes_),.d (.bool (gl a b.toNat).needs_)]),(10,bx [.d (DL z.2)])]) (fun E z m0 H h=>?_) h
      obtain ⟨j,y⟩:=z
      refine AW.dSG0 Fm 1 [0,1,7,9,10,21,22,23,33,34,35] [(36,vb (decide (j<(lI e))))] [7,9,10] [] ?_
      refine AW.seq (AW.cN h (fun P h=>?_) (fun P h=>?_))
      ·refine AW.skip (AW.dJ (r:=r) (fun z:(List Rect)=>exclusion_Assign_k2 F j E z) [0,1,7,9,10,21,22,23,33,34,35] (fun _=>[]) [7,9] (fun z=>[(10,bx [.d (DL z)])]) (fun i0 h=>?_) (fun n0 q=>?_))
       ·obtain ⟨Y,h⟩:=gS h
        refine AW.dpN Fm [.s,.s] [0,1,7,9,10,21,22,23,33,34] [(35,vi (j+1))] [7,9,10] [] (cT (cT Y)) ?_
        exact Kn.R Fm (H ((j+1),i0) h)
       ·refine AW.block ?_
        obtain ⟨u,h⟩:=gS h
        refine AW.dSP Fm [.s,.s,.s,.s,.s,.s] [0,1,7,9,10,21,22,23,33,34,35] [(11,vi j),(12,pt 12)] [7,9,10] [(12,bx [.d (DL (α:=Rect) (gl e j.toNat).rects_)])] (cA u (cT (toNat_lt u))) ?_
        refine AW.seq (AW.seq ?_)
        obtain ⟨X,h⟩:=gS h
        obtain ⟨k0,d0,h⟩:=bS h
        refine AW.dG Fm [.s,.s,.s,.s,.s,.k _,.s] (fun K=>_∧K 5∧True) [0,1,7,9,10,12,21,22,23,33,34,35] [(46,vb (!k0))] [7,9,10,12] [] ⟨X,KAt.CC (exclusion_excludes_spec d0) Tryz.call58 [],⟨⟩⟩ ?_
        refine AW.cN h (fun T h=>?_) (fun T h=>?_)
        ·exact AW.exit (Kn.R Fm (q y h))
        ·refine AW.skip (AW.seq ?_)
         obtain ⟨i,e0,h⟩:=bS h
         refine AW.dG Fm [.s,.s,.k _,.s,.s,.s,.s,.s,.s] (fun K=>K 2∧True) [0,1,7,9,10,21,22,23,33,34,35] [(13,pt 13),(14,vi i.2)] [7,9,10] [(13,bx [.d (DL i.1.rects_)])] ⟨KAt.CC (region_Without_spec e0) Tryz.call59 [],⟨⟩⟩ ?_
         refine AW.seq (AW.dSG0 Fm 2 [0,1,7,9,10,13,14,21,22,23,33,34,35] [(54,vb (i.2 != (0:Int)))] [7,9,10,13] [] ?_)
         refine AW.cN h (fun U h=>?_) (fun U h=>?_)
         ·refine AW.dSG0 Fm 3 [] [(4,.v (.c (.fl 0 fun _=>[]))),(5,vi i.2)] [] [] ?_
          refine AW.ret ?_
          obtain rfl:=Option.some.inj h
          refine Kn.r Fm [(4,.v (.c (.fl 0 fun _=>[]))),(5,vi i.2)] [] (by kernel_rfl) ?_
          refine Kn.wk [(4,AL (α:=Region) []),(5,vi i.2)] [] ⟨rfl,ALe.c (CLe.fl .nil),⟨rfl,ALe.c (CLe.refl _),⟨⟩⟩⟩ True.intro ?_
          exact Kn.D Fm
         ·refine AW.skip (AW.dG0 Fm 2 [0,1,7,9,10,21,22,23,33,34,35] [] [7,9] [(10,bx [.d (DL i.1.rects_)])] ?_)
          exact Kn.R Fm (q i.1.rects_ h)
      ·exact AW.exit (Kn.R Fm (I y h))
   ·exact AW.exit (Kn.R Fm (M e h))
theorem region_Size_spec {F:Nat} {a:(List Rect)} {r:Int} (h:region_Size F a=some r) :
  FSpec Tryz.prog 66 [AL a] [] (vi r) []:=by
 refine FI Tryz.func66 prog_mixed prog_lay fun C Fm=>?_
 unfold region_Size at h
 refine AW.dSG0 Fm 1 [0] [] [] [] ?_
 refine AW.dSG0 Fm 1 [0] [(3,vi 0)] [] [] ?_
 refine AW.dJ (r:=r) (fun z:Int=>region_Size_k1 F z) [] (fun z=>[(3,vi z)]) [] (fun _=>[]) (fun p h=>?_) (fun t e=>?_)
 ·refine AW.dSG0 Fm 2 [] [(2,vi p)] [] [] ?_
  refine AW.ret ?_
  obtain rfl:=Option.some.inj h
  exact Kn.D Fm
 ·refine AW.dSG0 Fm 3 [3] [(6,AL a),(7,vi (lI a)),(8,vi 0)] [] [] ?_
  refine AW.block (Kn.r Fm [(3,vi 0),(6,AL a),(7,vi (lI a)),(8,vi 0)] [] (by kernel_rfl) ?_)
  refine AW.loopF (E' := fun z=>[(3,vi z.1),(6,AL a),(7,vi (lI a)),(8,vi z.2)]) (S' := fun z=>[]) (fun u z q d h=>?_) h
  obtain ⟨c,b⟩:=z
  refine AW.dSG0 Fm 1 [3,6,7,8] [(9,vb (decide (b<(lI a))))] [] [] ?_
  refine AW.seq (AW.cN h (fun i h=>?_) (fun i h=>?_))
  ·refine AW.skip (AW.seq (AW.block ?_))
   obtain ⟨j,h⟩:=gS h
   refine AW.dSP Fm [.s,.s,.s,.s] [3,6,7,8] [(5,pt 5)] [] [(5,bx [ci ((gl a b.toNat).left_),ci ((gl a b.toNat).low_),ci ((gl a b.toNat).right_),ci ((gl a b.toNat).high_)])] (cT j) ?_
   obtain ⟨k,l,m,n,h⟩:=gS4 h
   refine AW.dpN Fm [.s,.s,.s,.s,.s,.s,.s,.s,.s,.s,.s,.s,.s,.s] [6,7,8] [(3,vi (c+((((gl a b.toNat).right_)-((gl a b.toNat).left_))*(((gl a b.toNat).high_)-((gl a b.toNat).low_)))))] [] [] (cA (cT k) (cA (cT l) (cA (cT m) (cT (cT n))))) ?_
   obtain ⟨o,h⟩:=gS h
   refine AW.dpN Fm [.s,.s] [3,6,7] [(8,vi (b+1))] [] [] (cT (cT o)) ?_
   exact Kn.R Fm (d ((c+((((gl a b.toNat).right_)-((gl a b.toNat).left_))*(((gl a b.toNat).high_)-((gl a b.toNat).low_)))),(b+1)) h)
  ·exact AW.exit (Kn.R Fm (e c h))
theorem region_Area_spec {F:Nat} {a:Region} {r:Int} (h:region_Area F a=some r) :
  FSpec Tryz.prog 28 [.v (.g [.d (DL a.rects_)])] [] (vi r) []:=by
 refine FI Tryz.func28 prog_mixed prog_lay fun C Fm=>?_
 unfold region_Area at h
 refine AW.dSG0 Fm 2 [] [(1,pt 1)] [] [(1,bx [.d (DL a.rects_)])] ?_
 refine AW.seq (AW.seq ?_)
 obtain ⟨i,c,h⟩:=bS h
 refine AW.dG Fm [.s,.k _,.s] (fun K=>K 1∧True) [1] [(5,vb (!i))] [1] [] ⟨KAt.CC (region_Valid_spec c) Tryz.call65 [],⟨⟩⟩ ?_
 refine AW.cN h (fun b h=>?_) (fun b h=>?_)
 ·refine AW.dSG0 Fm 1 [] [(2,vi 0)] [] [] ?_
  refine AW.ret ?_
  obtain rfl:=Option.some.inj h
  exact Kn.D Fm
 ·refine AW.skip (AW.seq ?_)
  obtain ⟨j,e,h⟩:=bS h
  refine AW.dG Fm [.s,.s,.k _,.s] (fun K=>K 2∧True) [] [(2,vi j)] [] [] ⟨KAt.CC (region_Size_spec e) Tryz.call66 [],⟨⟩⟩ ?_
  refine AW.ret ?_
  obtain rfl:=Option.some.inj h
  exact Kn.D Fm
theorem exclusion_Lost_spec {F:Nat} {o:(List Scheme)} {a:(List Region)} {r:(List Int)×Int} (h:exclusion_Lost F o a=some r) :
  FSpec Tryz.prog 24 [AL o,AL a] [] (.t [.c (.d (DL (α:=Int) r.1)),.c (ci r.2)]) []:=by
 refine FI Tryz.func24 prog_mixed prog_lay fun C Fm=>?_
 unfold exclusion_Lost at h
 refine AW.dSG0 Fm 2 [0,1] [] [] [] ?_
 refine AW.seq ?_
 obtain ⟨b,I,h⟩:=bS h
 refine AW.dG Fm [.s,.s,.k _,.s,.s,.s,.s,.s] (fun K=>K 2∧True) [1] [(6,AL b.1),(7,vi b.2)] [] [] ⟨KAt.CC (exclusion_Assign_spec I) Tryz.call19 [],⟨⟩⟩ ?_
 refine AW.seq (AW.dSG0 Fm 2 [1,6,7] [(18,vb (b.2 != (0:Int)))] [] [] ?_)
 refine AW.cN h (fun u h=>?_) (fun u h=>?_)
 ·refine AW.dSG0 Fm 3 [] [(4,.v (.c (.fl 0 fun _=>[]))),(5,vi b.2)] [] [] ?_
  refine AW.ret ?_
  obtain rfl:=Option.some.inj h
  refine Kn.r Fm [(4,.v (.c (.fl 0 fun _=>[]))),(5,vi b.2)] [] (by kernel_rfl) ?_
  refine Kn.wk [(4,AL (α:=Int) []),(5,vi b.2)] [] ⟨rfl,ALe.c (CLe.fl .nil),⟨rfl,ALe.c (CLe.refl _),⟨⟩⟩⟩ True.intro ?_
  exact Kn.D Fm
 ·refine AW.skip (AW.dSW Fm [.m] (fun K=>True) [1,6] [(8,ow 8)] [] [(8,AO (α:=Int) ([]:List Int))] True.intro [(8,.arr 1 (0) (fun _=>[]))] ⟨OLe.is ((Is.nil (α:=Int))),⟨⟩⟩ ?_)
  refine AW.dJ (r:=r) (fun z:(List Int)=>exclusion_Lost_k1 F z) [8] (fun _=>[]) [] (fun z=>[(8,AO z)]) (fun n h=>?_) (fun O q=>?_)
  ·refine AW.dSG0 Fm 3 [] [(4,ow 8),(5,vi 0)] [8] [] ?_
   refine AW.ret ?_
   obtain rfl:=Option.some.inj h
   refine Kn.r Fm [(4,ow 8),(5,vi 0)] [(8,AO n)] (by kernel_rfl) ?_
   refine Kn.frz [(4,AL n),(5,vi 0)] [] (by kernel_rfl) (by kernel_rfl) (by kernel_rfl) ?_
   exact Kn.D Fm
  ·refine AW.dSG0 Fm 3 [6,8] [(20,AL a),(21,vi (lI a)),(22,vi 0)] [8] [] ?_
   refine AW.block (Kn.r Fm [(6,AL b.1),(8,ow 8),(20,AL a),(21,vi (lI a)),(22,vi 0)] [(8,AO ([]:List Int))] (by kernel_rfl) ?_)
   refine AW.loopF (E' := fun z=>[(6,AL b.1),(8,ow 8),(20,AL a),(21,vi (lI a)),(22,vi z.1)]) (S' := fun z=>[(8,AO z.2)]) (fun P z N p h=>?_) h
   obtain ⟨j,l⟩:=z
   refine AW.dSG0 Fm 1 [6,8,20,21,22] [(23,vb (decide (j<(lI a))))] [8] [] ?_
   refine AW.seq (AW.cN h (fun y h=>?_) (fun y h=>?_))
   ·refine AW.skip (AW.seq (AW.block ?_))
    obtain ⟨A,h⟩:=gS h
    refine AW.dSP Fm [.s,.s,.s,.s,.s,.s] [6,8,20,21,22] [(9,vi j),(10,pt 10)] [8] [(10,bx [.d (DL (α:=Rect) (gl a j.toNat).rects_)])] (cT A) ?_
    obtain ⟨e,L,h⟩:=bS h
    obtain ⟨B,h⟩:=gS h
    obtain ⟨i,M,h⟩:=bS h
    obtain ⟨E,G,h⟩:=gS2 h
    refine AW.dGW Fm [.s,.s,.k _,.s,.s,.s,.s,.k _,.s,.w (AL (α:=Int) ([(e-i)]:List Int)),.s,.s] (fun K=>K 2∧_∧K 7∧(_∧True)∧(ALe (.v (.c (.d (.lst 1 (litF 1 [.int .i64 (e-i)]))))) (AL (α:=Int) ([(e-i)]:List Int)))∧(_∧_∧True)∧True) [6,20,21,22] [(8,ow 37)] [] [(37,AO (α:=Int) (l++([(e-i)]:List Int)))] ⟨KAt.CC (region_Area_spec L) Tryz.call28 [],B,KAt.CC (region_Area_spec M) Tryz.call28 [],⟨E,⟨⟩⟩,ALe.lst (.lit ([(e-i)]:List Int) (by kernel_rfl)),⟨G,lfl ([(e-i)]:List Int),⟨⟩⟩,⟨⟩⟩ [(37,rAp l ([(e-i)]:List Int))] ⟨oAp,⟨⟩⟩ ?_
    obtain ⟨H,h⟩:=gS h
    refine AW.dpN Fm [.s,.s] [6,8,20,21] [(22,vi (j+1))] [37] [] (cT (cT H)) ?_
    exact Kn.RE Fm [(8,37)] (p ((j+1),(l++([(e-i)]:List Int))) h)
   ·exact AW.exit (Kn.R Fm (q l h))
theorem region_overlap_spec {F:Nat} {b:Rect} {c:Rect} {r:Bool} (h:region_overlap F b c=some r) :
  FSpec Tryz.prog 117 [gE b,gE c] [] (vb r) []:=by
 refine FI Tryz.func117 prog_mixed prog_lay fun C Fm=>?_
 unfold region_overlap at h
 refine AW.dSG0 Fm 3 [] [(2,pt 2),(3,pt 3)] [] [(2,bx (gC b)),(3,bx (gC c))] ?_
 refine AW.dJ (r:=r) (fun z:Bool=>region_overlap_k0 F z) [] (fun z=>[(4,vb z)]) [] (fun _=>[]) (fun k h=>?_) (fun j d=>?_)
 ·refine AW.ret ?_
  obtain rfl:=Option.some.inj h
  exact Kn.D Fm
 ·rcases br_or h with ⟨a,h⟩|⟨a,h⟩
  ·rcases br_or h with ⟨e,h⟩|⟨e,h⟩
   ·rcases br_or h with ⟨i,h⟩|⟨i,h⟩
    ·refine AW.dpN Fm [.s,.s,.s,.s,.s,.w (vb true),.s,.s,.s,.s,.s,.s,.w (vb true),.s,.s,.s,.s,.s,.s,.w (vb true),.s,.s,.s,.s,.s,.s,.s] [] [(4,vb (decide (c.low_<b.high_)))] [] [] (cA (ALe.bool a) (cA (ALe.bool e) (cT (ALe.bool i)))) ?_
     exact Kn.R Fm (d (decide (c.low_<b.high_)) h)
    ·refine AW.dpN Fm [.s,.s,.s,.s,.s,.w (vb true),.s,.s,.s,.s,.s,.s,.w (vb true),.s,.s,.s,.s,.s,.s,.w (vb false),.s,.s,.s,.s,.s,.s,.s] [] [(4,vb false)] [] [] (cA (ALe.bool a) (cA (ALe.bool e) (cT (ALe.bool i)))) ?_
     exact Kn.R Fm (d false h)
   ·refine AW.dpN Fm [.s,.s,.s,.s,.s,.w (vb true),.s,.s,.s,.s,.s,.s,.w (vb false),.s,.s,.s,.s,.s,.s,.s,.s,.s,.s,.s,.s,.s,.s] [] [(4,vb false)] [] [] (cA (ALe.bool a) (cT (ALe.bool e))) ?_
    exact Kn.R Fm (d false h)
  ·refine AW.dpN Fm [.s,.s,.s,.s,.s,.w (vb false),.s,.s,.s,.s,.s,.s,.s,.s,.s,.s,.s,.s,.s,.s,.s,.s,.s,.s,.s,.s,.s] [] [(4,vb false)] [] [] (cT (ALe.bool a)) ?_
   exact Kn.R Fm (d false h)
theorem region_Meets_1_1_spec {F:Nat} {a:Rect} {b:Rect} {r:Bool} (h:region_Meets_1_1 F a b=some r) :
  FSpec Tryz.prog 116 [gE a,pt 0] [(0,.box true (gC b))] (vb r) [(0,.box true (gC b))]:=by
 refine FI Tryz.func116 prog_mixed prog_lay fun C Fm=>?_
 unfold region_Meets_1_1 at h
 refine AW.dSG0 Fm 2 [1] [(2,pt 2)] [0] [(2,bx (gC a))] ?_
 refine AW.seq ?_
 obtain ⟨d,c,h⟩:=bS h
 refine AW.dG Fm [.s,.s,.k _,.s] (fun K=>K 2∧True) [] [(3,vb d)] [0] [] ⟨KAt.CC (region_overlap_spec c) Tryz.call117 [],⟨⟩⟩ ?_
 refine AW.ret ?_
 obtain rfl:=Option.some.inj h
 exact Kn.D Fm
theorem region_Meets_1_spec {F:Nat} {a:Rect} {b:Region} {r:Bool} (h:region_Meets_1 F a b=some r) :
  FSpec Tryz.prog 115 [gE a,pt 0] [(0,.box true [.d (DL b.rects_)])] (vb r) [(0,.box true [.d (DL b.rects_)])]:=by
 refine FI Tryz.func115 prog_mixed prog_lay fun C Fm=>?_
 unfold region_Meets_1 at h
 refine AW.dSG0 Fm 2 [1] [(2,pt 2)] [0] [(2,bx (gC a))] ?_
 refine AW.seq ?_
 obtain ⟨c,e,h⟩:=bS h
 refine AW.dG Fm [.s,.s,.s,.k (cE [] [2] (vb c) [] []),.s] (fun K=>K 3∧True) [] [(3,vb c)] [0] [] ⟨KAt.callX (slices_ContainsFunc_Rect_spec e) Tryz.call69 [] [2] [.tmp 5,.tmp 6] rfl (by kernel_rfl) (by kernel_rfl) (by kernel_rfl) ⟨.p,ArgT.cloX Tryz.call116 [[ci a.left_,ci a.low_,ci a.right_,ci a.high_]] (fun args r hq=>by obtain ⟨y0,y,hq,rfl,rfl⟩:=hq; exact Eq.mp (by kernel_rfl) (region_Meets_1_1_spec hq)) (fun args r hq=>by obtain ⟨y0,y,hq,rfl,rfl⟩:=hq; rfl) (by kernel_rfl) [2] (by kernel_rfl) (by kernel_rfl) (⟨⟨false,(by kernel_rfl)⟩,⟨⟩⟩) (by kernel_rfl),⟨⟩⟩,⟨⟩⟩ ?_
 refine AW.ret ?_
 obtain rfl:=Option.some.inj h
 exact Kn.D Fm
theorem region_Meets_spec {F:Nat} {j:Region} {b:Region} {r:Bool} (h:region_Meets F j b=some r) :
  FSpec Tryz.prog 62 [.v (.g [.d (DL j.rects_)]),.v (.g [.d (DL b.rects_)])] [] (vb r) []:=by
 refine FI Tryz.func62 prog_mixed prog_lay fun C Fm=>?_
 unfold region_Meets at h
 refine AW.dSG0 Fm 3 [] [(2,pt 2),(3,pt 3)] [] [(2,bx [.d (DL j.rects_)]),(3,bx [.d (DL b.rects_)])] ?_
 refine AW.dJ (r:=r) (fun z:Bool=>region_Meets_k0 F z) [] (fun z=>[(4,vb z)]) [] (fun _=>[]) (fun q h=>?_) (fun o c=>?_)
 ·refine AW.ret ?_
  obtain rfl:=Option.some.inj h
  exact Kn.D Fm
 ·obtain ⟨t,i,h⟩:=bS h
  rcases br_or h with ⟨a,h⟩|⟨a,h⟩
  ·obtain ⟨u,m,h⟩:=bS h
   rcases br_or h with ⟨e,h⟩|⟨e,h⟩
   ·obtain ⟨l,n,h⟩:=bS h
    refine AW.dG Fm [.s,.k _,.w (vb true),.s,.k _,.s,.w (vb true),.s,.s,.s,.k (cE [] [3] (vb l) [] []),.s,.s] (fun K=>K 1∧_∧K 4∧_∧K 10∧True) [] [(4,vb l)] [] [] ⟨KAt.CC (region_Valid_spec i) Tryz.call65 [],ALe.bool a,KAt.CC (region_Valid_spec m) Tryz.call65 [],ALe.bool e,KAt.callX (slices_ContainsFunc_Rect_spec n) Tryz.call69 [] [3] [.tmp 13,.tmp 14] rfl (by kernel_rfl) (by kernel_rfl) (by kernel_rfl) ⟨.p,ArgT.cloX Tryz.call115 [[.d (DL b.rects_)]] (fun args r hq=>by obtain ⟨y0,y,hq,rfl,rfl⟩:=hq; exact Eq.mp (by kernel_rfl) (region_Meets_1_spec hq)) (fun args r hq=>by obtain ⟨y0,y,hq,rfl,rfl⟩:=hq; rfl) (by kernel_rfl) [3] (by kernel_rfl) (by kernel_rfl) (⟨⟨false,(by kernel_rfl)⟩,⟨⟩⟩) (by kernel_rfl),⟨⟩⟩,⟨⟩⟩ ?_
    exact Kn.R Fm (c l h)
   ·refine AW.dG Fm [.s,.k _,.w (vb true),.s,.k _,.s,.w (vb false),.s,.s,.s,.s,.s,.s] (fun K=>K 1∧_∧K 4∧_∧True) [] [(4,vb false)] [] [] ⟨KAt.CC (region_Valid_spec i) Tryz.call65 [],ALe.bool a,KAt.CC (region_Valid_spec m) Tryz.call65 [],ALe.bool e,⟨⟩⟩ ?_
    exact Kn.R Fm (c false h)
  ·refine AW.dG Fm [.s,.k _,.w (vb false),.s,.s,.s,.s,.s,.s,.s,.s,.s,.s] (fun K=>K 1∧_∧True) [] [(4,vb false)] [] [] ⟨KAt.CC (region_Valid_spec i) Tryz.call65 [],ALe.bool a,⟨⟩⟩ ?_
   exact Kn.R Fm (c false h)
theorem exclusion_Once_spec {F:Nat} {a:(List Scheme)} {e:(List Region)} {r:Int×Int×Bool×Int} (h:exclusion_Once F a e=some r) :
  FSpec Tryz.prog 22 [AL a,AL e] [] (.t [.c (ci r.1),.c (ci r.2.1),.c (.d (.bool r.2.2.1)),.c (ci r.2.2.2)]) []:=by
 refine FI Tryz.func22 prog_mixed prog_lay fun C Fm=>?_
 unfold exclusion_Once at h
 refine AW.dSG0 Fm 4 [0,1] [] [] [] ?_
 refine AW.seq (AW.seq ?_)
 obtain ⟨l,V,h⟩:=bS h
 refine AW.dG Fm [.s,.s,.k _,.s] (fun K=>K 2∧True) [0,1] [(8,vi l)] [] [] ⟨KAt.CC (exclusion_check_spec V) Tryz.call56 [],⟨⟩⟩ ?_
 refine AW.dSG0 Fm 2 [0,1,8] [(16,vb (l != (0:Int)))] [] [] ?_
 refine AW.cN h (fun G h=>?_) (fun G h=>?_)
 ·refine AW.dSG0 Fm 5 [] [(4,vi 0),(5,vi 0),(6,vb false),(7,vi l)] [] [] ?_
  refine AW.ret ?_
  obtain rfl:=Option.some.inj h
  exact Kn.D Fm
 ·refine AW.skip (AW.dJ (r:=r) (fun z:Unit=>exclusion_Once_k4 F) [] (fun _=>[]) [] (fun _=>[]) (fun z h=>?_) (fun b0 E=>?_))
  ·refine AW.dSG0 Fm 4 [] [(4,vi 0),(5,vi 0),(6,vb true),(7,vi 0)] [] [] ?_
   refine AW.ret ?_
   obtain rfl:=Option.some.inj h
   exact Kn.D Fm
  ·refine AW.dSG0 Fm 3 [0,1] [(18,AL a),(19,vi (lI a)),(20,vi 0)] [] [] ?_
   refine AW.block (Kn.r Fm [(0,AL a),(1,AL e),(18,AL a),(19,vi (lI a)),(20,vi 0)] [] (by kernel_rfl) ?_)
   refine AW.loopF (E' := fun z=>[(0,AL a),(1,AL e),(18,AL a),(19,vi (lI a)),(20,vi z)]) (S' := fun z=>[]) (fun q b X y h=>?_) h
   refine AW.dSG0 Fm 1 [0,1,18,19,20] [(21,vb (decide (b<(lI a))))] [] [] ?_
   refine AW.seq (AW.cN h (fun H h=>?_) (fun H h=>?_))
   ·refine AW.skip (AW.dJ (r:=r) (fun z:Unit=>exclusion_Once_k3 F b q) [0,1,18,19,20] (fun _=>[]) [] (fun _=>[]) (fun z h=>?_) (fun a0 B=>?_))
    ·obtain ⟨U,h⟩:=gS h
     refine AW.dpN Fm [.s,.s] [0,1,18,19] [(20,vi (b+1))] [] [] (cT (cT U)) ?_
     exact Kn.R Fm (y (b+1) h)
    ·refine AW.block ?_
     obtain ⟨M,h⟩:=gS h
     refine AW.dSP Fm [.s,.s,.s,.s,.s,.s] [0,1,18,19,20] [(9,vi b),(10,pt 10)] [] [(10,bx [ci ((gl a b.toNat).number_),.d (.str (gl a b.toNat).name_),ci ((gl a b.toNat).cond_.op_),ci ((gl a b.toNat).cond_.num_),ci ((gl a b.toNat).cond_.more_),.d (DL (α:=Term) (gl a b.toNat).cond_.kids_),.d (DL (α:=Bracket) (gl a b.toNat).brackets_),ci ((gl a b.toNat).least_),ci ((gl a b.toNat).excludes_),.d (.bool (gl a b.toNat).needs_)])] (cT M) ?_
     obtain ⟨N,h⟩:=gS h
     refine AW.dSP Fm [.s,.s,.s] [0,1,9,10,18,19,20] [(11,vi (b+1))] [10] [] (cT (cT N)) ?_
     refine AW.block (Kn.r Fm [(0,AL a),(1,AL e),(9,vi b),(10,pt 10),(11,vi (b+1)),(18,AL a),(19,vi (lI a)),(20,vi b)] [(10,bx [ci ((gl a b.toNat).number_),.d (.str (gl a b.toNat).name_),ci ((gl a b.toNat).cond_.op_),ci ((gl a b.toNat).cond_.num_),ci ((gl a b.toNat).cond_.more_),.d (DL (α:=Term) (gl a b.toNat).cond_.kids_),.d (DL (α:=Bracket) (gl a b.toNat).brackets_),ci ((gl a b.toNat).least_),ci ((gl a b.toNat).excludes_),.d (.bool (gl a b.toNat).needs_)])] (by kernel_rfl) ?_)
     refine AW.loopF (E' := fun z=>[(0,AL a),(1,AL e),(9,vi b),(10,pt 10),(11,vi z),(18,AL a),(19,vi (lI a)),(20,vi b)]) (S' := fun z=>[(10,bx [ci ((gl a b.toNat).number_),.d (.str (gl a b.toNat).name_),ci ((gl a b.toNat).cond_.op_),ci ((gl a b.toNat).cond_.num_),ci ((gl a b.toNat).cond_.more_),.d (DL (α:=Term) (gl a b.toNat).cond_.kids_),.d (DL (α:=Bracket) (gl a b.toNat).brackets_),ci ((gl a b.toNat).least_),ci ((gl a b.toNat).excludes_),.d (.bool (gl a b.toNat).needs_)])]) (fun u i Y A h=>?_) h
     refine AW.seq (AW.dSG0 Fm 4 [0,1,9,10,11,18,19,20] [(30,vb (decide (i<(lI a))))] [10] [] ?_)
     refine AW.cN h (fun I h=>?_) (fun I h=>?_)
     ·refine AW.skip (AW.seq (AW.block (AW.dJ (r:=r) (fun z:Bool=>exclusion_Once_k2 F b i u z) [0,1,9,10,11,18,19,20] (fun z=>[(49,vb z)]) [10] (fun _=>[]) (fun c0 h=>?_) (fun Z n=>?_))))
      ·refine AW.cN h (fun L h=>?_) (fun L h=>?_)
       ·refine AW.dSG0 Fm 6 [] [(4,vi b),(5,vi i),(6,vb false),(7,vi 0)] [] [] ?_
        refine AW.ret ?_
        obtain rfl:=Option.some.inj h
        exact Kn.D Fm
       ·refine AW.skip ?_
        obtain ⟨T,h⟩:=gS h
        refine AW.dpN Fm [.s,.s,.s] [0,1,9,10,18,19,20] [(11,vi (i+1))] [10] [] (cT (cT T)) ?_
        exact Kn.R Fm (A (i+1) h)
      ·obtain ⟨o,h⟩:=gS h
       obtain ⟨d0,p,h⟩:=bS h
       rcases br_or h with ⟨j,h⟩|⟨j,h⟩
       ·obtain ⟨O,P,h⟩:=gS2 h
        obtain ⟨m,W,h⟩:=bS h
        refine AW.dG Fm [.s,.s,.s,.s,.s,.k _,.w (vb true),.s,.s,.s,.s,.s,.s,.s,.s,.k _,.s] (fun K=>_∧K 5∧_∧_∧_∧K 15∧True) [0,1,9,10,11,18,19,20] [(40,AL e),(41,vi b),(42,.v (.c (.elm [DL (α:=Rect) (gl e b.toNat).rects_]))),(43,.v (.g [.d (DL (α:=Rect) (gl e b.toNat).rects_)])),(44,AL e),(45,vi i),(46,.v (.c (.elm [DL (α:=Rect) (gl e i.toNat).rects_]))),(47,.v (.g [.d (DL (α:=Rect) (gl e i.toNat).rects_)])),(48,vb m),(49,vb m)] [10] [] ⟨o,KAt.CC (exclusion_excludes_spec p) Tryz.call58 [],ALe.bool j,O,P,KAt.CC (region_Meets_spec W) Tryz.call62 [],⟨⟩⟩ ?_
        exact Kn.R Fm (n m h)
       ·refine AW.dG Fm [.s,.s,.s,.s,.s,.k _,.w (vb false),.s,.s,.s,.s,.s,.s,.s,.s,.s,.s] (fun K=>_∧K 5∧_∧True) [0,1,9,10,11,18,19,20] [(49,vb false)] [10] [] ⟨o,KAt.CC (exclusion_excludes_spec p) Tryz.call58 [],ALe.bool j,⟨⟩⟩ ?_
        exact Kn.R Fm (n false h)
     ·exact AW.exit (Kn.R Fm (B () h))
   ·exact AW.exit (Kn.R Fm (E () h))
theorem ref04_Rects_spec {F:Nat} {c:(List Rect)} {d:(List Rect)} {r:Bool} (h:ref04_Rects F c d=some r) :
  FSpec Tryz.prog 98 [AL c,AL d] [] (vb r) []:=by
 refine FI Tryz.func98 prog_mixed prog_lay fun C Fm=>?_
 unfold ref04_Rects at h
 refine AW.dSG0 Fm 1 [0,1] [] [] [] ?_
 refine AW.seq (AW.dSG0 Fm 5 [0,1] [(10,vb ((lI c) != (lI d)))] [] [] ?_)
 refine AW.cN h (fun j h=>?_) (fun j h=>?_)
 ·refine AW.dSG0 Fm 1 [] [(4,vb false)] [] [] ?_
  refine AW.ret ?_
  obtain rfl:=Option.some.inj h
  exact Kn.D Fm
 ·refine AW.skip (AW.dJ (r:=r) (fun z:Unit=>ref04_Rects_k1 F) [] (fun _=>[]) [] (fun _=>[]) (fun z h=>?_) (fun t i=>?_))
  ·refine AW.dSG0 Fm 1 [] [(4,vb true)] [] [] ?_
   refine AW.ret ?_
   obtain rfl:=Option.some.inj h
   exact Kn.D Fm
  ·refine AW.dSG0 Fm 3 [0,1] [(12,vi (lI c)),(13,vi 0)] [] [] ?_
   refine AW.block (Kn.r Fm [(0,AL c),(1,AL d),(12,vi (lI c)),(13,vi 0)] [] (by kernel_rfl) ?_)
   refine AW.loopF (E' := fun z=>[(0,AL c),(1,AL d),(12,vi (lI c)),(13,vi z)]) (S' := fun z=>[]) (fun u a q e h=>?_) h
   refine AW.dSG0 Fm 1 [0,1,12,13] [(14,vb (decide (a<(lI c))))] [] [] ?_
   refine AW.seq (AW.cN h (fun l h=>?_) (fun l h=>?_))
   ·refine AW.skip (AW.seq (AW.block (AW.dSG0 Fm 2 [0,1,12,13] [(5,vi a)] [] [] ?_)))
    obtain ⟨n,o,h⟩:=gS2 h
    refine AW.dSG Fm [.s,.s,.s,.s,.s,.s,.s,.s,.k (sE (vb (!((((gl c a.toNat).left_)==((gl d a.toNat).left_))&&((((gl c a.toNat).low_)==((gl d a.toNat).low_))&&((((gl c a.toNat).right_)==((gl d a.toNat).right_))&&((((gl c a.toNat).high_)==((gl d a.toNat).high_))&&true)))))))] (fun K=>_∧_∧K 8∧True) [0,1,12,13] [(24,vb (!((((gl c a.toNat).left_)==((gl d a.toNat).left_))&&((((gl c a.toNat).low_)==((gl d a.toNat).low_))&&((((gl c a.toNat).right_)==((gl d a.toNat).right_))&&((((gl c a.toNat).high_)==((gl d a.toNat).high_))&&true))))))] [] [] ⟨n,o,KAt.eq (xs:=[ci ((gl c a.toNat).left_),ci ((gl c a.toNat).low_),ci ((gl c a.toNat).right_),ci ((gl c a.toNat).high_)]) (ys:=[ci ((gl d a.toNat).left_),ci ((gl d a.toNat).low_),ci ((gl d a.toNat).right_),ci ((gl d a.toNat).high_)]) eqT85 false (b:=((((gl c a.toNat).left_)==((gl d a.toNat).left_))&&((((gl c a.toNat).low_)==((gl d a.toNat).low_))&&((((gl c a.toNat).right_)==((gl d a.toNat).right_))&&((((gl c a.toNat).high_)==((gl d a.toNat).high_))&&true))))) rfl rfl (by kernel_rfl) (by kernel_rfl) (by kernel_rfl) (by kernel_rfl),⟨⟩⟩ ?_
    refine AW.cN h (fun m h=>?_) (fun m h=>?_)
    ·refine AW.dSG0 Fm 1 [] [(4,vb false)] [] [] ?_
     refine AW.ret ?_
     obtain rfl:=Option.some.inj h
     exact Kn.D Fm
    ·refine AW.skip ?_
     obtain ⟨p,h⟩:=gS h
     refine AW.dpN Fm [.s,.s] [0,1,12] [(13,vi (a+1))] [] [] (cT (cT p)) ?_
     exact Kn.R Fm (e (a+1) h)
   ·exact AW.exit (Kn.R Fm (i () h))
theorem ref04_Same_spec {F:Nat} {a:Region} {b:Region} {r:Bool} (h:ref04_Same F a b=some r) :
  FSpec Tryz.prog 47 [.v (.g [.d (DL a.rects_)]),.v (.g [.d (DL b.rects_)])] [] (vb r) []:=by
 refine FI Tryz.func47 prog_mixed prog_lay fun C Fm=>?_
 unfold ref04_Same at h
 refine AW.dSG0 Fm 3 [] [(2,pt 2),(3,pt 3)] [] [(2,bx [.d (DL a.rects_)]),(3,bx [.d (DL b.rects_)])] ?_
 refine AW.seq ?_
 obtain ⟨e,c,h⟩:=bS h
 refine AW.dG Fm [.s,.s,.s,.s,.k _,.s] (fun K=>K 4∧True) [] [(4,vb e)] [] [] ⟨KAt.CC (ref04_Rects_spec c) Tryz.call98 [],⟨⟩⟩ ?_
 refine AW.ret ?_
 obtain rfl:=Option.some.inj h
 exact Kn.D Fm
theorem ref24_Ints_spec {F:Nat} {a:(List Int)} {b:(List Int)} {r:Bool} (h:ref24_Ints F a b=some r) :
  FSpec Tryz.prog 26 [AL a,AL b] [] (vb r) []:=by
 refine FI Tryz.func26 prog_mixed prog_lay fun C Fm=>?_
 unfold ref24_Ints at h
 refine AW.dSG0 Fm 1 [0,1] [] [] [] ?_
 refine AW.seq (AW.dSG0 Fm 5 [0,1] [(10,vb ((lI a) != (lI b)))] [] [] ?_)
 refine AW.cN h (fun i h=>?_) (fun i h=>?_)
 ·refine AW.dSG0 Fm 1 [] [(4,vb false)] [] [] ?_
  refine AW.ret ?_
  obtain rfl:=Option.some.inj h
  exact Kn.D Fm
 ·refine AW.skip (AW.dJ (r:=r) (fun z:Unit=>ref24_Ints_k1 F) [] (fun _=>[]) [] (fun _=>[]) (fun z h=>?_) (fun p e=>?_))
  ·refine AW.dSG0 Fm 1 [] [(4,vb true)] [] [] ?_
   refine AW.ret ?_
   obtain rfl:=Option.some.inj h
   exact Kn.D Fm
  ·refine AW.dSG0 Fm 1 [0,1] [(5,vi 0)] [] [] ?_
   refine AW.block (Kn.r Fm [(0,AL a),(1,AL b),(5,vi 0)] [] (by kernel_rfl) ?_)
   refine AW.loopF (E' := fun z=>[(0,AL a),(1,AL b),(5,vi z)]) (S' := fun z=>[]) (fun q c o d h=>?_) h
   refine AW.seq (AW.dSG0 Fm 4 [0,1,5] [(14,vb (decide (c<(lI a))))] [] [] ?_)
   refine AW.cN h (fun j h=>?_) (fun j h=>?_)
   ·refine AW.skip (AW.seq (AW.block ?_))
    obtain ⟨l,m,h⟩:=gS2 h
    refine AW.dSP Fm [.s,.s,.s,.s,.s,.s,.s,.s,.s] [0,1,5] [(25,vb ((gl a c.toNat) != (gl b c.toNat)))] [] [] (cA l (cT m)) ?_
    refine AW.cN h (fun k h=>?_) (fun k h=>?_)
    ·refine AW.dSG0 Fm 1 [] [(4,vb false)] [] [] ?_
     refine AW.ret ?_
     obtain rfl:=Option.some.inj h
     exact Kn.D Fm
    ·refine AW.skip ?_
     obtain ⟨n,h⟩:=gS h
     refine AW.dpN Fm [.s,.s,.s] [0,1] [(5,vi (c+1))] [] [] (cT (cT n)) ?_
     exact Kn.R Fm (d (c+1) h)
   ·exact AW.exit (Kn.R Fm (e () h))
theorem law31_awake_spec {F:Nat} {r:Bool} (h:law31_awake F=some r) :
  FSpec Tryz.prog 13 [] [] (vb r) []:=by
 refine FI Tryz.func13 prog_mixed prog_lay fun C Fm=>?_
 unfold law31_awake at h
 refine AW.dSG0 Fm 1 [] [] [] [] ?_
 refine AW.dSP Fm [.w (.v (.g [ci (1:Int),ci 0,ci 0,.d (DL (α:=Term) [])])),.s,.s] [] [(1,pt 1)] [] [(1,bx [ci (1:Int),ci 0,ci 0,.d (DL (α:=Term) [])])] (cT (ALe.g ⟨CLe.refl _,CLe.refl _,CLe.refl _,CLe.fl .nil,⟨⟩⟩ : ALe (.v (.g [ci (1:Int),ci 0,ci 0,.fl 0 fun _=>[]])) (.v (.g [ci (1:Int),ci 0,ci 0,.d (DL (α:=Term) [])])))) ?_
 refine AW.dSP Fm [.s,.w (AL [(⟨(9:Int),(1:Int)⟩ : Bracket)]),.s] [1] [(2,AL (α:=Bracket) ([(⟨(9:Int),(1:Int)⟩ : Bracket)]:List Bracket))] [1] [] (cT (lit1 (⟨(9:Int),(1:Int)⟩ : Bracket))) ?_
 refine AW.dSP Fm [.s,.s,.s,.s,.s,.s,.w (AL (α:=Scheme) ([(⟨(1:Int),(ByteArray.mk #[97]),(⟨(1:Int),0,0,[]⟩ : Term),([(⟨(9:Int),(1:Int)⟩ : Bracket)]:List Bracket),0,(4:Int),false⟩ : Scheme),(⟨(2:Int),(ByteArray.mk #[98]),(⟨(1:Int),0,0,[]⟩ : Term),([(⟨(9:Int),(1:Int)⟩ : Bracket)]:List Bracket),0,(2:Int),false⟩ : Scheme)]:List Scheme)),.s] [] [(3,AL (α:=Scheme) ([(⟨(1:Int),(ByteArray.mk #[97]),(⟨(1:Int),0,0,[]⟩ : Term),([(⟨(9:Int),(1:Int)⟩ : Bracket)]:List Bracket),0,(4:Int),false⟩ : Scheme),(⟨(2:Int),(ByteArray.mk #[98]),(⟨(1:Int),0,0,[]⟩ : Term),([(⟨(9:Int),(1:Int)⟩ : Bracket)]:List Bracket),0,(2:Int),false⟩ : Scheme)]:List Scheme))] [] [] (cT (ALe.lst (.lit ([(⟨(1:Int),(ByteArray.mk #[97]),(⟨(1:Int),0,0,[]⟩ : Term),([(⟨(9:Int),(1:Int)⟩ : Bracket)]:List Bracket),0,(4:Int),false⟩ : Scheme),(⟨(2:Int),(ByteArray.mk #[98]),(⟨(1:Int),0,0,[]⟩ : Term),([(⟨(9:Int),(1:Int)⟩ : Bracket)]:List Bracket),0,(2:Int),false⟩ : Scheme)]:List Scheme) (by kernel_rfl)):ALe (.v (.c (.d (.lst 2 (litF 10 [.int .i64 (1:Int),.str (ByteArray.mk #[97]),.int .i64 (1:Int),.int .i64 0,.int .i64 0,DL (α:=Term) [],DL (α:=Bracket) ([(⟨(9:Int),(1:Int)⟩ : Bracket)]:List Bracket),.int .i64 0,.int .i64 (4:Int),.bool false,.int .i64 (2:Int),.str (ByteArray.mk #[98]),.int .i64 (1:Int),.int .i64 0,.int .i64 0,DL (α:=Term) [],DL (α:=Bracket) ([(⟨(9:Int),(1:Int)⟩ : Bracket)]:List Bracket),.int .i64 0,.int .i64 (2:Int),.bool false]))))) (AL (α:=Scheme) ([(⟨(1:Int),(ByteArray.mk #[97]),(⟨(1:Int),0,0,[]⟩ : Term),([(⟨(9:Int),(1:Int)⟩ : Bracket)]:List Bracket),0,(4:Int),false⟩ : Scheme),(⟨(2:Int),(ByteArray.mk #[98]),(⟨(1:Int),0,0,[]⟩ : Term),([(⟨(9:Int),(1:Int)⟩ : Bracket)]:List Bracket),0,(2:Int),false⟩ : Scheme)]:List Scheme)))) ?_
 refine AW.dSP Fm [.s,.w (AL [(⟨0,0,(5:Int),(2:Int)⟩ : Rect)]),.s,.s,.s] [3] [(4,pt 4)] [] [(4,bx [.d (DL (α:=Rect) ([(⟨0,0,(5:Int),(2:Int)⟩ : Rect)]:List Rect))])] (cT (lit1 (⟨0,0,(5:Int),(2:Int)⟩ : Rect))) ?_
 refine AW.seq ?_
 obtain ⟨E,H,h⟩:=bS h
 refine AW.dG Fm [.s,.s,.s,.w (AL (α:=Region) ([(⟨([(⟨0,0,(5:Int),(2:Int)⟩ : Rect)]:List Rect)⟩ : Region),(⟨([(⟨0,0,(5:Int),(2:Int)⟩ : Rect)]:List Rect)⟩ : Region)]:List Region)),.k _,.s,.s,.s,.s,.s] (fun K=>(ALe (.v (.c (.d (.lst 2 (litF 1 [DL (α:=Rect) ([(⟨0,0,(5:Int),(2:Int)⟩ : Rect)]:List Rect),DL (α:=Rect) ([(⟨0,0,(5:Int),(2:Int)⟩ : Rect)]:List Rect)]))))) (AL (α:=Region) ([(⟨([(⟨0,0,(5:Int),(2:Int)⟩ : Rect)]:List Rect)⟩ : Region),(⟨([(⟨0,0,(5:Int),(2:Int)⟩ : Rect)]:List Rect)⟩ : Region)]:List Region)))∧K 4∧True) [3,4] [(5,AL E.1),(6,vi E.2)] [4] [] ⟨ALe.lst (.lit ([(⟨([(⟨0,0,(5:Int),(2:Int)⟩ : Rect)]:List Rect)⟩ : Region),(⟨([(⟨0,0,(5:Int),(2:Int)⟩ : Rect)]:List Rect)⟩ : Region)]:List Region) (by kernel_rfl)),KAt.CC (exclusion_Assign_spec H) Tryz.call19 [],⟨⟩⟩ ?_
 refine AW.seq ?_
 obtain ⟨G,I,h⟩:=bS h
 refine AW.dG Fm [.s,.s,.s,.w (AL (α:=Region) ([(⟨([(⟨0,0,(5:Int),(2:Int)⟩ : Rect)]:List Rect)⟩ : Region),(⟨([(⟨0,0,(5:Int),(2:Int)⟩ : Rect)]:List Rect)⟩ : Region)]:List Region)),.k _,.s,.s,.s,.s,.s] (fun K=>(ALe (.v (.c (.d (.lst 2 (litF 1 [DL (α:=Rect) ([(⟨0,0,(5:Int),(2:Int)⟩ : Rect)]:List Rect),DL (α:=Rect) ([(⟨0,0,(5:Int),(2:Int)⟩ : Rect)]:List Rect)]))))) (AL (α:=Region) ([(⟨([(⟨0,0,(5:Int),(2:Int)⟩ : Rect)]:List Rect)⟩ : Region),(⟨([(⟨0,0,(5:Int),(2:Int)⟩ : Rect)]:List Rect)⟩ : Region)]:List Region)))∧K 4∧True) [3,4,5,6] [(7,AL G.1),(8,vi G.2)] [4] [] ⟨ALe.lst (.lit ([(⟨([(⟨0,0,(5:Int),(2:Int)⟩ : Rect)]:List Rect)⟩ : Region),(⟨([(⟨0,0,(5:Int),(2:Int)⟩ : Rect)]:List Rect)⟩ : Region)]:List Region) (by kernel_rfl)),KAt.CC (exclusion_Lost_spec I) Tryz.call24 [],⟨⟩⟩ ?_
 refine AW.seq ?_
 obtain ⟨y,L,h⟩:=bS h
 refine AW.dG Fm [.s,.s,.s,.w (AL (α:=Region) ([(⟨([(⟨0,0,(5:Int),(2:Int)⟩ : Rect)]:List Rect)⟩ : Region),(⟨([(⟨0,0,(5:Int),(2:Int)⟩ : Rect)]:List Rect)⟩ : Region)]:List Region)),.k _,.s,.s,.s,.s,.s,.s,.s,.s,.s] (fun K=>(ALe (.v (.c (.d (.lst 2 (litF 1 [DL (α:=Rect) ([(⟨0,0,(5:Int),(2:Int)⟩ : Rect)]:List Rect),DL (α:=Rect) ([(⟨0,0,(5:Int),(2:Int)⟩ : Rect)]:List Rect)]))))) (AL (α:=Region) ([(⟨([(⟨0,0,(5:Int),(2:Int)⟩ : Rect)]:List Rect)⟩ : Region),(⟨([(⟨0,0,(5:Int),(2:Int)⟩ : Rect)]:List Rect)⟩ : Region)]:List Region)))∧K 4∧True) [4,5,6,7,8] [(11,vb y.2.2.1),(12,vi y.2.2.2)] [4] [] ⟨ALe.lst (.lit ([(⟨([(⟨0,0,(5:Int),(2:Int)⟩ : Rect)]:List Rect)⟩ : Region),(⟨([(⟨0,0,(5:Int),(2:Int)⟩ : Rect)]:List Rect)⟩ : Region)]:List Region) (by kernel_rfl)),KAt.CC (exclusion_Once_spec L) Tryz.call22 [],⟨⟩⟩ ?_
 refine AW.dJ (r:=r) (fun z:Bool=>law31_awake_k0 F z) [] (fun z=>[(0,vb z)]) [] (fun _=>[]) (fun N h=>?_) (fun M b=>?_)
 ·refine AW.ret ?_
  obtain rfl:=Option.some.inj h
  exact Kn.D Fm
 ·rcases br_or h with ⟨a,h⟩|⟨a,h⟩
  ·rcases br_or h with ⟨e,h⟩|⟨e,h⟩
   ·obtain ⟨l,h⟩:=gS h
    obtain ⟨O,m,h⟩:=bS h
    rcases br_or h with ⟨i,h⟩|⟨i,h⟩
    ·obtain ⟨o,h⟩:=gS h
     obtain ⟨P,p,h⟩:=bS h
     rcases br_or h with ⟨j,h⟩|⟨j,h⟩
     ·obtain ⟨t,h⟩:=gS h
      rcases br_or h with ⟨n,h⟩|⟨n,h⟩
      ·rcases br_or h with ⟨q,h⟩|⟨q,h⟩
       ·obtain ⟨T,B,h⟩:=bS h
        rcases br_or h with ⟨u,h⟩|⟨u,h⟩
        ·rcases br_or h with ⟨A,h⟩|⟨A,h⟩
         ·refine AW.dG Fm ([.s,.s,.w (vb true),.s,.s,.s,.s,.w (vb true),.s,.s,.s,.s,.k _,.s,.w (vb true),.s,.s,.s,.k _,.s,.s,.w (vb true),.s,.s,.s,.s,.s,.s]++[.s,.w (vb true),.s,.s,.s,.w (vb true),.s,.w (AL (α:=Int) ([(0:Int),(10:Int)]:List Int)),.k _,.s,.w (vb true),.s,.s,.s,.w (vb true),.s,.s,.s,.s]) (fun K=>_∧_∧_∧K 12∧_∧_∧K 18∧_∧_∧_∧_∧(ALe (.v (.c (.d (.lst 2 (litF 1 [.int .i64 (0:Int),.int .i64 (10:Int)]))))) (AL (α:=Int) ([(0:Int),(10:Int)]:List Int)))∧K 36∧_∧_∧True) [] [(0,vb (!y.2.2.1))] [] [] ⟨ALe.bool a,ALe.bool e,l,KAt.CC (ref04_Same_spec m) Tryz.call47 [],ALe.bool i,o,KAt.CC (region_Area_spec p) Tryz.call28 [],ALe.bool j,t,ALe.bool n,ALe.bool q,ALe.lst (.lit ([(0:Int),(10:Int)]:List Int) (by kernel_rfl)),KAt.CC (ref24_Ints_spec B) Tryz.call26 [],ALe.bool u,ALe.bool A,⟨⟩⟩ ?_
          exact Kn.R Fm (b (!y.2.2.1) h)
         ·refine AW.dG Fm ([.s,.s,.w (vb true),.s,.s,.s,.s,.w (vb true),.s,.s,.s,.s,.k _,.s,.w (vb true),.s,.s,.s,.k _,.s,.s,.w (vb true),.s,.s,.s,.s,.s,.s]++[.s,.w (vb true),.s,.s,.s,.w (vb true),.s,.w (AL (α:=Int) ([(0:Int),(10:Int)]:List Int)),.k _,.s,.w (vb true),.s,.s,.s,.w (vb false),.s,.s,.s,.s]) (fun K=>_∧_∧_∧K 12∧_∧_∧K 18∧_∧_∧_∧_∧(ALe (.v (.c (.d (.lst 2 (litF 1 [.int .i64 (0:Int),.int .i64 (10:Int)]))))) (AL (α:=Int) ([(0:Int),(10:Int)]:List Int)))∧K 36∧_∧_∧True) [] [(0,vb false)] [] [] ⟨ALe.bool a,ALe.bool e,l,KAt.CC (ref04_Same_spec m) Tryz.call47 [],ALe.bool i,o,KAt.CC (region_Area_spec p) Tryz.call28 [],ALe.bool j,t,ALe.bool n,ALe.bool q,ALe.lst (.lit ([(0:Int),(10:Int)]:List Int) (by kernel_rfl)),KAt.CC (ref24_Ints_spec B) Tryz.call26 [],ALe.bool u,ALe.bool A,⟨⟩⟩ ?_
          exact Kn.R Fm (b false h)
        ·refine AW.dG Fm ([.s,.s,.w (vb true),.s,.s,.s,.s,.w (vb true),.s,.s,.s,.s,.k _,.s,.w (vb true),.s,.s,.s,.k _,.s,.s,.w (vb true),.s,.s,.s,.s,.s,.s]++[.s,.w (vb true),.s,.s,.s,.w (vb true),.s,.w (AL (α:=Int) ([(0:Int),(10:Int)]:List Int)),.k _,.s,.w (vb false),.s,.s,.s,.s,.s,.s,.s,.s]) (fun K=>_∧_∧_∧K 12∧_∧_∧K 18∧_∧_∧_∧_∧(ALe (.v (.c (.d (.lst 2 (litF 1 [.int .i64 (0:Int),.int .i64 (10:Int)]))))) (AL (α:=Int) ([(0:Int),(10:Int)]:List Int)))∧K 36∧_∧True) [] [(0,vb false)] [] [] ⟨ALe.bool a,ALe.bool e,l,KAt.CC (ref04_Same_spec m) Tryz.call47 [],ALe.bool i,o,KAt.CC (region_Area_spec p) Tryz.call28 [],ALe.bool j,t,ALe.bool n,ALe.bool q,ALe.lst (.lit ([(0:Int),(10:Int)]:List Int) (by kernel_rfl)),KAt.CC (ref24_Ints_spec B) Tryz.call26 [],ALe.bool u,⟨⟩⟩ ?_
         exact Kn.R Fm (b false h)
       ·refine AW.dG Fm ([.s,.s,.w (vb true),.s,.s,.s,.s,.w (vb true),.s,.s,.s,.s,.k _,.s,.w (vb true),.s,.s,.s,.k _,.s,.s,.w (vb true),.s,.s,.s,.s,.s,.s]++[.s,.w (vb true),.s,.s,.s,.w (vb false),.s,.s,.s,.s,.s,.s,.s,.s,.s,.s,.s,.s,.s]) (fun K=>_∧_∧_∧K 12∧_∧_∧K 18∧_∧_∧_∧_∧True) [] [(0,vb false)] [] [] ⟨ALe.bool a,ALe.bool e,l,KAt.CC (ref04_Same_spec m) Tryz.call47 [],ALe.bool i,o,KAt.CC (region_Area_spec p) Tryz.call28 [],ALe.bool j,t,ALe.bool n,ALe.bool q,⟨⟩⟩ ?_
        exact Kn.R Fm (b false h)
      ·refine AW.dG Fm ([.s,.s,.w (vb true),.s,.s,.s,.s,.w (vb true),.s,.s,.s,.s,.k _,.s,.w (vb true),.s,.s,.s,.k _,.s,.s,.w (vb true),.s,.s,.s,.s,.s,.s]++[.s,.w (vb false),.s,.s,.s,.s,.s,.s,.s,.s,.s,.s,.s,.s,.s,.s,.s,.s,.s]) (fun K=>_∧_∧_∧K 12∧_∧_∧K 18∧_∧_∧_∧True) [] [(0,vb false)] [] [] ⟨ALe.bool a,ALe.bool e,l,KAt.CC (ref04_Same_spec m) Tryz.call47 [],ALe.bool i,o,KAt.CC (region_Area_spec p) Tryz.call28 [],ALe.bool j,t,ALe.bool n,⟨⟩⟩ ?_
       exact Kn.R Fm (b false h)
     ·refine AW.dG Fm ([.s,.s,.w (vb true),.s,.s,.s,.s,.w (vb true),.s,.s,.s,.s,.k _,.s,.w (vb true),.s,.s,.s,.k _,.s,.s,.w (vb false),.s,.s,.s,.s,.s,.s]++[.s,.s,.s,.s,.s,.s,.s,.s,.s,.s,.s,.s,.s,.s,.s,.s,.s,.s,.s]) (fun K=>_∧_∧_∧K 12∧_∧_∧K 18∧_∧True) [] [(0,vb false)] [] [] ⟨ALe.bool a,ALe.bool e,l,KAt.CC (ref04_Same_spec m) Tryz.call47 [],ALe.bool i,o,KAt.CC (region_Area_spec p) Tryz.call28 [],ALe.bool j,⟨⟩⟩ ?_
      exact Kn.R Fm (b false h)
    ·refine AW.dG Fm ([.s,.s,.w (vb true),.s,.s,.s,.s,.w (vb true),.s,.s,.s,.s,.k _,.s,.w (vb false),.s,.s,.s,.s,.s,.s,.s,.s,.s,.s,.s,.s,.s]++[.s,.s,.s,.s,.s,.s,.s,.s,.s,.s,.s,.s,.s,.s,.s,.s,.s,.s,.s]) (fun K=>_∧_∧_∧K 12∧_∧True) [] [(0,vb false)] [] [] ⟨ALe.bool a,ALe.bool e,l,KAt.CC (ref04_Same_spec m) Tryz.call47 [],ALe.bool i,⟨⟩⟩ ?_
     exact Kn.R Fm (b false h)
   ·refine AW.dpN Fm ([.s,.s,.w (vb true),.s,.s,.s,.s,.w (vb false),.s,.s,.s,.s,.s,.s,.s,.s,.s,.s,.s,.s,.s,.s,.s,.s,.s,.s,.s,.s]++[.s,.s,.s,.s,.s,.s,.s,.s,.s,.s,.s,.s,.s,.s,.s,.s,.s,.s,.s]) [] [(0,vb false)] [] [] (cA (ALe.bool a) (cT (ALe.bool e))) ?_
    exact Kn.R Fm (b false h)
  ·refine AW.dpN Fm ([.s,.s,.w (vb false),.s,.s,.s,.s,.s,.s,.s,.s,.s,.s,.s,.s,.s,.s,.s,.s,.s,.s,.s,.s,.s,.s,.s,.s,.s]++[.s,.s,.s,.s,.s,.s,.s,.s,.s,.s,.s,.s,.s,.s,.s,.s,.s,.s,.s]) [] [(0,vb false)] [] [] (cT (ALe.bool a)) ?_
   exact Kn.R Fm (b false h)
theorem keep_New_spec {F:Nat} {a:(List Int)} {r:Tape} (h:keep_New F a=some r) :
  FSpec Tryz.prog 14 [AL a] [] (pt 100) [(100,bx (gC r))]:=by
 refine FI Tryz.func14 prog_mixed prog_lay fun C Fm=>?_
 unfold keep_New at h
 refine AW.dSG0 Fm 1 [0] [] [] [] ?_
 obtain ⟨b,h⟩:=gS h
 refine AW.dSP Fm [.s,.s,.s,.s,.w (AL (α:=Int) (a.take (gmin (lI a) (400:Int)).toNat)),.s,.s,.s] [] [(2,pt 9)] [] [(9,bx [.d (DL (α:=Int) (a.take (gmin (lI a) (400:Int)).toNat)),ci 0])] (cA (⟨b,(Is.refl a).len⟩ : ((sl (List.length a) (LF a) none (some (gmin (lI a) (400:Int)))).2∧∀ j,j<List.length a→(LF a j).length=1)) (cT (ALe.lst (sl_is a none (some (gmin (lI a) (400:Int))) b):ALe (.v (.c (.d (.lst (sl (List.length a) (LF a) none (some (gmin (lI a) (400:Int)))).1.1 (sl (List.length a) (LF a) none (some (gmin (lI a) (400:Int)))).1.2)))) (AL (α:=Int) (a.take (gmin (lI a) (400:Int)).toNat))))) ?_
 refine AW.ret ?_
 obtain rfl:=Option.some.inj h
 exact Kn.re Fm [(100,9)] [(2,pt 100)] [(100,bx [.d (DL (α:=Int) (a.take (gmin (lI a) (400:Int)).toNat)),ci 0])] (by kernel_rfl) (by kernel_rfl) (by kernel_rfl) (by kernel_rfl) (Kn.dn Fm (by kernel_rfl))
theorem keep_Mod_spec {F:Nat} {b:Int} {a:Int} {r:Int} (h:keep_Mod F b a=some r) :
  FSpec Tryz.prog 50 [vi b,vi a] [] (vi r) []:=by
 refine FI Tryz.func50 prog_mixed prog_lay fun C Fm=>?_
 unfold keep_Mod at h
 refine AW.dSG0 Fm 1 [0,1] [] [] [] ?_
 refine AW.seq (AW.dSG0 Fm 2 [0,1] [(6,vb (decide (a<(1:Int))))] [] [] ?_)
 refine AW.cN h (fun d h=>?_) (fun d h=>?_)
 ·refine AW.dSG0 Fm 1 [] [(4,vi 0)] [] [] ?_
  refine AW.ret ?_
  obtain rfl:=Option.some.inj h
  exact Kn.D Fm
 ·refine AW.skip ?_
  obtain ⟨i,h⟩:=gS h
  refine AW.dSP Fm [.s,.s,.s,.s] [1] [(0,vi (b.tmod a))] [] [] (cT i) ?_
  refine AW.dJ (r:=r) (fun z:Int=>keep_Mod_k0 F z) [] (fun z=>[(0,vi z)]) [] (fun _=>[]) (fun k h=>?_) (fun l c=>?_)
  ·refine AW.dSG0 Fm 2 [] [(4,vi k)] [] [] ?_
   refine AW.ret ?_
   obtain rfl:=Option.some.inj h
   exact Kn.D Fm
  ·refine AW.dSG0 Fm 2 [0,1] [(11,vb (decide ((b.tmod a)<(0:Int))))] [] [] ?_
   refine AW.cN h (fun e h=>?_) (fun e h=>?_)
   ·obtain ⟨j,h⟩:=gS h
    refine AW.dpN Fm [.s,.s,.s,.s] [] [(0,vi ((b.tmod a)+a))] [] [] (cT (cT j)) ?_
    exact Kn.R Fm (c ((b.tmod a)+a) h)
   ·exact AW.skip (Kn.R Fm (c (b.tmod a) h))
theorem keep_Tape_Next_spec {F:Nat} {a:Tape} {b:Int} {r:Tape×Int} (h:keep_Tape_Next F a b=some r) :
  FSpec Tryz.prog 18 [pt 0,vi b] [(0,bx (gC a))] (vi r.2) [(0,bx (gC r.1))]:=by
 refine FI Tryz.func18 prog_mixed prog_lay fun C Fm=>?_
 unfold keep_Tape_Next at h
 refine AW.dSG0 Fm 1 [0,1] [] [0] [] ?_
 refine AW.seq (AW.dSG0 Fm 10 [0,1] [(14,vb (decide ((lI a.l_)≤a.at_)))] [0] [] ?_)
 refine AW.cN h (fun c h=>?_) (fun c h=>?_)
 ·refine AW.dSG0 Fm 1 [] [(4,vi 0)] [0] [] ?_
  refine AW.ret ?_
  obtain rfl:=Option.some.inj h
  exact Kn.D Fm
 ·refine AW.skip ?_
  obtain ⟨e,h⟩:=gS h
  refine AW.dSP Fm [.s,.s,.s,.s,.s,.s,.s,.s] [0,1] [] [] [(0,bx [.d (DL a.l_),ci (a.at_+1)])] (cT (cT e)) ?_
  refine AW.seq ?_
  obtain ⟨i,j,h⟩:=gS2 h
  obtain ⟨m,l,h⟩:=bS h
  refine AW.dG Fm [.s,.s,.s,.s,.s,.s,.s,.s,.s,.s,.s,.s,.k _,.s] (fun K=>(_∧True)∧_∧K 12∧True) [] [(4,vi m)] [0] [] ⟨⟨i,⟨⟩⟩,j,KAt.CC (keep_Mod_spec l) Tryz.call50 [],⟨⟩⟩ ?_
  refine AW.ret ?_
  obtain rfl:=Option.some.inj h
  exact Kn.D Fm
theorem ref02_Decimal_B_spec {F:Nat} {rc:Int→Option (ByteArray)} (hrc : ∀ {e:Int} {r:ByteArray},rc e=some r→FSpec Tryz.prog 75 [vi e] [] (.v (.c (.d (.str r)))) []) {e:Int} {r:ByteArray} (h:ref02_Decimal_B F rc e=some r) :
  FSpec Tryz.prog 75 [vi e] [] (.v (.c (.d (.str r)))) []:=by
 refine FI Tryz.func75 prog_mixed prog_lay fun C Fm=>?_
 unfold ref02_Decimal_B at h
 refine AW.dSG0 Fm 1 [0] [] [] [] ?_
 refine AW.seq (AW.dSG0 Fm 2 [0] [(5,vb (decide (e<(0:Int))))] [] [] ?_)
 refine AW.cN h (fun l h=>?_) (fun l h=>?_)
 ·obtain ⟨p,q,h⟩:=gS2 h
  refine AW.dSP Fm [.s,.s,.s,.s] [0] [(3,vi (0-(e.tmod (10:Int))))] [] [] (cA p (cT (cT q))) ?_
  refine AW.seq (AW.dSG0 Fm 2 [0,3] [(10,vb (decide ((-10:Int)<e)))] [] [] ?_)
  refine AW.cN h (fun n h=>?_) (fun n h=>?_)
  ·obtain ⟨t,u,h⟩:=gS2 h
   refine AW.dSG Fm [.s,.s,.s,.s,.k (sE (.v (.c (.d (.str (bOf (IntKind.wrap .u8 ((48:Int)+(0-(e.tmod (10:Int))))))))))),.k (sE (.v (.c (.d (.str ((ByteArray.mk #[45])++(bOf (IntKind.wrap .u8 ((48:Int)+(0-(e.tmod (10:Int)))))))))))),.s] (fun K=>(_∧True)∧(True)∧K 4∧K 5∧True) [] [(2,.v (.c (.d (.str ((ByteArray.mk #[45])++(bOf (IntKind.wrap .u8 ((48:Int)+(0-(e.tmod (10:Int)))))))))))] [] [] ⟨⟨t,⟨⟩⟩,True.intro,KAt.b2s (src:=158) (dst:=9) (el:=5) (m:=(IntKind.wrap .u8 ((48:Int)+(0-(e.tmod (10:Int)))))) (by kernel_rfl) (by kernel_rfl) (by kernel_rfl) rfl rfl (by kernel_rfl) (by kernel_rfl),KAt.strA (a:=(ByteArray.mk #[45])) (b:=(bOf (IntKind.wrap .u8 ((48:Int)+(0-(e.tmod (10:Int))))))) rfl rfl (by kernel_rfl) (by kernel_rfl) (by kernel_rfl) u,⟨⟩⟩ ?_
   refine AW.ret ?_
   obtain rfl:=Option.some.inj h
   exact Kn.D Fm
  ·refine AW.skip (AW.seq ?_)
   obtain ⟨w,h⟩:=gS h
   obtain ⟨i,L,h⟩:=bS h
   obtain ⟨y,A,h⟩:=gS2 h
   refine AW.dG Fm [.s,.s,.k _,.s,.s,.s,.s,.k (sE (.v (.c (.d (.str (bOf (IntKind.wrap .u8 ((48:Int)+(0-(e.tmod (10:Int))))))))))),.k (sE (.v (.c (.d (.str (i++(bOf (IntKind.wrap .u8 ((48:Int)+(0-(e.tmod (10:Int)))))))))))),.s] (fun K=>_∧K 2∧(_∧True)∧(True)∧K 7∧K 8∧True) [] [(2,.v (.c (.d (.str (i++(bOf (IntKind.wrap .u8 ((48:Int)+(0-(e.tmod (10:Int)))))))))))] [] [] ⟨w,KAt.CC (hrc L) Tryz.call75 [],⟨y,⟨⟩⟩,True.intro,KAt.b2s (src:=158) (dst:=9) (el:=5) (m:=(IntKind.wrap .u8 ((48:Int)+(0-(e.tmod (10:Int)))))) (by kernel_rfl) (by kernel_rfl) (by kernel_rfl) rfl rfl (by kernel_rfl) (by kernel_rfl),KAt.strA (a:=i) (b:=(bOf (IntKind.wrap .u8 ((48:Int)+(0-(e.tmod (10:Int))))))) rfl rfl (by kernel_rfl) (by kernel_rfl) (by kernel_rfl) A,⟨⟩⟩ ?_
   refine AW.ret ?_
   obtain rfl:=Option.some.inj h
   exact Kn.D Fm
 ·refine AW.skip (AW.seq (AW.dSG0 Fm 2 [0] [(27,vb (decide (e<(10:Int))))] [] [] ?_))
  refine AW.cN h (fun o h=>?_) (fun o h=>?_)
  ·obtain ⟨B,h⟩:=gS h
   refine AW.dSG Fm [.s,.s,.s,.s,.k (sE (.v (.c (.d (.str (bOf (IntKind.wrap .u8 ((48:Int)+e)))))))),.s] (fun K=>(_∧True)∧(True)∧K 4∧True) [] [(2,.v (.c (.d (.str (bOf (IntKind.wrap .u8 ((48:Int)+e)))))))] [] [] ⟨⟨B,⟨⟩⟩,True.intro,KAt.b2s (src:=158) (dst:=9) (el:=5) (m:=(IntKind.wrap .u8 ((48:Int)+e))) (by kernel_rfl) (by kernel_rfl) (by kernel_rfl) rfl rfl (by kernel_rfl) (by kernel_rfl),⟨⟩⟩ ?_
   refine AW.ret ?_
   obtain rfl:=Option.some.inj h
   exact Kn.D Fm
  ·refine AW.skip (AW.seq ?_)
   obtain ⟨E,h⟩:=gS h
   obtain ⟨j,M,h⟩:=bS h
   obtain ⟨G,H,I,h⟩:=gS3 h
   refine AW.dG Fm [.s,.s,.k _,.s,.s,.s,.s,.s,.k (sE (.v (.c (.d (.str (bOf (IntKind.wrap .u8 ((48:Int)+(e.tmod (10:Int)))))))))),.k (sE (.v (.c (.d (.str (j++(bOf (IntKind.wrap .u8 ((48:Int)+(e.tmod (10:Int))))))))))),.s] (fun K=>_∧K 2∧_∧(_∧True)∧(True)∧K 8∧K 9∧True) [] [(2,.v (.c (.d (.str (j++(bOf (IntKind.wrap .u8 ((48:Int)+(e.tmod (10:Int))))))))))] [] [] ⟨E,KAt.CC (hrc M) Tryz.call75 [],G,⟨H,⟨⟩⟩,True.intro,KAt.b2s (src:=158) (dst:=9) (el:=5) (m:=(IntKind.wrap .u8 ((48:Int)+(e.tmod (10:Int))))) (by kernel_rfl) (by kernel_rfl) (by kernel_rfl) rfl rfl (by kernel_rfl) (by kernel_rfl),KAt.strA (a:=j) (b:=(bOf (IntKind.wrap .u8 ((48:Int)+(e.tmod (10:Int)))))) rfl rfl (by kernel_rfl) (by kernel_rfl) (by kernel_rfl) I,⟨⟩⟩ ?_
   refine AW.ret ?_
   obtain rfl:=Option.some.inj h
   exact Kn.D Fm
theorem ref02_Decimal_spec : ∀ {F:Nat} {a:Int} {r:ByteArray},ref02_Decimal F a=some r →
  FSpec Tryz.prog 75 [vi a] [] (.v (.c (.d (.str r)))) []
 | 0,_,_,h=>by cases h
 | F+1,_,_,h=>ref02_Decimal_B_spec ref02_Decimal_spec (F:=F) (rc:=ref02_Decimal F) h
theorem keep_Tape_One_spec {F:Nat} {b:Tape} {a:Int} {r:Tape×Bool} (h:keep_Tape_One F b a=some r) :
  FSpec Tryz.prog 55 [pt 0,vi a] [(0,bx (gC b))] (vb r.2) [(0,bx (gC r.1))]:=by
 refine FI Tryz.func55 prog_mixed prog_lay fun C Fm=>?_
 unfold keep_Tape_One at h
 refine AW.dSG0 Fm 1 [0,1] [] [0] [] ?_
 refine AW.seq ?_
 obtain ⟨c,e,h⟩:=bS h
 obtain ⟨d,h⟩:=gS h
 refine AW.dG Fm [.s,.s,.k _,.s,.s,.s,.s] (fun K=>K 2∧(_∧True)∧True) [] [(4,vb (c.2==(a-1)))] [] [(0,bx (gC c.1))] ⟨KAt.CC (keep_Tape_Next_spec e) Tryz.call18 [(0,0)],⟨d,⟨⟩⟩,⟨⟩⟩ ?_
 refine AW.ret ?_
 obtain rfl:=Option.some.inj h
 exact Kn.D Fm
theorem keep_Tape_Range_spec {F:Nat} {b:Tape} {a:Int} {c:Int} {r:Tape×Int} (h:keep_Tape_Range F b a c=some r) :
  FSpec Tryz.prog 72 [pt 0,vi a,vi c] [(0,bx (gC b))] (vi r.2) [(0,bx (gC r.1))]:=by
 refine FI Tryz.func72 prog_mixed prog_lay fun C Fm=>?_
 unfold keep_Tape_Range at h
 refine AW.dSG0 Fm 1 [0,1,2] [] [0] [] ?_
 refine AW.seq ?_
 obtain ⟨e,i,h⟩:=gS2 h
 obtain ⟨d,l,h⟩:=bS h
 obtain ⟨j,h⟩:=gS h
 refine AW.dG Fm [.s,.s,.s,.s,.s,.s,.k _,.s,.s] (fun K=>(_∧True)∧(_∧True)∧K 6∧(_∧True)∧True) [] [(6,vi (a+d.2))] [] [(0,bx (gC d.1))] ⟨⟨e,⟨⟩⟩,⟨i,⟨⟩⟩,KAt.CC (keep_Tape_Next_spec l) Tryz.call18 [(0,0)],⟨j,⟨⟩⟩,⟨⟩⟩ ?_
 refine AW.ret ?_
 obtain rfl:=Option.some.inj h
 exact Kn.D Fm
theorem keep_Tape_Term_B_spec {F:Nat} {rc:Tape→Int→Option (Tape×Term)} (hrc : ∀ {n:Tape} {o:Int} {r:Tape×Term},rc n o=some r→FSpec Tryz.prog 76 [pt 0,vi o] [(0,bx (gC n))] (.v (.g [ci r.2.op_,ci r.2.num_,ci r.2.more_,.d (DL (α:=Term) r.2.kids_)])) [(0,bx (gC r.1))]) {n:Tape} {o:Int} {r:Tape×Term} (h:keep_Tape_Term_B F rc n o=some r) :
  FSpec Tryz.prog 76 [pt 0,vi o] [(0,bx (gC n))] (.v (.g [ci r.2.op_,ci r.2.num_,ci r.2.more_,.d (DL (α:=Term) r.2.kids_)])) [(0,bx (gC r.1))]:=by
 refine FI Tryz.func76 prog_mixed prog_lay fun C Fm=>?_
 unfold keep_Tape_Term_B at h
 refine AW.dSG0 Fm 1 [0,1] [(4,pt 4)] [0] [(4,bx [ci 0,ci 0,ci 0,.fl 0 fun _=>[]])] ?_
 refine AW.seq (AW.dJ (r:=r) (fun z:Bool×(List Int)×Int=>keep_Tape_Term_k0 F rc o z.1 z.2.1 z.2.2) [0,1,4] (fun z=>[(12,vb z.1)]) [4] (fun z=>[(0,bx [.d (DL z.2.1),ci z.2.2])]) (fun z h=>?_) (fun M0 H=>?_))
 ·obtain ⟨P0,R0,T0⟩:=z
  refine AW.cN h (fun M h=>?_) (fun M h=>?_)
  ·refine AW.seq (AW.seq ?_)
   obtain ⟨E,p0,h⟩:=bS h
   refine AW.dG Fm [.s,.k _] (fun K=>K 1∧True) [0,1,4] [(14,vi E.2)] [4] [(0,bx (gC E.1))] ⟨KAt.CC (keep_Tape_Next_spec p0) Tryz.call18 [(0,0)],⟨⟩⟩ ?_
   refine AW.block (AW.dSG0 Fm 2 [0,1,4,14] [(15,vb (E.2==(0:Int)))] [0,4] [] ?_)
   refine AW.cN h (fun N h=>?_) (fun N h=>?_)
   ·refine AW.seq ?_
    obtain ⟨Z,h⟩:=gS h
    obtain ⟨b,q0,h⟩:=bS h
    obtain ⟨a0,h⟩:=gS h
    refine AW.dG Fm [.s,.s,.s,.k _,.w (AL (α:=Term) ([b.2]:List Term)),.s,.s] (fun K=>(_∧True)∧K 3∧(ALe (.v (.c (.d (.lst 1 (litF 4 [.int .i64 b.2.op_,.int .i64 b.2.num_,.int .i64 b.2.more_,DL b.2.kids_]))))) (AL (α:=Term) ([b.2]:List Term)))∧True) [4] [] [] [(0,bx (gC b.1)),(4,bx [ci (11:Int),ci 0,ci 0,.d (DL (α:=Term) ([b.2]:List Term))])] ⟨⟨Z,⟨⟩⟩,KAt.CC (hrc q0) Tryz.call76 [(0,0)],ALe.lst (.lit ([b.2]:List Term) (by simp only [List.map_cons,List.map_nil,Term.cells_eq (x:=b.2) a0]; kernel_rfl)),⟨⟩⟩ ?_
    refine AW.ret ?_
    obtain rfl:=Option.some.inj h
    exact Kn.D Fm
   ·refine AW.dSG0 Fm 2 [0,1,4] [(23,vb (E.2==(1:Int)))] [0,4] [] ?_
    refine AW.cN h (fun O h=>?_) (fun O h=>?_)
    ·refine AW.seq ?_
     obtain ⟨b0,h⟩:=gS h
     obtain ⟨j,s0,h⟩:=bS h
     obtain ⟨c0,h⟩:=gS h
     obtain ⟨e,t0,h⟩:=bS h
     obtain ⟨d0,e0,h⟩:=gS2 h
     refine AW.dG Fm [.s,.s,.s,.k _,.s,.s,.s,.k _,.w (AL (α:=Term) ([j.2,e.2]:List Term)),.s,.s] (fun K=>(_∧True)∧K 3∧(_∧True)∧K 7∧(ALe (.v (.c (.d (.lst 2 (litF 4 [.int .i64 j.2.op_,.int .i64 j.2.num_,.int .i64 j.2.more_,DL j.2.kids_,.int .i64 e.2.op_,.int .i64 e.2.num_,.int .i64 e.2.more_,DL e.2.kids_]))))) (AL (α:=Term) ([j.2,e.2]:List Term)))∧True) [4] [] [] [(0,bx (gC e.1)),(4,bx [ci (9:Int),ci 0,ci 0,.d (DL (α:=Term) ([j.2,e.2]:List Term))])] ⟨⟨b0,⟨⟩⟩,KAt.CC (hrc s0) Tryz.call76 [(0,0)],⟨c0,⟨⟩⟩,KAt.CC (hrc t0) Tryz.call76 [(0,0)],ALe.lst (.lit ([j.2,e.2]:List Term) (by simp only [List.map_cons,List.map_nil,Term.cells_eq (x:=j.2) d0,Term.cells_eq (x:=e.2) e0]; kernel_rfl)),⟨⟩⟩ ?_
     refine AW.ret ?_
     obtain rfl:=Option.some.inj h
     exact Kn.D Fm
    ·refine AW.skip (AW.seq ?_)
     obtain ⟨i0,h⟩:=gS h
     obtain ⟨l,u0,h⟩:=bS h
     obtain ⟨j0,h⟩:=gS h
     obtain ⟨i,w0,h⟩:=bS h
     obtain ⟨k0,l0,h⟩:=gS2 h
     refine AW.dG Fm [.s,.s,.s,.k _,.s,.s,.s,.k _,.w (AL (α:=Term) ([l.2,i.2]:List Term)),.s,.s] (fun K=>(_∧True)∧K 3∧(_∧True)∧K 7∧(ALe (.v (.c (.d (.lst 2 (litF 4 [.int .i64 l.2.op_,.int .i64 l.2.num_,.int .i64 l.2.more_,DL l.2.kids_,.int .i64 i.2.op_,.int .i64 i.2.num_,.int .i64 i.2.more_,DL i.2.kids_]))))) (AL (α:=Term) ([l.2,i.2]:List Term)))∧True) [4] [] [] [(0,bx (gC i.1)),(4,bx [ci (10:Int),ci 0,ci 0,.d (DL (α:=Term) ([l.2,i.2]:List Term))])] ⟨⟨i0,⟨⟩⟩,KAt.CC (hrc u0) Tryz.call76 [(0,0)],⟨j0,⟨⟩⟩,KAt.CC (hrc w0) Tryz.call76 [(0,0)],ALe.lst (.lit ([l.2,i.2]:List Term) (by simp only [List.map_cons,List.map_nil,Term.cells_eq (x:=l.2) k0,Term.cells_eq (x:=i.2) l0]; kernel_rfl)),⟨⟩⟩ ?_
     refine AW.ret ?_
     obtain rfl:=Option.some.inj h
     exact Kn.D Fm
  ·refine AW.skip (AW.seq ?_)
   obtain ⟨a,y0,h⟩:=bS h
   refine AW.dG Fm [.s,.k _,.s] (fun K=>K 1∧True) [0,4] [(5,vi a.2)] [4] [(0,bx (gC a.1))] ⟨KAt.CC (keep_Tape_Range_spec y0) Tryz.call72 [(0,0)],⟨⟩⟩ ?_
   refine AW.dSP Fm [.s,.w (.v (.g [ci a.2,ci 0,ci 0,.d (DL (α:=Term) [])])),.s,.s] [0,4,5] [(6,pt 6)] [0,4] [(6,bx [ci a.2,ci 0,ci 0,.d (DL (α:=Term) [])])] (cT (ALe.g ⟨CLe.refl _,CLe.refl _,CLe.refl _,CLe.fl .nil,⟨⟩⟩ : ALe (.v (.g [ci a.2,ci 0,ci 0,.fl 0 fun _=>[]])) (.v (.g [ci a.2,ci 0,ci 0,.d (DL (α:=Term) [])])))) ?_
   refine AW.dJ (r:=r) (fun z:Int×Int×(List Int)×Int=>keep_Tape_Term_k2 F rc a z.1 z.2.1 z.2.2.1 z.2.2.2) [4,6] (fun _=>[]) [4] (fun z=>[(0,bx [.d (DL z.2.2.1),ci z.2.2.2]),(6,bx [ci a.2,ci z.1,ci z.2.1,.d (DL (α:=Term) [])])]) (fun z h=>?_) (fun O0 m=>?_)
   ·obtain ⟨K0,L0,V0,W0⟩:=z
    refine AW.dSG0 Fm 2 [4] [] [0] [(4,bx [ci a.2,ci K0,ci L0,.d (DL (α:=Term) [])])] ?_
    refine AW.ret ?_
    obtain rfl:=Option.some.inj h
    exact Kn.D Fm
   ·refine AW.dSG0 Fm 1 [0,4,6] [(49,vi a.2)] [0,4,6] [] ?_
    refine AW.block (AW.dJ (r:=r) (fun z:Bool=>keep_Tape_Term_k1 F rc a z) [0,4,6,49] (fun z=>[(50,vb z)]) [0,4,6] (fun _=>[]) (fun U0 h=>?_) (fun N0 I=>?_))
    ·refine AW.cN h (fun T h=>?_) (fun T h=>?_)
     ·obtain ⟨q,A0,h⟩:=bS h
      refine AW.dG Fm [.s,.k _,.s,.s] (fun K=>K 1∧True) [4,6] [] [4] [(0,bx (gC q.1)),(6,bx [ci a.2,ci q.2,ci 0,.d (DL (α:=Term) [])])] ⟨KAt.CC (keep_Tape_Next_spec A0) Tryz.call18 [(0,0)],⟨⟩⟩ ?_
      exact Kn.R Fm (m (q.2,0,q.1.l_,q.1.at_) h)
     ·refine AW.dSG0 Fm 2 [0,4,6,49] [(56,vb (a.2==(4:Int)))] [0,4,6] [] ?_
      refine AW.cN h (fun U h=>?_) (fun U h=>?_)
      ·obtain ⟨t,B0,h⟩:=bS h
       obtain ⟨m0,h⟩:=gS h
       refine AW.dG Fm [.s,.k _,.s,.s,.s] (fun K=>K 1∧_∧True) [4,6] [] [4] [(0,bx (gC t.1)),(6,bx [ci a.2,ci ((1:Int)*2 ^ (min (t.2).toNat (IntKind.bits .i64))),ci 0,.d (DL (α:=Term) [])])] ⟨KAt.CC (keep_Tape_Next_spec B0) Tryz.call18 [(0,0)],m0,⟨⟩⟩ ?_
       exact Kn.R Fm (m (((1:Int)*2 ^ (min (t.2).toNat (IntKind.bits .i64))),0,t.1.l_,t.1.at_) h)
      ·refine AW.dSG0 Fm 2 [0,4,6,49] [(62,vb (a.2==(5:Int)))] [0,4,6] [] ?_
       refine AW.cN h (fun V h=>?_) (fun V h=>?_)
       ·obtain ⟨u,D0,h⟩:=bS h
        refine AW.dG Fm [.s,.k _,.s,.s] (fun K=>K 1∧True) [4,6] [] [4] [(0,bx (gC u.1)),(6,bx [ci a.2,ci u.2,ci 0,.d (DL (α:=Term) [])])] ⟨KAt.CC (keep_Tape_Next_spec D0) Tryz.call18 [(0,0)],⟨⟩⟩ ?_
        exact Kn.R Fm (m (u.2,0,u.1.l_,u.1.at_) h)
       ·refine AW.dSG0 Fm 2 [0,4,6,49] [(67,vb (a.2==(6:Int)))] [0,4,6] [] ?_
        refine AW.cN h (fun W h=>?_) (fun W h=>?_)
        ·obtain ⟨y,E0,h⟩:=bS h
         refine AW.dG Fm [.s,.k _,.s,.s] (fun K=>K 1∧True) [4,6] [] [4] [(0,bx (gC y.1)),(6,bx [ci a.2,ci y.2,ci 0,.d (DL (α:=Term) [])])] ⟨KAt.CC (keep_Tape_Range_spec E0) Tryz.call72 [(0,0)],⟨⟩⟩ ?_
         exact Kn.R Fm (m (y.2,0,y.1.l_,y.1.at_) h)
        ·refine AW.dSG0 Fm 2 [0,4,6,49] [(72,vb (a.2==(7:Int)))] [0,4,6] [] ?_
         refine AW.cN h (fun X h=>?_) (fun X h=>?_)
         ·obtain ⟨L,G0,h⟩:=bS h
          obtain ⟨A,H0,h⟩:=bS h
          obtain ⟨n0,h⟩:=gS h
          refine AW.dG Fm [.s,.k _,.s,.k _,.s,.s,.s,.s,.s] (fun K=>K 1∧K 3∧_∧True) [4,6] [] [4] [(0,bx (gC A.1)),(6,bx [ci a.2,ci L.2,ci ((1:Int)*2 ^ (min (A.2).toNat (IntKind.bits .i64))),.d (DL (α:=Term) [])])] ⟨KAt.CC (keep_Tape_Range_spec G0) Tryz.call72 [(0,0)],KAt.CC (keep_Tape_Next_spec H0) Tryz.call18 [(0,0)],n0,⟨⟩⟩ ?_
          exact Kn.R Fm (m (L.2,((1:Int)*2 ^ (min (A.2).toNat (IntKind.bits .i64))),A.1.l_,A.1.at_) h)
         ·refine AW.dSG0 Fm 2 [0,4,6] [(81,vb (a.2==(8:Int)))] [0,4,6] [] ?_
          refine AW.cN h (fun Y h=>?_) (fun Y h=>?_)
          ·obtain ⟨B,I0,h⟩:=bS h
           refine AW.dG Fm [.s,.k _,.s,.s] (fun K=>K 1∧True) [4,6] [] [4] [(0,bx (gC B.1)),(6,bx [ci a.2,ci B.2,ci 0,.d (DL (α:=Term) [])])] ⟨KAt.CC (keep_Tape_Range_spec I0) Tryz.call72 [(0,0)],⟨⟩⟩ ?_
           exact Kn.R Fm (m (B.2,0,B.1.l_,B.1.at_) h)
          ·exact AW.skip (Kn.R Fm (m (0,0,a.1.l_,a.1.at_) h))
    ·refine AW.dSG0 Fm 2 [0,4,6,49] [(50,vb (a.2==(2:Int)))] [0,4,6] [] ?_
     refine AW.cN h (fun P h=>?_) (fun P h=>?_)
     ·exact AW.skip (Kn.R Fm (I (a.2==(2:Int)) h))
     ·refine AW.dG0 Fm 2 [0,4,6,49] [(50,vb (a.2==(3:Int)))] [0,4,6] [] ?_
      exact Kn.R Fm (I (a.2==(3:Int)) h)
 ·rcases br_or h with ⟨G,h⟩|⟨G,h⟩
  ·obtain ⟨p,o0,h⟩:=bS h
   refine AW.dG Fm [.s,.s,.w (vb true),.s,.k _,.s] (fun K=>_∧K 4∧True) [0,1,4] [(12,vb p.2)] [4] [(0,bx (gC p.1))] ⟨ALe.bool G,KAt.CC (keep_Tape_One_spec o0) Tryz.call55 [(0,0)],⟨⟩⟩ ?_
   exact Kn.R Fm (H (p.2,p.1.l_,p.1.at_) h)
  ·refine AW.dpN Fm [.s,.s,.w (vb false),.s,.s,.s] [0,1,4] [(12,vb false)] [0,4] [] (cT (ALe.bool G)) ?_
   exact Kn.R Fm (H (false,n.l_,n.at_) h)
theorem keep_Tape_Term_spec : ∀ {F:Nat} {a:Tape} {b:Int} {r:Tape×Term},keep_Tape_Term F a b=some r →
  FSpec Tryz.prog 76 [pt 0,vi b] [(0,bx (gC a))] (.v (.g [ci r.2.op_,ci r.2.num_,ci r.2.more_,.d (DL (α:=Term) r.2.kids_)])) [(0,bx (gC r.1))]
 | 0,_,_,_,h=>by cases h
 | F+1,_,_,_,h=>keep_Tape_Term_B_spec keep_Tape_Term_spec (F:=F) (rc:=keep_Tape_Term F) h
theorem ref02_Name_spec {F:Nat} {b:ByteArray} {r:Bool} (h:ref02_Name F b=some r) :
  FSpec Tryz.prog 118 [.v (.c (.d (.str b)))] [] (vb r) []:=by
 refine FI Tryz.func118 prog_mixed prog_lay fun C Fm=>?_
 unfold ref02_Name at h
 refine AW.dSG0 Fm 1 [0] [] [] [] ?_
 refine AW.seq (AW.dJ (r:=r) (fun z:Bool=>ref02_Name_k0 F b z) [0] (fun z=>[(21,vb z)]) [] (fun _=>[]) (fun b0 h=>?_) (fun X o=>?_))
 ·refine AW.cN h (fun N h=>?_) (fun N h=>?_)
  ·refine AW.dSG0 Fm 1 [] [(2,vb false)] [] [] ?_
   refine AW.ret ?_
   obtain rfl:=Option.some.inj h
   exact Kn.D Fm
  ·refine AW.skip (AW.dJ (r:=r) (fun z:Unit=>ref02_Name_k3 F) [] (fun _=>[]) [] (fun _=>[]) (fun z h=>?_) (fun a0 M=>?_))
   ·refine AW.dSG0 Fm 1 [] [(2,vb true)] [] [] ?_
    refine AW.ret ?_
    obtain rfl:=Option.some.inj h
    exact Kn.D Fm
   ·refine AW.dSG0 Fm 1 [0] [(3,vi 0)] [] [] ?_
    refine AW.block (Kn.r Fm [(0,.v (.c (.d (.str b)))),(3,vi 0)] [] (by kernel_rfl) ?_)
    refine AW.loopF (E' := fun z=>[(0,.v (.c (.d (.str b)))),(3,vi z)]) (S' := fun z=>[]) (fun I e Y L h=>?_) h
    refine AW.seq (AW.dSG0 Fm 4 [0,3] [(25,vb (decide (e<((b.size:Nat):Int))))] [] [] ?_)
    refine AW.cN h (fun O h=>?_) (fun O h=>?_)
    ·refine AW.skip (AW.seq (AW.block (AW.dJ (r:=r) (fun z:Bool=>ref02_Name_k2 F e I z) [0,3] (fun z=>[(49,vb z)]) [] (fun _=>[]) (fun c0 h=>?_) (fun Z j=>?_))))
     ·refine AW.cN h (fun P h=>?_) (fun P h=>?_)
      ·refine AW.dSG0 Fm 1 [] [(2,vb false)] [] [] ?_
       refine AW.ret ?_
       obtain rfl:=Option.some.inj h
       exact Kn.D Fm
      ·refine AW.skip ?_
       obtain ⟨W,h⟩:=gS h
       refine AW.dpN Fm [.s,.s,.s] [0] [(3,vi (e+1))] [] [] (cT (cT W)) ?_
       exact Kn.R Fm (L (e+1) h)
     ·obtain ⟨n,h⟩:=gS h
      rcases br_or h with ⟨i,h⟩|⟨i,h⟩
      ·obtain ⟨G,h⟩:=gS h
       rcases br_or h with ⟨y,h⟩|⟨y,h⟩
       ·refine AW.dG Fm [.s,.s,.k (sE (.v (.c (.d (.int .u8 (sAt b e)))))),.s,.w (vb true),.s,.s,.s,.s,.s,.s,.s,.s,.k (sE (.v (.c (.d (.int .u8 (sAt b e)))))),.s,.w (vb true),.s,.s,.s,.s,.s,.s] (fun K=>K 2∧_∧K 13∧_∧True) [0,3] [(39,.v (.c (.d (.str b)))),(40,vi e),(41,.v (.c (.d (.int .u8 (sAt b e))))),(42,vb (decide ((sAt b e)<(48:Int)))),(43,vb true),(48,vb true),(49,vb true)] [] [] ⟨KAt.strI (t:=9) (a:=b) (m:=e) (by kernel_rfl) rfl rfl (by kernel_rfl) (by kernel_rfl) (by kernel_rfl) n,ALe.bool i,KAt.strI (t:=9) (a:=b) (m:=e) (by kernel_rfl) rfl rfl (by kernel_rfl) (by kernel_rfl) (by kernel_rfl) G,ALe.bool y,⟨⟩⟩ ?_
        exact Kn.R Fm (j true h)
       ·obtain ⟨U,h⟩:=gS h
        refine AW.dG Fm [.s,.s,.k (sE (.v (.c (.d (.int .u8 (sAt b e)))))),.s,.w (vb true),.s,.s,.s,.s,.s,.s,.s,.s,.k (sE (.v (.c (.d (.int .u8 (sAt b e)))))),.s,.w (vb false),.s,.s,.k (sE (.v (.c (.d (.int .u8 (sAt b e)))))),.s,.s,.s] (fun K=>K 2∧_∧K 13∧_∧K 18∧True) [0,3] [(39,.v (.c (.d (.str b)))),(40,vi e),(41,.v (.c (.d (.int .u8 (sAt b e))))),(42,vb (decide ((sAt b e)<(48:Int)))),(43,vb false),(44,.v (.c (.d (.str b)))),(45,vi e),(46,.v (.c (.d (.int .u8 (sAt b e))))),(47,vb (decide ((57:Int)<(sAt b e)))),(48,vb (decide ((57:Int)<(sAt b e)))),(49,vb (decide ((57:Int)<(sAt b e))))] [] [] ⟨KAt.strI (t:=9) (a:=b) (m:=e) (by kernel_rfl) rfl rfl (by kernel_rfl) (by kernel_rfl) (by kernel_rfl) n,ALe.bool i,KAt.strI (t:=9) (a:=b) (m:=e) (by kernel_rfl) rfl rfl (by kernel_rfl) (by kernel_rfl) (by kernel_rfl) G,ALe.bool y,KAt.strI (t:=9) (a:=b) (m:=e) (by kernel_rfl) rfl rfl (by kernel_rfl) (by kernel_rfl) (by kernel_rfl) U,⟨⟩⟩ ?_
        exact Kn.R Fm (j (decide ((57:Int)<(sAt b e))) h)
      ·obtain ⟨B,h⟩:=gS h
       rcases br_or h with ⟨q,h⟩|⟨q,h⟩
       ·obtain ⟨H,h⟩:=gS h
        rcases br_or h with ⟨A,h⟩|⟨A,h⟩
        ·refine AW.dG Fm [.s,.s,.k (sE (.v (.c (.d (.int .u8 (sAt b e)))))),.s,.w (vb false),.s,.s,.k (sE (.v (.c (.d (.int .u8 (sAt b e)))))),.s,.s,.w (vb true),.s,.s,.k (sE (.v (.c (.d (.int .u8 (sAt b e)))))),.s,.w (vb true),.s,.s,.s,.s,.s,.s] (fun K=>K 2∧_∧K 7∧_∧K 13∧_∧True) [0,3] [(33,.v (.c (.d (.str b)))),(34,vi e),(35,.v (.c (.d (.int .u8 (sAt b e))))),(36,vb (decide ((122:Int)<(sAt b e)))),(39,.v (.c (.d (.str b)))),(40,vi e),(41,.v (.c (.d (.int .u8 (sAt b e))))),(42,vb (decide ((sAt b e)<(48:Int)))),(43,vb true),(48,vb true),(49,vb true)] [] [] ⟨KAt.strI (t:=9) (a:=b) (m:=e) (by kernel_rfl) rfl rfl (by kernel_rfl) (by kernel_rfl) (by kernel_rfl) n,ALe.bool i,KAt.strI (t:=9) (a:=b) (m:=e) (by kernel_rfl) rfl rfl (by kernel_rfl) (by kernel_rfl) (by kernel_rfl) B,ALe.bool q,KAt.strI (t:=9) (a:=b) (m:=e) (by kernel_rfl) rfl rfl (by kernel_rfl) (by kernel_rfl) (by kernel_rfl) H,ALe.bool A,⟨⟩⟩ ?_
         exact Kn.R Fm (j true h)
        ·obtain ⟨V,h⟩:=gS h
         refine AW.dG Fm [.s,.s,.k (sE (.v (.c (.d (.int .u8 (sAt b e)))))),.s,.w (vb false),.s,.s,.k (sE (.v (.c (.d (.int .u8 (sAt b e)))))),.s,.s,.w (vb true),.s,.s,.k (sE (.v (.c (.d (.int .u8 (sAt b e)))))),.s,.w (vb false),.s,.s,.k (sE (.v (.c (.d (.int .u8 (sAt b e)))))),.s,.s,.s] (fun K=>K 2∧_∧K 7∧_∧K 13∧_∧K 18∧True) [0,3] [(33,.v (.c (.d (.str b)))),(34,vi e),(35,.v (.c (.d (.int .u8 (sAt b e))))),(36,vb (decide ((122:Int)<(sAt b e)))),(39,.v (.c (.d (.str b)))),(40,vi e),(41,.v (.c (.d (.int .u8 (sAt b e))))),(42,vb (decide ((sAt b e)<(48:Int)))),(43,vb false),(44,.v (.c (.d (.str b)))),(45,vi e),(46,.v (.c (.d (.int .u8 (sAt b e))))),(47,vb (decide ((57:Int)<(sAt b e)))),(48,vb (decide ((57:Int)<(sAt b e)))),(49,vb (decide ((57:Int)<(sAt b e))))] [] [] ⟨KAt.strI (t:=9) (a:=b) (m:=e) (by kernel_rfl) rfl rfl (by kernel_rfl) (by kernel_rfl) (by kernel_rfl) n,ALe.bool i,KAt.strI (t:=9) (a:=b) (m:=e) (by kernel_rfl) rfl rfl (by kernel_rfl) (by kernel_rfl) (by kernel_rfl) B,ALe.bool q,KAt.strI (t:=9) (a:=b) (m:=e) (by kernel_rfl) rfl rfl (by kernel_rfl) (by kernel_rfl) (by kernel_rfl) H,ALe.bool A,KAt.strI (t:=9) (a:=b) (m:=e) (by kernel_rfl) rfl rfl (by kernel_rfl) (by kernel_rfl) (by kernel_rfl) V,⟨⟩⟩ ?_
         exact Kn.R Fm (j (decide ((57:Int)<(sAt b e))) h)
       ·refine AW.dG Fm [.s,.s,.k (sE (.v (.c (.d (.int .u8 (sAt b e)))))),.s,.w (vb false),.s,.s,.k (sE (.v (.c (.d (.int .u8 (sAt b e)))))),.s,.s,.w (vb false),.s,.s,.s,.s,.s,.s,.s,.s,.s,.s,.s] (fun K=>K 2∧_∧K 7∧_∧True) [0,3] [(33,.v (.c (.d (.str b)))),(34,vi e),(35,.v (.c (.d (.int .u8 (sAt b e))))),(36,vb (decide ((122:Int)<(sAt b e)))),(49,vb false)] [] [] ⟨KAt.strI (t:=9) (a:=b) (m:=e) (by kernel_rfl) rfl rfl (by kernel_rfl) (by kernel_rfl) (by kernel_rfl) n,ALe.bool i,KAt.strI (t:=9) (a:=b) (m:=e) (by kernel_rfl) rfl rfl (by kernel_rfl) (by kernel_rfl) (by kernel_rfl) B,ALe.bool q,⟨⟩⟩ ?_
        exact Kn.R Fm (j false h)
    ·exact AW.exit (Kn.R Fm (M () h))
 ·rcases br_or h with ⟨l,h⟩|⟨l,h⟩
  ·refine AW.dpN Fm [.s,.s,.s,.w (vb true),.s,.s,.s,.s,.s,.s,.s,.s,.s,.s,.s,.s,.s,.s] [0] [(21,vb true)] [] [] (cT (ALe.bool l)) ?_
   exact Kn.R Fm (o true h)
  ·rcases br_or h with ⟨p,h⟩|⟨p,h⟩
   ·refine AW.dpN Fm [.s,.s,.s,.w (vb false),.s,.s,.s,.s,.w (vb true),.s,.s,.s,.s,.s,.s,.s,.s,.s] [0] [(21,vb true)] [] [] (cA (ALe.bool l) (cT (ALe.bool p))) ?_
    exact Kn.R Fm (o true h)
   ·obtain ⟨E,h⟩:=gS h
    rcases br_or h with ⟨u,h⟩|⟨u,h⟩
    ·refine AW.dG Fm [.s,.s,.s,.w (vb false),.s,.s,.s,.s,.w (vb false),.s,.k (sE (.v (.c (.d (.int .u8 (sAt b (0:Int))))))),.s,.s,.w (vb true),.s,.s,.s,.s] (fun K=>_∧_∧K 10∧_∧True) [0] [(21,vb true)] [] [] ⟨ALe.bool l,ALe.bool p,KAt.strI (t:=9) (a:=b) (m:=(0:Int)) (by kernel_rfl) rfl rfl (by kernel_rfl) (by kernel_rfl) (by kernel_rfl) E,ALe.bool u,⟨⟩⟩ ?_
     exact Kn.R Fm (o true h)
    ·obtain ⟨T,h⟩:=gS h
     refine AW.dG Fm [.s,.s,.s,.w (vb false),.s,.s,.s,.s,.w (vb false),.s,.k (sE (.v (.c (.d (.int .u8 (sAt b (0:Int))))))),.s,.s,.w (vb false),.s,.k (sE (.v (.c (.d (.int .u8 (sAt b (0:Int))))))),.s,.s] (fun K=>_∧_∧K 10∧_∧K 15∧True) [0] [(21,vb (decide ((122:Int)<(sAt b (0:Int)))))] [] [] ⟨ALe.bool l,ALe.bool p,KAt.strI (t:=9) (a:=b) (m:=(0:Int)) (by kernel_rfl) rfl rfl (by kernel_rfl) (by kernel_rfl) (by kernel_rfl) E,ALe.bool u,KAt.strI (t:=9) (a:=b) (m:=(0:Int)) (by kernel_rfl) rfl rfl (by kernel_rfl) (by kernel_rfl) (by kernel_rfl) T,⟨⟩⟩ ?_
     exact Kn.R Fm (o (decide ((122:Int)<(sAt b (0:Int)))) h)
theorem ref16_count_B_spec {F:Nat} {rc:Term→Option (Int)} (hrc : ∀ {a:Term} {r:Int},rc a=some r→FSpec Tryz.prog 153 [.v (.g [ci a.op_,ci a.num_,ci a.more_,.d (DL a.kids_)])] [] (vi r) []) {a:Term} {r:Int} (h:ref16_count_B F rc a=some r) :
  FSpec Tryz.prog 153 [.v (.g [ci a.op_,ci a.num_,ci a.more_,.d (DL a.kids_)])] [] (vi r) []:=by
 refine FI Tryz.func153 prog_mixed prog_lay fun C Fm=>?_
 unfold ref16_count_B at h
 refine AW.dSG0 Fm 2 [] [(1,pt 1)] [] [(1,bx [ci a.op_,ci a.num_,ci a.more_,.d (DL a.kids_)])] ?_
 refine AW.dSG0 Fm 1 [1] [(3,vi 1)] [1] [] ?_
 refine AW.dJ (r:=r) (fun z:Int=>ref16_count_k2 F rc z) [] (fun z=>[(3,vi z)]) [] (fun _=>[]) (fun E h=>?_) (fun I n=>?_)
 ·refine AW.dSG0 Fm 2 [] [(2,vi E)] [] [] ?_
  refine AW.ret ?_
  obtain rfl:=Option.some.inj h
  exact Kn.D Fm
 ·refine AW.dSG0 Fm 4 [3] [(7,AL a.kids_),(8,vi (lI a.kids_)),(9,vi 0)] [] [] ?_
  refine AW.block (Kn.r Fm [(3,vi 1),(7,AL a.kids_),(8,vi (lI a.kids_)),(9,vi 0)] [] (by kernel_rfl) ?_)
  refine AW.loopF (E' := fun z=>[(3,vi z.1),(7,AL a.kids_),(8,vi (lI a.kids_)),(9,vi z.2)]) (S' := fun z=>[]) (fun l z G m h=>?_) h
  obtain ⟨e,b⟩:=z
  refine AW.dSG0 Fm 1 [3,7,8,9] [(10,vb (decide (b<(lI a.kids_))))] [] [] ?_
  refine AW.seq (AW.cN h (fun o h=>?_) (fun o h=>?_))
  ·refine AW.skip (AW.dJ (r:=r) (fun z:Int=>ref16_count_k1 F rc b l z) [7,8,9] (fun z=>[(3,vi z)]) [] (fun _=>[]) (fun B h=>?_) (fun H i=>?_))
   ·obtain ⟨y,h⟩:=gS h
    refine AW.dpN Fm [.s,.s] [3,7,8] [(9,vi (b+1))] [] [] (cT (cT y)) ?_
    exact Kn.R Fm (m (B,(b+1)) h)
   ·refine AW.block ?_
    obtain ⟨q,t,h⟩:=gS2 h
    refine AW.dSP Fm [.w (.v (.c (.elm [.int .i64 (gl a.kids_ b.toNat).op_,.int .i64 (gl a.kids_ b.toNat).num_,.int .i64 (gl a.kids_ b.toNat).more_,DL (α:=Term) (gl a.kids_ b.toNat).kids_]))),.s,.s,.s] [3,7,8,9] [(5,pt 5)] [] [(5,bx [ci ((gl a.kids_ b.toNat).op_),ci ((gl a.kids_ b.toNat).num_),ci ((gl a.kids_ b.toNat).more_),.d (DL (α:=Term) (gl a.kids_ b.toNat).kids_)])] (cA q (cT (ALe.of_eq (Term.elm t):ALe (.v (.c (.elm (LF (α:=Term) a.kids_ b.toNat)))) (.v (.c (.elm [.int .i64 (gl a.kids_ b.toNat).op_,.int .i64 (gl a.kids_ b.toNat).num_,.int .i64 (gl a.kids_ b.toNat).more_,DL (α:=Term) (gl a.kids_ b.toNat).kids_])))))) ?_
    refine AW.dSG0 Fm 2 [3,5,7,8,9] [(14,vb (decide (e≤(40:Int))))] [5] [] ?_
    refine AW.cN h (fun p h=>?_) (fun p h=>?_)
    ·obtain ⟨j,A,h⟩:=bS h
     obtain ⟨u,h⟩:=gS h
     refine AW.dG Fm [.s,.s,.k _,.s,.s] (fun K=>K 2∧(_∧True)∧True) [7,8,9] [(3,vi (e+j))] [] [] ⟨KAt.CC (hrc A) Tryz.call153 [],⟨u,⟨⟩⟩,⟨⟩⟩ ?_
     exact Kn.R Fm (i (e+j) h)
    ·exact AW.skip (Kn.R Fm (i e h))
  ·exact AW.exit (Kn.R Fm (n e h))
theorem ref16_count_spec : ∀ {F:Nat} {a:Term} {r:Int},ref16_count F a=some r →
  FSpec Tryz.prog 153 [.v (.g [ci a.op_,ci a.num_,ci a.more_,.d (DL a.kids_)])] [] (vi r) []
 | 0,_,_,h=>by cases h
 | F+1,_,_,h=>ref16_count_B_spec ref16_count_spec (F:=F) (rc:=ref16_count F) h
theorem ref16_depth_B_spec {F:Nat} {rc:Term→Option (Int)} (hrc : ∀ {a:Term} {r:Int},rc a=some r→FSpec Tryz.prog 154 [.v (.g [ci a.op_,ci a.num_,ci a.more_,.d (DL a.kids_)])] [] (vi r) []) {a:Term} {r:Int} (h:ref16_depth_B F rc a=some r) :
  FSpec Tryz.prog 154 [.v (.g [ci a.op_,ci a.num_,ci a.more_,.d (DL a.kids_)])] [] (vi r) []:=by
 refine FI Tryz.func154 prog_mixed prog_lay fun C Fm=>?_
 unfold ref16_depth_B at h
 refine AW.dSG0 Fm 2 [] [(1,pt 1)] [] [(1,bx [ci a.op_,ci a.num_,ci a.more_,.d (DL a.kids_)])] ?_
 refine AW.dSG0 Fm 1 [1] [(3,vi 0)] [1] [] ?_
 refine AW.dJ (r:=r) (fun z:Int=>ref16_depth_k1 F rc z) [] (fun z=>[(3,vi z)]) [] (fun _=>[]) (fun u h=>?_) (fun A l=>?_)
 ·obtain ⟨q,h⟩:=gS h
  refine AW.dSP Fm [.s,.s,.s] [] [(2,vi (u+1))] [] [] (cT (cT q)) ?_
  refine AW.ret ?_
  obtain rfl:=Option.some.inj h
  exact Kn.D Fm
 ·refine AW.dSG0 Fm 4 [3] [(7,AL a.kids_),(8,vi (lI a.kids_)),(9,vi 0)] [] [] ?_
  refine AW.block (Kn.r Fm [(3,vi 0),(7,AL a.kids_),(8,vi (lI a.kids_)),(9,vi 0)] [] (by kernel_rfl) ?_)
  refine AW.loopF (E' := fun z=>[(3,vi z.1),(7,AL a.kids_),(8,vi (lI a.kids_)),(9,vi z.2)]) (S' := fun z=>[]) (fun B z y j h=>?_) h
  obtain ⟨e,b⟩:=z
  refine AW.dSG0 Fm 1 [3,7,8,9] [(10,vb (decide (b<(lI a.kids_))))] [] [] ?_
  refine AW.seq (AW.cN h (fun m h=>?_) (fun m h=>?_))
  ·refine AW.skip (AW.seq (AW.block ?_))
   obtain ⟨n,o,h⟩:=gS2 h
   refine AW.dSP Fm [.w (.v (.c (.elm [.int .i64 (gl a.kids_ b.toNat).op_,.int .i64 (gl a.kids_ b.toNat).num_,.int .i64 (gl a.kids_ b.toNat).more_,DL (α:=Term) (gl a.kids_ b.toNat).kids_]))),.s,.s,.s] [3,7,8,9] [(5,pt 5)] [] [(5,bx [ci ((gl a.kids_ b.toNat).op_),ci ((gl a.kids_ b.toNat).num_),ci ((gl a.kids_ b.toNat).more_),.d (DL (α:=Term) (gl a.kids_ b.toNat).kids_)])] (cA n (cT (ALe.of_eq (Term.elm o):ALe (.v (.c (.elm (LF (α:=Term) a.kids_ b.toNat)))) (.v (.c (.elm [.int .i64 (gl a.kids_ b.toNat).op_,.int .i64 (gl a.kids_ b.toNat).num_,.int .i64 (gl a.kids_ b.toNat).more_,DL (α:=Term) (gl a.kids_ b.toNat).kids_])))))) ?_
   obtain ⟨i,t,h⟩:=bS h
   refine AW.dG Fm [.s,.s,.k _,.s,.s] (fun K=>K 2∧True) [7,8,9] [(3,vi (gmax e i))] [] [] ⟨KAt.CC (hrc t) Tryz.call154 [],⟨⟩⟩ ?_
   obtain ⟨p,h⟩:=gS h
   refine AW.dpN Fm [.s,.s] [3,7,8] [(9,vi (b+1))] [] [] (cT (cT p)) ?_
   exact Kn.R Fm (j ((gmax e i),(b+1)) h)
  ·exact AW.exit (Kn.R Fm (l e h))
theorem ref16_depth_spec : ∀ {F:Nat} {a:Term} {r:Int},ref16_depth F a=some r →
  FSpec Tryz.prog 154 [.v (.g [ci a.op_,ci a.num_,ci a.more_,.d (DL a.kids_)])] [] (vi r) []
 | 0,_,_,h=>by cases h
 | F+1,_,_,h=>ref16_depth_B_spec ref16_depth_spec (F:=F) (rc:=ref16_depth F) h
theorem ref16_single_spec {F:Nat} {e:Int} {r:Bool} (h:ref16_single F e=some r) :
  FSpec Tryz.prog 196 [vi e] [] (vb r) []:=by
 refine FI Tryz.func196 prog_mixed prog_lay fun C Fm=>?_
 unfold ref16_single at h
 refine AW.dSG0 Fm 1 [0] [] [] [] ?_
 refine AW.dJ (r:=r) (fun z:Bool=>ref16_single_k0 F z) [] (fun z=>[(2,vb z)]) [] (fun _=>[]) (fun k h=>?_) (fun j b=>?_)
 ·refine AW.ret ?_
  obtain rfl:=Option.some.inj h
  exact Kn.D Fm
 ·rcases br_or h with ⟨a,h⟩|⟨a,h⟩
  ·refine AW.dpN Fm [.s,.s,.w (vb true),.s,.s,.s,.s,.s,.s,.s,.s,.s,.s,.s,.s,.s,.s,.s,.s] [] [(2,vb true)] [] [] (cT (ALe.bool a)) ?_
   exact Kn.R Fm (b true h)
  ·rcases br_or h with ⟨c,h⟩|⟨c,h⟩
   ·refine AW.dpN Fm [.s,.s,.w (vb false),.s,.s,.s,.w (vb true),.s,.s,.s,.s,.s,.s,.s,.s,.s,.s,.s,.s] [] [(2,vb true)] [] [] (cA (ALe.bool a) (cT (ALe.bool c))) ?_
    exact Kn.R Fm (b true h)
   ·rcases br_or h with ⟨d,h⟩|⟨d,h⟩
    ·refine AW.dpN Fm [.s,.s,.w (vb false),.s,.s,.s,.w (vb false),.s,.s,.s,.w (vb true),.s,.s,.s,.s,.s,.s,.s,.s] [] [(2,vb true)] [] [] (cA (ALe.bool a) (cA (ALe.bool c) (cT (ALe.bool d)))) ?_
     exact Kn.R Fm (b true h)
    ·rcases br_or h with ⟨i,h⟩|⟨i,h⟩
     ·refine AW.dpN Fm [.s,.s,.w (vb false),.s,.s,.s,.w (vb false),.s,.s,.s,.w (vb false),.s,.s,.s,.w (vb true),.s,.s,.s,.s] [] [(2,vb true)] [] [] (cA (ALe.bool a) (cA (ALe.bool c) (cA (ALe.bool d) (cT (ALe.bool i))))) ?_
      exact Kn.R Fm (b true h)
     ·refine AW.dpN Fm [.s,.s,.w (vb false),.s,.s,.s,.w (vb false),.s,.s,.s,.w (vb false),.s,.s,.s,.w (vb false),.s,.s,.s,.s] [] [(2,vb (e==(16:Int)))] [] [] (cA (ALe.bool a) (cA (ALe.bool c) (cA (ALe.bool d) (cT (ALe.bool i))))) ?_
      exact Kn.R Fm (b (e==(16:Int)) h)
theorem ref16_form_B_spec {F:Nat} {rc:Term→Option (Bool)} (hrc : ∀ {a:Term} {r:Bool},rc a=some r→FSpec Tryz.prog 155 [.v (.g [ci a.op_,ci a.num_,ci a.more_,.d (DL a.kids_)])] [] (vb r) []) {a:Term} {r:Bool} (h:ref16_form_B F rc a=some r) :
  FSpec Tryz.prog 155 [.v (.g [ci a.op_,ci a.num_,ci a.more_,.d (DL a.kids_)])] [] (vb r) []:=by
 refine FI Tryz.func155 prog_mixed prog_lay fun C Fm=>?_
 unfold ref16_form_B at h
 refine AW.dSG0 Fm 2 [] [(1,pt 1)] [] [(1,bx [ci a.op_,ci a.num_,ci a.more_,.d (DL a.kids_)])] ?_
 refine AW.dSG0 Fm 5 [1] [(3,vi 0),(4,vb (a.more_==(0:Int)))] [1] [] ?_
 refine AW.dSG0 Fm 1 [1,3,4] [(5,vb false)] [1] [] ?_
 refine AW.dJ (r:=r) (fun z:Int×Bool×Bool=>ref16_form_k1 F rc a z.1 z.2.1 z.2.2) [1] (fun z=>[(3,vi z.1),(4,vb z.2.1),(5,vb z.2.2)]) [1] (fun _=>[]) (fun z h=>?_) (fun o0 b=>?_)
 ·obtain ⟨A,w0,y0⟩:=z
  refine AW.seq (AW.dJ (r:=r) (fun z:Bool=>ref16_form_k2 F rc a z) [1] (fun z=>[(118,vb z)]) [1] (fun _=>[]) (fun A0 h=>?_) (fun p0 j=>?_))
  ·refine AW.cN h (fun Z h=>?_) (fun Z h=>?_)
   ·refine AW.dSG0 Fm 1 [] [(2,vb false)] [] [] ?_
    refine AW.ret ?_
    obtain rfl:=Option.some.inj h
    exact Kn.D Fm
   ·refine AW.skip (AW.dJ (r:=r) (fun z:Unit=>ref16_form_k4 F rc) [] (fun _=>[]) [] (fun _=>[]) (fun z h=>?_) (fun s0 I=>?_))
    ·refine AW.dSG0 Fm 1 [] [(2,vb true)] [] [] ?_
     refine AW.ret ?_
     obtain rfl:=Option.some.inj h
     exact Kn.D Fm
    ·refine AW.dSG0 Fm 4 [] [(120,AL a.kids_),(121,vi (lI a.kids_)),(122,vi 0)] [] [] ?_
     refine AW.block (Kn.r Fm [(120,AL a.kids_),(121,vi (lI a.kids_)),(122,vi 0)] [] (by kernel_rfl) ?_)
     refine AW.loopF (E' := fun z=>[(120,AL a.kids_),(121,vi (lI a.kids_)),(122,vi z)]) (S' := fun z=>[]) (fun t0 e q0 H h=>?_) h
     refine AW.dSG0 Fm 1 [120,121,122] [(123,vb (decide (e<(lI a.kids_))))] [] [] ?_
     refine AW.seq (AW.cN h (fun a0 h=>?_) (fun a0 h=>?_))
     ·refine AW.skip (AW.seq (AW.block ?_))
      obtain ⟨c0,d0,h⟩:=gS2 h
      refine AW.dSP Fm [.w (.v (.c (.elm [.int .i64 (gl a.kids_ e.toNat).op_,.int .i64 (gl a.kids_ e.toNat).num_,.int .i64 (gl a.kids_ e.toNat).more_,DL (α:=Term) (gl a.kids_ e.toNat).kids_]))),.s,.s,.s] [120,121,122] [(7,pt 7)] [] [(7,bx [ci ((gl a.kids_ e.toNat).op_),ci ((gl a.kids_ e.toNat).num_),ci ((gl a.kids_ e.toNat).more_),.d (DL (α:=Term) (gl a.kids_ e.toNat).kids_)])] (cA c0 (cT (ALe.of_eq (Term.elm d0):ALe (.v (.c (.elm (LF (α:=Term) a.kids_ e.toNat)))) (.v (.c (.elm [.int .i64 (gl a.kids_ e.toNat).op_,.int .i64 (gl a.kids_ e.toNat).num_,.int .i64 (gl a.kids_ e.toNat).more_,DL (α:=Term) (gl a.kids_ e.toNat).kids_])))))) ?_
      refine AW.seq ?_
      obtain ⟨m0,l0,h⟩:=bS h
      refine AW.dG Fm [.s,.k _,.s] (fun K=>K 1∧True) [120,121,122] [(128,vb (!m0))] [] [] ⟨KAt.CC (hrc l0) Tryz.call155 [],⟨⟩⟩ ?_
      refine AW.cN h (fun b0 h=>?_) (fun b0 h=>?_)
      ·refine AW.dSG0 Fm 1 [] [(2,vb false)] [] [] ?_
       refine AW.ret ?_
       obtain rfl:=Option.some.inj h
       exact Kn.D Fm
      ·refine AW.skip ?_
       obtain ⟨e0,h⟩:=gS h
       refine AW.dpN Fm [.s,.s] [120,121] [(122,vi (e+1))] [] [] (cT (cT e0)) ?_
       exact Kn.R Fm (H (e+1) h)
     ·exact AW.exit (Kn.R Fm (I () h))
  ·rcases br_or h with ⟨i,h⟩|⟨i,h⟩
   ·refine AW.dpN Fm [.s,.s,.w (vb true),.s,.s,.s,.s,.s,.s,.s,.s,.s,.s] [1] [(118,vb true)] [1] [] (cT (ALe.bool i)) ?_
    exact Kn.R Fm (j true h)
   ·rcases br_or h with ⟨u,h⟩|⟨u,h⟩
    ·refine AW.dpN Fm [.s,.s,.w (vb false),.s,.s,.s,.w (vb true),.s,.s,.s,.s,.s,.s] [1] [(118,vb true)] [1] [] (cA (ALe.bool i) (cT (ALe.bool u))) ?_
     exact Kn.R Fm (j true h)
    ·refine AW.dpN Fm [.s,.s,.w (vb false),.s,.s,.s,.w (vb false),.s,.s,.s,.s,.s,.s] [1] [(118,vb ((lI a.kids_) != A))] [1] [] (cA (ALe.bool i) (cT (ALe.bool u))) ?_
     exact Kn.R Fm (j ((lI a.kids_) != A) h)
 ·refine AW.dSG0 Fm 2 [1,3,4,5] [(12,vi a.op_)] [1] [] ?_
  refine AW.block (AW.dSG0 Fm 2 [1,3,4,5,12] [(13,vb (a.op_==(1:Int)))] [1] [] ?_)
  refine AW.cN h (fun L h=>?_) (fun L h=>?_)
  ·refine AW.dG0 Fm 4 [1,3,4] [(5,vb (a.num_==(0:Int)))] [1] [] ?_
   exact Kn.R Fm (b ((0:Int),(a.more_==(0:Int)),(a.num_==(0:Int))) h)
  ·refine AW.dSG0 Fm 2 [1,3,4,5,12] [(18,vb (a.op_==(2:Int)))] [1] [] ?_
   refine AW.cN h (fun M h=>?_) (fun M h=>?_)
   ·rcases br_or h with ⟨l,h⟩|⟨l,h⟩
    ·refine AW.dpN Fm [.s,.s,.s,.w (vb true),.s,.s,.s,.s,.s] [1,3,4] [(5,vb (decide (a.num_<(40:Int))))] [1] [] (cT (ALe.bool l)) ?_
     exact Kn.R Fm (b ((0:Int),(a.more_==(0:Int)),(decide (a.num_<(40:Int)))) h)
    ·refine AW.dpN Fm [.s,.s,.s,.w (vb false),.s,.s,.s,.s,.s] [1,3,4,5] [] [1] [] (cT (ALe.bool l)) ?_
     exact Kn.R Fm (b ((0:Int),(a.more_==(0:Int)),false) h)
   ·refine AW.dSG0 Fm 2 [1,3,4,5,12] [(28,vb (a.op_==(3:Int)))] [1] [] ?_
    refine AW.cN h (fun N h=>?_) (fun N h=>?_)
    ·rcases br_or h with ⟨m,h⟩|⟨m,h⟩
     ·refine AW.dpN Fm [.s,.s,.s,.w (vb true),.s,.s,.s,.s,.s] [1,3,4] [(5,vb (decide (a.num_≤(40:Int))))] [1] [] (cT (ALe.bool m)) ?_
      exact Kn.R Fm (b ((0:Int),(a.more_==(0:Int)),(decide (a.num_≤(40:Int)))) h)
     ·refine AW.dpN Fm [.s,.s,.s,.w (vb false),.s,.s,.s,.s,.s] [1,3,4,5] [] [1] [] (cT (ALe.bool m)) ?_
      exact Kn.R Fm (b ((0:Int),(a.more_==(0:Int)),false) h)
    ·refine AW.dSG0 Fm 2 [1,3,4,5,12] [(38,vb (a.op_==(4:Int)))] [1] [] ?_
     refine AW.cN h (fun O h=>?_) (fun O h=>?_)
     ·obtain ⟨B,i0,h⟩:=bS h
      refine AW.dG Fm [.s,.s,.k _,.s] (fun K=>K 2∧True) [1,3,4] [(5,vb B)] [1] [] ⟨KAt.CC (ref16_single_spec i0) Tryz.call196 [],⟨⟩⟩ ?_
      exact Kn.R Fm (b ((0:Int),(a.more_==(0:Int)),B) h)
     ·refine AW.dSG0 Fm 2 [1,3,4,5,12] [(43,vb (a.op_==(5:Int)))] [1] [] ?_
      refine AW.cN h (fun P h=>?_) (fun P h=>?_)
      ·rcases br_or h with ⟨n,h⟩|⟨n,h⟩
       ·refine AW.dpN Fm [.s,.s,.s,.w (vb true),.s,.s,.s,.s,.s] [1,3,4] [(5,vb (decide (a.num_≤(15:Int))))] [1] [] (cT (ALe.bool n)) ?_
        exact Kn.R Fm (b ((0:Int),(a.more_==(0:Int)),(decide (a.num_≤(15:Int)))) h)
       ·refine AW.dpN Fm [.s,.s,.s,.w (vb false),.s,.s,.s,.s,.s] [1,3,4,5] [] [1] [] (cT (ALe.bool n)) ?_
        exact Kn.R Fm (b ((0:Int),(a.more_==(0:Int)),false) h)
      ·refine AW.dSG0 Fm 2 [1,3,4,5,12] [(53,vb (a.op_==(6:Int)))] [1] [] ?_
       refine AW.cN h (fun T h=>?_) (fun T h=>?_)
       ·rcases br_or h with ⟨o,h⟩|⟨o,h⟩
        ·refine AW.dpN Fm [.s,.s,.s,.w (vb true),.s,.s,.s,.s,.s] [1,3,4] [(5,vb (decide (a.num_≤(10:Int))))] [1] [] (cT (ALe.bool o)) ?_
         exact Kn.R Fm (b ((0:Int),(a.more_==(0:Int)),(decide (a.num_≤(10:Int)))) h)
        ·refine AW.dpN Fm [.s,.s,.s,.w (vb false),.s,.s,.s,.s,.s] [1,3,4,5] [] [1] [] (cT (ALe.bool o)) ?_
         exact Kn.R Fm (b ((0:Int),(a.more_==(0:Int)),false) h)
       ·refine AW.dSG0 Fm 2 [1,3,4,5,12] [(63,vb (a.op_==(7:Int)))] [1] [] ?_
        refine AW.cN h (fun U h=>?_) (fun U h=>?_)
        ·rcases br_or h with ⟨p,h⟩|⟨p,h⟩
         ·obtain ⟨E,j0,h⟩:=bS h
          refine AW.dG Fm [.s,.s,.s,.w (vb true),.s,.s,.s,.s,.s,.s,.k _,.s,.s] (fun K=>_∧K 10∧True) [1,3] [(4,vb E),(5,vb (decide (a.num_≤(10:Int))))] [1] [] ⟨ALe.bool p,KAt.CC (ref16_single_spec j0) Tryz.call196 [],⟨⟩⟩ ?_
          exact Kn.R Fm (b ((0:Int),E,(decide (a.num_≤(10:Int)))) h)
         ·obtain ⟨G,k0,h⟩:=bS h
          refine AW.dG Fm [.s,.s,.s,.w (vb false),.s,.s,.s,.s,.s,.s,.k _,.s,.s] (fun K=>_∧K 10∧True) [1,3,5] [(4,vb G)] [1] [] ⟨ALe.bool p,KAt.CC (ref16_single_spec k0) Tryz.call196 [],⟨⟩⟩ ?_
          exact Kn.R Fm (b ((0:Int),G,false) h)
        ·refine AW.dSG0 Fm 2 [1,3,4,5,12] [(76,vb (a.op_==(8:Int)))] [1] [] ?_
         refine AW.cN h (fun V h=>?_) (fun V h=>?_)
         ·rcases br_or h with ⟨q,h⟩|⟨q,h⟩
          ·refine AW.pN Fm [.s,.s,.s,.w (vb true),.s,.s,.s,.s,.s] [(1,pt 1),(3,vi 0),(4,vb (a.more_==(0:Int))),(5,vb (decide (a.num_≤(10:Int))))] [(1,bx [ci a.op_,ci a.num_,ci a.more_,.d (DL a.kids_)])] (cT (ALe.bool q)) ?_
           exact Kn.R Fm (b ((0:Int),(a.more_==(0:Int)),(decide (a.num_≤(10:Int)))) h)
          ·refine AW.pN Fm [.s,.s,.s,.w (vb false),.s,.s,.s,.s,.s] [(1,pt 1),(3,vi 0),(4,vb (a.more_==(0:Int))),(5,vb false)] [(1,bx [ci a.op_,ci a.num_,ci a.more_,.d (DL a.kids_)])] (cT (ALe.bool q)) ?_
           exact Kn.R Fm (b ((0:Int),(a.more_==(0:Int)),false) h)
         ·refine AW.join (r:=r) (fun z:Bool=>ref16_form_k0 F rc a z) (fun z=>[(1,pt 1),(3,vi 0),(4,vb (a.more_==(0:Int))),(5,vb false),(12,vi a.op_),(86,vb z)]) (fun z=>[(1,bx [ci a.op_,ci a.num_,ci a.more_,.d (DL a.kids_)])]) (fun u0 h=>?_) (fun n0 y=>?_)
          ·refine AW.cN h (fun X h=>?_) (fun X h=>?_)
           ·rcases br_or h with ⟨t,h⟩|⟨t,h⟩
            ·refine AW.dpN Fm [.s,.s,.s,.w (vb true),.s,.s,.s,.s,.s,.s,.s,.s,.s,.s] [1,4] [(3,vi (lI a.kids_)),(5,vb (decide ((0:Int)<(lI a.kids_))))] [1] [] (cT (ALe.bool t)) ?_
             exact Kn.R Fm (b ((lI a.kids_),(a.more_==(0:Int)),(decide ((0:Int)<(lI a.kids_)))) h)
            ·refine AW.dpN Fm [.s,.s,.s,.w (vb false),.s,.s,.s,.s,.s,.s,.s,.s,.s,.s] [1,4,5] [(3,vi (lI a.kids_))] [1] [] (cT (ALe.bool t)) ?_
             exact Kn.R Fm (b ((lI a.kids_),(a.more_==(0:Int)),false) h)
           ·refine AW.dSG0 Fm 2 [1,3,4,5] [(101,vb (a.op_==(11:Int)))] [1] [] ?_
            refine AW.cN h (fun Y h=>?_) (fun Y h=>?_)
            ·refine AW.dG0 Fm 5 [1,4] [(3,vi 1),(5,vb (a.num_==(0:Int)))] [1] [] ?_
             exact Kn.R Fm (b ((1:Int),(a.more_==(0:Int)),(a.num_==(0:Int))) h)
            ·exact AW.skip (Kn.R Fm (b ((0:Int),(a.more_==(0:Int)),false) h))
          ·refine AW.SG0 Fm 2 [(1,pt 1),(3,vi 0),(4,vb (a.more_==(0:Int))),(5,vb false),(12,vi a.op_),(86,vb (a.op_==(9:Int)))] [(1,bx [ci a.op_,ci a.num_,ci a.more_,.d (DL a.kids_)])] ?_
           refine AW.cN h (fun W h=>?_) (fun W h=>?_)
           ·exact AW.skip (Kn.R Fm (y (a.op_==(9:Int)) h))
           ·refine AW.dG0 Fm 2 [1,3,4,5,12] [(86,vb (a.op_==(10:Int)))] [1] [] ?_
            exact Kn.R Fm (y (a.op_==(10:Int)) h)
theorem ref16_form_spec : ∀ {F:Nat} {a:Term} {r:Bool},ref16_form F a=some r →
  FSpec Tryz.prog 155 [.v (.g [ci a.op_,ci a.num_,ci a.more_,.d (DL a.kids_)])] [] (vb r) []
 | 0,_,_,h=>by cases h
 | F+1,_,_,h=>ref16_form_B_spec ref16_form_spec (F:=F) (rc:=ref16_form F) h
theorem ref16_Check_spec {F:Nat} {a:Term} {r:Int} (h:ref16_Check F a=some r) :
  FSpec Tryz.prog 92 [.v (.g [ci a.op_,ci a.num_,ci a.more_,.d (DL a.kids_)])] [] (vi r) []:=by
 refine FI Tryz.func92 prog_mixed prog_lay fun C Fm=>?_
 unfold ref16_Check at h
 refine AW.dSG0 Fm 2 [] [(1,pt 1)] [] [(1,bx [ci a.op_,ci a.num_,ci a.more_,.d (DL a.kids_)])] ?_
 refine AW.seq (AW.seq ?_)
 obtain ⟨o,m,h⟩:=bS h
 refine AW.dG Fm [.s,.k _,.s] (fun K=>K 1∧True) [1] [(5,vb (decide ((40:Int)<o)))] [1] [] ⟨KAt.CC (ref16_count_spec m) Tryz.call153 [],⟨⟩⟩ ?_
 refine AW.cN h (fun j h=>?_) (fun j h=>?_)
 ·refine AW.dSG0 Fm 1 [] [(2,vi 1)] [] [] ?_
  refine AW.ret ?_
  obtain rfl:=Option.some.inj h
  exact Kn.D Fm
 ·refine AW.skip (AW.seq (AW.dJ (r:=r) (fun z:Bool=>ref16_Check_k0 F z) [] (fun z=>[(13,vb z)]) [] (fun _=>[]) (fun q h=>?_) (fun p c=>?_)))
  ·refine AW.cN h (fun l h=>?_) (fun l h=>?_)
   ·refine AW.dSG0 Fm 1 [] [(2,vi 16)] [] [] ?_
    refine AW.ret ?_
    obtain rfl:=Option.some.inj h
    exact Kn.D Fm
   ·refine AW.skip (AW.dSG0 Fm 1 [] [(2,vi 0)] [] [] ?_)
    refine AW.ret ?_
    obtain rfl:=Option.some.inj h
    exact Kn.D Fm
  ·obtain ⟨t,e,h⟩:=bS h
   rcases br_or h with ⟨b,h⟩|⟨b,h⟩
   ·refine AW.dG Fm [.s,.k _,.s,.w (vb true),.s,.s,.s,.s] (fun K=>K 1∧_∧True) [] [(13,vb true)] [] [] ⟨KAt.CC (ref16_depth_spec e) Tryz.call154 [],ALe.bool b,⟨⟩⟩ ?_
    exact Kn.R Fm (c true h)
   ·obtain ⟨i,n,h⟩:=bS h
    refine AW.dG Fm [.s,.k _,.s,.w (vb false),.s,.k _,.s,.s] (fun K=>K 1∧_∧K 5∧True) [] [(13,vb (!i))] [] [] ⟨KAt.CC (ref16_depth_spec e) Tryz.call154 [],ALe.bool b,KAt.CC (ref16_form_spec n) Tryz.call155 [],⟨⟩⟩ ?_
    exact Kn.R Fm (c (!i) h)
end Go.Ab
end
