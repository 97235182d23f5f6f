/- The code follows the plain programs. -/
import Derived.Test.YtdfbifjpedjljaaGreatAbE
import Derived.Test.YtdfbifjpedjljaaGreatAbC
set_option linter.unusedVariables false
set_option linter.unusedSimpArgs false
section
namespace Go.Ab
abbrev cNL:List ByteArray:=[(ByteArray.mk #[98,97,114,108,101,121]),(ByteArray.mk #[99,108,111,118,101,114]),(ByteArray.mk #[103,114,97,115,115]),(ByteArray.mk #[109,97,105,122,101]),(ByteArray.mk #[111,97,116,115]),(ByteArray.mk #[114,121,101]),(ByteArray.mk #[118,101,116,99,104]),(ByteArray.mk #[119,104,101,97,116])]
abbrev sA(n:Nat)(l:List Dir):List Dir:=List.replicate n .s++l
abbrev sZ(n:Nat)(l:List Dir):List Dir:=l++List.replicate n .s
open Go.Proofs
set_option maxRecDepth 100000
theorem Q8F {F:Nat} {x1:(List Rect)} {x2:Rect→Option Bool} {r:Int} (h:Q1u F x1 x2=some r) :
  Z6 Tryz.prog 237 [AL x1,.v (.c (.sem (Q0c Tryz.prog (Q6T x2))))] [] (vi r) []:=by
 refine FI Tryz.func237 Q2 Q4 fun C Fm=>?_
 unfold Q1u at h;refine Q0 Fm 1 [0,1] [] [] [] ?_
 refine Z2 (r:=r) (fun z:Unit=>Q5c F) [] (fun _=>[]) [] (fun _=>[]) (fun z h=>?_) (fun p e=>?_)
 ·refine Q0 Fm 1 [] [(4,vi (-1:Int))] [] [] ?_
  refine AW.ret ?_;obtain rfl:=Option.some.inj h
  exact Kn.D Fm
 ·refine Q0 Fm 3 [0,1] [(7,vi (lI x1)),(8,vi 0)] [] [] ?_
  refine AW.block (W6 Fm [(0,AL x1),(1,.v (.c (.sem (Q0c Tryz.prog (Q6T x2))))),(7,vi (lI x1)),(8,vi 0)] [] (by kernel_rfl) ?_);refine Z3 (E':=fun z=>[(0,AL x1),(1,.v (.c (.sem (Q0c Tryz.prog (Q6T x2))))),(7,vi (lI x1)),(8,vi z)]) (S':=fun z=>[]) (fun q a o d h=>?_) h
  refine Q0 Fm 1 [0,1,7,8] [(9,vb (decide (a<(lI x1))))] [] [] ?_;refine AW.seq (Q5 h (fun i h=>?_) (fun i h=>?_))
  ·refine AW.skip (AW.seq (AW.block (Q0 Fm 2 [0,1,7,8] [(5,vi a)] [] [] ?_)))
   refine AW.seq ?_;obtain ⟨l,h⟩:=gS h
   obtain ⟨b,n,h⟩:=bS h;refine Q9 Fm (sA 5 [.k (sE (vb b))]) (fun K=>_∧K 5∧True) [0,1,5,7,8] [(16,vb b)] [] [] ⟨l,KAt.sem (F:=(Q6T x2)) (args:=[.v (.g [ci ((gl x1 a.toNat).L_),ci ((gl x1 a.toNat).w_),ci ((gl x1 a.toNat).R_),ci ((gl x1 a.toNat).H_)])]) ⟨(gl x1 a.toNat),b,n,rfl,rfl⟩ rfl (by kernel_rfl) (by kernel_rfl) (by kernel_rfl),⟨⟩⟩ ?_
   refine Q5 h (fun j h=>?_) (fun j h=>?_)
   ·refine Q0 Fm 2 [] [(4,vi a)] [] [] ?_
    refine AW.ret ?_;obtain rfl:=Option.some.inj h
    exact Kn.D Fm
   ·refine AW.skip ?_
    obtain ⟨m,h⟩:=gS h;refine Q1 Fm [.s,.s] [0,1,7] [(8,vi (a+1))] [] [] (cT (cT m)) ?_
    exact Kn.R Fm (d (a+1) h)
  ·exact AW.exit (Kn.R Fm (e () h))
theorem Q0B {F:Nat} {a:(List Rect)} {b:Rect→Option Bool} {r:Bool} (h:V9 F a b=some r) :
  Z6 Tryz.prog 182 [AL a,.v (.c (.sem (Q0c Tryz.prog (Q6T b))))] [] (vb r) []:=by
 refine FI Tryz.func182 Q2 Q4 fun C Fm=>?_
 unfold V9 at h;refine Q0 Fm 1 [0,1] [] [] [] ?_
 refine AW.seq ?_;obtain ⟨d,e,h⟩:=bS h
 refine Q9 Fm [.s,.s,.k (cE [] [] (vi d) [] []),.s,.s] (fun K=>K 2∧True) [] [(4,vb (decide ((0:Int)≤d)))] [] [] ⟨K4 (Q8F e) Tryz.call237 [] [] [.tmp 5,.tmp 6] rfl (by kernel_rfl) (by kernel_rfl) (by kernel_rfl) ⟨.p,Q1T.semX (by kernel_rfl) (by kernel_rfl) (by kernel_rfl),⟨⟩⟩,⟨⟩⟩ ?_;refine AW.ret ?_
 obtain rfl:=Option.some.inj h;exact Kn.D Fm
theorem Z3L {F:Nat} {e:Rect} {r:Bool} (h:Q5d F e=some r) :
  Z6 Tryz.prog 184 [gE e] [] (vb r) []:=by
 refine FI Tryz.func184 Q2 Q4 fun C Fm=>?_
 unfold Q5d at h;refine Q0 Fm 2 [] [(1,pt 1)] [] [(1,bx (gC e))] ?_
 refine Z2 (r:=r) (fun z:Bool=>V5 F z) [] (fun z=>[(2,vb z)]) [] (fun _=>[]) (fun l h=>?_) (fun k b=>?_)
 ·refine AW.ret ?_
  obtain rfl:=Option.some.inj h;exact Kn.D Fm
 ·rcases Y7 h with ⟨a,h⟩|⟨a,h⟩
  ·rcases Y7 h with ⟨c,h⟩|⟨c,h⟩
   ·rcases Y7 h with ⟨d,h⟩|⟨d,h⟩
    ·rcases Y7 h with ⟨i,h⟩|⟨i,h⟩
     ·rcases Y7 h with ⟨j,h⟩|⟨j,h⟩
      ·refine Q1 Fm ([.s,.s,.s,.w (vb true),.s,.s,.s,.s,.s,.s,.w (vb true),.s,.s,.s,.s,.w (vb true),.s,.s,.s,.s,.w (vb true),.s,.s,.s,.s,.s,.s,.w (vb true)]++(sA 5 [])) [] [(2,vb (decide (e.H_≤16384)))] [] [] (cA (ALe.bool a) (cA (ALe.bool c) (cA (ALe.bool d) (cA (ALe.bool i) (cT (ALe.bool j)))))) ?_
       exact Kn.R Fm (b (decide (e.H_≤16384)) h)
      ·refine Q1 Fm ([.s,.s,.s,.w (vb true),.s,.s,.s,.s,.s,.s,.w (vb true),.s,.s,.s,.s,.w (vb true),.s,.s,.s,.s,.w (vb true),.s,.s,.s,.s,.s,.s,.w (vb false)]++(sA 5 [])) [] [(2,vb false)] [] [] (cA (ALe.bool a) (cA (ALe.bool c) (cA (ALe.bool d) (cA (ALe.bool i) (cT (ALe.bool j)))))) ?_
       exact Kn.R Fm (b false h)
     ·refine Q1 Fm ((sZ 7 [.s,.s,.s,.w (vb true),.s,.s,.s,.s,.s,.s,.w (vb true),.s,.s,.s,.s,.w (vb true),.s,.s,.s,.s,.w (vb false)])++(sA 5 [])) [] [(2,vb false)] [] [] (cA (ALe.bool a) (cA (ALe.bool c) (cA (ALe.bool d) (cT (ALe.bool i))))) ?_
      exact Kn.R Fm (b false h)
    ·refine Q1 Fm ((sZ 12 [.s,.s,.s,.w (vb true),.s,.s,.s,.s,.s,.s,.w (vb true),.s,.s,.s,.s,.w (vb false)])++(sA 5 [])) [] [(2,vb false)] [] [] (cA (ALe.bool a) (cA (ALe.bool c) (cT (ALe.bool d)))) ?_
     exact Kn.R Fm (b false h)
   ·refine Q1 Fm ((sZ 17 [.s,.s,.s,.w (vb true),.s,.s,.s,.s,.s,.s,.w (vb false)])++(sA 5 [])) [] [(2,vb false)] [] [] (cA (ALe.bool a) (cT (ALe.bool c))) ?_
    exact Kn.R Fm (b false h)
  ·refine Q1 Fm ((sZ 24 [.s,.s,.s,.w (vb false)])++(sA 5 [])) [] [(2,vb false)] [] [] (cT (ALe.bool a)) ?_
   exact Kn.R Fm (b false h)
theorem Z2Z {F:Nat} {a:Rect} {r:Bool} (h:Q6g F a=some r) :
  Z6 Tryz.prog 183 [gE a] [] (vb r) []:=by
 refine FI Tryz.func183 Q2 Q4 fun C Fm=>?_
 unfold Q6g at h;refine Q0 Fm 2 [] [(1,pt 1)] [] [(1,bx (gC a))] ?_
 refine AW.seq ?_;obtain ⟨c,b,h⟩:=bS h
 refine Q9 Fm [.s,.k _,.s,.s] (fun K=>K 1∧True) [] [(2,vb (!c))] [] [] ⟨Q3 (Z3L b) Tryz.call184 [],⟨⟩⟩ ?_;refine AW.ret ?_
 obtain rfl:=Option.some.inj h;exact Kn.D Fm
theorem Q5N {F:Nat} {e:(List Int)} {r:(List Int)} (h:Q0p F e=some r) :
  Z6 Tryz.prog 241 [ow 0] [(0,AO e)] (ow 100) [(100,AO r)]:=by
 refine FI Tryz.func241 Q2 Q4 fun C Fm=>?_
 unfold Q0p at h;refine Q3x Fm [.m] (fun K=>True) [0] [] [0] [] True.intro ?_
 refine AW.seq (Q0 Fm 3 [0] [(8,vb (decide ((lI e)<2)))] [0] [] ?_);refine Q5 h (fun P h=>?_) (fun P h=>?_)
 ·refine Q0 Fm 2 [] [(2,ow 0)] [0] [] ?_
  refine AW.ret ?_;obtain rfl:=Option.some.inj h
  exact Q3e Fm [(100,0)] [(2,ow 100)] [(100,AO e)] (by kernel_rfl) (by kernel_rfl) (by kernel_rfl) (by kernel_rfl) (Q3H Fm (by kernel_rfl))
 ·refine AW.skip (Z2 (r:=r) (fun z:Unit=>Q3s F e) [0] (fun _=>[]) [0] (fun _=>[]) (fun z h=>?_) (fun s0 I=>?_))
  ·refine Q0 Fm 2 [] [(2,ow 0)] [0] [] ?_
   refine AW.ret ?_;obtain rfl:=Option.some.inj h
   exact Q3e Fm [(100,0)] [(2,ow 100)] [(100,AO e)] (by kernel_rfl) (by kernel_rfl) (by kernel_rfl) (by kernel_rfl) (Q3H Fm (by kernel_rfl))
  ·refine Q0 Fm 1 [0] [(3,vi 1)] [0] [] ?_
   refine AW.block (W6 Fm [(0,ow 0),(3,vi 1)] [(0,AO e)] (by kernel_rfl) ?_);refine Z3 (E':=fun z=>[(0,ow 0),(3,vi z)]) (S':=fun z=>[(0,AO e)]) (fun B a t0 L h=>?_) h
   refine AW.seq (Q0 Fm 4 [0,3] [(13,vb (decide (a<(lI e))))] [0] [] ?_);refine Q5 h (fun T h=>?_) (fun T h=>?_)
   ·refine AW.skip (Z2 (r:=r) (fun z:Unit=>Q3t F a B) [0,3] (fun _=>[]) [0] (fun _=>[]) (fun z h=>?_) (fun q0 H=>?_))
    ·obtain ⟨i0,h⟩:=gS h
     refine Q1 Fm [.s,.s,.s] [0] [(3,vi (a+1))] [0] [] (cT (cT i0)) ?_;exact Kn.R Fm (L (a+1) h)
    ·refine AW.block ?_
     obtain ⟨y,j0,A,h⟩:=gS3 h;refine Y6 Fm (sA 10 []) [0,3] [(25,vb ((gl e a.toNat)==(gl e (a-1).toNat)))] [0] [] (cA y (cA (Z7 y) (cA (cT j0) (cA A (cT (Z7 A)))))) ?_
     refine Q5 h (fun U h=>?_) (fun U h=>?_)
     ·obtain ⟨k0,h⟩:=gS h
      refine Q3x Fm [.s,.s,.k (rE { v:=.v (.c (.sub 0 1 (0+(a).toNat) ((List.length e)-(a).toNat))) }),.s] (fun K=>K 2∧True) [0,3] [(4,.v (.c (.sub 0 1 (0+(a).toNat) ((List.length e)-(a).toNat))))] [0] [] ⟨Z1q (l:=(some a)) (u:=none) (id:=0) (lo0:=0) (n:=(List.length e)) (N:=List.length e) (f:=LF e) Q4 Z6I rfl rfl (by kernel_rfl) (by kernel_rfl) (by kernel_rfl) (by kernel_rfl) (by kernel_rfl) k0 (by kernel_rfl),⟨⟩⟩ ?_;refine Z2 (r:=r) (fun z:Int×(List Int)=>Q3u F z.1 z.2) [0] (fun z=>[(3,vi z.1)]) [] (fun z=>[(0,AO z.2)]) (fun z h=>?_) (fun p0 G=>?_)
      ·obtain ⟨b,d⟩:=z
       obtain ⟨e0,h⟩:=gS h;refine G9 Fm [.s,.s,.k (rE { v:=.v (.c (.sub 0 1 (0+(b).toNat) ((List.length d)-(b).toNat))) }),.k (rE { v:=.any,upd:=some (0,.arr 1 (List.length d) (fun i=>if (0+(b).toNat)≤i∧i<(0+(b).toNat)+((List.length d)-(b).toNat) then (fun _=>[.int .i64 0]) (i-(0+(b).toNat)) else (LF d) i)) })] (fun K=>K 2∧K 3∧True) [0,3] [] [] [(0,AO (clr d (0+(b).toNat) ((List.length d)-(b).toNat)))] ⟨Z1q (l:=(some b)) (u:=none) (id:=0) (lo0:=0) (n:=(List.length d)) (N:=List.length d) (f:=LF d) Q4 Z6I rfl rfl (by kernel_rfl) (by kernel_rfl) (by kernel_rfl) (by kernel_rfl) (by kernel_rfl) e0 (by kernel_rfl),Y0Y (id:=0) (lo0:=(0+(b).toNat)) (n:=((List.length d)-(b).toNat)) (N:=List.length d) (f:=(LF d)) Q4 Z6I [.int .i64 0] [.int .i64 0] ⟨DLe.refl _,⟨⟩⟩ rfl rfl (by kernel_rfl) (Nat.succ_pos _) (by kernel_rfl) (by kernel_rfl) (by kernel_rfl) (by kernel_rfl) rfl,⟨⟩⟩ [(0,.arr 1 (List.length d) (fun i=>if (0+(b).toNat)≤i∧i<(0+(b).toNat)+((List.length d)-(b).toNat) then (fun _=>[.int .i64 0]) (i-(0+(b).toNat)) else (LF d) i))] ⟨OLe.is (Is.clr (l:=d) (0+(b).toNat) ((List.length d)-(b).toNat) (zd:=[.int .i64 0]) (by kernel_rfl)),⟨⟩⟩ ?_
       obtain ⟨w,h⟩:=gS h;refine Z5F Fm [.s,.s,.m,.s] [] [(2,ow 59)] [] [(59,AO ((clr d (0+(b).toNat) ((List.length d)-(b).toNat)).take (b).toNat))] (cT w) [(59,.arr 1 ((b).toNat) (LF (clr d (0+(b).toNat) ((List.length d)-(b).toNat))))] ⟨OLe.is (Is.take (Is.refl (clr d (0+(b).toNat) ((List.length d)-(b).toNat))) w.2),⟨⟩⟩ ?_
       refine AW.ret ?_;obtain rfl:=Option.some.inj h
       exact Q3e Fm [(100,59)] [(2,ow 100)] [(100,AO ((clr d (0+(b).toNat) ((List.length d)-(b).toNat)).take (b).toNat))] (by kernel_rfl) (by kernel_rfl) (by kernel_rfl) (by kernel_rfl) (Q3H Fm (by kernel_rfl))
      ·refine Q0 Fm 1 [0,3,4] [(5,vi 1)] [0] [] ?_
       refine AW.block (W6 Fm [(0,ow 0),(3,vi a),(4,.v (.c (.sub 0 1 (0+(a).toNat) ((List.length e)-(a).toNat)))),(5,vi 1)] [(0,AO e)] (by kernel_rfl) ?_);refine Z3 (E':=fun z=>[(0,ow 0),(3,vi z.1),(4,.v (.c (.sub 0 1 (0+(a).toNat) ((List.length e)-(a).toNat)))),(5,vi z.2.1)]) (S':=fun z=>[(0,AO z.2.2)]) (fun D z n0 E h=>?_) h
       obtain ⟨p,o,j⟩:=z;refine AW.seq (Q3x Fm [.s,.s,.k (rE { v:=vi ((((List.length e)-(a).toNat):Nat):Int) }),.s] (fun K=>K 2∧True) [0,3,4,5] [(32,vb (decide (o<((((List.length e)-(a).toNat):Nat):Int))))] [0] [] ⟨Y4i (es:=1) (id:=0) (lo0:=(0+(a).toNat)) (n:=((List.length e)-(a).toNat)) (N:=List.length j) (f:=LF j) Q4 Z6I rfl rfl (by kernel_rfl) (by kernel_rfl) (by kernel_rfl),⟨⟩⟩ ?_)
       refine Q5 h (fun M h=>?_) (fun M h=>?_)
       ·refine AW.skip (Z2 (r:=r) (fun z:Int×(List Int)=>Q1w F o D z.1 z.2) [0,4,5] (fun z=>[(3,vi z.1)]) [] (fun z=>[(0,AO z.2)]) (fun z h=>?_) (fun o0 t=>?_))
        ·obtain ⟨l0,m0⟩:=z
         obtain ⟨d0,h⟩:=gS h;refine Q1 Fm [.s,.s,.s] [0,3,4] [(5,vi (o+1))] [0] [] (cT (cT d0)) ?_
         exact Kn.R Fm (E (l0,(o+1),m0) h)
        ·refine AW.block ?_
         obtain ⟨V,W,X,Y,h⟩:=gS4 h;obtain ⟨Z,h⟩:=gS h
         refine Q3x Fm [.s,.s,.k (rE { v:=.v (.c (.pte 0 1 ((0+(a).toNat)+(o).toNat) 0)) }),.s,.s,.s,.s,.k (rE { v:=.v (.c (.pte 0 1 ((0+(a).toNat)+((o-1)).toNat) 0)) }),.s,.s] (fun K=>K 2∧_∧(_∧True)∧K 7∧_∧True) [0,3,4,5] [(44,vb ((gl j ((0+(a).toNat)+(o).toNat)) != (gl j ((0+(a).toNat)+((o-1)).toNat))))] [0] [] ⟨Z4j (m:=o) (id:=0) (lo0:=(0+(a).toNat)) (n:=((List.length e)-(a).toNat)) (N:=List.length j) (f:=LF j) Q4 Z6I rfl rfl (by kernel_rfl) (by kernel_rfl) (by kernel_rfl) (by kernel_rfl) V (by kernel_rfl),W,⟨X,⟨⟩⟩,Z4j (m:=(o-1)) (id:=0) (lo0:=(0+(a).toNat)) (n:=((List.length e)-(a).toNat)) (N:=List.length j) (f:=LF j) Q4 Z6I rfl rfl (by kernel_rfl) (by kernel_rfl) (by kernel_rfl) (by kernel_rfl) Y (by kernel_rfl),Z,⟨⟩⟩ ?_;refine Q5 h (fun O h=>?_) (fun O h=>?_)
         ·obtain ⟨a0,b0,q,h⟩:=gS3 h
          refine G9 Fm (sA 4 [.k (rE { v:=.v (.c (.pte 0 1 ((0+(a).toNat)+(o).toNat) 0)) }),.s,.s,.s]) (fun K=>K 4∧_∧_∧_∧True) [0,3,4,5] [] [] [(0,AO (List.set j p.toNat (gl j ((0+(a).toNat)+(o).toNat))))] ⟨Z4j (m:=o) (id:=0) (lo0:=(0+(a).toNat)) (n:=((List.length e)-(a).toNat)) (N:=List.length j) (f:=LF j) Q4 Z6I rfl rfl (by kernel_rfl) (by kernel_rfl) (by kernel_rfl) (by kernel_rfl) a0 (by kernel_rfl),b0,q,(Z7 q),⟨⟩⟩ [(0,rSt j p.toNat 0 [.int .i64 (gl j ((0+(a).toNat)+(o).toNat))])] ⟨oSt (Z7 q),⟨⟩⟩ ?_;obtain ⟨c0,h⟩:=gS h
          refine Q1 Fm [.s,.s,.s] [0,4,5] [(3,vi (p+1))] [0] [] (cT (cT c0)) ?_;exact Kn.R Fm (t ((p+1),(List.set j p.toNat (gl j ((0+(a).toNat)+(o).toNat)))) h)
         ·exact AW.skip (Kn.R Fm (t (p,j) h))
       ·exact AW.exit (Kn.R Fm (G (p,j) h))
     ·exact AW.skip (Kn.R Fm (H () h))
   ·exact AW.exit (Kn.R Fm (I () h))
theorem Z0p {F:Nat} {a:(List (List Rect))} {r:(List Int)} (h:Q5P F a=some r) :
  Z6 Tryz.prog 188 [AL a] [] (AL r) []:=by
 refine FI Tryz.func188 Q2 Q4 fun C Fm=>?_
 unfold Q5P at h;refine Q0 Fm 1 [0] [] [] [] ?_
 refine G9 Fm [.m] (fun K=>True) [0] [(3,ow 3)] [] [(3,AO ([]:List Int))] True.intro [(3,.arr 1 (0) (fun _=>[]))] ⟨OLe.is ((Is.nil (α:=Int))),⟨⟩⟩ ?_;refine Z2 (r:=r) (fun z:(List Int)=>Q8N F z) [3] (fun _=>[]) [] (fun z=>[(3,AO z)]) (fun W h=>?_) (fun U t=>?_)
 ·refine AW.seq ?_
  obtain ⟨N,I,h⟩:=bS h;refine Q9 Fm [.s,.k _] (fun K=>K 1∧True) [3] [] [] [(3,AO N)] ⟨Q3 (Z6C I) Tryz.call214 [(0,3)],⟨⟩⟩ ?_
  refine AW.seq ?_;obtain ⟨j,L,h⟩:=bS h
  refine Q9 Fm [.s,.k _,.s] (fun K=>K 1∧True) [] [(2,ow 32)] [] [(32,AO j)] ⟨Q3 (Q5N L) Tryz.call241 [(0,3),(100,32)],⟨⟩⟩ ?_;refine AW.ret ?_
  obtain rfl:=Option.some.inj h;refine W6 Fm [(2,ow 32)] [(32,AO j)] (by kernel_rfl) ?_
  refine Kn.frz [(2,AL j)] [] (by kernel_rfl) (by kernel_rfl) (by kernel_rfl) ?_;exact Kn.D Fm
 ·refine Q0 Fm 3 [3] [(8,AL a),(9,vi (lI a)),(10,vi 0)] [3] [] ?_
  refine AW.block (W6 Fm [(3,ow 3),(8,AL a),(9,vi (lI a)),(10,vi 0)] [(3,AO ([]:List Int))] (by kernel_rfl) ?_);refine Z3 (E':=fun z=>[(3,ow 3),(8,AL a),(9,vi (lI a)),(10,vi z.1)]) (S':=fun z=>[(3,AO z.2)]) (fun n z O o h=>?_) h
  obtain ⟨b,l⟩:=z;refine Q0 Fm 1 [3,8,9,10] [(11,vb (decide (b<(lI a))))] [3] [] ?_
  refine AW.seq (Q5 h (fun u h=>?_) (fun u h=>?_))
  ·refine AW.skip (Z2 (r:=r) (fun z:(List Int)=>Q8O F b n z) [3,8,9,10] (fun _=>[]) [] (fun z=>[(3,AO z)]) (fun M h=>?_) (fun T q=>?_))
   ·obtain ⟨H,h⟩:=gS h
    refine Q1 Fm [.s,.s] [3,8,9] [(10,vi (b+1))] [3] [] (cT (cT H)) ?_;exact Kn.R Fm (o ((b+1),M) h)
   ·refine AW.block ?_
    obtain ⟨A,h⟩:=gS h;refine Y6 Fm [.s,.s,.s] [3,8,9,10] [(5,AL (gl a b.toNat))] [3] [] (cT A) ?_
    refine Q0 Fm 3 [3,8,9,10] [(14,AL (gl a b.toNat)),(15,vi (lI (gl a b.toNat))),(16,vi 0)] [3] [] ?_;refine AW.block (W6 Fm [(3,ow 3),(8,AL a),(9,vi (lI a)),(10,vi b),(14,AL (gl a b.toNat)),(15,vi (lI (gl a b.toNat))),(16,vi 0)] [(3,AO l)] (by kernel_rfl) ?_)
    refine Z3 (E':=fun z=>[(3,ow 3),(8,AL a),(9,vi (lI a)),(10,vi b),(14,AL (gl a b.toNat)),(15,vi (lI (gl a b.toNat))),(16,vi z.1)]) (S':=fun z=>[(3,AO z.2)]) (fun V z P p h=>?_) h;obtain ⟨e,i⟩:=z
    refine Q0 Fm 1 [3,8,9,10,14,15,16] [(17,vb (decide (e<(lI (gl a b.toNat)))))] [3] [] ?_;refine AW.seq (Q5 h (fun y h=>?_) (fun y h=>?_))
    ·refine AW.skip (AW.seq (AW.block ?_))
     obtain ⟨B,h⟩:=gS h;refine Y6 Fm (sA 4 []) [3,8,9,10,14,15,16] [(7,pt 7)] [3] [(7,bx [ci ((gl (gl a b.toNat) e.toNat).L_),ci ((gl (gl a b.toNat) e.toNat).w_),ci ((gl (gl a b.toNat) e.toNat).R_),ci ((gl (gl a b.toNat) e.toNat).H_)])] (cT B) ?_
     obtain ⟨E,h⟩:=gS h;refine Q0I Fm (sA 5 [.w (AL ([(gl (gl a b.toNat) e.toNat).w_,(gl (gl a b.toNat) e.toNat).H_]:List Int)),.s,.s]) [8,9,10,14,15,16] [(3,ow 26)] [] [(26,AO (i++([(gl (gl a b.toNat) e.toNat).w_,(gl (gl a b.toNat) e.toNat).H_]:List Int)))] (cA (ALe.lst (.lit ([(gl (gl a b.toNat) e.toNat).w_,(gl (gl a b.toNat) e.toNat).H_]:List Int) (by kernel_rfl)):ALe (.v (.c (.d (.lst 2 (Z1g 1 [.int .i64 (gl (gl a b.toNat) e.toNat).w_,.int .i64 (gl (gl a b.toNat) e.toNat).H_]))))) (AL ([(gl (gl a b.toNat) e.toNat).w_,(gl (gl a b.toNat) e.toNat).H_]:List Int))) (cT (cA E (cT (lfl ([(gl (gl a b.toNat) e.toNat).w_,(gl (gl a b.toNat) e.toNat).H_]:List Int)))))) [(26,rAp i ([(gl (gl a b.toNat) e.toNat).w_,(gl (gl a b.toNat) e.toNat).H_]:List Int))] ⟨oAp,⟨⟩⟩ ?_
     obtain ⟨G,h⟩:=gS h;refine Q1 Fm [.s,.s] [3,8,9,10,14,15] [(16,vi (e+1))] [26] [] (cT (cT G)) ?_
     exact Q1f Fm [(3,26)] (p ((e+1),(i++([(gl (gl a b.toNat) e.toNat).w_,(gl (gl a b.toNat) e.toNat).H_]:List Int))) h)
    ·exact AW.exit (Kn.R Fm (q i h))
  ·exact AW.exit (Kn.R Fm (t l h))
theorem Q9r {F:Nat} {a:Int} {r:Bool} (h:Q5t F a=some r) :
  Z6 Tryz.prog 256 [vi a] [] (vb r) []:=by
 refine FI Tryz.func256 Q2 Q4 fun C Fm=>?_
 unfold Q5t at h;refine Q0 Fm 1 [0] [] [] [] ?_
 refine Q0 Fm 4 [] [(2,vb (a != a))] [] [] ?_;refine AW.ret ?_
 obtain rfl:=Option.some.inj h;exact Kn.D Fm
theorem Q4r {F:Nat} {a:Int} {b:Int} {r:Int} (h:Q0O F a b=some r) :
  Z6 Tryz.prog 197 [vi a,vi b] [] (vi r) []:=by
 refine FI Tryz.func197 Q2 Q4 fun C Fm=>?_
 unfold Q0O at h;refine Q0 Fm 1 [0,1] [] [] [] ?_
 refine AW.seq ?_;obtain ⟨d,n,h⟩:=bS h
 refine Q9 Fm [.s,.k _,.s] (fun K=>K 1∧True) [0,1] [(5,vb d)] [] [] ⟨Q3 (Q9r n) Tryz.call256 [],⟨⟩⟩ ?_;refine AW.seq ?_
 obtain ⟨c,o,h⟩:=bS h;refine Q9 Fm [.s,.k _,.s] (fun K=>K 1∧True) [0,1,5] [(6,vb c)] [] [] ⟨Q3 (Q9r o) Tryz.call256 [],⟨⟩⟩ ?_
 refine AW.seq (Q0 Fm 1 [0,1,6] [(11,vb d)] [] [] ?_);refine Q5 h (fun e h=>?_) (fun e h=>?_)
 ·refine AW.seq (Q0 Fm 1 [] [(12,vb c)] [] [] ?_)
  refine Q5 h (fun i h=>?_) (fun i h=>?_)
  ·refine Q0 Fm 1 [] [(4,vi 0)] [] [] ?_
   refine AW.ret ?_;obtain rfl:=Option.some.inj h
   exact Kn.D Fm
  ·refine AW.skip (Q0 Fm 1 [] [(4,vi (-1:Int))] [] [] ?_)
   refine AW.ret ?_;obtain rfl:=Option.some.inj h
   exact Kn.D Fm
 ·refine AW.skip (AW.seq (Q0 Fm 1 [0,1] [(13,vb c)] [] [] ?_))
  refine Q5 h (fun j h=>?_) (fun j h=>?_)
  ·refine Q0 Fm 1 [] [(4,vi 1)] [] [] ?_
   refine AW.ret ?_;obtain rfl:=Option.some.inj h
   exact Kn.D Fm
  ·refine AW.skip (AW.seq (Q0 Fm 3 [0,1] [(16,vb (decide (a<b)))] [] [] ?_))
   refine Q5 h (fun l h=>?_) (fun l h=>?_)
   ·refine Q0 Fm 1 [] [(4,vi (-1:Int))] [] [] ?_
    refine AW.ret ?_;obtain rfl:=Option.some.inj h
    exact Kn.D Fm
   ·refine AW.skip (AW.seq (Q0 Fm 3 [] [(19,vb (decide (b<a)))] [] [] ?_))
    refine Q5 h (fun m h=>?_) (fun m h=>?_)
    ·refine Q0 Fm 1 [] [(4,vi 1)] [] [] ?_
     refine AW.ret ?_;obtain rfl:=Option.some.inj h
     exact Kn.D Fm
    ·refine AW.skip (Q0 Fm 1 [] [(4,vi 0)] [] [] ?_)
     refine AW.ret ?_;obtain rfl:=Option.some.inj h
     exact Kn.D Fm
theorem Z4v {F:Nat} {a:Span} {b:Span} {r:Int} (h:Q6h F a b=some r) :
  Z6 Tryz.prog 245 [gE a,gE b] [] (vi r) []:=by
 refine FI Tryz.func245 Q2 Q4 fun C Fm=>?_
 unfold Q6h at h;refine Q0 Fm 3 [] [(2,pt 2),(3,pt 3)] [] [(2,bx (gC a)),(3,bx (gC b))] ?_
 refine AW.seq ?_;obtain ⟨d,c,h⟩:=bS h
 refine Q9 Fm (sA 4 [.k _,.s]) (fun K=>K 4∧True) [] [(4,vi d)] [] [] ⟨Q3 (Q4r c) Tryz.call197 [],⟨⟩⟩ ?_;refine AW.ret ?_
 obtain rfl:=Option.some.inj h;exact Kn.D Fm
theorem Q8f {F:Nat} {b:(List Rect)} {j:Int} {r:(List Span)} (h:Q5H F b j=some r) :
  Z6 Tryz.prog 191 [AL b,vi j] [] (AL r) []:=by
 refine FI Tryz.func191 Q2 Q4 fun C Fm=>?_
 unfold Q5H at h;refine Q0 Fm 1 [0,1] [] [] [] ?_
 refine G9 Fm [.m] (fun K=>True) [0,1] [(5,ow 5)] [] [(5,AO ([]:List Span))] True.intro [(5,.arr 2 (0) (fun _=>[]))] ⟨OLe.is ((Is.nil (α:=Span))),⟨⟩⟩ ?_;refine Z2 (r:=r) (fun z:(List Span)=>Q7A F z) [5] (fun _=>[]) [] (fun z=>[(5,AO z)]) (fun l0 h=>?_) (fun q0 O=>?_)
 ·refine AW.seq ?_
  obtain ⟨e,j0,h⟩:=bS h;refine Q9 Fm [.s,.k (cE [(0,5)] [] (.any) [(0,AO l0)] [(0,AO e)])] (fun K=>K 1∧True) [5] [] [] [(5,AO e)] ⟨K4 (Y0p j0) Tryz.call244 [(0,5)] [] [.tmp 37,.func 245] rfl (by kernel_rfl) (by kernel_rfl) (by kernel_rfl) ⟨.p,Q1T.cloX Tryz.call245 [] (fun args r hq=>by obtain ⟨y0,y1,y,hq,rfl,rfl⟩:=hq;exact Eq.mp (by kernel_rfl) (Z4v hq)) (fun args r hq=>by obtain ⟨y0,y1,y,hq,rfl,rfl⟩:=hq;rfl) (by kernel_rfl) [] (by kernel_rfl) (by kernel_rfl) (True.intro) (by kernel_rfl),⟨⟩⟩,⟨⟩⟩ ?_
  refine G9 Fm [.m] (fun K=>True) [5] [(8,ow 8)] [5] [(8,AO ([]:List Span))] True.intro [(8,.arr 2 (0) (fun _=>[]))] ⟨OLe.is ((Is.nil (α:=Span))),⟨⟩⟩ ?_;refine Z2 (r:=r) (fun z:(List Span)=>Q9P F z) [8] (fun _=>[]) [] (fun z=>[(8,AO z)]) (fun M h=>?_) (fun w0 T=>?_)
  ·refine Q0 Fm 2 [] [(4,ow 8)] [8] [] ?_
   refine AW.ret ?_;obtain rfl:=Option.some.inj h
   refine W6 Fm [(4,ow 8)] [(8,AO M)] (by kernel_rfl) ?_;refine Kn.frz [(4,AL M)] [] (by kernel_rfl) (by kernel_rfl) (by kernel_rfl) ?_
   exact Kn.D Fm
  ·refine Q0 Fm 3 [8] [(39,ow 5),(40,vi (lI e)),(41,vi 0)] [5,8] [] ?_
   refine AW.block (W6 Fm [(8,ow 8),(39,ow 5),(40,vi (lI e)),(41,vi 0)] [(5,AO e),(8,AO ([]:List Span))] (by kernel_rfl) ?_);refine Z3 (E':=fun z=>[(8,ow 8),(39,ow 5),(40,vi (lI e)),(41,vi z.1)]) (S':=fun z=>[(5,AO e),(8,AO z.2)]) (fun u z s0 P h=>?_) h
   obtain ⟨i,a⟩:=z;refine Q0 Fm 1 [8,39,40,41] [(42,vb (decide (i<(lI e))))] [5,8] [] ?_
   refine AW.seq (Q5 h (fun W h=>?_) (fun W h=>?_))
   ·refine AW.skip (Z2 (r:=r) (fun z:(List Span)=>Q5e F i u z) [8,39,40,41] (fun _=>[]) [5] (fun z=>[(8,AO z)]) (fun m0 h=>?_) (fun u0 G=>?_))
    ·obtain ⟨i0,h⟩:=gS h
     refine Q1 Fm [.s,.s] [8,39,40] [(41,vi (i+1))] [5,8] [] (cT (cT i0)) ?_;exact Kn.R Fm (P ((i+1),m0) h)
    ·refine AW.block ?_
     obtain ⟨H,h⟩:=gS h;refine Y6 Fm (sA 4 []) [8,39,40,41] [(10,pt 10)] [5,8] [(10,bx [ci ((gl e i.toNat).L_),ci ((gl e i.toNat).R_)])] (cA H (cT (Z7 H))) ?_
     refine Q0 Fm 3 [8,10,39,40,41] [(11,vi (lI a))] [5,8,10] [] ?_;refine Z2 (r:=r) (fun z:Bool=>Q3k F e i a u z) [8,10,11,39,40,41] (fun z=>[(59,vb z)]) [5,8,10] (fun _=>[]) (fun B0 h=>?_) (fun t0 E=>?_)
     ·refine Q5 h (fun X h=>?_) (fun X h=>?_)
      ·obtain ⟨c0,d0,L,q,h⟩:=gS4 h
       refine Q0I Fm (sA 15 []) [8,39,40,41] [] [5] [(8,AO (List.set a ((lI a)-1).toNat (⟨(gl a ((lI a)-1).toNat).L_,(Q8n ((gl a ((lI a)-1).toNat).R_) ((gl e i.toNat).R_))⟩:Span)))] (cA (cT c0) (cA (cT d0) (cA L (cA (Z7 L) (cA q (cT (Z7 q))))))) [(8,rSt a ((lI a)-1).toNat 1 [.int .i64 (Q8n ((gl a ((lI a)-1).toNat).R_) ((gl e i.toNat).R_))])] ⟨oSt (Z7 q),⟨⟩⟩ ?_;exact Kn.R Fm (G (List.set a ((lI a)-1).toNat (⟨(gl a ((lI a)-1).toNat).L_,(Q8n ((gl a ((lI a)-1).toNat).R_) ((gl e i.toNat).R_))⟩:Span)) h)
      ·obtain ⟨e0,h⟩:=gS h
       refine Q0I Fm [.s,.s,.w (AL [(gl e i.toNat)]),.s,.s] [39,40,41] [(8,ow 77)] [5] [(77,AO (a++([(gl e i.toNat)]:List Span)))] (cA (Z0I (gl e i.toNat)) (cT (cA e0 (cT (lfl ([(gl e i.toNat)]:List Span)))))) [(77,rAp a ([(gl e i.toNat)]:List Span))] ⟨oAp,⟨⟩⟩ ?_;exact Q1f Fm [(8,77)] (G (a++([(gl e i.toNat)]:List Span)) h)
     ·rcases Y7 h with ⟨o,h⟩|⟨o,h⟩
      ·obtain ⟨b0,I,h⟩:=gS2 h
       refine Q1 Fm (sZ 10 [.s,.s,.w (vb true)]) [8,10,11,39,40,41] [(50,pt 10),(51,vi (gl e i.toNat).L_),(52,ow 8),(53,vi (lI a)),(54,vi ((lI a)-1)),(55,.v (.c (.pte 8 2 (((lI a)-1).toNat) 0))),(56,.v (.c (.pte 8 2 (((lI a)-1).toNat) 1))),(57,vi (gl a ((lI a)-1).toNat).R_),(58,vb (decide (((gl e i.toNat).L_)≤((gl a ((lI a)-1).toNat).R_)))),(59,vb (decide (((gl e i.toNat).L_)≤((gl a ((lI a)-1).toNat).R_))))] [5,8,10] [] (cA (ALe.bool o) (cA (cT b0) (cA I (cT (Z7 I))))) ?_;exact Kn.R Fm (E (decide (((gl e i.toNat).L_)≤((gl a ((lI a)-1).toNat).R_))) h)
      ·refine Q1 Fm (sZ 10 [.s,.s,.w (vb false)]) [8,10,11,39,40,41] [(59,vb false)] [5,8,10] [] (cT (ALe.bool o)) ?_
       exact Kn.R Fm (E false h)
   ·exact AW.exit (Kn.R Fm (T a h))
 ·refine Q0 Fm 3 [1,5] [(12,AL b),(13,vi (lI b)),(14,vi 0)] [5] [] ?_
  refine AW.block (W6 Fm [(1,vi j),(5,ow 5),(12,AL b),(13,vi (lI b)),(14,vi 0)] [(5,AO ([]:List Span))] (by kernel_rfl) ?_);refine Z3 (E':=fun z=>[(1,vi j),(5,ow 5),(12,AL b),(13,vi (lI b)),(14,vi z.1)]) (S':=fun z=>[(5,AO z.2)]) (fun t z n0 N h=>?_) h
  obtain ⟨d,l⟩:=z;refine Q0 Fm 1 [1,5,12,13,14] [(15,vb (decide (d<(lI b))))] [5] [] ?_
  refine AW.seq (Q5 h (fun U h=>?_) (fun U h=>?_))
  ·refine AW.skip (Z2 (r:=r) (fun z:(List Span)=>Q5f F d t z) [1,12,13,14] (fun _=>[(5,ow 35)]) [] (fun z=>[(35,AO z)]) (fun k0 h=>?_) (fun p0 B=>?_))
   ·obtain ⟨a0,h⟩:=gS h
    refine Q1 Fm [.s,.s] [1,5,12,13] [(14,vi (d+1))] [35] [] (cT (cT a0)) ?_;exact Q1f Fm [(5,35)] (N ((d+1),k0) h)
   ·refine AW.block ?_
    obtain ⟨Y,h⟩:=gS h;refine Y6 Fm (sA 4 []) [1,5,12,13,14] [(7,pt 7)] [5] [(7,bx [ci ((gl b d.toNat).L_),ci ((gl b d.toNat).w_),ci ((gl b d.toNat).R_),ci ((gl b d.toNat).H_)])] (cT Y) ?_
    refine Z2 (r:=r) (fun z:Bool=>Q5g F b d l t z) [1,5,7,12,13,14] (fun z=>[(27,vb z)]) [5,7] (fun _=>[]) (fun A0 h=>?_) (fun o0 A=>?_)
    ·refine Q5 h (fun V h=>?_) (fun V h=>?_)
     ·obtain ⟨Z,h⟩:=gS h
      refine Q0I Fm (sA 6 [.w (AL [(⟨(gl b d.toNat).L_,(gl b d.toNat).R_⟩:Span)]),.s,.s]) [1,12,13,14] [(5,ow 35)] [] [(35,AO (l++([(⟨(gl b d.toNat).L_,(gl b d.toNat).R_⟩:Span)]:List Span)))] (cA (Z0I (⟨(gl b d.toNat).L_,(gl b d.toNat).R_⟩:Span)) (cT (cA Z (cT (lfl ([(⟨(gl b d.toNat).L_,(gl b d.toNat).R_⟩:Span)]:List Span)))))) [(35,rAp l ([(⟨(gl b d.toNat).L_,(gl b d.toNat).R_⟩:Span)]:List Span))] ⟨oAp,⟨⟩⟩ ?_;exact Kn.R Fm (B (l++([(⟨(gl b d.toNat).L_,(gl b d.toNat).R_⟩:Span)]:List Span)) h)
     ·exact AW.skip (Q1f Fm [(35,5)] (B l h))
    ·rcases Y7 h with ⟨n,h⟩|⟨n,h⟩
     ·refine Q1 Fm (sA 4 (sZ 5 [.w (vb true)])) [1,5,7,12,13,14] [(23,vi j),(24,.v (.c (.ptr 7 3))),(25,vi (gl b d.toNat).H_),(26,vb (decide (j<((gl b d.toNat).H_)))),(27,vb (decide (j<((gl b d.toNat).H_))))] [5,7] [] (cT (ALe.bool n)) ?_
      exact Kn.R Fm (A (decide (j<((gl b d.toNat).H_))) h)
     ·refine Q1 Fm (sA 4 (sZ 5 [.w (vb false)])) [1,5,7,12,13,14] [(27,vb false)] [5,7] [] (cT (ALe.bool n)) ?_
      exact Kn.R Fm (A false h)
  ·exact AW.exit (Kn.R Fm (O l h))
theorem Z0n {F:Nat} {b:Int} {a:(List Rect)} {r:(List Span)} (h:Q2P F b a=some r) :
  Z6 Tryz.prog 238 [vi b,pt 0] [(0,.box true [.d (DL a)])] (AL r) [(0,.box true [.d (DL a)])]:=by
 refine FI Tryz.func238 Q2 Q4 fun C Fm=>?_
 unfold Q2P at h;refine Q0 Fm 1 [0,1] [] [0] [] ?_
 refine AW.seq ?_;obtain ⟨e,c,h⟩:=bS h
 refine Q9 Fm [.s,.s,.k _,.s] (fun K=>K 2∧True) [] [(3,AL e)] [0] [] ⟨Q3 (Q8f c) Tryz.call191 [],⟨⟩⟩ ?_;refine AW.ret ?_
 obtain rfl:=Option.some.inj h;exact Kn.D Fm
theorem Z1a {F:Nat} {c:(List Span)} {d:(List Span)} {r:Bool} (h:Q1B F c d=some r) :
  Z6 Tryz.prog 239 [AL c,AL d] [] (vb r) []:=by
 refine FI Tryz.func239 Q2 Q4 fun C Fm=>?_
 unfold Q1B at h;refine Q0 Fm 1 [0,1] [] [] [] ?_
 refine AW.seq (Q0 Fm 5 [0,1] [(10,vb ((lI c) != (lI d)))] [] [] ?_);refine Q5 h (fun j h=>?_) (fun j h=>?_)
 ·refine Q0 Fm 1 [] [(4,vb false)] [] [] ?_
  refine AW.ret ?_;obtain rfl:=Option.some.inj h
  exact Kn.D Fm
 ·refine AW.skip (Z2 (r:=r) (fun z:Unit=>Q7J F) [] (fun _=>[]) [] (fun _=>[]) (fun z h=>?_) (fun t i=>?_))
  ·refine Q0 Fm 1 [] [(4,vb true)] [] [] ?_
   refine AW.ret ?_;obtain rfl:=Option.some.inj h
   exact Kn.D Fm
  ·refine Q0 Fm 3 [0,1] [(12,vi (lI c)),(13,vi 0)] [] [] ?_
   refine AW.block (W6 Fm [(0,AL c),(1,AL d),(12,vi (lI c)),(13,vi 0)] [] (by kernel_rfl) ?_);refine Z3 (E':=fun z=>[(0,AL c),(1,AL d),(12,vi (lI c)),(13,vi z)]) (S':=fun z=>[]) (fun u a q e h=>?_) h
   refine Q0 Fm 1 [0,1,12,13] [(14,vb (decide (a<(lI c))))] [] [] ?_;refine AW.seq (Q5 h (fun l h=>?_) (fun l h=>?_))
   ·refine AW.skip (AW.seq (AW.block (Q0 Fm 2 [0,1,12,13] [(5,vi a)] [] [] ?_)))
    obtain ⟨n,o,h⟩:=gS2 h;refine Q3x Fm (sA 8 [.k (sE (vb (!((((gl c a.toNat).L_)==((gl d a.toNat).L_))&&((((gl c a.toNat).R_)==((gl d a.toNat).R_))&&true)))))]) (fun K=>_∧_∧K 8∧True) [0,1,12,13] [(24,vb (!((((gl c a.toNat).L_)==((gl d a.toNat).L_))&&((((gl c a.toNat).R_)==((gl d a.toNat).R_))&&true))))] [] [] ⟨n,o,Y1a (xs:=[ci ((gl c a.toNat).L_),ci ((gl c a.toNat).R_)]) (ys:=[ci ((gl d a.toNat).L_),ci ((gl d a.toNat).R_)]) Y5N false (b:=((((gl c a.toNat).L_)==((gl d a.toNat).L_))&&((((gl c a.toNat).R_)==((gl d a.toNat).R_))&&true))) rfl rfl (by kernel_rfl) (by kernel_rfl) (by kernel_rfl) (by kernel_rfl),⟨⟩⟩ ?_
    refine Q5 h (fun m h=>?_) (fun m h=>?_)
    ·refine Q0 Fm 1 [] [(4,vb false)] [] [] ?_
     refine AW.ret ?_;obtain rfl:=Option.some.inj h
     exact Kn.D Fm
    ·refine AW.skip ?_
     obtain ⟨p,h⟩:=gS h;refine Q1 Fm [.s,.s] [0,1,12] [(13,vi (a+1))] [] [] (cT (cT p)) ?_
     exact Kn.R Fm (e (a+1) h)
   ·exact AW.exit (Kn.R Fm (i () h))
theorem Z4s {F:Nat} {a:(List Band)} {r:(List Rect)} (h:Q6e F a=some r) :
  Z6 Tryz.prog 240 [AL a] [] (AL r) []:=by
 refine FI Tryz.func240 Q2 Q4 fun C Fm=>?_
 unfold Q6e at h;refine Q0 Fm 1 [0] [] [] [] ?_
 refine G9 Fm [.m] (fun K=>True) [0] [(3,ow 3)] [] [(3,AO ([]:List Rect))] True.intro [(3,.arr 4 (0) (fun _=>[]))] ⟨OLe.is ((Is.nil (α:=Rect))),⟨⟩⟩ ?_;refine Z2 (r:=r) (fun z:(List Rect)=>Q8a F z) [3] (fun _=>[]) [] (fun z=>[(3,AO z)]) (fun j h=>?_) (fun M p=>?_)
 ·refine Q0 Fm 2 [] [(2,ow 3)] [3] [] ?_
  refine AW.ret ?_;obtain rfl:=Option.some.inj h
  refine W6 Fm [(2,ow 3)] [(3,AO j)] (by kernel_rfl) ?_;refine Kn.frz [(2,AL j)] [] (by kernel_rfl) (by kernel_rfl) (by kernel_rfl) ?_
  exact Kn.D Fm
 ·refine Q0 Fm 3 [3] [(8,AL a),(9,vi (lI a)),(10,vi 0)] [3] [] ?_
  refine AW.block (W6 Fm [(3,ow 3),(8,AL a),(9,vi (lI a)),(10,vi 0)] [(3,AO ([]:List Rect))] (by kernel_rfl) ?_);refine Z3 (E':=fun z=>[(3,ow 3),(8,AL a),(9,vi (lI a)),(10,vi z.1)]) (S':=fun z=>[(3,AO z.2)]) (fun k z H l h=>?_) h
  obtain ⟨b,i⟩:=z;refine Q0 Fm 1 [3,8,9,10] [(11,vb (decide (b<(lI a))))] [3] [] ?_
  refine AW.seq (Q5 h (fun q h=>?_) (fun q h=>?_))
  ·refine AW.skip (Z2 (r:=r) (fun z:(List Rect)=>Q8b F b k z) [3,8,9,10] (fun _=>[]) [] (fun z=>[(3,AO z)]) (fun G h=>?_) (fun L o=>?_))
   ·obtain ⟨E,h⟩:=gS h
    refine Q1 Fm [.s,.s] [3,8,9] [(10,vi (b+1))] [3] [] (cT (cT E)) ?_;exact Kn.R Fm (l ((b+1),G) h)
   ·refine AW.block ?_
    obtain ⟨u,h⟩:=gS h;refine Y6 Fm (sA 4 []) [3,8,9,10] [(5,pt 5)] [3] [(5,bx [ci ((gl a b.toNat).w_),ci ((gl a b.toNat).H_),.d (DL (gl a b.toNat).spans_)])] (cT u) ?_
    refine Q0 Fm 4 [3,5,8,9,10] [(15,AL (gl a b.toNat).spans_),(16,vi (lI ((gl a b.toNat).spans_))),(17,vi 0)] [3,5] [] ?_;refine AW.block (W6 Fm [(3,ow 3),(5,pt 5),(8,AL a),(9,vi (lI a)),(10,vi b),(15,AL (gl a b.toNat).spans_),(16,vi (lI ((gl a b.toNat).spans_))),(17,vi 0)] [(3,AO i),(5,bx [ci ((gl a b.toNat).w_),ci ((gl a b.toNat).H_),.d (DL (gl a b.toNat).spans_)])] (by kernel_rfl) ?_)
    refine Z3 (E':=fun z=>[(3,ow 3),(5,pt 5),(8,AL a),(9,vi (lI a)),(10,vi b),(15,AL (gl a b.toNat).spans_),(16,vi (lI ((gl a b.toNat).spans_))),(17,vi z.1)]) (S':=fun z=>[(3,AO z.2),(5,bx [ci ((gl a b.toNat).w_),ci ((gl a b.toNat).H_),.d (DL (gl a b.toNat).spans_)])]) (fun N z I n h=>?_) h;obtain ⟨c,e⟩:=z
    refine Q0 Fm 1 [3,5,8,9,10,15,16,17] [(18,vb (decide (c<(lI ((gl a b.toNat).spans_)))))] [3,5] [] ?_;refine AW.seq (Q5 h (fun t h=>?_) (fun t h=>?_))
    ·refine AW.skip (AW.seq (AW.block ?_))
     obtain ⟨y,h⟩:=gS h;refine Y6 Fm (sA 4 []) [3,5,8,9,10,15,16,17] [(7,pt 7)] [3,5] [(7,bx [ci ((gl ((gl a b.toNat).spans_) c.toNat).L_),ci ((gl ((gl a b.toNat).spans_) c.toNat).R_)])] (cT y) ?_
     obtain ⟨A,h⟩:=gS h;refine Q0I Fm (sA 10 [.w (AL [(⟨(gl ((gl a b.toNat).spans_) c.toNat).L_,(gl a b.toNat).w_,(gl ((gl a b.toNat).spans_) c.toNat).R_,(gl a b.toNat).H_⟩:Rect)]),.s,.s]) [5,8,9,10,15,16,17] [(3,ow 32)] [5] [(32,AO (e++([(⟨(gl ((gl a b.toNat).spans_) c.toNat).L_,(gl a b.toNat).w_,(gl ((gl a b.toNat).spans_) c.toNat).R_,(gl a b.toNat).H_⟩:Rect)]:List Rect)))] (cA (Z0I (⟨(gl ((gl a b.toNat).spans_) c.toNat).L_,(gl a b.toNat).w_,(gl ((gl a b.toNat).spans_) c.toNat).R_,(gl a b.toNat).H_⟩:Rect)) (cT (cA A (cT (lfl ([(⟨(gl ((gl a b.toNat).spans_) c.toNat).L_,(gl a b.toNat).w_,(gl ((gl a b.toNat).spans_) c.toNat).R_,(gl a b.toNat).H_⟩:Rect)]:List Rect)))))) [(32,rAp e ([(⟨(gl ((gl a b.toNat).spans_) c.toNat).L_,(gl a b.toNat).w_,(gl ((gl a b.toNat).spans_) c.toNat).R_,(gl a b.toNat).H_⟩:Rect)]:List Rect))] ⟨oAp,⟨⟩⟩ ?_
     obtain ⟨B,h⟩:=gS h;refine Q1 Fm [.s,.s] [3,5,8,9,10,15,16] [(17,vi (c+1))] [5,32] [] (cT (cT B)) ?_
     exact Q1f Fm [(3,32)] (n ((c+1),(e++([(⟨(gl ((gl a b.toNat).spans_) c.toNat).L_,(gl a b.toNat).w_,(gl ((gl a b.toNat).spans_) c.toNat).R_,(gl a b.toNat).H_⟩:Rect)]:List Rect))) h)
    ·exact AW.exit (Kn.R Fm (o e h))
  ·exact AW.exit (Kn.R Fm (p i h))
theorem Q9z {F:Nat} {b:(List Int)} {j:Int→Option (List Span)} {r:(List Rect)} (h:Q4w F b j=some r) :
  Z6 Tryz.prog 187 [AL b,.v (.c (.sem (Q0c Tryz.prog (Q5F j))))] [] (AL r) []:=by
 refine FI Tryz.func187 Q2 Q4 fun C Fm=>?_
 unfold Q4w at h;refine Q0 Fm 1 [0,1] [] [] [] ?_
 refine G9 Fm [.m] (fun K=>True) [0,1] [(5,ow 5)] [] [(5,AO ([]:List Band))] True.intro [(5,.arr 3 (0) (fun _=>[]))] ⟨OLe.is ((Is.nil (α:=Band))),⟨⟩⟩ ?_;refine Z2 (r:=r) (fun z:(List Band)=>Q5A F z) [5] (fun _=>[]) [] (fun z=>[(5,AO z)]) (fun E h=>?_) (fun j0 H=>?_)
 ·refine AW.seq (W6 Fm [(5,ow 5)] [(5,AO E)] (by kernel_rfl) ?_)
  refine Kn.frz [(5,AL E)] [] (by kernel_rfl) (by kernel_rfl) (by kernel_rfl) ?_;obtain ⟨c0,a0,h⟩:=bS h
  refine Q9 Fm [.s,.k _,.s] (fun K=>K 1∧True) [] [(4,AL c0)] [] [] ⟨Q3 (Z4s a0) Tryz.call240 [],⟨⟩⟩ ?_;refine AW.ret ?_
  obtain rfl:=Option.some.inj h;exact Kn.D Fm
 ·refine Q0 Fm 1 [0,1,5] [(6,vi 1)] [5] [] ?_
  refine AW.block (W6 Fm [(0,AL b),(1,.v (.c (.sem (Q0c Tryz.prog (Q5F j))))),(5,ow 5),(6,vi 1)] [(5,AO ([]:List Band))] (by kernel_rfl) ?_);refine Z3 (E':=fun z=>[(0,AL b),(1,.v (.c (.sem (Q0c Tryz.prog (Q5F j))))),(5,ow 5),(6,vi z.1)]) (S':=fun z=>[(5,AO z.2)]) (fun u z d0 G h=>?_) h
  obtain ⟨e,a⟩:=z;refine AW.seq (Q0 Fm 4 [0,1,5,6] [(12,vb (decide (e<(lI b))))] [5] [] ?_)
  refine Q5 h (fun I h=>?_) (fun I h=>?_)
  ·refine AW.skip (Z2 (r:=r) (fun z:(List Band)=>Q3a F e u z) [0,1,5,6] (fun _=>[]) [] (fun z=>[(5,AO z)]) (fun b0 h=>?_) (fun i0 y=>?_))
   ·obtain ⟨X,h⟩:=gS h
    refine Q1 Fm [.s,.s,.s] [0,1,5] [(6,vi (e+1))] [5] [] (cT (cT X)) ?_;exact Kn.R Fm (G ((e+1),b0) h)
   ·refine AW.block (AW.seq ?_)
    obtain ⟨M,N,O,P,h⟩:=gS4 h;obtain ⟨T,h⟩:=gS h
    obtain ⟨i,Y,h⟩:=bS h;refine Q9 Fm (sA 15 [.k (sE (AL i)),.s,.s,.s]) (fun K=>(_∧True)∧_∧_∧(_∧True)∧_∧K 15∧True) [0,1,5,6] [(7,pt 7)] [5] [(7,bx [ci (gl b (e-1).toNat),ci (gl b e.toNat),.d (DL i)])] ⟨⟨M,⟨⟩⟩,N,O,⟨P,⟨⟩⟩,T,KAt.sem (F:=(Q5F j)) (args:=[vi (gl b (e-1).toNat)]) ⟨(gl b (e-1).toNat),i,Y,rfl,rfl⟩ rfl (by kernel_rfl) (by kernel_rfl) (by kernel_rfl),⟨⟩⟩ ?_
    refine Q0 Fm 3 [0,1,5,6,7] [(8,vi (lI a))] [5,7] [] ?_;refine Z2 (r:=r) (fun z:Bool=>Q0M F b e a i u z) [0,1,5,6,7,8] (fun z=>[(57,vb z)]) [5,7] (fun _=>[]) (fun k0 h=>?_) (fun e0 o=>?_)
    ·refine Q5 h (fun L h=>?_) (fun L h=>?_)
     ·obtain ⟨V,q,h⟩:=gS2 h
      refine Q0I Fm (sA 8 []) [0,1,5,6] [] [] [(5,AO (List.set a ((lI a)-1).toNat (⟨(gl a ((lI a)-1).toNat).w_,(gl b e.toNat),(gl a ((lI a)-1).toNat).spans_⟩:Band)))] (cA (cT V) (cA q (cT (Z7 q)))) [(5,rSt a ((lI a)-1).toNat 1 [.int .i64 (gl b e.toNat)])] ⟨oSt (Z7 q),⟨⟩⟩ ?_;exact Kn.R Fm (y (List.set a ((lI a)-1).toNat (⟨(gl a ((lI a)-1).toNat).w_,(gl b e.toNat),(gl a ((lI a)-1).toNat).spans_⟩:Band)) h)
     ·obtain ⟨W,h⟩:=gS h
      refine Q0I Fm [.s,.s,.w (AL [(⟨(gl b (e-1).toNat),(gl b e.toNat),i⟩:Band)]),.s,.s] [0,1,6] [(5,ow 68)] [] [(68,AO (a++([(⟨(gl b (e-1).toNat),(gl b e.toNat),i⟩:Band)]:List Band)))] (cA (Z0I (⟨(gl b (e-1).toNat),(gl b e.toNat),i⟩:Band)) (cT (cA W (cT (lfl ([(⟨(gl b (e-1).toNat),(gl b e.toNat),i⟩:Band)]:List Band)))))) [(68,rAp a ([(⟨(gl b (e-1).toNat),(gl b e.toNat),i⟩:Band)]:List Band))] ⟨oAp,⟨⟩⟩ ?_;exact Q1f Fm [(5,68)] (y (a++([(⟨(gl b (e-1).toNat),(gl b e.toNat),i⟩:Band)]:List Band)) h)
    ·rcases Y7 h with ⟨l,h⟩|⟨l,h⟩
     ·obtain ⟨A,n,h⟩:=gS2 h
      rcases Y7 h with ⟨p,h⟩|⟨p,h⟩
      ·obtain ⟨U,B,h⟩:=gS2 h
       obtain ⟨t,Z,h⟩:=bS h;refine Q9 Fm [.s,.s,.w (vb true),.s,.s,.s,.s,.s,.s,.s,.s,.s,.s,.w (vb true),.s,.s,.s,.s,.s,.s,.s,.s,.k _,.s] (fun K=>_∧(_∧True)∧_∧_∧_∧(_∧True)∧_∧_∧K 22∧True) [0,1,5,6,7,8] [(37,ow 5),(38,vi (lI a)),(39,vi ((lI a)-1)),(40,.v (.c (.pte 5 3 (((lI a)-1).toNat) 0))),(41,.v (.c (.pte 5 3 (((lI a)-1).toNat) 1))),(42,vi (gl a ((lI a)-1).toNat).H_),(43,pt 7),(44,vi (gl b (e-1).toNat)),(45,vb (((gl a ((lI a)-1).toNat).H_)==(gl b (e-1).toNat))),(48,ow 5),(49,vi (lI a)),(50,vi ((lI a)-1)),(51,.v (.c (.pte 5 3 (((lI a)-1).toNat) 0))),(52,.v (.c (.pte 5 3 (((lI a)-1).toNat) 2))),(53,AL (gl a ((lI a)-1).toNat).spans_),(54,.v (.c (.ptr 7 2))),(55,AL i),(56,vb t),(57,vb t)] [5,7] [] ⟨ALe.bool l,⟨A,⟨⟩⟩,n,(Z7 n),ALe.bool p,⟨U,⟨⟩⟩,B,(Z7 B),Q3 (Z1a Z) Tryz.call239 [],⟨⟩⟩ ?_
       exact Kn.R Fm (o t h)
      ·refine Q1 Fm (sZ 10 [.s,.s,.w (vb true),.s,.s,.s,.s,.s,.s,.s,.s,.s,.s,.w (vb false)]) [0,1,5,6,7,8] [(37,ow 5),(38,vi (lI a)),(39,vi ((lI a)-1)),(40,.v (.c (.pte 5 3 (((lI a)-1).toNat) 0))),(41,.v (.c (.pte 5 3 (((lI a)-1).toNat) 1))),(42,vi (gl a ((lI a)-1).toNat).H_),(43,pt 7),(44,vi (gl b (e-1).toNat)),(45,vb (((gl a ((lI a)-1).toNat).H_)==(gl b (e-1).toNat))),(57,vb false)] [5,7] [] (cA (ALe.bool l) (cA (cT A) (cA n (cA (Z7 n) (cT (ALe.bool p)))))) ?_
       exact Kn.R Fm (o false h)
     ·refine Q1 Fm (sZ 21 [.s,.s,.w (vb false)]) [0,1,5,6,7,8] [(57,vb false)] [5,7] [] (cT (ALe.bool l)) ?_
      exact Kn.R Fm (o false h)
  ·exact AW.exit (Kn.R Fm (H a h))
theorem Q7b {F:Nat} {a:(List Rect)} {r:(List Rect)} (h:Q1g F a=some r) :
  Z6 Tryz.prog 186 [AL a] [] (AL r) []:=by
 refine FI Tryz.func186 Q2 Q4 fun C Fm=>?_
 unfold Q1g at h;refine Q0 Fm 2 [] [(1,pt 1)] [] [(1,bx [.d (DL a)])] ?_
 refine AW.seq ?_;obtain ⟨j,e,h⟩:=bS h
 obtain ⟨b,i,h⟩:=bS h;refine Q9 Fm [.s,.w (AL (α:=(List Rect)) ([a]:List (List Rect))),.k _,.s,.k (cE [] [1] (AL b) [] []),.s] (fun K=>(ALe (.v (.c (.d (.lst 1 (Z1g 1 [DL a]))))) (AL (α:=(List Rect)) ([a]:List (List Rect))))∧K 2∧K 4∧True) [] [(2,AL b)] [] [] ⟨ALe.lst (.lit ([a]:List (List Rect)) (by kernel_rfl)),Q3 (Z0p e) Tryz.call188 [],K4 (Q9z i) Tryz.call187 [] [1] [.tmp 5,.tmp 6] rfl (by kernel_rfl) (by kernel_rfl) (by kernel_rfl) ⟨.p,Q1T.cloX Tryz.call238 [[.d (DL a)]] (fun args r hq=>by obtain ⟨y0,y,hq,rfl,rfl⟩:=hq;exact Eq.mp (by kernel_rfl) (Z0n hq)) (fun args r hq=>by obtain ⟨y0,y,hq,rfl,rfl⟩:=hq;rfl) (by kernel_rfl) [1] (by kernel_rfl) (by kernel_rfl) (⟨⟨false,(by kernel_rfl)⟩,⟨⟩⟩) (by kernel_rfl),⟨⟩⟩,⟨⟩⟩ ?_
 refine AW.ret ?_;obtain rfl:=Option.some.inj h
 exact Kn.D Fm
theorem Z1b {F:Nat} {c:(List Rect)} {d:(List Rect)} {r:Bool} (h:Q1C F c d=some r) :
  Z6 Tryz.prog 185 [AL c,AL d] [] (vb r) []:=by
 refine FI Tryz.func185 Q2 Q4 fun C Fm=>?_
 unfold Q1C at h;refine Q0 Fm 1 [0,1] [] [] [] ?_
 refine AW.seq (Q0 Fm 5 [0,1] [(10,vb ((lI c) != (lI d)))] [] [] ?_);refine Q5 h (fun j h=>?_) (fun j h=>?_)
 ·refine Q0 Fm 1 [] [(4,vb false)] [] [] ?_
  refine AW.ret ?_;obtain rfl:=Option.some.inj h
  exact Kn.D Fm
 ·refine AW.skip (Z2 (r:=r) (fun z:Unit=>Q7L F) [] (fun _=>[]) [] (fun _=>[]) (fun z h=>?_) (fun t i=>?_))
  ·refine Q0 Fm 1 [] [(4,vb true)] [] [] ?_
   refine AW.ret ?_;obtain rfl:=Option.some.inj h
   exact Kn.D Fm
  ·refine Q0 Fm 3 [0,1] [(12,vi (lI c)),(13,vi 0)] [] [] ?_
   refine AW.block (W6 Fm [(0,AL c),(1,AL d),(12,vi (lI c)),(13,vi 0)] [] (by kernel_rfl) ?_);refine Z3 (E':=fun z=>[(0,AL c),(1,AL d),(12,vi (lI c)),(13,vi z)]) (S':=fun z=>[]) (fun u a q e h=>?_) h
   refine Q0 Fm 1 [0,1,12,13] [(14,vb (decide (a<(lI c))))] [] [] ?_;refine AW.seq (Q5 h (fun l h=>?_) (fun l h=>?_))
   ·refine AW.skip (AW.seq (AW.block (Q0 Fm 2 [0,1,12,13] [(5,vi a)] [] [] ?_)))
    obtain ⟨n,o,h⟩:=gS2 h;refine Q3x Fm (sA 8 [.k (sE (vb (!((((gl c a.toNat).L_)==((gl d a.toNat).L_))&&((((gl c a.toNat).w_)==((gl d a.toNat).w_))&&((((gl c a.toNat).R_)==((gl d a.toNat).R_))&&((((gl c a.toNat).H_)==((gl d a.toNat).H_))&&true)))))))]) (fun K=>_∧_∧K 8∧True) [0,1,12,13] [(24,vb (!((((gl c a.toNat).L_)==((gl d a.toNat).L_))&&((((gl c a.toNat).w_)==((gl d a.toNat).w_))&&((((gl c a.toNat).R_)==((gl d a.toNat).R_))&&((((gl c a.toNat).H_)==((gl d a.toNat).H_))&&true))))))] [] [] ⟨n,o,Y1a (xs:=[ci ((gl c a.toNat).L_),ci ((gl c a.toNat).w_),ci ((gl c a.toNat).R_),ci ((gl c a.toNat).H_)]) (ys:=[ci ((gl d a.toNat).L_),ci ((gl d a.toNat).w_),ci ((gl d a.toNat).R_),ci ((gl d a.toNat).H_)]) Y3K false (b:=((((gl c a.toNat).L_)==((gl d a.toNat).L_))&&((((gl c a.toNat).w_)==((gl d a.toNat).w_))&&((((gl c a.toNat).R_)==((gl d a.toNat).R_))&&((((gl c a.toNat).H_)==((gl d a.toNat).H_))&&true))))) rfl rfl (by kernel_rfl) (by kernel_rfl) (by kernel_rfl) (by kernel_rfl),⟨⟩⟩ ?_
    refine Q5 h (fun m h=>?_) (fun m h=>?_)
    ·refine Q0 Fm 1 [] [(4,vb false)] [] [] ?_
     refine AW.ret ?_;obtain rfl:=Option.some.inj h
     exact Kn.D Fm
    ·refine AW.skip ?_
     obtain ⟨p,h⟩:=gS h;refine Q1 Fm [.s,.s] [0,1,12] [(13,vi (a+1))] [] [] (cT (cT p)) ?_
     exact Kn.R Fm (e (a+1) h)
   ·exact AW.exit (Kn.R Fm (i () h))
theorem q9 {F:Nat} {a:Re_} {r:Bool} (h:Q0Y F a=some r) :
  Z6 Tryz.prog 94 [.v (.g [.d (DL a.t_)])] [] (vb r) []:=by
 refine FI Tryz.func94 Q2 Q4 fun C Fm=>?_
 unfold Q0Y at h;refine Q0 Fm 2 [] [(1,pt 1)] [] [(1,bx [.d (DL a.t_)])] ?_
 refine AW.seq (Z2 (r:=r) (fun z:Bool=>Q5x F a z) [1] (fun z=>[(11,vb z)]) [1] (fun _=>[]) (fun q h=>?_) (fun o e=>?_))
 ·refine Q5 h (fun i h=>?_) (fun i h=>?_)
  ·refine Q0 Fm 1 [] [(2,vb false)] [] [] ?_
   refine AW.ret ?_;obtain rfl:=Option.some.inj h
   exact Kn.D Fm
  ·refine AW.skip (AW.seq ?_)
   obtain ⟨t,l,h⟩:=bS h;obtain ⟨n,m,h⟩:=bS h
   refine Q9 Fm [.s,.s,.k _,.s,.s,.k _,.s] (fun K=>K 2∧K 5∧True) [] [(2,vb n)] [] [] ⟨Q3 (Q7b l) Tryz.call186 [],Q3 (Z1b m) Tryz.call185 [],⟨⟩⟩ ?_;refine AW.ret ?_
   obtain rfl:=Option.some.inj h;exact Kn.D Fm
 ·rcases Y7 h with ⟨b,h⟩|⟨b,h⟩
  ·refine Q1 Fm (sA 4 [.w (vb true),.s,.s,.s,.s]) [1] [(11,vb true)] [1] [] (cT (ALe.bool b)) ?_
   exact Kn.R Fm (e true h)
  ·obtain ⟨c,j,h⟩:=bS h
   refine Q9 Fm (sA 4 [.w (vb false),.s,.s,.k (cE [] [] (vb c) [] []),.s]) (fun K=>_∧K 7∧True) [1] [(11,vb c)] [1] [] ⟨ALe.bool b,K4 (Q0B j) Tryz.call182 [] [] [.tmp 9,.func 183] rfl (by kernel_rfl) (by kernel_rfl) (by kernel_rfl) ⟨.p,Q1T.cloX Tryz.call183 [] (fun args r hq=>by obtain ⟨y0,y,hq,rfl,rfl⟩:=hq;exact Eq.mp (by kernel_rfl) (Z2Z hq)) (fun args r hq=>by obtain ⟨y0,y,hq,rfl,rfl⟩:=hq;rfl) (by kernel_rfl) [] (by kernel_rfl) (by kernel_rfl) (True.intro) (by kernel_rfl),⟨⟩⟩,⟨⟩⟩ ?_;exact Kn.R Fm (e c h)
theorem Z3g {F:Nat} {a:Rg_} {r:Int} (h:Q4o F a=some r) :
  Z6 Tryz.prog 105 [gE a] [] (vi r) []:=by
 refine FI Tryz.func105 Q2 Q4 fun C Fm=>?_
 unfold Q4o at h;refine Q0 Fm 2 [] [(1,pt 1)] [] [(1,bx (gC a))] ?_
 refine AW.seq (AW.block (Z2 (r:=r) (fun z:Bool=>Q1R F a z) [1] (fun z=>[(3,vb z)]) [1] (fun _=>[]) (fun y h=>?_) (fun q e=>?_)))
 ·refine Q5 h (fun m h=>?_) (fun m h=>?_)
  ·refine Q0 Fm 1 [] [(2,vi 18)] [] [] ?_
   refine AW.ret ?_;obtain rfl:=Option.some.inj h
   exact Kn.D Fm
  ·refine Z2 (r:=r) (fun z:Bool=>Q1Q F a z) [1] (fun z=>[(12,vb z)]) [1] (fun _=>[]) (fun A h=>?_) (fun t i=>?_)
   ·refine Q5 h (fun n h=>?_) (fun n h=>?_)
    ·refine Q0 Fm 1 [] [(2,vi 13)] [] [] ?_
     refine AW.ret ?_;obtain rfl:=Option.some.inj h
     exact Kn.D Fm
    ·refine Z2 (r:=r) (fun z:Bool=>Q3F F z) [] (fun z=>[(21,vb z)]) [] (fun _=>[]) (fun B h=>?_) (fun u j=>?_)
     ·refine Q5 h (fun o h=>?_) (fun o h=>?_)
      ·refine Q0 Fm 1 [] [(2,vi 7)] [] [] ?_
       refine AW.ret ?_;obtain rfl:=Option.some.inj h
       exact Kn.D Fm
      ·refine AW.skip (Q0 Fm 1 [] [(2,vi 0)] [] [] ?_)
       refine AW.ret ?_;obtain rfl:=Option.some.inj h
       exact Kn.D Fm
     ·rcases Y7 h with ⟨d,h⟩|⟨d,h⟩
      ·refine Q1 Fm (sA 5 (sZ 6 [.w (vb true)])) [] [(21,vb true)] [] [] (cT (ALe.bool d)) ?_
       exact Kn.R Fm (j true h)
      ·obtain ⟨l,p,h⟩:=bS h
       refine Q9 Fm (sA 5 [.w (vb false),.s,.s,.k _,.s,.s,.s]) (fun K=>_∧K 8∧True) [] [(21,vb (!l))] [] [] ⟨ALe.bool d,Q3 (q9 p) Tryz.call94 [],⟨⟩⟩ ?_;exact Kn.R Fm (j (!l) h)
   ·rcases Y7 h with ⟨c,h⟩|⟨c,h⟩
    ·refine Q1 Fm (sZ 5 [.s,.s,.s,.w (vb true)]) [1] [(12,vb true)] [1] [] (cT (ALe.bool c)) ?_
     exact Kn.R Fm (i true h)
    ·refine Q1 Fm (sZ 5 [.s,.s,.s,.w (vb false)]) [1] [(12,vb (decide ((40:Int)≤a.c_)))] [1] [] (cT (ALe.bool c)) ?_
     exact Kn.R Fm (i (decide ((40:Int)≤a.c_)) h)
 ·rcases Y7 h with ⟨b,h⟩|⟨b,h⟩
  ·refine Q1 Fm (sZ 5 [.s,.s,.s,.w (vb true)]) [1] [(3,vb true)] [1] [] (cT (ALe.bool b)) ?_
   exact Kn.R Fm (e true h)
  ·refine Q1 Fm (sZ 5 [.s,.s,.s,.w (vb false)]) [1] [(3,vb (decide ((100:Int)<a.y_)))] [1] [] (cT (ALe.bool b)) ?_
   exact Kn.R Fm (e (decide ((100:Int)<a.y_)) h)
theorem Z6h {F:Nat} {a:(List Int)} {r:Int} (h:Q9s F a=some r) :
  Z6 Tryz.prog 196 [AL a] [] (vi r) []:=by
 refine FI Tryz.func196 Q2 Q4 fun C Fm=>?_
 unfold Q9s at h;refine Q0 Fm 1 [0] [] [] [] ?_
 refine Q0 Fm 1 [0] [(3,vi 0)] [] [] ?_;refine Z2 (r:=r) (fun z:Unit=>Z3F F) [3] (fun _=>[]) [] (fun _=>[]) (fun z h=>?_) (fun m d=>?_)
 ·refine Q0 Fm 2 [] [(2,vi 0)] [] [] ?_
  refine AW.ret ?_;obtain rfl:=Option.some.inj h
  exact Kn.D Fm
 ·refine Q0 Fm 3 [3] [(6,AL a),(7,vi (lI a)),(8,vi 0)] [] [] ?_
  refine AW.block (W6 Fm [(3,vi 0),(6,AL a),(7,vi (lI a)),(8,vi 0)] [] (by kernel_rfl) ?_);refine Z3 (E':=fun z=>[(3,vi 0),(6,AL a),(7,vi (lI a)),(8,vi z)]) (S':=fun z=>[]) (fun n b l c h=>?_) h
  refine Q0 Fm 1 [3,6,7,8] [(9,vb (decide (b<(lI a))))] [] [] ?_;refine AW.seq (Q5 h (fun e h=>?_) (fun e h=>?_))
  ·refine AW.skip (AW.seq (AW.block ?_))
   obtain ⟨j,h⟩:=gS h;refine Y6 Fm [.s,.s,.s] [3,6,7,8] [(5,vi (gl a b.toNat))] [] [] (cT j) ?_
   refine Q0 Fm 3 [3,5,6,7,8] [(14,vb ((gl a b.toNat) != (0:Int)))] [] [] ?_;refine Q5 h (fun i h=>?_) (fun i h=>?_)
   ·refine Q0 Fm 2 [] [(2,vi (gl a b.toNat))] [] [] ?_
    refine AW.ret ?_;obtain rfl:=Option.some.inj h
    exact Kn.D Fm
   ·refine AW.skip ?_
    obtain ⟨k,h⟩:=gS h;refine Q1 Fm [.s,.s] [3,6,7] [(8,vi (b+1))] [] [] (cT (cT k)) ?_
    exact Kn.R Fm (c (b+1) h)
  ·exact AW.exit (Kn.R Fm (d () h))
theorem Z2C {F:Nat} {e:Rg_} {i:Rg_} {r:Int} (h:Q3d F e i=some r) :
  Z6 Tryz.prog 104 [gE e,gE i] [] (vi r) []:=by
 refine FI Tryz.func104 Q2 Q4 fun C Fm=>?_
 unfold Q3d at h;refine Q0 Fm 3 [] [(2,pt 2),(3,pt 3)] [] [(2,bx (gC e)),(3,bx (gC i))] ?_
 refine AW.seq ?_;obtain ⟨a,j,h⟩:=bS h
 obtain ⟨b,l,h⟩:=bS h;obtain ⟨n,m,h⟩:=bS h
 refine Q9 Fm (sA 4 [.k _,.s,.s,.s,.s,.k _,.w (AL ([a,b]:List Int)),.k _,.s]) (fun K=>K 4∧K 9∧(ALe (.v (.c (.d (.lst 2 (Z1g 1 [.int .i64 a,.int .i64 b]))))) (AL ([a,b]:List Int)))∧K 11∧True) [] [(4,vi n)] [] [] ⟨Q3 (Q4r j) Tryz.call197 [],Q3 (Q4r l) Tryz.call197 [],ALe.lst (.lit ([a,b]:List Int) (by kernel_rfl)),Q3 (Z6h m) Tryz.call196 [],⟨⟩⟩ ?_;refine AW.ret ?_
 obtain rfl:=Option.some.inj h;exact Kn.D Fm
theorem Z4b {F:Nat} {a:(List Rg_)} {r:(List (Int×(List Rg_)))} (h:Q7F F a=some r) :
  Z6 Tryz.prog 106 [AL a] [] (.v (.c (.d (MP r)))) []:=by
 refine FI Tryz.func106 Q2 Q4 fun C Fm=>?_
 unfold Q7F at h;refine Q0 Fm 1 [0] [] [] [] ?_
 refine Q3x Fm [.k (rE { v:=.v (.c (.own 6)),new:=some (.ext (Z7O Tryz.prog 3 27 [])) }),.s] (fun K=>K 0∧True) [0] [(3,ow 6)] [] [(6,.ext (Z7O Tryz.prog 3 27 ([]:List Int)))] ⟨Y2z (kT:=3) (eT:=27) rfl rfl (by kernel_rfl),⟨⟩⟩ ?_;refine Z2 (r:=r) (fun z:(List (Int×(List Rg_)))=>Z0N F z) [3] (fun _=>[]) [] (fun z=>[(956,.exr [6] (Q6J z none))]) (fun A h=>?_) (fun E l=>?_)
 ·refine Q0 Fm 2 [] [(2,ow 6)] [956] [] ?_
  refine AW.ret (W6 Fm [(2,ow 6)] [(956,.exr [6] (Q6J A none))] (by kernel_rfl) ?_);refine Y6d (by kernel_rfl) ?_
  obtain rfl:=Option.some.inj h;exact Kn.D Fm
 ·refine Q0 Fm 3 [3] [(7,AL a),(8,vi (lI a)),(9,vi 0)] [6] [] ?_
  refine AW.block (W6 Fm [(3,ow 6),(7,AL a),(8,vi (lI a)),(9,vi 0)] [(6,.ext (Z7O Tryz.prog 3 27 ([]:List Int)))] (by kernel_rfl) ?_);refine Y5l Fm Rg_ (g:=956) (by kernel_rfl) (by kernel_rfl) (by kernel_rfl) ?_
  refine W6 Fm [(3,ow 6),(7,AL a),(8,vi (lI a)),(9,vi 0)] [(956,.exr [6] (Q6J ([]:List (Int×(List Rg_))) none))] (by kernel_rfl) ?_;refine W6 Fm [(3,ow 6),(7,AL a),(8,vi (lI a)),(9,vi 0)] [(956,.exr [6] (Q6J ([]:List (Int×(List Rg_))) none))] (by kernel_rfl) ?_
  refine Z3 (E':=fun z=>[(3,ow 6),(7,AL a),(8,vi (lI a)),(9,vi z.1)]) (S':=fun z=>[(956,.exr [6] (Q6J z.2 none))]) (fun G z B i h=>?_) h;obtain ⟨b,e⟩:=z
  refine Q0 Fm 1 [3,7,8,9] [(10,vb (decide (b<(lI a))))] [956] [] ?_;refine AW.seq (Q5 h (fun n h=>?_) (fun n h=>?_))
  ·refine AW.skip (AW.seq (AW.block ?_))
   obtain ⟨o,h⟩:=gS h;refine Y6 Fm (sA 4 []) [3,7,8,9] [(5,pt 5)] [956] [(5,bx [ci ((gl a b.toNat).y_),ci ((gl a b.toNat).c_),.d (DL (gl a b.toNat).g_.t_)])] (cT o) ?_
   obtain ⟨p,h⟩:=gS h;refine Q9 Fm (sA 6 [.k (xE [956] { v:=.v (.c (.cp 956 (1+Q0f ((gl a b.toNat).y_) e))) }),.s,.w (AL [(gl a b.toNat)]),.k (xE [956] { v:=.v (.c (.cp 22 (1+Q0f ((gl a b.toNat).y_) e))),del:=[956],new:=some (.exr [6] (Q6J (gApp ((gl a b.toNat).y_) ([(gl a b.toNat)]:List Rg_) e) (some (Q0f ((gl a b.toNat).y_) e)))) }),.k (xE [] { upd:=some (22,.exr [6] (Q6J (gApp ((gl a b.toNat).y_) ([(gl a b.toNat)]:List Rg_) e) none)) })]) (fun K=>K 6∧_∧K 9∧K 10∧True) [3,7,8,9] [] [] [(22,.exr [6] (Q6J (gApp ((gl a b.toNat).y_) ([(gl a b.toNat)]:List Rg_) e) none))] ⟨Y2B (gs:=e) (base:=6) (g:=956) (t:=128) (kT:=3) (eT:=27) (y:=(gl a b.toNat).y_) (by kernel_rfl) (by kernel_rfl) Go.Proofs.Tryz.zeroValue27 rfl rfl (by kernel_rfl) (by kernel_rfl) (by kernel_rfl) (by kernel_rfl),Z0I (gl a b.toNat),KAt.gApp (gs:=e) (m:=([(gl a b.toNat)]:List Rg_)) (base:=6) (g:=956) (d:=22) (y:=(gl a b.toNat).y_) Q4 Y2V rfl rfl rfl (by kernel_rfl) (by kernel_rfl) (by kernel_rfl) (by kernel_rfl) (by decide) (by kernel_rfl) p,(by obtain ⟨q,hq1,hq2⟩:=Y4R (y:=(gl a b.toNat).y_) (gs:=e) (m:=_);exact Y4j (gs:=(gApp ((gl a b.toNat).y_) ([(gl a b.toNat)]:List Rg_) e)) (base:=6) (g:=22) (j:=Q0f ((gl a b.toNat).y_) e) (t:=128) (kT:=3) (eT:=27) (y:=(gl a b.toNat).y_) (by kernel_rfl) (by kernel_rfl) rfl rfl (by kernel_rfl) (by kernel_rfl) (by kernel_rfl) (by kernel_rfl) (by kernel_rfl) hq1 hq2),⟨⟩⟩ ?_
   obtain ⟨u,h⟩:=gS h;refine Q1 Fm [.s,.s] [3,7,8] [(9,vi (b+1))] [22] [] (cT (cT u)) ?_
   exact Q1f Fm [(956,22)] (i ((b+1),(gApp ((gl a b.toNat).y_) ([(gl a b.toNat)]:List Rg_) e)) h)
  ·exact AW.exit (Kn.R Fm (l e h))
theorem Z2Y {F:Nat} {b:Rect} {c:Rect} {r:Bool} (h:Q3P F b c=some r) :
  Z6 Tryz.prog 200 [gE b,gE c] [] (vb r) []:=by
 refine FI Tryz.func200 Q2 Q4 fun C Fm=>?_
 unfold Q3P at h;refine Q0 Fm 3 [] [(2,pt 2),(3,pt 3)] [] [(2,bx (gC b)),(3,bx (gC c))] ?_
 refine Z2 (r:=r) (fun z:Bool=>q8 F z) [] (fun z=>[(4,vb z)]) [] (fun _=>[]) (fun k h=>?_) (fun j d=>?_)
 ·refine AW.ret ?_
  obtain rfl:=Option.some.inj h;exact Kn.D Fm
 ·rcases Y7 h with ⟨a,h⟩|⟨a,h⟩
  ·rcases Y7 h with ⟨e,h⟩|⟨e,h⟩
   ·rcases Y7 h with ⟨i,h⟩|⟨i,h⟩
    ·refine Q1 Fm (sA 5 (sZ 7 [.w (vb true),.s,.s,.s,.s,.s,.s,.w (vb true),.s,.s,.s,.s,.s,.s,.w (vb true)])) [] [(4,vb (decide (c.w_<b.H_)))] [] [] (cA (ALe.bool a) (cA (ALe.bool e) (cT (ALe.bool i)))) ?_
     exact Kn.R Fm (d (decide (c.w_<b.H_)) h)
    ·refine Q1 Fm (sA 5 (sZ 7 [.w (vb true),.s,.s,.s,.s,.s,.s,.w (vb true),.s,.s,.s,.s,.s,.s,.w (vb false)])) [] [(4,vb false)] [] [] (cA (ALe.bool a) (cA (ALe.bool e) (cT (ALe.bool i)))) ?_
     exact Kn.R Fm (d false h)
   ·refine Q1 Fm (sA 5 (sZ 14 [.w (vb true),.s,.s,.s,.s,.s,.s,.w (vb false)])) [] [(4,vb false)] [] [] (cA (ALe.bool a) (cT (ALe.bool e))) ?_
    exact Kn.R Fm (d false h)
  ·refine Q1 Fm (sA 5 (sZ 21 [.w (vb false)])) [] [(4,vb false)] [] [] (cT (ALe.bool a)) ?_
   exact Kn.R Fm (d false h)
theorem Z1H {F:Nat} {a:Rect} {b:Rect} {r:Bool} (h:Q4u F a b=some r) :
  Z6 Tryz.prog 199 [gE a,pt 0] [(0,.box true (gC b))] (vb r) [(0,.box true (gC b))]:=by
 refine FI Tryz.func199 Q2 Q4 fun C Fm=>?_
 unfold Q4u at h;refine Q0 Fm 2 [1] [(2,pt 2)] [0] [(2,bx (gC a))] ?_
 refine AW.seq ?_;obtain ⟨d,c,h⟩:=bS h
 refine Q9 Fm [.s,.s,.k _,.s] (fun K=>K 2∧True) [] [(3,vb d)] [0] [] ⟨Q3 (Z2Y c) Tryz.call200 [],⟨⟩⟩ ?_;refine AW.ret ?_
 obtain rfl:=Option.some.inj h;exact Kn.D Fm
theorem Z3a {F:Nat} {a:Rect} {b:Re_} {r:Bool} (h:Q6i F a b=some r) :
  Z6 Tryz.prog 198 [gE a,pt 0] [(0,.box true [.d (DL b.t_)])] (vb r) [(0,.box true [.d (DL b.t_)])]:=by
 refine FI Tryz.func198 Q2 Q4 fun C Fm=>?_
 unfold Q6i at h;refine Q0 Fm 2 [1] [(2,pt 2)] [0] [(2,bx (gC a))] ?_
 refine AW.seq ?_;obtain ⟨c,e,h⟩:=bS h
 refine Q9 Fm [.s,.s,.s,.k (cE [] [2] (vb c) [] []),.s] (fun K=>K 3∧True) [] [(3,vb c)] [0] [] ⟨K4 (Q0B e) Tryz.call182 [] [2] [.tmp 5,.tmp 6] rfl (by kernel_rfl) (by kernel_rfl) (by kernel_rfl) ⟨.p,Q1T.cloX Tryz.call199 [[ci a.L_,ci a.w_,ci a.R_,ci a.H_]] (fun args r hq=>by obtain ⟨y0,y,hq,rfl,rfl⟩:=hq;exact Eq.mp (by kernel_rfl) (Z1H hq)) (fun args r hq=>by obtain ⟨y0,y,hq,rfl,rfl⟩:=hq;rfl) (by kernel_rfl) [2] (by kernel_rfl) (by kernel_rfl) (⟨⟨false,(by kernel_rfl)⟩,⟨⟩⟩) (by kernel_rfl),⟨⟩⟩,⟨⟩⟩ ?_;refine AW.ret ?_
 obtain rfl:=Option.some.inj h;exact Kn.D Fm
theorem Q9y {F:Nat} {j:Re_} {b:Re_} {r:Bool} (h:Q4v F j b=some r) :
  Z6 Tryz.prog 108 [.v (.g [.d (DL j.t_)]),.v (.g [.d (DL b.t_)])] [] (vb r) []:=by
 refine FI Tryz.func108 Q2 Q4 fun C Fm=>?_
 unfold Q4v at h;refine Q0 Fm 3 [] [(2,pt 2),(3,pt 3)] [] [(2,bx [.d (DL j.t_)]),(3,bx [.d (DL b.t_)])] ?_
 refine Z2 (r:=r) (fun z:Bool=>Q5y F z) [] (fun z=>[(4,vb z)]) [] (fun _=>[]) (fun q h=>?_) (fun o c=>?_)
 ·refine AW.ret ?_
  obtain rfl:=Option.some.inj h;exact Kn.D Fm
 ·obtain ⟨t,i,h⟩:=bS h
  rcases Y7 h with ⟨a,h⟩|⟨a,h⟩
  ·obtain ⟨u,m,h⟩:=bS h
   rcases Y7 h with ⟨e,h⟩|⟨e,h⟩
   ·obtain ⟨l,n,h⟩:=bS h
    refine Q9 Fm [.s,.k _,.w (vb true),.s,.k _,.s,.w (vb true),.s,.s,.s,.k (cE [] [3] (vb l) [] []),.s,.s] (fun K=>K 1∧_∧K 4∧_∧K 10∧True) [] [(4,vb l)] [] [] ⟨Q3 (q9 i) Tryz.call94 [],ALe.bool a,Q3 (q9 m) Tryz.call94 [],ALe.bool e,K4 (Q0B n) Tryz.call182 [] [3] [.tmp 13,.tmp 14] rfl (by kernel_rfl) (by kernel_rfl) (by kernel_rfl) ⟨.p,Q1T.cloX Tryz.call198 [[.d (DL b.t_)]] (fun args r hq=>by obtain ⟨y0,y,hq,rfl,rfl⟩:=hq;exact Eq.mp (by kernel_rfl) (Z3a hq)) (fun args r hq=>by obtain ⟨y0,y,hq,rfl,rfl⟩:=hq;rfl) (by kernel_rfl) [3] (by kernel_rfl) (by kernel_rfl) (⟨⟨false,(by kernel_rfl)⟩,⟨⟩⟩) (by kernel_rfl),⟨⟩⟩,⟨⟩⟩ ?_;exact Kn.R Fm (c l h)
   ·refine Q9 Fm (sZ 6 [.s,.k _,.w (vb true),.s,.k _,.s,.w (vb false)]) (fun K=>K 1∧_∧K 4∧_∧True) [] [(4,vb false)] [] [] ⟨Q3 (q9 i) Tryz.call94 [],ALe.bool a,Q3 (q9 m) Tryz.call94 [],ALe.bool e,⟨⟩⟩ ?_
    exact Kn.R Fm (c false h)
  ·refine Q9 Fm (sZ 10 [.s,.k _,.w (vb false)]) (fun K=>K 1∧_∧True) [] [(4,vb false)] [] [] ⟨Q3 (q9 i) Tryz.call94 [],ALe.bool a,⟨⟩⟩ ?_
   exact Kn.R Fm (c false h)
theorem Z2D {F:Nat} {a:Rg_} {b:Rg_} {r:Bool} (h:Q5D F a b=some r) :
  Z6 Tryz.prog 107 [gE a,pt 0] [(0,.box true (gC b))] (vb r) [(0,.box true (gC b))]:=by
 refine FI Tryz.func107 Q2 Q4 fun C Fm=>?_
 unfold Q5D at h;refine Q0 Fm 2 [1] [(2,pt 2)] [0] [(2,bx (gC a))] ?_
 refine AW.seq ?_;obtain ⟨d,c,h⟩:=bS h
 refine Q9 Fm (sA 4 [.k _,.s]) (fun K=>K 4∧True) [] [(3,vb d)] [0] [] ⟨Q3 (Q9y c) Tryz.call108 [],⟨⟩⟩ ?_;refine AW.ret ?_
 obtain rfl:=Option.some.inj h;exact Kn.D Fm
theorem Q7Z {F:Nat} {a:(List Rg_)} {e:Rg_→Option Bool} {r:Int} (h:y6 F a e=some r) :
  Z6 Tryz.prog 193 [AL a,.v (.c (.sem (Q0c Tryz.prog (Q4s e))))] [] (vi r) []:=by
 refine FI Tryz.func193 Q2 Q4 fun C Fm=>?_
 unfold y6 at h;refine Q0 Fm 1 [0,1] [] [] [] ?_
 refine Z2 (r:=r) (fun z:Unit=>Q3K F) [] (fun _=>[]) [] (fun _=>[]) (fun z h=>?_) (fun u l=>?_)
 ·refine Q0 Fm 1 [] [(4,vi (-1:Int))] [] [] ?_
  refine AW.ret ?_;obtain rfl:=Option.some.inj h
  exact Kn.D Fm
 ·refine Q0 Fm 3 [0,1] [(7,vi (lI a)),(8,vi 0)] [] [] ?_
  refine AW.block (W6 Fm [(0,AL a),(1,.v (.c (.sem (Q0c Tryz.prog (Q4s e))))),(7,vi (lI a)),(8,vi 0)] [] (by kernel_rfl) ?_);refine Z3 (E':=fun z=>[(0,AL a),(1,.v (.c (.sem (Q0c Tryz.prog (Q4s e))))),(7,vi (lI a)),(8,vi z)]) (S':=fun z=>[]) (fun w b t j h=>?_) h
  refine Q0 Fm 1 [0,1,7,8] [(9,vb (decide (b<(lI a))))] [] [] ?_;refine AW.seq (Q5 h (fun m h=>?_) (fun m h=>?_))
  ·refine AW.skip (AW.seq (AW.block (Q0 Fm 2 [0,1,7,8] [(5,vi b)] [] [] ?_)))
   refine AW.seq ?_;obtain ⟨o,h⟩:=gS h
   obtain ⟨i,q,h⟩:=bS h;refine Q9 Fm (sA 5 [.k (sE (vb i))]) (fun K=>_∧K 5∧True) [0,1,5,7,8] [(16,vb i)] [] [] ⟨o,KAt.sem (F:=(Q4s e)) (args:=[.v (.g [ci ((gl a b.toNat).y_),ci ((gl a b.toNat).c_),.d (DL (gl a b.toNat).g_.t_)])]) ⟨(gl a b.toNat),i,q,rfl,rfl⟩ rfl (by kernel_rfl) (by kernel_rfl) (by kernel_rfl),⟨⟩⟩ ?_
   refine Q5 h (fun n h=>?_) (fun n h=>?_)
   ·refine Q0 Fm 2 [] [(4,vi b)] [] [] ?_
    refine AW.ret ?_;obtain rfl:=Option.some.inj h
    exact Kn.D Fm
   ·refine AW.skip ?_
    obtain ⟨p,h⟩:=gS h;refine Q1 Fm [.s,.s] [0,1,7] [(8,vi (b+1))] [] [] (cT (cT p)) ?_
    exact Kn.R Fm (j (b+1) h)
  ·exact AW.exit (Kn.R Fm (l () h))
theorem Q2c {F:Nat} {a:(List Rg_)} {b:Rg_→Option Bool} {r:Bool} (h:U5 F a b=some r) :
  Z6 Tryz.prog 101 [AL a,.v (.c (.sem (Q0c Tryz.prog (Q4s b))))] [] (vb r) []:=by
 refine FI Tryz.func101 Q2 Q4 fun C Fm=>?_
 unfold U5 at h;refine Q0 Fm 1 [0,1] [] [] [] ?_
 refine AW.seq ?_;obtain ⟨d,e,h⟩:=bS h
 refine Q9 Fm [.s,.s,.k (cE [] [] (vi d) [] []),.s,.s] (fun K=>K 2∧True) [] [(4,vb (decide ((0:Int)≤d)))] [] [] ⟨K4 (Q7Z e) Tryz.call193 [] [] [.tmp 5,.tmp 6] rfl (by kernel_rfl) (by kernel_rfl) (by kernel_rfl) ⟨.p,Q1T.semX (by kernel_rfl) (by kernel_rfl) (by kernel_rfl),⟨⟩⟩,⟨⟩⟩ ?_;refine AW.ret ?_
 obtain rfl:=Option.some.inj h;exact Kn.D Fm
theorem Z4e {F:Nat} {e:(List Rg_)} {r:Int} (h:Q5r F e=some r) :
  Z6 Tryz.prog 18 [AL e] [] (vi r) []:=by
 refine FI Tryz.func18 Q2 Q4 fun C Fm=>?_
 unfold Q5r at h;refine Q0 Fm 1 [0] [] [] [] ?_
 refine AW.seq (Q0 Fm 3 [0] [(12,vb (decide ((200:Int)<(lI e))))] [] [] ?_);refine Q5 h (fun T h=>?_) (fun T h=>?_)
 ·refine Q0 Fm 1 [] [(2,vi 1)] [] [] ?_
  refine AW.ret ?_;obtain rfl:=Option.some.inj h
  exact Kn.D Fm
 ·refine AW.skip (Z2 (r:=r) (fun z:Unit=>Q4K F e) [0] (fun _=>[]) [] (fun _=>[]) (fun z h=>?_) (fun q0 M=>?_))
  ·refine Z2 (r:=r) (fun z:Unit=>Z0P F) [] (fun _=>[]) [] (fun _=>[]) (fun z h=>?_) (fun u0 P=>?_)
   ·refine Q0 Fm 1 [] [(2,vi 0)] [] [] ?_
    refine AW.ret ?_;obtain rfl:=Option.some.inj h
    exact Kn.D Fm
   ·refine AW.seq ?_
    obtain ⟨o,m0,h⟩:=bS h;refine Q9 Fm [.s,.k _,.k (rE { v:=.v (.c (.own 40)),new:=some (.ext (itP o none)) })] (fun K=>K 1∧K 2∧True) [] [(40,ow 40)] [] [(40,.ext (itP o none))] ⟨Q3 (Z4b m0) Tryz.call106 [],KAt.range (gs:=o) (t:=128) (kT:=3) (eT:=27) (d:=40) (by kernel_rfl) rfl rfl (by kernel_rfl) (by kernel_rfl),⟨⟩⟩ ?_
    refine AW.block (W6 Fm [(40,ow 40)] [(40,.ext (itP o none))] (by kernel_rfl) ?_);refine Z3 (E':=fun z=>[(40,ow 40)]) (S':=fun z=>[(40,.ext (itP z none))]) (fun w0 G s0 N h=>?_) h
    refine AW.seq (W6 Fm [(40,ow 40)] [(40,.ext (itP G none))] (by kernel_rfl) ?_);refine Y4o (by kernel_rfl) (by kernel_rfl) (by kernel_rfl) (fun d0=>?_) (fun a m e0=>?_)
    ·have h:=Z6V h d0
     refine W6 Fm [(40,ow 40),(42,vb false)] [(40,.ext (itP G none))] (by kernel_rfl) ?_;refine AW.seq (AW.cond (b:=false) (by kernel_rfl) (fun hb=>by cases hb) (fun _=>?_))
     exact AW.exit (Kn.R Fm (P () h))
    ·have h:=Z9z h e0
     refine W6 Fm [(40,ow 40),(42,vb true)] [(40,.ext (itP m (some a)))] (by kernel_rfl) ?_;refine AW.seq (AW.cond (b:=true) (by kernel_rfl) (fun _=>?_) (fun hb=>by cases hb))
     refine AW.skip (AW.block (Q3x Fm [.k (rE { v:=.t [.c (ci a.1),.c (.d (DL a.2))] }),.s,.s] (fun K=>K 0∧True) [40] [(7,AL a.2)] [40] [] ⟨KAt.entry (gs:=m) (q:=a) (id:=40) rfl rfl (by kernel_rfl) (by kernel_rfl) (by kernel_rfl),⟨⟩⟩ ?_));refine Q0 Fm 3 [7,40] [(45,AL a.2),(46,vi (lI a.2)),(47,vi 0)] [40] [] ?_
     refine AW.block (W6 Fm [(7,AL a.2),(40,ow 40),(45,AL a.2),(46,vi (lI a.2)),(47,vi 0)] [(40,.ext (itP m (some a)))] (by kernel_rfl) ?_);refine Z8z [(7,AL a.2),(40,ow 40),(45,AL a.2),(46,vi (lI a.2)),(47,vi 0)] [(40,.ext (itP m none))] ⟨rfl,ALe.c (CLe.refl _),⟨rfl,ALe.c (CLe.refl _),⟨rfl,ALe.c (CLe.refl _),⟨rfl,ALe.c (CLe.refl _),⟨rfl,ALe.c (CLe.refl _),⟨⟩⟩⟩⟩⟩⟩ ⟨rfl,Y3r _ _,⟨⟩⟩ ?_
     refine Z3 (E':=fun z=>[(7,AL a.2),(40,ow 40),(45,AL a.2),(46,vi (lI a.2)),(47,vi z)]) (S':=fun z=>[(40,.ext (itP m none))]) (fun A0 l t0 O h=>?_) h;refine Q0 Fm 1 [7,40,45,46,47] [(48,vb (decide (l<(lI a.2))))] [40] [] ?_
     refine AW.seq (Q5 h (fun X h=>?_) (fun X h=>?_))
     ·refine AW.skip (AW.seq (AW.block ?_))
      obtain ⟨i0,h⟩:=gS h;refine Y6 Fm (sA 6 []) [7,40,45,46,47] [(8,vi l),(9,pt 9)] [40] [(9,bx [ci ((gl a.2 l.toNat).y_),ci ((gl a.2 l.toNat).c_),.d (DL (gl a.2 l.toNat).g_.t_)])] (cT i0) ?_
      refine AW.seq ?_;obtain ⟨E,h⟩:=gS h
      obtain ⟨H,n0,h⟩:=bS h;refine Q9 Fm [.s,.s,.w (AL (a.2.take l.toNat)),.s,.k (cE [] [9] (vb H) [] [])] (fun K=>(((sl (List.length a.2) (LF a.2) none (some l)).2∧∀ j,j<List.length a.2→(LF a.2 j).length=3))∧(ALe (.v (.c (.d (.lst (sl (List.length a.2) (LF a.2) none (some l)).1.1 (sl (List.length a.2) (LF a.2) none (some l)).1.2)))) (AL (a.2.take l.toNat)))∧K 4∧True) [7,40,45,46,47] [(56,vb H)] [40] [] ⟨⟨E,(Is.refl a.2).len⟩,ALe.lst (Z5J a.2 none (some l) E),K4 (Q2c n0) Tryz.call101 [] [9] [.tmp 54,.tmp 55] rfl (by kernel_rfl) (by kernel_rfl) (by kernel_rfl) ⟨.p,Q1T.cloX Tryz.call107 [[ci ((gl a.2 l.toNat).y_),ci ((gl a.2 l.toNat).c_),.d (DL (gl a.2 l.toNat).g_.t_)]] (fun args r hq=>by obtain ⟨y0,y,hq,rfl,rfl⟩:=hq;exact Eq.mp (by kernel_rfl) (Z2D hq)) (fun args r hq=>by obtain ⟨y0,y,hq,rfl,rfl⟩:=hq;rfl) (by kernel_rfl) [9] (by kernel_rfl) (by kernel_rfl) (⟨⟨false,(by kernel_rfl)⟩,⟨⟩⟩) (by kernel_rfl),⟨⟩⟩,⟨⟩⟩ ?_
      refine Q5 h (fun Y h=>?_) (fun Y h=>?_)
      ·refine Q0 Fm 1 [] [(2,vi 11)] [] [] ?_
       refine AW.ret ?_;obtain rfl:=Option.some.inj h
       exact Kn.D Fm
      ·refine AW.skip ?_
       obtain ⟨j0,h⟩:=gS h;refine Q1 Fm [.s,.s] [7,40,45,46] [(47,vi (l+1))] [40] [] (cT (cT j0)) ?_
       exact Kn.R Fm (O (l+1) h)
     ·exact AW.exit (Kn.R Fm (N m h))
  ·refine Q0 Fm 3 [0] [(13,AL e),(14,vi (lI e)),(15,vi 0)] [] [] ?_
   refine AW.block (W6 Fm [(0,AL e),(13,AL e),(14,vi (lI e)),(15,vi 0)] [] (by kernel_rfl) ?_);refine Z3 (E':=fun z=>[(0,AL e),(13,AL e),(14,vi (lI e)),(15,vi z)]) (S':=fun z=>[]) (fun I i o0 L h=>?_) h
   refine Q0 Fm 1 [0,13,14,15] [(16,vb (decide (i<(lI e))))] [] [] ?_;refine AW.seq (Q5 h (fun U h=>?_) (fun U h=>?_))
   ·refine AW.skip (AW.seq (AW.block ?_))
    obtain ⟨Z,h⟩:=gS h;refine Y6 Fm (sA 6 []) [0,13,14,15] [(3,vi i),(4,pt 4)] [] [(4,bx [ci ((gl e i.toNat).y_),ci ((gl e i.toNat).c_),.d (DL (gl e i.toNat).g_.t_)])] (cT Z) ?_
    refine AW.seq (AW.seq ?_);obtain ⟨A,k0,h⟩:=bS h
    refine Q9 Fm [.s,.k _,.s] (fun K=>K 1∧True) [0,3,4,13,14,15] [(5,vi A)] [4] [] ⟨Q3 (Z3g k0) Tryz.call105 [],⟨⟩⟩ ?_;refine Q0 Fm 2 [0,3,4,5,13,14,15] [(23,vb (A != (0:Int)))] [4] [] ?_
    refine Q5 h (fun V h=>?_) (fun V h=>?_)
    ·refine Q0 Fm 2 [] [(2,vi A)] [] [] ?_
     refine AW.ret ?_;obtain rfl:=Option.some.inj h
     exact Kn.D Fm
    ·refine AW.skip (Z2 (r:=r) (fun z:Bool=>Q2E F i I z) [0,13,14,15] (fun z=>[(36,vb z)]) [] (fun _=>[]) (fun B0 h=>?_) (fun p0 B=>?_))
     ·refine Q5 h (fun W h=>?_) (fun W h=>?_)
      ·refine Q0 Fm 1 [] [(2,vi 3)] [] [] ?_
       refine AW.ret ?_;obtain rfl:=Option.some.inj h
       exact Kn.D Fm
      ·refine AW.skip ?_
       obtain ⟨c0,h⟩:=gS h;refine Q1 Fm [.s,.s] [0,13,14] [(15,vi (i+1))] [] [] (cT (cT c0)) ?_
       exact Kn.R Fm (L (i+1) h)
     ·rcases Y7 h with ⟨u,h⟩|⟨u,h⟩
      ·obtain ⟨a0,b0,h⟩:=gS2 h
       obtain ⟨n,l0,h⟩:=bS h;refine Q9 Fm [.s,.s,.w (vb true),.s,.s,.s,.s,.s,.s,.k _,.s,.s] (fun K=>_∧(_∧True)∧_∧K 9∧True) [0,13,14,15] [(28,AL e),(29,vi i),(30,vi (i-1)),(31,.v (.c (.elm [.int .i64 (gl e (i-1).toNat).y_,.int .i64 (gl e (i-1).toNat).c_,DL (gl e (i-1).toNat).g_.t_]))),(32,.v (.g [ci ((gl e (i-1).toNat).y_),ci ((gl e (i-1).toNat).c_),.d (DL (gl e (i-1).toNat).g_.t_)])),(33,.v (.g [ci ((gl e i.toNat).y_),ci ((gl e i.toNat).c_),.d (DL (gl e i.toNat).g_.t_)])),(34,vi n),(35,vb (decide ((0:Int)≤n))),(36,vb (decide ((0:Int)≤n)))] [] [] ⟨ALe.bool u,⟨a0,⟨⟩⟩,b0,Q3 (Z2C l0) Tryz.call104 [],⟨⟩⟩ ?_
       exact Kn.R Fm (B (decide ((0:Int)≤n)) h)
      ·refine Q1 Fm (sZ 9 [.s,.s,.w (vb false)]) [0,13,14,15] [(36,vb false)] [] [] (cT (ALe.bool u)) ?_
       exact Kn.R Fm (B false h)
   ·exact AW.exit (Kn.R Fm (M () h))
theorem Z0i {F:Nat} {a:(List (List Span))} {r:(List Span)} (h:Q2K F a=some r) :
  Z6 Tryz.prog 242 [AL a] [] (ow 100) [(100,AO r)]:=by
 refine FI Tryz.func242 Q2 Q4 fun C Fm=>?_
 unfold Q2K at h;refine Q3x Fm [.m] (fun K=>True) [0] [] [] [] True.intro ?_
 refine Q0 Fm 1 [0] [(3,vi 0)] [] [] ?_;refine Z2 (r:=r) (fun z:Int=>Q1v F a z) [0] (fun z=>[(3,vi z)]) [] (fun _=>[]) (fun P h=>?_) (fun I l=>?_)
 ·refine AW.seq ?_
  obtain ⟨i,E,h⟩:=bS h;refine Q9 Fm [.s,.k _,.s] (fun K=>K 1∧True) [0] [(6,ow 24)] [] [(24,AO i)] ⟨Q3 (Y0M E) Tryz.call284 [(100,24)],⟨⟩⟩ ?_
  refine Z2 (r:=r) (fun z:(List Span)=>Q3r F z) [6] (fun _=>[]) [] (fun z=>[(24,AO z)]) (fun G h=>?_) (fun M o=>?_)
  ·refine Q0 Fm 2 [] [(2,ow 24)] [24] [] ?_
   refine AW.ret ?_;obtain rfl:=Option.some.inj h
   exact Q3e Fm [(100,24)] [(2,ow 100)] [(100,AO G)] (by kernel_rfl) (by kernel_rfl) (by kernel_rfl) (by kernel_rfl) (Q3H Fm (by kernel_rfl))
  ·refine Q0 Fm 3 [6] [(25,AL a),(26,vi (lI a)),(27,vi 0)] [24] [] ?_
   refine AW.block (W6 Fm [(6,ow 24),(25,AL a),(26,vi (lI a)),(27,vi 0)] [(24,AO i)] (by kernel_rfl) ?_);refine Z3 (E':=fun z=>[(6,ow 24),(25,AL a),(26,vi (lI a)),(27,vi z.1)]) (S':=fun z=>[(24,AO z.2)]) (fun O z L n h=>?_) h
   obtain ⟨b,e⟩:=z;refine Q0 Fm 1 [6,25,26,27] [(28,vb (decide (b<(lI a))))] [24] [] ?_
   refine AW.seq (Q5 h (fun t h=>?_) (fun t h=>?_))
   ·refine AW.skip (AW.seq (AW.block ?_))
    obtain ⟨A,h⟩:=gS h;refine Y6 Fm [.s,.s,.s] [6,25,26,27] [(8,AL (gl a b.toNat))] [24] [] (cT A) ?_
    obtain ⟨B,h⟩:=gS h;refine Q0I Fm (sA 4 []) [25,26,27] [(6,ow 33)] [] [(33,AO (e++(gl a b.toNat)))] (cT (cA B (cT (lfl (gl a b.toNat))))) [(33,rAp e (gl a b.toNat))] ⟨oAp,⟨⟩⟩ ?_
    obtain ⟨D,h⟩:=gS h;refine Q1 Fm [.s,.s] [6,25,26] [(27,vi (b+1))] [33] [] (cT (cT D)) ?_
    exact Q1f Fm [(24,33)] (n ((b+1),(e++(gl a b.toNat))) h)
   ·exact AW.exit (Kn.R Fm (o e h))
 ·refine Q0 Fm 3 [0,3] [(9,AL a),(10,vi (lI a)),(11,vi 0)] [] [] ?_
  refine AW.block (W6 Fm [(0,AL a),(3,vi 0),(9,AL a),(10,vi (lI a)),(11,vi 0)] [] (by kernel_rfl) ?_);refine Z3 (E':=fun z=>[(0,AL a),(3,vi z.1),(9,AL a),(10,vi (lI a)),(11,vi z.2)]) (S':=fun z=>[]) (fun N z H j h=>?_) h
  obtain ⟨d,c⟩:=z;refine Q0 Fm 1 [0,3,9,10,11] [(12,vb (decide (c<(lI a))))] [] [] ?_
  refine AW.seq (Q5 h (fun p h=>?_) (fun p h=>?_))
  ·refine AW.skip (AW.seq (AW.block ?_))
   obtain ⟨u,h⟩:=gS h;refine Y6 Fm [.s,.s,.s] [0,3,9,10,11] [(5,AL (gl a c.toNat))] [] [] (cT u) ?_
   obtain ⟨w,h⟩:=gS h;refine Y6 Fm (sA 5 []) [0,9,10,11] [(3,vi (d+(lI (gl a c.toNat))))] [] [] (cT (cT w)) ?_
   refine Q0 Fm 2 [0,3,9,10,11] [(20,vb (decide ((d+(lI (gl a c.toNat)))<0)))] [] [] ?_;refine Q5 h (fun q h=>?_) (fun q h=>?_)
   ·cases h
   ·refine AW.skip ?_
    obtain ⟨y,h⟩:=gS h;refine Q1 Fm [.s,.s] [0,3,9,10] [(11,vi (c+1))] [] [] (cT (cT y)) ?_
    exact Kn.R Fm (j ((d+(lI (gl a c.toNat))),(c+1)) h)
  ·exact AW.exit (Kn.R Fm (l d h))
theorem Z2a {F:Nat} {a:Span} {b:Int} {r:Bool} (h:z7 F a b=some r) :
  Z6 Tryz.prog 286 [gE a,pt 0] [(0,.box true [ci b])] (vb r) [(0,.box true [ci b])]:=by
 refine FI Tryz.func286 Q2 Q4 fun C Fm=>?_
 unfold z7 at h;refine Q0 Fm 2 [1] [(2,pt 2)] [0] [(2,bx (gC a))] ?_
 refine Z2 (r:=r) (fun z:Bool=>Q2O F z) [] (fun z=>[(3,vb z)]) [0] (fun _=>[]) (fun i h=>?_) (fun e d=>?_)
 ·refine AW.ret ?_
  obtain rfl:=Option.some.inj h;exact Kn.D Fm
 ·rcases Y7 h with ⟨c,h⟩|⟨c,h⟩
  ·refine Q1 Fm (sA 4 (sZ 6 [.w (vb true)])) [] [(3,vb (decide (b<a.R_)))] [0] [] (cT (ALe.bool c)) ?_
   exact Kn.R Fm (d (decide (b<a.R_)) h)
  ·refine Q1 Fm (sA 4 (sZ 6 [.w (vb false)])) [] [(3,vb false)] [0] [] (cT (ALe.bool c)) ?_
   exact Kn.R Fm (d false h)
theorem Q8E {F:Nat} {a:(List Span)} {d:Span→Option Bool} {r:Int} (h:Q1t F a d=some r) :
  Z6 Tryz.prog 318 [AL a,.v (.c (.sem (Q0c Tryz.prog (Q6S d))))] [] (vi r) []:=by
 refine FI Tryz.func318 Q2 Q4 fun C Fm=>?_
 unfold Q1t at h;refine Q0 Fm 1 [0,1] [] [] [] ?_
 refine Z2 (r:=r) (fun z:Unit=>Q5b F) [] (fun _=>[]) [] (fun _=>[]) (fun z h=>?_) (fun t j=>?_)
 ·refine Q0 Fm 1 [] [(4,vi (-1:Int))] [] [] ?_
  refine AW.ret ?_;obtain rfl:=Option.some.inj h
  exact Kn.D Fm
 ·refine Q0 Fm 3 [0,1] [(7,vi (lI a)),(8,vi 0)] [] [] ?_
  refine AW.block (W6 Fm [(0,AL a),(1,.v (.c (.sem (Q0c Tryz.prog (Q6S d))))),(7,vi (lI a)),(8,vi 0)] [] (by kernel_rfl) ?_);refine Z3 (E':=fun z=>[(0,AL a),(1,.v (.c (.sem (Q0c Tryz.prog (Q6S d))))),(7,vi (lI a)),(8,vi z)]) (S':=fun z=>[]) (fun u b q i h=>?_) h
  refine Q0 Fm 1 [0,1,7,8] [(9,vb (decide (b<(lI a))))] [] [] ?_;refine AW.seq (Q5 h (fun l h=>?_) (fun l h=>?_))
  ·refine AW.skip (AW.seq (AW.block (Q0 Fm 2 [0,1,7,8] [(5,vi b)] [] [] ?_)))
   refine AW.seq ?_;obtain ⟨n,h⟩:=gS h
   obtain ⟨e,p,h⟩:=bS h;refine Q9 Fm (sA 5 [.k (sE (vb e))]) (fun K=>_∧K 5∧True) [0,1,5,7,8] [(16,vb e)] [] [] ⟨n,KAt.sem (F:=(Q6S d)) (args:=[.v (.g [ci ((gl a b.toNat).L_),ci ((gl a b.toNat).R_)])]) ⟨(gl a b.toNat),e,p,rfl,rfl⟩ rfl (by kernel_rfl) (by kernel_rfl) (by kernel_rfl),⟨⟩⟩ ?_
   refine Q5 h (fun m h=>?_) (fun m h=>?_)
   ·refine Q0 Fm 2 [] [(4,vi b)] [] [] ?_
    refine AW.ret ?_;obtain rfl:=Option.some.inj h
    exact Kn.D Fm
   ·refine AW.skip ?_
    obtain ⟨o,h⟩:=gS h;refine Q1 Fm [.s,.s] [0,1,7] [(8,vi (b+1))] [] [] (cT (cT o)) ?_
    exact Kn.R Fm (i (b+1) h)
  ·exact AW.exit (Kn.R Fm (j () h))
theorem Q7N {F:Nat} {a:(List Span)} {b:Span→Option Bool} {r:Bool} (h:Q0y F a b=some r) :
  Z6 Tryz.prog 285 [AL a,.v (.c (.sem (Q0c Tryz.prog (Q6S b))))] [] (vb r) []:=by
 refine FI Tryz.func285 Q2 Q4 fun C Fm=>?_
 unfold Q0y at h;refine Q0 Fm 1 [0,1] [] [] [] ?_
 refine AW.seq ?_;obtain ⟨d,e,h⟩:=bS h
 refine Q9 Fm [.s,.s,.k (cE [] [] (vi d) [] []),.s,.s] (fun K=>K 2∧True) [] [(4,vb (decide ((0:Int)≤d)))] [] [] ⟨K4 (Q8E e) Tryz.call318 [] [] [.tmp 5,.tmp 6] rfl (by kernel_rfl) (by kernel_rfl) (by kernel_rfl) ⟨.p,Q1T.semX (by kernel_rfl) (by kernel_rfl) (by kernel_rfl),⟨⟩⟩,⟨⟩⟩ ?_;refine AW.ret ?_
 obtain rfl:=Option.some.inj h;exact Kn.D Fm
theorem Q8M {F:Nat} {b:(List Span)} {a:Int} {r:Bool} (h:Q3j F b a=some r) :
  Z6 Tryz.prog 243 [AL b,vi a] [] (vb r) []:=by
 refine FI Tryz.func243 Q2 Q4 fun C Fm=>?_
 unfold Q3j at h;refine Q0 Fm 2 [0] [(3,pt 3)] [] [(3,bx [ci a])] ?_
 refine AW.seq ?_;obtain ⟨c,d,h⟩:=bS h
 refine Q9 Fm [.s,.s,.k (cE [] [3] (vb c) [] []),.s] (fun K=>K 2∧True) [] [(4,vb c)] [] [] ⟨K4 (Q7N d) Tryz.call285 [] [3] [.tmp 5,.tmp 6] rfl (by kernel_rfl) (by kernel_rfl) (by kernel_rfl) ⟨.p,Q1T.cloX Tryz.call286 [[ci a]] (fun args r hq=>by obtain ⟨y0,y,hq,rfl,rfl⟩:=hq;exact Eq.mp (by kernel_rfl) (Z2a hq)) (fun args r hq=>by obtain ⟨y0,y,hq,rfl,rfl⟩:=hq;rfl) (by kernel_rfl) [3] (by kernel_rfl) (by kernel_rfl) (⟨⟨false,(by kernel_rfl)⟩,⟨⟩⟩) (by kernel_rfl),⟨⟩⟩,⟨⟩⟩ ?_;refine AW.ret ?_
 obtain rfl:=Option.some.inj h;exact Kn.D Fm
theorem Z4u {F:Nat} {l:(List Span)} {n:(List Span)} {o:Bool→Bool→Option Bool} {r:(List Span)} (h:Q6f F l n o=some r) :
  Z6 Tryz.prog 190 [AL l,AL n,.v (.c (.sem (Q0c Tryz.prog (V7 o))))] [] (AL r) []:=by
 refine FI Tryz.func190 Q2 Q4 fun C Fm=>?_
 unfold Q6f at h;refine Q0 Fm 1 [0,1,2] [] [] [] ?_
 refine G9 Fm [.m] (fun K=>True) [0,1,2] [(7,ow 7)] [] [(7,AO ([]:List Int))] True.intro [(7,.arr 1 (0) (fun _=>[]))] ⟨OLe.is ((Is.nil (α:=Int))),⟨⟩⟩ ?_;refine Z2 (r:=r) (fun z:(List Int)=>Q8e F l n o z) [0,1,2,7] (fun _=>[]) [] (fun z=>[(7,AO z)]) (fun E0 h=>?_) (fun u0 T=>?_)
 ·refine AW.seq ?_
  obtain ⟨s0,l0,h⟩:=bS h;refine Q9 Fm [.s,.k _] (fun K=>K 1∧True) [0,1,2,7] [] [] [(7,AO s0)] ⟨Q3 (Z6C l0) Tryz.call214 [(0,7)],⟨⟩⟩ ?_
  refine AW.seq ?_;obtain ⟨i,m0,h⟩:=bS h
  refine Q9 Fm [.s,.k _,.s] (fun K=>K 1∧True) [0,1,2] [(7,ow 34)] [] [(34,AO i)] ⟨Q3 (Q5N m0) Tryz.call241 [(0,7),(100,34)],⟨⟩⟩ ?_;refine G9 Fm [.m] (fun K=>True) [0,1,2,7] [(10,ow 10)] [34] [(10,AO ([]:List Span))] True.intro [(10,.arr 2 (0) (fun _=>[]))] ⟨OLe.is ((Is.nil (α:=Span))),⟨⟩⟩ ?_
  refine Z2 (r:=r) (fun z:(List Span)=>Q5v F z) [10] (fun _=>[]) [] (fun z=>[(10,AO z)]) (fun M h=>?_) (fun B0 V=>?_)
  ·refine Q0 Fm 2 [] [(6,ow 10)] [10] [] ?_
   refine AW.ret ?_;obtain rfl:=Option.some.inj h
   refine W6 Fm [(6,ow 10)] [(10,AO M)] (by kernel_rfl) ?_;refine Kn.frz [(6,AL M)] [] (by kernel_rfl) (by kernel_rfl) (by kernel_rfl) ?_
   exact Kn.D Fm
  ·refine Q0 Fm 1 [0,1,2,7,10] [(11,vi 1)] [10,34] [] ?_
   refine AW.block (W6 Fm [(0,AL l),(1,AL n),(2,.v (.c (.sem (Q0c Tryz.prog (V7 o))))),(7,ow 34),(10,ow 10),(11,vi 1)] [(10,AO ([]:List Span)),(34,AO i)] (by kernel_rfl) ?_);refine Z3 (E':=fun z=>[(0,AL l),(1,AL n),(2,.v (.c (.sem (Q0c Tryz.prog (V7 o))))),(7,ow 34),(10,ow 10),(11,vi z.1)]) (S':=fun z=>[(10,AO z.2),(34,AO i)]) (fun A z w0 U h=>?_) h
   obtain ⟨b,a⟩:=z;refine AW.seq (Q0 Fm 4 [0,1,2,7,10,11] [(38,vb (decide (b<(lI i))))] [10,34] [] ?_)
   refine Q5 h (fun X h=>?_) (fun X h=>?_)
   ·refine AW.skip (Z2 (r:=r) (fun z:(List Span)=>Q1y F b A z) [0,1,2,7,10,11] (fun _=>[]) [34] (fun z=>[(10,AO z)]) (fun q0 h=>?_) (fun A0 q=>?_))
    ·obtain ⟨j0,h⟩:=gS h
     refine Q1 Fm [.s,.s,.s] [0,1,2,7,10] [(11,vi (b+1))] [10,34] [] (cT (cT j0)) ?_;exact Kn.R Fm (U ((b+1),q0) h)
    ·refine AW.block ?_
     obtain ⟨c0,G,h⟩:=gS2 h;refine Y6 Fm (sA 6 []) [0,1,2,7,10,11] [(12,vi (gl i (b-1).toNat))] [10,34] [] (cA (cT c0) (cA G (cT (Z7 G)))) ?_
     refine AW.seq (AW.seq ?_);obtain ⟨N,n0,h⟩:=bS h
     obtain ⟨O,o0,h⟩:=bS h;obtain ⟨y,p0,h⟩:=bS h
     refine Q9 Fm [.s,.s,.s,.k _,.s,.s,.k _,.k (sE (vb y)),.s] (fun K=>K 3∧K 6∧K 7∧True) [0,1,2,7,10,11,12] [(54,vb (!y))] [10,34] [] ⟨Q3 (Q8M n0) Tryz.call243 [],Q3 (Q8M o0) Tryz.call243 [],KAt.sem (F:=(V7 o)) (args:=[vb N,vb O]) ⟨N,O,y,p0,rfl,rfl⟩ rfl (by kernel_rfl) (by kernel_rfl) (by kernel_rfl),⟨⟩⟩ ?_;refine Q5 h (fun Y h=>?_) (fun Y h=>?_)
     ·exact AW.exit (Kn.R Fm (q a h))
     ·refine AW.skip (Q0 Fm 3 [0,1,2,7,10,11,12] [(13,vi (lI a))] [10,34] [] ?_)
      refine Z2 (r:=r) (fun z:Bool=>Q2Y F i b a A z) [0,1,2,7,10,11,12,13] (fun z=>[(68,vb z)]) [10,34] (fun _=>[]) (fun G0 h=>?_) (fun y0 B=>?_)
      ·refine Q5 h (fun Z h=>?_) (fun Z h=>?_)
       ·obtain ⟨e0,I,u,h⟩:=gS3 h
        refine Q0I Fm (sA 10 []) [0,1,2,7,10,11] [] [34] [(10,AO (List.set a ((lI a)-1).toNat (⟨(gl a ((lI a)-1).toNat).L_,(gl i b.toNat)⟩:Span)))] (cA (cT e0) (cA I (cA (Z7 I) (cA u (cT (Z7 u)))))) [(10,rSt a ((lI a)-1).toNat 1 [.int .i64 (gl i b.toNat)])] ⟨oSt (Z7 u),⟨⟩⟩ ?_;exact Kn.R Fm (q (List.set a ((lI a)-1).toNat (⟨(gl a ((lI a)-1).toNat).L_,(gl i b.toNat)⟩:Span)) h)
       ·obtain ⟨L,i0,h⟩:=gS2 h
        refine Q0I Fm (sA 7 [.w (AL [(⟨(gl i (b-1).toNat),(gl i b.toNat)⟩:Span)]),.s,.s]) [0,1,2,7,11] [(10,ow 86)] [34] [(86,AO (a++([(⟨(gl i (b-1).toNat),(gl i b.toNat)⟩:Span)]:List Span)))] (cA L (cA (Z7 L) (cA (Z0I (⟨(gl i (b-1).toNat),(gl i b.toNat)⟩:Span)) (cT (cA i0 (cT (lfl ([(⟨(gl i (b-1).toNat),(gl i b.toNat)⟩:Span)]:List Span)))))))) [(86,rAp a ([(⟨(gl i (b-1).toNat),(gl i b.toNat)⟩:Span)]:List Span))] ⟨oAp,⟨⟩⟩ ?_;exact Q1f Fm [(10,86)] (q (a++([(⟨(gl i (b-1).toNat),(gl i b.toNat)⟩:Span)]:List Span)) h)
      ·rcases Y7 h with ⟨t,h⟩|⟨t,h⟩
       ·obtain ⟨d0,H,h⟩:=gS2 h
        refine Q1 Fm (sZ 9 [.s,.s,.w (vb true)]) [0,1,2,7,10,11,12,13] [(60,ow 10),(61,vi (lI a)),(62,vi ((lI a)-1)),(63,.v (.c (.pte 10 2 (((lI a)-1).toNat) 0))),(64,.v (.c (.pte 10 2 (((lI a)-1).toNat) 1))),(65,vi (gl a ((lI a)-1).toNat).R_),(66,vi (gl i (b-1).toNat)),(67,vb (((gl a ((lI a)-1).toNat).R_)==(gl i (b-1).toNat))),(68,vb (((gl a ((lI a)-1).toNat).R_)==(gl i (b-1).toNat)))] [10,34] [] (cA (ALe.bool t) (cA (cT d0) (cA H (cT (Z7 H))))) ?_;exact Kn.R Fm (B (((gl a ((lI a)-1).toNat).R_)==(gl i (b-1).toNat)) h)
       ·refine Q1 Fm (sZ 9 [.s,.s,.w (vb false)]) [0,1,2,7,10,11,12,13] [(68,vb false)] [10,34] [] (cT (ALe.bool t)) ?_
        exact Kn.R Fm (B false h)
   ·exact AW.exit (Kn.R Fm (V a h))
 ·refine AW.seq ?_
  obtain ⟨e,k0,h⟩:=bS h;refine Q9 Fm [.s,.s,.w (AL (α:=(List Span)) ([l,n]:List (List Span))),.k _,.s,.s] (fun K=>(ALe (.v (.c (.d (.lst 2 (Z1g 1 [DL l,DL n]))))) (AL (α:=(List Span)) ([l,n]:List (List Span))))∧K 3∧True) [0,1,2,7] [(17,ow 17),(18,vi (lI e)),(19,vi 0)] [7] [(17,AO e)] ⟨ALe.lst (.lit ([l,n]:List (List Span)) (by kernel_rfl)),Q3 (Z0i k0) Tryz.call242 [(100,17)],⟨⟩⟩ ?_
  refine AW.block (W6 Fm [(0,AL l),(1,AL n),(2,.v (.c (.sem (Q0c Tryz.prog (V7 o))))),(7,ow 7),(17,ow 17),(18,vi (lI e)),(19,vi 0)] [(7,AO ([]:List Int)),(17,AO e)] (by kernel_rfl) ?_);refine Z3 (E':=fun z=>[(0,AL l),(1,AL n),(2,.v (.c (.sem (Q0c Tryz.prog (V7 o))))),(7,ow 7),(17,ow 17),(18,vi (lI e)),(19,vi z.1)]) (S':=fun z=>[(7,AO z.2),(17,AO e)]) (fun D0 z t0 P h=>?_) h
  obtain ⟨j,p⟩:=z;refine Q0 Fm 1 [0,1,2,7,17,18,19] [(20,vb (decide (j<(lI e))))] [7,17] [] ?_
  refine AW.seq (Q5 h (fun W h=>?_) (fun W h=>?_))
  ·refine AW.skip (AW.seq (AW.block ?_))
   obtain ⟨E,h⟩:=gS h;refine Y6 Fm (sA 4 []) [0,1,2,7,17,18,19] [(9,pt 9)] [7,17] [(9,bx [ci ((gl e j.toNat).L_),ci ((gl e j.toNat).R_)])] (cA E (cT (Z7 E))) ?_
   obtain ⟨a0,h⟩:=gS h;refine Q0I Fm (sA 5 [.w (AL ([(gl e j.toNat).L_,(gl e j.toNat).R_]:List Int)),.s,.s]) [0,1,2,17,18,19] [(7,ow 29)] [17] [(29,AO (p++([(gl e j.toNat).L_,(gl e j.toNat).R_]:List Int)))] (cA (ALe.lst (.lit ([(gl e j.toNat).L_,(gl e j.toNat).R_]:List Int) (by kernel_rfl)):ALe (.v (.c (.d (.lst 2 (Z1g 1 [.int .i64 (gl e j.toNat).L_,.int .i64 (gl e j.toNat).R_]))))) (AL ([(gl e j.toNat).L_,(gl e j.toNat).R_]:List Int))) (cT (cA a0 (cT (lfl ([(gl e j.toNat).L_,(gl e j.toNat).R_]:List Int)))))) [(29,rAp p ([(gl e j.toNat).L_,(gl e j.toNat).R_]:List Int))] ⟨oAp,⟨⟩⟩ ?_
   obtain ⟨b0,h⟩:=gS h;refine Q1 Fm [.s,.s] [0,1,2,7,17,18] [(19,vi (j+1))] [17,29] [] (cT (cT b0)) ?_
   exact Q1f Fm [(7,29)] (P ((j+1),(p++([(gl e j.toNat).L_,(gl e j.toNat).R_]:List Int))) h)
  ·exact AW.exit (Kn.R Fm (T p h))
theorem Z2f {F:Nat} {e:Int} {a:(List Rect)} {b:(List Rect)} {c:Bool→Bool→Option Bool} {r:(List Span)} (h:Q5z F e a b c=some r) :
  Z6 Tryz.prog 189 [vi e,pt 0,pt 1,pt 2] [(0,.box true [.d (DL a)]),(1,.box true [.d (DL b)]),(2,.box true [.sem (Q0c Tryz.prog (V7 c))])] (AL r) [(0,.box true [.d (DL a)]),(1,.box true [.d (DL b)]),(2,.box true [.sem (Q0c Tryz.prog (V7 c))])]:=by
 refine FI Tryz.func189 Q2 Q4 fun C Fm=>?_
 unfold Q5z at h;refine Q0 Fm 1 [0,1,2,3] [] [0,1,2] [] ?_
 refine AW.seq ?_;obtain ⟨n,j,h⟩:=bS h
 obtain ⟨o,l,h⟩:=bS h;obtain ⟨i,m,h⟩:=bS h
 refine Q9 Fm [.s,.s,.k _,.s,.s,.k _,.s,.k (cE [] [] (AL i) [] []),.s] (fun K=>K 2∧K 5∧K 7∧True) [] [(5,AL i)] [0,1,2] [] ⟨Q3 (Q8f j) Tryz.call191 [],Q3 (Q8f l) Tryz.call191 [],K4 (Z4u m) Tryz.call190 [] [] [.tmp 8,.tmp 11,.tmp 12] rfl (by kernel_rfl) (by kernel_rfl) (by kernel_rfl) ⟨.p,.p,Q1T.semX (by kernel_rfl) (by kernel_rfl) (by kernel_rfl),⟨⟩⟩,⟨⟩⟩ ?_;refine AW.ret ?_
 obtain rfl:=Option.some.inj h;exact Kn.D Fm
theorem Q8R {F:Nat} {a:(List Rect)} {b:(List Rect)} {e:Bool→Bool→Option Bool} {r:(List Rect)} (h:Q3l F a b e=some r) :
  Z6 Tryz.prog 95 [AL a,AL b,.v (.c (.sem (Q0c Tryz.prog (V7 e))))] [] (AL r) []:=by
 refine FI Tryz.func95 Q2 Q4 fun C Fm=>?_
 unfold Q3l at h;refine Q0 Fm 4 [] [(3,pt 3),(4,pt 4),(5,pt 5)] [] [(3,bx [.d (DL a)]),(4,bx [.d (DL b)]),(5,bx [.sem (Q0c Tryz.prog (V7 e))])] ?_
 refine AW.seq ?_;obtain ⟨m,j,h⟩:=bS h
 obtain ⟨i,l,h⟩:=bS h;refine Q9 Fm [.s,.s,.w (AL (α:=(List Rect)) ([a,b]:List (List Rect))),.k _,.s,.k (cE [] [3,4,5] (AL i) [] []),.s] (fun K=>(ALe (.v (.c (.d (.lst 2 (Z1g 1 [DL a,DL b]))))) (AL (α:=(List Rect)) ([a,b]:List (List Rect))))∧K 3∧K 5∧True) [] [(6,AL i)] [] [] ⟨ALe.lst (.lit ([a,b]:List (List Rect)) (by kernel_rfl)),Q3 (Z0p j) Tryz.call188 [],K4 (Q9z l) Tryz.call187 [] [3,4,5] [.tmp 10,.tmp 11] rfl (by kernel_rfl) (by kernel_rfl) (by kernel_rfl) ⟨.p,Q1T.cloXP Tryz.call189 [[.d (DL a)],[.d (DL b)],[.sem (Q0c Tryz.prog (V7 e))]] (fun args r hq=>by obtain ⟨y0,y,hq,rfl,rfl⟩:=hq;exact Eq.mp (by kernel_rfl) (Z2f hq)) (fun args r hq=>by obtain ⟨y0,y,hq,rfl,rfl⟩:=hq;rfl) (by kernel_rfl) [3,4,5] (by kernel_rfl) (by kernel_rfl) ⟨⟨.inl (by kernel_rfl),⟨⟩⟩,⟨.inl (by kernel_rfl),⟨⟩⟩,⟨.inr ⟨_,rfl⟩,⟨⟩⟩,⟨⟩⟩ (⟨⟨false,(by kernel_rfl)⟩,⟨⟨false,(by kernel_rfl)⟩,⟨⟨false,(by kernel_rfl)⟩,⟨⟩⟩⟩⟩) (by kernel_rfl),⟨⟩⟩,⟨⟩⟩ ?_
 refine AW.ret ?_;obtain rfl:=Option.some.inj h
 exact Kn.D Fm
theorem Z7R {F:Nat} {a:(List Int)} {r:Tape} (h:Z2z F a=some r) :
  Z6 Tryz.prog 13 [AL a] [] (pt 100) [(100,bx (gC r))]:=by
 refine FI Tryz.func13 Q2 Q4 fun C Fm=>?_
 unfold Z2z at h;refine Q0 Fm 1 [0] [] [] [] ?_
 obtain ⟨b,h⟩:=gS h;refine Y6 Fm (sA 4 [.w (AL (a.take (Z3m (lI a) (400:Int)).toNat)),.s,.s,.s]) [] [(2,pt 9)] [] [(9,bx [.d (DL (a.take (Z3m (lI a) (400:Int)).toNat)),ci 0])] (cA (⟨b,(Is.refl a).len⟩:((sl (List.length a) (LF a) none (some (Z3m (lI a) (400:Int)))).2∧∀ j,j<List.length a→(LF a j).length=1)) (cT (ALe.lst (Z5J a none (some (Z3m (lI a) (400:Int))) b):ALe (.v (.c (.d (.lst (sl (List.length a) (LF a) none (some (Z3m (lI a) (400:Int)))).1.1 (sl (List.length a) (LF a) none (some (Z3m (lI a) (400:Int)))).1.2)))) (AL (a.take (Z3m (lI a) (400:Int)).toNat))))) ?_
 refine AW.ret ?_;obtain rfl:=Option.some.inj h
 exact Q3e Fm [(100,9)] [(2,pt 100)] [(100,bx [.d (DL (a.take (Z3m (lI a) (400:Int)).toNat)),ci 0])] (by kernel_rfl) (by kernel_rfl) (by kernel_rfl) (by kernel_rfl) (Q3H Fm (by kernel_rfl))
theorem Q1d {F:Nat} {b:Int} {a:Int} {r:Int} (h:Q3c F b a=some r) :
  Z6 Tryz.prog 27 [vi b,vi a] [] (vi r) []:=by
 refine FI Tryz.func27 Q2 Q4 fun C Fm=>?_
 unfold Q3c at h;refine Q0 Fm 1 [0,1] [] [] [] ?_
 refine AW.seq (Q0 Fm 2 [0,1] [(6,vb (decide (a<1)))] [] [] ?_);refine Q5 h (fun d h=>?_) (fun d h=>?_)
 ·refine Q0 Fm 1 [] [(4,vi 0)] [] [] ?_
  refine AW.ret ?_;obtain rfl:=Option.some.inj h
  exact Kn.D Fm
 ·refine AW.skip ?_
  obtain ⟨i,h⟩:=gS h;refine Y6 Fm (sA 4 []) [1] [(0,vi (b.tmod a))] [] [] (cT i) ?_
  refine Z2 (r:=r) (fun z:Int=>Z2A F z) [] (fun z=>[(0,vi z)]) [] (fun _=>[]) (fun k h=>?_) (fun l c=>?_)
  ·refine Q0 Fm 2 [] [(4,vi k)] [] [] ?_
   refine AW.ret ?_;obtain rfl:=Option.some.inj h
   exact Kn.D Fm
  ·refine Q0 Fm 2 [0,1] [(11,vb (decide ((b.tmod a)<0)))] [] [] ?_
   refine Q5 h (fun e h=>?_) (fun e h=>?_)
   ·obtain ⟨j,h⟩:=gS h
    refine Q1 Fm (sA 4 []) [] [(0,vi ((b.tmod a)+a))] [] [] (cT (cT j)) ?_;exact Kn.R Fm (c ((b.tmod a)+a) h)
   ·exact AW.skip (Kn.R Fm (c (b.tmod a) h))
theorem Y3 {F:Nat} {a:Tape} {b:Int} {r:Tape×Int} (h:Y4 F a b=some r) :
  Z6 Tryz.prog 15 [pt 0,vi b] [(0,bx (gC a))] (vi r.2) [(0,bx (gC r.1))]:=by
 refine FI Tryz.func15 Q2 Q4 fun C Fm=>?_
 unfold Y4 at h;refine Q0 Fm 1 [0,1] [] [0] [] ?_
 refine AW.seq (Q0 Fm 10 [0,1] [(14,vb (decide ((lI a.l_)≤a.at_)))] [0] [] ?_);refine Q5 h (fun c h=>?_) (fun c h=>?_)
 ·refine Q0 Fm 1 [] [(4,vi 0)] [0] [] ?_
  refine AW.ret ?_;obtain rfl:=Option.some.inj h
  exact Kn.D Fm
 ·refine AW.skip ?_
  obtain ⟨e,h⟩:=gS h;refine Y6 Fm (sA 8 []) [0,1] [] [] [(0,bx [.d (DL a.l_),ci (a.at_+1)])] (cT (cT e)) ?_
  refine AW.seq ?_;obtain ⟨i,j,h⟩:=gS2 h
  obtain ⟨m,l,h⟩:=bS h;refine Q9 Fm (sA 12 [.k _,.s]) (fun K=>(_∧True)∧_∧K 12∧True) [] [(4,vi m)] [0] [] ⟨⟨i,⟨⟩⟩,j,Q3 (Q1d l) Tryz.call27 [],⟨⟩⟩ ?_
  refine AW.ret ?_;obtain rfl:=Option.some.inj h
  exact Kn.D Fm
theorem Q1L {F:Nat} {b:Tape} {a:Int} {c:Int} {r:Tape×Int} (h:J1 F b a c=some r) :
  Z6 Tryz.prog 45 [pt 0,vi a,vi c] [(0,bx (gC b))] (vi r.2) [(0,bx (gC r.1))]:=by
 refine FI Tryz.func45 Q2 Q4 fun C Fm=>?_
 unfold J1 at h;refine Q0 Fm 1 [0,1,2] [] [0] [] ?_
 refine AW.seq ?_;obtain ⟨e,i,h⟩:=gS2 h
 obtain ⟨d,l,h⟩:=bS h;obtain ⟨j,h⟩:=gS h
 refine Q9 Fm (sA 6 [.k _,.s,.s]) (fun K=>(_∧True)∧(_∧True)∧K 6∧(_∧True)∧True) [] [(6,vi (a+d.2))] [] [(0,bx (gC d.1))] ⟨⟨e,⟨⟩⟩,⟨i,⟨⟩⟩,Q3 (Y3 l) Tryz.call15 [(0,0)],⟨j,⟨⟩⟩,⟨⟩⟩ ?_;refine AW.ret ?_
 obtain rfl:=Option.some.inj h;exact Kn.D Fm
theorem Q4V {F:Nat} {c:Tape} {d:Int} {r:Tape×Rect} (h:Q0F F c d=some r) :
  Z6 Tryz.prog 92 [pt 0,vi d] [(0,bx (gC c))] (gE r.2) [(0,bx (gC r.1))]:=by
 refine FI Tryz.func92 Q2 Q4 fun C Fm=>?_
 unfold Q0F at h;refine Q0 Fm 1 [0,1] [(4,pt 4)] [0] [(4,bx [ci 0,ci 0,ci 0,ci 0])] ?_
 refine AW.seq ?_;obtain ⟨b,p,h⟩:=bS h
 obtain ⟨a,q,h⟩:=bS h;refine Q9 Fm [.s,.s,.k _,.s,.s,.k _,.s,.s] (fun K=>K 2∧K 5∧True) [0,1,4] [(5,vi b.2),(6,vi a.2)] [4] [(0,bx (gC a.1))] ⟨Q3 (Y3 p) Tryz.call15 [(0,0)],Q3 (Y3 q) Tryz.call15 [(0,0)],⟨⟩⟩ ?_
 refine AW.seq ?_;obtain ⟨i,j,h⟩:=gS2 h
 obtain ⟨w,t,h⟩:=bS h;obtain ⟨l,m,n,h⟩:=gS3 h
 obtain ⟨e,u,h⟩:=bS h;obtain ⟨o,h⟩:=gS h
 refine Q9 Fm (sA 8 [.k _,.s,.s,.s,.s,.s,.s,.s,.k _,.s,.s,.s]) (fun K=>(_∧True)∧(_∧True)∧K 8∧(_∧True)∧(_∧True)∧(_∧True)∧K 16∧(_∧True)∧True) [4] [] [] [(0,bx (gC e.1)),(4,bx [ci b.2,ci a.2,ci ((b.2+1)+w.2),ci ((a.2+1)+e.2)])] ⟨⟨i,⟨⟩⟩,⟨j,⟨⟩⟩,Q3 (Y3 t) Tryz.call15 [(0,0)],⟨l,⟨⟩⟩,⟨m,⟨⟩⟩,⟨n,⟨⟩⟩,Q3 (Y3 u) Tryz.call15 [(0,0)],⟨o,⟨⟩⟩,⟨⟩⟩ ?_;refine AW.ret ?_
 obtain rfl:=Option.some.inj h;exact Kn.D Fm
theorem Q6v {F:Nat} {e:Rect} {r:Bool} (h:Q2R F e=some r) :
  Z6 Tryz.prog 181 [gE e] [] (vb r) []:=by
 refine FI Tryz.func181 Q2 Q4 fun C Fm=>?_
 unfold Q2R at h;refine Q0 Fm 2 [] [(1,pt 1)] [] [(1,bx (gC e))] ?_
 refine Z2 (r:=r) (fun z:Bool=>U4 F z) [] (fun z=>[(2,vb z)]) [] (fun _=>[]) (fun l h=>?_) (fun k b=>?_)
 ·refine AW.ret ?_
  obtain rfl:=Option.some.inj h;exact Kn.D Fm
 ·rcases Y7 h with ⟨a,h⟩|⟨a,h⟩
  ·rcases Y7 h with ⟨c,h⟩|⟨c,h⟩
   ·rcases Y7 h with ⟨d,h⟩|⟨d,h⟩
    ·rcases Y7 h with ⟨i,h⟩|⟨i,h⟩
     ·rcases Y7 h with ⟨j,h⟩|⟨j,h⟩
      ·refine Q1 Fm ([.s,.s,.s,.w (vb true),.s,.s,.s,.s,.s,.s,.w (vb true),.s,.s,.s,.s,.w (vb true),.s,.s,.s,.s,.w (vb true),.s,.s,.s,.s,.s,.s,.w (vb true)]++(sA 5 [])) [] [(2,vb (decide (e.H_≤16384)))] [] [] (cA (ALe.bool a) (cA (ALe.bool c) (cA (ALe.bool d) (cA (ALe.bool i) (cT (ALe.bool j)))))) ?_
       exact Kn.R Fm (b (decide (e.H_≤16384)) h)
      ·refine Q1 Fm ([.s,.s,.s,.w (vb true),.s,.s,.s,.s,.s,.s,.w (vb true),.s,.s,.s,.s,.w (vb true),.s,.s,.s,.s,.w (vb true),.s,.s,.s,.s,.s,.s,.w (vb false)]++(sA 5 [])) [] [(2,vb false)] [] [] (cA (ALe.bool a) (cA (ALe.bool c) (cA (ALe.bool d) (cA (ALe.bool i) (cT (ALe.bool j)))))) ?_
       exact Kn.R Fm (b false h)
     ·refine Q1 Fm ((sZ 7 [.s,.s,.s,.w (vb true),.s,.s,.s,.s,.s,.s,.w (vb true),.s,.s,.s,.s,.w (vb true),.s,.s,.s,.s,.w (vb false)])++(sA 5 [])) [] [(2,vb false)] [] [] (cA (ALe.bool a) (cA (ALe.bool c) (cA (ALe.bool d) (cT (ALe.bool i))))) ?_
      exact Kn.R Fm (b false h)
    ·refine Q1 Fm ((sZ 12 [.s,.s,.s,.w (vb true),.s,.s,.s,.s,.s,.s,.w (vb true),.s,.s,.s,.s,.w (vb false)])++(sA 5 [])) [] [(2,vb false)] [] [] (cA (ALe.bool a) (cA (ALe.bool c) (cT (ALe.bool d)))) ?_
     exact Kn.R Fm (b false h)
   ·refine Q1 Fm ((sZ 17 [.s,.s,.s,.w (vb true),.s,.s,.s,.s,.s,.s,.w (vb false)])++(sA 5 [])) [] [(2,vb false)] [] [] (cA (ALe.bool a) (cT (ALe.bool c))) ?_
    exact Kn.R Fm (b false h)
  ·refine Q1 Fm ((sZ 24 [.s,.s,.s,.w (vb false)])++(sA 5 [])) [] [(2,vb false)] [] [] (cT (ALe.bool a)) ?_
   exact Kn.R Fm (b false h)
theorem Q4f {F:Nat} {a:(List Int)} {e:Int} {r:(List Int)} (h:Q1j F a e=some r) :
  Z6 Tryz.prog 127 [AL a,vi e] [] (AL r) []:=by
 refine FI Tryz.func127 Q2 Q4 fun C Fm=>?_
 unfold Q1j at h;refine Q0 Fm 1 [0,1] [] [] [] ?_
 refine Q0 Fm 1 [0,1] [(5,vi 0)] [] [] ?_;refine Z2 (r:=r) (fun z:Int=>Q8A F a e z) [0,1] (fun z=>[(5,vi z)]) [] (fun _=>[]) (fun b h=>?_) (fun O y=>?_)
 ·refine AW.seq (Z2 (r:=r) (fun z:Bool=>Q6A F a e b z) [0,1,5] (fun z=>[(31,vb z)]) [] (fun _=>[]) (fun U h=>?_) (fun P o=>?_))
  ·refine Q5 h (fun B h=>?_) (fun B h=>?_)
   ·refine Q0 Fm 2 [] [(4,AL a)] [] [] ?_
    refine AW.ret ?_;obtain rfl:=Option.some.inj h
    exact Kn.D Fm
   ·refine AW.skip ?_
    obtain ⟨p,I,K,q,h⟩:=gS4 h;obtain ⟨L,h⟩:=gS h
    refine Z5F Fm [.m,.s,.s,.w (AL (a.take b.toNat)),.s,.s,.w (AL ([e]:List Int)),.s,.s,.s,.w (AL (a.drop b.toNat)),.s,.s] [] [(4,ow 44)] [] [(44,AO (((([]:List Int)++(a.take b.toNat))++([e]:List Int))++(a.drop b.toNat)))] (cA (⟨p,(Is.refl a).len⟩:((sl (List.length a) (LF a) none (some b)).2∧∀ j,j<List.length a→(LF a j).length=1)) (cA (ALe.lst (Z5J a none (some b) p):ALe (.v (.c (.d (.lst (sl (List.length a) (LF a) none (some b)).1.1 (sl (List.length a) (LF a) none (some b)).1.2)))) (AL (a.take b.toNat))) (cA (cA I (cT (lfl (a.take b.toNat)))) (cA (ALe.lst (.lit ([e]:List Int) (by kernel_rfl)):ALe (.v (.c (.d (.lst 1 (Z1g 1 [.int .i64 e]))))) (AL ([e]:List Int))) (cA (cA K (cT (Is.refl ([e]:List Int):Is (List.length ([e]:List Int)) (LF ([e]:List Int)) ([e]:List Int)).len)) (cA (⟨q,(Is.refl a).len⟩:((sl (List.length a) (LF a) (some b) none).2∧∀ j,j<List.length a→(LF a j).length=1)) (cA (ALe.lst (Z5J a (some b) none q):ALe (.v (.c (.d (.lst (sl (List.length a) (LF a) (some b) none).1.1 (sl (List.length a) (LF a) (some b) none).1.2)))) (AL (a.drop b.toNat))) (cT (cA L (cT (Is.refl (a.drop b.toNat):Is (List.length (a.drop b.toNat)) (LF (a.drop b.toNat)) (a.drop b.toNat)).len)))))))))) [(44,.arr 1 ((((0)+(List.length (a.take b.toNat)))+(List.length ([e]:List Int)))+(List.length (a.drop b.toNat))) (Q6R (((0)+(List.length (a.take b.toNat)))+(List.length ([e]:List Int))) (Q6R ((0)+(List.length (a.take b.toNat))) (Q6R (0) (Z1g 1 []) (LF (a.take b.toNat))) (LF ([e]:List Int))) (LF (a.drop b.toNat))))] ⟨OLe.is (Is.app (Is.app (Is.app (Is.lit ([]:List Int) (by kernel_rfl)) (Is.refl (a.take b.toNat))) (Is.refl ([e]:List Int))) (Is.refl (a.drop b.toNat))),⟨⟩⟩ ?_
    refine AW.ret ?_;obtain rfl:=Option.some.inj h
    refine W6 Fm [(4,ow 44)] [(44,AO (((([]:List Int)++(a.take b.toNat))++([e]:List Int))++(a.drop b.toNat)))] (by kernel_rfl) ?_;refine Kn.frz [(4,AL (((([]:List Int)++(a.take b.toNat))++([e]:List Int))++(a.drop b.toNat)))] [] (by kernel_rfl) (by kernel_rfl) (by kernel_rfl) ?_
    exact Kn.D Fm
  ·rcases Y7 h with ⟨l,h⟩|⟨l,h⟩
   ·obtain ⟨H,h⟩:=gS h
    refine Q1 Fm (sA 4 (sZ 7 [.w (vb true)])) [0,1,5] [(31,vb ((gl a b.toNat)==e))] [] [] (cA (ALe.bool l) (cT H)) ?_;exact Kn.R Fm (o ((gl a b.toNat)==e) h)
   ·refine Q1 Fm (sA 4 (sZ 7 [.w (vb false)])) [0,1,5] [(31,vb false)] [] [] (cT (ALe.bool l)) ?_
    exact Kn.R Fm (o false h)
 ·refine AW.block (W6 Fm [(0,AL a),(1,vi e),(5,vi 0)] [] (by kernel_rfl) ?_)
  refine Z3 (E':=fun z=>[(0,AL a),(1,vi e),(5,vi z)]) (S':=fun z=>[]) (fun t i M u h=>?_) h;refine AW.seq (Z2 (r:=r) (fun z:Bool=>Q6B F a e i t z) [0,1,5] (fun z=>[(17,vb z)]) [] (fun _=>[]) (fun T h=>?_) (fun N n=>?_))
  ·refine Q5 h (fun A h=>?_) (fun A h=>?_)
   ·refine AW.skip (AW.block ?_)
    obtain ⟨G,h⟩:=gS h;refine Q1 Fm [.s,.s,.s] [0,1] [(5,vi (i+1))] [] [] (cT (cT G)) ?_
    exact Kn.R Fm (u (i+1) h)
   ·exact AW.exit (Kn.R Fm (y i h))
  ·rcases Y7 h with ⟨k,h⟩|⟨k,h⟩
   ·obtain ⟨E,h⟩:=gS h
    refine Q1 Fm (sA 4 (sZ 7 [.w (vb true)])) [0,1,5] [(11,AL a),(12,vi i),(13,.v (.c (.elm [.int .i64 (gl a i.toNat)]))),(14,vi (gl a i.toNat)),(15,vi e),(16,vb (decide ((gl a i.toNat)<e))),(17,vb (decide ((gl a i.toNat)<e)))] [] [] (cA (ALe.bool k) (cT E)) ?_;exact Kn.R Fm (n (decide ((gl a i.toNat)<e)) h)
   ·refine Q1 Fm (sA 4 (sZ 7 [.w (vb false)])) [0,1,5] [(17,vb false)] [] [] (cT (ALe.bool k)) ?_
    exact Kn.R Fm (n false h)
theorem Q9E {F:Nat} {a:(List Rect)} {e:Int} {d:Int} {r:Bool} (h:Q1K F a e d=some r) :
  Z6 Tryz.prog 110 [AL a,vi e,vi d] [] (vb r) []:=by
 refine FI Tryz.func110 Q2 Q4 fun C Fm=>?_
 unfold Q1K at h;refine Q0 Fm 1 [0,1,2] [] [] [] ?_
 refine Z2 (r:=r) (fun z:Unit=>Z1x F) [] (fun _=>[]) [] (fun _=>[]) (fun z h=>?_) (fun B o=>?_)
 ·refine Q0 Fm 1 [] [(6,vb false)] [] [] ?_
  refine AW.ret ?_;obtain rfl:=Option.some.inj h
  exact Kn.D Fm
 ·refine Q0 Fm 3 [1,2] [(9,AL a),(10,vi (lI a)),(11,vi 0)] [] [] ?_
  refine AW.block (W6 Fm [(1,vi e),(2,vi d),(9,AL a),(10,vi (lI a)),(11,vi 0)] [] (by kernel_rfl) ?_);refine Z3 (E':=fun z=>[(1,vi e),(2,vi d),(9,AL a),(10,vi (lI a)),(11,vi z)]) (S':=fun z=>[]) (fun m b y n h=>?_) h
  refine Q0 Fm 1 [1,2,9,10,11] [(12,vb (decide (b<(lI a))))] [] [] ?_;refine AW.seq (Q5 h (fun p h=>?_) (fun p h=>?_))
  ·refine AW.skip (AW.seq (AW.block ?_))
   obtain ⟨t,h⟩:=gS h;refine Y6 Fm (sA 4 []) [1,2,9,10,11] [(8,pt 8)] [] [(8,bx [ci ((gl a b.toNat).L_),ci ((gl a b.toNat).w_),ci ((gl a b.toNat).R_),ci ((gl a b.toNat).H_)])] (cT t) ?_
   refine Z2 (r:=r) (fun z:Bool=>z8 F b m z) [1,2,9,10,11] (fun z=>[(36,vb z)]) [] (fun _=>[]) (fun E h=>?_) (fun A j=>?_)
   ·refine Q5 h (fun q h=>?_) (fun q h=>?_)
    ·refine Q0 Fm 1 [] [(6,vb true)] [] [] ?_
     refine AW.ret ?_;obtain rfl:=Option.some.inj h
     exact Kn.D Fm
    ·refine AW.skip ?_
     obtain ⟨u,h⟩:=gS h;refine Q1 Fm [.s,.s] [1,2,9,10] [(11,vi (b+1))] [] [] (cT (cT u)) ?_
     exact Kn.R Fm (n (b+1) h)
   ·rcases Y7 h with ⟨i,h⟩|⟨i,h⟩
    ·rcases Y7 h with ⟨k,h⟩|⟨k,h⟩
     ·rcases Y7 h with ⟨l,h⟩|⟨l,h⟩
      ·refine Q1 Fm (sA 4 (sZ 5 [.w (vb true),.s,.s,.s,.s,.s,.w (vb true),.s,.s,.s,.s,.s,.w (vb true)])) [1,2,9,10,11] [(20,vi e),(21,.v (.c (.ptr 8 2))),(22,vi (gl a b.toNat).R_),(23,vb (decide (e<((gl a b.toNat).R_)))),(26,.v (.c (.ptr 8 1))),(27,vi (gl a b.toNat).w_),(28,vi d),(29,vb (decide (((gl a b.toNat).w_)≤d))),(32,vi d),(33,.v (.c (.ptr 8 3))),(34,vi (gl a b.toNat).H_),(35,vb (decide (d<((gl a b.toNat).H_)))),(36,vb (decide (d<((gl a b.toNat).H_))))] [8] [] (cA (ALe.bool i) (cA (ALe.bool k) (cT (ALe.bool l)))) ?_
       exact Kn.R Fm (j (decide (d<((gl a b.toNat).H_))) h)
      ·refine Q1 Fm (sA 4 (sZ 5 [.w (vb true),.s,.s,.s,.s,.s,.w (vb true),.s,.s,.s,.s,.s,.w (vb false)])) [1,2,9,10,11] [(20,vi e),(21,.v (.c (.ptr 8 2))),(22,vi (gl a b.toNat).R_),(23,vb (decide (e<((gl a b.toNat).R_)))),(26,.v (.c (.ptr 8 1))),(27,vi (gl a b.toNat).w_),(28,vi d),(29,vb (decide (((gl a b.toNat).w_)≤d))),(36,vb false)] [8] [] (cA (ALe.bool i) (cA (ALe.bool k) (cT (ALe.bool l)))) ?_
       exact Kn.R Fm (j false h)
     ·refine Q1 Fm (sA 4 (sZ 11 [.w (vb true),.s,.s,.s,.s,.s,.w (vb false)])) [1,2,9,10,11] [(20,vi e),(21,.v (.c (.ptr 8 2))),(22,vi (gl a b.toNat).R_),(23,vb (decide (e<((gl a b.toNat).R_)))),(36,vb false)] [8] [] (cA (ALe.bool i) (cT (ALe.bool k))) ?_
      exact Kn.R Fm (j false h)
    ·refine Q1 Fm (sA 4 (sZ 17 [.w (vb false)])) [1,2,9,10,11] [(36,vb false)] [] [] (cT (ALe.bool i)) ?_
     exact Kn.R Fm (j false h)
  ·exact AW.exit (Kn.R Fm (o () h))
theorem Z6d {F:Nat} {l:Bool} {a:Bool} {b:Int} {r:Bool} (h:Q7m F l a b=some r) :
  Z6 Tryz.prog 202 [vb l,vb a,vi b] [] (vb r) []:=by
 refine FI Tryz.func202 Q2 Q4 fun C Fm=>?_
 unfold Q7m at h;refine Q0 Fm 1 [0,1,2] [] [] [] ?_
 refine AW.seq (Q0 Fm 1 [0,1] [(7,vi b)] [] [] ?_);refine AW.block (Q0 Fm 2 [0,1,7] [(8,vb (b==1))] [] [] ?_)
 refine Q5 h (fun m h=>?_) (fun m h=>?_)
 ·refine Z2 (r:=r) (fun z:Bool=>Q9W F z) [] (fun z=>[(6,vb z)]) [] (fun _=>[]) (fun t h=>?_) (fun o i=>?_)
  ·refine AW.ret ?_
   obtain rfl:=Option.some.inj h;exact Kn.D Fm
  ·rcases Y7 h with ⟨c,h⟩|⟨c,h⟩
   ·refine Q1 Fm [.s,.w (vb true),.s,.s,.s] [] [(6,vb true)] [] [] (cT (ALe.bool c)) ?_
    exact Kn.R Fm (i true h)
   ·refine Q1 Fm [.s,.w (vb false),.s,.s,.s] [] [(6,vb a)] [] [] (cT (ALe.bool c)) ?_
    exact Kn.R Fm (i a h)
 ·refine Q0 Fm 2 [0,1] [(14,vb (b==2))] [] [] ?_
  refine Q5 h (fun n h=>?_) (fun n h=>?_)
  ·refine Z2 (r:=r) (fun z:Bool=>Q9V F z) [] (fun z=>[(6,vb z)]) [] (fun _=>[]) (fun u h=>?_) (fun p j=>?_)
   ·refine AW.ret ?_
    obtain rfl:=Option.some.inj h;exact Kn.D Fm
   ·rcases Y7 h with ⟨d,h⟩|⟨d,h⟩
    ·refine Q1 Fm [.s,.w (vb true),.s,.s,.s] [] [(6,vb a)] [] [] (cT (ALe.bool d)) ?_
     exact Kn.R Fm (j a h)
    ·refine Q1 Fm [.s,.w (vb false),.s,.s,.s] [] [(6,vb false)] [] [] (cT (ALe.bool d)) ?_
     exact Kn.R Fm (j false h)
  ·refine AW.skip (Z2 (r:=r) (fun z:Bool=>Q9U F z) [] (fun z=>[(6,vb z)]) [] (fun _=>[]) (fun y h=>?_) (fun q k=>?_))
   ·refine AW.ret ?_
    obtain rfl:=Option.some.inj h;exact Kn.D Fm
   ·rcases Y7 h with ⟨e,h⟩|⟨e,h⟩
    ·refine Q1 Fm [.s,.w (vb true),.s,.s,.s,.s] [] [(6,vb (!a))] [] [] (cT (ALe.bool e)) ?_
     exact Kn.R Fm (k (!a) h)
    ·refine Q1 Fm [.s,.w (vb false),.s,.s,.s,.s] [] [(6,vb false)] [] [] (cT (ALe.bool e)) ?_
     exact Kn.R Fm (k false h)
theorem Z1u {F:Nat} {b:(List Rect)} {d:(List Rect)} {r:Bool} (h:Q7l F b d=some r) :
  Z6 Tryz.prog 203 [AL b,AL d] [] (vb r) []:=by
 refine FI Tryz.func203 Q2 Q4 fun C Fm=>?_
 unfold Q7l at h;refine Q0 Fm 1 [0,1] [] [] [] ?_
 refine AW.seq (Q0 Fm 5 [0,1] [(10,vb ((lI b) != (lI d)))] [] [] ?_);refine Q5 h (fun o h=>?_) (fun o h=>?_)
 ·refine Q0 Fm 1 [] [(4,vb false)] [] [] ?_
  refine AW.ret ?_;obtain rfl:=Option.some.inj h
  exact Kn.D Fm
 ·refine AW.skip (Z2 (r:=r) (fun z:Unit=>Z3t F) [] (fun _=>[]) [] (fun _=>[]) (fun z h=>?_) (fun E n=>?_))
  ·refine Q0 Fm 1 [] [(4,vb true)] [] [] ?_
   refine AW.ret ?_;obtain rfl:=Option.some.inj h
   exact Kn.D Fm
  ·refine Q0 Fm 3 [0,1] [(12,vi (lI b)),(13,vi 0)] [] [] ?_
   refine AW.block (W6 Fm [(0,AL b),(1,AL d),(12,vi (lI b)),(13,vi 0)] [] (by kernel_rfl) ?_);refine Z3 (E':=fun z=>[(0,AL b),(1,AL d),(12,vi (lI b)),(13,vi z)]) (S':=fun z=>[]) (fun l a A m h=>?_) h
   refine Q0 Fm 1 [0,1,12,13] [(14,vb (decide (a<(lI b))))] [] [] ?_;refine AW.seq (Q5 h (fun p h=>?_) (fun p h=>?_))
   ·refine AW.skip (AW.seq (AW.block (Q0 Fm 2 [0,1,12,13] [(5,vi a)] [] [] ?_)))
    refine Z2 (r:=r) (fun z:Bool=>Q5m F a l z) [0,1,12,13] (fun z=>[(39,vb z)]) [] (fun _=>[]) (fun G h=>?_) (fun B i=>?_)
    ·refine Q5 h (fun q h=>?_) (fun q h=>?_)
     ·refine Q0 Fm 1 [] [(4,vb false)] [] [] ?_
      refine AW.ret ?_;obtain rfl:=Option.some.inj h
      exact Kn.D Fm
     ·refine AW.skip ?_
      obtain ⟨y,h⟩:=gS h;refine Q1 Fm [.s,.s] [0,1,12] [(13,vi (a+1))] [] [] (cT (cT y)) ?_
      exact Kn.R Fm (m (a+1) h)
    ·obtain ⟨j,k,h⟩:=gS2 h
     rcases Y7 h with ⟨e,h⟩|⟨e,h⟩
     ·refine Q1 Fm (sA 11 (sZ 12 [.w (vb true)])) [0,1,12,13] [(39,vb true)] [] [] (cA j (cA k (cT (ALe.bool e)))) ?_
      exact Kn.R Fm (i true h)
     ·obtain ⟨t,u,h⟩:=gS2 h
      refine Q1 Fm (sA 11 (sZ 12 [.w (vb false)])) [0,1,12,13] [(28,AL b),(29,vi a),(30,.v (.c (.elm [.int .i64 (gl b a.toNat).L_,.int .i64 (gl b a.toNat).w_,.int .i64 (gl b a.toNat).R_,.int .i64 (gl b a.toNat).H_]))),(31,.v (.c (.elm [.int .i64 (gl b a.toNat).R_,.int .i64 (gl b a.toNat).H_]))),(32,vi (gl b a.toNat).R_),(33,AL d),(34,vi a),(35,.v (.c (.elm [.int .i64 (gl d a.toNat).L_,.int .i64 (gl d a.toNat).w_,.int .i64 (gl d a.toNat).R_,.int .i64 (gl d a.toNat).H_]))),(36,.v (.c (.elm [.int .i64 (gl d a.toNat).R_,.int .i64 (gl d a.toNat).H_]))),(37,vi (gl d a.toNat).R_),(38,vb (((gl b a.toNat).R_) != ((gl d a.toNat).R_))),(39,vb (((gl b a.toNat).R_) != ((gl d a.toNat).R_)))] [] [] (cA j (cA k (cA (ALe.bool e) (cA t (cT u))))) ?_;exact Kn.R Fm (i (((gl b a.toNat).R_) != ((gl d a.toNat).R_)) h)
   ·exact AW.exit (Kn.R Fm (n () h))
theorem Q7Q {F:Nat} {a:(List Rect)} {b:(List Rect)} {t:Int} {r:(List Rect)} (h:Q8l F a b t=some r) :
  Z6 Tryz.prog 112 [AL a,AL b,vi t] [] (ow 100) [(100,AO r)]:=by
 refine FI Tryz.func112 Q2 Q4 fun C Fm=>?_
 unfold Q8l at h;refine Q3x Fm [.m] (fun K=>True) [0,1,2] [] [] [] True.intro ?_
 refine G9 Fm [.m,.m] (fun K=>True) [0,1,2] [(7,ow 7),(8,ow 8)] [] [(7,AO ([]:List Int)),(8,AO ([]:List Int))] True.intro [(7,.arr 1 (0) (fun _=>[])),(8,.arr 1 (0) (fun _=>[]))] ⟨OLe.is ((Is.nil (α:=Int))),OLe.is ((Is.nil (α:=Int))),⟨⟩⟩ ?_;refine Z2 (r:=r) (fun z:(List Int)×(List Int)=>Q9f F a b t z.1 z.2) [0,1,2] (fun z=>[(7,AL z.1),(8,AL z.2)]) [] (fun _=>[]) (fun z h=>?_) (fun U1 m0=>?_)
 ·obtain ⟨l,j⟩:=z
  refine G9 Fm [.m,.m] (fun K=>True) [0,1,2,7,8] [(13,ow 13),(14,ow 14)] [] [(13,AO ([]:List Rect)),(14,AO ([]:List Rect))] True.intro [(13,.arr 4 (0) (fun _=>[])),(14,.arr 4 (0) (fun _=>[]))] ⟨OLe.is ((Is.nil (α:=Rect))),OLe.is ((Is.nil (α:=Rect))),⟨⟩⟩ ?_;refine Z2 (r:=r) (fun z:(List Rect)×(List Rect)=>Q8u F z.1 z.2) [13,14] (fun _=>[]) [] (fun z=>[(13,AO z.1),(14,AO z.2)]) (fun z h=>?_) (fun i2 u0=>?_)
  ·obtain ⟨U,H⟩:=z
   obtain ⟨s1,h⟩:=gS h;refine Z5F Fm (sA 4 []) [] [(6,ow 176)] [] [(176,AO (U++H))] (cT (cA s1 (cT (lfl H)))) [(176,rAp U H)] ⟨oAp,⟨⟩⟩ ?_
   refine AW.ret ?_;obtain rfl:=Option.some.inj h
   exact Q3e Fm [(100,176)] [(6,ow 100)] [(100,AO (U++H))] (by kernel_rfl) (by kernel_rfl) (by kernel_rfl) (by kernel_rfl) (Q3H Fm (by kernel_rfl))
  ·refine Q0 Fm 1 [0,1,2,7,8,13,14] [(15,vi 0)] [13,14] [] ?_
   refine AW.block (W6 Fm [(0,AL a),(1,AL b),(2,vi t),(7,AL l),(8,AL j),(13,ow 13),(14,ow 14),(15,vi 0)] [(13,AO ([]:List Rect)),(14,AO ([]:List Rect))] (by kernel_rfl) ?_);refine Z3 (E':=fun z=>[(0,AL a),(1,AL b),(2,vi t),(7,AL l),(8,AL j),(13,ow 13),(14,ow 14),(15,vi z.1)]) (S':=fun z=>[(13,AO z.2.1),(14,AO z.2.2)]) (fun E z V1 n0 h=>?_) h
   obtain ⟨i,u,p⟩:=z;refine AW.seq ?_
   obtain ⟨N0,h⟩:=gS h;refine Y6 Fm (sA 5 []) [0,1,2,7,8,13,14,15] [(54,vb (decide ((i+1)<(lI j))))] [13,14] [] (cT (cT N0)) ?_
   refine Q5 h (fun A0 h=>?_) (fun A0 h=>?_)
   ·refine AW.skip (Z2 (r:=r) (fun z:(List Rect)×(List Rect)=>Q4S F i E z.1 z.2) [0,1,2,7,8,13,14,15] (fun _=>[]) [] (fun z=>[(13,AO z.1),(14,AO z.2)]) (fun z h=>?_) (fun e2 X=>?_))
    ·obtain ⟨M1,N1⟩:=z
     obtain ⟨q1,h⟩:=gS h;refine Q1 Fm [.s,.s,.s] [0,1,2,7,8,13,14] [(15,vi (i+1))] [13,14] [] (cT (cT q1)) ?_
     exact Kn.R Fm (n0 ((i+1),M1,N1) h)
    ·refine AW.block (G9 Fm [.m] (fun K=>True) [0,1,2,7,8,13,14,15] [(16,ow 16)] [13,14] [(16,AO ([]:List Rect))] True.intro [(16,.arr 4 (0) (fun _=>[]))] ⟨OLe.is ((Is.nil (α:=Rect))),⟨⟩⟩ ?_)
     refine Z2 (r:=r) (fun z:(List Rect)=>Q9e F j i u p E z) [0,1,2,7,8,13,14,15,16] (fun _=>[]) [13,14] (fun z=>[(16,AO z)]) (fun D h=>?_) (fun Z1 p0=>?_)
     ·refine Z2 (r:=r) (fun z:Unit=>Q8v F i u p D E) [0,1,2,7,8,13,14,15,16] (fun _=>[]) [13,14,16] (fun _=>[]) (fun z h=>?_) (fun d2 t0=>?_)
      ·obtain ⟨p1,h⟩:=gS h
       refine Z5F Fm (sA 4 []) [0,1,2,7,8,15,16] [(13,ow 172)] [16] [(172,AO (u++p))] (cT (cA p1 (cT (lfl p)))) [(172,rAp u p)] ⟨oAp,⟨⟩⟩ ?_;refine Y1c Fm 2 [0,1,2,7,8,13,15] [(14,ow 16)] [16,172] [] ?_
       exact Q1f Fm [(13,172),(14,16)] (X ((u++p),D) h)
      ·refine Z2 (r:=r) (fun z:Bool=>Q2S F j i u p D E z) [0,1,2,7,8,13,14,15,16] (fun z=>[(154,vb z)]) [13,14,16] (fun _=>[]) (fun m2 h=>?_) (fun a2 M=>?_)
       ·refine Q5 h (fun G0 h=>?_) (fun G0 h=>?_)
        ·refine Z2 (r:=r) (fun z:(List Rect)=>Q8w F i u E z) [0,1,2,7,8,13,14,15] (fun _=>[]) [13] (fun z=>[(14,AO z)]) (fun L1 h=>?_) (fun c2 s0=>?_)
         ·exact AW.exit (Kn.R Fm (X (u,L1) h))
         ·refine Q0 Fm 3 [0,1,2,7,8,13,14,15] [(156,vi (lI p)),(157,vi 0)] [13,14] [] ?_
          refine AW.block (W6 Fm [(0,AL a),(1,AL b),(2,vi t),(7,AL l),(8,AL j),(13,ow 13),(14,ow 14),(15,vi i),(156,vi (lI p)),(157,vi 0)] [(13,AO u),(14,AO p)] (by kernel_rfl) ?_);refine Z3 (E':=fun z=>[(0,AL a),(1,AL b),(2,vi t),(7,AL l),(8,AL j),(13,ow 13),(14,ow 14),(15,vi i),(156,vi (lI p)),(157,vi z.1)]) (S':=fun z=>[(13,AO u),(14,AO z.2)]) (fun k2 z b2 q0 h=>?_) h
          obtain ⟨y,A⟩:=z;refine Q0 Fm 1 [0,1,2,7,8,13,14,15,156,157] [(158,vb (decide (y<(lI p))))] [13,14] [] ?_
          refine AW.seq (Q5 h (fun H0 h=>?_) (fun H0 h=>?_))
          ·refine AW.skip (AW.seq (AW.block (Q0 Fm 2 [0,1,2,7,8,13,14,15,156,157] [(19,vi y)] [13,14] [] ?_)))
           obtain ⟨m1,n1,T,h⟩:=gS3 h;refine Q0I Fm (sA 10 []) [0,1,2,7,8,13,14,15,156,157] [] [13] [(14,AO (List.set A y.toNat (⟨(gl A y.toNat).L_,(gl A y.toNat).w_,(gl A y.toNat).R_,(gl j (i+1).toNat)⟩:Rect)))] (cA (cT m1) (cA n1 (cA T (cT (Z7 T))))) [(14,rSt A y.toNat 3 [.int .i64 (gl j (i+1).toNat)])] ⟨oSt (Z7 T),⟨⟩⟩ ?_
           obtain ⟨o1,h⟩:=gS h;refine Q1 Fm [.s,.s] [0,1,2,7,8,13,14,15,156] [(157,vi (y+1))] [13,14] [] (cT (cT o1)) ?_
           exact Kn.R Fm (q0 ((y+1),(List.set A y.toNat (⟨(gl A y.toNat).L_,(gl A y.toNat).w_,(gl A y.toNat).R_,(gl j (i+1).toNat)⟩:Rect))) h)
          ·exact AW.exit (Kn.R Fm (s0 A h))
        ·exact AW.skip (Kn.R Fm (t0 () h))
       ·rcases Y7 h with ⟨G,h⟩|⟨G,h⟩
        ·obtain ⟨I,a0,h⟩:=bS h
         rcases Y7 h with ⟨O,h⟩|⟨O,h⟩
         ·obtain ⟨Z,l1,h⟩:=gS2 h
          refine Q9 Fm (sZ 10 [.s,.s,.s,.w (vb true),.s,.s,.k (sE (vb I)),.s,.w (vb true)]) (fun K=>_∧K 6∧_∧_∧_∧_∧True) [0,1,2,7,8,13,14,15,16] [(140,ow 14),(141,ow 16),(142,vb I),(145,ow 14),(146,.v (.c (.pte 14 4 ((0:Int).toNat) 0))),(147,.v (.c (.pte 14 4 ((0:Int).toNat) 3))),(148,vi (gl p (0:Int).toNat).H_),(149,AL j),(150,vi i),(151,.v (.c (.elm [.int .i64 (gl j i.toNat)]))),(152,vi (gl j i.toNat)),(153,vb (((gl p (0:Int).toNat).H_)==(gl j i.toNat))),(154,vb (((gl p (0:Int).toNat).H_)==(gl j i.toNat)))] [13,14,16] [] ⟨ALe.bool G,Z4k (Z1u a0) Tryz.call203 [14,16] [.tmp 140,.tmp 141] rfl (by kernel_rfl) (by kernel_rfl) ⟨Z7V.own 14 (es:=4) (n:=List.length p) (f:=LF p) (by kernel_rfl) (by kernel_rfl) (by kernel_rfl) (by kernel_rfl),Z7V.own 16 (es:=4) (n:=List.length D) (f:=LF D) (by kernel_rfl) (by kernel_rfl) (by kernel_rfl) (by kernel_rfl),⟨⟩⟩,ALe.bool O,Z,(Z7 Z),l1,⟨⟩⟩ ?_;exact Kn.R Fm (M (((gl p (0:Int).toNat).H_)==(gl j i.toNat)) h)
         ·refine Q9 Fm (sZ 10 [.s,.s,.s,.w (vb true),.s,.s,.k (sE (vb I)),.s,.w (vb false)]) (fun K=>_∧K 6∧_∧True) [0,1,2,7,8,13,14,15,16] [(140,ow 14),(141,ow 16),(142,vb I),(154,vb false)] [13,14,16] [] ⟨ALe.bool G,Z4k (Z1u a0) Tryz.call203 [14,16] [.tmp 140,.tmp 141] rfl (by kernel_rfl) (by kernel_rfl) ⟨Z7V.own 14 (es:=4) (n:=List.length p) (f:=LF p) (by kernel_rfl) (by kernel_rfl) (by kernel_rfl) (by kernel_rfl),Z7V.own 16 (es:=4) (n:=List.length D) (f:=LF D) (by kernel_rfl) (by kernel_rfl) (by kernel_rfl) (by kernel_rfl),⟨⟩⟩,ALe.bool O,⟨⟩⟩ ?_
          exact Kn.R Fm (M false h)
        ·refine Q1 Fm (sZ 15 [.s,.s,.s,.w (vb false)]) [0,1,2,7,8,13,14,15,16] [(154,vb false)] [13,14,16] [] (cT (ALe.bool G)) ?_
         exact Kn.R Fm (M false h)
     ·refine Q0 Fm 1 [0,1,2,7,8,13,14,15,16] [(17,vi 0)] [13,14,16] [] ?_
      refine AW.block (W6 Fm [(0,AL a),(1,AL b),(2,vi t),(7,AL l),(8,AL j),(13,ow 13),(14,ow 14),(15,vi i),(16,ow 16),(17,vi 0)] [(13,AO u),(14,AO p),(16,AO ([]:List Rect))] (by kernel_rfl) ?_);refine Z3 (E':=fun z=>[(0,AL a),(1,AL b),(2,vi t),(7,AL l),(8,AL j),(13,ow 13),(14,ow 14),(15,vi i),(16,ow 16),(17,vi z.1)]) (S':=fun z=>[(13,AO u),(14,AO p),(16,AO z.2)]) (fun V z W1 o0 h=>?_) h
      obtain ⟨o,e⟩:=z;refine AW.seq ?_
      obtain ⟨O0,h⟩:=gS h;refine Y6 Fm (sA 5 []) [0,1,2,7,8,13,14,15,16,17] [(61,vb (decide ((o+1)<(lI l))))] [13,14,16] [] (cT (cT O0)) ?_
      refine Q5 h (fun B0 h=>?_) (fun B0 h=>?_)
      ·refine AW.skip (Z2 (r:=r) (fun z:(List Rect)=>Q2T F o V z) [0,1,2,7,8,13,14,15,16,17] (fun _=>[]) [13,14] (fun z=>[(16,AO z)]) (fun K1 h=>?_) (fun Y1 L=>?_))
       ·obtain ⟨k1,h⟩:=gS h
        refine Q1 Fm [.s,.s,.s] [0,1,2,7,8,13,14,15,16] [(17,vi (o+1))] [13,14,16] [] (cT (cT k1)) ?_;exact Kn.R Fm (o0 ((o+1),K1) h)
       ·refine AW.block (AW.seq (AW.seq ?_))
        obtain ⟨P0,R0,h⟩:=gS2 h;obtain ⟨p2,A1,h⟩:=bS h
        obtain ⟨T0,U0,h⟩:=gS2 h;obtain ⟨q2,B1,h⟩:=bS h
        obtain ⟨O1,D1,h⟩:=bS h;refine Q9 Fm (sA 9 [.k _,.s,.s,.s,.s,.s,.s,.s,.s,.s,.k _,.s,.k _,.s]) (fun K=>_∧_∧K 9∧_∧_∧K 19∧K 21∧True) [0,1,2,7,8,13,14,15,16,17] [(86,vb (!O1))] [13,14,16] [] ⟨P0,R0,Q3 (Q9E A1) Tryz.call110 [],T0,U0,Q3 (Q9E B1) Tryz.call110 [],Q3 (Z6d D1) Tryz.call202 [],⟨⟩⟩ ?_
        refine Q5 h (fun D0 h=>?_) (fun D0 h=>?_)
        ·exact AW.exit (Kn.R Fm (L e h))
        ·refine AW.skip (Q0 Fm 3 [0,1,2,7,8,13,14,15,16,17] [(18,vi (lI e))] [13,14,16] [] ?_)
         refine Z2 (r:=r) (fun z:Bool=>Q5I F l j i o e V z) [0,1,2,7,8,13,14,15,16,17,18] (fun z=>[(103,vb z)]) [13,14,16] (fun _=>[]) (fun l2 h=>?_) (fun X1 W=>?_)
         ·refine Q5 h (fun E0 h=>?_) (fun E0 h=>?_)
          ·obtain ⟨X0,Y0,Z0,P,h⟩:=gS4 h
           refine Q0I Fm (sA 11 []) [0,1,2,7,8,13,14,15,16,17] [] [13,14] [(16,AO (List.set e ((lI e)-1).toNat (⟨(gl e ((lI e)-1).toNat).L_,(gl e ((lI e)-1).toNat).w_,(gl l (o+1).toNat),(gl e ((lI e)-1).toNat).H_⟩:Rect)))] (cA (cT X0) (cA (cT Y0) (cA Z0 (cA P (cT (Z7 P)))))) [(16,rSt e ((lI e)-1).toNat 2 [.int .i64 (gl l (o+1).toNat)])] ⟨oSt (Z7 P),⟨⟩⟩ ?_;exact Kn.R Fm (L (List.set e ((lI e)-1).toNat (⟨(gl e ((lI e)-1).toNat).L_,(gl e ((lI e)-1).toNat).w_,(gl l (o+1).toNat),(gl e ((lI e)-1).toNat).H_⟩:Rect)) h)
          ·obtain ⟨a1,b1,c1,d1,h⟩:=gS4 h
           obtain ⟨e1,i1,j1,h⟩:=gS3 h;refine Q0I Fm (sA 20 [.w (AL [(⟨(gl l o.toNat),(gl j i.toNat),(gl l (o+1).toNat),(gl j (i+1).toNat)⟩:Rect)]),.s,.s]) [0,1,2,7,8,13,14,15,17] [(16,ow 135)] [13,14] [(135,AO (e++([(⟨(gl l o.toNat),(gl j i.toNat),(gl l (o+1).toNat),(gl j (i+1).toNat)⟩:Rect)]:List Rect)))] (cA a1 (cA b1 (cA (cT c1) (cA d1 (cA (cT e1) (cA i1 (cA (Z0I (⟨(gl l o.toNat),(gl j i.toNat),(gl l (o+1).toNat),(gl j (i+1).toNat)⟩:Rect)) (cT (cA j1 (cT (lfl ([(⟨(gl l o.toNat),(gl j i.toNat),(gl l (o+1).toNat),(gl j (i+1).toNat)⟩:Rect)]:List Rect)))))))))))) [(135,rAp e ([(⟨(gl l o.toNat),(gl j i.toNat),(gl l (o+1).toNat),(gl j (i+1).toNat)⟩:Rect)]:List Rect))] ⟨oAp,⟨⟩⟩ ?_
           exact Q1f Fm [(16,135)] (L (e++([(⟨(gl l o.toNat),(gl j i.toNat),(gl l (o+1).toNat),(gl j (i+1).toNat)⟩:Rect)]:List Rect)) h)
         ·rcases Y7 h with ⟨N,h⟩|⟨N,h⟩
          ·obtain ⟨V0,Y,W0,h⟩:=gS3 h
           refine Q1 Fm (sZ 12 [.s,.s,.w (vb true)]) [0,1,2,7,8,13,14,15,16,17,18] [(92,ow 16),(93,vi (lI e)),(94,vi ((lI e)-1)),(95,.v (.c (.pte 16 4 (((lI e)-1).toNat) 0))),(96,.v (.c (.pte 16 4 (((lI e)-1).toNat) 2))),(97,vi (gl e ((lI e)-1).toNat).R_),(98,AL l),(99,vi o),(100,.v (.c (.elm [.int .i64 (gl l o.toNat)]))),(101,vi (gl l o.toNat)),(102,vb (((gl e ((lI e)-1).toNat).R_)==(gl l o.toNat))),(103,vb (((gl e ((lI e)-1).toNat).R_)==(gl l o.toNat)))] [13,14,16] [] (cA (ALe.bool N) (cA (cT V0) (cA Y (cA (Z7 Y) (cT W0))))) ?_;exact Kn.R Fm (W (((gl e ((lI e)-1).toNat).R_)==(gl l o.toNat)) h)
          ·refine Q1 Fm (sZ 12 [.s,.s,.w (vb false)]) [0,1,2,7,8,13,14,15,16,17,18] [(103,vb false)] [13,14,16] [] (cT (ALe.bool N)) ?_
           exact Kn.R Fm (W false h)
      ·exact AW.exit (Kn.R Fm (p0 e h))
   ·exact AW.exit (Kn.R Fm (u0 (u,p) h))
 ·refine Y6 Fm [.s,.s,.w (AL (α:=(List Rect)) ([a,b]:List (List Rect))),.s,.s] [0,1,2,7,8] [(22,AL (α:=(List Rect)) ([a,b]:List (List Rect))),(23,vi ((List.length ([a,b]:List (List Rect)):Nat):Int)),(24,vi 0)] [7,8] [] (cT (ALe.lst (.lit ([a,b]:List (List Rect)) (by kernel_rfl)):ALe (.v (.c (.d (.lst 2 (Z1g 1 [DL a,DL b]))))) (AL (α:=(List Rect)) ([a,b]:List (List Rect))))) ?_
  refine AW.block (W6 Fm [(0,AL a),(1,AL b),(2,vi t),(7,ow 7),(8,ow 8),(22,AL (α:=(List Rect)) ([a,b]:List (List Rect))),(23,vi ((List.length ([a,b]:List (List Rect)):Nat):Int)),(24,vi 0)] [(7,AO ([]:List Int)),(8,AO ([]:List Int))] (by kernel_rfl) ?_);refine Kn.frz [(0,AL a),(1,AL b),(2,vi t),(7,AL ([]:List Int)),(8,ow 8),(22,AL (α:=(List Rect)) ([a,b]:List (List Rect))),(23,vi ((List.length ([a,b]:List (List Rect)):Nat):Int)),(24,vi 0)] [(8,AO ([]:List Int))] (by kernel_rfl) (by kernel_rfl) (by kernel_rfl) ?_
  refine W6 Fm [(0,AL a),(1,AL b),(2,vi t),(7,AL ([]:List Int)),(8,ow 8),(22,AL (α:=(List Rect)) ([a,b]:List (List Rect))),(23,vi ((List.length ([a,b]:List (List Rect)):Nat):Int)),(24,vi 0)] [(8,AO ([]:List Int))] (by kernel_rfl) ?_;refine Kn.frz [(0,AL a),(1,AL b),(2,vi t),(7,AL ([]:List Int)),(8,AL ([]:List Int)),(22,AL (α:=(List Rect)) ([a,b]:List (List Rect))),(23,vi ((List.length ([a,b]:List (List Rect)):Nat):Int)),(24,vi 0)] [] (by kernel_rfl) (by kernel_rfl) (by kernel_rfl) ?_
  refine W6 Fm [(0,AL a),(1,AL b),(2,vi t),(7,AL ([]:List Int)),(8,AL ([]:List Int)),(22,AL (α:=(List Rect)) ([a,b]:List (List Rect))),(23,vi ((List.length ([a,b]:List (List Rect)):Nat):Int)),(24,vi 0)] [] (by kernel_rfl) ?_;refine Z3 (E':=fun z=>[(0,AL a),(1,AL b),(2,vi t),(7,AL z.1),(8,AL z.2.1),(22,AL (α:=(List Rect)) ([a,b]:List (List Rect))),(23,vi ((List.length ([a,b]:List (List Rect)):Nat):Int)),(24,vi z.2.2)]) (S':=fun z=>[]) (fun i0 z P1 j0 h=>?_) h
  obtain ⟨b0,c0,q⟩:=z;refine Q0 Fm 1 [0,1,2,7,8,22,23,24] [(25,vb (decide (q<((List.length ([a,b]:List (List Rect)):Nat):Int))))] [] [] ?_
  refine AW.seq (Q5 h (fun w0 h=>?_) (fun w0 h=>?_))
  ·refine AW.skip (Z2 (r:=r) (fun z:(List Int)×(List Int)=>Q9g F q i0 z.1 z.2) [0,1,2,22,23,24] (fun z=>[(7,AL z.1),(8,AL z.2)]) [] (fun _=>[]) (fun z h=>?_) (fun T1 l0=>?_))
   ·obtain ⟨H1,I1⟩:=z
    obtain ⟨M0,h⟩:=gS h;refine Q1 Fm [.s,.s] [0,1,2,7,8,22,23] [(24,vi (q+1))] [] [] (cT (cT M0)) ?_
    exact Kn.R Fm (j0 (H1,I1,(q+1)) h)
   ·refine AW.block ?_
    obtain ⟨I0,h⟩:=gS h;refine Y6 Fm [.s,.s,.s] [0,1,2,7,8,22,23,24] [(10,AL (gl ([a,b]:List (List Rect)) q.toNat))] [] [] (cT I0) ?_
    refine Q0 Fm 3 [0,1,2,7,8,22,23,24] [(28,AL (gl ([a,b]:List (List Rect)) q.toNat)),(29,vi ((List.length (gl ([a,b]:List (List Rect)) q.toNat):Nat):Int)),(30,vi 0)] [] [] ?_;refine AW.block (W6 Fm [(0,AL a),(1,AL b),(2,vi t),(7,AL b0),(8,AL c0),(22,AL (α:=(List Rect)) ([a,b]:List (List Rect))),(23,vi ((List.length ([a,b]:List (List Rect)):Nat):Int)),(24,vi q),(28,AL (gl ([a,b]:List (List Rect)) q.toNat)),(29,vi ((List.length (gl ([a,b]:List (List Rect)) q.toNat):Nat):Int)),(30,vi 0)] [] (by kernel_rfl) ?_)
    refine Z3 (E':=fun z=>[(0,AL a),(1,AL b),(2,vi t),(7,AL z.1),(8,AL z.2.1),(22,AL (α:=(List Rect)) ([a,b]:List (List Rect))),(23,vi ((List.length ([a,b]:List (List Rect)):Nat):Int)),(24,vi q),(28,AL (gl ([a,b]:List (List Rect)) q.toNat)),(29,vi ((List.length (gl ([a,b]:List (List Rect)) q.toNat):Nat):Int)),(30,vi z.2.2)]) (S':=fun z=>[]) (fun j2 z R1 k0 h=>?_) h;obtain ⟨E1,G1,B⟩:=z
    refine Q0 Fm 1 [0,1,2,7,8,22,23,24,28,29,30] [(31,vb (decide (B<((List.length (gl ([a,b]:List (List Rect)) q.toNat):Nat):Int))))] [] [] ?_;refine AW.seq (Q5 h (fun y0 h=>?_) (fun y0 h=>?_))
    ·refine AW.skip (AW.seq (AW.block ?_))
     obtain ⟨K0,h⟩:=gS h;refine Y6 Fm (sA 4 []) [0,1,2,7,8,22,23,24,28,29,30] [(12,pt 12)] [] [(12,bx [ci ((gl (gl ([a,b]:List (List Rect)) q.toNat) B.toNat).L_),ci ((gl (gl ([a,b]:List (List Rect)) q.toNat) B.toNat).w_),ci ((gl (gl ([a,b]:List (List Rect)) q.toNat) B.toNat).R_),ci ((gl (gl ([a,b]:List (List Rect)) q.toNat) B.toNat).H_)])] (cT K0) ?_
     obtain ⟨n2,t1,h⟩:=bS h;obtain ⟨d0,u1,h⟩:=bS h
     obtain ⟨o2,w1,h⟩:=bS h;obtain ⟨e0,y1,h⟩:=bS h
     refine Q9 Fm [.s,.s,.s,.k _,.s,.s,.k _,.s,.s,.s,.k _,.s,.s,.k _,.s,.s] (fun K=>K 3∧K 6∧K 10∧K 13∧True) [0,1,2,22,23,24,28,29,30] [(7,AL d0),(8,AL e0)] [] [] ⟨Q3 (Q4f t1) Tryz.call127 [],Q3 (Q4f u1) Tryz.call127 [],Q3 (Q4f w1) Tryz.call127 [],Q3 (Q4f y1) Tryz.call127 [],⟨⟩⟩ ?_;obtain ⟨L0,h⟩:=gS h
     refine Q1 Fm [.s,.s] [0,1,2,7,8,22,23,24,28,29] [(30,vi (B+1))] [] [] (cT (cT L0)) ?_;exact Kn.R Fm (k0 (d0,e0,(B+1)) h)
    ·exact AW.exit (Kn.R Fm (l0 (E1,G1) h))
  ·exact AW.exit (Kn.R Fm (m0 (b0,c0) h))
theorem U2 {F:Nat} {a:(List Rect)} {b:(List Rect)} {c:Int} {r:(List Rect)} (h:W8 F a b c=some r) :
  Z6 Tryz.prog 112 [AL a,AL b,vi c] [] (AL r) []:=Z6.list (Q7Q (F:=F) h)
theorem Z0D {F:Nat} {a:(List Rect)} {r:Re_×Int} (h:Q5T F a=some r) :
  Z6 Tryz.prog 118 [AL a] [] (.t [.g [.d (DL r.1.t_)],.c (ci r.2)]) []:=by
 refine FI Tryz.func118 Q2 Q4 fun C Fm=>?_
 unfold Q5T at h;refine Q0 Fm 2 [0] [(2,pt 2)] [] [(2,bx [.fl 0 fun _=>[]])] ?_
 refine AW.seq (Q0 Fm 3 [0,2] [(6,vb (decide ((120:Int)<(lI a))))] [2] [] ?_);refine Q5 h (fun b h=>?_) (fun b h=>?_)
 ·refine Y6 Fm [.w (.v (.g [.d (DL (α:=Rect) [])])),.s,.s] [2] [(3,vi 1)] [] [(2,bx [.d (DL (α:=Rect) [])])] (cT (ALe.g ⟨CLe.fl .nil,⟨⟩⟩:ALe (.v (.g [.fl 0 fun _=>[]])) (.v (.g [.d (DL (α:=Rect) [])])))) ?_
  refine AW.ret ?_;obtain rfl:=Option.some.inj h
  exact Kn.D Fm
 ·refine AW.skip (Q0 Fm 4 [2] [(3,vi 0)] [] [(2,bx [.d (DL a)])] ?_)
  refine AW.ret ?_;obtain rfl:=Option.some.inj h
  exact Kn.D Fm
theorem Z7M {F:Nat} {a:(List Rect)} {r:Re_×Int} (h:Z2t F a=some r) :
  Z6 Tryz.prog 93 [AL a] [] (.t [.g [.d (DL r.1.t_)],.c (ci r.2)]) []:=by
 refine FI Tryz.func93 Q2 Q4 fun C Fm=>?_
 unfold Z2t at h;refine Q0 Fm 2 [0] [(2,pt 2)] [] [(2,bx [.fl 0 fun _=>[]])] ?_
 refine AW.seq (Q0 Fm 3 [0,2] [(8,vb (decide ((120:Int)<(lI a))))] [2] [] ?_);refine Q5 h (fun l h=>?_) (fun l h=>?_)
 ·refine Y6 Fm [.w (.v (.g [.d (DL (α:=Rect) [])])),.s,.s] [2] [(3,vi 1)] [] [(2,bx [.d (DL (α:=Rect) [])])] (cT (ALe.g ⟨CLe.fl .nil,⟨⟩⟩:ALe (.v (.g [.fl 0 fun _=>[]])) (.v (.g [.d (DL (α:=Rect) [])])))) ?_
  refine AW.ret ?_;obtain rfl:=Option.some.inj h
  exact Kn.D Fm
 ·refine AW.skip (Z2 (r:=r) (fun z:Unit=>Z2s F a) [0,2] (fun _=>[]) [2] (fun _=>[]) (fun z h=>?_) (fun H j=>?_))
  ·refine AW.seq ?_
   obtain ⟨E,y,h⟩:=bS h;obtain ⟨e,A,h⟩:=bS h
   refine Q9 Fm [.s,.k (cE [] [] (AL E) [] []),.k _,.s,.s,.s,.s] (fun K=>K 1∧K 2∧True) [2] [(3,vi e.2)] [] [(2,bx [.d (DL e.1.t_)])] ⟨K4 (U2 y) Tryz.call112 [] [] [.tmp 21,.const (.slice none 0 0),.const (.int .i64 1)] rfl (by kernel_rfl) (by kernel_rfl) (by kernel_rfl) ⟨.p,Q1T.plain (by kernel_rfl) (ALe.c (CLe.fl .nil)) (by kernel_rfl),.p,⟨⟩⟩,Q3 (Z0D A) Tryz.call118 [],⟨⟩⟩ ?_;refine AW.ret ?_
   obtain rfl:=Option.some.inj h;exact Kn.D Fm
  ·refine Q0 Fm 3 [0,2] [(10,AL a),(11,vi (lI a)),(12,vi 0)] [2] [] ?_
   refine AW.block (W6 Fm [(0,AL a),(2,pt 2),(10,AL a),(11,vi (lI a)),(12,vi 0)] [(2,bx [.fl 0 fun _=>[]])] (by kernel_rfl) ?_);refine Z3 (E':=fun z=>[(0,AL a),(2,pt 2),(10,AL a),(11,vi (lI a)),(12,vi z)]) (S':=fun z=>[(2,bx [.fl 0 fun _=>[]])]) (fun I b G i h=>?_) h
   refine Q0 Fm 1 [0,2,10,11,12] [(13,vb (decide (b<(lI a))))] [2] [] ?_;refine AW.seq (Q5 h (fun m h=>?_) (fun m h=>?_))
   ·refine AW.skip (AW.seq (AW.block ?_))
    obtain ⟨o,h⟩:=gS h;refine Y6 Fm (sA 4 []) [0,2,10,11,12] [(5,pt 5)] [2] [(5,bx [ci ((gl a b.toNat).L_),ci ((gl a b.toNat).w_),ci ((gl a b.toNat).R_),ci ((gl a b.toNat).H_)])] (cT o) ?_
    refine AW.seq ?_;obtain ⟨B,u,h⟩:=bS h
    refine Q9 Fm [.s,.k _,.s] (fun K=>K 1∧True) [0,2,10,11,12] [(18,vb (!B))] [2] [] ⟨Q3 (Q6v u) Tryz.call181 [],⟨⟩⟩ ?_;refine Q5 h (fun n h=>?_) (fun n h=>?_)
    ·refine Y6 Fm [.w (.v (.g [.d (DL (α:=Rect) [])])),.s,.s] [2] [(3,vi 2)] [] [(2,bx [.d (DL (α:=Rect) [])])] (cT (ALe.g ⟨CLe.fl .nil,⟨⟩⟩:ALe (.v (.g [.fl 0 fun _=>[]])) (.v (.g [.d (DL (α:=Rect) [])])))) ?_
     refine AW.ret ?_;obtain rfl:=Option.some.inj h
     exact Kn.D Fm
    ·refine AW.skip ?_
     obtain ⟨q,h⟩:=gS h;refine Q1 Fm [.s,.s] [0,2,10,11] [(12,vi (b+1))] [2] [] (cT (cT q)) ?_
     exact Kn.R Fm (i (b+1) h)
   ·exact AW.exit (Kn.R Fm (j () h))
theorem Q7c {F:Nat} {o:Tape} {e:Int} {p:Int} {r:Tape×Re_} (h:Q0u F o e p=some r) :
  Z6 Tryz.prog 16 [pt 0,vi e,vi p] [(0,bx (gC o))] (.v (.g [.d (DL r.2.t_)])) [(0,bx (gC r.1))]:=by
 refine FI Tryz.func16 Q2 Q4 fun C Fm=>?_
 unfold Q0u at h;refine Q0 Fm 1 [0,1,2] [(6,pt 6)] [0] [(6,bx [.fl 0 fun _=>[]])] ?_
 refine G9 Fm [.m] (fun K=>True) [0,1,2,6] [(7,ow 7)] [0,6] [(7,AO ([]:List Rect))] True.intro [(7,.arr 4 (0) (fun _=>[]))] ⟨OLe.is ((Is.nil (α:=Rect))),⟨⟩⟩ ?_;refine Z2 (r:=r) (fun z:(List Rect)×(List Int)×Int=>Q4U F z.1 z.2.1 z.2.2) [6,7] (fun _=>[]) [6] (fun z=>[(0,bx [.d (DL z.2.1),ci z.2.2]),(7,AO z.1)]) (fun z h=>?_) (fun O u=>?_)
 ·obtain ⟨j,l,n⟩:=z
  refine AW.seq (W6 Fm [(6,pt 6),(7,ow 7)] [(7,AO j),(0,bx [.d (DL l),ci n]),(6,bx [.fl 0 fun _=>[]])] (by kernel_rfl) ?_);refine Kn.frz [(6,pt 6),(7,AL j)] [(0,bx [.d (DL l),ci n]),(6,bx [.fl 0 fun _=>[]])] (by kernel_rfl) (by kernel_rfl) (by kernel_rfl) ?_
  obtain ⟨q,I,h⟩:=bS h;refine Q9 Fm (sZ 6 [.s,.k _]) (fun K=>K 1∧True) [6] [(9,pt 9)] [0,6] [(9,bx [.d (DL q.1.t_)])] ⟨Q3 (Z7M I) Tryz.call93 [],⟨⟩⟩ ?_
  refine Q0 Fm 2 [6] [] [0] [(6,bx [.d (DL q.1.t_)])] ?_;refine AW.ret ?_
  obtain rfl:=Option.some.inj h;exact Kn.D Fm
 ·refine AW.seq ?_
  obtain ⟨A,h⟩:=gS h;obtain ⟨b,G,h⟩:=bS h
  refine Q9 Fm [.s,.s,.s,.k _,.s] (fun K=>(_∧True)∧K 3∧True) [0,1,6,7] [(8,vi b.2)] [6,7] [(0,bx (gC b.1))] ⟨⟨A,⟨⟩⟩,Q3 (Y3 G) Tryz.call15 [(0,0)],⟨⟩⟩ ?_;refine AW.block (W6 Fm [(0,pt 0),(1,vi e),(6,pt 6),(7,ow 7),(8,vi b.2)] [(0,bx [.d (DL b.1.l_),ci b.1.at_]),(6,bx [.fl 0 fun _=>[]]),(7,AO ([]:List Rect))] (by kernel_rfl) ?_)
  refine Z3 (E':=fun z=>[(0,pt 0),(1,vi e),(6,pt 6),(7,ow 7),(8,vi z.1)]) (S':=fun z=>[(0,bx [.d (DL z.2.1),ci z.2.2.1]),(6,bx [.fl 0 fun _=>[]]),(7,AO z.2.2.2)]) (fun P z N t h=>?_) h;obtain ⟨i,L,M,c⟩:=z
  refine AW.seq (Q0 Fm 2 [0,1,6,7,8] [(16,vb (decide ((0:Int)<i)))] [0,6,7] [] ?_);refine Q5 h (fun y h=>?_) (fun y h=>?_)
  ·refine AW.skip (AW.seq (AW.block ?_))
   obtain ⟨a,H,h⟩:=bS h;obtain ⟨B,h⟩:=gS h
   refine Z0e Fm [.s,.s,.s,.k _,.w (AL [a.2]),.s,.s] (fun K=>K 3∧_∧(_∧_∧True)∧True) [0,1,6,8] [(7,ow 24)] [6] [(0,bx (gC a.1)),(24,AO (c++([a.2]:List Rect)))] ⟨Q3 (Q4V H) Tryz.call92 [(0,0)],Z0I a.2,⟨B,lfl ([a.2]:List Rect),⟨⟩⟩,⟨⟩⟩ [(24,rAp c ([a.2]:List Rect))] ⟨oAp,⟨⟩⟩ ?_;obtain ⟨E,h⟩:=gS h
   refine Q1 Fm [.s,.s,.s] [0,1,6,7] [(8,vi (i-1))] [0,6,24] [] (cT (cT E)) ?_;exact Q1f Fm [(7,24)] (t ((i-1),a.1.l_,a.1.at_,(c++([a.2]:List Rect))) h)
  ·exact AW.exit (Kn.R Fm (u (c,L,M) h))
theorem Z0y {F:Nat} {c:(List Rect)} {d:(List Rect)} {r:Bool} (h:Q5R F c d=some r) :
  Z6 Tryz.prog 120 [AL c,AL d] [] (vb r) []:=by
 refine FI Tryz.func120 Q2 Q4 fun C Fm=>?_
 unfold Q5R at h;refine Q0 Fm 1 [0,1] [] [] [] ?_
 refine AW.seq (Q0 Fm 5 [0,1] [(10,vb ((lI c) != (lI d)))] [] [] ?_);refine Q5 h (fun j h=>?_) (fun j h=>?_)
 ·refine Q0 Fm 1 [] [(4,vb false)] [] [] ?_
  refine AW.ret ?_;obtain rfl:=Option.some.inj h
  exact Kn.D Fm
 ·refine AW.skip (Z2 (r:=r) (fun z:Unit=>Z2q F) [] (fun _=>[]) [] (fun _=>[]) (fun z h=>?_) (fun t i=>?_))
  ·refine Q0 Fm 1 [] [(4,vb true)] [] [] ?_
   refine AW.ret ?_;obtain rfl:=Option.some.inj h
   exact Kn.D Fm
  ·refine Q0 Fm 3 [0,1] [(12,vi (lI c)),(13,vi 0)] [] [] ?_
   refine AW.block (W6 Fm [(0,AL c),(1,AL d),(12,vi (lI c)),(13,vi 0)] [] (by kernel_rfl) ?_);refine Z3 (E':=fun z=>[(0,AL c),(1,AL d),(12,vi (lI c)),(13,vi z)]) (S':=fun z=>[]) (fun u a q e h=>?_) h
   refine Q0 Fm 1 [0,1,12,13] [(14,vb (decide (a<(lI c))))] [] [] ?_;refine AW.seq (Q5 h (fun l h=>?_) (fun l h=>?_))
   ·refine AW.skip (AW.seq (AW.block (Q0 Fm 2 [0,1,12,13] [(5,vi a)] [] [] ?_)))
    obtain ⟨n,o,h⟩:=gS2 h;refine Q3x Fm (sA 8 [.k (sE (vb (!((((gl c a.toNat).L_)==((gl d a.toNat).L_))&&((((gl c a.toNat).w_)==((gl d a.toNat).w_))&&((((gl c a.toNat).R_)==((gl d a.toNat).R_))&&((((gl c a.toNat).H_)==((gl d a.toNat).H_))&&true)))))))]) (fun K=>_∧_∧K 8∧True) [0,1,12,13] [(24,vb (!((((gl c a.toNat).L_)==((gl d a.toNat).L_))&&((((gl c a.toNat).w_)==((gl d a.toNat).w_))&&((((gl c a.toNat).R_)==((gl d a.toNat).R_))&&((((gl c a.toNat).H_)==((gl d a.toNat).H_))&&true))))))] [] [] ⟨n,o,Y1a (xs:=[ci ((gl c a.toNat).L_),ci ((gl c a.toNat).w_),ci ((gl c a.toNat).R_),ci ((gl c a.toNat).H_)]) (ys:=[ci ((gl d a.toNat).L_),ci ((gl d a.toNat).w_),ci ((gl d a.toNat).R_),ci ((gl d a.toNat).H_)]) Y3K false (b:=((((gl c a.toNat).L_)==((gl d a.toNat).L_))&&((((gl c a.toNat).w_)==((gl d a.toNat).w_))&&((((gl c a.toNat).R_)==((gl d a.toNat).R_))&&((((gl c a.toNat).H_)==((gl d a.toNat).H_))&&true))))) rfl rfl (by kernel_rfl) (by kernel_rfl) (by kernel_rfl) (by kernel_rfl),⟨⟩⟩ ?_
    refine Q5 h (fun m h=>?_) (fun m h=>?_)
    ·refine Q0 Fm 1 [] [(4,vb false)] [] [] ?_
     refine AW.ret ?_;obtain rfl:=Option.some.inj h
     exact Kn.D Fm
    ·refine AW.skip ?_
     obtain ⟨p,h⟩:=gS h;refine Q1 Fm [.s,.s] [0,1,12] [(13,vi (a+1))] [] [] (cT (cT p)) ?_
     exact Kn.R Fm (e (a+1) h)
   ·exact AW.exit (Kn.R Fm (i () h))
theorem J3 {F:Nat} {a:Re_} {r:Bool} (h:Q0E F a=some r) :
  Z6 Tryz.prog 109 [.v (.g [.d (DL a.t_)])] [] (vb r) []:=by
 refine FI Tryz.func109 Q2 Q4 fun C Fm=>?_
 unfold Q0E at h;refine Q0 Fm 2 [] [(1,pt 1)] [] [(1,bx [.d (DL a.t_)])] ?_
 refine AW.seq (Q0 Fm 4 [1] [(8,vb (decide ((120:Int)<(lI a.t_))))] [1] [] ?_);refine Q5 h (fun j h=>?_) (fun j h=>?_)
 ·refine Q0 Fm 1 [] [(2,vb false)] [] [] ?_
  refine AW.ret ?_;obtain rfl:=Option.some.inj h
  exact Kn.D Fm
 ·refine AW.skip (Z2 (r:=r) (fun z:Unit=>Q9b F a) [1] (fun _=>[]) [1] (fun _=>[]) (fun z h=>?_) (fun E i=>?_))
  ·refine AW.seq ?_
   obtain ⟨y,t,h⟩:=bS h;obtain ⟨A,u,h⟩:=bS h
   refine Q9 Fm [.s,.s,.k (cE [] [] (AL y) [] []),.s,.s,.k _,.s] (fun K=>K 2∧K 5∧True) [] [(2,vb A)] [] [] ⟨K4 (U2 t) Tryz.call112 [] [] [.tmp 21,.const (.slice none 0 0),.const (.int .i64 1)] rfl (by kernel_rfl) (by kernel_rfl) (by kernel_rfl) ⟨.p,Q1T.plain (by kernel_rfl) (ALe.c (CLe.fl .nil)) (by kernel_rfl),.p,⟨⟩⟩,Q3 (Z0y u) Tryz.call120 [],⟨⟩⟩ ?_;refine AW.ret ?_
   obtain rfl:=Option.some.inj h;exact Kn.D Fm
  ·refine Q0 Fm 4 [1] [(10,AL a.t_),(11,vi (lI a.t_)),(12,vi 0)] [1] [] ?_
   refine AW.block (W6 Fm [(1,pt 1),(10,AL a.t_),(11,vi (lI a.t_)),(12,vi 0)] [(1,bx [.d (DL a.t_)])] (by kernel_rfl) ?_);refine Z3 (E':=fun z=>[(1,pt 1),(10,AL a.t_),(11,vi (lI a.t_)),(12,vi z)]) (S':=fun z=>[(1,bx [.d (DL a.t_)])]) (fun G b B e h=>?_) h
   refine Q0 Fm 1 [1,10,11,12] [(13,vb (decide (b<(lI a.t_))))] [1] [] ?_;refine AW.seq (Q5 h (fun l h=>?_) (fun l h=>?_))
   ·refine AW.skip (AW.seq (AW.block ?_))
    obtain ⟨n,h⟩:=gS h;refine Y6 Fm (sA 4 []) [1,10,11,12] [(4,pt 4)] [1] [(4,bx [ci ((gl a.t_ b.toNat).L_),ci ((gl a.t_ b.toNat).w_),ci ((gl a.t_ b.toNat).R_),ci ((gl a.t_ b.toNat).H_)])] (cT n) ?_
    refine AW.seq ?_;obtain ⟨w,q,h⟩:=bS h
    refine Q9 Fm [.s,.k _,.s] (fun K=>K 1∧True) [1,10,11,12] [(18,vb (!w))] [1] [] ⟨Q3 (Q6v q) Tryz.call181 [],⟨⟩⟩ ?_;refine Q5 h (fun m h=>?_) (fun m h=>?_)
    ·refine Q0 Fm 1 [] [(2,vb false)] [] [] ?_
     refine AW.ret ?_;obtain rfl:=Option.some.inj h
     exact Kn.D Fm
    ·refine AW.skip ?_
     obtain ⟨o,h⟩:=gS h;refine Q1 Fm [.s,.s] [1,10,11] [(12,vi (b+1))] [1] [] (cT (cT o)) ?_
     exact Kn.R Fm (e (b+1) h)
   ·exact AW.exit (Kn.R Fm (i () h))
theorem Z0z {F:Nat} {i:Re_} {j:Re_} {r:Bool} (h:Q5S F i j=some r) :
  Z6 Tryz.prog 70 [.v (.g [.d (DL i.t_)]),.v (.g [.d (DL j.t_)])] [] (vb r) []:=by
 refine FI Tryz.func70 Q2 Q4 fun C Fm=>?_
 unfold Q5S at h;refine Q0 Fm 3 [] [(2,pt 2),(3,pt 3)] [] [(2,bx [.d (DL i.t_)]),(3,bx [.d (DL j.t_)])] ?_
 refine Z2 (r:=r) (fun z:Bool=>Q4e F z) [] (fun z=>[(4,vb z)]) [] (fun _=>[]) (fun p h=>?_) (fun o b=>?_)
 ·refine AW.ret ?_
  obtain rfl:=Option.some.inj h;exact Kn.D Fm
 ·obtain ⟨q,e,h⟩:=bS h
  rcases Y7 h with ⟨a,h⟩|⟨a,h⟩
  ·obtain ⟨t,l,h⟩:=bS h
   rcases Y7 h with ⟨c,h⟩|⟨c,h⟩
   ·obtain ⟨m,n,h⟩:=bS h
    refine Q9 Fm [.s,.k _,.w (vb true),.s,.k _,.s,.w (vb true),.s,.s,.s,.s,.k _,.s,.s,.s,.s] (fun K=>K 1∧_∧K 4∧_∧K 11∧True) [] [(4,vb (decide ((0:Int)<(lI m))))] [] [] ⟨Q3 (J3 e) Tryz.call109 [],ALe.bool a,Q3 (J3 l) Tryz.call109 [],ALe.bool c,Q3 (U2 n) Tryz.call112 [],⟨⟩⟩ ?_;exact Kn.R Fm (b (decide ((0:Int)<(lI m))) h)
   ·refine Q9 Fm (sZ 9 [.s,.k _,.w (vb true),.s,.k _,.s,.w (vb false)]) (fun K=>K 1∧_∧K 4∧_∧True) [] [(4,vb false)] [] [] ⟨Q3 (J3 e) Tryz.call109 [],ALe.bool a,Q3 (J3 l) Tryz.call109 [],ALe.bool c,⟨⟩⟩ ?_
    exact Kn.R Fm (b false h)
  ·refine Q9 Fm (sZ 13 [.s,.k _,.w (vb false)]) (fun K=>K 1∧_∧True) [] [(4,vb false)] [] [] ⟨Q3 (J3 e) Tryz.call109 [],ALe.bool a,⟨⟩⟩ ?_
   exact Kn.R Fm (b false h)
theorem Z0v {F:Nat} {a:(List Rg_)} {r:Int} (h:Q3Y F a=some r) :
  Z6 Tryz.prog 25 [AL a] [] (vi r) []:=by
 refine FI Tryz.func25 Q2 Q4 fun C Fm=>?_
 unfold Q3Y at h;refine Q0 Fm 1 [0] [] [] [] ?_
 refine AW.seq (Q0 Fm 3 [0] [(11,vb (decide ((200:Int)<(lI a))))] [] [] ?_);refine Q5 h (fun b0 h=>?_) (fun b0 h=>?_)
 ·refine Q0 Fm 1 [] [(2,vi 1)] [] [] ?_
  refine AW.ret ?_;obtain rfl:=Option.some.inj h
  exact Kn.D Fm
 ·refine AW.skip (Z2 (r:=r) (fun z:Unit=>Q3U F a) [0] (fun _=>[]) [] (fun _=>[]) (fun z h=>?_) (fun H0 W=>?_))
  ·refine Z2 (r:=r) (fun z:Unit=>Z1t F) [] (fun _=>[]) [] (fun _=>[]) (fun z h=>?_) (fun N0 a0=>?_)
   ·refine Q0 Fm 1 [] [(2,vi 0)] [] [] ?_
    refine AW.ret ?_;obtain rfl:=Option.some.inj h
    exact Kn.D Fm
   ·refine Q0 Fm 3 [0] [(85,AL a),(86,vi (lI a)),(87,vi 0)] [] [] ?_
    refine AW.block (W6 Fm [(0,AL a),(85,AL a),(86,vi (lI a)),(87,vi 0)] [] (by kernel_rfl) ?_);refine Z3 (E':=fun z=>[(0,AL a),(85,AL a),(86,vi (lI a)),(87,vi z)]) (S':=fun z=>[]) (fun T e I0 X h=>?_) h
    refine Q0 Fm 1 [0,85,86,87] [(88,vb (decide (e<(lI a))))] [] [] ?_;refine AW.seq (Q5 h (fun k0 h=>?_) (fun k0 h=>?_))
    ·refine AW.skip (Z2 (r:=r) (fun z:Unit=>Q8Y F e T) [0,85,86,87] (fun _=>[]) [] (fun _=>[]) (fun z h=>?_) (fun M0 Z=>?_))
     ·obtain ⟨w0,h⟩:=gS h
      refine Q1 Fm [.s,.s] [0,85,86] [(87,vi (e+1))] [] [] (cT (cT w0)) ?_;exact Kn.R Fm (X (e+1) h)
     ·refine AW.block ?_
      obtain ⟨s0,h⟩:=gS h;refine Y6 Fm (sA 6 []) [0,85,86,87] [(5,vi e),(6,pt 6)] [] [(6,bx [ci ((gl a e.toNat).y_),ci ((gl a e.toNat).c_),.d (DL (gl a e.toNat).g_.t_)])] (cT s0) ?_
      obtain ⟨O,h⟩:=gS h;refine Y6 Fm [.s,.s,.w (AL (a.take e.toNat)),.s,.s] [0,6,85,86,87] [(94,AL (a.take e.toNat)),(95,vi (lI (a.take e.toNat))),(96,vi 0)] [6] [] (cA (⟨O,(Is.refl a).len⟩:((sl (List.length a) (LF a) none (some e)).2∧∀ j,j<List.length a→(LF a j).length=3)) (cT (ALe.lst (Z5J a none (some e) O):ALe (.v (.c (.d (.lst (sl (List.length a) (LF a) none (some e)).1.1 (sl (List.length a) (LF a) none (some e)).1.2)))) (AL (a.take e.toNat))))) ?_
      refine AW.block (W6 Fm [(0,AL a),(6,pt 6),(85,AL a),(86,vi (lI a)),(87,vi e),(94,AL (a.take e.toNat)),(95,vi (lI (a.take e.toNat))),(96,vi 0)] [(6,bx [ci ((gl a e.toNat).y_),ci ((gl a e.toNat).c_),.d (DL (gl a e.toNat).g_.t_)])] (by kernel_rfl) ?_);refine Z3 (E':=fun z=>[(0,AL a),(6,pt 6),(85,AL a),(86,vi (lI a)),(87,vi e),(94,AL (a.take e.toNat)),(95,vi (lI (a.take e.toNat))),(96,vi z)]) (S':=fun z=>[(6,bx [ci ((gl a e.toNat).y_),ci ((gl a e.toNat).c_),.d (DL (gl a e.toNat).g_.t_)])]) (fun U i K0 Y h=>?_) h
      refine Q0 Fm 1 [0,6,85,86,87,94,95,96] [(97,vb (decide (i<(lI (a.take e.toNat)))))] [6] [] ?_;refine AW.seq (Q5 h (fun l0 h=>?_) (fun l0 h=>?_))
      ·refine AW.skip (AW.seq (AW.block ?_))
       obtain ⟨t0,h⟩:=gS h;refine Y6 Fm (sA 4 []) [0,6,85,86,87,94,95,96] [(8,pt 8)] [6] [(8,bx [ci ((gl (a.take e.toNat) i.toNat).y_),ci ((gl (a.take e.toNat) i.toNat).c_),.d (DL (gl (a.take e.toNat) i.toNat).g_.t_)])] (cT t0) ?_
       refine Z2 (r:=r) (fun z:Bool=>Q3T F i U z) [0,6,85,86,87,94,95,96] (fun z=>[(111,vb z)]) [6] (fun _=>[]) (fun U0 h=>?_) (fun L0 L=>?_)
       ·refine Q5 h (fun m0 h=>?_) (fun m0 h=>?_)
        ·refine Q0 Fm 1 [] [(2,vi 11)] [] [] ?_
         refine AW.ret ?_;obtain rfl:=Option.some.inj h
         exact Kn.D Fm
        ·refine AW.skip ?_
         obtain ⟨u0,h⟩:=gS h;refine Q1 Fm [.s,.s] [0,6,85,86,87,94,95] [(96,vi (i+1))] [6] [] (cT (cT u0)) ?_
         exact Kn.R Fm (Y (i+1) h)
       ·rcases Y7 h with ⟨y,h⟩|⟨y,h⟩
        ·obtain ⟨E,y0,h⟩:=bS h
         refine Q9 Fm (sA 5 [.w (vb true),.s,.s,.s,.s,.k _,.s]) (fun K=>_∧K 10∧True) [0,6,85,86,87,94,95,96] [(106,.v (.c (.ptr 8 2))),(107,.v (.g [.d (DL (gl (a.take e.toNat) i.toNat).g_.t_)])),(108,.v (.c (.ptr 6 2))),(109,.v (.g [.d (DL (gl a e.toNat).g_.t_)])),(110,vb E),(111,vb E)] [6,8] [] ⟨ALe.bool y,Q3 (Z0z y0) Tryz.call70 [],⟨⟩⟩ ?_;exact Kn.R Fm (L E h)
        ·refine Q1 Fm (sA 5 (sZ 6 [.w (vb false)])) [0,6,85,86,87,94,95,96] [(111,vb false)] [6] [] (cT (ALe.bool y)) ?_
         exact Kn.R Fm (L false h)
      ·exact AW.exit (Kn.R Fm (Z () h))
    ·exact AW.exit (Kn.R Fm (a0 () h))
  ·refine Q0 Fm 3 [0] [(12,AL a),(13,vi (lI a)),(14,vi 0)] [] [] ?_
   refine AW.block (W6 Fm [(0,AL a),(12,AL a),(13,vi (lI a)),(14,vi 0)] [] (by kernel_rfl) ?_);refine Z3 (E':=fun z=>[(0,AL a),(12,AL a),(13,vi (lI a)),(14,vi z)]) (S':=fun z=>[]) (fun m b A0 V h=>?_) h
   refine Q0 Fm 1 [0,12,13,14] [(15,vb (decide (b<(lI a))))] [] [] ?_;refine AW.seq (Q5 h (fun c0 h=>?_) (fun c0 h=>?_))
   ·refine AW.skip (AW.seq (AW.block ?_))
    obtain ⟨n0,h⟩:=gS h;refine Y6 Fm (sA 6 []) [0,12,13,14] [(3,vi b),(4,pt 4)] [] [(4,bx [ci ((gl a b.toNat).y_),ci ((gl a b.toNat).c_),.d (DL (gl a b.toNat).g_.t_)])] (cT n0) ?_
    refine AW.seq (AW.block (Z2 (r:=r) (fun z:Bool=>Q3X F a b m z) [0,3,4,12,13,14] (fun z=>[(19,vb z)]) [4] (fun _=>[]) (fun O0 h=>?_) (fun B0 G=>?_)))
    ·refine Q5 h (fun d0 h=>?_) (fun d0 h=>?_)
     ·refine Q0 Fm 1 [] [(2,vi 18)] [] [] ?_
      refine AW.ret ?_;obtain rfl:=Option.some.inj h
      exact Kn.D Fm
     ·refine Z2 (r:=r) (fun z:Bool=>Q3W F a b m z) [0,3,4,12,13,14] (fun z=>[(28,vb z)]) [4] (fun _=>[]) (fun P0 h=>?_) (fun D0 H=>?_)
      ·refine Q5 h (fun e0 h=>?_) (fun e0 h=>?_)
       ·refine Q0 Fm 1 [] [(2,vi 13)] [] [] ?_
        refine AW.ret ?_;obtain rfl:=Option.some.inj h
        exact Kn.D Fm
       ·refine Z2 (r:=r) (fun z:Bool=>Q3V F a b m z) [0,3,4,12,13,14] (fun z=>[(37,vb z)]) [4] (fun _=>[]) (fun R0 h=>?_) (fun E0 I=>?_)
        ·refine Q5 h (fun i0 h=>?_) (fun i0 h=>?_)
         ·refine Q0 Fm 1 [] [(2,vi 7)] [] [] ?_
          refine AW.ret ?_;obtain rfl:=Option.some.inj h
          exact Kn.D Fm
         ·refine AW.skip (Z2 (r:=r) (fun z:Bool=>Q1o F b m z) [0,12,13,14] (fun z=>[(83,vb z)]) [] (fun _=>[]) (fun T0 h=>?_) (fun G0 n=>?_))
          ·refine Q5 h (fun j0 h=>?_) (fun j0 h=>?_)
           ·refine Q0 Fm 1 [] [(2,vi 3)] [] [] ?_
            refine AW.ret ?_;obtain rfl:=Option.some.inj h
            exact Kn.D Fm
           ·refine AW.skip ?_
            obtain ⟨q0,h⟩:=gS h;refine Q1 Fm [.s,.s] [0,12,13] [(14,vi (b+1))] [] [] (cT (cT q0)) ?_
            exact Kn.R Fm (V (b+1) h)
          ·rcases Y7 h with ⟨l,h⟩|⟨l,h⟩
           ·obtain ⟨A,B,h⟩:=gS2 h
            rcases Y7 h with ⟨o,h⟩|⟨o,h⟩
            ·refine Q1 Fm ((sZ 15 [.s,.s,.w (vb true),.s,.s,.s,.s,.s,.s,.s,.s,.s,.w (vb true)])++(sA 7 [])) [0,12,13,14] [(52,pt 4),(53,vi (gl a b.toNat).y_),(54,AL a),(55,vi b),(56,vi (b-1)),(57,.v (.c (.elm [.int .i64 (gl a (b-1).toNat).y_,.int .i64 (gl a (b-1).toNat).c_,DL (gl a (b-1).toNat).g_.t_]))),(58,.v (.c (.elm [.int .i64 (gl a (b-1).toNat).y_,.int .i64 (gl a (b-1).toNat).c_,DL (gl a (b-1).toNat).g_.t_]))),(59,vi (gl a (b-1).toNat).y_),(60,vb (decide (((gl a b.toNat).y_)<((gl a (b-1).toNat).y_)))),(61,vb true),(82,vb true),(83,vb true)] [4] [] (cA (ALe.bool l) (cA (cT A) (cA B (cT (ALe.bool o))))) ?_
             exact Kn.R Fm (n true h)
            ·obtain ⟨M,N,h⟩:=gS2 h
             rcases Y7 h with ⟨u,h⟩|⟨u,h⟩
             ·obtain ⟨o0,p0,h⟩:=gS2 h
              refine Q1 Fm ((sZ 5 [.s,.s,.w (vb true),.s,.s,.s,.s,.s,.s,.s,.s,.s,.w (vb false),.s,.s,.s,.s,.s,.s,.s,.s,.s,.w (vb true)])++(sA 7 [])) [0,12,13,14] [(52,pt 4),(53,vi (gl a b.toNat).y_),(54,AL a),(55,vi b),(56,vi (b-1)),(57,.v (.c (.elm [.int .i64 (gl a (b-1).toNat).y_,.int .i64 (gl a (b-1).toNat).c_,DL (gl a (b-1).toNat).g_.t_]))),(58,.v (.c (.elm [.int .i64 (gl a (b-1).toNat).y_,.int .i64 (gl a (b-1).toNat).c_,DL (gl a (b-1).toNat).g_.t_]))),(59,vi (gl a (b-1).toNat).y_),(60,vb (decide (((gl a b.toNat).y_)<((gl a (b-1).toNat).y_)))),(61,vb false),(62,pt 4),(63,vi (gl a b.toNat).y_),(64,AL a),(65,vi b),(66,vi (b-1)),(67,.v (.c (.elm [.int .i64 (gl a (b-1).toNat).y_,.int .i64 (gl a (b-1).toNat).c_,DL (gl a (b-1).toNat).g_.t_]))),(68,.v (.c (.elm [.int .i64 (gl a (b-1).toNat).y_,.int .i64 (gl a (b-1).toNat).c_,DL (gl a (b-1).toNat).g_.t_]))),(69,vi (gl a (b-1).toNat).y_),(70,vb (((gl a b.toNat).y_)==((gl a (b-1).toNat).y_))),(71,vb true),(72,.v (.c (.ptr 4 1))),(73,vi (gl a b.toNat).c_),(74,AL a),(75,vi b),(76,vi (b-1)),(77,.v (.c (.elm [.int .i64 (gl a (b-1).toNat).y_,.int .i64 (gl a (b-1).toNat).c_,DL (gl a (b-1).toNat).g_.t_]))),(78,.v (.c (.elm [.int .i64 (gl a (b-1).toNat).c_,DL (gl a (b-1).toNat).g_.t_]))),(79,vi (gl a (b-1).toNat).c_),(80,vb (decide (((gl a b.toNat).c_)≤((gl a (b-1).toNat).c_)))),(81,vb (decide (((gl a b.toNat).c_)≤((gl a (b-1).toNat).c_)))),(82,vb (decide (((gl a b.toNat).c_)≤((gl a (b-1).toNat).c_)))),(83,vb (decide (((gl a b.toNat).c_)≤((gl a (b-1).toNat).c_))))] [4] [] (cA (ALe.bool l) (cA (cT A) (cA B (cA (ALe.bool o) (cA (cT M) (cA N (cA (ALe.bool u) (cA (cT o0) (cT p0))))))))) ?_
              exact Kn.R Fm (n (decide (((gl a b.toNat).c_)≤((gl a (b-1).toNat).c_))) h)
             ·refine Q1 Fm ((sZ 5 [.s,.s,.w (vb true),.s,.s,.s,.s,.s,.s,.s,.s,.s,.w (vb false),.s,.s,.s,.s,.s,.s,.s,.s,.s,.w (vb false)])++(sA 7 [])) [0,12,13,14] [(52,pt 4),(53,vi (gl a b.toNat).y_),(54,AL a),(55,vi b),(56,vi (b-1)),(57,.v (.c (.elm [.int .i64 (gl a (b-1).toNat).y_,.int .i64 (gl a (b-1).toNat).c_,DL (gl a (b-1).toNat).g_.t_]))),(58,.v (.c (.elm [.int .i64 (gl a (b-1).toNat).y_,.int .i64 (gl a (b-1).toNat).c_,DL (gl a (b-1).toNat).g_.t_]))),(59,vi (gl a (b-1).toNat).y_),(60,vb (decide (((gl a b.toNat).y_)<((gl a (b-1).toNat).y_)))),(61,vb false),(62,pt 4),(63,vi (gl a b.toNat).y_),(64,AL a),(65,vi b),(66,vi (b-1)),(67,.v (.c (.elm [.int .i64 (gl a (b-1).toNat).y_,.int .i64 (gl a (b-1).toNat).c_,DL (gl a (b-1).toNat).g_.t_]))),(68,.v (.c (.elm [.int .i64 (gl a (b-1).toNat).y_,.int .i64 (gl a (b-1).toNat).c_,DL (gl a (b-1).toNat).g_.t_]))),(69,vi (gl a (b-1).toNat).y_),(70,vb (((gl a b.toNat).y_)==((gl a (b-1).toNat).y_))),(71,vb false),(81,vb false),(82,vb false),(83,vb false)] [4] [] (cA (ALe.bool l) (cA (cT A) (cA B (cA (ALe.bool o) (cA (cT M) (cA N (cT (ALe.bool u)))))))) ?_
              exact Kn.R Fm (n false h)
           ·refine Q1 Fm ((sZ 25 [.s,.s,.w (vb false)])++(sA 7 [])) [0,12,13,14] [(83,vb false)] [] [] (cT (ALe.bool l)) ?_
            exact Kn.R Fm (n false h)
        ·obtain ⟨V0,P,h⟩:=bS h
         rcases Y7 h with ⟨t,h⟩|⟨t,h⟩
         ·refine Q9 Fm (sZ 7 [.s,.s,.k _,.s,.w (vb true)]) (fun K=>K 2∧_∧True) [0,3,4,12,13,14] [(37,vb true)] [4] [] ⟨Q3 (J3 P) Tryz.call109 [],ALe.bool t,⟨⟩⟩ ?_
          exact Kn.R Fm (I true h)
         ·refine Q9 Fm (sZ 7 [.s,.s,.k _,.s,.w (vb false)]) (fun K=>K 2∧_∧True) [0,3,4,12,13,14] [(37,vb ((lI ((gl a b.toNat).g_.t_))==0)),(43,.v (.c (.ptr 4 2))),(44,.v (.c (.ptr 4 2))),(45,AL (gl a b.toNat).g_.t_),(46,vi (lI ((gl a b.toNat).g_.t_))),(47,vb ((lI ((gl a b.toNat).g_.t_))==0))] [4] [] ⟨Q3 (J3 P) Tryz.call109 [],ALe.bool t,⟨⟩⟩ ?_
          exact Kn.R Fm (I ((lI ((gl a b.toNat).g_.t_))==0) h)
      ·rcases Y7 h with ⟨q,h⟩|⟨q,h⟩
       ·refine Q1 Fm (sZ 5 [.s,.s,.s,.w (vb true)]) [0,3,4,12,13,14] [(28,vb true)] [4] [] (cT (ALe.bool q)) ?_
        exact Kn.R Fm (H true h)
       ·refine Q1 Fm (sZ 5 [.s,.s,.s,.w (vb false)]) [0,3,4,12,13,14] [(28,vb (decide ((40:Int)≤((gl a b.toNat).c_)))),(33,.v (.c (.ptr 4 1))),(34,vi (gl a b.toNat).c_),(35,vb (decide ((40:Int)≤((gl a b.toNat).c_))))] [4] [] (cT (ALe.bool q)) ?_
        exact Kn.R Fm (H (decide ((40:Int)≤((gl a b.toNat).c_))) h)
    ·rcases Y7 h with ⟨p,h⟩|⟨p,h⟩
     ·refine Q1 Fm (sZ 5 [.s,.s,.s,.w (vb true)]) [0,3,4,12,13,14] [(19,vb true)] [4] [] (cT (ALe.bool p)) ?_
      exact Kn.R Fm (G true h)
     ·refine Q1 Fm (sZ 5 [.s,.s,.s,.w (vb false)]) [0,3,4,12,13,14] [(19,vb (decide ((100:Int)<((gl a b.toNat).y_)))),(24,pt 4),(25,vi (gl a b.toNat).y_),(26,vb (decide ((100:Int)<((gl a b.toNat).y_))))] [4] [] (cT (ALe.bool p)) ?_
      exact Kn.R Fm (G (decide ((100:Int)<((gl a b.toNat).y_))) h)
   ·exact AW.exit (Kn.R Fm (W () h))
theorem Q9n {F:Nat} {a:(List Rg_)} {l:Int} {i:Int→Option Bool} {r:(List Rect)} (h:Q1Z F a l i=some r) :
  Z6 Tryz.prog 114 [AL a,vi l,.v (.c (.sem (Q0c Tryz.prog (Q7W i))))] [] (AL r) []:=by
 refine FI Tryz.func114 Q2 Q4 fun C Fm=>?_
 unfold Q1Z at h;refine Q0 Fm 1 [0,1,2] [] [] [] ?_
 refine G9 Fm [.m] (fun K=>True) [0,1,2] [(7,ow 7)] [] [(7,AO ([]:List Rect))] True.intro [(7,.arr 4 (0) (fun _=>[]))] ⟨OLe.is ((Is.nil (α:=Rect))),⟨⟩⟩ ?_;refine Z2 (r:=r) (fun z:(List Rect)=>Q7u F z) [7] (fun _=>[]) [] (fun z=>[(7,AO z)]) (fun t h=>?_) (fun P y=>?_)
 ·refine Q0 Fm 2 [] [(6,ow 7)] [7] [] ?_
  refine AW.ret ?_;obtain rfl:=Option.some.inj h
  refine W6 Fm [(6,ow 7)] [(7,AO t)] (by kernel_rfl) ?_;refine Kn.frz [(6,AL t)] [] (by kernel_rfl) (by kernel_rfl) (by kernel_rfl) ?_
  exact Kn.D Fm
 ·refine Q0 Fm 3 [1,2,7] [(10,AL a),(11,vi (lI a)),(12,vi 0)] [7] [] ?_
  refine AW.block (W6 Fm [(1,vi l),(2,.v (.c (.sem (Q0c Tryz.prog (Q7W i))))),(7,ow 7),(10,AL a),(11,vi (lI a)),(12,vi 0)] [(7,AO ([]:List Rect))] (by kernel_rfl) ?_);refine Z3 (E':=fun z=>[(1,vi l),(2,.v (.c (.sem (Q0c Tryz.prog (Q7W i))))),(7,ow 7),(10,AL a),(11,vi (lI a)),(12,vi z.1)]) (S':=fun z=>[(7,AO z.2)]) (fun o z M u h=>?_) h
  obtain ⟨b,e⟩:=z;refine Q0 Fm 1 [1,2,7,10,11,12] [(13,vb (decide (b<(lI a))))] [7] [] ?_
  refine AW.seq (Q5 h (fun A h=>?_) (fun A h=>?_))
  ·refine AW.skip (Z2 (r:=r) (fun z:(List Rect)=>Q2B F b o z) [1,2,10,11,12] (fun _=>[(7,ow 30)]) [] (fun z=>[(30,AO z)]) (fun L h=>?_) (fun O q=>?_))
   ·obtain ⟨H,h⟩:=gS h
    refine Q1 Fm [.s,.s] [1,2,7,10,11] [(12,vi (b+1))] [30] [] (cT (cT H)) ?_;exact Q1f Fm [(7,30)] (u ((b+1),L) h)
   ·refine AW.block ?_
    obtain ⟨E,h⟩:=gS h;refine Y6 Fm (sA 4 []) [1,2,7,10,11,12] [(9,pt 9)] [7] [(9,bx [ci ((gl a b.toNat).y_),ci ((gl a b.toNat).c_),.d (DL (gl a b.toNat).g_.t_)])] (cT E) ?_
    refine Z2 (r:=r) (fun z:Bool=>Q2C F a b e o z) [1,2,7,9,10,11,12] (fun z=>[(25,vb z)]) [7,9] (fun _=>[]) (fun T h=>?_) (fun N p=>?_)
    ·refine Q5 h (fun B h=>?_) (fun B h=>?_)
     ·obtain ⟨G,h⟩:=gS h
      refine Q0I Fm (sA 6 []) [1,2,10,11,12] [(7,ow 30)] [] [(30,AO (e++((gl a b.toNat).g_.t_)))] (cT (cA G (cT (lfl ((gl a b.toNat).g_.t_))))) [(30,rAp e ((gl a b.toNat).g_.t_))] ⟨oAp,⟨⟩⟩ ?_;exact Kn.R Fm (q (e++((gl a b.toNat).g_.t_)) h)
     ·exact AW.skip (Q1f Fm [(30,7)] (q e h))
    ·rcases Y7 h with ⟨n,h⟩|⟨n,h⟩
     ·obtain ⟨j,I,h⟩:=bS h
      refine Q9 Fm (sA 4 [.w (vb true),.s,.s,.s,.k (sE (vb j)),.s]) (fun K=>_∧K 8∧True) [1,2,7,9,10,11,12] [(21,.v (.c (.sem (Q0c Tryz.prog (Q7W i))))),(22,.v (.c (.ptr 9 1))),(23,vi (gl a b.toNat).c_),(24,vb j),(25,vb j)] [7,9] [] ⟨ALe.bool n,KAt.sem (F:=(Q7W i)) (args:=[vi (gl a b.toNat).c_]) ⟨((gl a b.toNat).c_),j,I,rfl,rfl⟩ rfl (by kernel_rfl) (by kernel_rfl) (by kernel_rfl),⟨⟩⟩ ?_;exact Kn.R Fm (p j h)
     ·refine Q1 Fm (sA 4 (sZ 5 [.w (vb false)])) [1,2,7,9,10,11,12] [(25,vb false)] [7,9] [] (cT (ALe.bool n)) ?_
      exact Kn.R Fm (p false h)
  ·exact AW.exit (Kn.R Fm (y e h))
theorem Z3b {F:Nat} {a:(List Rect)} {r:Re_×Int} (h:Q3Q F a=some r) :
  Z6 Tryz.prog 204 [AL a] [] (.t [.g [.d (DL r.1.t_)],.c (ci r.2)]) []:=by
 refine FI Tryz.func204 Q2 Q4 fun C Fm=>?_
 unfold Q3Q at h;refine Q0 Fm 2 [0] [(2,pt 2)] [] [(2,bx [.fl 0 fun _=>[]])] ?_
 refine AW.seq (Q0 Fm 3 [0,2] [(6,vb (decide ((120:Int)<(lI a))))] [2] [] ?_);refine Q5 h (fun b h=>?_) (fun b h=>?_)
 ·refine Y6 Fm [.w (.v (.g [.d (DL (α:=Rect) [])])),.s,.s] [2] [(3,vi 1)] [] [(2,bx [.d (DL (α:=Rect) [])])] (cT (ALe.g ⟨CLe.fl .nil,⟨⟩⟩:ALe (.v (.g [.fl 0 fun _=>[]])) (.v (.g [.d (DL (α:=Rect) [])])))) ?_
  refine AW.ret ?_;obtain rfl:=Option.some.inj h
  exact Kn.D Fm
 ·refine AW.skip (Q0 Fm 4 [2] [(3,vi 0)] [] [(2,bx [.d (DL a)])] ?_)
  refine AW.ret ?_;obtain rfl:=Option.some.inj h
  exact Kn.D Fm
theorem Z3M {F:Nat} {a:(List Rect)} {r:Re_×Int} (h:Q5h F a=some r) :
  Z6 Tryz.prog 113 [AL a] [] (.t [.g [.d (DL r.1.t_)],.c (ci r.2)]) []:=by
 refine FI Tryz.func113 Q2 Q4 fun C Fm=>?_
 unfold Q5h at h;refine Q0 Fm 2 [0] [(2,pt 2)] [] [(2,bx [.fl 0 fun _=>[]])] ?_
 refine AW.seq ?_;obtain ⟨j,e,h⟩:=bS h
 obtain ⟨b,i,h⟩:=bS h;refine Q9 Fm [.s,.k _,.k _,.s,.s,.s,.s] (fun K=>K 1∧K 2∧True) [2] [(3,vi b.2)] [] [(2,bx [.d (DL b.1.t_)])] ⟨Q3 (Q7b e) Tryz.call186 [],Q3 (Z3b i) Tryz.call204 [],⟨⟩⟩ ?_
 refine AW.ret ?_;obtain rfl:=Option.some.inj h
 exact Kn.D Fm
theorem Z5T {F:Nat} {b:ByteArray} {r:Bool} (h:Q8D F b=some r) :
  Z6 Tryz.prog 257 [.v (.c (.d (.str b)))] [] (vb r) []:=by
 refine FI Tryz.func257 Q2 Q4 fun C Fm=>?_
 unfold Q8D at h;refine Q0 Fm 1 [0] [] [] [] ?_
 refine Z2 (r:=r) (fun z:Unit=>Q9L F b) [0] (fun _=>[]) [] (fun _=>[]) (fun z h=>?_) (fun Y I=>?_)
 ·refine Z2 (r:=r) (fun z:Bool=>Q4Y F z) [] (fun z=>[(2,vb z)]) [] (fun _=>[]) (fun b0 h=>?_) (fun Z B=>?_)
  ·refine AW.ret ?_
   obtain rfl:=Option.some.inj h;exact Kn.D Fm
  ·rcases Y7 h with ⟨u,h⟩|⟨u,h⟩
   ·refine Q1 Fm (sZ 5 [.s,.s,.s,.w (vb true)]) [] [(2,vb (decide (((b.size:Nat):Int)≤(12:Int))))] [] [] (cT (ALe.bool u)) ?_
    exact Kn.R Fm (B (decide (((b.size:Nat):Int)≤(12:Int))) h)
   ·refine Q1 Fm (sZ 5 [.s,.s,.s,.w (vb false)]) [] [(2,vb false)] [] [] (cT (ALe.bool u)) ?_
    exact Kn.R Fm (B false h)
 ·refine Q0 Fm 3 [0] [(7,vi ((b.size:Nat):Int)),(8,vi 0)] [] [] ?_
  refine AW.block (W6 Fm [(0,.v (.c (.d (.str b)))),(7,vi ((b.size:Nat):Int)),(8,vi 0)] [] (by kernel_rfl) ?_);refine Z3 (E':=fun z=>[(0,.v (.c (.d (.str b)))),(7,vi ((b.size:Nat):Int)),(8,vi z)]) (S':=fun z=>[]) (fun l e U H h=>?_) h
  refine Q0 Fm 1 [0,7,8] [(9,vb (decide (e<((b.size:Nat):Int))))] [] [] ?_;refine AW.seq (Q5 h (fun L h=>?_) (fun L h=>?_))
  ·refine AW.skip (AW.seq (AW.block (Q0 Fm 2 [0,7,8] [(3,vi e)] [] [] ?_)))
   refine Z2 (r:=r) (fun z:Bool=>Q5a F b e l z) [0,3,7,8] (fun z=>[(4,vb z)]) [] (fun _=>[]) (fun T h=>?_) (fun V y=>?_)
   ·refine Z2 (r:=r) (fun z:Bool=>Q4Z F e T l z) [0,3,4,7,8] (fun z=>[(5,vb z)]) [] (fun _=>[]) (fun i h=>?_) (fun W A=>?_)
    ·refine Z2 (r:=r) (fun z:Bool=>Q3f F e l z) [0,7,8] (fun z=>[(40,vb z)]) [] (fun _=>[]) (fun a0 h=>?_) (fun X n=>?_)
     ·refine Q5 h (fun M h=>?_) (fun M h=>?_)
      ·refine Q0 Fm 1 [] [(2,vb false)] [] [] ?_
       refine AW.ret ?_;obtain rfl:=Option.some.inj h
       exact Kn.D Fm
      ·refine AW.skip ?_
       obtain ⟨P,h⟩:=gS h;refine Q1 Fm [.s,.s] [0,7] [(8,vi (e+1))] [] [] (cT (cT P)) ?_
       exact Kn.R Fm (H (e+1) h)
     ·rcases Y7 h with ⟨j,h⟩|⟨j,h⟩
      ·rcases Y7 h with ⟨q,h⟩|⟨q,h⟩
       ·refine Q1 Fm [.s,.s,.w (vb true),.s,.s,.w (vb true),.s,.s,.s,.s] [0,7,8] [(34,vi e),(35,vb (e==0)),(36,vb true),(39,vb true),(40,vb true)] [] [] (cA (ALe.bool j) (cT (ALe.bool q))) ?_
        exact Kn.R Fm (n true h)
       ·refine Q1 Fm [.s,.s,.w (vb true),.s,.s,.w (vb false),.s,.s,.s,.s] [0,7,8] [(34,vi e),(35,vb (e==0)),(36,vb false),(37,vb i),(38,vb (!i)),(39,vb (!i)),(40,vb (!i))] [] [] (cA (ALe.bool j) (cT (ALe.bool q))) ?_
        exact Kn.R Fm (n (!i) h)
      ·refine Q1 Fm (sZ 7 [.s,.s,.w (vb false)]) [0,7,8] [(40,vb false)] [] [] (cT (ALe.bool j)) ?_
       exact Kn.R Fm (n false h)
    ·obtain ⟨G,h⟩:=gS h
     rcases Y7 h with ⟨p,h⟩|⟨p,h⟩
     ·obtain ⟨O,h⟩:=gS h
      refine Q9 Fm [.s,.s,.k (sE (.v (.c (.d (.int .u8 (sAt b e)))))),.s,.w (vb true),.s,.s,.k (sE (.v (.c (.d (.int .u8 (sAt b e)))))),.s,.s,.s] (fun K=>K 2∧_∧K 7∧True) [0,3,4,7,8] [(5,vb (decide ((sAt b e)≤57))),(26,.v (.c (.d (.str b)))),(27,vi e),(28,.v (.c (.d (.int .u8 (sAt b e))))),(29,vb (decide ((sAt b e)≤57)))] [] [] ⟨G2 (t:=9) (a:=b) (m:=e) (by kernel_rfl) rfl rfl (by kernel_rfl) (by kernel_rfl) (by kernel_rfl) G,ALe.bool p,G2 (t:=9) (a:=b) (m:=e) (by kernel_rfl) rfl rfl (by kernel_rfl) (by kernel_rfl) (by kernel_rfl) O,⟨⟩⟩ ?_;exact Kn.R Fm (A (decide ((sAt b e)≤57)) h)
     ·refine Q9 Fm (sZ 6 [.s,.s,.k (sE (.v (.c (.d (.int .u8 (sAt b e)))))),.s,.w (vb false)]) (fun K=>K 2∧_∧True) [0,3,4,7,8] [(5,vb false)] [] [] ⟨G2 (t:=9) (a:=b) (m:=e) (by kernel_rfl) rfl rfl (by kernel_rfl) (by kernel_rfl) (by kernel_rfl) G,ALe.bool p,⟨⟩⟩ ?_
      exact Kn.R Fm (A false h)
   ·obtain ⟨E,h⟩:=gS h
    rcases Y7 h with ⟨o,h⟩|⟨o,h⟩
    ·obtain ⟨N,h⟩:=gS h
     refine Q9 Fm [.s,.s,.k (sE (.v (.c (.d (.int .u8 (sAt b e)))))),.s,.w (vb true),.s,.s,.k (sE (.v (.c (.d (.int .u8 (sAt b e)))))),.s,.s,.s] (fun K=>K 2∧_∧K 7∧True) [0,3,7,8] [(4,vb (decide ((sAt b e)≤122))),(16,.v (.c (.d (.str b)))),(17,vi e),(18,.v (.c (.d (.int .u8 (sAt b e))))),(19,vb (decide ((sAt b e)≤122)))] [] [] ⟨G2 (t:=9) (a:=b) (m:=e) (by kernel_rfl) rfl rfl (by kernel_rfl) (by kernel_rfl) (by kernel_rfl) E,ALe.bool o,G2 (t:=9) (a:=b) (m:=e) (by kernel_rfl) rfl rfl (by kernel_rfl) (by kernel_rfl) (by kernel_rfl) N,⟨⟩⟩ ?_;exact Kn.R Fm (y (decide ((sAt b e)≤122)) h)
    ·refine Q9 Fm (sZ 6 [.s,.s,.k (sE (.v (.c (.d (.int .u8 (sAt b e)))))),.s,.w (vb false)]) (fun K=>K 2∧_∧True) [0,3,7,8] [(4,vb false)] [] [] ⟨G2 (t:=9) (a:=b) (m:=e) (by kernel_rfl) rfl rfl (by kernel_rfl) (by kernel_rfl) (by kernel_rfl) E,ALe.bool o,⟨⟩⟩ ?_
     exact Kn.R Fm (y false h)
  ·exact AW.exit (Kn.R Fm (I () h))
theorem Z1D {F:Nat} {e:(List Crop)} {r:Int} (h:y5 F e=some r) :
  Z6 Tryz.prog 205 [AL e] [] (vi r) []:=by
 refine FI Tryz.func205 Q2 Q4 fun C Fm=>?_
 unfold y5 at h;refine Q0 Fm 1 [0] [] [] [] ?_
 refine AW.seq (Q0 Fm 3 [0] [(7,vb (decide ((40:Int)<(lI e))))] [] [] ?_);refine Q5 h (fun y h=>?_) (fun y h=>?_)
 ·refine Q0 Fm 1 [] [(2,vi 1)] [] [] ?_
  refine AW.ret ?_;obtain rfl:=Option.some.inj h
  exact Kn.D Fm
 ·refine AW.skip (Z2 (r:=r) (fun z:Unit=>Z3D F) [] (fun _=>[]) [] (fun _=>[]) (fun z h=>?_) (fun X u=>?_))
  ·refine Q0 Fm 1 [] [(2,vi 0)] [] [] ?_
   refine AW.ret ?_;obtain rfl:=Option.some.inj h
   exact Kn.D Fm
  ·refine Q0 Fm 3 [0] [(8,AL e),(9,vi (lI e)),(10,vi 0)] [] [] ?_
   refine AW.block (W6 Fm [(0,AL e),(8,AL e),(9,vi (lI e)),(10,vi 0)] [] (by kernel_rfl) ?_);refine Z3 (E':=fun z=>[(0,AL e),(8,AL e),(9,vi (lI e)),(10,vi z)]) (S':=fun z=>[]) (fun j i T t h=>?_) h
   refine Q0 Fm 1 [0,8,9,10] [(11,vb (decide (i<(lI e))))] [] [] ?_;refine AW.seq (Q5 h (fun A h=>?_) (fun A h=>?_))
   ·refine AW.skip (AW.seq (AW.block ?_))
    obtain ⟨I,h⟩:=gS h;refine Y6 Fm (sA 6 []) [0,8,9,10] [(3,vi i),(4,pt 4)] [] [(4,bx [.d (.str (gl e i.toNat).n_),ci ((gl e i.toNat).f_),ci ((gl e i.toNat).m_)])] (cT I) ?_
    refine AW.block (AW.seq ?_);obtain ⟨P,O,h⟩:=bS h
    refine Q9 Fm [.s,.s,.k _,.s,.s] (fun K=>K 2∧True) [0,3,4,8,9,10] [(15,vb (!P))] [4] [] ⟨Q3 (Z5T O) Tryz.call257 [],⟨⟩⟩ ?_;refine Q5 h (fun B h=>?_) (fun B h=>?_)
    ·refine Q0 Fm 1 [] [(2,vi 5)] [] [] ?_
     refine AW.ret ?_;obtain rfl:=Option.some.inj h
     exact Kn.D Fm
    ·refine Z2 (r:=r) (fun z:Bool=>Q3q F e i j z) [0,3,4,8,9,10] (fun z=>[(20,vb z)]) [4] (fun _=>[]) (fun Y h=>?_) (fun U o=>?_)
     ·refine Q5 h (fun E h=>?_) (fun E h=>?_)
      ·refine Q0 Fm 1 [] [(2,vi 2)] [] [] ?_
       refine AW.ret ?_;obtain rfl:=Option.some.inj h
       exact Kn.D Fm
      ·refine Z2 (r:=r) (fun z:Bool=>Q3p F e i j z) [0,3,4,8,9,10] (fun z=>[(29,vb z)]) [4] (fun _=>[]) (fun Z h=>?_) (fun V p=>?_)
       ·refine Q5 h (fun G h=>?_) (fun G h=>?_)
        ·refine Q0 Fm 1 [] [(2,vi 14)] [] [] ?_
         refine AW.ret ?_;obtain rfl:=Option.some.inj h
         exact Kn.D Fm
        ·refine Z2 (r:=r) (fun z:Bool=>Q5s F i j z) [0,8,9,10] (fun z=>[(38,vb z)]) [] (fun _=>[]) (fun a0 h=>?_) (fun W q=>?_)
         ·refine Q5 h (fun H h=>?_) (fun H h=>?_)
          ·refine Q0 Fm 1 [] [(2,vi 6)] [] [] ?_
           refine AW.ret ?_;obtain rfl:=Option.some.inj h
           exact Kn.D Fm
          ·refine AW.skip ?_
           obtain ⟨N,h⟩:=gS h;refine Q1 Fm [.s,.s] [0,8,9] [(10,vi (i+1))] [] [] (cT (cT N)) ?_
           exact Kn.R Fm (t (i+1) h)
         ·rcases Y7 h with ⟨n,h⟩|⟨n,h⟩
          ·obtain ⟨L,M,h⟩:=gS2 h
           refine Q9 Fm [.s,.s,.w (vb true),.s,.s,.s,.s,.s,.s,.s,.s,.k (sE (vb (sLt ((gl e i.toNat).n_) ((gl e (i-1).toNat).n_)||sEq ((gl e i.toNat).n_) ((gl e (i-1).toNat).n_)))),.s,.s] (fun K=>_∧(_∧True)∧_∧K 11∧True) [0,8,9,10] [(38,vb (sLt ((gl e i.toNat).n_) ((gl e (i-1).toNat).n_)||sEq ((gl e i.toNat).n_) ((gl e (i-1).toNat).n_))),(42,pt 4),(43,.v (.c (.d (.str (gl e i.toNat).n_)))),(44,AL e),(45,vi i),(46,vi (i-1)),(47,.v (.c (.elm [.str (gl e (i-1).toNat).n_,.int .i64 (gl e (i-1).toNat).f_,.int .i64 (gl e (i-1).toNat).m_]))),(48,.v (.c (.elm [.str (gl e (i-1).toNat).n_,.int .i64 (gl e (i-1).toNat).f_,.int .i64 (gl e (i-1).toNat).m_]))),(49,.v (.c (.d (.str (gl e (i-1).toNat).n_)))),(50,vb (sLt ((gl e i.toNat).n_) ((gl e (i-1).toNat).n_)||sEq ((gl e i.toNat).n_) ((gl e (i-1).toNat).n_)))] [4] [] ⟨ALe.bool n,⟨L,⟨⟩⟩,M,Y0e (op:=.leq) (a:=((gl e i.toNat).n_)) (b:=((gl e (i-1).toNat).n_)) rfl rfl (by kernel_rfl) (by kernel_rfl) (by kernel_rfl) rfl,⟨⟩⟩ ?_;exact Kn.R Fm (q (sLt ((gl e i.toNat).n_) ((gl e (i-1).toNat).n_)||sEq ((gl e i.toNat).n_) ((gl e (i-1).toNat).n_)) h)
          ·refine Q1 Fm (sZ 11 [.s,.s,.w (vb false)]) [0,8,9,10] [(38,vb false)] [] [] (cT (ALe.bool n)) ?_
           exact Kn.R Fm (q false h)
       ·rcases Y7 h with ⟨m,h⟩|⟨m,h⟩
        ·refine Q1 Fm (sZ 5 [.s,.s,.s,.w (vb true)]) [0,3,4,8,9,10] [(29,vb true)] [4] [] (cT (ALe.bool m)) ?_
         exact Kn.R Fm (p true h)
        ·refine Q1 Fm (sZ 5 [.s,.s,.s,.w (vb false)]) [0,3,4,8,9,10] [(29,vb (decide ((31:Int)<((gl e i.toNat).m_)))),(34,.v (.c (.ptr 4 2))),(35,vi (gl e i.toNat).m_),(36,vb (decide ((31:Int)<((gl e i.toNat).m_))))] [4] [] (cT (ALe.bool m)) ?_
         exact Kn.R Fm (p (decide ((31:Int)<((gl e i.toNat).m_))) h)
     ·rcases Y7 h with ⟨l,h⟩|⟨l,h⟩
      ·refine Q1 Fm (sZ 5 [.s,.s,.s,.w (vb true)]) [0,3,4,8,9,10] [(20,vb true)] [4] [] (cT (ALe.bool l)) ?_
       exact Kn.R Fm (o true h)
      ·refine Q1 Fm (sZ 5 [.s,.s,.s,.w (vb false)]) [0,3,4,8,9,10] [(20,vb (decide ((40:Int)<((gl e i.toNat).f_)))),(25,.v (.c (.ptr 4 1))),(26,vi (gl e i.toNat).f_),(27,vb (decide ((40:Int)<((gl e i.toNat).f_))))] [4] [] (cT (ALe.bool l)) ?_
       exact Kn.R Fm (o (decide ((40:Int)<((gl e i.toNat).f_))) h)
   ·exact AW.exit (Kn.R Fm (u () h))
theorem Z1P {F:Nat} {a:Rg_} {b:(List Crop)} {r:Bool} (h:Q7v F a b=some r) :
  Z6 Tryz.prog 206 [gE a,pt 0] [(0,.box true [.d (DL b)])] (vb r) [(0,.box true [.d (DL b)])]:=by
 refine FI Tryz.func206 Q2 Q4 fun C Fm=>?_
 unfold Q7v at h;refine Q0 Fm 2 [1] [(2,pt 2)] [0] [(2,bx (gC a))] ?_
 refine Q0 Fm 6 [] [(3,vb (decide ((lI b)≤a.c_)))] [0] [] ?_;refine AW.ret ?_
 obtain rfl:=Option.some.inj h;exact Kn.D Fm
theorem Z3h {F:Nat} {e:(List Rg_)} {a:(List Crop)} {r:Int} (h:Q4p F e a=some r) :
  Z6 Tryz.prog 121 [AL e,AL a] [] (vi r) []:=by
 refine FI Tryz.func121 Q2 Q4 fun C Fm=>?_
 unfold Q4p at h;refine Q0 Fm 2 [0] [(3,pt 3)] [] [(3,bx [.d (DL a)])] ?_
 refine AW.seq (AW.seq ?_);obtain ⟨b,n,h⟩:=bS h
 refine Q9 Fm [.s,.k _,.s] (fun K=>K 1∧True) [0,3] [(5,vi b)] [3] [] ⟨Q3 (Z4e n) Tryz.call18 [],⟨⟩⟩ ?_;refine Q0 Fm 2 [0,3,5] [(10,vb (b != (0:Int)))] [3] [] ?_
 refine Q5 h (fun j h=>?_) (fun j h=>?_)
 ·refine Q0 Fm 2 [] [(4,vi b)] [] [] ?_
  refine AW.ret ?_;obtain rfl:=Option.some.inj h
  exact Kn.D Fm
 ·refine AW.skip (AW.seq (AW.seq ?_))
  obtain ⟨c,o,h⟩:=bS h;refine Q9 Fm [.s,.k _,.s] (fun K=>K 1∧True) [0,3] [(6,vi c)] [3] [] ⟨Q3 (Z1D o) Tryz.call205 [],⟨⟩⟩ ?_
  refine Q0 Fm 2 [0,3,6] [(15,vb (c != (0:Int)))] [3] [] ?_;refine Q5 h (fun l h=>?_) (fun l h=>?_)
  ·refine Q0 Fm 2 [] [(4,vi c)] [] [] ?_
   refine AW.ret ?_;obtain rfl:=Option.some.inj h
   exact Kn.D Fm
  ·refine AW.skip (AW.seq (AW.seq ?_))
   obtain ⟨i,q,h⟩:=bS h;refine Q9 Fm [.s,.s,.k (cE [] [3] (vb i) [] [])] (fun K=>K 2∧True) [] [(19,vb i)] [] [] ⟨K4 (Q2c q) Tryz.call101 [] [3] [.tmp 17,.tmp 18] rfl (by kernel_rfl) (by kernel_rfl) (by kernel_rfl) ⟨.p,Q1T.cloX Tryz.call206 [[.d (DL a)]] (fun args r hq=>by obtain ⟨y0,y,hq,rfl,rfl⟩:=hq;exact Eq.mp (by kernel_rfl) (Z1P hq)) (fun args r hq=>by obtain ⟨y0,y,hq,rfl,rfl⟩:=hq;rfl) (by kernel_rfl) [3] (by kernel_rfl) (by kernel_rfl) (⟨⟨false,(by kernel_rfl)⟩,⟨⟩⟩) (by kernel_rfl),⟨⟩⟩,⟨⟩⟩ ?_
   refine Q5 h (fun m h=>?_) (fun m h=>?_)
   ·refine Q0 Fm 1 [] [(4,vi 13)] [] [] ?_
    refine AW.ret ?_;obtain rfl:=Option.some.inj h
    exact Kn.D Fm
   ·refine AW.skip (Q0 Fm 1 [] [(4,vi 0)] [] [] ?_)
    refine AW.ret ?_;obtain rfl:=Option.some.inj h
    exact Kn.D Fm
theorem Q8x {F:Nat} {c:Int} {a:(List Crop)} {b:Int} {r:Bool} (h:Q2D F c a b=some r) :
  Z6 Tryz.prog 208 [vi c,pt 0,pt 1] [(0,.box true [.d (DL a)]),(1,.box true [ci b])] (vb r) [(0,.box true [.d (DL a)]),(1,.box true [ci b])]:=by
 refine FI Tryz.func208 Q2 Q4 fun C Fm=>?_
 unfold Q2D at h;refine Q0 Fm 1 [0,1,2] [] [0,1] [] ?_
 obtain ⟨e,h⟩:=gS h;refine Y6 Fm (sA 8 []) [] [(4,vb (((gl a c.toNat).f_)==b))] [0,1] [] (cT e) ?_
 refine AW.ret ?_;obtain rfl:=Option.some.inj h
 exact Kn.D Fm
theorem Z3i {F:Nat} {d:Bool} {a:Bool} {r:Bool} (h:Q6G F d a=some r) :
  Z6 Tryz.prog 209 [vb d,vb a] [] (vb r) []:=by
 refine FI Tryz.func209 Q2 Q4 fun C Fm=>?_
 unfold Q6G at h;refine Q0 Fm 1 [0,1] [] [] [] ?_
 refine Z2 (r:=r) (fun z:Bool=>Q6F F z) [] (fun z=>[(4,vb z)]) [] (fun _=>[]) (fun i h=>?_) (fun e c=>?_)
 ·refine AW.ret ?_
  obtain rfl:=Option.some.inj h;exact Kn.D Fm
 ·rcases Y7 h with ⟨b,h⟩|⟨b,h⟩
  ·refine Q1 Fm [.s,.w (vb true),.s,.s,.s] [] [(4,vb a)] [] [] (cT (ALe.bool b)) ?_
   exact Kn.R Fm (c a h)
  ·refine Q1 Fm [.s,.w (vb false),.s,.s,.s] [] [(4,vb false)] [] [] (cT (ALe.bool b)) ?_
   exact Kn.R Fm (c false h)
theorem Z4M {F:Nat} {i:(List Rg_)} {a:(List Crop)} {j:Int} {e:Int} {b:Int} {r:(List Rect)} (h:Q6H F i a j e b=some r) :
  Z6 Tryz.prog 126 [AL i,AL a,vi j,vi e,vi b] [] (AL r) []:=by
 refine FI Tryz.func126 Q2 Q4 fun C Fm=>?_
 unfold Q6H at h;refine Q0 Fm 3 [0,2,3] [(6,pt 6),(9,pt 9)] [] [(6,bx [.d (DL a)]),(9,bx [ci b])] ?_
 refine Q0 Fm 2 [0,2,3] [(11,.v (.c (.clo 208 [6,9])))] [6,9] [] ?_;refine AW.seq ?_
 obtain ⟨m,A,h⟩:=bS h;refine Q9 Fm [.s,.s,.s,.k (cE [] [6,9] (AL m) [] []),.s] (fun K=>K 3∧True) [0,2,3,11] [(12,AL m)] [6,9] [] ⟨K4 (Q9n A) Tryz.call114 [] [6,9] [.tmp 15,.tmp 16,.tmp 17] rfl (by kernel_rfl) (by kernel_rfl) (by kernel_rfl) ⟨.p,.p,Q1T.cloX Tryz.call208 [[.d (DL a)],[ci b]] (fun args r hq=>by obtain ⟨y0,y,hq,rfl,rfl⟩:=hq;exact Eq.mp (by kernel_rfl) (Q8x hq)) (fun args r hq=>by obtain ⟨y0,y,hq,rfl,rfl⟩:=hq;rfl) (by kernel_rfl) [6,9] (by kernel_rfl) (by kernel_rfl) (⟨⟨false,(by kernel_rfl)⟩,⟨⟨false,(by kernel_rfl)⟩,⟨⟩⟩⟩) (by kernel_rfl),⟨⟩⟩,⟨⟩⟩ ?_
 refine Z2 (r:=r) (fun z:(List Rect)=>Z1C F z) [] (fun z=>[(12,AL z)]) [] (fun _=>[]) (fun H h=>?_) (fun M q=>?_)
 ·refine Q0 Fm 2 [] [(10,AL H)] [] [] ?_
  refine AW.ret ?_;obtain rfl:=Option.some.inj h
  exact Kn.D Fm
 ·obtain ⟨u,h⟩:=gS h
  refine Y6 Fm [.s,.s,.s] [0,3,11,12] [(13,vi (j+1))] [6,9] [] (cT (cT u)) ?_;refine AW.block (W6 Fm [(0,AL i),(3,vi e),(11,.v (.c (.clo 208 [6,9]))),(12,AL m),(13,vi (j+1))] [(6,bx [.d (DL a)]),(9,bx [ci b])] (by kernel_rfl) ?_)
  refine Z3 (E':=fun z=>[(0,AL i),(3,vi e),(11,.v (.c (.clo 208 [6,9]))),(12,AL z.1),(13,vi z.2)]) (S':=fun z=>[(6,bx [.d (DL a)]),(9,bx [ci b])]) (fun N z L o h=>?_) h;obtain ⟨G,l⟩:=z
  refine AW.seq (Q0 Fm 3 [0,3,11,12,13] [(23,vb (decide (l≤e)))] [6,9] [] ?_);refine Q5 h (fun t h=>?_) (fun t h=>?_)
  ·refine AW.skip (AW.seq (AW.block ?_))
   obtain ⟨I,B,h⟩:=bS h;obtain ⟨n,E,h⟩:=bS h
   refine Q9 Fm (sA 4 [.k (cE [] [6,9] (AL I) [] []),.k (cE [] [] (AL n) [] []),.s]) (fun K=>K 4∧K 5∧True) [0,3,11,13] [(12,AL n)] [6,9] [] ⟨K4 (Q9n B) Tryz.call114 [] [6,9] [.tmp 27,.tmp 28,.tmp 29] rfl (by kernel_rfl) (by kernel_rfl) (by kernel_rfl) ⟨.p,.p,Q1T.cloX Tryz.call208 [[.d (DL a)],[ci b]] (fun args r hq=>by obtain ⟨y0,y,hq,rfl,rfl⟩:=hq;exact Eq.mp (by kernel_rfl) (Q8x hq)) (fun args r hq=>by obtain ⟨y0,y,hq,rfl,rfl⟩:=hq;rfl) (by kernel_rfl) [6,9] (by kernel_rfl) (by kernel_rfl) (⟨⟨false,(by kernel_rfl)⟩,⟨⟨false,(by kernel_rfl)⟩,⟨⟩⟩⟩) (by kernel_rfl),⟨⟩⟩,K4 (Q8R E) Tryz.call95 [] [] [.tmp 26,.tmp 30,.func 209] rfl (by kernel_rfl) (by kernel_rfl) (by kernel_rfl) ⟨.p,.p,Q1T.cloX Tryz.call209 [] (fun args r hq=>by obtain ⟨y0,y1,y,hq,rfl,rfl⟩:=hq;exact Eq.mp (by kernel_rfl) (Z3i hq)) (fun args r hq=>by obtain ⟨y0,y1,y,hq,rfl,rfl⟩:=hq;rfl) (by kernel_rfl) [] (by kernel_rfl) (by kernel_rfl) (True.intro) (by kernel_rfl),⟨⟩⟩,⟨⟩⟩ ?_;obtain ⟨w,h⟩:=gS h
   refine Q1 Fm [.s,.s,.s] [0,3,11,12] [(13,vi (l+1))] [6,9] [] (cT (cT w)) ?_;exact Kn.R Fm (o (n,(l+1)) h)
  ·exact AW.exit (Kn.R Fm (q G h))
theorem Z0o {F:Nat} {a:(List Rect)} {r:Int} (h:Q5O F a=some r) :
  Z6 Tryz.prog 178 [AL a] [] (vi r) []:=by
 refine FI Tryz.func178 Q2 Q4 fun C Fm=>?_
 unfold Q5O at h;refine Q0 Fm 1 [0] [] [] [] ?_
 refine Q0 Fm 1 [0] [(3,vi 0)] [] [] ?_;refine Z2 (r:=r) (fun z:Int=>Z2c F z) [] (fun z=>[(3,vi z)]) [] (fun _=>[]) (fun p h=>?_) (fun t e=>?_)
 ·refine Q0 Fm 2 [] [(2,vi p)] [] [] ?_
  refine AW.ret ?_;obtain rfl:=Option.some.inj h
  exact Kn.D Fm
 ·refine Q0 Fm 3 [3] [(6,AL a),(7,vi (lI a)),(8,vi 0)] [] [] ?_
  refine AW.block (W6 Fm [(3,vi 0),(6,AL a),(7,vi (lI a)),(8,vi 0)] [] (by kernel_rfl) ?_);refine Z3 (E':=fun z=>[(3,vi z.1),(6,AL a),(7,vi (lI a)),(8,vi z.2)]) (S':=fun z=>[]) (fun u z q d h=>?_) h
  obtain ⟨c,b⟩:=z;refine Q0 Fm 1 [3,6,7,8] [(9,vb (decide (b<(lI a))))] [] [] ?_
  refine AW.seq (Q5 h (fun i h=>?_) (fun i h=>?_))
  ·refine AW.skip (AW.seq (AW.block ?_))
   obtain ⟨j,h⟩:=gS h;refine Y6 Fm (sA 4 []) [3,6,7,8] [(5,pt 5)] [] [(5,bx [ci ((gl a b.toNat).L_),ci ((gl a b.toNat).w_),ci ((gl a b.toNat).R_),ci ((gl a b.toNat).H_)])] (cT j) ?_
   obtain ⟨k,l,m,n,h⟩:=gS4 h;refine Q1 Fm (sA 14 []) [6,7,8] [(3,vi (c+((((gl a b.toNat).R_)-((gl a b.toNat).L_))*(((gl a b.toNat).H_)-((gl a b.toNat).w_)))))] [] [] (cA (cT k) (cA (cT l) (cA (cT m) (cT (cT n))))) ?_
   obtain ⟨o,h⟩:=gS h;refine Q1 Fm [.s,.s] [3,6,7] [(8,vi (b+1))] [] [] (cT (cT o)) ?_
   exact Kn.R Fm (d ((c+((((gl a b.toNat).R_)-((gl a b.toNat).L_))*(((gl a b.toNat).H_)-((gl a b.toNat).w_)))),(b+1)) h)
  ·exact AW.exit (Kn.R Fm (e c h))
theorem Z1y {F:Nat} {a:(List Rect)} {r:Int} (h:Q7n F a=some r) :
  Z6 Tryz.prog 157 [AL a] [] (vi r) []:=by
 refine FI Tryz.func157 Q2 Q4 fun C Fm=>?_
 unfold Q7n at h;refine Q0 Fm 1 [0] [] [] [] ?_
 refine Q0 Fm 1 [0] [(3,vi 0)] [] [] ?_;refine Z2 (r:=r) (fun z:Int=>Z3w F z) [] (fun z=>[(3,vi z)]) [] (fun _=>[]) (fun p h=>?_) (fun t e=>?_)
 ·refine Q0 Fm 2 [] [(2,vi p)] [] [] ?_
  refine AW.ret ?_;obtain rfl:=Option.some.inj h
  exact Kn.D Fm
 ·refine Q0 Fm 3 [3] [(6,AL a),(7,vi (lI a)),(8,vi 0)] [] [] ?_
  refine AW.block (W6 Fm [(3,vi 0),(6,AL a),(7,vi (lI a)),(8,vi 0)] [] (by kernel_rfl) ?_);refine Z3 (E':=fun z=>[(3,vi z.1),(6,AL a),(7,vi (lI a)),(8,vi z.2)]) (S':=fun z=>[]) (fun u z q d h=>?_) h
  obtain ⟨c,b⟩:=z;refine Q0 Fm 1 [3,6,7,8] [(9,vb (decide (b<(lI a))))] [] [] ?_
  refine AW.seq (Q5 h (fun i h=>?_) (fun i h=>?_))
  ·refine AW.skip (AW.seq (AW.block ?_))
   obtain ⟨j,h⟩:=gS h;refine Y6 Fm (sA 4 []) [3,6,7,8] [(5,pt 5)] [] [(5,bx [ci ((gl a b.toNat).L_),ci ((gl a b.toNat).w_),ci ((gl a b.toNat).R_),ci ((gl a b.toNat).H_)])] (cT j) ?_
   obtain ⟨k,l,m,n,h⟩:=gS4 h;refine Q1 Fm (sA 14 []) [6,7,8] [(3,vi (c+((((gl a b.toNat).R_)-((gl a b.toNat).L_))*(((gl a b.toNat).H_)-((gl a b.toNat).w_)))))] [] [] (cA (cT k) (cA (cT l) (cA (cT m) (cT (cT n))))) ?_
   obtain ⟨o,h⟩:=gS h;refine Q1 Fm [.s,.s] [3,6,7] [(8,vi (b+1))] [] [] (cT (cT o)) ?_
   exact Kn.R Fm (d ((c+((((gl a b.toNat).R_)-((gl a b.toNat).L_))*(((gl a b.toNat).H_)-((gl a b.toNat).w_)))),(b+1)) h)
  ·exact AW.exit (Kn.R Fm (e c h))
theorem Z1A {F:Nat} {a:Re_} {r:Int} (h:Q7r F a=some r) :
  Z6 Tryz.prog 68 [.v (.g [.d (DL a.t_)])] [] (vi r) []:=by
 refine FI Tryz.func68 Q2 Q4 fun C Fm=>?_
 unfold Q7r at h;refine Q0 Fm 2 [] [(1,pt 1)] [] [(1,bx [.d (DL a.t_)])] ?_
 refine AW.seq (AW.seq ?_);obtain ⟨i,c,h⟩:=bS h
 refine Q9 Fm [.s,.k _,.s] (fun K=>K 1∧True) [1] [(5,vb (!i))] [1] [] ⟨Q3 (J3 c) Tryz.call109 [],⟨⟩⟩ ?_;refine Q5 h (fun b h=>?_) (fun b h=>?_)
 ·refine Q0 Fm 1 [] [(2,vi 0)] [] [] ?_
  refine AW.ret ?_;obtain rfl:=Option.some.inj h
  exact Kn.D Fm
 ·refine AW.skip (AW.seq ?_)
  obtain ⟨j,e,h⟩:=bS h;refine Q9 Fm [.s,.s,.k _,.s] (fun K=>K 2∧True) [] [(2,vi j)] [] [] ⟨Q3 (Z1y e) Tryz.call157 [],⟨⟩⟩ ?_
  refine AW.ret ?_;obtain rfl:=Option.some.inj h
  exact Kn.D Fm
theorem Z3X {F:Nat} {a:(List Rect)} {r:Re_×Int} (h:Q9X F a=some r) :
  Z6 Tryz.prog 118 [ow 0] [(0,AO a)] (.t [.g [.own 100],.c (ci r.2)]) [(100,AO r.1.t_)]:=by
 refine FI Tryz.func118 Q2 Q4 fun C Fm=>?_
 unfold Q9X at h;refine Q0 Fm 2 [0] [(2,pt 2)] [0] [(2,bx [.fl 0 fun _=>[]])] ?_
 refine AW.seq (Q0 Fm 3 [0,2] [(6,vb (decide ((120:Int)<(lI a))))] [0,2] [] ?_);refine Q5 h (fun b h=>?_) (fun b h=>?_)
 ·refine Q0 Fm 3 [2] [(3,vi 1)] [0,2] [] ?_
  refine AW.ret ?_;obtain rfl:=Option.some.inj h
  refine W6 Fm [(2,pt 2),(3,vi 1)] [(2,bx [.fl 0 fun _=>[]]),(0,AO a)] (by kernel_rfl) ?_;refine Z6w Fm (i:=2) (k:=900) (es:=4) (j:=0) (f':=LF (α:=Rect) []) (by kernel_rfl) (by kernel_rfl) (by simp) rfl ?_
  refine W6 Fm [(2,pt 2),(3,vi 1)] [(0,AO a),(2,bx [.own 900]),(900,AO ([]:List Rect))] (by kernel_rfl) ?_;exact Q3e Fm [(100,900)] [(2,pt 2),(3,vi 1)] [(2,bx [.own 100]),(100,AO ([]:List Rect))] (by kernel_rfl) (by kernel_rfl) (by kernel_rfl) (by kernel_rfl) (Q3H Fm (by kernel_rfl))
 ·refine AW.skip (Q0 Fm 4 [2] [(3,vi 0)] [0] [(2,bx [.own 0])] ?_)
  refine AW.ret ?_;obtain rfl:=Option.some.inj h
  exact Q3e Fm [(100,0)] [(2,pt 2),(3,vi 0)] [(2,bx [.own 100]),(100,AO a)] (by kernel_rfl) (by kernel_rfl) (by kernel_rfl) (by kernel_rfl) (Q3H Fm (by kernel_rfl))
theorem Z6e {F:Nat} {a:(List Rect)} {r:Re_×Int} (h:Z3S F a=some r) :
  Z6 Tryz.prog 93 [AL a] [] (.t [.g [.own 100],.c (ci r.2)]) [(100,AO r.1.t_)]:=by
 refine FI Tryz.func93 Q2 Q4 fun C Fm=>?_
 unfold Z3S at h;refine Q0 Fm 2 [0] [(2,pt 2)] [] [(2,bx [.fl 0 fun _=>[]])] ?_
 refine AW.seq (Q0 Fm 3 [0,2] [(8,vb (decide ((120:Int)<(lI a))))] [2] [] ?_);refine Q5 h (fun m h=>?_) (fun m h=>?_)
 ·refine Q0 Fm 3 [2] [(3,vi 1)] [2] [] ?_
  refine AW.ret ?_;obtain rfl:=Option.some.inj h
  refine W6 Fm [(2,pt 2),(3,vi 1)] [(2,bx [.fl 0 fun _=>[]])] (by kernel_rfl) ?_;refine Z6w Fm (i:=2) (k:=900) (es:=4) (j:=0) (f':=LF (α:=Rect) []) (by kernel_rfl) (by kernel_rfl) (by simp) rfl ?_
  refine W6 Fm [(2,pt 2),(3,vi 1)] [(2,bx [.own 900]),(900,AO ([]:List Rect))] (by kernel_rfl) ?_;exact Q3e Fm [(100,900)] [(2,pt 2),(3,vi 1)] [(2,bx [.own 100]),(100,AO ([]:List Rect))] (by kernel_rfl) (by kernel_rfl) (by kernel_rfl) (by kernel_rfl) (Q3H Fm (by kernel_rfl))
 ·refine AW.skip (Z2 (r:=r) (fun z:Unit=>Z3y F a) [0,2] (fun _=>[]) [2] (fun _=>[]) (fun z h=>?_) (fun G l=>?_))
  ·refine AW.seq ?_
   obtain ⟨D,y,h⟩:=bS h;obtain ⟨d,A,h⟩:=bS h
   refine Q9 Fm [.s,.k (cE [(100,22)] [] (ow 100) [] [(100,AO D)]),.k _,.s,.s,.s,.s] (fun K=>K 1∧K 2∧True) [2] [(3,vi d.2)] [] [(2,bx [.own 23]),(23,AO d.1.t_)] ⟨K4 (Q7Q y) Tryz.call112 [(100,22)] [] [.tmp 21,.const (.slice none 0 0),.const (.int .i64 1)] rfl (by kernel_rfl) (by kernel_rfl) (by kernel_rfl) ⟨.p,Q1T.plain (by kernel_rfl) (ALe.c (CLe.fl .nil)) (by kernel_rfl),.p,⟨⟩⟩,Q3 (Z3X A) Tryz.call118 [(0,22),(100,23)],⟨⟩⟩ ?_;refine AW.ret ?_
   obtain rfl:=Option.some.inj h;exact Q3e Fm [(100,23)] [(2,pt 2),(3,vi d.2)] [(2,bx [.own 100]),(100,AO d.1.t_)] (by kernel_rfl) (by kernel_rfl) (by kernel_rfl) (by kernel_rfl) (Q3H Fm (by kernel_rfl))
  ·refine Q0 Fm 3 [0,2] [(10,AL a),(11,vi (lI a)),(12,vi 0)] [2] [] ?_
   refine AW.block (W6 Fm [(0,AL a),(2,pt 2),(10,AL a),(11,vi (lI a)),(12,vi 0)] [(2,bx [.fl 0 fun _=>[]])] (by kernel_rfl) ?_);refine Z3 (E':=fun z=>[(0,AL a),(2,pt 2),(10,AL a),(11,vi (lI a)),(12,vi z)]) (S':=fun z=>[(2,bx [.fl 0 fun _=>[]])]) (fun H b E e h=>?_) h
   refine Q0 Fm 1 [0,2,10,11,12] [(13,vb (decide (b<(lI a))))] [2] [] ?_;refine AW.seq (Q5 h (fun n h=>?_) (fun n h=>?_))
   ·refine AW.skip (AW.seq (AW.block ?_))
    obtain ⟨q,h⟩:=gS h;refine Y6 Fm (sA 4 []) [0,2,10,11,12] [(5,pt 5)] [2] [(5,bx [ci ((gl a b.toNat).L_),ci ((gl a b.toNat).w_),ci ((gl a b.toNat).R_),ci ((gl a b.toNat).H_)])] (cT q) ?_
    refine AW.seq ?_;obtain ⟨B,w,h⟩:=bS h
    refine Q9 Fm [.s,.k _,.s] (fun K=>K 1∧True) [0,2,10,11,12] [(18,vb (!B))] [2] [] ⟨Q3 (Q6v w) Tryz.call181 [],⟨⟩⟩ ?_;refine Q5 h (fun o h=>?_) (fun o h=>?_)
    ·refine Q0 Fm 3 [2] [(3,vi 2)] [2] [] ?_
     refine AW.ret ?_;obtain rfl:=Option.some.inj h
     refine W6 Fm [(2,pt 2),(3,vi 2)] [(2,bx [.fl 0 fun _=>[]])] (by kernel_rfl) ?_;refine Z6w Fm (i:=2) (k:=900) (es:=4) (j:=0) (f':=LF (α:=Rect) []) (by kernel_rfl) (by kernel_rfl) (by simp) rfl ?_
     refine W6 Fm [(2,pt 2),(3,vi 2)] [(2,bx [.own 900]),(900,AO ([]:List Rect))] (by kernel_rfl) ?_;exact Q3e Fm [(100,900)] [(2,pt 2),(3,vi 2)] [(2,bx [.own 100]),(100,AO ([]:List Rect))] (by kernel_rfl) (by kernel_rfl) (by kernel_rfl) (by kernel_rfl) (Q3H Fm (by kernel_rfl))
    ·refine AW.skip ?_
     obtain ⟨u,h⟩:=gS h;refine Q1 Fm [.s,.s] [0,2,10,11] [(12,vi (b+1))] [2] [] (cT (cT u)) ?_
     exact Kn.R Fm (e (b+1) h)
   ·exact AW.exit (Kn.R Fm (l () h))
theorem Z0K {F:Nat} {o:Tape} {e:Int} {p:Int} {r:Tape×Re_} (h:Q5J F o e p=some r) :
  Z6 Tryz.prog 16 [pt 0,vi e,vi p] [(0,bx (gC o))] (.v (.g [.own 100])) [(0,bx (gC r.1)),(100,AO r.2.t_)]:=by
 refine FI Tryz.func16 Q2 Q4 fun C Fm=>?_
 unfold Q5J at h;refine Q0 Fm 1 [0,1,2] [(6,pt 6)] [0] [(6,bx [.fl 0 fun _=>[]])] ?_
 refine G9 Fm [.m] (fun K=>True) [0,1,2,6] [(7,ow 7)] [0,6] [(7,AO ([]:List Rect))] True.intro [(7,.arr 4 (0) (fun _=>[]))] ⟨OLe.is ((Is.nil (α:=Rect))),⟨⟩⟩ ?_;refine Z2 (r:=r) (fun z:(List Rect)×(List Int)×Int=>Q7d F z.1 z.2.1 z.2.2) [6,7] (fun _=>[]) [6] (fun z=>[(0,bx [.d (DL z.2.1),ci z.2.2]),(7,AO z.1)]) (fun z h=>?_) (fun N u=>?_)
 ·obtain ⟨n,j,l⟩:=z
  refine AW.seq (W6 Fm [(6,pt 6),(7,ow 7)] [(7,AO n),(0,bx [.d (DL j),ci l]),(6,bx [.fl 0 fun _=>[]])] (by kernel_rfl) ?_);refine Kn.frz [(6,pt 6),(7,AL n)] [(0,bx [.d (DL j),ci l]),(6,bx [.fl 0 fun _=>[]])] (by kernel_rfl) (by kernel_rfl) (by kernel_rfl) ?_
  obtain ⟨q,H,h⟩:=bS h;refine Q9 Fm (sZ 6 [.s,.k _]) (fun K=>K 1∧True) [6] [(9,pt 9)] [0,6] [(9,bx [.own 27]),(27,AO q.1.t_)] ⟨Q3 (Z6e H) Tryz.call93 [(100,27)],⟨⟩⟩ ?_
  refine Q0 Fm 2 [6] [] [0,27] [(6,bx [.own 27])] ?_;refine AW.ret ?_
  obtain rfl:=Option.some.inj h;exact Q3e Fm [(100,27)] [(6,pt 6)] [(0,bx [.d (DL j),ci l]),(6,bx [.own 100]),(100,AO q.1.t_)] (by kernel_rfl) (by kernel_rfl) (by kernel_rfl) (by kernel_rfl) (Q3H Fm (by kernel_rfl))
 ·refine AW.seq ?_
  obtain ⟨A,h⟩:=gS h;obtain ⟨b,E,h⟩:=bS h
  refine Q9 Fm [.s,.s,.s,.k _,.s] (fun K=>(_∧True)∧K 3∧True) [0,1,6,7] [(8,vi b.2)] [6,7] [(0,bx (gC b.1))] ⟨⟨A,⟨⟩⟩,Q3 (Y3 E) Tryz.call15 [(0,0)],⟨⟩⟩ ?_;refine AW.block (W6 Fm [(0,pt 0),(1,vi e),(6,pt 6),(7,ow 7),(8,vi b.2)] [(0,bx [.d (DL b.1.l_),ci b.1.at_]),(6,bx [.fl 0 fun _=>[]]),(7,AO ([]:List Rect))] (by kernel_rfl) ?_)
  refine Z3 (E':=fun z=>[(0,pt 0),(1,vi e),(6,pt 6),(7,ow 7),(8,vi z.1)]) (S':=fun z=>[(0,bx [.d (DL z.2.1),ci z.2.2.1]),(6,bx [.fl 0 fun _=>[]]),(7,AO z.2.2.2)]) (fun O z M t h=>?_) h;obtain ⟨i,I,L,c⟩:=z
  refine AW.seq (Q0 Fm 2 [0,1,6,7,8] [(16,vb (decide ((0:Int)<i)))] [0,6,7] [] ?_);refine Q5 h (fun y h=>?_) (fun y h=>?_)
  ·refine AW.skip (AW.seq (AW.block ?_))
   obtain ⟨a,G,h⟩:=bS h;obtain ⟨B,h⟩:=gS h
   refine Z0e Fm [.s,.s,.s,.k _,.w (AL [a.2]),.s,.s] (fun K=>K 3∧_∧(_∧_∧True)∧True) [0,1,6,8] [(7,ow 24)] [6] [(0,bx (gC a.1)),(24,AO (c++([a.2]:List Rect)))] ⟨Q3 (Q4V G) Tryz.call92 [(0,0)],Z0I a.2,⟨B,lfl ([a.2]:List Rect),⟨⟩⟩,⟨⟩⟩ [(24,rAp c ([a.2]:List Rect))] ⟨oAp,⟨⟩⟩ ?_;obtain ⟨D,h⟩:=gS h
   refine Q1 Fm [.s,.s,.s] [0,1,6,7] [(8,vi (i-1))] [0,6,24] [] (cT (cT D)) ?_;exact Q1f Fm [(7,24)] (t ((i-1),a.1.l_,a.1.at_,(c++([a.2]:List Rect))) h)
  ·exact AW.exit (Kn.R Fm (u (c,I,L) h))
theorem Z1M {F:Nat} {e:Tape} {i:Int} {j:Int} {r:Tape×Re_} (h:Q2z F e i j=some r) :
  Z6 Tryz.prog 129 [pt 0,vi i,vi j] [(0,bx (gC e))] (.v (.g [.own 100])) [(0,bx (gC r.1)),(100,AO r.2.t_)]:=by
 refine FI Tryz.func129 Q2 Q4 fun C Fm=>?_
 unfold Q2z at h;refine Q0 Fm 1 [0,1,2] [(6,pt 6)] [0] [(6,bx [.fl 0 fun _=>[]])] ?_
 refine AW.seq ?_;obtain ⟨b,n,h⟩:=bS h
 refine Q9 Fm [.s,.s,.s,.k _,.s,.s] (fun K=>K 3∧True) [0,1,6] [(7,pt 7)] [6] [(0,bx (gC b.1)),(7,bx [.own 11]),(11,AO b.2.t_)] ⟨Q3 (Z0K n) Tryz.call16 [(0,0),(100,11)],⟨⟩⟩ ?_;refine Z2 (r:=r) (fun z:(List Int)×Int×(List Rect)=>Q4W F z.1 z.2.1 z.2.2) [6,7] (fun _=>[]) [6] (fun z=>[(0,bx [.d (DL z.1),ci z.2.1]),(7,bx [.own 19]),(19,AO z.2.2)]) (fun z h=>?_) (fun u c=>?_)
 ·obtain ⟨p,q,t⟩:=z
  refine Q0 Fm 2 [6] [] [0,19] [(6,bx [.own 19])] ?_;refine AW.ret ?_
  obtain rfl:=Option.some.inj h;exact Q3e Fm [(100,19)] [(6,pt 6)] [(0,bx [.d (DL p),ci q]),(6,bx [.own 100]),(100,AO t)] (by kernel_rfl) (by kernel_rfl) (by kernel_rfl) (by kernel_rfl) (Q3H Fm (by kernel_rfl))
 ·refine Q0 Fm 4 [0,1,6,7] [(15,vb ((lI b.2.t_)==0))] [0,6,7,11] [] ?_
  refine Q5 h (fun l h=>?_) (fun l h=>?_)
  ·obtain ⟨a,o,h⟩:=bS h
   refine Z0e Fm [.s,.s,.k _,.m,.s,.s] (fun K=>K 2∧True) [6,7] [] [6] [(0,bx (gC a.1)),(7,bx [.own 19]),(19,AO ([a.2]:List Rect))] ⟨Q3 (Q4V o) Tryz.call92 [(0,0)],⟨⟩⟩ [(19,.arr 4 (1) (Z1g 4 [.int .i64 a.2.L_,.int .i64 a.2.w_,.int .i64 a.2.R_,.int .i64 a.2.H_]))] ⟨OLe.is (Is.lit ([a.2]:List Rect) (by kernel_rfl)),⟨⟩⟩ ?_;exact Kn.R Fm (c (a.1.l_,a.1.at_,([a.2]:List Rect)) h)
  ·exact AW.skip (Q1f Fm [(19,11)] (c (b.1.l_,b.1.at_,b.2.t_) h))
theorem Q4O {F:Nat} {a:(List Line)} {i:(List Crop)} {r:Int} (h:Q1l F a i=some r) :
  Z6 Tryz.prog 167 [AL a,AL i] [] (vi r) []:=by
 refine FI Tryz.func167 Q2 Q4 fun C Fm=>?_
 unfold Q1l at h;refine Q0 Fm 1 [0,1] [] [] [] ?_
 refine AW.seq (Q0 Fm 3 [0,1] [(16,vb (decide ((20:Int)<(lI a))))] [] [] ?_);refine Q5 h (fun M h=>?_) (fun M h=>?_)
 ·refine Q0 Fm 1 [] [(4,vi 1)] [] [] ?_
  refine AW.ret ?_;obtain rfl:=Option.some.inj h
  exact Kn.D Fm
 ·refine AW.skip (AW.seq (AW.seq ?_))
  obtain ⟨o,j0,h⟩:=bS h;refine Q9 Fm [.s,.k _,.s] (fun K=>K 1∧True) [0,1] [(5,vi o)] [] [] ⟨Q3 (Z1D j0) Tryz.call205 [],⟨⟩⟩ ?_
  refine Q0 Fm 2 [0,1,5] [(20,vb (o != (0:Int)))] [] [] ?_;refine Q5 h (fun N h=>?_) (fun N h=>?_)
  ·refine Q0 Fm 2 [] [(4,vi o)] [] [] ?_
   refine AW.ret ?_;obtain rfl:=Option.some.inj h
   exact Kn.D Fm
  ·refine AW.skip (Z2 (r:=r) (fun z:Unit=>Q6d F a) [0] (fun _=>[]) [] (fun _=>[]) (fun z h=>?_) (fun q0 A=>?_))
   ·refine Z2 (r:=r) (fun z:Unit=>Q6c F a) [0] (fun _=>[]) [] (fun _=>[]) (fun z h=>?_) (fun t0 E=>?_)
    ·refine Z2 (r:=r) (fun z:Unit=>Q9x F) [] (fun _=>[]) [] (fun _=>[]) (fun z h=>?_) (fun A0 L=>?_)
     ·refine Q0 Fm 1 [] [(4,vi 0)] [] [] ?_
      refine AW.ret ?_;obtain rfl:=Option.some.inj h
      exact Kn.D Fm
     ·refine Q0 Fm 3 [0] [(50,AL a),(51,vi (lI a)),(52,vi 0)] [] [] ?_
      refine AW.block (W6 Fm [(0,AL a),(50,AL a),(51,vi (lI a)),(52,vi 0)] [] (by kernel_rfl) ?_);refine Z3 (E':=fun z=>[(0,AL a),(50,AL a),(51,vi (lI a)),(52,vi z)]) (S':=fun z=>[]) (fun u b u0 G h=>?_) h
      refine Q0 Fm 1 [0,50,51,52] [(53,vb (decide (b<(lI a))))] [] [] ?_;refine AW.seq (Q5 h (fun V h=>?_) (fun V h=>?_))
      ·refine AW.skip (Z2 (r:=r) (fun z:Unit=>Q6b F b u) [0,50,51,52] (fun _=>[]) [] (fun _=>[]) (fun z h=>?_) (fun y0 I=>?_))
       ·obtain ⟨i0,h⟩:=gS h
        refine Q1 Fm [.s,.s] [0,50,51] [(52,vi (b+1))] [] [] (cT (cT i0)) ?_;exact Kn.R Fm (G (b+1) h)
       ·refine AW.block ?_
        obtain ⟨c0,h⟩:=gS h;refine Y6 Fm (sA 6 []) [0,50,51,52] [(10,vi b),(11,pt 11)] [] [(11,bx [ci ((gl a b.toNat).p_),.d (DL (gl a b.toNat).g_.t_),ci ((gl a b.toNat).c_),ci ((gl a b.toNat).s_)])] (cT c0) ?_
        obtain ⟨q,h⟩:=gS h;refine Y6 Fm [.s,.s,.w (AL (a.take b.toNat)),.s,.s] [0,11,50,51,52] [(59,AL (a.take b.toNat)),(60,vi (lI (a.take b.toNat))),(61,vi 0)] [11] [] (cA (⟨q,(Is.refl a).len⟩:((sl (List.length a) (LF a) none (some b)).2∧∀ j,j<List.length a→(LF a j).length=4)) (cT (ALe.lst (Z5J a none (some b) q):ALe (.v (.c (.d (.lst (sl (List.length a) (LF a) none (some b)).1.1 (sl (List.length a) (LF a) none (some b)).1.2)))) (AL (a.take b.toNat))))) ?_
        refine AW.block (W6 Fm [(0,AL a),(11,pt 11),(50,AL a),(51,vi (lI a)),(52,vi b),(59,AL (a.take b.toNat)),(60,vi (lI (a.take b.toNat))),(61,vi 0)] [(11,bx [ci ((gl a b.toNat).p_),.d (DL (gl a b.toNat).g_.t_),ci ((gl a b.toNat).c_),ci ((gl a b.toNat).s_)])] (by kernel_rfl) ?_);refine Z3 (E':=fun z=>[(0,AL a),(11,pt 11),(50,AL a),(51,vi (lI a)),(52,vi b),(59,AL (a.take b.toNat)),(60,vi (lI (a.take b.toNat))),(61,vi z)]) (S':=fun z=>[(11,bx [ci ((gl a b.toNat).p_),.d (DL (gl a b.toNat).g_.t_),ci ((gl a b.toNat).c_),ci ((gl a b.toNat).s_)])]) (fun D0 m w0 H h=>?_) h
        refine Q0 Fm 1 [0,11,50,51,52,59,60,61] [(62,vb (decide (m<(lI (a.take b.toNat)))))] [11] [] ?_;refine AW.seq (Q5 h (fun W h=>?_) (fun W h=>?_))
        ·refine AW.skip (AW.seq (AW.block ?_))
         obtain ⟨d0,h⟩:=gS h;refine Y6 Fm (sA 4 []) [0,11,50,51,52,59,60,61] [(13,pt 13)] [11] [(13,bx [ci ((gl (a.take b.toNat) m.toNat).p_),.d (DL (gl (a.take b.toNat) m.toNat).g_.t_),ci ((gl (a.take b.toNat) m.toNat).c_),ci ((gl (a.take b.toNat) m.toNat).s_)])] (cT d0) ?_
         refine AW.seq ?_;obtain ⟨n0,l0,h⟩:=bS h
         refine Q9 Fm (sA 4 [.k _]) (fun K=>K 4∧True) [0,11,50,51,52,59,60,61] [(69,vb n0)] [11] [] ⟨Q3 (Q9y l0) Tryz.call108 [],⟨⟩⟩ ?_;refine Q5 h (fun X h=>?_) (fun X h=>?_)
         ·refine Q0 Fm 1 [] [(4,vi 11)] [] [] ?_
          refine AW.ret ?_;obtain rfl:=Option.some.inj h
          exact Kn.D Fm
         ·refine AW.skip ?_
          obtain ⟨e0,h⟩:=gS h;refine Q1 Fm [.s,.s] [0,11,50,51,52,59,60] [(61,vi (m+1))] [11] [] (cT (cT e0)) ?_
          exact Kn.R Fm (H (m+1) h)
        ·exact AW.exit (Kn.R Fm (I () h))
      ·exact AW.exit (Kn.R Fm (L () h))
    ·refine Q0 Fm 3 [0] [(39,AL a),(40,vi (lI a)),(41,vi 0)] [] [] ?_
     refine AW.block (W6 Fm [(0,AL a),(39,AL a),(40,vi (lI a)),(41,vi 0)] [] (by kernel_rfl) ?_);refine Z3 (E':=fun z=>[(0,AL a),(39,AL a),(40,vi (lI a)),(41,vi z)]) (S':=fun z=>[]) (fun B0 l s0 B h=>?_) h
     refine Q0 Fm 1 [0,39,40,41] [(42,vb (decide (l<(lI a))))] [] [] ?_;refine AW.seq (Q5 h (fun T h=>?_) (fun T h=>?_))
     ·refine AW.skip (AW.seq (AW.block ?_))
      obtain ⟨a0,h⟩:=gS h;refine Y6 Fm (sA 4 []) [0,39,40,41] [(9,pt 9)] [] [(9,bx [ci ((gl a l.toNat).p_),.d (DL (gl a l.toNat).g_.t_),ci ((gl a l.toNat).c_),ci ((gl a l.toNat).s_)])] (cT a0) ?_
      refine AW.seq ?_;obtain ⟨m0,k0,h⟩:=bS h
      refine Q9 Fm [.s,.s,.k _,.s] (fun K=>K 2∧True) [0,39,40,41] [(48,vb (!m0))] [] [] ⟨Q3 (q9 k0) Tryz.call94 [],⟨⟩⟩ ?_;refine Q5 h (fun U h=>?_) (fun U h=>?_)
      ·refine Q0 Fm 1 [] [(4,vi 7)] [] [] ?_
       refine AW.ret ?_;obtain rfl:=Option.some.inj h
       exact Kn.D Fm
      ·refine AW.skip ?_
       obtain ⟨b0,h⟩:=gS h;refine Q1 Fm [.s,.s] [0,39,40] [(41,vi (l+1))] [] [] (cT (cT b0)) ?_
       exact Kn.R Fm (B (l+1) h)
     ·exact AW.exit (Kn.R Fm (E () h))
   ·refine Q0 Fm 3 [0,1] [(22,AL a),(23,vi (lI a)),(24,vi 0)] [] [] ?_
    refine AW.block (W6 Fm [(0,AL a),(1,AL i),(22,AL a),(23,vi (lI a)),(24,vi 0)] [] (by kernel_rfl) ?_);refine Z3 (E':=fun z=>[(0,AL a),(1,AL i),(22,AL a),(23,vi (lI a)),(24,vi z)]) (S':=fun z=>[]) (fun t e o0 y h=>?_) h
    refine Q0 Fm 1 [0,1,22,23,24] [(25,vb (decide (e<(lI a))))] [] [] ?_;refine AW.seq (Q5 h (fun O h=>?_) (fun O h=>?_))
    ·refine AW.skip (AW.seq (AW.block ?_))
     obtain ⟨Y,h⟩:=gS h;refine Y6 Fm (sA 4 []) [0,1,22,23,24] [(7,pt 7)] [] [(7,bx [ci ((gl a e.toNat).p_),.d (DL (gl a e.toNat).g_.t_),ci ((gl a e.toNat).c_),ci ((gl a e.toNat).s_)])] (cT Y) ?_
     refine Z2 (r:=r) (fun z:Bool=>Q0J F e t z) [0,1,22,23,24] (fun z=>[(37,vb z)]) [] (fun _=>[]) (fun E0 h=>?_) (fun p0 p=>?_)
     ·refine Q5 h (fun P h=>?_) (fun P h=>?_)
      ·refine Q0 Fm 1 [] [(4,vi 13)] [] [] ?_
       refine AW.ret ?_;obtain rfl:=Option.some.inj h
       exact Kn.D Fm
      ·refine AW.skip ?_
       obtain ⟨Z,h⟩:=gS h;refine Q1 Fm [.s,.s] [0,1,22,23] [(24,vi (e+1))] [] [] (cT (cT Z)) ?_
       exact Kn.R Fm (y (e+1) h)
     ·rcases Y7 h with ⟨n,h⟩|⟨n,h⟩
      ·refine Q1 Fm (sZ 6 [.s,.s,.s,.w (vb true)]) [0,1,22,23,24] [(37,vb true)] [] [] (cT (ALe.bool n)) ?_
       exact Kn.R Fm (p true h)
      ·refine Q1 Fm (sZ 6 [.s,.s,.s,.w (vb false)]) [0,1,22,23,24] [(32,.v (.c (.ptr 7 2))),(33,vi (gl a e.toNat).c_),(34,AL i),(35,vi (lI i)),(36,vb (decide ((lI i)≤((gl a e.toNat).c_)))),(37,vb (decide ((lI i)≤((gl a e.toNat).c_))))] [7] [] (cT (ALe.bool n)) ?_
       exact Kn.R Fm (p (decide ((lI i)≤((gl a e.toNat).c_))) h)
    ·exact AW.exit (Kn.R Fm (A () h))
theorem Q1E {F:Nat} {a:(List Line)} {e:(List Crop)} {r:(List Line)} (h:Q0k F a e=some r) :
  Z6 Tryz.prog 168 [AL a,AL e] [] (AL r) []:=by
 refine FI Tryz.func168 Q2 Q4 fun C Fm=>?_
 unfold Q0k at h;refine Q0 Fm 1 [0,1] [] [] [] ?_
 refine G9 Fm [.m] (fun K=>True) [0,1] [(5,ow 5)] [] [(5,AO ([]:List Line))] True.intro [(5,.arr 4 (0) (fun _=>[]))] ⟨OLe.is ((Is.nil (α:=Line))),⟨⟩⟩ ?_;refine Z2 (r:=r) (fun z:(List Line)=>Q8J F z) [5] (fun _=>[]) [] (fun z=>[(5,AO z)]) (fun j h=>?_) (fun G n=>?_)
 ·refine Q0 Fm 2 [] [(4,ow 5)] [5] [] ?_
  refine AW.ret ?_;obtain rfl:=Option.some.inj h
  refine W6 Fm [(4,ow 5)] [(5,AO j)] (by kernel_rfl) ?_;refine Kn.frz [(4,AL j)] [] (by kernel_rfl) (by kernel_rfl) (by kernel_rfl) ?_
  exact Kn.D Fm
 ·refine Q0 Fm 3 [1,5] [(8,AL a),(9,vi (lI a)),(10,vi 0)] [5] [] ?_
  refine AW.block (W6 Fm [(1,AL e),(5,ow 5),(8,AL a),(9,vi (lI a)),(10,vi 0)] [(5,AO ([]:List Line))] (by kernel_rfl) ?_);refine Z3 (E':=fun z=>[(1,AL e),(5,ow 5),(8,AL a),(9,vi (lI a)),(10,vi z.1)]) (S':=fun z=>[(5,AO z.2)]) (fun k z B l h=>?_) h
  obtain ⟨b,c⟩:=z;refine Q0 Fm 1 [1,5,8,9,10] [(11,vb (decide (b<(lI a))))] [5] [] ?_
  refine AW.seq (Q5 h (fun o h=>?_) (fun o h=>?_))
  ·refine AW.skip (Z2 (r:=r) (fun z:(List Line)=>Q1m F b k z) [1,8,9,10] (fun _=>[(5,ow 25)]) [] (fun z=>[(25,AO z)]) (fun A h=>?_) (fun E i=>?_))
   ·obtain ⟨y,h⟩:=gS h
    refine Q1 Fm [.s,.s] [1,5,8,9] [(10,vi (b+1))] [25] [] (cT (cT y)) ?_;exact Q1f Fm [(5,25)] (l ((b+1),A) h)
   ·refine AW.block ?_
    obtain ⟨q,h⟩:=gS h;refine Y6 Fm (sA 4 []) [1,5,8,9,10] [(7,pt 7)] [5] [(7,bx [ci ((gl a b.toNat).p_),.d (DL (gl a b.toNat).g_.t_),ci ((gl a b.toNat).c_),ci ((gl a b.toNat).s_)])] (cT q) ?_
    obtain ⟨t,h⟩:=gS h;refine Y6 Fm (sA 8 []) [1,5,7,8,9,10] [(21,vb ((Q6O .i64 ((gl e ((gl a b.toNat).c_).toNat).m_) (3:Int))==0))] [5,7] [] (cT t) ?_
    refine Q5 h (fun p h=>?_) (fun p h=>?_)
    ·obtain ⟨u,h⟩:=gS h
     refine Q0I Fm [.s,.s,.w (AL [(gl a b.toNat)]),.s,.s] [1,8,9,10] [(5,ow 25)] [] [(25,AO (c++([(gl a b.toNat)]:List Line)))] (cA (Z0I (gl a b.toNat)) (cT (cA u (cT (lfl ([(gl a b.toNat)]:List Line)))))) [(25,rAp c ([(gl a b.toNat)]:List Line))] ⟨oAp,⟨⟩⟩ ?_;exact Kn.R Fm (i (c++([(gl a b.toNat)]:List Line)) h)
    ·exact AW.skip (Q1f Fm [(25,5)] (i c h))
  ·exact AW.exit (Kn.R Fm (n c h))
theorem Q7f {F:Nat} {a:Re_} {r:Int} (h:Q3R F a=some r) :
  Z6 Tryz.prog 169 [.v (.g [.d (DL a.t_)])] [] (vi r) []:=by
 refine FI Tryz.func169 Q2 Q4 fun C Fm=>?_
 unfold Q3R at h;refine Q0 Fm 2 [] [(1,pt 1)] [] [(1,bx [.d (DL a.t_)])] ?_
 refine AW.seq (AW.seq ?_);obtain ⟨i,c,h⟩:=bS h
 refine Q9 Fm [.s,.k _,.s] (fun K=>K 1∧True) [1] [(5,vb (!i))] [1] [] ⟨Q3 (q9 c) Tryz.call94 [],⟨⟩⟩ ?_;refine Q5 h (fun b h=>?_) (fun b h=>?_)
 ·refine Q0 Fm 1 [] [(2,vi 0)] [] [] ?_
  refine AW.ret ?_;obtain rfl:=Option.some.inj h
  exact Kn.D Fm
 ·refine AW.skip (AW.seq ?_)
  obtain ⟨j,e,h⟩:=bS h;refine Q9 Fm [.s,.s,.k _,.s] (fun K=>K 2∧True) [] [(2,vi j)] [] [] ⟨Q3 (Z0o e) Tryz.call178 [],⟨⟩⟩ ?_
  refine AW.ret ?_;obtain rfl:=Option.some.inj h
  exact Kn.D Fm
theorem Q2N {F:Nat} {L:(List Line)} {m:(List Crop)} {r:(List A2_)×Int} (h:K2 F L m=some r) :
  Z6 Tryz.prog 80 [AL L,AL m] [] (.t [.c (.d (DL r.1)),.c (ci r.2)]) []:=by
 refine FI Tryz.func80 Q2 Q4 fun C Fm=>?_
 unfold K2 at h;refine Q0 Fm 2 [0,1] [] [] [] ?_
 refine AW.seq (AW.seq ?_);obtain ⟨B,c0,h⟩:=bS h
 refine Q9 Fm [.s,.s,.k _,.s] (fun K=>K 2∧True) [0,1] [(6,vi B)] [] [] ⟨Q3 (Q4O c0) Tryz.call167 [],⟨⟩⟩ ?_;refine Q0 Fm 2 [0,1,6] [(17,vb (B != (0:Int)))] [] [] ?_
 refine Q5 h (fun T h=>?_) (fun T h=>?_)
 ·refine Q0 Fm 3 [] [(4,.v (.c (.fl 0 fun _=>[]))),(5,vi B)] [] [] ?_
  refine AW.ret ?_;obtain rfl:=Option.some.inj h
  refine W6 Fm [(4,.v (.c (.fl 0 fun _=>[]))),(5,vi B)] [] (by kernel_rfl) ?_;refine Z8z [(4,AL (α:=A2_) []),(5,vi B)] [] ⟨rfl,ALe.c (CLe.fl .nil),⟨rfl,ALe.c (CLe.refl _),⟨⟩⟩⟩ True.intro ?_
  exact Kn.D Fm
 ·refine AW.skip (Q3x Fm [.k (rE { v:=.v (.c (.own 19)),new:=some (.ext (mqP [])) }),.s] (fun K=>K 0∧True) [0,1] [(7,ow 19)] [] [(19,.ext (mqP ([]:List (Int×Int))))] ⟨Y2x (kT:=0) (eT:=0) rfl rfl (by kernel_rfl),⟨⟩⟩ ?_)
  refine Z2 (r:=r) (fun z:(List (Int×Int))=>Q3O F z) [7] (fun _=>[]) [] (fun z=>[(19,.ext (mqP z))]) (fun u h=>?_) (fun k0 N=>?_)
  ·refine Q0 Fm 1 [7] [(10,pt 10)] [19] [(10,bx [.fl 0 fun _=>[]])] ?_
   refine Z2 (r:=r) (fun z:(List A2_)=>Q3N F z) [10] (fun _=>[]) [] (fun z=>[(10,bx [.own 900]),(900,AO z)]) (fun H h=>?_) (fun m0 P=>?_)
   ·refine AW.seq ?_
    obtain ⟨G,i0,h⟩:=bS h;refine Q9 Fm [.s,.k (xE [900] { v:=.v (.c (.cp 55 (0))),new:=some (.exr [900] (Z8Q 55)) }),.s,.k (cE [(0,900),(1,55),(50,10)] [] .any [(0,AO H),(1,.exr [0] (Z8Q 55)),(50,bx [.own 0])] [(0,AO G),(50,bx [.own 0])])] (fun K=>K 1∧K 3∧True) [10] [] [10] [(900,AO G)] ⟨Y2A (t:=55) (id:=900) (d:=55) (ob:=.box false []) (es:=2) (n:=List.length H) (f:=LF H) (fun w ad n c=>by simp [Instr.makeInterface,run_underlying Go.Proofs.Tryz.underlying55]) rfl rfl (by kernel_rfl) (by kernel_rfl) (by kernel_rfl),Q3 (Y0m i0) Tryz.call170 [(0,900),(1,55),(50,10)],⟨⟩⟩ ?_
    refine Q0 Fm 3 [] [(4,ow 900),(5,vi 0)] [900] [] ?_;refine AW.ret ?_
    obtain rfl:=Option.some.inj h;refine W6 Fm [(4,ow 900),(5,vi 0)] [(900,AO G)] (by kernel_rfl) ?_
    refine Kn.frz [(4,AL G),(5,vi 0)] [] (by kernel_rfl) (by kernel_rfl) (by kernel_rfl) ?_;exact Kn.D Fm
   ·refine AW.seq (W6 Fm ((7,ow 19)::[(10,pt 10)]) ((19,.ext (mqP u))::[(10,bx [.fl 0 fun _=>[]])]) (by kernel_rfl) ?_)
    refine Y6c (by kernel_rfl) ?_;refine W6 Fm [(7,.v (.c (.d (MPI u)))),(10,pt 10)] [(10,bx [.fl 0 fun _=>[]])] (by kernel_rfl) ?_
    refine Q9 Fm [.s,.k (rE { v:=.v (.c (.own 42)),new:=some (.ext (itI u none)) })] (fun K=>K 1∧True) [10] [(42,ow 42)] [10] [(42,.ext (itI u none))] ⟨Y0Z (gs:=u) (t:=179) (kT:=3) (eT:=3) (d:=42) (by kernel_rfl) rfl rfl (by kernel_rfl) (by kernel_rfl),⟨⟩⟩ ?_;refine AW.block (W6 Fm [(10,pt 10),(42,ow 42)] [(10,bx [.fl 0 fun _=>[]]),(42,.ext (itI u none))] (by kernel_rfl) ?_)
    refine Z6w Fm (i:=10) (k:=900) (es:=2) (j:=0) (f':=LF (α:=A2_) []) (by kernel_rfl) (by kernel_rfl) (by simp) rfl ?_;refine W6 Fm [(10,pt 10),(42,ow 42)] [(10,bx [.own 900]),(42,.ext (itI u none)),(900,AO ([]:List A2_))] (by kernel_rfl) ?_
    refine W6 Fm [(10,pt 10),(42,ow 42)] [(10,bx [.own 900]),(42,.ext (itI u none)),(900,AO ([]:List A2_))] (by kernel_rfl) ?_;refine Z3 (E':=fun z=>[(10,pt 10),(42,ow 42)]) (S':=fun z=>[(10,bx [.own 900]),(42,.ext (itI z.1 none)),(900,AO z.2)]) (fun o0 z l0 O h=>?_) h
    obtain ⟨I,p⟩:=z;refine AW.seq (W6 Fm [(10,pt 10),(42,ow 42)] [(42,.ext (itI I none)),(10,bx [.own 900]),(900,AO p)] (by kernel_rfl) ?_)
    refine Y4p (by kernel_rfl) (by kernel_rfl) (by kernel_rfl) (fun Z=>?_) (fun a A a0=>?_)
    ·have h:=Z6V h Z
     refine W6 Fm [(10,pt 10),(42,ow 42),(44,vb false)] [(10,bx [.own 900]),(42,.ext (itI I none)),(900,AO p)] (by kernel_rfl) ?_;refine AW.seq (AW.cond (b:=false) (by kernel_rfl) (fun hb=>by cases hb) (fun _=>?_))
     exact AW.exit (Kn.R Fm (P p h))
    ·have h:=Z9z h a0
     refine W6 Fm [(10,pt 10),(42,ow 42),(44,vb true)] [(10,bx [.own 900]),(42,.ext (itI A (some a))),(900,AO p)] (by kernel_rfl) ?_;refine AW.seq (AW.cond (b:=true) (by kernel_rfl) (fun _=>?_) (fun hb=>by cases hb))
     refine AW.skip (AW.block (Q3x Fm [.k (rE { v:=.t [.c (ci a.1),.c (ci a.2)] }),.s,.s,.s,.s] (fun K=>K 0∧True) [10,42] [(11,vi a.1),(12,vi a.2)] [10,42,900] [] ⟨Y1b (gs:=A) (q:=a) (id:=42) rfl rfl (by kernel_rfl) (by kernel_rfl) (by kernel_rfl),⟨⟩⟩ ?_));obtain ⟨b0,h⟩:=gS h
     refine Q0I Fm (sA 4 [.w (AL [(⟨a.1,a.2⟩:A2_)]),.s,.s]) [10,42] [] [42] [(10,bx [.own 53]),(53,AO (p++([(⟨a.1,a.2⟩:A2_)]:List A2_)))] (cA (Z0I (⟨a.1,a.2⟩:A2_)) (cT (cA b0 (cT (lfl ([(⟨a.1,a.2⟩:A2_)]:List A2_)))))) [(53,rAp p ([(⟨a.1,a.2⟩:A2_)]:List A2_))] ⟨oAp,⟨⟩⟩ ?_;refine W6 Fm [(10,pt 10),(42,ow 42)] [(10,bx [.own 53]),(42,.ext (itI A (some a))),(53,AO (p++([(⟨a.1,a.2⟩:A2_)]:List A2_)))] (by kernel_rfl) ?_
     refine Z8z [(10,pt 10),(42,ow 42)] [(10,bx [.own 53]),(42,.ext (itI A none)),(53,AO (p++([(⟨a.1,a.2⟩:A2_)]:List A2_)))] ⟨rfl,ALe.c (CLe.refl _),⟨rfl,ALe.c (CLe.refl _),⟨⟩⟩⟩ ⟨rfl,OLe.box ⟨CLe.refl _,⟨⟩⟩,⟨rfl,Y3s _ _,⟨rfl,OLe.refl _,⟨⟩⟩⟩⟩ ?_;exact Q1f Fm [(900,53)] (O (A,(p++([(⟨a.1,a.2⟩:A2_)]:List A2_))) h)
  ·refine AW.seq ?_
   obtain ⟨e,d0,h⟩:=bS h;refine Q9 Fm [.s,.s,.k _,.s,.s] (fun K=>K 2∧True) [1,7] [(22,AL e),(23,vi (lI e)),(24,vi 0)] [19] [] ⟨Q3 (Q1E d0) Tryz.call168 [],⟨⟩⟩ ?_
   refine AW.block (W6 Fm [(1,AL m),(7,ow 19),(22,AL e),(23,vi (lI e)),(24,vi 0)] [(19,.ext (mqP ([]:List (Int×Int))))] (by kernel_rfl) ?_);refine Z3 (E':=fun z=>[(1,AL m),(7,ow 19),(22,AL e),(23,vi (lI e)),(24,vi z.1)]) (S':=fun z=>[(19,.ext (mqP z.2))]) (fun n0 z j0 M h=>?_) h
   obtain ⟨l,o⟩:=z;refine Q0 Fm 1 [1,7,22,23,24] [(25,vb (decide (l<(lI e))))] [19] [] ?_
   refine AW.seq (Q5 h (fun U h=>?_) (fun U h=>?_))
   ·refine AW.skip (AW.seq (AW.block ?_))
    obtain ⟨V,h⟩:=gS h;refine Y6 Fm (sA 4 []) [1,7,22,23,24] [(9,pt 9)] [19] [(9,bx [ci ((gl e l.toNat).p_),.d (DL (gl e l.toNat).g_.t_),ci ((gl e l.toNat).c_),ci ((gl e l.toNat).s_)])] (cT V) ?_
    obtain ⟨W,h⟩:=gS h;obtain ⟨E,e0,h⟩:=bS h
    obtain ⟨X,h⟩:=gS h;refine Q9 Fm (sA 7 [.k (rE { v:=vi (Q9u ((gl m ((gl e l.toNat).c_).toNat).f_) o) }),.s,.s,.k _,.s,.k (rE { upd:=some (19,.ext (mqP (Z1O ((gl m ((gl e l.toNat).c_).toNat).f_) ((Q9u ((gl m ((gl e l.toNat).c_).toNat).f_) o)+E) o))) })]) (fun K=>_∧K 7∧K 10∧(_∧True)∧K 12∧True) [1,7,22,23,24] [] [] [(19,.ext (mqP (Z1O ((gl m ((gl e l.toNat).c_).toNat).f_) ((Q9u ((gl m ((gl e l.toNat).c_).toNat).f_) o)+E) o)))] ⟨W,Y2y (gs:=o) (id:=19) (t:=179) (kT:=3) (eT:=3) (y:=(gl m ((gl e l.toNat).c_).toNat).f_) (by kernel_rfl) (by kernel_rfl) Go.Proofs.Tryz.zeroValue3 rfl rfl (by kernel_rfl) (by kernel_rfl) (by kernel_rfl) (by kernel_rfl),Q3 (Q7f e0) Tryz.call169 [],⟨X,⟨⟩⟩,Y2w (gs:=o) (id:=19) (t:=179) (kT:=3) (eT:=3) (y:=(gl m ((gl e l.toNat).c_).toNat).f_) (n:=((Q9u ((gl m ((gl e l.toNat).c_).toNat).f_) o)+E)) (by kernel_rfl) (by kernel_rfl) rfl rfl (by kernel_rfl) (by kernel_rfl) (by kernel_rfl) (by kernel_rfl) (by kernel_rfl),⟨⟩⟩ ?_
    obtain ⟨Y,h⟩:=gS h;refine Q1 Fm [.s,.s] [1,7,22,23] [(24,vi (l+1))] [19] [] (cT (cT Y)) ?_
    exact Kn.R Fm (M ((l+1),(Z1O ((gl m ((gl e l.toNat).c_).toNat).f_) ((Q9u ((gl m ((gl e l.toNat).c_).toNat).f_) o)+E) o)) h)
   ·exact AW.exit (Kn.R Fm (N o h))
theorem Q7a {F:Nat} {N:(List Line)} {O:(List Crop)} {i:Int} {e:Int} {r:Bool×Int} (h:J2 F N O i e=some r) :
  Z6 Tryz.prog 81 [AL N,AL O,vi i,vi e] [] (.t [.c (.d (.bool r.1)),.c (ci r.2)]) []:=by
 refine FI Tryz.func81 Q2 Q4 fun C Fm=>?_
 unfold J2 at h;refine Q0 Fm 2 [0,1,2,3] [] [] [] ?_
 refine AW.seq ?_;obtain ⟨a,m0,h⟩:=bS h
 refine Q9 Fm (sZ 5 [.s,.s,.k _]) (fun K=>K 2∧True) [2,3] [(10,AL a.1),(11,vi a.2)] [] [] ⟨Q3 (Q2N m0) Tryz.call80 [],⟨⟩⟩ ?_;refine AW.seq (Q0 Fm 2 [2,3,10,11] [(25,vb (a.2 != (0:Int)))] [] [] ?_)
 refine Q5 h (fun V h=>?_) (fun V h=>?_)
 ·refine Q0 Fm 3 [] [(8,vb false),(9,vi a.2)] [] [] ?_
  refine AW.ret ?_;obtain rfl:=Option.some.inj h
  exact Kn.D Fm
 ·refine AW.skip (AW.seq (Z2 (r:=r) (fun z:Bool=>G8 F i e a z) [2,3,10] (fun z=>[(37,vb z)]) [] (fun _=>[]) (fun y0 h=>?_) (fun p0 q=>?_)))
  ·refine Q5 h (fun W h=>?_) (fun W h=>?_)
   ·refine Q0 Fm 2 [] [(8,vb false),(9,vi 2)] [] [] ?_
    refine AW.ret ?_;obtain rfl:=Option.some.inj h
    exact Kn.D Fm
   ·refine AW.skip (Q0 Fm 3 [2,3,10] [(12,vi 0),(13,vi 0),(14,vi 0)] [] [] ?_)
    refine Z2 (r:=r) (fun z:Int×Int×Int=>Q4Q F i e a z.1 z.2.1 z.2.2) [2,3,10] (fun z=>[(12,vi z.1),(13,vi z.2.1),(14,vi z.2.2)]) [] (fun _=>[]) (fun z h=>?_) (fun t0 U=>?_)
    ·obtain ⟨j,p,M⟩:=z
     refine AW.seq (AW.block (Q0 Fm 4 [3,10,12,13,14] [(58,vb (decide (j≤i)))] [] [] ?_));refine Q5 h (fun Z h=>?_) (fun Z h=>?_)
     ·refine Q0 Fm 2 [] [(8,vb true),(9,vi 0)] [] [] ?_
      refine AW.ret ?_;obtain rfl:=Option.some.inj h
      exact Kn.D Fm
     ·refine Q0 Fm 4 [10,12,13,14] [(62,vb (decide (j≤e)))] [] [] ?_
      refine Q5 h (fun a0 h=>?_) (fun a0 h=>?_)
      ·refine Z2 (r:=r) (fun z:Bool=>Q0P F z) [] (fun z=>[(8,vb z),(9,vi 0)]) [] (fun _=>[]) (fun A0 h=>?_) (fun u0 H=>?_)
       ·refine AW.ret ?_
        obtain rfl:=Option.some.inj h;exact Kn.D Fm
       ·rcases Y7 h with ⟨A,h⟩|⟨A,h⟩
        ·obtain ⟨e0,i0,h⟩:=gS2 h
         refine Q1 Fm (sZ 8 [.s,.s,.s,.w (vb true)]) [] [(8,vb (decide (((4:Int)*p)≤((3:Int)*j)))),(9,vi 0)] [] [] (cA (ALe.bool A) (cA (cT e0) (cT (cT i0)))) ?_;exact Kn.R Fm (H (decide (((4:Int)*p)≤((3:Int)*j))) h)
        ·refine Q1 Fm (sZ 8 [.s,.s,.s,.w (vb false)]) [] [(8,vb false),(9,vi 0)] [] [] (cT (ALe.bool A)) ?_
         exact Kn.R Fm (H false h)
      ·refine AW.skip (Z2 (r:=r) (fun z:Bool=>G7 F z) [] (fun z=>[(8,vb z),(9,vi 0)]) [] (fun _=>[]) (fun B0 h=>?_) (fun w0 u=>?_))
       ·refine AW.ret ?_
        obtain rfl:=Option.some.inj h;exact Kn.D Fm
       ·rcases Y7 h with ⟨o,h⟩|⟨o,h⟩
        ·obtain ⟨I,L,h⟩:=gS2 h
         rcases Y7 h with ⟨B,h⟩|⟨B,h⟩
         ·obtain ⟨j0,k0,l0,h⟩:=gS3 h
          refine Q1 Fm (sZ 10 [.s,.s,.s,.w (vb true),.s,.s,.s,.s,.s,.s,.w (vb true)]) [] [(8,vb (decide (((20:Int)*(p+M))≤((19:Int)*j)))),(9,vi 0)] [] [] (cA (ALe.bool o) (cA (cT I) (cA (cT L) (cA (ALe.bool B) (cA (cT j0) (cA (cT k0) (cT (cT l0)))))))) ?_;exact Kn.R Fm (u (decide (((20:Int)*(p+M))≤((19:Int)*j))) h)
         ·refine Q1 Fm (sZ 10 [.s,.s,.s,.w (vb true),.s,.s,.s,.s,.s,.s,.w (vb false)]) [] [(8,vb false),(9,vi 0)] [] [] (cA (ALe.bool o) (cA (cT I) (cA (cT L) (cT (ALe.bool B))))) ?_
          exact Kn.R Fm (u false h)
        ·refine Q1 Fm (sZ 17 [.s,.s,.s,.w (vb false)]) [] [(8,vb false),(9,vi 0)] [] [] (cT (ALe.bool o)) ?_
         exact Kn.R Fm (u false h)
    ·refine Q0 Fm 3 [2,3,10,12,13,14] [(38,AL a.1),(39,vi (lI a.1)),(40,vi 0)] [] [] ?_
     refine AW.block (W6 Fm [(2,vi i),(3,vi e),(10,AL a.1),(12,vi 0),(13,vi 0),(14,vi 0),(38,AL a.1),(39,vi (lI a.1)),(40,vi 0)] [] (by kernel_rfl) ?_);refine Z3 (E':=fun z=>[(2,vi i),(3,vi e),(10,AL a.1),(12,vi z.1),(13,vi z.2.1),(14,vi z.2.2.1),(38,AL a.1),(39,vi (lI a.1)),(40,vi z.2.2.2)]) (S':=fun z=>[]) (fun P z q0 T h=>?_) h
     obtain ⟨l,m,E,b⟩:=z;refine Q0 Fm 1 [2,3,10,12,13,14,38,39,40] [(41,vb (decide (b<(lI a.1))))] [] [] ?_
     refine AW.seq (Q5 h (fun X h=>?_) (fun X h=>?_))
     ·refine AW.skip (Z2 (r:=r) (fun z:Int×Int=>Q0Q F a l b P z.1 z.2) [2,3,10,38,39,40] (fun z=>[(12,vi (l+((gl a.1 b.toNat).e1_))),(13,vi z.1),(14,vi z.2)]) [] (fun _=>[]) (fun z h=>?_) (fun s0 G=>?_))
      ·obtain ⟨n0,o0⟩:=z
       obtain ⟨d0,h⟩:=gS h;refine Q1 Fm [.s,.s] [2,3,10,12,13,14,38,39] [(40,vi (b+1))] [] [] (cT (cT d0)) ?_
       exact Kn.R Fm (T ((l+((gl a.1 b.toNat).e1_)),n0,o0,(b+1)) h)
      ·refine AW.block ?_
       obtain ⟨b0,h⟩:=gS h;refine Y6 Fm (sA 4 []) [2,3,10,12,13,14,38,39,40] [(16,pt 16)] [] [(16,bx [ci ((gl a.1 b.toNat).e0_),ci ((gl a.1 b.toNat).e1_)])] (cT b0) ?_
       refine Y6 Fm [.s,.s,.s] [2,3,10,12,13,14,38,39,40] [(17,vi (gl a.1 b.toNat).e1_)] [] [] (cT (True.intro:True)) ?_;obtain ⟨c0,h⟩:=gS h
       refine Y6 Fm (sA 4 []) [2,3,10,13,14,17,38,39,40] [(12,vi (l+((gl a.1 b.toNat).e1_)))] [] [] (cT (cT c0)) ?_;refine Q0 Fm 3 [2,3,10,12,13,14,17,38,39,40] [(51,vb (decide (m<((gl a.1 b.toNat).e1_))))] [] [] ?_
       refine Q5 h (fun Y h=>?_) (fun Y h=>?_)
       ·refine Y1c Fm 4 [2,3,10,12,38,39,40] [(13,vi (gl a.1 b.toNat).e1_),(14,vi m)] [] [] ?_
        exact Kn.R Fm (G ((gl a.1 b.toNat).e1_,m) h)
       ·refine Y1c Fm 4 [2,3,10,12,13,38,39,40] [(14,vi (Q8n E ((gl a.1 b.toNat).e1_)))] [] [] ?_
        exact Kn.R Fm (G (m,(Q8n E ((gl a.1 b.toNat).e1_))) h)
     ·exact AW.exit (Kn.R Fm (U (l,m,E) h))
  ·rcases Y7 h with ⟨n,h⟩|⟨n,h⟩
   ·refine Q1 Fm (sZ 8 [.s,.s,.w (vb true)]) [2,3,10] [(37,vb true)] [] [] (cT (ALe.bool n)) ?_
    exact Kn.R Fm (q true h)
   ·rcases Y7 h with ⟨y,h⟩|⟨y,h⟩
    ·refine Q1 Fm [.s,.s,.w (vb false),.s,.s,.s,.s,.w (vb true),.s,.s,.s] [2,3,10] [(37,vb true)] [] [] (cA (ALe.bool n) (cT (ALe.bool y))) ?_
     exact Kn.R Fm (q true h)
    ·refine Q1 Fm [.s,.s,.w (vb false),.s,.s,.s,.s,.w (vb false),.s,.s,.s] [2,3,10] [(37,vb (decide ((268435456:Int)<e)))] [] [] (cA (ALe.bool n) (cT (ALe.bool y))) ?_
     exact Kn.R Fm (q (decide ((268435456:Int)<e)) h)
theorem Q7h {F:Nat} {b:(List A2_)} {c:(List A2_)} {r:Bool} (h:Q2I F b c=some r) :
  Z6 Tryz.prog 82 [AL b,AL c] [] (vb r) []:=by
 refine FI Tryz.func82 Q2 Q4 fun C Fm=>?_
 unfold Q2I at h;refine Q0 Fm 1 [0,1] [] [] [] ?_
 refine AW.seq (Q0 Fm 5 [0,1] [(10,vb ((lI b) != (lI c)))] [] [] ?_);refine Q5 h (fun i h=>?_) (fun i h=>?_)
 ·refine Q0 Fm 1 [] [(4,vb false)] [] [] ?_
  refine AW.ret ?_;obtain rfl:=Option.some.inj h
  exact Kn.D Fm
 ·refine AW.skip (Z2 (r:=r) (fun z:Unit=>Z2i F) [] (fun _=>[]) [] (fun _=>[]) (fun z h=>?_) (fun q e=>?_))
  ·refine Q0 Fm 1 [] [(4,vb true)] [] [] ?_
   refine AW.ret ?_;obtain rfl:=Option.some.inj h
   exact Kn.D Fm
  ·refine Q0 Fm 3 [0,1] [(12,vi (lI b)),(13,vi 0)] [] [] ?_
   refine AW.block (W6 Fm [(0,AL b),(1,AL c),(12,vi (lI b)),(13,vi 0)] [] (by kernel_rfl) ?_);refine Z3 (E':=fun z=>[(0,AL b),(1,AL c),(12,vi (lI b)),(13,vi z)]) (S':=fun z=>[]) (fun t a p d h=>?_) h
   refine Q0 Fm 1 [0,1,12,13] [(14,vb (decide (a<(lI b))))] [] [] ?_;refine AW.seq (Q5 h (fun j h=>?_) (fun j h=>?_))
   ·refine AW.skip (AW.seq (AW.block (Q0 Fm 2 [0,1,12,13] [(5,vi a)] [] [] ?_)))
    obtain ⟨m,n,h⟩:=gS2 h;refine Q3x Fm (sA 8 [.k (sE (vb (!((((gl b a.toNat).e0_)==((gl c a.toNat).e0_))&&(((gl b a.toNat).e1_)==((gl c a.toNat).e1_))))))]) (fun K=>_∧_∧K 8∧True) [0,1,12,13] [(24,vb (!((((gl b a.toNat).e0_)==((gl c a.toNat).e0_))&&(((gl b a.toNat).e1_)==((gl c a.toNat).e1_)))))] [] [] ⟨m,n,Y5m Y6k false (a1:=((gl b a.toNat).e0_)) (a2:=((gl b a.toNat).e1_)) (b1:=((gl c a.toNat).e0_)) (b2:=((gl c a.toNat).e1_)) rfl rfl (by kernel_rfl) (by kernel_rfl) (by kernel_rfl),⟨⟩⟩ ?_
    refine Q5 h (fun l h=>?_) (fun l h=>?_)
    ·refine Q0 Fm 1 [] [(4,vb false)] [] [] ?_
     refine AW.ret ?_;obtain rfl:=Option.some.inj h
     exact Kn.D Fm
    ·refine AW.skip ?_
     obtain ⟨o,h⟩:=gS h;refine Q1 Fm [.s,.s] [0,1,12] [(13,vi (a+1))] [] [] (cT (cT o)) ?_
     exact Kn.R Fm (d (a+1) h)
   ·exact AW.exit (Kn.R Fm (e () h))
theorem Q8p {F:Nat} {p:(List Line)} {q:(List Crop)} {t:(List Rg_)} {e:Int} {l:Int} {b:Int} {r:Int} (h:Q2g F p q t e l b=some r) :
  Z6 Tryz.prog 172 [AL p,AL q,AL t,vi e,vi l,vi b] [] (vi r) []:=by
 refine FI Tryz.func172 Q2 Q4 fun C Fm=>?_
 unfold Q2g at h;refine Q0 Fm 1 [0,1,2,3,4,5] [] [] [] ?_
 refine AW.seq (AW.seq ?_);obtain ⟨m,E,h⟩:=bS h
 refine Q9 Fm [.s,.s,.k _,.s] (fun K=>K 2∧True) [1,2,3,4,5] [(13,vi m)] [] [] ⟨Q3 (Q4O E) Tryz.call167 [],⟨⟩⟩ ?_;refine Q0 Fm 2 [1,2,3,4,5,13] [(19,vb (m != (0:Int)))] [] [] ?_
 refine Q5 h (fun u h=>?_) (fun u h=>?_)
 ·refine Q0 Fm 2 [] [(12,vi m)] [] [] ?_
  refine AW.ret ?_;obtain rfl:=Option.some.inj h
  exact Kn.D Fm
 ·refine AW.skip (AW.seq (AW.seq ?_))
  obtain ⟨n,G,h⟩:=bS h;refine Q9 Fm [.s,.s,.k _,.s] (fun K=>K 2∧True) [3,4,5] [(14,vi n)] [] [] ⟨Q3 (Z3h G) Tryz.call121 [],⟨⟩⟩ ?_
  refine Q0 Fm 2 [3,4,5,14] [(25,vb (n != (0:Int)))] [] [] ?_;refine Q5 h (fun y h=>?_) (fun y h=>?_)
  ·refine Q0 Fm 2 [] [(12,vi n)] [] [] ?_
   refine AW.ret ?_;obtain rfl:=Option.some.inj h
   exact Kn.D Fm
  ·refine AW.skip (AW.seq (AW.block (Z2 (r:=r) (fun z:Bool=>Q1D F l b z) [4,5] (fun z=>[(27,vb z)]) [] (fun _=>[]) (fun L h=>?_) (fun H o=>?_))))
   ·refine Q5 h (fun A h=>?_) (fun A h=>?_)
    ·refine Q0 Fm 1 [] [(12,vi 18)] [] [] ?_
     refine AW.ret ?_;obtain rfl:=Option.some.inj h
     exact Kn.D Fm
    ·refine Z2 (r:=r) (fun z:Bool=>Q0d F z) [] (fun z=>[(34,vb z)]) [] (fun _=>[]) (fun M h=>?_) (fun I c=>?_)
     ·refine Q5 h (fun B h=>?_) (fun B h=>?_)
      ·refine Q0 Fm 1 [] [(12,vi 2)] [] [] ?_
       refine AW.ret ?_;obtain rfl:=Option.some.inj h
       exact Kn.D Fm
      ·refine AW.skip (Q0 Fm 1 [] [(12,vi 0)] [] [] ?_)
       refine AW.ret ?_;obtain rfl:=Option.some.inj h
       exact Kn.D Fm
     ·rcases Y7 h with ⟨a,h⟩|⟨a,h⟩
      ·refine Q1 Fm (sZ 12 [.s,.s,.w (vb true)]) [] [(34,vb true)] [] [] (cT (ALe.bool a)) ?_
       exact Kn.R Fm (c true h)
      ·rcases Y7 h with ⟨d,h⟩|⟨d,h⟩
       ·refine Q1 Fm (sZ 8 [.s,.s,.w (vb false),.s,.s,.s,.w (vb true)]) [] [(34,vb true)] [] [] (cA (ALe.bool a) (cT (ALe.bool d))) ?_
        exact Kn.R Fm (c true h)
       ·rcases Y7 h with ⟨j,h⟩|⟨j,h⟩
        ·refine Q1 Fm [.s,.s,.w (vb false),.s,.s,.s,.w (vb false),.s,.s,.s,.w (vb true),.s,.s,.s,.s] [] [(34,vb true)] [] [] (cA (ALe.bool a) (cA (ALe.bool d) (cT (ALe.bool j)))) ?_
         exact Kn.R Fm (c true h)
        ·refine Q1 Fm [.s,.s,.w (vb false),.s,.s,.s,.w (vb false),.s,.s,.s,.w (vb false),.s,.s,.s,.s] [] [(34,vb (decide ((1000000:Int)<b)))] [] [] (cA (ALe.bool a) (cA (ALe.bool d) (cT (ALe.bool j)))) ?_
         exact Kn.R Fm (c (decide ((1000000:Int)<b)) h)
   ·rcases Y7 h with ⟨i,h⟩|⟨i,h⟩
    ·refine Q1 Fm [.s,.s,.w (vb true),.s,.s,.s,.s] [4,5] [(27,vb true)] [] [] (cT (ALe.bool i)) ?_
     exact Kn.R Fm (o true h)
    ·refine Q1 Fm [.s,.s,.w (vb false),.s,.s,.s,.s] [4,5] [(27,vb (decide ((100:Int)<e)))] [] [] (cT (ALe.bool i)) ?_
     exact Kn.R Fm (o (decide ((100:Int)<e)) h)
theorem Q9N {F:Nat} {d:Bool} {a:Bool} {r:Bool} (h:Q2d F d a=some r) :
  Z6 Tryz.prog 236 [vb d,vb a] [] (vb r) []:=by
 refine FI Tryz.func236 Q2 Q4 fun C Fm=>?_
 unfold Q2d at h;refine Q0 Fm 1 [0,1] [] [] [] ?_
 refine Z2 (r:=r) (fun z:Bool=>Q2L F z) [] (fun z=>[(4,vb z)]) [] (fun _=>[]) (fun i h=>?_) (fun e c=>?_)
 ·refine AW.ret ?_
  obtain rfl:=Option.some.inj h;exact Kn.D Fm
 ·rcases Y7 h with ⟨b,h⟩|⟨b,h⟩
  ·refine Q1 Fm [.s,.w (vb true),.s,.s,.s] [] [(4,vb a)] [] [] (cT (ALe.bool b)) ?_
   exact Kn.R Fm (c a h)
  ·refine Q1 Fm [.s,.w (vb false),.s,.s,.s] [] [(4,vb false)] [] [] (cT (ALe.bool b)) ?_
   exact Kn.R Fm (c false h)
theorem Q5Z {F:Nat} {q:(List Line)} {l:(List Crop)} {n:(List Rg_)} {c:Int} {e:Int} {r:(List Rect)} (h:Q0e F q l n c e=some r) :
  Z6 Tryz.prog 173 [AL q,AL l,AL n,vi c,vi e] [] (AL r) []:=by
 refine FI Tryz.func173 Q2 Q4 fun C Fm=>?_
 unfold Q0e at h;refine Q0 Fm 1 [0,1,2,3,4] [] [] [] ?_
 refine G9 Fm [.m] (fun K=>True) [0,1,2,3,4] [(11,ow 11)] [] [(11,AO ([]:List Rect))] True.intro [(11,.arr 4 (0) (fun _=>[]))] ⟨OLe.is ((Is.nil (α:=Rect))),⟨⟩⟩ ?_;refine AW.seq ?_
 obtain ⟨B,h⟩:=gS h;refine Y6 Fm (sA 4 []) [0,1,2,3,4,11] [(18,vb (decide (c<(e-1))))] [11] [] (cT (cT B)) ?_
 refine Q5 h (fun w h=>?_) (fun w h=>?_)
 ·refine Q0 Fm 2 [] [(10,ow 11)] [11] [] ?_
  refine AW.ret ?_;obtain rfl:=Option.some.inj h
  refine W6 Fm [(10,ow 11)] [(11,AO ([]:List Rect))] (by kernel_rfl) ?_;refine Kn.frz [(10,AL ([]:List Rect))] [] (by kernel_rfl) (by kernel_rfl) (by kernel_rfl) ?_
  exact Kn.D Fm
 ·refine AW.skip (Z2 (r:=r) (fun z:(List Rect)=>Q7O F z) [11] (fun _=>[]) [] (fun z=>[(11,AO z)]) (fun o h=>?_) (fun W u=>?_))
  ·refine Q0 Fm 2 [] [(10,ow 11)] [11] [] ?_
   refine AW.ret ?_;obtain rfl:=Option.some.inj h
   refine W6 Fm [(10,ow 11)] [(11,AO o)] (by kernel_rfl) ?_;refine Kn.frz [(10,AL o)] [] (by kernel_rfl) (by kernel_rfl) (by kernel_rfl) ?_
   exact Kn.D Fm
  ·refine AW.seq ?_
   obtain ⟨a,O,h⟩:=bS h;refine Q9 Fm [.s,.s,.k _,.s,.s] (fun K=>K 2∧True) [1,2,3,4,11] [(22,AL a),(23,vi (lI a)),(24,vi 0)] [11] [] ⟨Q3 (Q1E O) Tryz.call168 [],⟨⟩⟩ ?_
   refine AW.block (W6 Fm [(1,AL l),(2,AL n),(3,vi c),(4,vi e),(11,ow 11),(22,AL a),(23,vi (lI a)),(24,vi 0)] [(11,AO ([]:List Rect))] (by kernel_rfl) ?_);refine Z3 (E':=fun z=>[(1,AL l),(2,AL n),(3,vi c),(4,vi e),(11,ow 11),(22,AL a),(23,vi (lI a)),(24,vi z.1)]) (S':=fun z=>[(11,AO z.2)]) (fun X z V t h=>?_) h
   obtain ⟨b,j⟩:=z;refine Q0 Fm 1 [1,2,3,4,11,22,23,24] [(25,vb (decide (b<(lI a))))] [11] [] ?_
   refine AW.seq (Q5 h (fun A h=>?_) (fun A h=>?_))
   ·refine AW.skip (AW.seq (AW.block ?_))
    obtain ⟨E,h⟩:=gS h;refine Y6 Fm (sA 4 []) [1,2,3,4,11,22,23,24] [(13,pt 13)] [11] [(13,bx [ci ((gl a b.toNat).p_),.d (DL (gl a b.toNat).g_.t_),ci ((gl a b.toNat).c_),ci ((gl a b.toNat).s_)])] (cT E) ?_
    refine AW.seq ?_;obtain ⟨G,H,I,L,h⟩:=gS4 h
    obtain ⟨U,P,h⟩:=bS h;refine Q9 Fm (sA 14 [.k _,.s]) (fun K=>(_∧True)∧(_∧True)∧(_∧True)∧_∧K 14∧True) [1,2,3,4,11,13,22,23,24] [(14,AL U)] [11,13] [] ⟨⟨G,⟨⟩⟩,⟨H,⟨⟩⟩,⟨I,⟨⟩⟩,L,Q3 (Z4M P) Tryz.call126 [],⟨⟩⟩ ?_
    obtain ⟨i,T,h⟩:=bS h;obtain ⟨M,h⟩:=gS h
    refine Z0e Fm (sA 5 [.k (cE [] [] (AL i) [] []),.s,.s]) (fun K=>K 5∧(_∧_∧True)∧True) [1,2,3,4,22,23,24] [(11,ow 49)] [] [(49,AO (j++i))] ⟨K4 (Q8R T) Tryz.call95 [] [] [.tmp 46,.tmp 47,.func 236] rfl (by kernel_rfl) (by kernel_rfl) (by kernel_rfl) ⟨.p,.p,Q1T.cloX Tryz.call236 [] (fun args r hq=>by obtain ⟨y0,y1,y,hq,rfl,rfl⟩:=hq;exact Eq.mp (by kernel_rfl) (Q9N hq)) (fun args r hq=>by obtain ⟨y0,y1,y,hq,rfl,rfl⟩:=hq;rfl) (by kernel_rfl) [] (by kernel_rfl) (by kernel_rfl) (True.intro) (by kernel_rfl),⟨⟩⟩,⟨M,lfl i,⟨⟩⟩,⟨⟩⟩ [(49,rAp j i)] ⟨oAp,⟨⟩⟩ ?_;obtain ⟨N,h⟩:=gS h
    refine Q1 Fm [.s,.s] [1,2,3,4,11,22,23] [(24,vi (b+1))] [49] [] (cT (cT N)) ?_;exact Q1f Fm [(11,49)] (t ((b+1),(j++i)) h)
   ·exact AW.exit (Kn.R Fm (u j h))
theorem Z1F {F:Nat} {b:(List Line)} {e:(List Crop)} {i:(List Rg_)} {j:Int} {l:Int} {r:Re_×Int} (h:Q2i F b e i j l=some r) :
  Z6 Tryz.prog 84 [AL b,AL e,AL i,vi j,vi l] [] (.t [.g [.d (DL r.1.t_)],.c (ci r.2)]) []:=by
 refine FI Tryz.func84 Q2 Q4 fun C Fm=>?_
 unfold Q2i at h;refine Q0 Fm 2 [0,1,2,3,4] [(10,pt 10)] [] [(10,bx [.fl 0 fun _=>[]])] ?_
 refine AW.seq (AW.seq ?_);obtain ⟨a,o,h⟩:=bS h
 refine Q9 Fm (sA 5 [.k _,.s]) (fun K=>K 5∧True) [0,1,2,3,4,10] [(12,vi a)] [10] [] ⟨Q3 (Q8p o) Tryz.call172 [],⟨⟩⟩ ?_;refine Q0 Fm 2 [0,1,2,3,4,10,12] [(20,vb (a != (0:Int)))] [10] [] ?_
 refine Q5 h (fun n h=>?_) (fun n h=>?_)
 ·refine Y6 Fm [.w (.v (.g [.d (DL (α:=Rect) [])])),.s,.s,.s] [10] [(11,vi a)] [] [(10,bx [.d (DL (α:=Rect) [])])] (cT (ALe.g ⟨CLe.fl .nil,⟨⟩⟩:ALe (.v (.g [.fl 0 fun _=>[]])) (.v (.g [.d (DL (α:=Rect) [])])))) ?_
  refine AW.ret ?_;obtain rfl:=Option.some.inj h
  exact Kn.D Fm
 ·refine AW.skip (AW.seq ?_)
  obtain ⟨u,p,h⟩:=bS h;obtain ⟨m,q,h⟩:=bS h
  refine Q9 Fm (sA 5 [.k _,.k _,.s,.s,.s,.s]) (fun K=>K 5∧K 6∧True) [10] [(11,vi m.2)] [] [(10,bx [.d (DL m.1.t_)])] ⟨Q3 (Q5Z p) Tryz.call173 [],Q3 (Z3M q) Tryz.call113 [],⟨⟩⟩ ?_;refine AW.ret ?_
  obtain rfl:=Option.some.inj h;exact Kn.D Fm
theorem Q8I {F:Nat} {a:(List Line)} {r:Int} (h:Q3i F a=some r) :
  Z6 Tryz.prog 176 [AL a] [] (vi r) []:=by
 refine FI Tryz.func176 Q2 Q4 fun C Fm=>?_
 unfold Q3i at h;refine Q0 Fm 1 [0] [] [] [] ?_
 refine Q0 Fm 1 [0] [(3,vi 0)] [] [] ?_;refine Z2 (r:=r) (fun z:Int=>Z0k F z) [] (fun z=>[(3,vi z)]) [] (fun _=>[]) (fun q h=>?_) (fun u j=>?_)
 ·refine Q0 Fm 2 [] [(2,vi q)] [] [] ?_
  refine AW.ret ?_;obtain rfl:=Option.some.inj h
  exact Kn.D Fm
 ·refine Q0 Fm 3 [3] [(6,AL a),(7,vi (lI a)),(8,vi 0)] [] [] ?_
  refine AW.block (W6 Fm [(3,vi 0),(6,AL a),(7,vi (lI a)),(8,vi 0)] [] (by kernel_rfl) ?_);refine Z3 (E':=fun z=>[(3,vi z.1),(6,AL a),(7,vi (lI a)),(8,vi z.2)]) (S':=fun z=>[]) (fun w z t i h=>?_) h
  obtain ⟨c,b⟩:=z;refine Q0 Fm 1 [3,6,7,8] [(9,vb (decide (b<(lI a))))] [] [] ?_
  refine AW.seq (Q5 h (fun l h=>?_) (fun l h=>?_))
  ·refine AW.skip (AW.seq (AW.block ?_))
   obtain ⟨m,h⟩:=gS h;refine Y6 Fm (sA 4 []) [3,6,7,8] [(5,pt 5)] [] [(5,bx [ci ((gl a b.toNat).p_),.d (DL (gl a b.toNat).g_.t_),ci ((gl a b.toNat).c_),ci ((gl a b.toNat).s_)])] (cT m) ?_
   obtain ⟨e,p,h⟩:=bS h;obtain ⟨n,h⟩:=gS h
   refine Q9 Fm [.s,.s,.s,.k _,.s,.s] (fun K=>K 3∧(_∧True)∧True) [6,7,8] [(3,vi (c+e))] [] [] ⟨Q3 (Q7f p) Tryz.call169 [],⟨n,⟨⟩⟩,⟨⟩⟩ ?_;obtain ⟨o,h⟩:=gS h
   refine Q1 Fm [.s,.s] [3,6,7] [(8,vi (b+1))] [] [] (cT (cT o)) ?_;exact Kn.R Fm (i ((c+e),(b+1)) h)
  ·exact AW.exit (Kn.R Fm (j c h))
theorem Z1G {F:Nat} {m:(List Line)} {i:(List Crop)} {e:Int} {r:Bool×Int} (h:Q2j F m i e=some r) :
  Z6 Tryz.prog 87 [AL m,AL i,vi e] [] (.t [.c (.d (.bool r.1)),.c (ci r.2)]) []:=by
 refine FI Tryz.func87 Q2 Q4 fun C Fm=>?_
 unfold Q2j at h;refine Q0 Fm 2 [0,1,2] [] [] [] ?_
 refine AW.seq (AW.seq ?_);obtain ⟨n,T,h⟩:=bS h
 refine Q9 Fm [.s,.s,.k _,.s] (fun K=>K 2∧True) [0,1,2] [(8,vi n)] [] [] ⟨Q3 (Q4O T) Tryz.call167 [],⟨⟩⟩ ?_;refine Q0 Fm 2 [0,1,2,8] [(17,vb (n != (0:Int)))] [] [] ?_
 refine Q5 h (fun B h=>?_) (fun B h=>?_)
 ·refine Q0 Fm 3 [] [(6,vb false),(7,vi n)] [] [] ?_
  refine AW.ret ?_;obtain rfl:=Option.some.inj h
  exact Kn.D Fm
 ·refine AW.skip (AW.seq (Z2 (r:=r) (fun z:Bool=>Q0S F m i e z) [0,1,2] (fun z=>[(24,vb z)]) [] (fun _=>[]) (fun e0 h=>?_) (fun a0 o=>?_)))
  ·refine Q5 h (fun E h=>?_) (fun E h=>?_)
   ·refine Q0 Fm 2 [] [(6,vb false),(7,vi 2)] [] [] ?_
    refine AW.ret ?_;obtain rfl:=Option.some.inj h
    exact Kn.D Fm
   ·refine AW.skip (AW.seq ?_)
    obtain ⟨a,U,h⟩:=bS h;refine Q9 Fm [.s,.s,.k _,.s] (fun K=>K 2∧True) [1,2] [(9,AL a)] [] [] ⟨Q3 (Q1E U) Tryz.call168 [],⟨⟩⟩ ?_
    refine Q0 Fm 1 [1,2,9] [(10,vi 0)] [] [] ?_;refine Z2 (r:=r) (fun z:Int=>Q4R F e a z) [2,9] (fun z=>[(10,vi z)]) [] (fun _=>[]) (fun Y h=>?_) (fun d0 A=>?_)
    ·refine AW.seq ?_
     obtain ⟨O,h⟩:=gS h;obtain ⟨Z,W,h⟩:=bS h
     obtain ⟨P,h⟩:=gS h;refine Q9 Fm (sA 4 [.k _,.s,.s,.s,.s]) (fun K=>(_∧True)∧K 4∧(_∧True)∧True) [] [(6,vb (decide ((e*Z)≤(Y*1000000)))),(7,vi 0)] [] [] ⟨⟨O,⟨⟩⟩,Q3 (Q8I W) Tryz.call176 [],⟨P,⟨⟩⟩,⟨⟩⟩ ?_
     refine AW.ret ?_;obtain rfl:=Option.some.inj h
     exact Kn.D Fm
    ·refine Q0 Fm 3 [1,2,9,10] [(28,AL a),(29,vi (lI a)),(30,vi 0)] [] [] ?_
     refine AW.block (W6 Fm [(1,AL i),(2,vi e),(9,AL a),(10,vi 0),(28,AL a),(29,vi (lI a)),(30,vi 0)] [] (by kernel_rfl) ?_);refine Z3 (E':=fun z=>[(1,AL i),(2,vi e),(9,AL a),(10,vi z.1),(28,AL a),(29,vi (lI a)),(30,vi z.2)]) (S':=fun z=>[]) (fun u z b0 y h=>?_) h
     obtain ⟨j,b⟩:=z;refine Q0 Fm 1 [1,2,9,10,28,29,30] [(31,vb (decide (b<(lI a))))] [] [] ?_
     refine AW.seq (Q5 h (fun G h=>?_) (fun G h=>?_))
     ·refine AW.skip (Z2 (r:=r) (fun z:Int=>Q0R F b u z) [1,2,9,28,29,30] (fun z=>[(10,vi z)]) [] (fun _=>[]) (fun X h=>?_) (fun c0 p=>?_))
      ·obtain ⟨N,h⟩:=gS h
       refine Q1 Fm [.s,.s] [1,2,9,10,28,29] [(30,vi (b+1))] [] [] (cT (cT N)) ?_;exact Kn.R Fm (y (X,(b+1)) h)
      ·refine AW.block ?_
       obtain ⟨I,h⟩:=gS h;refine Y6 Fm (sA 4 []) [1,2,9,10,28,29,30] [(12,pt 12)] [] [(12,bx [ci ((gl a b.toNat).p_),.d (DL (gl a b.toNat).g_.t_),ci ((gl a b.toNat).c_),ci ((gl a b.toNat).s_)])] (cT I) ?_
       obtain ⟨L,h⟩:=gS h;refine Y6 Fm (sA 8 []) [1,2,9,10,12,28,29,30] [(41,vb ((Q6O .i64 ((gl i ((gl a b.toNat).c_).toNat).m_) (28:Int)) != (0:Int)))] [12] [] (cT L) ?_
       refine Q5 h (fun H h=>?_) (fun H h=>?_)
       ·obtain ⟨q,V,h⟩:=bS h
        obtain ⟨M,h⟩:=gS h;refine Q9 Fm [.s,.s,.s,.k _,.s,.s] (fun K=>K 3∧(_∧True)∧True) [1,2,9,28,29,30] [(10,vi (j+q))] [] [] ⟨Q3 (Q7f V) Tryz.call169 [],⟨M,⟨⟩⟩,⟨⟩⟩ ?_
        exact Kn.R Fm (p (j+q) h)
       ·exact AW.skip (Kn.R Fm (p j h))
     ·exact AW.exit (Kn.R Fm (A j h))
  ·rcases Y7 h with ⟨l,h⟩|⟨l,h⟩
   ·refine Q1 Fm [.s,.s,.w (vb true),.s,.s,.s] [0,1,2] [(24,vb true)] [] [] (cT (ALe.bool l)) ?_
    exact Kn.R Fm (o true h)
   ·refine Q1 Fm [.s,.s,.w (vb false),.s,.s,.s] [0,1,2] [(24,vb (decide ((1000000:Int)<e)))] [] [] (cT (ALe.bool l)) ?_
    exact Kn.R Fm (o (decide ((1000000:Int)<e)) h)
theorem Z1E {F:Nat} {e:(List Line)} {i:(List Crop)} {j:(List Rg_)} {l:Int} {m:Int} {a:Int} {r:Bool×Int} (h:Q2h F e i j l m a=some r) :
  Z6 Tryz.prog 89 [AL e,AL i,AL j,vi l,vi m,vi a] [] (.t [.c (.d (.bool r.1)),.c (ci r.2)]) []:=by
 refine FI Tryz.func89 Q2 Q4 fun C Fm=>?_
 unfold Q2h at h;refine Q0 Fm 2 [0,1,2,3,4,5] [] [] [] ?_
 refine AW.seq (AW.seq ?_);obtain ⟨b,u,h⟩:=bS h
 refine Q9 Fm (sA 6 [.k _,.s]) (fun K=>K 6∧True) [0,1,2,3,4,5] [(14,vi b)] [] [] ⟨Q3 (Q8p u) Tryz.call172 [],⟨⟩⟩ ?_;refine Q0 Fm 2 [0,1,2,3,4,5,14] [(24,vb (b != (0:Int)))] [] [] ?_
 refine Q5 h (fun o h=>?_) (fun o h=>?_)
 ·refine Q0 Fm 3 [] [(12,vb false),(13,vi b)] [] [] ?_
  refine AW.ret ?_;obtain rfl:=Option.some.inj h
  exact Kn.D Fm
 ·refine AW.skip (AW.seq ?_)
  obtain ⟨G,w,h⟩:=bS h;obtain ⟨n,y,h⟩:=bS h
  refine Q9 Fm (sA 5 [.k _,.k _,.s]) (fun K=>K 5∧K 6∧True) [0,1,5] [(15,vi n)] [] [] ⟨Q3 (Q5Z w) Tryz.call173 [],Q3 (Z0o y) Tryz.call178 [],⟨⟩⟩ ?_;refine AW.seq ?_
  obtain ⟨p,h⟩:=gS h;obtain ⟨H,A,h⟩:=bS h
  obtain ⟨E,B,h⟩:=bS h;obtain ⟨q,h⟩:=gS h
  refine Q9 Fm (sA 5 [.k _,.k _,.s,.s,.s,.s]) (fun K=>(_∧True)∧K 5∧K 6∧(_∧True)∧True) [] [(12,vb (decide ((n*1000000)≤(a*E)))),(13,vi 0)] [] [] ⟨⟨p,⟨⟩⟩,Q3 (Q1E A) Tryz.call168 [],Q3 (Q8I B) Tryz.call176 [],⟨q,⟨⟩⟩,⟨⟩⟩ ?_;refine AW.ret ?_
  obtain rfl:=Option.some.inj h;exact Kn.D Fm
end Go.Ab
end
