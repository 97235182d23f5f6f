/- The code follows the plain programs. -/
import Derived.Test.YtgfmopdbhjcpfaaGreatSpA
import Derived.Test.YtgfmopdbhjcpfaaGreatBaA
import Derived.Test.YtgfmopdbhjcpfaaGreatAbC
set_option linter.unusedVariables false
set_option linter.unusedSimpArgs false
set_option maxRecDepth 100000
namespace Go.Ab
noncomputable section
section
open Go.Proofs
theorem Z0i {F a j r} (h:Q6S F a j=some r) :
  Q7 Tryz.prog 151 [AL a,vi j] [] (AL r) []:=by
 refine FJ Tryz.func151 fun C Fm=>?_
 unfold Q6S at h;refine Q0 Fm 1 [0,1] [] [] [] (y8 Fm [.m] (fun K=>True) [0,1] [(5,ow 5)] [] [(5,AO ([]:List Span))] True.intro [(5,.arr 2 (0) nn)] ⟨OLe.is ((Is.nil (α:=Span))),⟨⟩⟩ (Q6 (r:=r) (fun z:(List Span)=>Q9j F z) [5] nn [] (fun z=>[(5,AO z)]) (fun k0 h=>?_) (fun p0 N=>?_)))
 ·refine AW.seq ?_
  obtain ⟨d,i0,h⟩:=bS h;refine Q5 Fm [.s,.k (cE [(0,5)] [] (.any) [(0,AO k0)] [(0,AO d)])] (k1 1) [5] [] [] [(5,AO d)] ⟨KAt.cX (Y4F i0) Tryz.call193 [(0,5)] [] [.tmp 37,.func 194] ⟨.p,y7.cX Tryz.call194 [] (fun args r hq=>by obtain ⟨y0,y1,y,hq,rfl,rfl⟩:=hq;exact ⟨Eq.mp (by kernel_rfl) (Z7D hq),rfl⟩) [] (True.intro),⟨⟩⟩,⟨⟩⟩ (y8 Fm [.m] (fun K=>True) [5] [(8,ow 8)] [5] [(8,AO ([]:List Span))] True.intro [(8,.arr 2 (0) nn)] ⟨OLe.is ((Is.nil (α:=Span))),⟨⟩⟩ (Q6 (r:=r) (fun z:(List Span)=>Z1X F z) [8] nn [] (fun z=>[(8,AO z)]) (fun L h=>?_) (fun u0 P=>?_)))
  ·refine Q0 Fm 2 [] [(4,ow 8)] [8] [] (AW.ret ?_)
   obtain rfl:=Option.some.inj h;exact Kn.w Fm [(4,ow 8)] [(8,AO L)] (Q1F [(4,AL L)] [] (Kn.D Fm))
  ·refine Q0 Fm 3 [8] [(39,ow 5),(40,vi (lI d)),(41,vi 0)] [5,8] [] (AW.block (Kn.w Fm [(8,ow 8),(39,ow 5),(40,vi (lI d)),(41,vi 0)] [(5,AO d),(8,AO ([]:List Span))] ?_))
   refine Z5 (E':=fun z=>[(8,ow 8),(39,ow 5),(40,vi (lI d)),(41,vi z.1)]) (S':=fun z=>[(5,AO d),(8,AO z.2)]) (fun t z q0 O h=>?_) h;obtain ⟨e,b⟩:=z
   refine Q0 Fm 1 [8,39,40,41] [(42,vb (decide (e<(lI d))))] [5,8] [] (AW.seq (Q3 h (fun V h=>?_) (fun V h=>?_)))
   ·refine AW.skip (Q6 (r:=r) (fun z:(List Span)=>Q6j F e t z) [8,39,40,41] nn [5] (fun z=>[(8,AO z)]) (fun l0 h=>?_) (fun t0 E=>?_))
    ·obtain ⟨e0,h⟩:=gS h
     exact Q1 Fm [.s,.s] [8,39,40] [(41,vi (e+1))] [5,8] [] (cT (cT e0)) (Kn.R Fm (O ((e+1),l0) h))
    ·refine AW.block ?_
     obtain ⟨G,h⟩:=gS h;refine Y4 Fm (sA 4 []) [8,39,40,41] [(10,pt 10)] [5,8] [(10,bx [ci ((gn d e).L_),ci ((gn d e).R_)])] (cA G (cT (Y6 G))) (Q0 Fm 3 [8,10,39,40,41] [(11,vi (lI b))] [5,8,10] [] (Q6 (r:=r) (fun z:Bool=>Q4n F d e b t z) [8,10,11,39,40,41] (fun z=>[(59,vb z)]) [5,8,10] nn (fun A0 h=>?_) (fun s0 B=>?_)))
     ·refine Q3 h (fun W h=>?_) (fun W h=>?_)
      ·obtain ⟨b0,c0,I,o,h⟩:=gS4 h
       exact Q2h Fm (sA 15 []) [8,39,40,41] [] [5] [(8,AO (List.set b ((lI b)-1).toNat (⟨(gn b ((lI b)-1)).L_,(Q0B ((gn b ((lI b)-1)).R_) ((gn d e).R_))⟩:Span)))] (cA (cT b0) (cA (cT c0) (cA I (cA (Y6 I) (cA o (cT (Y6 o))))))) [(8,rSt b ((lI b)-1).toNat 1 [.int .i64 (Q0B ((gn b ((lI b)-1)).R_) ((gn d e).R_))])] ⟨oSt (Y6 o),⟨⟩⟩ (Kn.R Fm (E (List.set b ((lI b)-1).toNat (⟨(gn b ((lI b)-1)).L_,(Q0B ((gn b ((lI b)-1)).R_) ((gn d e).R_))⟩:Span)) h))
      ·obtain ⟨d0,h⟩:=gS h
       exact Q2h Fm [.s,.s,.w (AL [(gn d e)]),.s,.s] [39,40,41] [(8,ow 77)] [5] [(77,AO (b++([(gn d e)]:List Span)))] (cA (Q8h (gn d e)) (cT (cA d0 (cT (lfl ([(gn d e)]:List Span)))))) [(77,rAp b ([(gn d e)]:List Span))] ⟨oAp,⟨⟩⟩ (Q1e Fm [(8,77)] (E (b++([(gn d e)]:List Span)) h))
     ·rcases Z6 h with ⟨n,h⟩|⟨n,h⟩
      ·obtain ⟨a0,H,h⟩:=gS2 h
       exact Q1 Fm (sZ 10 [.s,.s,.w (vb true)]) [8,10,11,39,40,41] [(59,vb (decide (((gn d e).L_)<=((gn b ((lI b)-1)).R_))))] [5,8,10] [] (cA (ALe.bool n) (cA (cT a0) (cA H (cT (Y6 H))))) (Kn.R Fm (B (decide (((gn d e).L_)<=((gn b ((lI b)-1)).R_))) h))
      ·exact Q1 Fm (sZ 10 [.s,.s,.w (vb false)]) [8,10,11,39,40,41] [(59,vb false)] [5,8,10] [] (cT (ALe.bool n)) (Kn.R Fm (B false h))
   ·exact AW.exit (Kn.R Fm (P b h))
 ·refine Q0 Fm 3 [1,5] [(12,AL a),(13,vi (lI a)),(14,vi 0)] [5] [] (AW.block (Kn.w Fm [(1,vi j),(5,ow 5),(12,AL a),(13,vi (lI a)),(14,vi 0)] [(5,AO ([]:List Span))] ?_))
  refine Z5 (E':=fun z=>[(1,vi j),(5,ow 5),(12,AL a),(13,vi (lI a)),(14,vi z.1)]) (S':=fun z=>[(5,AO z.2)]) (fun q z m0 M h=>?_) h;obtain ⟨c,i⟩:=z
  refine Q0 Fm 1 [1,5,12,13,14] [(15,vb (decide (c<(lI a))))] [5] [] (AW.seq (Q3 h (fun T h=>?_) (fun T h=>?_)))
  ·refine AW.skip (Q6 (r:=r) (fun z:(List Span)=>Q6k F c q z) [1,12,13,14] (fun _=>[(5,ow 35)]) [] (fun z=>[(35,AO z)]) (fun j0 h=>?_) (fun o0 A=>?_))
   ·obtain ⟨Z,h⟩:=gS h
    exact Q1 Fm [.s,.s] [1,5,12,13] [(14,vi (c+1))] [35] [] (cT (cT Z)) (Q1e Fm [(5,35)] (M ((c+1),j0) h))
   ·refine AW.block ?_
    obtain ⟨X,h⟩:=gS h;refine Y4 Fm (sA 4 []) [1,5,12,13,14] [(7,pt 7)] [5] [(7,bx [ci ((gn a c).L_),ci ((gn a c).w_),ci ((gn a c).R_),ci ((gn a c).H_)])] (cT X) (Q6 (r:=r) (fun z:Bool=>Q6l F a c i q z) [1,5,7,12,13,14] (fun z=>[(27,vb z)]) [5,7] nn (fun w0 h=>?_) (fun n0 u=>?_))
    ·refine Q3 h (fun U h=>?_) (fun U h=>?_)
     ·obtain ⟨Y,h⟩:=gS h
      exact Q2h Fm (sA 6 [.w (AL [(⟨(gn a c).L_,(gn a c).R_⟩:Span)]),.s,.s]) [1,12,13,14] [(5,ow 35)] [] [(35,AO (i++([(⟨(gn a c).L_,(gn a c).R_⟩:Span)]:List Span)))] (cA (Q8h (⟨(gn a c).L_,(gn a c).R_⟩:Span)) (cT (cA Y (cT (lfl ([(⟨(gn a c).L_,(gn a c).R_⟩:Span)]:List Span)))))) [(35,rAp i ([(⟨(gn a c).L_,(gn a c).R_⟩:Span)]:List Span))] ⟨oAp,⟨⟩⟩ (Kn.R Fm (A (i++([(⟨(gn a c).L_,(gn a c).R_⟩:Span)]:List Span)) h))
     ·exact AW.skip (Q1e Fm [(35,5)] (A i h))
    ·rcases Z6 h with ⟨l,h⟩|⟨l,h⟩
     ·exact Q1 Fm (sA 4 (sZ 5 [.w (vb true)])) [1,5,7,12,13,14] [(27,vb (decide (j<((gn a c).H_))))] [5,7] [] (cT (ALe.bool l)) (Kn.R Fm (u (decide (j<((gn a c).H_))) h))
     ·exact Q1 Fm (sA 4 (sZ 5 [.w (vb false)])) [1,5,7,12,13,14] [(27,vb false)] [5,7] [] (cT (ALe.bool l)) (Kn.R Fm (u false h))
  ·exact AW.exit (Kn.R Fm (N i h))
theorem Z2w {F b a r} (h:Q3I F b a=some r) :
  Q7 Tryz.prog 170 [vi b,pt 0] [(0,.box true [.d (DL a)])] (AL r) [(0,.box true [.d (DL a)])]:=by
 refine FJ Tryz.func170 fun C Fm=>?_
 unfold Q3I at h;refine Q0 Fm 1 [0,1] [] [0] [] (AW.seq ?_)
 obtain ⟨e,c,h⟩:=bS h;exact Q5 Fm [.s,.s,.k _,.s] (k1 2) [] [(3,AL e)] [0] [] ⟨Q2 (Z0i c) Tryz.call151 [],⟨⟩⟩ (Z2 Fm h)
theorem Z3k {F c d r} (h:Q2B F c d=some r) :
  Q7 Tryz.prog 187 [AL c,AL d] [] (vb r) []:=by
 refine FJ Tryz.func187 fun C Fm=>?_
 unfold Q2B at h;refine Q0 Fm 1 [0,1] [] [] [] (AW.seq (Q0 Fm 5 [0,1] [(10,vb ((lI c) != (lI d)))] [] [] (Q3 h (fun j h=>?_) (fun j h=>?_))))
 ·exact Q0 Fm 1 [] [(4,vb false)] [] [] (Z2 Fm h)
 ·refine AW.skip (Q6 (r:=r) (fun z:Unit=>Q9p F) [] nn [] nn (fun z h=>?_) (fun u i=>?_))
  ·exact Q0 Fm 1 [] [(4,vb true)] [] [] (Z2 Fm h)
  ·refine Q0 Fm 3 [0,1] [(12,vi (lI c)),(13,vi 0)] [] [] (AW.block (Kn.w Fm [(0,AL c),(1,AL d),(12,vi (lI c)),(13,vi 0)] [] ?_))
   refine Z5 (E':=fun z=>[(0,AL c),(1,AL d),(12,vi (lI c)),(13,vi z)]) (S':=fun z=>[]) (fun y a t e h=>?_) h;refine Q0 Fm 1 [0,1,12,13] [(14,vb (decide (a<(lI c))))] [] [] (AW.seq (Q3 h (fun l h=>?_) (fun l h=>?_)))
   ·refine AW.skip (AW.seq (AW.block (Q0 Fm 2 [0,1,12,13] [(5,vi a)] [] [] ?_)))
    obtain ⟨n,o,h⟩:=gS2 h;refine Q1K Fm (sA 8 [.k (sE (vb (!((((gn c a).L_)==((gn d a).L_))&&((((gn c a).R_)==((gn d a).R_))&&true)))))]) (fun K=>_/\_/\K 8/\True) [0,1,12,13] [(24,vb (!((((gn c a).L_)==((gn d a).L_))&&((((gn c a).R_)==((gn d a).R_))&&true))))] [] [] ⟨n,o,Y5H (xs:=[ci ((gn c a).L_),ci ((gn c a).R_)]) (ys:=[ci ((gn d a).L_),ci ((gn d a).R_)]) W0S false (b:=((((gn c a).L_)==((gn d a).L_))&&((((gn c a).R_)==((gn d a).R_))&&true))) rfl rfl (by kernel_rfl) (by kernel_rfl) (by kernel_rfl) (by kernel_rfl),⟨⟩⟩ (Q3 h (fun m h=>?_) (fun m h=>?_))
    ·exact Q0 Fm 1 [] [(4,vb false)] [] [] (Z2 Fm h)
    ·refine AW.skip ?_
     obtain ⟨p,h⟩:=gS h;exact Q1 Fm [.s,.s] [0,1,12] [(13,vi (a+1))] [] [] (cT (cT p)) (Kn.R Fm (e (a+1) h))
   ·exact AW.exit (Kn.R Fm (i () h))
theorem Z7A {F a r} (h:Q7F F a=some r) :
  Q7 Tryz.prog 188 [AL a] [] (AL r) []:=by
 refine FJ Tryz.func188 fun C Fm=>?_
 unfold Q7F at h;refine Q0 Fm 1 [0] [] [] [] (y8 Fm [.m] (fun K=>True) [0] [(3,ow 3)] [] [(3,AO ([]:List Rect))] True.intro [(3,.arr 4 (0) nn)] ⟨OLe.is ((Is.nil (α:=Rect))),⟨⟩⟩ (Q6 (r:=r) (fun z:(List Rect)=>Z0d F z) [3] nn [] (fun z=>[(3,AO z)]) (fun j h=>?_) (fun M p=>?_)))
 ·refine Q0 Fm 2 [] [(2,ow 3)] [3] [] (AW.ret ?_)
  obtain rfl:=Option.some.inj h;exact Kn.w Fm [(2,ow 3)] [(3,AO j)] (Q1F [(2,AL j)] [] (Kn.D Fm))
 ·refine Q0 Fm 3 [3] [(8,AL a),(9,vi (lI a)),(10,vi 0)] [3] [] (AW.block (Kn.w Fm [(3,ow 3),(8,AL a),(9,vi (lI a)),(10,vi 0)] [(3,AO ([]:List Rect))] ?_))
  refine Z5 (E':=fun z=>[(3,ow 3),(8,AL a),(9,vi (lI a)),(10,vi z.1)]) (S':=fun z=>[(3,AO z.2)]) (fun k z H l h=>?_) h;obtain ⟨b,i⟩:=z
  refine Q0 Fm 1 [3,8,9,10] [(11,vb (decide (b<(lI a))))] [3] [] (AW.seq (Q3 h (fun q h=>?_) (fun q h=>?_)))
  ·refine AW.skip (Q6 (r:=r) (fun z:(List Rect)=>Z0e F b k z) [3,8,9,10] nn [] (fun z=>[(3,AO z)]) (fun G h=>?_) (fun L o=>?_))
   ·obtain ⟨E,h⟩:=gS h
    exact Q1 Fm [.s,.s] [3,8,9] [(10,vi (b+1))] [3] [] (cT (cT E)) (Kn.R Fm (l ((b+1),G) h))
   ·refine AW.block ?_
    obtain ⟨u,h⟩:=gS h;refine Y4 Fm (sA 4 []) [3,8,9,10] [(5,pt 5)] [3] [(5,bx [ci ((gn a b).w_),ci ((gn a b).H_),.d (DL (gn a b).spans_)])] (cT u) (Q0 Fm 4 [3,5,8,9,10] [(15,AL (gn a b).spans_),(16,vi (lI ((gn a b).spans_))),(17,vi 0)] [3,5] [] (AW.block (Kn.w Fm [(3,ow 3),(5,pt 5),(8,AL a),(9,vi (lI a)),(10,vi b),(15,AL (gn a b).spans_),(16,vi (lI ((gn a b).spans_))),(17,vi 0)] [(3,AO i),(5,bx [ci ((gn a b).w_),ci ((gn a b).H_),.d (DL (gn a b).spans_)])] ?_)))
    refine Z5 (E':=fun z=>[(3,ow 3),(5,pt 5),(8,AL a),(9,vi (lI a)),(10,vi b),(15,AL (gn a b).spans_),(16,vi (lI ((gn a b).spans_))),(17,vi z.1)]) (S':=fun z=>[(3,AO z.2),(5,bx [ci ((gn a b).w_),ci ((gn a b).H_),.d (DL (gn a b).spans_)])]) (fun N z I n h=>?_) h;obtain ⟨c,e⟩:=z
    refine Q0 Fm 1 [3,5,8,9,10,15,16,17] [(18,vb (decide (c<(lI ((gn a b).spans_)))))] [3,5] [] (AW.seq (Q3 h (fun t h=>?_) (fun t h=>?_)))
    ·refine AW.skip (AW.seq (AW.block ?_))
     obtain ⟨y,h⟩:=gS h;refine Y4 Fm (sA 4 []) [3,5,8,9,10,15,16,17] [(7,pt 7)] [3,5] [(7,bx [ci ((gn ((gn a b).spans_) c).L_),ci ((gn ((gn a b).spans_) c).R_)])] (cT y) ?_
     obtain ⟨A,h⟩:=gS h;refine Q2h Fm (sA 10 [.w (AL [(⟨(gn ((gn a b).spans_) c).L_,(gn a b).w_,(gn ((gn a b).spans_) c).R_,(gn a b).H_⟩:Rect)]),.s,.s]) [5,8,9,10,15,16,17] [(3,ow 32)] [5] [(32,AO (e++([(⟨(gn ((gn a b).spans_) c).L_,(gn a b).w_,(gn ((gn a b).spans_) c).R_,(gn a b).H_⟩:Rect)]:List Rect)))] (cA (Q8h (⟨(gn ((gn a b).spans_) c).L_,(gn a b).w_,(gn ((gn a b).spans_) c).R_,(gn a b).H_⟩:Rect)) (cT (cA A (cT (lfl ([(⟨(gn ((gn a b).spans_) c).L_,(gn a b).w_,(gn ((gn a b).spans_) c).R_,(gn a b).H_⟩:Rect)]:List Rect)))))) [(32,rAp e ([(⟨(gn ((gn a b).spans_) c).L_,(gn a b).w_,(gn ((gn a b).spans_) c).R_,(gn a b).H_⟩:Rect)]:List Rect))] ⟨oAp,⟨⟩⟩ ?_
     obtain ⟨B,h⟩:=gS h;exact Q1 Fm [.s,.s] [3,5,8,9,10,15,16] [(17,vi (c+1))] [5,32] [] (cT (cT B)) (Q1e Fm [(3,32)] (n ((c+1),(e++([(⟨(gn ((gn a b).spans_) c).L_,(gn a b).w_,(gn ((gn a b).spans_) c).R_,(gn a b).H_⟩:Rect)]:List Rect))) h))
    ·exact AW.exit (Kn.R Fm (o e h))
  ·exact AW.exit (Kn.R Fm (p i h))
theorem Z1I {F a j r} (h:Q5A F a j=some r) :
  Q7 Tryz.prog 147 [AL a,.v (.c (.sem (J5 Tryz.prog (Q6L j))))] [] (AL r) []:=by
 refine FJ Tryz.func147 fun C Fm=>?_
 unfold Q5A at h;refine Q0 Fm 1 [0,1] [] [] [] (y8 Fm [.m] (fun K=>True) [0,1] [(5,ow 5)] [] [(5,AO ([]:List Band))] True.intro [(5,.arr 3 (0) nn)] ⟨OLe.is ((Is.nil (α:=Band))),⟨⟩⟩ (Q6 (r:=r) (fun z:(List Band)=>Q6F F z) [5] nn [] (fun z=>[(5,AO z)]) (fun D h=>?_) (fun j0 H=>?_)))
 ·refine AW.seq (Kn.w Fm [(5,ow 5)] [(5,AO D)] (Q1F [(5,AL D)] [] ?_))
  obtain ⟨c0,a0,h⟩:=bS h;exact Q5 Fm [.s,.k _,.s] (k1 1) [] [(4,AL c0)] [] [] ⟨Q2 (Z7A a0) Tryz.call188 [],⟨⟩⟩ (Z2 Fm h)
 ·refine Q0 Fm 1 [0,1,5] [(6,vi 1)] [5] [] (AW.block (Kn.w Fm [(0,AL a),(1,.v (.c (.sem (J5 Tryz.prog (Q6L j))))),(5,ow 5),(6,vi 1)] [(5,AO ([]:List Band))] ?_))
  refine Z5 (E':=fun z=>[(0,AL a),(1,.v (.c (.sem (J5 Tryz.prog (Q6L j))))),(5,ow 5),(6,vi z.1)]) (S':=fun z=>[(5,AO z.2)]) (fun u z d0 G h=>?_) h;obtain ⟨b,e⟩:=z
  refine AW.seq (Q0 Fm 4 [0,1,5,6] [(12,vb (decide (b<(lI a))))] [5] [] (Q3 h (fun I h=>?_) (fun I h=>?_)))
  ·refine AW.skip (Q6 (r:=r) (fun z:(List Band)=>Q4d F b u z) [0,1,5,6] nn [] (fun z=>[(5,AO z)]) (fun b0 h=>?_) (fun i0 y=>?_))
   ·obtain ⟨X,h⟩:=gS h
    exact Q1 Fm [.s,.s,.s] [0,1,5] [(6,vi (b+1))] [5] [] (cT (cT X)) (Kn.R Fm (G ((b+1),b0) h))
   ·refine AW.block (AW.seq ?_)
    obtain ⟨M,N,O,P,h⟩:=gS4 h;obtain ⟨T,h⟩:=gS h
    obtain ⟨i,Y,h⟩:=bS h;refine Q5 Fm (sA 15 [.k (sE (AL i)),.s,.s,.s]) (fun K=>(_/\True)/\_/\_/\(_/\True)/\_/\K 15/\True) [0,1,5,6] [(7,pt 7)] [5] [(7,bx [ci (gn a (b-1)),ci (gn a b),.d (DL i)])] ⟨⟨M,⟨⟩⟩,N,O,⟨P,⟨⟩⟩,T,KAt.sem (F:=(Q6L j)) (args:=[vi (gn a (b-1))]) ⟨(gn a (b-1)),i,Y,rfl,rfl⟩ rfl (by kernel_rfl) (by kernel_rfl) (by kernel_rfl),⟨⟩⟩ (Q0 Fm 3 [0,1,5,6,7] [(8,vi (lI e))] [5,7] [] (Q6 (r:=r) (fun z:Bool=>Q1y F a b e i u z) [0,1,5,6,7,8] (fun z=>[(57,vb z)]) [5,7] nn (fun k0 h=>?_) (fun e0 o=>?_)))
    ·refine Q3 h (fun L h=>?_) (fun L h=>?_)
     ·obtain ⟨V,t,h⟩:=gS2 h
      exact Q2h Fm (sA 8 []) [0,1,5,6] [] [] [(5,AO (List.set e ((lI e)-1).toNat (⟨(gn e ((lI e)-1)).w_,(gn a b),(gn e ((lI e)-1)).spans_⟩:Band)))] (cA (cT V) (cA t (cT (Y6 t)))) [(5,rSt e ((lI e)-1).toNat 1 [.int .i64 (gn a b)])] ⟨oSt (Y6 t),⟨⟩⟩ (Kn.R Fm (y (List.set e ((lI e)-1).toNat (⟨(gn e ((lI e)-1)).w_,(gn a b),(gn e ((lI e)-1)).spans_⟩:Band)) h))
     ·obtain ⟨W,h⟩:=gS h
      exact Q2h Fm [.s,.s,.w (AL [(⟨(gn a (b-1)),(gn a b),i⟩:Band)]),.s,.s] [0,1,6] [(5,ow 68)] [] [(68,AO (e++([(⟨(gn a (b-1)),(gn a b),i⟩:Band)]:List Band)))] (cA (Q8h (⟨(gn a (b-1)),(gn a b),i⟩:Band)) (cT (cA W (cT (lfl ([(⟨(gn a (b-1)),(gn a b),i⟩:Band)]:List Band)))))) [(68,rAp e ([(⟨(gn a (b-1)),(gn a b),i⟩:Band)]:List Band))] ⟨oAp,⟨⟩⟩ (Q1e Fm [(5,68)] (y (e++([(⟨(gn a (b-1)),(gn a b),i⟩:Band)]:List Band)) h))
    ·rcases Z6 h with ⟨l,h⟩|⟨l,h⟩
     ·obtain ⟨A,n,h⟩:=gS2 h
      rcases Z6 h with ⟨p,h⟩|⟨p,h⟩
      ·obtain ⟨U,B,h⟩:=gS2 h
       obtain ⟨E,Z,h⟩:=bS h;exact Q5 Fm [.s,.s,.w (vb true),.s,.s,.s,.s,.s,.s,.s,.s,.s,.s,.w (vb true),.s,.s,.s,.s,.s,.s,.s,.s,.k _,.s] (fun K=>_/\(_/\True)/\_/\_/\_/\(_/\True)/\_/\_/\K 22/\True) [0,1,5,6,7,8] [(57,vb E)] [5,7] [] ⟨ALe.bool l,⟨A,⟨⟩⟩,n,(Y6 n),ALe.bool p,⟨U,⟨⟩⟩,B,(Y6 B),Q2 (Z3k Z) Tryz.call187 [],⟨⟩⟩ (Kn.R Fm (o E h))
      ·exact Q1 Fm (sZ 10 [.s,.s,.w (vb true),.s,.s,.s,.s,.s,.s,.s,.s,.s,.s,.w (vb false)]) [0,1,5,6,7,8] [(57,vb false)] [5,7] [] (cA (ALe.bool l) (cA (cT A) (cA n (cA (Y6 n) (cT (ALe.bool p)))))) (Kn.R Fm (o false h))
     ·exact Q1 Fm (sZ 21 [.s,.s,.w (vb false)]) [0,1,5,6,7,8] [(57,vb false)] [5,7] [] (cT (ALe.bool l)) (Kn.R Fm (o false h))
  ·exact AW.exit (Kn.R Fm (H e h))
theorem Q8A {F a r} (h:Q1Q F a=some r) :
  Q7 Tryz.prog 123 [AL a] [] (AL r) []:=by
 refine FJ Tryz.func123 fun C Fm=>?_
 unfold Q1Q at h;refine Q0 Fm 2 [] [(1,pt 1)] [] [(1,bx [.d (DL a)])] (AW.seq ?_)
 obtain ⟨j,e,h⟩:=bS h;obtain ⟨b,i,h⟩:=bS h
 exact Q5 Fm [.s,.w (AL (α:=(List Rect)) ([a]:List (List Rect))),.k _,.s,.k (cE [] [1] (AL b) [] []),.s] (fun K=>(ALe (.v (.c (.d (.lst 1 (Z0n 1 [DL a]))))) (AL (α:=(List Rect)) ([a]:List (List Rect))))/\K 2/\K 4/\True) [] [(2,AL b)] [] [] ⟨ALe.lst (.lit ([a]:List (List Rect)) (by kernel_rfl)),Q2 (Z2x e) Tryz.call148 [],KAt.cX (Z1I i) Tryz.call147 [] [1] [.tmp 5,.tmp 6] ⟨.p,y7.cX Tryz.call170 [[.d (DL a)]] (fun args r hq=>by obtain ⟨y0,y,hq,rfl,rfl⟩:=hq;exact ⟨Eq.mp (by kernel_rfl) (Z2w hq),rfl⟩) [1] (⟨⟨false,(by kernel_rfl)⟩,⟨⟩⟩),⟨⟩⟩,⟨⟩⟩ (Z2 Fm h)
theorem Z3l {F c d r} (h:Q2C F c d=some r) :
  Q7 Tryz.prog 122 [AL c,AL d] [] (vb r) []:=by
 refine FJ Tryz.func122 fun C Fm=>?_
 unfold Q2C at h;refine Q0 Fm 1 [0,1] [] [] [] (AW.seq (Q0 Fm 5 [0,1] [(10,vb ((lI c) != (lI d)))] [] [] (Q3 h (fun j h=>?_) (fun j h=>?_))))
 ·exact Q0 Fm 1 [] [(4,vb false)] [] [] (Z2 Fm h)
 ·refine AW.skip (Q6 (r:=r) (fun z:Unit=>Q9r F) [] nn [] nn (fun z h=>?_) (fun u i=>?_))
  ·exact Q0 Fm 1 [] [(4,vb true)] [] [] (Z2 Fm h)
  ·refine Q0 Fm 3 [0,1] [(12,vi (lI c)),(13,vi 0)] [] [] (AW.block (Kn.w Fm [(0,AL c),(1,AL d),(12,vi (lI c)),(13,vi 0)] [] ?_))
   refine Z5 (E':=fun z=>[(0,AL c),(1,AL d),(12,vi (lI c)),(13,vi z)]) (S':=fun z=>[]) (fun y a t e h=>?_) h;refine Q0 Fm 1 [0,1,12,13] [(14,vb (decide (a<(lI c))))] [] [] (AW.seq (Q3 h (fun l h=>?_) (fun l h=>?_)))
   ·refine AW.skip (AW.seq (AW.block (Q0 Fm 2 [0,1,12,13] [(5,vi a)] [] [] ?_)))
    obtain ⟨n,o,h⟩:=gS2 h;refine Q1K Fm (sA 8 [.k (sE (vb (!((((gn c a).L_)==((gn d a).L_))&&((((gn c a).w_)==((gn d a).w_))&&((((gn c a).R_)==((gn d a).R_))&&((((gn c a).H_)==((gn d a).H_))&&true)))))))]) (fun K=>_/\_/\K 8/\True) [0,1,12,13] [(24,vb (!((((gn c a).L_)==((gn d a).L_))&&((((gn c a).w_)==((gn d a).w_))&&((((gn c a).R_)==((gn d a).R_))&&((((gn c a).H_)==((gn d a).H_))&&true))))))] [] [] ⟨n,o,Y5H (xs:=[ci ((gn c a).L_),ci ((gn c a).w_),ci ((gn c a).R_),ci ((gn c a).H_)]) (ys:=[ci ((gn d a).L_),ci ((gn d a).w_),ci ((gn d a).R_),ci ((gn d a).H_)]) W0r false (b:=((((gn c a).L_)==((gn d a).L_))&&((((gn c a).w_)==((gn d a).w_))&&((((gn c a).R_)==((gn d a).R_))&&((((gn c a).H_)==((gn d a).H_))&&true))))) rfl rfl (by kernel_rfl) (by kernel_rfl) (by kernel_rfl) (by kernel_rfl),⟨⟩⟩ ?_
    refine Q3 h (fun m h=>?_) (fun m h=>?_)
    ·exact Q0 Fm 1 [] [(4,vb false)] [] [] (Z2 Fm h)
    ·refine AW.skip ?_
     obtain ⟨p,h⟩:=gS h;exact Q1 Fm [.s,.s] [0,1,12] [(13,vi (a+1))] [] [] (cT (cT p)) (Kn.R Fm (e (a+1) h))
   ·exact AW.exit (Kn.R Fm (i () h))
theorem W9 {F a r} (h:y5 F a=some r) :
  Q7 Tryz.prog 65 [.v (.g [.d (DL a.t_)])] [] (vb r) []:=by
 refine FJ Tryz.func65 fun C Fm=>?_
 unfold y5 at h;refine Q0 Fm 2 [] [(1,pt 1)] [] [(1,bx [.d (DL a.t_)])] (AW.seq (Q6 (r:=r) (fun z:Bool=>Q6C F a z) [1] (fun z=>[(11,vb z)]) [1] nn (fun t h=>?_) (fun o e=>?_)))
 ·refine Q3 h (fun i h=>?_) (fun i h=>?_)
  ·exact Q0 Fm 1 [] [(2,vb false)] [] [] (Z2 Fm h)
  ·refine AW.skip (AW.seq ?_)
   obtain ⟨u,l,h⟩:=bS h;obtain ⟨n,m,h⟩:=bS h
   exact Q5 Fm [.s,.s,.k _,.s,.s,.k _,.s] (k2 2 5) [] [(2,vb n)] [] [] ⟨Q2 (Q8A l) Tryz.call123 [],Q2 (Z3l m) Tryz.call122 [],⟨⟩⟩ (Z2 Fm h)
 ·rcases Z6 h with ⟨b,h⟩|⟨b,h⟩
  ·exact Q1 Fm (sA 4 [.w (vb true),.s,.s,.s,.s]) [1] [(11,vb true)] [1] [] (cT (ALe.bool b)) (Kn.R Fm (e true h))
  ·obtain ⟨c,j,h⟩:=bS h
   exact Q5 Fm (sA 4 [.w (vb false),.s,.s,.k (cE [] [] (vb c) [] []),.s]) (fun K=>_/\K 7/\True) [1] [(11,vb c)] [1] [] ⟨ALe.bool b,KAt.cX (Q1i j) Tryz.call69 [] [] [.tmp 9,.func 120] ⟨.p,y7.cX Tryz.call120 [] (fun args r hq=>by obtain ⟨y0,y,hq,rfl,rfl⟩:=hq;exact ⟨Eq.mp (by kernel_rfl) (Z5P hq),rfl⟩) [] (True.intro),⟨⟩⟩,⟨⟩⟩ (Kn.R Fm (e c h))
theorem Z7s {F:Nat} {rc:Term->Int->Option (Int)} (hrc:∀ {a:Term} {e:Int} {r:Int},rc a e=some r->Q7 Tryz.prog 182 [.v (.g [ci a.op_,ci a.num_,ci a.more_,.d (DL a.kids_)]),vi e] [] (vi r) []) {a:Term} {e:Int} {r:Int} (h:Q7x F rc a e=some r) :
  Q7 Tryz.prog 182 [.v (.g [ci a.op_,ci a.num_,ci a.more_,.d (DL a.kids_)]),vi e] [] (vi r) []:=by
 refine FJ Tryz.func182 fun C Fm=>?_
 unfold Q7x at h;refine Q0 Fm 2 [1] [(2,pt 2)] [] [(2,bx [ci a.op_,ci a.num_,ci a.more_,.d (DL a.kids_)])] (Q0 Fm 1 [1,2] [(5,vi 1)] [2] [] (Q6 (r:=r) (fun z:Int=>Z1S F rc z) [] (fun z=>[(5,vi z)]) [] nn (fun D h=>?_) (fun G j=>?_)))
 ·exact Q0 Fm 2 [] [(4,vi D)] [] [] (Z2 Fm h)
 ·refine Q0 Fm 4 [1,5] [(9,AL a.kids_),(10,vi (lI a.kids_)),(11,vi 0)] [] [] (AW.block (Kn.w Fm [(1,vi e),(5,vi 1),(9,AL a.kids_),(10,vi (lI a.kids_)),(11,vi 0)] [] ?_))
  refine Z5 (E':=fun z=>[(1,vi e),(5,vi z.1),(9,AL a.kids_),(10,vi (lI a.kids_)),(11,vi z.2)]) (S':=fun z=>[]) (fun H z E m h=>?_) h;obtain ⟨i,b⟩:=z
  refine Q0 Fm 1 [1,5,9,10,11] [(12,vb (decide (b<(lI a.kids_))))] [] [] (AW.seq (Q3 h (fun n h=>?_) (fun n h=>?_)))
  ·refine AW.skip (AW.seq (AW.block ?_))
   obtain ⟨p,t,h⟩:=gS2 h;refine Y4 Fm [.w (.v (.c (.elm [.int .i64 (gn a.kids_ b).op_,.int .i64 (gn a.kids_ b).num_,.int .i64 (gn a.kids_ b).more_,DL (gn a.kids_ b).kids_]))),.s,.s,.s] [1,5,9,10,11] [(7,pt 7)] [] [(7,bx [ci ((gn a.kids_ b).op_),ci ((gn a.kids_ b).num_),ci ((gn a.kids_ b).more_),.d (DL (gn a.kids_ b).kids_)])] (cA p (cT (ALe.of_eq (Term.elm t):ALe (.v (.c (.elm (LF a.kids_ b.toNat)))) (.v (.c (.elm [.int .i64 (gn a.kids_ b).op_,.int .i64 (gn a.kids_ b).num_,.int .i64 (gn a.kids_ b).more_,DL (gn a.kids_ b).kids_])))))) (AW.seq (Q0 Fm 3 [1,5,7,9,10,11] [(17,vb (decide (e<i)))] [7] [] (Q3 h (fun o h=>?_) (fun o h=>?_))))
   ·exact AW.exit (Kn.R Fm (j i h))
   ·refine AW.skip ?_
    obtain ⟨u,h⟩:=gS h;obtain ⟨l,B,h⟩:=bS h
    obtain ⟨y,h⟩:=gS h;refine Q5 Fm (sA 5 [.k _,.s,.s]) (fun K=>(_/\True)/\K 5/\(_/\True)/\True) [1,9,10,11] [(5,vi (i+l))] [] [] ⟨⟨u,⟨⟩⟩,Q2 (hrc B) Tryz.call182 [],⟨y,⟨⟩⟩,⟨⟩⟩ ?_
    obtain ⟨A,h⟩:=gS h;exact Q1 Fm [.s,.s] [1,5,9,10] [(11,vi (b+1))] [] [] (cT (cT A)) (Kn.R Fm (m ((i+l),(b+1)) h))
  ·exact AW.exit (Kn.R Fm (j i h))
theorem Z3G:∀ {F:Nat} {a:Term} {b:Int} {r:Int},Q4X F a b=some r ->
  Q7 Tryz.prog 182 [.v (.g [ci a.op_,ci a.num_,ci a.more_,.d (DL a.kids_)]),vi b] [] (vi r) []
 | 0,_,_,_,h=>by cases h
 | F+1,_,_,_,h=>Z7s Z3G (F:=F) (rc:=Q4X F) h
theorem Z8u {F a r} (h:Q9n F a=some r) :
  Q7 Tryz.prog 221 [vi a] [] (.t [.c (ci r.1),.c (ci r.2.1),.c (.d (.bool r.2.2))]) []:=by
 refine FJ Tryz.func221 fun C Fm=>?_
 unfold Q9n at h;refine Q0 Fm 3 [0] [] [] [] (AW.seq (Q0 Fm 1 [] [(5,vi a)] [] [] (AW.block (Q0 Fm 2 [5] [(6,vb (a==2))] [] [] (Q3 h (fun e h=>?_) (fun e h=>?_))))))
 ·exact Q0 Fm 3 [] [(2,vi 0),(3,vi 39),(4,vb true)] [] [] (Z2 Fm h)
 ·refine Q0 Fm 2 [5] [(8,vb (a==3))] [] [] (Q3 h (fun i h=>?_) (fun i h=>?_))
  ·exact Q0 Fm 3 [] [(2,vi 0),(3,vi 40),(4,vb true)] [] [] (Z2 Fm h)
  ·refine Q0 Fm 2 [5] [(10,vb (a==4))] [] [] (Q3 h (fun j h=>?_) (fun j h=>?_))
   ·exact Q0 Fm 3 [] [(2,vi 1),(3,vi 16),(4,vb true)] [] [] (Z2 Fm h)
   ·refine Q0 Fm 2 [5] [(12,vb (a==5))] [] [] (Q3 h (fun k h=>?_) (fun k h=>?_))
    ·exact Q0 Fm 3 [] [(2,vi 0),(3,vi 15),(4,vb true)] [] [] (Z2 Fm h)
    ·refine Q0 Fm 2 [5] [(14,vb (a==6))] [] [] (Q3 h (fun l h=>?_) (fun l h=>?_))
     ·exact Q0 Fm 3 [] [(2,vi 2),(3,vi 10),(4,vb true)] [] [] (Z2 Fm h)
     ·refine Q6 (r:=r) (fun z:Bool=>Q7v F z) [] (fun z=>[(16,vb z)]) [] nn (fun p h=>?_) (fun o b=>?_)
      ·refine Q3 h (fun n h=>?_) (fun n h=>?_)
       ·exact Q0 Fm 3 [] [(2,vi 1),(3,vi 10),(4,vb true)] [] [] (Z2 Fm h)
       ·exact AW.skip (Q0 Fm 3 [] [(2,vi 0),(3,vi 0),(4,vb false)] [] [] (Z2 Fm h))
      ·refine Q0 Fm 2 [5] [(16,vb (a==7))] [] [] (Q3 h (fun m h=>?_) (fun m h=>?_))
       ·exact AW.skip (Kn.R Fm (b (a==7) h))
       ·exact Q8u Fm 2 [] [(16,vb (a==8))] [] [] (Kn.R Fm (b (a==8) h))
theorem Y0s {F a r} (h:Z2q F a=some r) :
  Q7 Tryz.prog 222 [vi a] [] (.t [.c (ci r.1),.c (ci r.2)]) []:=by
 refine FJ Tryz.func222 fun C Fm=>?_
 unfold Z2q at h;refine Q0 Fm 2 [0] [] [] [] (AW.seq (Q0 Fm 1 [] [(4,vi a)] [] [] (AW.block (Q6 (r:=r) (fun z:Bool=>Z0z F a z) [4] (fun z=>[(5,vb z)]) [] nn (fun k h=>?_) (fun j b=>?_)))))
 ·refine Q3 h (fun e h=>?_) (fun e h=>?_)
  ·exact Q0 Fm 2 [] [(2,vi 1),(3,vi 40)] [] [] (Z2 Fm h)
  ·refine Q0 Fm 2 [] [(8,vb (a==11))] [] [] (Q3 h (fun i h=>?_) (fun i h=>?_))
   ·exact Q0 Fm 2 [] [(2,vi 1),(3,vi 1)] [] [] (Z2 Fm h)
   ·exact AW.skip (Q0 Fm 2 [] [(2,vi 0),(3,vi 0)] [] [] (Z2 Fm h))
 ·refine Q0 Fm 2 [4] [(5,vb (a==9))] [] [] (Q3 h (fun d h=>?_) (fun d h=>?_))
  ·exact AW.skip (Kn.R Fm (b (a==9) h))
  ·exact Q8u Fm 2 [4] [(5,vb (a==10))] [] [] (Kn.R Fm (b (a==10) h))
theorem Z1p {F b r} (h:Q4F F b=some r) :
  Q7 Tryz.prog 270 [.v (.c (.d (.int .u64 b)))] [] (vi r) []:=by
 refine FJ Tryz.func270 fun C Fm=>?_
 unfold Q4F at h;refine Q0 Fm 1 [0] [] [] [] (AW.seq ?_)
 obtain ⟨n,h⟩:=gS h;obtain ⟨N,B,h⟩:=bS h
 obtain ⟨e,D,h⟩:=bS h;refine Q1 Fm [.s,.s,.w (.v (.c (.d (.int .u64 N)))),.s,.s,.w (.v (.c (.d (.int .u64 e)))),.s] [] [(0,.v (.c (.d (.int .u64 e))))] [] [] (cA n (cA (eI (k:=.u64) B) (cA (True.intro:True) (cT (eI (k:=.u64) D))))) (AW.seq ?_)
 obtain ⟨o,h⟩:=gS h;obtain ⟨O,E,h⟩:=bS h
 obtain ⟨i,G,h⟩:=bS h;refine Q1 Fm [.s,.s,.w (.v (.c (.d (.int .u64 O)))),.s,.s,.w (.v (.c (.d (.int .u64 i)))),.s] [] [(0,.v (.c (.d (.int .u64 i))))] [] [] (cA o (cA (eI (k:=.u64) E) (cA (True.intro:True) (cT (eI (k:=.u64) G))))) (AW.seq ?_)
 obtain ⟨p,h⟩:=gS h;obtain ⟨j,H,h⟩:=bS h
 refine Q1 Fm [.s,.s,.s,.w (.v (.c (.d (.int .u64 j)))),.s,.s] [] [(0,.v (.c (.d (.int .u64 (Q5T .u64 j (1085102592571150095:Int))))))] [] [] (cA p (cA (True.intro:True) (cT (eI (k:=.u64) H)))) (AW.seq ?_);obtain ⟨t,h⟩:=gS h
 obtain ⟨P,I,h⟩:=bS h;obtain ⟨l,K,h⟩:=bS h
 refine Q1 Fm [.s,.s,.w (.v (.c (.d (.int .u64 P)))),.w (.v (.c (.d (.int .u64 l)))),.s] [] [(0,.v (.c (.d (.int .u64 l))))] [] [] (cA t (cA (eI (k:=.u64) I) (cA (True.intro:True) (cT (eI (k:=.u64) K))))) (AW.seq ?_);obtain ⟨u,h⟩:=gS h
 obtain ⟨m,L,h⟩:=bS h;refine Q1 Fm [.s,.s,.s,.w (.v (.c (.d (.int .u64 m)))),.s] [] [(0,.v (.c (.d (.int .u64 m))))] [] [] (cA u (cA (True.intro:True) (cT (eI (k:=.u64) L)))) (AW.seq ?_)
 obtain ⟨y,h⟩:=gS h;obtain ⟨a,M,h⟩:=bS h
 refine Q1 Fm [.s,.s,.s,.w (.v (.c (.d (.int .u64 a)))),.s] [] [(0,.v (.c (.d (.int .u64 a))))] [] [] (cA y (cA (True.intro:True) (cT (eI (k:=.u64) M)))) ?_;obtain ⟨A,h⟩:=gS h
 exact Y4 Fm (sA 4 []) [] [(2,vi (Q5T .i64 a (127:Int)))] [] [] (cT (cT A)) (Z2 Fm h)
theorem Z2g {F a r} (h:Q5X F a=some r) :
  Q7 Tryz.prog 246 [.v (.c (.d (.int .u64 a)))] [] (vi r) []:=by
 refine FJ Tryz.func246 fun C Fm=>?_
 unfold Q5X at h;refine Q0 Fm 1 [0] [] [] [] (AW.seq (W1s (AW.skip (AW.seq ?_))))
 obtain ⟨e,b,h⟩:=bS h;exact Q5 Fm [.s,.k _,.s] (k1 1) [] [(2,vi e)] [] [] ⟨Q2 (Z1p b) Tryz.call270 [],⟨⟩⟩ (Z2 Fm h)
theorem U6 {F d r} (h:Q2x F d=some r) :
  Q7 Tryz.prog 223 [vi d] [] (vb r) []:=by
 refine FJ Tryz.func223 fun C Fm=>?_
 unfold Q2x at h;refine Q0 Fm 1 [0] [] [] [] (Q6 (r:=r) (fun z:Bool=>Q7r F z) [] (fun z=>[(2,vb z)]) [] nn (fun l h=>?_) (fun j b=>?_))
 ·exact Z2 Fm h
 ·rcases Z6 h with ⟨a,h⟩|⟨a,h⟩
  ·rcases Z6 h with ⟨c,h⟩|⟨c,h⟩
   ·obtain ⟨e,i,h⟩:=bS h
    exact Q5 Fm [.s,.s,.w (vb true),.s,.s,.s,.w (vb true),.s,.s,.k _,.s,.s,.s] (fun K=>_/\_/\(True)/\K 9/\True) [] [(2,vb (e==1))] [] [] ⟨ALe.bool a,ALe.bool c,True.intro,Q2 (Z2g i) Tryz.call246 [],⟨⟩⟩ (Kn.R Fm (b (e==1) h))
   ·exact Q1 Fm (sZ 6 [.s,.s,.w (vb true),.s,.s,.s,.w (vb false)]) [] [(2,vb false)] [] [] (cA (ALe.bool a) (cT (ALe.bool c))) (Kn.R Fm (b false h))
  ·exact Q1 Fm (sZ 10 [.s,.s,.w (vb false)]) [] [(2,vb false)] [] [] (cT (ALe.bool a)) (Kn.R Fm (b false h))
theorem Z0U {F a e r} (h:Q0R F a e=some r) :
  Q7 Tryz.prog 247 [AL a,.v (.c (.sem (J5 Tryz.prog (Q8r e))))] [] (vi r) []:=by
 refine FJ Tryz.func247 fun C Fm=>?_
 unfold Q0R at h;refine Q0 Fm 1 [0,1] [] [] [] (Q6 (r:=r) (fun z:Unit=>Q6e F) [] nn [] nn (fun z h=>?_) (fun A l=>?_))
 ·exact Q0 Fm 1 [] [(4,vi (-1:Int))] [] [] (Z2 Fm h)
 ·refine Q0 Fm 3 [0,1] [(7,vi (lI a)),(8,vi 0)] [] [] (AW.block (Kn.w Fm [(0,AL a),(1,.v (.c (.sem (J5 Tryz.prog (Q8r e))))),(7,vi (lI a)),(8,vi 0)] [] ?_))
  refine Z5 (E':=fun z=>[(0,AL a),(1,.v (.c (.sem (J5 Tryz.prog (Q8r e))))),(7,vi (lI a)),(8,vi z)]) (S':=fun z=>[]) (fun B b y j h=>?_) h;refine Q0 Fm 1 [0,1,7,8] [(9,vb (decide (b<(lI a))))] [] [] (AW.seq (Q3 h (fun m h=>?_) (fun m h=>?_)))
  ·refine AW.skip (AW.seq (AW.block (Q0 Fm 2 [0,1,7,8] [(5,vi b)] [] [] (AW.seq ?_))))
   obtain ⟨o,p,h⟩:=gS2 h;obtain ⟨i,u,h⟩:=bS h
   refine Q5 Fm [.s,.s,.s,.w (.v (.c (.elm [.int .i64 (gn a b).op_,.int .i64 (gn a b).num_,.int .i64 (gn a b).more_,DL (gn a b).kids_]))),.s,.k (sE (vb i))] (fun K=>_/\(ALe (.v (.c (.elm (LF a b.toNat)))) (.v (.c (.elm [.int .i64 (gn a b).op_,.int .i64 (gn a b).num_,.int .i64 (gn a b).more_,DL (gn a b).kids_]))))/\K 5/\True) [0,1,5,7,8] [(16,vb i)] [] [] ⟨o,ALe.of_eq (Term.elm p),KAt.sem (F:=(Q8r e)) (args:=[.v (.g [ci ((gn a b).op_),ci ((gn a b).num_),ci ((gn a b).more_),.d (DL (gn a b).kids_)])]) ⟨(gn a b),i,u,rfl,rfl⟩ rfl (by kernel_rfl) (by kernel_rfl) (by kernel_rfl),⟨⟩⟩ (Q3 h (fun n h=>?_) (fun n h=>?_))
   ·exact Q0 Fm 2 [] [(4,vi b)] [] [] (Z2 Fm h)
   ·refine AW.skip ?_
    obtain ⟨t,h⟩:=gS h;exact Q1 Fm [.s,.s] [0,1,7] [(8,vi (b+1))] [] [] (cT (cT t)) (Kn.R Fm (j (b+1) h))
  ·exact AW.exit (Kn.R Fm (l () h))
theorem Q9u {F a b r} (h:Q0k F a b=some r) :
  Q7 Tryz.prog 224 [AL a,.v (.c (.sem (J5 Tryz.prog (Q8r b))))] [] (vb r) []:=by
 refine FJ Tryz.func224 fun C Fm=>?_
 unfold Q0k at h;refine Q0 Fm 1 [0,1] [] [] [] (AW.seq ?_)
 obtain ⟨d,e,h⟩:=bS h;exact Q5 Fm [.s,.s,.k (cE [] [] (vi d) [] []),.s,.s] (k1 2) [] [(4,vb (decide ((0:Int)<=d)))] [] [] ⟨KAt.cX (Z0U e) Tryz.call247 [] [] [.tmp 5,.tmp 6] ⟨.p,y7.semX (by kernel_rfl) (by kernel_rfl) (by kernel_rfl),⟨⟩⟩,⟨⟩⟩ (Z2 Fm h)
theorem Z7q {F:Nat} {rc:Term->Int->Option (Bool)} (hrc:∀ {q0:Term} {q1:Int} {r:Bool},rc q0 q1=some r->Q7 Tryz.prog 183 [.v (.g [ci q0.op_,ci q0.num_,ci q0.more_,.d (DL q0.kids_)]),vi q1] [] (vb r) []) {a:Term} {b:Int} {r:Bool} (h:Z0y F rc a b=some r) :
  Q7 Tryz.prog 225 [.v (.g [ci a.op_,ci a.num_,ci a.more_,.d (DL a.kids_)]),pt 0] [(0,.box true [ci b])] (vb r) [(0,.box true [ci b])]:=by
 refine FJ Tryz.func225 fun C Fm=>?_
 unfold Z0y at h;refine Q0 Fm 2 [1] [(2,pt 2)] [0] [(2,bx [ci a.op_,ci a.num_,ci a.more_,.d (DL a.kids_)])] (AW.seq ?_)
 obtain ⟨c,h⟩:=gS h;obtain ⟨i,e,h⟩:=bS h
 exact Q5 Fm [.s,.s,.s,.k _,.s,.s] (fun K=>(_/\True)/\K 3/\True) [] [(3,vb (!i))] [0] [] ⟨⟨c,⟨⟩⟩,Q2 (hrc e) Tryz.call183 [],⟨⟩⟩ (Z2 Fm h)
theorem Z7p {F:Nat} {rc:Term->Int->Option (Bool)} (hrc:∀ {a:Term} {b:Int} {r:Bool},rc a b=some r->Q7 Tryz.prog 183 [.v (.g [ci a.op_,ci a.num_,ci a.more_,.d (DL a.kids_)]),vi b] [] (vb r) []) {a:Term} {b:Int} {r:Bool} (h:Q7s F rc a b=some r) :
  Q7 Tryz.prog 183 [.v (.g [ci a.op_,ci a.num_,ci a.more_,.d (DL a.kids_)]),vi b] [] (vb r) []:=by
 refine FJ Tryz.func183 fun C Fm=>?_
 unfold Q7s at h;refine Q0 Fm 3 [] [(2,pt 2),(3,pt 3)] [] [(2,bx [ci a.op_,ci a.num_,ci a.more_,.d (DL a.kids_)]),(3,bx [ci b])] (AW.seq ?_)
 obtain ⟨G,d0,h⟩:=bS h;refine Q5 Fm (sZ 7 [.s,.s,.k _]) (k1 2) [2,3] [(5,vi G.1),(6,vi G.2.1),(7,vb G.2.2)] [2,3] [] ⟨Q2 (Z8u d0) Tryz.call221 [],⟨⟩⟩ (AW.seq ?_)
 obtain ⟨l,e0,h⟩:=bS h;refine Q5 Fm (sZ 5 [.s,.s,.k _]) (k1 2) [2,3,5,6,7] [(8,vi l.1),(9,vi l.2)] [2,3] [] ⟨Q2 (Y0s e0) Tryz.call222 [],⟨⟩⟩ (AW.seq (AW.block (Q6 (r:=r) (fun z:Bool=>Q1L F rc a b G l z) [2,3,5,6,7,8,9] (fun z=>[(23,vb z)]) [2,3] nn (fun n0 h=>?_) (fun j0 H=>?_))))
 ·refine Q3 h (fun Z h=>?_) (fun Z h=>?_)
  ·exact Q0 Fm 1 [] [(4,vb false)] [] [] (Z2 Fm h)
  ·refine Q6 (r:=r) (fun z:Bool=>Q0C F rc a b l z) [2,3,8,9] (fun z=>[(36,vb z)]) [2,3] nn (fun o0 h=>?_) (fun k0 m=>?_)
   ·refine Q3 h (fun a0 h=>?_) (fun a0 h=>?_)
    ·exact Q0 Fm 1 [] [(4,vb false)] [] [] (Z2 Fm h)
    ·refine Q6 (r:=r) (fun z:Bool=>W4 F rc a b l z) [2,3,8,9] (fun z=>[(59,vb z)]) [2,3] nn (fun p0 h=>?_) (fun l0 e=>?_)
     ·refine Q3 h (fun b0 h=>?_) (fun b0 h=>?_)
      ·exact Q0 Fm 1 [] [(4,vb false)] [] [] (Z2 Fm h)
      ·refine Q6 (r:=r) (fun z:Bool=>Q4k F rc a b z) [2,3] (fun z=>[(90,vb z)]) [2,3] nn (fun q0 h=>?_) (fun m0 X=>?_)
       ·refine Q3 h (fun c0 h=>?_) (fun c0 h=>?_)
        ·exact Q0 Fm 1 [] [(4,vb false)] [] [] (Z2 Fm h)
        ·refine AW.skip (AW.seq ?_)
         obtain ⟨Y,i0,h⟩:=bS h;exact Q5 Fm [.s,.s,.s,.k (cE [] [3] (vb Y) [] []),.s,.s] (k1 3) [] [(4,vb (!Y))] [] [] ⟨KAt.cX (Q9u i0) Tryz.call224 [] [3] [.tmp 104,.tmp 105] ⟨.p,y7.cX Tryz.call225 [[ci b]] (fun args r hq=>by obtain ⟨y0,y,hq,rfl,rfl⟩:=hq;exact ⟨Eq.mp (by kernel_rfl) (Z7q hrc hq),rfl⟩) [3] (⟨⟨false,(by kernel_rfl)⟩,⟨⟩⟩),⟨⟩⟩,⟨⟩⟩ (Z2 Fm h)
       ·rcases Z6 h with ⟨U,h⟩|⟨U,h⟩
        ·exact Q1 Fm (sA 5 (sZ 7 [.w (vb true)])) [2,3] [(90,vb true)] [2,3] [] (cT (ALe.bool U)) (Kn.R Fm (X true h))
        ·exact Q1 Fm (sA 5 (sZ 7 [.w (vb false)])) [2,3] [(90,vb (decide (l.2<(lI a.kids_))))] [2,3] [] (cT (ALe.bool U)) (Kn.R Fm (X (decide (l.2<(lI a.kids_))) h))
     ·rcases Z6 h with ⟨c,h⟩|⟨c,h⟩
      ·obtain ⟨s0,t,h⟩:=bS h
       rcases Z6 h with ⟨j,h⟩|⟨j,h⟩
       ·exact Q5 Fm ((sZ 18 [.s,.s,.s,.w (vb true),.s,.s,.k _,.s,.s,.w (vb true)])++[.s,.s,.s]) (fun K=>_/\K 6/\_/\True) [2,3,8,9] [(59,vb true)] [2,3] [] ⟨ALe.bool c,Q2 (U6 t) Tryz.call223 [],ALe.bool j,⟨⟩⟩ (Kn.R Fm (e true h))
       ·rcases Z6 h with ⟨n,h⟩|⟨n,h⟩
        ·obtain ⟨t0,V,h⟩:=bS h
         rcases Z6 h with ⟨D,h⟩|⟨D,h⟩
         ·exact Q5 Fm ((sZ 7 [.s,.s,.s,.w (vb true),.s,.s,.k _,.s,.s,.w (vb false),.s,.s,.s,.w (vb true),.s,.s,.k _,.s,.s,.s,.w (vb true)])++[.s,.s,.s]) (fun K=>_/\K 6/\_/\_/\K 16/\_/\True) [2,3,8,9] [(59,vb true)] [2,3] [] ⟨ALe.bool c,Q2 (U6 t) Tryz.call223 [],ALe.bool j,ALe.bool n,Q2 (U6 V) Tryz.call223 [],ALe.bool D,⟨⟩⟩ (Kn.R Fm (e true h))
         ·rcases Z6 h with ⟨N,h⟩|⟨N,h⟩
          ·exact Q5 Fm ([.s,.s,.s,.w (vb true),.s,.s,.k _,.s,.s,.w (vb false),.s,.s,.s,.w (vb true),.s,.s,.k _,.s,.s,.s,.w (vb false),.s,.s,.s,.w (vb true),.s,.s,.s]++[.s,.s,.s]) (fun K=>_/\K 6/\_/\_/\K 16/\_/\_/\True) [2,3,8,9] [(59,vb (a.more_ != (0:Int)))] [2,3] [] ⟨ALe.bool c,Q2 (U6 t) Tryz.call223 [],ALe.bool j,ALe.bool n,Q2 (U6 V) Tryz.call223 [],ALe.bool D,ALe.bool N,⟨⟩⟩ (Kn.R Fm (e (a.more_ != (0:Int)) h))
          ·exact Q5 Fm ([.s,.s,.s,.w (vb true),.s,.s,.k _,.s,.s,.w (vb false),.s,.s,.s,.w (vb true),.s,.s,.k _,.s,.s,.s,.w (vb false),.s,.s,.s,.w (vb false),.s,.s,.s]++[.s,.s,.s]) (fun K=>_/\K 6/\_/\_/\K 16/\_/\_/\True) [2,3,8,9] [(59,vb false)] [2,3] [] ⟨ALe.bool c,Q2 (U6 t) Tryz.call223 [],ALe.bool j,ALe.bool n,Q2 (U6 V) Tryz.call223 [],ALe.bool D,ALe.bool N,⟨⟩⟩ (Kn.R Fm (e false h))
        ·rcases Z6 h with ⟨O,h⟩|⟨O,h⟩
         ·exact Q5 Fm ([.s,.s,.s,.w (vb true),.s,.s,.k _,.s,.s,.w (vb false),.s,.s,.s,.w (vb false),.s,.s,.s,.s,.s,.s,.s,.s,.s,.s,.w (vb true),.s,.s,.s]++[.s,.s,.s]) (fun K=>_/\K 6/\_/\_/\_/\True) [2,3,8,9] [(59,vb (a.more_ != (0:Int)))] [2,3] [] ⟨ALe.bool c,Q2 (U6 t) Tryz.call223 [],ALe.bool j,ALe.bool n,ALe.bool O,⟨⟩⟩ (Kn.R Fm (e (a.more_ != (0:Int)) h))
         ·exact Q5 Fm ([.s,.s,.s,.w (vb true),.s,.s,.k _,.s,.s,.w (vb false),.s,.s,.s,.w (vb false),.s,.s,.s,.s,.s,.s,.s,.s,.s,.s,.w (vb false),.s,.s,.s]++[.s,.s,.s]) (fun K=>_/\K 6/\_/\_/\_/\True) [2,3,8,9] [(59,vb false)] [2,3] [] ⟨ALe.bool c,Q2 (U6 t) Tryz.call223 [],ALe.bool j,ALe.bool n,ALe.bool O,⟨⟩⟩ (Kn.R Fm (e false h))
      ·rcases Z6 h with ⟨o,h⟩|⟨o,h⟩
       ·obtain ⟨u0,W,h⟩:=bS h
        rcases Z6 h with ⟨E,h⟩|⟨E,h⟩
        ·exact Q5 Fm ((sZ 7 [.s,.s,.s,.w (vb false),.s,.s,.s,.s,.s,.s,.s,.s,.s,.w (vb true),.s,.s,.k _,.s,.s,.s,.w (vb true)])++[.s,.s,.s]) (fun K=>_/\_/\K 16/\_/\True) [2,3,8,9] [(59,vb true)] [2,3] [] ⟨ALe.bool c,ALe.bool o,Q2 (U6 W) Tryz.call223 [],ALe.bool E,⟨⟩⟩ (Kn.R Fm (e true h))
        ·rcases Z6 h with ⟨P,h⟩|⟨P,h⟩
         ·exact Q5 Fm ([.s,.s,.s,.w (vb false),.s,.s,.s,.s,.s,.s,.s,.s,.s,.w (vb true),.s,.s,.k _,.s,.s,.s,.w (vb false),.s,.s,.s,.w (vb true),.s,.s,.s]++[.s,.s,.s]) (fun K=>_/\_/\K 16/\_/\_/\True) [2,3,8,9] [(59,vb (a.more_ != (0:Int)))] [2,3] [] ⟨ALe.bool c,ALe.bool o,Q2 (U6 W) Tryz.call223 [],ALe.bool E,ALe.bool P,⟨⟩⟩ (Kn.R Fm (e (a.more_ != (0:Int)) h))
         ·exact Q5 Fm ([.s,.s,.s,.w (vb false),.s,.s,.s,.s,.s,.s,.s,.s,.s,.w (vb true),.s,.s,.k _,.s,.s,.s,.w (vb false),.s,.s,.s,.w (vb false),.s,.s,.s]++[.s,.s,.s]) (fun K=>_/\_/\K 16/\_/\_/\True) [2,3,8,9] [(59,vb false)] [2,3] [] ⟨ALe.bool c,ALe.bool o,Q2 (U6 W) Tryz.call223 [],ALe.bool E,ALe.bool P,⟨⟩⟩ (Kn.R Fm (e false h))
       ·rcases Z6 h with ⟨T,h⟩|⟨T,h⟩
        ·exact Q1 Fm ([.s,.s,.s,.w (vb false),.s,.s,.s,.s,.s,.s,.s,.s,.s,.w (vb false),.s,.s,.s,.s,.s,.s,.s,.s,.s,.s,.w (vb true),.s,.s,.s]++[.s,.s,.s]) [2,3,8,9] [(59,vb (a.more_ != (0:Int)))] [2,3] [] (cA (ALe.bool c) (cA (ALe.bool o) (cT (ALe.bool T)))) (Kn.R Fm (e (a.more_ != (0:Int)) h))
        ·exact Q1 Fm ([.s,.s,.s,.w (vb false),.s,.s,.s,.s,.s,.s,.s,.s,.s,.w (vb false),.s,.s,.s,.s,.s,.s,.s,.s,.s,.s,.w (vb false),.s,.s,.s]++[.s,.s,.s]) [2,3,8,9] [(59,vb false)] [2,3] [] (cA (ALe.bool c) (cA (ALe.bool o) (cT (ALe.bool T)))) (Kn.R Fm (e false h))
   ·rcases Z6 h with ⟨i,h⟩|⟨i,h⟩
    ·rcases Z6 h with ⟨u,h⟩|⟨u,h⟩
     ·exact Q1 Fm (sZ 16 [.s,.w (vb true),.s,.s,.s,.s,.w (vb true)]) [2,3,8,9] [(36,vb true)] [2,3] [] (cA (ALe.bool i) (cT (ALe.bool u))) (Kn.R Fm (m true h))
     ·rcases Z6 h with ⟨B,h⟩|⟨B,h⟩
      ·exact Q1 Fm (sZ 9 [.s,.w (vb true),.s,.s,.s,.s,.w (vb false),.s,.s,.s,.s,.s,.s,.w (vb true)]) [2,3,8,9] [(36,vb true)] [2,3] [] (cA (ALe.bool i) (cA (ALe.bool u) (cT (ALe.bool B)))) (Kn.R Fm (m true h))
      ·rcases Z6 h with ⟨L,h⟩|⟨L,h⟩
       ·exact Q1 Fm (sZ 6 [.s,.w (vb true),.s,.s,.s,.s,.w (vb false),.s,.s,.s,.s,.s,.s,.w (vb false),.s,.s,.w (vb true)]) [2,3,8,9] [(36,vb (a.num_ != (0:Int)))] [2,3] [] (cA (ALe.bool i) (cA (ALe.bool u) (cA (ALe.bool B) (cT (ALe.bool L))))) (Kn.R Fm (m (a.num_ != (0:Int)) h))
       ·exact Q1 Fm (sZ 6 [.s,.w (vb true),.s,.s,.s,.s,.w (vb false),.s,.s,.s,.s,.s,.s,.w (vb false),.s,.s,.w (vb false)]) [2,3,8,9] [(36,vb false)] [2,3] [] (cA (ALe.bool i) (cA (ALe.bool u) (cA (ALe.bool B) (cT (ALe.bool L))))) (Kn.R Fm (m false h))
    ·rcases Z6 h with ⟨M,h⟩|⟨M,h⟩
     ·exact Q1 Fm (sZ 6 [.s,.w (vb false),.s,.s,.s,.s,.s,.s,.s,.s,.s,.s,.s,.s,.s,.s,.w (vb true)]) [2,3,8,9] [(36,vb (a.num_ != (0:Int)))] [2,3] [] (cA (ALe.bool i) (cT (ALe.bool M))) (Kn.R Fm (m (a.num_ != (0:Int)) h))
     ·exact Q1 Fm (sZ 6 [.s,.w (vb false),.s,.s,.s,.s,.s,.s,.s,.s,.s,.s,.s,.s,.s,.s,.w (vb false)]) [2,3,8,9] [(36,vb false)] [2,3] [] (cA (ALe.bool i) (cT (ALe.bool M))) (Kn.R Fm (m false h))
 ·rcases Z6 h with ⟨A,h⟩|⟨A,h⟩
  ·exact Q1 Fm (sZ 9 [.s,.s,.s,.w (vb true)]) [2,3,5,6,7,8,9] [(23,vb true)] [2,3] [] (cT (ALe.bool A)) (Kn.R Fm (H true h))
  ·rcases Z6 h with ⟨I,h⟩|⟨I,h⟩
   ·exact Q1 Fm [.s,.s,.s,.w (vb false),.s,.s,.s,.s,.w (vb true),.s,.s,.s,.s] [2,3,5,6,7,8,9] [(23,vb true)] [2,3] [] (cA (ALe.bool A) (cT (ALe.bool I))) (Kn.R Fm (H true h))
   ·exact Q1 Fm [.s,.s,.s,.w (vb false),.s,.s,.s,.s,.w (vb false),.s,.s,.s,.s] [2,3,5,6,7,8,9] [(23,vb (b==0))] [2,3] [] (cA (ALe.bool A) (cT (ALe.bool I))) (Kn.R Fm (H (b==0) h))
theorem Z3E:∀ {F:Nat} {a:Term} {b:Int} {r:Bool},V9 F a b=some r ->
  Q7 Tryz.prog 183 [.v (.g [ci a.op_,ci a.num_,ci a.more_,.d (DL a.kids_)]),vi b] [] (vb r) []
 | 0,_,_,_,h=>by cases h
 | F+1,_,_,_,h=>Z7p Z3E (F:=F) (rc:=V9 F) h
theorem Z3H {F a r} (h:Q8H F a=some r) :
  Q7 Tryz.prog 138 [.v (.g [ci a.op_,ci a.num_,ci a.more_,.d (DL a.kids_)])] [] (vi r) []:=by
 refine FJ Tryz.func138 fun C Fm=>?_
 unfold Q8H at h;refine Q0 Fm 2 [] [(1,pt 1)] [] [(1,bx [ci a.op_,ci a.num_,ci a.more_,.d (DL a.kids_)])] (AW.seq (AW.block (AW.seq ?_)))
 obtain ⟨j,e,h⟩:=bS h;refine Q5 Fm [.s,.k _,.s,.s] (k1 1) [1] [(3,vb (decide ((40:Int)<j)))] [1] [] ⟨Q2 (Z3G e) Tryz.call182 [],⟨⟩⟩ (Q3 h (fun b h=>?_) (fun b h=>?_))
 ·exact Q0 Fm 1 [] [(2,vi 1)] [] [] (Z2 Fm h)
 ·refine AW.seq ?_
  obtain ⟨l,i,h⟩:=bS h;refine Q5 Fm [.s,.k _,.s,.s] (k1 1) [] [(7,vb (!l))] [] [] ⟨Q2 (Z3E i) Tryz.call183 [],⟨⟩⟩ (Q3 h (fun c h=>?_) (fun c h=>?_))
  ·exact Q0 Fm 1 [] [(2,vi 16)] [] [] (Z2 Fm h)
  ·exact AW.skip (Q0 Fm 1 [] [(2,vi 0)] [] [] (Z2 Fm h))
theorem Z3D {F b r} (h:Q8D F b=some r) :
  Q7 Tryz.prog 137 [.v (.c (.d (.str b)))] [] (vb r) []:=by
 refine FJ Tryz.func137 fun C Fm=>?_
 unfold Q8D at h;refine Q0 Fm 1 [0] [] [] [] (Q6 (r:=r) (fun z:Unit=>Z1R F b) [0] nn [] nn (fun z h=>?_) (fun Y I=>?_))
 ·refine Q6 (r:=r) (fun z:Bool=>Q6a F z) [] (fun z=>[(2,vb z)]) [] nn (fun b0 h=>?_) (fun Z B=>?_)
  ·exact Z2 Fm h
  ·rcases Z6 h with ⟨u,h⟩|⟨u,h⟩
   ·exact Q1 Fm (sZ 5 [.s,.s,.s,.w (vb true)]) [] [(2,vb (decide (((b.size:Nat):Int)<=(12:Int))))] [] [] (cT (ALe.bool u)) (Kn.R Fm (B (decide (((b.size:Nat):Int)<=(12:Int))) h))
   ·exact Q1 Fm (sZ 5 [.s,.s,.s,.w (vb false)]) [] [(2,vb false)] [] [] (cT (ALe.bool u)) (Kn.R Fm (B false h))
 ·refine Q0 Fm 3 [0] [(7,vi ((b.size:Nat):Int)),(8,vi 0)] [] [] (AW.block (Kn.w Fm [(0,.v (.c (.d (.str b)))),(7,vi ((b.size:Nat):Int)),(8,vi 0)] [] ?_))
  refine Z5 (E':=fun z=>[(0,.v (.c (.d (.str b)))),(7,vi ((b.size:Nat):Int)),(8,vi z)]) (S':=fun z=>[]) (fun j e U H h=>?_) h;refine Q0 Fm 1 [0,7,8] [(9,vb (decide (e<((b.size:Nat):Int))))] [] [] (AW.seq (Q3 h (fun L h=>?_) (fun L h=>?_)))
  ·refine AW.skip (AW.seq (AW.block (Q0 Fm 2 [0,7,8] [(3,vi e)] [] [] (Q6 (r:=r) (fun z:Bool=>Q6c F b e j z) [0,3,7,8] (fun z=>[(4,vb z)]) [] nn (fun T h=>?_) (fun V y=>?_)))))
   ·refine Q6 (r:=r) (fun z:Bool=>Q6b F e T j z) [0,3,4,7,8] (fun z=>[(5,vb z)]) [] nn (fun G h=>?_) (fun W A=>?_)
    ·refine Q6 (r:=r) (fun z:Bool=>Q4j F e j z) [0,7,8] (fun z=>[(40,vb z)]) [] nn (fun a0 h=>?_) (fun X l=>?_)
     ·refine Q3 h (fun M h=>?_) (fun M h=>?_)
      ·exact Q0 Fm 1 [] [(2,vb false)] [] [] (Z2 Fm h)
      ·refine AW.skip ?_
       obtain ⟨P,h⟩:=gS h;exact Q1 Fm [.s,.s] [0,7] [(8,vi (e+1))] [] [] (cT (cT P)) (Kn.R Fm (H (e+1) h))
     ·rcases Z6 h with ⟨i,h⟩|⟨i,h⟩
      ·rcases Z6 h with ⟨p,h⟩|⟨p,h⟩
       ·exact Q1 Fm [.s,.s,.w (vb true),.s,.s,.w (vb true),.s,.s,.s,.s] [0,7,8] [(40,vb true)] [] [] (cA (ALe.bool i) (cT (ALe.bool p))) (Kn.R Fm (l true h))
       ·exact Q1 Fm [.s,.s,.w (vb true),.s,.s,.w (vb false),.s,.s,.s,.s] [0,7,8] [(40,vb (!G))] [] [] (cA (ALe.bool i) (cT (ALe.bool p))) (Kn.R Fm (l (!G) h))
      ·exact Q1 Fm (sZ 7 [.s,.s,.w (vb false)]) [0,7,8] [(40,vb false)] [] [] (cT (ALe.bool i)) (Kn.R Fm (l false h))
    ·obtain ⟨E,h⟩:=gS h
     rcases Z6 h with ⟨o,h⟩|⟨o,h⟩
     ·obtain ⟨O,h⟩:=gS h
      exact Q5 Fm [.s,.s,.k (sE (.v (.c (.d (.int .u8 (sAt b e)))))),.s,.w (vb true),.s,.s,.k (sE (.v (.c (.d (.int .u8 (sAt b e)))))),.s,.s,.s] (fun K=>K 2/\_/\K 7/\True) [0,3,4,7,8] [(5,vb (decide ((sAt b e)<=57)))] [] [] ⟨G9 (t:=9) (a:=b) (m:=e) (by kernel_rfl) rfl rfl (by kernel_rfl) (by kernel_rfl) (by kernel_rfl) E,ALe.bool o,G9 (t:=9) (a:=b) (m:=e) (by kernel_rfl) rfl rfl (by kernel_rfl) (by kernel_rfl) (by kernel_rfl) O,⟨⟩⟩ (Kn.R Fm (A (decide ((sAt b e)<=57)) h))
     ·exact Q5 Fm (sZ 6 [.s,.s,.k (sE (.v (.c (.d (.int .u8 (sAt b e)))))),.s,.w (vb false)]) (fun K=>K 2/\_/\True) [0,3,4,7,8] [(5,vb false)] [] [] ⟨G9 (t:=9) (a:=b) (m:=e) (by kernel_rfl) rfl rfl (by kernel_rfl) (by kernel_rfl) (by kernel_rfl) E,ALe.bool o,⟨⟩⟩ (Kn.R Fm (A false h))
   ·obtain ⟨D,h⟩:=gS h
    rcases Z6 h with ⟨n,h⟩|⟨n,h⟩
    ·obtain ⟨N,h⟩:=gS h
     exact Q5 Fm [.s,.s,.k (sE (.v (.c (.d (.int .u8 (sAt b e)))))),.s,.w (vb true),.s,.s,.k (sE (.v (.c (.d (.int .u8 (sAt b e)))))),.s,.s,.s] (fun K=>K 2/\_/\K 7/\True) [0,3,7,8] [(4,vb (decide ((sAt b e)<=122)))] [] [] ⟨G9 (t:=9) (a:=b) (m:=e) (by kernel_rfl) rfl rfl (by kernel_rfl) (by kernel_rfl) (by kernel_rfl) D,ALe.bool n,G9 (t:=9) (a:=b) (m:=e) (by kernel_rfl) rfl rfl (by kernel_rfl) (by kernel_rfl) (by kernel_rfl) N,⟨⟩⟩ (Kn.R Fm (y (decide ((sAt b e)<=122)) h))
    ·exact Q5 Fm (sZ 6 [.s,.s,.k (sE (.v (.c (.d (.int .u8 (sAt b e)))))),.s,.w (vb false)]) (fun K=>K 2/\_/\True) [0,3,7,8] [(4,vb false)] [] [] ⟨G9 (t:=9) (a:=b) (m:=e) (by kernel_rfl) rfl rfl (by kernel_rfl) (by kernel_rfl) (by kernel_rfl) D,ALe.bool n,⟨⟩⟩ (Kn.R Fm (y false h))
  ·exact AW.exit (Kn.R Fm (I () h))
theorem Z9V {F c r} (h:Q6X F c=some r) :
  Q7 Tryz.prog 173 [AL c] [] (vi r) []:=by
 refine FJ Tryz.func173 fun C Fm=>?_
 unfold Q6X at h;refine Q0 Fm 1 [0] [] [] [] (AW.seq (Q0 Fm 3 [0] [(7,vb (decide ((40:Int)<(lI c))))] [] [] (Q3 h (fun y h=>?_) (fun y h=>?_))))
 ·exact Q0 Fm 1 [] [(2,vi 1)] [] [] (Z2 Fm h)
 ·refine AW.skip (Q6 (r:=r) (fun z:Unit=>Z6E F) [] nn [] nn (fun z h=>?_) (fun W u=>?_))
  ·exact Q0 Fm 1 [] [(2,vi 0)] [] [] (Z2 Fm h)
  ·refine Q0 Fm 3 [0] [(8,AL c),(9,vi (lI c)),(10,vi 0)] [] [] (AW.block (Kn.w Fm [(0,AL c),(8,AL c),(9,vi (lI c)),(10,vi 0)] [] ?_))
   refine Z5 (E':=fun z=>[(0,AL c),(8,AL c),(9,vi (lI c)),(10,vi z)]) (S':=fun z=>[]) (fun i e P t h=>?_) h;refine Q0 Fm 1 [0,8,9,10] [(11,vb (decide (e<(lI c))))] [] [] (AW.seq (Q3 h (fun A h=>?_) (fun A h=>?_)))
   ·refine AW.skip (AW.seq (AW.block ?_))
    obtain ⟨H,h⟩:=gS h;refine Y4 Fm (sA 6 []) [0,8,9,10] [(3,vi e),(4,pt 4)] [] [(4,bx [.d (.str (gn c e).n_),ci ((gn c e).f_),ci ((gn c e).m_)])] (cT H) (AW.block (AW.seq ?_))
    obtain ⟨O,N,h⟩:=bS h;refine Q5 Fm [.s,.s,.k _,.s,.s] (k1 2) [0,3,4,8,9,10] [(15,vb (!O))] [4] [] ⟨Q2 (Z3D N) Tryz.call137 [],⟨⟩⟩ (Q3 h (fun B h=>?_) (fun B h=>?_))
    ·exact Q0 Fm 1 [] [(2,vi 5)] [] [] (Z2 Fm h)
    ·refine Q6 (r:=r) (fun z:Bool=>Q2Y F c e i z) [0,3,4,8,9,10] (fun z=>[(20,vb z)]) [4] nn (fun X h=>?_) (fun T n=>?_)
     ·refine Q3 h (fun D h=>?_) (fun D h=>?_)
      ·exact Q0 Fm 1 [] [(2,vi 2)] [] [] (Z2 Fm h)
      ·refine Q6 (r:=r) (fun z:Bool=>Q2X F c e i z) [0,3,4,8,9,10] (fun z=>[(29,vb z)]) [4] nn (fun Y h=>?_) (fun U o=>?_)
       ·refine Q3 h (fun E h=>?_) (fun E h=>?_)
        ·exact Q0 Fm 1 [] [(2,vi 14)] [] [] (Z2 Fm h)
        ·refine Q6 (r:=r) (fun z:Bool=>Q2W F e i z) [0,8,9,10] (fun z=>[(38,vb z)]) [] nn (fun Z h=>?_) (fun V p=>?_)
         ·refine Q3 h (fun G h=>?_) (fun G h=>?_)
          ·exact Q0 Fm 1 [] [(2,vi 6)] [] [] (Z2 Fm h)
          ·refine AW.skip ?_
           obtain ⟨M,h⟩:=gS h;exact Q1 Fm [.s,.s] [0,8,9] [(10,vi (e+1))] [] [] (cT (cT M)) (Kn.R Fm (t (e+1) h))
         ·rcases Z6 h with ⟨m,h⟩|⟨m,h⟩
          ·obtain ⟨I,L,h⟩:=gS2 h
           exact Q5 Fm [.s,.s,.w (vb true),.s,.s,.s,.s,.s,.s,.s,.s,.k (sE (vb (sLt ((gn c e).n_) ((gn c (e-1)).n_)||sEq ((gn c e).n_) ((gn c (e-1)).n_)))),.s,.s] (fun K=>_/\(_/\True)/\_/\K 11/\True) [0,8,9,10] [(38,vb (sLt ((gn c e).n_) ((gn c (e-1)).n_)||sEq ((gn c e).n_) ((gn c (e-1)).n_)))] [] [] ⟨ALe.bool m,⟨I,⟨⟩⟩,L,Z8m (op:=.leq) (a:=((gn c e).n_)) (b:=((gn c (e-1)).n_)) rfl rfl (by kernel_rfl) (by kernel_rfl) (by kernel_rfl) rfl,⟨⟩⟩ (Kn.R Fm (p (sLt ((gn c e).n_) ((gn c (e-1)).n_)||sEq ((gn c e).n_) ((gn c (e-1)).n_)) h))
          ·exact Q1 Fm (sZ 11 [.s,.s,.w (vb false)]) [0,8,9,10] [(38,vb false)] [] [] (cT (ALe.bool m)) (Kn.R Fm (p false h))
       ·rcases Z6 h with ⟨l,h⟩|⟨l,h⟩
        ·exact Q1 Fm (sZ 5 [.s,.s,.s,.w (vb true)]) [0,3,4,8,9,10] [(29,vb true)] [4] [] (cT (ALe.bool l)) (Kn.R Fm (o true h))
        ·exact Q1 Fm (sZ 5 [.s,.s,.s,.w (vb false)]) [0,3,4,8,9,10] [(29,vb (decide ((31:Int)<((gn c e).m_))))] [4] [] (cT (ALe.bool l)) (Kn.R Fm (o (decide ((31:Int)<((gn c e).m_))) h))
     ·rcases Z6 h with ⟨j,h⟩|⟨j,h⟩
      ·exact Q1 Fm (sZ 5 [.s,.s,.s,.w (vb true)]) [0,3,4,8,9,10] [(20,vb true)] [4] [] (cT (ALe.bool j)) (Kn.R Fm (n true h))
      ·exact Q1 Fm (sZ 5 [.s,.s,.s,.w (vb false)]) [0,3,4,8,9,10] [(20,vb (decide ((40:Int)<((gn c e).f_))))] [4] [] (cT (ALe.bool j)) (Kn.R Fm (n (decide ((40:Int)<((gn c e).f_))) h))
   ·exact AW.exit (Kn.R Fm (u () h))
theorem Q9X {F a e r} (h:Q0t F a e=some r) :
  Q7 Tryz.prog 198 [AL a,.v (.c (.sem (J5 Tryz.prog (Q5x e))))] [] (vi r) []:=by
 refine FJ Tryz.func198 fun C Fm=>?_
 unfold Q0t at h;refine Q0 Fm 1 [0,1] [] [] [] (Q6 (r:=r) (fun z:Unit=>Q5c F) [] nn [] nn (fun z h=>?_) (fun y l=>?_))
 ·exact Q0 Fm 1 [] [(4,vi (-1:Int))] [] [] (Z2 Fm h)
 ·refine Q0 Fm 3 [0,1] [(7,vi (lI a)),(8,vi 0)] [] [] (AW.block (Kn.w Fm [(0,AL a),(1,.v (.c (.sem (J5 Tryz.prog (Q5x e))))),(7,vi (lI a)),(8,vi 0)] [] ?_))
  refine Z5 (E':=fun z=>[(0,AL a),(1,.v (.c (.sem (J5 Tryz.prog (Q5x e))))),(7,vi (lI a)),(8,vi z)]) (S':=fun z=>[]) (fun A b u j h=>?_) h;refine Q0 Fm 1 [0,1,7,8] [(9,vb (decide (b<(lI a))))] [] [] (AW.seq (Q3 h (fun m h=>?_) (fun m h=>?_)))
  ·refine AW.skip (AW.seq (AW.block (Q0 Fm 2 [0,1,7,8] [(5,vi b)] [] [] (AW.seq ?_))))
   obtain ⟨o,h⟩:=gS h;obtain ⟨i,t,h⟩:=bS h
   refine Q5 Fm (sA 5 [.k (sE (vb i))]) (fun K=>_/\K 5/\True) [0,1,5,7,8] [(16,vb i)] [] [] ⟨o,KAt.sem (F:=(Q5x e)) (args:=[.v (.g [ci ((gn a b).y_),ci ((gn a b).c_),.d (DL (gn a b).g_.t_)])]) ⟨(gn a b),i,t,rfl,rfl⟩ rfl (by kernel_rfl) (by kernel_rfl) (by kernel_rfl),⟨⟩⟩ (Q3 h (fun n h=>?_) (fun n h=>?_))
   ·exact Q0 Fm 2 [] [(4,vi b)] [] [] (Z2 Fm h)
   ·refine AW.skip ?_
    obtain ⟨p,h⟩:=gS h;exact Q1 Fm [.s,.s] [0,1,7] [(8,vi (b+1))] [] [] (cT (cT p)) (Kn.R Fm (j (b+1) h))
  ·exact AW.exit (Kn.R Fm (l () h))
theorem Q8v {F a b r} (h:G7 F a b=some r) :
  Q7 Tryz.prog 175 [AL a,.v (.c (.sem (J5 Tryz.prog (Q5x b))))] [] (vb r) []:=by
 refine FJ Tryz.func175 fun C Fm=>?_
 unfold G7 at h;refine Q0 Fm 1 [0,1] [] [] [] (AW.seq ?_)
 obtain ⟨d,e,h⟩:=bS h;exact Q5 Fm [.s,.s,.k (cE [] [] (vi d) [] []),.s,.s] (k1 2) [] [(4,vb (decide ((0:Int)<=d)))] [] [] ⟨KAt.cX (Q9X e) Tryz.call198 [] [] [.tmp 5,.tmp 6] ⟨.p,y7.semX (by kernel_rfl) (by kernel_rfl) (by kernel_rfl),⟨⟩⟩,⟨⟩⟩ (Z2 Fm h)
theorem Z5U {F a r} (h:Q5q F a=some r) :
  Q7 Tryz.prog 199 [gE a] [] (vi r) []:=by
 refine FJ Tryz.func199 fun C Fm=>?_
 unfold Q5q at h;refine Q0 Fm 2 [] [(1,pt 1)] [] [(1,bx (gC a))] (AW.seq (AW.block (Q6 (r:=r) (fun z:Bool=>Q2N F a z) [1] (fun z=>[(3,vb z)]) [1] nn (fun A h=>?_) (fun t e=>?_))))
 ·refine Q3 h (fun m h=>?_) (fun m h=>?_)
  ·exact Q0 Fm 1 [] [(2,vi 18)] [] [] (Z2 Fm h)
  ·refine Q6 (r:=r) (fun z:Bool=>Q2M F a z) [1] (fun z=>[(12,vb z)]) [1] nn (fun B h=>?_) (fun u i=>?_)
   ·refine Q3 h (fun n h=>?_) (fun n h=>?_)
    ·exact Q0 Fm 1 [] [(2,vi 13)] [] [] (Z2 Fm h)
    ·refine Q6 (r:=r) (fun z:Bool=>Q4U F z) [] (fun z=>[(21,vb z)]) [] nn (fun D h=>?_) (fun y j=>?_)
     ·refine Q3 h (fun o h=>?_) (fun o h=>?_)
      ·exact Q0 Fm 1 [] [(2,vi 7)] [] [] (Z2 Fm h)
      ·exact AW.skip (Q0 Fm 1 [] [(2,vi 0)] [] [] (Z2 Fm h))
     ·rcases Z6 h with ⟨d,h⟩|⟨d,h⟩
      ·exact Q1 Fm (sA 5 (sZ 6 [.w (vb true)])) [] [(21,vb true)] [] [] (cT (ALe.bool d)) (Kn.R Fm (j true h))
      ·obtain ⟨l,p,h⟩:=bS h
       exact Q5 Fm (sA 5 [.w (vb false),.s,.s,.k _,.s,.s,.s]) (fun K=>_/\K 8/\True) [] [(21,vb (!l))] [] [] ⟨ALe.bool d,Q2 (W9 p) Tryz.call65 [],⟨⟩⟩ (Kn.R Fm (j (!l) h))
   ·rcases Z6 h with ⟨c,h⟩|⟨c,h⟩
    ·exact Q1 Fm (sZ 5 [.s,.s,.s,.w (vb true)]) [1] [(12,vb true)] [1] [] (cT (ALe.bool c)) (Kn.R Fm (i true h))
    ·exact Q1 Fm (sZ 5 [.s,.s,.s,.w (vb false)]) [1] [(12,vb (decide ((40:Int)<=a.c_)))] [1] [] (cT (ALe.bool c)) (Kn.R Fm (i (decide ((40:Int)<=a.c_)) h))
 ·rcases Z6 h with ⟨b,h⟩|⟨b,h⟩
  ·exact Q1 Fm (sZ 5 [.s,.s,.s,.w (vb true)]) [1] [(3,vb true)] [1] [] (cT (ALe.bool b)) (Kn.R Fm (e true h))
  ·exact Q1 Fm (sZ 5 [.s,.s,.s,.w (vb false)]) [1] [(3,vb (decide ((100:Int)<a.y_)))] [1] [] (cT (ALe.bool b)) (Kn.R Fm (e (decide ((100:Int)<a.y_)) h))
theorem Z9W {F a r} (h:Z1B F a=some r) :
  Q7 Tryz.prog 238 [AL a] [] (vi r) []:=by
 refine FJ Tryz.func238 fun C Fm=>?_
 unfold Z1B at h;refine Q0 Fm 1 [0] [] [] [] (Q0 Fm 1 [0] [(3,vi 0)] [] [] (Q6 (r:=r) (fun z:Unit=>Z6G F) [3] nn [] nn (fun z h=>?_) (fun m d=>?_)))
 ·exact Q0 Fm 2 [] [(2,vi 0)] [] [] (Z2 Fm h)
 ·refine Q0 Fm 3 [3] [(6,AL a),(7,vi (lI a)),(8,vi 0)] [] [] (AW.block (Kn.w Fm [(3,vi 0),(6,AL a),(7,vi (lI a)),(8,vi 0)] [] ?_))
  refine Z5 (E':=fun z=>[(3,vi 0),(6,AL a),(7,vi (lI a)),(8,vi z)]) (S':=fun z=>[]) (fun n b l c h=>?_) h;refine Q0 Fm 1 [3,6,7,8] [(9,vb (decide (b<(lI a))))] [] [] (AW.seq (Q3 h (fun e h=>?_) (fun e h=>?_)))
  ·refine AW.skip (AW.seq (AW.block ?_))
   obtain ⟨j,h⟩:=gS h;refine Y4 Fm [.s,.s,.s] [3,6,7,8] [(5,vi (gn a b))] [] [] (cT j) (Q0 Fm 3 [3,5,6,7,8] [(14,vb ((gn a b) != (0:Int)))] [] [] (Q3 h (fun i h=>?_) (fun i h=>?_)))
   ·exact Q0 Fm 2 [] [(2,vi (gn a b))] [] [] (Z2 Fm h)
   ·refine AW.skip ?_
    obtain ⟨k,h⟩:=gS h;exact Q1 Fm [.s,.s] [3,6,7] [(8,vi (b+1))] [] [] (cT (cT k)) (Kn.R Fm (c (b+1) h))
  ·exact AW.exit (Kn.R Fm (d () h))
theorem Z5k {F e i r} (h:Q4h F e i=some r) :
  Q7 Tryz.prog 200 [gE e,gE i] [] (vi r) []:=by
 refine FJ Tryz.func200 fun C Fm=>?_
 unfold Q4h at h;refine Q0 Fm 3 [] [(2,pt 2),(3,pt 3)] [] [(2,bx (gC e)),(3,bx (gC i))] (AW.seq ?_)
 obtain ⟨a,j,h⟩:=bS h;obtain ⟨b,l,h⟩:=bS h
 obtain ⟨n,m,h⟩:=bS h;exact Q5 Fm (sA 4 [.k _,.s,.s,.s,.s,.k _,.w (AL ([a,b]:List Int)),.k _,.s]) (fun K=>K 4/\K 9/\(ALe (.v (.c (.d (.lst 2 (Z0n 1 [.int .i64 a,.int .i64 b]))))) (AL ([a,b]:List Int)))/\K 11/\True) [] [(4,vi n)] [] [] ⟨Q2 (Q5v j) Tryz.call195 [],Q2 (Q5v l) Tryz.call195 [],ALe.lst (.lit ([a,b]:List Int) (by kernel_rfl)),Q2 (Z9W m) Tryz.call238 [],⟨⟩⟩ (Z2 Fm h)
theorem Z7c {F a r} (h:Q9l F a=some r) :
  Q7 Tryz.prog 201 [AL a] [] (.v (.c (.d (MP r)))) []:=by
 refine FJ Tryz.func201 fun C Fm=>?_
 unfold Q9l at h;refine Q0 Fm 1 [0] [] [] [] (Q1K Fm [.k (rE { v:=.v (.c (.own 6)),new:=some (.ext (Y1Q Tryz.prog 3 65 [])) }),.s] (k1 0) [0] [(3,ow 6)] [] [(6,.ext (Y1Q Tryz.prog 3 65 ([]:List Int)))] ⟨Y7j (kT:=3) (eT:=65) rfl rfl (by kernel_rfl),⟨⟩⟩ (Q6 (r:=r) (fun z:(List (Int×(List Rg_)))=>Z2K F z) [3] nn [] (fun z=>[(956,.exr [6] (Q8m z none))]) (fun A h=>?_) (fun E l=>?_)))
 ·refine Q0 Fm 2 [] [(2,ow 6)] [956] [] (AW.ret (Kn.w Fm [(2,ow 6)] [(956,.exr [6] (Q8m A none))] (W0Y (by kernel_rfl) ?_)))
  obtain rfl:=Option.some.inj h;exact Kn.D Fm
 ·refine Q0 Fm 3 [3] [(7,AL a),(8,vi (lI a)),(9,vi 0)] [6] [] (AW.block (Kn.w Fm [(3,ow 6),(7,AL a),(8,vi (lI a)),(9,vi 0)] [(6,.ext (Y1Q Tryz.prog 3 65 ([]:List Int)))] (W0i Fm Rg_ (g:=956) (by kernel_rfl) (by kernel_rfl) (by kernel_rfl) (Kn.w Fm [(3,ow 6),(7,AL a),(8,vi (lI a)),(9,vi 0)] [(956,.exr [6] (Q8m ([]:List (Int×(List Rg_))) none))] (Kn.w Fm [(3,ow 6),(7,AL a),(8,vi (lI a)),(9,vi 0)] [(956,.exr [6] (Q8m ([]:List (Int×(List Rg_))) none))] ?_)))))
  refine Z5 (E':=fun z=>[(3,ow 6),(7,AL a),(8,vi (lI a)),(9,vi z.1)]) (S':=fun z=>[(956,.exr [6] (Q8m z.2 none))]) (fun G z B i h=>?_) h;obtain ⟨b,e⟩:=z
  refine Q0 Fm 1 [3,7,8,9] [(10,vb (decide (b<(lI a))))] [956] [] (AW.seq (Q3 h (fun n h=>?_) (fun n h=>?_)))
  ·refine AW.skip (AW.seq (AW.block ?_))
   obtain ⟨o,h⟩:=gS h;refine Y4 Fm (sA 4 []) [3,7,8,9] [(5,pt 5)] [956] [(5,bx [ci ((gn a b).y_),ci ((gn a b).c_),.d (DL (gn a b).g_.t_)])] (cT o) ?_
   obtain ⟨p,h⟩:=gS h;refine Q5 Fm (sA 6 [.k (xE [956] { v:=.v (.c (.cp 956 (1+Q0J ((gn a b).y_) e))) }),.s,.w (AL [(gn a b)]),.k (xE [956] { v:=.v (.c (.cp 22 (1+Q0J ((gn a b).y_) e))),del:=[956],new:=some (.exr [6] (Q8m (gApp ((gn a b).y_) ([(gn a b)]:List Rg_) e) (some (Q0J ((gn a b).y_) e)))) }),.k (xE [] { upd:=some (22,.exr [6] (Q8m (gApp ((gn a b).y_) ([(gn a b)]:List Rg_) e) none)) })]) (fun K=>K 6/\_/\K 9/\K 10/\True) [3,7,8,9] [] [] [(22,.exr [6] (Q8m (gApp ((gn a b).y_) ([(gn a b)]:List Rg_) e) none))] ⟨Y7k (gs:=e) (base:=6) (g:=956) (t:=228) (kT:=3) (eT:=65) (y:=(gn a b).y_) (by kernel_rfl) (by kernel_rfl) Go.Proofs.Tryz.zeroValue65 rfl rfl (by kernel_rfl) (by kernel_rfl) (by kernel_rfl) (by kernel_rfl),Q8h (gn a b),KAt.gApp (gs:=e) (m:=([(gn a b)]:List Rg_)) (base:=6) (g:=956) (d:=22) (y:=(gn a b).y_) Q0b Y7B rfl rfl rfl (by kernel_rfl) (by kernel_rfl) (by kernel_rfl) (by kernel_rfl) (by decide) (by kernel_rfl) p,(by obtain ⟨q,hq1,hq2⟩:=Y9M (y:=(gn a b).y_) (gs:=e) (m:=_);exact Y8Y (gs:=(gApp ((gn a b).y_) ([(gn a b)]:List Rg_) e)) (base:=6) (g:=22) (j:=Q0J ((gn a b).y_) e) (t:=228) (kT:=3) (eT:=65) (y:=(gn a b).y_) (by kernel_rfl) (by kernel_rfl) rfl rfl (by kernel_rfl) (by kernel_rfl) (by kernel_rfl) (by kernel_rfl) (by kernel_rfl) hq1 hq2),⟨⟩⟩ ?_
   obtain ⟨u,h⟩:=gS h;exact Q1 Fm [.s,.s] [3,7,8] [(9,vi (b+1))] [22] [] (cT (cT u)) (Q1e Fm [(956,22)] (i ((b+1),(gApp ((gn a b).y_) ([(gn a b)]:List Rg_) e)) h))
  ·exact AW.exit (Kn.R Fm (l e h))
theorem Z5O {F b c r} (h:Q5e F b c=some r) :
  Q7 Tryz.prog 117 [gE b,gE c] [] (vb r) []:=by
 refine FJ Tryz.func117 fun C Fm=>?_
 unfold Q5e at h;refine Q0 Fm 3 [] [(2,pt 2),(3,pt 3)] [] [(2,bx (gC b)),(3,bx (gC c))] (Q6 (r:=r) (fun z:Bool=>Q0d F z) [] (fun z=>[(4,vb z)]) [] nn (fun k h=>?_) (fun j d=>?_))
 ·exact Z2 Fm h
 ·rcases Z6 h with ⟨a,h⟩|⟨a,h⟩
  ·rcases Z6 h with ⟨e,h⟩|⟨e,h⟩
   ·rcases Z6 h with ⟨i,h⟩|⟨i,h⟩
    ·exact Q1 Fm (sA 5 (sZ 7 [.w (vb true),.s,.s,.s,.s,.s,.s,.w (vb true),.s,.s,.s,.s,.s,.s,.w (vb true)])) [] [(4,vb (decide (c.w_<b.H_)))] [] [] (cA (ALe.bool a) (cA (ALe.bool e) (cT (ALe.bool i)))) (Kn.R Fm (d (decide (c.w_<b.H_)) h))
    ·exact Q1 Fm (sA 5 (sZ 7 [.w (vb true),.s,.s,.s,.s,.s,.s,.w (vb true),.s,.s,.s,.s,.s,.s,.w (vb false)])) [] [(4,vb false)] [] [] (cA (ALe.bool a) (cA (ALe.bool e) (cT (ALe.bool i)))) (Kn.R Fm (d false h))
   ·exact Q1 Fm (sA 5 (sZ 14 [.w (vb true),.s,.s,.s,.s,.s,.s,.w (vb false)])) [] [(4,vb false)] [] [] (cA (ALe.bool a) (cT (ALe.bool e))) (Kn.R Fm (d false h))
  ·exact Q1 Fm (sA 5 (sZ 21 [.w (vb false)])) [] [(4,vb false)] [] [] (cT (ALe.bool a)) (Kn.R Fm (d false h))
theorem Z4a {F a b r} (h:Q5z F a b=some r) :
  Q7 Tryz.prog 116 [gE a,pt 0] [(0,.box true (gC b))] (vb r) [(0,.box true (gC b))]:=by
 refine FJ Tryz.func116 fun C Fm=>?_
 unfold Q5z at h;refine Q0 Fm 2 [1] [(2,pt 2)] [0] [(2,bx (gC a))] (AW.seq ?_)
 obtain ⟨d,c,h⟩:=bS h;exact Q5 Fm [.s,.s,.k _,.s] (k1 2) [] [(3,vb d)] [0] [] ⟨Q2 (Z5O c) Tryz.call117 [],⟨⟩⟩ (Z2 Fm h)
theorem Z5Q {F a b r} (h:Q7J F a b=some r) :
  Q7 Tryz.prog 115 [gE a,pt 0] [(0,.box true [.d (DL b.t_)])] (vb r) [(0,.box true [.d (DL b.t_)])]:=by
 refine FJ Tryz.func115 fun C Fm=>?_
 unfold Q7J at h;refine Q0 Fm 2 [1] [(2,pt 2)] [0] [(2,bx (gC a))] (AW.seq ?_)
 obtain ⟨c,e,h⟩:=bS h;exact Q5 Fm [.s,.s,.s,.k (cE [] [2] (vb c) [] []),.s] (k1 3) [] [(3,vb c)] [0] [] ⟨KAt.cX (Q1i e) Tryz.call69 [] [2] [.tmp 5,.tmp 6] ⟨.p,y7.cX Tryz.call116 [[ci a.L_,ci a.w_,ci a.R_,ci a.H_]] (fun args r hq=>by obtain ⟨y0,y,hq,rfl,rfl⟩:=hq;exact ⟨Eq.mp (by kernel_rfl) (Z4a hq),rfl⟩) [2] (⟨⟨false,(by kernel_rfl)⟩,⟨⟩⟩),⟨⟩⟩,⟨⟩⟩ (Z2 Fm h)
theorem Z7E {F j b r} (h:Q7K F j b=some r) :
  Q7 Tryz.prog 62 [.v (.g [.d (DL j.t_)]),.v (.g [.d (DL b.t_)])] [] (vb r) []:=by
 refine FJ Tryz.func62 fun C Fm=>?_
 unfold Q7K at h;refine Q0 Fm 3 [] [(2,pt 2),(3,pt 3)] [] [(2,bx [.d (DL j.t_)]),(3,bx [.d (DL b.t_)])] (Q6 (r:=r) (fun z:Bool=>Q6D F z) [] (fun z=>[(4,vb z)]) [] nn (fun t h=>?_) (fun o c=>?_))
 ·exact Z2 Fm h
 ·obtain ⟨u,i,h⟩:=bS h
  rcases Z6 h with ⟨a,h⟩|⟨a,h⟩
  ·obtain ⟨A,m,h⟩:=bS h
   rcases Z6 h with ⟨e,h⟩|⟨e,h⟩
   ·obtain ⟨l,n,h⟩:=bS h
    exact Q5 Fm [.s,.k _,.w (vb true),.s,.k _,.s,.w (vb true),.s,.s,.s,.k (cE [] [3] (vb l) [] []),.s,.s] (fun K=>K 1/\_/\K 4/\_/\K 10/\True) [] [(4,vb l)] [] [] ⟨Q2 (W9 i) Tryz.call65 [],ALe.bool a,Q2 (W9 m) Tryz.call65 [],ALe.bool e,KAt.cX (Q1i n) Tryz.call69 [] [3] [.tmp 13,.tmp 14] ⟨.p,y7.cX Tryz.call115 [[.d (DL b.t_)]] (fun args r hq=>by obtain ⟨y0,y,hq,rfl,rfl⟩:=hq;exact ⟨Eq.mp (by kernel_rfl) (Z5Q hq),rfl⟩) [3] (⟨⟨false,(by kernel_rfl)⟩,⟨⟩⟩),⟨⟩⟩,⟨⟩⟩ (Kn.R Fm (c l h))
   ·exact Q5 Fm (sZ 6 [.s,.k _,.w (vb true),.s,.k _,.s,.w (vb false)]) (fun K=>K 1/\_/\K 4/\_/\True) [] [(4,vb false)] [] [] ⟨Q2 (W9 i) Tryz.call65 [],ALe.bool a,Q2 (W9 m) Tryz.call65 [],ALe.bool e,⟨⟩⟩ (Kn.R Fm (c false h))
  ·exact Q5 Fm (sZ 10 [.s,.k _,.w (vb false)]) (fun K=>K 1/\_/\True) [] [(4,vb false)] [] [] ⟨Q2 (W9 i) Tryz.call65 [],ALe.bool a,⟨⟩⟩ (Kn.R Fm (c false h))
theorem Z5l {F a b r} (h:Q6J F a b=some r) :
  Q7 Tryz.prog 202 [gE a,pt 0] [(0,.box true (gC b))] (vb r) [(0,.box true (gC b))]:=by
 refine FJ Tryz.func202 fun C Fm=>?_
 unfold Q6J at h;refine Q0 Fm 2 [1] [(2,pt 2)] [0] [(2,bx (gC a))] (AW.seq ?_)
 obtain ⟨d,c,h⟩:=bS h;exact Q5 Fm (sA 4 [.k _,.s]) (k1 4) [] [(3,vb d)] [0] [] ⟨Q2 (Z7E c) Tryz.call62 [],⟨⟩⟩ (Z2 Fm h)
theorem Z7f {F i r} (h:Q6s F i=some r) :
  Q7 Tryz.prog 177 [AL i] [] (vi r) []:=by
 refine FJ Tryz.func177 fun C Fm=>?_
 unfold Q6s at h;refine Q0 Fm 1 [0] [] [] [] (AW.seq (Q0 Fm 3 [0] [(12,vb (decide ((200:Int)<(lI i))))] [] [] (Q3 h (fun P h=>?_) (fun P h=>?_))))
 ·exact Q0 Fm 1 [] [(2,vi 1)] [] [] (Z2 Fm h)
 ·refine AW.skip (Q6 (r:=r) (fun z:Unit=>Q5N F i) [0] nn [] nn (fun z h=>?_) (fun p0 L=>?_))
  ·refine Q6 (r:=r) (fun z:Unit=>Z2M F) [] nn [] nn (fun z h=>?_) (fun t0 O=>?_)
   ·exact Q0 Fm 1 [] [(2,vi 0)] [] [] (Z2 Fm h)
   ·refine AW.seq ?_
    obtain ⟨n,l0,h⟩:=bS h;refine Q5 Fm [.s,.k _,.k (rE { v:=.v (.c (.own 40)),new:=some (.ext (itP n none)) })] (k2 1 2) [] [(40,ow 40)] [] [(40,.ext (itP n none))] ⟨Q2 (Z7c l0) Tryz.call201 [],KAt.range (gs:=n) (t:=228) (kT:=3) (eT:=65) (d:=40) (by kernel_rfl) rfl rfl (by kernel_rfl) (by kernel_rfl),⟨⟩⟩ (AW.block (Kn.w Fm [(40,ow 40)] [(40,.ext (itP n none))] ?_))
    refine Z5 (E':=fun z=>[(40,ow 40)]) (S':=fun z=>[(40,.ext (itP z none))]) (fun u0 D q0 M h=>?_) h;refine AW.seq (Kn.w Fm [(40,ow 40)] [(40,.ext (itP D none))] (Y9e (by kernel_rfl) (by kernel_rfl) (by kernel_rfl) (fun c0=>?_) (fun a m d0=>?_)))
    ·have h:=Y5b h c0
     exact Kn.w Fm [(40,ow 40),(42,vb false)] [(40,.ext (itP D none))] (AW.seq (AW.cond (b:=false) (by kernel_rfl) (fun hb=>by cases hb) (fun _=>(AW.exit (Kn.R Fm (O () h))))))
    ·have h:=Y7R h d0
     refine Kn.w Fm [(40,ow 40),(42,vb true)] [(40,.ext (itP m (some a)))] (AW.seq (AW.cond (b:=true) (by kernel_rfl) (fun _=>?_) (fun hb=>by cases hb)));refine AW.skip (AW.block (Q1K Fm [.k (rE { v:=.t [.c (ci a.1),.c (.d (DL a.2))] }),.s,.s] (k1 0) [40] [(7,AL a.2)] [40] [] ⟨KAt.entry (gs:=m) (q:=a) (id:=40) rfl rfl (by kernel_rfl) (by kernel_rfl) (by kernel_rfl),⟨⟩⟩ (Q0 Fm 3 [7,40] [(45,AL a.2),(46,vi (lI a.2)),(47,vi 0)] [40] [] (AW.block (Kn.w Fm [(7,AL a.2),(40,ow 40),(45,AL a.2),(46,vi (lI a.2)),(47,vi 0)] [(40,.ext (itP m (some a)))] (Q7n [(7,AL a.2),(40,ow 40),(45,AL a.2),(46,vi (lI a.2)),(47,vi 0)] [(40,.ext (itP m none))] ⟨rfl,ALe.c (CLe.refl _),⟨rfl,ALe.c (CLe.refl _),⟨rfl,ALe.c (CLe.refl _),⟨rfl,ALe.c (CLe.refl _),⟨rfl,ALe.c (CLe.refl _),⟨⟩⟩⟩⟩⟩⟩ ⟨rfl,Y8d _ _,⟨⟩⟩ ?_))))))
     refine Z5 (E':=fun z=>[(7,AL a.2),(40,ow 40),(45,AL a.2),(46,vi (lI a.2)),(47,vi z)]) (S':=fun z=>[(40,.ext (itP m none))]) (fun w0 e s0 N h=>?_) h;refine Q0 Fm 1 [7,40,45,46,47] [(48,vb (decide (e<(lI a.2))))] [40] [] (AW.seq (Q3 h (fun W h=>?_) (fun W h=>?_)))
     ·refine AW.skip (AW.seq (AW.block ?_))
      obtain ⟨e0,h⟩:=gS h;refine Y4 Fm (sA 6 []) [7,40,45,46,47] [(8,vi e),(9,pt 9)] [40] [(9,bx [ci ((gn a.2 e).y_),ci ((gn a.2 e).c_),.d (DL (gn a.2 e).g_.t_)])] (cT e0) (AW.seq ?_)
      obtain ⟨B,h⟩:=gS h;obtain ⟨G,m0,h⟩:=bS h
      refine Q5 Fm [.s,.s,.w (AL (a.2.take e.toNat)),.s,.k (cE [] [9] (vb G) [] [])] (fun K=>(((sl (List.length a.2) (LF a.2) none (some e)).2/\∀ j,j<List.length a.2->(LF a.2 j).length=3))/\(ALe (.v (.c (.d (.lst (sl (List.length a.2) (LF a.2) none (some e)).1.1 (sl (List.length a.2) (LF a.2) none (some e)).1.2)))) (AL (a.2.take e.toNat)))/\K 4/\True) [7,40,45,46,47] [(56,vb G)] [40] [] ⟨⟨B,(Is.refl a.2).len⟩,ALe.lst (Z6k a.2 none (some e) B),KAt.cX (Q8v m0) Tryz.call175 [] [9] [.tmp 54,.tmp 55] ⟨.p,y7.cX Tryz.call202 [[ci ((gn a.2 e).y_),ci ((gn a.2 e).c_),.d (DL (gn a.2 e).g_.t_)]] (fun args r hq=>by obtain ⟨y0,y,hq,rfl,rfl⟩:=hq;exact ⟨Eq.mp (by kernel_rfl) (Z5l hq),rfl⟩) [9] (⟨⟨false,(by kernel_rfl)⟩,⟨⟩⟩),⟨⟩⟩,⟨⟩⟩ (Q3 h (fun X h=>?_) (fun X h=>?_))
      ·exact Q0 Fm 1 [] [(2,vi 11)] [] [] (Z2 Fm h)
      ·refine AW.skip ?_
       obtain ⟨i0,h⟩:=gS h;exact Q1 Fm [.s,.s] [7,40,45,46] [(47,vi (e+1))] [40] [] (cT (cT i0)) (Kn.R Fm (N (e+1) h))
     ·exact AW.exit (Kn.R Fm (M m h))
  ·refine Q0 Fm 3 [0] [(13,AL i),(14,vi (lI i)),(15,vi 0)] [] [] (AW.block (Kn.w Fm [(0,AL i),(13,AL i),(14,vi (lI i)),(15,vi 0)] [] ?_))
   refine Z5 (E':=fun z=>[(0,AL i),(13,AL i),(14,vi (lI i)),(15,vi z)]) (S':=fun z=>[]) (fun H l n0 I h=>?_) h;refine Q0 Fm 1 [0,13,14,15] [(16,vb (decide (l<(lI i))))] [] [] (AW.seq (Q3 h (fun T h=>?_) (fun T h=>?_)))
   ·refine AW.skip (AW.seq (AW.block ?_))
    obtain ⟨Y,h⟩:=gS h;refine Y4 Fm (sA 6 []) [0,13,14,15] [(3,vi l),(4,pt 4)] [] [(4,bx [ci ((gn i l).y_),ci ((gn i l).c_),.d (DL (gn i l).g_.t_)])] (cT Y) (AW.seq (AW.seq ?_))
    obtain ⟨u,j0,h⟩:=bS h;refine Q5 Fm [.s,.k _,.s] (k1 1) [0,3,4,13,14,15] [(5,vi u)] [4] [] ⟨Q2 (Z5U j0) Tryz.call199 [],⟨⟩⟩ (Q0 Fm 2 [0,3,4,5,13,14,15] [(23,vb (u != (0:Int)))] [4] [] (Q3 h (fun U h=>?_) (fun U h=>?_)))
    ·exact Q0 Fm 2 [] [(2,vi u)] [] [] (Z2 Fm h)
    ·refine AW.skip (Q6 (r:=r) (fun z:Bool=>Q3t F l H z) [0,13,14,15] (fun z=>[(36,vb z)]) [] nn (fun A0 h=>?_) (fun o0 A=>?_))
     ·refine Q3 h (fun V h=>?_) (fun V h=>?_)
      ·exact Q0 Fm 1 [] [(2,vi 3)] [] [] (Z2 Fm h)
      ·refine AW.skip ?_
       obtain ⟨b0,h⟩:=gS h;exact Q1 Fm [.s,.s] [0,13,14] [(15,vi (l+1))] [] [] (cT (cT b0)) (Kn.R Fm (I (l+1) h))
     ·rcases Z6 h with ⟨o,h⟩|⟨o,h⟩
      ·obtain ⟨Z,a0,h⟩:=gS2 h
       obtain ⟨E,k0,h⟩:=bS h;exact Q5 Fm [.s,.s,.w (vb true),.s,.s,.s,.s,.s,.s,.k _,.s,.s] (fun K=>_/\(_/\True)/\_/\K 9/\True) [0,13,14,15] [(36,vb (decide ((0:Int)<=E)))] [] [] ⟨ALe.bool o,⟨Z,⟨⟩⟩,a0,Q2 (Z5k k0) Tryz.call200 [],⟨⟩⟩ (Kn.R Fm (A (decide ((0:Int)<=E)) h))
      ·exact Q1 Fm (sZ 9 [.s,.s,.w (vb false)]) [0,13,14,15] [(36,vb false)] [] [] (cT (ALe.bool o)) (Kn.R Fm (A false h))
   ·exact AW.exit (Kn.R Fm (L () h))
theorem Z5X {F a r} (h:Q5s F a=some r) :
  Q7 Tryz.prog 268 [gE a] [] (vi r) []:=by
 refine FJ Tryz.func268 fun C Fm=>?_
 unfold Q5s at h;refine Q0 Fm 2 [] [(1,pt 1)] [] [(1,bx (gC a))] (AW.seq (AW.block (Q6 (r:=r) (fun z:Bool=>Q4V F a z) [1] (fun z=>[(3,vb z)]) [1] nn (fun H h=>?_) (fun B l=>?_))))
 ·refine Q3 h (fun p h=>?_) (fun p h=>?_)
  ·exact Q0 Fm 1 [] [(2,vi 2)] [] [] (Z2 Fm h)
  ·refine Q6 (r:=r) (fun z:Bool=>Q0g F a z) [1] (fun z=>[(12,vb z)]) [1] nn (fun I h=>?_) (fun D m=>?_)
   ·refine Q3 h (fun t h=>?_) (fun t h=>?_)
    ·exact Q0 Fm 1 [] [(2,vi 14)] [] [] (Z2 Fm h)
    ·refine Q6 (r:=r) (fun z:Bool=>Q0f F a z) [1] (fun z=>[(21,vb z)]) [1] nn (fun L h=>?_) (fun E c=>?_)
     ·refine Q3 h (fun u h=>?_) (fun u h=>?_)
      ·exact Q0 Fm 1 [] [(2,vi 9)] [] [] (Z2 Fm h)
      ·refine Q6 (r:=r) (fun z:Bool=>Q2O F z) [] (fun z=>[(37,vb z)]) [] nn (fun M h=>?_) (fun G n=>?_)
       ·refine Q3 h (fun y h=>?_) (fun y h=>?_)
        ·exact Q0 Fm 1 [] [(2,vi 7)] [] [] (Z2 Fm h)
        ·exact AW.skip (Q0 Fm 1 [] [(2,vi 0)] [] [] (Z2 Fm h))
       ·rcases Z6 h with ⟨j,h⟩|⟨j,h⟩
        ·exact Q1 Fm (sA 5 (sZ 6 [.w (vb true)])) [] [(37,vb true)] [] [] (cT (ALe.bool j)) (Kn.R Fm (n true h))
        ·obtain ⟨o,A,h⟩:=bS h
         exact Q5 Fm (sA 5 [.w (vb false),.s,.s,.k _,.s,.s,.s]) (fun K=>_/\K 8/\True) [] [(37,vb (!o))] [] [] ⟨ALe.bool j,Q2 (W9 A) Tryz.call65 [],⟨⟩⟩ (Kn.R Fm (n (!o) h))
     ·rcases Z6 h with ⟨b,h⟩|⟨b,h⟩
      ·exact Q1 Fm (sZ 12 [.s,.s,.s,.w (vb true)]) [1] [(21,vb true)] [1] [] (cT (ALe.bool b)) (Kn.R Fm (c true h))
      ·rcases Z6 h with ⟨i,h⟩|⟨i,h⟩
       ·exact Q1 Fm (sZ 5 [.s,.s,.s,.w (vb false),.s,.s,.s,.s,.s,.s,.w (vb true)]) [1] [(21,vb true)] [1] [] (cA (ALe.bool b) (cT (ALe.bool i))) (Kn.R Fm (c true h))
       ·exact Q1 Fm (sZ 5 [.s,.s,.s,.w (vb false),.s,.s,.s,.s,.s,.s,.w (vb false)]) [1] [(21,vb (decide ((36865:Int)<a.u_)))] [1] [] (cA (ALe.bool b) (cT (ALe.bool i))) (Kn.R Fm (c (decide ((36865:Int)<a.u_)) h))
   ·rcases Z6 h with ⟨e,h⟩|⟨e,h⟩
    ·exact Q1 Fm (sZ 5 [.s,.s,.s,.w (vb true)]) [1] [(12,vb true)] [1] [] (cT (ALe.bool e)) (Kn.R Fm (m true h))
    ·exact Q1 Fm (sZ 5 [.s,.s,.s,.w (vb false)]) [1] [(12,vb (decide ((15:Int)<a.k_)))] [1] [] (cT (ALe.bool e)) (Kn.R Fm (m (decide ((15:Int)<a.k_)) h))
 ·rcases Z6 h with ⟨d,h⟩|⟨d,h⟩
  ·exact Q1 Fm (sZ 5 [.s,.s,.s,.w (vb true)]) [1] [(3,vb true)] [1] [] (cT (ALe.bool d)) (Kn.R Fm (l true h))
  ·exact Q1 Fm (sZ 5 [.s,.s,.s,.w (vb false)]) [1] [(3,vb (decide ((1073741824:Int)<a.N_)))] [1] [] (cT (ALe.bool d)) (Kn.R Fm (l (decide ((1073741824:Int)<a.N_)) h))
theorem Z7h {F a r} (h:Q6w F a=some r) :
  Q7 Tryz.prog 239 [AL a] [] (vi r) []:=by
 refine FJ Tryz.func239 fun C Fm=>?_
 unfold Q6w at h;refine Q0 Fm 1 [0] [] [] [] (AW.seq (Q0 Fm 3 [0] [(8,vb (decide ((60:Int)<(lI a))))] [] [] (Q3 h (fun n h=>?_) (fun n h=>?_))))
 ·exact Q0 Fm 1 [] [(2,vi 1)] [] [] (Z2 Fm h)
 ·refine AW.skip (Q6 (r:=r) (fun z:Unit=>Z2Q F) [] nn [] nn (fun z h=>?_) (fun H m=>?_))
  ·exact Q0 Fm 1 [] [(2,vi 0)] [] [] (Z2 Fm h)
  ·refine Q0 Fm 3 [0] [(9,AL a),(10,vi (lI a)),(11,vi 0)] [] [] (AW.block (Kn.w Fm [(0,AL a),(9,AL a),(10,vi (lI a)),(11,vi 0)] [] ?_))
   refine Z5 (E':=fun z=>[(0,AL a),(9,AL a),(10,vi (lI a)),(11,vi z)]) (S':=fun z=>[]) (fun j b E l h=>?_) h;refine Q0 Fm 1 [0,9,10,11] [(12,vb (decide (b<(lI a))))] [] [] (AW.seq (Q3 h (fun o h=>?_) (fun o h=>?_)))
   ·refine AW.skip (AW.seq (AW.block ?_))
    obtain ⟨u,h⟩:=gS h;refine Y4 Fm (sA 6 []) [0,9,10,11] [(3,vi b),(4,pt 4)] [] [(4,bx [ci ((gn a b).N_),ci ((gn a b).k_),ci ((gn a b).F_),ci ((gn a b).u_),.d (DL (gn a b).g_.t_)])] (cT u) (AW.seq (AW.seq ?_))
    obtain ⟨e,D,h⟩:=bS h;refine Q5 Fm [.s,.k _,.s] (k1 1) [0,3,4,9,10,11] [(5,vi e)] [4] [] ⟨Q2 (Z5X D) Tryz.call268 [],⟨⟩⟩ (Q0 Fm 2 [0,3,4,5,9,10,11] [(19,vb (e != (0:Int)))] [4] [] (Q3 h (fun p h=>?_) (fun p h=>?_)))
    ·exact Q0 Fm 2 [] [(2,vi e)] [] [] (Z2 Fm h)
    ·refine AW.skip (Q6 (r:=r) (fun z:Bool=>Q3x F b j z) [0,9,10,11] (fun z=>[(33,vb z)]) [] nn (fun I h=>?_) (fun G i=>?_))
     ·refine Q3 h (fun t h=>?_) (fun t h=>?_)
      ·exact Q0 Fm 1 [] [(2,vi 3)] [] [] (Z2 Fm h)
      ·refine AW.skip ?_
       obtain ⟨B,h⟩:=gS h;exact Q1 Fm [.s,.s] [0,9,10] [(11,vi (b+1))] [] [] (cT (cT B)) (Kn.R Fm (l (b+1) h))
     ·rcases Z6 h with ⟨c,h⟩|⟨c,h⟩
      ·obtain ⟨y,A,h⟩:=gS2 h
       exact Q1 Fm (sZ 10 [.s,.s,.w (vb true)]) [0,9,10,11] [(33,vb (decide (((gn a b).N_)<=((gn a (b-1)).N_))))] [] [] (cA (ALe.bool c) (cA (cT y) (cT A))) (Kn.R Fm (i (decide (((gn a b).N_)<=((gn a (b-1)).N_))) h))
      ·exact Q1 Fm (sZ 10 [.s,.s,.w (vb false)]) [0,9,10,11] [(33,vb false)] [] [] (cT (ALe.bool c)) (Kn.R Fm (i false h))
   ·exact AW.exit (Kn.R Fm (m () h))
theorem Z7g {F e a r} (h:Q6v F e a=some r) :
  Q7 Tryz.prog 203 [AL e,vi a] [] (vi r) []:=by
 refine FJ Tryz.func203 fun C Fm=>?_
 unfold Q6v at h;refine Q0 Fm 1 [0,1] [] [] [] (AW.seq (AW.seq ?_))
 obtain ⟨c,l,h⟩:=bS h;refine Q5 Fm [.s,.k _,.s] (k1 1) [1] [(5,vi c)] [] [] ⟨Q2 (Z7h l) Tryz.call239 [],⟨⟩⟩ (Q0 Fm 2 [1,5] [(9,vb (c != (0:Int)))] [] [] (Q3 h (fun i h=>?_) (fun i h=>?_)))
 ·exact Q0 Fm 2 [] [(4,vi c)] [] [] (Z2 Fm h)
 ·refine AW.skip (AW.seq (Q6 (r:=r) (fun z:Bool=>Q3u F z) [] (fun z=>[(16,vb z)]) [] nn (fun n h=>?_) (fun m d=>?_)))
  ·refine Q3 h (fun j h=>?_) (fun j h=>?_)
   ·exact Q0 Fm 1 [] [(4,vi 9)] [] [] (Z2 Fm h)
   ·exact AW.skip (Q0 Fm 1 [] [(4,vi 0)] [] [] (Z2 Fm h))
  ·rcases Z6 h with ⟨b,h⟩|⟨b,h⟩
   ·exact Q1 Fm [.s,.s,.w (vb true),.s,.s,.s] [] [(16,vb true)] [] [] (cT (ALe.bool b)) (Kn.R Fm (d true h))
   ·exact Q1 Fm [.s,.s,.w (vb false),.s,.s,.s] [] [(16,vb (decide ((36864:Int)<a)))] [] [] (cT (ALe.bool b)) (Kn.R Fm (d (decide ((36864:Int)<a)) h))
theorem Q7A {F a r} (h:Q1s F a=some r) :
  Q7 Tryz.prog 112 [AL a] [] (AL r) []:=by
 refine FJ Tryz.func112 fun C Fm=>?_
 unfold Q1s at h;refine Q0 Fm 1 [0] [] [] [] (AW.seq (Q1K Fm [.s,.k (sE (nb (List.length a)))] (k1 1) [0] [(4,.v (.c (.sem (nbP (List.length a)))))] [] [] ⟨KAt.nil (t:=30) (el:=85) (n:=List.length a) (by kernel_rfl) rfl rfl (by kernel_rfl) (by kernel_rfl) (by kernel_rfl),⟨⟩⟩ (Y1H (n:=List.length a) (by kernel_rfl) (fun d=>?_) ?_)))
 ·have h:=W0u h d
  refine Q0 Fm 1 [] [(2,.v (.c f0))] [] [] (AW.ret ?_);obtain rfl:=Option.some.inj h
  exact Kn.w Fm [(2,.v (.c f0))] [] (Q7n [(2,AL (α:=Rect) [])] [] ⟨rfl,ALe.c (CLe.fl .nil),⟨⟩⟩ True.intro (Kn.D Fm))
 ·have h:=W0v h
  refine AW.skip ?_;obtain ⟨b,h⟩:=gS h
  refine Z0q Fm [.m,.s,.s,.s] [] [(2,ow 7)] [] [(7,AO (([]:List Rect)++a))] (cT (cA b (cT (lfl a)))) [(7,rA0 a)] ⟨oA0,⟨⟩⟩ (AW.ret ?_);obtain rfl:=Option.some.inj h
  exact Kn.w Fm [(2,ow 7)] [(7,AO (([]:List Rect)++a))] (Q1F [(2,AL (([]:List Rect)++a))] [] (Kn.D Fm))
theorem Z5Y {F a r} (h:Q5t F a=some r) :
  Q7 Tryz.prog 241 [gE a] [] (gE r) []:=by
 refine FJ Tryz.func241 fun C Fm=>?_
 unfold Q5t at h;refine Q0 Fm 2 [] [(1,pt 1),(2,pt 2)] [] [(1,bx (gC a)),(2,bx [ci 0,ci 0,ci 0,ci 0,f0])] (AW.seq ?_)
 obtain ⟨b,c,h⟩:=bS h;exact Q5 Fm [.s,.s,.s,.k _,.s,.s,.s] (k1 3) [1,2] [] [2] [(1,bx [ci a.N_,ci a.k_,ci a.F_,ci a.u_,.d (DL b)])] ⟨Q2 (Q7A c) Tryz.call112 [],⟨⟩⟩ (Q0 Fm 2 [2] [] [] [(2,bx [ci a.N_,ci a.k_,ci a.F_,ci a.u_,.d (DL b)])] (Z2 Fm h))
theorem Z9e {F a r} (h:Q9O F a=some r) :
  Q7 Tryz.prog 205 [AL a] [] (ow 100) [(100,AO r)]:=by
 refine FJ Tryz.func205 fun C Fm=>?_
 unfold Q9O at h;refine Q1K Fm [.m] (fun K=>True) [0] [] [] [] True.intro (y8 Fm [.m] (fun K=>True) [0] [(3,ow 3)] [] [(3,AO ([]:List A2_))] True.intro [(3,.arr 5 (0) nn)] ⟨OLe.is ((Is.nil (α:=A2_))),⟨⟩⟩ (Q6 (r:=r) (fun z:(List A2_)=>Z1w F z) [3] nn [] (fun z=>[(3,AO z)]) (fun t h=>?_) (fun y j=>?_)))
 ·refine Q0 Fm 2 [] [(2,ow 3)] [3] [] (AW.ret ?_)
  obtain rfl:=Option.some.inj h;exact Q2P Fm [(100,3)] [(2,ow 100)] [(100,AO t)] (Q3b Fm (by kernel_rfl))
 ·refine Q0 Fm 3 [3] [(6,AL a),(7,vi (lI a)),(8,vi 0)] [3] [] (AW.block (Kn.w Fm [(3,ow 3),(6,AL a),(7,vi (lI a)),(8,vi 0)] [(3,AO ([]:List A2_))] ?_))
  refine Z5 (E':=fun z=>[(3,ow 3),(6,AL a),(7,vi (lI a)),(8,vi z.1)]) (S':=fun z=>[(3,AO z.2)]) (fun A z u i h=>?_) h;obtain ⟨b,e⟩:=z
  refine Q0 Fm 1 [3,6,7,8] [(9,vb (decide (b<(lI a))))] [3] [] (AW.seq (Q3 h (fun l h=>?_) (fun l h=>?_)))
  ·refine AW.skip (AW.seq (AW.block ?_))
   obtain ⟨n,h⟩:=gS h;refine Y4 Fm (sA 4 []) [3,6,7,8] [(5,pt 5)] [3] [(5,bx [ci ((gn a b).N_),ci ((gn a b).k_),ci ((gn a b).F_),ci ((gn a b).u_),.d (DL (gn a b).g_.t_)])] (cT n) ?_
   obtain ⟨c,q,h⟩:=bS h;obtain ⟨o,h⟩:=gS h
   refine Z1C Fm [.s,.s,.k _,.w (AL [c]),.s,.s] (fun K=>K 2/\_/\(_/\_/\True)/\True) [6,7,8] [(3,ow 16)] [] [(16,AO (e++([c]:List A2_)))] ⟨Q2 (Z5Y q) Tryz.call241 [],Q8h c,⟨o,lfl ([c]:List A2_),⟨⟩⟩,⟨⟩⟩ [(16,rAp e ([c]:List A2_))] ⟨oAp,⟨⟩⟩ ?_;obtain ⟨p,h⟩:=gS h
   exact Q1 Fm [.s,.s] [3,6,7] [(8,vi (b+1))] [16] [] (cT (cT p)) (Q1e Fm [(3,16)] (i ((b+1),(e++([c]:List A2_))) h))
  ·exact AW.exit (Kn.R Fm (j e h))
theorem Q6V {F a b r} (h:Q4v F a b=some r) :
  Q7 Tryz.prog 207 [gE a,vi b] [] (vb r) []:=by
 refine FJ Tryz.func207 fun C Fm=>?_
 unfold Q4v at h;refine Q0 Fm 2 [1] [(2,pt 2)] [] [(2,bx (gC a))] (Q6 (r:=r) (fun z:Bool=>Q5Q F z) [] (fun z=>[(4,vb z)]) [] nn (fun i h=>?_) (fun e d=>?_))
 ·exact Z2 Fm h
 ·rcases Z6 h with ⟨c,h⟩|⟨c,h⟩
  ·exact Q1 Fm (sA 4 (sZ 6 [.w (vb true)])) [] [(4,vb (decide (b<a.u_)))] [] [] (cT (ALe.bool c)) (Kn.R Fm (d (decide (b<a.u_)) h))
  ·exact Q1 Fm (sA 4 (sZ 6 [.w (vb false)])) [] [(4,vb false)] [] [] (cT (ALe.bool c)) (Kn.R Fm (d false h))
theorem Z8e {F a b r} (h:Z0N F a b=some r) :
  Q7 Tryz.prog 206 [gE a,pt 0] [(0,.box true [ci b])] (vb r) [(0,.box true [ci b])]:=by
 refine FJ Tryz.func206 fun C Fm=>?_
 unfold Z0N at h;refine Q0 Fm 2 [1] [(2,pt 2)] [0] [(2,bx (gC a))] (AW.seq ?_)
 obtain ⟨d,c,h⟩:=bS h;exact Q5 Fm [.s,.s,.k _,.s,.s] (k1 2) [] [(3,vb (!d))] [0] [] ⟨Q2 (Q6V c) Tryz.call207 [],⟨⟩⟩ (Z2 Fm h)
theorem Q9o {F a e r} (h:Q0i F a e=some r) :
  Q7 Tryz.prog 240 [AL a,.v (.c (.sem (J5 Tryz.prog (Q0O e))))] [] (vi r) []:=by
 refine FJ Tryz.func240 fun C Fm=>?_
 unfold Q0i at h;refine Q0 Fm 1 [0,1] [] [] [] (Q6 (r:=r) (fun z:Unit=>Q4I F) [] nn [] nn (fun z h=>?_) (fun y l=>?_))
 ·exact Q0 Fm 1 [] [(4,vi (-1:Int))] [] [] (Z2 Fm h)
 ·refine Q0 Fm 3 [0,1] [(7,vi (lI a)),(8,vi 0)] [] [] (AW.block (Kn.w Fm [(0,AL a),(1,.v (.c (.sem (J5 Tryz.prog (Q0O e))))),(7,vi (lI a)),(8,vi 0)] [] ?_))
  refine Z5 (E':=fun z=>[(0,AL a),(1,.v (.c (.sem (J5 Tryz.prog (Q0O e))))),(7,vi (lI a)),(8,vi z)]) (S':=fun z=>[]) (fun A b u j h=>?_) h;refine Q0 Fm 1 [0,1,7,8] [(9,vb (decide (b<(lI a))))] [] [] (AW.seq (Q3 h (fun m h=>?_) (fun m h=>?_)))
  ·refine AW.skip (AW.seq (AW.block (Q0 Fm 2 [0,1,7,8] [(5,vi b)] [] [] (AW.seq ?_))))
   obtain ⟨o,h⟩:=gS h;obtain ⟨i,t,h⟩:=bS h
   refine Q5 Fm (sA 5 [.k (sE (vb i))]) (fun K=>_/\K 5/\True) [0,1,5,7,8] [(16,vb i)] [] [] ⟨o,KAt.sem (F:=(Q0O e)) (args:=[.v (.g [ci ((gn a b).N_),ci ((gn a b).k_),ci ((gn a b).F_),ci ((gn a b).u_),.d (DL (gn a b).g_.t_)])]) ⟨(gn a b),i,t,rfl,rfl⟩ rfl (by kernel_rfl) (by kernel_rfl) (by kernel_rfl),⟨⟩⟩ (Q3 h (fun n h=>?_) (fun n h=>?_))
   ·exact Q0 Fm 2 [] [(4,vi b)] [] [] (Z2 Fm h)
   ·refine AW.skip ?_
    obtain ⟨p,h⟩:=gS h;exact Q1 Fm [.s,.s] [0,1,7] [(8,vi (b+1))] [] [] (cT (cT p)) (Kn.R Fm (j (b+1) h))
  ·exact AW.exit (Kn.R Fm (l () h))
theorem Q8J {F p t r} (h:Q0a F p t=some r) :
  Q7 Tryz.prog 204 [ow 0,.v (.c (.sem (J5 Tryz.prog (Q0O t))))] [(0,AO p)] (ow 100) [(100,AO r)]:=by
 refine FJ Tryz.func204 fun C Fm=>?_
 unfold Q0a at h;refine Q1K Fm [.m] (fun K=>True) [0,1] [] [0] [] True.intro (AW.seq ?_)
 obtain ⟨q,W,h⟩:=bS h;refine Q5 Fm [.s,.s,.k (sE (vi q)),.s] (k1 2) [0,1] [(5,vi q)] [0] [] ⟨Z3C (Q9o W) Tryz.call240 [0] [.tmp 8,.tmp 9] rfl (by kernel_rfl) (by kernel_rfl) ⟨Z8o.own 0 (es:=5) (n:=List.length p) (f:=LF p) (by kernel_rfl) (by kernel_rfl) (by kernel_rfl) (by kernel_rfl),Z8o.sem (by kernel_rfl) (by kernel_rfl),⟨⟩⟩,⟨⟩⟩ (AW.seq (Q0 Fm 2 [0,1,5] [(12,vb (q==(-1:Int)))] [0] [] (Q3 h (fun L h=>?_) (fun L h=>?_))))
 ·refine Q0 Fm 2 [] [(4,ow 0)] [0] [] (AW.ret ?_)
  obtain rfl:=Option.some.inj h;exact Q2P Fm [(100,0)] [(4,ow 100)] [(100,AO p)] (Q3b Fm (by kernel_rfl))
 ·refine AW.skip (Q6 (r:=r) (fun z:Int×(List A2_)=>Q1v F z.1 z.2) [0] (fun z=>[(5,vi z.1)]) [] (fun z=>[(0,AO z.2)]) (fun z h=>?_) (fun c0 I=>?_))
  ·obtain ⟨a,b⟩:=z
   obtain ⟨V,h⟩:=gS h;refine y8 Fm [.s,.s,.k (rE { v:=.v (.c (.sub 0 5 (0+(a).toNat) ((List.length b)-(a).toNat))) }),.k (rE { v:=.any,upd:=some (0,.arr 5 (List.length b) (fun i=>if (0+(a).toNat)<=i/\i<(0+(a).toNat)+((List.length b)-(a).toNat) then (fun _=>[.int .i64 0,.int .i64 0,.int .i64 0,.int .i64 0,DL (α:=Rect) []]) (i-(0+(a).toNat)) else (LF b) i)) })] (k2 2 3) [0,5] [] [] [(0,AO (clr b (0+(a).toNat) ((List.length b)-(a).toNat)))] ⟨Q7a (l:=(some a)) (u:=none) (id:=0) (lo0:=0) (n:=(List.length b)) (N:=List.length b) (f:=LF b) Q0b W0m rfl rfl (by kernel_rfl) (by kernel_rfl) (by kernel_rfl) (by kernel_rfl) (by kernel_rfl) V (by kernel_rfl),Z7m (id:=0) (lo0:=(0+(a).toNat)) (n:=((List.length b)-(a).toNat)) (N:=List.length b) (f:=(LF b)) Q0b W0m [.int .i64 0,.int .i64 0,.int .i64 0,.int .i64 0,.lst 0 fun _=>[]] [.int .i64 0,.int .i64 0,.int .i64 0,.int .i64 0,DL (α:=Rect) []] ⟨DLe.refl _,DLe.refl _,DLe.refl _,DLe.refl _,DLe.nil _ _,⟨⟩⟩ rfl rfl (by kernel_rfl) (Nat.succ_pos _) (by kernel_rfl) (by kernel_rfl) (by kernel_rfl) (by kernel_rfl) rfl,⟨⟩⟩ [(0,.arr 5 (List.length b) (fun i=>if (0+(a).toNat)<=i/\i<(0+(a).toNat)+((List.length b)-(a).toNat) then (fun _=>[.int .i64 0,.int .i64 0,.int .i64 0,.int .i64 0,DL (α:=Rect) []]) (i-(0+(a).toNat)) else (LF b) i))] ⟨OLe.is (Is.clr (l:=b) (0+(a).toNat) ((List.length b)-(a).toNat) (zd:=[.int .i64 0,.int .i64 0,.int .i64 0,.int .i64 0,DL (α:=Rect) []]) (by kernel_rfl)),⟨⟩⟩ ?_
   obtain ⟨E,h⟩:=gS h;refine Z0q Fm [.s,.s,.m,.s] [] [(4,ow 41)] [] [(41,AO ((clr b (0+(a).toNat) ((List.length b)-(a).toNat)).take (a).toNat))] (cT E) [(41,.arr 5 ((a).toNat) (LF (clr b (0+(a).toNat) ((List.length b)-(a).toNat))))] ⟨OLe.is (Is.take (Is.refl (clr b (0+(a).toNat) ((List.length b)-(a).toNat))) E.2),⟨⟩⟩ (AW.ret ?_)
   obtain rfl:=Option.some.inj h;exact Q2P Fm [(100,41)] [(4,ow 100)] [(100,AO ((clr b (0+(a).toNat) ((List.length b)-(a).toNat)).take (a).toNat))] (Q3b Fm (by kernel_rfl))
  ·obtain ⟨P,h⟩:=gS h
   refine Y4 Fm [.s,.s,.s] [0,1,5] [(6,vi (q+1))] [0] [] (cT (cT P)) (AW.block (Kn.w Fm [(0,ow 0),(1,.v (.c (.sem (J5 Tryz.prog (Q0O t))))),(5,vi q),(6,vi (q+1))] [(0,AO p)] ?_));refine Z5 (E':=fun z=>[(0,ow 0),(1,.v (.c (.sem (J5 Tryz.prog (Q0O t))))),(5,vi z.1),(6,vi z.2.1)]) (S':=fun z=>[(0,AO z.2.2)]) (fun G z a0 H h=>?_) h
   obtain ⟨o,j,e⟩:=z;refine AW.seq (Q0 Fm 4 [0,1,5,6] [(19,vb (decide (j<(lI e))))] [0] [] (Q3 h (fun M h=>?_) (fun M h=>?_)))
   ·refine AW.skip (Q6 (r:=r) (fun z:Int×(List A2_)=>J8 F j G z.1 z.2) [0,1,6] (fun z=>[(5,vi z.1)]) [] (fun z=>[(0,AO z.2)]) (fun z h=>?_) (fun b0 B=>?_))
    ·obtain ⟨Y,Z⟩:=z
     obtain ⟨U,h⟩:=gS h;exact Q1 Fm [.s,.s,.s] [0,1,5] [(6,vi (j+1))] [0] [] (cT (cT U)) (Kn.R Fm (H (Y,(j+1),Z) h))
    ·refine AW.block ?_
     obtain ⟨D,h⟩:=gS h;refine Y4 Fm (sA 6 []) [0,1,5,6] [(7,pt 7)] [0] [(7,bx [ci ((gn e j).N_),ci ((gn e j).k_),ci ((gn e j).F_),ci ((gn e j).u_),.d (DL (gn e j).g_.t_)])] (cA D (cT (Y6 D))) (AW.seq ?_)
     obtain ⟨A,X,h⟩:=bS h;refine Q5 Fm [.s,.s,.k (sE (vb A)),.s] (k1 2) [0,1,5,6,7] [(29,vb (!A))] [0,7] [] ⟨KAt.sem (F:=(Q0O t)) (args:=[.v (.g [ci ((gn e j).N_),ci ((gn e j).k_),ci ((gn e j).F_),ci ((gn e j).u_),.d (DL (gn e j).g_.t_)])]) ⟨(gn e j),A,X,rfl,rfl⟩ rfl (by kernel_rfl) (by kernel_rfl) (by kernel_rfl),⟨⟩⟩ (Q3 h (fun O h=>?_) (fun O h=>?_))
     ·obtain ⟨y,h⟩:=gS h
      refine Z0q Fm (sA 5 []) [0,1,5,6] [] [] [(0,AO (List.set e o.toNat (gn e j)))] (cA y (cT (Y6 y))) [(0,rSt e o.toNat 0 [.int .i64 (gn e j).N_,.int .i64 (gn e j).k_,.int .i64 (gn e j).F_,.int .i64 (gn e j).u_,DL (gn e j).g_.t_])] ⟨oSt (Y6 y),⟨⟩⟩ ?_;obtain ⟨T,h⟩:=gS h
      exact Q1 Fm [.s,.s,.s] [0,1,6] [(5,vi (o+1))] [0] [] (cT (cT T)) (Kn.R Fm (B ((o+1),(List.set e o.toNat (gn e j))) h))
     ·exact AW.skip (Kn.R Fm (B (o,e) h))
   ·exact AW.exit (Kn.R Fm (I (o,e) h))
theorem Z3X {F i b r} (h:Q9d F i b=some r) :
  Q7 Tryz.prog 178 [AL i,vi b] [] (.t [.c (.d (DL r.1)),.c (ci r.2)]) []:=by
 refine FJ Tryz.func178 fun C Fm=>?_
 unfold Q9d at h;refine Q0 Fm 3 [0] [(3,pt 3)] [] [(3,bx [ci b])] (AW.seq (AW.seq ?_))
 obtain ⟨a,l,h⟩:=bS h;refine Q5 Fm [.s,.s,.k _,.s] (k1 2) [0,3] [(6,vi a)] [3] [] ⟨Q2 (Z7g l) Tryz.call203 [],⟨⟩⟩ (Q0 Fm 2 [0,3,6] [(11,vb (a != (0:Int)))] [3] [] (Q3 h (fun j h=>?_) (fun j h=>?_)))
 ·refine Q0 Fm 3 [] [(4,.v (.c f0)),(5,vi a)] [] [] (AW.ret ?_)
  obtain rfl:=Option.some.inj h;exact Kn.w Fm [(4,.v (.c f0)),(5,vi a)] [] (Q7n [(4,AL (α:=A2_) []),(5,vi a)] [] ⟨rfl,ALe.c (CLe.fl .nil),⟨rfl,ALe.c (CLe.refl _),⟨⟩⟩⟩ True.intro (Kn.D Fm))
 ·refine AW.skip (AW.seq ?_)
  obtain ⟨o,m,h⟩:=bS h;obtain ⟨e,n,h⟩:=bS h
  refine Q5 Fm [.s,.k _,.s,.k (cE [(0,14),(100,16)] [3] (ow 100) [(0,AO o)] [(100,AO e)]),.s,.s] (k2 1 3) [] [(4,ow 16),(5,vi 0)] [] [(16,AO e)] ⟨Q2 (Z9e m) Tryz.call205 [(100,14)],KAt.cX (Q8J n) Tryz.call204 [(0,14),(100,16)] [3] [.tmp 14,.tmp 15] ⟨.p,y7.cX Tryz.call206 [[ci b]] (fun args r hq=>by obtain ⟨y0,y,hq,rfl,rfl⟩:=hq;exact ⟨Eq.mp (by kernel_rfl) (Z8e hq),rfl⟩) [3] (⟨⟨false,(by kernel_rfl)⟩,⟨⟩⟩),⟨⟩⟩,⟨⟩⟩ (AW.ret ?_);obtain rfl:=Option.some.inj h
  exact Kn.w Fm [(4,ow 16),(5,vi 0)] [(16,AO e)] (Q1F [(4,AL e),(5,vi 0)] [] (Kn.D Fm))
theorem Q2q {F b a r} (h:Q0W F b a=some r) :
  Q7 Tryz.prog 174 [vi b,pt 0] [(0,bx (gC a))] (vb r) [(0,bx (gC a))]:=by
 refine FJ Tryz.func174 fun C Fm=>?_
 unfold Q0W at h;refine Q0 Fm 1 [0,1] [] [0] [] (Q6 (r:=r) (fun z:Bool=>Q2j F z) [] (fun z=>[(3,vb z)]) [0] nn (fun i h=>?_) (fun e d=>?_))
 ·exact Z2 Fm h
 ·rcases Z6 h with ⟨c,h⟩|⟨c,h⟩
  ·exact Q1 Fm (sZ 8 [.s,.s,.w (vb true)]) [] [(3,vb true)] [0] [] (cT (ALe.bool c)) (Kn.R Fm (d true h))
  ·exact Q1 Fm (sZ 8 [.s,.s,.w (vb false)]) [] [(3,vb (decide ((lI a.world_.crops_)<=b)))] [0] [] (cT (ALe.bool c)) (Kn.R Fm (d (decide ((lI a.world_.crops_)<=b)) h))
theorem Z1D {F b a r} (h:Q1h F b a=some r) :
  Q7 Tryz.prog 176 [gE b,pt 0] [(0,bx [.clo 174 [80]]),(80,bx (gC a))] (vb r) [(0,bx [.clo 174 [80]]),(80,bx (gC a))]:=by
 refine FJ Tryz.func176 fun C Fm=>?_
 unfold Q1h at h;refine Q0 Fm 2 [1] [(2,pt 2)] [0,80] [(2,bx (gC b))] (AW.seq ?_)
 obtain ⟨c,d,h⟩:=bS h;exact Q5 Fm [.s,.s,.s,.k (cE [(0,80)] [] (vb c) [(0,bx (gC a))] [(0,bx (gC a))]),.s] (k1 3) [] [(3,vb c)] [0,80] [] ⟨Z5N (args:=[vi b.c_]) (caps:=[0]) (Q2q d) Tryz.call174 [(0,80)] rfl (by kernel_rfl),⟨⟩⟩ (Z2 Fm h)
theorem Q8I {F a e r} (h:y9 F a e=some r) :
  Q7 Tryz.prog 198 [AL a,.v (.c (.clo 176 [50]))] [(50,bx [.clo 174 [80]]),(80,bx (gC e))] (vi r) [(50,bx [.clo 174 [80]]),(80,bx (gC e))]:=by
 refine FJ Tryz.func198 fun C Fm=>?_
 unfold y9 at h;refine Q0 Fm 1 [0,1] [] [50,80] [] (Q6 (r:=r) (fun z:Unit=>Q3V F) [] nn [50,80] nn (fun z h=>?_) (fun y l=>?_))
 ·exact Q0 Fm 1 [] [(4,vi (-1:Int))] [50,80] [] (Z2 Fm h)
 ·refine Q0 Fm 3 [0,1] [(7,vi (lI a)),(8,vi 0)] [50,80] [] (AW.block (Kn.w Fm [(0,AL a),(1,.v (.c (.clo 176 [50]))),(7,vi (lI a)),(8,vi 0)] [(50,bx [.clo 174 [80]]),(80,bx (gC e))] ?_))
  refine Z5 (E':=fun z=>[(0,AL a),(1,.v (.c (.clo 176 [50]))),(7,vi (lI a)),(8,vi z)]) (S':=fun z=>[(50,bx [.clo 174 [80]]),(80,bx (gC e))]) (fun A b u j h=>?_) h;refine Q0 Fm 1 [0,1,7,8] [(9,vb (decide (b<(lI a))))] [50,80] [] (AW.seq (Q3 h (fun m h=>?_) (fun m h=>?_)))
  ·refine AW.skip (AW.seq (AW.block (Q0 Fm 2 [0,1,7,8] [(5,vi b)] [50,80] [] (AW.seq ?_))))
   obtain ⟨o,h⟩:=gS h;obtain ⟨i,t,h⟩:=bS h
   refine Q5 Fm (sA 5 [.k (cE [(0,50),(80,80)] [] (vb i) [(0,bx [.clo 174 [80]]),(80,bx (gC e))] [(0,bx [.clo 174 [80]]),(80,bx (gC e))])]) (fun K=>_/\K 5/\True) [0,1,5,7,8] [(16,vb i)] [50,80] [] ⟨o,Z5N (args:=[.v (.g [ci ((gn a b).y_),ci ((gn a b).c_),.d (DL (gn a b).g_.t_)])]) (caps:=[0]) (Z1D t) Tryz.call176 [(0,50),(80,80)] rfl (by kernel_rfl),⟨⟩⟩ (Q3 h (fun n h=>?_) (fun n h=>?_))
   ·exact Q0 Fm 2 [] [(4,vi b)] [50,80] [] (Z2 Fm h)
   ·refine AW.skip ?_
    obtain ⟨p,h⟩:=gS h;exact Q1 Fm [.s,.s] [0,1,7] [(8,vi (b+1))] [50,80] [] (cT (cT p)) (Kn.R Fm (j (b+1) h))
  ·exact AW.exit (Kn.R Fm (l () h))
theorem Q7o {F b a r} (h:J9 F b a=some r) :
  Q7 Tryz.prog 175 [AL b,.v (.c (.clo 176 [50]))] [(50,bx [.clo 174 [80]]),(80,bx (gC a))] (vb r) [(50,bx [.clo 174 [80]]),(80,bx (gC a))]:=by
 refine FJ Tryz.func175 fun C Fm=>?_
 unfold J9 at h;refine Q0 Fm 1 [0,1] [] [50,80] [] (AW.seq ?_)
 obtain ⟨e,d,h⟩:=bS h;exact Q5 Fm [.s,.s,.k _,.s,.s] (k1 2) [] [(4,vb (decide ((0:Int)<=e)))] [50,80] [] ⟨Q2 (Q8I d) Tryz.call198 [(50,50),(80,80)],⟨⟩⟩ (Z2 Fm h)
theorem Z3Z {F a b r} (h:Q3g F a b=some r) :
  Q7 Tryz.prog 134 [gE a,.v (.g [ci b.op_,ci b.num_,ci b.more_,.d (DL b.kids_)])] [] (vi r) []:=by
 refine FJ Tryz.func134 fun C Fm=>?_
 unfold Q3g at h;refine Q0 Fm 3 [] [(2,pt 2),(3,pt 3)] [] [(2,bx (gC a)),(3,bx [ci b.op_,ci b.num_,ci b.more_,.d (DL b.kids_)])] (AW.seq (AW.seq ?_))
 obtain ⟨i,L,h⟩:=bS h;refine Q5 Fm [.s,.k _,.s] (k1 1) [2] [(5,vi i)] [2] [] ⟨Q2 (Z3H L) Tryz.call138 [],⟨⟩⟩ (Q0 Fm 2 [2,5] [(14,vb (i != (0:Int)))] [2] [] (Q3 h (fun y h=>?_) (fun y h=>?_)))
 ·exact Q0 Fm 2 [] [(4,vi i)] [] [] (Z2 Fm h)
 ·refine AW.skip (AW.seq (AW.seq ?_))
  obtain ⟨j,M,h⟩:=bS h;refine Q5 Fm [.s,.s,.s,.k _,.s] (k1 3) [2] [(6,vi j)] [2] [] ⟨Q2 (Z9V M) Tryz.call173 [],⟨⟩⟩ (Q0 Fm 2 [2,6] [(21,vb (j != (0:Int)))] [2] [] (Q3 h (fun A h=>?_) (fun A h=>?_)))
  ·exact Q0 Fm 2 [] [(4,vi j)] [] [] (Z2 Fm h)
  ·refine AW.skip (Q0 Fm 3 [2] [(7,pt 7)] [2] [(7,bx [.clo 174 [2]])] (AW.seq (Q6 (r:=r) (fun z:Bool=>Q1C F a z) [2] (fun z=>[(35,vb z)]) [2] nn (fun X h=>?_) (fun V n=>?_))))
   ·refine Q3 h (fun B h=>?_) (fun B h=>?_)
    ·exact Q0 Fm 1 [] [(4,vi 13)] [] [] (Z2 Fm h)
    ·refine AW.skip (AW.seq (AW.seq ?_))
     obtain ⟨l,O,h⟩:=bS h;refine Q5 Fm [.s,.s,.s,.k _,.s] (k1 3) [2] [(8,vi l)] [2] [] ⟨Q2 (Z7f O) Tryz.call177 [],⟨⟩⟩ (Q0 Fm 2 [2,8] [(41,vb (l != (0:Int)))] [2] [] (Q3 h (fun D h=>?_) (fun D h=>?_)))
     ·exact Q0 Fm 2 [] [(4,vi l)] [] [] (Z2 Fm h)
     ·refine AW.skip (AW.seq (Q6 (r:=r) (fun z:Bool=>Q1B F a z) [2] (fun z=>[(52,vb z)]) [2] nn (fun Y h=>?_) (fun W o=>?_)))
      ·refine Q3 h (fun E h=>?_) (fun E h=>?_)
       ·exact Q0 Fm 1 [] [(4,vi 18)] [] [] (Z2 Fm h)
       ·refine AW.skip (AW.seq (AW.seq ?_))
        obtain ⟨m,P,h⟩:=bS h;refine Q5 Fm (sA 6 (sZ 5 [.k _])) (k1 6) [2] [(10,vi m.2)] [2] [] ⟨Q2 (Z3X P) Tryz.call178 [],⟨⟩⟩ (Q0 Fm 2 [2,10] [(64,vb (m.2 != (0:Int)))] [2] [] (Q3 h (fun H h=>?_) (fun H h=>?_)))
        ·exact Y3r Fm 2 [(4,vi m.2)] [] (Z2 Fm h)
        ·refine AW.skip (AW.seq (AW.seq ?_))
         obtain ⟨U,T,h⟩:=bS h;refine W1D Fm [.s,.s,.s,.k _,.s] (k1 3) [(70,vb (!U))] [] ⟨Q2 (W9 T) Tryz.call65 [],⟨⟩⟩ (Q3 h (fun I h=>?_) (fun I h=>?_))
         ·exact Q0 Fm 1 [] [(4,vi 7)] [] [] (Z2 Fm h)
         ·exact AW.skip (Q0 Fm 1 [] [(4,vi 0)] [] [] (Z2 Fm h))
      ·rcases Z6 h with ⟨e,h⟩|⟨e,h⟩
       ·exact Q1 Fm (sA 4 (sZ 5 [.w (vb true)])) [2] [(52,vb true)] [2] [] (cT (ALe.bool e)) (Kn.R Fm (o true h))
       ·exact Q1 Fm (sA 4 (sZ 5 [.w (vb false)])) [2] [(52,vb (decide ((100:Int)<a.world_.y_)))] [2] [] (cT (ALe.bool e)) (Kn.R Fm (o (decide ((100:Int)<a.world_.y_)) h))
   ·obtain ⟨t,p,h⟩:=bS h
    rcases Z6 h with ⟨c,h⟩|⟨c,h⟩
    ·exact Q5 Fm (sA 4 (sZ 6 [.k (cE [(0,2)] [] (vb t) [(0,bx (gC a))] [(0,bx (gC a))]),.w (vb true)])) (fun K=>K 4/\_/\True) [2] [(35,vb true)] [2] [] ⟨Z5N (args:=[vi a.line_.c_]) (caps:=[0]) (Q2q p) Tryz.call174 [(0,2)] rfl (by kernel_rfl),ALe.bool c,⟨⟩⟩ (Kn.R Fm (n true h))
    ·obtain ⟨u,N,h⟩:=bS h
     exact Q5 Fm (sA 4 [.k (cE [(0,2)] [] (vb t) [(0,bx (gC a))] [(0,bx (gC a))]),.w (vb false),.s,.s,.s,.s,.k _,.s]) (fun K=>K 4/\_/\K 10/\True) [2] [(35,vb u)] [2] [] ⟨Z5N (args:=[vi a.line_.c_]) (caps:=[0]) (Q2q p) Tryz.call174 [(0,2)] rfl (by kernel_rfl),ALe.bool c,Q2 (Q7o N) Tryz.call175 [(50,7),(80,2)],⟨⟩⟩ (Kn.R Fm (n u h))
theorem Z2p {F a r} (h:Q7b F a=some r) :
  Q7 Tryz.prog 179 [gE a] [] (gE r) []:=by
 refine FJ Tryz.func179 fun C Fm=>?_
 unfold Q7b at h;exact Q0 Fm 2 [] [(1,pt 1),(2,pt 2)] [] [(1,bx (gC a)),(2,bx [f0,f0,f0])] (Q0 Fm 8 [2] [] [] [(2,bx [.d (DL a.no_),.d (DL a.yes_),.d (DL a.open_)])] (Z2 Fm h))
theorem Z2u {F a r} (h:Q3F F a=some r) :
  Q7 Tryz.prog 191 [AL a] [] (ow 100) [(100,AO r)]:=by
 refine FJ Tryz.func191 fun C Fm=>?_
 unfold Q3F at h;refine Q1K Fm [.m] (fun K=>True) [0] [] [] [] True.intro (Q0 Fm 1 [0] [(3,vi 0)] [] [] (Q6 (r:=r) (fun z:Int=>Q2m F a z) [0] (fun z=>[(3,vi z)]) [] nn (fun T h=>?_) (fun L l=>?_)))
 ·refine AW.seq ?_
  obtain ⟨i,G,h⟩:=bS h;refine Q5 Fm [.s,.k _,.s] (k1 1) [0] [(6,ow 24)] [] [(24,AO i)] ⟨Q2 (Y5m G) Tryz.call233 [(100,24)],⟨⟩⟩ (Q6 (r:=r) (fun z:(List Span)=>Q4A F z) [6] nn [] (fun z=>[(24,AO z)]) (fun H h=>?_) (fun N o=>?_))
  ·refine Q0 Fm 2 [] [(2,ow 24)] [24] [] (AW.ret ?_)
   obtain rfl:=Option.some.inj h;exact Q2P Fm [(100,24)] [(2,ow 100)] [(100,AO H)] (Q3b Fm (by kernel_rfl))
  ·refine Q0 Fm 3 [6] [(25,AL a),(26,vi (lI a)),(27,vi 0)] [24] [] (AW.block (Kn.w Fm [(6,ow 24),(25,AL a),(26,vi (lI a)),(27,vi 0)] [(24,AO i)] ?_))
   refine Z5 (E':=fun z=>[(6,ow 24),(25,AL a),(26,vi (lI a)),(27,vi z.1)]) (S':=fun z=>[(24,AO z.2)]) (fun P z M n h=>?_) h;obtain ⟨b,e⟩:=z
   refine Q0 Fm 1 [6,25,26,27] [(28,vb (decide (b<(lI a))))] [24] [] (AW.seq (Q3 h (fun t h=>?_) (fun t h=>?_)))
   ·refine AW.skip (AW.seq (AW.block ?_))
    obtain ⟨B,h⟩:=gS h;refine Y4 Fm [.s,.s,.s] [6,25,26,27] [(8,AL (gn a b))] [24] [] (cT B) ?_
    obtain ⟨D,h⟩:=gS h;refine Q2h Fm (sA 4 []) [25,26,27] [(6,ow 33)] [] [(33,AO (e++(gn a b)))] (cT (cA D (cT (lfl (gn a b))))) [(33,rAp e (gn a b))] ⟨oAp,⟨⟩⟩ ?_
    obtain ⟨E,h⟩:=gS h;exact Q1 Fm [.s,.s] [6,25,26] [(27,vi (b+1))] [33] [] (cT (cT E)) (Q1e Fm [(24,33)] (n ((b+1),(e++(gn a b))) h))
   ·exact AW.exit (Kn.R Fm (o e h))
 ·refine Q0 Fm 3 [0,3] [(9,AL a),(10,vi (lI a)),(11,vi 0)] [] [] (AW.block (Kn.w Fm [(0,AL a),(3,vi 0),(9,AL a),(10,vi (lI a)),(11,vi 0)] [] ?_))
  refine Z5 (E':=fun z=>[(0,AL a),(3,vi z.1),(9,AL a),(10,vi (lI a)),(11,vi z.2)]) (S':=fun z=>[]) (fun O z I j h=>?_) h;obtain ⟨d,c⟩:=z
  refine Q0 Fm 1 [0,3,9,10,11] [(12,vb (decide (c<(lI a))))] [] [] (AW.seq (Q3 h (fun p h=>?_) (fun p h=>?_)))
  ·refine AW.skip (AW.seq (AW.block ?_))
   obtain ⟨u,h⟩:=gS h;refine Y4 Fm [.s,.s,.s] [0,3,9,10,11] [(5,AL (gn a c))] [] [] (cT u) ?_
   obtain ⟨y,h⟩:=gS h;refine Y4 Fm (sA 5 []) [0,9,10,11] [(3,vi (d+(lI (gn a c))))] [] [] (cT (cT y)) (Q0 Fm 2 [0,3,9,10,11] [(20,vb (decide ((d+(lI (gn a c)))<0)))] [] [] (Q3 h (fun q h=>?_) (fun q h=>?_)))
   ·cases h
   ·refine AW.skip ?_
    obtain ⟨A,h⟩:=gS h;exact Q1 Fm [.s,.s] [0,3,9,10] [(11,vi (c+1))] [] [] (cT (cT A)) (Kn.R Fm (j ((d+(lI (gn a c))),(c+1)) h))
  ·exact AW.exit (Kn.R Fm (l d h))
theorem Z4D {F a b r} (h:Q0m F a b=some r) :
  Q7 Tryz.prog 235 [gE a,pt 0] [(0,.box true [ci b])] (vb r) [(0,.box true [ci b])]:=by
 refine FJ Tryz.func235 fun C Fm=>?_
 unfold Q0m at h;refine Q0 Fm 2 [1] [(2,pt 2)] [0] [(2,bx (gC a))] (Q6 (r:=r) (fun z:Bool=>Q3H F z) [] (fun z=>[(3,vb z)]) [0] nn (fun i h=>?_) (fun e d=>?_))
 ·exact Z2 Fm h
 ·rcases Z6 h with ⟨c,h⟩|⟨c,h⟩
  ·exact Q1 Fm (sA 4 (sZ 6 [.w (vb true)])) [] [(3,vb (decide (b<a.R_)))] [0] [] (cT (ALe.bool c)) (Kn.R Fm (d (decide (b<a.R_)) h))
  ·exact Q1 Fm (sA 4 (sZ 6 [.w (vb false)])) [] [(3,vb false)] [0] [] (cT (ALe.bool c)) (Kn.R Fm (d false h))
theorem Z0V {F a d r} (h:Q2k F a d=some r) :
  Q7 Tryz.prog 259 [AL a,.v (.c (.sem (J5 Tryz.prog (Q8s d))))] [] (vi r) []:=by
 refine FJ Tryz.func259 fun C Fm=>?_
 unfold Q2k at h;refine Q0 Fm 1 [0,1] [] [] [] (Q6 (r:=r) (fun z:Unit=>Q6f F) [] nn [] nn (fun z h=>?_) (fun u j=>?_))
 ·exact Q0 Fm 1 [] [(4,vi (-1:Int))] [] [] (Z2 Fm h)
 ·refine Q0 Fm 3 [0,1] [(7,vi (lI a)),(8,vi 0)] [] [] (AW.block (Kn.w Fm [(0,AL a),(1,.v (.c (.sem (J5 Tryz.prog (Q8s d))))),(7,vi (lI a)),(8,vi 0)] [] ?_))
  refine Z5 (E':=fun z=>[(0,AL a),(1,.v (.c (.sem (J5 Tryz.prog (Q8s d))))),(7,vi (lI a)),(8,vi z)]) (S':=fun z=>[]) (fun y b t i h=>?_) h;refine Q0 Fm 1 [0,1,7,8] [(9,vb (decide (b<(lI a))))] [] [] (AW.seq (Q3 h (fun l h=>?_) (fun l h=>?_)))
  ·refine AW.skip (AW.seq (AW.block (Q0 Fm 2 [0,1,7,8] [(5,vi b)] [] [] (AW.seq ?_))))
   obtain ⟨n,h⟩:=gS h;obtain ⟨e,p,h⟩:=bS h
   refine Q5 Fm (sA 5 [.k (sE (vb e))]) (fun K=>_/\K 5/\True) [0,1,5,7,8] [(16,vb e)] [] [] ⟨n,KAt.sem (F:=(Q8s d)) (args:=[.v (.g [ci ((gn a b).L_),ci ((gn a b).R_)])]) ⟨(gn a b),e,p,rfl,rfl⟩ rfl (by kernel_rfl) (by kernel_rfl) (by kernel_rfl),⟨⟩⟩ (Q3 h (fun m h=>?_) (fun m h=>?_))
   ·exact Q0 Fm 2 [] [(4,vi b)] [] [] (Z2 Fm h)
   ·refine AW.skip ?_
    obtain ⟨o,h⟩:=gS h;exact Q1 Fm [.s,.s] [0,1,7] [(8,vi (b+1))] [] [] (cT (cT o)) (Kn.R Fm (i (b+1) h))
  ·exact AW.exit (Kn.R Fm (j () h))
theorem Q9v {F a b r} (h:Q1g F a b=some r) :
  Q7 Tryz.prog 234 [AL a,.v (.c (.sem (J5 Tryz.prog (Q8s b))))] [] (vb r) []:=by
 refine FJ Tryz.func234 fun C Fm=>?_
 unfold Q1g at h;refine Q0 Fm 1 [0,1] [] [] [] (AW.seq ?_)
 obtain ⟨d,e,h⟩:=bS h;exact Q5 Fm [.s,.s,.k (cE [] [] (vi d) [] []),.s,.s] (k1 2) [] [(4,vb (decide ((0:Int)<=d)))] [] [] ⟨KAt.cX (Z0V e) Tryz.call259 [] [] [.tmp 5,.tmp 6] ⟨.p,y7.semX (by kernel_rfl) (by kernel_rfl) (by kernel_rfl),⟨⟩⟩,⟨⟩⟩ (Z2 Fm h)
theorem Z0Y {F b a r} (h:Q4m F b a=some r) :
  Q7 Tryz.prog 192 [AL b,vi a] [] (vb r) []:=by
 refine FJ Tryz.func192 fun C Fm=>?_
 unfold Q4m at h;refine Q0 Fm 2 [0] [(3,pt 3)] [] [(3,bx [ci a])] (AW.seq ?_)
 obtain ⟨c,d,h⟩:=bS h;exact Q5 Fm [.s,.s,.k (cE [] [3] (vb c) [] []),.s] (k1 2) [] [(4,vb c)] [] [] ⟨KAt.cX (Q9v d) Tryz.call234 [] [3] [.tmp 5,.tmp 6] ⟨.p,y7.cX Tryz.call235 [[ci a]] (fun args r hq=>by obtain ⟨y0,y,hq,rfl,rfl⟩:=hq;exact ⟨Eq.mp (by kernel_rfl) (Z4D hq),rfl⟩) [3] (⟨⟨false,(by kernel_rfl)⟩,⟨⟩⟩),⟨⟩⟩,⟨⟩⟩ (Z2 Fm h)
theorem Z7C {F l n o r} (h:Q7G F l n o=some r) :
  Q7 Tryz.prog 150 [AL l,AL n,.v (.c (.sem (J5 Tryz.prog (U8 o))))] [] (AL r) []:=by
 refine FJ Tryz.func150 fun C Fm=>?_
 unfold Q7G at h;refine Q0 Fm 1 [0,1,2] [] [] [] (y8 Fm [.m] (fun K=>True) [0,1,2] [(7,ow 7)] [] [(7,AO ([]:List Int))] True.intro [(7,.arr 1 (0) nn)] ⟨OLe.is ((Is.nil (α:=Int))),⟨⟩⟩ (Q6 (r:=r) (fun z:(List Int)=>Z0h F l n o z) [0,1,2,7] nn [] (fun z=>[(7,AO z)]) (fun E0 h=>?_) (fun u0 T=>?_)))
 ·refine AW.seq ?_
  obtain ⟨s0,l0,h⟩:=bS h;refine Q5 Fm [.s,.k _] (k1 1) [0,1,2,7] [] [] [(7,AO s0)] ⟨Q2 (Y0y l0) Tryz.call189 [(0,7)],⟨⟩⟩ (AW.seq ?_)
  obtain ⟨e,m0,h⟩:=bS h;refine Q5 Fm [.s,.k _,.s] (k1 1) [0,1,2] [(7,ow 34)] [] [(34,AO e)] ⟨Q2 (Q7g m0) Tryz.call190 [(0,7),(100,34)],⟨⟩⟩ (y8 Fm [.m] (fun K=>True) [0,1,2,7] [(10,ow 10)] [34] [(10,AO ([]:List Span))] True.intro [(10,.arr 2 (0) nn)] ⟨OLe.is ((Is.nil (α:=Span))),⟨⟩⟩ (Q6 (r:=r) (fun z:(List Span)=>Q6A F z) [10] nn [] (fun z=>[(10,AO z)]) (fun M h=>?_) (fun B0 V=>?_)))
  ·refine Q0 Fm 2 [] [(6,ow 10)] [10] [] (AW.ret ?_)
   obtain rfl:=Option.some.inj h;exact Kn.w Fm [(6,ow 10)] [(10,AO M)] (Q1F [(6,AL M)] [] (Kn.D Fm))
  ·refine Q0 Fm 1 [0,1,2,7,10] [(11,vi 1)] [10,34] [] (AW.block (Kn.w Fm [(0,AL l),(1,AL n),(2,.v (.c (.sem (J5 Tryz.prog (U8 o))))),(7,ow 34),(10,ow 10),(11,vi 1)] [(10,AO ([]:List Span)),(34,AO e)] ?_))
   refine Z5 (E':=fun z=>[(0,AL l),(1,AL n),(2,.v (.c (.sem (J5 Tryz.prog (U8 o))))),(7,ow 34),(10,ow 10),(11,vi z.1)]) (S':=fun z=>[(10,AO z.2),(34,AO e)]) (fun A z w0 U h=>?_) h;obtain ⟨b,j⟩:=z
   refine AW.seq (Q0 Fm 4 [0,1,2,7,10,11] [(38,vb (decide (b<(lI e))))] [10,34] [] (Q3 h (fun X h=>?_) (fun X h=>?_)))
   ·refine AW.skip (Q6 (r:=r) (fun z:(List Span)=>Q2s F b A z) [0,1,2,7,10,11] nn [34] (fun z=>[(10,AO z)]) (fun q0 h=>?_) (fun A0 q=>?_))
    ·obtain ⟨j0,h⟩:=gS h
     exact Q1 Fm [.s,.s,.s] [0,1,2,7,10] [(11,vi (b+1))] [10,34] [] (cT (cT j0)) (Kn.R Fm (U ((b+1),q0) h))
    ·refine AW.block ?_
     obtain ⟨c0,G,h⟩:=gS2 h;refine Y4 Fm (sA 6 []) [0,1,2,7,10,11] [(12,vi (gn e (b-1)))] [10,34] [] (cA (cT c0) (cA G (cT (Y6 G)))) (AW.seq (AW.seq ?_))
     obtain ⟨N,n0,h⟩:=bS h;obtain ⟨O,o0,h⟩:=bS h
     obtain ⟨y,p0,h⟩:=bS h;refine Q5 Fm [.s,.s,.s,.k _,.s,.s,.k _,.k (sE (vb y)),.s] (fun K=>K 3/\K 6/\K 7/\True) [0,1,2,7,10,11,12] [(54,vb (!y))] [10,34] [] ⟨Q2 (Z0Y n0) Tryz.call192 [],Q2 (Z0Y o0) Tryz.call192 [],KAt.sem (F:=(U8 o)) (args:=[vb N,vb O]) ⟨N,O,y,p0,rfl,rfl⟩ rfl (by kernel_rfl) (by kernel_rfl) (by kernel_rfl),⟨⟩⟩ (Q3 h (fun Y h=>?_) (fun Y h=>?_))
     ·exact AW.exit (Kn.R Fm (q j h))
     ·refine AW.skip (Q0 Fm 3 [0,1,2,7,10,11,12] [(13,vi (lI j))] [10,34] [] (Q6 (r:=r) (fun z:Bool=>Q4a F e b j A z) [0,1,2,7,10,11,12,13] (fun z=>[(68,vb z)]) [10,34] nn (fun G0 h=>?_) (fun y0 B=>?_)))
      ·refine Q3 h (fun Z h=>?_) (fun Z h=>?_)
       ·obtain ⟨e0,I,u,h⟩:=gS3 h
        exact Q2h Fm (sA 10 []) [0,1,2,7,10,11] [] [34] [(10,AO (List.set j ((lI j)-1).toNat (⟨(gn j ((lI j)-1)).L_,(gn e b)⟩:Span)))] (cA (cT e0) (cA I (cA (Y6 I) (cA u (cT (Y6 u)))))) [(10,rSt j ((lI j)-1).toNat 1 [.int .i64 (gn e b)])] ⟨oSt (Y6 u),⟨⟩⟩ (Kn.R Fm (q (List.set j ((lI j)-1).toNat (⟨(gn j ((lI j)-1)).L_,(gn e b)⟩:Span)) h))
       ·obtain ⟨L,i0,h⟩:=gS2 h
        exact Q2h Fm (sA 7 [.w (AL [(⟨(gn e (b-1)),(gn e b)⟩:Span)]),.s,.s]) [0,1,2,7,11] [(10,ow 86)] [34] [(86,AO (j++([(⟨(gn e (b-1)),(gn e b)⟩:Span)]:List Span)))] (cA L (cA (Y6 L) (cA (Q8h (⟨(gn e (b-1)),(gn e b)⟩:Span)) (cT (cA i0 (cT (lfl ([(⟨(gn e (b-1)),(gn e b)⟩:Span)]:List Span)))))))) [(86,rAp j ([(⟨(gn e (b-1)),(gn e b)⟩:Span)]:List Span))] ⟨oAp,⟨⟩⟩ (Q1e Fm [(10,86)] (q (j++([(⟨(gn e (b-1)),(gn e b)⟩:Span)]:List Span)) h))
      ·rcases Z6 h with ⟨t,h⟩|⟨t,h⟩
       ·obtain ⟨d0,H,h⟩:=gS2 h
        exact Q1 Fm (sZ 9 [.s,.s,.w (vb true)]) [0,1,2,7,10,11,12,13] [(68,vb (((gn j ((lI j)-1)).R_)==(gn e (b-1))))] [10,34] [] (cA (ALe.bool t) (cA (cT d0) (cA H (cT (Y6 H))))) (Kn.R Fm (B (((gn j ((lI j)-1)).R_)==(gn e (b-1))) h))
       ·exact Q1 Fm (sZ 9 [.s,.s,.w (vb false)]) [0,1,2,7,10,11,12,13] [(68,vb false)] [10,34] [] (cT (ALe.bool t)) (Kn.R Fm (B false h))
   ·exact AW.exit (Kn.R Fm (V j h))
 ·refine AW.seq ?_
  obtain ⟨a,k0,h⟩:=bS h;refine Q5 Fm [.s,.s,.w (AL (α:=(List Span)) ([l,n]:List (List Span))),.k _,.s,.s] (fun K=>(ALe (.v (.c (.d (.lst 2 (Z0n 1 [DL l,DL n]))))) (AL (α:=(List Span)) ([l,n]:List (List Span))))/\K 3/\True) [0,1,2,7] [(17,ow 17),(18,vi (lI a)),(19,vi 0)] [7] [(17,AO a)] ⟨ALe.lst (.lit ([l,n]:List (List Span)) (by kernel_rfl)),Q2 (Z2u k0) Tryz.call191 [(100,17)],⟨⟩⟩ (AW.block (Kn.w Fm [(0,AL l),(1,AL n),(2,.v (.c (.sem (J5 Tryz.prog (U8 o))))),(7,ow 7),(17,ow 17),(18,vi (lI a)),(19,vi 0)] [(7,AO ([]:List Int)),(17,AO a)] ?_))
  refine Z5 (E':=fun z=>[(0,AL l),(1,AL n),(2,.v (.c (.sem (J5 Tryz.prog (U8 o))))),(7,ow 7),(17,ow 17),(18,vi (lI a)),(19,vi z.1)]) (S':=fun z=>[(7,AO z.2),(17,AO a)]) (fun D0 z t0 P h=>?_) h;obtain ⟨i,p⟩:=z
  refine Q0 Fm 1 [0,1,2,7,17,18,19] [(20,vb (decide (i<(lI a))))] [7,17] [] (AW.seq (Q3 h (fun W h=>?_) (fun W h=>?_)))
  ·refine AW.skip (AW.seq (AW.block ?_))
   obtain ⟨E,h⟩:=gS h;refine Y4 Fm (sA 4 []) [0,1,2,7,17,18,19] [(9,pt 9)] [7,17] [(9,bx [ci ((gn a i).L_),ci ((gn a i).R_)])] (cA E (cT (Y6 E))) ?_
   obtain ⟨a0,h⟩:=gS h;refine Q2h Fm (sA 5 [.w (AL ([(gn a i).L_,(gn a i).R_]:List Int)),.s,.s]) [0,1,2,17,18,19] [(7,ow 29)] [17] [(29,AO (p++([(gn a i).L_,(gn a i).R_]:List Int)))] (cA (ALe.lst (.lit ([(gn a i).L_,(gn a i).R_]:List Int) (by kernel_rfl)):ALe (.v (.c (.d (.lst 2 (Z0n 1 [.int .i64 (gn a i).L_,.int .i64 (gn a i).R_]))))) (AL ([(gn a i).L_,(gn a i).R_]:List Int))) (cT (cA a0 (cT (lfl ([(gn a i).L_,(gn a i).R_]:List Int)))))) [(29,rAp p ([(gn a i).L_,(gn a i).R_]:List Int))] ⟨oAp,⟨⟩⟩ ?_
   obtain ⟨b0,h⟩:=gS h;exact Q1 Fm [.s,.s] [0,1,2,7,17,18] [(19,vi (i+1))] [17,29] [] (cT (cT b0)) (Q1e Fm [(7,29)] (P ((i+1),(p++([(gn a i).L_,(gn a i).R_]:List Int))) h))
  ·exact AW.exit (Kn.R Fm (T p h))
theorem Z4I {F e a b c r} (h:Q6E F e a b c=some r) :
  Q7 Tryz.prog 149 [vi e,pt 0,pt 1,pt 2] [(0,.box true [.d (DL a)]),(1,.box true [.d (DL b)]),(2,.box true [.sem (J5 Tryz.prog (U8 c))])] (AL r) [(0,.box true [.d (DL a)]),(1,.box true [.d (DL b)]),(2,.box true [.sem (J5 Tryz.prog (U8 c))])]:=by
 refine FJ Tryz.func149 fun C Fm=>?_
 unfold Q6E at h;refine Q0 Fm 1 [0,1,2,3] [] [0,1,2] [] (AW.seq ?_)
 obtain ⟨n,j,h⟩:=bS h;obtain ⟨o,l,h⟩:=bS h
 obtain ⟨i,m,h⟩:=bS h;exact Q5 Fm [.s,.s,.k _,.s,.s,.k _,.s,.k (cE [] [] (AL i) [] []),.s] (fun K=>K 2/\K 5/\K 7/\True) [] [(5,AL i)] [0,1,2] [] ⟨Q2 (Z0i j) Tryz.call151 [],Q2 (Z0i l) Tryz.call151 [],KAt.cX (Z7C m) Tryz.call150 [] [] [.tmp 8,.tmp 11,.tmp 12] ⟨.p,.p,y7.semX (by kernel_rfl) (by kernel_rfl) (by kernel_rfl),⟨⟩⟩,⟨⟩⟩ (Z2 Fm h)
theorem W5 {F a b e r} (h:V4 F a b e=some r) :
  Q7 Tryz.prog 88 [AL a,AL b,.v (.c (.sem (J5 Tryz.prog (U8 e))))] [] (AL r) []:=by
 refine FJ Tryz.func88 fun C Fm=>?_
 unfold V4 at h;refine Q0 Fm 4 [] [(3,pt 3),(4,pt 4),(5,pt 5)] [] [(3,bx [.d (DL a)]),(4,bx [.d (DL b)]),(5,bx [.sem (J5 Tryz.prog (U8 e))])] (AW.seq ?_)
 obtain ⟨m,j,h⟩:=bS h;obtain ⟨i,l,h⟩:=bS h
 exact Q5 Fm [.s,.s,.w (AL (α:=(List Rect)) ([a,b]:List (List Rect))),.k _,.s,.k (cE [] [3,4,5] (AL i) [] []),.s] (fun K=>(ALe (.v (.c (.d (.lst 2 (Z0n 1 [DL a,DL b]))))) (AL (α:=(List Rect)) ([a,b]:List (List Rect))))/\K 3/\K 5/\True) [] [(6,AL i)] [] [] ⟨ALe.lst (.lit ([a,b]:List (List Rect)) (by kernel_rfl)),Q2 (Z2x j) Tryz.call148 [],KAt.cX (Z1I l) Tryz.call147 [] [3,4,5] [.tmp 10,.tmp 11] ⟨.p,y7.cloXP Tryz.call149 [[.d (DL a)],[.d (DL b)],[.sem (J5 Tryz.prog (U8 e))]] (fun args r hq=>by obtain ⟨y0,y,hq,rfl,rfl⟩:=hq;exact Eq.mp (by kernel_rfl) (Z4I hq)) (fun args r hq=>by obtain ⟨y0,y,hq,rfl,rfl⟩:=hq;rfl) (by kernel_rfl) [3,4,5] (by kernel_rfl) (by kernel_rfl) ⟨⟨.inl (by kernel_rfl),⟨⟩⟩,⟨.inl (by kernel_rfl),⟨⟩⟩,⟨.inr ⟨_,rfl⟩,⟨⟩⟩,⟨⟩⟩ (⟨⟨false,(by kernel_rfl)⟩,⟨⟨false,(by kernel_rfl)⟩,⟨⟨false,(by kernel_rfl)⟩,⟨⟩⟩⟩⟩) (by kernel_rfl),⟨⟩⟩,⟨⟩⟩ (Z2 Fm h)
theorem Q7y {F d a r} (h:Q7e F d a=some r) :
  Q7 Tryz.prog 208 [vb d,vb a] [] (vb r) []:=by
 refine FJ Tryz.func208 fun C Fm=>?_
 unfold Q7e at h;refine Q0 Fm 1 [0,1] [] [] [] (Q6 (r:=r) (fun z:Bool=>Z0B F z) [] (fun z=>[(4,vb z)]) [] nn (fun i h=>?_) (fun e c=>?_))
 ·exact Z2 Fm h
 ·rcases Z6 h with ⟨b,h⟩|⟨b,h⟩
  ·exact Q1 Fm [.s,.w (vb true),.s,.s,.s] [] [(4,vb a)] [] [] (cT (ALe.bool b)) (Kn.R Fm (c a h))
  ·exact Q1 Fm [.s,.w (vb false),.s,.s,.s] [] [(4,vb false)] [] [] (cT (ALe.bool b)) (Kn.R Fm (c false h))
theorem Z2r {F d a r} (h:Q7d F d a=some r) :
  Q7 Tryz.prog 209 [vb d,vb a] [] (vb r) []:=by
 refine FJ Tryz.func209 fun C Fm=>?_
 unfold Q7d at h;refine Q0 Fm 1 [0,1] [] [] [] (Q6 (r:=r) (fun z:Bool=>Q7w F z) [] (fun z=>[(4,vb z)]) [] nn (fun i h=>?_) (fun e c=>?_))
 ·exact Z2 Fm h
 ·rcases Z6 h with ⟨b,h⟩|⟨b,h⟩
  ·exact Q1 Fm [.s,.w (vb true),.s,.s,.s] [] [(4,vb true)] [] [] (cT (ALe.bool b)) (Kn.R Fm (c true h))
  ·exact Q1 Fm [.s,.w (vb false),.s,.s,.s] [] [(4,vb a)] [] [] (cT (ALe.bool b)) (Kn.R Fm (c a h))
theorem Q7q {F d a r} (h:Q3E F d a=some r) :
  Q7 Tryz.prog 242 [vb d,vb a] [] (vb r) []:=by
 refine FJ Tryz.func242 fun C Fm=>?_
 unfold Q3E at h;refine Q0 Fm 1 [0,1] [] [] [] (Q6 (r:=r) (fun z:Bool=>Q6z F z) [] (fun z=>[(4,vb z)]) [] nn (fun i h=>?_) (fun e c=>?_))
 ·exact Z2 Fm h
 ·rcases Z6 h with ⟨b,h⟩|⟨b,h⟩
  ·exact Q1 Fm [.s,.w (vb true),.s,.s,.s,.s] [] [(4,vb (!a))] [] [] (cT (ALe.bool b)) (Kn.R Fm (c (!a) h))
  ·exact Q1 Fm [.s,.w (vb false),.s,.s,.s,.s] [] [(4,vb false)] [] [] (cT (ALe.bool b)) (Kn.R Fm (c false h))
theorem Q4W {F a b c r} (h:Q1u F a b c=some r) :
  Q7 Tryz.prog 210 [gE a,AL b,AL c] [] (gE r) []:=by
 refine FJ Tryz.func210 fun C Fm=>?_
 unfold Q1u at h;refine Q0 Fm 2 [1,2] [(3,pt 3),(6,pt 6)] [] [(3,bx (gC a)),(6,bx [f0,f0,f0])] (AW.seq ?_)
 obtain ⟨l,i,h⟩:=bS h;obtain ⟨e,j,h⟩:=bS h
 exact Q5 Fm [.s,.s,.s,.k (cE [] [] (AL l) [] []),.s,.k (cE [] [] (AL e) [] []),.s] (k2 3 5) [1,2,6] [(7,AL e)] [6] [] ⟨KAt.cX (W5 i) Tryz.call88 [] [] [.tmp 9,.tmp 10,.func 242] ⟨.p,.p,y7.cX Tryz.call242 [] (fun args r hq=>by obtain ⟨y0,y1,y,hq,rfl,rfl⟩:=hq;exact ⟨Eq.mp (by kernel_rfl) (Q7q hq),rfl⟩) [] (True.intro),⟨⟩⟩,KAt.cX (W5 j) Tryz.call88 [] [] [.tmp 11,.tmp 12,.func 242] ⟨.p,.p,y7.cX Tryz.call242 [] (fun args r hq=>by obtain ⟨y0,y1,y,hq,rfl,rfl⟩:=hq;exact ⟨Eq.mp (by kernel_rfl) (Q7q hq),rfl⟩) [] (True.intro),⟨⟩⟩,⟨⟩⟩ (Q0 Fm 5 [6] [] [] [(6,bx [.d (DL b),.d (DL c),.d (DL e)])] (Z2 Fm h))
theorem Z0r {F b a r} (h:Q1U F b a=some r) :
  Q7 Tryz.prog 180 [gE b,AL a] [] (gE r) []:=by
 refine FJ Tryz.func180 fun C Fm=>?_
 unfold Q1U at h;refine Q0 Fm 2 [1] [(2,pt 2),(4,pt 4)] [] [(2,bx (gC b)),(4,bx [f0,f0,f0])] (y8 Fm [.s,.s,.s,.m] (fun K=>True) [1,2,4] [(5,AL b.t_),(6,ow 6)] [2,4] [(6,AO ([]:List Rect))] True.intro [(6,.arr 4 (0) nn)] ⟨OLe.is ((Is.nil (α:=Rect))),⟨⟩⟩ (Q6 (r:=r) (fun z:(List Rect)×(List Rect)=>Q7u F b z.1 z.2) [2,4] (fun z=>[(5,AL z.1),(6,AL z.2)]) [2,4] nn (fun z h=>?_) (fun I l=>?_)))
 ·obtain ⟨M,N⟩:=z
  refine AW.seq ?_;obtain ⟨G,B,h⟩:=bS h
  exact Q5 Fm [.s,.s,.s,.k _,.s] (k1 3) [4] [] [] [(4,bx (gC G))] ⟨Q2 (Q4W B) Tryz.call210 [],⟨⟩⟩ (Z2 Fm h)
 ·refine Q0 Fm 3 [2,4,5,6] [(11,AL a),(12,vi (lI a)),(13,vi 0)] [2,4,6] [] (AW.block (Kn.w Fm [(2,pt 2),(4,pt 4),(5,AL b.t_),(6,ow 6),(11,AL a),(12,vi (lI a)),(13,vi 0)] [(6,AO ([]:List Rect)),(2,bx (gC b)),(4,bx [f0,f0,f0])] (Q1F [(2,pt 2),(4,pt 4),(5,AL b.t_),(6,AL ([]:List Rect)),(11,AL a),(12,vi (lI a)),(13,vi 0)] [(2,bx (gC b)),(4,bx [f0,f0,f0])] (Kn.w Fm [(2,pt 2),(4,pt 4),(5,AL b.t_),(6,AL ([]:List Rect)),(11,AL a),(12,vi (lI a)),(13,vi 0)] [(2,bx (gC b)),(4,bx [f0,f0,f0])] ?_))))
  refine Z5 (E':=fun z=>[(2,pt 2),(4,pt 4),(5,AL z.1),(6,AL z.2.1),(11,AL a),(12,vi (lI a)),(13,vi z.2.2)]) (S':=fun z=>[(2,bx (gC b)),(4,bx [f0,f0,f0])]) (fun L z H j h=>?_) h;obtain ⟨D,E,c⟩:=z
  refine Q0 Fm 1 [2,4,5,6,11,12,13] [(14,vb (decide (c<(lI a))))] [2,4] [] (AW.seq (Q3 h (fun n h=>?_) (fun n h=>?_)))
  ·refine AW.skip (AW.seq (AW.block ?_))
   obtain ⟨o,h⟩:=gS h;refine Y4 Fm (sA 4 []) [2,4,5,6,11,12,13] [(8,pt 8)] [2,4] [(8,bx [.d (DL (gn a c).yes_),.d (DL (gn a c).no_),.d (DL (gn a c).open_)])] (cT o) ?_
   obtain ⟨e,u,h⟩:=bS h;obtain ⟨i,A,h⟩:=bS h
   refine Q5 Fm [.s,.s,.s,.k (cE [] [] (AL e) [] []),.s,.s,.s,.k (cE [] [] (AL i) [] []),.s,.s] (k2 3 7) [2,4,11,12,13] [(5,AL e),(6,AL i)] [2,4] [] ⟨KAt.cX (W5 u) Tryz.call88 [] [] [.tmp 17,.tmp 19,.func 208] ⟨.p,.p,y7.cX Tryz.call208 [] (fun args r hq=>by obtain ⟨y0,y1,y,hq,rfl,rfl⟩:=hq;exact ⟨Eq.mp (by kernel_rfl) (Q7y hq),rfl⟩) [] (True.intro),⟨⟩⟩,KAt.cX (W5 A) Tryz.call88 [] [] [.tmp 21,.tmp 23,.func 209] ⟨.p,.p,y7.cX Tryz.call209 [] (fun args r hq=>by obtain ⟨y0,y1,y,hq,rfl,rfl⟩:=hq;exact ⟨Eq.mp (by kernel_rfl) (Z2r hq),rfl⟩) [] (True.intro),⟨⟩⟩,⟨⟩⟩ ?_;obtain ⟨t,h⟩:=gS h
   exact Q1 Fm [.s,.s] [2,4,5,6,11,12] [(13,vi (c+1))] [2,4] [] (cT (cT t)) (Kn.R Fm (j (e,i,(c+1)) h))
  ·exact AW.exit (Kn.R Fm (l (D,E) h))
theorem Q2i {F a b r} (h:Q0r F a b=some r) :
  Q7 Tryz.prog 211 [gE a,vb b] [] (gE r) []:=by
 refine FJ Tryz.func211 fun C Fm=>?_
 unfold Q0r at h;refine Q0 Fm 2 [1] [(2,pt 2),(4,pt 4)] [] [(2,bx (gC a)),(4,bx [f0,f0,f0])] (AW.seq (Q0 Fm 1 [2,4] [(5,vb b)] [2,4] [] (Q3 h (fun c h=>?_) (fun c h=>?_))))
 ·exact Y4 Fm [.s,.s,.w (.v (.g [.d (DL a.t_),dR,dR])),.s] [4] [] [] [(4,bx [.d (DL a.t_),dR,dR])] (cT (ALe.g ⟨CLe.refl _,CLe.fl .nil,CLe.fl .nil,⟨⟩⟩:ALe (.v (.g [.d (DL a.t_),f0,f0])) (.v (.g [.d (DL a.t_),dR,dR])))) (Z2 Fm h)
 ·exact AW.skip (Y4 Fm [.s,.s,.w (.v (.g [dR,.d (DL a.t_),dR])),.s] [4] [] [] [(4,bx [dR,.d (DL a.t_),dR])] (cT (ALe.g ⟨CLe.fl .nil,CLe.refl _,CLe.fl .nil,⟨⟩⟩:ALe (.v (.g [f0,.d (DL a.t_),f0])) (.v (.g [dR,.d (DL a.t_),dR])))) (Z2 Fm h))
theorem Z2k {F e i a r} (h:Z1z F e i a=some r) :
  Q7 Tryz.prog 212 [AL e,vi i,vi a] [] (vb r) []:=by
 refine FJ Tryz.func212 fun C Fm=>?_
 unfold Z1z at h;refine Q0 Fm 1 [0,1,2] [] [] [] (Q6 (r:=r) (fun z:Bool=>Q9P F z) [] (fun z=>[(6,vb z)]) [] nn (fun m h=>?_) (fun l c=>?_))
 ·exact Z2 Fm h
 ·rcases Z6 h with ⟨b,h⟩|⟨b,h⟩
  ·rcases Z6 h with ⟨d,h⟩|⟨d,h⟩
   ·rcases Z6 h with ⟨j,h⟩|⟨j,h⟩
    ·obtain ⟨k,h⟩:=gS h
     exact Q1 Fm (sZ 11 [.s,.s,.w (vb true),.s,.s,.s,.s,.s,.w (vb true),.s,.s,.s,.w (vb true)]) [] [(6,vb ((Q5T .i64 ((gn e i).m_) a)==a))] [] [] (cA (ALe.bool b) (cA (ALe.bool d) (cA (ALe.bool j) (cT k)))) (Kn.R Fm (c ((Q5T .i64 ((gn e i).m_) a)==a) h))
    ·exact Q1 Fm (sZ 11 [.s,.s,.w (vb true),.s,.s,.s,.s,.s,.w (vb true),.s,.s,.s,.w (vb false)]) [] [(6,vb false)] [] [] (cA (ALe.bool b) (cA (ALe.bool d) (cT (ALe.bool j)))) (Kn.R Fm (c false h))
   ·exact Q1 Fm (sZ 15 [.s,.s,.w (vb true),.s,.s,.s,.s,.s,.w (vb false)]) [] [(6,vb false)] [] [] (cA (ALe.bool b) (cT (ALe.bool d))) (Kn.R Fm (c false h))
  ·exact Q1 Fm (sZ 21 [.s,.s,.w (vb false)]) [] [(6,vb false)] [] [] (cT (ALe.bool b)) (Kn.R Fm (c false h))
theorem Z3h {F b a r} (h:Q7t F b a=some r) :
  Q7 Tryz.prog 214 [vi b,pt 0] [(0,.box true [ci a.op_,ci a.num_,ci a.more_,.d (DL a.kids_)])] (vb r) [(0,.box true [ci a.op_,ci a.num_,ci a.more_,.d (DL a.kids_)])]:=by
 refine FJ Tryz.func214 fun C Fm=>?_
 unfold Q7t at h;exact Q0 Fm 1 [0,1] [] [0] [] (Q0 Fm 5 [] [(3,vb (b==a.num_))] [0] [] (Z2 Fm h))
theorem Z1x {F a j i r} (h:Q4w F a j i=some r) :
  Q7 Tryz.prog 213 [AL a,vi j,.v (.c (.sem (J5 Tryz.prog (Q2Q i))))] [] (AL r) []:=by
 refine FJ Tryz.func213 fun C Fm=>?_
 unfold Q4w at h;refine Q0 Fm 1 [0,1,2] [] [] [] (y8 Fm [.m] (fun K=>True) [0,1,2] [(7,ow 7)] [] [(7,AO ([]:List Rect))] True.intro [(7,.arr 4 (0) nn)] ⟨OLe.is ((Is.nil (α:=Rect))),⟨⟩⟩ (Q6 (r:=r) (fun z:(List Rect)=>Q9c F z) [7] nn [] (fun z=>[(7,AO z)]) (fun u h=>?_) (fun T A=>?_)))
 ·refine Q0 Fm 2 [] [(6,ow 7)] [7] [] (AW.ret ?_)
  obtain rfl:=Option.some.inj h;exact Kn.w Fm [(6,ow 7)] [(7,AO u)] (Q1F [(6,AL u)] [] (Kn.D Fm))
 ·refine Q0 Fm 3 [1,2,7] [(10,AL a),(11,vi (lI a)),(12,vi 0)] [7] [] (AW.block (Kn.w Fm [(1,vi j),(2,.v (.c (.sem (J5 Tryz.prog (Q2Q i))))),(7,ow 7),(10,AL a),(11,vi (lI a)),(12,vi 0)] [(7,AO ([]:List Rect))] ?_))
  refine Z5 (E':=fun z=>[(1,vi j),(2,.v (.c (.sem (J5 Tryz.prog (Q2Q i))))),(7,ow 7),(10,AL a),(11,vi (lI a)),(12,vi z.1)]) (S':=fun z=>[(7,AO z.2)]) (fun o z N y h=>?_) h;obtain ⟨b,e⟩:=z
  refine Q0 Fm 1 [1,2,7,10,11,12] [(13,vb (decide (b<(lI a))))] [7] [] (AW.seq (Q3 h (fun B h=>?_) (fun B h=>?_)))
  ·refine AW.skip (Q6 (r:=r) (fun z:(List Rect)=>Q3v F b o z) [1,2,10,11,12] (fun _=>[(7,ow 29)]) [] (fun z=>[(29,AO z)]) (fun M h=>?_) (fun P q=>?_))
   ·obtain ⟨I,h⟩:=gS h
    exact Q1 Fm [.s,.s] [1,2,7,10,11] [(12,vi (b+1))] [29] [] (cT (cT I)) (Q1e Fm [(7,29)] (y ((b+1),M) h))
   ·refine AW.block ?_
    obtain ⟨G,h⟩:=gS h;refine Y4 Fm (sA 4 []) [1,2,7,10,11,12] [(9,pt 9)] [7] [(9,bx [ci ((gn a b).N_),ci ((gn a b).k_),ci ((gn a b).F_),ci ((gn a b).u_),.d (DL (gn a b).g_.t_)])] (cT G) (Q6 (r:=r) (fun z:Bool=>Q3w F a b e o z) [1,2,7,9,10,11,12] (fun z=>[(24,vb z)]) [7,9] nn (fun U h=>?_) (fun O p=>?_))
    ·refine Q3 h (fun E h=>?_) (fun E h=>?_)
     ·obtain ⟨H,h⟩:=gS h
      exact Q2h Fm (sA 6 []) [1,2,10,11,12] [(7,ow 29)] [] [(29,AO (e++((gn a b).g_.t_)))] (cT (cA H (cT (lfl ((gn a b).g_.t_))))) [(29,rAp e ((gn a b).g_.t_))] ⟨oAp,⟨⟩⟩ (Kn.R Fm (q (e++((gn a b).g_.t_)) h))
     ·exact AW.skip (Q1e Fm [(29,7)] (q e h))
    ·obtain ⟨V,t,h⟩:=bS h
     rcases Z6 h with ⟨n,h⟩|⟨n,h⟩
     ·obtain ⟨l,L,h⟩:=bS h
      exact Q5 Fm [.s,.s,.k _,.w (vb true),.s,.s,.s,.k (sE (vb l)),.s] (fun K=>K 2/\_/\K 7/\True) [1,2,7,9,10,11,12] [(24,vb l)] [7,9] [] ⟨Q2 (Q6V t) Tryz.call207 [],ALe.bool n,KAt.sem (F:=(Q2Q i)) (args:=[vi (gn a b).k_]) ⟨((gn a b).k_),l,L,rfl,rfl⟩ rfl (by kernel_rfl) (by kernel_rfl) (by kernel_rfl),⟨⟩⟩ (Kn.R Fm (p l h))
     ·exact Q5 Fm (sZ 5 [.s,.s,.k _,.w (vb false)]) (fun K=>K 2/\_/\True) [1,2,7,9,10,11,12] [(24,vb false)] [7,9] [] ⟨Q2 (Q6V t) Tryz.call207 [],ALe.bool n,⟨⟩⟩ (Kn.R Fm (p false h))
  ·exact AW.exit (Kn.R Fm (A e h))
theorem Q7c {F c a r} (h:Q0V F c a=some r) :
  Q7 Tryz.prog 215 [gE c,AL a] [] (gE r) []:=by
 refine FJ Tryz.func215 fun C Fm=>?_
 unfold Q0V at h;refine Q0 Fm 2 [1] [(2,pt 2),(4,pt 4)] [] [(2,bx (gC c)),(4,bx [f0,f0,f0])] (AW.seq ?_)
 obtain ⟨b,e,h⟩:=bS h;exact Q5 Fm (sA 4 [.k (cE [] [] (AL b) [] []),.w (.v (.g [.d (DL a),.d (DL b),dR])),.s]) (fun K=>K 4/\(ALe (.v (.g [.d (DL a),.d (DL b),f0])) (.v (.g [.d (DL a),.d (DL b),dR])))/\True) [4] [] [] [(4,bx [.d (DL a),.d (DL b),dR])] ⟨KAt.cX (W5 e) Tryz.call88 [] [] [.tmp 7,.tmp 8,.func 242] ⟨.p,.p,y7.cX Tryz.call242 [] (fun args r hq=>by obtain ⟨y0,y1,y,hq,rfl,rfl⟩:=hq;exact ⟨Eq.mp (by kernel_rfl) (Q7q hq),rfl⟩) [] (True.intro),⟨⟩⟩,ALe.g ⟨CLe.refl _,CLe.refl _,CLe.fl .nil,⟨⟩⟩,⟨⟩⟩ (Z2 Fm h)
theorem Z3d {F c a b r} (h:Q2z F c a b=some r) :
  Q7 Tryz.prog 243 [vi c,pt 0,pt 1] [(0,.box true (gC a)),(1,.box true [ci b])] (vb r) [(0,.box true (gC a)),(1,.box true [ci b])]:=by
 refine FJ Tryz.func243 fun C Fm=>?_
 unfold Q2z at h;refine Q0 Fm 1 [0,1,2] [] [0,1] [] ?_
 obtain ⟨d,h⟩:=gS h;exact Y4 Fm (sA 10 []) [] [(4,vb (((gn a.world_.crops_ c).f_)==b))] [0,1] [] (cT d) (Z2 Fm h)
theorem Z7e {F a j i r} (h:Q6r F a j i=some r) :
  Q7 Tryz.prog 245 [AL a,vi j,.v (.c (.sem (J5 Tryz.prog (Q2Q i))))] [] (AL r) []:=by
 refine FJ Tryz.func245 fun C Fm=>?_
 unfold Q6r at h;refine Q0 Fm 1 [0,1,2] [] [] [] (y8 Fm [.m] (fun K=>True) [0,1,2] [(7,ow 7)] [] [(7,AO ([]:List Rect))] True.intro [(7,.arr 4 (0) nn)] ⟨OLe.is ((Is.nil (α:=Rect))),⟨⟩⟩ (Q6 (r:=r) (fun z:(List Rect)=>Q9a F z) [7] nn [] (fun z=>[(7,AO z)]) (fun t h=>?_) (fun P y=>?_)))
 ·refine Q0 Fm 2 [] [(6,ow 7)] [7] [] (AW.ret ?_)
  obtain rfl:=Option.some.inj h;exact Kn.w Fm [(6,ow 7)] [(7,AO t)] (Q1F [(6,AL t)] [] (Kn.D Fm))
 ·refine Q0 Fm 3 [1,2,7] [(10,AL a),(11,vi (lI a)),(12,vi 0)] [7] [] (AW.block (Kn.w Fm [(1,vi j),(2,.v (.c (.sem (J5 Tryz.prog (Q2Q i))))),(7,ow 7),(10,AL a),(11,vi (lI a)),(12,vi 0)] [(7,AO ([]:List Rect))] ?_))
  refine Z5 (E':=fun z=>[(1,vi j),(2,.v (.c (.sem (J5 Tryz.prog (Q2Q i))))),(7,ow 7),(10,AL a),(11,vi (lI a)),(12,vi z.1)]) (S':=fun z=>[(7,AO z.2)]) (fun o z M u h=>?_) h;obtain ⟨b,e⟩:=z
  refine Q0 Fm 1 [1,2,7,10,11,12] [(13,vb (decide (b<(lI a))))] [7] [] (AW.seq (Q3 h (fun A h=>?_) (fun A h=>?_)))
  ·refine AW.skip (Q6 (r:=r) (fun z:(List Rect)=>Q3r F b o z) [1,2,10,11,12] (fun _=>[(7,ow 30)]) [] (fun z=>[(30,AO z)]) (fun L h=>?_) (fun O q=>?_))
   ·obtain ⟨H,h⟩:=gS h
    exact Q1 Fm [.s,.s] [1,2,7,10,11] [(12,vi (b+1))] [30] [] (cT (cT H)) (Q1e Fm [(7,30)] (u ((b+1),L) h))
   ·refine AW.block ?_
    obtain ⟨E,h⟩:=gS h;refine Y4 Fm (sA 4 []) [1,2,7,10,11,12] [(9,pt 9)] [7] [(9,bx [ci ((gn a b).y_),ci ((gn a b).c_),.d (DL (gn a b).g_.t_)])] (cT E) (Q6 (r:=r) (fun z:Bool=>Q3s F a b e o z) [1,2,7,9,10,11,12] (fun z=>[(25,vb z)]) [7,9] nn (fun T h=>?_) (fun N p=>?_))
    ·refine Q3 h (fun B h=>?_) (fun B h=>?_)
     ·obtain ⟨G,h⟩:=gS h
      exact Q2h Fm (sA 6 []) [1,2,10,11,12] [(7,ow 30)] [] [(30,AO (e++((gn a b).g_.t_)))] (cT (cA G (cT (lfl ((gn a b).g_.t_))))) [(30,rAp e ((gn a b).g_.t_))] ⟨oAp,⟨⟩⟩ (Kn.R Fm (q (e++((gn a b).g_.t_)) h))
     ·exact AW.skip (Q1e Fm [(30,7)] (q e h))
    ·rcases Z6 h with ⟨n,h⟩|⟨n,h⟩
     ·obtain ⟨l,I,h⟩:=bS h
      exact Q5 Fm (sA 4 [.w (vb true),.s,.s,.s,.k (sE (vb l)),.s]) (fun K=>_/\K 8/\True) [1,2,7,9,10,11,12] [(25,vb l)] [7,9] [] ⟨ALe.bool n,KAt.sem (F:=(Q2Q i)) (args:=[vi (gn a b).c_]) ⟨((gn a b).c_),l,I,rfl,rfl⟩ rfl (by kernel_rfl) (by kernel_rfl) (by kernel_rfl),⟨⟩⟩ (Kn.R Fm (p l h))
     ·exact Q1 Fm (sA 4 (sZ 5 [.w (vb false)])) [1,2,7,9,10,11,12] [(25,vb false)] [7,9] [] (cT (ALe.bool n)) (Kn.R Fm (p false h))
  ·exact AW.exit (Kn.R Fm (y e h))
theorem Q0Q {F a b d r} (h:y3 F a b d=some r) :
  Q7 Tryz.prog 217 [gE a,vi b,.v (.c (.sem (J5 Tryz.prog (Q2Q d))))] [] (AL r) []:=by
 refine FJ Tryz.func217 fun C Fm=>?_
 unfold y3 at h;refine Q0 Fm 2 [1,2] [(3,pt 3)] [] [(3,bx (gC a))] (AW.seq ?_)
 obtain ⟨i,h⟩:=gS h;obtain ⟨m,j,h⟩:=bS h
 obtain ⟨e,l,h⟩:=bS h;exact Q5 Fm (sA 11 [.k (cE [] [] (AL m) [] []),.k (cE [] [] (AL e) [] []),.s]) (fun K=>(_/\True)/\K 11/\K 12/\True) [] [(6,AL e)] [] [] ⟨⟨i,⟨⟩⟩,KAt.cX (Z7e j) Tryz.call245 [] [] [.tmp 11,.tmp 16,.tmp 17] ⟨.p,.p,y7.semX (by kernel_rfl) (by kernel_rfl) (by kernel_rfl),⟨⟩⟩,KAt.cX (W5 l) Tryz.call88 [] [] [.tmp 8,.tmp 18,.func 208] ⟨.p,.p,y7.cX Tryz.call208 [] (fun args r hq=>by obtain ⟨y0,y1,y,hq,rfl,rfl⟩:=hq;exact ⟨Eq.mp (by kernel_rfl) (Q7y hq),rfl⟩) [] (True.intro),⟨⟩⟩,⟨⟩⟩ (Z2 Fm h)
theorem Z3c {F c a b r} (h:Q2y F c a b=some r) :
  Q7 Tryz.prog 244 [vi c,pt 0,pt 1] [(0,.box true (gC a)),(1,.box true [ci b])] (vb r) [(0,.box true (gC a)),(1,.box true [ci b])]:=by
 refine FJ Tryz.func244 fun C Fm=>?_
 unfold Q2y at h;refine Q0 Fm 1 [0,1,2] [] [0,1] [] ?_
 obtain ⟨d,h⟩:=gS h;exact Y4 Fm (sA 10 []) [] [(4,vb (((gn a.world_.crops_ c).f_) != b))] [0,1] [] (cT d) (Z2 Fm h)
theorem Z4q {F a b r} (h:Q3T F a b=some r) :
  Q7 Tryz.prog 216 [gE a,vi b] [] (gE r) []:=by
 refine FJ Tryz.func216 fun C Fm=>?_
 unfold Q3T at h;refine Q0 Fm 2 [1] [(2,pt 2),(4,pt 4)] [] [(2,bx (gC a)),(4,bx [f0,f0,f0])] ?_
 obtain ⟨u,h⟩:=gS h;refine Y4 Fm (sA 11 []) [1,2,4] [(5,pt 5)] [2,4] [(5,bx [ci ((gn a.world_.crops_ a.line_.c_).f_)])] (cT u) (y8 Fm [.s,.s,.s,.m] (fun K=>True) [1,2,4,5] [(6,AL a.t_),(7,ow 7)] [2,4,5] [(7,AO ([]:List Rect))] True.intro [(7,.arr 4 (0) nn)] ⟨OLe.is ((Is.nil (α:=Rect))),⟨⟩⟩ (Q6 (r:=r) (fun z:(List Rect)×(List Rect)=>Q6O F a z.1 z.2) [2,4] (fun z=>[(6,AL z.1),(7,AL z.2)]) [2,4] nn (fun z h=>?_) (fun O o=>?_)))
 ·obtain ⟨T,U⟩:=z
  refine AW.seq ?_;obtain ⟨M,H,h⟩:=bS h
  exact Q5 Fm [.s,.s,.s,.k _,.s] (k1 3) [4] [] [] [(4,bx (gC M))] ⟨Q2 (Q4W H) Tryz.call210 [],⟨⟩⟩ (Z2 Fm h)
 ·refine Q0 Fm 1 [1,2,4,5,6,7] [(8,vi 1)] [2,4,5,7] [] (AW.block (Kn.w Fm [(1,vi b),(2,pt 2),(4,pt 4),(5,pt 5),(6,AL a.t_),(7,ow 7),(8,vi 1)] [(7,AO ([]:List Rect)),(2,bx (gC a)),(4,bx [f0,f0,f0]),(5,bx [ci ((gn a.world_.crops_ a.line_.c_).f_)])] (Q1F [(1,vi b),(2,pt 2),(4,pt 4),(5,pt 5),(6,AL a.t_),(7,AL ([]:List Rect)),(8,vi 1)] [(2,bx (gC a)),(4,bx [f0,f0,f0]),(5,bx [ci ((gn a.world_.crops_ a.line_.c_).f_)])] (Kn.w Fm [(1,vi b),(2,pt 2),(4,pt 4),(5,pt 5),(6,AL a.t_),(7,AL ([]:List Rect)),(8,vi 1)] [(2,bx (gC a)),(4,bx [f0,f0,f0]),(5,bx [ci ((gn a.world_.crops_ a.line_.c_).f_)])] ?_))))
  refine Z5 (E':=fun z=>[(1,vi b),(2,pt 2),(4,pt 4),(5,pt 5),(6,AL z.1),(7,AL z.2.1),(8,vi z.2.2)]) (S':=fun z=>[(2,bx (gC a)),(4,bx [f0,f0,f0]),(5,bx [ci ((gn a.world_.crops_ a.line_.c_).f_)])]) (fun P z N n h=>?_) h;obtain ⟨I,L,c⟩:=z
  refine AW.seq (Q0 Fm 3 [1,2,4,5,6,7,8] [(24,vb (decide (c<b)))] [2,4,5] [] (Q3 h (fun t h=>?_) (fun t h=>?_)))
  ·refine AW.skip (AW.seq (AW.block (AW.seq ?_)))
   obtain ⟨j,B,h⟩:=bS h;refine Q5 Fm [.s,.s,.s,.k (cE [] [2,5] (AL j) [] []),.s] (k1 3) [1,2,4,5,6,7,8] [(9,AL j)] [2,4,5] [] ⟨KAt.cX (Q0Q B) Tryz.call217 [] [2,5] [.tmp 27,.tmp 28,.tmp 29] ⟨.p,.p,y7.cX Tryz.call243 [[ci a.world_.y_,.d (DL a.world_.crops_),.d (DL a.world_.history_),.d (DL a.world_.zones_),ci a.world_.day_,ci a.line_.p_,.d (DL a.line_.g_.t_),ci a.line_.c_,ci a.line_.s_,.d (DL a.t_)],[ci ((gn a.world_.crops_ a.line_.c_).f_)]] (fun args r hq=>by obtain ⟨y0,y,hq,rfl,rfl⟩:=hq;exact ⟨Eq.mp (by kernel_rfl) (Z3d hq),rfl⟩) [2,5] (⟨⟨false,(by kernel_rfl)⟩,⟨⟨false,(by kernel_rfl)⟩,⟨⟩⟩⟩),⟨⟩⟩,⟨⟩⟩ (AW.seq ?_)
   obtain ⟨l,D,h⟩:=bS h;refine Q5 Fm [.s,.s,.s,.k (cE [] [2,5] (AL l) [] []),.s] (k1 3) [1,2,4,5,6,7,8,9] [(10,AL l)] [2,4,5] [] ⟨KAt.cX (Q0Q D) Tryz.call217 [] [2,5] [.tmp 31,.tmp 32,.tmp 33] ⟨.p,.p,y7.cX Tryz.call244 [[ci a.world_.y_,.d (DL a.world_.crops_),.d (DL a.world_.history_),.d (DL a.world_.zones_),ci a.world_.day_,ci a.line_.p_,.d (DL a.line_.g_.t_),ci a.line_.c_,ci a.line_.s_,.d (DL a.t_)],[ci ((gn a.world_.crops_ a.line_.c_).f_)]] (fun args r hq=>by obtain ⟨y0,y,hq,rfl,rfl⟩:=hq;exact ⟨Eq.mp (by kernel_rfl) (Z3c hq),rfl⟩) [2,5] (⟨⟨false,(by kernel_rfl)⟩,⟨⟨false,(by kernel_rfl)⟩,⟨⟩⟩⟩),⟨⟩⟩,⟨⟩⟩ ?_
   obtain ⟨e,E,h⟩:=bS h;obtain ⟨i,G,h⟩:=bS h
   refine Q5 Fm [.s,.s,.k (cE [] [] (AL e) [] []),.s,.s,.k (cE [] [] (AL i) [] []),.s,.s] (k2 2 5) [1,2,4,5,8] [(6,AL e),(7,AL i)] [2,4,5] [] ⟨KAt.cX (W5 E) Tryz.call88 [] [] [.tmp 35,.tmp 36,.func 208] ⟨.p,.p,y7.cX Tryz.call208 [] (fun args r hq=>by obtain ⟨y0,y1,y,hq,rfl,rfl⟩:=hq;exact ⟨Eq.mp (by kernel_rfl) (Q7y hq),rfl⟩) [] (True.intro),⟨⟩⟩,KAt.cX (W5 G) Tryz.call88 [] [] [.tmp 38,.tmp 39,.func 209] ⟨.p,.p,y7.cX Tryz.call209 [] (fun args r hq=>by obtain ⟨y0,y1,y,hq,rfl,rfl⟩:=hq;exact ⟨Eq.mp (by kernel_rfl) (Z2r hq),rfl⟩) [] (True.intro),⟨⟩⟩,⟨⟩⟩ ?_;obtain ⟨A,h⟩:=gS h
   exact Q1 Fm [.s,.s,.s] [1,2,4,5,6,7] [(8,vi (c+1))] [2,4,5] [] (cT (cT A)) (Kn.R Fm (n (e,i,(c+1)) h))
  ·exact AW.exit (Kn.R Fm (o (I,L) h))
theorem Z3g {F c b a r} (h:Q1q F c b a=some r) :
  Q7 Tryz.prog 218 [vi c,pt 0,pt 1] [(0,.box true (gC b)),(1,.box true [ci a.op_,ci a.num_,ci a.more_,.d (DL a.kids_)])] (vb r) [(0,.box true (gC b)),(1,.box true [ci a.op_,ci a.num_,ci a.more_,.d (DL a.kids_)])]:=by
 refine FJ Tryz.func218 fun C Fm=>?_
 unfold Q1q at h;refine Q0 Fm 1 [0,1,2] [] [0,1] [] (AW.seq ?_)
 obtain ⟨i,e,h⟩:=bS h;exact Q5 Fm (sA 6 [.k _,.s]) (k1 6) [] [(4,vb i)] [0,1] [] ⟨Q2 (Z2k e) Tryz.call212 [],⟨⟩⟩ (Z2 Fm h)
theorem Z3f {F c b a r} (h:Q1p F c b a=some r) :
  Q7 Tryz.prog 219 [vi c,pt 0,pt 1] [(0,.box true (gC b)),(1,.box true [ci a.op_,ci a.num_,ci a.more_,.d (DL a.kids_)])] (vb r) [(0,.box true (gC b)),(1,.box true [ci a.op_,ci a.num_,ci a.more_,.d (DL a.kids_)])]:=by
 refine FJ Tryz.func219 fun C Fm=>?_
 unfold Q1p at h;refine Q0 Fm 1 [0,1,2] [] [0,1] [] (AW.seq ?_)
 obtain ⟨i,e,h⟩:=bS h;exact Q5 Fm (sA 6 [.k _,.s,.s]) (k1 6) [] [(4,vb (!i))] [0,1] [] ⟨Q2 (Z2k e) Tryz.call212 [],⟨⟩⟩ (Z2 Fm h)
theorem Z8Y {F a r} (h:Q9N F a=some r) :
  Q7 Tryz.prog 220 [vi a] [] (vb r) []:=by
 refine FJ Tryz.func220 fun C Fm=>?_
 unfold Q9N at h;exact Q0 Fm 1 [] [] [] [] (Q0 Fm 1 [] [(2,vb true)] [] [] (Z2 Fm h))
theorem Z4r {F b a r} (h:Q3U F b a=some r) :
  Q7 Tryz.prog 181 [gE b,.v (.g [ci a.op_,ci a.num_,ci a.more_,.d (DL a.kids_)])] [] (gE r) []:=by
 refine FJ Tryz.func181 fun C Fm=>?_
 unfold Q3U at h;refine Q0 Fm 3 [] [(2,pt 2),(3,pt 3),(4,pt 4)] [] [(2,bx (gC b)),(3,bx [ci a.op_,ci a.num_,ci a.more_,.d (DL a.kids_)]),(4,bx [f0,f0,f0])] (AW.seq (Q0 Fm 2 [2,3,4] [(8,vi a.op_)] [2,3,4] [] (AW.block (Q0 Fm 2 [2,3,4,8] [(9,vb (a.op_==2))] [2,3,4] [] (Q3 h (fun i h=>?_) (fun i h=>?_))))))
 ·refine AW.seq ?_
  obtain ⟨T,w,h⟩:=bS h;exact Q5 Fm (sA 7 [.k _,.s]) (k1 7) [4] [] [] [(4,bx (gC T))] ⟨Q2 (Q2i w) Tryz.call211 [],⟨⟩⟩ (Z2 Fm h)
 ·refine Q0 Fm 2 [2,3,4,8] [(19,vb (a.op_==3))] [2,3,4] [] (Q3 h (fun j h=>?_) (fun j h=>?_))
  ·refine AW.seq ?_
   obtain ⟨u,h⟩:=gS h;obtain ⟨U,A,h⟩:=bS h
   exact Q5 Fm (sA 13 [.k _,.s]) (fun K=>_/\K 13/\True) [4] [] [] [(4,bx (gC U))] ⟨u,Q2 (Q2i A) Tryz.call211 [],⟨⟩⟩ (Z2 Fm h)
  ·refine Q0 Fm 2 [2,3,4,8] [(35,vb (a.op_==4))] [2,3,4] [] (Q3 h (fun l h=>?_) (fun l h=>?_))
   ·refine AW.seq ?_
    obtain ⟨e0,B,h⟩:=bS h;obtain ⟨V,D,h⟩:=bS h
    exact Q5 Fm (sA 9 [.k _,.k _,.s]) (k2 9 10) [4] [] [] [(4,bx (gC V))] ⟨Q2 (Z2k B) Tryz.call212 [],Q2 (Q2i D) Tryz.call211 [],⟨⟩⟩ (Z2 Fm h)
   ·refine Q0 Fm 2 [2,3,4,8] [(48,vb (a.op_==5))] [2,3,4] [] (Q3 h (fun m h=>?_) (fun m h=>?_))
    ·refine AW.seq ?_
     obtain ⟨c,E,h⟩:=bS h;refine Q5 Fm (sA 7 [.k (cE [] [3] (AL c) [] []),.s]) (k1 7) [2,4] [(5,AL c)] [2,4] [] ⟨KAt.cX (Z1x E) Tryz.call213 [] [3] [.tmp 52,.tmp 55,.tmp 56] ⟨.p,.p,y7.cX Tryz.call214 [[ci a.op_,ci a.num_,ci a.more_,.d (DL a.kids_)]] (fun args r hq=>by obtain ⟨y0,y,hq,rfl,rfl⟩:=hq;exact ⟨Eq.mp (by kernel_rfl) (Z3h hq),rfl⟩) [3] (⟨⟨false,(by kernel_rfl)⟩,⟨⟩⟩),⟨⟩⟩,⟨⟩⟩ (AW.seq ?_)
     obtain ⟨W,G,h⟩:=bS h;obtain ⟨X,H,h⟩:=bS h
     exact Q5 Fm (sA 4 [.k (cE [] [] (AL W) [] []),.k _,.s]) (k2 4 5) [4] [] [] [(4,bx (gC X))] ⟨KAt.cX (W5 G) Tryz.call88 [] [] [.tmp 60,.tmp 61,.func 208] ⟨.p,.p,y7.cX Tryz.call208 [] (fun args r hq=>by obtain ⟨y0,y1,y,hq,rfl,rfl⟩:=hq;exact ⟨Eq.mp (by kernel_rfl) (Q7y hq),rfl⟩) [] (True.intro),⟨⟩⟩,Q2 (Q7c H) Tryz.call215 [],⟨⟩⟩ (Z2 Fm h)
    ·refine Q0 Fm 2 [2,3,4,8] [(64,vb (a.op_==6))] [2,3,4] [] (Q3 h (fun n h=>?_) (fun n h=>?_))
     ·refine AW.seq ?_
      obtain ⟨Y,I,h⟩:=bS h;exact Q5 Fm [.s,.s,.s,.k _,.s] (k1 3) [4] [] [] [(4,bx (gC Y))] ⟨Q2 (Z4q I) Tryz.call216 [],⟨⟩⟩ (Z2 Fm h)
     ·refine Q0 Fm 2 [2,3,4,8] [(70,vb (a.op_==7))] [2,3,4] [] (Q3 h (fun o h=>?_) (fun o h=>?_))
      ·refine AW.seq ?_
       obtain ⟨e,L,h⟩:=bS h;refine Q5 Fm (sA 4 [.k (cE [] [2,3] (AL e) [] []),.s]) (k1 4) [2,3,4] [(6,AL e)] [2,3,4] [] ⟨KAt.cX (Q0Q L) Tryz.call217 [] [2,3] [.tmp 72,.tmp 74,.tmp 75] ⟨.p,.p,y7.cX Tryz.call218 [[ci b.world_.y_,.d (DL b.world_.crops_),.d (DL b.world_.history_),.d (DL b.world_.zones_),ci b.world_.day_,ci b.line_.p_,.d (DL b.line_.g_.t_),ci b.line_.c_,ci b.line_.s_,.d (DL b.t_)],[ci a.op_,ci a.num_,ci a.more_,.d (DL a.kids_)]] (fun args r hq=>by obtain ⟨y0,y,hq,rfl,rfl⟩:=hq;exact ⟨Eq.mp (by kernel_rfl) (Z3g hq),rfl⟩) [2,3] (⟨⟨false,(by kernel_rfl)⟩,⟨⟨false,(by kernel_rfl)⟩,⟨⟩⟩⟩),⟨⟩⟩,⟨⟩⟩ (AW.seq ?_)
       obtain ⟨Z,M,h⟩:=bS h;obtain ⟨a0,N,h⟩:=bS h
       exact Q5 Fm (sA 6 [.k (cE [] [2,3] (AL Z) [] []),.k _,.s]) (k2 6 7) [4] [] [] [(4,bx (gC a0))] ⟨KAt.cX (Q0Q M) Tryz.call217 [] [2,3] [.tmp 79,.tmp 81,.tmp 82] ⟨.p,.p,y7.cX Tryz.call219 [[ci b.world_.y_,.d (DL b.world_.crops_),.d (DL b.world_.history_),.d (DL b.world_.zones_),ci b.world_.day_,ci b.line_.p_,.d (DL b.line_.g_.t_),ci b.line_.c_,ci b.line_.s_,.d (DL b.t_)],[ci a.op_,ci a.num_,ci a.more_,.d (DL a.kids_)]] (fun args r hq=>by obtain ⟨y0,y,hq,rfl,rfl⟩:=hq;exact ⟨Eq.mp (by kernel_rfl) (Z3f hq),rfl⟩) [2,3] (⟨⟨false,(by kernel_rfl)⟩,⟨⟨false,(by kernel_rfl)⟩,⟨⟩⟩⟩),⟨⟩⟩,Q2 (Q4W N) Tryz.call210 [],⟨⟩⟩ (Z2 Fm h)
      ·refine Q0 Fm 2 [2,3,4] [(85,vb (a.op_==8))] [2,3,4] [] (Q3 h (fun t h=>?_) (fun t h=>?_))
       ·refine AW.seq ?_
        obtain ⟨b0,O,h⟩:=bS h;obtain ⟨c0,P,h⟩:=bS h
        exact Q5 Fm (sA 4 [.k (cE [] [] (AL b0) [] []),.k _,.s]) (k2 4 5) [4] [] [] [(4,bx (gC c0))] ⟨KAt.cX (Q0Q O) Tryz.call217 [] [] [.tmp 88,.tmp 90,.func 220] ⟨.p,.p,y7.cX Tryz.call220 [] (fun args r hq=>by obtain ⟨y0,y,hq,rfl,rfl⟩:=hq;exact ⟨Eq.mp (by kernel_rfl) (Z8Y hq),rfl⟩) [] (True.intro),⟨⟩⟩,Q2 (Q7c P) Tryz.call215 [],⟨⟩⟩ (Z2 Fm h)
       ·refine AW.skip (AW.seq ?_)
        obtain ⟨d0,R,h⟩:=bS h;exact Q5 Fm [.s,.k _,.s] (k1 1) [4] [] [] [(4,bx (gC d0))] ⟨Q2 (Q2i R) Tryz.call211 [],⟨⟩⟩ (Z2 Fm h)
theorem Z3e {F:Nat} {rc:TermPlace->Term->Option (Squares)} (hrc:∀ {e:TermPlace} {a:Term} {r:Squares},rc e a=some r->Q7 Tryz.prog 135 [gE e,.v (.g [ci a.op_,ci a.num_,ci a.more_,.d (DL a.kids_)])] [] (gE r) []) {e:TermPlace} {a:Term} {r:Squares} (h:Q2A F rc e a=some r) :
  Q7 Tryz.prog 135 [gE e,.v (.g [ci a.op_,ci a.num_,ci a.more_,.d (DL a.kids_)])] [] (gE r) []:=by
 refine FJ Tryz.func135 fun C Fm=>?_
 unfold Q2A at h;refine Q0 Fm 3 [] [(2,pt 2),(3,pt 3),(4,pt 4)] [] [(2,bx (gC e)),(3,bx [ci a.op_,ci a.num_,ci a.more_,.d (DL a.kids_)]),(4,bx [f0,f0,f0])] (y8 Fm [.m] (fun K=>True) [2,3,4] [(5,ow 5)] [2,3,4] [(5,AO ([]:List Squares))] True.intro [(5,.arr 3 (0) nn)] ⟨OLe.is ((Is.nil (α:=Squares))),⟨⟩⟩ (Q6 (r:=r) (fun z:(List Squares)=>Q6P F rc e a z) [2,3,4,5] nn [2,3,4] (fun z=>[(5,AO z)]) (fun i h=>?_) (fun e0 D=>?_)))
 ·refine AW.seq (Q0 Fm 2 [2,3,4,5] [(30,vi a.op_)] [2,3,4,5] [] (AW.block (Q0 Fm 2 [2,3,4,5,30] [(31,vb (a.op_==9))] [2,3,4,5] [] (Q3 h (fun H h=>?_) (fun H h=>?_)))))
  ·refine AW.seq (Kn.w Fm [(2,pt 2),(3,pt 3),(4,pt 4),(5,ow 5),(30,vi a.op_),(31,vb (a.op_==9))] [(5,AO i),(2,bx (gC e)),(3,bx [ci a.op_,ci a.num_,ci a.more_,.d (DL a.kids_)]),(4,bx [f0,f0,f0])] (Q1F [(2,pt 2),(3,pt 3),(4,pt 4),(5,AL i),(30,vi a.op_),(31,vb (a.op_==9))] [(2,bx (gC e)),(3,bx [ci a.op_,ci a.num_,ci a.more_,.d (DL a.kids_)]),(4,bx [f0,f0,f0])] ?_))
   obtain ⟨Z,V,h⟩:=bS h;exact Q5 Fm [.s,.s,.k _,.s] (k1 2) [4] [] [] [(4,bx (gC Z))] ⟨Q2 (Z0r V) Tryz.call180 [],⟨⟩⟩ (Z2 Fm h)
  ·refine Q0 Fm 2 [2,3,4,5,30] [(36,vb (a.op_==10))] [2,3,4,5] [] (Q3 h (fun I h=>?_) (fun I h=>?_))
   ·refine AW.seq (Kn.w Fm [(2,pt 2),(3,pt 3),(4,pt 4),(5,ow 5),(30,vi a.op_),(36,vb (a.op_==10))] [(5,AO i),(2,bx (gC e)),(3,bx [ci a.op_,ci a.num_,ci a.more_,.d (DL a.kids_)]),(4,bx [f0,f0,f0])] (Q1F [(2,pt 2),(3,pt 3),(4,pt 4),(5,AL i),(30,vi a.op_),(36,vb (a.op_==10))] [(2,bx (gC e)),(3,bx [ci a.op_,ci a.num_,ci a.more_,.d (DL a.kids_)]),(4,bx [f0,f0,f0])] ?_))
    obtain ⟨i0,W,h⟩:=bS h;obtain ⟨a0,X,h⟩:=bS h
    exact Q5 Fm [.s,.s,.k _,.k _,.s] (k2 2 3) [4] [] [] [(4,bx (gC a0))] ⟨Q2 (Z0r W) Tryz.call180 [],Q2 (Z2p X) Tryz.call179 [],⟨⟩⟩ (Z2 Fm h)
   ·refine Q0 Fm 2 [2,3,4,5] [(42,vb (a.op_==11))] [2,3,4,5] [] (Q3 h (fun L h=>?_) (fun L h=>?_))
    ·obtain ⟨y,h⟩:=gS h
     exact Y4 Fm (sA 4 []) [4] [] [] [(4,bx [.d (DL (gn i (0:Int)).yes_),.d (DL (gn i (0:Int)).no_),.d (DL (gn i (0:Int)).open_)])] (cA y (cT (Y6 y))) (Z2 Fm h)
    ·refine AW.skip (AW.seq ?_)
     obtain ⟨b0,Y,h⟩:=bS h;exact Q5 Fm [.s,.s,.k _,.s] (k1 2) [4] [] [] [(4,bx (gC b0))] ⟨Q2 (Z4r Y) Tryz.call181 [],⟨⟩⟩ (Z2 Fm h)
 ·refine Q0 Fm 4 [2,3,4,5] [(10,AL a.kids_),(11,vi (lI a.kids_)),(12,vi 0)] [2,3,4,5] [] (AW.block (Kn.w Fm [(2,pt 2),(3,pt 3),(4,pt 4),(5,ow 5),(10,AL a.kids_),(11,vi (lI a.kids_)),(12,vi 0)] [(2,bx (gC e)),(3,bx [ci a.op_,ci a.num_,ci a.more_,.d (DL a.kids_)]),(4,bx [f0,f0,f0]),(5,AO ([]:List Squares))] ?_))
  refine Z5 (E':=fun z=>[(2,pt 2),(3,pt 3),(4,pt 4),(5,ow 5),(10,AL a.kids_),(11,vi (lI a.kids_)),(12,vi z.1)]) (S':=fun z=>[(2,bx (gC e)),(3,bx [ci a.op_,ci a.num_,ci a.more_,.d (DL a.kids_)]),(4,bx [f0,f0,f0]),(5,AO z.2)]) (fun A z c0 B h=>?_) h;obtain ⟨b,o⟩:=z
  refine Q0 Fm 1 [2,3,4,5,10,11,12] [(13,vb (decide (b<(lI a.kids_))))] [2,3,4,5] [] (AW.seq (Q3 h (fun E h=>?_) (fun E h=>?_)))
  ·refine AW.skip (AW.seq (AW.block ?_))
   obtain ⟨M,N,h⟩:=gS2 h;refine Y4 Fm [.w (.v (.c (.elm [.int .i64 (gn a.kids_ b).op_,.int .i64 (gn a.kids_ b).num_,.int .i64 (gn a.kids_ b).more_,DL (gn a.kids_ b).kids_]))),.s,.s,.s] [2,3,4,5,10,11,12] [(7,pt 7)] [2,3,4,5] [(7,bx [ci ((gn a.kids_ b).op_),ci ((gn a.kids_ b).num_),ci ((gn a.kids_ b).more_),.d (DL (gn a.kids_ b).kids_)])] (cA M (cT (ALe.of_eq (Term.elm N):ALe (.v (.c (.elm (LF a.kids_ b.toNat)))) (.v (.c (.elm [.int .i64 (gn a.kids_ b).op_,.int .i64 (gn a.kids_ b).num_,.int .i64 (gn a.kids_ b).more_,DL (gn a.kids_ b).kids_])))))) (AW.seq ?_)
   obtain ⟨p,T,h⟩:=bS h;refine Q5 Fm [.s,.s,.k _,.s,.s] (k1 2) [2,3,4,5,10,11,12] [(8,pt 8)] [2,3,4,5] [(8,bx (gC p))] ⟨Q2 (hrc T) Tryz.call135 [],⟨⟩⟩ (Q6 (r:=r) (fun z:(List Rect)×(List Rect)×(List Rect)=>Q1T F rc b o A z.1 z.2.1 z.2.2) [2,3,4,5,8,10,11,12] nn [2,3,4,5] (fun z=>[(8,bx [.d (DL z.1),.d (DL z.2.1),.d (DL z.2.2)])]) (fun z h=>?_) (fun d0 u=>?_))
   ·obtain ⟨j,l,n⟩:=z
    obtain ⟨O,h⟩:=gS h;refine Q2h Fm [.s,.s,.w (AL [(⟨j,l,n⟩:Squares)]),.s,.s] [2,3,4,10,11,12] [(5,ow 27)] [2,3,4] [(27,AO (o++([(⟨j,l,n⟩:Squares)]:List Squares)))] (cA (Q8h (⟨j,l,n⟩:Squares)) (cT (cA O (cT (lfl ([(⟨j,l,n⟩:Squares)]:List Squares)))))) [(27,rAp o ([(⟨j,l,n⟩:Squares)]:List Squares))] ⟨oAp,⟨⟩⟩ ?_
    obtain ⟨P,h⟩:=gS h;exact Q1 Fm [.s,.s] [2,3,4,5,10,11] [(12,vi (b+1))] [2,3,4,27] [] (cT (cT P)) (Q1e Fm [(5,27)] (B ((b+1),(o++([(⟨j,l,n⟩:Squares)]:List Squares))) h))
   ·refine Q0 Fm 3 [2,3,4,5,8,10,11,12] [(21,vb (a.op_ != (9:Int)))] [2,3,4,5,8] [] (Q3 h (fun G h=>?_) (fun G h=>?_))
    ·obtain ⟨t,U,h⟩:=bS h
     exact Q5 Fm [.s,.k _,.s] (k1 1) [2,3,4,5,8,10,11,12] [] [2,3,4,5] [(8,bx (gC t))] ⟨Q2 (Z2p U) Tryz.call179 [],⟨⟩⟩ (Kn.R Fm (u (t.yes_,t.no_,t.open_) h))
    ·exact AW.skip (Kn.R Fm (u (p.yes_,p.no_,p.open_) h))
  ·exact AW.exit (Kn.R Fm (D o h))
theorem Q9m:∀ {F:Nat} {b:TermPlace} {a:Term} {r:Squares},J7 F b a=some r ->
  Q7 Tryz.prog 135 [gE b,.v (.g [ci a.op_,ci a.num_,ci a.more_,.d (DL a.kids_)])] [] (gE r) []
 | 0,_,_,_,h=>by cases h
 | F+1,_,_,_,h=>Z3e Q9m (F:=F) (rc:=J7 F) h
theorem Q8G {F a r} (h:Q4Y F a=some r) :
  Q7 Tryz.prog 136 [AL a] [] (.v (.g [.d (DL r.t_)])) []:=by
 refine FJ Tryz.func136 fun C Fm=>?_
 unfold Q4Y at h;refine Q0 Fm 1 [0] [(2,pt 2)] [] [(2,bx [f0])] (AW.seq ?_)
 obtain ⟨c,b,h⟩:=bS h;exact Q5 Fm [.s,.k _,.s,.s] (k1 1) [2] [] [] [(2,bx [.d (DL c)])] ⟨Q2 (Q7A b) Tryz.call112 [],⟨⟩⟩ (Z2 Fm h)
theorem Y0t {F i j l m n o p r} (h:Z2s F i j l m n o p=some r) :
  Q7 Tryz.prog 83 [.v (.g [ci i.op_,ci i.num_,ci i.more_,.d (DL i.kids_)]),gE j,vi l,AL m,AL n,AL o,vi p] [] (.t [.g (gC r.1),.c (ci r.2)]) []:=by
 refine FJ Tryz.func83 fun C Fm=>?_
 unfold Z2s at h;refine Q0 Fm 4 [2,3,4,5,6] [(7,pt 7),(8,pt 8),(14,pt 14)] [] [(7,bx [ci i.op_,ci i.num_,ci i.more_,.d (DL i.kids_)]),(8,bx (gC j)),(14,bx [f0,f0,f0])] (Q0 Fm 13 [7,14] [(16,pt 16)] [7,14] [(16,bx [ci l,.d (DL m),.d (DL n),.d (DL o),ci p,ci j.p_,.d (DL j.g_.t_),ci j.c_,ci j.s_,.d (DL j.g_.t_)])] (AW.seq (AW.seq ?_)))
 obtain ⟨u,B,h⟩:=bS h;refine Q5 Fm [.s,.s,.k _,.s] (k1 2) [7,14,16] [(17,vi u)] [7,14,16] [] ⟨Q2 (Z3Z B) Tryz.call134 [],⟨⟩⟩ (Q0 Fm 2 [7,14,16,17] [(35,vb (u != (0:Int)))] [7,14,16] [] (Q3 h (fun y h=>?_) (fun y h=>?_)))
 ·exact Y4 Fm [.w (.v (.g [dR,dR,dR])),.s,.s,.s] [14] [(15,vi u)] [] [(14,bx [dR,dR,dR])] (cT (ALe.g ⟨CLe.fl .nil,CLe.fl .nil,CLe.fl .nil,⟨⟩⟩:ALe (.v (.g [f0,f0,f0])) (.v (.g [dR,dR,dR])))) (Z2 Fm h)
 ·refine AW.skip (AW.seq ?_)
  obtain ⟨e,D,h⟩:=bS h;refine Q5 Fm [.s,.s,.k _,.s,.s] (k1 2) [14] [(18,pt 18)] [14] [(18,bx (gC e))] ⟨Q2 (Q9m D) Tryz.call135 [],⟨⟩⟩ (AW.seq (Q1K Fm (sA 9 [.k (sE (vi (Q0B (Q0B (lI e.yes_) (lI e.no_)) (lI e.open_)))),.s]) (k1 9) [14,18] [(51,vb (decide ((120:Int)<(Q0B (Q0B (lI e.yes_) (lI e.no_)) (lI e.open_)))))] [14,18] [] ⟨Y8X (a:=(lI e.yes_)) (b:=(lI e.no_)) (c:=(lI e.open_)) rfl rfl (by kernel_rfl) (by kernel_rfl) (by kernel_rfl) (by kernel_rfl) (by kernel_rfl),⟨⟩⟩ (Q3 h (fun A h=>?_) (fun A h=>?_))))
  ·exact Y4 Fm [.w (.v (.g [dR,dR,dR])),.s,.s] [14] [(15,vi 1)] [] [(14,bx [dR,dR,dR])] (cT (ALe.g ⟨CLe.fl .nil,CLe.fl .nil,CLe.fl .nil,⟨⟩⟩:ALe (.v (.g [f0,f0,f0])) (.v (.g [dR,dR,dR])))) (Z2 Fm h)
  ·refine AW.skip (Q0 Fm 1 [14,18] [(19,.v (.c (.clo 136 [])))] [14,18] [] (AW.seq ?_))
   obtain ⟨I,E,h⟩:=bS h;obtain ⟨L,G,h⟩:=bS h
   obtain ⟨M,H,h⟩:=bS h;exact Q5 Fm [.s,.s,.s,.k _,.s,.s,.s,.k _,.s,.s,.s,.k _,.s,.s,.s] (fun K=>K 3/\K 7/\K 11/\True) [14] [(15,vi 0)] [] [(14,bx [.d (DL I.t_),.d (DL L.t_),.d (DL M.t_)])] ⟨Q2 (Q8G E) Tryz.call136 [],Q2 (Q8G G) Tryz.call136 [],Q2 (Q8G H) Tryz.call136 [],⟨⟩⟩ (Z2 Fm h)
theorem Q2D {F a r} (h:Q3Z F a=some r) :
  Q7 Tryz.prog 139 [AL a] [] (vb r) []:=by
 refine FJ Tryz.func139 fun C Fm=>?_
 unfold Q3Z at h;refine Q0 Fm 1 [0] [] [] [] (Q6 (r:=r) (fun z:Unit=>Q6R F a) [0] nn [] nn (fun z h=>?_) (fun H p=>?_))
 ·refine Q6 (r:=r) (fun z:Bool=>Q3G F z) [] (fun z=>[(2,vb z)]) [] nn (fun L h=>?_) (fun I m=>?_)
  ·exact Z2 Fm h
  ·rcases Z6 h with ⟨l,h⟩|⟨l,h⟩
   ·exact Q1 Fm (sZ 5 [.s,.s,.s,.w (vb true)]) [] [(2,vb (decide ((lI a)<=6)))] [] [] (cT (ALe.bool l)) (Kn.R Fm (m (decide ((lI a)<=6)) h))
   ·exact Q1 Fm (sZ 5 [.s,.s,.s,.w (vb false)]) [] [(2,vb false)] [] [] (cT (ALe.bool l)) (Kn.R Fm (m false h))
 ·refine Q0 Fm 3 [0] [(5,AL a),(6,vi (lI a)),(7,vi 0)] [] [] (AW.block (Kn.w Fm [(0,AL a),(5,AL a),(6,vi (lI a)),(7,vi 0)] [] ?_))
  refine Z5 (E':=fun z=>[(0,AL a),(5,AL a),(6,vi (lI a)),(7,vi z)]) (S':=fun z=>[]) (fun n b E o h=>?_) h;refine Q0 Fm 1 [0,5,6,7] [(8,vb (decide (b<(lI a))))] [] [] (AW.seq (Q3 h (fun t h=>?_) (fun t h=>?_)))
  ·refine AW.skip (AW.seq (AW.block ?_))
   obtain ⟨y,h⟩:=gS h;refine Y4 Fm (sA 6 []) [0,5,6,7] [(3,vi b),(4,pt 4)] [] [(4,bx [ci ((gn a b).up_),ci ((gn a b).rate_)])] (cT y) (Q6 (r:=r) (fun z:Bool=>J6 F b n z) [0,5,6,7] (fun z=>[(44,vb z)]) [] nn (fun K h=>?_) (fun G d=>?_))
   ·refine Q3 h (fun u h=>?_) (fun u h=>?_)
    ·exact Q0 Fm 1 [] [(2,vb false)] [] [] (Z2 Fm h)
    ·refine AW.skip ?_
     obtain ⟨D,h⟩:=gS h;exact Q1 Fm [.s,.s] [0,5,6] [(7,vi (b+1))] [] [] (cT (cT D)) (Kn.R Fm (o (b+1) h))
   ·rcases Z6 h with ⟨c,h⟩|⟨c,h⟩
    ·exact Q1 Fm ((sZ 24 [.s,.s,.s,.w (vb true)])++(sA 5 [])) [0,5,6,7] [(44,vb true)] [] [] (cT (ALe.bool c)) (Kn.R Fm (d true h))
    ·rcases Z6 h with ⟨e,h⟩|⟨e,h⟩
     ·exact Q1 Fm ((sZ 19 [.s,.s,.s,.w (vb false),.s,.s,.s,.s,.w (vb true)])++(sA 5 [])) [0,5,6,7] [(44,vb true)] [] [] (cA (ALe.bool c) (cT (ALe.bool e))) (Kn.R Fm (d true h))
     ·rcases Z6 h with ⟨i,h⟩|⟨i,h⟩
      ·exact Q1 Fm ((sZ 14 [.s,.s,.s,.w (vb false),.s,.s,.s,.s,.w (vb false),.s,.s,.s,.s,.w (vb true)])++(sA 5 [])) [0,5,6,7] [(44,vb true)] [] [] (cA (ALe.bool c) (cA (ALe.bool e) (cT (ALe.bool i)))) (Kn.R Fm (d true h))
      ·rcases Z6 h with ⟨j,h⟩|⟨j,h⟩
       ·exact Q1 Fm ((sZ 9 [.s,.s,.s,.w (vb false),.s,.s,.s,.s,.w (vb false),.s,.s,.s,.s,.w (vb false),.s,.s,.s,.s,.w (vb true)])++(sA 5 [])) [0,5,6,7] [(44,vb true)] [] [] (cA (ALe.bool c) (cA (ALe.bool e) (cA (ALe.bool i) (cT (ALe.bool j))))) (Kn.R Fm (d true h))
       ·rcases Z6 h with ⟨k,h⟩|⟨k,h⟩
        ·obtain ⟨A,B,h⟩:=gS2 h
         exact Q1 Fm ((sZ 6 [.s,.s,.s,.w (vb false),.s,.s,.s,.s,.w (vb false),.s,.s,.s,.s,.w (vb false),.s,.s,.s,.s,.w (vb false),.s,.s,.w (vb true)])++(sA 5 [])) [0,5,6,7] [(44,vb (decide (((gn a b).up_)<=((gn a (b-1)).up_))))] [] [] (cA (ALe.bool c) (cA (ALe.bool e) (cA (ALe.bool i) (cA (ALe.bool j) (cA (ALe.bool k) (cA (cT A) (cT B))))))) (Kn.R Fm (d (decide (((gn a b).up_)<=((gn a (b-1)).up_))) h))
        ·exact Q1 Fm ((sZ 6 [.s,.s,.s,.w (vb false),.s,.s,.s,.s,.w (vb false),.s,.s,.s,.s,.w (vb false),.s,.s,.s,.s,.w (vb false),.s,.s,.w (vb false)])++(sA 5 [])) [0,5,6,7] [(44,vb false)] [] [] (cA (ALe.bool c) (cA (ALe.bool e) (cA (ALe.bool i) (cA (ALe.bool j) (cT (ALe.bool k)))))) (Kn.R Fm (d false h))
  ·exact AW.exit (Kn.R Fm (p () h))
theorem Z7x {F a r} (h:Q7E F a=some r) :
  Q7 Tryz.prog 84 [gE a] [] (vi r) []:=by
 refine FJ Tryz.func84 fun C Fm=>?_
 unfold Q7E at h;refine Q0 Fm 2 [] [(1,pt 1)] [] [(1,bx (gC a))] (AW.seq (AW.block (Q6 (r:=r) (fun z:Bool=>Q1x F a z) [1] (fun z=>[(4,vb z)]) [1] nn (fun I h=>?_) (fun G d=>?_))))
 ·refine Q3 h (fun p h=>?_) (fun p h=>?_)
  ·exact Q0 Fm 1 [] [(2,vi 2)] [] [] (Z2 Fm h)
  ·refine AW.seq ?_
   obtain ⟨E,B,h⟩:=bS h;refine Q5 Fm [.s,.s,.k _,.s,.s] (k1 2) [1] [(23,vb (!E))] [1] [] ⟨Q2 (Z3D B) Tryz.call137 [],⟨⟩⟩ (Q3 h (fun t h=>?_) (fun t h=>?_))
   ·exact Q0 Fm 1 [] [(2,vi 5)] [] [] (Z2 Fm h)
   ·refine AW.skip (AW.seq (AW.seq ?_))
    obtain ⟨o,D,h⟩:=bS h;refine Q5 Fm [.s,.s,.k _,.s] (k1 2) [1] [(3,vi o)] [1] [] ⟨Q2 (Z3H D) Tryz.call138 [],⟨⟩⟩ (Q0 Fm 2 [1,3] [(32,vb (o != (0:Int)))] [1] [] (Q3 h (fun u h=>?_) (fun u h=>?_)))
    ·exact Q0 Fm 2 [] [(2,vi o)] [] [] (Z2 Fm h)
    ·refine AW.skip (AW.seq (Q6 (r:=r) (fun z:Bool=>Q1w F z) [] (fun z=>[(56,vb z)]) [] nn (fun L h=>?_) (fun H e=>?_)))
     ·refine Q3 h (fun y h=>?_) (fun y h=>?_)
      ·exact Q0 Fm 1 [] [(2,vi 3)] [] [] (Z2 Fm h)
      ·exact AW.skip (Q0 Fm 1 [] [(2,vi 0)] [] [] (Z2 Fm h))
     ·obtain ⟨M,l,h⟩:=bS h
      rcases Z6 h with ⟨c,h⟩|⟨c,h⟩
      ·exact Q5 Fm (sZ 18 [.s,.s,.k _,.s,.w (vb true)]) (fun K=>K 2/\_/\True) [] [(56,vb true)] [] [] ⟨Q2 (Q2D l) Tryz.call139 [],ALe.bool c,⟨⟩⟩ (Kn.R Fm (e true h))
      ·rcases Z6 h with ⟨j,h⟩|⟨j,h⟩
       ·exact Q5 Fm (sZ 13 [.s,.s,.k _,.s,.w (vb false),.s,.s,.s,.s,.w (vb true)]) (fun K=>K 2/\_/\_/\True) [] [(56,vb true)] [] [] ⟨Q2 (Q2D l) Tryz.call139 [],ALe.bool c,ALe.bool j,⟨⟩⟩ (Kn.R Fm (e true h))
       ·rcases Z6 h with ⟨n,h⟩|⟨n,h⟩
        ·exact Q5 Fm (sZ 8 [.s,.s,.k _,.s,.w (vb false),.s,.s,.s,.s,.w (vb false),.s,.s,.s,.s,.w (vb true)]) (fun K=>K 2/\_/\_/\_/\True) [] [(56,vb true)] [] [] ⟨Q2 (Q2D l) Tryz.call139 [],ALe.bool c,ALe.bool j,ALe.bool n,⟨⟩⟩ (Kn.R Fm (e true h))
        ·obtain ⟨A,h⟩:=gS h
         exact Q5 Fm (sZ 8 [.s,.s,.k _,.s,.w (vb false),.s,.s,.s,.s,.w (vb false),.s,.s,.s,.s,.w (vb false)]) (fun K=>K 2/\_/\_/\_/\_/\True) [] [(56,vb ((Q5T .i64 (a.excludes_.fdiv (2 ^ (min (a.N_).toNat (IntKind.bits .i64)))) (1:Int))==1))] [] [] ⟨Q2 (Q2D l) Tryz.call139 [],ALe.bool c,ALe.bool j,ALe.bool n,A,⟨⟩⟩ (Kn.R Fm (e ((Q5T .i64 (a.excludes_.fdiv (2 ^ (min (a.N_).toNat (IntKind.bits .i64)))) (1:Int))==1) h))
 ·rcases Z6 h with ⟨b,h⟩|⟨b,h⟩
  ·exact Q1 Fm (sZ 15 [.s,.s,.s,.w (vb true)]) [1] [(4,vb true)] [1] [] (cT (ALe.bool b)) (Kn.R Fm (d true h))
  ·rcases Z6 h with ⟨i,h⟩|⟨i,h⟩
   ·exact Q1 Fm (sZ 10 [.s,.s,.s,.w (vb false),.s,.s,.s,.s,.w (vb true)]) [1] [(4,vb true)] [1] [] (cA (ALe.bool b) (cT (ALe.bool i))) (Kn.R Fm (d true h))
   ·rcases Z6 h with ⟨m,h⟩|⟨m,h⟩
    ·exact Q1 Fm (sZ 5 [.s,.s,.s,.w (vb false),.s,.s,.s,.s,.w (vb false),.s,.s,.s,.s,.w (vb true)]) [1] [(4,vb true)] [1] [] (cA (ALe.bool b) (cA (ALe.bool i) (cT (ALe.bool m)))) (Kn.R Fm (d true h))
    ·exact Q1 Fm (sZ 5 [.s,.s,.s,.w (vb false),.s,.s,.s,.s,.w (vb false),.s,.s,.s,.s,.w (vb false)]) [1] [(4,vb (decide ((268435456:Int)<a.least_)))] [1] [] (cA (ALe.bool b) (cA (ALe.bool i) (cT (ALe.bool m)))) (Kn.R Fm (d (decide ((268435456:Int)<a.least_)) h))
theorem Q9T {F j l a c r} (h:Q6M F j l a c=some r) :
  Q7 Tryz.prog 140 [AL j,vi l,vi a,.v (.g [.d (DL c.t_)])] [] (vi r) []:=by
 refine FJ Tryz.func140 fun C Fm=>?_
 unfold Q6M at h;refine Q0 Fm 2 [0,1,2] [(7,pt 7)] [] [(7,bx [.d (DL c.t_)])] (AW.seq (AW.seq ?_))
 obtain ⟨e,p,h⟩:=bS h;refine Q5 Fm (sZ 5 [.s,.s,.k _]) (k1 2) [2,7] [(10,vi e.2)] [7] [] ⟨Q2 (Z3X p) Tryz.call178 [],⟨⟩⟩ (Q0 Fm 2 [2,7,10] [(18,vb (e.2 != (0:Int)))] [7] [] (Q3 h (fun m h=>?_) (fun m h=>?_)))
 ·exact Q0 Fm 2 [] [(8,vi e.2)] [] [] (Z2 Fm h)
 ·refine AW.skip (AW.seq (AW.block (AW.seq ?_)))
  obtain ⟨u,t,h⟩:=bS h;refine Q5 Fm [.s,.k _,.s,.s] (k1 1) [2] [(20,vb (!u))] [] [] ⟨Q2 (W9 t) Tryz.call65 [],⟨⟩⟩ (Q3 h (fun n h=>?_) (fun n h=>?_))
  ·exact Q0 Fm 1 [] [(8,vi 7)] [] [] (Z2 Fm h)
  ·refine Q6 (r:=r) (fun z:Bool=>Z1P F z) [] (fun z=>[(24,vb z)]) [] nn (fun A h=>?_) (fun y i=>?_)
   ·refine Q3 h (fun o h=>?_) (fun o h=>?_)
    ·exact Q0 Fm 1 [] [(8,vi 2)] [] [] (Z2 Fm h)
    ·exact AW.skip (Q0 Fm 1 [] [(8,vi 0)] [] [] (Z2 Fm h))
   ·rcases Z6 h with ⟨b,h⟩|⟨b,h⟩
    ·exact Q1 Fm [.s,.s,.w (vb true),.s,.s,.s,.s] [] [(24,vb true)] [] [] (cT (ALe.bool b)) (Kn.R Fm (i true h))
    ·exact Q1 Fm [.s,.s,.w (vb false),.s,.s,.s,.s] [] [(24,vb (decide ((268435456:Int)<a)))] [] [] (cT (ALe.bool b)) (Kn.R Fm (i (decide ((268435456:Int)<a)) h))
theorem Y0k {F a r} (h:Z2l F a=some r) :
  Q7 Tryz.prog 227 [vi a] [] (vi r) []:=by
 refine FJ Tryz.func227 fun C Fm=>?_
 unfold Z2l at h;refine Q0 Fm 1 [0] [] [] [] (AW.seq (Q0 Fm 1 [] [(3,vi a)] [] [] (AW.block (Q6 (r:=r) (fun z:Bool=>Q0l F a z) [3] (fun z=>[(4,vb z)]) [] nn (fun y h=>?_) (fun u b=>?_)))))
 ·refine Q3 h (fun n h=>?_) (fun n h=>?_)
  ·exact Q0 Fm 1 [] [(2,vi 0)] [] [] (Z2 Fm h)
  ·refine Q6 (r:=r) (fun z:Bool=>Q2w F z) [] (fun z=>[(13,vb z)]) [] nn (fun A h=>?_) (fun w c=>?_)
   ·refine Q3 h (fun t h=>?_) (fun t h=>?_)
    ·exact Q0 Fm 1 [] [(2,vi 1)] [] [] (Z2 Fm h)
    ·exact AW.skip (Q0 Fm 1 [] [(2,vi 2)] [] [] (Z2 Fm h))
   ·refine Q0 Fm 2 [3] [(13,vb (a==8))] [] [] (Q3 h (fun o h=>?_) (fun o h=>?_))
    ·exact AW.skip (Kn.R Fm (c (a==8) h))
    ·refine Q0 Fm 2 [3] [(13,vb (a==9))] [] [] (Q3 h (fun p h=>?_) (fun p h=>?_))
     ·exact AW.skip (Kn.R Fm (c (a==9) h))
     ·refine Q0 Fm 2 [3] [(13,vb (a==10))] [] [] (Q3 h (fun s h=>?_) (fun s h=>?_))
      ·exact AW.skip (Kn.R Fm (c (a==10) h))
      ·exact Q8u Fm 2 [] [(13,vb (a==11))] [] [] (Kn.R Fm (c (a==11) h))
 ·refine Q0 Fm 2 [3] [(4,vb (a==0))] [] [] (Q3 h (fun d h=>?_) (fun d h=>?_))
  ·exact AW.skip (Kn.R Fm (b (a==0) h))
  ·refine Q0 Fm 2 [3] [(4,vb (a==1))] [] [] (Q3 h (fun e h=>?_) (fun e h=>?_))
   ·exact AW.skip (Kn.R Fm (b (a==1) h))
   ·refine Q0 Fm 2 [3] [(4,vb (a==2))] [] [] (Q3 h (fun i h=>?_) (fun i h=>?_))
    ·exact AW.skip (Kn.R Fm (b (a==2) h))
    ·refine Q0 Fm 2 [3] [(4,vb (a==3))] [] [] (Q3 h (fun j h=>?_) (fun j h=>?_))
     ·exact AW.skip (Kn.R Fm (b (a==3) h))
     ·refine Q0 Fm 2 [3] [(4,vb (a==4))] [] [] (Q3 h (fun k h=>?_) (fun k h=>?_))
      ·exact AW.skip (Kn.R Fm (b (a==4) h))
      ·refine Q0 Fm 2 [3] [(4,vb (a==5))] [] [] (Q3 h (fun l h=>?_) (fun l h=>?_))
       ·exact AW.skip (Kn.R Fm (b (a==5) h))
       ·refine Q0 Fm 2 [3] [(4,vb (a==6))] [] [] (Q3 h (fun m h=>?_) (fun m h=>?_))
        ·exact AW.skip (Kn.R Fm (b (a==6) h))
        ·exact Q8u Fm 2 [3] [(4,vb (a==7))] [] [] (Kn.R Fm (b (a==7) h))
theorem Y0m {F b a r} (h:Z2m F b a=some r) :
  Q7 Tryz.prog 226 [vi b,pt 0] [(0,.box true [ci a])] (vb r) [(0,.box true [ci a])]:=by
 refine FJ Tryz.func226 fun C Fm=>?_
 unfold Z2m at h;refine Q0 Fm 1 [0,1] [] [0] [] (AW.seq ?_)
 obtain ⟨d,c,h⟩:=bS h;exact Q5 Fm [.s,.k _,.s,.s,.s] (k1 1) [] [(3,vb (d==a))] [0] [] ⟨Q2 (Y0k c) Tryz.call227 [],⟨⟩⟩ (Z2 Fm h)
theorem Z0u {F a r} (h:Q1X F a=some r) :
  Q7 Tryz.prog 143 [AL a] [] (.t [.g [.d (DL r.1.t_)],.c (ci r.2)]) []:=by
 refine FJ Tryz.func143 fun C Fm=>?_
 unfold Q1X at h;refine Q0 Fm 2 [0] [(2,pt 2)] [] [(2,bx [f0])] (AW.seq (Q0 Fm 3 [0,2] [(6,vb (decide ((120:Int)<(lI a))))] [2] [] (Q3 h (fun b h=>?_) (fun b h=>?_))))
 ·exact Y4 Fm [.w (.v (.g [dR])),.s,.s] [2] [(3,vi 1)] [] [(2,bx [dR])] (cT (ALe.g ⟨CLe.fl .nil,⟨⟩⟩:ALe (.v (.g [f0])) (.v (.g [dR])))) (Z2 Fm h)
 ·exact AW.skip (Q0 Fm 4 [2] [(3,vi 0)] [] [(2,bx [.d (DL a)])] (Z2 Fm h))
theorem Q1Y {F a r} (h:Q0D F a=some r) :
  Q7 Tryz.prog 146 [AL a] [] (.t [.g [.d (DL r.1.t_)],.c (ci r.2)]) []:=by
 refine FJ Tryz.func146 fun C Fm=>?_
 unfold Q0D at h;refine Q0 Fm 2 [0] [(2,pt 2)] [] [(2,bx [f0])] (AW.seq ?_)
 obtain ⟨j,e,h⟩:=bS h;obtain ⟨b,i,h⟩:=bS h
 exact Q5 Fm [.s,.k _,.k _,.s,.s,.s,.s] (k2 1 2) [2] [(3,vi b.2)] [] [(2,bx [.d (DL b.1.t_)])] ⟨Q2 (Q8A e) Tryz.call123 [],Q2 (Z0u i) Tryz.call143 [],⟨⟩⟩ (Z2 Fm h)
theorem Z7n {F b e a r} (h:Z5w F b e a=some r) :
  Q7 Tryz.prog 184 [AL b,vi e,vi a] [] (.t [.g [.d (DL r.1.t_)],.c (ci r.2)]) []:=by
 refine FJ Tryz.func184 fun C Fm=>?_
 unfold Z5w at h;refine Q0 Fm 3 [0,1] [(5,pt 5),(6,pt 6)] [] [(5,bx [ci a]),(6,bx [f0])] (AW.seq ?_)
 obtain ⟨m,j,h⟩:=bS h;obtain ⟨i,l,h⟩:=bS h
 exact Q5 Fm [.s,.s,.s,.k (cE [] [5] (AL m) [] []),.k _,.s,.s,.s,.s] (k2 3 4) [6] [(7,vi i.2)] [] [(6,bx [.d (DL i.1.t_)])] ⟨KAt.cX (Z1x j) Tryz.call213 [] [5] [.tmp 8,.tmp 9,.tmp 10] ⟨.p,.p,y7.cX Tryz.call226 [[ci a]] (fun args r hq=>by obtain ⟨y0,y,hq,rfl,rfl⟩:=hq;exact ⟨Eq.mp (by kernel_rfl) (Y0m hq),rfl⟩) [5] (⟨⟨false,(by kernel_rfl)⟩,⟨⟩⟩),⟨⟩⟩,Q2 (Q1Y l) Tryz.call146 [],⟨⟩⟩ (Z2 Fm h)
theorem Y0o {F b e r} (h:Z2o F b e=some r) :
  Q7 Tryz.prog 141 [AL b,vi e] [] (.t [.g [.d (DL r.1.t_)],.c (ci r.2)]) []:=by
 refine FJ Tryz.func141 fun C Fm=>?_
 unfold Z2o at h;refine Q0 Fm 2 [0,1] [(4,pt 4)] [] [(4,bx [f0])] (AW.seq (AW.seq ?_))
 obtain ⟨a,l,h⟩:=bS h;refine Q5 Fm [.s,.s,.w (.v (.g [dR])),.k _,.s] (fun K=>(ALe (.v (.g [f0])) (.v (.g [dR])))/\K 3/\True) [0,1,4] [(6,vi a)] [4] [] ⟨ALe.g ⟨CLe.fl .nil,⟨⟩⟩,Q2 (Q9T l) Tryz.call140 [],⟨⟩⟩ (Q0 Fm 2 [0,1,4,6] [(12,vb (a != (0:Int)))] [4] [] (Q3 h (fun j h=>?_) (fun j h=>?_)))
 ·exact Y4 Fm [.w (.v (.g [dR])),.s,.s,.s] [4] [(5,vi a)] [] [(4,bx [dR])] (cT (ALe.g ⟨CLe.fl .nil,⟨⟩⟩:ALe (.v (.g [f0])) (.v (.g [dR])))) (Z2 Fm h)
 ·refine AW.skip (AW.seq ?_)
  obtain ⟨i,m,h⟩:=bS h;exact Q5 Fm [.s,.s,.k _,.s,.s,.s,.s] (k1 2) [4] [(5,vi i.2)] [] [(4,bx [.d (DL i.1.t_)])] ⟨Q2 (Z7n m) Tryz.call184 [],⟨⟩⟩ (Z2 Fm h)
theorem Z8p {F d a r} (h:Z4l F d a=some r) :
  Q7 Tryz.prog 185 [vb d,vb a] [] (vb r) []:=by
 refine FJ Tryz.func185 fun C Fm=>?_
 unfold Z4l at h;refine Q0 Fm 1 [0,1] [] [] [] (Q6 (r:=r) (fun z:Bool=>Z0R F z) [] (fun z=>[(4,vb z)]) [] nn (fun i h=>?_) (fun e c=>?_))
 ·exact Z2 Fm h
 ·rcases Z6 h with ⟨b,h⟩|⟨b,h⟩
  ·exact Q1 Fm [.s,.w (vb true),.s,.s,.s] [] [(4,vb a)] [] [] (cT (ALe.bool b)) (Kn.R Fm (c a h))
  ·exact Q1 Fm [.s,.w (vb false),.s,.s,.s] [] [(4,vb false)] [] [] (cT (ALe.bool b)) (Kn.R Fm (c false h))
theorem Z1F {F a b r} (h:Q7B F a b=some r) :
  Q7 Tryz.prog 230 [gE a,gE b] [] (vi r) []:=by
 refine FJ Tryz.func230 fun C Fm=>?_
 unfold Q7B at h;refine Q0 Fm 3 [] [(2,pt 2),(3,pt 3)] [] [(2,bx (gC a)),(3,bx (gC b))] (Q0 Fm 1 [2,3] [(5,vi 0)] [2,3] [] (Q6 (r:=r) (fun z:Int=>Q2r F a b z) [2,3] (fun z=>[(5,vi z)]) [2,3] nn (fun c h=>?_) (fun B j=>?_)))
 ·refine Q6 (r:=r) (fun z:Int=>Q9Z F z) [] (fun z=>[(5,vi z)]) [] nn (fun y h=>?_) (fun E l=>?_)
  ·exact Q0 Fm 2 [] [(4,vi y)] [] [] (Z2 Fm h)
  ·refine Q6 (r:=r) (fun z:Bool=>Q3X F a b c z) [2,3,5] (fun z=>[(43,vb z)]) [2,3] nn (fun H h=>?_) (fun D k=>?_)
   ·refine Q3 h (fun n h=>?_) (fun n h=>?_)
    ·obtain ⟨t,u,h⟩:=gS2 h
     exact Q1 Fm (sA 15 []) [] [(5,vi (c+(Q0B (0:Int) ((Q5P a.R_ b.R_)-(Q0B a.L_ b.L_)))))] [] [] (cA (cT t) (cT (cT u))) (Kn.R Fm (l (c+(Q0B (0:Int) ((Q5P a.R_ b.R_)-(Q0B a.L_ b.L_)))) h))
    ·exact AW.skip (Kn.R Fm (l c h))
   ·rcases Z6 h with ⟨e,h⟩|⟨e,h⟩
    ·exact Q1 Fm (sA 5 (sZ 6 [.w (vb true)])) [2,3,5] [(43,vb true)] [2,3] [] (cT (ALe.bool e)) (Kn.R Fm (k true h))
    ·exact Q1 Fm (sA 5 (sZ 6 [.w (vb false)])) [2,3,5] [(43,vb (b.H_==a.w_))] [2,3] [] (cT (ALe.bool e)) (Kn.R Fm (k (b.H_==a.w_) h))
 ·refine Q6 (r:=r) (fun z:Bool=>Q3Y F a b z) [2,3,5] (fun z=>[(17,vb z)]) [2,3] nn (fun G h=>?_) (fun A i=>?_)
  ·refine Q3 h (fun m h=>?_) (fun m h=>?_)
   ·obtain ⟨o,p,h⟩:=gS2 h
    exact Q1 Fm (sA 15 []) [2,3] [(5,vi ((0:Int)+(Q0B (0:Int) ((Q5P a.H_ b.H_)-(Q0B a.w_ b.w_)))))] [2,3] [] (cA (cT o) (cT (cT p))) (Kn.R Fm (j ((0:Int)+(Q0B (0:Int) ((Q5P a.H_ b.H_)-(Q0B a.w_ b.w_)))) h))
   ·exact AW.skip (Kn.R Fm (j (0:Int) h))
  ·rcases Z6 h with ⟨d,h⟩|⟨d,h⟩
   ·exact Q1 Fm (sA 5 (sZ 6 [.w (vb true)])) [2,3,5] [(17,vb true)] [2,3] [] (cT (ALe.bool d)) (Kn.R Fm (i true h))
   ·exact Q1 Fm (sA 5 (sZ 6 [.w (vb false)])) [2,3,5] [(17,vb (b.R_==a.L_))] [2,3] [] (cT (ALe.bool d)) (Kn.R Fm (i (b.R_==a.L_) h))
theorem Z0s {F a b d r} (h:Q3h F a b d=some r) :
  Q7 Tryz.prog 229 [gE a,pt 0,pt 1] [(0,bx [.ap 60]),(1,bx [ci d]),(60,AP b)] (vb r.2) [(0,bx [.ap 70]),(1,bx [ci d]),(70,AP r.1)]:=by
 refine FJ Tryz.func229 fun C Fm=>?_
 unfold Q3h at h;refine Q2P Fm [(960,60)] [(0,gE a),(1,pt 0),(2,pt 1)] [(0,bx [.ap 960]),(1,bx [ci d]),(960,AP b)] (Q0 Fm 2 [1,2] [(3,pt 3)] [0,1,960] [(3,bx (gC a))] (Q6 (r:=r) (fun z:Bool=>Q4L F a b z) [1,3] (fun z=>[(5,vb z)]) [0,1,3,960] nn (fun e h=>?_) (fun A t=>?_)))
 ·refine Q6 (r:=r) (fun z:(List Rect)=>Q7C F e z) [5] nn [1] (fun z=>[(0,bx [.ap 17]),(17,AP z)]) (fun y h=>?_) (fun B o=>?_)
  ·refine Q0 Fm 2 [] [(4,vb e)] [0,1,17] [] (AW.ret ?_)
   obtain rfl:=Option.some.inj h;exact Q2P Fm [(70,17)] [(4,vb e)] [(0,bx [.ap 70]),(1,bx [ci d]),(70,AP y)] (Q3b Fm (by kernel_rfl))
  ·refine Q0 Fm 1 [1,3,5] [(13,vb e)] [0,1,3,960] [] (Q3 h (fun u h=>?_) (fun u h=>?_))
   ·refine Kn.w Fm [(1,pt 0),(3,pt 3),(5,vb e),(13,vb e)] [(960,AP b),(0,bx [.ap 960]),(1,bx [ci d]),(3,bx (gC a))] (Z1N (by kernel_rfl) ?_ ?_)
    ·refine Kn.w Fm [(1,pt 0),(3,pt 3),(5,vb e),(13,vb e)] [(0,bx [.own 960]),(1,bx [ci d]),(3,bx (gC a)),(960,AO b)] ?_
     obtain ⟨p,h⟩:=gS h;exact Q2h Fm [.s,.s,.w (AL [a]),.s,.s] [5] [] [1] [(0,bx [.own 17]),(17,AO (b++([a]:List Rect)))] (cA (Q8h a) (cT (cA p (cT (lfl ([a]:List Rect)))))) [(17,rAp b ([a]:List Rect))] ⟨oAp,⟨⟩⟩ (Kn.w Fm [(5,vb e)] [(0,bx [.own 17]),(1,bx [ci d]),(17,AO (b++([a]:List Rect)))] (Q7n [(5,vb e)] [(0,bx [.ap 17]),(1,bx [ci d]),(17,AP (b++([a]:List Rect)))] ⟨rfl,ALe.refl _,⟨⟩⟩ ⟨rfl,OLe.box ⟨CLe.ap 17,⟨⟩⟩,⟨rfl,OLe.refl _,⟨rfl,OLe.ap _ _ _,⟨⟩⟩⟩⟩ (Kn.R Fm (o (b++([a]:List Rect)) h))))
    ·refine Kn.w Fm [(1,pt 0),(3,pt 3),(5,vb e),(13,vb e)] [(0,bx [.fl (List.length b) (LF b)]),(1,bx [ci d]),(3,bx (gC a))] ?_
     obtain ⟨p,h⟩:=gS h;refine Z1C Fm [.s,.s,.w (AL [a]),.k (rE { v:=.v (.c (.own 17)),new:=some (.arr 4 ((List.length b)+(List.length ([a]:List Rect))) (Q5w (List.length b) (LF b) (LF ([a]:List Rect)))) }),.s] (fun K=>_/\K 3/\True) [5] [] [1] [(0,bx [.own 17]),(17,AO (b++([a]:List Rect)))] ⟨Q8h a,Y4x (n:=List.length b) (m:=List.length ([a]:List Rect)) (f:=LF b) (g:=LF ([a]:List Rect)) Q0b Y7C rfl rfl (by kernel_rfl) (by kernel_rfl) (by kernel_rfl) (Nat.succ_pos _) p (Is.refl ([a]:List Rect):Is (List.length ([a]:List Rect)) (LF ([a]:List Rect)) ([a]:List Rect)).len (Is.refl b:Is (List.length b) (LF b) b).len,⟨⟩⟩ [(17,.arr 4 ((List.length b)+(List.length ([a]:List Rect))) (Q5w (List.length b) (LF b) (LF ([a]:List Rect))))] ⟨OLe.is (Is.app (Is.refl b) (Is.refl ([a]:List Rect))),⟨⟩⟩ ?_
     exact Kn.w Fm [(5,vb e)] [(0,bx [.own 17]),(1,bx [ci d]),(17,AO (b++([a]:List Rect)))] (Q7n [(5,vb e)] [(0,bx [.ap 17]),(1,bx [ci d]),(17,AP (b++([a]:List Rect)))] ⟨rfl,ALe.refl _,⟨⟩⟩ ⟨rfl,OLe.box ⟨CLe.ap 17,⟨⟩⟩,⟨rfl,OLe.refl _,⟨rfl,OLe.ap _ _ _,⟨⟩⟩⟩⟩ (Kn.R Fm (o (b++([a]:List Rect)) h)))
   ·exact AW.skip (Q1e Fm [(17,960)] (o b h))
 ·refine Kn.w Fm [(1,pt 0),(2,pt 1),(3,pt 3)] [(960,AP b),(0,bx [.ap 960]),(1,bx [ci d]),(3,bx (gC a))] (Z1N (by kernel_rfl) ?_ ?_)
  ·refine Kn.w Fm [(1,pt 0),(2,pt 1),(3,pt 3)] [(0,bx [.own 960]),(1,bx [ci d]),(3,bx (gC a)),(960,AO b)] ?_
   obtain ⟨l,h⟩:=gS h;obtain ⟨i,q,h⟩:=bS h
   exact Q5 Fm (sA 5 [.k _,.s,.s]) (fun K=>_/\_/\K 5/\True) [1,3] [(5,vb (decide ((0:Int)<i)))] [0,1,3,960] [] ⟨l,(Y6 l),Q2 (Z1F q) Tryz.call230 [],⟨⟩⟩ (Kn.w Fm [(1,pt 0),(3,pt 3),(5,vb (decide ((0:Int)<i)))] [(0,bx [.own 960]),(1,bx [ci d]),(3,bx (gC a)),(960,AO b)] (Q7n [(1,pt 0),(3,pt 3),(5,vb (decide ((0:Int)<i)))] [(0,bx [.ap 960]),(1,bx [ci d]),(3,bx (gC a)),(960,AP b)] ⟨rfl,ALe.refl _,⟨rfl,ALe.refl _,⟨rfl,ALe.refl _,⟨⟩⟩⟩⟩ ⟨rfl,OLe.box ⟨CLe.ap 960,⟨⟩⟩,⟨rfl,OLe.refl _,⟨rfl,OLe.refl _,⟨rfl,OLe.ap _ _ _,⟨⟩⟩⟩⟩⟩ (Kn.R Fm (t (decide ((0:Int)<i)) h))))
  ·refine Kn.w Fm [(1,pt 0),(2,pt 1),(3,pt 3)] [(0,bx [.fl (List.length b) (LF b)]),(1,bx [ci d]),(3,bx (gC a))] ?_
   obtain ⟨l,h⟩:=gS h;obtain ⟨i,q,h⟩:=bS h
   exact Q5 Fm (sA 5 [.k _,.s,.s]) (fun K=>_/\K 5/\True) [1,3] [(5,vb (decide ((0:Int)<i)))] [0,1,3] [] ⟨l,Q2 (Z1F q) Tryz.call230 [],⟨⟩⟩ (Kn.w Fm [(1,pt 0),(3,pt 3),(5,vb (decide ((0:Int)<i)))] [(0,bx [.fl (List.length b) (LF b)]),(1,bx [ci d]),(3,bx (gC a))] (Y5G Fm (k:=960) (es:=4) (j:=0) (by kernel_rfl) (by kernel_rfl) (by simp) rfl (Kn.w Fm [(1,pt 0),(3,pt 3),(5,vb (decide ((0:Int)<i)))] [(0,bx [.ap 960]),(1,bx [ci d]),(3,bx (gC a)),(960,AP b)] (Kn.R Fm (t (decide ((0:Int)<i)) h)))))
theorem Z1V {F a r} (h:Q1D F a=some r) :
  Q7 Tryz.prog 112 [AL a] [] (ow 100) [(100,AO r)]:=by
 refine FJ Tryz.func112 fun C Fm=>?_
 unfold Q1D at h;refine Q1K Fm [.m] (fun K=>True) [0] [] [] [] True.intro (AW.seq (Q1K Fm [.s,.k (sE (nb (List.length a)))] (k1 1) [0] [(4,.v (.c (.sem (nbP (List.length a)))))] [] [] ⟨KAt.nil (t:=30) (el:=85) (n:=List.length a) (by kernel_rfl) rfl rfl (by kernel_rfl) (by kernel_rfl) (by kernel_rfl),⟨⟩⟩ (Y1H (n:=List.length a) (by kernel_rfl) (fun d=>?_) ?_)))
 ·have h:=W0u h d
  refine y8 Fm [.m] (fun K=>True) [] [(2,ow 2)] [] [(2,AO ([]:List Rect))] True.intro [(2,.arr 4 (0) nn)] ⟨OLe.is ((Is.nil (α:=Rect))),⟨⟩⟩ (AW.ret ?_);obtain rfl:=Option.some.inj h
  exact Q2P Fm [(100,2)] [(2,ow 100)] [(100,AO ([]:List Rect))] (Q3b Fm (by kernel_rfl))
 ·have h:=W0v h
  refine AW.skip ?_;obtain ⟨b,h⟩:=gS h
  refine Z0q Fm [.m,.s,.s,.s] [] [(2,ow 7)] [] [(7,AO (([]:List Rect)++a))] (cT (cA b (cT (lfl a)))) [(7,rA0 a)] ⟨oA0,⟨⟩⟩ (AW.ret ?_);obtain rfl:=Option.some.inj h
  exact Q2P Fm [(100,7)] [(2,ow 100)] [(100,AO (([]:List Rect)++a))] (Q3b Fm (by kernel_rfl))
theorem Q9W {F a i d r} (h:Q0s F a i d=some r) :
  Q7 Tryz.prog 125 [ow 0,.v (.c (.clo 229 [50,51]))] [(0,AO a),(50,bx [.ap 60]),(51,bx [ci d]),(60,AP i)] (vi r.2.2) [(0,AO r.1),(50,bx [.ap 70]),(51,bx [ci d]),(70,AP r.2.1)]:=by
 refine FJ Tryz.func125 fun C Fm=>?_
 unfold Q0s at h;refine Q2P Fm [(960,60)] [(0,ow 0),(1,.v (.c (.clo 229 [50,51])))] [(0,AO a),(50,bx [.ap 960]),(51,bx [ci d]),(960,AP i)] (Q0 Fm 1 [0,1] [] [0,50,51,960] [] (Q6 (r:=r) (fun z:(List Rect)=>Q5a F a z) [] nn [0,50,51] (fun z=>[(960,AP z)]) (fun u h=>?_) (fun A n=>?_)))
 ·refine Q0 Fm 1 [] [(4,vi (-1:Int))] [0,50,51,960] [] (AW.ret ?_)
  obtain rfl:=Option.some.inj h;exact Q2P Fm [(70,960)] [(4,vi (-1:Int))] [(0,AO a),(50,bx [.ap 70]),(51,bx [ci d]),(70,AP u)] (Q3b Fm (by kernel_rfl))
 ·refine Q0 Fm 3 [0,1] [(7,vi (lI a)),(8,vi 0)] [0,50,51,960] [] (AW.block (Kn.w Fm [(0,ow 0),(1,.v (.c (.clo 229 [50,51]))),(7,vi (lI a)),(8,vi 0)] [(0,AO a),(50,bx [.ap 960]),(51,bx [ci d]),(960,AP i)] ?_))
  refine Z5 (E':=fun z=>[(0,ow 0),(1,.v (.c (.clo 229 [50,51]))),(7,vi (lI a)),(8,vi z.1)]) (S':=fun z=>[(0,AO a),(50,bx [.ap 960]),(51,bx [ci d]),(960,AP z.2)]) (fun B z y m h=>?_) h;obtain ⟨b,l⟩:=z
  refine Q0 Fm 1 [0,1,7,8] [(9,vb (decide (b<(lI a))))] [0,50,51,960] [] (AW.seq (Q3 h (fun o h=>?_) (fun o h=>?_)))
  ·refine AW.skip (AW.seq (AW.block (Q0 Fm 2 [0,1,7,8] [(5,vi b)] [0,50,51,960] [] (AW.seq ?_))))
   obtain ⟨j,h⟩:=gS h;obtain ⟨e,t,h⟩:=bS h
   refine Q5 Fm (sA 5 [.k (cE [(0,50),(60,960),(70,1016),(1,51)] [] (vb e.2) [(0,bx [.ap 60]),(1,bx [ci d]),(60,AP l)] [(0,bx [.ap 70]),(1,bx [ci d]),(70,AP e.1)])]) (fun K=>_/\_/\K 5/\True) [0,1,5,7,8] [(16,vb e.2)] [0,51] [(50,bx [.ap 1016]),(1016,AP e.1)] ⟨j,(Y6 j),Z5N (args:=[.v (.g [ci ((gn a b).L_),ci ((gn a b).w_),ci ((gn a b).R_),ci ((gn a b).H_)])]) (caps:=[0,1]) (Z0s t) Tryz.call229 [(0,50),(60,960),(70,1016),(1,51)] rfl (by kernel_rfl),⟨⟩⟩ (Q3 h (fun p h=>?_) (fun p h=>?_))
   ·refine Q0 Fm 2 [] [(4,vi b)] [0,50,51,1016] [] (AW.ret ?_)
    obtain rfl:=Option.some.inj h;exact Q2P Fm [(70,1016)] [(4,vi b)] [(0,AO a),(50,bx [.ap 70]),(51,bx [ci d]),(70,AP e.1)] (Q3b Fm (by kernel_rfl))
   ·refine AW.skip ?_
    obtain ⟨q,h⟩:=gS h;exact Q1 Fm [.s,.s] [0,1,7] [(8,vi (b+1))] [0,50,51,1016] [] (cT (cT q)) (Q1e Fm [(960,1016)] (m ((b+1),e.1) h))
  ·exact AW.exit (Kn.R Fm (n l h))
theorem Q9t {F y A o r} (h:Q0j F y A o=some r) :
  Q7 Tryz.prog 228 [ow 0,.v (.c (.clo 229 [50,51]))] [(0,AO y),(50,bx [.ap 60]),(51,bx [ci o]),(60,AP A)] (ow 100) [(50,bx [.ap 70]),(51,bx [ci o]),(70,AP r.1),(100,AO r.2)]:=by
 refine FJ Tryz.func228 fun C Fm=>?_
 unfold Q0j at h;refine Q2P Fm [(960,60)] [(0,ow 0),(1,.v (.c (.clo 229 [50,51])))] [(0,AO y),(50,bx [.ap 960]),(51,bx [ci o]),(960,AP A)] (Q1K Fm [.m] (fun K=>True) [0,1] [] [0,50,51,960] [] True.intro (AW.seq ?_))
 obtain ⟨j,X,h⟩:=bS h;refine Q5 Fm [.s,.s,.k _,.s] (k1 2) [0,1] [(5,vi j.2.2)] [51] [(0,AO j.1),(50,bx [.ap 1010]),(1010,AP j.2.1)] ⟨Q2 (Q9W X) Tryz.call125 [(0,0),(50,50),(60,960),(70,1010),(51,51)],⟨⟩⟩ (AW.seq (Q0 Fm 2 [0,1,5] [(12,vb (j.2.2==(-1:Int)))] [0,50,51,1010] [] (Q3 h (fun M h=>?_) (fun M h=>?_))))
 ·refine Q0 Fm 2 [] [(4,ow 0)] [0,50,51,1010] [] (AW.ret ?_)
  obtain rfl:=Option.some.inj h;exact Q2P Fm [(70,1010),(100,0)] [(4,ow 100)] [(50,bx [.ap 70]),(51,bx [ci o]),(70,AP j.2.1),(100,AO j.1)] (Q3b Fm (by kernel_rfl))
 ·refine AW.skip (Q6 (r:=r) (fun z:Int×(List Rect)×(List Rect)=>Q1G F z.1 z.2.1 z.2.2) [0] (fun z=>[(5,vi z.1)]) [50,51] (fun z=>[(0,AO z.2.1),(1010,AP z.2.2)]) (fun z h=>?_) (fun i0 L=>?_))
  ·obtain ⟨a,b,c0⟩:=z
   obtain ⟨W,h⟩:=gS h;refine y8 Fm [.s,.s,.k (rE { v:=.v (.c (.sub 0 4 (0+(a).toNat) ((List.length b)-(a).toNat))) }),.k (rE { v:=.any,upd:=some (0,.arr 4 (List.length b) (fun i=>if (0+(a).toNat)<=i/\i<(0+(a).toNat)+((List.length b)-(a).toNat) then (fun _=>[.int .i64 0,.int .i64 0,.int .i64 0,.int .i64 0]) (i-(0+(a).toNat)) else (LF b) i)) })] (k2 2 3) [0,5] [] [50,51,1010] [(0,AO (clr b (0+(a).toNat) ((List.length b)-(a).toNat)))] ⟨Q7a (l:=(some a)) (u:=none) (id:=0) (lo0:=0) (n:=(List.length b)) (N:=List.length b) (f:=LF b) Q0b Y7C rfl rfl (by kernel_rfl) (by kernel_rfl) (by kernel_rfl) (by kernel_rfl) (by kernel_rfl) W (by kernel_rfl),Z7m (id:=0) (lo0:=(0+(a).toNat)) (n:=((List.length b)-(a).toNat)) (N:=List.length b) (f:=(LF b)) Q0b Y7C [.int .i64 0,.int .i64 0,.int .i64 0,.int .i64 0] [.int .i64 0,.int .i64 0,.int .i64 0,.int .i64 0] ⟨DLe.refl _,DLe.refl _,DLe.refl _,DLe.refl _,⟨⟩⟩ rfl rfl (by kernel_rfl) (Nat.succ_pos _) (by kernel_rfl) (by kernel_rfl) (by kernel_rfl) (by kernel_rfl) rfl,⟨⟩⟩ [(0,.arr 4 (List.length b) (fun i=>if (0+(a).toNat)<=i/\i<(0+(a).toNat)+((List.length b)-(a).toNat) then (fun _=>[.int .i64 0,.int .i64 0,.int .i64 0,.int .i64 0]) (i-(0+(a).toNat)) else (LF b) i))] ⟨OLe.is (Is.clr (l:=b) (0+(a).toNat) ((List.length b)-(a).toNat) (zd:=[.int .i64 0,.int .i64 0,.int .i64 0,.int .i64 0]) (by kernel_rfl)),⟨⟩⟩ ?_
   obtain ⟨E,h⟩:=gS h;refine Z0q Fm [.s,.s,.m,.s] [] [(4,ow 41)] [50,51,1010] [(41,AO ((clr b (0+(a).toNat) ((List.length b)-(a).toNat)).take (a).toNat))] (cT E) [(41,.arr 4 ((a).toNat) (LF (clr b (0+(a).toNat) ((List.length b)-(a).toNat))))] ⟨OLe.is (Is.take (Is.refl (clr b (0+(a).toNat) ((List.length b)-(a).toNat))) E.2),⟨⟩⟩ (AW.ret ?_)
   obtain rfl:=Option.some.inj h;exact Q2P Fm [(70,1010),(100,41)] [(4,ow 100)] [(50,bx [.ap 70]),(51,bx [ci o]),(70,AP c0),(100,AO ((clr b (0+(a).toNat) ((List.length b)-(a).toNat)).take (a).toNat))] (Q3b Fm (by kernel_rfl))
  ·obtain ⟨T,h⟩:=gS h
   refine Y4 Fm [.s,.s,.s] [0,1,5] [(6,vi (j.2.2+1))] [0,50,51,1010] [] (cT (cT T)) (AW.block (Kn.w Fm [(0,ow 0),(1,.v (.c (.clo 229 [50,51]))),(5,vi j.2.2),(6,vi (j.2.2+1))] [(0,AO j.1),(50,bx [.ap 1010]),(51,bx [ci o]),(1010,AP j.2.1)] ?_));refine Z5 (E':=fun z=>[(0,ow 0),(1,.v (.c (.clo 229 [50,51]))),(5,vi z.1),(6,vi z.2.1)]) (S':=fun z=>[(0,AO z.2.2.1),(50,bx [.ap 1010]),(51,bx [ci o]),(1010,AP z.2.2.2)]) (fun H z d0 I h=>?_) h
   obtain ⟨p,e,d,G⟩:=z;refine AW.seq (Q0 Fm 4 [0,1,5,6] [(19,vb (decide (e<(lI d))))] [0,50,51,1010] [] (Q3 h (fun O h=>?_) (fun O h=>?_)))
   ·refine AW.skip (Q6 (r:=r) (fun z:Int×(List Rect)×(List Rect)=>G4 F e H z.1 z.2.1 z.2.2) [0,1,6] (fun z=>[(5,vi z.1)]) [51] (fun z=>[(0,AO z.2.1),(50,bx [.ap 1028]),(1028,AP z.2.2)]) (fun z h=>?_) (fun e0 B=>?_))
    ·obtain ⟨Z,a0,b0⟩:=z
     obtain ⟨V,h⟩:=gS h;exact Q1 Fm [.s,.s,.s] [0,1,5] [(6,vi (e+1))] [0,50,51,1028] [] (cT (cT V)) (Q1e Fm [(1010,1028)] (I (Z,(e+1),a0,b0) h))
    ·refine AW.block ?_
     obtain ⟨D,h⟩:=gS h;refine Y4 Fm (sA 6 []) [0,1,5,6] [(7,pt 7)] [0,50,51,1010] [(7,bx [ci ((gn d e).L_),ci ((gn d e).w_),ci ((gn d e).R_),ci ((gn d e).H_)])] (cA D (cT (Y6 D))) (AW.seq ?_)
     obtain ⟨q,Y,h⟩:=bS h;refine Q5 Fm [.s,.s,.k (cE [(0,50),(60,1010),(70,1028),(1,51)] [] (vb q.2) [(0,bx [.ap 60]),(1,bx [ci o]),(60,AP G)] [(0,bx [.ap 70]),(1,bx [ci o]),(70,AP q.1)]),.s] (k1 2) [0,1,5,6,7] [(29,vb (!q.2))] [0,7,51] [(50,bx [.ap 1028]),(1028,AP q.1)] ⟨Z5N (args:=[.v (.g [ci ((gn d e).L_),ci ((gn d e).w_),ci ((gn d e).R_),ci ((gn d e).H_)])]) (caps:=[0,1]) (Z0s Y) Tryz.call229 [(0,50),(60,1010),(70,1028),(1,51)] rfl (by kernel_rfl),⟨⟩⟩ (Q3 h (fun P h=>?_) (fun P h=>?_))
     ·obtain ⟨t,h⟩:=gS h
      refine Z0q Fm (sA 5 []) [0,1,5,6] [] [50,51,1028] [(0,AO (List.set d p.toNat (gn d e)))] (cA t (cT (Y6 t))) [(0,rSt d p.toNat 0 [.int .i64 (gn d e).L_,.int .i64 (gn d e).w_,.int .i64 (gn d e).R_,.int .i64 (gn d e).H_])] ⟨oSt (Y6 t),⟨⟩⟩ ?_;obtain ⟨U,h⟩:=gS h
      exact Q1 Fm [.s,.s,.s] [0,1,6] [(5,vi (p+1))] [0,50,51,1028] [] (cT (cT U)) (Kn.R Fm (B ((p+1),(List.set d p.toNat (gn d e)),q.1) h))
     ·exact AW.skip (Kn.R Fm (B (p,d,q.1) h))
   ·exact AW.exit (Kn.R Fm (L (p,d,G) h))
theorem Z7v {F a r} (h:Q7D F a=some r) :
  Q7 Tryz.prog 186 [AL a] [] (.t [.c (.d (DL r.1)),.c (.d (DL r.2))]) []:=by
 refine FJ Tryz.func186 fun C Fm=>?_
 unfold Q7D at h;refine Q0 Fm 2 [0] [] [] [] (AW.seq ?_)
 obtain ⟨q,u,h⟩:=gS2 h;obtain ⟨n,H,h⟩:=bS h
 refine Q5 Fm [.s,.w (.v (.c (.fl (List.length (a.take ((1:Int)).toNat)) (LF (a.take ((1:Int)).toNat))))),.s,.w (AL (a.drop (1:Int).toNat)),.k _,.s,.s,.s] (fun K=>(((1:Int)<=(lI a)/\∀ j,j<List.length a->(LF a j).length=4))/\(ALe (.v (.c (.fl ((1:Int)).toNat (LF a)))) (.v (.c (.fl (List.length (a.take ((1:Int)).toNat)) (LF (a.take ((1:Int)).toNat))))))/\(((sl (List.length a) (LF a) (some (1:Int)) none).2/\∀ j,j<List.length a->(LF a j).length=4))/\(ALe (.v (.c (.d (.lst (sl (List.length a) (LF a) (some (1:Int)) none).1.1 (sl (List.length a) (LF a) (some (1:Int)) none).1.2)))) (AL (a.drop (1:Int).toNat)))/\K 4/\True) [] [(4,pt 4),(5,ow 11)] [] [(4,bx [.fl (List.length (a.take ((1:Int)).toNat)) (LF (a.take ((1:Int)).toNat))]),(11,AO n)] ⟨⟨q,(Is.refl a).len⟩,ALe.c (CLe.fls (Is.take (Is.refl a) q)),⟨u,(Is.refl a).len⟩,ALe.lst (Z6k a (some (1:Int)) none u),Q2 (Z1V H) Tryz.call112 [(100,11)],⟨⟩⟩ ?_;refine Q6 (r:=r) (fun z:(List Rect)×(List Rect)=>Z0a F z.1 z.2) [4,5] nn [] (fun z=>[(4,bx [.ap 900]),(11,AO z.1),(900,AP z.2)]) (fun z h=>?_) (fun N B=>?_)
 ·obtain ⟨l,i⟩:=z
  refine Q0 Fm 4 [] [(2,.v (.c (.ap 900))),(3,ow 11)] [11,900] [] (AW.ret (Kn.w Fm [(2,.v (.c (.ap 900))),(3,ow 11)] [(900,AP i),(11,AO l)] (Z1N (by kernel_rfl) ?_ ?_)))
  ·refine Kn.w Fm [(2,ow 900),(3,ow 11)] [(11,AO l),(900,AO i)] ?_
   obtain rfl:=Option.some.inj h;exact Kn.w Fm [(2,ow 900),(3,ow 11)] [(900,AO i),(11,AO l)] (Q1F [(2,AL i),(3,ow 11)] [(11,AO l)] (Kn.w Fm [(2,AL i),(3,ow 11)] [(11,AO l)] (Q1F [(2,AL i),(3,AL l)] [] (Kn.D Fm))))
  ·refine Kn.w Fm [(2,.v (.c (.fl (List.length i) (LF i)))),(3,ow 11)] [(11,AO l)] ?_
   obtain rfl:=Option.some.inj h;exact Kn.w Fm [(2,.v (.c (.fl (List.length i) (LF i)))),(3,ow 11)] [(11,AO l)] (Q1F [(2,.v (.c (.fl (List.length i) (LF i)))),(3,AL l)] [] (Kn.w Fm [(2,.v (.c (.fl (List.length i) (LF i)))),(3,AL l)] [] (Q7n [(2,AL i),(3,AL l)] [] ⟨rfl,ALe.c (CLe.fl (.refl _)),⟨rfl,ALe.c (CLe.refl _),⟨⟩⟩⟩ True.intro (Kn.D Fm))))
 ·refine Q0 Fm 2 [4,5] [(6,pt 6)] [4,11] [(6,bx [ci (0:Int)])] (AW.block (Kn.w Fm [(4,pt 4),(5,ow 11),(6,pt 6)] [(4,bx [.fl (List.length (a.take ((1:Int)).toNat)) (LF (a.take ((1:Int)).toNat))]),(6,bx [ci (0:Int)]),(11,AO n)] (Y5G Fm (k:=900) (es:=4) (j:=0) (by kernel_rfl) (by kernel_rfl) (by simp) rfl (Kn.w Fm [(4,pt 4),(5,ow 11),(6,pt 6)] [(4,bx [.ap 900]),(6,bx [ci (0:Int)]),(11,AO n),(900,AP (a.take ((1:Int)).toNat))] (Kn.w Fm [(4,pt 4),(5,ow 11),(6,pt 6)] [(4,bx [.ap 900]),(6,bx [ci (0:Int)]),(11,AO n),(900,AP (a.take ((1:Int)).toNat))] ?_)))))
  refine Z5 (E':=fun z=>[(4,pt 4),(5,ow 11),(6,pt 6)]) (S':=fun z=>[(4,bx [.ap 900]),(6,bx [ci z.2.1]),(11,AO z.1),(900,AP z.2.2)]) (fun y z L A h=>?_) h;obtain ⟨m,b,e⟩:=z
  refine AW.seq (Q6 (r:=r) (fun z:Unit=>Z0b F m b e y) [4,5,6] (fun _=>[(15,vb (decide (b<(lI e))))]) [4,6,11,900] nn (fun z h=>?_) (fun M p=>?_))
  ·refine Q3 h (fun E h=>?_) (fun E h=>?_)
   ·refine AW.skip (AW.seq (AW.block ?_))
    obtain ⟨o,I,h⟩:=bS h;refine Q5 Fm [.s,.s,.k _,.s] (k1 2) [4,6] [(5,ow 20)] [6] [(4,bx [.ap 1020]),(20,AO o.2),(1020,AP o.1)] ⟨Q2 (Q9t I) Tryz.call228 [(0,11),(50,4),(60,900),(70,1020),(51,6),(100,20)],⟨⟩⟩ (AW.seq (Q0 Fm 1 [4,5] [(21,vi b)] [4,20,1020] [] (Q8u Fm 2 [4,5] [(6,pt 6)] [4,20,1020] [(6,bx [ci b])] ?_)))
    obtain ⟨G,h⟩:=gS h;exact Q1 Fm [.s,.s,.s] [4,5,6] [] [4,20,1020] [(6,bx [ci (b+1)])] (cT (cT G)) (Q1e Fm [(11,20),(900,1020)] (A (o.2,(b+1),o.1) h))
   ·exact AW.exit (Kn.R Fm (B (m,e) h))
  ·refine Kn.w Fm [(4,pt 4),(5,ow 11),(6,pt 6)] [(900,AP e),(4,bx [.ap 900]),(6,bx [ci b]),(11,AO m)] (Z1N (by kernel_rfl) ?_ ?_)
   ·exact Kn.w Fm [(4,pt 4),(5,ow 11),(6,pt 6)] [(4,bx [.own 900]),(6,bx [ci b]),(11,AO m),(900,AO e)] (Q8u Fm 4 [4,5,6] [(15,vb (decide (b<(lI e))))] [4,6,11,900] [] (Kn.w Fm [(4,pt 4),(5,ow 11),(6,pt 6),(15,vb (decide (b<(lI e))))] [(4,bx [.own 900]),(6,bx [ci b]),(11,AO m),(900,AO e)] (Q7n [(4,pt 4),(5,ow 11),(6,pt 6),(15,vb (decide (b<(lI e))))] [(4,bx [.ap 900]),(6,bx [ci b]),(11,AO m),(900,AP e)] ⟨rfl,ALe.refl _,⟨rfl,ALe.refl _,⟨rfl,ALe.refl _,⟨rfl,ALe.refl _,⟨⟩⟩⟩⟩⟩ ⟨rfl,OLe.box ⟨CLe.ap 900,⟨⟩⟩,⟨rfl,OLe.refl _,⟨rfl,OLe.refl _,⟨rfl,OLe.ap _ _ _,⟨⟩⟩⟩⟩⟩ (Kn.R Fm (p () h)))))
   ·exact Kn.w Fm [(4,pt 4),(5,ow 11),(6,pt 6)] [(4,bx [.fl (List.length e) (LF e)]),(6,bx [ci b]),(11,AO m)] (Q8u Fm 4 [4,5,6] [(15,vb (decide (b<(lI e))))] [4,6,11] [] (Kn.w Fm [(4,pt 4),(5,ow 11),(6,pt 6),(15,vb (decide (b<(lI e))))] [(4,bx [.fl (List.length e) (LF e)]),(6,bx [ci b]),(11,AO m)] (Y5G Fm (k:=900) (es:=4) (j:=0) (by kernel_rfl) (by kernel_rfl) (by simp) rfl (Kn.w Fm [(4,pt 4),(5,ow 11),(6,pt 6),(15,vb (decide (b<(lI e))))] [(4,bx [.ap 900]),(6,bx [ci b]),(11,AO m),(900,AP e)] (Kn.R Fm (p () h))))))
theorem Z8E {F a r} (h:Q9y F a=some r) :
  Q7 Tryz.prog 66 [AL a] [] (vi r) []:=by
 refine FJ Tryz.func66 fun C Fm=>?_
 unfold Q9y at h;refine Q0 Fm 1 [0] [] [] [] (Q0 Fm 1 [0] [(3,vi 0)] [] [] (Q6 (r:=r) (fun z:Int=>Z4F F z) [] (fun z=>[(3,vi z)]) [] nn (fun p h=>?_) (fun u e=>?_)))
 ·exact Q0 Fm 2 [] [(2,vi p)] [] [] (Z2 Fm h)
 ·refine Q0 Fm 3 [3] [(6,AL a),(7,vi (lI a)),(8,vi 0)] [] [] (AW.block (Kn.w Fm [(3,vi 0),(6,AL a),(7,vi (lI a)),(8,vi 0)] [] ?_))
  refine Z5 (E':=fun z=>[(3,vi z.1),(6,AL a),(7,vi (lI a)),(8,vi z.2)]) (S':=fun z=>[]) (fun y z t d h=>?_) h;obtain ⟨c,b⟩:=z
  refine Q0 Fm 1 [3,6,7,8] [(9,vb (decide (b<(lI a))))] [] [] (AW.seq (Q3 h (fun i h=>?_) (fun i h=>?_)))
  ·refine AW.skip (AW.seq (AW.block ?_))
   obtain ⟨j,h⟩:=gS h;refine Y4 Fm (sA 4 []) [3,6,7,8] [(5,pt 5)] [] [(5,bx [ci ((gn a b).L_),ci ((gn a b).w_),ci ((gn a b).R_),ci ((gn a b).H_)])] (cT j) ?_
   obtain ⟨k,l,m,n,h⟩:=gS4 h;refine Q1 Fm (sA 14 []) [6,7,8] [(3,vi (c+((((gn a b).R_)-((gn a b).L_))*(((gn a b).H_)-((gn a b).w_)))))] [] [] (cA (cT k) (cA (cT l) (cA (cT m) (cT (cT n))))) ?_
   obtain ⟨o,h⟩:=gS h;exact Q1 Fm [.s,.s] [3,6,7] [(8,vi (b+1))] [] [] (cT (cT o)) (Kn.R Fm (d ((c+((((gn a b).R_)-((gn a b).L_))*(((gn a b).H_)-((gn a b).w_)))),(b+1)) h))
  ·exact AW.exit (Kn.R Fm (e c h))
theorem Y0n {F A B e l r} (h:Z2n F A B e l=some r) :
  Q7 Tryz.prog 142 [AL A,vi B,vi e,.v (.g [.d (DL l.t_)])] [] (.t [.g [.d (DL r.1.t_)],.c (ci r.2)]) []:=by
 refine FJ Tryz.func142 fun C Fm=>?_
 unfold Z2n at h;refine Q0 Fm 3 [0,1,2] [(7,pt 7),(8,pt 8)] [] [(7,bx [.d (DL l.t_)]),(8,bx [f0])] (AW.seq (AW.seq ?_))
 obtain ⟨n,O,h⟩:=bS h;refine Q5 Fm (sA 4 [.k _,.s]) (k1 4) [0,1,2,7,8] [(10,vi n)] [7,8] [] ⟨Q2 (Q9T O) Tryz.call140 [],⟨⟩⟩ (Q0 Fm 2 [0,1,2,7,8,10] [(22,vb (n != (0:Int)))] [7,8] [] (Q3 h (fun G h=>?_) (fun G h=>?_)))
 ·exact Y4 Fm [.w (.v (.g [dR])),.s,.s,.s] [8] [(9,vi n)] [] [(8,bx [dR])] (cT (ALe.g ⟨CLe.fl .nil,⟨⟩⟩:ALe (.v (.g [f0])) (.v (.g [dR])))) (Z2 Fm h)
 ·refine AW.skip (AW.seq ?_)
  obtain ⟨i,P,h⟩:=bS h;refine Q5 Fm (sZ 6 [.s,.s,.k _]) (k1 2) [2,7,8] [(11,pt 11),(12,vi i.2)] [7,8] [(11,bx [.d (DL i.1.t_)])] ⟨Q2 (Z7n P) Tryz.call184 [],⟨⟩⟩ (AW.seq (Q0 Fm 2 [2,7,8,11,12] [(32,vb (i.2 != (0:Int)))] [7,8,11] [] (Q3 h (fun H h=>?_) (fun H h=>?_))))
  ·exact Y4 Fm [.w (.v (.g [dR])),.s,.s,.s] [8] [(9,vi i.2)] [] [(8,bx [dR])] (cT (ALe.g ⟨CLe.fl .nil,⟨⟩⟩:ALe (.v (.g [f0])) (.v (.g [dR])))) (Z2 Fm h)
  ·refine AW.skip (AW.seq ?_)
   obtain ⟨j,T,h⟩:=bS h;refine Q5 Fm (sA 4 [.k (cE [] [] (AL j) [] []),.s]) (k1 4) [2,8] [(13,AL j)] [8] [] ⟨KAt.cX (W5 T) Tryz.call88 [] [] [.tmp 36,.tmp 38,.func 185] ⟨.p,.p,y7.cX Tryz.call185 [] (fun args r hq=>by obtain ⟨y0,y1,y,hq,rfl,rfl⟩:=hq;exact ⟨Eq.mp (by kernel_rfl) (Z8p hq),rfl⟩) [] (True.intro),⟨⟩⟩,⟨⟩⟩ (AW.seq (Q0 Fm 3 [2,8,13] [(42,vb (decide ((120:Int)<(lI j))))] [8] [] (Q3 h (fun I h=>?_) (fun I h=>?_))))
   ·exact Y4 Fm [.w (.v (.g [dR])),.s,.s] [8] [(9,vi 1)] [] [(8,bx [dR])] (cT (ALe.g ⟨CLe.fl .nil,⟨⟩⟩:ALe (.v (.g [f0])) (.v (.g [dR])))) (Z2 Fm h)
   ·refine AW.skip (y8 Fm [.m] (fun K=>True) [2,8,13] [(14,ow 14)] [8] [(14,AO ([]:List Rect))] True.intro [(14,.arr 4 (0) nn)] ⟨OLe.is ((Is.nil (α:=Rect))),⟨⟩⟩ (Q6 (r:=r) (fun z:(List Rect)=>Z3a F z) [8,14] nn [8] (fun z=>[(14,AO z)]) (fun u h=>?_) (fun a0 E=>?_)))
    ·refine AW.seq (Kn.w Fm [(8,pt 8),(14,ow 14)] [(14,AO u),(8,bx [f0])] (Q1F [(8,pt 8),(14,AL u)] [(8,bx [f0])] ?_))
     obtain ⟨D,W,h⟩:=bS h;exact Q5 Fm [.s,.k _,.s,.s,.s,.s] (k1 1) [8] [(9,vi D.2)] [] [(8,bx [.d (DL D.1.t_)])] ⟨Q2 (Q1Y W) Tryz.call146 [],⟨⟩⟩ (Z2 Fm h)
    ·refine AW.block (Kn.w Fm [(2,vi e),(8,pt 8),(13,AL j),(14,ow 14)] [(8,bx [f0]),(14,AO ([]:List Rect))] ?_)
     refine Z5 (E':=fun z=>[(2,vi e),(8,pt 8),(13,AL z.1),(14,ow 14)]) (S':=fun z=>[(8,bx [f0]),(14,AO z.2)]) (fun b0 z Z o h=>?_) h;obtain ⟨X,b⟩:=z
     refine AW.seq (Q0 Fm 3 [2,8,13,14] [(46,vb (decide ((0:Int)<(lI X))))] [8,14] [] (Q3 h (fun L h=>?_) (fun L h=>?_)))
     ·refine AW.skip (AW.block (Q1K Fm [.m] (fun K=>True) [2,8,13,14] [] [8,14] [] True.intro (AW.seq ?_)))
      obtain ⟨a,U,h⟩:=bS h;refine Q5 Fm (sZ 5 [.s,.k _]) (k1 1) [2,8,14] [(13,AL a.2),(15,AL a.1)] [8,14] [] ⟨Q2 (Z7v U) Tryz.call186 [],⟨⟩⟩ (AW.seq ?_)
      obtain ⟨Y,V,h⟩:=bS h;refine Q5 Fm [.s,.k _,.s,.s] (k1 1) [2,8,13,14,15] [(55,vb (decide (e<Y)))] [8,14] [] ⟨Q2 (Z8E V) Tryz.call66 [],⟨⟩⟩ (Q3 h (fun M h=>?_) (fun M h=>?_))
      ·obtain ⟨N,h⟩:=gS h
       exact Q2h Fm (sA 4 []) [2,8,13] [(14,ow 58)] [8] [(58,AO (b++a.1))] (cT (cA N (cT (lfl a.1)))) [(58,rAp b a.1)] ⟨oAp,⟨⟩⟩ (Q1e Fm [(14,58)] (o (a.2,(b++a.1)) h))
      ·exact AW.skip (Kn.R Fm (o (a.2,b) h))
     ·exact AW.exit (Kn.R Fm (E b h))
theorem Q7f {F a r} (h:Q1V F a=some r) :
  Q7 Tryz.prog 90 [AL a] [] (ow 100) [(100,AO r)]:=by
 refine FJ Tryz.func90 fun C Fm=>?_
 unfold Q1V at h;refine Q1K Fm [.m] (fun K=>True) [0] [] [] [] True.intro (Q0 Fm 1 [0] [(3,vi 0)] [] [] (Q6 (r:=r) (fun z:Int=>Q2n F a z) [0] (fun z=>[(3,vi z)]) [] nn (fun T h=>?_) (fun L l=>?_)))
 ·refine AW.seq ?_
  obtain ⟨i,G,h⟩:=bS h;refine Q5 Fm [.s,.k _,.s] (k1 1) [0] [(6,ow 24)] [] [(24,AO i)] ⟨Q2 (Z9U G) Tryz.call152 [(100,24)],⟨⟩⟩ (Q6 (r:=r) (fun z:(List Rect)=>Q4B F z) [6] nn [] (fun z=>[(24,AO z)]) (fun H h=>?_) (fun N o=>?_))
  ·refine Q0 Fm 2 [] [(2,ow 24)] [24] [] (AW.ret ?_)
   obtain rfl:=Option.some.inj h;exact Q2P Fm [(100,24)] [(2,ow 100)] [(100,AO H)] (Q3b Fm (by kernel_rfl))
  ·refine Q0 Fm 3 [6] [(25,AL a),(26,vi (lI a)),(27,vi 0)] [24] [] (AW.block (Kn.w Fm [(6,ow 24),(25,AL a),(26,vi (lI a)),(27,vi 0)] [(24,AO i)] ?_))
   refine Z5 (E':=fun z=>[(6,ow 24),(25,AL a),(26,vi (lI a)),(27,vi z.1)]) (S':=fun z=>[(24,AO z.2)]) (fun P z M n h=>?_) h;obtain ⟨b,e⟩:=z
   refine Q0 Fm 1 [6,25,26,27] [(28,vb (decide (b<(lI a))))] [24] [] (AW.seq (Q3 h (fun t h=>?_) (fun t h=>?_)))
   ·refine AW.skip (AW.seq (AW.block ?_))
    obtain ⟨B,h⟩:=gS h;refine Y4 Fm [.s,.s,.s] [6,25,26,27] [(8,AL (gn a b))] [24] [] (cT B) ?_
    obtain ⟨D,h⟩:=gS h;refine Q2h Fm (sA 4 []) [25,26,27] [(6,ow 33)] [] [(33,AO (e++(gn a b)))] (cT (cA D (cT (lfl (gn a b))))) [(33,rAp e (gn a b))] ⟨oAp,⟨⟩⟩ ?_
    obtain ⟨E,h⟩:=gS h;exact Q1 Fm [.s,.s] [6,25,26] [(27,vi (b+1))] [33] [] (cT (cT E)) (Q1e Fm [(24,33)] (n ((b+1),(e++(gn a b))) h))
   ·exact AW.exit (Kn.R Fm (o e h))
 ·refine Q0 Fm 3 [0,3] [(9,AL a),(10,vi (lI a)),(11,vi 0)] [] [] (AW.block (Kn.w Fm [(0,AL a),(3,vi 0),(9,AL a),(10,vi (lI a)),(11,vi 0)] [] ?_))
  refine Z5 (E':=fun z=>[(0,AL a),(3,vi z.1),(9,AL a),(10,vi (lI a)),(11,vi z.2)]) (S':=fun z=>[]) (fun O z I j h=>?_) h;obtain ⟨d,c⟩:=z
  refine Q0 Fm 1 [0,3,9,10,11] [(12,vb (decide (c<(lI a))))] [] [] (AW.seq (Q3 h (fun p h=>?_) (fun p h=>?_)))
  ·refine AW.skip (AW.seq (AW.block ?_))
   obtain ⟨u,h⟩:=gS h;refine Y4 Fm [.s,.s,.s] [0,3,9,10,11] [(5,AL (gn a c))] [] [] (cT u) ?_
   obtain ⟨y,h⟩:=gS h;refine Y4 Fm (sA 5 []) [0,9,10,11] [(3,vi (d+(lI (gn a c))))] [] [] (cT (cT y)) (Q0 Fm 2 [0,3,9,10,11] [(20,vb (decide ((d+(lI (gn a c)))<0)))] [] [] (Q3 h (fun q h=>?_) (fun q h=>?_)))
   ·cases h
   ·refine AW.skip ?_
    obtain ⟨A,h⟩:=gS h;exact Q1 Fm [.s,.s] [0,3,9,10] [(11,vi (c+1))] [] [] (cT (cT A)) (Kn.R Fm (j ((d+(lI (gn a c))),(c+1)) h))
  ·exact AW.exit (Kn.R Fm (l d h))
theorem Z4m {F d a r} (h:Q9U F d a=some r) :
  Q7 Tryz.prog 144 [vb d,vb a] [] (vb r) []:=by
 refine FJ Tryz.func144 fun C Fm=>?_
 unfold Q9U at h;refine Q0 Fm 1 [0,1] [] [] [] (Q6 (r:=r) (fun z:Bool=>Q6N F z) [] (fun z=>[(4,vb z)]) [] nn (fun i h=>?_) (fun e c=>?_))
 ·exact Z2 Fm h
 ·rcases Z6 h with ⟨b,h⟩|⟨b,h⟩
  ·exact Q1 Fm [.s,.w (vb true),.s,.s,.s,.s] [] [(4,vb (!a))] [] [] (cT (ALe.bool b)) (Kn.R Fm (c (!a) h))
  ·exact Q1 Fm [.s,.w (vb false),.s,.s,.s,.s] [] [(4,vb false)] [] [] (cT (ALe.bool b)) (Kn.R Fm (c false h))
theorem Z6I {F e j l m r} (h:Q4i F e j l m=some r) :
  Q7 Tryz.prog 85 [.v (.g [.d (DL e.t_)]),AL j,vi l,vi m] [] (.t [.g [.d (DL r.1.t_)],.c (ci r.2)]) []:=by
 refine FJ Tryz.func85 fun C Fm=>?_
 unfold Q4i at h;refine Q0 Fm 3 [1,2,3] [(4,pt 4),(8,pt 8)] [] [(4,bx [.d (DL e.t_)]),(8,bx [f0])] (AW.seq (AW.seq ?_))
 obtain ⟨i,B,h⟩:=bS h;refine Q5 Fm (sA 4 [.k _,.s]) (k1 4) [1,2,3,4,8] [(10,vi i)] [4,8] [] ⟨Q2 (Q9T B) Tryz.call140 [],⟨⟩⟩ (Q0 Fm 2 [1,2,3,4,8,10] [(20,vb (i != (0:Int)))] [4,8] [] (Q3 h (fun o h=>?_) (fun o h=>?_)))
 ·exact Y4 Fm [.w (.v (.g [dR])),.s,.s,.s] [8] [(9,vi i)] [] [(8,bx [dR])] (cT (ALe.g ⟨CLe.fl .nil,⟨⟩⟩:ALe (.v (.g [f0])) (.v (.g [dR])))) (Z2 Fm h)
 ·refine AW.skip (AW.seq ?_)
  obtain ⟨a,D,h⟩:=bS h;refine Q5 Fm (sZ 6 [.s,.s,.k _]) (k1 2) [1,2,3,4,8] [(11,pt 11),(12,vi a.2)] [4,8] [(11,bx [.d (DL a.1.t_)])] ⟨Q2 (Y0o D) Tryz.call141 [],⟨⟩⟩ (AW.seq (Q0 Fm 2 [1,2,3,4,8,11,12] [(30,vb (a.2 != (0:Int)))] [4,8,11] [] (Q3 h (fun u h=>?_) (fun u h=>?_))))
  ·exact Y4 Fm [.w (.v (.g [dR])),.s,.s,.s] [8] [(9,vi a.2)] [] [(8,bx [dR])] (cT (ALe.g ⟨CLe.fl .nil,⟨⟩⟩:ALe (.v (.g [f0])) (.v (.g [dR])))) (Z2 Fm h)
  ·refine AW.skip (AW.seq ?_)
   obtain ⟨b,E,h⟩:=bS h;refine Q5 Fm (sA 4 (sZ 6 [.k _])) (k1 4) [4,8,11] [(12,vi b.2),(13,pt 13)] [4,8,11] [(13,bx [.d (DL b.1.t_)])] ⟨Q2 (Y0n E) Tryz.call142 [],⟨⟩⟩ (AW.seq (Q0 Fm 2 [4,8,11,12,13] [(42,vb (b.2 != (0:Int)))] [4,8,11,13] [] (Q3 h (fun A h=>?_) (fun A h=>?_))))
   ·exact Y4 Fm [.w (.v (.g [dR])),.s,.s,.s] [8] [(9,vi b.2)] [] [(8,bx [dR])] (cT (ALe.g ⟨CLe.fl .nil,⟨⟩⟩:ALe (.v (.g [f0])) (.v (.g [dR])))) (Z2 Fm h)
   ·refine AW.skip (AW.seq ?_)
    obtain ⟨M,G,h⟩:=bS h;obtain ⟨L,H,h⟩:=bS h
    obtain ⟨n,I,h⟩:=bS h;exact Q5 Fm (sA 6 [.w (AL (α:=(List Rect)) ([a.1.t_,b.1.t_]:List (List Rect))),.k _,.k (cE [] [] (AL L) [] []),.k _,.s,.s,.s,.s]) (fun K=>(ALe (.v (.c (.d (.lst 2 (Z0n 1 [DL a.1.t_,DL b.1.t_]))))) (AL (α:=(List Rect)) ([a.1.t_,b.1.t_]:List (List Rect))))/\K 7/\K 8/\K 9/\True) [8] [(9,vi n.2)] [] [(8,bx [.d (DL n.1.t_)])] ⟨ALe.lst (.lit ([a.1.t_,b.1.t_]:List (List Rect)) (by kernel_rfl)),Q2 (Q7.list (Q7f G)) Tryz.call90 [],KAt.cX (W5 H) Tryz.call88 [] [] [.tmp 46,.tmp 52,.func 144] ⟨.p,.p,y7.cX Tryz.call144 [] (fun args r hq=>by obtain ⟨y0,y1,y,hq,rfl,rfl⟩:=hq;exact ⟨Eq.mp (by kernel_rfl) (Z4m hq),rfl⟩) [] (True.intro),⟨⟩⟩,Q2 (Z0u I) Tryz.call143 [],⟨⟩⟩ (Z2 Fm h)
theorem Z4E {F d a r} (h:Q4c F d a=some r) :
  Q7 Tryz.prog 145 [vb d,vb a] [] (vb r) []:=by
 refine FJ Tryz.func145 fun C Fm=>?_
 unfold Q4c at h;refine Q0 Fm 1 [0,1] [] [] [] (Q6 (r:=r) (fun z:Bool=>Q3J F z) [] (fun z=>[(4,vb z)]) [] nn (fun i h=>?_) (fun e c=>?_))
 ·exact Z2 Fm h
 ·rcases Z6 h with ⟨b,h⟩|⟨b,h⟩
  ·exact Q1 Fm [.s,.w (vb true),.s,.s,.s,.s] [] [(4,vb (!a))] [] [] (cT (ALe.bool b)) (Kn.R Fm (c (!a) h))
  ·exact Q1 Fm [.s,.w (vb false),.s,.s,.s,.s] [] [(4,vb false)] [] [] (cT (ALe.bool b)) (Kn.R Fm (c false h))
theorem Z6N {F i j r} (h:Q6i F i j=some r) :
  Q7 Tryz.prog 86 [.v (.g [.d (DL i.t_)]),.v (.g [.d (DL j.t_)])] [] (vb r) []:=by
 refine FJ Tryz.func86 fun C Fm=>?_
 unfold Q6i at h;refine Q0 Fm 3 [] [(2,pt 2),(3,pt 3)] [] [(2,bx [.d (DL i.t_)]),(3,bx [.d (DL j.t_)])] (Q6 (r:=r) (fun z:Bool=>Q3i F z) [] (fun z=>[(4,vb z)]) [] nn (fun t h=>?_) (fun o b=>?_))
 ·exact Z2 Fm h
 ·obtain ⟨u,e,h⟩:=bS h
  rcases Z6 h with ⟨a,h⟩|⟨a,h⟩
  ·obtain ⟨A,m,h⟩:=bS h
   rcases Z6 h with ⟨c,h⟩|⟨c,h⟩
   ·obtain ⟨l,n,h⟩:=bS h
    exact Q5 Fm [.s,.k _,.w (vb true),.s,.k _,.s,.w (vb true),.s,.s,.s,.s,.k (cE [] [] (AL l) [] []),.s,.s,.s,.s] (fun K=>K 1/\_/\K 4/\_/\K 11/\True) [] [(4,vb ((lI l)==0))] [] [] ⟨Q2 (W9 e) Tryz.call65 [],ALe.bool a,Q2 (W9 m) Tryz.call65 [],ALe.bool c,KAt.cX (W5 n) Tryz.call88 [] [] [.tmp 13,.tmp 15,.func 145] ⟨.p,.p,y7.cX Tryz.call145 [] (fun args r hq=>by obtain ⟨y0,y1,y,hq,rfl,rfl⟩:=hq;exact ⟨Eq.mp (by kernel_rfl) (Z4E hq),rfl⟩) [] (True.intro),⟨⟩⟩,⟨⟩⟩ (Kn.R Fm (b ((lI l)==0) h))
   ·exact Q5 Fm (sZ 9 [.s,.k _,.w (vb true),.s,.k _,.s,.w (vb false)]) (fun K=>K 1/\_/\K 4/\_/\True) [] [(4,vb false)] [] [] ⟨Q2 (W9 e) Tryz.call65 [],ALe.bool a,Q2 (W9 m) Tryz.call65 [],ALe.bool c,⟨⟩⟩ (Kn.R Fm (b false h))
  ·exact Q5 Fm (sZ 13 [.s,.k _,.w (vb false)]) (fun K=>K 1/\_/\True) [] [(4,vb false)] [] [] ⟨Q2 (W9 e) Tryz.call65 [],ALe.bool a,⟨⟩⟩ (Kn.R Fm (b false h))
theorem Q5U {F i r} (h:Q0y F i=some r) :
  Q7 Tryz.prog 87 [gE i] [] (.t [.g (gC r.1),.c (ci r.2)]) []:=by
 refine FJ Tryz.func87 fun C Fm=>?_
 unfold Q0y at h;refine Q0 Fm 3 [] [(1,pt 1),(2,pt 2)] [] [(1,bx (gC i)),(2,bx [f0,f0,f0])] (Q0 Fm 1 [1,2] [(4,pt 4)] [1,2] [(4,bx [f0,f0,f0])] (Q6 (r:=r) (fun z:(List Rect)×(List Rect)×(List Rect)=>Q7l F z.1 z.2.1 z.2.2) [2,4] nn [2] (fun z=>[(4,bx [.d (DL z.1),.d (DL z.2.1),.d (DL z.2.2)])]) (fun z h=>?_) (fun I l=>?_)))
 ·obtain ⟨E,G,H⟩:=z
  exact Y4 Fm (sA 9 []) [2] [(3,vi 0)] [] [(2,bx [.d (DL E),.d (DL G),.d (DL H)])] (cA (True.intro:True) (cA (True.intro:True) (cT (True.intro:True)))) (Z2 Fm h)
 ·refine Q0 Fm 2 [2,4] [(9,gE i),(10,vi 0)] [2,4] [] (AW.block (AW.rounds 3 (Q0 Fm 1 [2,4,9,10] [(11,vb true)] [2,4] [] (AW.seq (AW.cond (b:=true) (by kernel_rfl) (fun _=>?_) (fun hb=>by cases hb))))))
  refine AW.skip (AW.seq (AW.block (Q0 Fm 4 [2,4,9,10] [(5,vi 0),(6,AL i.e0_)] [2,4] [] (AW.seq ?_))));obtain ⟨a,A,h⟩:=bS h
  refine Q5 Fm (sZ 6 [.s,.k _]) (k1 1) [2,4,5,9,10] [(7,pt 7),(8,vi a.2)] [2,4] [(7,bx [.d (DL a.1.t_)])] ⟨Q2 (Q1Y A) Tryz.call146 [],⟨⟩⟩ (AW.seq (Q0 Fm 2 [2,4,5,7,8,9,10] [(20,vb (a.2 != (0:Int)))] [2,4,7] [] (Q3 h (fun m h=>?_) (fun m h=>?_))))
  ·exact Y4 Fm [.w (.v (.g [dR,dR,dR])),.s,.s,.s] [2] [(3,vi a.2)] [] [(2,bx [dR,dR,dR])] (cT (ALe.g ⟨CLe.fl .nil,CLe.fl .nil,CLe.fl .nil,⟨⟩⟩:ALe (.v (.g [f0,f0,f0])) (.v (.g [dR,dR,dR])))) (Z2 Fm h)
  ·refine AW.skip (Q1 Fm (sA 4 []) [2,4,9,10] [] [2] [(4,bx [.d (DL a.1.t_),f0,f0])] (cT (True.intro:True)) ?_)
   obtain ⟨p,h⟩:=gS h;refine Q1 Fm [.s,.s] [2,4,9] [(10,vi 1)] [2,4] [] (cT (cT p)) (Y1G (Q0 Fm 1 [2,4,9,10] [(11,vb true)] [2,4] [] (AW.seq (AW.cond (b:=true) (by kernel_rfl) (fun _=>?_) (fun hb=>by cases hb)))))
   refine AW.skip (AW.seq (AW.block (Q0 Fm 4 [2,4,9,10] [(5,vi 1),(6,AL i.e1_)] [2,4] [] (AW.seq ?_))));obtain ⟨e,B,h⟩:=bS h
   refine Q5 Fm (sZ 6 [.s,.k _]) (k1 1) [2,4,5,9,10] [(7,pt 7),(8,vi e.2)] [2,4] [(7,bx [.d (DL e.1.t_)])] ⟨Q2 (Q1Y B) Tryz.call146 [],⟨⟩⟩ (AW.seq (Y3r Fm 2 [(2,pt 2),(4,pt 4),(5,vi 1),(7,pt 7),(8,vi e.2),(9,gE i),(10,vi 1),(20,vb (e.2 != (0:Int)))] [(2,bx [f0,f0,f0]),(4,bx [.d (DL a.1.t_),f0,f0]),(7,bx [.d (DL e.1.t_)])] (Q3 h (fun n h=>?_) (fun n h=>?_))))
   ·exact Y4 Fm [.w (.v (.g [dR,dR,dR])),.s,.s,.s] [2] [(3,vi e.2)] [] [(2,bx [dR,dR,dR])] (cT (ALe.g ⟨CLe.fl .nil,CLe.fl .nil,CLe.fl .nil,⟨⟩⟩:ALe (.v (.g [f0,f0,f0])) (.v (.g [dR,dR,dR])))) (Z2 Fm h)
   ·refine AW.skip (Q1 Fm (sA 4 []) [2,4,9,10] [] [2] [(4,bx [.d (DL a.1.t_),.d (DL e.1.t_),f0])] (cT (True.intro:True)) ?_)
    obtain ⟨u,h⟩:=gS h;refine Q1 Fm [.s,.s] [2,4,9] [(10,vi 2)] [2,4] [] (cT (cT u)) (Y1G (Q0 Fm 1 [2,4,9,10] [(11,vb true)] [2,4] [] (AW.seq (AW.cond (b:=true) (by kernel_rfl) (fun _=>?_) (fun hb=>by cases hb)))))
    refine AW.skip (AW.seq (AW.block (Q0 Fm 4 [2,4,9,10] [(5,vi 2),(6,AL i.e2_)] [2,4] [] (AW.seq ?_))));obtain ⟨j,D,h⟩:=bS h
    refine Q5 Fm (sZ 6 [.s,.k _]) (k1 1) [2,4,5,9,10] [(7,pt 7),(8,vi j.2)] [2,4] [(7,bx [.d (DL j.1.t_)])] ⟨Q2 (Q1Y D) Tryz.call146 [],⟨⟩⟩ (AW.seq (Q0 Fm 2 [2,4,5,7,8,9,10] [(20,vb (j.2 != (0:Int)))] [2,4,7] [] (Q3 h (fun o h=>?_) (fun o h=>?_))))
    ·exact Y4 Fm [.w (.v (.g [dR,dR,dR])),.s,.s,.s] [2] [(3,vi j.2)] [] [(2,bx [dR,dR,dR])] (cT (ALe.g ⟨CLe.fl .nil,CLe.fl .nil,CLe.fl .nil,⟨⟩⟩:ALe (.v (.g [f0,f0,f0])) (.v (.g [dR,dR,dR])))) (Z2 Fm h)
    ·refine AW.skip (Q1 Fm (sA 4 []) [2,4,9,10] [] [2] [(4,bx [.d (DL a.1.t_),.d (DL e.1.t_),.d (DL j.1.t_)])] (cT (True.intro:True)) ?_)
     obtain ⟨y,h⟩:=gS h;exact Q1 Fm [.s,.s] [2,4,9] [(10,vi 3)] [2,4] [] (cT (cT y)) (Y1G (Q0 Fm 1 [2,4,9,10] [(11,vb false)] [2,4] [] (AW.seq (AW.cond (b:=false) (by kernel_rfl) (fun hb=>by cases hb) (fun _=>(AW.exit (Kn.R Fm (l (a.1.t_,e.1.t_,j.1.t_) h))))))))
theorem Z1y {F d a r} (h:Q4x F d a=some r) :
  Q7 Tryz.prog 89 [vb d,vb a] [] (vb r) []:=by
 refine FJ Tryz.func89 fun C Fm=>?_
 unfold Q4x at h;refine Q0 Fm 1 [0,1] [] [] [] (Q6 (r:=r) (fun z:Bool=>Q5S F z) [] (fun z=>[(4,vb z)]) [] nn (fun i h=>?_) (fun e c=>?_))
 ·exact Z2 Fm h
 ·rcases Z6 h with ⟨b,h⟩|⟨b,h⟩
  ·exact Q1 Fm [.s,.w (vb true),.s,.s,.s] [] [(4,vb a)] [] [] (cT (ALe.bool b)) (Kn.R Fm (c a h))
  ·exact Q1 Fm [.s,.w (vb false),.s,.s,.s] [] [(4,vb false)] [] [] (cT (ALe.bool b)) (Kn.R Fm (c false h))
theorem Z4k {F d a r} (h:Q3y F d a=some r) :
  Q7 Tryz.prog 91 [vb d,vb a] [] (vb r) []:=by
 refine FJ Tryz.func91 fun C Fm=>?_
 unfold Q3y at h;refine Q0 Fm 1 [0,1] [] [] [] (Q6 (r:=r) (fun z:Bool=>Q3e F z) [] (fun z=>[(4,vb z)]) [] nn (fun i h=>?_) (fun e c=>?_))
 ·exact Z2 Fm h
 ·rcases Z6 h with ⟨b,h⟩|⟨b,h⟩
  ·exact Q1 Fm [.s,.w (vb true),.s,.s,.s,.s] [] [(4,vb (!a))] [] [] (cT (ALe.bool b)) (Kn.R Fm (c (!a) h))
  ·exact Q1 Fm [.s,.w (vb false),.s,.s,.s,.s] [] [(4,vb false)] [] [] (cT (ALe.bool b)) (Kn.R Fm (c false h))
theorem Q6W {F a m i n r} (h:Q0E F a m i n=some r) :
  Q7 Tryz.prog 38 [gE a,.v (.g [.d (DL m.t_)]),gE i,gE n] [] (.t [.g (gC r.1),.c (ci r.2)]) []:=by
 refine FJ Tryz.func38 fun C Fm=>?_
 unfold Q0E at h;refine Q0 Fm 6 [] [(4,pt 4),(5,pt 5),(6,pt 6),(7,pt 7),(8,pt 8)] [] [(4,bx (gC a)),(5,bx [.d (DL m.t_)]),(6,bx (gC i)),(7,bx (gC n)),(8,bx [f0,f0,f0])] (AW.seq (AW.seq ?_))
 obtain ⟨Y,L,h⟩:=bS h;refine Q5 Fm [.s,.k _,.s] (k1 1) [4,5,6,7,8] [(17,vb (!Y))] [4,5,6,7,8] [] ⟨Q2 (W9 L) Tryz.call65 [],⟨⟩⟩ (Q3 h (fun A h=>?_) (fun A h=>?_))
 ·exact Y4 Fm [.w (.v (.g [dR,dR,dR])),.s,.s] [8] [(9,vi 7)] [] [(8,bx [dR,dR,dR])] (cT (ALe.g ⟨CLe.fl .nil,CLe.fl .nil,CLe.fl .nil,⟨⟩⟩:ALe (.v (.g [f0,f0,f0])) (.v (.g [dR,dR,dR])))) (Z2 Fm h)
 ·refine AW.skip (AW.seq ?_)
  obtain ⟨j,M,h⟩:=bS h;refine Q5 Fm (sA 13 (sZ 6 [.k _])) (k1 13) [4,5,6,7,8] [(10,pt 10),(11,vi j.2)] [4,5,6,7,8] [(10,bx (gC j.1))] ⟨Q2 (Y0t M) Tryz.call83 [],⟨⟩⟩ (AW.seq (Q0 Fm 2 [4,5,6,7,8,10,11] [(37,vb (j.2 != (0:Int)))] [4,5,6,7,8,10] [] (Q3 h (fun B h=>?_) (fun B h=>?_))))
  ·exact Y4 Fm [.w (.v (.g [dR,dR,dR])),.s,.s,.s] [8] [(9,vi j.2)] [] [(8,bx [dR,dR,dR])] (cT (ALe.g ⟨CLe.fl .nil,CLe.fl .nil,CLe.fl .nil,⟨⟩⟩:ALe (.v (.g [f0,f0,f0])) (.v (.g [dR,dR,dR])))) (Z2 Fm h)
  ·refine AW.skip (AW.seq (AW.seq ?_))
   obtain ⟨Z,N,h⟩:=bS h;refine Q5 Fm [.s,.k _,.s] (k1 1) [4,5,6,7,8,10] [(42,vb (Z != (0:Int)))] [4,5,6,7,8,10] [] ⟨Q2 (Z7x N) Tryz.call84 [],⟨⟩⟩ (Q3 h (fun D h=>?_) (fun D h=>?_))
   ·exact Y4 Fm [.w (.v (.g [dR,dR,dR])),.s,.s] [8] [(9,vi 17)] [] [(8,bx [dR,dR,dR])] (cT (ALe.g ⟨CLe.fl .nil,CLe.fl .nil,CLe.fl .nil,⟨⟩⟩:ALe (.v (.g [f0,f0,f0])) (.v (.g [dR,dR,dR])))) (Z2 Fm h)
   ·refine AW.skip (AW.seq ?_)
    obtain ⟨l,O,h⟩:=bS h;refine Q5 Fm (sA 7 (sZ 6 [.k _])) (k1 7) [4,5,6,8,10] [(11,vi l.2),(12,pt 12)] [4,5,6,8,10] [(12,bx [.d (DL l.1.t_)])] ⟨Q2 (Z6I O) Tryz.call85 [],⟨⟩⟩ (AW.seq (Q0 Fm 2 [4,5,6,8,10,11,12] [(56,vb (l.2 != (0:Int)))] [4,5,6,8,10,12] [] (Q3 h (fun E h=>?_) (fun E h=>?_))))
    ·exact Y4 Fm [.w (.v (.g [dR,dR,dR])),.s,.s,.s] [8] [(9,vi l.2)] [] [(8,bx [dR,dR,dR])] (cT (ALe.g ⟨CLe.fl .nil,CLe.fl .nil,CLe.fl .nil,⟨⟩⟩:ALe (.v (.g [f0,f0,f0])) (.v (.g [dR,dR,dR])))) (Z2 Fm h)
    ·refine AW.skip (AW.seq (AW.seq ?_))
     obtain ⟨a0,P,h⟩:=bS h;refine Q5 Fm [.s,.s,.s,.k _,.s] (k1 3) [4,6,8,10,12] [(63,vb (!a0))] [4,6,8,10,12] [] ⟨Q2 (Z6N P) Tryz.call86 [],⟨⟩⟩ (Q3 h (fun G h=>?_) (fun G h=>?_))
     ·exact Y4 Fm [.w (.v (.g [dR,dR,dR])),.s,.s] [8] [(9,vi 12)] [] [(8,bx [dR,dR,dR])] (cT (ALe.g ⟨CLe.fl .nil,CLe.fl .nil,CLe.fl .nil,⟨⟩⟩:ALe (.v (.g [f0,f0,f0])) (.v (.g [dR,dR,dR])))) (Z2 Fm h)
     ·refine AW.skip (AW.seq ?_)
      obtain ⟨I,h⟩:=gS h;refine Y4 Fm (sA 7 []) [4,8,10,12] [(71,vb ((Q5T .i64 (a.s_.fdiv (2 ^ (min (i.N_).toNat (IntKind.bits .i64)))) (1:Int))==0))] [4,8,10,12] [] (cT I) (Q3 h (fun H h=>?_) (fun H h=>?_))
      ·refine AW.seq ?_
       obtain ⟨o,R,h⟩:=bS h;exact Q5 Fm [.s,.s,.s,.w (.v (.g [dR,.d (DL a.g_.t_),dR])),.k _,.s,.s,.s,.s] (fun K=>(ALe (.v (.g [f0,.d (DL a.g_.t_),f0])) (.v (.g [dR,.d (DL a.g_.t_),dR])))/\K 4/\True) [8] [(9,vi o.2)] [] [(8,bx (gC o.1))] ⟨ALe.g ⟨CLe.fl .nil,CLe.refl _,CLe.fl .nil,⟨⟩⟩,Q2 (Q5U R) Tryz.call87 [],⟨⟩⟩ (Z2 Fm h)
      ·refine AW.skip (AW.seq ?_)
       obtain ⟨b,T,h⟩:=bS h;refine Q5 Fm (sA 5 [.k (cE [] [] (AL b) [] []),.s]) (k1 5) [4,8,10,12] [(13,AL b)] [4,8,10,12] [] ⟨KAt.cX (W5 T) Tryz.call88 [] [] [.tmp 81,.tmp 83,.func 89] ⟨.p,.p,y7.cX Tryz.call89 [] (fun args r hq=>by obtain ⟨y0,y1,y,hq,rfl,rfl⟩:=hq;exact ⟨Eq.mp (by kernel_rfl) (Z1y hq),rfl⟩) [] (True.intro),⟨⟩⟩,⟨⟩⟩ (AW.seq ?_)
       obtain ⟨e,U,h⟩:=bS h;refine Q5 Fm (sA 5 [.k (cE [] [] (AL e) [] []),.s]) (k1 5) [4,8,13] [(14,AL e)] [4,8] [] ⟨KAt.cX (W5 U) Tryz.call88 [] [] [.tmp 87,.tmp 89,.func 89] ⟨.p,.p,y7.cX Tryz.call89 [] (fun args r hq=>by obtain ⟨y0,y1,y,hq,rfl,rfl⟩:=hq;exact ⟨Eq.mp (by kernel_rfl) (Z1y hq),rfl⟩) [] (True.intro),⟨⟩⟩,⟨⟩⟩ (AW.seq ?_)
       obtain ⟨c0,V,h⟩:=bS h;obtain ⟨b0,W,h⟩:=bS h
       obtain ⟨u,X,h⟩:=bS h;exact Q5 Fm (sA 6 [.w (AL (α:=(List Rect)) ([b,e]:List (List Rect))),.k _,.k (cE [] [] (AL b0) [] []),.s,.s,.k _,.s,.s,.s,.s]) (fun K=>(ALe (.v (.c (.d (.lst 2 (Z0n 1 [DL b,DL e]))))) (AL (α:=(List Rect)) ([b,e]:List (List Rect))))/\K 7/\K 8/\K 11/\True) [8] [(9,vi u.2)] [] [(8,bx (gC u.1))] ⟨ALe.lst (.lit ([b,e]:List (List Rect)) (by kernel_rfl)),Q2 (Q7.list (Q7f V)) Tryz.call90 [],KAt.cX (W5 W) Tryz.call88 [] [] [.tmp 94,.tmp 98,.func 91] ⟨.p,.p,y7.cX Tryz.call91 [] (fun args r hq=>by obtain ⟨y0,y1,y,hq,rfl,rfl⟩:=hq;exact ⟨Eq.mp (by kernel_rfl) (Z4k hq),rfl⟩) [] (True.intro),⟨⟩⟩,Q2 (Q5U X) Tryz.call87 [],⟨⟩⟩ (Z2 Fm h)
theorem Q8a {F i j r} (h:Q5E F i j=some r) :
  Q7 Tryz.prog 40 [.v (.g [.d (DL i.t_)]),.v (.g [.d (DL j.t_)])] [] (vb r) []:=by
 refine FJ Tryz.func40 fun C Fm=>?_
 unfold Q5E at h;refine Q0 Fm 3 [] [(2,pt 2),(3,pt 3)] [] [(2,bx [.d (DL i.t_)]),(3,bx [.d (DL j.t_)])] (Q6 (r:=r) (fun z:Bool=>Q6G F z) [] (fun z=>[(4,vb z)]) [] nn (fun p h=>?_) (fun o b=>?_))
 ·exact Z2 Fm h
 ·obtain ⟨t,e,h⟩:=bS h
  rcases Z6 h with ⟨a,h⟩|⟨a,h⟩
  ·obtain ⟨u,l,h⟩:=bS h
   rcases Z6 h with ⟨c,h⟩|⟨c,h⟩
   ·obtain ⟨m,n,h⟩:=bS h
    exact Q5 Fm [.s,.k _,.w (vb true),.s,.k _,.s,.w (vb true),.s,.s,.s,.s,.k _,.s,.s,.s,.s] (fun K=>K 1/\_/\K 4/\_/\K 11/\True) [] [(4,vb ((lI m)==0))] [] [] ⟨Q2 (V2 e) Tryz.call67 [],ALe.bool a,Q2 (V2 l) Tryz.call67 [],ALe.bool c,Q2 (G8 n) Tryz.call74 [],⟨⟩⟩ (Kn.R Fm (b ((lI m)==0) h))
   ·exact Q5 Fm (sZ 9 [.s,.k _,.w (vb true),.s,.k _,.s,.w (vb false)]) (fun K=>K 1/\_/\K 4/\_/\True) [] [(4,vb false)] [] [] ⟨Q2 (V2 e) Tryz.call67 [],ALe.bool a,Q2 (V2 l) Tryz.call67 [],ALe.bool c,⟨⟩⟩ (Kn.R Fm (b false h))
  ·exact Q5 Fm (sZ 13 [.s,.k _,.w (vb false)]) (fun K=>K 1/\_/\True) [] [(4,vb false)] [] [] ⟨Q2 (V2 e) Tryz.call67 [],ALe.bool a,⟨⟩⟩ (Kn.R Fm (b false h))
theorem Z8R {F r} (h:Q9J F=some r) :
  Q7 Tryz.prog 41 [] [] (vb r) []:=by
 refine FJ Tryz.func41 fun C Fm=>?_
 unfold Q9J at h;refine Q0 Fm 1 [] [] [] [] (Y4 Fm [.s,.w (AL [(⟨0,0,(10:Int),(1:Int)⟩:Rect)]),.s,.s,.s] [] [(1,pt 1)] [] [(1,bx [.d (DL ([(⟨0,0,(10:Int),(1:Int)⟩:Rect)]:List Rect))])] (cT (Q8h (⟨0,0,(10:Int),(1:Int)⟩:Rect))) (Y4 Fm [.s,.w (AL [(⟨(ByteArray.mk #[114,121,101]),0,0⟩:Crop)]),.s,.w (AL [(⟨(3:Int),0,(5:Int),(1:Int)⟩:Rect)]),.s,.s,.w (AL [(⟨(1:Int),0,0,(9:Int),(⟨([(⟨(3:Int),0,(5:Int),(1:Int)⟩:Rect)]:List Rect)⟩:Re_)⟩:A2_)]),.w (.v (.g [ci 0,.d (DL ([(⟨(ByteArray.mk #[114,121,101]),0,0⟩:Crop)]:List Crop)),.d (DL (α:=Rg_) []),.d (DL ([(⟨(1:Int),0,0,(9:Int),(⟨([(⟨(3:Int),0,(5:Int),(1:Int)⟩:Rect)]:List Rect)⟩:Re_)⟩:A2_)]:List A2_)),ci 0,ci 0])),.s,.s] [1] [(2,pt 2)] [1] [(2,bx [ci 0,.d (DL ([(⟨(ByteArray.mk #[114,121,101]),0,0⟩:Crop)]:List Crop)),.d (DL (α:=Rg_) []),.d (DL ([(⟨(1:Int),0,0,(9:Int),(⟨([(⟨(3:Int),0,(5:Int),(1:Int)⟩:Rect)]:List Rect)⟩:Re_)⟩:A2_)]:List A2_)),ci 0,ci 0])] (cA (Q8h (⟨(ByteArray.mk #[114,121,101]),0,0⟩:Crop)) (cA (Q8h (⟨(3:Int),0,(5:Int),(1:Int)⟩:Rect)) (cA (Q8h (⟨(1:Int),0,0,(9:Int),(⟨([(⟨(3:Int),0,(5:Int),(1:Int)⟩:Rect)]:List Rect)⟩:Re_)⟩:A2_)) (cT (ALe.g ⟨CLe.refl _,CLe.refl _,CLe.fl .nil,CLe.refl _,CLe.refl _,CLe.refl _,⟨⟩⟩:ALe (.v (.g [ci 0,.d (DL ([(⟨(ByteArray.mk #[114,121,101]),0,0⟩:Crop)]:List Crop)),f0,.d (DL ([(⟨(1:Int),0,0,(9:Int),(⟨([(⟨(3:Int),0,(5:Int),(1:Int)⟩:Rect)]:List Rect)⟩:Re_)⟩:A2_)]:List A2_)),ci 0,ci 0])) (.v (.g [ci 0,.d (DL ([(⟨(ByteArray.mk #[114,121,101]),0,0⟩:Crop)]:List Crop)),.d (DL (α:=Rg_) []),.d (DL ([(⟨(1:Int),0,0,(9:Int),(⟨([(⟨(3:Int),0,(5:Int),(1:Int)⟩:Rect)]:List Rect)⟩:Re_)⟩:A2_)]:List A2_)),ci 0,ci 0]))))))) ?_))
 refine Y4 Fm [.w (.v (.g [ci (1:Int),ci 0,ci 0,.d (DL (α:=Term) [])])),.s,.w (AL [(⟨(10:Int),(1:Int)⟩:Bracket)]),.s,.s,.s] [1,2] [(3,pt 3)] [1,2] [(3,bx [ci 0,.d (.str (ByteArray.mk #[115])),ci (1:Int),ci 0,ci 0,.d (DL (α:=Term) []),.d (DL ([(⟨(10:Int),(1:Int)⟩:Bracket)]:List Bracket)),ci 0,ci 0,.d (.bool false)])] (cA (ALe.g ⟨CLe.refl _,CLe.refl _,CLe.refl _,CLe.fl .nil,⟨⟩⟩:ALe (.v (.g [ci (1:Int),ci 0,ci 0,f0])) (.v (.g [ci (1:Int),ci 0,ci 0,.d (DL (α:=Term) [])]))) (cT (Q8h (⟨(10:Int),(1:Int)⟩:Bracket)))) (AW.seq ?_);obtain ⟨i,l,h⟩:=bS h
 refine Q5 Fm (sA 5 (sZ 6 [.k _])) (k1 5) [] [(4,pt 4),(5,vi i.2)] [] [(4,bx (gC i.1))] ⟨Q2 (Q6W l) Tryz.call38 [],⟨⟩⟩ (Q6 (r:=r) (fun z:Bool=>Q8i F z) [] (fun z=>[(0,vb z)]) [] nn (fun o h=>?_) (fun n b=>?_))
 ·exact Z2 Fm h
 ·rcases Z6 h with ⟨a,h⟩|⟨a,h⟩
  ·obtain ⟨p,e,h⟩:=bS h
   rcases Z6 h with ⟨c,h⟩|⟨c,h⟩
   ·obtain ⟨j,m,h⟩:=bS h
    exact Q5 Fm [.s,.s,.w (vb true),.s,.s,.k _,.s,.s,.w (vb true),.s,.s,.k _,.s,.s,.s] (fun K=>_/\K 5/\_/\K 11/\True) [] [(0,vb (j==2))] [] [] ⟨ALe.bool a,Q2 (Z0l e) Tryz.call29 [],ALe.bool c,Q2 (Z0l m) Tryz.call29 [],⟨⟩⟩ (Kn.R Fm (b (j==2) h))
   ·exact Q5 Fm (sZ 6 [.s,.s,.w (vb true),.s,.s,.k _,.s,.s,.w (vb false)]) (fun K=>_/\K 5/\_/\True) [] [(0,vb false)] [] [] ⟨ALe.bool a,Q2 (Z0l e) Tryz.call29 [],ALe.bool c,⟨⟩⟩ (Kn.R Fm (b false h))
  ·exact Q1 Fm (sZ 12 [.s,.s,.w (vb false)]) [] [(0,vb false)] [] [] (cT (ALe.bool a)) (Kn.R Fm (b false h))
end
end
end Go.Ab
