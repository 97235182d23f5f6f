/- The code follows the plain programs. -/
import Derived.Test.YtgfmopdbhjcpfaaGreatSpB
import Derived.Test.YtgfmopdbhjcpfaaGreatBaA
import Derived.Test.YtgfmopdbhjcpfaaGreatAbC
set_option linter.unusedVariables false
set_option linter.unusedSimpArgs false
set_option maxRecDepth 100000
namespace Go.Ab
noncomputable section
section
open Go.Proofs
theorem Z2H {F A l r} (h:Q2c F A l=some r) :
  Q7 Tryz.prog 9 [AL A,.v (.c (.d (.int .u8 l)))] [] (vb r) []:=by
 refine FJ Tryz.func9 fun C Fm=>?_
 unfold Q2c at h;refine Q0 Fm 1 [0,1] [] [] [] (AW.seq ?_)
 obtain ⟨p0,c0,h⟩:=bS h;refine Q5 Fm [.s,.k _,.s] (k1 1) [1] [(5,pt 23)] [] [(23,bx (gC p0))] ⟨Q2 (Y1T c0) Tryz.call14 [(100,23)],⟨⟩⟩ (AW.seq ?_)
 obtain ⟨B,d0,h⟩:=bS h;refine Q5 Fm [.s,.k _,.s] (k1 1) [1,5] [(6,AL B.2)] [] [(23,bx (gC B.1))] ⟨Q2 (Z5i d0) Tryz.call32 [(0,23)],⟨⟩⟩ (AW.seq ?_)
 obtain ⟨b,e0,h⟩:=bS h;refine Q5 Fm (sZ 7 [.s,.s,.k _]) (k1 2) [1,5,6] [(7,AL b.2.1),(9,AL b.2.2.2)] [] [(23,bx (gC b.1))] ⟨Q2 (Z5f e0) Tryz.call33 [(0,23)],⟨⟩⟩ (AW.seq ?_)
 obtain ⟨n,i0,h⟩:=bS h;refine Q5 Fm [.s,.s,.k _,.s] (k1 2) [1,5,6,7] [(10,AL n)] [23] [] ⟨Q2 (Z7V i0) Tryz.call34 [],⟨⟩⟩ (AW.seq ?_)
 obtain ⟨i,j0,h⟩:=bS h;refine Q5 Fm [.s,.k _,.s] (k1 1) [1,5,6,7,10] [(11,ow 37)] [] [(23,bx (gC i.1)),(37,AO i.2)] ⟨Q2 (Z6Y j0) Tryz.call35 [(0,23),(100,37)],⟨⟩⟩ (AW.seq ?_)
 obtain ⟨a,k0,h⟩:=bS h;refine Q5 Fm [.s,.s,.k _,.s,.s] (k1 2) [1,7,10,11] [(12,pt 12)] [37] [(12,bx (gC a.2))] ⟨Q2 (Z5e k0) Tryz.call36 [(0,23)],⟨⟩⟩ (Q0 Fm 3 [1,7,10,11,12] [(13,pt 13)] [12,37] [(13,bx (gC a.2))] ?_)
 obtain ⟨V,W,h⟩:=gS2 h;refine Y4 Fm (sA 7 []) [7,10,11,12,13] [] [12,37] [(13,bx [ci a.2.y_,.d (DL a.2.crops_),.d (DL a.2.history_),.d (DL a.2.zones_),ci a.2.day_,ci (a.2.most_+l)])] (cA (cT V) (cT (cT W))) (Q6 (r:=r) (fun z:Unit=>Q4G F) [] nn [] nn (fun z h=>?_) (fun y0 O=>?_))
 ·refine AW.seq ?_
  obtain ⟨q0,o0,h⟩:=bS h;exact Q5 Fm [.k _,.s] (k1 0) [] [(4,vb q0)] [] [] ⟨Q2 (Z8R o0) Tryz.call41 [],⟨⟩⟩ (Z2 Fm h)
 ·refine Q0 Fm 3 [10,11,12,13] [(48,AL b.2.1),(49,vi (lI b.2.1)),(50,vi 0)] [12,13,37] [] (AW.block (Kn.w Fm [(10,AL n),(11,ow 37),(12,pt 12),(13,pt 13),(48,AL b.2.1),(49,vi (lI b.2.1)),(50,vi 0)] [(12,bx (gC a.2)),(13,bx [ci a.2.y_,.d (DL a.2.crops_),.d (DL a.2.history_),.d (DL a.2.zones_),ci a.2.day_,ci (a.2.most_+l)]),(37,AO i.2)] ?_))
  refine Z5 (E':=fun z=>[(10,AL n),(11,ow 37),(12,pt 12),(13,pt 13),(48,AL b.2.1),(49,vi (lI b.2.1)),(50,vi z)]) (S':=fun z=>[(12,bx (gC a.2)),(13,bx [ci a.2.y_,.d (DL a.2.crops_),.d (DL a.2.history_),.d (DL a.2.zones_),ci a.2.day_,ci (a.2.most_+l)]),(37,AO i.2)]) (fun H e s0 L h=>?_) h;refine Q0 Fm 1 [10,11,12,13,48,49,50] [(51,vb (decide (e<(lI b.2.1))))] [12,13,37] [] (AW.seq (Q3 h (fun P h=>?_) (fun P h=>?_)))
  ·refine AW.skip (Q6 (r:=r) (fun z:Unit=>Q4H F e H) [10,11,12,13,48,49,50] nn [12,13,37] nn (fun z h=>?_) (fun w0 N=>?_))
   ·obtain ⟨b0,h⟩:=gS h
    exact Q1 Fm [.s,.s] [10,11,12,13,48,49] [(50,vi (e+1))] [12,13,37] [] (cT (cT b0)) (Kn.R Fm (L (e+1) h))
   ·refine AW.block ?_
    obtain ⟨X,h⟩:=gS h;refine Y4 Fm (sA 6 []) [10,11,12,13,48,49,50] [(14,vi e),(15,pt 15)] [12,13,37] [(15,bx [ci ((gn b.2.1 e).p_),.d (DL (gn b.2.1 e).g_.t_),ci ((gn b.2.1 e).c_),ci ((gn b.2.1 e).s_)])] (cT X) (Q0 Fm 3 [10,11,12,13,14,15,48,49,50] [(55,ow 37),(56,vi (lI i.2)),(57,vi 0)] [12,13,15,37] [] (AW.block (Kn.w Fm [(10,AL n),(11,ow 37),(12,pt 12),(13,pt 13),(14,vi e),(15,pt 15),(48,AL b.2.1),(49,vi (lI b.2.1)),(50,vi e),(55,ow 37),(56,vi (lI i.2)),(57,vi 0)] [(12,bx (gC a.2)),(13,bx [ci a.2.y_,.d (DL a.2.crops_),.d (DL a.2.history_),.d (DL a.2.zones_),ci a.2.day_,ci (a.2.most_+l)]),(15,bx [ci ((gn b.2.1 e).p_),.d (DL (gn b.2.1 e).g_.t_),ci ((gn b.2.1 e).c_),ci ((gn b.2.1 e).s_)]),(37,AO i.2)] ?_)))
    refine Z5 (E':=fun z=>[(10,AL n),(11,ow 37),(12,pt 12),(13,pt 13),(14,vi e),(15,pt 15),(48,AL b.2.1),(49,vi (lI b.2.1)),(50,vi e),(55,ow 37),(56,vi (lI i.2)),(57,vi z)]) (S':=fun z=>[(12,bx (gC a.2)),(13,bx [ci a.2.y_,.d (DL a.2.crops_),.d (DL a.2.history_),.d (DL a.2.zones_),ci a.2.day_,ci (a.2.most_+l)]),(15,bx [ci ((gn b.2.1 e).p_),.d (DL (gn b.2.1 e).g_.t_),ci ((gn b.2.1 e).c_),ci ((gn b.2.1 e).s_)]),(37,AO i.2)]) (fun I j t0 M h=>?_) h;refine Q0 Fm 1 [10,11,12,13,14,15,48,49,50,55,56,57] [(58,vb (decide (j<(lI i.2))))] [12,13,15,37] [] (AW.seq (Q3 h (fun T h=>?_) (fun T h=>?_)))
    ·refine AW.skip (AW.seq (AW.block ?_))
     obtain ⟨u,h⟩:=gS h;refine Y4 Fm (sA 4 []) [10,11,12,13,14,15,48,49,50,55,56,57] [(17,pt 17)] [12,13,15,37] [(17,bx [ci ((gn i.2 j).N_),.d (.str (gn i.2 j).n_),ci ((gn i.2 j).cond_.op_),ci ((gn i.2 j).cond_.num_),ci ((gn i.2 j).cond_.more_),.d (DL (gn i.2 j).cond_.kids_),.d (DL (gn i.2 j).brackets_),ci ((gn i.2 j).least_),ci ((gn i.2 j).excludes_),.d (.bool (gn i.2 j).needs_)])] (cA u (cT (Y6 u))) (AW.seq ?_)
     obtain ⟨Y,h⟩:=gS h;obtain ⟨D,l0,h⟩:=bS h
     refine Q5 Fm (sA 7 (sZ 6 [.k _])) (fun K=>_/\K 7/\True) [10,11,12,13,14,15,17,48,49,50,55,56,57] [(18,pt 18),(19,vi D.2)] [12,13,15,17,37] [(18,bx (gC D.1))] ⟨Y,Q2 (Q6W l0) Tryz.call38 [],⟨⟩⟩ (AW.seq ?_);obtain ⟨Z,h⟩:=gS h
     obtain ⟨E,m0,h⟩:=bS h;refine Q5 Fm (sA 7 (sZ 6 [.k _])) (fun K=>_/\K 7/\True) [10,11,12,13,14,15,18,19,48,49,50,55,56,57] [(20,pt 20),(21,vi E.2)] [12,13,15,18,37] [(20,bx (gC E.1))] ⟨Z,Q2 (Q6W m0) Tryz.call38 [],⟨⟩⟩ (Q6 (r:=r) (fun z:Bool=>K9 F j I z) [10,11,12,13,14,15,48,49,50,55,56,57] (fun z=>[(104,vb z)]) [12,13,15,37] nn (fun A0 h=>?_) (fun u0 o=>?_))
     ·refine Q3 h (fun U h=>?_) (fun U h=>?_)
      ·exact Q0 Fm 1 [] [(4,vb false)] [] [] (Z2 Fm h)
      ·refine AW.skip ?_
       obtain ⟨a0,h⟩:=gS h;exact Q1 Fm [.s,.s] [10,11,12,13,14,15,48,49,50,55,56] [(57,vi (j+1))] [12,13,15,37] [] (cT (cT a0)) (Kn.R Fm (M (j+1) h))
     ·rcases Z6 h with ⟨m,h⟩|⟨m,h⟩
      ·exact Q1 Fm (sZ 19 [.s,.s,.w (vb true)]) [10,11,12,13,14,15,48,49,50,55,56,57] [(104,vb true)] [12,13,15,37] [] (cT (ALe.bool m)) (Kn.R Fm (o true h))
      ·rcases Z6 h with ⟨p,h⟩|⟨p,h⟩
       ·exact Q1 Fm (sZ 15 [.s,.s,.w (vb false),.s,.s,.s,.w (vb true)]) [10,11,12,13,14,15,48,49,50,55,56,57] [(104,vb true)] [12,13,15,37] [] (cA (ALe.bool m) (cT (ALe.bool p))) (Kn.R Fm (o true h))
       ·obtain ⟨B0,y,h⟩:=bS h
        rcases Z6 h with ⟨t,h⟩|⟨t,h⟩
        ·exact Q5 Fm (sZ 7 [.s,.s,.w (vb false),.s,.s,.s,.w (vb false),.s,.s,.s,.s,.k _,.s,.s,.w (vb true)]) (fun K=>_/\_/\K 11/\_/\True) [10,11,12,13,14,15,48,49,50,55,56,57] [(104,vb true)] [12,13,15,37] [] ⟨ALe.bool m,ALe.bool p,Q2 (Q8a y) Tryz.call40 [],ALe.bool t,⟨⟩⟩ (Kn.R Fm (o true h))
        ·obtain ⟨G,n0,h⟩:=bS h
         exact Q5 Fm [.s,.s,.w (vb false),.s,.s,.s,.w (vb false),.s,.s,.s,.s,.k _,.s,.s,.w (vb false),.s,.s,.s,.s,.k _,.s,.s] (fun K=>_/\_/\K 11/\_/\K 19/\True) [10,11,12,13,14,15,48,49,50,55,56,57] [(104,vb (!G))] [12,13,15,37] [] ⟨ALe.bool m,ALe.bool p,Q2 (Q8a y) Tryz.call40 [],ALe.bool t,Q2 (Q8a n0) Tryz.call40 [],⟨⟩⟩ (Kn.R Fm (o (!G) h))
    ·exact AW.exit (Kn.R Fm (N () h))
  ·exact AW.exit (Kn.R Fm (O () h))
end
end
end Go.Ab
