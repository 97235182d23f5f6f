/- The code follows the plain programs. -/
import Derived.Test.YtdfbifjpedjljaaGreatAbF
import Derived.Test.YtdfbifjpedjljaaGreatPuB
set_option linter.unusedVariables false
set_option linter.unusedSimpArgs false
section
namespace Go.Ab
open Go.Proofs
set_option maxRecDepth 100000
theorem Z3Y {F:Nat} {b:Tape} {a:Int} {r:Tape×Bool} (h:Q5q F b a=some r) :
  Z6 Tryz.prog 24 [pt 0,vi a] [(0,bx (gC b))] (vb r.2) [(0,bx (gC r.1))]:=by
 refine FI Tryz.func24 Q2 Q4 fun C Fm=>?_
 unfold Q5q at h;refine Q0 Fm 1 [0,1] [] [0] [] ?_
 refine AW.seq ?_;obtain ⟨c,e,h⟩:=bS h
 obtain ⟨d,h⟩:=gS h;refine Q9 Fm [.s,.s,.k _,.s,.s,.s,.s] (fun K=>K 2∧(_∧True)∧True) [] [(4,vb (c.2==(a-1)))] [] [(0,bx (gC c.1))] ⟨Q3 (Y3 e) Tryz.call15 [(0,0)],⟨d,⟨⟩⟩,⟨⟩⟩ ?_
 refine AW.ret ?_;obtain rfl:=Option.some.inj h
 exact Kn.D Fm
theorem Z1N {F:Nat} {N:Tape} {O:Int} {P:Int} {r:Tape×Re_} (h:Q2A F N O P=some r) :
  Z6 Tryz.prog 26 [pt 0,vi O,vi P] [(0,bx (gC N))] (.v (.g [.d (DL r.2.t_)])) [(0,bx (gC r.1))]:=by
 refine FI Tryz.func26 Q2 Q4 fun C Fm=>?_
 unfold Q2A at h;refine Q0 Fm 1 [0,1,2] [(6,pt 6)] [0] [(6,bx [.fl 0 fun _=>[]])] ?_
 refine AW.seq ?_;obtain ⟨a,b0,h⟩:=bS h
 refine Q9 Fm [.s,.s,.s,.k _,.s,.s] (fun K=>K 3∧True) [0,6] [(7,pt 7)] [6] [(0,bx (gC a.1)),(7,bx [.d (DL a.2.t_)])] ⟨Q3 (Q7c b0) Tryz.call16 [(0,0)],⟨⟩⟩ ?_;refine AW.seq (Z2 (r:=r) (fun z:Bool×(List Int)×Int=>Q0U F a z.1 z.2.1 z.2.2) [0,6,7] (fun z=>[(22,vb z.1)]) [6,7] (fun z=>[(0,bx [.d (DL z.2.1),ci z.2.2])]) (fun z h=>?_) (fun i0 y=>?_))
 ·obtain ⟨k0,l0,m0⟩:=z
  refine Q5 h (fun T h=>?_) (fun T h=>?_)
  ·refine Q0 Fm 2 [6] [] [0] [(6,bx [.d (DL a.2.t_)])] ?_
   refine AW.ret ?_;obtain rfl:=Option.some.inj h
   exact Kn.D Fm
  ·refine AW.skip ?_
   obtain ⟨Y,h⟩:=gS h;refine Z5F Fm [.m,.s,.s,.s,.s] [0,6] [(8,ow 27)] [0,6] [(27,AO (([]:List Rect)++a.2.t_))] (cT (cA Y (cT (lfl a.2.t_)))) [(27,rA0 a.2.t_)] ⟨oA0,⟨⟩⟩ ?_
   refine AW.seq ?_;obtain ⟨b,d0,h⟩:=bS h
   refine Q9 Fm [.s,.s,.s,.k _,.s] (fun K=>K 3∧True) [0,6,8] [(9,vi b.2)] [6,27] [(0,bx (gC b.1))] ⟨Q3 (Y3 d0) Tryz.call15 [(0,0)],⟨⟩⟩ ?_;refine Z2 (r:=r) (fun z:(List Rect)×(List Int)×Int=>Q0j F z.1 z.2.1 z.2.2) [6,8] (fun _=>[]) [6] (fun z=>[(0,bx [.d (DL z.2.1),ci z.2.2]),(27,AO z.1)]) (fun z h=>?_) (fun j0 i=>?_)
   ·obtain ⟨I,L,M⟩:=z
    refine Q0 Fm 3 [6] [] [0,27] [(6,bx [.own 27])] ?_;refine AW.ret ?_
    obtain rfl:=Option.some.inj h;refine W6 Fm [(6,pt 6)] [(27,AO I),(0,bx [.d (DL L),ci M]),(6,bx [.own 27])] (by kernel_rfl) ?_
    refine Kn.frz [(6,pt 6)] [(0,bx [.d (DL L),ci M]),(6,bx [.d (DL I)])] (by kernel_rfl) (by kernel_rfl) (by kernel_rfl) ?_;exact Kn.D Fm
   ·refine AW.seq ?_
    obtain ⟨e,e0,h⟩:=bS h;refine Q9 Fm [.s,.k _] (fun K=>K 1∧True) [6,8,9] [(33,vi e.2)] [6,27] [(0,bx (gC e.1))] ⟨Q3 (Y3 e0) Tryz.call15 [(0,0)],⟨⟩⟩ ?_
    refine AW.block (Q0 Fm 2 [6,8,9,33] [(43,vb (e.2==(0:Int)))] [0,6,27] [] ?_);refine Q5 h (fun U h=>?_) (fun U h=>?_)
    ·obtain ⟨A,Z,o,h⟩:=gS3 h
     refine Q0I Fm (sA 9 []) [6,8] [] [0,6] [(27,AO (List.set (([]:List Rect)++a.2.t_) b.2.toNat (⟨(gl (([]:List Rect)++a.2.t_) b.2.toNat).L_,(gl (([]:List Rect)++a.2.t_) b.2.toNat).w_,(((gl (([]:List Rect)++a.2.t_) b.2.toNat).R_)+1),(gl (([]:List Rect)++a.2.t_) b.2.toNat).H_⟩:Rect)))] (cA A (cA (Z7 A) (cA (cT Z) (cA o (cT (Z7 o)))))) [(27,rSt (([]:List Rect)++a.2.t_) b.2.toNat 2 [.int .i64 (((gl (([]:List Rect)++a.2.t_) b.2.toNat).R_)+1)])] ⟨oSt (Z7 o),⟨⟩⟩ ?_;exact Kn.R Fm (i ((List.set (([]:List Rect)++a.2.t_) b.2.toNat (⟨(gl (([]:List Rect)++a.2.t_) b.2.toNat).L_,(gl (([]:List Rect)++a.2.t_) b.2.toNat).w_,(((gl (([]:List Rect)++a.2.t_) b.2.toNat).R_)+1),(gl (([]:List Rect)++a.2.t_) b.2.toNat).H_⟩:Rect)),e.1.l_,e.1.at_) h)
    ·refine Q0 Fm 2 [6,8,9,33] [(53,vb (e.2==(1:Int)))] [0,6,27] [] ?_
     refine Q5 h (fun V h=>?_) (fun V h=>?_)
     ·obtain ⟨p,h⟩:=gS h
      refine Q0I Fm (sA 5 []) [6,8] [] [0,6] [(27,AO (List.set (([]:List Rect)++a.2.t_) b.2.toNat (⟨(-1:Int),(gl (([]:List Rect)++a.2.t_) b.2.toNat).w_,(gl (([]:List Rect)++a.2.t_) b.2.toNat).R_,(gl (([]:List Rect)++a.2.t_) b.2.toNat).H_⟩:Rect)))] (cA p (cT (Z7 p))) [(27,rSt (([]:List Rect)++a.2.t_) b.2.toNat 0 [.int .i64 (-1:Int)])] ⟨oSt (Z7 p),⟨⟩⟩ ?_;exact Kn.R Fm (i ((List.set (([]:List Rect)++a.2.t_) b.2.toNat (⟨(-1:Int),(gl (([]:List Rect)++a.2.t_) b.2.toNat).w_,(gl (([]:List Rect)++a.2.t_) b.2.toNat).R_,(gl (([]:List Rect)++a.2.t_) b.2.toNat).H_⟩:Rect)),e.1.l_,e.1.at_) h)
     ·refine Q0 Fm 2 [6,8,9,33] [(59,vb (e.2==(2:Int)))] [0,6,27] [] ?_
      refine Q5 h (fun W h=>?_) (fun W h=>?_)
      ·obtain ⟨B,a0,h⟩:=gS2 h
       refine Q0I Fm (sA 5 [.w (AL [(gl (([]:List Rect)++a.2.t_) b.2.toNat)]),.s,.s]) [6] [(8,ow 67)] [0,6] [(67,AO ((([]:List Rect)++a.2.t_)++([(gl (([]:List Rect)++a.2.t_) b.2.toNat)]:List Rect)))] (cA B (cA (Z7 B) (cA (Z0I (gl (([]:List Rect)++a.2.t_) b.2.toNat)) (cT (cA a0 (cT (lfl ([(gl (([]:List Rect)++a.2.t_) b.2.toNat)]:List Rect)))))))) [(67,rAp (([]:List Rect)++a.2.t_) ([(gl (([]:List Rect)++a.2.t_) b.2.toNat)]:List Rect))] ⟨oAp,⟨⟩⟩ ?_;exact Q1f Fm [(27,67)] (i (((([]:List Rect)++a.2.t_)++([(gl (([]:List Rect)++a.2.t_) b.2.toNat)]:List Rect)),e.1.l_,e.1.at_) h)
      ·refine Q0 Fm 2 [6,8,9] [(68,vb (e.2==(3:Int)))] [0,6,27] [] ?_
       refine Q5 h (fun X h=>?_) (fun X h=>?_)
       ·obtain ⟨E,G,q,t,h⟩:=gS4 h
        refine Z0e Fm (sA 11 [.k (rE { v:=.any,upd:=some (27,AO (List.set (([]:List Rect)++a.2.t_) (0:Int).toNat (gl (([]:List Rect)++a.2.t_) b.2.toNat))) }),.s,.s]) (fun K=>_∧_∧_∧_∧_∧K 11∧_∧_∧True) [6,8] [] [0,6] [(27,AO (List.set (List.set (([]:List Rect)++a.2.t_) (0:Int).toNat (gl (([]:List Rect)++a.2.t_) b.2.toNat)) b.2.toNat (gl (([]:List Rect)++a.2.t_) (0:Int).toNat)))] ⟨E,(Z7 E),G,(Z7 G),q,KAt.upd Q4 (ob:=.arr 4 (List.length (([]:List Rect)++a.2.t_)) (fun j=>if j=(0:Int).toNat then Q2J ((LF (([]:List Rect)++a.2.t_)) (0:Int).toNat) 0 [.int .i64 (gl (([]:List Rect)++a.2.t_) b.2.toNat).L_,.int .i64 (gl (([]:List Rect)++a.2.t_) b.2.toNat).w_,.int .i64 (gl (([]:List Rect)++a.2.t_) b.2.toNat).R_,.int .i64 (gl (([]:List Rect)++a.2.t_) b.2.toNat).H_] else (LF (([]:List Rect)++a.2.t_)) j)) (c:=(0:Int).toNat<List.length (([]:List Rect)++a.2.t_)) rfl (by kernel_rfl) (by kernel_rfl) (Z7 q) (OLe.is (Is.set (Is.refl (([]:List Rect)++a.2.t_)) (Z7 q) (gl (([]:List Rect)++a.2.t_) b.2.toNat) (by kernel_rfl))),t,(Z7 t),⟨⟩⟩ [(27,rSt (List.set (([]:List Rect)++a.2.t_) (0:Int).toNat (gl (([]:List Rect)++a.2.t_) b.2.toNat)) b.2.toNat 0 [.int .i64 (gl (([]:List Rect)++a.2.t_) (0:Int).toNat).L_,.int .i64 (gl (([]:List Rect)++a.2.t_) (0:Int).toNat).w_,.int .i64 (gl (([]:List Rect)++a.2.t_) (0:Int).toNat).R_,.int .i64 (gl (([]:List Rect)++a.2.t_) (0:Int).toNat).H_])] ⟨oSt (Z7 t),⟨⟩⟩ ?_;exact Kn.R Fm (i ((List.set (List.set (([]:List Rect)++a.2.t_) (0:Int).toNat (gl (([]:List Rect)++a.2.t_) b.2.toNat)) b.2.toNat (gl (([]:List Rect)++a.2.t_) (0:Int).toNat)),e.1.l_,e.1.at_) h)
       ·obtain ⟨H,u,h⟩:=gS2 h
        refine Q0I Fm (sA 10 []) [6,8] [] [0,6] [(27,AO (List.set (([]:List Rect)++a.2.t_) b.2.toNat (⟨(gl (([]:List Rect)++a.2.t_) b.2.toNat).L_,(gl (([]:List Rect)++a.2.t_) b.2.toNat).w_,(gl (([]:List Rect)++a.2.t_) b.2.toNat).R_,(gl (([]:List Rect)++a.2.t_) b.2.toNat).w_⟩:Rect)))] (cA H (cA (Z7 H) (cA u (cT (Z7 u))))) [(27,rSt (([]:List Rect)++a.2.t_) b.2.toNat 3 [.int .i64 (gl (([]:List Rect)++a.2.t_) b.2.toNat).w_])] ⟨oSt (Z7 u),⟨⟩⟩ ?_;exact Kn.R Fm (i ((List.set (([]:List Rect)++a.2.t_) b.2.toNat (⟨(gl (([]:List Rect)++a.2.t_) b.2.toNat).L_,(gl (([]:List Rect)++a.2.t_) b.2.toNat).w_,(gl (([]:List Rect)++a.2.t_) b.2.toNat).R_,(gl (([]:List Rect)++a.2.t_) b.2.toNat).w_⟩:Rect)),e.1.l_,e.1.at_) h)
 ·rcases Y7 h with ⟨n,h⟩|⟨n,h⟩
  ·refine Q1 Fm (sA 4 [.w (vb true),.s,.s,.s,.s]) [0,6,7] [(22,vb true)] [0,6,7] [] (cT (ALe.bool n)) ?_
   exact Kn.R Fm (y (true,a.1.l_,a.1.at_) h)
  ·obtain ⟨l,c0,h⟩:=bS h
   refine Q9 Fm (sA 4 [.w (vb false),.s,.k _,.s,.s]) (fun K=>_∧K 6∧True) [0,6,7] [(22,vb (!l.2))] [6,7] [(0,bx (gC l.1))] ⟨ALe.bool n,Q3 (Z3Y c0) Tryz.call24 [(0,0)],⟨⟩⟩ ?_;exact Kn.R Fm (y ((!l.2),l.1.l_,l.1.at_) h)
theorem Z1z {F:Nat} {a:Re_} {b:Re_} {r:Bool} (h:Q9c F a b=some r) :
  Z6 Tryz.prog 34 [.v (.g [.d (DL a.t_)]),.v (.g [.d (DL b.t_)])] [] (vb r) []:=by
 refine FI Tryz.func34 Q2 Q4 fun C Fm=>?_
 unfold Q9c at h;refine Q0 Fm 3 [] [(2,pt 2),(3,pt 3)] [] [(2,bx [.d (DL a.t_)]),(3,bx [.d (DL b.t_)])] ?_
 refine AW.seq ?_;obtain ⟨e,c,h⟩:=bS h
 refine Q9 Fm (sA 4 [.k _,.s]) (fun K=>K 4∧True) [] [(4,vb e)] [] [] ⟨Q3 (Z0y c) Tryz.call120 [],⟨⟩⟩ ?_;refine AW.ret ?_
 obtain rfl:=Option.some.inj h;exact Kn.D Fm
theorem Z3R {F:Nat} {a:(List Rg_)} {e:(List Crop)} {p:Int} {j:Int} {i:Int} {r:(List Rect)} (h:Q3n F a e p j i=some r) :
  Z6 Tryz.prog 119 [AL a,AL e,vi p,vi j,vi i] [] (AL r) []:=by
 refine FI Tryz.func119 Q2 Q4 fun C Fm=>?_
 unfold Q3n at h;refine Q0 Fm 1 [0,1,2,3,4] [] [] [] ?_
 refine G9 Fm [.m] (fun K=>True) [0,1,2,3,4] [(11,ow 11)] [] [(11,AO ([]:List Rect))] True.intro [(11,.arr 4 (0) (fun _=>[]))] ⟨OLe.is ((Is.nil (α:=Rect))),⟨⟩⟩ ?_;refine Z2 (r:=r) (fun z:(List Rect)=>Q7k F z) [] (fun z=>[(11,AL z)]) [] (fun _=>[]) (fun W h=>?_) (fun a0 I=>?_)
 ·refine Q0 Fm 2 [] [(10,AL W)] [] [] ?_
  refine AW.ret ?_;obtain rfl:=Option.some.inj h
  exact Kn.D Fm
 ·refine Q0 Fm 3 [1,2,3,4,11] [(14,AL a),(15,vi (lI a)),(16,vi 0)] [11] [] ?_
  refine AW.block (W6 Fm [(1,AL e),(2,vi p),(3,vi j),(4,vi i),(11,ow 11),(14,AL a),(15,vi (lI a)),(16,vi 0)] [(11,AO ([]:List Rect))] (by kernel_rfl) ?_);refine Kn.frz [(1,AL e),(2,vi p),(3,vi j),(4,vi i),(11,AL ([]:List Rect)),(14,AL a),(15,vi (lI a)),(16,vi 0)] [] (by kernel_rfl) (by kernel_rfl) (by kernel_rfl) ?_
  refine W6 Fm [(1,AL e),(2,vi p),(3,vi j),(4,vi i),(11,AL ([]:List Rect)),(14,AL a),(15,vi (lI a)),(16,vi 0)] [] (by kernel_rfl) ?_;refine Z3 (E':=fun z=>[(1,AL e),(2,vi p),(3,vi j),(4,vi i),(11,AL z.1),(14,AL a),(15,vi (lI a)),(16,vi z.2)]) (S':=fun z=>[]) (fun B z X H h=>?_) h
  obtain ⟨A,b⟩:=z;refine Q0 Fm 1 [1,2,3,4,11,14,15,16] [(17,vb (decide (b<(lI a))))] [] [] ?_
  refine AW.seq (Q5 h (fun L h=>?_) (fun L h=>?_))
  ·refine AW.skip (Z2 (r:=r) (fun z:(List Rect)=>Q2u F b B z) [1,2,3,4,14,15,16] (fun z=>[(11,AL z)]) [] (fun _=>[]) (fun V h=>?_) (fun Z E=>?_))
   ·obtain ⟨T,h⟩:=gS h
    refine Q1 Fm [.s,.s] [1,2,3,4,11,14,15] [(16,vi (b+1))] [] [] (cT (cT T)) ?_;exact Kn.R Fm (H (V,(b+1)) h)
   ·refine AW.block ?_
    obtain ⟨N,h⟩:=gS h;refine Y6 Fm (sA 4 []) [1,2,3,4,11,14,15,16] [(13,pt 13)] [] [(13,bx [ci ((gl a b.toNat).y_),ci ((gl a b.toNat).c_),.d (DL (gl a b.toNat).g_.t_)])] (cT N) ?_
    refine Z2 (r:=r) (fun z:Bool=>G5 F a A b B z) [1,2,3,4,11,13,14,15,16] (fun z=>[(53,vb z)]) [13] (fun _=>[]) (fun b0 h=>?_) (fun Y n=>?_)
    ·refine Q5 h (fun M h=>?_) (fun M h=>?_)
     ·obtain ⟨G,U,h⟩:=bS h
      refine Q9 Fm (sA 4 [.k _,.s]) (fun K=>K 4∧True) [1,2,3,4,14,15,16] [(11,AL G)] [] [] ⟨Q3 (U2 U) Tryz.call112 [],⟨⟩⟩ ?_;exact Kn.R Fm (E G h)
     ·exact AW.skip (Kn.R Fm (E A h))
    ·rcases Y7 h with ⟨l,h⟩|⟨l,h⟩
     ·rcases Y7 h with ⟨o,h⟩|⟨o,h⟩
      ·rcases Y7 h with ⟨t,h⟩|⟨t,h⟩
       ·refine Q1 Fm ((sA 4 (sZ 6 [.w (vb true),.s,.s,.w (vb true),.s,.s,.s,.s,.s,.s,.s,.s,.s,.s,.s,.s,.s,.w (vb true)]))++(sA 6 [])) [1,2,3,4,11,13,14,15,16] [(25,vi j),(26,vb (decide (j<0))),(27,vb true),(36,vb true),(39,vi i),(40,vb (i==0)),(41,vb true),(52,vb true),(53,vb true)] [13] [] (cA (ALe.bool l) (cA (ALe.bool o) (cT (ALe.bool t)))) ?_
        exact Kn.R Fm (n true h)
       ·obtain ⟨O,h⟩:=gS h
        refine Q1 Fm ((sA 4 (sZ 6 [.w (vb true),.s,.s,.w (vb true),.s,.s,.s,.s,.s,.s,.s,.s,.s,.s,.s,.s,.s,.w (vb false)]))++(sA 6 [])) [1,2,3,4,11,13,14,15,16] [(25,vi j),(26,vb (decide (j<0))),(27,vb true),(36,vb true),(39,vi i),(40,vb (i==0)),(41,vb false),(42,AL e),(43,.v (.c (.ptr 13 1))),(44,vi (gl a b.toNat).c_),(45,.v (.c (.elm [.str (gl e ((gl a b.toNat).c_).toNat).n_,.int .i64 (gl e ((gl a b.toNat).c_).toNat).f_,.int .i64 (gl e ((gl a b.toNat).c_).toNat).m_]))),(46,.v (.c (.elm [.int .i64 (gl e ((gl a b.toNat).c_).toNat).m_]))),(47,vi (gl e ((gl a b.toNat).c_).toNat).m_),(48,vi i),(49,vi (Q6O .i64 ((gl e ((gl a b.toNat).c_).toNat).m_) i)),(50,vi i),(51,vb ((Q6O .i64 ((gl e ((gl a b.toNat).c_).toNat).m_) i)==i)),(52,vb ((Q6O .i64 ((gl e ((gl a b.toNat).c_).toNat).m_) i)==i)),(53,vb ((Q6O .i64 ((gl e ((gl a b.toNat).c_).toNat).m_) i)==i))] [13] [] (cA (ALe.bool l) (cA (ALe.bool o) (cA (ALe.bool t) (cT O)))) ?_;exact Kn.R Fm (n ((Q6O .i64 ((gl e ((gl a b.toNat).c_).toNat).m_) i)==i) h)
      ·obtain ⟨y,h⟩:=gS h
       rcases Y7 h with ⟨q,h⟩|⟨q,h⟩
       ·rcases Y7 h with ⟨u,h⟩|⟨u,h⟩
        ·refine Q1 Fm ((sA 4 (sZ 6 [.w (vb true),.s,.s,.w (vb false),.s,.s,.s,.s,.s,.s,.s,.s,.s,.s,.w (vb true),.s,.s,.w (vb true)]))++(sA 6 [])) [1,2,3,4,11,13,14,15,16] [(25,vi j),(26,vb (decide (j<0))),(27,vb false),(28,AL e),(29,.v (.c (.ptr 13 1))),(30,vi (gl a b.toNat).c_),(31,.v (.c (.elm [.str (gl e ((gl a b.toNat).c_).toNat).n_,.int .i64 (gl e ((gl a b.toNat).c_).toNat).f_,.int .i64 (gl e ((gl a b.toNat).c_).toNat).m_]))),(32,.v (.c (.elm [.int .i64 (gl e ((gl a b.toNat).c_).toNat).f_,.int .i64 (gl e ((gl a b.toNat).c_).toNat).m_]))),(33,vi (gl e ((gl a b.toNat).c_).toNat).f_),(34,vi j),(35,vb (((gl e ((gl a b.toNat).c_).toNat).f_)==j)),(36,vb (((gl e ((gl a b.toNat).c_).toNat).f_)==j)),(39,vi i),(40,vb (i==0)),(41,vb true),(52,vb true),(53,vb true)] [13] [] (cA (ALe.bool l) (cA (ALe.bool o) (cA y (cA (ALe.bool q) (cT (ALe.bool u)))))) ?_
         exact Kn.R Fm (n true h)
        ·obtain ⟨P,h⟩:=gS h
         refine Q1 Fm ((sA 4 (sZ 6 [.w (vb true),.s,.s,.w (vb false),.s,.s,.s,.s,.s,.s,.s,.s,.s,.s,.w (vb true),.s,.s,.w (vb false)]))++(sA 6 [])) [1,2,3,4,11,13,14,15,16] [(25,vi j),(26,vb (decide (j<0))),(27,vb false),(28,AL e),(29,.v (.c (.ptr 13 1))),(30,vi (gl a b.toNat).c_),(31,.v (.c (.elm [.str (gl e ((gl a b.toNat).c_).toNat).n_,.int .i64 (gl e ((gl a b.toNat).c_).toNat).f_,.int .i64 (gl e ((gl a b.toNat).c_).toNat).m_]))),(32,.v (.c (.elm [.int .i64 (gl e ((gl a b.toNat).c_).toNat).f_,.int .i64 (gl e ((gl a b.toNat).c_).toNat).m_]))),(33,vi (gl e ((gl a b.toNat).c_).toNat).f_),(34,vi j),(35,vb (((gl e ((gl a b.toNat).c_).toNat).f_)==j)),(36,vb (((gl e ((gl a b.toNat).c_).toNat).f_)==j)),(39,vi i),(40,vb (i==0)),(41,vb false),(42,AL e),(43,.v (.c (.ptr 13 1))),(44,vi (gl a b.toNat).c_),(45,.v (.c (.elm [.str (gl e ((gl a b.toNat).c_).toNat).n_,.int .i64 (gl e ((gl a b.toNat).c_).toNat).f_,.int .i64 (gl e ((gl a b.toNat).c_).toNat).m_]))),(46,.v (.c (.elm [.int .i64 (gl e ((gl a b.toNat).c_).toNat).m_]))),(47,vi (gl e ((gl a b.toNat).c_).toNat).m_),(48,vi i),(49,vi (Q6O .i64 ((gl e ((gl a b.toNat).c_).toNat).m_) i)),(50,vi i),(51,vb ((Q6O .i64 ((gl e ((gl a b.toNat).c_).toNat).m_) i)==i)),(52,vb ((Q6O .i64 ((gl e ((gl a b.toNat).c_).toNat).m_) i)==i)),(53,vb ((Q6O .i64 ((gl e ((gl a b.toNat).c_).toNat).m_) i)==i))] [13] [] (cA (ALe.bool l) (cA (ALe.bool o) (cA y (cA (ALe.bool q) (cA (ALe.bool u) (cT P)))))) ?_;exact Kn.R Fm (n ((Q6O .i64 ((gl e ((gl a b.toNat).c_).toNat).m_) i)==i) h)
       ·refine Q1 Fm ((sA 4 (sZ 9 [.w (vb true),.s,.s,.w (vb false),.s,.s,.s,.s,.s,.s,.s,.s,.s,.s,.w (vb false)]))++(sA 6 [])) [1,2,3,4,11,13,14,15,16] [(25,vi j),(26,vb (decide (j<0))),(27,vb false),(28,AL e),(29,.v (.c (.ptr 13 1))),(30,vi (gl a b.toNat).c_),(31,.v (.c (.elm [.str (gl e ((gl a b.toNat).c_).toNat).n_,.int .i64 (gl e ((gl a b.toNat).c_).toNat).f_,.int .i64 (gl e ((gl a b.toNat).c_).toNat).m_]))),(32,.v (.c (.elm [.int .i64 (gl e ((gl a b.toNat).c_).toNat).f_,.int .i64 (gl e ((gl a b.toNat).c_).toNat).m_]))),(33,vi (gl e ((gl a b.toNat).c_).toNat).f_),(34,vi j),(35,vb (((gl e ((gl a b.toNat).c_).toNat).f_)==j)),(36,vb (((gl e ((gl a b.toNat).c_).toNat).f_)==j)),(53,vb false)] [13] [] (cA (ALe.bool l) (cA (ALe.bool o) (cA y (cT (ALe.bool q))))) ?_
        exact Kn.R Fm (n false h)
     ·refine Q1 Fm ((sA 4 (sZ 23 [.w (vb false)]))++(sA 6 [])) [1,2,3,4,11,13,14,15,16] [(53,vb false)] [13] [] (cT (ALe.bool l)) ?_
      exact Kn.R Fm (n false h)
  ·exact AW.exit (Kn.R Fm (I A h))
theorem Z6f {F:Nat} {b:ByteArray} {r:Bool} (h:Q9h F b=some r) :
  Z6 Tryz.prog 293 [.v (.c (.d (.str b)))] [] (vb r) []:=by
 refine FI Tryz.func293 Q2 Q4 fun C Fm=>?_
 unfold Q9h at h;refine Q0 Fm 1 [0] [] [] [] ?_
 refine AW.seq (Z2 (r:=r) (fun z:Bool=>Q1b F b z) [0] (fun z=>[(21,vb z)]) [] (fun _=>[]) (fun b0 h=>?_) (fun X o=>?_))
 ·refine Q5 h (fun N h=>?_) (fun N h=>?_)
  ·refine Q0 Fm 1 [] [(2,vb false)] [] [] ?_
   refine AW.ret ?_;obtain rfl:=Option.some.inj h
   exact Kn.D Fm
  ·refine AW.skip (Z2 (r:=r) (fun z:Unit=>Z3A F) [] (fun _=>[]) [] (fun _=>[]) (fun z h=>?_) (fun a0 M=>?_))
   ·refine Q0 Fm 1 [] [(2,vb true)] [] [] ?_
    refine AW.ret ?_;obtain rfl:=Option.some.inj h
    exact Kn.D Fm
   ·refine Q0 Fm 1 [0] [(3,vi 0)] [] [] ?_
    refine AW.block (W6 Fm [(0,.v (.c (.d (.str b)))),(3,vi 0)] [] (by kernel_rfl) ?_);refine Z3 (E':=fun z=>[(0,.v (.c (.d (.str b)))),(3,vi z)]) (S':=fun z=>[]) (fun I e Y L h=>?_) h
    refine AW.seq (Q0 Fm 4 [0,3] [(25,vb (decide (e<((b.size:Nat):Int))))] [] [] ?_);refine Q5 h (fun O h=>?_) (fun O h=>?_)
    ·refine AW.skip (AW.seq (AW.block (Z2 (r:=r) (fun z:Bool=>G3 F e I z) [0,3] (fun z=>[(49,vb z)]) [] (fun _=>[]) (fun c0 h=>?_) (fun Z j=>?_))))
     ·refine Q5 h (fun P h=>?_) (fun P h=>?_)
      ·refine Q0 Fm 1 [] [(2,vb false)] [] [] ?_
       refine AW.ret ?_;obtain rfl:=Option.some.inj h
       exact Kn.D Fm
      ·refine AW.skip ?_
       obtain ⟨W,h⟩:=gS h;refine Q1 Fm [.s,.s,.s] [0] [(3,vi (e+1))] [] [] (cT (cT W)) ?_
       exact Kn.R Fm (L (e+1) h)
     ·obtain ⟨n,h⟩:=gS h
      rcases Y7 h with ⟨i,h⟩|⟨i,h⟩
      ·obtain ⟨G,h⟩:=gS h
       rcases Y7 h with ⟨y,h⟩|⟨y,h⟩
       ·refine Q9 Fm (sZ 6 [.s,.s,.k (sE (.v (.c (.d (.int .u8 (sAt b e)))))),.s,.w (vb true),.s,.s,.s,.s,.s,.s,.s,.s,.k (sE (.v (.c (.d (.int .u8 (sAt b e)))))),.s,.w (vb true)]) (fun K=>K 2∧_∧K 13∧_∧True) [0,3] [(39,.v (.c (.d (.str b)))),(40,vi e),(41,.v (.c (.d (.int .u8 (sAt b e))))),(42,vb (decide ((sAt b e)<48))),(43,vb true),(48,vb true),(49,vb true)] [] [] ⟨G2 (t:=9) (a:=b) (m:=e) (by kernel_rfl) rfl rfl (by kernel_rfl) (by kernel_rfl) (by kernel_rfl) n,ALe.bool i,G2 (t:=9) (a:=b) (m:=e) (by kernel_rfl) rfl rfl (by kernel_rfl) (by kernel_rfl) (by kernel_rfl) G,ALe.bool y,⟨⟩⟩ ?_
        exact Kn.R Fm (j true h)
       ·obtain ⟨U,h⟩:=gS h
        refine Q9 Fm [.s,.s,.k (sE (.v (.c (.d (.int .u8 (sAt b e)))))),.s,.w (vb true),.s,.s,.s,.s,.s,.s,.s,.s,.k (sE (.v (.c (.d (.int .u8 (sAt b e)))))),.s,.w (vb false),.s,.s,.k (sE (.v (.c (.d (.int .u8 (sAt b e)))))),.s,.s,.s] (fun K=>K 2∧_∧K 13∧_∧K 18∧True) [0,3] [(39,.v (.c (.d (.str b)))),(40,vi e),(41,.v (.c (.d (.int .u8 (sAt b e))))),(42,vb (decide ((sAt b e)<48))),(43,vb false),(44,.v (.c (.d (.str b)))),(45,vi e),(46,.v (.c (.d (.int .u8 (sAt b e))))),(47,vb (decide ((57:Int)<(sAt b e)))),(48,vb (decide ((57:Int)<(sAt b e)))),(49,vb (decide ((57:Int)<(sAt b e))))] [] [] ⟨G2 (t:=9) (a:=b) (m:=e) (by kernel_rfl) rfl rfl (by kernel_rfl) (by kernel_rfl) (by kernel_rfl) n,ALe.bool i,G2 (t:=9) (a:=b) (m:=e) (by kernel_rfl) rfl rfl (by kernel_rfl) (by kernel_rfl) (by kernel_rfl) G,ALe.bool y,G2 (t:=9) (a:=b) (m:=e) (by kernel_rfl) rfl rfl (by kernel_rfl) (by kernel_rfl) (by kernel_rfl) U,⟨⟩⟩ ?_;exact Kn.R Fm (j (decide ((57:Int)<(sAt b e))) h)
      ·obtain ⟨B,h⟩:=gS h
       rcases Y7 h with ⟨q,h⟩|⟨q,h⟩
       ·obtain ⟨H,h⟩:=gS h
        rcases Y7 h with ⟨A,h⟩|⟨A,h⟩
        ·refine Q9 Fm (sZ 6 [.s,.s,.k (sE (.v (.c (.d (.int .u8 (sAt b e)))))),.s,.w (vb false),.s,.s,.k (sE (.v (.c (.d (.int .u8 (sAt b e)))))),.s,.s,.w (vb true),.s,.s,.k (sE (.v (.c (.d (.int .u8 (sAt b e)))))),.s,.w (vb true)]) (fun K=>K 2∧_∧K 7∧_∧K 13∧_∧True) [0,3] [(33,.v (.c (.d (.str b)))),(34,vi e),(35,.v (.c (.d (.int .u8 (sAt b e))))),(36,vb (decide ((122:Int)<(sAt b e)))),(39,.v (.c (.d (.str b)))),(40,vi e),(41,.v (.c (.d (.int .u8 (sAt b e))))),(42,vb (decide ((sAt b e)<48))),(43,vb true),(48,vb true),(49,vb true)] [] [] ⟨G2 (t:=9) (a:=b) (m:=e) (by kernel_rfl) rfl rfl (by kernel_rfl) (by kernel_rfl) (by kernel_rfl) n,ALe.bool i,G2 (t:=9) (a:=b) (m:=e) (by kernel_rfl) rfl rfl (by kernel_rfl) (by kernel_rfl) (by kernel_rfl) B,ALe.bool q,G2 (t:=9) (a:=b) (m:=e) (by kernel_rfl) rfl rfl (by kernel_rfl) (by kernel_rfl) (by kernel_rfl) H,ALe.bool A,⟨⟩⟩ ?_
         exact Kn.R Fm (j true h)
        ·obtain ⟨V,h⟩:=gS h
         refine Q9 Fm [.s,.s,.k (sE (.v (.c (.d (.int .u8 (sAt b e)))))),.s,.w (vb false),.s,.s,.k (sE (.v (.c (.d (.int .u8 (sAt b e)))))),.s,.s,.w (vb true),.s,.s,.k (sE (.v (.c (.d (.int .u8 (sAt b e)))))),.s,.w (vb false),.s,.s,.k (sE (.v (.c (.d (.int .u8 (sAt b e)))))),.s,.s,.s] (fun K=>K 2∧_∧K 7∧_∧K 13∧_∧K 18∧True) [0,3] [(33,.v (.c (.d (.str b)))),(34,vi e),(35,.v (.c (.d (.int .u8 (sAt b e))))),(36,vb (decide ((122:Int)<(sAt b e)))),(39,.v (.c (.d (.str b)))),(40,vi e),(41,.v (.c (.d (.int .u8 (sAt b e))))),(42,vb (decide ((sAt b e)<48))),(43,vb false),(44,.v (.c (.d (.str b)))),(45,vi e),(46,.v (.c (.d (.int .u8 (sAt b e))))),(47,vb (decide ((57:Int)<(sAt b e)))),(48,vb (decide ((57:Int)<(sAt b e)))),(49,vb (decide ((57:Int)<(sAt b e))))] [] [] ⟨G2 (t:=9) (a:=b) (m:=e) (by kernel_rfl) rfl rfl (by kernel_rfl) (by kernel_rfl) (by kernel_rfl) n,ALe.bool i,G2 (t:=9) (a:=b) (m:=e) (by kernel_rfl) rfl rfl (by kernel_rfl) (by kernel_rfl) (by kernel_rfl) B,ALe.bool q,G2 (t:=9) (a:=b) (m:=e) (by kernel_rfl) rfl rfl (by kernel_rfl) (by kernel_rfl) (by kernel_rfl) H,ALe.bool A,G2 (t:=9) (a:=b) (m:=e) (by kernel_rfl) rfl rfl (by kernel_rfl) (by kernel_rfl) (by kernel_rfl) V,⟨⟩⟩ ?_;exact Kn.R Fm (j (decide ((57:Int)<(sAt b e))) h)
       ·refine Q9 Fm (sZ 11 [.s,.s,.k (sE (.v (.c (.d (.int .u8 (sAt b e)))))),.s,.w (vb false),.s,.s,.k (sE (.v (.c (.d (.int .u8 (sAt b e)))))),.s,.s,.w (vb false)]) (fun K=>K 2∧_∧K 7∧_∧True) [0,3] [(33,.v (.c (.d (.str b)))),(34,vi e),(35,.v (.c (.d (.int .u8 (sAt b e))))),(36,vb (decide ((122:Int)<(sAt b e)))),(49,vb false)] [] [] ⟨G2 (t:=9) (a:=b) (m:=e) (by kernel_rfl) rfl rfl (by kernel_rfl) (by kernel_rfl) (by kernel_rfl) n,ALe.bool i,G2 (t:=9) (a:=b) (m:=e) (by kernel_rfl) rfl rfl (by kernel_rfl) (by kernel_rfl) (by kernel_rfl) B,ALe.bool q,⟨⟩⟩ ?_
        exact Kn.R Fm (j false h)
    ·exact AW.exit (Kn.R Fm (M () h))
 ·rcases Y7 h with ⟨l,h⟩|⟨l,h⟩
  ·refine Q1 Fm (sZ 14 [.s,.s,.s,.w (vb true)]) [0] [(21,vb true)] [] [] (cT (ALe.bool l)) ?_
   exact Kn.R Fm (o true h)
  ·rcases Y7 h with ⟨p,h⟩|⟨p,h⟩
   ·refine Q1 Fm (sZ 9 [.s,.s,.s,.w (vb false),.s,.s,.s,.s,.w (vb true)]) [0] [(21,vb true)] [] [] (cA (ALe.bool l) (cT (ALe.bool p))) ?_
    exact Kn.R Fm (o true h)
   ·obtain ⟨E,h⟩:=gS h
    rcases Y7 h with ⟨u,h⟩|⟨u,h⟩
    ·refine Q9 Fm [.s,.s,.s,.w (vb false),.s,.s,.s,.s,.w (vb false),.s,.k (sE (.v (.c (.d (.int .u8 (sAt b (0:Int))))))),.s,.s,.w (vb true),.s,.s,.s,.s] (fun K=>_∧_∧K 10∧_∧True) [0] [(21,vb true)] [] [] ⟨ALe.bool l,ALe.bool p,G2 (t:=9) (a:=b) (m:=(0:Int)) (by kernel_rfl) rfl rfl (by kernel_rfl) (by kernel_rfl) (by kernel_rfl) E,ALe.bool u,⟨⟩⟩ ?_
     exact Kn.R Fm (o true h)
    ·obtain ⟨T,h⟩:=gS h
     refine Q9 Fm [.s,.s,.s,.w (vb false),.s,.s,.s,.s,.w (vb false),.s,.k (sE (.v (.c (.d (.int .u8 (sAt b (0:Int))))))),.s,.s,.w (vb false),.s,.k (sE (.v (.c (.d (.int .u8 (sAt b (0:Int))))))),.s,.s] (fun K=>_∧_∧K 10∧_∧K 15∧True) [0] [(21,vb (decide ((122:Int)<(sAt b (0:Int)))))] [] [] ⟨ALe.bool l,ALe.bool p,G2 (t:=9) (a:=b) (m:=(0:Int)) (by kernel_rfl) rfl rfl (by kernel_rfl) (by kernel_rfl) (by kernel_rfl) E,ALe.bool u,G2 (t:=9) (a:=b) (m:=(0:Int)) (by kernel_rfl) rfl rfl (by kernel_rfl) (by kernel_rfl) (by kernel_rfl) T,⟨⟩⟩ ?_;exact Kn.R Fm (o (decide ((122:Int)<(sAt b (0:Int)))) h)
theorem Z6Q {F:Nat} {a:Crop} {r:Int} (h:Z0x F a=some r) :
  Z6 Tryz.prog 258 [gE a] [] (vi r) []:=by
 refine FI Tryz.func258 Q2 Q4 fun C Fm=>?_
 unfold Z0x at h;refine Q0 Fm 2 [] [(1,pt 1)] [] [(1,bx (gC a))] ?_
 refine AW.seq (AW.block (AW.seq ?_));obtain ⟨n,m,h⟩:=bS h
 refine Q9 Fm [.s,.s,.k _,.s,.s] (fun K=>K 2∧True) [1] [(3,vb (!n))] [1] [] ⟨Q3 (Z6f m) Tryz.call293 [],⟨⟩⟩ ?_;refine Q5 h (fun i h=>?_) (fun i h=>?_)
 ·refine Q0 Fm 1 [] [(2,vi 5)] [] [] ?_
  refine AW.ret ?_;obtain rfl:=Option.some.inj h
  exact Kn.D Fm
 ·refine Z2 (r:=r) (fun z:Bool=>Q4G F a z) [1] (fun z=>[(8,vb z)]) [1] (fun _=>[]) (fun q h=>?_) (fun o d=>?_)
  ·refine Q5 h (fun j h=>?_) (fun j h=>?_)
   ·refine Q0 Fm 1 [] [(2,vi 2)] [] [] ?_
    refine AW.ret ?_;obtain rfl:=Option.some.inj h
    exact Kn.D Fm
   ·refine Z2 (r:=r) (fun z:Bool=>Q4F F z) [] (fun z=>[(17,vb z)]) [] (fun _=>[]) (fun t h=>?_) (fun p e=>?_)
    ·refine Q5 h (fun l h=>?_) (fun l h=>?_)
     ·refine Q0 Fm 1 [] [(2,vi 14)] [] [] ?_
      refine AW.ret ?_;obtain rfl:=Option.some.inj h
      exact Kn.D Fm
     ·refine AW.skip (Q0 Fm 1 [] [(2,vi 0)] [] [] ?_)
      refine AW.ret ?_;obtain rfl:=Option.some.inj h
      exact Kn.D Fm
    ·rcases Y7 h with ⟨c,h⟩|⟨c,h⟩
     ·refine Q1 Fm (sZ 5 [.s,.s,.s,.w (vb true)]) [] [(17,vb true)] [] [] (cT (ALe.bool c)) ?_
      exact Kn.R Fm (e true h)
     ·refine Q1 Fm (sZ 5 [.s,.s,.s,.w (vb false)]) [] [(17,vb (decide ((31:Int)<a.m_)))] [] [] (cT (ALe.bool c)) ?_
      exact Kn.R Fm (e (decide ((31:Int)<a.m_)) h)
  ·rcases Y7 h with ⟨b,h⟩|⟨b,h⟩
   ·refine Q1 Fm (sZ 5 [.s,.s,.s,.w (vb true)]) [1] [(8,vb true)] [1] [] (cT (ALe.bool b)) ?_
    exact Kn.R Fm (d true h)
   ·refine Q1 Fm (sZ 5 [.s,.s,.s,.w (vb false)]) [1] [(8,vb (decide ((40:Int)<a.f_)))] [1] [] (cT (ALe.bool b)) ?_
    exact Kn.R Fm (d (decide ((40:Int)<a.f_)) h)
theorem Z5l {F:Nat} {e:(List Crop)} {r:Int} (h:Q0D F e=some r) :
  Z6 Tryz.prog 207 [AL e] [] (vi r) []:=by
 refine FI Tryz.func207 Q2 Q4 fun C Fm=>?_
 unfold Q0D at h;refine Q0 Fm 1 [0] [] [] [] ?_
 refine AW.seq (Q0 Fm 3 [0] [(8,vb (decide ((40:Int)<(lI e))))] [] [] ?_);refine Q5 h (fun q h=>?_) (fun q h=>?_)
 ·refine Q0 Fm 1 [] [(2,vi 1)] [] [] ?_
  refine AW.ret ?_;obtain rfl:=Option.some.inj h
  exact Kn.D Fm
 ·refine AW.skip (Z2 (r:=r) (fun z:Unit=>Z2n F) [] (fun _=>[]) [] (fun _=>[]) (fun z h=>?_) (fun M p=>?_))
  ·refine Q0 Fm 1 [] [(2,vi 0)] [] [] ?_
   refine AW.ret ?_;obtain rfl:=Option.some.inj h
   exact Kn.D Fm
  ·refine Q0 Fm 3 [0] [(9,AL e),(10,vi (lI e)),(11,vi 0)] [] [] ?_
   refine AW.block (W6 Fm [(0,AL e),(9,AL e),(10,vi (lI e)),(11,vi 0)] [] (by kernel_rfl) ?_);refine Z3 (E':=fun z=>[(0,AL e),(9,AL e),(10,vi (lI e)),(11,vi z)]) (S':=fun z=>[]) (fun n i I o h=>?_) h
   refine Q0 Fm 1 [0,9,10,11] [(12,vb (decide (i<(lI e))))] [] [] ?_;refine AW.seq (Q5 h (fun t h=>?_) (fun t h=>?_))
   ·refine AW.skip (AW.seq (AW.block ?_))
    obtain ⟨A,h⟩:=gS h;refine Y6 Fm (sA 6 []) [0,9,10,11] [(3,vi i),(4,pt 4)] [] [(4,bx [.d (.str (gl e i.toNat).n_),ci ((gl e i.toNat).f_),ci ((gl e i.toNat).m_)])] (cT A) ?_
    refine AW.seq (AW.seq ?_);obtain ⟨l,H,h⟩:=bS h
    refine Q9 Fm [.s,.k _,.s] (fun K=>K 1∧True) [0,3,4,9,10,11] [(5,vi l)] [4] [] ⟨Q3 (Z6Q H) Tryz.call258 [],⟨⟩⟩ ?_;refine Q0 Fm 2 [0,3,4,5,9,10,11] [(19,vb (l != (0:Int)))] [4] [] ?_
    refine Q5 h (fun u h=>?_) (fun u h=>?_)
    ·refine Q0 Fm 2 [] [(2,vi l)] [] [] ?_
     refine AW.ret ?_;obtain rfl:=Option.some.inj h
     exact Kn.D Fm
    ·refine AW.skip (Z2 (r:=r) (fun z:Bool=>Q4d F i n z) [0,9,10,11] (fun z=>[(33,vb z)]) [] (fun _=>[]) (fun N h=>?_) (fun L m=>?_))
     ·refine Q5 h (fun y h=>?_) (fun y h=>?_)
      ·refine Q0 Fm 1 [] [(2,vi 6)] [] [] ?_
       refine AW.ret ?_;obtain rfl:=Option.some.inj h
       exact Kn.D Fm
      ·refine AW.skip ?_
       obtain ⟨G,h⟩:=gS h;refine Q1 Fm [.s,.s] [0,9,10] [(11,vi (i+1))] [] [] (cT (cT G)) ?_
       exact Kn.R Fm (o (i+1) h)
     ·rcases Y7 h with ⟨j,h⟩|⟨j,h⟩
      ·obtain ⟨B,E,h⟩:=gS2 h
       refine Q9 Fm [.s,.s,.w (vb true),.s,.s,.s,.s,.s,.s,.s,.s,.k (sE (vb (sLt ((gl e i.toNat).n_) ((gl e (i-1).toNat).n_)||sEq ((gl e i.toNat).n_) ((gl e (i-1).toNat).n_)))),.s] (fun K=>_∧(_∧True)∧_∧K 11∧True) [0,9,10,11] [(24,pt 4),(25,.v (.c (.d (.str (gl e i.toNat).n_)))),(26,AL e),(27,vi i),(28,vi (i-1)),(29,.v (.c (.elm [.str (gl e (i-1).toNat).n_,.int .i64 (gl e (i-1).toNat).f_,.int .i64 (gl e (i-1).toNat).m_]))),(30,.v (.c (.elm [.str (gl e (i-1).toNat).n_,.int .i64 (gl e (i-1).toNat).f_,.int .i64 (gl e (i-1).toNat).m_]))),(31,.v (.c (.d (.str (gl e (i-1).toNat).n_)))),(32,vb (sLt ((gl e i.toNat).n_) ((gl e (i-1).toNat).n_)||sEq ((gl e i.toNat).n_) ((gl e (i-1).toNat).n_))),(33,vb (sLt ((gl e i.toNat).n_) ((gl e (i-1).toNat).n_)||sEq ((gl e i.toNat).n_) ((gl e (i-1).toNat).n_)))] [4] [] ⟨ALe.bool j,⟨B,⟨⟩⟩,E,Y0e (op:=.leq) (a:=((gl e i.toNat).n_)) (b:=((gl e (i-1).toNat).n_)) rfl rfl (by kernel_rfl) (by kernel_rfl) (by kernel_rfl) rfl,⟨⟩⟩ ?_;exact Kn.R Fm (m (sLt ((gl e i.toNat).n_) ((gl e (i-1).toNat).n_)||sEq ((gl e i.toNat).n_) ((gl e (i-1).toNat).n_)) h)
      ·refine Q1 Fm (sZ 10 [.s,.s,.w (vb false)]) [0,9,10,11] [(33,vb false)] [] [] (cT (ALe.bool j)) ?_
       exact Kn.R Fm (m false h)
   ·exact AW.exit (Kn.R Fm (p () h))
theorem Z1k {F:Nat} {o:Tape} {r:Tape×(List Crop)} (h:Q1P F o=some r) :
  Z6 Tryz.prog 14 [pt 0] [(0,bx (gC o))] (ow 100) [(0,bx (gC r.1)),(100,AO r.2)]:=by
 refine FI Tryz.func14 Q2 Q4 fun C Fm=>?_
 unfold Q1P at h;refine Q3x Fm [.m] (fun K=>True) [0] [] [0] [] True.intro ?_
 refine Y6 Fm [.w (AL cNL),.s] [0] [(3,AL cNL)] [0] [] (cT (ALe.lst (.lit cNL (by kernel_rfl)):ALe (.v (.c (.d (.lst 8 (Z1g 1 [.str (ByteArray.mk #[98,97,114,108,101,121]),.str (ByteArray.mk #[99,108,111,118,101,114]),.str (ByteArray.mk #[103,114,97,115,115]),.str (ByteArray.mk #[109,97,105,122,101]),.str (ByteArray.mk #[111,97,116,115]),.str (ByteArray.mk #[114,121,101]),.str (ByteArray.mk #[118,101,116,99,104]),.str (ByteArray.mk #[119,104,101,97,116])]))))) (AL cNL))) ?_;refine G9 Fm [.m] (fun K=>True) [0,3] [(4,ow 4)] [0] [(4,AO ([]:List Crop))] True.intro [(4,.arr 3 (0) (fun _=>[]))] ⟨OLe.is ((Is.nil (α:=Crop))),⟨⟩⟩ ?_
 refine Z2 (r:=r) (fun z:(List Crop)×(List Int)×Int=>Q7T F z.1 z.2.1 z.2.2) [4] (fun _=>[]) [] (fun z=>[(0,bx [.d (DL z.2.1),ci z.2.2]),(4,AO z.1)]) (fun z h=>?_) (fun P q=>?_)
 ·obtain ⟨L,M,N⟩:=z
  refine Q0 Fm 2 [] [(2,ow 4)] [0,4] [] ?_;refine AW.ret ?_
  obtain rfl:=Option.some.inj h;exact Q3e Fm [(100,4)] [(2,ow 100)] [(0,bx [.d (DL M),ci N]),(100,AO L)] (by kernel_rfl) (by kernel_rfl) (by kernel_rfl) (by kernel_rfl) (Q3H Fm (by kernel_rfl))
 ·refine AW.seq ?_
  obtain ⟨a,D,h⟩:=bS h;obtain ⟨n,h⟩:=gS h
  refine Q9 Fm [.s,.s,.k _,.w (AL (cNL.take a.2.toNat)),.s,.s] (fun K=>K 2∧(((sl (List.length cNL) (LF cNL) none (some a.2)).2∧∀ j,j<List.length cNL→(LF cNL j).length=1))∧(ALe (.v (.c (.d (.lst (sl (List.length cNL) (LF cNL) none (some a.2)).1.1 (sl (List.length cNL) (LF cNL) none (some a.2)).1.2)))) (AL (cNL.take a.2.toNat)))∧True) [0,4] [(11,AL (cNL.take a.2.toNat)),(12,vi ((List.length (cNL.take a.2.toNat):Nat):Int)),(13,vi 0)] [4] [(0,bx (gC a.1))] ⟨Q3 (Q1L D) Tryz.call45 [(0,0)],⟨n,(Is.refl cNL).len⟩,ALe.lst (Z5J cNL none (some a.2) n),⟨⟩⟩ ?_;refine AW.block (W6 Fm [(0,pt 0),(4,ow 4),(11,AL (cNL.take a.2.toNat)),(12,vi ((List.length (cNL.take a.2.toNat):Nat):Int)),(13,vi 0)] [(0,bx [.d (DL a.1.l_),ci a.1.at_]),(4,AO ([]:List Crop))] (by kernel_rfl) ?_)
  refine Z3 (E':=fun z=>[(0,pt 0),(4,ow 4),(11,AL (cNL.take a.2.toNat)),(12,vi ((List.length (cNL.take a.2.toNat):Nat):Int)),(13,vi z.1)]) (S':=fun z=>[(0,bx [.d (DL z.2.1),ci z.2.2.1]),(4,AO z.2.2.2)]) (fun T z O p h=>?_) h;obtain ⟨b,H,I,l⟩:=z
  refine Q0 Fm 1 [0,4,11,12,13] [(14,vb (decide (b<((List.length (cNL.take a.2.toNat):Nat):Int))))] [0,4] [] ?_;refine AW.seq (Q5 h (fun t h=>?_) (fun t h=>?_))
  ·refine AW.skip (AW.seq (AW.block ?_))
   obtain ⟨u,h⟩:=gS h;refine Y6 Fm [.s,.s,.s] [0,4,11,12,13] [(6,.v (.c (.d (.str (gl (cNL.take a.2.toNat) b.toNat)))))] [0,4] [] (cT u) ?_
   obtain ⟨i,E,h⟩:=bS h;obtain ⟨e,G,h⟩:=bS h
   obtain ⟨y,A,h⟩:=gS2 h;refine Z0e Fm [.s,.s,.s,.k _,.w (AL ([(0:Int),(0:Int),(0:Int),(2:Int),(20:Int),(8:Int),(1:Int),(31:Int)]:List Int)),.s,.k _,.s,.s,.s,.w (AL [(⟨(gl (cNL.take a.2.toNat) b.toNat),i.2,(gl ([(0:Int),(0:Int),(0:Int),(2:Int),(20:Int),(8:Int),(1:Int),(31:Int)]:List Int) e.2.toNat)⟩:Crop)]),.s,.s] (fun K=>K 3∧(ALe (.v (.c (.d (.lst 8 (Z1g 1 [.int .i64 (0:Int),.int .i64 (0:Int),.int .i64 (0:Int),.int .i64 (2:Int),.int .i64 (20:Int),.int .i64 (8:Int),.int .i64 (1:Int),.int .i64 (31:Int)]))))) (AL ([(0:Int),(0:Int),(0:Int),(2:Int),(20:Int),(8:Int),(1:Int),(31:Int)]:List Int)))∧K 6∧_∧_∧(_∧_∧True)∧True) [0,11,12,13] [(4,ow 28)] [] [(0,bx (gC e.1)),(28,AO (l++([(⟨(gl (cNL.take a.2.toNat) b.toNat),i.2,(gl ([(0:Int),(0:Int),(0:Int),(2:Int),(20:Int),(8:Int),(1:Int),(31:Int)]:List Int) e.2.toNat)⟩:Crop)]:List Crop)))] ⟨Q3 (Y3 E) Tryz.call15 [(0,0)],ALe.lst (.lit ([(0:Int),(0:Int),(0:Int),(2:Int),(20:Int),(8:Int),(1:Int),(31:Int)]:List Int) (by kernel_rfl)),Q3 (Y3 G) Tryz.call15 [(0,0)],y,Z0I (⟨(gl (cNL.take a.2.toNat) b.toNat),i.2,(gl ([(0:Int),(0:Int),(0:Int),(2:Int),(20:Int),(8:Int),(1:Int),(31:Int)]:List Int) e.2.toNat)⟩:Crop),⟨A,lfl ([(⟨(gl (cNL.take a.2.toNat) b.toNat),i.2,(gl ([(0:Int),(0:Int),(0:Int),(2:Int),(20:Int),(8:Int),(1:Int),(31:Int)]:List Int) e.2.toNat)⟩:Crop)]:List Crop),⟨⟩⟩,⟨⟩⟩ [(28,rAp l ([(⟨(gl (cNL.take a.2.toNat) b.toNat),i.2,(gl ([(0:Int),(0:Int),(0:Int),(2:Int),(20:Int),(8:Int),(1:Int),(31:Int)]:List Int) e.2.toNat)⟩:Crop)]:List Crop))] ⟨oAp,⟨⟩⟩ ?_
   obtain ⟨B,h⟩:=gS h;refine Q1 Fm [.s,.s] [0,4,11,12] [(13,vi (b+1))] [0,28] [] (cT (cT B)) ?_
   exact Q1f Fm [(4,28)] (p ((b+1),e.1.l_,e.1.at_,(l++([(⟨(gl (cNL.take a.2.toNat) b.toNat),i.2,(gl ([(0:Int),(0:Int),(0:Int),(2:Int),(20:Int),(8:Int),(1:Int),(31:Int)]:List Int) e.2.toNat)⟩:Crop)]:List Crop))) h)
  ·exact AW.exit (Kn.R Fm (q (l,H,I) h))
theorem Q2n {F:Nat} {a:(List Line)} {i:(List Crop)} {r:Int} (h:Q1I F a i=some r) :
  Z6 Tryz.prog 174 [AL a,AL i] [] (vi r) []:=by
 refine FI Tryz.func174 Q2 Q4 fun C Fm=>?_
 unfold Q1I at h;refine Q0 Fm 1 [0,1] [] [] [] ?_
 refine AW.seq (Q0 Fm 3 [0,1] [(14,vb (decide ((20:Int)<(lI a))))] [] [] ?_);refine Q5 h (fun M h=>?_) (fun M h=>?_)
 ·refine Q0 Fm 1 [] [(4,vi 1)] [] [] ?_
  refine AW.ret ?_;obtain rfl:=Option.some.inj h
  exact Kn.D Fm
 ·refine AW.skip (AW.seq (AW.seq ?_))
  obtain ⟨o,j0,h⟩:=bS h;refine Q9 Fm [.s,.k _,.s] (fun K=>K 1∧True) [0,1] [(5,vi o)] [] [] ⟨Q3 (Z5l j0) Tryz.call207 [],⟨⟩⟩ ?_
  refine Q0 Fm 2 [0,1,5] [(18,vb (o != (0:Int)))] [] [] ?_;refine Q5 h (fun N h=>?_) (fun N h=>?_)
  ·refine Q0 Fm 2 [] [(4,vi o)] [] [] ?_
   refine AW.ret ?_;obtain rfl:=Option.some.inj h
   exact Kn.D Fm
  ·refine AW.skip (Z2 (r:=r) (fun z:Unit=>Q8W F a) [0] (fun _=>[]) [] (fun _=>[]) (fun z h=>?_) (fun q0 A=>?_))
   ·refine Z2 (r:=r) (fun z:Unit=>Q8V F a) [0] (fun _=>[]) [] (fun _=>[]) (fun z h=>?_) (fun t0 E=>?_)
    ·refine Z2 (r:=r) (fun z:Unit=>Z2g F) [] (fun _=>[]) [] (fun _=>[]) (fun z h=>?_) (fun A0 L=>?_)
     ·refine Q0 Fm 1 [] [(4,vi 0)] [] [] ?_
      refine AW.ret ?_;obtain rfl:=Option.some.inj h
      exact Kn.D Fm
     ·refine Q0 Fm 3 [0] [(49,vi (lI a)),(50,vi 0)] [] [] ?_
      refine AW.block (W6 Fm [(0,AL a),(49,vi (lI a)),(50,vi 0)] [] (by kernel_rfl) ?_);refine Z3 (E':=fun z=>[(0,AL a),(49,vi (lI a)),(50,vi z)]) (S':=fun z=>[]) (fun u b u0 G h=>?_) h
      refine Q0 Fm 1 [0,49,50] [(51,vb (decide (b<(lI a))))] [] [] ?_;refine AW.seq (Q5 h (fun V h=>?_) (fun V h=>?_))
      ·refine AW.skip (Z2 (r:=r) (fun z:Unit=>Q8U F b u) [0,49,50] (fun _=>[]) [] (fun _=>[]) (fun z h=>?_) (fun y0 I=>?_))
       ·obtain ⟨i0,h⟩:=gS h
        refine Q1 Fm [.s,.s] [0,49] [(50,vi (b+1))] [] [] (cT (cT i0)) ?_;exact Kn.R Fm (G (b+1) h)
       ·refine AW.block (Q0 Fm 2 [0,49,50] [(10,vi b)] [] [] ?_)
        obtain ⟨q,h⟩:=gS h;refine Y6 Fm [.s,.s,.w (AL (a.take b.toNat)),.s,.s] [0,10,49,50] [(56,vi (lI (a.take b.toNat))),(57,vi 0)] [] [] (cA (⟨q,(Is.refl a).len⟩:((sl (List.length a) (LF a) none (some b)).2∧∀ j,j<List.length a→(LF a j).length=4)) (cT (ALe.lst (Z5J a none (some b) q):ALe (.v (.c (.d (.lst (sl (List.length a) (LF a) none (some b)).1.1 (sl (List.length a) (LF a) none (some b)).1.2)))) (AL (a.take b.toNat))))) ?_
        refine AW.block (W6 Fm [(0,AL a),(10,vi b),(49,vi (lI a)),(50,vi b),(56,vi (lI (a.take b.toNat))),(57,vi 0)] [] (by kernel_rfl) ?_);refine Z3 (E':=fun z=>[(0,AL a),(10,vi b),(49,vi (lI a)),(50,vi b),(56,vi (lI (a.take b.toNat))),(57,vi z)]) (S':=fun z=>[]) (fun D0 m w0 H h=>?_) h
        refine Q0 Fm 1 [0,10,49,50,56,57] [(58,vb (decide (m<(lI (a.take b.toNat)))))] [] [] ?_;refine AW.seq (Q5 h (fun W h=>?_) (fun W h=>?_))
        ·refine AW.skip (AW.seq (AW.block (Q0 Fm 2 [0,10,49,50,56,57] [(11,vi m)] [] [] ?_)))
         refine AW.seq ?_;obtain ⟨c0,d0,h⟩:=gS2 h
         obtain ⟨n0,l0,h⟩:=bS h;refine Q9 Fm (sA 10 [.k _]) (fun K=>_∧_∧K 10∧True) [0,10,49,50,56,57] [(70,vb n0)] [] [] ⟨c0,d0,Q3 (Z0z l0) Tryz.call70 [],⟨⟩⟩ ?_
         refine Q5 h (fun X h=>?_) (fun X h=>?_)
         ·refine Q0 Fm 1 [] [(4,vi 11)] [] [] ?_
          refine AW.ret ?_;obtain rfl:=Option.some.inj h
          exact Kn.D Fm
         ·refine AW.skip ?_
          obtain ⟨e0,h⟩:=gS h;refine Q1 Fm [.s,.s] [0,10,49,50,56] [(57,vi (m+1))] [] [] (cT (cT e0)) ?_
          exact Kn.R Fm (H (m+1) h)
        ·exact AW.exit (Kn.R Fm (I () h))
      ·exact AW.exit (Kn.R Fm (L () h))
    ·refine Q0 Fm 3 [0] [(37,AL a),(38,vi (lI a)),(39,vi 0)] [] [] ?_
     refine AW.block (W6 Fm [(0,AL a),(37,AL a),(38,vi (lI a)),(39,vi 0)] [] (by kernel_rfl) ?_);refine Z3 (E':=fun z=>[(0,AL a),(37,AL a),(38,vi (lI a)),(39,vi z)]) (S':=fun z=>[]) (fun B0 l s0 B h=>?_) h
     refine Q0 Fm 1 [0,37,38,39] [(40,vb (decide (l<(lI a))))] [] [] ?_;refine AW.seq (Q5 h (fun T h=>?_) (fun T h=>?_))
     ·refine AW.skip (AW.seq (AW.block ?_))
      obtain ⟨a0,h⟩:=gS h;refine Y6 Fm (sA 4 []) [0,37,38,39] [(9,pt 9)] [] [(9,bx [ci ((gl a l.toNat).p_),.d (DL (gl a l.toNat).g_.t_),ci ((gl a l.toNat).c_),ci ((gl a l.toNat).s_)])] (cT a0) ?_
      refine AW.seq ?_;obtain ⟨m0,k0,h⟩:=bS h
      refine Q9 Fm [.s,.s,.k _,.s] (fun K=>K 2∧True) [0,37,38,39] [(46,vb (!m0))] [] [] ⟨Q3 (J3 k0) Tryz.call109 [],⟨⟩⟩ ?_;refine Q5 h (fun U h=>?_) (fun U h=>?_)
      ·refine Q0 Fm 1 [] [(4,vi 7)] [] [] ?_
       refine AW.ret ?_;obtain rfl:=Option.some.inj h
       exact Kn.D Fm
      ·refine AW.skip ?_
       obtain ⟨b0,h⟩:=gS h;refine Q1 Fm [.s,.s] [0,37,38] [(39,vi (l+1))] [] [] (cT (cT b0)) ?_
       exact Kn.R Fm (B (l+1) h)
     ·exact AW.exit (Kn.R Fm (E () h))
   ·refine Q0 Fm 3 [0,1] [(20,AL a),(21,vi (lI a)),(22,vi 0)] [] [] ?_
    refine AW.block (W6 Fm [(0,AL a),(1,AL i),(20,AL a),(21,vi (lI a)),(22,vi 0)] [] (by kernel_rfl) ?_);refine Z3 (E':=fun z=>[(0,AL a),(1,AL i),(20,AL a),(21,vi (lI a)),(22,vi z)]) (S':=fun z=>[]) (fun t e o0 y h=>?_) h
    refine Q0 Fm 1 [0,1,20,21,22] [(23,vb (decide (e<(lI a))))] [] [] ?_;refine AW.seq (Q5 h (fun O h=>?_) (fun O h=>?_))
    ·refine AW.skip (AW.seq (AW.block ?_))
     obtain ⟨Y,h⟩:=gS h;refine Y6 Fm (sA 4 []) [0,1,20,21,22] [(7,pt 7)] [] [(7,bx [ci ((gl a e.toNat).p_),.d (DL (gl a e.toNat).g_.t_),ci ((gl a e.toNat).c_),ci ((gl a e.toNat).s_)])] (cT Y) ?_
     refine Z2 (r:=r) (fun z:Bool=>Q2o F e t z) [0,1,20,21,22] (fun z=>[(35,vb z)]) [] (fun _=>[]) (fun E0 h=>?_) (fun p0 p=>?_)
     ·refine Q5 h (fun P h=>?_) (fun P h=>?_)
      ·refine Q0 Fm 1 [] [(4,vi 13)] [] [] ?_
       refine AW.ret ?_;obtain rfl:=Option.some.inj h
       exact Kn.D Fm
      ·refine AW.skip ?_
       obtain ⟨Z,h⟩:=gS h;refine Q1 Fm [.s,.s] [0,1,20,21] [(22,vi (e+1))] [] [] (cT (cT Z)) ?_
       exact Kn.R Fm (y (e+1) h)
     ·rcases Y7 h with ⟨n,h⟩|⟨n,h⟩
      ·refine Q1 Fm (sZ 6 [.s,.s,.s,.w (vb true)]) [0,1,20,21,22] [(35,vb true)] [] [] (cT (ALe.bool n)) ?_
       exact Kn.R Fm (p true h)
      ·refine Q1 Fm (sZ 6 [.s,.s,.s,.w (vb false)]) [0,1,20,21,22] [(30,.v (.c (.ptr 7 2))),(31,vi (gl a e.toNat).c_),(32,AL i),(33,vi (lI i)),(34,vb (decide ((lI i)≤((gl a e.toNat).c_)))),(35,vb (decide ((lI i)≤((gl a e.toNat).c_))))] [7] [] (cT (ALe.bool n)) ?_
       exact Kn.R Fm (p (decide ((lI i)≤((gl a e.toNat).c_))) h)
    ·exact AW.exit (Kn.R Fm (A () h))
theorem Q0K {F:Nat} {a:Line} {b:(List Crop)} {r:Bool} (h:Q0z F a b=some r) :
  Z6 Tryz.prog 177 [gE a,AL b] [] (vb r) []:=by
 refine FI Tryz.func177 Q2 Q4 fun C Fm=>?_
 unfold Q0z at h;refine Q0 Fm 2 [1] [(2,pt 2)] [] [(2,bx (gC a))] ?_
 obtain ⟨c,h⟩:=gS h;refine Y6 Fm (sA 9 []) [] [(4,vb ((Q6O .i64 ((gl b a.c_.toNat).m_) (3:Int))==0))] [] [] (cT c) ?_
 refine AW.ret ?_;obtain rfl:=Option.some.inj h
 exact Kn.D Fm
theorem Q2e {F:Nat} {a:(List Line)} {e:(List Crop)} {r:(List A2_)×Int} (h:Q0C F a e=some r) :
  Z6 Tryz.prog 175 [AL a,AL e] [] (.t [.c (.d (DL r.1)),.c (ci r.2)]) []:=by
 refine FI Tryz.func175 Q2 Q4 fun C Fm=>?_
 unfold Q0C at h;refine Q0 Fm 2 [0,1] [] [] [] ?_
 refine G9 Fm [.m] (fun K=>True) [0,1] [(6,ow 6)] [] [(6,AO ([]:List Int))] True.intro [(6,.arr 1 (0) (fun _=>[]))] ⟨OLe.is ((Is.nil (α:=Int))),⟨⟩⟩ ?_;refine Z2 (r:=r) (fun z:(List Int)=>Q6l F a e z) [0,1] (fun z=>[(6,AL z)]) [] (fun _=>[]) (fun b h=>?_) (fun K0 U=>?_)
 ·refine G9 Fm [.m] (fun K=>True) [0,1,6] [(9,ow 9)] [] [(9,AO ([]:List A2_))] True.intro [(9,.arr 2 (0) (fun _=>[]))] ⟨OLe.is ((Is.nil (α:=A2_))),⟨⟩⟩ ?_
  refine Q0 Fm 1 [0,1,6,9] [(10,vi 0)] [9] [] ?_;refine Z2 (r:=r) (fun z:Int×(List A2_)=>Q9A F z.1 z.2) [9] (fun z=>[(10,vi z.1)]) [] (fun z=>[(9,AO z.2)]) (fun z h=>?_) (fun T0 Z=>?_)
  ·obtain ⟨y,M⟩:=z
   refine Q0 Fm 4 [] [(4,ow 9),(5,vi y)] [9] [] ?_;refine AW.ret ?_
   obtain rfl:=Option.some.inj h;refine W6 Fm [(4,ow 9),(5,vi y)] [(9,AO M)] (by kernel_rfl) ?_
   refine Kn.frz [(4,AL M),(5,vi y)] [] (by kernel_rfl) (by kernel_rfl) (by kernel_rfl) ?_;exact Kn.D Fm
  ·refine Q0 Fm 3 [0,1,9,10] [(34,AL b),(35,vi (lI b)),(36,vi 0)] [9] [] ?_
   refine AW.block (W6 Fm [(0,AL a),(1,AL e),(9,ow 9),(10,vi 0),(34,AL b),(35,vi (lI b)),(36,vi 0)] [(9,AO ([]:List A2_))] (by kernel_rfl) ?_);refine Z3 (E':=fun z=>[(0,AL a),(1,AL e),(9,ow 9),(10,vi z.1),(34,AL b),(35,vi (lI b)),(36,vi z.2.1)]) (S':=fun z=>[(9,AO z.2.2)]) (fun A z L0 V h=>?_) h
   obtain ⟨p,i,o⟩:=z;refine Q0 Fm 1 [0,1,9,10,34,35,36] [(37,vb (decide (i<(lI b))))] [9] [] ?_
   refine AW.seq (Q5 h (fun c0 h=>?_) (fun c0 h=>?_))
   ·refine AW.skip (Z2 (r:=r) (fun z:Int×(List A2_)=>Q6j F i A z.1 z.2) [0,1,34,35,36] (fun z=>[(9,ow 70),(10,vi z.1)]) [] (fun z=>[(70,AO z.2)]) (fun z h=>?_) (fun R0 Y=>?_))
    ·obtain ⟨D0,E0⟩:=z
     obtain ⟨t0,h⟩:=gS h;refine Q1 Fm [.s,.s] [0,1,9,10,34,35] [(36,vi (i+1))] [70] [] (cT (cT t0)) ?_
     exact Q1f Fm [(9,70)] (V (D0,(i+1),E0) h)
    ·refine AW.block ?_
     obtain ⟨l0,h⟩:=gS h;refine Y6 Fm [.s,.s,.s] [0,1,9,10,34,35,36] [(12,vi (gl b i.toNat))] [9] [] (cT l0) ?_
     refine Q0 Fm 1 [0,1,9,10,12,34,35,36] [(13,vi 0)] [9] [] ?_;refine Z2 (r:=r) (fun z:Int=>Q6k F b p i o A z) [0,1,9,10,12,34,35,36] (fun z=>[(13,vi z)]) [9] (fun _=>[]) (fun n h=>?_) (fun P0 X=>?_)
     ·obtain ⟨q0,h⟩:=gS h
      refine Z5F Fm (sA 4 [.w (AL [(⟨(gl b i.toNat),n⟩:A2_)]),.s,.s]) [0,1,10,13,34,35,36] [(9,ow 70)] [] [(70,AO (o++([(⟨(gl b i.toNat),n⟩:A2_)]:List A2_)))] (cA (Z0I (⟨(gl b i.toNat),n⟩:A2_)) (cT (cA q0 (cT (lfl ([(⟨(gl b i.toNat),n⟩:A2_)]:List A2_)))))) [(70,rAp o ([(⟨(gl b i.toNat),n⟩:A2_)]:List A2_))] ⟨oAp,⟨⟩⟩ ?_;obtain ⟨s0,h⟩:=gS h
      refine Q1 Fm (sA 4 []) [0,1,9,34,35,36] [(10,vi (p+n))] [70] [] (cT (cT s0)) ?_;exact Kn.R Fm (Y ((p+n),(o++([(⟨(gl b i.toNat),n⟩:A2_)]:List A2_))) h)
     ·refine Q0 Fm 3 [0,1,9,10,12,13,34,35,36] [(40,AL a),(41,vi (lI a)),(42,vi 0)] [9] [] ?_
      refine AW.block (W6 Fm [(0,AL a),(1,AL e),(9,ow 9),(10,vi p),(12,vi (gl b i.toNat)),(13,vi 0),(34,AL b),(35,vi (lI b)),(36,vi i),(40,AL a),(41,vi (lI a)),(42,vi 0)] [(9,AO o)] (by kernel_rfl) ?_);refine Z3 (E':=fun z=>[(0,AL a),(1,AL e),(9,ow 9),(10,vi p),(12,vi (gl b i.toNat)),(13,vi z.1),(34,AL b),(35,vi (lI b)),(36,vi i),(40,AL a),(41,vi (lI a)),(42,vi z.2)]) (S':=fun z=>[(9,AO o)]) (fun B z M0 W h=>?_) h
      obtain ⟨q,j⟩:=z;refine Q0 Fm 1 [0,1,9,10,12,13,34,35,36,40,41,42] [(43,vb (decide (j<(lI a))))] [9] [] ?_
      refine AW.seq (Q5 h (fun d0 h=>?_) (fun d0 h=>?_))
      ·refine AW.skip (Z2 (r:=r) (fun z:Int=>Q1F F j B z) [0,1,9,10,12,34,35,36,40,41,42] (fun z=>[(13,vi z)]) [9] (fun _=>[]) (fun B0 h=>?_) (fun O0 H=>?_))
       ·obtain ⟨p0,h⟩:=gS h
        refine Q1 Fm [.s,.s] [0,1,9,10,12,13,34,35,36,40,41] [(42,vi (j+1))] [9] [] (cT (cT p0)) ?_;exact Kn.R Fm (W (B0,(j+1)) h)
       ·refine AW.block ?_
        obtain ⟨m0,h⟩:=gS h;refine Y6 Fm (sA 4 []) [0,1,9,10,12,13,34,35,36,40,41,42] [(15,pt 15)] [9] [(15,bx [ci ((gl a j.toNat).p_),.d (DL (gl a j.toNat).g_.t_),ci ((gl a j.toNat).c_),ci ((gl a j.toNat).s_)])] (cT m0) ?_
        refine Z2 (r:=r) (fun z:Bool=>Q1G F a q j B z) [0,1,9,10,12,13,15,34,35,36,40,41,42] (fun z=>[(58,vb z)]) [9,15] (fun _=>[]) (fun U0 h=>?_) (fun N0 G=>?_)
        ·refine Q5 h (fun e0 h=>?_) (fun e0 h=>?_)
         ·obtain ⟨O,y0,h⟩:=bS h
          obtain ⟨o0,h⟩:=gS h;refine Q9 Fm [.s,.s,.s,.k _,.s,.s] (fun K=>K 3∧(_∧True)∧True) [0,1,9,10,12,34,35,36,40,41,42] [(13,vi (q+O))] [9] [] ⟨Q3 (Z1A y0) Tryz.call68 [],⟨o0,⟨⟩⟩,⟨⟩⟩ ?_
          exact Kn.R Fm (H (q+O) h)
         ·exact AW.skip (Kn.R Fm (H q h))
        ·obtain ⟨V0,I,h⟩:=bS h
         rcases Y7 h with ⟨u,h⟩|⟨u,h⟩
         ·obtain ⟨n0,h⟩:=gS h
          refine Q9 Fm (sZ 9 [.s,.s,.k _,.w (vb true)]) (fun K=>K 2∧_∧_∧True) [0,1,9,10,12,13,15,34,35,36,40,41,42] [(50,AL e),(51,.v (.c (.ptr 15 2))),(52,vi (gl a j.toNat).c_),(53,.v (.c (.elm [.str (gl e ((gl a j.toNat).c_).toNat).n_,.int .i64 (gl e ((gl a j.toNat).c_).toNat).f_,.int .i64 (gl e ((gl a j.toNat).c_).toNat).m_]))),(54,.v (.c (.elm [.int .i64 (gl e ((gl a j.toNat).c_).toNat).f_,.int .i64 (gl e ((gl a j.toNat).c_).toNat).m_]))),(55,vi (gl e ((gl a j.toNat).c_).toNat).f_),(56,vi (gl b i.toNat)),(57,vb (((gl e ((gl a j.toNat).c_).toNat).f_)==(gl b i.toNat))),(58,vb (((gl e ((gl a j.toNat).c_).toNat).f_)==(gl b i.toNat)))] [9,15] [] ⟨Q3 (Q0K I) Tryz.call177 [],ALe.bool u,n0,⟨⟩⟩ ?_;exact Kn.R Fm (G (((gl e ((gl a j.toNat).c_).toNat).f_)==(gl b i.toNat)) h)
         ·refine Q9 Fm (sZ 9 [.s,.s,.k _,.w (vb false)]) (fun K=>K 2∧_∧True) [0,1,9,10,12,13,15,34,35,36,40,41,42] [(58,vb false)] [9,15] [] ⟨Q3 (Q0K I) Tryz.call177 [],ALe.bool u,⟨⟩⟩ ?_
          exact Kn.R Fm (G false h)
      ·exact AW.exit (Kn.R Fm (X q h))
   ·exact AW.exit (Kn.R Fm (Z (p,o) h))
 ·refine Q0 Fm 3 [0,1,6] [(16,AL a),(17,vi (lI a)),(18,vi 0)] [6] [] ?_
  refine AW.block (W6 Fm [(0,AL a),(1,AL e),(6,ow 6),(16,AL a),(17,vi (lI a)),(18,vi 0)] [(6,AO ([]:List Int))] (by kernel_rfl) ?_);refine Kn.frz [(0,AL a),(1,AL e),(6,AL ([]:List Int)),(16,AL a),(17,vi (lI a)),(18,vi 0)] [] (by kernel_rfl) (by kernel_rfl) (by kernel_rfl) ?_
  refine W6 Fm [(0,AL a),(1,AL e),(6,AL ([]:List Int)),(16,AL a),(17,vi (lI a)),(18,vi 0)] [] (by kernel_rfl) ?_;refine Z3 (E':=fun z=>[(0,AL a),(1,AL e),(6,AL z.1),(16,AL a),(17,vi (lI a)),(18,vi z.2)]) (S':=fun z=>[]) (fun P z H0 T h=>?_) h
  obtain ⟨L,l⟩:=z;refine Q0 Fm 1 [0,1,6,16,17,18] [(19,vb (decide (l<(lI a))))] [] [] ?_
  refine AW.seq (Q5 h (fun a0 h=>?_) (fun a0 h=>?_))
  ·refine AW.skip (Z2 (r:=r) (fun z:(List Int)=>Q1H F l P z) [0,1,16,17,18] (fun z=>[(6,AL z)]) [] (fun _=>[]) (fun A0 h=>?_) (fun I0 E=>?_))
   ·obtain ⟨k0,h⟩:=gS h
    refine Q1 Fm [.s,.s] [0,1,6,16,17] [(18,vi (l+1))] [] [] (cT (cT k0)) ?_;exact Kn.R Fm (T (A0,(l+1)) h)
   ·refine AW.block ?_
    obtain ⟨i0,h⟩:=gS h;refine Y6 Fm (sA 4 []) [0,1,6,16,17,18] [(8,pt 8)] [] [(8,bx [ci ((gl a l.toNat).p_),.d (DL (gl a l.toNat).g_.t_),ci ((gl a l.toNat).c_),ci ((gl a l.toNat).s_)])] (cT i0) ?_
    refine AW.seq ?_;obtain ⟨G0,u0,h⟩:=bS h
    refine Q9 Fm [.s,.s,.k _] (fun K=>K 2∧True) [0,1,6,8,16,17,18] [(24,vb G0)] [8] [] ⟨Q3 (Q0K u0) Tryz.call177 [],⟨⟩⟩ ?_;refine Q5 h (fun b0 h=>?_) (fun b0 h=>?_)
    ·obtain ⟨j0,h⟩:=gS h
     obtain ⟨N,w0,h⟩:=bS h;refine Q9 Fm (sA 7 [.k _,.s]) (fun K=>_∧K 7∧True) [0,1,16,17,18] [(6,AL N)] [] [] ⟨j0,Q3 (Q4f w0) Tryz.call127 [],⟨⟩⟩ ?_
     exact Kn.R Fm (E N h)
    ·exact AW.skip (Kn.R Fm (E L h))
  ·exact AW.exit (Kn.R Fm (U L h))
theorem Z3c {F:Nat} {b:(List Line)} {e:(List Crop)} {r:(List A2_)×Int} (h:Q3S F b e=some r) :
  Z6 Tryz.prog 85 [AL b,AL e] [] (.t [.c (.d (DL r.1)),.c (ci r.2)]) []:=by
 refine FI Tryz.func85 Q2 Q4 fun C Fm=>?_
 unfold Q3S at h;refine Q0 Fm 2 [0,1] [] [] [] ?_
 refine AW.seq (AW.seq ?_);obtain ⟨a,l,h⟩:=bS h
 refine Q9 Fm [.s,.s,.k _,.s] (fun K=>K 2∧True) [0,1] [(6,vi a)] [] [] ⟨Q3 (Q2n l) Tryz.call174 [],⟨⟩⟩ ?_;refine Q0 Fm 2 [0,1,6] [(13,vb (a != (0:Int)))] [] [] ?_
 refine Q5 h (fun j h=>?_) (fun j h=>?_)
 ·refine Q0 Fm 3 [] [(4,.v (.c (.fl 0 fun _=>[]))),(5,vi a)] [] [] ?_
  refine AW.ret ?_;obtain rfl:=Option.some.inj h
  refine W6 Fm [(4,.v (.c (.fl 0 fun _=>[]))),(5,vi a)] [] (by kernel_rfl) ?_;refine Z8z [(4,AL (α:=A2_) []),(5,vi a)] [] ⟨rfl,ALe.c (CLe.fl .nil),⟨rfl,ALe.c (CLe.refl _),⟨⟩⟩⟩ True.intro ?_
  exact Kn.D Fm
 ·refine AW.skip (AW.seq ?_)
  obtain ⟨i,m,h⟩:=bS h;refine Q9 Fm (sZ 5 [.s,.s,.k _]) (fun K=>K 2∧True) [] [(7,AL i.1)] [] [] ⟨Q3 (Q2e m) Tryz.call175 [],⟨⟩⟩ ?_
  refine Q0 Fm 3 [] [(4,AL i.1),(5,vi 0)] [] [] ?_;refine AW.ret ?_
  obtain rfl:=Option.some.inj h;exact Kn.D Fm
theorem Z3P {F:Nat} {B:(List Line)} {E:(List Crop)} {i:Int} {e:Int} {r:Bool×Int} (h:Q5k F B E i e=some r) :
  Z6 Tryz.prog 86 [AL B,AL E,vi i,vi e] [] (.t [.c (.d (.bool r.1)),.c (ci r.2)]) []:=by
 refine FI Tryz.func86 Q2 Q4 fun C Fm=>?_
 unfold Q5k at h;refine Q0 Fm 2 [0,1,2,3] [] [] [] ?_
 refine AW.seq (AW.seq ?_);obtain ⟨G,k0,h⟩:=bS h
 refine Q9 Fm [.s,.s,.k _,.s] (fun K=>K 2∧True) [0,1,2,3] [(10,vi G)] [] [] ⟨Q3 (Q2n k0) Tryz.call174 [],⟨⟩⟩ ?_;refine Q0 Fm 2 [0,1,2,3,10] [(21,vb (G != (0:Int)))] [] [] ?_
 refine Q5 h (fun U h=>?_) (fun U h=>?_)
 ·refine Q0 Fm 3 [] [(8,vb false),(9,vi G)] [] [] ?_
  refine AW.ret ?_;obtain rfl:=Option.some.inj h
  exact Kn.D Fm
 ·refine AW.skip (AW.seq (Z2 (r:=r) (fun z:Bool=>Q1h F B E i e z) [0,1,2,3] (fun z=>[(33,vb z)]) [] (fun _=>[]) (fun w0 h=>?_) (fun o0 o=>?_)))
  ·refine Q5 h (fun V h=>?_) (fun V h=>?_)
   ·refine Q0 Fm 2 [] [(8,vb false),(9,vi 2)] [] [] ?_
    refine AW.ret ?_;obtain rfl:=Option.some.inj h
    exact Kn.D Fm
   ·refine AW.skip (AW.seq ?_)
    obtain ⟨a,l0,h⟩:=bS h;refine Q9 Fm (sZ 5 [.s,.s,.k _]) (fun K=>K 2∧True) [2,3] [(11,AL a.1),(12,vi a.2)] [] [] ⟨Q3 (Q2e l0) Tryz.call175 [],⟨⟩⟩ ?_
    refine Q0 Fm 2 [2,3,11,12] [(13,vi 0),(14,vi 0)] [] [] ?_;refine Z2 (r:=r) (fun z:Int×Int=>Q7i F i e a z.1 z.2) [2,3,11,12] (fun z=>[(13,vi z.1),(14,vi z.2)]) [] (fun _=>[]) (fun z h=>?_) (fun s0 T=>?_)
    ·obtain ⟨n,N⟩:=z
     refine AW.seq (AW.block (Q0 Fm 4 [3,11,12,13,14] [(58,vb (decide (a.2≤i)))] [] [] ?_));refine Q5 h (fun Y h=>?_) (fun Y h=>?_)
     ·refine Q0 Fm 2 [] [(8,vb true),(9,vi 0)] [] [] ?_
      refine AW.ret ?_;obtain rfl:=Option.some.inj h
      exact Kn.D Fm
     ·refine Q0 Fm 4 [11,12,13,14] [(62,vb (decide (a.2≤e)))] [] [] ?_
      refine Q5 h (fun Z h=>?_) (fun Z h=>?_)
      ·refine Z2 (r:=r) (fun z:Bool=>Q2p F z) [] (fun z=>[(8,vb z),(9,vi 0)]) [] (fun _=>[]) (fun y0 h=>?_) (fun t0 I=>?_)
       ·refine AW.ret ?_
        obtain rfl:=Option.some.inj h;exact Kn.D Fm
       ·rcases Y7 h with ⟨u,h⟩|⟨u,h⟩
        ·obtain ⟨c0,d0,h⟩:=gS2 h
         refine Q1 Fm (sZ 8 [.s,.s,.s,.w (vb true)]) [] [(8,vb (decide (((4:Int)*n)≤((3:Int)*a.2)))),(9,vi 0)] [] [] (cA (ALe.bool u) (cA (cT c0) (cT (cT d0)))) ?_;exact Kn.R Fm (I (decide (((4:Int)*n)≤((3:Int)*a.2))) h)
        ·refine Q1 Fm (sZ 8 [.s,.s,.s,.w (vb false)]) [] [(8,vb false),(9,vi 0)] [] [] (cT (ALe.bool u)) ?_
         exact Kn.R Fm (I false h)
      ·refine AW.skip (Z2 (r:=r) (fun z:Bool=>Q0s F z) [] (fun z=>[(8,vb z),(9,vi 0)]) [] (fun _=>[]) (fun A0 h=>?_) (fun u0 p=>?_))
       ·refine AW.ret ?_
        obtain rfl:=Option.some.inj h;exact Kn.D Fm
       ·rcases Y7 h with ⟨m,h⟩|⟨m,h⟩
        ·obtain ⟨L,M,h⟩:=gS2 h
         rcases Y7 h with ⟨y,h⟩|⟨y,h⟩
         ·obtain ⟨e0,i0,j0,h⟩:=gS3 h
          refine Q1 Fm (sZ 10 [.s,.s,.s,.w (vb true),.s,.s,.s,.s,.s,.s,.w (vb true)]) [] [(8,vb (decide (((20:Int)*(n+N))≤((19:Int)*a.2)))),(9,vi 0)] [] [] (cA (ALe.bool m) (cA (cT L) (cA (cT M) (cA (ALe.bool y) (cA (cT e0) (cA (cT i0) (cT (cT j0)))))))) ?_;exact Kn.R Fm (p (decide (((20:Int)*(n+N))≤((19:Int)*a.2))) h)
         ·refine Q1 Fm (sZ 10 [.s,.s,.s,.w (vb true),.s,.s,.s,.s,.s,.s,.w (vb false)]) [] [(8,vb false),(9,vi 0)] [] [] (cA (ALe.bool m) (cA (cT L) (cA (cT M) (cT (ALe.bool y))))) ?_
          exact Kn.R Fm (p false h)
        ·refine Q1 Fm (sZ 17 [.s,.s,.s,.w (vb false)]) [] [(8,vb false),(9,vi 0)] [] [] (cT (ALe.bool m)) ?_
         exact Kn.R Fm (p false h)
    ·refine Q0 Fm 3 [2,3,11,12,13,14] [(40,AL a.1),(41,vi (lI a.1)),(42,vi 0)] [] [] ?_
     refine AW.block (W6 Fm [(2,vi i),(3,vi e),(11,AL a.1),(12,vi a.2),(13,vi 0),(14,vi 0),(40,AL a.1),(41,vi (lI a.1)),(42,vi 0)] [] (by kernel_rfl) ?_);refine Z3 (E':=fun z=>[(2,vi i),(3,vi e),(11,AL a.1),(12,vi a.2),(13,vi z.1),(14,vi z.2.1),(40,AL a.1),(41,vi (lI a.1)),(42,vi z.2.2)]) (S':=fun z=>[]) (fun O z p0 P h=>?_) h
     obtain ⟨j,A,b⟩:=z;refine Q0 Fm 1 [2,3,11,12,13,14,40,41,42] [(43,vb (decide (b<(lI a.1))))] [] [] ?_
     refine AW.seq (Q5 h (fun W h=>?_) (fun W h=>?_))
     ·refine AW.skip (Z2 (r:=r) (fun z:Int×Int=>Q2q F b O z.1 z.2) [2,3,11,12,40,41,42] (fun z=>[(13,vi z.1),(14,vi z.2)]) [] (fun _=>[]) (fun z h=>?_) (fun q0 H=>?_))
      ·obtain ⟨m0,n0⟩:=z
       obtain ⟨b0,h⟩:=gS h;refine Q1 Fm [.s,.s] [2,3,11,12,13,14,40,41] [(42,vi (b+1))] [] [] (cT (cT b0)) ?_
       exact Kn.R Fm (P (m0,n0,(b+1)) h)
      ·refine AW.block ?_
       obtain ⟨a0,h⟩:=gS h;refine Y6 Fm (sA 4 []) [2,3,11,12,13,14,40,41,42] [(16,pt 16)] [] [(16,bx [ci ((gl a.1 b.toNat).e0_),ci ((gl a.1 b.toNat).e1_)])] (cT a0) ?_
       refine Y6 Fm (sA 4 []) [2,3,11,12,13,14,16,40,41,42] [(49,vb (decide (j<((gl a.1 b.toNat).e1_))))] [16] [] (cT (True.intro:True)) ?_;refine Q5 h (fun X h=>?_) (fun X h=>?_)
       ·refine Q1 Fm (sA 5 []) [2,3,11,12,40,41,42] [(13,vi (gl a.1 b.toNat).e1_),(14,vi j)] [] [] (cT (True.intro:True)) ?_
        exact Kn.R Fm (H ((gl a.1 b.toNat).e1_,j) h)
       ·refine Q1 Fm (sA 5 []) [2,3,11,12,13,40,41,42] [(14,vi (Q8n A ((gl a.1 b.toNat).e1_)))] [] [] (cT (True.intro:True)) ?_
        exact Kn.R Fm (H (j,(Q8n A ((gl a.1 b.toNat).e1_))) h)
     ·exact AW.exit (Kn.R Fm (T (j,A) h))
  ·rcases Y7 h with ⟨l,h⟩|⟨l,h⟩
   ·refine Q1 Fm (sZ 8 [.s,.s,.w (vb true)]) [0,1,2,3] [(33,vb true)] [] [] (cT (ALe.bool l)) ?_
    exact Kn.R Fm (o true h)
   ·rcases Y7 h with ⟨q,h⟩|⟨q,h⟩
    ·refine Q1 Fm [.s,.s,.w (vb false),.s,.s,.s,.s,.w (vb true),.s,.s,.s] [0,1,2,3] [(33,vb true)] [] [] (cA (ALe.bool l) (cT (ALe.bool q))) ?_
     exact Kn.R Fm (o true h)
    ·refine Q1 Fm [.s,.s,.w (vb false),.s,.s,.s,.s,.w (vb false),.s,.s,.s] [0,1,2,3] [(33,vb (decide ((268435456:Int)<e)))] [] [] (cA (ALe.bool l) (cT (ALe.bool q))) ?_
     exact Kn.R Fm (o (decide ((268435456:Int)<e)) h)
theorem Z3Q {F:Nat} {a:(List Line)} {e:(List Crop)} {i:Int} {r:Bool×Int} (h:Q5l F a e i=some r) :
  Z6 Tryz.prog 88 [AL a,AL e,vi i] [] (.t [.c (.d (.bool r.1)),.c (ci r.2)]) []:=by
 refine FI Tryz.func88 Q2 Q4 fun C Fm=>?_
 unfold Q5l at h;refine Q0 Fm 2 [0,1,2] [] [] [] ?_
 refine AW.seq (AW.seq ?_);obtain ⟨o,W,h⟩:=bS h
 refine Q9 Fm [.s,.s,.k _,.s] (fun K=>K 2∧True) [0,1,2] [(8,vi o)] [] [] ⟨Q3 (Q2n W) Tryz.call174 [],⟨⟩⟩ ?_;refine Q0 Fm 2 [0,1,2,8] [(18,vb (o != (0:Int)))] [] [] ?_
 refine Q5 h (fun H h=>?_) (fun H h=>?_)
 ·refine Q0 Fm 3 [] [(6,vb false),(7,vi o)] [] [] ?_
  refine AW.ret ?_;obtain rfl:=Option.some.inj h
  exact Kn.D Fm
 ·refine AW.skip (AW.seq (Z2 (r:=r) (fun z:Bool=>Q2t F a e i z) [0,1,2] (fun z=>[(25,vb z)]) [] (fun _=>[]) (fun j0 h=>?_) (fun b0 q=>?_)))
  ·refine Q5 h (fun I h=>?_) (fun I h=>?_)
   ·refine Q0 Fm 2 [] [(6,vb false),(7,vi 2)] [] [] ?_
    refine AW.ret ?_;obtain rfl:=Option.some.inj h
    exact Kn.D Fm
   ·refine AW.skip (AW.seq ?_)
    obtain ⟨l,X,h⟩:=bS h;refine Q9 Fm (sZ 5 [.s,.s,.k _]) (fun K=>K 2∧True) [0,1,2] [(10,vi l.2)] [] [] ⟨Q3 (Q2e X) Tryz.call175 [],⟨⟩⟩ ?_
    refine Q0 Fm 1 [0,1,2,10] [(11,vi 0)] [] [] ?_;refine Z2 (r:=r) (fun z:Int=>Q7j F i l z) [2,10] (fun z=>[(11,vi z)]) [] (fun _=>[]) (fun a0 h=>?_) (fun i0 G=>?_)
    ·obtain ⟨U,V,h⟩:=gS2 h
     refine Y6 Fm (sA 8 []) [] [(6,vb (decide ((l.2*i)≤(a0*(1000000:Int))))),(7,vi 0)] [] [] (cA (cT U) (cT (cT V))) ?_;refine AW.ret ?_
     obtain rfl:=Option.some.inj h;exact Kn.D Fm
    ·refine Q0 Fm 3 [1,2,10,11] [(32,AL a),(33,vi (lI a)),(34,vi 0)] [] [] ?_
     refine AW.block (W6 Fm [(1,AL e),(2,vi i),(10,vi l.2),(11,vi 0),(32,AL a),(33,vi (lI a)),(34,vi 0)] [] (by kernel_rfl) ?_);refine Z3 (E':=fun z=>[(1,AL e),(2,vi i),(10,vi l.2),(11,vi z.1),(32,AL a),(33,vi (lI a)),(34,vi z.2)]) (S':=fun z=>[]) (fun p z c0 E h=>?_) h
     obtain ⟨j,b⟩:=z;refine Q0 Fm 1 [1,2,10,11,32,33,34] [(35,vb (decide (b<(lI a))))] [] [] ?_
     refine AW.seq (Q5 h (fun L h=>?_) (fun L h=>?_))
     ·refine AW.skip (Z2 (r:=r) (fun z:Int=>Q2r F b p z) [1,2,10,32,33,34] (fun z=>[(11,vi z)]) [] (fun _=>[]) (fun Z h=>?_) (fun e0 y=>?_))
      ·obtain ⟨T,h⟩:=gS h
       refine Q1 Fm [.s,.s] [1,2,10,11,32,33] [(34,vi (b+1))] [] [] (cT (cT T)) ?_;exact Kn.R Fm (E (Z,(b+1)) h)
      ·refine AW.block ?_
       obtain ⟨N,h⟩:=gS h;refine Y6 Fm (sA 4 []) [1,2,10,11,32,33,34] [(13,pt 13)] [] [(13,bx [ci ((gl a b.toNat).p_),.d (DL (gl a b.toNat).g_.t_),ci ((gl a b.toNat).c_),ci ((gl a b.toNat).s_)])] (cT N) ?_
       refine Z2 (r:=r) (fun z:Bool=>Q2s F a j b p z) [1,2,10,11,13,32,33,34] (fun z=>[(50,vb z)]) [13] (fun _=>[]) (fun k0 h=>?_) (fun d0 u=>?_)
       ·refine Q5 h (fun M h=>?_) (fun M h=>?_)
        ·obtain ⟨B,Y,h⟩:=bS h
         obtain ⟨P,h⟩:=gS h;refine Q9 Fm [.s,.s,.s,.k _,.s,.s] (fun K=>K 3∧(_∧True)∧True) [1,2,10,32,33,34] [(11,vi (j+B))] [] [] ⟨Q3 (Z1A Y) Tryz.call68 [],⟨P,⟨⟩⟩,⟨⟩⟩ ?_
         exact Kn.R Fm (y (j+B) h)
        ·exact AW.skip (Kn.R Fm (y j h))
       ·obtain ⟨l0,A,h⟩:=bS h
        rcases Y7 h with ⟨n,h⟩|⟨n,h⟩
        ·obtain ⟨O,h⟩:=gS h
         refine Q9 Fm (sZ 9 [.s,.s,.k _,.w (vb true)]) (fun K=>K 2∧_∧_∧True) [1,2,10,11,13,32,33,34] [(42,AL e),(43,.v (.c (.ptr 13 2))),(44,vi (gl a b.toNat).c_),(45,.v (.c (.elm [.str (gl e ((gl a b.toNat).c_).toNat).n_,.int .i64 (gl e ((gl a b.toNat).c_).toNat).f_,.int .i64 (gl e ((gl a b.toNat).c_).toNat).m_]))),(46,.v (.c (.elm [.int .i64 (gl e ((gl a b.toNat).c_).toNat).m_]))),(47,vi (gl e ((gl a b.toNat).c_).toNat).m_),(48,vi (Q6O .i64 ((gl e ((gl a b.toNat).c_).toNat).m_) (28:Int))),(49,vb ((Q6O .i64 ((gl e ((gl a b.toNat).c_).toNat).m_) (28:Int)) != (0:Int))),(50,vb ((Q6O .i64 ((gl e ((gl a b.toNat).c_).toNat).m_) (28:Int)) != (0:Int)))] [13] [] ⟨Q3 (Q0K A) Tryz.call177 [],ALe.bool n,O,⟨⟩⟩ ?_;exact Kn.R Fm (u ((Q6O .i64 ((gl e ((gl a b.toNat).c_).toNat).m_) (28:Int)) != (0:Int)) h)
        ·refine Q9 Fm (sZ 9 [.s,.s,.k _,.w (vb false)]) (fun K=>K 2∧_∧True) [1,2,10,11,13,32,33,34] [(50,vb false)] [13] [] ⟨Q3 (Q0K A) Tryz.call177 [],ALe.bool n,⟨⟩⟩ ?_
         exact Kn.R Fm (u false h)
     ·exact AW.exit (Kn.R Fm (G j h))
  ·rcases Y7 h with ⟨m,h⟩|⟨m,h⟩
   ·refine Q1 Fm [.s,.s,.w (vb true),.s,.s,.s] [0,1,2] [(25,vb true)] [] [] (cT (ALe.bool m)) ?_
    exact Kn.R Fm (q true h)
   ·refine Q1 Fm [.s,.s,.w (vb false),.s,.s,.s] [0,1,2] [(25,vb (decide ((1000000:Int)<i)))] [] [] (cT (ALe.bool m)) ?_
    exact Kn.R Fm (q (decide ((1000000:Int)<i)) h)
theorem Q8T {F:Nat} {i:(List Crop)} {a:(List Rg_)} {e:Int} {b:Int} {r:Int} (h:Q3m F i a e b=some r) :
  Z6 Tryz.prog 179 [AL i,AL a,vi e,vi b] [] (vi r) []:=by
 refine FI Tryz.func179 Q2 Q4 fun C Fm=>?_
 unfold Q3m at h;refine Q0 Fm 1 [0,1,2,3] [] [] [] ?_
 refine AW.seq (AW.seq ?_);obtain ⟨m,H,h⟩:=bS h
 refine Q9 Fm [.s,.k _,.s] (fun K=>K 1∧True) [0,1,2,3] [(9,vi m)] [] [] ⟨Q3 (Z0v H) Tryz.call25 [],⟨⟩⟩ ?_;refine Q0 Fm 2 [0,1,2,3,9] [(15,vb (m != (0:Int)))] [] [] ?_
 refine Q5 h (fun t h=>?_) (fun t h=>?_)
 ·refine Q0 Fm 2 [] [(8,vi m)] [] [] ?_
  refine AW.ret ?_;obtain rfl:=Option.some.inj h
  exact Kn.D Fm
 ·refine AW.skip (Z2 (r:=r) (fun z:Unit=>Q7g F e b) [2,3] (fun _=>[]) [] (fun _=>[]) (fun z h=>?_) (fun L q=>?_))
  ·refine AW.seq (Z2 (r:=r) (fun z:Bool=>Q2m F b z) [3] (fun z=>[(34,vb z)]) [] (fun _=>[]) (fun P h=>?_) (fun M n=>?_))
   ·refine Q5 h (fun A h=>?_) (fun A h=>?_)
    ·refine Q0 Fm 1 [] [(8,vi 18)] [] [] ?_
     refine AW.ret ?_;obtain rfl:=Option.some.inj h
     exact Kn.D Fm
    ·refine AW.skip (AW.seq (Z2 (r:=r) (fun z:Bool=>Q4x F z) [] (fun z=>[(40,vb z)]) [] (fun _=>[]) (fun T h=>?_) (fun N o=>?_)))
     ·refine Q5 h (fun B h=>?_) (fun B h=>?_)
      ·refine Q0 Fm 1 [] [(8,vi 2)] [] [] ?_
       refine AW.ret ?_;obtain rfl:=Option.some.inj h
       exact Kn.D Fm
      ·refine AW.skip (Q0 Fm 1 [] [(8,vi 0)] [] [] ?_)
       refine AW.ret ?_;obtain rfl:=Option.some.inj h
       exact Kn.D Fm
     ·rcases Y7 h with ⟨l,h⟩|⟨l,h⟩
      ·refine Q1 Fm [.s,.s,.w (vb true),.s,.s,.s] [] [(40,vb true)] [] [] (cT (ALe.bool l)) ?_
       exact Kn.R Fm (o true h)
      ·refine Q1 Fm [.s,.s,.w (vb false),.s,.s,.s] [] [(40,vb (decide ((10:Int)<b)))] [] [] (cT (ALe.bool l)) ?_
       exact Kn.R Fm (o (decide ((10:Int)<b)) h)
   ·rcases Y7 h with ⟨j,h⟩|⟨j,h⟩
    ·refine Q1 Fm [.s,.s,.w (vb true),.s,.s,.s] [3] [(34,vb true)] [] [] (cT (ALe.bool j)) ?_
     exact Kn.R Fm (n true h)
    ·refine Q1 Fm [.s,.s,.w (vb false),.s,.s,.s] [3] [(34,vb (decide ((100:Int)<e)))] [] [] (cT (ALe.bool j)) ?_
     exact Kn.R Fm (n (decide ((100:Int)<e)) h)
  ·refine Q0 Fm 3 [0,2,3] [(17,AL a),(18,vi (lI a)),(19,vi 0)] [] [] ?_
   refine AW.block (W6 Fm [(0,AL i),(2,vi e),(3,vi b),(17,AL a),(18,vi (lI a)),(19,vi 0)] [] (by kernel_rfl) ?_);refine Z3 (E':=fun z=>[(0,AL i),(2,vi e),(3,vi b),(17,AL a),(18,vi (lI a)),(19,vi z)]) (S':=fun z=>[]) (fun O c I p h=>?_) h
   refine Q0 Fm 1 [0,2,3,17,18,19] [(20,vb (decide (c<(lI a))))] [] [] ?_;refine AW.seq (Q5 h (fun u h=>?_) (fun u h=>?_))
   ·refine AW.skip (AW.seq (AW.block ?_))
    obtain ⟨E,h⟩:=gS h;refine Y6 Fm (sA 4 []) [0,2,3,17,18,19] [(11,pt 11)] [] [(11,bx [ci ((gl a c.toNat).y_),ci ((gl a c.toNat).c_),.d (DL (gl a c.toNat).g_.t_)])] (cT E) ?_
    refine Q0 Fm 5 [0,2,3,17,18,19] [(27,vb (decide ((lI i)≤((gl a c.toNat).c_))))] [] [] ?_;refine Q5 h (fun y h=>?_) (fun y h=>?_)
    ·refine Q0 Fm 1 [] [(8,vi 13)] [] [] ?_
     refine AW.ret ?_;obtain rfl:=Option.some.inj h
     exact Kn.D Fm
    ·refine AW.skip ?_
     obtain ⟨G,h⟩:=gS h;refine Q1 Fm [.s,.s] [0,2,3,17,18] [(19,vi (c+1))] [] [] (cT (cT G)) ?_
     exact Kn.R Fm (p (c+1) h)
   ·exact AW.exit (Kn.R Fm (q () h))
theorem Q8S {F:Nat} {a:(List Line)} {i:(List Crop)} {j:(List Rg_)} {c:Int} {e:Int} {r:(List Rect)} (h:Q1W F a i j c e=some r) :
  Z6 Tryz.prog 180 [AL a,AL i,AL j,vi c,vi e] [] (AL r) []:=by
 refine FI Tryz.func180 Q2 Q4 fun C Fm=>?_
 unfold Q1W at h;refine Q0 Fm 1 [0,1,2,3,4] [] [] [] ?_
 refine G9 Fm [.m] (fun K=>True) [0,1,2,3,4] [(11,ow 11)] [] [(11,AO ([]:List Rect))] True.intro [(11,.arr 4 (0) (fun _=>[]))] ⟨OLe.is ((Is.nil (α:=Rect))),⟨⟩⟩ ?_;refine Z2 (r:=r) (fun z:(List Rect)=>Z0r F z) [] (fun z=>[(11,AL z)]) [] (fun _=>[]) (fun Y h=>?_) (fun e0 A=>?_)
 ·refine Q0 Fm 2 [] [(10,AL Y)] [] [] ?_
  refine AW.ret ?_;obtain rfl:=Option.some.inj h
  exact Kn.D Fm
 ·refine Q0 Fm 3 [1,2,3,4,11] [(16,AL a),(17,vi (lI a)),(18,vi 0)] [11] [] ?_
  refine AW.block (W6 Fm [(1,AL i),(2,AL j),(3,vi c),(4,vi e),(11,ow 11),(16,AL a),(17,vi (lI a)),(18,vi 0)] [(11,AO ([]:List Rect))] (by kernel_rfl) ?_);refine Kn.frz [(1,AL i),(2,AL j),(3,vi c),(4,vi e),(11,AL ([]:List Rect)),(16,AL a),(17,vi (lI a)),(18,vi 0)] [] (by kernel_rfl) (by kernel_rfl) (by kernel_rfl) ?_
  refine W6 Fm [(1,AL i),(2,AL j),(3,vi c),(4,vi e),(11,AL ([]:List Rect)),(16,AL a),(17,vi (lI a)),(18,vi 0)] [] (by kernel_rfl) ?_;refine Z3 (E':=fun z=>[(1,AL i),(2,AL j),(3,vi c),(4,vi e),(11,AL z.1),(16,AL a),(17,vi (lI a)),(18,vi z.2)]) (S':=fun z=>[]) (fun o z a0 u h=>?_) h
  obtain ⟨l,b⟩:=z;refine Q0 Fm 1 [1,2,3,4,11,16,17,18] [(19,vb (decide (b<(lI a))))] [] [] ?_
  refine AW.seq (Q5 h (fun B h=>?_) (fun B h=>?_))
  ·refine AW.skip (Z2 (r:=r) (fun z:(List Rect)=>Q2k F b o z) [1,2,3,4,16,17,18] (fun z=>[(11,AL z)]) [] (fun _=>[]) (fun X h=>?_) (fun d0 p=>?_))
   ·obtain ⟨O,h⟩:=gS h
    refine Q1 Fm [.s,.s] [1,2,3,4,11,16,17] [(18,vi (b+1))] [] [] (cT (cT O)) ?_;exact Kn.R Fm (u (X,(b+1)) h)
   ·refine AW.block ?_
    obtain ⟨H,h⟩:=gS h;refine Y6 Fm (sA 4 []) [1,2,3,4,11,16,17,18] [(13,pt 13)] [] [(13,bx [ci ((gl a b.toNat).p_),.d (DL (gl a b.toNat).g_.t_),ci ((gl a b.toNat).c_),ci ((gl a b.toNat).s_)])] (cT H) ?_
    refine AW.seq (AW.seq ?_);obtain ⟨Z,P,h⟩:=bS h
    refine Q9 Fm [.s,.s,.k _,.s] (fun K=>K 2∧True) [1,2,3,4,11,13,16,17,18] [(25,vb (!Z))] [13] [] ⟨Q3 (Q0K P) Tryz.call177 [],⟨⟩⟩ ?_;refine Q5 h (fun E h=>?_) (fun E h=>?_)
    ·exact AW.exit (Kn.R Fm (p l h))
    ·refine AW.skip (Q0 Fm 4 [1,2,3,4,11,13,16,17,18] [(14,AL (gl a b.toNat).g_.t_)] [13] [] ?_)
     refine Z2 (r:=r) (fun z:(List Rect)=>Q2l F l b o z) [1,2,3,4,11,16,17,18] (fun z=>[(14,AL z)]) [] (fun _=>[]) (fun j0 h=>?_) (fun c0 y=>?_)
     ·obtain ⟨t,V,h⟩:=bS h
      refine Q9 Fm [.s,.s,.k _,.s] (fun K=>K 2∧True) [1,2,3,4,16,17,18] [(11,AL t)] [] [] ⟨Q3 (U2 V) Tryz.call112 [],⟨⟩⟩ ?_;exact Kn.R Fm (p t h)
     ·obtain ⟨I,L,h⟩:=gS2 h
      refine Y6 Fm (sA 5 []) [1,2,3,4,11,13,14,16,17,18] [(15,vi ((c-e)+1))] [13] [] (cA (cT I) (cT (cT L))) ?_;refine AW.block (W6 Fm [(1,AL i),(2,AL j),(3,vi c),(4,vi e),(11,AL l),(13,pt 13),(14,AL ((gl a b.toNat).g_.t_)),(15,vi ((c-e)+1)),(16,AL a),(17,vi (lI a)),(18,vi b)] [(13,bx [ci ((gl a b.toNat).p_),.d (DL (gl a b.toNat).g_.t_),ci ((gl a b.toNat).c_),ci ((gl a b.toNat).s_)])] (by kernel_rfl) ?_)
      refine Z3 (E':=fun z=>[(1,AL i),(2,AL j),(3,vi c),(4,vi e),(11,AL l),(13,pt 13),(14,AL z.1),(15,vi z.2),(16,AL a),(17,vi (lI a)),(18,vi b)]) (S':=fun z=>[(13,bx [ci ((gl a b.toNat).p_),.d (DL (gl a b.toNat).g_.t_),ci ((gl a b.toNat).c_),ci ((gl a b.toNat).s_)])]) (fun i0 z b0 w h=>?_) h;obtain ⟨W,n⟩:=z
      refine AW.seq (Q0 Fm 3 [1,2,3,4,11,13,14,15,16,17,18] [(35,vb (decide (n<c)))] [13] [] ?_);refine Q5 h (fun G h=>?_) (fun G h=>?_)
      ·refine AW.skip (AW.seq (AW.block ?_))
       obtain ⟨M,h⟩:=gS h;obtain ⟨k0,T,h⟩:=bS h
       obtain ⟨q,U,h⟩:=bS h;refine Q9 Fm (sA 10 [.k _,.k _,.s]) (fun K=>_∧K 10∧K 11∧True) [1,2,3,4,11,13,15,16,17,18] [(14,AL q)] [13] [] ⟨M,Q3 (Z3R T) Tryz.call119 [],Q3 (U2 U) Tryz.call112 [],⟨⟩⟩ ?_
       obtain ⟨N,h⟩:=gS h;refine Q1 Fm [.s,.s,.s] [1,2,3,4,11,13,14,16,17,18] [(15,vi (n+1))] [13] [] (cT (cT N)) ?_
       exact Kn.R Fm (w (q,(n+1)) h)
      ·exact AW.exit (Kn.R Fm (y W h))
  ·exact AW.exit (Kn.R Fm (A l h))
theorem Z3N {F:Nat} {e:(List Line)} {i:(List Crop)} {j:(List Rg_)} {l:Int} {m:Int} {a:Int} {r:Bool×Int} (h:Q5i F e i j l m a=some r) :
  Z6 Tryz.prog 90 [AL e,AL i,AL j,vi l,vi m,vi a] [] (.t [.c (.d (.bool r.1)),.c (ci r.2)]) []:=by
 refine FI Tryz.func90 Q2 Q4 fun C Fm=>?_
 unfold Q5i at h;refine Q0 Fm 2 [0,1,2,3,4,5] [] [] [] ?_
 refine AW.seq (AW.seq ?_);obtain ⟨n,G,h⟩:=bS h
 refine Q9 Fm [.s,.s,.k _,.s] (fun K=>K 2∧True) [0,1,2,3,4,5] [(14,vi n)] [] [] ⟨Q3 (Q2n G) Tryz.call174 [],⟨⟩⟩ ?_;refine Q0 Fm 2 [0,1,2,3,4,5,14] [(22,vb (n != (0:Int)))] [] [] ?_
 refine Q5 h (fun u h=>?_) (fun u h=>?_)
 ·refine Q0 Fm 3 [] [(12,vb false),(13,vi n)] [] [] ?_
  refine AW.ret ?_;obtain rfl:=Option.some.inj h
  exact Kn.D Fm
 ·refine AW.skip (AW.seq (AW.seq ?_))
  obtain ⟨o,H,h⟩:=bS h;refine Q9 Fm (sA 4 [.k _,.s]) (fun K=>K 4∧True) [0,1,2,3,4,5] [(15,vi o)] [] [] ⟨Q3 (Q8T H) Tryz.call179 [],⟨⟩⟩ ?_
  refine Q0 Fm 2 [0,1,2,3,4,5,15] [(30,vb (o != (0:Int)))] [] [] ?_;refine Q5 h (fun y h=>?_) (fun y h=>?_)
  ·refine Q0 Fm 3 [] [(12,vb false),(13,vi o)] [] [] ?_
   refine AW.ret ?_;obtain rfl:=Option.some.inj h
   exact Kn.D Fm
  ·refine AW.skip (AW.seq (Z2 (r:=r) (fun z:Bool=>Q4z F e i j l m a z) [0,1,2,3,4,5] (fun z=>[(37,vb z)]) [] (fun _=>[]) (fun P h=>?_) (fun O p=>?_)))
   ·refine Q5 h (fun A h=>?_) (fun A h=>?_)
    ·refine Q0 Fm 2 [] [(12,vb false),(13,vi 2)] [] [] ?_
     refine AW.ret ?_;obtain rfl:=Option.some.inj h
     exact Kn.D Fm
    ·refine AW.skip (AW.seq ?_)
     obtain ⟨q,I,h⟩:=bS h;refine Q9 Fm (sZ 5 [.s,.s,.k _]) (fun K=>K 2∧True) [0,1,2,3,4,5] [(17,vi q.2)] [] [] ⟨Q3 (Q2e I) Tryz.call175 [],⟨⟩⟩ ?_
     refine AW.seq ?_;obtain ⟨T,L,h⟩:=bS h
     obtain ⟨N,M,h⟩:=bS h;obtain ⟨B,E,h⟩:=gS2 h
     refine Q9 Fm (sA 5 (sZ 7 [.k _,.k _])) (fun K=>K 5∧K 6∧(_∧True)∧(_∧True)∧True) [] [(12,vb (decide ((N*1000000)≤(q.2*a)))),(13,vi 0)] [] [] ⟨Q3 (Q8S L) Tryz.call180 [],Q3 (Z1y M) Tryz.call157 [],⟨B,⟨⟩⟩,⟨E,⟨⟩⟩,⟨⟩⟩ ?_;refine AW.ret ?_
     obtain rfl:=Option.some.inj h;exact Kn.D Fm
   ·rcases Y7 h with ⟨b,h⟩|⟨b,h⟩
    ·refine Q1 Fm [.s,.s,.w (vb true),.s,.s,.s] [0,1,2,3,4,5] [(37,vb true)] [] [] (cT (ALe.bool b)) ?_
     exact Kn.R Fm (p true h)
    ·refine Q1 Fm [.s,.s,.w (vb false),.s,.s,.s] [0,1,2,3,4,5] [(37,vb (decide ((1000000:Int)<a)))] [] [] (cT (ALe.bool b)) ?_
     exact Kn.R Fm (p (decide ((1000000:Int)<a)) h)
theorem Z3O {F:Nat} {e:(List Line)} {i:(List Crop)} {j:(List Rg_)} {l:Int} {m:Int} {r:Re_×Int} (h:Q5j F e i j l m=some r) :
  Z6 Tryz.prog 91 [AL e,AL i,AL j,vi l,vi m] [] (.t [.g [.d (DL r.1.t_)],.c (ci r.2)]) []:=by
 refine FI Tryz.func91 Q2 Q4 fun C Fm=>?_
 unfold Q5j at h;refine Q0 Fm 2 [0,1,2,3,4] [(10,pt 10)] [] [(10,bx [.fl 0 fun _=>[]])] ?_
 refine AW.seq (AW.seq ?_);obtain ⟨a,q,h⟩:=bS h
 refine Q9 Fm [.s,.s,.k _,.s] (fun K=>K 2∧True) [0,1,2,3,4,10] [(12,vi a)] [10] [] ⟨Q3 (Q2n q) Tryz.call174 [],⟨⟩⟩ ?_;refine Q0 Fm 2 [0,1,2,3,4,10,12] [(18,vb (a != (0:Int)))] [10] [] ?_
 refine Q5 h (fun o h=>?_) (fun o h=>?_)
 ·refine Y6 Fm [.w (.v (.g [.d (DL (α:=Rect) [])])),.s,.s,.s] [10] [(11,vi a)] [] [(10,bx [.d (DL (α:=Rect) [])])] (cT (ALe.g ⟨CLe.fl .nil,⟨⟩⟩:ALe (.v (.g [.fl 0 fun _=>[]])) (.v (.g [.d (DL (α:=Rect) [])])))) ?_
  refine AW.ret ?_;obtain rfl:=Option.some.inj h
  exact Kn.D Fm
 ·refine AW.skip (AW.seq (AW.seq ?_))
  obtain ⟨b,u,h⟩:=bS h;refine Q9 Fm (sA 4 [.k _,.s]) (fun K=>K 4∧True) [0,1,2,3,4,10] [(13,vi b)] [10] [] ⟨Q3 (Q8T u) Tryz.call179 [],⟨⟩⟩ ?_
  refine Q0 Fm 2 [0,1,2,3,4,10,13] [(27,vb (b != (0:Int)))] [10] [] ?_;refine Q5 h (fun p h=>?_) (fun p h=>?_)
  ·refine Y6 Fm [.w (.v (.g [.d (DL (α:=Rect) [])])),.s,.s,.s] [10] [(11,vi b)] [] [(10,bx [.d (DL (α:=Rect) [])])] (cT (ALe.g ⟨CLe.fl .nil,⟨⟩⟩:ALe (.v (.g [.fl 0 fun _=>[]])) (.v (.g [.d (DL (α:=Rect) [])])))) ?_
   refine AW.ret ?_;obtain rfl:=Option.some.inj h
   exact Kn.D Fm
  ·refine AW.skip (AW.seq ?_)
   obtain ⟨B,y,h⟩:=bS h;obtain ⟨n,A,h⟩:=bS h
   refine Q9 Fm (sA 5 [.k _,.k _,.s,.s,.s,.s]) (fun K=>K 5∧K 6∧True) [10] [(11,vi n.2)] [] [(10,bx [.d (DL n.1.t_)])] ⟨Q3 (Q8S y) Tryz.call180 [],Q3 (Z0D A) Tryz.call118 [],⟨⟩⟩ ?_;refine AW.ret ?_
   obtain rfl:=Option.some.inj h;exact Kn.D Fm
theorem Z1j {F:Nat} {d0:Tape} {n:(List Crop)} {M:Int} {r:Tape×(List Crop)×(List Line)×(List Int)×(List Re_)} (h:Q0L F d0 n M=some r) :
  Z6 Tryz.prog 79 [pt 0,ow 1,vi M] [(0,bx (gC d0)),(1,AO n)] (.t [.c (.own 100),.c (.d (DL r.2.2.2.1)),.c (.d (DL r.2.2.2.2))]) [(0,bx (gC r.1)),(1,AO r.2.1),(100,AO r.2.2.1)]:=by
 refine FI Tryz.func79 Q2 Q4 fun C Fm=>?_
 unfold Q0L at h;refine Q3x Fm [.m,.s,.s] (fun K=>True) [0,1,2] [] [0,1] [] True.intro ?_
 refine G9 Fm [.m] (fun K=>True) [0,1,2] [(9,ow 9)] [0,1] [(9,AO ([]:List Int))] True.intro [(9,.arr 1 (0) (fun _=>[]))] ⟨OLe.is ((Is.nil (α:=Int))),⟨⟩⟩ ?_;refine G9 Fm [.m] (fun K=>True) [0,1,2,9] [(10,ow 10)] [0,1,9] [(10,AO ([]:List Re_))] True.intro [(10,.arr 1 (0) (fun _=>[]))] ⟨OLe.is ((Is.nil (α:=Re_))),⟨⟩⟩ ?_
 refine G9 Fm [.m] (fun K=>True) [0,1,2,9,10] [(11,ow 11)] [0,1,9,10] [(11,AO ([]:List Line))] True.intro [(11,.arr 4 (0) (fun _=>[]))] ⟨OLe.is ((Is.nil (α:=Line))),⟨⟩⟩ ?_;refine Z2 (r:=r) (fun z:(List Int)×Int×(List Int)×(List Re_)=>Q1O F n M z.1 z.2.1 z.2.2.1 z.2.2.2) [0,1,2,9,10,11] (fun _=>[]) [1,11] (fun z=>[(0,bx [.d (DL z.1),ci z.2.1]),(9,AO z.2.2.1),(10,AO z.2.2.2)]) (fun z h=>?_) (fun u1 k0=>?_)
 ·obtain ⟨L1,M1,q,p⟩:=z
  refine Z2 (r:=r) (fun z:(List Line)×(List Int)×Int=>Q4i F n q p z.1 z.2.1 z.2.2) [9,10,11] (fun _=>[]) [1,9,10] (fun z=>[(0,bx [.d (DL z.2.1),ci z.2.2]),(11,AO z.1)]) (fun z h=>?_) (fun G1 q0=>?_)
  ·obtain ⟨H,I,L⟩:=z
   refine Q0 Fm 6 [] [(6,ow 11),(7,ow 9),(8,ow 10)] [0,1,9,10,11] [] ?_;refine AW.ret ?_
   obtain rfl:=Option.some.inj h;refine W6 Fm [(6,ow 11),(7,ow 9),(8,ow 10)] [(9,AO q),(0,bx [.d (DL I),ci L]),(1,AO n),(10,AO p),(11,AO H)] (by kernel_rfl) ?_
   refine Kn.frz [(6,ow 11),(7,AL q),(8,ow 10)] [(0,bx [.d (DL I),ci L]),(1,AO n),(10,AO p),(11,AO H)] (by kernel_rfl) (by kernel_rfl) (by kernel_rfl) ?_;refine W6 Fm [(6,ow 11),(7,AL q),(8,ow 10)] [(10,AO p),(0,bx [.d (DL I),ci L]),(1,AO n),(11,AO H)] (by kernel_rfl) ?_
   refine Kn.frz [(6,ow 11),(7,AL q),(8,AL p)] [(0,bx [.d (DL I),ci L]),(1,AO n),(11,AO H)] (by kernel_rfl) (by kernel_rfl) (by kernel_rfl) ?_;exact Q3e Fm [(100,11)] [(6,ow 100),(7,AL q),(8,AL p)] [(0,bx [.d (DL I),ci L]),(1,AO n),(100,AO H)] (by kernel_rfl) (by kernel_rfl) (by kernel_rfl) (by kernel_rfl) (Q3H Fm (by kernel_rfl))
  ·refine AW.seq ?_
   obtain ⟨K0,h⟩:=gS h;obtain ⟨O,a1,h⟩:=bS h
   refine Q9 Fm [.s,.s,.s,.k _,.s] (fun K=>(_∧True)∧K 3∧True) [0,1,9,10,11] [(14,vi O.2)] [1,9,10,11] [(0,bx (gC O.1))] ⟨⟨K0,⟨⟩⟩,Q3 (Y3 a1) Tryz.call15 [(0,0)],⟨⟩⟩ ?_;refine AW.block (W6 Fm [(0,pt 0),(1,ow 1),(9,ow 9),(10,ow 10),(11,ow 11),(14,vi O.2)] [(0,bx [.d (DL O.1.l_),ci O.1.at_]),(1,AO n),(9,AO q),(10,AO p),(11,AO ([]:List Line))] (by kernel_rfl) ?_)
   refine Z3 (E':=fun z=>[(0,pt 0),(1,ow 1),(9,ow 9),(10,ow 10),(11,ow 11),(14,vi z.1)]) (S':=fun z=>[(0,bx [.d (DL z.2.1),ci z.2.2.1]),(1,AO n),(9,AO q),(10,AO p),(11,AO z.2.2.2)]) (fun T z w1 l0 h=>?_) h;obtain ⟨u,m1,n1,l⟩:=z
   refine AW.seq (Q0 Fm 2 [0,1,9,10,11,14] [(54,vb (decide ((0:Int)<u)))] [0,1,9,10,11] [] ?_);refine Q5 h (fun t0 h=>?_) (fun t0 h=>?_)
   ·refine AW.skip (Z2 (r:=r) (fun z:(List Int)×Int×(List Line)=>Q0G F u T z.1 z.2.1 z.2.2) [0,1,9,10,14] (fun _=>[(11,ow 135)]) [1,9,10] (fun z=>[(0,bx [.d (DL z.1),ci z.2.1]),(135,AO z.2.2)]) (fun z h=>?_) (fun E1 X=>?_))
    ·obtain ⟨p1,q1,s1⟩:=z
     obtain ⟨W0,h⟩:=gS h;refine Q1 Fm [.s,.s,.s] [0,1,9,10,11] [(14,vi (u-1))] [0,1,9,10,135] [] (cT (cT W0)) ?_
     exact Q1f Fm [(11,135)] (l0 ((u-1),p1,q1,s1) h)
    ·refine AW.block (AW.seq ?_)
     obtain ⟨e,b1,h⟩:=bS h;refine Q9 Fm [.s,.s,.s,.k _,.s] (fun K=>K 3∧True) [0,1,9,10,11,14] [(15,vi e.2)] [1,9,10,11] [(0,bx (gC e.1))] ⟨Q3 (Y3 b1) Tryz.call15 [(0,0)],⟨⟩⟩ ?_
     refine AW.seq ?_;obtain ⟨o,c1,h⟩:=bS h
     refine Q9 Fm [.s,.k _,.s,.s] (fun K=>K 1∧True) [0,1,9,10,11,14,15] [(16,pt 16)] [1,9,10,11] [(0,bx (gC o.1)),(16,bx [.own 62]),(62,AO o.2.t_)] ⟨Q3 (Z1M c1) Tryz.call129 [(0,0),(100,62)],⟨⟩⟩ ?_;refine Z2 (r:=r) (fun z:(List Rect)=>Q1N F n p u l e o T z) [0,1,9,10,11,14,15,16] (fun _=>[]) [0,1,9,10,11,16] (fun z=>[(62,AO z)]) (fun c0 h=>?_) (fun A1 n0=>?_)
     ·refine AW.seq (W6 Fm [(0,pt 0),(1,ow 1),(9,ow 9),(10,ow 10),(11,ow 11),(14,vi u),(15,vi e.2),(16,pt 16)] [(62,AO c0),(0,bx (gC o.1)),(1,AO n),(9,AO q),(10,AO p),(11,AO l),(16,bx [.own 62])] (by kernel_rfl) ?_)
      refine Kn.frz [(0,pt 0),(1,ow 1),(9,ow 9),(10,ow 10),(11,ow 11),(14,vi u),(15,vi e.2),(16,pt 16)] [(0,bx (gC o.1)),(1,AO n),(9,AO q),(10,AO p),(11,AO l),(16,bx [.d (DL c0)])] (by kernel_rfl) (by kernel_rfl) (by kernel_rfl) ?_;obtain ⟨a0,h⟩:=gS h
      obtain ⟨e0,d1,h⟩:=bS h;refine Q9 Fm (sA 7 [.k _,.s]) (fun K=>_∧_∧K 7∧True) [0,1,9,10,11,14,15] [(18,AL e0)] [0,1,9,10,11] [] ⟨a0,(Z7 a0),Q3 (U2 d1) Tryz.call112 [],⟨⟩⟩ ?_
      refine Z2 (r:=r) (fun z:(List Rect)=>Q1M F n u l e o T z) [0,1,9,10,11,14,15] (fun z=>[(18,AL z)]) [0,1,9,10,11] (fun _=>[]) (fun E h=>?_) (fun D1 p0=>?_)
      ·refine Q0 Fm 3 [0,1,9,10,11,14,15,18] [(120,vb (decide ((0:Int)<(lI E))))] [0,1,9,10,11] [] ?_
       refine Q5 h (fun y0 h=>?_) (fun y0 h=>?_)
       ·obtain ⟨T0,h⟩:=gS h
        obtain ⟨G,i1,h⟩:=bS h;obtain ⟨A,j1,h⟩:=bS h
        obtain ⟨U0,V0,h⟩:=gS2 h;refine Z0e Fm (sA 8 [.k _,.s,.k _,.s,.s,.w (AL [(⟨(e.2+1),(⟨E⟩:Re_),G.2,((1:Int)+A.2)⟩:Line)]),.s,.s]) (fun K=>(_∧True)∧K 8∧K 10∧(_∧True)∧_∧(_∧_∧True)∧True) [0,1,9,10,14] [(11,ow 135)] [1,9,10] [(0,bx (gC A.1)),(135,AO (l++([(⟨(e.2+1),(⟨E⟩:Re_),G.2,((1:Int)+A.2)⟩:Line)]:List Line)))] ⟨⟨T0,⟨⟩⟩,Q3 (Y3 i1) Tryz.call15 [(0,0)],Q3 (Y3 j1) Tryz.call15 [(0,0)],⟨U0,⟨⟩⟩,Z0I (⟨(e.2+1),(⟨E⟩:Re_),G.2,((1:Int)+A.2)⟩:Line),⟨V0,lfl ([(⟨(e.2+1),(⟨E⟩:Re_),G.2,((1:Int)+A.2)⟩:Line)]:List Line),⟨⟩⟩,⟨⟩⟩ [(135,rAp l ([(⟨(e.2+1),(⟨E⟩:Re_),G.2,((1:Int)+A.2)⟩:Line)]:List Line))] ⟨oAp,⟨⟩⟩ ?_
        exact Kn.R Fm (X (A.1.l_,A.1.at_,(l++([(⟨(e.2+1),(⟨E⟩:Re_),G.2,((1:Int)+A.2)⟩:Line)]:List Line))) h)
       ·exact AW.skip (Q1f Fm [(135,11)] (X (o.1.l_,o.1.at_,l) h))
      ·refine Q0 Fm 3 [0,1,9,10,11,14,15,18] [(106,ow 11),(107,vi (lI l)),(108,vi 0)] [0,1,9,10,11] [] ?_
       refine AW.block (W6 Fm [(0,pt 0),(1,ow 1),(9,ow 9),(10,ow 10),(11,ow 11),(14,vi u),(15,vi e.2),(18,AL e0),(106,ow 11),(107,vi (lI l)),(108,vi 0)] [(0,bx (gC o.1)),(1,AO n),(9,AO q),(10,AO p),(11,AO l)] (by kernel_rfl) ?_);refine Z3 (E':=fun z=>[(0,pt 0),(1,ow 1),(9,ow 9),(10,ow 10),(11,ow 11),(14,vi u),(15,vi e.2),(18,AL z.1),(106,ow 11),(107,vi (lI l)),(108,vi z.2)]) (S':=fun z=>[(0,bx (gC o.1)),(1,AO n),(9,AO q),(10,AO p),(11,AO l)]) (fun K1 z B1 o0 h=>?_) h
       obtain ⟨o1,D⟩:=z;refine Q0 Fm 1 [0,1,9,10,11,14,15,18,106,107,108] [(109,vb (decide (D<(lI l))))] [0,1,9,10,11] [] ?_
       refine AW.seq (Q5 h (fun w0 h=>?_) (fun w0 h=>?_))
       ·refine AW.skip (AW.seq (AW.block ?_))
        obtain ⟨b0,h⟩:=gS h;refine Y6 Fm (sA 4 []) [0,1,9,10,11,14,15,18,106,107,108] [(20,pt 20)] [0,1,9,10,11] [(20,bx [ci ((gl l D.toNat).p_),.d (DL (gl l D.toNat).g_.t_),ci ((gl l D.toNat).c_),ci ((gl l D.toNat).s_)])] (cA b0 (cT (Z7 b0))) ?_
        obtain ⟨i0,e1,h⟩:=bS h;refine Q9 Fm (sA 4 [.k _,.s]) (fun K=>K 4∧True) [0,1,9,10,11,14,15,106,107,108] [(18,AL i0)] [0,1,9,10,11] [] ⟨Q3 (U2 e1) Tryz.call112 [],⟨⟩⟩ ?_
        obtain ⟨R0,h⟩:=gS h;refine Q1 Fm [.s,.s] [0,1,9,10,11,14,15,18,106,107] [(108,vi (D+1))] [0,1,9,10,11] [] (cT (cT R0)) ?_
        exact Kn.R Fm (o0 (i0,(D+1)) h)
       ·exact AW.exit (Kn.R Fm (p0 o1 h))
     ·refine Q0 Fm 4 [0,1,9,10,11,14,15,16] [(65,vi (lI o.2.t_)),(66,vi 0)] [0,1,9,10,11,16,62] [] ?_
      refine AW.block (W6 Fm [(0,pt 0),(1,ow 1),(9,ow 9),(10,ow 10),(11,ow 11),(14,vi u),(15,vi e.2),(16,pt 16),(65,vi (lI o.2.t_)),(66,vi 0)] [(0,bx (gC o.1)),(1,AO n),(9,AO q),(10,AO p),(11,AO l),(16,bx [.own 62]),(62,AO o.2.t_)] (by kernel_rfl) ?_);refine Z3 (E':=fun z=>[(0,pt 0),(1,ow 1),(9,ow 9),(10,ow 10),(11,ow 11),(14,vi u),(15,vi e.2),(16,pt 16),(65,vi (lI o.2.t_)),(66,vi z.1)]) (S':=fun z=>[(0,bx (gC o.1)),(1,AO n),(9,AO q),(10,AO p),(11,AO l),(16,bx [.own 62]),(62,AO z.2)]) (fun I1 z y1 m0 h=>?_) h
      obtain ⟨a,b⟩:=z;refine Q0 Fm 1 [0,1,9,10,11,14,15,16,65,66] [(67,vb (decide (a<(lI o.2.t_))))] [0,1,9,10,11,16,62] [] ?_
      refine AW.seq (Q5 h (fun u0 h=>?_) (fun u0 h=>?_))
      ·refine AW.skip (AW.seq (AW.block (Q0 Fm 2 [0,1,9,10,11,14,15,16,65,66] [(17,vi a)] [0,1,9,10,11,16,62] [] ?_)))
       obtain ⟨Y,L0,M0,Z,h⟩:=gS4 h;obtain ⟨N0,O0,U,V,h⟩:=gS4 h
       refine Z0e Fm (sA 26 [.k (rE { v:=.any,upd:=some (62,AO (List.set b a.toNat (⟨(((gl b a.toNat).L_)+((10:Int)*e.2)),(gl b a.toNat).w_,(gl b a.toNat).R_,(gl b a.toNat).H_⟩:Rect))) }),.s,.s,.s]) (fun K=>_∧_∧(_∧True)∧(_∧True)∧_∧_∧(_∧True)∧(_∧True)∧_∧K 26∧_∧_∧True) [0,1,9,10,11,14,15,16,65,66] [] [0,1,9,10,11,16] [(62,AO (List.set (List.set b a.toNat (⟨(((gl b a.toNat).L_)+((10:Int)*e.2)),(gl b a.toNat).w_,(gl b a.toNat).R_,(gl b a.toNat).H_⟩:Rect)) a.toNat (⟨(gl (List.set b a.toNat (⟨(((gl b a.toNat).L_)+((10:Int)*e.2)),(gl b a.toNat).w_,(gl b a.toNat).R_,(gl b a.toNat).H_⟩:Rect)) a.toNat).L_,(gl (List.set b a.toNat (⟨(((gl b a.toNat).L_)+((10:Int)*e.2)),(gl b a.toNat).w_,(gl b a.toNat).R_,(gl b a.toNat).H_⟩:Rect)) a.toNat).w_,(((gl b a.toNat).R_)+((10:Int)*e.2)),(gl (List.set b a.toNat (⟨(((gl b a.toNat).L_)+((10:Int)*e.2)),(gl b a.toNat).w_,(gl b a.toNat).R_,(gl b a.toNat).H_⟩:Rect)) a.toNat).H_⟩:Rect)))] ⟨Y,(Z7 Y),⟨L0,⟨⟩⟩,⟨M0,⟨⟩⟩,Z,(Z7 Z),⟨N0,⟨⟩⟩,⟨O0,⟨⟩⟩,U,KAt.upd Q4 (ob:=.arr 4 (List.length b) (fun j=>if j=a.toNat then Q2J ((LF b) a.toNat) 0 [.int .i64 (((gl b a.toNat).L_)+((10:Int)*e.2))] else (LF b) j)) (c:=a.toNat<List.length b) rfl (by kernel_rfl) (by kernel_rfl) (Z7 U) (OLe.is (Is.set (Is.refl b) (Z7 U) (⟨(((gl b a.toNat).L_)+((10:Int)*e.2)),(gl b a.toNat).w_,(gl b a.toNat).R_,(gl b a.toNat).H_⟩:Rect) (by kernel_rfl))),V,(Z7 V),⟨⟩⟩ [(62,rSt (List.set b a.toNat (⟨(((gl b a.toNat).L_)+((10:Int)*e.2)),(gl b a.toNat).w_,(gl b a.toNat).R_,(gl b a.toNat).H_⟩:Rect)) a.toNat 2 [.int .i64 (((gl b a.toNat).R_)+((10:Int)*e.2))])] ⟨oSt (Z7 V),⟨⟩⟩ ?_
       obtain ⟨P0,h⟩:=gS h;refine Q1 Fm [.s,.s] [0,1,9,10,11,14,15,16,65] [(66,vi (a+1))] [0,1,9,10,11,16,62] [] (cT (cT P0)) ?_
       exact Kn.R Fm (m0 ((a+1),(List.set (List.set b a.toNat (⟨(((gl b a.toNat).L_)+((10:Int)*e.2)),(gl b a.toNat).w_,(gl b a.toNat).R_,(gl b a.toNat).H_⟩:Rect)) a.toNat (⟨(gl (List.set b a.toNat (⟨(((gl b a.toNat).L_)+((10:Int)*e.2)),(gl b a.toNat).w_,(gl b a.toNat).R_,(gl b a.toNat).H_⟩:Rect)) a.toNat).L_,(gl (List.set b a.toNat (⟨(((gl b a.toNat).L_)+((10:Int)*e.2)),(gl b a.toNat).w_,(gl b a.toNat).R_,(gl b a.toNat).H_⟩:Rect)) a.toNat).w_,(((gl b a.toNat).R_)+((10:Int)*e.2)),(gl (List.set b a.toNat (⟨(((gl b a.toNat).L_)+((10:Int)*e.2)),(gl b a.toNat).w_,(gl b a.toNat).R_,(gl b a.toNat).H_⟩:Rect)) a.toNat).H_⟩:Rect))) h)
      ·exact AW.exit (Kn.R Fm (n0 b h))
   ·exact AW.exit (Kn.R Fm (q0 (l,m1,n1) h))
 ·refine AW.seq ?_
  obtain ⟨N,X0,h⟩:=bS h;refine Q9 Fm [.s,.k _,.s] (fun K=>K 1∧True) [0,1,2,9,10,11] [(12,vi N.2)] [1,9,10,11] [(0,bx (gC N.1))] ⟨Q3 (Q1L X0) Tryz.call45 [(0,0)],⟨⟩⟩ ?_
  refine AW.block (W6 Fm [(0,pt 0),(1,ow 1),(2,vi M),(9,ow 9),(10,ow 10),(11,ow 11),(12,vi N.2)] [(0,bx [.d (DL N.1.l_),ci N.1.at_]),(1,AO n),(9,AO ([]:List Int)),(10,AO ([]:List Re_)),(11,AO ([]:List Line))] (by kernel_rfl) ?_);refine Z3 (E':=fun z=>[(0,pt 0),(1,ow 1),(2,vi M),(9,ow 9),(10,ow 10),(11,ow 11),(12,vi z.1)]) (S':=fun z=>[(0,bx [.d (DL z.2.1),ci z.2.2.1]),(1,AO n),(9,AO z.2.2.2.1),(10,AO z.2.2.2.2),(11,AO ([]:List Line))]) (fun H1 z t1 j0 h=>?_) h
  obtain ⟨W,k1,l1,i,P⟩:=z;refine AW.seq (Q0 Fm 2 [0,1,2,9,10,11,12] [(24,vb (decide ((0:Int)<W)))] [0,1,9,10,11] [] ?_)
  refine Q5 h (fun s0 h=>?_) (fun s0 h=>?_)
  ·refine AW.skip (AW.seq (AW.block (Q0 Fm 3 [0,1,2,9,10,11,12] [(13,vi (lI i))] [0,1,9,10,11] [] ?_)))
   obtain ⟨A0,B0,D0,E0,h⟩:=gS4 h;obtain ⟨B,Y0,h⟩:=bS h
   obtain ⟨G0,h⟩:=gS h;obtain ⟨y,Z0,h⟩:=bS h
   obtain ⟨H0,h⟩:=gS h;refine Z0e Fm [.s,.s,.s,.w (AL ([((lI i)+1)]:List Int)),.s,.s,.s,.s,.s,.s,.s,.k _,.s,.s,.k _,.s,.w (AL [(⟨((10:Int)*(lI i)),0,(((10:Int)*(lI i))+B.2),y.2⟩:Rect)]),.s,.w (AL [(⟨([(⟨((10:Int)*(lI i)),0,(((10:Int)*(lI i))+B.2),y.2⟩:Rect)]:List Rect)⟩:Re_)]),.s,.s,.s] (fun K=>(_∧True)∧(ALe (.v (.c (.d (.lst 1 (Z1g 1 [.int .i64 ((lI i)+1)]))))) (AL ([((lI i)+1)]:List Int)))∧(_∧_∧True)∧(_∧True)∧(_∧True)∧K 11∧(_∧True)∧K 14∧_∧_∧(_∧_∧True)∧True) [0,1,2,11,12] [(9,ow 33),(10,ow 48)] [1,11] [(0,bx (gC y.1)),(33,AO (i++([((lI i)+1)]:List Int))),(48,AO (P++([(⟨([(⟨((10:Int)*(lI i)),0,(((10:Int)*(lI i))+B.2),y.2⟩:Rect)]:List Rect)⟩:Re_)]:List Re_)))] ⟨⟨A0,⟨⟩⟩,ALe.lst (.lit ([((lI i)+1)]:List Int) (by kernel_rfl)),⟨B0,lfl ([((lI i)+1)]:List Int),⟨⟩⟩,⟨D0,⟨⟩⟩,⟨E0,⟨⟩⟩,Q3 (Q1L Y0) Tryz.call45 [(0,0)],⟨G0,⟨⟩⟩,Q3 (Q1L Z0) Tryz.call45 [(0,0)],Z0I (⟨((10:Int)*(lI i)),0,(((10:Int)*(lI i))+B.2),y.2⟩:Rect),Z0I (⟨([(⟨((10:Int)*(lI i)),0,(((10:Int)*(lI i))+B.2),y.2⟩:Rect)]:List Rect)⟩:Re_),⟨H0,lfl ([(⟨([(⟨((10:Int)*(lI i)),0,(((10:Int)*(lI i))+B.2),y.2⟩:Rect)]:List Rect)⟩:Re_)]:List Re_),⟨⟩⟩,⟨⟩⟩ [(33,rAp i ([((lI i)+1)]:List Int)),(48,rAp P ([(⟨([(⟨((10:Int)*(lI i)),0,(((10:Int)*(lI i))+B.2),y.2⟩:Rect)]:List Rect)⟩:Re_)]:List Re_))] ⟨oAp,oAp,⟨⟩⟩ ?_
   obtain ⟨I0,h⟩:=gS h;refine Q1 Fm [.s,.s,.s] [0,1,2,9,10,11] [(12,vi (W-1))] [0,1,11,33,48] [] (cT (cT I0)) ?_
   exact Q1f Fm [(9,33),(10,48)] (j0 ((W-1),y.1.l_,y.1.at_,(i++([((lI i)+1)]:List Int)),(P++([(⟨([(⟨((10:Int)*(lI i)),0,(((10:Int)*(lI i))+B.2),y.2⟩:Rect)]:List Rect)⟩:Re_)]:List Re_))) h)
  ·exact AW.exit (Kn.R Fm (k0 (k1,l1,i,P) h))
theorem Z5k {F:Nat} {a:(List Rg_)} {i:Int} {o:Int} {B:Re_} {r:(List Rg_)×(List Rg_)×Int} (h:Q5Q F a i o B=some r) :
  Z6 Tryz.prog 28 [ow 0,vi i,vi o,.v (.g [.d (DL B.t_)])] [(0,AO a)] (.t [.c (.own 100),.c (ci r.2.2)]) [(0,AO r.1),(100,AO r.2.1)]:=by
 refine FI Tryz.func28 Q2 Q4 fun C Fm=>?_
 unfold Q5Q at h;refine Q3x Fm [.s,.m,.s] (fun K=>True) [0,1,2] [(7,pt 7)] [0] [(7,bx [.d (DL B.t_)])] True.intro ?_
 refine AW.seq (AW.seq ?_);obtain ⟨M,b1,h⟩:=bS h
 refine Q9 Fm [.s,.k (sE (vi M)),.s] (fun K=>K 1∧True) [0,1,2,7] [(10,vi M)] [0,7] [] ⟨Z4k (Z0v b1) Tryz.call25 [0] [.tmp 18] rfl (by kernel_rfl) (by kernel_rfl) ⟨Z7V.own 0 (es:=3) (n:=List.length a) (f:=LF a) (by kernel_rfl) (by kernel_rfl) (by kernel_rfl) (by kernel_rfl),⟨⟩⟩,⟨⟩⟩ ?_;refine Q0 Fm 2 [0,1,2,7,10] [(21,vb (M != (0:Int)))] [0,7] [] ?_
 refine Q5 h (fun A0 h=>?_) (fun A0 h=>?_)
 ·refine G9 Fm [.s,.m,.s] (fun K=>True) [] [(8,ow 8),(9,vi M)] [0] [(8,AO ([]:List Rg_))] True.intro [(8,.arr 3 (0) (fun _=>[]))] ⟨OLe.is ((Is.nil (α:=Rg_))),⟨⟩⟩ ?_
  refine AW.ret ?_;obtain rfl:=Option.some.inj h
  exact Q3e Fm [(100,8)] [(8,ow 100),(9,vi M)] [(0,AO a),(100,AO ([]:List Rg_))] (by kernel_rfl) (by kernel_rfl) (by kernel_rfl) (by kernel_rfl) (Q3H Fm (by kernel_rfl))
 ·refine AW.skip (AW.seq (AW.block (Z2 (r:=r) (fun z:Bool=>Q4c F a i o B z) [0,1,2,7] (fun z=>[(23,vb z)]) [0,7] (fun _=>[]) (fun E1 h=>?_) (fun l1 a0=>?_))))
  ·refine Q5 h (fun B0 h=>?_) (fun B0 h=>?_)
   ·refine G9 Fm [.m,.s] (fun K=>True) [] [(8,ow 8),(9,vi 18)] [0] [(8,AO ([]:List Rg_))] True.intro [(8,.arr 3 (0) (fun _=>[]))] ⟨OLe.is ((Is.nil (α:=Rg_))),⟨⟩⟩ ?_
    refine AW.ret ?_;obtain rfl:=Option.some.inj h
    exact Q3e Fm [(100,8)] [(8,ow 100),(9,vi 18)] [(0,AO a),(100,AO ([]:List Rg_))] (by kernel_rfl) (by kernel_rfl) (by kernel_rfl) (by kernel_rfl) (Q3H Fm (by kernel_rfl))
   ·refine Z2 (r:=r) (fun z:Bool=>Q4b F a i o B z) [0,1,2,7] (fun z=>[(30,vb z)]) [0,7] (fun _=>[]) (fun G1 h=>?_) (fun m1 b0=>?_)
    ·refine Q5 h (fun D0 h=>?_) (fun D0 h=>?_)
     ·refine G9 Fm [.m,.s] (fun K=>True) [] [(8,ow 8),(9,vi 13)] [0] [(8,AO ([]:List Rg_))] True.intro [(8,.arr 3 (0) (fun _=>[]))] ⟨OLe.is ((Is.nil (α:=Rg_))),⟨⟩⟩ ?_
      refine AW.ret ?_;obtain rfl:=Option.some.inj h
      exact Q3e Fm [(100,8)] [(8,ow 100),(9,vi 13)] [(0,AO a),(100,AO ([]:List Rg_))] (by kernel_rfl) (by kernel_rfl) (by kernel_rfl) (by kernel_rfl) (Q3H Fm (by kernel_rfl))
     ·refine AW.seq ?_
      obtain ⟨k1,c1,h⟩:=bS h;refine Q9 Fm [.s,.k _,.s,.s] (fun K=>K 1∧True) [0,1,2,7] [(37,vb (!k1))] [0,7] [] ⟨Q3 (J3 c1) Tryz.call109 [],⟨⟩⟩ ?_
      refine Q5 h (fun E0 h=>?_) (fun E0 h=>?_)
      ·refine G9 Fm [.m,.s] (fun K=>True) [] [(8,ow 8),(9,vi 7)] [0] [(8,AO ([]:List Rg_))] True.intro [(8,.arr 3 (0) (fun _=>[]))] ⟨OLe.is ((Is.nil (α:=Rg_))),⟨⟩⟩ ?_
       refine AW.ret ?_;obtain rfl:=Option.some.inj h
       exact Q3e Fm [(100,8)] [(8,ow 100),(9,vi 7)] [(0,AO a),(100,AO ([]:List Rg_))] (by kernel_rfl) (by kernel_rfl) (by kernel_rfl) (by kernel_rfl) (Q3H Fm (by kernel_rfl))
      ·refine AW.skip (Q0 Fm 3 [0,1,2,7] [(11,AL B.t_)] [0,7] [] ?_)
       refine G9 Fm [.m] (fun K=>True) [0,1,2,7,11] [(12,ow 12)] [0,7] [(12,AO ([]:List Rg_))] True.intro [(12,.arr 3 (0) (fun _=>[]))] ⟨OLe.is ((Is.nil (α:=Rg_))),⟨⟩⟩ ?_;refine Z2 (r:=r) (fun z:(List Rect)×(List Rg_)=>Q6t F a i o z.1 z.2) [1,2,12] (fun z=>[(11,AL z.1)]) [0] (fun z=>[(12,AO z.2)]) (fun z h=>?_) (fun s1 s0=>?_)
       ·obtain ⟨y,b⟩:=z
        refine Z2 (r:=r) (fun z:(List Rg_)=>Q3b F a z) [] (fun _=>[(12,ow 137)]) [0] (fun z=>[(137,AO z)]) (fun A h=>?_) (fun y1 e0=>?_)
        ·refine AW.seq (Q0 Fm 3 [12] [(140,vb (decide ((200:Int)<(lI A))))] [0,137] [] ?_)
         refine Q5 h (fun N0 h=>?_) (fun N0 h=>?_)
         ·refine G9 Fm [.m,.s] (fun K=>True) [] [(8,ow 8),(9,vi 1)] [0] [(8,AO ([]:List Rg_))] True.intro [(8,.arr 3 (0) (fun _=>[]))] ⟨OLe.is ((Is.nil (α:=Rg_))),⟨⟩⟩ ?_
          refine AW.ret ?_;obtain rfl:=Option.some.inj h
          exact Q3e Fm [(100,8)] [(8,ow 100),(9,vi 1)] [(0,AO a),(100,AO ([]:List Rg_))] (by kernel_rfl) (by kernel_rfl) (by kernel_rfl) (by kernel_rfl) (Q3H Fm (by kernel_rfl))
         ·refine AW.skip (Z2 (r:=r) (fun z:Unit=>Q8i F a A) [12] (fun _=>[]) [0,137] (fun _=>[]) (fun z h=>?_) (fun B1 y0=>?_))
          ·refine Y6f Fm 3 [(8,ow 137),(9,vi 0)] [(0,AO a),(137,AO A)] ?_
           refine AW.ret ?_;obtain rfl:=Option.some.inj h
           exact Q3e Fm [(100,137)] [(8,ow 100),(9,vi 0)] [(0,AO a),(100,AO A)] (by kernel_rfl) (by kernel_rfl) (by kernel_rfl) (by kernel_rfl) (Q3H Fm (by kernel_rfl))
          ·refine Q0 Fm 3 [12] [(141,ow 137),(142,vi (lI A)),(143,vi 0)] [0,137] [] ?_
           refine AW.block (W6 Fm [(12,ow 137),(141,ow 137),(142,vi (lI A)),(143,vi 0)] [(0,AO a),(137,AO A)] (by kernel_rfl) ?_);refine Z3 (E':=fun z=>[(12,ow 137),(141,ow 137),(142,vi (lI A)),(143,vi z)]) (S':=fun z=>[(0,AO a),(137,AO A)]) (fun D1 G A1 w0 h=>?_) h
           refine Q0 Fm 1 [12,141,142,143] [(144,vb (decide (G<(lI A))))] [0,137] [] ?_;refine AW.seq (Q5 h (fun O0 h=>?_) (fun O0 h=>?_))
           ·refine AW.skip (AW.seq (AW.block ?_))
            obtain ⟨m0,h⟩:=gS h;refine Y6 Fm (sA 4 []) [12,141,142,143] [(17,pt 17)] [0,137] [(17,bx [ci ((gl A G.toNat).y_),ci ((gl A G.toNat).c_),.d (DL (gl A G.toNat).g_.t_)])] (cA m0 (cT (Z7 m0))) ?_
            refine Q0 Fm 5 [12,141,142,143] [(151,vb (decide ((120:Int)<(lI ((gl A G.toNat).g_.t_)))))] [0,137] [] ?_;refine Q5 h (fun P0 h=>?_) (fun P0 h=>?_)
            ·refine G9 Fm [.m,.s] (fun K=>True) [] [(8,ow 8),(9,vi 1)] [0] [(8,AO ([]:List Rg_))] True.intro [(8,.arr 3 (0) (fun _=>[]))] ⟨OLe.is ((Is.nil (α:=Rg_))),⟨⟩⟩ ?_
             refine AW.ret ?_;obtain rfl:=Option.some.inj h
             exact Q3e Fm [(100,8)] [(8,ow 100),(9,vi 1)] [(0,AO a),(100,AO ([]:List Rg_))] (by kernel_rfl) (by kernel_rfl) (by kernel_rfl) (by kernel_rfl) (Q3H Fm (by kernel_rfl))
            ·refine AW.skip ?_
             obtain ⟨a1,h⟩:=gS h;refine Q1 Fm [.s,.s] [12,141,142] [(143,vi (G+1))] [0,137] [] (cT (cT a1)) ?_
             exact Kn.R Fm (w0 (G+1) h)
           ·exact AW.exit (Kn.R Fm (y0 () h))
        ·refine Q0 Fm 3 [1,2,11,12] [(88,vb (decide ((0:Int)<(lI y))))] [0,12] [] ?_
         refine Q5 h (fun L0 h=>?_) (fun L0 h=>?_)
         ·refine Q0 Fm 1 [1,2,11,12] [(15,vi 0)] [0,12] [] ?_
          refine Z2 (r:=r) (fun z:Int=>Q6s F a i o y b z) [1,2,11,12] (fun z=>[(15,vi z)]) [0,12] (fun _=>[]) (fun q h=>?_) (fun w1 u0=>?_)
          ·obtain ⟨V0,k0,W0,X0,h⟩:=gS4 h
           obtain ⟨Y0,l0,Z0,h⟩:=gS3 h;refine Y1U Fm [.m,.s,.s,.k (rE { v:=.v (.c (.sub 12 3 0 ((q).toNat))) }),.s,.s,.s,.s,.s,.s,.w (AL [(⟨i,o,(⟨y⟩:Re_)⟩:Rg_)]),.s,.s,.s,.k (rE { v:=.v (.c (.sub 12 3 (0+(q).toNat) ((List.length b)-(q).toNat))) }),.s,.s] (fun K=>K 3∧(_∧_∧True)∧_∧(_∧_∧True)∧K 14∧(_∧_∧True)∧True) [(12,ow 137)] [(0,AO a),(137,AO (((([]:List Rg_)++((b.drop 0).take ((q).toNat)))++([(⟨i,o,(⟨y⟩:Re_)⟩:Rg_)]:List Rg_))++((b.drop (0+(q).toNat)).take ((List.length b)-(q).toNat))))] ⟨Z1q (l:=none) (u:=(some q)) (id:=12) (lo0:=0) (n:=(List.length b)) (N:=List.length b) (f:=LF b) Q4 Y2V rfl rfl (by kernel_rfl) (by kernel_rfl) (by kernel_rfl) (by kernel_rfl) (by kernel_rfl) V0 (by kernel_rfl),⟨W0,(Is.subv (l:=b) (lo:=0) (n:=((q).toNat)) k0:Is (((q).toNat)) (fun j=>LF b (0+j)) ((b.drop 0).take ((q).toNat))).len,⟨⟩⟩,Z0I (⟨i,o,(⟨y⟩:Re_)⟩:Rg_),⟨X0,(Is.refl ([(⟨i,o,(⟨y⟩:Re_)⟩:Rg_)]:List Rg_):Is (List.length ([(⟨i,o,(⟨y⟩:Re_)⟩:Rg_)]:List Rg_)) (LF ([(⟨i,o,(⟨y⟩:Re_)⟩:Rg_)]:List Rg_)) ([(⟨i,o,(⟨y⟩:Re_)⟩:Rg_)]:List Rg_)).len,⟨⟩⟩,Z1q (l:=(some q)) (u:=none) (id:=12) (lo0:=0) (n:=(List.length b)) (N:=List.length b) (f:=LF b) Q4 Y2V rfl rfl (by kernel_rfl) (by kernel_rfl) (by kernel_rfl) (by kernel_rfl) (by kernel_rfl) Y0 (by kernel_rfl),⟨Z0,(Is.subv (l:=b) (lo:=(0+(q).toNat)) (n:=((List.length b)-(q).toNat)) l0:Is (((List.length b)-(q).toNat)) (fun j=>LF b ((0+(q).toNat)+j)) ((b.drop (0+(q).toNat)).take ((List.length b)-(q).toNat))).len,⟨⟩⟩,⟨⟩⟩ [(137,.arr 3 ((((0)+(((q).toNat)))+(List.length ([(⟨i,o,(⟨y⟩:Re_)⟩:Rg_)]:List Rg_)))+(((List.length b)-(q).toNat))) (Q6R (((0)+(((q).toNat)))+(List.length ([(⟨i,o,(⟨y⟩:Re_)⟩:Rg_)]:List Rg_))) (Q6R ((0)+(((q).toNat))) (Q6R (0) (Z1g 3 []) (fun j=>LF b (0+j))) (LF ([(⟨i,o,(⟨y⟩:Re_)⟩:Rg_)]:List Rg_))) (fun j=>LF b ((0+(q).toNat)+j))))] ⟨OLe.is (Is.app (Is.app (Is.app (Is.lit ([]:List Rg_) (by kernel_rfl)) (Is.subv (l:=b) (lo:=0) (n:=((q).toNat)) k0)) (Is.refl ([(⟨i,o,(⟨y⟩:Re_)⟩:Rg_)]:List Rg_))) (Is.subv (l:=b) (lo:=(0+(q).toNat)) (n:=((List.length b)-(q).toNat)) l0)),⟨⟩⟩ ?_
           exact Kn.R Fm (e0 (((([]:List Rg_)++((b.drop 0).take ((q).toNat)))++([(⟨i,o,(⟨y⟩:Re_)⟩:Rg_)]:List Rg_))++((b.drop (0+(q).toNat)).take ((List.length b)-(q).toNat))) h)
          ·refine AW.block (W6 Fm [(1,vi i),(2,vi o),(11,AL y),(12,ow 12),(15,vi 0)] [(0,AO a),(12,AO b)] (by kernel_rfl) ?_)
           refine Z3 (E':=fun z=>[(1,vi i),(2,vi o),(11,AL y),(12,ow 12),(15,vi z)]) (S':=fun z=>[(0,AO a),(12,AO b)]) (fun p0 e t1 t0 h=>?_) h;refine AW.seq (Z2 (r:=r) (fun z:Bool=>Q1p F a i o y b e p0 z) [1,2,11,12,15] (fun z=>[(119,vb z)]) [0,12] (fun _=>[]) (fun I1 h=>?_) (fun u1 O=>?_))
           ·refine Q5 h (fun M0 h=>?_) (fun M0 h=>?_)
            ·refine AW.skip (AW.block ?_)
             obtain ⟨U0,h⟩:=gS h;refine Q1 Fm [.s,.s,.s] [1,2,11,12] [(15,vi (e+1))] [0,12] [] (cT (cT U0)) ?_
             exact Kn.R Fm (t0 (e+1) h)
            ·exact AW.exit (Kn.R Fm (u0 e h))
           ·rcases Y7 h with ⟨I,h⟩|⟨I,h⟩
            ·obtain ⟨H,h⟩:=gS h
             rcases Y7 h with ⟨P,h⟩|⟨P,h⟩
             ·refine Q1 Fm ((sA 4 (sZ 15 [.w (vb true),.s,.s,.s,.s,.s,.s,.s,.w (vb true)]))++[.s,.s,.s]) [1,2,11,12,15] [(94,ow 12),(95,vi e),(96,.v (.c (.pte 12 3 e.toNat 0))),(97,.v (.c (.pte 12 3 e.toNat 0))),(98,vi (gl b e.toNat).y_),(99,vi i),(100,vb (decide (((gl b e.toNat).y_)<i))),(101,vb true),(118,vb true),(119,vb true)] [0,12] [] (cA (ALe.bool I) (cA H (cA (Z7 H) (cT (ALe.bool P))))) ?_
              exact Kn.R Fm (O true h)
             ·obtain ⟨T,h⟩:=gS h
              rcases Y7 h with ⟨Z,h⟩|⟨Z,h⟩
              ·obtain ⟨j0,h⟩:=gS h
               refine Q1 Fm ((sA 4 (sZ 7 [.w (vb true),.s,.s,.s,.s,.s,.s,.s,.w (vb false),.s,.s,.s,.s,.s,.s,.s,.w (vb true)]))++[.s,.s,.s]) [1,2,11,12,15] [(94,ow 12),(95,vi e),(96,.v (.c (.pte 12 3 e.toNat 0))),(97,.v (.c (.pte 12 3 e.toNat 0))),(98,vi (gl b e.toNat).y_),(99,vi i),(100,vb (decide (((gl b e.toNat).y_)<i))),(101,vb false),(102,ow 12),(103,vi e),(104,.v (.c (.pte 12 3 e.toNat 0))),(105,.v (.c (.pte 12 3 e.toNat 0))),(106,vi (gl b e.toNat).y_),(107,vi i),(108,vb (((gl b e.toNat).y_)==i)),(109,vb true),(110,ow 12),(111,vi e),(112,.v (.c (.pte 12 3 e.toNat 0))),(113,.v (.c (.pte 12 3 e.toNat 1))),(114,vi (gl b e.toNat).c_),(115,vi o),(116,vb (decide (((gl b e.toNat).c_)<o))),(117,vb (decide (((gl b e.toNat).c_)<o))),(118,vb (decide (((gl b e.toNat).c_)<o))),(119,vb (decide (((gl b e.toNat).c_)<o)))] [0,12] [] (cA (ALe.bool I) (cA H (cA (Z7 H) (cA (ALe.bool P) (cA T (cA (Z7 T) (cA (ALe.bool Z) (cA j0 (cT (Z7 j0)))))))))) ?_;exact Kn.R Fm (O (decide (((gl b e.toNat).c_)<o)) h)
              ·refine Q1 Fm ((sA 4 (sZ 7 [.w (vb true),.s,.s,.s,.s,.s,.s,.s,.w (vb false),.s,.s,.s,.s,.s,.s,.s,.w (vb false)]))++[.s,.s,.s]) [1,2,11,12,15] [(94,ow 12),(95,vi e),(96,.v (.c (.pte 12 3 e.toNat 0))),(97,.v (.c (.pte 12 3 e.toNat 0))),(98,vi (gl b e.toNat).y_),(99,vi i),(100,vb (decide (((gl b e.toNat).y_)<i))),(101,vb false),(102,ow 12),(103,vi e),(104,.v (.c (.pte 12 3 e.toNat 0))),(105,.v (.c (.pte 12 3 e.toNat 0))),(106,vi (gl b e.toNat).y_),(107,vi i),(108,vb (((gl b e.toNat).y_)==i)),(109,vb false),(117,vb false),(118,vb false),(119,vb false)] [0,12] [] (cA (ALe.bool I) (cA H (cA (Z7 H) (cA (ALe.bool P) (cA T (cA (Z7 T) (cT (ALe.bool Z)))))))) ?_
               exact Kn.R Fm (O false h)
            ·refine Q1 Fm ((sA 4 (sZ 23 [.w (vb false)]))++[.s,.s,.s]) [1,2,11,12,15] [(119,vb false)] [0,12] [] (cT (ALe.bool I)) ?_
             exact Kn.R Fm (O false h)
         ·exact AW.skip (Q1f Fm [(137,12)] (e0 b h))
       ·refine Q0 Fm 3 [1,2,7,11,12] [(43,ow 0),(44,vi (lI a)),(45,vi 0)] [0,7,12] [] ?_
        refine AW.block (W6 Fm [(1,vi i),(2,vi o),(7,pt 7),(11,AL B.t_),(12,ow 12),(43,ow 0),(44,vi (lI a)),(45,vi 0)] [(0,AO a),(7,bx [.d (DL B.t_)]),(12,AO ([]:List Rg_))] (by kernel_rfl) ?_);refine Z3 (E':=fun z=>[(1,vi i),(2,vi o),(7,pt 7),(11,AL z.1),(12,ow 12),(43,ow 0),(44,vi (lI a)),(45,vi z.2.1)]) (S':=fun z=>[(0,AO a),(7,bx [.d (DL B.t_)]),(12,AO z.2.2)]) (fun U z n1 q0 h=>?_) h
        obtain ⟨L,p,D⟩:=z;refine Q0 Fm 1 [1,2,7,11,12,43,44,45] [(46,vb (decide (p<(lI a))))] [0,7,12] [] ?_
        refine AW.seq (Q5 h (fun G0 h=>?_) (fun G0 h=>?_))
        ·refine AW.skip (Z2 (r:=r) (fun z:(List Rect)×(List Rg_)=>Q2v F p U z.1 z.2) [1,2,7,12,43,44,45] (fun z=>[(11,AL z.1)]) [0,7] (fun z=>[(12,AO z.2)]) (fun z h=>?_) (fun q1 V=>?_))
         ·obtain ⟨i1,j1⟩:=z
          obtain ⟨T0,h⟩:=gS h;refine Q1 Fm [.s,.s] [1,2,7,11,12,43,44] [(45,vi (p+1))] [0,7,12] [] (cT (cT T0)) ?_
          exact Kn.R Fm (q0 (i1,(p+1),j1) h)
         ·refine AW.block ?_
          obtain ⟨i0,h⟩:=gS h;refine Y6 Fm (sA 4 []) [1,2,7,11,12,43,44,45] [(14,pt 14)] [0,7,12] [(14,bx [ci ((gl a p.toNat).y_),ci ((gl a p.toNat).c_),.d (DL (gl a p.toNat).g_.t_)])] (cA i0 (cT (Z7 i0))) ?_
          refine AW.seq (Z2 (r:=r) (fun z:Bool=>Q4a F a i B L p D U z) [1,2,7,11,12,14,43,44,45] (fun z=>[(58,vb z)]) [0,7,12,14] (fun _=>[]) (fun H1 h=>?_) (fun o1 c0=>?_))
          ·refine Q5 h (fun H0 h=>?_) (fun H0 h=>?_)
           ·refine AW.seq ?_
            obtain ⟨n0,d1,h⟩:=bS h;refine Q9 Fm (sA 4 [.k _,.s]) (fun K=>K 4∧True) [1,2,7,12,43,44,45] [(11,AL n0)] [0,7,12] [] ⟨Q3 (U2 d1) Tryz.call112 [],⟨⟩⟩ ?_
            exact AW.exit (Kn.R Fm (V (n0,D) h))
           ·refine AW.skip (Z2 (r:=r) (fun z:(List Rect)=>Q3Z F a L p D U z) [1,2,7,11,12,14,43,44,45] (fun _=>[]) [0,7,12] (fun z=>[(14,bx [ci ((gl a p.toNat).y_),ci ((gl a p.toNat).c_),.d (DL z)])]) (fun E h=>?_) (fun p1 d0=>?_))
            ·refine Q0 Fm 5 [1,2,7,11,12,14,43,44,45] [(80,vb (decide ((0:Int)<(lI E))))] [0,7,12,14] [] ?_
             refine Q5 h (fun K0 h=>?_) (fun K0 h=>?_)
             ·obtain ⟨R0,h⟩:=gS h
              refine Q0I Fm [.s,.s,.w (AL [(⟨(gl a p.toNat).y_,(gl a p.toNat).c_,(⟨E⟩:Re_)⟩:Rg_)]),.s,.s] [1,2,7,11,43,44,45] [(12,ow 84)] [0,7] [(84,AO (D++([(⟨(gl a p.toNat).y_,(gl a p.toNat).c_,(⟨E⟩:Re_)⟩:Rg_)]:List Rg_)))] (cA (Z0I (⟨(gl a p.toNat).y_,(gl a p.toNat).c_,(⟨E⟩:Re_)⟩:Rg_)) (cT (cA R0 (cT (lfl ([(⟨(gl a p.toNat).y_,(gl a p.toNat).c_,(⟨E⟩:Re_)⟩:Rg_)]:List Rg_)))))) [(84,rAp D ([(⟨(gl a p.toNat).y_,(gl a p.toNat).c_,(⟨E⟩:Re_)⟩:Rg_)]:List Rg_))] ⟨oAp,⟨⟩⟩ ?_;exact Q1f Fm [(12,84)] (V (L,(D++([(⟨(gl a p.toNat).y_,(gl a p.toNat).c_,(⟨E⟩:Re_)⟩:Rg_)]:List Rg_))) h)
             ·exact AW.skip (Kn.R Fm (V (L,D) h))
            ·refine Q0 Fm 4 [1,2,7,11,12,14,43,44,45] [(67,vb (((gl a p.toNat).y_)==i))] [0,7,12,14] [] ?_
             refine Q5 h (fun I0 h=>?_) (fun I0 h=>?_)
             ·obtain ⟨o0,e1,h⟩:=bS h
              refine Q9 Fm (sA 5 [.k _,.s,.s,.s]) (fun K=>K 5∧True) [1,2,7,11,12,14,43,44,45] [] [0,7,12] [(14,bx [ci ((gl a p.toNat).y_),ci ((gl a p.toNat).c_),.d (DL o0)])] ⟨Q3 (U2 e1) Tryz.call112 [],⟨⟩⟩ ?_;exact Kn.R Fm (d0 o0 h)
             ·exact AW.skip (Kn.R Fm (d0 ((gl a p.toNat).g_.t_) h))
          ·rcases Y7 h with ⟨Y,h⟩|⟨Y,h⟩
           ·refine Q1 Fm (sA 4 (sZ 5 [.w (vb true)])) [1,2,7,11,12,14,43,44,45] [(54,.v (.c (.ptr 14 1))),(55,vi (gl a p.toNat).c_),(56,vi o),(57,vb (((gl a p.toNat).c_)==o)),(58,vb (((gl a p.toNat).c_)==o))] [0,7,12,14] [] (cT (ALe.bool Y)) ?_
            exact Kn.R Fm (c0 (((gl a p.toNat).c_)==o) h)
           ·refine Q1 Fm (sA 4 (sZ 5 [.w (vb false)])) [1,2,7,11,12,14,43,44,45] [(58,vb false)] [0,7,12,14] [] (cT (ALe.bool Y)) ?_
            exact Kn.R Fm (c0 false h)
        ·exact AW.exit (Kn.R Fm (s0 (L,D) h))
    ·rcases Y7 h with ⟨X,h⟩|⟨X,h⟩
     ·refine Q1 Fm [.s,.s,.w (vb true),.s,.s,.s,.s] [0,1,2,7] [(30,vb true)] [0,7] [] (cT (ALe.bool X)) ?_
      exact Kn.R Fm (b0 true h)
     ·refine Q1 Fm [.s,.s,.w (vb false),.s,.s,.s,.s] [0,1,2,7] [(30,vb (decide ((40:Int)≤o)))] [0,7] [] (cT (ALe.bool X)) ?_
      exact Kn.R Fm (b0 (decide ((40:Int)≤o)) h)
  ·rcases Y7 h with ⟨W,h⟩|⟨W,h⟩
   ·refine Q1 Fm [.s,.s,.w (vb true),.s,.s,.s,.s] [0,1,2,7] [(23,vb true)] [0,7] [] (cT (ALe.bool W)) ?_
    exact Kn.R Fm (a0 true h)
   ·refine Q1 Fm [.s,.s,.w (vb false),.s,.s,.s,.s] [0,1,2,7] [(23,vb (decide ((100:Int)<i)))] [0,7] [] (cT (ALe.bool W)) ?_
    exact Kn.R Fm (a0 (decide ((100:Int)<i)) h)
theorem Z0b {F:Nat} {j:Tape} {a:(List Crop)} {c:Int} {l:Int} {r:Tape×(List Crop)×(List Rg_)} (h:Q0T F j a c l=some r) :
  Z6 Tryz.prog 22 [pt 0,ow 1,vi c,vi l] [(0,bx (gC j)),(1,AO a)] (ow 100) [(0,bx (gC r.1)),(1,AO r.2.1),(100,AO r.2.2)]:=by
 refine FI Tryz.func22 Q2 Q4 fun C Fm=>?_
 unfold Q0T at h;refine Q3x Fm [.m] (fun K=>True) [0,1,2,3] [] [0,1] [] True.intro ?_
 refine G9 Fm [.m] (fun K=>True) [0,1,2,3] [(9,ow 9)] [0,1] [(9,AO ([]:List Rg_))] True.intro [(9,.arr 3 (0) (fun _=>[]))] ⟨OLe.is ((Is.nil (α:=Rg_))),⟨⟩⟩ ?_;refine Z2 (r:=r) (fun z:(List Rg_)×(List Int)×Int=>Q6E F a z.1 z.2.1 z.2.2) [9] (fun _=>[]) [1] (fun z=>[(0,bx [.d (DL z.2.1),ci z.2.2]),(9,AO z.1)]) (fun z h=>?_) (fun P p=>?_)
 ·obtain ⟨L,M,N⟩:=z
  refine Q0 Fm 2 [] [(8,ow 9)] [0,1,9] [] ?_;refine AW.ret ?_
  obtain rfl:=Option.some.inj h;exact Q3e Fm [(100,9)] [(8,ow 100)] [(0,bx [.d (DL M),ci N]),(1,AO a),(100,AO L)] (by kernel_rfl) (by kernel_rfl) (by kernel_rfl) (by kernel_rfl) (Q3H Fm (by kernel_rfl))
 ·refine AW.seq ?_
  obtain ⟨t,h⟩:=gS h;obtain ⟨b,y,h⟩:=bS h
  refine Q9 Fm [.s,.s,.s,.k _,.s] (fun K=>(_∧True)∧K 3∧True) [0,1,2,9] [(10,vi b.2)] [1,9] [(0,bx (gC b.1))] ⟨⟨t,⟨⟩⟩,Q3 (Y3 y) Tryz.call15 [(0,0)],⟨⟩⟩ ?_;refine AW.block (W6 Fm [(0,pt 0),(1,ow 1),(2,vi c),(9,ow 9),(10,vi b.2)] [(0,bx [.d (DL b.1.l_),ci b.1.at_]),(1,AO a),(9,AO ([]:List Rg_))] (by kernel_rfl) ?_)
  refine Z3 (E':=fun z=>[(0,pt 0),(1,ow 1),(2,vi c),(9,ow 9),(10,vi z.1)]) (S':=fun z=>[(0,bx [.d (DL z.2.1),ci z.2.2.1]),(1,AO a),(9,AO z.2.2.2)]) (fun T z O o h=>?_) h;obtain ⟨e,G,H,I⟩:=z
  refine AW.seq (Q0 Fm 2 [0,1,2,9,10] [(16,vb (decide ((0:Int)<e)))] [0,1,9] [] ?_);refine Q5 h (fun q h=>?_) (fun q h=>?_)
  ·refine AW.skip (AW.seq (AW.block ?_))
   obtain ⟨u,h⟩:=gS h;obtain ⟨U,A,h⟩:=bS h
   obtain ⟨V,B,h⟩:=bS h;obtain ⟨i,D,h⟩:=bS h
   obtain ⟨n,E,h⟩:=bS h;refine Q9 Fm (sA 4 [.k _,.s,.s,.s,.k _,.s,.k _,.k _,.s,.s,.s,.s]) (fun K=>(_∧True)∧K 4∧K 8∧K 10∧K 11∧True) [0,1,2,10] [(9,ow 31)] [1] [(0,bx (gC i.1)),(31,AO n.2.1)] ⟨⟨u,⟨⟩⟩,Q3 (Y3 A) Tryz.call15 [(0,0)],Q3 (Y3 B) Tryz.call15 [(0,0)],Q3 (Q7c D) Tryz.call16 [(0,0)],Q3 (Z5k E) Tryz.call28 [(0,9),(100,31)],⟨⟩⟩ ?_
   obtain ⟨w,h⟩:=gS h;refine Q1 Fm [.s,.s,.s] [0,1,2,9] [(10,vi (e-1))] [0,1,31] [] (cT (cT w)) ?_
   exact Q1f Fm [(9,31)] (o ((e-1),i.1.l_,i.1.at_,n.2.1) h)
  ·exact AW.exit (Kn.R Fm (p (I,G,H) h))
theorem Q9k {F:Nat} {j:Int} {l:Int} {m:Int} {n:Int} {O:Int} {L0:(List Int)} {r:Bool} (h:Q0m F j l m n O L0=some r) :
  Z6 Tryz.prog 11 [vi j,vi l,vi m,vi n,vi O,AL L0] [] (vb r) []:=by
 refine FI Tryz.func11 Q2 Q4 fun C Fm=>?_
 unfold Q0m at h;refine Q0 Fm 1 [0,1,2,3,4,5] [] [] [] ?_
 refine AW.seq ?_;obtain ⟨i2,D1,h⟩:=bS h
 refine Q9 Fm [.s,.k _,.s] (fun K=>K 1∧True) [0,1,2,3,4] [(13,pt 44)] [] [(44,bx (gC i2))] ⟨Q3 (Z7R D1) Tryz.call13 [(100,44)],⟨⟩⟩ ?_;refine AW.seq ?_
 obtain ⟨M0,E1,h⟩:=bS h;refine Q9 Fm [.s,.k _,.s] (fun K=>K 1∧True) [0,1,2,3,4,13] [(14,ow 46)] [] [(44,bx (gC M0.1)),(46,AO M0.2)] ⟨Q3 (Z1k E1) Tryz.call14 [(0,44),(100,46)],⟨⟩⟩ ?_
 refine AW.seq ?_;obtain ⟨i,G1,h⟩:=bS h
 refine Q9 Fm (sZ 7 [.s,.s,.k _]) (fun K=>K 2∧True) [0,1,2,3,4,13,14] [(15,ow 50)] [] [(44,bx (gC i.1)),(46,AO i.2.1),(50,AO i.2.2.1)] ⟨Q3 (Z1j G1) Tryz.call79 [(0,44),(1,46),(100,50)],⟨⟩⟩ ?_;refine AW.seq ?_
 obtain ⟨e,H1,h⟩:=bS h;refine Q9 Fm [.s,.s,.k _,.s] (fun K=>K 2∧True) [0,1,2,3,4,13,14,15] [(18,ow 56)] [50] [(44,bx (gC e.1)),(46,AO e.2.1),(56,AO e.2.2)] ⟨Q3 (Z0b H1) Tryz.call22 [(0,44),(1,46),(100,56)],⟨⟩⟩ ?_
 refine Z2 (r:=r) (fun z:(List Crop)×(List Line)×(List Rg_)=>Y9 F j l m n z.1 z.2.1 z.2.2) [0,1,2,3,14,15,18] (fun _=>[]) [] (fun z=>[(46,AO z.1),(50,AO z.2.1),(56,AO z.2.2)]) (fun z h=>?_) (fun m2 U=>?_)
 ·obtain ⟨P,T,Y⟩:=z
  refine AW.seq (W6 Fm [(0,vi j),(1,vi l),(2,vi m),(3,vi n),(14,ow 46),(15,ow 50),(18,ow 56)] [(50,AO T),(46,AO P),(56,AO Y)] (by kernel_rfl) ?_);refine Kn.frz [(0,vi j),(1,vi l),(2,vi m),(3,vi n),(14,ow 46),(15,AL T),(18,ow 56)] [(46,AO P),(56,AO Y)] (by kernel_rfl) (by kernel_rfl) (by kernel_rfl) ?_
  refine W6 Fm [(0,vi j),(1,vi l),(2,vi m),(3,vi n),(14,ow 46),(15,AL T),(18,ow 56)] [(46,AO P),(56,AO Y)] (by kernel_rfl) ?_;refine Kn.frz [(0,vi j),(1,vi l),(2,vi m),(3,vi n),(14,AL P),(15,AL T),(18,ow 56)] [(56,AO Y)] (by kernel_rfl) (by kernel_rfl) (by kernel_rfl) ?_
  obtain ⟨l0,M1,h⟩:=bS h;refine Q9 Fm (sZ 5 [.s,.s,.k _]) (fun K=>K 2∧True) [0,1,2,3,14,15,18] [(19,AL l0.1),(20,vi l0.2)] [56] [] ⟨Q3 (Q2N M1) Tryz.call80 [],⟨⟩⟩ ?_
  refine AW.seq ?_;obtain ⟨m0,N1,h⟩:=bS h
  refine Q9 Fm (sZ 5 [.s,.s,.k _]) (fun K=>K 2∧True) [0,1,2,3,14,15,18,19,20] [(21,AL m0.1),(22,vi m0.2)] [56] [] ⟨Q3 (Z3c N1) Tryz.call85 [],⟨⟩⟩ ?_;refine AW.seq (Z2 (r:=r) (fun z:Bool=>Q0A F j l m n P T Y z) [0,1,2,3,14,15,18] (fun z=>[(140,vb z)]) [56] (fun _=>[]) (fun y2 h=>?_) (fun n2 G0=>?_))
  ·refine Q5 h (fun j1 h=>?_) (fun j1 h=>?_)
   ·refine Q0 Fm 1 [] [(12,vb false)] [] [] ?_
    refine AW.ret ?_;obtain rfl:=Option.some.inj h
    exact Kn.D Fm
   ·refine AW.skip (Z2 (r:=r) (fun z:Unit=>Q1X F) [] (fun _=>[]) [] (fun _=>[]) (fun z h=>?_) (fun u2 V0=>?_))
    ·refine AW.seq ?_
     obtain ⟨j2,e2,h⟩:=bS h;refine Q9 Fm [.k _,.s] (fun K=>K 0∧True) [] [(12,vb j2)] [] [] ⟨Q3 (Z5q e2) Tryz.call83 [],⟨⟩⟩ ?_
     refine AW.ret ?_;obtain rfl:=Option.some.inj h
     exact Kn.D Fm
    ·refine AW.seq ?_
     obtain ⟨o,O1,h⟩:=bS h;obtain ⟨p,P1,h⟩:=bS h
     obtain ⟨q,R1,h⟩:=bS h;obtain ⟨t1,h⟩:=gS h
     obtain ⟨u,T1,h⟩:=bS h;obtain ⟨u1,h⟩:=gS h
     refine Q9 Fm (sA 4 [.k _,.s,.k _,.s,.k _,.s,.s,.s,.k _,.s,.s,.w (AL ([(⟨j,l⟩:A2_),(⟨o,(p+q)⟩:A2_),(⟨(u-1),(5:Int)⟩:A2_)]:List A2_)),.s,.s]) (fun K=>K 4∧K 6∧K 8∧(_∧True)∧K 12∧(_∧True)∧(ALe (.v (.c (.d (.lst 3 (Z1g 2 [.int .i64 j,.int .i64 l,.int .i64 o,.int .i64 (p+q),.int .i64 (u-1),.int .i64 (5:Int)]))))) (AL ([(⟨j,l⟩:A2_),(⟨o,(p+q)⟩:A2_),(⟨(u-1),(5:Int)⟩:A2_)]:List A2_)))∧True) [2,3,14,15,18] [(156,AL ([(⟨j,l⟩:A2_),(⟨o,(p+q)⟩:A2_),(⟨(u-1),(5:Int)⟩:A2_)]:List A2_)),(157,vi ((List.length ([(⟨j,l⟩:A2_),(⟨o,(p+q)⟩:A2_),(⟨(u-1),(5:Int)⟩:A2_)]:List A2_):Nat):Int)),(158,vi 0)] [56] [] ⟨Q3 (Q1d O1) Tryz.call27 [],Q3 (Q1d P1) Tryz.call27 [],Q3 (Q1d R1) Tryz.call27 [],⟨t1,⟨⟩⟩,Q3 (Q1d T1) Tryz.call27 [],⟨u1,⟨⟩⟩,ALe.lst (.lit ([(⟨j,l⟩:A2_),(⟨o,(p+q)⟩:A2_),(⟨(u-1),(5:Int)⟩:A2_)]:List A2_) (by kernel_rfl)),⟨⟩⟩ ?_;refine AW.block (W6 Fm [(2,vi m),(3,vi n),(14,AL P),(15,AL T),(18,ow 56),(156,AL ([(⟨j,l⟩:A2_),(⟨o,(p+q)⟩:A2_),(⟨(u-1),(5:Int)⟩:A2_)]:List A2_)),(157,vi ((List.length ([(⟨j,l⟩:A2_),(⟨o,(p+q)⟩:A2_),(⟨(u-1),(5:Int)⟩:A2_)]:List A2_):Nat):Int)),(158,vi 0)] [(56,AO Y)] (by kernel_rfl) ?_)
     refine Kn.frz [(2,vi m),(3,vi n),(14,AL P),(15,AL T),(18,AL Y),(156,AL ([(⟨j,l⟩:A2_),(⟨o,(p+q)⟩:A2_),(⟨(u-1),(5:Int)⟩:A2_)]:List A2_)),(157,vi ((List.length ([(⟨j,l⟩:A2_),(⟨o,(p+q)⟩:A2_),(⟨(u-1),(5:Int)⟩:A2_)]:List A2_):Nat):Int)),(158,vi 0)] [] (by kernel_rfl) (by kernel_rfl) (by kernel_rfl) ?_;refine Z3 (E':=fun z=>[(2,vi m),(3,vi n),(14,AL P),(15,AL T),(18,AL z.1),(156,AL ([(⟨j,l⟩:A2_),(⟨o,(p+q)⟩:A2_),(⟨(u-1),(5:Int)⟩:A2_)]:List A2_)),(157,vi ((List.length ([(⟨j,l⟩:A2_),(⟨o,(p+q)⟩:A2_),(⟨(u-1),(5:Int)⟩:A2_)]:List A2_):Nat):Int)),(158,vi z.2)]) (S':=fun z=>[]) (fun E0 z o2 R0 h=>?_) h
     obtain ⟨c0,L⟩:=z;refine Q0 Fm 1 [2,3,14,15,18,156,157,158] [(159,vb (decide (L<((List.length ([(⟨j,l⟩:A2_),(⟨o,(p+q)⟩:A2_),(⟨(u-1),(5:Int)⟩:A2_)]:List A2_):Nat):Int))))] [] [] ?_
     refine AW.seq (Q5 h (fun k1 h=>?_) (fun k1 h=>?_))
     ·refine AW.skip (Z2 (r:=r) (fun z:Unit=>Q1Y F c0 L E0) [2,3,14,15,18,156,157,158] (fun _=>[]) [] (fun _=>[]) (fun z h=>?_) (fun t2 U0=>?_))
      ·obtain ⟨B1,h⟩:=gS h
       refine Q1 Fm [.s,.s] [2,3,14,15,18,156,157] [(158,vi (L+1))] [] [] (cT (cT B1)) ?_;exact Kn.R Fm (R0 (c0,(L+1)) h)
      ·refine AW.block ?_
       obtain ⟨w1,h⟩:=gS h;refine Y6 Fm (sA 4 []) [2,3,14,15,18,156,157,158] [(24,pt 24)] [] [(24,bx [ci ((gl ([(⟨j,l⟩:A2_),(⟨o,(p+q)⟩:A2_),(⟨(u-1),(5:Int)⟩:A2_)]:List A2_) L.toNat).e0_),ci ((gl ([(⟨j,l⟩:A2_),(⟨o,(p+q)⟩:A2_),(⟨(u-1),(5:Int)⟩:A2_)]:List A2_) L.toNat).e1_)])] (cT w1) ?_
       refine AW.seq ?_;obtain ⟨y,U1,h⟩:=bS h
       refine Q9 Fm (sA 6 (sZ 5 [.k _])) (fun K=>(True)∧(True)∧K 6∧True) [2,3,14,15,18,24,156,157,158] [(25,vb y.1),(26,vi y.2)] [24] [] ⟨True.intro,True.intro,Q3 (Q7a U1) Tryz.call81 [],⟨⟩⟩ ?_;refine AW.seq ?_
       obtain ⟨A,V1,h⟩:=bS h;refine Q9 Fm (sA 6 (sZ 5 [.k _])) (fun K=>(True)∧(True)∧K 6∧True) [2,3,14,15,18,24,25,26,156,157,158] [(27,vb A.1),(28,vi A.2)] [24] [] ⟨True.intro,True.intro,Q3 (Z3P V1) Tryz.call86 [],⟨⟩⟩ ?_
       refine AW.seq ?_;obtain ⟨H,W1,h⟩:=bS h
       refine Q9 Fm (sA 4 (sZ 5 [.k _])) (fun K=>(True)∧K 4∧True) [2,3,14,15,18,24,25,26,27,28,156,157,158] [(29,vb H.1),(30,vi H.2)] [24] [] ⟨True.intro,Q3 (Z1G W1) Tryz.call87 [],⟨⟩⟩ ?_;refine AW.seq ?_
       obtain ⟨I,X1,h⟩:=bS h;refine Q9 Fm (sA 4 (sZ 5 [.k _])) (fun K=>(True)∧K 4∧True) [2,3,14,15,18,24,25,26,27,28,29,30,156,157,158] [(31,vb I.1),(32,vi I.2)] [24] [] ⟨True.intro,Q3 (Z3Q X1) Tryz.call88 [],⟨⟩⟩ ?_
       refine AW.seq (Z2 (r:=r) (fun z:Bool=>J5 F j l m n P T o p q u c0 L E0 z) [2,3,14,15,18,24,156,157,158] (fun z=>[(215,vb z)]) [24] (fun _=>[]) (fun A2 h=>?_) (fun p2 d0=>?_))
       ·refine Q5 h (fun l1 h=>?_) (fun l1 h=>?_)
        ·refine Q0 Fm 1 [] [(12,vb false)] [] [] ?_
         refine AW.ret ?_;obtain rfl:=Option.some.inj h
         exact Kn.D Fm
        ·refine AW.skip (AW.seq ?_)
         obtain ⟨M,Y1,h⟩:=bS h;obtain ⟨N,Z1,h⟩:=bS h
         refine Q9 Fm (sA 4 [.k _,.s,.k _,.s,.w (AL ([(⟨m,n⟩:A2_),(⟨M,N⟩:A2_)]:List A2_)),.s,.s]) (fun K=>K 4∧K 6∧(ALe (.v (.c (.d (.lst 2 (Z1g 2 [.int .i64 m,.int .i64 n,.int .i64 M,.int .i64 N]))))) (AL ([(⟨m,n⟩:A2_),(⟨M,N⟩:A2_)]:List A2_)))∧True) [2,3,14,15,18,24,156,157,158] [(224,AL ([(⟨m,n⟩:A2_),(⟨M,N⟩:A2_)]:List A2_)),(225,vi ((List.length ([(⟨m,n⟩:A2_),(⟨M,N⟩:A2_)]:List A2_):Nat):Int)),(226,vi 0)] [24] [] ⟨Q3 (Q1d Y1) Tryz.call27 [],Q3 (Q1d Z1) Tryz.call27 [],ALe.lst (.lit ([(⟨m,n⟩:A2_),(⟨M,N⟩:A2_)]:List A2_) (by kernel_rfl)),⟨⟩⟩ ?_;refine AW.block (W6 Fm [(2,vi m),(3,vi n),(14,AL P),(15,AL T),(18,AL c0),(24,pt 24),(156,AL ([(⟨j,l⟩:A2_),(⟨o,(p+q)⟩:A2_),(⟨(u-1),(5:Int)⟩:A2_)]:List A2_)),(157,vi ((List.length ([(⟨j,l⟩:A2_),(⟨o,(p+q)⟩:A2_),(⟨(u-1),(5:Int)⟩:A2_)]:List A2_):Nat):Int)),(158,vi L),(224,AL ([(⟨m,n⟩:A2_),(⟨M,N⟩:A2_)]:List A2_)),(225,vi ((List.length ([(⟨m,n⟩:A2_),(⟨M,N⟩:A2_)]:List A2_):Nat):Int)),(226,vi 0)] [(24,bx [ci ((gl ([(⟨j,l⟩:A2_),(⟨o,(p+q)⟩:A2_),(⟨(u-1),(5:Int)⟩:A2_)]:List A2_) L.toNat).e0_),ci ((gl ([(⟨j,l⟩:A2_),(⟨o,(p+q)⟩:A2_),(⟨(u-1),(5:Int)⟩:A2_)]:List A2_) L.toNat).e1_)])] (by kernel_rfl) ?_)
         refine Z3 (E':=fun z=>[(2,vi m),(3,vi n),(14,AL P),(15,AL T),(18,AL c0),(24,pt 24),(156,AL ([(⟨j,l⟩:A2_),(⟨o,(p+q)⟩:A2_),(⟨(u-1),(5:Int)⟩:A2_)]:List A2_)),(157,vi ((List.length ([(⟨j,l⟩:A2_),(⟨o,(p+q)⟩:A2_),(⟨(u-1),(5:Int)⟩:A2_)]:List A2_):Nat):Int)),(158,vi L),(224,AL ([(⟨m,n⟩:A2_),(⟨M,N⟩:A2_)]:List A2_)),(225,vi ((List.length ([(⟨m,n⟩:A2_),(⟨M,N⟩:A2_)]:List A2_):Nat):Int)),(226,vi z)]) (S':=fun z=>[(24,bx [ci ((gl ([(⟨j,l⟩:A2_),(⟨o,(p+q)⟩:A2_),(⟨(u-1),(5:Int)⟩:A2_)]:List A2_) L.toNat).e0_),ci ((gl ([(⟨j,l⟩:A2_),(⟨o,(p+q)⟩:A2_),(⟨(u-1),(5:Int)⟩:A2_)]:List A2_) L.toNat).e1_)])]) (fun O0 Z q2 T0 h=>?_) h;refine Q0 Fm 1 [2,3,14,15,18,24,156,157,158,224,225,226] [(227,vb (decide (Z<((List.length ([(⟨m,n⟩:A2_),(⟨M,N⟩:A2_)]:List A2_):Nat):Int))))] [24] [] ?_
         refine AW.seq (Q5 h (fun m1 h=>?_) (fun m1 h=>?_))
         ·refine AW.skip (AW.seq (AW.block ?_))
          obtain ⟨y1,h⟩:=gS h;refine Y6 Fm (sA 4 []) [2,3,14,15,18,24,156,157,158,224,225,226] [(34,pt 34)] [24] [(34,bx [ci ((gl ([(⟨m,n⟩:A2_),(⟨M,N⟩:A2_)]:List A2_) Z.toNat).e0_),ci ((gl ([(⟨m,n⟩:A2_),(⟨M,N⟩:A2_)]:List A2_) Z.toNat).e1_)])] (cT y1) ?_
          refine AW.seq ?_;obtain ⟨B,a2,h⟩:=bS h
          refine Q9 Fm (sA 9 (sZ 5 [.k _])) (fun K=>(True)∧(True)∧(True)∧K 9∧True) [2,3,14,15,18,24,34,156,157,158,224,225,226] [(35,vb B.1),(36,vi B.2)] [24,34] [] ⟨True.intro,True.intro,True.intro,Q3 (Z1E a2) Tryz.call89 [],⟨⟩⟩ ?_;refine AW.seq ?_
          obtain ⟨E,b2,h⟩:=bS h;refine Q9 Fm (sA 9 (sZ 5 [.k _])) (fun K=>(True)∧(True)∧(True)∧K 9∧True) [2,3,14,15,18,24,34,35,36,156,157,158,224,225,226] [(37,vb E.1),(38,vi E.2)] [24,34] [] ⟨True.intro,True.intro,True.intro,Q3 (Z3N b2) Tryz.call90 [],⟨⟩⟩ ?_
          refine AW.seq ?_;obtain ⟨W,c2,h⟩:=bS h
          refine Q9 Fm (sA 7 (sZ 6 [.k _])) (fun K=>(True)∧(True)∧K 7∧True) [2,3,14,15,18,24,34,35,36,37,38,156,157,158,224,225,226] [(39,pt 39),(40,vi W.2)] [24,34] [(39,bx [.d (DL W.1.t_)])] ⟨True.intro,True.intro,Q3 (Z1F c2) Tryz.call84 [],⟨⟩⟩ ?_;refine AW.seq ?_
          obtain ⟨X,d2,h⟩:=bS h;refine Q9 Fm (sA 7 (sZ 6 [.k _])) (fun K=>(True)∧(True)∧K 7∧True) [2,3,14,15,18,24,35,36,37,38,39,40,156,157,158,224,225,226] [(41,pt 41),(42,vi X.2)] [24,39] [(41,bx [.d (DL X.1.t_)])] ⟨True.intro,True.intro,Q3 (Z3O d2) Tryz.call91 [],⟨⟩⟩ ?_
          refine Z2 (r:=r) (fun z:Bool=>J4 F Z O0 z) [2,3,14,15,18,24,156,157,158,224,225,226] (fun z=>[(296,vb z)]) [24] (fun _=>[]) (fun B2 h=>?_) (fun s2 e0=>?_)
          ·refine Q5 h (fun n1 h=>?_) (fun n1 h=>?_)
           ·refine Q0 Fm 1 [] [(12,vb false)] [] [] ?_
            refine AW.ret ?_;obtain rfl:=Option.some.inj h
            exact Kn.D Fm
           ·refine AW.skip ?_
            obtain ⟨A1,h⟩:=gS h;refine Q1 Fm [.s,.s] [2,3,14,15,18,24,156,157,158,224,225] [(226,vi (Z+1))] [24] [] (cT (cT A1)) ?_
            exact Kn.R Fm (T0 (Z+1) h)
          ·rcases Y7 h with ⟨b0,h⟩|⟨b0,h⟩
           ·refine Q9 Fm (sZ 15 [.s,.s,.k (sE (vb (!(B.1==E.1)))),.w (vb true)]) (fun K=>K 2∧_∧True) [2,3,14,15,18,24,156,157,158,224,225,226] [(296,vb true)] [24] [] ⟨Q7H (t:=4) (by kernel_rfl) false (a:=B.1) (b:=E.1) rfl rfl (by kernel_rfl) (by kernel_rfl) (by kernel_rfl),ALe.bool b0,⟨⟩⟩ ?_
            exact Kn.R Fm (e0 true h)
           ·rcases Y7 h with ⟨k0,h⟩|⟨k0,h⟩
            ·refine Q9 Fm (sZ 10 [.s,.s,.k (sE (vb (!(B.1==E.1)))),.w (vb false),.s,.s,.s,.s,.w (vb true)]) (fun K=>K 2∧_∧_∧True) [2,3,14,15,18,24,156,157,158,224,225,226] [(282,vi B.2),(283,vi E.2),(284,vb (B.2 != E.2)),(296,vb true)] [24] [] ⟨Q7H (t:=4) (by kernel_rfl) false (a:=B.1) (b:=E.1) rfl rfl (by kernel_rfl) (by kernel_rfl) (by kernel_rfl),ALe.bool b0,ALe.bool k0,⟨⟩⟩ ?_
             exact Kn.R Fm (e0 true h)
            ·obtain ⟨n0,K0,h⟩:=bS h
             rcases Y7 h with ⟨t0,h⟩|⟨t0,h⟩
             ·refine Q9 Fm [.s,.s,.k (sE (vb (!(B.1==E.1)))),.w (vb false),.s,.s,.s,.s,.w (vb false),.s,.s,.k _,.s,.s,.w (vb true),.s,.s,.s,.s] (fun K=>K 2∧_∧_∧K 11∧_∧True) [2,3,14,15,18,24,156,157,158,224,225,226] [(282,vi B.2),(283,vi E.2),(284,vb (B.2 != E.2)),(287,.v (.g [.d (DL W.1.t_)])),(288,.v (.g [.d (DL X.1.t_)])),(289,vb n0),(290,vb (!n0)),(296,vb true)] [24] [] ⟨Q7H (t:=4) (by kernel_rfl) false (a:=B.1) (b:=E.1) rfl rfl (by kernel_rfl) (by kernel_rfl) (by kernel_rfl),ALe.bool b0,ALe.bool k0,Q3 (Z1z K0) Tryz.call34 [],ALe.bool t0,⟨⟩⟩ ?_
              exact Kn.R Fm (e0 true h)
             ·refine Q9 Fm [.s,.s,.k (sE (vb (!(B.1==E.1)))),.w (vb false),.s,.s,.s,.s,.w (vb false),.s,.s,.k _,.s,.s,.w (vb false),.s,.s,.s,.s] (fun K=>K 2∧_∧_∧K 11∧_∧True) [2,3,14,15,18,24,156,157,158,224,225,226] [(282,vi B.2),(283,vi E.2),(284,vb (B.2 != E.2)),(287,.v (.g [.d (DL W.1.t_)])),(288,.v (.g [.d (DL X.1.t_)])),(289,vb n0),(290,vb (!n0)),(293,vi W.2),(294,vi X.2),(295,vb (W.2 != X.2)),(296,vb (W.2 != X.2))] [24] [] ⟨Q7H (t:=4) (by kernel_rfl) false (a:=B.1) (b:=E.1) rfl rfl (by kernel_rfl) (by kernel_rfl) (by kernel_rfl),ALe.bool b0,ALe.bool k0,Q3 (Z1z K0) Tryz.call34 [],ALe.bool t0,⟨⟩⟩ ?_
              exact Kn.R Fm (e0 (W.2 != X.2) h)
         ·exact AW.exit (Kn.R Fm (U0 () h))
       ·rcases Y7 h with ⟨a0,h⟩|⟨a0,h⟩
        ·refine Q9 Fm (sZ 14 [.s,.s,.k (sE (vb (!(y.1==A.1)))),.w (vb true)]) (fun K=>K 2∧_∧True) [2,3,14,15,18,24,156,157,158] [(215,vb true)] [24] [] ⟨Q7H (t:=4) (by kernel_rfl) false (a:=y.1) (b:=A.1) rfl rfl (by kernel_rfl) (by kernel_rfl) (by kernel_rfl),ALe.bool a0,⟨⟩⟩ ?_
         exact Kn.R Fm (d0 true h)
        ·rcases Y7 h with ⟨j0,h⟩|⟨j0,h⟩
         ·refine Q9 Fm (sZ 9 [.s,.s,.k (sE (vb (!(y.1==A.1)))),.w (vb false),.s,.s,.s,.s,.w (vb true)]) (fun K=>K 2∧_∧_∧True) [2,3,14,15,18,24,156,157,158] [(202,vi y.2),(203,vi A.2),(204,vb (y.2 != A.2)),(215,vb true)] [24] [] ⟨Q7H (t:=4) (by kernel_rfl) false (a:=y.1) (b:=A.1) rfl rfl (by kernel_rfl) (by kernel_rfl) (by kernel_rfl),ALe.bool a0,ALe.bool j0,⟨⟩⟩ ?_
          exact Kn.R Fm (d0 true h)
         ·rcases Y7 h with ⟨s0,h⟩|⟨s0,h⟩
          ·refine Q9 Fm [.s,.s,.k (sE (vb (!(y.1==A.1)))),.w (vb false),.s,.s,.s,.s,.w (vb false),.s,.s,.k (sE (vb (!(H.1==I.1)))),.s,.w (vb true),.s,.s,.s,.s] (fun K=>K 2∧_∧_∧K 11∧_∧True) [2,3,14,15,18,24,156,157,158] [(202,vi y.2),(203,vi A.2),(204,vb (y.2 != A.2)),(207,vb H.1),(208,vb I.1),(209,vb (!(H.1==I.1))),(215,vb true)] [24] [] ⟨Q7H (t:=4) (by kernel_rfl) false (a:=y.1) (b:=A.1) rfl rfl (by kernel_rfl) (by kernel_rfl) (by kernel_rfl),ALe.bool a0,ALe.bool j0,Q7H (t:=4) (by kernel_rfl) false (a:=H.1) (b:=I.1) rfl rfl (by kernel_rfl) (by kernel_rfl) (by kernel_rfl),ALe.bool s0,⟨⟩⟩ ?_
           exact Kn.R Fm (d0 true h)
          ·refine Q9 Fm [.s,.s,.k (sE (vb (!(y.1==A.1)))),.w (vb false),.s,.s,.s,.s,.w (vb false),.s,.s,.k (sE (vb (!(H.1==I.1)))),.s,.w (vb false),.s,.s,.s,.s] (fun K=>K 2∧_∧_∧K 11∧_∧True) [2,3,14,15,18,24,156,157,158] [(202,vi y.2),(203,vi A.2),(204,vb (y.2 != A.2)),(207,vb H.1),(208,vb I.1),(209,vb (!(H.1==I.1))),(212,vi H.2),(213,vi I.2),(214,vb (H.2 != I.2)),(215,vb (H.2 != I.2))] [24] [] ⟨Q7H (t:=4) (by kernel_rfl) false (a:=y.1) (b:=A.1) rfl rfl (by kernel_rfl) (by kernel_rfl) (by kernel_rfl),ALe.bool a0,ALe.bool j0,Q7H (t:=4) (by kernel_rfl) false (a:=H.1) (b:=I.1) rfl rfl (by kernel_rfl) (by kernel_rfl) (by kernel_rfl),ALe.bool s0,⟨⟩⟩ ?_
           exact Kn.R Fm (d0 (H.2 != I.2) h)
     ·exact AW.exit (Kn.R Fm (V0 () h))
  ·obtain ⟨D2,I0,h⟩:=bS h
   rcases Y7 h with ⟨q0,h⟩|⟨q0,h⟩
   ·refine Q9 Fm [.s,.s,.k _,.s,.w (vb true),.s,.s,.s,.s] (fun K=>K 2∧_∧True) [0,1,2,3,14,15,18] [(140,vb true)] [56] [] ⟨Q3 (Q7h I0) Tryz.call82 [],ALe.bool q0,⟨⟩⟩ ?_
    exact Kn.R Fm (G0 true h)
   ·refine Q9 Fm [.s,.s,.k _,.s,.w (vb false),.s,.s,.s,.s] (fun K=>K 2∧_∧True) [0,1,2,3,14,15,18] [(140,vb (l0.2 != m0.2))] [56] [] ⟨Q3 (Q7h I0) Tryz.call82 [],ALe.bool q0,⟨⟩⟩ ?_
    exact Kn.R Fm (G0 (l0.2 != m0.2) h)
 ·refine AW.seq ?_
  obtain ⟨V,I1,h⟩:=bS h;refine Q9 Fm [.s,.k _] (fun K=>K 1∧True) [0,1,2,3,4,13,14,15,18] [(58,vi V.2)] [46,50,56] [(44,bx (gC V.1))] ⟨Q3 (Y3 I1) Tryz.call15 [(0,44)],⟨⟩⟩ ?_
  refine AW.block (Q0 Fm 2 [0,1,2,3,4,13,14,15,18,58] [(59,vb (V.2==(0:Int)))] [44,46,50,56] [] ?_);refine Q5 h (fun W0 h=>?_) (fun W0 h=>?_)
  ·refine Q0 Fm 3 [0,1,2,3,4,14,15,18] [(63,vb (decide ((0:Int)<(lI i.2.2.1))))] [46,50,56] [] ?_
   refine Q5 h (fun X0 h=>?_) (fun X0 h=>?_)
   ·obtain ⟨u0,h⟩:=gS h
    refine Q0I Fm (sA 5 []) [0,1,2,3,14,15,18] [] [46,56] [(50,AO (List.set i.2.2.1 (0:Int).toNat (⟨(gl i.2.2.1 (0:Int).toNat).p_,(gl i.2.2.1 (0:Int).toNat).g_,O,(gl i.2.2.1 (0:Int).toNat).s_⟩:Line)))] (cA u0 (cT (Z7 u0))) [(50,rSt i.2.2.1 (0:Int).toNat 2 [.int .i64 O])] ⟨oSt (Z7 u0),⟨⟩⟩ ?_;exact Kn.R Fm (U (e.2.1,(List.set i.2.2.1 (0:Int).toNat (⟨(gl i.2.2.1 (0:Int).toNat).p_,(gl i.2.2.1 (0:Int).toNat).g_,O,(gl i.2.2.1 (0:Int).toNat).s_⟩:Line)),e.2.2) h)
   ·exact AW.skip (Kn.R Fm (U (e.2.1,i.2.2.1,e.2.2) h))
  ·refine Q0 Fm 2 [0,1,2,3,4,13,14,15,18,58] [(68,vb (V.2==(1:Int)))] [44,46,50,56] [] ?_
   refine Q5 h (fun Y0 h=>?_) (fun Y0 h=>?_)
   ·refine Q0 Fm 3 [0,1,2,3,13,14,15,18] [(72,vb (decide ((0:Int)<(lI i.2.2.1))))] [44,46,50,56] [] ?_
    refine Q5 h (fun Z0 h=>?_) (fun Z0 h=>?_)
    ·obtain ⟨B0,K1,h⟩:=bS h
     obtain ⟨w0,h⟩:=gS h;refine Z0e Fm [.s,.s,.k _,.s,.s,.s] (fun K=>K 2∧_∧_∧True) [0,1,2,3,14,15,18] [] [46,56] [(50,AO (List.set i.2.2.1 (0:Int).toNat (⟨(gl i.2.2.1 (0:Int).toNat).p_,B0.2,(gl i.2.2.1 (0:Int).toNat).c_,(gl i.2.2.1 (0:Int).toNat).s_⟩:Line)))] ⟨Q3 (Z1N K1) Tryz.call26 [(0,44)],w0,(Z7 w0),⟨⟩⟩ [(50,rSt i.2.2.1 (0:Int).toNat 1 [DL B0.2.t_])] ⟨oSt (Z7 w0),⟨⟩⟩ ?_
     exact Kn.R Fm (U (e.2.1,(List.set i.2.2.1 (0:Int).toNat (⟨(gl i.2.2.1 (0:Int).toNat).p_,B0.2,(gl i.2.2.1 (0:Int).toNat).c_,(gl i.2.2.1 (0:Int).toNat).s_⟩:Line)),e.2.2) h)
    ·exact AW.skip (Kn.R Fm (U (e.2.1,i.2.2.1,e.2.2) h))
   ·refine Q0 Fm 2 [0,1,2,3,4,14,15,18,58] [(78,vb (V.2==(2:Int)))] [46,50,56] [] ?_
    refine Q5 h (fun a1 h=>?_) (fun a1 h=>?_)
    ·obtain ⟨o1,h⟩:=gS h
     refine Q0I Fm (sA 4 []) [0,1,2,3,14,18] [(15,ow 82)] [46,56] [(82,AO (i.2.2.1++i.2.2.1))] (cT (cA o1 (cT (lfl i.2.2.1)))) [(82,rAp i.2.2.1 i.2.2.1)] ⟨oAp,⟨⟩⟩ ?_;exact Q1f Fm [(50,82)] (U (e.2.1,(i.2.2.1++i.2.2.1),e.2.2) h)
    ·refine Q0 Fm 2 [0,1,2,3,4,14,15,18,58] [(83,vb (V.2==(3:Int)))] [46,50,56] [] ?_
     refine Q5 h (fun b1 h=>?_) (fun b1 h=>?_)
     ·obtain ⟨y0,h⟩:=gS h
      refine Q0I Fm (sA 4 []) [0,1,2,3,14,15,18] [] [50,56] [(46,AO (List.set e.2.1 (0:Int).toNat (⟨(ByteArray.mk #[]),(gl e.2.1 (0:Int).toNat).f_,(gl e.2.1 (0:Int).toNat).m_⟩:Crop)))] (cA y0 (cT (Z7 y0))) [(46,rSt e.2.1 (0:Int).toNat 0 [.str (ByteArray.mk #[])])] ⟨oSt (Z7 y0),⟨⟩⟩ ?_;exact Kn.R Fm (U ((List.set e.2.1 (0:Int).toNat (⟨(ByteArray.mk #[]),(gl e.2.1 (0:Int).toNat).f_,(gl e.2.1 (0:Int).toNat).m_⟩:Crop)),i.2.2.1,e.2.2) h)
     ·refine Q0 Fm 2 [0,1,2,3,4,14,15,18,58] [(88,vb (V.2==(4:Int)))] [46,50,56] [] ?_
      refine Q5 h (fun c1 h=>?_) (fun c1 h=>?_)
      ·refine Q0 Fm 3 [0,1,2,3,4,14,15,18] [(92,vb (decide ((0:Int)<(lI e.2.2))))] [46,50,56] [] ?_
       refine Q5 h (fun d1 h=>?_) (fun d1 h=>?_)
       ·obtain ⟨D0,L1,h⟩:=bS h
        obtain ⟨p1,A0,h⟩:=gS2 h;refine Y1U Fm [.s,.s,.k _,.s,.s,.s,.s] (fun K=>K 2∧(_∧True)∧_∧_∧True) [(0,vi j),(1,vi l),(2,vi m),(3,vi n),(14,ow 46),(15,ow 50),(18,ow 56)] [(46,AO e.2.1),(50,AO i.2.2.1),(56,AO (List.set e.2.2 (0:Int).toNat (⟨(gl e.2.2 (0:Int).toNat).y_,(D0-(3:Int)),(gl e.2.2 (0:Int).toNat).g_⟩:Rg_)))] ⟨Q3 (Q1d L1) Tryz.call27 [],⟨p1,⟨⟩⟩,A0,(Z7 A0),⟨⟩⟩ [(56,rSt e.2.2 (0:Int).toNat 1 [.int .i64 (D0-(3:Int))])] ⟨oSt (Z7 A0),⟨⟩⟩ ?_
        exact Kn.R Fm (U (e.2.1,i.2.2.1,(List.set e.2.2 (0:Int).toNat (⟨(gl e.2.2 (0:Int).toNat).y_,(D0-(3:Int)),(gl e.2.2 (0:Int).toNat).g_⟩:Rg_))) h)
       ·exact AW.skip (Kn.R Fm (U (e.2.1,i.2.2.1,e.2.2) h))
      ·refine Q0 Fm 2 [0,1,2,3,4,14,15,18] [(99,vb (V.2==(5:Int)))] [46,50,56] [] ?_
       refine Q5 h (fun e1 h=>?_) (fun e1 h=>?_)
       ·refine AW.block (W6 Fm [(0,vi j),(1,vi l),(2,vi m),(3,vi n),(4,vi O),(14,ow 46),(15,ow 50),(18,ow 56)] [(46,AO e.2.1),(50,AO i.2.2.1),(56,AO e.2.2)] (by kernel_rfl) ?_)
        refine Z3 (E':=fun z=>[(0,vi j),(1,vi l),(2,vi m),(3,vi n),(4,vi O),(14,ow 46),(15,ow 50),(18,ow 56)]) (S':=fun z=>[(46,AO e.2.1),(50,AO z),(56,AO e.2.2)]) (fun N0 G k2 P0 h=>?_) h;refine AW.seq (Z2 (r:=r) (fun z:Bool=>U3 F j l m n e G N0 z) [0,1,2,3,4,14,15,18] (fun z=>[(113,vb z)]) [46,50,56] (fun _=>[]) (fun w2 h=>?_) (fun l2 o0=>?_))
        ·refine Q5 h (fun i1 h=>?_) (fun i1 h=>?_)
         ·refine AW.skip (AW.block ?_)
          obtain ⟨H0,s1,h⟩:=gS2 h;refine Q0I Fm (sA 4 [.w (AL [(gl G (0:Int).toNat)]),.s,.s]) [0,1,2,3,4,14,18] [(15,ow 119)] [46,56] [(119,AO (G++([(gl G (0:Int).toNat)]:List Line)))] (cA H0 (cA (Z7 H0) (cA (Z0I (gl G (0:Int).toNat)) (cT (cA s1 (cT (lfl ([(gl G (0:Int).toNat)]:List Line)))))))) [(119,rAp G ([(gl G (0:Int).toNat)]:List Line))] ⟨oAp,⟨⟩⟩ ?_
          exact Q1f Fm [(50,119)] (P0 (G++([(gl G (0:Int).toNat)]:List Line)) h)
         ·exact AW.exit (Kn.R Fm (U (e.2.1,G,e.2.2) h))
        ·rcases Y7 h with ⟨i0,h⟩|⟨i0,h⟩
         ·rcases Y7 h with ⟨p0,h⟩|⟨p0,h⟩
          ·obtain ⟨q1,h⟩:=gS h
           refine Q1 Fm [.s,.s,.s,.w (vb true),.s,.s,.s,.s,.w (vb true),.s,.s,.s,.s] [0,1,2,3,4,14,15,18] [(105,ow 50),(106,vi (lI G)),(107,vb (decide ((0:Int)<(lI G)))),(110,vi O),(111,vi (O.tmod (2:Int))),(112,vb ((O.tmod (2:Int))==0)),(113,vb ((O.tmod (2:Int))==0))] [46,50,56] [] (cA (ALe.bool i0) (cA (ALe.bool p0) (cT q1))) ?_;exact Kn.R Fm (o0 ((O.tmod (2:Int))==0) h)
          ·refine Q1 Fm [.s,.s,.s,.w (vb true),.s,.s,.s,.s,.w (vb false),.s,.s,.s,.s] [0,1,2,3,4,14,15,18] [(105,ow 50),(106,vi (lI G)),(107,vb (decide ((0:Int)<(lI G)))),(113,vb false)] [46,50,56] [] (cA (ALe.bool i0) (cT (ALe.bool p0))) ?_
           exact Kn.R Fm (o0 false h)
         ·refine Q1 Fm (sZ 9 [.s,.s,.s,.w (vb false)]) [0,1,2,3,4,14,15,18] [(113,vb false)] [46,50,56] [] (cT (ALe.bool i0)) ?_
          exact Kn.R Fm (o0 false h)
       ·exact AW.skip (Kn.R Fm (U (e.2.1,i.2.2.1,e.2.2) h))
end Go.Ab
end
