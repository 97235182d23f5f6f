/- The code follows the plain programs. -/
import Derived.Test.YtngflklgdflcdaaGreatDoorHaC
set_option maxRecDepth 100000
set_option maxHeartbeats 4000000
set_option linter.all false
noncomputable section
namespace Go.Ab
section
open Go.Proofs Go.Proofs.Tryz
theorem Z7k{F l r}(h:MT F l=some r):
  WN Tryz.prog 10 [.v (.c (.d (.str l)))] [] (.t [.c (.d (DL r.1)),.c (ci r.2.1),.c (ci r.2.2)]) []:=by
 refine Rv func10 λC hzd Fi=>?_
 have Fm:=Fi.b;unfold MT at h
 refine Q0 (Q1 (bO h λm M h=>Z8 [.s,.k (cE [] [] (.t [.c (.d (DL m.1)),.c (ci m.2)]) [] [])] (k1 1) ⟨JO hzd (qK M) call34 [],⟨⟩⟩ (Q1 (Q0 (Q2 h (λA h=>?_) (λA h=>?_))))))
 .exact Q0 (J6 h (Yd aB 2 G2))
 .refine Q4 (nA aB 7 (Y7 r (LN F) (λ_=>[(7,ow 7)]) [] (λz=>[(7,AO z)]) (λT h=>?_) (λY u=>?_)))
  .exact Q1 (bO h λV P h=>Z8 [.s,.k (cE [(0,7)] [] (.any) [(0,AO T)] [(0,AO V)])] (k1 1) ⟨z7 (Q9v P) call37 [(0,7)] [] [.tmp 59,.func 38] ⟨.p,Qm call38 [] (λargs r hq=>by obtain⟨y0,y1,y,hq,rfl,rfl⟩:=hq;exact⟨IN (OZ hq),rfl⟩) [] (True.intro),⟨⟩⟩,⟨⟩⟩ (Q0 (J6 h (G6 7 G2))))
  .refine Q0 (Q9 (Qb h (λa _=>[(7,ow 7),(22,vi a)]) (λ_ b=>[(7,AO b)]) (λo R i W q h=>?_)))
   refine Q0 (Q1 (Q2 h (λZ h=>Q4 (Y7 r (MS F R o) (λ_=>[(7,ow 7)]) [] (λz=>[(7,AO z)]) (λb0 h=>K2 h q) (λX j=>Q9 (gO h λG h=>U7 (cT G) (Q1 (Q0 (Q2 h (U3 j) (λa0 h=>Q4 (Q1 (bO h λe N h=>V9 1 (Z7h N) call35 [] (Q1 (Q9 (Q0 (Q2 h (λB h=>?_) (λB h=>?_))))))))))))))) (U3 u)))
   .exact gO h λH h=>U7 (cT (cT H)) (J6 h (Yd aB 2 G2))
   .refine Q1 (bO h λU O h=>Z8 (sN 3 [.k (sE (vi U))]) (k1 3) ⟨Ru (Z7n O) call36 [7] [.tmp 41,.tmp 43] rfl ⟨WF.own 7 (es:=3) (n:=List.length i) (f:=LF i),Er (Z5.of_eq (by kernel_rfl)),⟨⟩⟩,⟨⟩⟩ (Q2 h (λD h=>?_) (λD h=>?_)))
    .exact gO h λI h=>U7 (cT (cT I)) (J6 h (Yd aB 2 G2))
    .refine Q0 (Q2 h (λE h=>gO h λK h=>U7 (cT (cT K)) (VX ?_)) (λE h=>Q4 (gO h λL h=>QD (sN 2 [.w (AL [e.1])]) (cA (QS e.1) (cT (cA L (cT (z9 ([e.1]:Φ)))))) [(57,Qd i ([e.1]:Φ))] [(57,AO (i++([e.1]:Φ)))] ⟨Qf,⟨⟩⟩ (z4 Fm [(7,57)] (j h)))))
     obtain rfl:=ic h;exact Yd aB 2 G2
theorem Q7T{F n r}(h:Dj F n=some r):SP 5 [pt 0] [(0,bx (gC n))] (.t [.c (.d (DL r.2.1)),.c (.d (DL r.2.2.1)),.c (.d (DL r.2.2.2))]) [(0,bx (gC r.1))]:=by
 refine GJ func5 λC Fm=>Q0 (Q1 (bO h λk K h=>V9 1 (EU K) call18 [(0,0)] (nA aE 6 (Y7 r (RL F k) (λ_=>[(6,ow 6)]) [0] (λz=>[(6,AO z)]) (λm h=>?_) (λR p=>?_)))))
 .refine nA aW 8 (Da r (λz:(List aW)×θ×Int=>qV F k m z.1 z.2.1 z.2.2) (λ_=>[(8,ow 8)]) [6] (λz=>[(0,bx [.d (DL z.2.1),ci z.2.2]),(8,AO z.1)]) (λz h=>?_) (λU u=>?_))
  .obtain ⟨Z,a0,b0⟩:=z
   exact Q0 (J6 h (G6 8 (G6 6 G2)))
  .refine Q1 (bO h λc0 L h=>V9 1 (WW L) call19 [(0,0)] (Q9 (VY h (λa _ _ _=>[(8,ow 8),(9,vi a)]) (λ_ b c d=>[(0,bx [.d (DL b),ci c]),(6,AO m),(8,AO d)]) (λW Y N O j T q h=>?_))))
   exact Q1 (Q0 (Q2 h (λy h=>Q4 (Q1 (Q9 (Q1 (bO h λi M h=>V9 2 (Z4N M) call20 [(0,0)] (gO h λH h=>QD (sN 3 [.w (AL [(⟨0,i.2.1⟩:aW)])]) (cA (QS (⟨0,i.2.1⟩:aW)) (cT (cA H (cT (z9 ([(⟨0,i.2.1⟩:aW)]:List aW)))))) [(47,Qd j ([(⟨0,i.2.1⟩:aW)]:List aW))] [(47,AO (j++([(⟨0,i.2.1⟩:aW)]:List aW)))] ⟨Qf,⟨⟩⟩ (gO h λI h=>Qi (cT (cT I)) (z4 Fm.b [(8,47)] (q h))))))))) (λy h=>JS (U2 (u (j,N,O) h)))))
 .refine Q0 (Q9 (Qb h (λa _=>[(6,ow 6),(7,vi a)]) (λ_ b=>[(0,bx (gC k.1)),(6,AO b)]) (λV e l P o h=>?_)))
  refine Q1 (Q0 (Q2 h (λX h=>?_) (U3 p)));exact Q4 (Q1 (Q9 (JB h λA B D E h=>QD (sN 7 [.w (AL [(⟨((10:Int)*e),0,(((10:Int)*e)+9),(9:Int)⟩:aa)]),.s,.w (AL [(⟨([(⟨((10:Int)*e),0,(((10:Int)*e)+9),(9:Int)⟩:aa)]:ζ)⟩:aE)])]) (cA (cT A) (cA (cT B) (cA (cT D) (cA (QS (⟨((10:Int)*e),0,(((10:Int)*e)+9),(9:Int)⟩:aa)) (cA (QS (⟨([(⟨((10:Int)*e),0,(((10:Int)*e)+9),(9:Int)⟩:aa)]:ζ)⟩:aE)) (cT (cA E (cT (z9 ([(⟨([(⟨((10:Int)*e),0,(((10:Int)*e)+9),(9:Int)⟩:aa)]:ζ)⟩:aE)]:Ω)))))))))) [(29,Qd l ([(⟨([(⟨((10:Int)*e),0,(((10:Int)*e)+9),(9:Int)⟩:aa)]:ζ)⟩:aE)]:Ω))] [(29,AO (l++([(⟨([(⟨((10:Int)*e),0,(((10:Int)*e)+9),(9:Int)⟩:aa)]:ζ)⟩:aE)]:Ω)))] ⟨Qf,⟨⟩⟩ (gO h λG h=>Qi (cT (cT G)) (z4 Fm.b [(6,29)] (o h))))))
theorem Q7V{F r}(h:Dk F=some r):
  WN Tryz.prog 17 [] [] (vb r) []:=by
 refine Rv func17 λC hzd Fi=>?_
 have Fm:=Fi.b;unfold Dk at h
 refine Q0 (Q1 (bO h λO D h=>Z8 [.s,.w (AL [(⟨0,0,(10:Int),(10:Int)⟩:aa)]),.k _] (λK=>_/\K 2/\True) ⟨QS (⟨0,0,(10:Int),(10:Int)⟩:aa),Z6 (Z2h D) call48 [],⟨⟩⟩ (Q1 (bO h λP E h=>V9 1 (Z3R E) call49 [] (Q1 (bO h λR G h=>bO h λT H h=>Z8 [.w (.v (.g [ci (1:Int),ci 0,ci 0,.d (DL (α:=aj) [])])),.s,.w (AL [(⟨(1000:Int),(200:Int)⟩:aG)]),.s,.s,.k _,.k _] (λK=>(Z5 (.v (.g [ci (1:Int),ci 0,ci 0,f0])) (.v (.g [ci (1:Int),ci 0,ci 0,.d (DL (α:=aj) [])])))/\_/\K 5/\K 6/\True) ⟨Z5.g ⟨U6.refl _,U6.refl _,U6.refl _,U6.fl .nil,⟨⟩⟩,QS (⟨(1000:Int),(200:Int)⟩:aG),Z6 (Z2n G) call51 [],Z6 (Z0W H) call50 [],⟨⟩⟩ (Q1 (bO h λA I h=>Z8 [.k (cE [] [] (.t [.c (.d (DL A.1)),.c (ci A.2)]) [] [])] (k1 0) ⟨JO hzd (qK I) call34 [],⟨⟩⟩ (Q1 (bO h λU L h=>?_))))))))));refine Z8 [.w (AL ([(1:Int),(2:Int)]:θ)),.k _] (λK=>(Z5 (.v (.c (.d (.lst 2 (y7 1 [.int .i64 (1:Int),.int .i64 (2:Int)]))))) (AL ([(1:Int),(2:Int)]:θ)))/\K 1/\True) ⟨Z5.lst (.lit ([(1:Int),(2:Int)]:θ) (by kernel_rfl)),Z6 (Ns L) call52 [],⟨⟩⟩ (Y7 r (VA F) (jb 0) [] nn (λN h=>BZ Fm h) (λM a=>V8 h (λi h=>V8 h (λe h=>?_) (λe h=>U9 (sN 2 (If [AI])) (bA i (bU e)) (a h))) (bJ 2 false a)))
 refine V8 h (λj h=>gO h λn h=>V8 h (λl h=>V8 h (λm h=>?_) (λm h=>U9 (sN 2 ((If (AS [sh]))++sN 6 (If [AI]))) (bA i (bA e (bA j (cA n (bA l (bU m)))))) (a h))) (λl h=>U9 (sN 2 ((If (AS [sh]))++sN 6 [AI])) (bA i (bA e (bA j (cA n (bU l))))) (a h))) (λj h=>U9 (sN 2 (If (AS [AI]))) (bA i (bA e (bU j))) (a h));refine V8 h (λo h=>V8 h (λp h=>?_) (λp h=>U9 (sN 2 ((If (AS [sh]))++sN 6 (If (If (If [AI]))))) (bA i (bA e (bA j (cA n (bA l (bA m (bA o (bU p)))))))) (a h))) (λo h=>U9 (sN 2 ((If (AS [sh]))++sN 6 (If (If [AI])))) (bA i (bA e (bA j (cA n (bA l (bA m (bU o))))))) (a h))
 refine V8 h (λq h=>V8 h (λu h=>?_) (λu h=>U9 (sN 2 ((If (AS [sh]))++sN 6 (If (If (If (AS (If [AI]))))))) (bA i (bA e (bA j (cA n (bA l (bA m (bA o (bA p (bA q (bU u)))))))))) (a h))) (λq h=>U9 (sN 2 ((If (AS [sh]))++sN 6 (If (If (If (AS [AI])))))) (bA i (bA e (bA j (cA n (bA l (bA m (bA o (bA p (bU q))))))))) (a h));exact V8 h (λy h=>gO h λB h=>U9 (sN 2 ((If (AS [sh]))++sN 6 ((If (If (If (AS (If [sh,.s,.s])))))++[.s,.s,sh]))) (bA i (bA e (bA j (cA n (bA l (bA m (bA o (bA p (bA q (bA u (bA y (cT B)))))))))))) (a h)) (λy h=>U9 (sN 2 ((If (AS [sh]))++sN 6 ((If (If (If (AS (If [sh,.s,.s])))))++[.s,.s,AI]))) (bA i (bA e (bA j (cA n (bA l (bA m (bA o (bA p (bA q (bA u (bU y))))))))))) (a h))
theorem Q7X{F M r}(h:Dm F M=some r):
  WN Tryz.prog 3 [AL M] [] (vb r) []:=by
 refine Rv func3 λC hzd Fi=>?_
 have Fm:=Fi.b;unfold Dm at h
 refine Q0 (Q1 (bO h λt0 W h=>V9 1 (Z5f W) call4 [(100,24)] (Q1 (bO h λi X h=>V9 1 (Q7T X) call5 [(0,24)] (Q1 (bO h λG Y h=>V9 1 (IR Y) call6 [(0,24),(100,32)] (Q1 (bO h λH Z h=>V9 2 (Z4I Z) call7 [(0,24)] (Q1 (bO h λe a0 h=>Z8 [.s,.k (cE [] [] (.t [.c (.d (.str e.1)),.c (ci e.2)]) [] [])] (k1 1) ⟨JO hzd (EO a0) call8 [],⟨⟩⟩ (Q1 (G5 Fm [(4,AL i.2.1),(5,AL i.2.2.1),(6,AL i.2.2.2),(7,ow 32),(8,pt 8),(9,.v (.c (.d (.str e.1)))),(10,vi e.2)] [(32,AO G.2),(8,bx (gC H.2))] ?_))))))))))));refine gT [(4,AL i.2.1),(5,AL i.2.2.1),(6,AL i.2.2.2),(7,AL G.2),(8,pt 8),(9,.v (.c (.d (.str e.1)))),(10,vi e.2)] [(8,bx (gC H.2))] (bO h λu b0 h=>Z8 [.s,.k (cE [] [] (.t [.c (.d (.str u.1)),.c (ci u.2)]) [] [])] (k1 1) ⟨JO hzd (Z0R b0) call9 [],⟨⟩⟩ (Q1 (gO h λO h=>bO h λy c0 h=>Z8 ([.s,.k (sE (.v (.c (.d (.str ((IS #[35,32,99,114,111,112,115,10])++e.1)))))),.k (cE [] [] (.t [.c (.d (DL y.1)),.c (ci y.2.1),.c (ci y.2.2)]) [] [])]) (k2 1 2) ⟨BV (a:=(IS #[35,32,99,114,111,112,115,10])) (b:=e.1) rfl rfl O,JO hzd (Z7k c0) call10 [],⟨⟩⟩ (Q1 (gO h λP h=>bO h λA d0 h=>?_)))))
 refine Z8 ([.s,.k (sE (.v (.c (.d (.str (u.1++(IS #[35,32,101,110,100,10]))))))),.k (cE [] [] (.t [.c (.d (DL A.1)),.c (ci A.2.1),.c (ci A.2.2)]) [] [])]) (k2 1 2) ⟨BV (a:=u.1) (b:=(IS #[35,32,101,110,100,10])) rfl rfl P,JO hzd (Z0S d0) call11 [],⟨⟩⟩ (Q1 (Y7 r (Jk F i G H y A) (jb 85) [8] nn (λq0 h=>?_) (λo0 j=>?_)))
 .refine Q2 h (λN h=>Y5 h) (λN h=>Q4 (Q1 (K9 h λR T h=>bO h λy0 i0 h=>bO h λA0 j0 h=>Z8 (sN 9 [.k _,.s,.s,.k _]) (λK=>_/\_/\K 9/\K 12/\True) ⟨R,T,Z6 (Aw i0) call15 [],Z6 (uG j0) call14 [],⟨⟩⟩ (Q0 (Q1 (K9 h λU V h=>bO h λB0 k0 h=>bO h λD0 l0 h=>Z8 (sN 9 [.k _,.s,.s,.k _]) (λK=>_/\_/\K 9/\K 12/\True) ⟨U,V,Z6 (Aw k0) call15 [],Z6 (uG l0) call14 [],⟨⟩⟩ ?_))))))
  exact Y7 r (Dl F) (jb 2) [] nn (λs0 h=>BZ Fm h) (λp0 o=>V8 h (λD h=>V8 h (λq h=>bO h λE0 L h=>V8 h (λE h=>bO h λn0 m0 h=>Z8 (sN 2 (If [sh,.s,.s,.k _,.s,sh,.k (cE [] [] (vb n0) [] [])])) (λK=>_/\_/\K 9/\_/\K 12/\True) ⟨bT D,bT q,Z6 (pk L) call16 [],bT E,JO hzd (Q7V m0) call17 [],⟨⟩⟩ (U2 (o h))) (λE h=>Z8 (sN 2 (If [sh,.s,.s,.k _,.s,AI])) (λK=>_/\_/\K 9/\_/\True) ⟨bT D,bT q,Z6 (pk L) call16 [],bT E,⟨⟩⟩ (U2 (o h)))) (λq h=>U9 (sN 2 (If [AI])) (bA D (bU q)) (o h))) (bJ 2 false o))
 .refine V8 h (bJ 2 true j) (λm h=>V8 h (λl h=>U9 (sN 2 (In [sh])) (bA m (bU l)) (j h)) (λl h=>?_))
  refine V8 h (λn h=>?_) (λn h=>V8 h (λp h=>U9 (sN 2 (In (In (In [sh])))) (bA m (bA l (bA n (bU p)))) (j h)) (λp h=>bO h λu0 I h=>V8 h (λB h=>Z8 (sN 2 (In (In (In [AI,.s,.s,.k _,.s,.s,sh])))) (λK=>_/\_/\_/\_/\K 17/\_/\True) ⟨bT m,bT l,bT n,bT p,Z6 (AD I) call12 [],bT B,⟨⟩⟩ (U2 (j h))) (λB h=>bO h λw0 e0 h=>Z8 (sN 2 (In (In (In [AI,.s,.s,.k _,.s,.s,AI,.s,.s,.k _])))) (λK=>_/\_/\_/\_/\K 17/\_/\K 23/\True) ⟨bT m,bT l,bT n,bT p,Z6 (AD I) call12 [],bT B,Z6 (IB e0) call13 [],⟨⟩⟩ (U2 (j h)))));exact U9 (sN 2 (In (In [sh]))) (bA m (bA l (bU n))) (j h)
