/- The code follows the plain programs. -/
import Derived.Test.YtgfmopdbhjcpfaaGreatBaA
import Derived.Test.YtgfmopdbhjcpfaaGreatAbC
set_option linter.unusedVariables false
set_option linter.unusedSimpArgs false
set_option maxRecDepth 100000
namespace Go.Ab
noncomputable section
section
abbrev cNL:List ByteArray:=[(ByteArray.mk #[98,97,114,108,101,121]),(ByteArray.mk #[99,108,111,118,101,114]),(ByteArray.mk #[103,114,97,115,115]),(ByteArray.mk #[109,97,105,122,101]),(ByteArray.mk #[111,97,116,115]),(ByteArray.mk #[114,121,101]),(ByteArray.mk #[118,101,116,99,104]),(ByteArray.mk #[119,104,101,97,116])]
abbrev sA(n:Nat)(l:List Dir):List Dir:=List.replicate n .s++l
abbrev sZ(n:Nat)(l:List Dir):List Dir:=l++List.replicate n .s
open Go.Proofs
abbrev dR:CV:=.d (DL (α:=Rect) [])
theorem FJ {f:Nat} {fn:Func} {c:Code} (hf:Tryz.prog.funcs[f]?=some fn) {args:List AVal} {S:List (Nat×Obj)} {r:AVal} {S' : List (Nat×Obj)} (h:∀ C,Fr Tryz.prog (Y3v TT) C (S.map (·.1))->AW Tryz.prog C fn.ntmps c (Y4u args) S (Y4T Tryz.prog fn C r S'))
  (hb:fn.body=some c:=by rfl) (hn0:Nat.ble args.length fn.ntmps=true:=by kernel_rfl):Q7 Tryz.prog f args S r S':=FI hf Y4X Q0b h hb hn0
theorem Y1T {F x1 r} (h:Z2J F x1=some r) :
  Q7 Tryz.prog 14 [AL x1] [] (pt 100) [(100,bx (gC r))]:=by
 refine FJ Tryz.func14 fun C Fm=>?_
 unfold Z2J at h;refine Q0 Fm 1 [0] [] [] [] ?_
 obtain ⟨hg2,h⟩:=gS h;refine Y4 Fm (sA 4 [.w (AL (x1.take (Q5P (lI x1) (400:Int)).toNat)),.s,.s,.s]) [] [(2,pt 9)] [] [(9,bx [.d (DL (x1.take (Q5P (lI x1) (400:Int)).toNat)),ci 0])] (cA (⟨hg2,(Is.refl x1).len⟩:((sl (List.length x1) (LF x1) none (some (Q5P (lI x1) (400:Int)))).2/\∀ j,j<List.length x1->(LF x1 j).length=1)) (cT (ALe.lst (Z6k x1 none (some (Q5P (lI x1) (400:Int))) hg2):ALe (.v (.c (.d (.lst (sl (List.length x1) (LF x1) none (some (Q5P (lI x1) (400:Int)))).1.1 (sl (List.length x1) (LF x1) none (some (Q5P (lI x1) (400:Int)))).1.2)))) (AL (x1.take (Q5P (lI x1) (400:Int)).toNat))))) (AW.ret ?_)
 obtain rfl:=Option.some.inj h;exact Q2P Fm [(100,9)] [(2,pt 100)] [(100,bx [.d (DL (x1.take (Q5P (lI x1) (400:Int)).toNat)),ci 0])] (Q3b Fm (by kernel_rfl))
theorem Z6z {F x3 x4 r} (h:Q9M F x3 x4=some r) :
  Q7 Tryz.prog 50 [vi x3,vi x4] [] (vi r) []:=by
 refine FJ Tryz.func50 fun C Fm=>?_
 unfold Q9M at h;refine Q0 Fm 1 [0,1] [] [] [] (AW.seq (Q0 Fm 2 [0,1] [(6,vb (decide (x4<(1:Int))))] [] [] (Q3 h (fun hb5 h=>?_) (fun hb5 h=>?_))))
 ·exact Q0 Fm 1 [] [(4,vi 0)] [] [] (Z2 Fm h)
 ·refine AW.skip ?_
  obtain ⟨hg6,h⟩:=gS h;refine Y4 Fm (sA 4 []) [1] [(0,vi (x3.tmod x4))] [] [] (cT hg6) (Q6 (r:=r) (fun z:Int=>Z5j F z) [] (fun z=>[(0,vi z)]) [] nn (fun v9 h=>?_) (fun b a=>?_))
  ·exact Q0 Fm 2 [] [(4,vi v9)] [] [] (Z2 Fm h)
  ·refine Q0 Fm 2 [0,1] [(11,vb (decide ((x3.tmod x4)<0)))] [] [] (Q3 h (fun hb7 h=>?_) (fun hb7 h=>?_))
   ·obtain ⟨hg8,h⟩:=gS h
    exact Q1 Fm (sA 4 []) [] [(0,vi ((x3.tmod x4)+x4))] [] [] (cT (cT hg8)) (Kn.R Fm (a ((x3.tmod x4)+x4) h))
   ·exact AW.skip (Kn.R Fm (a (x3.tmod x4) h))
theorem Z4 {F a b r} (h:Y3 F a b=some r) :
  Q7 Tryz.prog 18 [pt 0,vi b] [(0,bx (gC a))] (vi r.2) [(0,bx (gC r.1))]:=by
 refine FJ Tryz.func18 fun C Fm=>?_
 unfold Y3 at h;refine Q0 Fm 1 [0,1] [] [0] [] (AW.seq (Q0 Fm 10 [0,1] [(14,vb (decide ((lI a.l_)<=a.at_)))] [0] [] (Q3 h (fun c h=>?_) (fun c h=>?_))))
 ·exact Q0 Fm 1 [] [(4,vi 0)] [0] [] (Z2 Fm h)
 ·refine AW.skip ?_
  obtain ⟨e,h⟩:=gS h;refine Y4 Fm (sA 8 []) [0,1] [] [] [(0,bx [.d (DL a.l_),ci (a.at_+1)])] (cT (cT e)) (AW.seq ?_)
  obtain ⟨i,j,h⟩:=gS2 h;obtain ⟨m,l,h⟩:=bS h
  exact Q5 Fm (sA 12 [.k _,.s]) (fun K=>(_/\True)/\_/\K 12/\True) [] [(4,vi m)] [0] [] ⟨⟨i,⟨⟩⟩,j,Q2 (Z6z l) Tryz.call50 [],⟨⟩⟩ (Z2 Fm h)
theorem W6 {F b a c r} (h:W8 F b a c=some r) :
  Q7 Tryz.prog 72 [pt 0,vi a,vi c] [(0,bx (gC b))] (vi r.2) [(0,bx (gC r.1))]:=by
 refine FJ Tryz.func72 fun C Fm=>?_
 unfold W8 at h;refine Q0 Fm 1 [0,1,2] [] [0] [] (AW.seq ?_)
 obtain ⟨e,i,h⟩:=gS2 h;obtain ⟨d,l,h⟩:=bS h
 obtain ⟨j,h⟩:=gS h;exact Q5 Fm (sA 6 [.k _,.s,.s]) (fun K=>(_/\True)/\(_/\True)/\K 6/\(_/\True)/\True) [] [(6,vi (a+d.2))] [] [(0,bx (gC d.1))] ⟨⟨e,⟨⟩⟩,⟨i,⟨⟩⟩,Q2 (Z4 l) Tryz.call18 [(0,0)],⟨j,⟨⟩⟩,⟨⟩⟩ (Z2 Fm h)
theorem Z5i {F t r} (h:Q2v F t=some r) :
  Q7 Tryz.prog 32 [pt 0] [(0,bx (gC t))] (AL r.2) [(0,bx (gC r.1))]:=by
 refine FJ Tryz.func32 fun C Fm=>?_
 unfold Q2v at h;refine Q0 Fm 1 [0] [] [0] [] (Y4 Fm [.w (AL cNL),.s] [0] [(3,AL cNL)] [0] [] (cT (ALe.lst (.lit cNL (by kernel_rfl)):ALe (.v (.c (.d (.lst 8 (Z0n 1 [.str (ByteArray.mk #[98,97,114,108,101,121]),.str (ByteArray.mk #[99,108,111,118,101,114]),.str (ByteArray.mk #[103,114,97,115,115]),.str (ByteArray.mk #[109,97,105,122,101]),.str (ByteArray.mk #[111,97,116,115]),.str (ByteArray.mk #[114,121,101]),.str (ByteArray.mk #[118,101,116,99,104]),.str (ByteArray.mk #[119,104,101,97,116])]))))) (AL cNL))) ?_)
 refine y8 Fm [.m] (fun K=>True) [0,3] [(4,ow 4)] [0] [(4,AO ([]:List Crop))] True.intro [(4,.arr 3 (0) nn)] ⟨OLe.is ((Is.nil (α:=Crop))),⟨⟩⟩ (Q6 (r:=r) (fun z:(List Crop)×(List Int)×Int=>Z1u F z.1 z.2.1 z.2.2) [4] nn [] (fun z=>[(0,bx [.d (DL z.2.1),ci z.2.2]),(4,AO z.1)]) (fun z h=>?_) (fun T y=>?_))
 ·obtain ⟨o,p,q⟩:=z
  refine Q0 Fm 2 [] [(2,ow 4)] [0,4] [] (AW.ret ?_);obtain rfl:=Option.some.inj h
  exact Kn.w Fm [(2,ow 4)] [(4,AO o),(0,bx [.d (DL p),ci q])] (Q1F [(2,AL o)] [(0,bx [.d (DL p),ci q])] (Kn.D Fm))
 ·refine AW.seq ?_
  obtain ⟨a,I,h⟩:=bS h;obtain ⟨n,h⟩:=gS h
  refine Q5 Fm [.s,.s,.k _,.w (AL (cNL.take a.2.toNat)),.s,.s] (fun K=>K 2/\(((sl (List.length cNL) (LF cNL) none (some a.2)).2/\∀ j,j<List.length cNL->(LF cNL j).length=1))/\(ALe (.v (.c (.d (.lst (sl (List.length cNL) (LF cNL) none (some a.2)).1.1 (sl (List.length cNL) (LF cNL) none (some a.2)).1.2)))) (AL (cNL.take a.2.toNat)))/\True) [0,4] [(11,AL (cNL.take a.2.toNat)),(12,vi ((List.length (cNL.take a.2.toNat):Nat):Int)),(13,vi 0)] [4] [(0,bx (gC a.1))] ⟨Q2 (W6 I) Tryz.call72 [(0,0)],⟨n,(Is.refl cNL).len⟩,ALe.lst (Z6k cNL none (some a.2) n),⟨⟩⟩ ?_;refine AW.block (Kn.w Fm [(0,pt 0),(4,ow 4),(11,AL (cNL.take a.2.toNat)),(12,vi ((List.length (cNL.take a.2.toNat):Nat):Int)),(13,vi 0)] [(0,bx [.d (DL a.1.l_),ci a.1.at_]),(4,AO ([]:List Crop))] ?_)
  refine Z5 (E':=fun z=>[(0,pt 0),(4,ow 4),(11,AL (cNL.take a.2.toNat)),(12,vi ((List.length (cNL.take a.2.toNat):Nat):Int)),(13,vi z.1)]) (S':=fun z=>[(0,bx [.d (DL z.2.1),ci z.2.2.1]),(4,AO z.2.2.2)]) (fun U z P u h=>?_) h;obtain ⟨b,N,O,l⟩:=z
  refine Q0 Fm 1 [0,4,11,12,13] [(14,vb (decide (b<((List.length (cNL.take a.2.toNat):Nat):Int))))] [0,4] [] (AW.seq (Q3 h (fun A h=>?_) (fun A h=>?_)))
  ·refine AW.skip (AW.seq (AW.block ?_))
   obtain ⟨B,h⟩:=gS h;refine Y4 Fm [.s,.s,.s] [0,4,11,12,13] [(6,.v (.c (.d (.str (gn (cNL.take a.2.toNat) b)))))] [0,4] [] (cT B) ?_
   obtain ⟨i,L,h⟩:=bS h;obtain ⟨e,M,h⟩:=bS h
   obtain ⟨E,G,h⟩:=gS2 h;refine Z1C Fm [.s,.s,.s,.k _,.w (AL ([(0:Int),(0:Int),(0:Int),(2:Int),(20:Int),(8:Int),(1:Int),(31:Int)]:List Int)),.s,.k _,.s,.s,.s,.w (AL [(⟨(gn (cNL.take a.2.toNat) b),i.2,(gn ([(0:Int),(0:Int),(0:Int),(2:Int),(20:Int),(8:Int),(1:Int),(31:Int)]:List Int) e.2)⟩:Crop)]),.s,.s] (fun K=>K 3/\(ALe (.v (.c (.d (.lst 8 (Z0n 1 [.int .i64 (0:Int),.int .i64 (0:Int),.int .i64 (0:Int),.int .i64 (2:Int),.int .i64 (20:Int),.int .i64 (8:Int),.int .i64 (1:Int),.int .i64 (31:Int)]))))) (AL ([(0:Int),(0:Int),(0:Int),(2:Int),(20:Int),(8:Int),(1:Int),(31:Int)]:List Int)))/\K 6/\_/\_/\(_/\_/\True)/\True) [0,11,12,13] [(4,ow 28)] [] [(0,bx (gC e.1)),(28,AO (l++([(⟨(gn (cNL.take a.2.toNat) b),i.2,(gn ([(0:Int),(0:Int),(0:Int),(2:Int),(20:Int),(8:Int),(1:Int),(31:Int)]:List Int) e.2)⟩:Crop)]:List Crop)))] ⟨Q2 (Z4 L) Tryz.call18 [(0,0)],ALe.lst (.lit ([(0:Int),(0:Int),(0:Int),(2:Int),(20:Int),(8:Int),(1:Int),(31:Int)]:List Int) (by kernel_rfl)),Q2 (Z4 M) Tryz.call18 [(0,0)],E,Q8h (⟨(gn (cNL.take a.2.toNat) b),i.2,(gn ([(0:Int),(0:Int),(0:Int),(2:Int),(20:Int),(8:Int),(1:Int),(31:Int)]:List Int) e.2)⟩:Crop),⟨G,lfl ([(⟨(gn (cNL.take a.2.toNat) b),i.2,(gn ([(0:Int),(0:Int),(0:Int),(2:Int),(20:Int),(8:Int),(1:Int),(31:Int)]:List Int) e.2)⟩:Crop)]:List Crop),⟨⟩⟩,⟨⟩⟩ [(28,rAp l ([(⟨(gn (cNL.take a.2.toNat) b),i.2,(gn ([(0:Int),(0:Int),(0:Int),(2:Int),(20:Int),(8:Int),(1:Int),(31:Int)]:List Int) e.2)⟩:Crop)]:List Crop))] ⟨oAp,⟨⟩⟩ ?_
   obtain ⟨H,h⟩:=gS h;exact Q1 Fm [.s,.s] [0,4,11,12] [(13,vi (b+1))] [0,28] [] (cT (cT H)) (Q1e Fm [(4,28)] (u ((b+1),e.1.l_,e.1.at_,(l++([(⟨(gn (cNL.take a.2.toNat) b),i.2,(gn ([(0:Int),(0:Int),(0:Int),(2:Int),(20:Int),(8:Int),(1:Int),(31:Int)]:List Int) e.2)⟩:Crop)]:List Crop))) h))
  ·exact AW.exit (Kn.R Fm (y (l,N,O) h))
theorem Q3d {F c d r} (h:Q1m F c d=some r) :
  Q7 Tryz.prog 107 [pt 0,vi d] [(0,bx (gC c))] (gE r.2) [(0,bx (gC r.1))]:=by
 refine FJ Tryz.func107 fun C Fm=>?_
 unfold Q1m at h;refine Q0 Fm 1 [0,1] [(4,pt 4)] [0] [(4,bx [ci 0,ci 0,ci 0,ci 0])] (AW.seq ?_)
 obtain ⟨b,p,h⟩:=bS h;obtain ⟨a,t,h⟩:=bS h
 refine Q5 Fm [.s,.s,.k _,.s,.s,.k _,.s,.s] (k2 2 5) [0,1,4] [(5,vi b.2),(6,vi a.2)] [4] [(0,bx (gC a.1))] ⟨Q2 (Z4 p) Tryz.call18 [(0,0)],Q2 (Z4 t) Tryz.call18 [(0,0)],⟨⟩⟩ (AW.seq ?_);obtain ⟨i,j,h⟩:=gS2 h
 obtain ⟨y,u,h⟩:=bS h;obtain ⟨l,m,n,h⟩:=gS3 h
 obtain ⟨e,w,h⟩:=bS h;obtain ⟨o,h⟩:=gS h
 exact Q5 Fm (sA 8 [.k _,.s,.s,.s,.s,.s,.s,.s,.k _,.s,.s,.s]) (fun K=>(_/\True)/\(_/\True)/\K 8/\(_/\True)/\(_/\True)/\(_/\True)/\K 16/\(_/\True)/\True) [4] [] [] [(0,bx (gC e.1)),(4,bx [ci b.2,ci a.2,ci ((b.2+1)+y.2),ci ((a.2+1)+e.2)])] ⟨⟨i,⟨⟩⟩,⟨j,⟨⟩⟩,Q2 (Z4 u) Tryz.call18 [(0,0)],⟨l,⟨⟩⟩,⟨m,⟨⟩⟩,⟨n,⟨⟩⟩,Q2 (Z4 w) Tryz.call18 [(0,0)],⟨o,⟨⟩⟩,⟨⟩⟩ (Z2 Fm h)
theorem Q7Z {F e r} (h:Q3O F e=some r) :
  Q7 Tryz.prog 124 [gE e] [] (vb r) []:=by
 refine FJ Tryz.func124 fun C Fm=>?_
 unfold Q3O at h;refine Q0 Fm 2 [] [(1,pt 1)] [] [(1,bx (gC e))] (Q6 (r:=r) (fun z:Bool=>J1 F z) [] (fun z=>[(2,vb z)]) [] nn (fun l h=>?_) (fun k b=>?_))
 ·exact Z2 Fm h
 ·rcases Z6 h with ⟨a,h⟩|⟨a,h⟩
  ·rcases Z6 h with ⟨c,h⟩|⟨c,h⟩
   ·rcases Z6 h with ⟨d,h⟩|⟨d,h⟩
    ·rcases Z6 h with ⟨i,h⟩|⟨i,h⟩
     ·rcases Z6 h with ⟨j,h⟩|⟨j,h⟩
      ·exact Q1 Fm ([.s,.s,.s,.w (vb true),.s,.s,.s,.s,.s,.s,.w (vb true),.s,.s,.s,.s,.w (vb true),.s,.s,.s,.s,.w (vb true),.s,.s,.s,.s,.s,.s,.w (vb true)]++(sA 5 [])) [] [(2,vb (decide (e.H_<=16384)))] [] [] (cA (ALe.bool a) (cA (ALe.bool c) (cA (ALe.bool d) (cA (ALe.bool i) (cT (ALe.bool j)))))) (Kn.R Fm (b (decide (e.H_<=16384)) h))
      ·exact Q1 Fm ([.s,.s,.s,.w (vb true),.s,.s,.s,.s,.s,.s,.w (vb true),.s,.s,.s,.s,.w (vb true),.s,.s,.s,.s,.w (vb true),.s,.s,.s,.s,.s,.s,.w (vb false)]++(sA 5 [])) [] [(2,vb false)] [] [] (cA (ALe.bool a) (cA (ALe.bool c) (cA (ALe.bool d) (cA (ALe.bool i) (cT (ALe.bool j)))))) (Kn.R Fm (b false h))
     ·exact Q1 Fm ((sZ 7 [.s,.s,.s,.w (vb true),.s,.s,.s,.s,.s,.s,.w (vb true),.s,.s,.s,.s,.w (vb true),.s,.s,.s,.s,.w (vb false)])++(sA 5 [])) [] [(2,vb false)] [] [] (cA (ALe.bool a) (cA (ALe.bool c) (cA (ALe.bool d) (cT (ALe.bool i))))) (Kn.R Fm (b false h))
    ·exact Q1 Fm ((sZ 12 [.s,.s,.s,.w (vb true),.s,.s,.s,.s,.s,.s,.w (vb true),.s,.s,.s,.s,.w (vb false)])++(sA 5 [])) [] [(2,vb false)] [] [] (cA (ALe.bool a) (cA (ALe.bool c) (cT (ALe.bool d)))) (Kn.R Fm (b false h))
   ·exact Q1 Fm ((sZ 17 [.s,.s,.s,.w (vb true),.s,.s,.s,.s,.s,.s,.w (vb false)])++(sA 5 [])) [] [(2,vb false)] [] [] (cA (ALe.bool a) (cT (ALe.bool c))) (Kn.R Fm (b false h))
  ·exact Q1 Fm ((sZ 24 [.s,.s,.s,.w (vb false)])++(sA 5 [])) [] [(2,vb false)] [] [] (cT (ALe.bool a)) (Kn.R Fm (b false h))
theorem Q8d {F a e r} (h:Q7i F a e=some r) :
  Q7 Tryz.prog 126 [AL a,vi e] [] (AL r) []:=by
 refine FJ Tryz.func126 fun C Fm=>?_
 unfold Q7i at h;refine Q0 Fm 1 [0,1] [] [] [] (Q0 Fm 1 [0,1] [(5,vi 0)] [] [] (Q6 (r:=r) (fun z:Int=>Z0K F a e z) [0,1] (fun z=>[(5,vi z)]) [] nn (fun b h=>?_) (fun N y=>?_)))
 ·refine AW.seq (Q6 (r:=r) (fun z:Bool=>Q8e F a e b z) [0,1,5] (fun z=>[(31,vb z)]) [] nn (fun U h=>?_) (fun O n=>?_))
  ·refine Q3 h (fun B h=>?_) (fun B h=>?_)
   ·exact Q0 Fm 2 [] [(4,AL a)] [] [] (Z2 Fm h)
   ·refine AW.skip ?_
    obtain ⟨p,H,I,t,h⟩:=gS4 h;obtain ⟨K,h⟩:=gS h
    refine Z0q Fm [.m,.s,.s,.w (AL (a.take b.toNat)),.s,.s,.w (AL ([e]:List Int)),.s,.s,.s,.w (AL (a.drop b.toNat)),.s,.s] [] [(4,ow 44)] [] [(44,AO (((([]:List Int)++(a.take b.toNat))++([e]:List Int))++(a.drop b.toNat)))] (cA (⟨p,(Is.refl a).len⟩:((sl (List.length a) (LF a) none (some b)).2/\∀ j,j<List.length a->(LF a j).length=1)) (cA (ALe.lst (Z6k a none (some b) p):ALe (.v (.c (.d (.lst (sl (List.length a) (LF a) none (some b)).1.1 (sl (List.length a) (LF a) none (some b)).1.2)))) (AL (a.take b.toNat))) (cA (cA H (cT (lfl (a.take b.toNat)))) (cA (ALe.lst (.lit ([e]:List Int) (by kernel_rfl)):ALe (.v (.c (.d (.lst 1 (Z0n 1 [.int .i64 e]))))) (AL ([e]:List Int))) (cA (cA I (cT (Is.refl ([e]:List Int):Is (List.length ([e]:List Int)) (LF ([e]:List Int)) ([e]:List Int)).len)) (cA (⟨t,(Is.refl a).len⟩:((sl (List.length a) (LF a) (some b) none).2/\∀ j,j<List.length a->(LF a j).length=1)) (cA (ALe.lst (Z6k a (some b) none t):ALe (.v (.c (.d (.lst (sl (List.length a) (LF a) (some b) none).1.1 (sl (List.length a) (LF a) (some b) none).1.2)))) (AL (a.drop b.toNat))) (cT (cA K (cT (Is.refl (a.drop b.toNat):Is (List.length (a.drop b.toNat)) (LF (a.drop b.toNat)) (a.drop b.toNat)).len)))))))))) [(44,.arr 1 ((((0)+(List.length (a.take b.toNat)))+(List.length ([e]:List Int)))+(List.length (a.drop b.toNat))) (Q5w (((0)+(List.length (a.take b.toNat)))+(List.length ([e]:List Int))) (Q5w ((0)+(List.length (a.take b.toNat))) (Q5w (0) (Z0n 1 []) (LF (a.take b.toNat))) (LF ([e]:List Int))) (LF (a.drop b.toNat))))] ⟨OLe.is (Is.app (Is.app (Is.app (Is.lit ([]:List Int) (by kernel_rfl)) (Is.refl (a.take b.toNat))) (Is.refl ([e]:List Int))) (Is.refl (a.drop b.toNat))),⟨⟩⟩ ?_
    refine AW.ret ?_;obtain rfl:=Option.some.inj h
    exact Kn.w Fm [(4,ow 44)] [(44,AO (((([]:List Int)++(a.take b.toNat))++([e]:List Int))++(a.drop b.toNat)))] (Q1F [(4,AL (((([]:List Int)++(a.take b.toNat))++([e]:List Int))++(a.drop b.toNat)))] [] (Kn.D Fm))
  ·rcases Z6 h with ⟨k,h⟩|⟨k,h⟩
   ·obtain ⟨G,h⟩:=gS h
    exact Q1 Fm (sA 4 (sZ 7 [.w (vb true)])) [0,1,5] [(31,vb ((gn a b)==e))] [] [] (cA (ALe.bool k) (cT G)) (Kn.R Fm (n ((gn a b)==e) h))
   ·exact Q1 Fm (sA 4 (sZ 7 [.w (vb false)])) [0,1,5] [(31,vb false)] [] [] (cT (ALe.bool k)) (Kn.R Fm (n false h))
 ·refine AW.block (Kn.w Fm [(0,AL a),(1,vi e),(5,vi 0)] [] ?_)
  refine Z5 (E':=fun z=>[(0,AL a),(1,vi e),(5,vi z)]) (S':=fun z=>[]) (fun u i P A h=>?_) h;refine AW.seq (Q6 (r:=r) (fun z:Bool=>Q8f F a e i u z) [0,1,5] (fun z=>[(17,vb z)]) [] nn (fun V h=>?_) (fun T o=>?_))
  ·refine Q3 h (fun E h=>?_) (fun E h=>?_)
   ·refine AW.skip (AW.block ?_)
    obtain ⟨M,h⟩:=gS h;exact Q1 Fm [.s,.s,.s] [0,1] [(5,vi (i+1))] [] [] (cT (cT M)) (Kn.R Fm (A (i+1) h))
   ·exact AW.exit (Kn.R Fm (y i h))
  ·rcases Z6 h with ⟨l,h⟩|⟨l,h⟩
   ·obtain ⟨L,h⟩:=gS h
    exact Q1 Fm (sA 4 (sZ 7 [.w (vb true)])) [0,1,5] [(17,vb (decide ((gn a i)<e)))] [] [] (cA (ALe.bool l) (cT L)) (Kn.R Fm (o (decide ((gn a i)<e)) h))
   ·exact Q1 Fm (sA 4 (sZ 7 [.w (vb false)])) [0,1,5] [(17,vb false)] [] [] (cT (ALe.bool l)) (Kn.R Fm (o false h))
theorem Z1K {F a j c r} (h:Q5D F a j c=some r) :
  Q7 Tryz.prog 71 [AL a,vi j,vi c] [] (vb r) []:=by
 refine FJ Tryz.func71 fun C Fm=>?_
 unfold Q5D at h;refine Q0 Fm 1 [0,1,2] [] [] [] (Q6 (r:=r) (fun z:Unit=>Z3T F) [] nn [] nn (fun z h=>?_) (fun B n=>?_))
 ·exact Q0 Fm 1 [] [(6,vb false)] [] [] (Z2 Fm h)
 ·refine Q0 Fm 3 [1,2] [(9,AL a),(10,vi (lI a)),(11,vi 0)] [] [] (AW.block (Kn.w Fm [(1,vi j),(2,vi c),(9,AL a),(10,vi (lI a)),(11,vi 0)] [] ?_))
  refine Z5 (E':=fun z=>[(1,vi j),(2,vi c),(9,AL a),(10,vi (lI a)),(11,vi z)]) (S':=fun z=>[]) (fun l b y m h=>?_) h;refine Q0 Fm 1 [1,2,9,10,11] [(12,vb (decide (b<(lI a))))] [] [] (AW.seq (Q3 h (fun o h=>?_) (fun o h=>?_)))
  ·refine AW.skip (AW.seq (AW.block ?_))
   obtain ⟨t,h⟩:=gS h;refine Y4 Fm (sA 4 []) [1,2,9,10,11] [(8,pt 8)] [] [(8,bx [ci ((gn a b).L_),ci ((gn a b).w_),ci ((gn a b).R_),ci ((gn a b).H_)])] (cT t) (Q6 (r:=r) (fun z:Bool=>Q0o F b l z) [1,2,9,10,11] (fun z=>[(36,vb z)]) [] nn (fun D h=>?_) (fun A e=>?_))
   ·refine Q3 h (fun p h=>?_) (fun p h=>?_)
    ·exact Q0 Fm 1 [] [(6,vb true)] [] [] (Z2 Fm h)
    ·refine AW.skip ?_
     obtain ⟨u,h⟩:=gS h;exact Q1 Fm [.s,.s] [1,2,9,10] [(11,vi (b+1))] [] [] (cT (cT u)) (Kn.R Fm (m (b+1) h))
   ·rcases Z6 h with ⟨d,h⟩|⟨d,h⟩
    ·rcases Z6 h with ⟨i,h⟩|⟨i,h⟩
     ·rcases Z6 h with ⟨k,h⟩|⟨k,h⟩
      ·exact Q1 Fm (sA 4 (sZ 5 [.w (vb true),.s,.s,.s,.s,.s,.w (vb true),.s,.s,.s,.s,.s,.w (vb true)])) [1,2,9,10,11] [(36,vb (decide (c<((gn a b).H_))))] [] [] (cA (ALe.bool d) (cA (ALe.bool i) (cT (ALe.bool k)))) (Kn.R Fm (e (decide (c<((gn a b).H_))) h))
      ·exact Q1 Fm (sA 4 (sZ 5 [.w (vb true),.s,.s,.s,.s,.s,.w (vb true),.s,.s,.s,.s,.s,.w (vb false)])) [1,2,9,10,11] [(36,vb false)] [] [] (cA (ALe.bool d) (cA (ALe.bool i) (cT (ALe.bool k)))) (Kn.R Fm (e false h))
     ·exact Q1 Fm (sA 4 (sZ 11 [.w (vb true),.s,.s,.s,.s,.s,.w (vb false)])) [1,2,9,10,11] [(36,vb false)] [] [] (cA (ALe.bool d) (cT (ALe.bool i))) (Kn.R Fm (e false h))
    ·exact Q1 Fm (sA 4 (sZ 17 [.w (vb false)])) [1,2,9,10,11] [(36,vb false)] [] [] (cT (ALe.bool d)) (Kn.R Fm (e false h))
  ·exact AW.exit (Kn.R Fm (n () h))
theorem Z9P {F l a b r} (h:Z1j F l a b=some r) :
  Q7 Tryz.prog 127 [vb l,vb a,vi b] [] (vb r) []:=by
 refine FJ Tryz.func127 fun C Fm=>?_
 unfold Z1j at h;refine Q0 Fm 1 [0,1,2] [] [] [] (AW.seq (Q0 Fm 1 [0,1] [(7,vi b)] [] [] (AW.block (Q0 Fm 2 [0,1,7] [(8,vb (b==1))] [] [] (Q3 h (fun m h=>?_) (fun m h=>?_))))))
 ·refine Q6 (r:=r) (fun z:Bool=>Z2c F z) [] (fun z=>[(6,vb z)]) [] nn (fun u h=>?_) (fun o i=>?_)
  ·exact Z2 Fm h
  ·rcases Z6 h with ⟨c,h⟩|⟨c,h⟩
   ·exact Q1 Fm [.s,.w (vb true),.s,.s,.s] [] [(6,vb true)] [] [] (cT (ALe.bool c)) (Kn.R Fm (i true h))
   ·exact Q1 Fm [.s,.w (vb false),.s,.s,.s] [] [(6,vb a)] [] [] (cT (ALe.bool c)) (Kn.R Fm (i a h))
 ·refine Q0 Fm 2 [0,1] [(14,vb (b==2))] [] [] (Q3 h (fun n h=>?_) (fun n h=>?_))
  ·refine Q6 (r:=r) (fun z:Bool=>Z2b F z) [] (fun z=>[(6,vb z)]) [] nn (fun y h=>?_) (fun p j=>?_)
   ·exact Z2 Fm h
   ·rcases Z6 h with ⟨d,h⟩|⟨d,h⟩
    ·exact Q1 Fm [.s,.w (vb true),.s,.s,.s] [] [(6,vb a)] [] [] (cT (ALe.bool d)) (Kn.R Fm (j a h))
    ·exact Q1 Fm [.s,.w (vb false),.s,.s,.s] [] [(6,vb false)] [] [] (cT (ALe.bool d)) (Kn.R Fm (j false h))
  ·refine AW.skip (Q6 (r:=r) (fun z:Bool=>Z2a F z) [] (fun z=>[(6,vb z)]) [] nn (fun A h=>?_) (fun t k=>?_))
   ·exact Z2 Fm h
   ·rcases Z6 h with ⟨e,h⟩|⟨e,h⟩
    ·exact Q1 Fm [.s,.w (vb true),.s,.s,.s,.s] [] [(6,vb (!a))] [] [] (cT (ALe.bool e)) (Kn.R Fm (k (!a) h))
    ·exact Q1 Fm [.s,.w (vb false),.s,.s,.s,.s] [] [(6,vb false)] [] [] (cT (ALe.bool e)) (Kn.R Fm (k false h))
theorem Z3Q {F a c r} (h:Z1i F a c=some r) :
  Q7 Tryz.prog 128 [AL a,AL c] [] (vb r) []:=by
 refine FJ Tryz.func128 fun C Fm=>?_
 unfold Z1i at h;refine Q0 Fm 1 [0,1] [] [] [] (AW.seq (Q0 Fm 5 [0,1] [(10,vb ((lI a) != (lI c)))] [] [] (Q3 h (fun n h=>?_) (fun n h=>?_))))
 ·exact Q0 Fm 1 [] [(4,vb false)] [] [] (Z2 Fm h)
 ·refine AW.skip (Q6 (r:=r) (fun z:Unit=>Z6r F) [] nn [] nn (fun z h=>?_) (fun D m=>?_))
  ·exact Q0 Fm 1 [] [(4,vb true)] [] [] (Z2 Fm h)
  ·refine Q0 Fm 3 [0,1] [(12,vi (lI a)),(13,vi 0)] [] [] (AW.block (Kn.w Fm [(0,AL a),(1,AL c),(12,vi (lI a)),(13,vi 0)] [] ?_))
   refine Z5 (E':=fun z=>[(0,AL a),(1,AL c),(12,vi (lI a)),(13,vi z)]) (S':=fun z=>[]) (fun k b A l h=>?_) h;refine Q0 Fm 1 [0,1,12,13] [(14,vb (decide (b<(lI a))))] [] [] (AW.seq (Q3 h (fun o h=>?_) (fun o h=>?_)))
   ·refine AW.skip (AW.seq (AW.block (Q0 Fm 2 [0,1,12,13] [(5,vi b)] [] [] (Q6 (r:=r) (fun z:Bool=>Q6p F b k z) [0,1,12,13] (fun z=>[(39,vb z)]) [] nn (fun E h=>?_) (fun B e=>?_)))))
    ·refine Q3 h (fun p h=>?_) (fun p h=>?_)
     ·exact Q0 Fm 1 [] [(4,vb false)] [] [] (Z2 Fm h)
     ·refine AW.skip ?_
      obtain ⟨y,h⟩:=gS h;exact Q1 Fm [.s,.s] [0,1,12] [(13,vi (b+1))] [] [] (cT (cT y)) (Kn.R Fm (l (b+1) h))
    ·obtain ⟨i,j,h⟩:=gS2 h
     rcases Z6 h with ⟨d,h⟩|⟨d,h⟩
     ·exact Q1 Fm (sA 11 (sZ 12 [.w (vb true)])) [0,1,12,13] [(39,vb true)] [] [] (cA i (cA j (cT (ALe.bool d)))) (Kn.R Fm (e true h))
     ·obtain ⟨t,u,h⟩:=gS2 h
      exact Q1 Fm (sA 11 (sZ 12 [.w (vb false)])) [0,1,12,13] [(39,vb (((gn a b).R_) != ((gn c b).R_)))] [] [] (cA i (cA j (cA (ALe.bool d) (cA t (cT u))))) (Kn.R Fm (e (((gn a b).R_) != ((gn c b).R_)) h))
   ·exact AW.exit (Kn.R Fm (m () h))
theorem Q9F {F a b t r} (h:U3 F a b t=some r) :
  Q7 Tryz.prog 74 [AL a,AL b,vi t] [] (ow 100) [(100,AO r)]:=by
 refine FJ Tryz.func74 fun C Fm=>?_
 unfold U3 at h;refine Q1K Fm [.m] (fun K=>True) [0,1,2] [] [] [] True.intro (y8 Fm [.m,.m] (fun K=>True) [0,1,2] [(7,ow 7),(8,ow 8)] [] [(7,AO ([]:List Int)),(8,AO ([]:List Int))] True.intro [(7,.arr 1 (0) nn),(8,.arr 1 (0) nn)] ⟨OLe.is ((Is.nil (α:=Int))),OLe.is ((Is.nil (α:=Int))),⟨⟩⟩ (Q6 (r:=r) (fun z:(List Int)×(List Int)=>Q5F F a b t z.1 z.2) [0,1,2] (fun z=>[(7,AL z.1),(8,AL z.2)]) [] nn (fun z h=>?_) (fun U1 m0=>?_)))
 ·obtain ⟨l,j⟩:=z
  refine y8 Fm [.m,.m] (fun K=>True) [0,1,2,7,8] [(13,ow 13),(14,ow 14)] [] [(13,AO ([]:List Rect)),(14,AO ([]:List Rect))] True.intro [(13,.arr 4 (0) nn),(14,.arr 4 (0) nn)] ⟨OLe.is ((Is.nil (α:=Rect))),OLe.is ((Is.nil (α:=Rect))),⟨⟩⟩ (Q6 (r:=r) (fun z:(List Rect)×(List Rect)=>Q4M F z.1 z.2) [13,14] nn [] (fun z=>[(13,AO z.1),(14,AO z.2)]) (fun z h=>?_) (fun i2 u0=>?_))
  ·obtain ⟨T,H⟩:=z
   obtain ⟨s1,h⟩:=gS h;refine Z0q Fm (sA 4 []) [] [(6,ow 176)] [] [(176,AO (T++H))] (cT (cA s1 (cT (lfl H)))) [(176,rAp T H)] ⟨oAp,⟨⟩⟩ (AW.ret ?_)
   obtain rfl:=Option.some.inj h;exact Q2P Fm [(100,176)] [(6,ow 100)] [(100,AO (T++H))] (Q3b Fm (by kernel_rfl))
  ·refine Q0 Fm 1 [0,1,2,7,8,13,14] [(15,vi 0)] [13,14] [] (AW.block (Kn.w Fm [(0,AL a),(1,AL b),(2,vi t),(7,AL l),(8,AL j),(13,ow 13),(14,ow 14),(15,vi 0)] [(13,AO ([]:List Rect)),(14,AO ([]:List Rect))] ?_))
   refine Z5 (E':=fun z=>[(0,AL a),(1,AL b),(2,vi t),(7,AL l),(8,AL j),(13,ow 13),(14,ow 14),(15,vi z.1)]) (S':=fun z=>[(13,AO z.2.1),(14,AO z.2.2)]) (fun E z V1 n0 h=>?_) h;obtain ⟨e,u,p⟩:=z
   refine AW.seq ?_;obtain ⟨N0,h⟩:=gS h
   refine Y4 Fm (sA 5 []) [0,1,2,7,8,13,14,15] [(54,vb (decide ((e+1)<(lI j))))] [13,14] [] (cT (cT N0)) (Q3 h (fun A0 h=>?_) (fun A0 h=>?_))
   ·refine AW.skip (Q6 (r:=r) (fun z:(List Rect)×(List Rect)=>Q2H F e E z.1 z.2) [0,1,2,7,8,13,14,15] nn [] (fun z=>[(13,AO z.1),(14,AO z.2)]) (fun z h=>?_) (fun e2 W=>?_))
    ·obtain ⟨M1,N1⟩:=z
     obtain ⟨q1,h⟩:=gS h;exact Q1 Fm [.s,.s,.s] [0,1,2,7,8,13,14] [(15,vi (e+1))] [13,14] [] (cT (cT q1)) (Kn.R Fm (n0 ((e+1),M1,N1) h))
    ·refine AW.block (y8 Fm [.m] (fun K=>True) [0,1,2,7,8,13,14,15] [(16,ow 16)] [13,14] [(16,AO ([]:List Rect))] True.intro [(16,.arr 4 (0) nn)] ⟨OLe.is ((Is.nil (α:=Rect))),⟨⟩⟩ (Q6 (r:=r) (fun z:(List Rect)=>Q3k F j e u p E z) [0,1,2,7,8,13,14,15,16] nn [13,14] (fun z=>[(16,AO z)]) (fun D h=>?_) (fun Z1 p0=>?_)))
     ·refine Q6 (r:=r) (fun z:Unit=>Q4N F e u p D E) [0,1,2,7,8,13,14,15,16] nn [13,14,16] nn (fun z h=>?_) (fun d2 t0=>?_)
      ·obtain ⟨p1,h⟩:=gS h
       exact Z0q Fm (sA 4 []) [0,1,2,7,8,15,16] [(13,ow 172)] [16] [(172,AO (u++p))] (cT (cA p1 (cT (lfl p)))) [(172,rAp u p)] ⟨oAp,⟨⟩⟩ (Q8u Fm 2 [0,1,2,7,8,13,15] [(14,ow 16)] [16,172] [] (Q1e Fm [(13,172),(14,16)] (W ((u++p),D) h)))
      ·refine Q6 (r:=r) (fun z:Bool=>Q0Y F j e u p D E z) [0,1,2,7,8,13,14,15,16] (fun z=>[(154,vb z)]) [13,14,16] nn (fun m2 h=>?_) (fun a2 L=>?_)
       ·refine Q3 h (fun G0 h=>?_) (fun G0 h=>?_)
        ·refine Q6 (r:=r) (fun z:(List Rect)=>Q8b F e u E z) [0,1,2,7,8,13,14,15] nn [13] (fun z=>[(14,AO z)]) (fun L1 h=>?_) (fun c2 s0=>?_)
         ·exact AW.exit (Kn.R Fm (W (u,L1) h))
         ·refine Q0 Fm 3 [0,1,2,7,8,13,14,15] [(156,vi (lI p)),(157,vi 0)] [13,14] [] (AW.block (Kn.w Fm [(0,AL a),(1,AL b),(2,vi t),(7,AL l),(8,AL j),(13,ow 13),(14,ow 14),(15,vi e),(156,vi (lI p)),(157,vi 0)] [(13,AO u),(14,AO p)] ?_))
          refine Z5 (E':=fun z=>[(0,AL a),(1,AL b),(2,vi t),(7,AL l),(8,AL j),(13,ow 13),(14,ow 14),(15,vi e),(156,vi (lI p)),(157,vi z.1)]) (S':=fun z=>[(13,AO u),(14,AO z.2)]) (fun k2 z b2 q0 h=>?_) h;obtain ⟨y,A⟩:=z
          refine Q0 Fm 1 [0,1,2,7,8,13,14,15,156,157] [(158,vb (decide (y<(lI p))))] [13,14] [] (AW.seq (Q3 h (fun H0 h=>?_) (fun H0 h=>?_)))
          ·refine AW.skip (AW.seq (AW.block (Q0 Fm 2 [0,1,2,7,8,13,14,15,156,157] [(19,vi y)] [13,14] [] ?_)))
           obtain ⟨m1,n1,P,h⟩:=gS3 h;refine Q2h Fm (sA 10 []) [0,1,2,7,8,13,14,15,156,157] [] [13] [(14,AO (List.set A y.toNat (⟨(gn A y).L_,(gn A y).w_,(gn A y).R_,(gn j (e+1))⟩:Rect)))] (cA (cT m1) (cA n1 (cA P (cT (Y6 P))))) [(14,rSt A y.toNat 3 [.int .i64 (gn j (e+1))])] ⟨oSt (Y6 P),⟨⟩⟩ ?_
           obtain ⟨o1,h⟩:=gS h;exact Q1 Fm [.s,.s] [0,1,2,7,8,13,14,15,156] [(157,vi (y+1))] [13,14] [] (cT (cT o1)) (Kn.R Fm (q0 ((y+1),(List.set A y.toNat (⟨(gn A y).L_,(gn A y).w_,(gn A y).R_,(gn j (e+1))⟩:Rect))) h))
          ·exact AW.exit (Kn.R Fm (s0 A h))
        ·exact AW.skip (Kn.R Fm (t0 () h))
       ·rcases Z6 h with ⟨G,h⟩|⟨G,h⟩
        ·obtain ⟨e0,Z,h⟩:=bS h
         rcases Z6 h with ⟨N,h⟩|⟨N,h⟩
         ·obtain ⟨Y,l1,h⟩:=gS2 h
          exact Q5 Fm (sZ 10 [.s,.s,.s,.w (vb true),.s,.s,.k (sE (vb e0)),.s,.w (vb true)]) (fun K=>_/\K 6/\_/\_/\_/\_/\True) [0,1,2,7,8,13,14,15,16] [(154,vb (((gn p (0:Int)).H_)==(gn j e)))] [13,14,16] [] ⟨ALe.bool G,Z3C (Z3Q Z) Tryz.call128 [14,16] [.tmp 140,.tmp 141] rfl (by kernel_rfl) (by kernel_rfl) ⟨Z8o.own 14 (es:=4) (n:=List.length p) (f:=LF p) (by kernel_rfl) (by kernel_rfl) (by kernel_rfl) (by kernel_rfl),Z8o.own 16 (es:=4) (n:=List.length D) (f:=LF D) (by kernel_rfl) (by kernel_rfl) (by kernel_rfl) (by kernel_rfl),⟨⟩⟩,ALe.bool N,Y,(Y6 Y),l1,⟨⟩⟩ (Kn.R Fm (L (((gn p (0:Int)).H_)==(gn j e)) h))
         ·exact Q5 Fm (sZ 10 [.s,.s,.s,.w (vb true),.s,.s,.k (sE (vb e0)),.s,.w (vb false)]) (fun K=>_/\K 6/\_/\True) [0,1,2,7,8,13,14,15,16] [(154,vb false)] [13,14,16] [] ⟨ALe.bool G,Z3C (Z3Q Z) Tryz.call128 [14,16] [.tmp 140,.tmp 141] rfl (by kernel_rfl) (by kernel_rfl) ⟨Z8o.own 14 (es:=4) (n:=List.length p) (f:=LF p) (by kernel_rfl) (by kernel_rfl) (by kernel_rfl) (by kernel_rfl),Z8o.own 16 (es:=4) (n:=List.length D) (f:=LF D) (by kernel_rfl) (by kernel_rfl) (by kernel_rfl) (by kernel_rfl),⟨⟩⟩,ALe.bool N,⟨⟩⟩ (Kn.R Fm (L false h))
        ·exact Q1 Fm (sZ 15 [.s,.s,.s,.w (vb false)]) [0,1,2,7,8,13,14,15,16] [(154,vb false)] [13,14,16] [] (cT (ALe.bool G)) (Kn.R Fm (L false h))
     ·refine Q0 Fm 1 [0,1,2,7,8,13,14,15,16] [(17,vi 0)] [13,14,16] [] (AW.block (Kn.w Fm [(0,AL a),(1,AL b),(2,vi t),(7,AL l),(8,AL j),(13,ow 13),(14,ow 14),(15,vi e),(16,ow 16),(17,vi 0)] [(13,AO u),(14,AO p),(16,AO ([]:List Rect))] ?_))
      refine Z5 (E':=fun z=>[(0,AL a),(1,AL b),(2,vi t),(7,AL l),(8,AL j),(13,ow 13),(14,ow 14),(15,vi e),(16,ow 16),(17,vi z.1)]) (S':=fun z=>[(13,AO u),(14,AO p),(16,AO z.2)]) (fun U z W1 o0 h=>?_) h;obtain ⟨o,i⟩:=z
      refine AW.seq ?_;obtain ⟨O0,h⟩:=gS h
      refine Y4 Fm (sA 5 []) [0,1,2,7,8,13,14,15,16,17] [(61,vb (decide ((o+1)<(lI l))))] [13,14,16] [] (cT (cT O0)) (Q3 h (fun B0 h=>?_) (fun B0 h=>?_))
      ·refine AW.skip (Q6 (r:=r) (fun z:(List Rect)=>Q3l F o U z) [0,1,2,7,8,13,14,15,16,17] nn [13,14] (fun z=>[(16,AO z)]) (fun K1 h=>?_) (fun Y1 I=>?_))
       ·obtain ⟨k1,h⟩:=gS h
        exact Q1 Fm [.s,.s,.s] [0,1,2,7,8,13,14,15,16] [(17,vi (o+1))] [13,14,16] [] (cT (cT k1)) (Kn.R Fm (o0 ((o+1),K1) h))
       ·refine AW.block (AW.seq (AW.seq ?_))
        obtain ⟨P0,R0,h⟩:=gS2 h;obtain ⟨p2,A1,h⟩:=bS h
        obtain ⟨T0,U0,h⟩:=gS2 h;obtain ⟨q2,B1,h⟩:=bS h
        obtain ⟨O1,D1,h⟩:=bS h;refine Q5 Fm (sA 9 [.k _,.s,.s,.s,.s,.s,.s,.s,.s,.s,.k _,.s,.k _,.s]) (fun K=>_/\_/\K 9/\_/\_/\K 19/\K 21/\True) [0,1,2,7,8,13,14,15,16,17] [(86,vb (!O1))] [13,14,16] [] ⟨P0,R0,Q2 (Z1K A1) Tryz.call71 [],T0,U0,Q2 (Z1K B1) Tryz.call71 [],Q2 (Z9P D1) Tryz.call127 [],⟨⟩⟩ (Q3 h (fun D0 h=>?_) (fun D0 h=>?_))
        ·exact AW.exit (Kn.R Fm (I i h))
        ·refine AW.skip (Q0 Fm 3 [0,1,2,7,8,13,14,15,16,17] [(18,vi (lI i))] [13,14,16] [] (Q6 (r:=r) (fun z:Bool=>Q0u F l j e o i U z) [0,1,2,7,8,13,14,15,16,17,18] (fun z=>[(103,vb z)]) [13,14,16] nn (fun l2 h=>?_) (fun X1 V=>?_)))
         ·refine Q3 h (fun E0 h=>?_) (fun E0 h=>?_)
          ·obtain ⟨X0,Y0,Z0,O,h⟩:=gS4 h
           exact Q2h Fm (sA 11 []) [0,1,2,7,8,13,14,15,16,17] [] [13,14] [(16,AO (List.set i ((lI i)-1).toNat (⟨(gn i ((lI i)-1)).L_,(gn i ((lI i)-1)).w_,(gn l (o+1)),(gn i ((lI i)-1)).H_⟩:Rect)))] (cA (cT X0) (cA (cT Y0) (cA Z0 (cA O (cT (Y6 O)))))) [(16,rSt i ((lI i)-1).toNat 2 [.int .i64 (gn l (o+1))])] ⟨oSt (Y6 O),⟨⟩⟩ (Kn.R Fm (I (List.set i ((lI i)-1).toNat (⟨(gn i ((lI i)-1)).L_,(gn i ((lI i)-1)).w_,(gn l (o+1)),(gn i ((lI i)-1)).H_⟩:Rect)) h))
          ·obtain ⟨a1,b1,c1,d1,h⟩:=gS4 h
           obtain ⟨e1,i1,j1,h⟩:=gS3 h;exact Q2h Fm (sA 20 [.w (AL [(⟨(gn l o),(gn j e),(gn l (o+1)),(gn j (e+1))⟩:Rect)]),.s,.s]) [0,1,2,7,8,13,14,15,17] [(16,ow 135)] [13,14] [(135,AO (i++([(⟨(gn l o),(gn j e),(gn l (o+1)),(gn j (e+1))⟩:Rect)]:List Rect)))] (cA a1 (cA b1 (cA (cT c1) (cA d1 (cA (cT e1) (cA i1 (cA (Q8h (⟨(gn l o),(gn j e),(gn l (o+1)),(gn j (e+1))⟩:Rect)) (cT (cA j1 (cT (lfl ([(⟨(gn l o),(gn j e),(gn l (o+1)),(gn j (e+1))⟩:Rect)]:List Rect)))))))))))) [(135,rAp i ([(⟨(gn l o),(gn j e),(gn l (o+1)),(gn j (e+1))⟩:Rect)]:List Rect))] ⟨oAp,⟨⟩⟩ (Q1e Fm [(16,135)] (I (i++([(⟨(gn l o),(gn j e),(gn l (o+1)),(gn j (e+1))⟩:Rect)]:List Rect)) h))
         ·rcases Z6 h with ⟨M,h⟩|⟨M,h⟩
          ·obtain ⟨V0,X,W0,h⟩:=gS3 h
           exact Q1 Fm (sZ 12 [.s,.s,.w (vb true)]) [0,1,2,7,8,13,14,15,16,17,18] [(103,vb (((gn i ((lI i)-1)).R_)==(gn l o)))] [13,14,16] [] (cA (ALe.bool M) (cA (cT V0) (cA X (cA (Y6 X) (cT W0))))) (Kn.R Fm (V (((gn i ((lI i)-1)).R_)==(gn l o)) h))
          ·exact Q1 Fm (sZ 12 [.s,.s,.w (vb false)]) [0,1,2,7,8,13,14,15,16,17,18] [(103,vb false)] [13,14,16] [] (cT (ALe.bool M)) (Kn.R Fm (V false h))
      ·exact AW.exit (Kn.R Fm (p0 i h))
   ·exact AW.exit (Kn.R Fm (u0 (u,p) h))
 ·refine Y4 Fm [.s,.s,.w (AL (α:=(List Rect)) ([a,b]:List (List Rect))),.s,.s] [0,1,2,7,8] [(22,AL (α:=(List Rect)) ([a,b]:List (List Rect))),(23,vi ((List.length ([a,b]:List (List Rect)):Nat):Int)),(24,vi 0)] [7,8] [] (cT (ALe.lst (.lit ([a,b]:List (List Rect)) (by kernel_rfl)):ALe (.v (.c (.d (.lst 2 (Z0n 1 [DL a,DL b]))))) (AL (α:=(List Rect)) ([a,b]:List (List Rect))))) (AW.block (Kn.w Fm [(0,AL a),(1,AL b),(2,vi t),(7,ow 7),(8,ow 8),(22,AL (α:=(List Rect)) ([a,b]:List (List Rect))),(23,vi ((List.length ([a,b]:List (List Rect)):Nat):Int)),(24,vi 0)] [(7,AO ([]:List Int)),(8,AO ([]:List Int))] (Q1F [(0,AL a),(1,AL b),(2,vi t),(7,AL ([]:List Int)),(8,ow 8),(22,AL (α:=(List Rect)) ([a,b]:List (List Rect))),(23,vi ((List.length ([a,b]:List (List Rect)):Nat):Int)),(24,vi 0)] [(8,AO ([]:List Int))] (Kn.w Fm [(0,AL a),(1,AL b),(2,vi t),(7,AL ([]:List Int)),(8,ow 8),(22,AL (α:=(List Rect)) ([a,b]:List (List Rect))),(23,vi ((List.length ([a,b]:List (List Rect)):Nat):Int)),(24,vi 0)] [(8,AO ([]:List Int))] ?_))))
  refine Q1F [(0,AL a),(1,AL b),(2,vi t),(7,AL ([]:List Int)),(8,AL ([]:List Int)),(22,AL (α:=(List Rect)) ([a,b]:List (List Rect))),(23,vi ((List.length ([a,b]:List (List Rect)):Nat):Int)),(24,vi 0)] [] (Kn.w Fm [(0,AL a),(1,AL b),(2,vi t),(7,AL ([]:List Int)),(8,AL ([]:List Int)),(22,AL (α:=(List Rect)) ([a,b]:List (List Rect))),(23,vi ((List.length ([a,b]:List (List Rect)):Nat):Int)),(24,vi 0)] [] ?_);refine Z5 (E':=fun z=>[(0,AL a),(1,AL b),(2,vi t),(7,AL z.1),(8,AL z.2.1),(22,AL (α:=(List Rect)) ([a,b]:List (List Rect))),(23,vi ((List.length ([a,b]:List (List Rect)):Nat):Int)),(24,vi z.2.2)]) (S':=fun z=>[]) (fun i0 z P1 j0 h=>?_) h
  obtain ⟨a0,b0,q⟩:=z;refine Q0 Fm 1 [0,1,2,7,8,22,23,24] [(25,vb (decide (q<((List.length ([a,b]:List (List Rect)):Nat):Int))))] [] [] (AW.seq (Q3 h (fun w0 h=>?_) (fun w0 h=>?_)))
  ·refine AW.skip (Q6 (r:=r) (fun z:(List Int)×(List Int)=>Q8N F q i0 z.1 z.2) [0,1,2,22,23,24] (fun z=>[(7,AL z.1),(8,AL z.2)]) [] nn (fun z h=>?_) (fun T1 l0=>?_))
   ·obtain ⟨H1,I1⟩:=z
    obtain ⟨M0,h⟩:=gS h;exact Q1 Fm [.s,.s] [0,1,2,7,8,22,23] [(24,vi (q+1))] [] [] (cT (cT M0)) (Kn.R Fm (j0 (H1,I1,(q+1)) h))
   ·refine AW.block ?_
    obtain ⟨I0,h⟩:=gS h;refine Y4 Fm [.s,.s,.s] [0,1,2,7,8,22,23,24] [(10,AL (gn ([a,b]:List (List Rect)) q))] [] [] (cT I0) (Q0 Fm 3 [0,1,2,7,8,22,23,24] [(28,AL (gn ([a,b]:List (List Rect)) q)),(29,vi ((List.length (gn ([a,b]:List (List Rect)) q):Nat):Int)),(30,vi 0)] [] [] (AW.block (Kn.w Fm [(0,AL a),(1,AL b),(2,vi t),(7,AL a0),(8,AL b0),(22,AL (α:=(List Rect)) ([a,b]:List (List Rect))),(23,vi ((List.length ([a,b]:List (List Rect)):Nat):Int)),(24,vi q),(28,AL (gn ([a,b]:List (List Rect)) q)),(29,vi ((List.length (gn ([a,b]:List (List Rect)) q):Nat):Int)),(30,vi 0)] [] ?_)))
    refine Z5 (E':=fun z=>[(0,AL a),(1,AL b),(2,vi t),(7,AL z.1),(8,AL z.2.1),(22,AL (α:=(List Rect)) ([a,b]:List (List Rect))),(23,vi ((List.length ([a,b]:List (List Rect)):Nat):Int)),(24,vi q),(28,AL (gn ([a,b]:List (List Rect)) q)),(29,vi ((List.length (gn ([a,b]:List (List Rect)) q):Nat):Int)),(30,vi z.2.2)]) (S':=fun z=>[]) (fun j2 z R1 k0 h=>?_) h;obtain ⟨E1,G1,B⟩:=z
    refine Q0 Fm 1 [0,1,2,7,8,22,23,24,28,29,30] [(31,vb (decide (B<((List.length (gn ([a,b]:List (List Rect)) q):Nat):Int))))] [] [] (AW.seq (Q3 h (fun y0 h=>?_) (fun y0 h=>?_)))
    ·refine AW.skip (AW.seq (AW.block ?_))
     obtain ⟨K0,h⟩:=gS h;refine Y4 Fm (sA 4 []) [0,1,2,7,8,22,23,24,28,29,30] [(12,pt 12)] [] [(12,bx [ci ((gn (gn ([a,b]:List (List Rect)) q) B).L_),ci ((gn (gn ([a,b]:List (List Rect)) q) B).w_),ci ((gn (gn ([a,b]:List (List Rect)) q) B).R_),ci ((gn (gn ([a,b]:List (List Rect)) q) B).H_)])] (cT K0) ?_
     obtain ⟨n2,t1,h⟩:=bS h;obtain ⟨c0,u1,h⟩:=bS h
     obtain ⟨o2,w1,h⟩:=bS h;obtain ⟨d0,y1,h⟩:=bS h
     refine Q5 Fm [.s,.s,.s,.k _,.s,.s,.k _,.s,.s,.s,.k _,.s,.s,.k _,.s,.s] (fun K=>K 3/\K 6/\K 10/\K 13/\True) [0,1,2,22,23,24,28,29,30] [(7,AL c0),(8,AL d0)] [] [] ⟨Q2 (Q8d t1) Tryz.call126 [],Q2 (Q8d u1) Tryz.call126 [],Q2 (Q8d w1) Tryz.call126 [],Q2 (Q8d y1) Tryz.call126 [],⟨⟩⟩ ?_;obtain ⟨L0,h⟩:=gS h
     exact Q1 Fm [.s,.s] [0,1,2,7,8,22,23,24,28,29] [(30,vi (B+1))] [] [] (cT (cT L0)) (Kn.R Fm (k0 (c0,d0,(B+1)) h))
    ·exact AW.exit (Kn.R Fm (l0 (E1,G1) h))
  ·exact AW.exit (Kn.R Fm (m0 (a0,b0) h))
theorem G8 {F a b c r} (h:U3 F a b c=some r) :
  Q7 Tryz.prog 74 [AL a,AL b,vi c] [] (AL r) []:=Q7.list (Q9F (F:=F) h)
theorem Z8L {F a r} (h:Q9G F a=some r) :
  Q7 Tryz.prog 82 [AL a] [] (.t [.g [.d (DL r.1.t_)],.c (ci r.2)]) []:=by
 refine FJ Tryz.func82 fun C Fm=>?_
 unfold Q9G at h;refine Q0 Fm 2 [0] [(2,pt 2)] [] [(2,bx [f0])] (AW.seq (Q0 Fm 3 [0,2] [(6,vb (decide ((120:Int)<(lI a))))] [2] [] (Q3 h (fun b h=>?_) (fun b h=>?_))))
 ·exact Y4 Fm [.w (.v (.g [dR])),.s,.s] [2] [(3,vi 1)] [] [(2,bx [dR])] (cT (ALe.g ⟨CLe.fl .nil,⟨⟩⟩:ALe (.v (.g [f0])) (.v (.g [dR])))) (Z2 Fm h)
 ·exact AW.skip (Q0 Fm 4 [2] [(3,vi 0)] [] [(2,bx [.d (DL a)])] (Z2 Fm h))
theorem Y1O {F a r} (h:Z4X F a=some r) :
  Q7 Tryz.prog 108 [AL a] [] (.t [.g [.d (DL r.1.t_)],.c (ci r.2)]) []:=by
 refine FJ Tryz.func108 fun C Fm=>?_
 unfold Z4X at h;refine Q0 Fm 2 [0] [(2,pt 2)] [] [(2,bx [f0])] (AW.seq (Q0 Fm 3 [0,2] [(8,vb (decide ((120:Int)<(lI a))))] [2] [] (Q3 h (fun l h=>?_) (fun l h=>?_))))
 ·exact Y4 Fm [.w (.v (.g [dR])),.s,.s] [2] [(3,vi 1)] [] [(2,bx [dR])] (cT (ALe.g ⟨CLe.fl .nil,⟨⟩⟩:ALe (.v (.g [f0])) (.v (.g [dR])))) (Z2 Fm h)
 ·refine AW.skip (Q6 (r:=r) (fun z:Unit=>Z4W F a) [0,2] nn [2] nn (fun z h=>?_) (fun H j=>?_))
  ·refine AW.seq ?_
   obtain ⟨E,A,h⟩:=bS h;obtain ⟨e,B,h⟩:=bS h
   exact Q5 Fm [.s,.k (cE [] [] (AL E) [] []),.k _,.s,.s,.s,.s] (k2 1 2) [2] [(3,vi e.2)] [] [(2,bx [.d (DL e.1.t_)])] ⟨KAt.cX (G8 A) Tryz.call74 [] [] [.tmp 21,.const (.slice none 0 0),.const (.int .i64 1)] ⟨.p,y7.plain (by kernel_rfl) (ALe.c (CLe.fl .nil)) (by kernel_rfl),.p,⟨⟩⟩,Q2 (Z8L B) Tryz.call82 [],⟨⟩⟩ (Z2 Fm h)
  ·refine Q0 Fm 3 [0,2] [(10,AL a),(11,vi (lI a)),(12,vi 0)] [2] [] (AW.block (Kn.w Fm [(0,AL a),(2,pt 2),(10,AL a),(11,vi (lI a)),(12,vi 0)] [(2,bx [f0])] ?_))
   refine Z5 (E':=fun z=>[(0,AL a),(2,pt 2),(10,AL a),(11,vi (lI a)),(12,vi z)]) (S':=fun z=>[(2,bx [f0])]) (fun I b G i h=>?_) h;refine Q0 Fm 1 [0,2,10,11,12] [(13,vb (decide (b<(lI a))))] [2] [] (AW.seq (Q3 h (fun m h=>?_) (fun m h=>?_)))
   ·refine AW.skip (AW.seq (AW.block ?_))
    obtain ⟨o,h⟩:=gS h;refine Y4 Fm (sA 4 []) [0,2,10,11,12] [(5,pt 5)] [2] [(5,bx [ci ((gn a b).L_),ci ((gn a b).w_),ci ((gn a b).R_),ci ((gn a b).H_)])] (cT o) (AW.seq ?_)
    obtain ⟨D,y,h⟩:=bS h;refine Q5 Fm [.s,.k _,.s] (k1 1) [0,2,10,11,12] [(18,vb (!D))] [2] [] ⟨Q2 (Q7Z y) Tryz.call124 [],⟨⟩⟩ (Q3 h (fun n h=>?_) (fun n h=>?_))
    ·exact Y4 Fm [.w (.v (.g [dR])),.s,.s] [2] [(3,vi 2)] [] [(2,bx [dR])] (cT (ALe.g ⟨CLe.fl .nil,⟨⟩⟩:ALe (.v (.g [f0])) (.v (.g [dR])))) (Z2 Fm h)
    ·refine AW.skip ?_
     obtain ⟨u,h⟩:=gS h;exact Q1 Fm [.s,.s] [0,2,10,11] [(12,vi (b+1))] [2] [] (cT (cT u)) (Kn.R Fm (i (b+1) h))
   ·exact AW.exit (Kn.R Fm (j () h))
theorem Q8B {F o e p r} (h:Q0Z F o e p=some r) :
  Q7 Tryz.prog 54 [pt 0,vi e,vi p] [(0,bx (gC o))] (.v (.g [.d (DL r.2.t_)])) [(0,bx (gC r.1))]:=by
 refine FJ Tryz.func54 fun C Fm=>?_
 unfold Q0Z at h;refine Q0 Fm 1 [0,1,2] [(6,pt 6)] [0] [(6,bx [f0])] (y8 Fm [.m] (fun K=>True) [0,1,2,6] [(7,ow 7)] [0,6] [(7,AO ([]:List Rect))] True.intro [(7,.arr 4 (0) nn)] ⟨OLe.is ((Is.nil (α:=Rect))),⟨⟩⟩ (Q6 (r:=r) (fun z:(List Rect)×(List Int)×Int=>Q5Y F z.1 z.2.1 z.2.2) [6,7] nn [6] (fun z=>[(0,bx [.d (DL z.2.1),ci z.2.2]),(7,AO z.1)]) (fun z h=>?_) (fun O y=>?_)))
 ·obtain ⟨j,l,n⟩:=z
  refine AW.seq (Kn.w Fm [(6,pt 6),(7,ow 7)] [(7,AO j),(0,bx [.d (DL l),ci n]),(6,bx [f0])] (Q1F [(6,pt 6),(7,AL j)] [(0,bx [.d (DL l),ci n]),(6,bx [f0])] ?_));obtain ⟨t,I,h⟩:=bS h
  exact Q5 Fm (sZ 6 [.s,.k _]) (k1 1) [6] [(9,pt 9)] [0,6] [(9,bx [.d (DL t.1.t_)])] ⟨Q2 (Y1O I) Tryz.call108 [],⟨⟩⟩ (Q0 Fm 2 [6] [] [0] [(6,bx [.d (DL t.1.t_)])] (Z2 Fm h))
 ·refine AW.seq ?_
  obtain ⟨B,h⟩:=gS h;obtain ⟨b,G,h⟩:=bS h
  refine Q5 Fm [.s,.s,.s,.k _,.s] (fun K=>(_/\True)/\K 3/\True) [0,1,6,7] [(8,vi b.2)] [6,7] [(0,bx (gC b.1))] ⟨⟨B,⟨⟩⟩,Q2 (Z4 G) Tryz.call18 [(0,0)],⟨⟩⟩ (AW.block (Kn.w Fm [(0,pt 0),(1,vi e),(6,pt 6),(7,ow 7),(8,vi b.2)] [(0,bx [.d (DL b.1.l_),ci b.1.at_]),(6,bx [f0]),(7,AO ([]:List Rect))] ?_));refine Z5 (E':=fun z=>[(0,pt 0),(1,vi e),(6,pt 6),(7,ow 7),(8,vi z.1)]) (S':=fun z=>[(0,bx [.d (DL z.2.1),ci z.2.2.1]),(6,bx [f0]),(7,AO z.2.2.2)]) (fun P z N u h=>?_) h
  obtain ⟨i,L,M,c⟩:=z;refine AW.seq (Q0 Fm 2 [0,1,6,7,8] [(16,vb (decide ((0:Int)<i)))] [0,6,7] [] (Q3 h (fun A h=>?_) (fun A h=>?_)))
  ·refine AW.skip (AW.seq (AW.block ?_))
   obtain ⟨a,H,h⟩:=bS h;obtain ⟨D,h⟩:=gS h
   refine Z1C Fm [.s,.s,.s,.k _,.w (AL [a.2]),.s,.s] (fun K=>K 3/\_/\(_/\_/\True)/\True) [0,1,6,8] [(7,ow 24)] [6] [(0,bx (gC a.1)),(24,AO (c++([a.2]:List Rect)))] ⟨Q2 (Q3d H) Tryz.call107 [(0,0)],Q8h a.2,⟨D,lfl ([a.2]:List Rect),⟨⟩⟩,⟨⟩⟩ [(24,rAp c ([a.2]:List Rect))] ⟨oAp,⟨⟩⟩ ?_;obtain ⟨E,h⟩:=gS h
   exact Q1 Fm [.s,.s,.s] [0,1,6,7] [(8,vi (i-1))] [0,6,24] [] (cT (cT E)) (Q1e Fm [(7,24)] (u ((i-1),a.1.l_,a.1.at_,(c++([a.2]:List Rect))) h))
  ·exact AW.exit (Kn.R Fm (y (c,L,M) h))
theorem Z5S {F e i j r} (h:Q1n F e i j=some r) :
  Q7 Tryz.prog 73 [pt 0,vi i,vi j] [(0,bx (gC e))] (.v (.g [.d (DL r.2.t_)])) [(0,bx (gC r.1))]:=by
 refine FJ Tryz.func73 fun C Fm=>?_
 unfold Q1n at h;refine Q0 Fm 1 [0,1,2] [(6,pt 6)] [0] [(6,bx [f0])] (AW.seq ?_)
 obtain ⟨b,m,h⟩:=bS h;refine Q5 Fm [.s,.s,.s,.k _,.s,.s] (k1 3) [0,1,6] [(7,pt 7)] [6] [(0,bx (gC b.1)),(7,bx [.d (DL b.2.t_)])] ⟨Q2 (Q8B m) Tryz.call54 [(0,0)],⟨⟩⟩ (Q6 (r:=r) (fun z:(List Rect)×(List Int)×Int=>Q8k F z.1 z.2.1 z.2.2) [6,7] nn [6] (fun z=>[(0,bx [.d (DL z.2.1),ci z.2.2]),(7,bx [.d (DL z.1)])]) (fun z h=>?_) (fun p c=>?_))
 ·obtain ⟨o,t,u⟩:=z
  exact Q0 Fm 2 [6] [] [0] [(6,bx [.d (DL o)])] (Z2 Fm h)
 ·refine Q0 Fm 4 [0,1,6,7] [(15,vb ((lI b.2.t_)==0))] [0,6,7] [] (Q3 h (fun l h=>?_) (fun l h=>?_))
  ·obtain ⟨a,n,h⟩:=bS h
   exact Q5 Fm [.s,.s,.k _,.w (AL [a.2]),.s,.s] (fun K=>K 2/\_/\True) [6,7] [] [6] [(0,bx (gC a.1)),(7,bx [.d (DL ([a.2]:List Rect))])] ⟨Q2 (Q3d n) Tryz.call107 [(0,0)],Q8h a.2,⟨⟩⟩ (Kn.R Fm (c (([a.2]:List Rect),a.1.l_,a.1.at_) h))
  ·exact AW.skip (Kn.R Fm (c (b.2.t_,b.1.l_,b.1.at_) h))
theorem Z6R {F a r} (h:Z2d F a=some r) :
  Q7 Tryz.prog 82 [ow 0] [(0,AO a)] (.t [.g [.own 100],.c (ci r.2)]) [(100,AO r.1.t_)]:=by
 refine FJ Tryz.func82 fun C Fm=>?_
 unfold Z2d at h;refine Q0 Fm 2 [0] [(2,pt 2)] [0] [(2,bx [f0])] (AW.seq (Q0 Fm 3 [0,2] [(6,vb (decide ((120:Int)<(lI a))))] [0,2] [] (Q3 h (fun b h=>?_) (fun b h=>?_))))
 ·refine Q0 Fm 3 [2] [(3,vi 1)] [0,2] [] (AW.ret ?_)
  obtain rfl:=Option.some.inj h;exact Kn.w Fm [(2,pt 2),(3,vi 1)] [(2,bx [f0]),(0,AO a)] (Y0i Fm (i:=2) (k:=900) (es:=4) (j:=0) (f':=LF (α:=Rect) []) (by kernel_rfl) (by kernel_rfl) (by simp) rfl (Kn.w Fm [(2,pt 2),(3,vi 1)] [(0,AO a),(2,bx [.own 900]),(900,AO ([]:List Rect))] (Q2P Fm [(100,900)] [(2,pt 2),(3,vi 1)] [(2,bx [.own 100]),(100,AO ([]:List Rect))] (Q3b Fm (by kernel_rfl)))))
 ·refine AW.skip (Q0 Fm 4 [2] [(3,vi 0)] [0] [(2,bx [.own 0])] (AW.ret ?_))
  obtain rfl:=Option.some.inj h;exact Q2P Fm [(100,0)] [(2,pt 2),(3,vi 0)] [(2,bx [.own 100]),(100,AO a)] (Q3b Fm (by kernel_rfl))
theorem Z9R {F a r} (h:Z6Q F a=some r) :
  Q7 Tryz.prog 108 [AL a] [] (.t [.g [.own 100],.c (ci r.2)]) [(100,AO r.1.t_)]:=by
 refine FJ Tryz.func108 fun C Fm=>?_
 unfold Z6Q at h;refine Q0 Fm 2 [0] [(2,pt 2)] [] [(2,bx [f0])] (AW.seq (Q0 Fm 3 [0,2] [(8,vb (decide ((120:Int)<(lI a))))] [2] [] (Q3 h (fun m h=>?_) (fun m h=>?_))))
 ·refine Q0 Fm 3 [2] [(3,vi 1)] [2] [] (AW.ret ?_)
  obtain rfl:=Option.some.inj h;exact Kn.w Fm [(2,pt 2),(3,vi 1)] [(2,bx [f0])] (Y0i Fm (i:=2) (k:=900) (es:=4) (j:=0) (f':=LF (α:=Rect) []) (by kernel_rfl) (by kernel_rfl) (by simp) rfl (Kn.w Fm [(2,pt 2),(3,vi 1)] [(2,bx [.own 900]),(900,AO ([]:List Rect))] (Q2P Fm [(100,900)] [(2,pt 2),(3,vi 1)] [(2,bx [.own 100]),(100,AO ([]:List Rect))] (Q3b Fm (by kernel_rfl)))))
 ·refine AW.skip (Q6 (r:=r) (fun z:Unit=>Z6v F a) [0,2] nn [2] nn (fun z h=>?_) (fun H l=>?_))
  ·refine AW.seq ?_
   obtain ⟨E,A,h⟩:=bS h;obtain ⟨d,B,h⟩:=bS h
   refine Q5 Fm [.s,.k (cE [(100,22)] [] (ow 100) [] [(100,AO E)]),.k _,.s,.s,.s,.s] (k2 1 2) [2] [(3,vi d.2)] [] [(2,bx [.own 23]),(23,AO d.1.t_)] ⟨KAt.cX (Q9F A) Tryz.call74 [(100,22)] [] [.tmp 21,.const (.slice none 0 0),.const (.int .i64 1)] ⟨.p,y7.plain (by kernel_rfl) (ALe.c (CLe.fl .nil)) (by kernel_rfl),.p,⟨⟩⟩,Q2 (Z6R B) Tryz.call82 [(0,22),(100,23)],⟨⟩⟩ (AW.ret ?_);obtain rfl:=Option.some.inj h
   exact Q2P Fm [(100,23)] [(2,pt 2),(3,vi d.2)] [(2,bx [.own 100]),(100,AO d.1.t_)] (Q3b Fm (by kernel_rfl))
  ·refine Q0 Fm 3 [0,2] [(10,AL a),(11,vi (lI a)),(12,vi 0)] [2] [] (AW.block (Kn.w Fm [(0,AL a),(2,pt 2),(10,AL a),(11,vi (lI a)),(12,vi 0)] [(2,bx [f0])] ?_))
   refine Z5 (E':=fun z=>[(0,AL a),(2,pt 2),(10,AL a),(11,vi (lI a)),(12,vi z)]) (S':=fun z=>[(2,bx [f0])]) (fun I b G e h=>?_) h;refine Q0 Fm 1 [0,2,10,11,12] [(13,vb (decide (b<(lI a))))] [2] [] (AW.seq (Q3 h (fun n h=>?_) (fun n h=>?_)))
   ·refine AW.skip (AW.seq (AW.block ?_))
    obtain ⟨q,h⟩:=gS h;refine Y4 Fm (sA 4 []) [0,2,10,11,12] [(5,pt 5)] [2] [(5,bx [ci ((gn a b).L_),ci ((gn a b).w_),ci ((gn a b).R_),ci ((gn a b).H_)])] (cT q) (AW.seq ?_)
    obtain ⟨D,y,h⟩:=bS h;refine Q5 Fm [.s,.k _,.s] (k1 1) [0,2,10,11,12] [(18,vb (!D))] [2] [] ⟨Q2 (Q7Z y) Tryz.call124 [],⟨⟩⟩ (Q3 h (fun o h=>?_) (fun o h=>?_))
    ·refine Q0 Fm 3 [2] [(3,vi 2)] [2] [] (AW.ret ?_)
     obtain rfl:=Option.some.inj h;exact Kn.w Fm [(2,pt 2),(3,vi 2)] [(2,bx [f0])] (Y0i Fm (i:=2) (k:=900) (es:=4) (j:=0) (f':=LF (α:=Rect) []) (by kernel_rfl) (by kernel_rfl) (by simp) rfl (Kn.w Fm [(2,pt 2),(3,vi 2)] [(2,bx [.own 900]),(900,AO ([]:List Rect))] (Q2P Fm [(100,900)] [(2,pt 2),(3,vi 2)] [(2,bx [.own 100]),(100,AO ([]:List Rect))] (Q3b Fm (by kernel_rfl)))))
    ·refine AW.skip ?_
     obtain ⟨u,h⟩:=gS h;exact Q1 Fm [.s,.s] [0,2,10,11] [(12,vi (b+1))] [2] [] (cT (cT u)) (Kn.R Fm (e (b+1) h))
   ·exact AW.exit (Kn.R Fm (l () h))
theorem Z2I {F o e p r} (h:Q6T F o e p=some r) :
  Q7 Tryz.prog 54 [pt 0,vi e,vi p] [(0,bx (gC o))] (.v (.g [.own 100])) [(0,bx (gC r.1)),(100,AO r.2.t_)]:=by
 refine FJ Tryz.func54 fun C Fm=>?_
 unfold Q6T at h;refine Q0 Fm 1 [0,1,2] [(6,pt 6)] [0] [(6,bx [f0])] (y8 Fm [.m] (fun K=>True) [0,1,2,6] [(7,ow 7)] [0,6] [(7,AO ([]:List Rect))] True.intro [(7,.arr 4 (0) nn)] ⟨OLe.is ((Is.nil (α:=Rect))),⟨⟩⟩ (Q6 (r:=r) (fun z:(List Rect)×(List Int)×Int=>Q8C F z.1 z.2.1 z.2.2) [6,7] nn [6] (fun z=>[(0,bx [.d (DL z.2.1),ci z.2.2]),(7,AO z.1)]) (fun z h=>?_) (fun N u=>?_)))
 ·obtain ⟨n,j,l⟩:=z
  refine AW.seq (Kn.w Fm [(6,pt 6),(7,ow 7)] [(7,AO n),(0,bx [.d (DL j),ci l]),(6,bx [f0])] (Q1F [(6,pt 6),(7,AL n)] [(0,bx [.d (DL j),ci l]),(6,bx [f0])] ?_));obtain ⟨q,H,h⟩:=bS h
  refine Q5 Fm (sZ 6 [.s,.k _]) (k1 1) [6] [(9,pt 9)] [0,6] [(9,bx [.own 27]),(27,AO q.1.t_)] ⟨Q2 (Z9R H) Tryz.call108 [(100,27)],⟨⟩⟩ (Q0 Fm 2 [6] [] [0,27] [(6,bx [.own 27])] (AW.ret ?_));obtain rfl:=Option.some.inj h
  exact Q2P Fm [(100,27)] [(6,pt 6)] [(0,bx [.d (DL j),ci l]),(6,bx [.own 100]),(100,AO q.1.t_)] (Q3b Fm (by kernel_rfl))
 ·refine AW.seq ?_
  obtain ⟨A,h⟩:=gS h;obtain ⟨b,E,h⟩:=bS h
  refine Q5 Fm [.s,.s,.s,.k _,.s] (fun K=>(_/\True)/\K 3/\True) [0,1,6,7] [(8,vi b.2)] [6,7] [(0,bx (gC b.1))] ⟨⟨A,⟨⟩⟩,Q2 (Z4 E) Tryz.call18 [(0,0)],⟨⟩⟩ (AW.block (Kn.w Fm [(0,pt 0),(1,vi e),(6,pt 6),(7,ow 7),(8,vi b.2)] [(0,bx [.d (DL b.1.l_),ci b.1.at_]),(6,bx [f0]),(7,AO ([]:List Rect))] ?_));refine Z5 (E':=fun z=>[(0,pt 0),(1,vi e),(6,pt 6),(7,ow 7),(8,vi z.1)]) (S':=fun z=>[(0,bx [.d (DL z.2.1),ci z.2.2.1]),(6,bx [f0]),(7,AO z.2.2.2)]) (fun P z M t h=>?_) h
  obtain ⟨i,I,L,c⟩:=z;refine AW.seq (Q0 Fm 2 [0,1,6,7,8] [(16,vb (decide ((0:Int)<i)))] [0,6,7] [] (Q3 h (fun y h=>?_) (fun y h=>?_)))
  ·refine AW.skip (AW.seq (AW.block ?_))
   obtain ⟨a,G,h⟩:=bS h;obtain ⟨B,h⟩:=gS h
   refine Z1C Fm [.s,.s,.s,.k _,.w (AL [a.2]),.s,.s] (fun K=>K 3/\_/\(_/\_/\True)/\True) [0,1,6,8] [(7,ow 24)] [6] [(0,bx (gC a.1)),(24,AO (c++([a.2]:List Rect)))] ⟨Q2 (Q3d G) Tryz.call107 [(0,0)],Q8h a.2,⟨B,lfl ([a.2]:List Rect),⟨⟩⟩,⟨⟩⟩ [(24,rAp c ([a.2]:List Rect))] ⟨oAp,⟨⟩⟩ ?_;obtain ⟨D,h⟩:=gS h
   exact Q1 Fm [.s,.s,.s] [0,1,6,7] [(8,vi (i-1))] [0,6,24] [] (cT (cT D)) (Q1e Fm [(7,24)] (t ((i-1),a.1.l_,a.1.at_,(c++([a.2]:List Rect))) h))
  ·exact AW.exit (Kn.R Fm (u (c,I,L) h))
theorem Z4h {F e i j r} (h:Q5K F e i j=some r) :
  Q7 Tryz.prog 73 [pt 0,vi i,vi j] [(0,bx (gC e))] (.v (.g [.own 100])) [(0,bx (gC r.1)),(100,AO r.2.t_)]:=by
 refine FJ Tryz.func73 fun C Fm=>?_
 unfold Q5K at h;refine Q0 Fm 1 [0,1,2] [(6,pt 6)] [0] [(6,bx [f0])] (AW.seq ?_)
 obtain ⟨b,n,h⟩:=bS h;refine Q5 Fm [.s,.s,.s,.k _,.s,.s] (k1 3) [0,1,6] [(7,pt 7)] [6] [(0,bx (gC b.1)),(7,bx [.own 11]),(11,AO b.2.t_)] ⟨Q2 (Z2I n) Tryz.call54 [(0,0),(100,11)],⟨⟩⟩ (Q6 (r:=r) (fun z:(List Int)×Int×(List Rect)=>Q5Z F z.1 z.2.1 z.2.2) [6,7] nn [6] (fun z=>[(0,bx [.d (DL z.1),ci z.2.1]),(7,bx [.own 19]),(19,AO z.2.2)]) (fun z h=>?_) (fun u c=>?_))
 ·obtain ⟨p,q,t⟩:=z
  refine Q0 Fm 2 [6] [] [0,19] [(6,bx [.own 19])] (AW.ret ?_);obtain rfl:=Option.some.inj h
  exact Q2P Fm [(100,19)] [(6,pt 6)] [(0,bx [.d (DL p),ci q]),(6,bx [.own 100]),(100,AO t)] (Q3b Fm (by kernel_rfl))
 ·refine Q0 Fm 4 [0,1,6,7] [(15,vb ((lI b.2.t_)==0))] [0,6,7,11] [] (Q3 h (fun l h=>?_) (fun l h=>?_))
  ·obtain ⟨a,o,h⟩:=bS h
   exact Z1C Fm [.s,.s,.k _,.m,.s,.s] (k1 2) [6,7] [] [6] [(0,bx (gC a.1)),(7,bx [.own 19]),(19,AO ([a.2]:List Rect))] ⟨Q2 (Q3d o) Tryz.call107 [(0,0)],⟨⟩⟩ [(19,.arr 4 (1) (Z0n 4 [.int .i64 a.2.L_,.int .i64 a.2.w_,.int .i64 a.2.R_,.int .i64 a.2.H_]))] ⟨OLe.is (Is.lit ([a.2]:List Rect) (by kernel_rfl)),⟨⟩⟩ (Kn.R Fm (c (a.1.l_,a.1.at_,([a.2]:List Rect)) h))
  ·exact AW.skip (Q1e Fm [(19,11)] (c (b.1.l_,b.1.at_,b.2.t_) h))
theorem Z5f {F e0 q N r} (h:Q2u F e0 q N=some r) :
  Q7 Tryz.prog 33 [pt 0,AL q,vi N] [(0,bx (gC e0))] (.t [.c (.d (DL r.2.1)),.c (.d (DL r.2.2.1)),.c (.d (DL r.2.2.2))]) [(0,bx (gC r.1))]:=by
 refine FJ Tryz.func33 fun C Fm=>?_
 unfold Q2u at h;refine Q0 Fm 3 [0,1,2] [] [0] [] (y8 Fm [.m] (fun K=>True) [0,1,2] [(9,ow 9)] [0] [(9,AO ([]:List Int))] True.intro [(9,.arr 1 (0) nn)] ⟨OLe.is ((Is.nil (α:=Int))),⟨⟩⟩ (y8 Fm [.m] (fun K=>True) [0,1,2,9] [(10,ow 10)] [0,9] [(10,AO ([]:List Re_))] True.intro [(10,.arr 1 (0) nn)] ⟨OLe.is ((Is.nil (α:=Re_))),⟨⟩⟩ (y8 Fm [.m] (fun K=>True) [0,1,2,9,10] [(11,ow 11)] [0,9,10] [(11,AO ([]:List Line))] True.intro [(11,.arr 4 (0) nn)] ⟨OLe.is ((Is.nil (α:=Line))),⟨⟩⟩ (Q6 (r:=r) (fun z:(List Int)×Int×(List Int)×(List Re_)=>Q3R F q N z.1 z.2.1 z.2.2.1 z.2.2.2) [0,1,2,9,10,11] nn [11] (fun z=>[(0,bx [.d (DL z.1),ci z.2.1]),(9,AO z.2.2.1),(10,AO z.2.2.2)]) (fun z h=>?_) (fun y1 l0=>?_)))))
 ·obtain ⟨N1,O1,p,o⟩:=z
  refine Q6 (r:=r) (fun z:(List Line)×(List Int)×Int=>Z1q F p o z.1 z.2.1 z.2.2) [9,10,11] nn [9,10] (fun z=>[(0,bx [.d (DL z.2.1),ci z.2.2]),(11,AO z.1)]) (fun z h=>?_) (fun I1 s0=>?_)
  ·obtain ⟨H,I,L⟩:=z
   refine Q0 Fm 6 [] [(6,ow 11),(7,ow 9),(8,ow 10)] [0,9,10,11] [] (AW.ret ?_);obtain rfl:=Option.some.inj h
   exact Kn.w Fm [(6,ow 11),(7,ow 9),(8,ow 10)] [(11,AO H),(0,bx [.d (DL I),ci L]),(9,AO p),(10,AO o)] (Q1F [(6,AL H),(7,ow 9),(8,ow 10)] [(0,bx [.d (DL I),ci L]),(9,AO p),(10,AO o)] (Kn.w Fm [(6,AL H),(7,ow 9),(8,ow 10)] [(9,AO p),(0,bx [.d (DL I),ci L]),(10,AO o)] (Q1F [(6,AL H),(7,AL p),(8,ow 10)] [(0,bx [.d (DL I),ci L]),(10,AO o)] (Kn.w Fm [(6,AL H),(7,AL p),(8,ow 10)] [(10,AO o),(0,bx [.d (DL I),ci L])] (Q1F [(6,AL H),(7,AL p),(8,AL o)] [(0,bx [.d (DL I),ci L])] (Kn.D Fm))))))
  ·refine AW.seq ?_
   obtain ⟨L0,h⟩:=gS h;obtain ⟨P,b1,h⟩:=bS h
   refine Q5 Fm [.s,.s,.s,.k _,.s] (fun K=>(_/\True)/\K 3/\True) [0,1,9,10,11] [(14,vi P.2)] [9,10,11] [(0,bx (gC P.1))] ⟨⟨L0,⟨⟩⟩,Q2 (Z4 b1) Tryz.call18 [(0,0)],⟨⟩⟩ (AW.block (Kn.w Fm [(0,pt 0),(1,AL q),(9,ow 9),(10,ow 10),(11,ow 11),(14,vi P.2)] [(0,bx [.d (DL P.1.l_),ci P.1.at_]),(9,AO p),(10,AO o),(11,AO ([]:List Line))] ?_));refine Z5 (E':=fun z=>[(0,pt 0),(1,AL q),(9,ow 9),(10,ow 10),(11,ow 11),(14,vi z.1)]) (S':=fun z=>[(0,bx [.d (DL z.2.1),ci z.2.2.1]),(9,AO p),(10,AO o),(11,AO z.2.2.2)]) (fun U z A1 m0 h=>?_) h
   obtain ⟨u,o1,p1,l⟩:=z;refine AW.seq (Q0 Fm 2 [0,1,9,10,11,14] [(54,vb (decide ((0:Int)<u)))] [0,9,10,11] [] (Q3 h (fun u0 h=>?_) (fun u0 h=>?_)))
   ·refine AW.skip (Q6 (r:=r) (fun z:(List Int)×Int×(List Line)=>Q2d F u U z.1 z.2.1 z.2.2) [0,1,9,10,14] (fun _=>[(11,ow 135)]) [9,10] (fun z=>[(0,bx [.d (DL z.1),ci z.2.1]),(135,AO z.2.2)]) (fun z h=>?_) (fun H1 Y=>?_))
    ·obtain ⟨s1,t1,u1⟩:=z
     obtain ⟨X0,h⟩:=gS h;exact Q1 Fm [.s,.s,.s] [0,1,9,10,11] [(14,vi (u-1))] [0,9,10,135] [] (cT (cT X0)) (Q1e Fm [(11,135)] (m0 ((u-1),s1,t1,u1) h))
    ·refine AW.block (AW.seq ?_)
     obtain ⟨e,c1,h⟩:=bS h;refine Q5 Fm [.s,.s,.s,.k _,.s] (k1 3) [0,1,9,10,11,14] [(15,vi e.2)] [9,10,11] [(0,bx (gC e.1))] ⟨Q2 (Z4 c1) Tryz.call18 [(0,0)],⟨⟩⟩ (AW.seq ?_)
     obtain ⟨n,d1,h⟩:=bS h;refine Q5 Fm [.s,.k _,.s,.s] (k1 1) [0,1,9,10,11,14,15] [(16,pt 16)] [9,10,11] [(0,bx (gC n.1)),(16,bx [.own 62]),(62,AO n.2.t_)] ⟨Q2 (Z4h d1) Tryz.call73 [(0,0),(100,62)],⟨⟩⟩ (Q6 (r:=r) (fun z:(List Rect)=>Q3Q F q o u l e n U z) [0,1,9,10,11,14,15,16] nn [0,9,10,11,16] (fun z=>[(62,AO z)]) (fun d0 h=>?_) (fun D1 o0=>?_))
     ·refine AW.seq (Kn.w Fm [(0,pt 0),(1,AL q),(9,ow 9),(10,ow 10),(11,ow 11),(14,vi u),(15,vi e.2),(16,pt 16)] [(62,AO d0),(0,bx (gC n.1)),(9,AO p),(10,AO o),(11,AO l),(16,bx [.own 62])] (Q1F [(0,pt 0),(1,AL q),(9,ow 9),(10,ow 10),(11,ow 11),(14,vi u),(15,vi e.2),(16,pt 16)] [(0,bx (gC n.1)),(9,AO p),(10,AO o),(11,AO l),(16,bx [.d (DL d0)])] ?_))
      obtain ⟨b0,h⟩:=gS h;obtain ⟨i0,e1,h⟩:=bS h
      refine Q5 Fm (sA 7 [.k _,.s]) (fun K=>_/\_/\K 7/\True) [0,1,9,10,11,14,15] [(18,AL i0)] [0,9,10,11] [] ⟨b0,(Y6 b0),Q2 (G8 e1) Tryz.call74 [],⟨⟩⟩ (Q6 (r:=r) (fun z:(List Rect)=>Q2e F q u l e n U z) [0,1,9,10,11,14,15] (fun z=>[(18,AL z)]) [0,9,10,11] nn (fun G h=>?_) (fun G1 q0=>?_))
      ·refine Q0 Fm 3 [0,1,9,10,11,14,15,18] [(120,vb (decide ((0:Int)<(lI G))))] [0,9,10,11] [] (Q3 h (fun A0 h=>?_) (fun A0 h=>?_))
       ·obtain ⟨U0,h⟩:=gS h
        obtain ⟨M,j1,h⟩:=bS h;obtain ⟨A,l1,h⟩:=bS h
        obtain ⟨V0,W0,h⟩:=gS2 h;exact Z1C Fm (sA 8 [.k _,.s,.k _,.s,.s,.w (AL [(⟨(e.2+1),(⟨G⟩:Re_),M.2,((1:Int)+A.2)⟩:Line)]),.s,.s]) (fun K=>(_/\True)/\K 8/\K 10/\(_/\True)/\_/\(_/\_/\True)/\True) [0,1,9,10,14] [(11,ow 135)] [9,10] [(0,bx (gC A.1)),(135,AO (l++([(⟨(e.2+1),(⟨G⟩:Re_),M.2,((1:Int)+A.2)⟩:Line)]:List Line)))] ⟨⟨U0,⟨⟩⟩,Q2 (Z4 j1) Tryz.call18 [(0,0)],Q2 (Z4 l1) Tryz.call18 [(0,0)],⟨V0,⟨⟩⟩,Q8h (⟨(e.2+1),(⟨G⟩:Re_),M.2,((1:Int)+A.2)⟩:Line),⟨W0,lfl ([(⟨(e.2+1),(⟨G⟩:Re_),M.2,((1:Int)+A.2)⟩:Line)]:List Line),⟨⟩⟩,⟨⟩⟩ [(135,rAp l ([(⟨(e.2+1),(⟨G⟩:Re_),M.2,((1:Int)+A.2)⟩:Line)]:List Line))] ⟨oAp,⟨⟩⟩ (Kn.R Fm (Y (A.1.l_,A.1.at_,(l++([(⟨(e.2+1),(⟨G⟩:Re_),M.2,((1:Int)+A.2)⟩:Line)]:List Line))) h))
       ·exact AW.skip (Q1e Fm [(135,11)] (Y (n.1.l_,n.1.at_,l) h))
      ·refine Q0 Fm 3 [0,1,9,10,11,14,15,18] [(106,ow 11),(107,vi (lI l)),(108,vi 0)] [0,9,10,11] [] (AW.block (Kn.w Fm [(0,pt 0),(1,AL q),(9,ow 9),(10,ow 10),(11,ow 11),(14,vi u),(15,vi e.2),(18,AL i0),(106,ow 11),(107,vi (lI l)),(108,vi 0)] [(0,bx (gC n.1)),(9,AO p),(10,AO o),(11,AO l)] ?_))
       refine Z5 (E':=fun z=>[(0,pt 0),(1,AL q),(9,ow 9),(10,ow 10),(11,ow 11),(14,vi u),(15,vi e.2),(18,AL z.1),(106,ow 11),(107,vi (lI l)),(108,vi z.2)]) (S':=fun z=>[(0,bx (gC n.1)),(9,AO p),(10,AO o),(11,AO l)]) (fun M1 z E1 p0 h=>?_) h;obtain ⟨q1,E⟩:=z
       refine Q0 Fm 1 [0,1,9,10,11,14,15,18,106,107,108] [(109,vb (decide (E<(lI l))))] [0,9,10,11] [] (AW.seq (Q3 h (fun y0 h=>?_) (fun y0 h=>?_)))
       ·refine AW.skip (AW.seq (AW.block ?_))
        obtain ⟨c0,h⟩:=gS h;refine Y4 Fm (sA 4 []) [0,1,9,10,11,14,15,18,106,107,108] [(20,pt 20)] [0,9,10,11] [(20,bx [ci ((gn l E).p_),.d (DL (gn l E).g_.t_),ci ((gn l E).c_),ci ((gn l E).s_)])] (cA c0 (cT (Y6 c0))) ?_
        obtain ⟨j0,i1,h⟩:=bS h;refine Q5 Fm (sA 4 [.k _,.s]) (k1 4) [0,1,9,10,11,14,15,106,107,108] [(18,AL j0)] [0,9,10,11] [] ⟨Q2 (G8 i1) Tryz.call74 [],⟨⟩⟩ ?_
        obtain ⟨T0,h⟩:=gS h;exact Q1 Fm [.s,.s] [0,1,9,10,11,14,15,18,106,107] [(108,vi (E+1))] [0,9,10,11] [] (cT (cT T0)) (Kn.R Fm (p0 (j0,(E+1)) h))
       ·exact AW.exit (Kn.R Fm (q0 q1 h))
     ·refine Q0 Fm 4 [0,1,9,10,11,14,15,16] [(65,vi (lI n.2.t_)),(66,vi 0)] [0,9,10,11,16,62] [] (AW.block (Kn.w Fm [(0,pt 0),(1,AL q),(9,ow 9),(10,ow 10),(11,ow 11),(14,vi u),(15,vi e.2),(16,pt 16),(65,vi (lI n.2.t_)),(66,vi 0)] [(0,bx (gC n.1)),(9,AO p),(10,AO o),(11,AO l),(16,bx [.own 62]),(62,AO n.2.t_)] ?_))
      refine Z5 (E':=fun z=>[(0,pt 0),(1,AL q),(9,ow 9),(10,ow 10),(11,ow 11),(14,vi u),(15,vi e.2),(16,pt 16),(65,vi (lI n.2.t_)),(66,vi z.1)]) (S':=fun z=>[(0,bx (gC n.1)),(9,AO p),(10,AO o),(11,AO l),(16,bx [.own 62]),(62,AO z.2)]) (fun L1 z B1 n0 h=>?_) h;obtain ⟨a,b⟩:=z
      refine Q0 Fm 1 [0,1,9,10,11,14,15,16,65,66] [(67,vb (decide (a<(lI n.2.t_))))] [0,9,10,11,16,62] [] (AW.seq (Q3 h (fun w0 h=>?_) (fun w0 h=>?_)))
      ·refine AW.skip (AW.seq (AW.block (Q0 Fm 2 [0,1,9,10,11,14,15,16,65,66] [(17,vi a)] [0,9,10,11,16,62] [] ?_)))
       obtain ⟨Z,M0,N0,a0,h⟩:=gS4 h;obtain ⟨O0,P0,V,W,h⟩:=gS4 h
       refine Z1C Fm (sA 26 [.k (rE { v:=.any,upd:=some (62,AO (List.set b a.toNat (⟨(((gn b a).L_)+((10:Int)*e.2)),(gn b a).w_,(gn b a).R_,(gn b a).H_⟩:Rect))) }),.s,.s,.s]) (fun K=>_/\_/\(_/\True)/\(_/\True)/\_/\_/\(_/\True)/\(_/\True)/\_/\K 26/\_/\_/\True) [0,1,9,10,11,14,15,16,65,66] [] [0,9,10,11,16] [(62,AO (List.set (List.set b a.toNat (⟨(((gn b a).L_)+((10:Int)*e.2)),(gn b a).w_,(gn b a).R_,(gn b a).H_⟩:Rect)) a.toNat (⟨(gn (List.set b a.toNat (⟨(((gn b a).L_)+((10:Int)*e.2)),(gn b a).w_,(gn b a).R_,(gn b a).H_⟩:Rect)) a).L_,(gn (List.set b a.toNat (⟨(((gn b a).L_)+((10:Int)*e.2)),(gn b a).w_,(gn b a).R_,(gn b a).H_⟩:Rect)) a).w_,(((gn b a).R_)+((10:Int)*e.2)),(gn (List.set b a.toNat (⟨(((gn b a).L_)+((10:Int)*e.2)),(gn b a).w_,(gn b a).R_,(gn b a).H_⟩:Rect)) a).H_⟩:Rect)))] ⟨Z,(Y6 Z),⟨M0,⟨⟩⟩,⟨N0,⟨⟩⟩,a0,(Y6 a0),⟨O0,⟨⟩⟩,⟨P0,⟨⟩⟩,V,KAt.upd Q0b (ob:=.arr 4 (List.length b) (fun j=>if j=a.toNat then Q4z ((LF b) a.toNat) 0 [.int .i64 (((gn b a).L_)+((10:Int)*e.2))] else (LF b) j)) (c:=a.toNat<List.length b) rfl (by kernel_rfl) (by kernel_rfl) (Y6 V) (OLe.is (Is.set (Is.refl b) (Y6 V) (⟨(((gn b a).L_)+((10:Int)*e.2)),(gn b a).w_,(gn b a).R_,(gn b a).H_⟩:Rect) (by kernel_rfl))),W,(Y6 W),⟨⟩⟩ [(62,rSt (List.set b a.toNat (⟨(((gn b a).L_)+((10:Int)*e.2)),(gn b a).w_,(gn b a).R_,(gn b a).H_⟩:Rect)) a.toNat 2 [.int .i64 (((gn b a).R_)+((10:Int)*e.2))])] ⟨oSt (Y6 W),⟨⟩⟩ ?_;obtain ⟨R0,h⟩:=gS h
       exact Q1 Fm [.s,.s] [0,1,9,10,11,14,15,16,65] [(66,vi (a+1))] [0,9,10,11,16,62] [] (cT (cT R0)) (Kn.R Fm (n0 ((a+1),(List.set (List.set b a.toNat (⟨(((gn b a).L_)+((10:Int)*e.2)),(gn b a).w_,(gn b a).R_,(gn b a).H_⟩:Rect)) a.toNat (⟨(gn (List.set b a.toNat (⟨(((gn b a).L_)+((10:Int)*e.2)),(gn b a).w_,(gn b a).R_,(gn b a).H_⟩:Rect)) a).L_,(gn (List.set b a.toNat (⟨(((gn b a).L_)+((10:Int)*e.2)),(gn b a).w_,(gn b a).R_,(gn b a).H_⟩:Rect)) a).w_,(((gn b a).R_)+((10:Int)*e.2)),(gn (List.set b a.toNat (⟨(((gn b a).L_)+((10:Int)*e.2)),(gn b a).w_,(gn b a).R_,(gn b a).H_⟩:Rect)) a).H_⟩:Rect))) h))
      ·exact AW.exit (Kn.R Fm (o0 b h))
   ·exact AW.exit (Kn.R Fm (s0 (l,o1,p1) h))
 ·refine AW.seq ?_
  obtain ⟨O,Y0,h⟩:=bS h;refine Q5 Fm [.s,.k _,.s] (k1 1) [0,1,2,9,10,11] [(12,vi O.2)] [9,10,11] [(0,bx (gC O.1))] ⟨Q2 (W6 Y0) Tryz.call72 [(0,0)],⟨⟩⟩ (AW.block (Kn.w Fm [(0,pt 0),(1,AL q),(2,vi N),(9,ow 9),(10,ow 10),(11,ow 11),(12,vi O.2)] [(0,bx [.d (DL O.1.l_),ci O.1.at_]),(9,AO ([]:List Int)),(10,AO ([]:List Re_)),(11,AO ([]:List Line))] ?_))
  refine Z5 (E':=fun z=>[(0,pt 0),(1,AL q),(2,vi N),(9,ow 9),(10,ow 10),(11,ow 11),(12,vi z.1)]) (S':=fun z=>[(0,bx [.d (DL z.2.1),ci z.2.2.1]),(9,AO z.2.2.2.1),(10,AO z.2.2.2.2),(11,AO ([]:List Line))]) (fun K1 z w1 k0 h=>?_) h;obtain ⟨X,m1,n1,i,T⟩:=z
  refine AW.seq (Q0 Fm 2 [0,1,2,9,10,11,12] [(24,vb (decide ((0:Int)<X)))] [0,9,10,11] [] (Q3 h (fun t0 h=>?_) (fun t0 h=>?_)))
  ·refine AW.skip (AW.seq (AW.block (Q0 Fm 3 [0,1,2,9,10,11,12] [(13,vi (lI i))] [0,9,10,11] [] ?_)))
   obtain ⟨B0,D0,E0,G0,h⟩:=gS4 h;obtain ⟨B,Z0,h⟩:=bS h
   obtain ⟨H0,h⟩:=gS h;obtain ⟨y,a1,h⟩:=bS h
   obtain ⟨I0,h⟩:=gS h;refine Z1C Fm [.s,.s,.s,.w (AL ([((lI i)+1)]:List Int)),.s,.s,.s,.s,.s,.s,.s,.k _,.s,.s,.k _,.s,.w (AL [(⟨((10:Int)*(lI i)),0,(((10:Int)*(lI i))+B.2),y.2⟩:Rect)]),.s,.w (AL [(⟨([(⟨((10:Int)*(lI i)),0,(((10:Int)*(lI i))+B.2),y.2⟩:Rect)]:List Rect)⟩:Re_)]),.s,.s,.s] (fun K=>(_/\True)/\(ALe (.v (.c (.d (.lst 1 (Z0n 1 [.int .i64 ((lI i)+1)]))))) (AL ([((lI i)+1)]:List Int)))/\(_/\_/\True)/\(_/\True)/\(_/\True)/\K 11/\(_/\True)/\K 14/\_/\_/\(_/\_/\True)/\True) [0,1,2,11,12] [(9,ow 33),(10,ow 48)] [11] [(0,bx (gC y.1)),(33,AO (i++([((lI i)+1)]:List Int))),(48,AO (T++([(⟨([(⟨((10:Int)*(lI i)),0,(((10:Int)*(lI i))+B.2),y.2⟩:Rect)]:List Rect)⟩:Re_)]:List Re_)))] ⟨⟨B0,⟨⟩⟩,ALe.lst (.lit ([((lI i)+1)]:List Int) (by kernel_rfl)),⟨D0,lfl ([((lI i)+1)]:List Int),⟨⟩⟩,⟨E0,⟨⟩⟩,⟨G0,⟨⟩⟩,Q2 (W6 Z0) Tryz.call72 [(0,0)],⟨H0,⟨⟩⟩,Q2 (W6 a1) Tryz.call72 [(0,0)],Q8h (⟨((10:Int)*(lI i)),0,(((10:Int)*(lI i))+B.2),y.2⟩:Rect),Q8h (⟨([(⟨((10:Int)*(lI i)),0,(((10:Int)*(lI i))+B.2),y.2⟩:Rect)]:List Rect)⟩:Re_),⟨I0,lfl ([(⟨([(⟨((10:Int)*(lI i)),0,(((10:Int)*(lI i))+B.2),y.2⟩:Rect)]:List Rect)⟩:Re_)]:List Re_),⟨⟩⟩,⟨⟩⟩ [(33,rAp i ([((lI i)+1)]:List Int)),(48,rAp T ([(⟨([(⟨((10:Int)*(lI i)),0,(((10:Int)*(lI i))+B.2),y.2⟩:Rect)]:List Rect)⟩:Re_)]:List Re_))] ⟨oAp,oAp,⟨⟩⟩ ?_
   obtain ⟨K0,h⟩:=gS h;exact Q1 Fm [.s,.s,.s] [0,1,2,9,10,11] [(12,vi (X-1))] [0,11,33,48] [] (cT (cT K0)) (Q1e Fm [(9,33),(10,48)] (k0 ((X-1),y.1.l_,y.1.at_,(i++([((lI i)+1)]:List Int)),(T++([(⟨([(⟨((10:Int)*(lI i)),0,(((10:Int)*(lI i))+B.2),y.2⟩:Rect)]:List Rect)⟩:Re_)]:List Re_))) h))
  ·exact AW.exit (Kn.R Fm (l0 (m1,n1,i,T) h))
theorem Z7V {F a b r} (h:Q5L F a b=some r) :
  Q7 Tryz.prog 34 [AL a,AL b] [] (AL r) []:=by
 refine FJ Tryz.func34 fun C Fm=>?_
 unfold Q5L at h;refine Q0 Fm 1 [0,1] [] [] [] (y8 Fm [.m] (fun K=>True) [0,1] [(5,ow 5)] [] [(5,AO ([]:List Re_))] True.intro [(5,.arr 1 (0) nn)] ⟨OLe.is ((Is.nil (α:=Re_))),⟨⟩⟩ (Q6 (r:=r) (fun z:(List Re_)=>Z0o F z) [5] nn [] (fun z=>[(5,AO z)]) (fun j h=>?_) (fun E n=>?_)))
 ·refine Q0 Fm 2 [] [(4,ow 5)] [5] [] (AW.ret ?_)
  obtain rfl:=Option.some.inj h;exact Kn.w Fm [(4,ow 5)] [(5,AO j)] (Q1F [(4,AL j)] [] (Kn.D Fm))
 ·refine Q0 Fm 3 [1,5] [(8,AL a),(9,vi (lI a)),(10,vi 0)] [5] [] (AW.block (Kn.w Fm [(1,AL b),(5,ow 5),(8,AL a),(9,vi (lI a)),(10,vi 0)] [(5,AO ([]:List Re_))] ?_))
  refine Z5 (E':=fun z=>[(1,AL b),(5,ow 5),(8,AL a),(9,vi (lI a)),(10,vi z.1)]) (S':=fun z=>[(5,AO z.2)]) (fun G z B l h=>?_) h;obtain ⟨c,i⟩:=z
  refine Q0 Fm 1 [1,5,8,9,10] [(11,vb (decide (c<(lI a))))] [5] [] (AW.seq (Q3 h (fun o h=>?_) (fun o h=>?_)))
  ·refine AW.skip (AW.seq (AW.block ?_))
   obtain ⟨p,h⟩:=gS h;refine Y4 Fm (sA 4 []) [1,5,8,9,10] [(7,pt 7)] [5] [(7,bx [ci ((gn a c).p_),.d (DL (gn a c).g_.t_),ci ((gn a c).c_),ci ((gn a c).s_)])] (cT p) ?_
   obtain ⟨q,h⟩:=gS h;obtain ⟨e,A,h⟩:=bS h
   obtain ⟨t,u,h⟩:=gS2 h;refine Z1C Fm (sA 7 [.k _,.s,.s,.w (AL [(gn b e)]),.s,.s]) (fun K=>(_/\True)/\K 7/\_/\_/\(_/\_/\True)/\True) [1,8,9,10] [(5,ow 25)] [] [(25,AO (i++([(gn b e)]:List Re_)))] ⟨⟨q,⟨⟩⟩,Q2 (Z6z A) Tryz.call50 [],t,Q8h (gn b e),⟨u,lfl ([(gn b e)]:List Re_),⟨⟩⟩,⟨⟩⟩ [(25,rAp i ([(gn b e)]:List Re_))] ⟨oAp,⟨⟩⟩ ?_
   obtain ⟨y,h⟩:=gS h;exact Q1 Fm [.s,.s] [1,5,8,9] [(10,vi (c+1))] [25] [] (cT (cT y)) (Q1e Fm [(5,25)] (l ((c+1),(i++([(gn b e)]:List Re_))) h))
  ·exact AW.exit (Kn.R Fm (n i h))
theorem Z4Y {F:Nat} {rc:Int->Option (ByteArray)} (hrc:∀ {e:Int} {r:ByteArray},rc e=some r->Q7 Tryz.prog 75 [vi e] [] (.v (.c (.d (.str r)))) []) {e:Int} {r:ByteArray} (h:Q4e F rc e=some r) :
  Q7 Tryz.prog 75 [vi e] [] (.v (.c (.d (.str r)))) []:=by
 refine FJ Tryz.func75 fun C Fm=>?_
 unfold Q4e at h;refine Q0 Fm 1 [0] [] [] [] (AW.seq (Q0 Fm 2 [0] [(5,vb (decide (e<0)))] [] [] (Q3 h (fun l h=>?_) (fun l h=>?_))))
 ·obtain ⟨p,t,h⟩:=gS2 h
  refine Y4 Fm (sA 4 []) [0] [(3,vi (0-(e.tmod (10:Int))))] [] [] (cA p (cT (cT t))) (AW.seq (Q0 Fm 2 [0,3] [(10,vb (decide ((-10:Int)<e)))] [] [] (Q3 h (fun n h=>?_) (fun n h=>?_))))
  ·obtain ⟨u,w,h⟩:=gS2 h
   exact Q1K Fm (sA 4 [.k (sE (.v (.c (.d (.str (bOf (IntKind.wrap .u8 ((48:Int)+(0-(e.tmod (10:Int))))))))))),.k (sE (.v (.c (.d (.str ((ByteArray.mk #[45])++(bOf (IntKind.wrap .u8 ((48:Int)+(0-(e.tmod (10:Int)))))))))))),.s]) (fun K=>(_/\True)/\(True)/\K 4/\K 5/\True) [] [(2,.v (.c (.d (.str ((ByteArray.mk #[45])++(bOf (IntKind.wrap .u8 ((48:Int)+(0-(e.tmod (10:Int)))))))))))] [] [] ⟨⟨u,⟨⟩⟩,True.intro,Y0j (src:=158) (dst:=9) (el:=5) (m:=(IntKind.wrap .u8 ((48:Int)+(0-(e.tmod (10:Int)))))) (by kernel_rfl) (by kernel_rfl) (by kernel_rfl) rfl rfl (by kernel_rfl) (by kernel_rfl),Z8n (a:=(ByteArray.mk #[45])) (b:=(bOf (IntKind.wrap .u8 ((48:Int)+(0-(e.tmod (10:Int))))))) rfl rfl (by kernel_rfl) (by kernel_rfl) (by kernel_rfl) w,⟨⟩⟩ (Z2 Fm h)
  ·refine AW.skip (AW.seq ?_)
   obtain ⟨y,h⟩:=gS h;obtain ⟨i,L,h⟩:=bS h
   obtain ⟨A,B,h⟩:=gS2 h;exact Q5 Fm [.s,.s,.k _,.s,.s,.s,.s,.k (sE (.v (.c (.d (.str (bOf (IntKind.wrap .u8 ((48:Int)+(0-(e.tmod (10:Int))))))))))),.k (sE (.v (.c (.d (.str (i++(bOf (IntKind.wrap .u8 ((48:Int)+(0-(e.tmod (10:Int)))))))))))),.s] (fun K=>_/\K 2/\(_/\True)/\(True)/\K 7/\K 8/\True) [] [(2,.v (.c (.d (.str (i++(bOf (IntKind.wrap .u8 ((48:Int)+(0-(e.tmod (10:Int)))))))))))] [] [] ⟨y,Q2 (hrc L) Tryz.call75 [],⟨A,⟨⟩⟩,True.intro,Y0j (src:=158) (dst:=9) (el:=5) (m:=(IntKind.wrap .u8 ((48:Int)+(0-(e.tmod (10:Int)))))) (by kernel_rfl) (by kernel_rfl) (by kernel_rfl) rfl rfl (by kernel_rfl) (by kernel_rfl),Z8n (a:=i) (b:=(bOf (IntKind.wrap .u8 ((48:Int)+(0-(e.tmod (10:Int))))))) rfl rfl (by kernel_rfl) (by kernel_rfl) (by kernel_rfl) B,⟨⟩⟩ (Z2 Fm h)
 ·refine AW.skip (AW.seq (Q0 Fm 2 [0] [(27,vb (decide (e<10)))] [] [] (Q3 h (fun o h=>?_) (fun o h=>?_))))
  ·obtain ⟨D,h⟩:=gS h
   exact Q1K Fm (sA 4 [.k (sE (.v (.c (.d (.str (bOf (IntKind.wrap .u8 ((48:Int)+e)))))))),.s]) (fun K=>(_/\True)/\(True)/\K 4/\True) [] [(2,.v (.c (.d (.str (bOf (IntKind.wrap .u8 ((48:Int)+e)))))))] [] [] ⟨⟨D,⟨⟩⟩,True.intro,Y0j (src:=158) (dst:=9) (el:=5) (m:=(IntKind.wrap .u8 ((48:Int)+e))) (by kernel_rfl) (by kernel_rfl) (by kernel_rfl) rfl rfl (by kernel_rfl) (by kernel_rfl),⟨⟩⟩ (Z2 Fm h)
  ·refine AW.skip (AW.seq ?_)
   obtain ⟨E,h⟩:=gS h;obtain ⟨j,M,h⟩:=bS h
   obtain ⟨G,H,I,h⟩:=gS3 h;exact Q5 Fm [.s,.s,.k _,.s,.s,.s,.s,.s,.k (sE (.v (.c (.d (.str (bOf (IntKind.wrap .u8 ((48:Int)+(e.tmod (10:Int)))))))))),.k (sE (.v (.c (.d (.str (j++(bOf (IntKind.wrap .u8 ((48:Int)+(e.tmod (10:Int))))))))))),.s] (fun K=>_/\K 2/\_/\(_/\True)/\(True)/\K 8/\K 9/\True) [] [(2,.v (.c (.d (.str (j++(bOf (IntKind.wrap .u8 ((48:Int)+(e.tmod (10:Int))))))))))] [] [] ⟨E,Q2 (hrc M) Tryz.call75 [],G,⟨H,⟨⟩⟩,True.intro,Y0j (src:=158) (dst:=9) (el:=5) (m:=(IntKind.wrap .u8 ((48:Int)+(e.tmod (10:Int))))) (by kernel_rfl) (by kernel_rfl) (by kernel_rfl) rfl rfl (by kernel_rfl) (by kernel_rfl),Z8n (a:=j) (b:=(bOf (IntKind.wrap .u8 ((48:Int)+(e.tmod (10:Int)))))) rfl rfl (by kernel_rfl) (by kernel_rfl) (by kernel_rfl) I,⟨⟩⟩ (Z2 Fm h)
theorem Z1n:∀ {F:Nat} {a:Int} {r:ByteArray},Q4s F a=some r ->
  Q7 Tryz.prog 75 [vi a] [] (.v (.c (.d (.str r)))) []
 | 0,_,_,h=>by cases h
 | F+1,_,_,h=>Z4Y Z1n (F:=F) (rc:=Q4s F) h
theorem Q6U {F b a r} (h:Q1O F b a=some r) :
  Q7 Tryz.prog 55 [pt 0,vi a] [(0,bx (gC b))] (vb r.2) [(0,bx (gC r.1))]:=by
 refine FJ Tryz.func55 fun C Fm=>?_
 unfold Q1O at h;refine Q0 Fm 1 [0,1] [] [0] [] (AW.seq ?_)
 obtain ⟨c,e,h⟩:=bS h;obtain ⟨d,h⟩:=gS h
 exact Q5 Fm [.s,.s,.k _,.s,.s,.s,.s] (fun K=>K 2/\(_/\True)/\True) [] [(4,vb (c.2==(a-1)))] [] [(0,bx (gC c.1))] ⟨Q2 (Z4 e) Tryz.call18 [(0,0)],⟨d,⟨⟩⟩,⟨⟩⟩ (Z2 Fm h)
theorem Z4f {F:Nat} {rc:Tape->Int->Option (Tape×Term)} (hrc:∀ {n:Tape} {o:Int} {r:Tape×Term},rc n o=some r->Q7 Tryz.prog 76 [pt 0,vi o] [(0,bx (gC n))] (.v (.g [ci r.2.op_,ci r.2.num_,ci r.2.more_,.d (DL r.2.kids_)])) [(0,bx (gC r.1))]) {n:Tape} {o:Int} {r:Tape×Term} (h:Q3p F rc n o=some r) :
  Q7 Tryz.prog 76 [pt 0,vi o] [(0,bx (gC n))] (.v (.g [ci r.2.op_,ci r.2.num_,ci r.2.more_,.d (DL r.2.kids_)])) [(0,bx (gC r.1))]:=by
 refine FJ Tryz.func76 fun C Fm=>?_
 unfold Q3p at h;refine Q0 Fm 1 [0,1] [(4,pt 4)] [0] [(4,bx [ci 0,ci 0,ci 0,f0])] (AW.seq (Q6 (r:=r) (fun z:Bool×(List Int)×Int=>Q0H F rc o z.1 z.2.1 z.2.2) [0,1,4] (fun z=>[(12,vb z.1)]) [4] (fun z=>[(0,bx [.d (DL z.2.1),ci z.2.2])]) (fun z h=>?_) (fun M0 H=>?_)))
 ·obtain ⟨P0,R0,T0⟩:=z
  refine Q3 h (fun M h=>?_) (fun M h=>?_)
  ·refine AW.seq (AW.seq ?_)
   obtain ⟨E,p0,h⟩:=bS h;refine Q5 Fm [.s,.k _] (k1 1) [0,1,4] [(14,vi E.2)] [4] [(0,bx (gC E.1))] ⟨Q2 (Z4 p0) Tryz.call18 [(0,0)],⟨⟩⟩ (AW.block (Q0 Fm 2 [0,1,4,14] [(15,vb (E.2==(0:Int)))] [0,4] [] (Q3 h (fun N h=>?_) (fun N h=>?_))))
   ·refine AW.seq ?_
    obtain ⟨Z,h⟩:=gS h;obtain ⟨b,q0,h⟩:=bS h
    obtain ⟨a0,h⟩:=gS h;exact Q5 Fm [.s,.s,.s,.k _,.w (AL ([b.2]:List Term)),.s,.s] (fun K=>(_/\True)/\K 3/\(ALe (.v (.c (.d (.lst 1 (Z0n 4 [.int .i64 b.2.op_,.int .i64 b.2.num_,.int .i64 b.2.more_,DL b.2.kids_]))))) (AL ([b.2]:List Term)))/\True) [4] [] [] [(0,bx (gC b.1)),(4,bx [ci (11:Int),ci 0,ci 0,.d (DL ([b.2]:List Term))])] ⟨⟨Z,⟨⟩⟩,Q2 (hrc q0) Tryz.call76 [(0,0)],ALe.lst (.lit ([b.2]:List Term) (by simp only [List.map_cons,List.map_nil,Term.cells_eq (x:=b.2) a0];kernel_rfl)),⟨⟩⟩ (Z2 Fm h)
   ·refine Q0 Fm 2 [0,1,4] [(23,vb (E.2==(1:Int)))] [0,4] [] (Q3 h (fun O h=>?_) (fun O h=>?_))
    ·refine AW.seq ?_
     obtain ⟨b0,h⟩:=gS h;obtain ⟨j,s0,h⟩:=bS h
     obtain ⟨c0,h⟩:=gS h;obtain ⟨e,t0,h⟩:=bS h
     obtain ⟨d0,e0,h⟩:=gS2 h;exact Q5 Fm [.s,.s,.s,.k _,.s,.s,.s,.k _,.w (AL ([j.2,e.2]:List Term)),.s,.s] (fun K=>(_/\True)/\K 3/\(_/\True)/\K 7/\(ALe (.v (.c (.d (.lst 2 (Z0n 4 [.int .i64 j.2.op_,.int .i64 j.2.num_,.int .i64 j.2.more_,DL j.2.kids_,.int .i64 e.2.op_,.int .i64 e.2.num_,.int .i64 e.2.more_,DL e.2.kids_]))))) (AL ([j.2,e.2]:List Term)))/\True) [4] [] [] [(0,bx (gC e.1)),(4,bx [ci (9:Int),ci 0,ci 0,.d (DL ([j.2,e.2]:List Term))])] ⟨⟨b0,⟨⟩⟩,Q2 (hrc s0) Tryz.call76 [(0,0)],⟨c0,⟨⟩⟩,Q2 (hrc t0) Tryz.call76 [(0,0)],ALe.lst (.lit ([j.2,e.2]:List Term) (by simp only [List.map_cons,List.map_nil,Term.cells_eq (x:=j.2) d0,Term.cells_eq (x:=e.2) e0];kernel_rfl)),⟨⟩⟩ (Z2 Fm h)
    ·refine AW.skip (AW.seq ?_)
     obtain ⟨i0,h⟩:=gS h;obtain ⟨l,u0,h⟩:=bS h
     obtain ⟨j0,h⟩:=gS h;obtain ⟨i,w0,h⟩:=bS h
     obtain ⟨k0,l0,h⟩:=gS2 h;exact Q5 Fm [.s,.s,.s,.k _,.s,.s,.s,.k _,.w (AL ([l.2,i.2]:List Term)),.s,.s] (fun K=>(_/\True)/\K 3/\(_/\True)/\K 7/\(ALe (.v (.c (.d (.lst 2 (Z0n 4 [.int .i64 l.2.op_,.int .i64 l.2.num_,.int .i64 l.2.more_,DL l.2.kids_,.int .i64 i.2.op_,.int .i64 i.2.num_,.int .i64 i.2.more_,DL i.2.kids_]))))) (AL ([l.2,i.2]:List Term)))/\True) [4] [] [] [(0,bx (gC i.1)),(4,bx [ci (10:Int),ci 0,ci 0,.d (DL ([l.2,i.2]:List Term))])] ⟨⟨i0,⟨⟩⟩,Q2 (hrc u0) Tryz.call76 [(0,0)],⟨j0,⟨⟩⟩,Q2 (hrc w0) Tryz.call76 [(0,0)],ALe.lst (.lit ([l.2,i.2]:List Term) (by simp only [List.map_cons,List.map_nil,Term.cells_eq (x:=l.2) k0,Term.cells_eq (x:=i.2) l0];kernel_rfl)),⟨⟩⟩ (Z2 Fm h)
  ·refine AW.skip (AW.seq ?_)
   obtain ⟨a,y0,h⟩:=bS h;refine Q5 Fm [.s,.k _,.s] (k1 1) [0,4] [(5,vi a.2)] [4] [(0,bx (gC a.1))] ⟨Q2 (W6 y0) Tryz.call72 [(0,0)],⟨⟩⟩ (Y4 Fm [.s,.w (.v (.g [ci a.2,ci 0,ci 0,.d (DL (α:=Term) [])])),.s,.s] [0,4,5] [(6,pt 6)] [0,4] [(6,bx [ci a.2,ci 0,ci 0,.d (DL (α:=Term) [])])] (cT (ALe.g ⟨CLe.refl _,CLe.refl _,CLe.refl _,CLe.fl .nil,⟨⟩⟩:ALe (.v (.g [ci a.2,ci 0,ci 0,f0])) (.v (.g [ci a.2,ci 0,ci 0,.d (DL (α:=Term) [])])))) (Q6 (r:=r) (fun z:Int×Int×(List Int)×Int=>J3 F rc a z.1 z.2.1 z.2.2.1 z.2.2.2) [4,6] nn [4] (fun z=>[(0,bx [.d (DL z.2.2.1),ci z.2.2.2]),(6,bx [ci a.2,ci z.1,ci z.2.1,.d (DL (α:=Term) [])])]) (fun z h=>?_) (fun O0 m=>?_)))
   ·obtain ⟨K0,L0,V0,W0⟩:=z
    exact Q0 Fm 2 [4] [] [0] [(4,bx [ci a.2,ci K0,ci L0,.d (DL (α:=Term) [])])] (Z2 Fm h)
   ·refine Q0 Fm 1 [0,4,6] [(49,vi a.2)] [0,4,6] [] (AW.block (Q6 (r:=r) (fun z:Bool=>Q0G F rc a z) [0,4,6,49] (fun z=>[(50,vb z)]) [0,4,6] nn (fun U0 h=>?_) (fun N0 I=>?_)))
    ·refine Q3 h (fun T h=>?_) (fun T h=>?_)
     ·obtain ⟨t,A0,h⟩:=bS h
      exact Q5 Fm [.s,.k _,.s,.s] (k1 1) [4,6] [] [4] [(0,bx (gC t.1)),(6,bx [ci a.2,ci t.2,ci 0,.d (DL (α:=Term) [])])] ⟨Q2 (Z4 A0) Tryz.call18 [(0,0)],⟨⟩⟩ (Kn.R Fm (m (t.2,0,t.1.l_,t.1.at_) h))
     ·refine Q0 Fm 2 [0,4,6,49] [(56,vb (a.2==(4:Int)))] [0,4,6] [] (Q3 h (fun U h=>?_) (fun U h=>?_))
      ·obtain ⟨u,B0,h⟩:=bS h
       obtain ⟨m0,h⟩:=gS h;exact Q5 Fm [.s,.k _,.s,.s,.s] (fun K=>K 1/\_/\True) [4,6] [] [4] [(0,bx (gC u.1)),(6,bx [ci a.2,ci ((1:Int)*2 ^ (min (u.2).toNat (IntKind.bits .i64))),ci 0,.d (DL (α:=Term) [])])] ⟨Q2 (Z4 B0) Tryz.call18 [(0,0)],m0,⟨⟩⟩ (Kn.R Fm (m (((1:Int)*2 ^ (min (u.2).toNat (IntKind.bits .i64))),0,u.1.l_,u.1.at_) h))
      ·refine Q0 Fm 2 [0,4,6,49] [(62,vb (a.2==(5:Int)))] [0,4,6] [] (Q3 h (fun V h=>?_) (fun V h=>?_))
       ·obtain ⟨y,D0,h⟩:=bS h
        exact Q5 Fm [.s,.k _,.s,.s] (k1 1) [4,6] [] [4] [(0,bx (gC y.1)),(6,bx [ci a.2,ci y.2,ci 0,.d (DL (α:=Term) [])])] ⟨Q2 (Z4 D0) Tryz.call18 [(0,0)],⟨⟩⟩ (Kn.R Fm (m (y.2,0,y.1.l_,y.1.at_) h))
       ·refine Q0 Fm 2 [0,4,6,49] [(67,vb (a.2==(6:Int)))] [0,4,6] [] (Q3 h (fun W h=>?_) (fun W h=>?_))
        ·obtain ⟨A,E0,h⟩:=bS h
         exact Q5 Fm [.s,.k _,.s,.s] (k1 1) [4,6] [] [4] [(0,bx (gC A.1)),(6,bx [ci a.2,ci A.2,ci 0,.d (DL (α:=Term) [])])] ⟨Q2 (W6 E0) Tryz.call72 [(0,0)],⟨⟩⟩ (Kn.R Fm (m (A.2,0,A.1.l_,A.1.at_) h))
        ·refine Q0 Fm 2 [0,4,6,49] [(72,vb (a.2==(7:Int)))] [0,4,6] [] (Q3 h (fun X h=>?_) (fun X h=>?_))
         ·obtain ⟨L,G0,h⟩:=bS h
          obtain ⟨B,H0,h⟩:=bS h;obtain ⟨n0,h⟩:=gS h
          exact Q5 Fm (sZ 5 [.s,.k _,.s,.k _]) (fun K=>K 1/\K 3/\_/\True) [4,6] [] [4] [(0,bx (gC B.1)),(6,bx [ci a.2,ci L.2,ci ((1:Int)*2 ^ (min (B.2).toNat (IntKind.bits .i64))),.d (DL (α:=Term) [])])] ⟨Q2 (W6 G0) Tryz.call72 [(0,0)],Q2 (Z4 H0) Tryz.call18 [(0,0)],n0,⟨⟩⟩ (Kn.R Fm (m (L.2,((1:Int)*2 ^ (min (B.2).toNat (IntKind.bits .i64))),B.1.l_,B.1.at_) h))
         ·refine Q0 Fm 2 [0,4,6] [(81,vb (a.2==(8:Int)))] [0,4,6] [] (Q3 h (fun Y h=>?_) (fun Y h=>?_))
          ·obtain ⟨D,I0,h⟩:=bS h
           exact Q5 Fm [.s,.k _,.s,.s] (k1 1) [4,6] [] [4] [(0,bx (gC D.1)),(6,bx [ci a.2,ci D.2,ci 0,.d (DL (α:=Term) [])])] ⟨Q2 (W6 I0) Tryz.call72 [(0,0)],⟨⟩⟩ (Kn.R Fm (m (D.2,0,D.1.l_,D.1.at_) h))
          ·exact AW.skip (Kn.R Fm (m (0,0,a.1.l_,a.1.at_) h))
    ·refine Q0 Fm 2 [0,4,6,49] [(50,vb (a.2==(2:Int)))] [0,4,6] [] (Q3 h (fun P h=>?_) (fun P h=>?_))
     ·exact AW.skip (Kn.R Fm (I (a.2==(2:Int)) h))
     ·exact Q8u Fm 2 [0,4,6,49] [(50,vb (a.2==(3:Int)))] [0,4,6] [] (Kn.R Fm (I (a.2==(3:Int)) h))
 ·rcases Z6 h with ⟨G,h⟩|⟨G,h⟩
  ·obtain ⟨p,o0,h⟩:=bS h
   exact Q5 Fm [.s,.s,.w (vb true),.s,.k _,.s] (fun K=>_/\K 4/\True) [0,1,4] [(12,vb p.2)] [4] [(0,bx (gC p.1))] ⟨ALe.bool G,Q2 (Q6U o0) Tryz.call55 [(0,0)],⟨⟩⟩ (Kn.R Fm (H (p.2,p.1.l_,p.1.at_) h))
  ·exact Q1 Fm [.s,.s,.w (vb false),.s,.s,.s] [0,1,4] [(12,vb false)] [0,4] [] (cT (ALe.bool G)) (Kn.R Fm (H (false,n.l_,n.at_) h))
theorem Z0w:∀ {F:Nat} {a:Tape} {b:Int} {r:Tape×Term},K2 F a b=some r ->
  Q7 Tryz.prog 76 [pt 0,vi b] [(0,bx (gC a))] (.v (.g [ci r.2.op_,ci r.2.num_,ci r.2.more_,.d (DL r.2.kids_)])) [(0,bx (gC r.1))]
 | 0,_,_,_,h=>by cases h
 | F+1,_,_,_,h=>Z4f Z0w (F:=F) (rc:=K2 F) h
theorem Z9S {F b r} (h:Z1m F b=some r) :
  Q7 Tryz.prog 118 [.v (.c (.d (.str b)))] [] (vb r) []:=by
 refine FJ Tryz.func118 fun C Fm=>?_
 unfold Z1m at h;refine Q0 Fm 1 [0] [] [] [] (AW.seq (Q6 (r:=r) (fun z:Bool=>Q1M F b z) [0] (fun z=>[(21,vb z)]) [] nn (fun b0 h=>?_) (fun X o=>?_)))
 ·refine Q3 h (fun N h=>?_) (fun N h=>?_)
  ·exact Q0 Fm 1 [] [(2,vb false)] [] [] (Z2 Fm h)
  ·refine AW.skip (Q6 (r:=r) (fun z:Unit=>Z6x F) [] nn [] nn (fun z h=>?_) (fun a0 M=>?_))
   ·exact Q0 Fm 1 [] [(2,vb true)] [] [] (Z2 Fm h)
   ·refine Q0 Fm 1 [0] [(3,vi 0)] [] [] (AW.block (Kn.w Fm [(0,.v (.c (.d (.str b)))),(3,vi 0)] [] ?_))
    refine Z5 (E':=fun z=>[(0,.v (.c (.d (.str b)))),(3,vi z)]) (S':=fun z=>[]) (fun I e Y L h=>?_) h;refine AW.seq (Q0 Fm 4 [0,3] [(25,vb (decide (e<((b.size:Nat):Int))))] [] [] (Q3 h (fun O h=>?_) (fun O h=>?_)))
    ·refine AW.skip (AW.seq (AW.block (Q6 (r:=r) (fun z:Bool=>z7 F e I z) [0,3] (fun z=>[(49,vb z)]) [] nn (fun c0 h=>?_) (fun Z j=>?_))))
     ·refine Q3 h (fun P h=>?_) (fun P h=>?_)
      ·exact Q0 Fm 1 [] [(2,vb false)] [] [] (Z2 Fm h)
      ·refine AW.skip ?_
       obtain ⟨W,h⟩:=gS h;exact Q1 Fm [.s,.s,.s] [0] [(3,vi (e+1))] [] [] (cT (cT W)) (Kn.R Fm (L (e+1) h))
     ·obtain ⟨n,h⟩:=gS h
      rcases Z6 h with ⟨i,h⟩|⟨i,h⟩
      ·obtain ⟨G,h⟩:=gS h
       rcases Z6 h with ⟨A,h⟩|⟨A,h⟩
       ·exact Q5 Fm (sZ 6 [.s,.s,.k (sE (.v (.c (.d (.int .u8 (sAt b e)))))),.s,.w (vb true),.s,.s,.s,.s,.s,.s,.s,.s,.k (sE (.v (.c (.d (.int .u8 (sAt b e)))))),.s,.w (vb true)]) (fun K=>K 2/\_/\K 13/\_/\True) [0,3] [(49,vb true)] [] [] ⟨G9 (t:=9) (a:=b) (m:=e) (by kernel_rfl) rfl rfl (by kernel_rfl) (by kernel_rfl) (by kernel_rfl) n,ALe.bool i,G9 (t:=9) (a:=b) (m:=e) (by kernel_rfl) rfl rfl (by kernel_rfl) (by kernel_rfl) (by kernel_rfl) G,ALe.bool A,⟨⟩⟩ (Kn.R Fm (j true h))
       ·obtain ⟨U,h⟩:=gS h
        exact Q5 Fm [.s,.s,.k (sE (.v (.c (.d (.int .u8 (sAt b e)))))),.s,.w (vb true),.s,.s,.s,.s,.s,.s,.s,.s,.k (sE (.v (.c (.d (.int .u8 (sAt b e)))))),.s,.w (vb false),.s,.s,.k (sE (.v (.c (.d (.int .u8 (sAt b e)))))),.s,.s,.s] (fun K=>K 2/\_/\K 13/\_/\K 18/\True) [0,3] [(49,vb (decide ((57:Int)<(sAt b e))))] [] [] ⟨G9 (t:=9) (a:=b) (m:=e) (by kernel_rfl) rfl rfl (by kernel_rfl) (by kernel_rfl) (by kernel_rfl) n,ALe.bool i,G9 (t:=9) (a:=b) (m:=e) (by kernel_rfl) rfl rfl (by kernel_rfl) (by kernel_rfl) (by kernel_rfl) G,ALe.bool A,G9 (t:=9) (a:=b) (m:=e) (by kernel_rfl) rfl rfl (by kernel_rfl) (by kernel_rfl) (by kernel_rfl) U,⟨⟩⟩ (Kn.R Fm (j (decide ((57:Int)<(sAt b e))) h))
      ·obtain ⟨D,h⟩:=gS h
       rcases Z6 h with ⟨u,h⟩|⟨u,h⟩
       ·obtain ⟨H,h⟩:=gS h
        rcases Z6 h with ⟨B,h⟩|⟨B,h⟩
        ·exact Q5 Fm (sZ 6 [.s,.s,.k (sE (.v (.c (.d (.int .u8 (sAt b e)))))),.s,.w (vb false),.s,.s,.k (sE (.v (.c (.d (.int .u8 (sAt b e)))))),.s,.s,.w (vb true),.s,.s,.k (sE (.v (.c (.d (.int .u8 (sAt b e)))))),.s,.w (vb true)]) (fun K=>K 2/\_/\K 7/\_/\K 13/\_/\True) [0,3] [(49,vb true)] [] [] ⟨G9 (t:=9) (a:=b) (m:=e) (by kernel_rfl) rfl rfl (by kernel_rfl) (by kernel_rfl) (by kernel_rfl) n,ALe.bool i,G9 (t:=9) (a:=b) (m:=e) (by kernel_rfl) rfl rfl (by kernel_rfl) (by kernel_rfl) (by kernel_rfl) D,ALe.bool u,G9 (t:=9) (a:=b) (m:=e) (by kernel_rfl) rfl rfl (by kernel_rfl) (by kernel_rfl) (by kernel_rfl) H,ALe.bool B,⟨⟩⟩ (Kn.R Fm (j true h))
        ·obtain ⟨V,h⟩:=gS h
         exact Q5 Fm [.s,.s,.k (sE (.v (.c (.d (.int .u8 (sAt b e)))))),.s,.w (vb false),.s,.s,.k (sE (.v (.c (.d (.int .u8 (sAt b e)))))),.s,.s,.w (vb true),.s,.s,.k (sE (.v (.c (.d (.int .u8 (sAt b e)))))),.s,.w (vb false),.s,.s,.k (sE (.v (.c (.d (.int .u8 (sAt b e)))))),.s,.s,.s] (fun K=>K 2/\_/\K 7/\_/\K 13/\_/\K 18/\True) [0,3] [(49,vb (decide ((57:Int)<(sAt b e))))] [] [] ⟨G9 (t:=9) (a:=b) (m:=e) (by kernel_rfl) rfl rfl (by kernel_rfl) (by kernel_rfl) (by kernel_rfl) n,ALe.bool i,G9 (t:=9) (a:=b) (m:=e) (by kernel_rfl) rfl rfl (by kernel_rfl) (by kernel_rfl) (by kernel_rfl) D,ALe.bool u,G9 (t:=9) (a:=b) (m:=e) (by kernel_rfl) rfl rfl (by kernel_rfl) (by kernel_rfl) (by kernel_rfl) H,ALe.bool B,G9 (t:=9) (a:=b) (m:=e) (by kernel_rfl) rfl rfl (by kernel_rfl) (by kernel_rfl) (by kernel_rfl) V,⟨⟩⟩ (Kn.R Fm (j (decide ((57:Int)<(sAt b e))) h))
       ·exact Q5 Fm (sZ 11 [.s,.s,.k (sE (.v (.c (.d (.int .u8 (sAt b e)))))),.s,.w (vb false),.s,.s,.k (sE (.v (.c (.d (.int .u8 (sAt b e)))))),.s,.s,.w (vb false)]) (fun K=>K 2/\_/\K 7/\_/\True) [0,3] [(49,vb false)] [] [] ⟨G9 (t:=9) (a:=b) (m:=e) (by kernel_rfl) rfl rfl (by kernel_rfl) (by kernel_rfl) (by kernel_rfl) n,ALe.bool i,G9 (t:=9) (a:=b) (m:=e) (by kernel_rfl) rfl rfl (by kernel_rfl) (by kernel_rfl) (by kernel_rfl) D,ALe.bool u,⟨⟩⟩ (Kn.R Fm (j false h))
    ·exact AW.exit (Kn.R Fm (M () h))
 ·rcases Z6 h with ⟨l,h⟩|⟨l,h⟩
  ·exact Q1 Fm (sZ 14 [.s,.s,.s,.w (vb true)]) [0] [(21,vb true)] [] [] (cT (ALe.bool l)) (Kn.R Fm (o true h))
  ·rcases Z6 h with ⟨p,h⟩|⟨p,h⟩
   ·exact Q1 Fm (sZ 9 [.s,.s,.s,.w (vb false),.s,.s,.s,.s,.w (vb true)]) [0] [(21,vb true)] [] [] (cA (ALe.bool l) (cT (ALe.bool p))) (Kn.R Fm (o true h))
   ·obtain ⟨E,h⟩:=gS h
    rcases Z6 h with ⟨y,h⟩|⟨y,h⟩
    ·exact Q5 Fm [.s,.s,.s,.w (vb false),.s,.s,.s,.s,.w (vb false),.s,.k (sE (.v (.c (.d (.int .u8 (sAt b (0:Int))))))),.s,.s,.w (vb true),.s,.s,.s,.s] (fun K=>_/\_/\K 10/\_/\True) [0] [(21,vb true)] [] [] ⟨ALe.bool l,ALe.bool p,G9 (t:=9) (a:=b) (m:=(0:Int)) (by kernel_rfl) rfl rfl (by kernel_rfl) (by kernel_rfl) (by kernel_rfl) E,ALe.bool y,⟨⟩⟩ (Kn.R Fm (o true h))
    ·obtain ⟨T,h⟩:=gS h
     exact Q5 Fm [.s,.s,.s,.w (vb false),.s,.s,.s,.s,.w (vb false),.s,.k (sE (.v (.c (.d (.int .u8 (sAt b (0:Int))))))),.s,.s,.w (vb false),.s,.k (sE (.v (.c (.d (.int .u8 (sAt b (0:Int))))))),.s,.s] (fun K=>_/\_/\K 10/\_/\K 15/\True) [0] [(21,vb (decide ((122:Int)<(sAt b (0:Int)))))] [] [] ⟨ALe.bool l,ALe.bool p,G9 (t:=9) (a:=b) (m:=(0:Int)) (by kernel_rfl) rfl rfl (by kernel_rfl) (by kernel_rfl) (by kernel_rfl) E,ALe.bool y,G9 (t:=9) (a:=b) (m:=(0:Int)) (by kernel_rfl) rfl rfl (by kernel_rfl) (by kernel_rfl) (by kernel_rfl) T,⟨⟩⟩ (Kn.R Fm (o (decide ((122:Int)<(sAt b (0:Int)))) h))
theorem Z6P {F:Nat} {rc:Term->Option (Int)} (hrc:∀ {a:Term} {r:Int},rc a=some r->Q7 Tryz.prog 153 [.v (.g [ci a.op_,ci a.num_,ci a.more_,.d (DL a.kids_)])] [] (vi r) []) {a:Term} {r:Int} (h:Q6n F rc a=some r) :
  Q7 Tryz.prog 153 [.v (.g [ci a.op_,ci a.num_,ci a.more_,.d (DL a.kids_)])] [] (vi r) []:=by
 refine FJ Tryz.func153 fun C Fm=>?_
 unfold Q6n at h;refine Q0 Fm 2 [] [(1,pt 1)] [] [(1,bx [ci a.op_,ci a.num_,ci a.more_,.d (DL a.kids_)])] (Q0 Fm 1 [1] [(3,vi 1)] [1] [] (Q6 (r:=r) (fun z:Int=>Z4M F rc z) [] (fun z=>[(3,vi z)]) [] nn (fun E h=>?_) (fun I n=>?_)))
 ·exact Q0 Fm 2 [] [(2,vi E)] [] [] (Z2 Fm h)
 ·refine Q0 Fm 4 [3] [(7,AL a.kids_),(8,vi (lI a.kids_)),(9,vi 0)] [] [] (AW.block (Kn.w Fm [(3,vi 1),(7,AL a.kids_),(8,vi (lI a.kids_)),(9,vi 0)] [] ?_))
  refine Z5 (E':=fun z=>[(3,vi z.1),(7,AL a.kids_),(8,vi (lI a.kids_)),(9,vi z.2)]) (S':=fun z=>[]) (fun l z G m h=>?_) h;obtain ⟨e,b⟩:=z
  refine Q0 Fm 1 [3,7,8,9] [(10,vb (decide (b<(lI a.kids_))))] [] [] (AW.seq (Q3 h (fun o h=>?_) (fun o h=>?_)))
  ·refine AW.skip (Q6 (r:=r) (fun z:Int=>Q5g F rc b l z) [7,8,9] (fun z=>[(3,vi z)]) [] nn (fun D h=>?_) (fun H i=>?_))
   ·obtain ⟨A,h⟩:=gS h
    exact Q1 Fm [.s,.s] [3,7,8] [(9,vi (b+1))] [] [] (cT (cT A)) (Kn.R Fm (m (D,(b+1)) h))
   ·refine AW.block ?_
    obtain ⟨t,u,h⟩:=gS2 h;refine Y4 Fm [.w (.v (.c (.elm [.int .i64 (gn a.kids_ b).op_,.int .i64 (gn a.kids_ b).num_,.int .i64 (gn a.kids_ b).more_,DL (gn a.kids_ b).kids_]))),.s,.s,.s] [3,7,8,9] [(5,pt 5)] [] [(5,bx [ci ((gn a.kids_ b).op_),ci ((gn a.kids_ b).num_),ci ((gn a.kids_ b).more_),.d (DL (gn a.kids_ b).kids_)])] (cA t (cT (ALe.of_eq (Term.elm u):ALe (.v (.c (.elm (LF a.kids_ b.toNat)))) (.v (.c (.elm [.int .i64 (gn a.kids_ b).op_,.int .i64 (gn a.kids_ b).num_,.int .i64 (gn a.kids_ b).more_,DL (gn a.kids_ b).kids_])))))) (Q0 Fm 2 [3,5,7,8,9] [(14,vb (decide (e<=40)))] [5] [] (Q3 h (fun p h=>?_) (fun p h=>?_)))
    ·obtain ⟨j,B,h⟩:=bS h
     obtain ⟨y,h⟩:=gS h;exact Q5 Fm [.s,.s,.k _,.s,.s] (fun K=>K 2/\(_/\True)/\True) [7,8,9] [(3,vi (e+j))] [] [] ⟨Q2 (hrc B) Tryz.call153 [],⟨y,⟨⟩⟩,⟨⟩⟩ (Kn.R Fm (i (e+j) h))
    ·exact AW.skip (Kn.R Fm (i e h))
  ·exact AW.exit (Kn.R Fm (n e h))
theorem Z2z:∀ {F:Nat} {a:Term} {r:Int},Q3C F a=some r ->
  Q7 Tryz.prog 153 [.v (.g [ci a.op_,ci a.num_,ci a.more_,.d (DL a.kids_)])] [] (vi r) []
 | 0,_,_,h=>by cases h
 | F+1,_,_,h=>Z6P Z2z (F:=F) (rc:=Q3C F) h
theorem Z6O {F:Nat} {rc:Term->Option (Int)} (hrc:∀ {a:Term} {r:Int},rc a=some r->Q7 Tryz.prog 154 [.v (.g [ci a.op_,ci a.num_,ci a.more_,.d (DL a.kids_)])] [] (vi r) []) {a:Term} {r:Int} (h:Q6m F rc a=some r) :
  Q7 Tryz.prog 154 [.v (.g [ci a.op_,ci a.num_,ci a.more_,.d (DL a.kids_)])] [] (vi r) []:=by
 refine FJ Tryz.func154 fun C Fm=>?_
 unfold Q6m at h;refine Q0 Fm 2 [] [(1,pt 1)] [] [(1,bx [ci a.op_,ci a.num_,ci a.more_,.d (DL a.kids_)])] (Q0 Fm 1 [1] [(3,vi 0)] [1] [] (Q6 (r:=r) (fun z:Int=>Z1g F rc z) [] (fun z=>[(3,vi z)]) [] nn (fun y h=>?_) (fun B l=>?_)))
 ·obtain ⟨t,h⟩:=gS h
  exact Y4 Fm [.s,.s,.s] [] [(2,vi (y+1))] [] [] (cT (cT t)) (Z2 Fm h)
 ·refine Q0 Fm 4 [3] [(7,AL a.kids_),(8,vi (lI a.kids_)),(9,vi 0)] [] [] (AW.block (Kn.w Fm [(3,vi 0),(7,AL a.kids_),(8,vi (lI a.kids_)),(9,vi 0)] [] ?_))
  refine Z5 (E':=fun z=>[(3,vi z.1),(7,AL a.kids_),(8,vi (lI a.kids_)),(9,vi z.2)]) (S':=fun z=>[]) (fun D z A j h=>?_) h;obtain ⟨e,b⟩:=z
  refine Q0 Fm 1 [3,7,8,9] [(10,vb (decide (b<(lI a.kids_))))] [] [] (AW.seq (Q3 h (fun m h=>?_) (fun m h=>?_)))
  ·refine AW.skip (AW.seq (AW.block ?_))
   obtain ⟨n,o,h⟩:=gS2 h;refine Y4 Fm [.w (.v (.c (.elm [.int .i64 (gn a.kids_ b).op_,.int .i64 (gn a.kids_ b).num_,.int .i64 (gn a.kids_ b).more_,DL (gn a.kids_ b).kids_]))),.s,.s,.s] [3,7,8,9] [(5,pt 5)] [] [(5,bx [ci ((gn a.kids_ b).op_),ci ((gn a.kids_ b).num_),ci ((gn a.kids_ b).more_),.d (DL (gn a.kids_ b).kids_)])] (cA n (cT (ALe.of_eq (Term.elm o):ALe (.v (.c (.elm (LF a.kids_ b.toNat)))) (.v (.c (.elm [.int .i64 (gn a.kids_ b).op_,.int .i64 (gn a.kids_ b).num_,.int .i64 (gn a.kids_ b).more_,DL (gn a.kids_ b).kids_])))))) ?_
   obtain ⟨i,u,h⟩:=bS h;refine Q5 Fm [.s,.s,.k _,.s,.s] (k1 2) [7,8,9] [(3,vi (Q0B e i))] [] [] ⟨Q2 (hrc u) Tryz.call154 [],⟨⟩⟩ ?_
   obtain ⟨p,h⟩:=gS h;exact Q1 Fm [.s,.s] [3,7,8] [(9,vi (b+1))] [] [] (cT (cT p)) (Kn.R Fm (j ((Q0B e i),(b+1)) h))
  ·exact AW.exit (Kn.R Fm (l e h))
theorem Q8M:∀ {F:Nat} {a:Term} {r:Int},Q3B F a=some r ->
  Q7 Tryz.prog 154 [.v (.g [ci a.op_,ci a.num_,ci a.more_,.d (DL a.kids_)])] [] (vi r) []
 | 0,_,_,h=>by cases h
 | F+1,_,_,h=>Z6O Q8M (F:=F) (rc:=Q3B F) h
theorem Q7N {F e r} (h:Q3M F e=some r) :
  Q7 Tryz.prog 196 [vi e] [] (vb r) []:=by
 refine FJ Tryz.func196 fun C Fm=>?_
 unfold Q3M at h;refine Q0 Fm 1 [0] [] [] [] (Q6 (r:=r) (fun z:Bool=>Q1z F z) [] (fun z=>[(2,vb z)]) [] nn (fun k h=>?_) (fun j b=>?_))
 ·exact Z2 Fm h
 ·rcases Z6 h with ⟨a,h⟩|⟨a,h⟩
  ·exact Q1 Fm (sZ 16 [.s,.s,.w (vb true)]) [] [(2,vb true)] [] [] (cT (ALe.bool a)) (Kn.R Fm (b true h))
  ·rcases Z6 h with ⟨c,h⟩|⟨c,h⟩
   ·exact Q1 Fm (sZ 12 [.s,.s,.w (vb false),.s,.s,.s,.w (vb true)]) [] [(2,vb true)] [] [] (cA (ALe.bool a) (cT (ALe.bool c))) (Kn.R Fm (b true h))
   ·rcases Z6 h with ⟨d,h⟩|⟨d,h⟩
    ·exact Q1 Fm (sZ 8 [.s,.s,.w (vb false),.s,.s,.s,.w (vb false),.s,.s,.s,.w (vb true)]) [] [(2,vb true)] [] [] (cA (ALe.bool a) (cA (ALe.bool c) (cT (ALe.bool d)))) (Kn.R Fm (b true h))
    ·rcases Z6 h with ⟨i,h⟩|⟨i,h⟩
     ·exact Q1 Fm [.s,.s,.w (vb false),.s,.s,.s,.w (vb false),.s,.s,.s,.w (vb false),.s,.s,.s,.w (vb true),.s,.s,.s,.s] [] [(2,vb true)] [] [] (cA (ALe.bool a) (cA (ALe.bool c) (cA (ALe.bool d) (cT (ALe.bool i))))) (Kn.R Fm (b true h))
     ·exact Q1 Fm [.s,.s,.w (vb false),.s,.s,.s,.w (vb false),.s,.s,.s,.w (vb false),.s,.s,.s,.w (vb false),.s,.s,.s,.s] [] [(2,vb (e==16))] [] [] (cA (ALe.bool a) (cA (ALe.bool c) (cA (ALe.bool d) (cT (ALe.bool i))))) (Kn.R Fm (b (e==16) h))
theorem Z7H {F:Nat} {rc:Term->Option (Bool)} (hrc:∀ {a:Term} {r:Bool},rc a=some r->Q7 Tryz.prog 155 [.v (.g [ci a.op_,ci a.num_,ci a.more_,.d (DL a.kids_)])] [] (vb r) []) {a:Term} {r:Bool} (h:Q7O F rc a=some r) :
  Q7 Tryz.prog 155 [.v (.g [ci a.op_,ci a.num_,ci a.more_,.d (DL a.kids_)])] [] (vb r) []:=by
 refine FJ Tryz.func155 fun C Fm=>?_
 unfold Q7O at h;refine Q0 Fm 2 [] [(1,pt 1)] [] [(1,bx [ci a.op_,ci a.num_,ci a.more_,.d (DL a.kids_)])] (Q0 Fm 5 [1] [(3,vi 0),(4,vb (a.more_==0))] [1] [] (Q0 Fm 1 [1,3,4] [(5,vb false)] [1] [] (Q6 (r:=r) (fun z:Int×Bool×Bool=>W2 F rc a z.1 z.2.1 z.2.2) [1] (fun z=>[(3,vi z.1),(4,vb z.2.1),(5,vb z.2.2)]) [1] nn (fun z h=>?_) (fun o0 b=>?_))))
 ·obtain ⟨B,w0,y0⟩:=z
  refine AW.seq (Q6 (r:=r) (fun z:Bool=>Q4p F rc a z) [1] (fun z=>[(118,vb z)]) [1] nn (fun A0 h=>?_) (fun p0 j=>?_))
  ·refine Q3 h (fun Z h=>?_) (fun Z h=>?_)
   ·exact Q0 Fm 1 [] [(2,vb false)] [] [] (Z2 Fm h)
   ·refine AW.skip (Q6 (r:=r) (fun z:Unit=>Z6o F rc) [] nn [] nn (fun z h=>?_) (fun s0 I=>?_))
    ·exact Q0 Fm 1 [] [(2,vb true)] [] [] (Z2 Fm h)
    ·refine Q0 Fm 4 [] [(120,AL a.kids_),(121,vi (lI a.kids_)),(122,vi 0)] [] [] (AW.block (Kn.w Fm [(120,AL a.kids_),(121,vi (lI a.kids_)),(122,vi 0)] [] ?_))
     refine Z5 (E':=fun z=>[(120,AL a.kids_),(121,vi (lI a.kids_)),(122,vi z)]) (S':=fun z=>[]) (fun t0 e q0 H h=>?_) h;refine Q0 Fm 1 [120,121,122] [(123,vb (decide (e<(lI a.kids_))))] [] [] (AW.seq (Q3 h (fun a0 h=>?_) (fun a0 h=>?_)))
     ·refine AW.skip (AW.seq (AW.block ?_))
      obtain ⟨c0,d0,h⟩:=gS2 h;refine Y4 Fm [.w (.v (.c (.elm [.int .i64 (gn a.kids_ e).op_,.int .i64 (gn a.kids_ e).num_,.int .i64 (gn a.kids_ e).more_,DL (gn a.kids_ e).kids_]))),.s,.s,.s] [120,121,122] [(7,pt 7)] [] [(7,bx [ci ((gn a.kids_ e).op_),ci ((gn a.kids_ e).num_),ci ((gn a.kids_ e).more_),.d (DL (gn a.kids_ e).kids_)])] (cA c0 (cT (ALe.of_eq (Term.elm d0):ALe (.v (.c (.elm (LF a.kids_ e.toNat)))) (.v (.c (.elm [.int .i64 (gn a.kids_ e).op_,.int .i64 (gn a.kids_ e).num_,.int .i64 (gn a.kids_ e).more_,DL (gn a.kids_ e).kids_])))))) (AW.seq ?_)
      obtain ⟨m0,l0,h⟩:=bS h;refine Q5 Fm [.s,.k _,.s] (k1 1) [120,121,122] [(128,vb (!m0))] [] [] ⟨Q2 (hrc l0) Tryz.call155 [],⟨⟩⟩ (Q3 h (fun b0 h=>?_) (fun b0 h=>?_))
      ·exact Q0 Fm 1 [] [(2,vb false)] [] [] (Z2 Fm h)
      ·refine AW.skip ?_
       obtain ⟨e0,h⟩:=gS h;exact Q1 Fm [.s,.s] [120,121] [(122,vi (e+1))] [] [] (cT (cT e0)) (Kn.R Fm (H (e+1) h))
     ·exact AW.exit (Kn.R Fm (I () h))
  ·rcases Z6 h with ⟨i,h⟩|⟨i,h⟩
   ·exact Q1 Fm (sZ 10 [.s,.s,.w (vb true)]) [1] [(118,vb true)] [1] [] (cT (ALe.bool i)) (Kn.R Fm (j true h))
   ·rcases Z6 h with ⟨y,h⟩|⟨y,h⟩
    ·exact Q1 Fm (sZ 6 [.s,.s,.w (vb false),.s,.s,.s,.w (vb true)]) [1] [(118,vb true)] [1] [] (cA (ALe.bool i) (cT (ALe.bool y))) (Kn.R Fm (j true h))
    ·exact Q1 Fm (sZ 6 [.s,.s,.w (vb false),.s,.s,.s,.w (vb false)]) [1] [(118,vb ((lI a.kids_) != B))] [1] [] (cA (ALe.bool i) (cT (ALe.bool y))) (Kn.R Fm (j ((lI a.kids_) != B) h))
 ·refine Q0 Fm 2 [1,3,4,5] [(12,vi a.op_)] [1] [] (AW.block (Q0 Fm 2 [1,3,4,5,12] [(13,vb (a.op_==1))] [1] [] (Q3 h (fun L h=>?_) (fun L h=>?_))))
  ·exact Q8u Fm 4 [1,3,4] [(5,vb (a.num_==0))] [1] [] (Kn.R Fm (b ((0:Int),(a.more_==0),(a.num_==0)) h))
  ·refine Q0 Fm 2 [1,3,4,5,12] [(18,vb (a.op_==2))] [1] [] (Q3 h (fun M h=>?_) (fun M h=>?_))
   ·rcases Z6 h with ⟨l,h⟩|⟨l,h⟩
    ·exact Q1 Fm (sZ 5 [.s,.s,.s,.w (vb true)]) [1,3,4] [(5,vb (decide (a.num_<40)))] [1] [] (cT (ALe.bool l)) (Kn.R Fm (b ((0:Int),(a.more_==0),(decide (a.num_<40))) h))
    ·exact Q1 Fm (sZ 5 [.s,.s,.s,.w (vb false)]) [1,3,4,5] [] [1] [] (cT (ALe.bool l)) (Kn.R Fm (b ((0:Int),(a.more_==0),false) h))
   ·refine Q0 Fm 2 [1,3,4,5,12] [(28,vb (a.op_==3))] [1] [] (Q3 h (fun N h=>?_) (fun N h=>?_))
    ·rcases Z6 h with ⟨m,h⟩|⟨m,h⟩
     ·exact Q1 Fm (sZ 5 [.s,.s,.s,.w (vb true)]) [1,3,4] [(5,vb (decide (a.num_<=40)))] [1] [] (cT (ALe.bool m)) (Kn.R Fm (b ((0:Int),(a.more_==0),(decide (a.num_<=40))) h))
     ·exact Q1 Fm (sZ 5 [.s,.s,.s,.w (vb false)]) [1,3,4,5] [] [1] [] (cT (ALe.bool m)) (Kn.R Fm (b ((0:Int),(a.more_==0),false) h))
    ·refine Q0 Fm 2 [1,3,4,5,12] [(38,vb (a.op_==4))] [1] [] (Q3 h (fun O h=>?_) (fun O h=>?_))
     ·obtain ⟨D,i0,h⟩:=bS h
      exact Q5 Fm [.s,.s,.k _,.s] (k1 2) [1,3,4] [(5,vb D)] [1] [] ⟨Q2 (Q7N i0) Tryz.call196 [],⟨⟩⟩ (Kn.R Fm (b ((0:Int),(a.more_==0),D) h))
     ·refine Q0 Fm 2 [1,3,4,5,12] [(43,vb (a.op_==5))] [1] [] (Q3 h (fun P h=>?_) (fun P h=>?_))
      ·rcases Z6 h with ⟨n,h⟩|⟨n,h⟩
       ·exact Q1 Fm (sZ 5 [.s,.s,.s,.w (vb true)]) [1,3,4] [(5,vb (decide (a.num_<=15)))] [1] [] (cT (ALe.bool n)) (Kn.R Fm (b ((0:Int),(a.more_==0),(decide (a.num_<=15))) h))
       ·exact Q1 Fm (sZ 5 [.s,.s,.s,.w (vb false)]) [1,3,4,5] [] [1] [] (cT (ALe.bool n)) (Kn.R Fm (b ((0:Int),(a.more_==0),false) h))
      ·refine Q0 Fm 2 [1,3,4,5,12] [(53,vb (a.op_==6))] [1] [] (Q3 h (fun T h=>?_) (fun T h=>?_))
       ·rcases Z6 h with ⟨o,h⟩|⟨o,h⟩
        ·exact Q1 Fm (sZ 5 [.s,.s,.s,.w (vb true)]) [1,3,4] [(5,vb (decide (a.num_<=10)))] [1] [] (cT (ALe.bool o)) (Kn.R Fm (b ((0:Int),(a.more_==0),(decide (a.num_<=10))) h))
        ·exact Q1 Fm (sZ 5 [.s,.s,.s,.w (vb false)]) [1,3,4,5] [] [1] [] (cT (ALe.bool o)) (Kn.R Fm (b ((0:Int),(a.more_==0),false) h))
       ·refine Q0 Fm 2 [1,3,4,5,12] [(63,vb (a.op_==7))] [1] [] (Q3 h (fun U h=>?_) (fun U h=>?_))
        ·rcases Z6 h with ⟨p,h⟩|⟨p,h⟩
         ·obtain ⟨E,j0,h⟩:=bS h
          exact Q5 Fm [.s,.s,.s,.w (vb true),.s,.s,.s,.s,.s,.s,.k _,.s,.s] (fun K=>_/\K 10/\True) [1,3] [(4,vb E),(5,vb (decide (a.num_<=10)))] [1] [] ⟨ALe.bool p,Q2 (Q7N j0) Tryz.call196 [],⟨⟩⟩ (Kn.R Fm (b ((0:Int),E,(decide (a.num_<=10))) h))
         ·obtain ⟨G,k0,h⟩:=bS h
          exact Q5 Fm [.s,.s,.s,.w (vb false),.s,.s,.s,.s,.s,.s,.k _,.s,.s] (fun K=>_/\K 10/\True) [1,3,5] [(4,vb G)] [1] [] ⟨ALe.bool p,Q2 (Q7N k0) Tryz.call196 [],⟨⟩⟩ (Kn.R Fm (b ((0:Int),G,false) h))
        ·refine Q0 Fm 2 [1,3,4,5,12] [(76,vb (a.op_==8))] [1] [] (Q3 h (fun V h=>?_) (fun V h=>?_))
         ·rcases Z6 h with ⟨t,h⟩|⟨t,h⟩
          ·exact Y9d Fm (sZ 5 [.s,.s,.s,.w (vb true)]) [(1,pt 1),(3,vi 0),(4,vb (a.more_==0)),(5,vb (decide (a.num_<=10)))] [(1,bx [ci a.op_,ci a.num_,ci a.more_,.d (DL a.kids_)])] (cT (ALe.bool t)) (Kn.R Fm (b ((0:Int),(a.more_==0),(decide (a.num_<=10))) h))
          ·exact Y9d Fm (sZ 5 [.s,.s,.s,.w (vb false)]) [(1,pt 1),(3,vi 0),(4,vb (a.more_==0)),(5,vb false)] [(1,bx [ci a.op_,ci a.num_,ci a.more_,.d (DL a.kids_)])] (cT (ALe.bool t)) (Kn.R Fm (b ((0:Int),(a.more_==0),false) h))
         ·refine Y6y (r:=r) (fun z:Bool=>Q4q F rc a z) (fun z=>[(1,pt 1),(3,vi 0),(4,vb (a.more_==0)),(5,vb false),(12,vi a.op_),(86,vb z)]) (fun z=>[(1,bx [ci a.op_,ci a.num_,ci a.more_,.d (DL a.kids_)])]) (fun u0 h=>?_) (fun n0 A=>?_)
          ·refine Q3 h (fun X h=>?_) (fun X h=>?_)
           ·rcases Z6 h with ⟨u,h⟩|⟨u,h⟩
            ·exact Q1 Fm (sZ 10 [.s,.s,.s,.w (vb true)]) [1,4] [(3,vi (lI a.kids_)),(5,vb (decide ((0:Int)<(lI a.kids_))))] [1] [] (cT (ALe.bool u)) (Kn.R Fm (b ((lI a.kids_),(a.more_==0),(decide ((0:Int)<(lI a.kids_)))) h))
            ·exact Q1 Fm (sZ 10 [.s,.s,.s,.w (vb false)]) [1,4,5] [(3,vi (lI a.kids_))] [1] [] (cT (ALe.bool u)) (Kn.R Fm (b ((lI a.kids_),(a.more_==0),false) h))
           ·refine Q0 Fm 2 [1,3,4,5] [(101,vb (a.op_==11))] [1] [] (Q3 h (fun Y h=>?_) (fun Y h=>?_))
            ·exact Q8u Fm 5 [1,4] [(3,vi 1),(5,vb (a.num_==0))] [1] [] (Kn.R Fm (b ((1:Int),(a.more_==0),(a.num_==0)) h))
            ·exact AW.skip (Kn.R Fm (b ((0:Int),(a.more_==0),false) h))
          ·refine Y3r Fm 2 [(1,pt 1),(3,vi 0),(4,vb (a.more_==0)),(5,vb false),(12,vi a.op_),(86,vb (a.op_==9))] [(1,bx [ci a.op_,ci a.num_,ci a.more_,.d (DL a.kids_)])] (Q3 h (fun W h=>?_) (fun W h=>?_))
           ·exact AW.skip (Kn.R Fm (A (a.op_==9) h))
           ·exact Q8u Fm 2 [1,3,4,5,12] [(86,vb (a.op_==10))] [1] [] (Kn.R Fm (A (a.op_==10) h))
theorem Z3O:∀ {F:Nat} {a:Term} {r:Bool},Q0c F a=some r ->
  Q7 Tryz.prog 155 [.v (.g [ci a.op_,ci a.num_,ci a.more_,.d (DL a.kids_)])] [] (vb r) []
 | 0,_,_,h=>by cases h
 | F+1,_,_,h=>Z7H Z3O (F:=F) (rc:=Q0c F) h
theorem Z8G {F a r} (h:Q9A F a=some r) :
  Q7 Tryz.prog 92 [.v (.g [ci a.op_,ci a.num_,ci a.more_,.d (DL a.kids_)])] [] (vi r) []:=by
 refine FJ Tryz.func92 fun C Fm=>?_
 unfold Q9A at h;refine Q0 Fm 2 [] [(1,pt 1)] [] [(1,bx [ci a.op_,ci a.num_,ci a.more_,.d (DL a.kids_)])] (AW.seq (AW.seq ?_))
 obtain ⟨o,m,h⟩:=bS h;refine Q5 Fm [.s,.k _,.s] (k1 1) [1] [(5,vb (decide ((40:Int)<o)))] [1] [] ⟨Q2 (Z2z m) Tryz.call153 [],⟨⟩⟩ (Q3 h (fun j h=>?_) (fun j h=>?_))
 ·exact Q0 Fm 1 [] [(2,vi 1)] [] [] (Z2 Fm h)
 ·refine AW.skip (AW.seq (Q6 (r:=r) (fun z:Bool=>Q7R F z) [] (fun z=>[(13,vb z)]) [] nn (fun t h=>?_) (fun p c=>?_)))
  ·refine Q3 h (fun l h=>?_) (fun l h=>?_)
   ·exact Q0 Fm 1 [] [(2,vi 16)] [] [] (Z2 Fm h)
   ·exact AW.skip (Q0 Fm 1 [] [(2,vi 0)] [] [] (Z2 Fm h))
  ·obtain ⟨u,e,h⟩:=bS h
   rcases Z6 h with ⟨b,h⟩|⟨b,h⟩
   ·exact Q5 Fm [.s,.k _,.s,.w (vb true),.s,.s,.s,.s] (fun K=>K 1/\_/\True) [] [(13,vb true)] [] [] ⟨Q2 (Q8M e) Tryz.call154 [],ALe.bool b,⟨⟩⟩ (Kn.R Fm (c true h))
   ·obtain ⟨i,n,h⟩:=bS h
    exact Q5 Fm [.s,.k _,.s,.w (vb false),.s,.k _,.s,.s] (fun K=>K 1/\_/\K 5/\True) [] [(13,vb (!i))] [] [] ⟨Q2 (Q8M e) Tryz.call154 [],ALe.bool b,Q2 (Z3O n) Tryz.call155 [],⟨⟩⟩ (Kn.R Fm (c (!i) h))
theorem Q3c {F a r} (h:Q5f F a=some r) :
  Q7 Tryz.prog 119 [AL a] [] (vb r) []:=by
 refine FJ Tryz.func119 fun C Fm=>?_
 unfold Q5f at h;refine Q0 Fm 1 [0] [] [] [] (AW.seq (Q6 (r:=r) (fun z:Bool=>Q2E F a z) [0] (fun z=>[(13,vb z)]) [] nn (fun G h=>?_) (fun A k=>?_)))
 ·refine Q3 h (fun o h=>?_) (fun o h=>?_)
  ·exact Q0 Fm 1 [] [(2,vb false)] [] [] (Z2 Fm h)
  ·refine AW.skip (Q0 Fm 1 [0] [(3,vi 0)] [] [] (Q6 (r:=r) (fun z:Unit=>Z1J F) [] nn [] nn (fun z h=>?_) (fun E n=>?_)))
   ·exact Q0 Fm 1 [] [(2,vb true)] [] [] (Z2 Fm h)
   ·refine Q0 Fm 3 [3] [(14,AL a),(15,vi (lI a)),(16,vi 0)] [] [] (AW.block (Kn.w Fm [(3,vi 0),(14,AL a),(15,vi (lI a)),(16,vi 0)] [] ?_))
    refine Z5 (E':=fun z=>[(3,vi z.1),(14,AL a),(15,vi (lI a)),(16,vi z.2)]) (S':=fun z=>[]) (fun l z B m h=>?_) h;obtain ⟨H,b⟩:=z
    refine Q0 Fm 1 [3,14,15,16] [(17,vb (decide (b<(lI a))))] [] [] (AW.seq (Q3 h (fun p h=>?_) (fun p h=>?_)))
    ·refine AW.skip (AW.seq (AW.block ?_))
     obtain ⟨u,h⟩:=gS h;refine Y4 Fm (sA 4 []) [3,14,15,16] [(5,pt 5)] [] [(5,bx [ci ((gn a b).up_),ci ((gn a b).rate_)])] (cT u) (AW.seq (Q6 (r:=r) (fun z:Bool=>Q0e F a b l z) [5,14,15,16] (fun z=>[(38,vb z)]) [5] nn (fun I h=>?_) (fun D d=>?_)))
     ·refine Q3 h (fun t h=>?_) (fun t h=>?_)
      ·exact Q0 Fm 1 [] [(2,vb false)] [] [] (Z2 Fm h)
      ·refine AW.skip (Q8u Fm 3 [14,15,16] [(3,vi (gn a b).up_)] [] [] ?_)
       obtain ⟨y,h⟩:=gS h;exact Q1 Fm [.s,.s] [3,14,15] [(16,vi (b+1))] [] [] (cT (cT y)) (Kn.R Fm (m ((gn a b).up_,(b+1)) h))
     ·rcases Z6 h with ⟨c,h⟩|⟨c,h⟩
      ·exact Q1 Fm (sA 4 (sZ 14 [.w (vb true)])) [5,14,15,16] [(38,vb true)] [5] [] (cT (ALe.bool c)) (Kn.R Fm (d true h))
      ·rcases Z6 h with ⟨e,h⟩|⟨e,h⟩
       ·exact Q1 Fm (sA 4 (sZ 9 [.w (vb false),.s,.s,.s,.s,.w (vb true)])) [5,14,15,16] [(38,vb true)] [5] [] (cA (ALe.bool c) (cT (ALe.bool e))) (Kn.R Fm (d true h))
       ·rcases Z6 h with ⟨j,h⟩|⟨j,h⟩
        ·exact Q1 Fm (sA 4 [.w (vb false),.s,.s,.s,.s,.w (vb false),.s,.s,.s,.s,.w (vb true),.s,.s,.s,.s]) [5,14,15,16] [(38,vb true)] [5] [] (cA (ALe.bool c) (cA (ALe.bool e) (cT (ALe.bool j)))) (Kn.R Fm (d true h))
        ·exact Q1 Fm (sA 4 [.w (vb false),.s,.s,.s,.s,.w (vb false),.s,.s,.s,.s,.w (vb false),.s,.s,.s,.s]) [5,14,15,16] [(38,vb (decide ((1048576:Int)<((gn a b).rate_))))] [5] [] (cA (ALe.bool c) (cA (ALe.bool e) (cT (ALe.bool j)))) (Kn.R Fm (d (decide ((1048576:Int)<((gn a b).rate_))) h))
    ·exact AW.exit (Kn.R Fm (n () h))
 ·rcases Z6 h with ⟨i,h⟩|⟨i,h⟩
  ·exact Q1 Fm [.s,.s,.s,.w (vb true),.s,.s,.s,.s] [0] [(13,vb true)] [] [] (cT (ALe.bool i)) (Kn.R Fm (k true h))
  ·exact Q1 Fm [.s,.s,.s,.w (vb false),.s,.s,.s,.s] [0] [(13,vb (decide ((6:Int)<(lI a))))] [] [] (cT (ALe.bool i)) (Kn.R Fm (k (decide ((6:Int)<(lI a))) h))
theorem Y0J {F a r} (h:Z2y F a=some r) :
  Q7 Tryz.prog 63 [gE a] [] (vi r) []:=by
 refine FJ Tryz.func63 fun C Fm=>?_
 unfold Z2y at h;refine Q0 Fm 2 [] [(1,pt 1)] [] [(1,bx (gC a))] (AW.seq (Q6 (r:=r) (fun z:Bool=>Q3L F a z) [1] (fun z=>[(21,vb z)]) [1] nn (fun I h=>?_) (fun G d=>?_)))
 ·refine Q3 h (fun p h=>?_) (fun p h=>?_)
  ·exact Q0 Fm 1 [] [(2,vi 2)] [] [] (Z2 Fm h)
  ·refine AW.skip (AW.seq (AW.seq ?_))
   obtain ⟨E,B,h⟩:=bS h;refine Q5 Fm [.s,.s,.k _,.s] (k1 2) [1] [(25,vb (!E))] [1] [] ⟨Q2 (Z9S B) Tryz.call118 [],⟨⟩⟩ (Q3 h (fun t h=>?_) (fun t h=>?_))
   ·exact Q0 Fm 1 [] [(2,vi 5)] [] [] (Z2 Fm h)
   ·refine AW.skip (AW.seq (AW.seq ?_))
    obtain ⟨o,D,h⟩:=bS h;refine Q5 Fm [.s,.s,.k _,.s] (k1 2) [1] [(3,vi o)] [1] [] ⟨Q2 (Z8G D) Tryz.call92 [],⟨⟩⟩ (Q0 Fm 2 [1,3] [(30,vb (o != (0:Int)))] [1] [] (Q3 h (fun u h=>?_) (fun u h=>?_)))
    ·exact Q0 Fm 2 [] [(2,vi o)] [] [] (Z2 Fm h)
    ·refine AW.skip (AW.seq (Q6 (r:=r) (fun z:Bool=>Q3K F z) [] (fun z=>[(54,vb z)]) [] nn (fun L h=>?_) (fun H e=>?_)))
     ·refine Q3 h (fun y h=>?_) (fun y h=>?_)
      ·exact Q0 Fm 1 [] [(2,vi 3)] [] [] (Z2 Fm h)
      ·exact AW.skip (Q0 Fm 1 [] [(2,vi 0)] [] [] (Z2 Fm h))
     ·obtain ⟨M,l,h⟩:=bS h
      rcases Z6 h with ⟨c,h⟩|⟨c,h⟩
      ·exact Q5 Fm (sZ 18 [.s,.s,.k _,.s,.w (vb true)]) (fun K=>K 2/\_/\True) [] [(54,vb true)] [] [] ⟨Q2 (Q3c l) Tryz.call119 [],ALe.bool c,⟨⟩⟩ (Kn.R Fm (e true h))
      ·rcases Z6 h with ⟨j,h⟩|⟨j,h⟩
       ·exact Q5 Fm (sZ 13 [.s,.s,.k _,.s,.w (vb false),.s,.s,.s,.s,.w (vb true)]) (fun K=>K 2/\_/\_/\True) [] [(54,vb true)] [] [] ⟨Q2 (Q3c l) Tryz.call119 [],ALe.bool c,ALe.bool j,⟨⟩⟩ (Kn.R Fm (e true h))
       ·rcases Z6 h with ⟨n,h⟩|⟨n,h⟩
        ·exact Q5 Fm (sZ 8 [.s,.s,.k _,.s,.w (vb false),.s,.s,.s,.s,.w (vb false),.s,.s,.s,.s,.w (vb true)]) (fun K=>K 2/\_/\_/\_/\True) [] [(54,vb true)] [] [] ⟨Q2 (Q3c l) Tryz.call119 [],ALe.bool c,ALe.bool j,ALe.bool n,⟨⟩⟩ (Kn.R Fm (e true h))
        ·obtain ⟨A,h⟩:=gS h
         exact Q5 Fm (sZ 8 [.s,.s,.k _,.s,.w (vb false),.s,.s,.s,.s,.w (vb false),.s,.s,.s,.s,.w (vb false)]) (fun K=>K 2/\_/\_/\_/\_/\True) [] [(54,vb ((Q5T .i64 (a.excludes_.fdiv (2 ^ (min (a.N_).toNat (IntKind.bits .i64)))) (1:Int))==1))] [] [] ⟨Q2 (Q3c l) Tryz.call119 [],ALe.bool c,ALe.bool j,ALe.bool n,A,⟨⟩⟩ (Kn.R Fm (e ((Q5T .i64 (a.excludes_.fdiv (2 ^ (min (a.N_).toNat (IntKind.bits .i64)))) (1:Int))==1) h))
 ·rcases Z6 h with ⟨b,h⟩|⟨b,h⟩
  ·exact Q1 Fm (sZ 14 [.s,.s,.s,.w (vb true)]) [1] [(21,vb true)] [1] [] (cT (ALe.bool b)) (Kn.R Fm (d true h))
  ·rcases Z6 h with ⟨i,h⟩|⟨i,h⟩
   ·exact Q1 Fm (sZ 9 [.s,.s,.s,.w (vb false),.s,.s,.s,.s,.w (vb true)]) [1] [(21,vb true)] [1] [] (cA (ALe.bool b) (cT (ALe.bool i))) (Kn.R Fm (d true h))
   ·rcases Z6 h with ⟨m,h⟩|⟨m,h⟩
    ·exact Q1 Fm [.s,.s,.s,.w (vb false),.s,.s,.s,.s,.w (vb false),.s,.s,.s,.s,.w (vb true),.s,.s,.s,.s] [1] [(21,vb true)] [1] [] (cA (ALe.bool b) (cA (ALe.bool i) (cT (ALe.bool m)))) (Kn.R Fm (d true h))
    ·exact Q1 Fm [.s,.s,.s,.w (vb false),.s,.s,.s,.s,.w (vb false),.s,.s,.s,.s,.w (vb false),.s,.s,.s,.s] [1] [(21,vb (decide ((268435456:Int)<a.least_)))] [1] [] (cA (ALe.bool b) (cA (ALe.bool i) (cT (ALe.bool m)))) (Kn.R Fm (d (decide ((268435456:Int)<a.least_)) h))
theorem Z9N {F a c r} (h:Z1d F a c=some r) :
  Q7 Tryz.prog 64 [AL a,vi c] [] (vi r) []:=by
 refine FJ Tryz.func64 fun C Fm=>?_
 unfold Z1d at h;refine Q0 Fm 1 [0,1] [] [] [] (Q6 (r:=r) (fun z:Unit=>Z6m F) [] nn [] nn (fun z h=>?_) (fun o i=>?_))
 ·exact Q0 Fm 1 [] [(4,vi (-1:Int))] [] [] (Z2 Fm h)
 ·refine Q0 Fm 3 [1] [(7,AL a),(8,vi (lI a)),(9,vi 0)] [] [] (AW.block (Kn.w Fm [(1,vi c),(7,AL a),(8,vi (lI a)),(9,vi 0)] [] ?_))
  refine Z5 (E':=fun z=>[(1,vi c),(7,AL a),(8,vi (lI a)),(9,vi z)]) (S':=fun z=>[]) (fun p b n e h=>?_) h;refine Q0 Fm 1 [1,7,8,9] [(10,vb (decide (b<(lI a))))] [] [] (AW.seq (Q3 h (fun j h=>?_) (fun j h=>?_)))
  ·refine AW.skip (AW.seq (AW.block ?_))
   obtain ⟨l,h⟩:=gS h;refine Y4 Fm (sA 6 []) [1,7,8,9] [(5,vi b),(6,pt 6)] [] [(6,bx [ci ((gn a b).N_),.d (.str (gn a b).n_),ci ((gn a b).cond_.op_),ci ((gn a b).cond_.num_),ci ((gn a b).cond_.more_),.d (DL (gn a b).cond_.kids_),.d (DL (gn a b).brackets_),ci ((gn a b).least_),ci ((gn a b).excludes_),.d (.bool (gn a b).needs_)])] (cT l) (Q0 Fm 4 [1,5,7,8,9] [(17,vb (((gn a b).N_)==c))] [] [] (Q3 h (fun k h=>?_) (fun k h=>?_)))
   ·exact Q0 Fm 2 [] [(4,vi b)] [] [] (Z2 Fm h)
   ·refine AW.skip ?_
    obtain ⟨m,h⟩:=gS h;exact Q1 Fm [.s,.s] [1,7,8] [(9,vi (b+1))] [] [] (cT (cT m)) (Kn.R Fm (e (b+1) h))
  ·exact AW.exit (Kn.R Fm (i () h))
theorem Z8F {F e r} (h:Q9z F e=some r) :
  Q7 Tryz.prog 27 [AL e] [] (.t [.c (ci r.1),.c (ci r.2)]) []:=by
 refine FJ Tryz.func27 fun C Fm=>?_
 unfold Q9z at h;refine Q0 Fm 2 [0] [] [] [] (AW.seq (Q0 Fm 3 [0] [(15,vb (decide ((16:Int)<(lI e))))] [] [] (Q3 h (fun Z h=>?_) (fun Z h=>?_))))
 ·exact Q0 Fm 2 [] [(2,vi 0),(3,vi 1)] [] [] (Z2 Fm h)
 ·refine AW.skip (Q6 (r:=r) (fun z:Unit=>Z1e F e) [0] nn [] nn (fun z h=>?_) (fun H0 U=>?_))
  ·refine Q6 (r:=r) (fun z:Unit=>Z3N F) [] nn [] nn (fun z h=>?_) (fun O0 Y=>?_)
   ·exact Q0 Fm 2 [] [(2,vi (-1:Int)),(3,vi 0)] [] [] (Z2 Fm h)
   ·refine Q0 Fm 3 [0] [(59,AL e),(60,vi (lI e)),(61,vi 0)] [] [] (AW.block (Kn.w Fm [(0,AL e),(59,AL e),(60,vi (lI e)),(61,vi 0)] [] ?_))
    refine Z5 (E':=fun z=>[(0,AL e),(59,AL e),(60,vi (lI e)),(61,vi z)]) (S':=fun z=>[]) (fun N l I0 V h=>?_) h;refine Q0 Fm 1 [0,59,60,61] [(62,vb (decide (l<(lI e))))] [] [] (AW.seq (Q3 h (fun e0 h=>?_) (fun e0 h=>?_)))
    ·refine AW.skip (Q6 (r:=r) (fun z:Unit=>Z4J F l N) [0,59,60,61] nn [] nn (fun z h=>?_) (fun N0 X=>?_))
     ·obtain ⟨w0,h⟩:=gS h
      exact Q1 Fm [.s,.s] [0,59,60] [(61,vi (l+1))] [] [] (cT (cT w0)) (Kn.R Fm (V (l+1) h))
     ·refine AW.block ?_
      obtain ⟨p0,h⟩:=gS h;refine Y4 Fm (sA 6 []) [0,59,60,61] [(9,vi l),(10,pt 10)] [] [(10,bx [ci ((gn e l).N_),.d (.str (gn e l).n_),ci ((gn e l).cond_.op_),ci ((gn e l).cond_.num_),ci ((gn e l).cond_.more_),.d (DL (gn e l).cond_.kids_),.d (DL (gn e l).brackets_),ci ((gn e l).least_),ci ((gn e l).excludes_),.d (.bool (gn e l).needs_)])] (cT p0) (Q0 Fm 1 [0,9,10,59,60,61] [(11,vi 0)] [10] [] (AW.block (Kn.w Fm [(0,AL e),(9,vi l),(10,pt 10),(11,vi 0),(59,AL e),(60,vi (lI e)),(61,vi l)] [(10,bx [ci ((gn e l).N_),.d (.str (gn e l).n_),ci ((gn e l).cond_.op_),ci ((gn e l).cond_.num_),ci ((gn e l).cond_.more_),.d (DL (gn e l).cond_.kids_),.d (DL (gn e l).brackets_),ci ((gn e l).least_),ci ((gn e l).excludes_),.d (.bool (gn e l).needs_)])] ?_)))
      refine Z5 (E':=fun z=>[(0,AL e),(9,vi l),(10,pt 10),(11,vi z),(59,AL e),(60,vi (lI e)),(61,vi l)]) (S':=fun z=>[(10,bx [ci ((gn e l).N_),.d (.str (gn e l).n_),ci ((gn e l).cond_.op_),ci ((gn e l).cond_.num_),ci ((gn e l).cond_.more_),.d (DL (gn e l).cond_.kids_),.d (DL (gn e l).brackets_),ci ((gn e l).least_),ci ((gn e l).excludes_),.d (.bool (gn e l).needs_)])]) (fun D n K0 W h=>?_) h;refine AW.seq (Q0 Fm 2 [0,9,10,11,59,60,61] [(67,vb (decide (n<=15)))] [10] [] (Q3 h (fun i0 h=>?_) (fun i0 h=>?_)))
      ·refine AW.skip (Q6 (r:=r) (fun z:Unit=>Q7L F n D) [0,9,10,11,59,60,61] nn [10] nn (fun z h=>?_) (fun M0 G=>?_))
       ·obtain ⟨u0,h⟩:=gS h
        exact Q1 Fm [.s,.s,.s] [0,9,10,59,60,61] [(11,vi (n+1))] [10] [] (cT (cT u0)) (Kn.R Fm (W (n+1) h))
       ·refine AW.block (AW.seq ?_)
        obtain ⟨q0,h⟩:=gS h;refine Y4 Fm (sA 6 []) [0,9,10,11,59,60,61] [(75,vb ((Q5T .i64 (((gn e l).excludes_).fdiv (2 ^ (min (n).toNat (IntKind.bits .i64)))) (1:Int))==0))] [10] [] (cT q0) (Q3 h (fun j0 h=>?_) (fun j0 h=>?_))
        ·exact AW.exit (Kn.R Fm (G () h))
        ·refine AW.skip (AW.seq ?_)
         obtain ⟨B,A0,h⟩:=bS h;refine Q5 Fm [.s,.s,.k _,.s] (k1 2) [0,9,10,11,59,60,61] [(12,vi B)] [10] [] ⟨Q2 (Z9N A0) Tryz.call64 [],⟨⟩⟩ (Q6 (r:=r) (fun z:Bool=>Q7M F l n D z) [0,9,10,11,59,60,61] (fun z=>[(92,vb z)]) [10] nn (fun R0 h=>?_) (fun L0 E=>?_))
         ·refine Q3 h (fun k0 h=>?_) (fun k0 h=>?_)
          ·exact Q0 Fm 3 [] [(2,vi l),(3,vi 17)] [] [] (Z2 Fm h)
          ·exact AW.skip (Kn.R Fm (G () h))
         ·rcases Z6 h with ⟨y,h⟩|⟨y,h⟩
          ·exact Q1 Fm (sZ 11 [.s,.s,.w (vb true)]) [0,9,10,11,59,60,61] [(92,vb true)] [10] [] (cT (ALe.bool y)) (Kn.R Fm (E true h))
          ·obtain ⟨s0,t0,h⟩:=gS2 h
           exact Q1 Fm (sZ 11 [.s,.s,.w (vb false)]) [0,9,10,11,59,60,61] [(92,vb ((Q5T .i64 (((gn e B).excludes_).fdiv (2 ^ (min (((gn e l).N_)).toNat (IntKind.bits .i64)))) (1:Int))==0))] [10] [] (cA (ALe.bool y) (cA s0 (cT t0))) (Kn.R Fm (E ((Q5T .i64 (((gn e B).excludes_).fdiv (2 ^ (min (((gn e l).N_)).toNat (IntKind.bits .i64)))) (1:Int))==0) h))
      ·exact AW.exit (Kn.R Fm (X () h))
    ·exact AW.exit (Kn.R Fm (Y () h))
  ·refine Q0 Fm 3 [0] [(16,AL e),(17,vi (lI e)),(18,vi 0)] [] [] (AW.block (Kn.w Fm [(0,AL e),(16,AL e),(17,vi (lI e)),(18,vi 0)] [] ?_))
   refine Z5 (E':=fun z=>[(0,AL e),(16,AL e),(17,vi (lI e)),(18,vi z)]) (S':=fun z=>[]) (fun L i B0 O h=>?_) h;refine Q0 Fm 1 [0,16,17,18] [(19,vb (decide (i<(lI e))))] [] [] (AW.seq (Q3 h (fun a0 h=>?_) (fun a0 h=>?_)))
   ·refine AW.skip (Q6 (r:=r) (fun z:Unit=>Z4K F i L) [0,16,17,18] nn [] nn (fun z h=>?_) (fun G0 T=>?_))
    ·obtain ⟨o0,h⟩:=gS h
     exact Q1 Fm [.s,.s] [0,16,17] [(18,vi (i+1))] [] [] (cT (cT o0)) (Kn.R Fm (O (i+1) h))
    ·refine AW.block ?_
     obtain ⟨l0,h⟩:=gS h;refine Y4 Fm (sA 6 []) [0,16,17,18] [(4,vi i),(5,pt 5)] [] [(5,bx [ci ((gn e i).N_),.d (.str (gn e i).n_),ci ((gn e i).cond_.op_),ci ((gn e i).cond_.num_),ci ((gn e i).cond_.more_),.d (DL (gn e i).cond_.kids_),.d (DL (gn e i).brackets_),ci ((gn e i).least_),ci ((gn e i).excludes_),.d (.bool (gn e i).needs_)])] (cT l0) (AW.seq (AW.seq ?_))
     obtain ⟨A,y0,h⟩:=bS h;refine Q5 Fm [.s,.k _,.s] (k1 1) [0,4,5,16,17,18] [(6,vi A)] [5] [] ⟨Q2 (Y0J y0) Tryz.call63 [],⟨⟩⟩ (Q0 Fm 2 [0,4,5,6,16,17,18] [(26,vb (A != (0:Int)))] [5] [] (Q3 h (fun b0 h=>?_) (fun b0 h=>?_)))
     ·exact Q0 Fm 4 [] [(2,vi i),(3,vi A)] [] [] (Z2 Fm h)
     ·refine AW.skip ?_
      obtain ⟨H,h⟩:=gS h;refine Y4 Fm [.s,.s,.w (AL (e.take i.toNat)),.s,.s] [0,4,5,16,17,18] [(31,AL (e.take i.toNat)),(32,vi (lI (e.take i.toNat))),(33,vi 0)] [5] [] (cA (⟨H,(Is.refl e).len⟩:((sl (List.length e) (LF e) none (some i)).2/\∀ j,j<List.length e->(LF e j).length=10)) (cT (ALe.lst (Z6k e none (some i) H):ALe (.v (.c (.d (.lst (sl (List.length e) (LF e) none (some i)).1.1 (sl (List.length e) (LF e) none (some i)).1.2)))) (AL (e.take i.toNat))))) (AW.block (Kn.w Fm [(0,AL e),(4,vi i),(5,pt 5),(16,AL e),(17,vi (lI e)),(18,vi i),(31,AL (e.take i.toNat)),(32,vi (lI (e.take i.toNat))),(33,vi 0)] [(5,bx [ci ((gn e i).N_),.d (.str (gn e i).n_),ci ((gn e i).cond_.op_),ci ((gn e i).cond_.num_),ci ((gn e i).cond_.more_),.d (DL (gn e i).cond_.kids_),.d (DL (gn e i).brackets_),ci ((gn e i).least_),ci ((gn e i).excludes_),.d (.bool (gn e i).needs_)])] ?_))
      refine Z5 (E':=fun z=>[(0,AL e),(4,vi i),(5,pt 5),(16,AL e),(17,vi (lI e)),(18,vi i),(31,AL (e.take i.toNat)),(32,vi (lI (e.take i.toNat))),(33,vi z)]) (S':=fun z=>[(5,bx [ci ((gn e i).N_),.d (.str (gn e i).n_),ci ((gn e i).cond_.op_),ci ((gn e i).cond_.num_),ci ((gn e i).cond_.more_),.d (DL (gn e i).cond_.kids_),.d (DL (gn e i).brackets_),ci ((gn e i).least_),ci ((gn e i).excludes_),.d (.bool (gn e i).needs_)])]) (fun M m D0 P h=>?_) h;refine Q0 Fm 1 [0,4,5,16,17,18,31,32,33] [(34,vb (decide (m<(lI (e.take i.toNat)))))] [5] [] (AW.seq (Q3 h (fun c0 h=>?_) (fun c0 h=>?_)))
      ·refine AW.skip (AW.seq (AW.block ?_))
       obtain ⟨m0,h⟩:=gS h;refine Y4 Fm (sA 6 []) [0,4,5,16,17,18,31,32,33] [(7,vi m),(8,pt 8)] [5] [(8,bx [ci ((gn (e.take i.toNat) m).N_),.d (.str (gn (e.take i.toNat) m).n_),ci ((gn (e.take i.toNat) m).cond_.op_),ci ((gn (e.take i.toNat) m).cond_.num_),ci ((gn (e.take i.toNat) m).cond_.more_),.d (DL (gn (e.take i.toNat) m).cond_.kids_),.d (DL (gn (e.take i.toNat) m).brackets_),ci ((gn (e.take i.toNat) m).least_),ci ((gn (e.take i.toNat) m).excludes_),.d (.bool (gn (e.take i.toNat) m).needs_)])] (cT m0) (Q6 (r:=r) (fun z:Bool=>Q3j F i m M z) [0,4,5,16,17,18,31,32,33] (fun z=>[(55,vb z)]) [5] nn (fun P0 h=>?_) (fun E0 p=>?_))
       ·refine Q3 h (fun d0 h=>?_) (fun d0 h=>?_)
        ·exact Q0 Fm 3 [] [(2,vi i),(3,vi 6)] [] [] (Z2 Fm h)
        ·refine AW.skip ?_
         obtain ⟨n0,h⟩:=gS h;exact Q1 Fm [.s,.s] [0,4,5,16,17,18,31,32] [(33,vi (m+1))] [5] [] (cT (cT n0)) (Kn.R Fm (P (m+1) h))
       ·rcases Z6 h with ⟨o,h⟩|⟨o,h⟩
        ·exact Q5 Fm (sA 4 (sZ 12 [.k (sE (vb (sEq ((gn (e.take i.toNat) m).n_) ((gn e i).n_)))),.w (vb true)])) (fun K=>K 4/\_/\True) [0,4,5,16,17,18,31,32,33] [(55,vb true)] [5] [] ⟨Z8m (op:=.eql) (a:=((gn (e.take i.toNat) m).n_)) (b:=((gn e i).n_)) rfl rfl (by kernel_rfl) (by kernel_rfl) (by kernel_rfl) rfl,ALe.bool o,⟨⟩⟩ (Kn.R Fm (p true h))
        ·obtain ⟨I,h⟩:=gS h
         rcases Z6 h with ⟨u,h⟩|⟨u,h⟩
         ·exact Q5 Fm (sA 4 (sZ 7 [.k (sE (vb (sEq ((gn (e.take i.toNat) m).n_) ((gn e i).n_)))),.w (vb false),.s,.s,.s,.s,.w (vb true)])) (fun K=>K 4/\_/\(_/\True)/\_/\True) [0,4,5,16,17,18,31,32,33] [(55,vb (decide (((gn e i).N_)<=((gn (e.take i.toNat) m).N_))))] [5] [] ⟨Z8m (op:=.eql) (a:=((gn (e.take i.toNat) m).n_)) (b:=((gn e i).n_)) rfl rfl (by kernel_rfl) (by kernel_rfl) (by kernel_rfl) rfl,ALe.bool o,⟨I,⟨⟩⟩,ALe.bool u,⟨⟩⟩ (Kn.R Fm (p (decide (((gn e i).N_)<=((gn (e.take i.toNat) m).N_))) h))
         ·exact Q5 Fm (sA 4 (sZ 7 [.k (sE (vb (sEq ((gn (e.take i.toNat) m).n_) ((gn e i).n_)))),.w (vb false),.s,.s,.s,.s,.w (vb false)])) (fun K=>K 4/\_/\(_/\True)/\_/\True) [0,4,5,16,17,18,31,32,33] [(55,vb false)] [5] [] ⟨Z8m (op:=.eql) (a:=((gn (e.take i.toNat) m).n_)) (b:=((gn e i).n_)) rfl rfl (by kernel_rfl) (by kernel_rfl) (by kernel_rfl) rfl,ALe.bool o,⟨I,⟨⟩⟩,ALe.bool u,⟨⟩⟩ (Kn.R Fm (p false h))
      ·exact AW.exit (Kn.R Fm (T () h))
   ·exact AW.exit (Kn.R Fm (U () h))
theorem Z6Y {F B0 D0 r} (h:Q4u F B0 D0=some r) :
  Q7 Tryz.prog 35 [pt 0,vi D0] [(0,bx (gC B0))] (ow 100) [(0,bx (gC r.1)),(100,AO r.2)]:=by
 refine FJ Tryz.func35 fun C Fm=>?_
 unfold Q4u at h;refine Q1K Fm [.m] (fun K=>True) [0,1] [] [0] [] True.intro (y8 Fm [.m] (fun K=>True) [0,1] [(5,ow 5)] [0] [(5,AO ([]:List Scheme))] True.intro [(5,.arr 10 (0) nn)] ⟨OLe.is ((Is.nil (α:=Scheme))),⟨⟩⟩ (AW.seq ?_))
 obtain ⟨i0,q1,h⟩:=bS h;refine Q5 Fm [.s,.k _,.s] (k1 1) [0,1,5] [(6,vi i0.2)] [5] [(0,bx (gC i0.1))] ⟨Q2 (Z4 q1) Tryz.call18 [(0,0)],⟨⟩⟩ (Q6 (r:=r) (fun z:(List Int)×Int×(List Scheme)=>Q5I F z.1 z.2.1 z.2.2) [0,5] nn [] (fun z=>[(0,bx [.d (DL z.1),ci z.2.1]),(5,AO z.2.2)]) (fun z h=>?_) (fun j2 M0=>?_))
 ·obtain ⟨P1,R1,P⟩:=z
  refine Q6 (r:=r) (fun z:(List Scheme)×(List Int)×Int=>Q4R F z.1 z.2.1 z.2.2) [5] nn [] (fun z=>[(0,bx [.d (DL z.2.1),ci z.2.2]),(5,AO z.1)]) (fun z h=>?_) (fun p2 R0=>?_)
  ·obtain ⟨e0,y0,A0⟩:=z
   refine AW.seq (AW.seq ?_);obtain ⟨Y,H1,h⟩:=bS h
   refine Q5 Fm (sZ 5 [.s,.k (sE (.t [.c (ci Y.1),.c (ci Y.2)]))]) (k1 1) [5] [(14,vi Y.2)] [0,5] [] ⟨Z3C (Z8F H1) Tryz.call27 [5] [.tmp 112] rfl (by kernel_rfl) (by kernel_rfl) ⟨Z8o.own 5 (es:=10) (n:=List.length e0) (f:=LF e0) (by kernel_rfl) (by kernel_rfl) (by kernel_rfl) (by kernel_rfl),⟨⟩⟩,⟨⟩⟩ (Q0 Fm 2 [5] [(117,vb (Y.2 != (0:Int)))] [0,5] [] (Q3 h (fun Y0 h=>?_) (fun Y0 h=>?_)))
   ·refine y8 Fm [.m] (fun K=>True) [] [(4,ow 4)] [0] [(4,AO ([]:List Scheme))] True.intro [(4,.arr 10 (0) nn)] ⟨OLe.is ((Is.nil (α:=Scheme))),⟨⟩⟩ (AW.ret ?_)
    obtain rfl:=Option.some.inj h;exact Q2P Fm [(100,4)] [(4,ow 100)] [(0,bx [.d (DL y0),ci A0]),(100,AO ([]:List Scheme))] (Q3b Fm (by kernel_rfl))
   ·refine AW.skip (Q0 Fm 2 [] [(4,ow 5)] [0,5] [] (AW.ret ?_))
    obtain rfl:=Option.some.inj h;exact Q2P Fm [(100,5)] [(4,ow 100)] [(0,bx [.d (DL y0),ci A0]),(100,AO e0)] (Q3b Fm (by kernel_rfl))
  ·refine Q0 Fm 3 [0,5] [(68,vi (lI P)),(69,vi 0)] [0,5] [] (AW.block (Kn.w Fm [(0,pt 0),(5,ow 5),(68,vi (lI P)),(69,vi 0)] [(0,bx [.d (DL P1),ci R1]),(5,AO P)] ?_))
   refine Z5 (E':=fun z=>[(0,pt 0),(5,ow 5),(68,vi (lI P)),(69,vi z.1)]) (S':=fun z=>[(0,bx [.d (DL z.2.1),ci z.2.2.1]),(5,AO z.2.2.2)]) (fun E0 z l2 N0 h=>?_) h;obtain ⟨o,u0,w0,T⟩:=z
   refine Q0 Fm 1 [0,5,68,69] [(70,vb (decide (o<(lI P))))] [0,5] [] (AW.seq (Q3 h (fun V0 h=>?_) (fun V0 h=>?_)))
   ·refine AW.skip (Q6 (r:=r) (fun z:(List Int)×Int×(List Scheme)=>Q8U F o E0 z.1 z.2.1 z.2.2) [0,5,68,69] nn [] (fun z=>[(0,bx [.d (DL z.1),ci z.2.1]),(5,AO z.2.2)]) (fun z h=>?_) (fun o2 P0=>?_))
    ·obtain ⟨Y1,Z1,a2⟩:=z
     obtain ⟨p1,h⟩:=gS h;exact Q1 Fm [.s,.s] [0,5,68] [(69,vi (o+1))] [0,5] [] (cT (cT p1)) (Kn.R Fm (N0 ((o+1),Y1,Z1,a2) h))
    ·refine AW.block (Q0 Fm 2 [0,5,68,69] [(11,vi o)] [0,5] [] ?_)
     obtain ⟨l1,h⟩:=gS h;refine Q1K Fm [.s,.s,.k (rE { v:=.v (.c (.sub 5 10 0 ((o).toNat))) }),.k (rE { v:=vi ((((o).toNat):Nat):Int) }),.s] (k2 2 3) [0,5,11,68,69] [(75,vi ((((o).toNat):Nat):Int)),(76,vi 0)] [0,5] [] ⟨Q7a (l:=none) (u:=(some o)) (id:=5) (lo0:=0) (n:=(List.length T)) (N:=List.length T) (f:=LF T) Q0b W0n rfl rfl (by kernel_rfl) (by kernel_rfl) (by kernel_rfl) (by kernel_rfl) (by kernel_rfl) l1 (by kernel_rfl),Y4w (es:=10) (id:=5) (lo0:=0) (n:=((o).toNat)) (N:=List.length T) (f:=LF T) Q0b W0n rfl rfl (by kernel_rfl) (by kernel_rfl) (by kernel_rfl),⟨⟩⟩ (AW.block (Kn.w Fm [(0,pt 0),(5,ow 5),(11,vi o),(68,vi (lI P)),(69,vi o),(75,vi ((((o).toNat):Nat):Int)),(76,vi 0)] [(0,bx [.d (DL u0),ci w0]),(5,AO T)] ?_))
     refine Z5 (E':=fun z=>[(0,pt 0),(5,ow 5),(11,vi o),(68,vi (lI P)),(69,vi o),(75,vi ((((o).toNat):Nat):Int)),(76,vi z.1)]) (S':=fun z=>[(0,bx [.d (DL z.2.1),ci z.2.2.1]),(5,AO z.2.2.2)]) (fun G0 z m2 O0 h=>?_) h;obtain ⟨p,T1,U1,e⟩:=z
     refine Q0 Fm 1 [0,5,11,68,69,75,76] [(77,vb (decide (p<((((o).toNat):Nat):Int))))] [0,5] [] (AW.seq (Q3 h (fun W0 h=>?_) (fun W0 h=>?_)))
     ·refine AW.skip (Q6 (r:=r) (fun z:(List Int)×Int×(List Scheme)=>Q3q F p G0 z.1 z.2.1 z.2.2) [0,5,11,68,69,75,76] nn [] (fun z=>[(0,bx [.d (DL z.1),ci z.2.1]),(5,AO z.2.2)]) (fun z h=>?_) (fun n2 k0=>?_))
      ·obtain ⟨V1,W1,X1⟩:=z
       obtain ⟨o1,h⟩:=gS h;exact Q1 Fm [.s,.s] [0,5,11,68,69,75] [(76,vi (p+1))] [0,5] [] (cT (cT o1)) (Kn.R Fm (O0 ((p+1),V1,W1,X1) h))
      ·refine AW.block (Q0 Fm 2 [0,5,11,68,69,75,76] [(12,vi p)] [0,5] [] (AW.seq ?_))
       obtain ⟨U,G1,h⟩:=bS h;refine Q5 Fm [.s,.k _] (k1 1) [0,5,11,12,68,69,75,76] [(80,vb U.2)] [5] [(0,bx (gC U.1))] ⟨Q2 (Q6U G1) Tryz.call55 [(0,0)],⟨⟩⟩ (Q3 h (fun X0 h=>?_) (fun X0 h=>?_))
       ·obtain ⟨l0,m0,m1,b0,h⟩:=gS4 h
        refine Z0q Fm (sA 15 []) [0,5,11,12,68,69,75,76] [] [0] [(5,AO (List.set e o.toNat (⟨(gn e o).N_,(gn e o).n_,(gn e o).cond_,(gn e o).brackets_,(gn e o).least_,(bor .i64 ((gn e o).excludes_) ((1:Int)*2 ^ (min (((gn e p).N_)).toNat (IntKind.bits .i64)))),(gn e o).needs_⟩:Scheme)))] (cA l0 (cA (Y6 l0) (cA m0 (cA (Y6 m0) (cA m1 (cA b0 (cT (Y6 b0)))))))) [(5,rSt e o.toNat 8 [.int .i64 (bor .i64 ((gn e o).excludes_) ((1:Int)*2 ^ (min (((gn e p).N_)).toNat (IntKind.bits .i64))))])] ⟨oSt (Y6 b0),⟨⟩⟩ ?_;obtain ⟨n0,o0,n1,c0,h⟩:=gS4 h
        refine Q2h Fm (sA 15 []) [0,5,11,68,69,75,76] [] [0] [(5,AO (List.set (List.set e o.toNat (⟨(gn e o).N_,(gn e o).n_,(gn e o).cond_,(gn e o).brackets_,(gn e o).least_,(bor .i64 ((gn e o).excludes_) ((1:Int)*2 ^ (min (((gn e p).N_)).toNat (IntKind.bits .i64)))),(gn e o).needs_⟩:Scheme)) p.toNat (⟨(gn (List.set e o.toNat (⟨(gn e o).N_,(gn e o).n_,(gn e o).cond_,(gn e o).brackets_,(gn e o).least_,(bor .i64 ((gn e o).excludes_) ((1:Int)*2 ^ (min (((gn e p).N_)).toNat (IntKind.bits .i64)))),(gn e o).needs_⟩:Scheme)) p).N_,(gn (List.set e o.toNat (⟨(gn e o).N_,(gn e o).n_,(gn e o).cond_,(gn e o).brackets_,(gn e o).least_,(bor .i64 ((gn e o).excludes_) ((1:Int)*2 ^ (min (((gn e p).N_)).toNat (IntKind.bits .i64)))),(gn e o).needs_⟩:Scheme)) p).n_,(gn (List.set e o.toNat (⟨(gn e o).N_,(gn e o).n_,(gn e o).cond_,(gn e o).brackets_,(gn e o).least_,(bor .i64 ((gn e o).excludes_) ((1:Int)*2 ^ (min (((gn e p).N_)).toNat (IntKind.bits .i64)))),(gn e o).needs_⟩:Scheme)) p).cond_,(gn (List.set e o.toNat (⟨(gn e o).N_,(gn e o).n_,(gn e o).cond_,(gn e o).brackets_,(gn e o).least_,(bor .i64 ((gn e o).excludes_) ((1:Int)*2 ^ (min (((gn e p).N_)).toNat (IntKind.bits .i64)))),(gn e o).needs_⟩:Scheme)) p).brackets_,(gn (List.set e o.toNat (⟨(gn e o).N_,(gn e o).n_,(gn e o).cond_,(gn e o).brackets_,(gn e o).least_,(bor .i64 ((gn e o).excludes_) ((1:Int)*2 ^ (min (((gn e p).N_)).toNat (IntKind.bits .i64)))),(gn e o).needs_⟩:Scheme)) p).least_,(bor .i64 ((gn (List.set e o.toNat (⟨(gn e o).N_,(gn e o).n_,(gn e o).cond_,(gn e o).brackets_,(gn e o).least_,(bor .i64 ((gn e o).excludes_) ((1:Int)*2 ^ (min (((gn e p).N_)).toNat (IntKind.bits .i64)))),(gn e o).needs_⟩:Scheme)) p).excludes_) ((1:Int)*2 ^ (min (((gn (List.set e o.toNat (⟨(gn e o).N_,(gn e o).n_,(gn e o).cond_,(gn e o).brackets_,(gn e o).least_,(bor .i64 ((gn e o).excludes_) ((1:Int)*2 ^ (min (((gn e p).N_)).toNat (IntKind.bits .i64)))),(gn e o).needs_⟩:Scheme)) o).N_)).toNat (IntKind.bits .i64)))),(gn (List.set e o.toNat (⟨(gn e o).N_,(gn e o).n_,(gn e o).cond_,(gn e o).brackets_,(gn e o).least_,(bor .i64 ((gn e o).excludes_) ((1:Int)*2 ^ (min (((gn e p).N_)).toNat (IntKind.bits .i64)))),(gn e o).needs_⟩:Scheme)) p).needs_⟩:Scheme)))] (cA n0 (cA (Y6 n0) (cA o0 (cA (Y6 o0) (cA n1 (cA c0 (cT (Y6 c0)))))))) [(5,rSt (List.set e o.toNat (⟨(gn e o).N_,(gn e o).n_,(gn e o).cond_,(gn e o).brackets_,(gn e o).least_,(bor .i64 ((gn e o).excludes_) ((1:Int)*2 ^ (min (((gn e p).N_)).toNat (IntKind.bits .i64)))),(gn e o).needs_⟩:Scheme)) p.toNat 8 [.int .i64 (bor .i64 ((gn (List.set e o.toNat (⟨(gn e o).N_,(gn e o).n_,(gn e o).cond_,(gn e o).brackets_,(gn e o).least_,(bor .i64 ((gn e o).excludes_) ((1:Int)*2 ^ (min (((gn e p).N_)).toNat (IntKind.bits .i64)))),(gn e o).needs_⟩:Scheme)) p).excludes_) ((1:Int)*2 ^ (min (((gn (List.set e o.toNat (⟨(gn e o).N_,(gn e o).n_,(gn e o).cond_,(gn e o).brackets_,(gn e o).least_,(bor .i64 ((gn e o).excludes_) ((1:Int)*2 ^ (min (((gn e p).N_)).toNat (IntKind.bits .i64)))),(gn e o).needs_⟩:Scheme)) o).N_)).toNat (IntKind.bits .i64))))])] ⟨oSt (Y6 c0),⟨⟩⟩ ?_
        exact Kn.R Fm (k0 (U.1.l_,U.1.at_,(List.set (List.set e o.toNat (⟨(gn e o).N_,(gn e o).n_,(gn e o).cond_,(gn e o).brackets_,(gn e o).least_,(bor .i64 ((gn e o).excludes_) ((1:Int)*2 ^ (min (((gn e p).N_)).toNat (IntKind.bits .i64)))),(gn e o).needs_⟩:Scheme)) p.toNat (⟨(gn (List.set e o.toNat (⟨(gn e o).N_,(gn e o).n_,(gn e o).cond_,(gn e o).brackets_,(gn e o).least_,(bor .i64 ((gn e o).excludes_) ((1:Int)*2 ^ (min (((gn e p).N_)).toNat (IntKind.bits .i64)))),(gn e o).needs_⟩:Scheme)) p).N_,(gn (List.set e o.toNat (⟨(gn e o).N_,(gn e o).n_,(gn e o).cond_,(gn e o).brackets_,(gn e o).least_,(bor .i64 ((gn e o).excludes_) ((1:Int)*2 ^ (min (((gn e p).N_)).toNat (IntKind.bits .i64)))),(gn e o).needs_⟩:Scheme)) p).n_,(gn (List.set e o.toNat (⟨(gn e o).N_,(gn e o).n_,(gn e o).cond_,(gn e o).brackets_,(gn e o).least_,(bor .i64 ((gn e o).excludes_) ((1:Int)*2 ^ (min (((gn e p).N_)).toNat (IntKind.bits .i64)))),(gn e o).needs_⟩:Scheme)) p).cond_,(gn (List.set e o.toNat (⟨(gn e o).N_,(gn e o).n_,(gn e o).cond_,(gn e o).brackets_,(gn e o).least_,(bor .i64 ((gn e o).excludes_) ((1:Int)*2 ^ (min (((gn e p).N_)).toNat (IntKind.bits .i64)))),(gn e o).needs_⟩:Scheme)) p).brackets_,(gn (List.set e o.toNat (⟨(gn e o).N_,(gn e o).n_,(gn e o).cond_,(gn e o).brackets_,(gn e o).least_,(bor .i64 ((gn e o).excludes_) ((1:Int)*2 ^ (min (((gn e p).N_)).toNat (IntKind.bits .i64)))),(gn e o).needs_⟩:Scheme)) p).least_,(bor .i64 ((gn (List.set e o.toNat (⟨(gn e o).N_,(gn e o).n_,(gn e o).cond_,(gn e o).brackets_,(gn e o).least_,(bor .i64 ((gn e o).excludes_) ((1:Int)*2 ^ (min (((gn e p).N_)).toNat (IntKind.bits .i64)))),(gn e o).needs_⟩:Scheme)) p).excludes_) ((1:Int)*2 ^ (min (((gn (List.set e o.toNat (⟨(gn e o).N_,(gn e o).n_,(gn e o).cond_,(gn e o).brackets_,(gn e o).least_,(bor .i64 ((gn e o).excludes_) ((1:Int)*2 ^ (min (((gn e p).N_)).toNat (IntKind.bits .i64)))),(gn e o).needs_⟩:Scheme)) o).N_)).toNat (IntKind.bits .i64)))),(gn (List.set e o.toNat (⟨(gn e o).N_,(gn e o).n_,(gn e o).cond_,(gn e o).brackets_,(gn e o).least_,(bor .i64 ((gn e o).excludes_) ((1:Int)*2 ^ (min (((gn e p).N_)).toNat (IntKind.bits .i64)))),(gn e o).needs_⟩:Scheme)) p).needs_⟩:Scheme))) h)
       ·exact AW.skip (Kn.R Fm (k0 (U.1.l_,U.1.at_,e) h))
     ·exact AW.exit (Kn.R Fm (P0 (T1,U1,e) h))
   ·exact AW.exit (Kn.R Fm (R0 (T,u0,w0) h))
 ·refine AW.seq ?_
  obtain ⟨Z0,h⟩:=gS h;obtain ⟨V,s1,h⟩:=bS h
  refine Q5 Fm [.s,.s,.s,.k _,.s] (fun K=>(_/\True)/\K 3/\True) [0,5,6] [(7,vi V.2)] [5] [(0,bx (gC V.1))] ⟨⟨Z0,⟨⟩⟩,Q2 (Z4 s1) Tryz.call18 [(0,0)],⟨⟩⟩ (AW.block (Kn.w Fm [(0,pt 0),(5,ow 5),(6,vi i0.2),(7,vi V.2)] [(0,bx [.d (DL V.1.l_),ci V.1.at_]),(5,AO ([]:List Scheme))] ?_));refine Z5 (E':=fun z=>[(0,pt 0),(5,ow 5),(6,vi z.1),(7,vi z.2.1)]) (S':=fun z=>[(0,bx [.d (DL z.2.2.1),ci z.2.2.2.1]),(5,AO z.2.2.2.2)]) (fun Z z b2 H0 h=>?_) h
  obtain ⟨y,G,p0,q0,E⟩:=z;refine AW.seq (Q6 (r:=r) (fun z:Bool=>Q1R F y G p0 q0 E Z z) [0,5,6,7] (fun z=>[(26,vb z)]) [0,5] nn (fun s2 h=>?_) (fun c2 j0=>?_))
  ·refine Q3 h (fun T0 h=>?_) (fun T0 h=>?_)
   ·refine AW.skip (Q6 (r:=r) (fun z:Int×(List Int)×Int×(List Scheme)=>Q8V F G Z z.1 z.2.1 z.2.2.1 z.2.2.2) [0,7] (fun z=>[(5,ow 62),(6,vi z.1)]) [] (fun z=>[(0,bx [.d (DL z.2.1),ci z.2.2.1]),(62,AO z.2.2.2)]) (fun z h=>?_) (fun i2 L0=>?_))
    ·obtain ⟨L1,M1,N1,O1⟩:=z
     obtain ⟨j1,h⟩:=gS h;exact Q1 Fm [.s,.s,.s] [0,5,6] [(7,vi (G-1))] [0,62] [] (cT (cT j1)) (Q1e Fm [(5,62)] (H0 (L1,(G-1),M1,N1,O1) h))
    ·refine AW.block (AW.seq ?_)
     obtain ⟨A,t1,h⟩:=bS h;obtain ⟨a1,h⟩:=gS h
     obtain ⟨q,u1,h⟩:=bS h;obtain ⟨D,w1,h⟩:=bS h
     obtain ⟨B,y1,h⟩:=bS h;refine Q5 Fm [.s,.s,.k _,.k (sE (.v (.c (.d (.str ((ByteArray.mk #[115])++A)))))),.s,.k _,.s,.k _,.s,.k _,.s,.s,.s] (fun K=>K 2/\K 3/\K 5/\K 7/\K 9/\True) [0,5,6,7] [(8,pt 8)] [5] [(0,bx (gC B.1)),(8,bx [ci y,.d (.str ((ByteArray.mk #[115])++A)),ci q.2.op_,ci q.2.num_,ci q.2.more_,.d (DL q.2.kids_),f0,ci D.2,ci 0,.d (.bool B.2)])] ⟨Q2 (Z1n t1) Tryz.call75 [],Z8n (a:=(ByteArray.mk #[115])) (b:=A) rfl rfl (by kernel_rfl) (by kernel_rfl) (by kernel_rfl) a1,Q2 (Z0w u1) Tryz.call76 [(0,0)],Q2 (Z4 w1) Tryz.call18 [(0,0)],Q2 (Q6U y1) Tryz.call55 [(0,0)],⟨⟩⟩ (Q0 Fm 1 [0,5,6,7,8] [(9,vi 0)] [0,5,8] [] (Q6 (r:=r) (fun z:(List Int)×Int×(List Bracket)=>Q8W F y G E A q D B Z z.1 z.2.1 z.2.2) [0,5,6,7,8] nn [5] (fun z=>[(0,bx [.d (DL z.1),ci z.2.1]),(8,bx [ci y,.d (.str ((ByteArray.mk #[115])++A)),ci q.2.op_,ci q.2.num_,ci q.2.more_,.d (DL q.2.kids_),.own 906,ci D.2,ci 0,.d (.bool B.2)]),(906,AO z.2.2)]) (fun z h=>?_) (fun e2 K0=>?_)))
     ·obtain ⟨s0,t0,O⟩:=z
      refine AW.seq (Kn.w Fm [(0,pt 0),(5,ow 5),(6,vi y),(7,vi G),(8,pt 8)] [(906,AO O),(0,bx [.d (DL s0),ci t0]),(5,AO E),(8,bx [ci y,.d (.str ((ByteArray.mk #[115])++A)),ci q.2.op_,ci q.2.num_,ci q.2.more_,.d (DL q.2.kids_),.own 906,ci D.2,ci 0,.d (.bool B.2)])] (Q1F [(0,pt 0),(5,ow 5),(6,vi y),(7,vi G),(8,pt 8)] [(0,bx [.d (DL s0),ci t0]),(5,AO E),(8,bx [ci y,.d (.str ((ByteArray.mk #[115])++A)),ci q.2.op_,ci q.2.num_,ci q.2.more_,.d (DL q.2.kids_),.d (DL O),ci D.2,ci 0,.d (.bool B.2)])] ?_));obtain ⟨e1,h⟩:=gS h
      refine Q2h Fm [.s,.s,.w (AL [(⟨y,((ByteArray.mk #[115])++A),q.2,O,D.2,0,B.2⟩:Scheme)]),.s,.s] [0,6,7] [(5,ow 62)] [0] [(62,AO (E++([(⟨y,((ByteArray.mk #[115])++A),q.2,O,D.2,0,B.2⟩:Scheme)]:List Scheme)))] (cA (Q8h (⟨y,((ByteArray.mk #[115])++A),q.2,O,D.2,0,B.2⟩:Scheme)) (cT (cA e1 (cT (lfl ([(⟨y,((ByteArray.mk #[115])++A),q.2,O,D.2,0,B.2⟩:Scheme)]:List Scheme)))))) [(62,rAp E ([(⟨y,((ByteArray.mk #[115])++A),q.2,O,D.2,0,B.2⟩:Scheme)]:List Scheme))] ⟨oAp,⟨⟩⟩ ?_;obtain ⟨W,E1,h⟩:=bS h
      obtain ⟨i1,h⟩:=gS h;exact Q5 Fm [.s,.s,.k _,.s,.s] (fun K=>K 2/\(_/\True)/\True) [0,5,7] [(6,vi (y+W.2))] [62] [(0,bx (gC W.1))] ⟨Q2 (W6 E1) Tryz.call72 [(0,0)],⟨i1,⟨⟩⟩,⟨⟩⟩ (Kn.R Fm (L0 ((y+W.2),W.1.l_,W.1.at_,(E++([(⟨y,((ByteArray.mk #[115])++A),q.2,O,D.2,0,B.2⟩:Scheme)]:List Scheme))) h))
     ·refine AW.seq ?_
      obtain ⟨H,A1,h⟩:=bS h;refine Q5 Fm [.s,.k _,.s] (k1 1) [0,5,6,7,8,9] [(10,vi H.2)] [5,8] [(0,bx (gC H.1))] ⟨Q2 (W6 A1) Tryz.call72 [(0,0)],⟨⟩⟩ (AW.block (Kn.w Fm [(0,pt 0),(5,ow 5),(6,vi y),(7,vi G),(8,pt 8),(9,vi 0),(10,vi H.2)] [(8,bx [ci y,.d (.str ((ByteArray.mk #[115])++A)),ci q.2.op_,ci q.2.num_,ci q.2.more_,.d (DL q.2.kids_),f0,ci D.2,ci 0,.d (.bool B.2)]),(0,bx (gC H.1)),(5,AO E)] (Y0i Fm (i:=8) (k:=906) (es:=2) (j:=6) (f':=LF (α:=Bracket) []) (by kernel_rfl) (by kernel_rfl) (by simp) rfl (Kn.w Fm [(0,pt 0),(5,ow 5),(6,vi y),(7,vi G),(8,pt 8),(9,vi 0),(10,vi H.2)] [(0,bx (gC H.1)),(5,AO E),(8,bx [ci y,.d (.str ((ByteArray.mk #[115])++A)),ci q.2.op_,ci q.2.num_,ci q.2.more_,.d (DL q.2.kids_),.own 906,ci D.2,ci 0,.d (.bool B.2)]),(906,AO ([]:List Bracket))] (Kn.w Fm [(0,pt 0),(5,ow 5),(6,vi y),(7,vi G),(8,pt 8),(9,vi 0),(10,vi H.2)] [(0,bx [.d (DL H.1.l_),ci H.1.at_]),(5,AO E),(8,bx [ci y,.d (.str ((ByteArray.mk #[115])++A)),ci q.2.op_,ci q.2.num_,ci q.2.more_,.d (DL q.2.kids_),.own 906,ci D.2,ci 0,.d (.bool B.2)]),(906,AO ([]:List Bracket))] ?_)))))
      refine Z5 (E':=fun z=>[(0,pt 0),(5,ow 5),(6,vi y),(7,vi G),(8,pt 8),(9,vi z.1),(10,vi z.2.1)]) (S':=fun z=>[(0,bx [.d (DL z.2.2.1),ci z.2.2.2.1]),(5,AO E),(8,bx [ci y,.d (.str ((ByteArray.mk #[115])++A)),ci q.2.op_,ci q.2.num_,ci q.2.more_,.d (DL q.2.kids_),.own 906,ci D.2,ci 0,.d (.bool B.2)]),(906,AO z.2.2.2.2)]) (fun q2 z d2 I0 h=>?_) h;obtain ⟨M,d0,I1,K1,X⟩:=z
      refine AW.seq (Q0 Fm 2 [0,5,6,7,8,9,10] [(43,vb (decide ((0:Int)<d0)))] [0,5,8,906] [] (Q3 h (fun U0 h=>?_) (fun U0 h=>?_)))
      ·refine AW.skip (AW.seq (AW.block (AW.seq ?_)))
       obtain ⟨I,B1,h⟩:=bS h;obtain ⟨b1,h⟩:=gS h
       refine Q5 Fm [.s,.s,.k _,.s,.s] (fun K=>K 2/\(_/\True)/\True) [0,5,6,7,8,10] [(9,vi (M+I.2))] [5,8,906] [(0,bx (gC I.1))] ⟨Q2 (W6 B1) Tryz.call72 [(0,0)],⟨b1,⟨⟩⟩,⟨⟩⟩ ?_;obtain ⟨L,D1,h⟩:=bS h
       obtain ⟨c1,h⟩:=gS h;refine Z1C Fm (sA 4 [.k _,.s,.w (AL [(⟨(M+I.2),L.2⟩:Bracket)]),.s,.s,.s]) (fun K=>K 4/\_/\(_/\_/\True)/\True) [0,5,6,7,8,9,10] [] [5] [(0,bx (gC L.1)),(8,bx [ci y,.d (.str ((ByteArray.mk #[115])++A)),ci q.2.op_,ci q.2.num_,ci q.2.more_,.d (DL q.2.kids_),.own 57,ci D.2,ci 0,.d (.bool B.2)]),(57,AO (X++([(⟨(M+I.2),L.2⟩:Bracket)]:List Bracket)))] ⟨Q2 (Z4 D1) Tryz.call18 [(0,0)],Q8h (⟨(M+I.2),L.2⟩:Bracket),⟨c1,lfl ([(⟨(M+I.2),L.2⟩:Bracket)]:List Bracket),⟨⟩⟩,⟨⟩⟩ [(57,rAp X ([(⟨(M+I.2),L.2⟩:Bracket)]:List Bracket))] ⟨oAp,⟨⟩⟩ ?_
       obtain ⟨d1,h⟩:=gS h;exact Q1 Fm [.s,.s,.s] [0,5,6,7,8,9] [(10,vi (d0-1))] [0,5,8,57] [] (cT (cT d1)) (Q1e Fm [(906,57)] (I0 ((M+I.2),(d0-1),L.1.l_,L.1.at_,(X++([(⟨(M+I.2),L.2⟩:Bracket)]:List Bracket))) h))
      ·exact AW.exit (Kn.R Fm (K0 (I1,K1,X) h))
   ·exact AW.exit (Kn.R Fm (M0 (p0,q0,E) h))
  ·rcases Z6 h with ⟨a0,h⟩|⟨a0,h⟩
   ·exact Q1 Fm [.s,.s,.w (vb true),.s,.s,.s] [0,5,6,7] [(26,vb (decide (y<=3)))] [0,5] [] (cT (ALe.bool a0)) (Kn.R Fm (j0 (decide (y<=3)) h))
   ·exact Q1 Fm [.s,.s,.w (vb false),.s,.s,.s] [0,5,6,7] [(26,vb false)] [0,5] [] (cT (ALe.bool a0)) (Kn.R Fm (j0 false h))
theorem Z8J {F c d r} (h:Q9D F c d=some r) :
  Q7 Tryz.prog 98 [AL c,AL d] [] (vb r) []:=by
 refine FJ Tryz.func98 fun C Fm=>?_
 unfold Q9D at h;refine Q0 Fm 1 [0,1] [] [] [] (AW.seq (Q0 Fm 5 [0,1] [(10,vb ((lI c) != (lI d)))] [] [] (Q3 h (fun j h=>?_) (fun j h=>?_))))
 ·exact Q0 Fm 1 [] [(4,vb false)] [] [] (Z2 Fm h)
 ·refine AW.skip (Q6 (r:=r) (fun z:Unit=>Z4U F) [] nn [] nn (fun z h=>?_) (fun u i=>?_))
  ·exact Q0 Fm 1 [] [(4,vb true)] [] [] (Z2 Fm h)
  ·refine Q0 Fm 3 [0,1] [(12,vi (lI c)),(13,vi 0)] [] [] (AW.block (Kn.w Fm [(0,AL c),(1,AL d),(12,vi (lI c)),(13,vi 0)] [] ?_))
   refine Z5 (E':=fun z=>[(0,AL c),(1,AL d),(12,vi (lI c)),(13,vi z)]) (S':=fun z=>[]) (fun y a t e h=>?_) h;refine Q0 Fm 1 [0,1,12,13] [(14,vb (decide (a<(lI c))))] [] [] (AW.seq (Q3 h (fun l h=>?_) (fun l h=>?_)))
   ·refine AW.skip (AW.seq (AW.block (Q0 Fm 2 [0,1,12,13] [(5,vi a)] [] [] ?_)))
    obtain ⟨n,o,h⟩:=gS2 h;refine Q1K Fm (sA 8 [.k (sE (vb (!((((gn c a).L_)==((gn d a).L_))&&((((gn c a).w_)==((gn d a).w_))&&((((gn c a).R_)==((gn d a).R_))&&((((gn c a).H_)==((gn d a).H_))&&true)))))))]) (fun K=>_/\_/\K 8/\True) [0,1,12,13] [(24,vb (!((((gn c a).L_)==((gn d a).L_))&&((((gn c a).w_)==((gn d a).w_))&&((((gn c a).R_)==((gn d a).R_))&&((((gn c a).H_)==((gn d a).H_))&&true))))))] [] [] ⟨n,o,Y5H (xs:=[ci ((gn c a).L_),ci ((gn c a).w_),ci ((gn c a).R_),ci ((gn c a).H_)]) (ys:=[ci ((gn d a).L_),ci ((gn d a).w_),ci ((gn d a).R_),ci ((gn d a).H_)]) W0r false (b:=((((gn c a).L_)==((gn d a).L_))&&((((gn c a).w_)==((gn d a).w_))&&((((gn c a).R_)==((gn d a).R_))&&((((gn c a).H_)==((gn d a).H_))&&true))))) rfl rfl (by kernel_rfl) (by kernel_rfl) (by kernel_rfl) (by kernel_rfl),⟨⟩⟩ ?_
    refine Q3 h (fun m h=>?_) (fun m h=>?_)
    ·exact Q0 Fm 1 [] [(4,vb false)] [] [] (Z2 Fm h)
    ·refine AW.skip ?_
     obtain ⟨p,h⟩:=gS h;exact Q1 Fm [.s,.s] [0,1,12] [(13,vi (a+1))] [] [] (cT (cT p)) (Kn.R Fm (e (a+1) h))
   ·exact AW.exit (Kn.R Fm (i () h))
theorem V2 {F a r} (h:Q0N F a=some r) :
  Q7 Tryz.prog 67 [.v (.g [.d (DL a.t_)])] [] (vb r) []:=by
 refine FJ Tryz.func67 fun C Fm=>?_
 unfold Q0N at h;refine Q0 Fm 2 [] [(1,pt 1)] [] [(1,bx [.d (DL a.t_)])] (AW.seq (Q0 Fm 4 [1] [(8,vb (decide ((120:Int)<(lI a.t_))))] [1] [] (Q3 h (fun j h=>?_) (fun j h=>?_))))
 ·exact Q0 Fm 1 [] [(2,vb false)] [] [] (Z2 Fm h)
 ·refine AW.skip (Q6 (r:=r) (fun z:Unit=>Z1k F a) [1] nn [1] nn (fun z h=>?_) (fun G i=>?_))
  ·refine AW.seq ?_
   obtain ⟨B,u,h⟩:=bS h;obtain ⟨D,y,h⟩:=bS h
   exact Q5 Fm [.s,.s,.k (cE [] [] (AL B) [] []),.s,.s,.k _,.s] (k2 2 5) [] [(2,vb D)] [] [] ⟨KAt.cX (G8 u) Tryz.call74 [] [] [.tmp 21,.const (.slice none 0 0),.const (.int .i64 1)] ⟨.p,y7.plain (by kernel_rfl) (ALe.c (CLe.fl .nil)) (by kernel_rfl),.p,⟨⟩⟩,Q2 (Z8J y) Tryz.call98 [],⟨⟩⟩ (Z2 Fm h)
  ·refine Q0 Fm 4 [1] [(10,AL a.t_),(11,vi (lI a.t_)),(12,vi 0)] [1] [] (AW.block (Kn.w Fm [(1,pt 1),(10,AL a.t_),(11,vi (lI a.t_)),(12,vi 0)] [(1,bx [.d (DL a.t_)])] ?_))
   refine Z5 (E':=fun z=>[(1,pt 1),(10,AL a.t_),(11,vi (lI a.t_)),(12,vi z)]) (S':=fun z=>[(1,bx [.d (DL a.t_)])]) (fun H b E e h=>?_) h;refine Q0 Fm 1 [1,10,11,12] [(13,vb (decide (b<(lI a.t_))))] [1] [] (AW.seq (Q3 h (fun l h=>?_) (fun l h=>?_)))
   ·refine AW.skip (AW.seq (AW.block ?_))
    obtain ⟨n,h⟩:=gS h;refine Y4 Fm (sA 4 []) [1,10,11,12] [(4,pt 4)] [1] [(4,bx [ci ((gn a.t_ b).L_),ci ((gn a.t_ b).w_),ci ((gn a.t_ b).R_),ci ((gn a.t_ b).H_)])] (cT n) (AW.seq ?_)
    obtain ⟨A,t,h⟩:=bS h;refine Q5 Fm [.s,.k _,.s] (k1 1) [1,10,11,12] [(18,vb (!A))] [1] [] ⟨Q2 (Q7Z t) Tryz.call124 [],⟨⟩⟩ (Q3 h (fun m h=>?_) (fun m h=>?_))
    ·exact Q0 Fm 1 [] [(2,vb false)] [] [] (Z2 Fm h)
    ·refine AW.skip ?_
     obtain ⟨o,h⟩:=gS h;exact Q1 Fm [.s,.s] [1,10,11] [(12,vi (b+1))] [1] [] (cT (cT o)) (Kn.R Fm (e (b+1) h))
   ·exact AW.exit (Kn.R Fm (i () h))
theorem Z8K {F i j r} (h:Q9E F i j=some r) :
  Q7 Tryz.prog 39 [.v (.g [.d (DL i.t_)]),.v (.g [.d (DL j.t_)])] [] (vb r) []:=by
 refine FJ Tryz.func39 fun C Fm=>?_
 unfold Q9E at h;refine Q0 Fm 3 [] [(2,pt 2),(3,pt 3)] [] [(2,bx [.d (DL i.t_)]),(3,bx [.d (DL j.t_)])] (Q6 (r:=r) (fun z:Bool=>Q5n F z) [] (fun z=>[(4,vb z)]) [] nn (fun p h=>?_) (fun o b=>?_))
 ·exact Z2 Fm h
 ·obtain ⟨t,e,h⟩:=bS h
  rcases Z6 h with ⟨a,h⟩|⟨a,h⟩
  ·obtain ⟨u,l,h⟩:=bS h
   rcases Z6 h with ⟨c,h⟩|⟨c,h⟩
   ·obtain ⟨m,n,h⟩:=bS h
    exact Q5 Fm [.s,.k _,.w (vb true),.s,.k _,.s,.w (vb true),.s,.s,.s,.s,.k _,.s,.s,.s,.s] (fun K=>K 1/\_/\K 4/\_/\K 11/\True) [] [(4,vb (decide ((0:Int)<(lI m))))] [] [] ⟨Q2 (V2 e) Tryz.call67 [],ALe.bool a,Q2 (V2 l) Tryz.call67 [],ALe.bool c,Q2 (G8 n) Tryz.call74 [],⟨⟩⟩ (Kn.R Fm (b (decide ((0:Int)<(lI m))) h))
   ·exact Q5 Fm (sZ 9 [.s,.k _,.w (vb true),.s,.k _,.s,.w (vb false)]) (fun K=>K 1/\_/\K 4/\_/\True) [] [(4,vb false)] [] [] ⟨Q2 (V2 e) Tryz.call67 [],ALe.bool a,Q2 (V2 l) Tryz.call67 [],ALe.bool c,⟨⟩⟩ (Kn.R Fm (b false h))
  ·exact Q5 Fm (sZ 13 [.s,.k _,.w (vb false)]) (fun K=>K 1/\_/\True) [] [(4,vb false)] [] [] ⟨Q2 (V2 e) Tryz.call67 [],ALe.bool a,⟨⟩⟩ (Kn.R Fm (b false h))
theorem Z8H {F a r} (h:Q9B F a=some r) :
  Q7 Tryz.prog 94 [AL a] [] (vi r) []:=by
 refine FJ Tryz.func94 fun C Fm=>?_
 unfold Q9B at h;refine Q0 Fm 1 [0] [] [] [] (AW.seq (Q0 Fm 3 [0] [(11,vb (decide ((200:Int)<(lI a))))] [] [] (Q3 h (fun b0 h=>?_) (fun b0 h=>?_))))
 ·exact Q0 Fm 1 [] [(2,vi 1)] [] [] (Z2 Fm h)
 ·refine AW.skip (Q6 (r:=r) (fun z:Unit=>Q5i F a) [0] nn [] nn (fun z h=>?_) (fun H0 W=>?_))
  ·refine Q6 (r:=r) (fun z:Unit=>Z3P F) [] nn [] nn (fun z h=>?_) (fun N0 a0=>?_)
   ·exact Q0 Fm 1 [] [(2,vi 0)] [] [] (Z2 Fm h)
   ·refine Q0 Fm 3 [0] [(85,AL a),(86,vi (lI a)),(87,vi 0)] [] [] (AW.block (Kn.w Fm [(0,AL a),(85,AL a),(86,vi (lI a)),(87,vi 0)] [] ?_))
    refine Z5 (E':=fun z=>[(0,AL a),(85,AL a),(86,vi (lI a)),(87,vi z)]) (S':=fun z=>[]) (fun T b I0 X h=>?_) h;refine Q0 Fm 1 [0,85,86,87] [(88,vb (decide (b<(lI a))))] [] [] (AW.seq (Q3 h (fun k0 h=>?_) (fun k0 h=>?_)))
    ·refine AW.skip (Q6 (r:=r) (fun z:Unit=>Z1h F b T) [0,85,86,87] nn [] nn (fun z h=>?_) (fun M0 Z=>?_))
     ·obtain ⟨w0,h⟩:=gS h
      exact Q1 Fm [.s,.s] [0,85,86] [(87,vi (b+1))] [] [] (cT (cT w0)) (Kn.R Fm (X (b+1) h))
     ·refine AW.block ?_
      obtain ⟨s0,h⟩:=gS h;refine Y4 Fm (sA 6 []) [0,85,86,87] [(5,vi b),(6,pt 6)] [] [(6,bx [ci ((gn a b).y_),ci ((gn a b).c_),.d (DL (gn a b).g_.t_)])] (cT s0) ?_
      obtain ⟨N,h⟩:=gS h;refine Y4 Fm [.s,.s,.w (AL (a.take b.toNat)),.s,.s] [0,6,85,86,87] [(94,AL (a.take b.toNat)),(95,vi (lI (a.take b.toNat))),(96,vi 0)] [6] [] (cA (⟨N,(Is.refl a).len⟩:((sl (List.length a) (LF a) none (some b)).2/\∀ j,j<List.length a->(LF a j).length=3)) (cT (ALe.lst (Z6k a none (some b) N):ALe (.v (.c (.d (.lst (sl (List.length a) (LF a) none (some b)).1.1 (sl (List.length a) (LF a) none (some b)).1.2)))) (AL (a.take b.toNat))))) (AW.block (Kn.w Fm [(0,AL a),(6,pt 6),(85,AL a),(86,vi (lI a)),(87,vi b),(94,AL (a.take b.toNat)),(95,vi (lI (a.take b.toNat))),(96,vi 0)] [(6,bx [ci ((gn a b).y_),ci ((gn a b).c_),.d (DL (gn a b).g_.t_)])] ?_))
      refine Z5 (E':=fun z=>[(0,AL a),(6,pt 6),(85,AL a),(86,vi (lI a)),(87,vi b),(94,AL (a.take b.toNat)),(95,vi (lI (a.take b.toNat))),(96,vi z)]) (S':=fun z=>[(6,bx [ci ((gn a b).y_),ci ((gn a b).c_),.d (DL (gn a b).g_.t_)])]) (fun U i K0 Y h=>?_) h;refine Q0 Fm 1 [0,6,85,86,87,94,95,96] [(97,vb (decide (i<(lI (a.take b.toNat)))))] [6] [] (AW.seq (Q3 h (fun l0 h=>?_) (fun l0 h=>?_)))
      ·refine AW.skip (AW.seq (AW.block ?_))
       obtain ⟨t0,h⟩:=gS h;refine Y4 Fm (sA 4 []) [0,6,85,86,87,94,95,96] [(8,pt 8)] [6] [(8,bx [ci ((gn (a.take b.toNat) i).y_),ci ((gn (a.take b.toNat) i).c_),.d (DL (gn (a.take b.toNat) i).g_.t_)])] (cT t0) (Q6 (r:=r) (fun z:Bool=>Q5h F i U z) [0,6,85,86,87,94,95,96] (fun z=>[(111,vb z)]) [6] nn (fun U0 h=>?_) (fun L0 I=>?_))
       ·refine Q3 h (fun m0 h=>?_) (fun m0 h=>?_)
        ·exact Q0 Fm 1 [] [(2,vi 11)] [] [] (Z2 Fm h)
        ·refine AW.skip ?_
         obtain ⟨u0,h⟩:=gS h;exact Q1 Fm [.s,.s] [0,6,85,86,87,94,95] [(96,vi (i+1))] [6] [] (cT (cT u0)) (Kn.R Fm (Y (i+1) h))
       ·rcases Z6 h with ⟨A,h⟩|⟨A,h⟩
        ·obtain ⟨P,y0,h⟩:=bS h
         exact Q5 Fm (sA 5 [.w (vb true),.s,.s,.s,.s,.k _,.s]) (fun K=>_/\K 10/\True) [0,6,85,86,87,94,95,96] [(111,vb P)] [6] [] ⟨ALe.bool A,Q2 (Z8K y0) Tryz.call39 [],⟨⟩⟩ (Kn.R Fm (I P h))
        ·exact Q1 Fm (sA 5 (sZ 6 [.w (vb false)])) [0,6,85,86,87,94,95,96] [(111,vb false)] [6] [] (cT (ALe.bool A)) (Kn.R Fm (I false h))
      ·exact AW.exit (Kn.R Fm (Z () h))
    ·exact AW.exit (Kn.R Fm (a0 () h))
  ·refine Q0 Fm 3 [0] [(12,AL a),(13,vi (lI a)),(14,vi 0)] [] [] (AW.block (Kn.w Fm [(0,AL a),(12,AL a),(13,vi (lI a)),(14,vi 0)] [] ?_))
   refine Z5 (E':=fun z=>[(0,AL a),(12,AL a),(13,vi (lI a)),(14,vi z)]) (S':=fun z=>[]) (fun m e A0 V h=>?_) h;refine Q0 Fm 1 [0,12,13,14] [(15,vb (decide (e<(lI a))))] [] [] (AW.seq (Q3 h (fun c0 h=>?_) (fun c0 h=>?_)))
   ·refine AW.skip (AW.seq (AW.block ?_))
    obtain ⟨n0,h⟩:=gS h;refine Y4 Fm (sA 6 []) [0,12,13,14] [(3,vi e),(4,pt 4)] [] [(4,bx [ci ((gn a e).y_),ci ((gn a e).c_),.d (DL (gn a e).g_.t_)])] (cT n0) (AW.seq (AW.block (Q6 (r:=r) (fun z:Bool=>Q5l F a e m z) [0,3,4,12,13,14] (fun z=>[(19,vb z)]) [4] nn (fun O0 h=>?_) (fun B0 E=>?_))))
    ·refine Q3 h (fun d0 h=>?_) (fun d0 h=>?_)
     ·exact Q0 Fm 1 [] [(2,vi 18)] [] [] (Z2 Fm h)
     ·refine Q6 (r:=r) (fun z:Bool=>Q5k F a e m z) [0,3,4,12,13,14] (fun z=>[(28,vb z)]) [4] nn (fun P0 h=>?_) (fun D0 G=>?_)
      ·refine Q3 h (fun e0 h=>?_) (fun e0 h=>?_)
       ·exact Q0 Fm 1 [] [(2,vi 13)] [] [] (Z2 Fm h)
       ·refine Q6 (r:=r) (fun z:Bool=>Q5j F a e m z) [0,3,4,12,13,14] (fun z=>[(37,vb z)]) [4] nn (fun R0 h=>?_) (fun E0 H=>?_)
        ·refine Q3 h (fun i0 h=>?_) (fun i0 h=>?_)
         ·exact Q0 Fm 1 [] [(2,vi 7)] [] [] (Z2 Fm h)
         ·refine AW.skip (Q6 (r:=r) (fun z:Bool=>Q2b F e m z) [0,12,13,14] (fun z=>[(83,vb z)]) [] nn (fun T0 h=>?_) (fun G0 n=>?_))
          ·refine Q3 h (fun j0 h=>?_) (fun j0 h=>?_)
           ·exact Q0 Fm 1 [] [(2,vi 3)] [] [] (Z2 Fm h)
           ·refine AW.skip ?_
            obtain ⟨q0,h⟩:=gS h;exact Q1 Fm [.s,.s] [0,12,13] [(14,vi (e+1))] [] [] (cT (cT q0)) (Kn.R Fm (V (e+1) h))
          ·rcases Z6 h with ⟨l,h⟩|⟨l,h⟩
           ·obtain ⟨B,D,h⟩:=gS2 h
            rcases Z6 h with ⟨o,h⟩|⟨o,h⟩
            ·exact Q1 Fm ((sZ 15 [.s,.s,.w (vb true),.s,.s,.s,.s,.s,.s,.s,.s,.s,.w (vb true)])++(sA 7 [])) [0,12,13,14] [(83,vb true)] [] [] (cA (ALe.bool l) (cA (cT B) (cA D (cT (ALe.bool o))))) (Kn.R Fm (n true h))
            ·obtain ⟨L,M,h⟩:=gS2 h
             rcases Z6 h with ⟨y,h⟩|⟨y,h⟩
             ·obtain ⟨o0,p0,h⟩:=gS2 h
              exact Q1 Fm ((sZ 5 [.s,.s,.w (vb true),.s,.s,.s,.s,.s,.s,.s,.s,.s,.w (vb false),.s,.s,.s,.s,.s,.s,.s,.s,.s,.w (vb true)])++(sA 7 [])) [0,12,13,14] [(83,vb (decide (((gn a e).c_)<=((gn a (e-1)).c_))))] [] [] (cA (ALe.bool l) (cA (cT B) (cA D (cA (ALe.bool o) (cA (cT L) (cA M (cA (ALe.bool y) (cA (cT o0) (cT p0))))))))) (Kn.R Fm (n (decide (((gn a e).c_)<=((gn a (e-1)).c_))) h))
             ·exact Q1 Fm ((sZ 5 [.s,.s,.w (vb true),.s,.s,.s,.s,.s,.s,.s,.s,.s,.w (vb false),.s,.s,.s,.s,.s,.s,.s,.s,.s,.w (vb false)])++(sA 7 [])) [0,12,13,14] [(83,vb false)] [] [] (cA (ALe.bool l) (cA (cT B) (cA D (cA (ALe.bool o) (cA (cT L) (cA M (cT (ALe.bool y)))))))) (Kn.R Fm (n false h))
           ·exact Q1 Fm ((sZ 25 [.s,.s,.w (vb false)])++(sA 7 [])) [0,12,13,14] [(83,vb false)] [] [] (cT (ALe.bool l)) (Kn.R Fm (n false h))
        ·obtain ⟨V0,O,h⟩:=bS h
         rcases Z6 h with ⟨u,h⟩|⟨u,h⟩
         ·exact Q5 Fm (sZ 7 [.s,.s,.k _,.s,.w (vb true)]) (fun K=>K 2/\_/\True) [0,3,4,12,13,14] [(37,vb true)] [4] [] ⟨Q2 (V2 O) Tryz.call67 [],ALe.bool u,⟨⟩⟩ (Kn.R Fm (H true h))
         ·exact Q5 Fm (sZ 7 [.s,.s,.k _,.s,.w (vb false)]) (fun K=>K 2/\_/\True) [0,3,4,12,13,14] [(37,vb ((lI ((gn a e).g_.t_))==0))] [4] [] ⟨Q2 (V2 O) Tryz.call67 [],ALe.bool u,⟨⟩⟩ (Kn.R Fm (H ((lI ((gn a e).g_.t_))==0) h))
      ·rcases Z6 h with ⟨t,h⟩|⟨t,h⟩
       ·exact Q1 Fm (sZ 5 [.s,.s,.s,.w (vb true)]) [0,3,4,12,13,14] [(28,vb true)] [4] [] (cT (ALe.bool t)) (Kn.R Fm (G true h))
       ·exact Q1 Fm (sZ 5 [.s,.s,.s,.w (vb false)]) [0,3,4,12,13,14] [(28,vb (decide ((40:Int)<=((gn a e).c_))))] [4] [] (cT (ALe.bool t)) (Kn.R Fm (G (decide ((40:Int)<=((gn a e).c_))) h))
    ·rcases Z6 h with ⟨p,h⟩|⟨p,h⟩
     ·exact Q1 Fm (sZ 5 [.s,.s,.s,.w (vb true)]) [0,3,4,12,13,14] [(19,vb true)] [4] [] (cT (ALe.bool p)) (Kn.R Fm (E true h))
     ·exact Q1 Fm (sZ 5 [.s,.s,.s,.w (vb false)]) [0,3,4,12,13,14] [(19,vb (decide ((100:Int)<((gn a e).y_))))] [4] [] (cT (ALe.bool p)) (Kn.R Fm (E (decide ((100:Int)<((gn a e).y_))) h))
   ·exact AW.exit (Kn.R Fm (W () h))
theorem Y0N {F a p i A r} (h:Z2B F a p i A=some r) :
  Q7 Tryz.prog 129 [AL a,vi p,vi i,.v (.g [.d (DL A.t_)])] [] (.t [.c (.d (DL r.1)),.c (ci r.2)]) []:=by
 refine FJ Tryz.func129 fun C Fm=>?_
 unfold Z2B at h;refine Q0 Fm 3 [0,1,2] [(7,pt 7)] [] [(7,bx [.d (DL A.t_)])] (AW.seq (AW.seq ?_))
 obtain ⟨O,c1,h⟩:=bS h;refine Q5 Fm [.s,.k _,.s] (k1 1) [0,1,2,7] [(10,vi O)] [7] [] ⟨Q2 (Z8H c1) Tryz.call94 [],⟨⟩⟩ (Q0 Fm 2 [0,1,2,7,10] [(21,vb (O != (0:Int)))] [7] [] (Q3 h (fun A0 h=>?_) (fun A0 h=>?_)))
 ·refine Q0 Fm 3 [] [(8,.v (.c f0)),(9,vi O)] [] [] (AW.ret ?_)
  obtain rfl:=Option.some.inj h;exact Kn.w Fm [(8,.v (.c f0)),(9,vi O)] [] (Q7n [(8,AL (α:=Rg_) []),(9,vi O)] [] ⟨rfl,ALe.c (CLe.fl .nil),⟨rfl,ALe.c (CLe.refl _),⟨⟩⟩⟩ True.intro (Kn.D Fm))
 ·refine AW.skip (AW.seq (AW.block (Q6 (r:=r) (fun z:Bool=>Q7W F a p i A z) [0,1,2,7] (fun z=>[(23,vb z)]) [7] nn (fun H1 h=>?_) (fun n1 b0=>?_))))
  ·refine Q3 h (fun B0 h=>?_) (fun B0 h=>?_)
   ·refine Q0 Fm 2 [] [(8,.v (.c f0)),(9,vi 18)] [] [] (AW.ret ?_)
    obtain rfl:=Option.some.inj h;exact Kn.w Fm [(8,.v (.c f0)),(9,vi 18)] [] (Q7n [(8,AL (α:=Rg_) []),(9,vi 18)] [] ⟨rfl,ALe.c (CLe.fl .nil),⟨rfl,ALe.c (CLe.refl _),⟨⟩⟩⟩ True.intro (Kn.D Fm))
   ·refine Q6 (r:=r) (fun z:Bool=>Q7V F a p i A z) [0,1,2,7] (fun z=>[(30,vb z)]) [7] nn (fun I1 h=>?_) (fun o1 c0=>?_)
    ·refine Q3 h (fun D0 h=>?_) (fun D0 h=>?_)
     ·refine Q0 Fm 2 [] [(8,.v (.c f0)),(9,vi 13)] [] [] (AW.ret ?_)
      obtain rfl:=Option.some.inj h;exact Kn.w Fm [(8,.v (.c f0)),(9,vi 13)] [] (Q7n [(8,AL (α:=Rg_) []),(9,vi 13)] [] ⟨rfl,ALe.c (CLe.fl .nil),⟨rfl,ALe.c (CLe.refl _),⟨⟩⟩⟩ True.intro (Kn.D Fm))
     ·refine AW.seq ?_
      obtain ⟨m1,d1,h⟩:=bS h;refine Q5 Fm [.s,.k _,.s,.s] (k1 1) [0,1,2,7] [(37,vb (!m1))] [7] [] ⟨Q2 (V2 d1) Tryz.call67 [],⟨⟩⟩ (Q3 h (fun E0 h=>?_) (fun E0 h=>?_))
      ·refine Q0 Fm 2 [] [(8,.v (.c f0)),(9,vi 7)] [] [] (AW.ret ?_)
       obtain rfl:=Option.some.inj h;exact Kn.w Fm [(8,.v (.c f0)),(9,vi 7)] [] (Q7n [(8,AL (α:=Rg_) []),(9,vi 7)] [] ⟨rfl,ALe.c (CLe.fl .nil),⟨rfl,ALe.c (CLe.refl _),⟨⟩⟩⟩ True.intro (Kn.D Fm))
      ·refine AW.skip (Q0 Fm 3 [0,1,2,7] [(11,AL A.t_)] [7] [] (y8 Fm [.m] (fun K=>True) [0,1,2,7,11] [(12,ow 12)] [7] [(12,AO ([]:List Rg_))] True.intro [(12,.arr 3 (0) nn)] ⟨OLe.is ((Is.nil (α:=Rg_))),⟨⟩⟩ (Q6 (r:=r) (fun z:(List Rect)×(List Rg_)=>Q7S F p i z.1 z.2) [1,2,12] (fun z=>[(11,AL z.1)]) [] (fun z=>[(12,AO z.2)]) (fun z h=>?_) (fun u1 s0=>?_))))
       ·obtain ⟨q,b⟩:=z
        refine Q6 (r:=r) (fun z:(List Rg_)=>Q6o F z) [] (fun _=>[(12,ow 137)]) [] (fun z=>[(137,AO z)]) (fun y h=>?_) (fun B1 i0=>?_)
        ·refine AW.seq (Q0 Fm 3 [12] [(140,vb (decide ((200:Int)<(lI y))))] [137] [] (Q3 h (fun N0 h=>?_) (fun N0 h=>?_)))
         ·refine Q0 Fm 2 [] [(8,.v (.c f0)),(9,vi 1)] [] [] (AW.ret ?_)
          obtain rfl:=Option.some.inj h;exact Kn.w Fm [(8,.v (.c f0)),(9,vi 1)] [] (Q7n [(8,AL (α:=Rg_) []),(9,vi 1)] [] ⟨rfl,ALe.c (CLe.fl .nil),⟨rfl,ALe.c (CLe.refl _),⟨⟩⟩⟩ True.intro (Kn.D Fm))
         ·refine AW.skip (Q6 (r:=r) (fun z:Unit=>Z6p F y) [12] nn [137] nn (fun z h=>?_) (fun E1 y0=>?_))
          ·refine Y3r Fm 3 [(8,ow 137),(9,vi 0)] [(137,AO y)] (AW.ret ?_)
           obtain rfl:=Option.some.inj h;exact Kn.w Fm [(8,ow 137),(9,vi 0)] [(137,AO y)] (Q1F [(8,AL y),(9,vi 0)] [] (Kn.D Fm))
          ·refine Q0 Fm 3 [12] [(141,ow 137),(142,vi (lI y)),(143,vi 0)] [137] [] (AW.block (Kn.w Fm [(12,ow 137),(141,ow 137),(142,vi (lI y)),(143,vi 0)] [(137,AO y)] ?_))
           refine Z5 (E':=fun z=>[(12,ow 137),(141,ow 137),(142,vi (lI y)),(143,vi z)]) (S':=fun z=>[(137,AO y)]) (fun G1 G D1 w0 h=>?_) h;refine Q0 Fm 1 [12,141,142,143] [(144,vb (decide (G<(lI y))))] [137] [] (AW.seq (Q3 h (fun O0 h=>?_) (fun O0 h=>?_)))
           ·refine AW.skip (AW.seq (AW.block ?_))
            obtain ⟨m0,h⟩:=gS h;refine Y4 Fm (sA 4 []) [12,141,142,143] [(17,pt 17)] [137] [(17,bx [ci ((gn y G).y_),ci ((gn y G).c_),.d (DL (gn y G).g_.t_)])] (cA m0 (cT (Y6 m0))) (Q0 Fm 5 [12,141,142,143] [(151,vb (decide ((120:Int)<(lI ((gn y G).g_.t_)))))] [137] [] (Q3 h (fun P0 h=>?_) (fun P0 h=>?_)))
            ·refine Q0 Fm 2 [] [(8,.v (.c f0)),(9,vi 1)] [] [] (AW.ret ?_)
             obtain rfl:=Option.some.inj h;exact Kn.w Fm [(8,.v (.c f0)),(9,vi 1)] [] (Q7n [(8,AL (α:=Rg_) []),(9,vi 1)] [] ⟨rfl,ALe.c (CLe.fl .nil),⟨rfl,ALe.c (CLe.refl _),⟨⟩⟩⟩ True.intro (Kn.D Fm))
            ·refine AW.skip ?_
             obtain ⟨b1,h⟩:=gS h;exact Q1 Fm [.s,.s] [12,141,142] [(143,vi (G+1))] [137] [] (cT (cT b1)) (Kn.R Fm (w0 (G+1) h))
           ·exact AW.exit (Kn.R Fm (y0 () h))
        ·refine Q0 Fm 3 [1,2,11,12] [(88,vb (decide ((0:Int)<(lI q))))] [12] [] (Q3 h (fun L0 h=>?_) (fun L0 h=>?_))
         ·refine Q0 Fm 1 [1,2,11,12] [(15,vi 0)] [12] [] (Q6 (r:=r) (fun z:Int=>Z0G F p i q b z) [1,2,11,12] (fun z=>[(15,vi z)]) [12] nn (fun o h=>?_) (fun A1 u0=>?_))
          ·obtain ⟨W0,k0,X0,Y0,h⟩:=gS4 h
           obtain ⟨Z0,l0,a1,h⟩:=gS3 h;refine Y9f Fm [.m,.s,.s,.k (rE { v:=.v (.c (.sub 12 3 0 ((o).toNat))) }),.s,.s,.s,.s,.s,.s,.w (AL [(⟨p,i,(⟨q⟩:Re_)⟩:Rg_)]),.s,.s,.s,.k (rE { v:=.v (.c (.sub 12 3 (0+(o).toNat) ((List.length b)-(o).toNat))) }),.s,.s] (fun K=>K 3/\(_/\_/\True)/\_/\(_/\_/\True)/\K 14/\(_/\_/\True)/\True) [(12,ow 137)] [(137,AO (((([]:List Rg_)++((b.drop 0).take ((o).toNat)))++([(⟨p,i,(⟨q⟩:Re_)⟩:Rg_)]:List Rg_))++((b.drop (0+(o).toNat)).take ((List.length b)-(o).toNat))))] ⟨Q7a (l:=none) (u:=(some o)) (id:=12) (lo0:=0) (n:=(List.length b)) (N:=List.length b) (f:=LF b) Q0b Y7B rfl rfl (by kernel_rfl) (by kernel_rfl) (by kernel_rfl) (by kernel_rfl) (by kernel_rfl) W0 (by kernel_rfl),⟨X0,(Is.subv (l:=b) (lo:=0) (n:=((o).toNat)) k0:Is (((o).toNat)) (fun j=>LF b (0+j)) ((b.drop 0).take ((o).toNat))).len,⟨⟩⟩,Q8h (⟨p,i,(⟨q⟩:Re_)⟩:Rg_),⟨Y0,(Is.refl ([(⟨p,i,(⟨q⟩:Re_)⟩:Rg_)]:List Rg_):Is (List.length ([(⟨p,i,(⟨q⟩:Re_)⟩:Rg_)]:List Rg_)) (LF ([(⟨p,i,(⟨q⟩:Re_)⟩:Rg_)]:List Rg_)) ([(⟨p,i,(⟨q⟩:Re_)⟩:Rg_)]:List Rg_)).len,⟨⟩⟩,Q7a (l:=(some o)) (u:=none) (id:=12) (lo0:=0) (n:=(List.length b)) (N:=List.length b) (f:=LF b) Q0b Y7B rfl rfl (by kernel_rfl) (by kernel_rfl) (by kernel_rfl) (by kernel_rfl) (by kernel_rfl) Z0 (by kernel_rfl),⟨a1,(Is.subv (l:=b) (lo:=(0+(o).toNat)) (n:=((List.length b)-(o).toNat)) l0:Is (((List.length b)-(o).toNat)) (fun j=>LF b ((0+(o).toNat)+j)) ((b.drop (0+(o).toNat)).take ((List.length b)-(o).toNat))).len,⟨⟩⟩,⟨⟩⟩ [(137,.arr 3 ((((0)+(((o).toNat)))+(List.length ([(⟨p,i,(⟨q⟩:Re_)⟩:Rg_)]:List Rg_)))+(((List.length b)-(o).toNat))) (Q5w (((0)+(((o).toNat)))+(List.length ([(⟨p,i,(⟨q⟩:Re_)⟩:Rg_)]:List Rg_))) (Q5w ((0)+(((o).toNat))) (Q5w (0) (Z0n 3 []) (fun j=>LF b (0+j))) (LF ([(⟨p,i,(⟨q⟩:Re_)⟩:Rg_)]:List Rg_))) (fun j=>LF b ((0+(o).toNat)+j))))] ⟨OLe.is (Is.app (Is.app (Is.app (Is.lit ([]:List Rg_) (by kernel_rfl)) (Is.subv (l:=b) (lo:=0) (n:=((o).toNat)) k0)) (Is.refl ([(⟨p,i,(⟨q⟩:Re_)⟩:Rg_)]:List Rg_))) (Is.subv (l:=b) (lo:=(0+(o).toNat)) (n:=((List.length b)-(o).toNat)) l0)),⟨⟩⟩ ?_
           exact Kn.R Fm (i0 (((([]:List Rg_)++((b.drop 0).take ((o).toNat)))++([(⟨p,i,(⟨q⟩:Re_)⟩:Rg_)]:List Rg_))++((b.drop (0+(o).toNat)).take ((List.length b)-(o).toNat))) h)
          ·refine AW.block (Kn.w Fm [(1,vi p),(2,vi i),(11,AL q),(12,ow 12),(15,vi 0)] [(12,AO b)] ?_)
           refine Z5 (E':=fun z=>[(1,vi p),(2,vi i),(11,AL q),(12,ow 12),(15,vi z)]) (S':=fun z=>[(12,AO b)]) (fun p0 I w1 t0 h=>?_) h;refine AW.seq (Q6 (r:=r) (fun z:Bool=>Q3N F p i q b I p0 z) [1,2,11,12,15] (fun z=>[(119,vb z)]) [12] nn (fun L1 h=>?_) (fun y1 P=>?_))
           ·refine Q3 h (fun M0 h=>?_) (fun M0 h=>?_)
            ·refine AW.skip (AW.block ?_)
             obtain ⟨V0,h⟩:=gS h;exact Q1 Fm [.s,.s,.s] [1,2,11,12] [(15,vi (I+1))] [12] [] (cT (cT V0)) (Kn.R Fm (t0 (I+1) h))
            ·exact AW.exit (Kn.R Fm (u0 I h))
           ·rcases Z6 h with ⟨L,h⟩|⟨L,h⟩
            ·obtain ⟨H,h⟩:=gS h
             rcases Z6 h with ⟨T,h⟩|⟨T,h⟩
             ·exact Q1 Fm ((sA 4 (sZ 15 [.w (vb true),.s,.s,.s,.s,.s,.s,.s,.w (vb true)]))++[.s,.s,.s]) [1,2,11,12,15] [(119,vb true)] [12] [] (cA (ALe.bool L) (cA H (cA (Y6 H) (cT (ALe.bool T))))) (Kn.R Fm (P true h))
             ·obtain ⟨U,h⟩:=gS h
              rcases Z6 h with ⟨a0,h⟩|⟨a0,h⟩
              ·obtain ⟨j0,h⟩:=gS h
               exact Q1 Fm ((sA 4 (sZ 7 [.w (vb true),.s,.s,.s,.s,.s,.s,.s,.w (vb false),.s,.s,.s,.s,.s,.s,.s,.w (vb true)]))++[.s,.s,.s]) [1,2,11,12,15] [(119,vb (decide (((gn b I).c_)<i)))] [12] [] (cA (ALe.bool L) (cA H (cA (Y6 H) (cA (ALe.bool T) (cA U (cA (Y6 U) (cA (ALe.bool a0) (cA j0 (cT (Y6 j0)))))))))) (Kn.R Fm (P (decide (((gn b I).c_)<i)) h))
              ·exact Q1 Fm ((sA 4 (sZ 7 [.w (vb true),.s,.s,.s,.s,.s,.s,.s,.w (vb false),.s,.s,.s,.s,.s,.s,.s,.w (vb false)]))++[.s,.s,.s]) [1,2,11,12,15] [(119,vb false)] [12] [] (cA (ALe.bool L) (cA H (cA (Y6 H) (cA (ALe.bool T) (cA U (cA (Y6 U) (cT (ALe.bool a0)))))))) (Kn.R Fm (P false h))
            ·exact Q1 Fm ((sA 4 (sZ 23 [.w (vb false)]))++[.s,.s,.s]) [1,2,11,12,15] [(119,vb false)] [12] [] (cT (ALe.bool L)) (Kn.R Fm (P false h))
         ·exact AW.skip (Q1e Fm [(137,12)] (i0 b h))
       ·refine Q0 Fm 3 [1,2,7,11,12] [(43,AL a),(44,vi (lI a)),(45,vi 0)] [7,12] [] (AW.block (Kn.w Fm [(1,vi p),(2,vi i),(7,pt 7),(11,AL A.t_),(12,ow 12),(43,AL a),(44,vi (lI a)),(45,vi 0)] [(7,bx [.d (DL A.t_)]),(12,AO ([]:List Rg_))] ?_))
        refine Z5 (E':=fun z=>[(1,vi p),(2,vi i),(7,pt 7),(11,AL z.1),(12,ow 12),(43,AL a),(44,vi (lI a)),(45,vi z.2.1)]) (S':=fun z=>[(7,bx [.d (DL A.t_)]),(12,AO z.2.2)]) (fun V z p1 q0 h=>?_) h;obtain ⟨M,e,B⟩:=z
        refine Q0 Fm 1 [1,2,7,11,12,43,44,45] [(46,vb (decide (e<(lI a))))] [7,12] [] (AW.seq (Q3 h (fun G0 h=>?_) (fun G0 h=>?_)))
        ·refine AW.skip (Q6 (r:=r) (fun z:(List Rect)×(List Rg_)=>Q5B F e V z.1 z.2) [1,2,7,12,43,44,45] (fun z=>[(11,AL z.1)]) [7] (fun z=>[(12,AO z.2)]) (fun z h=>?_) (fun t1 W=>?_))
         ·obtain ⟨j1,l1⟩:=z
          obtain ⟨U0,h⟩:=gS h;exact Q1 Fm [.s,.s] [1,2,7,11,12,43,44] [(45,vi (e+1))] [7,12] [] (cT (cT U0)) (Kn.R Fm (q0 (j1,(e+1),l1) h))
         ·refine AW.block ?_
          obtain ⟨R0,h⟩:=gS h;refine Y4 Fm (sA 4 []) [1,2,7,11,12,43,44,45] [(14,pt 14)] [7,12] [(14,bx [ci ((gn a e).y_),ci ((gn a e).c_),.d (DL (gn a e).g_.t_)])] (cT R0) (AW.seq (Q6 (r:=r) (fun z:Bool=>Q7U F a p A M e B V z) [1,2,7,11,12,14,43,44,45] (fun z=>[(58,vb z)]) [7,12,14] nn (fun K1 h=>?_) (fun q1 d0=>?_)))
          ·refine Q3 h (fun H0 h=>?_) (fun H0 h=>?_)
           ·refine AW.seq ?_
            obtain ⟨n0,e1,h⟩:=bS h;exact Q5 Fm (sA 4 [.k _,.s]) (k1 4) [1,2,7,12,43,44,45] [(11,AL n0)] [7,12] [] ⟨Q2 (G8 e1) Tryz.call74 [],⟨⟩⟩ (AW.exit (Kn.R Fm (W (n0,B) h)))
           ·refine AW.skip (Q6 (r:=r) (fun z:(List Rect)=>Q7T F a M e B V z) [1,2,7,11,12,14,43,44,45] nn [7,12] (fun z=>[(14,bx [ci ((gn a e).y_),ci ((gn a e).c_),.d (DL z)])]) (fun E h=>?_) (fun s1 e0=>?_))
            ·refine Q0 Fm 5 [1,2,7,11,12,14,43,44,45] [(80,vb (decide ((0:Int)<(lI E))))] [7,12,14] [] (Q3 h (fun K0 h=>?_) (fun K0 h=>?_))
             ·obtain ⟨T0,h⟩:=gS h
              exact Q2h Fm [.s,.s,.w (AL [(⟨(gn a e).y_,(gn a e).c_,(⟨E⟩:Re_)⟩:Rg_)]),.s,.s] [1,2,7,11,43,44,45] [(12,ow 84)] [7] [(84,AO (B++([(⟨(gn a e).y_,(gn a e).c_,(⟨E⟩:Re_)⟩:Rg_)]:List Rg_)))] (cA (Q8h (⟨(gn a e).y_,(gn a e).c_,(⟨E⟩:Re_)⟩:Rg_)) (cT (cA T0 (cT (lfl ([(⟨(gn a e).y_,(gn a e).c_,(⟨E⟩:Re_)⟩:Rg_)]:List Rg_)))))) [(84,rAp B ([(⟨(gn a e).y_,(gn a e).c_,(⟨E⟩:Re_)⟩:Rg_)]:List Rg_))] ⟨oAp,⟨⟩⟩ (Q1e Fm [(12,84)] (W (M,(B++([(⟨(gn a e).y_,(gn a e).c_,(⟨E⟩:Re_)⟩:Rg_)]:List Rg_))) h))
             ·exact AW.skip (Kn.R Fm (W (M,B) h))
            ·refine Q0 Fm 4 [1,2,7,11,12,14,43,44,45] [(67,vb (((gn a e).y_)==p))] [7,12,14] [] (Q3 h (fun I0 h=>?_) (fun I0 h=>?_))
             ·obtain ⟨o0,i1,h⟩:=bS h
              exact Q5 Fm (sA 5 [.k _,.s,.s,.s]) (k1 5) [1,2,7,11,12,14,43,44,45] [] [7,12] [(14,bx [ci ((gn a e).y_),ci ((gn a e).c_),.d (DL o0)])] ⟨Q2 (G8 i1) Tryz.call74 [],⟨⟩⟩ (Kn.R Fm (e0 o0 h))
             ·exact AW.skip (Kn.R Fm (e0 ((gn a e).g_.t_) h))
          ·rcases Z6 h with ⟨Z,h⟩|⟨Z,h⟩
           ·exact Q1 Fm (sA 4 (sZ 5 [.w (vb true)])) [1,2,7,11,12,14,43,44,45] [(58,vb (((gn a e).c_)==i))] [7,12,14] [] (cT (ALe.bool Z)) (Kn.R Fm (d0 (((gn a e).c_)==i) h))
           ·exact Q1 Fm (sA 4 (sZ 5 [.w (vb false)])) [1,2,7,11,12,14,43,44,45] [(58,vb false)] [7,12,14] [] (cT (ALe.bool Z)) (Kn.R Fm (d0 false h))
        ·exact AW.exit (Kn.R Fm (s0 (M,B) h))
    ·rcases Z6 h with ⟨Y,h⟩|⟨Y,h⟩
     ·exact Q1 Fm [.s,.s,.w (vb true),.s,.s,.s,.s] [0,1,2,7] [(30,vb true)] [7] [] (cT (ALe.bool Y)) (Kn.R Fm (c0 true h))
     ·exact Q1 Fm [.s,.s,.w (vb false),.s,.s,.s,.s] [0,1,2,7] [(30,vb (decide ((40:Int)<=i)))] [7] [] (cT (ALe.bool Y)) (Kn.R Fm (c0 (decide ((40:Int)<=i)) h))
  ·rcases Z6 h with ⟨X,h⟩|⟨X,h⟩
   ·exact Q1 Fm [.s,.s,.w (vb true),.s,.s,.s,.s] [0,1,2,7] [(23,vb true)] [7] [] (cT (ALe.bool X)) (Kn.R Fm (b0 true h))
   ·exact Q1 Fm [.s,.s,.w (vb false),.s,.s,.s,.s] [0,1,2,7] [(23,vb (decide ((100:Int)<p)))] [7] [] (cT (ALe.bool X)) (Kn.R Fm (b0 (decide ((100:Int)<p)) h))
theorem Z3r {F j b c l r} (h:Q2K F j b c l=some r) :
  Q7 Tryz.prog 77 [pt 0,AL b,vi c,vi l] [(0,bx (gC j))] (AL r.2) [(0,bx (gC r.1))]:=by
 refine FJ Tryz.func77 fun C Fm=>?_
 unfold Q2K at h;refine Q0 Fm 1 [0,1,2,3] [] [0] [] (y8 Fm [.m] (fun K=>True) [0,1,2,3] [(9,ow 9)] [0] [(9,AO ([]:List Rg_))] True.intro [(9,.arr 3 (0) nn)] ⟨OLe.is ((Is.nil (α:=Rg_))),⟨⟩⟩ (Q6 (r:=r) (fun z:(List Rg_)×(List Int)×Int=>Q9L F z.1 z.2.1 z.2.2) [] (fun z=>[(9,AL z.1)]) [] (fun z=>[(0,bx [.d (DL z.2.1),ci z.2.2])]) (fun z h=>?_) (fun P p=>?_)))
 ·obtain ⟨N,U,V⟩:=z
  exact Q0 Fm 2 [] [(8,AL N)] [0] [] (Z2 Fm h)
 ·refine AW.seq ?_
  obtain ⟨u,h⟩:=gS h;obtain ⟨a,B,h⟩:=bS h
  refine Q5 Fm [.s,.s,.s,.k _,.s] (fun K=>(_/\True)/\K 3/\True) [0,1,2,9] [(10,vi a.2)] [9] [(0,bx (gC a.1))] ⟨⟨u,⟨⟩⟩,Q2 (Z4 B) Tryz.call18 [(0,0)],⟨⟩⟩ (AW.block (Kn.w Fm [(0,pt 0),(1,AL b),(2,vi c),(9,ow 9),(10,vi a.2)] [(9,AO ([]:List Rg_)),(0,bx (gC a.1))] (Q1F [(0,pt 0),(1,AL b),(2,vi c),(9,AL ([]:List Rg_)),(10,vi a.2)] [(0,bx (gC a.1))] (Kn.w Fm [(0,pt 0),(1,AL b),(2,vi c),(9,AL ([]:List Rg_)),(10,vi a.2)] [(0,bx [.d (DL a.1.l_),ci a.1.at_])] ?_))));refine Z5 (E':=fun z=>[(0,pt 0),(1,AL b),(2,vi c),(9,AL z.1),(10,vi z.2.1)]) (S':=fun z=>[(0,bx [.d (DL z.2.2.1),ci z.2.2.2])]) (fun T z O o h=>?_) h
  obtain ⟨I,e,L,M⟩:=z;refine AW.seq (Q0 Fm 2 [0,1,2,9,10] [(16,vb (decide ((0:Int)<e)))] [0] [] (Q3 h (fun t h=>?_) (fun t h=>?_)))
  ·refine AW.skip (AW.seq (AW.block ?_))
   obtain ⟨y,h⟩:=gS h;obtain ⟨W,D,h⟩:=bS h
   obtain ⟨X,E,h⟩:=bS h;obtain ⟨i,G,h⟩:=bS h
   obtain ⟨n,H,h⟩:=bS h;refine Q5 Fm (sA 4 [.k _,.s,.s,.s,.k _,.s,.k _,.k _,.s,.s,.s,.s]) (fun K=>(_/\True)/\K 4/\K 8/\K 10/\K 11/\True) [0,1,2,10] [(9,AL n.1)] [] [(0,bx (gC i.1))] ⟨⟨y,⟨⟩⟩,Q2 (Z4 D) Tryz.call18 [(0,0)],Q2 (Z4 E) Tryz.call18 [(0,0)],Q2 (Q8B G) Tryz.call54 [(0,0)],Q2 (Y0N H) Tryz.call129 [],⟨⟩⟩ ?_
   obtain ⟨A,h⟩:=gS h;exact Q1 Fm [.s,.s,.s] [0,1,2,9] [(10,vi (e-1))] [0] [] (cT (cT A)) (Kn.R Fm (o (n.1,(e-1),i.1.l_,i.1.at_) h))
  ·exact AW.exit (Kn.R Fm (p (I,L,M) h))
theorem Z3s {F c b r} (h:Q2L F c b=some r) :
  Q7 Tryz.prog 131 [pt 0,vi b] [(0,bx (gC c))] (gE r.2) [(0,bx (gC r.1))]:=by
 refine FJ Tryz.func131 fun C Fm=>?_
 unfold Q2L at h;refine Q0 Fm 1 [0,1] [(4,pt 4)] [0] [(4,bx [ci 0,ci 0,ci 0,ci 0,f0])] (AW.seq ?_)
 obtain ⟨a,j,h⟩:=bS h;refine Q5 Fm [.s,.k _,.s] (k1 1) [0,1,4] [(5,vi a.2)] [4] [(0,bx (gC a.1))] ⟨Q2 (Z4 j) Tryz.call18 [(0,0)],⟨⟩⟩ (AW.seq ?_)
 obtain ⟨o,l,h⟩:=bS h;obtain ⟨p,m,h⟩:=bS h
 obtain ⟨i,h⟩:=gS h;obtain ⟨e,n,h⟩:=bS h
 exact Q5 Fm [.s,.s,.k _,.s,.s,.s,.k _,.s,.s,.k _,.s,.s] (fun K=>K 2/\K 6/\(_/\True)/\K 9/\True) [4] [] [] [(0,bx (gC e.1)),(4,bx [ci b,ci o.2,ci a.2,ci (a.2+p.2),.d (DL e.2.t_)])] ⟨Q2 (Z4 l) Tryz.call18 [(0,0)],Q2 (W6 m) Tryz.call72 [(0,0)],⟨i,⟨⟩⟩,Q2 (Z5S n) Tryz.call73 [(0,0)],⟨⟩⟩ (Z2 Fm h)
theorem Z4Q {F a r} (h:Z0O F a=some r) :
  Q7 Tryz.prog 157 [gE a] [] (vi r) []:=by
 refine FJ Tryz.func157 fun C Fm=>?_
 unfold Z0O at h;refine Q0 Fm 2 [] [(1,pt 1)] [] [(1,bx (gC a))] (AW.seq (AW.block (Q6 (r:=r) (fun z:Bool=>Z0H F a z) [1] (fun z=>[(3,vb z)]) [1] nn (fun G h=>?_) (fun A l=>?_))))
 ·refine Q3 h (fun p h=>?_) (fun p h=>?_)
  ·exact Q0 Fm 1 [] [(2,vi 2)] [] [] (Z2 Fm h)
  ·refine Q6 (r:=r) (fun z:Bool=>Q2G F a z) [1] (fun z=>[(12,vb z)]) [1] nn (fun H h=>?_) (fun B m=>?_)
   ·refine Q3 h (fun t h=>?_) (fun t h=>?_)
    ·exact Q0 Fm 1 [] [(2,vi 14)] [] [] (Z2 Fm h)
    ·refine Q6 (r:=r) (fun z:Bool=>Q2F F a z) [1] (fun z=>[(21,vb z)]) [1] nn (fun I h=>?_) (fun D c=>?_)
     ·refine Q3 h (fun u h=>?_) (fun u h=>?_)
      ·exact Q0 Fm 1 [] [(2,vi 9)] [] [] (Z2 Fm h)
      ·refine Q6 (r:=r) (fun z:Bool=>Q5C F z) [] (fun z=>[(37,vb z)]) [] nn (fun L h=>?_) (fun E n=>?_)
       ·refine Q3 h (fun y h=>?_) (fun y h=>?_)
        ·exact Q0 Fm 1 [] [(2,vi 7)] [] [] (Z2 Fm h)
        ·exact AW.skip (Q0 Fm 1 [] [(2,vi 0)] [] [] (Z2 Fm h))
       ·obtain ⟨M,o,h⟩:=bS h
        rcases Z6 h with ⟨j,h⟩|⟨j,h⟩
        ·exact Q5 Fm (sZ 7 [.s,.s,.k _,.s,.w (vb true)]) (fun K=>K 2/\_/\True) [] [(37,vb true)] [] [] ⟨Q2 (V2 o) Tryz.call67 [],ALe.bool j,⟨⟩⟩ (Kn.R Fm (n true h))
        ·exact Q5 Fm (sZ 7 [.s,.s,.k _,.s,.w (vb false)]) (fun K=>K 2/\_/\True) [] [(37,vb ((lI a.g_.t_)==0))] [] [] ⟨Q2 (V2 o) Tryz.call67 [],ALe.bool j,⟨⟩⟩ (Kn.R Fm (n ((lI a.g_.t_)==0) h))
     ·rcases Z6 h with ⟨b,h⟩|⟨b,h⟩
      ·exact Q1 Fm (sZ 12 [.s,.s,.s,.w (vb true)]) [1] [(21,vb true)] [1] [] (cT (ALe.bool b)) (Kn.R Fm (c true h))
      ·rcases Z6 h with ⟨i,h⟩|⟨i,h⟩
       ·exact Q1 Fm (sZ 5 [.s,.s,.s,.w (vb false),.s,.s,.s,.s,.s,.s,.w (vb true)]) [1] [(21,vb true)] [1] [] (cA (ALe.bool b) (cT (ALe.bool i))) (Kn.R Fm (c true h))
       ·exact Q1 Fm (sZ 5 [.s,.s,.s,.w (vb false),.s,.s,.s,.s,.s,.s,.w (vb false)]) [1] [(21,vb (decide ((36865:Int)<a.u_)))] [1] [] (cA (ALe.bool b) (cT (ALe.bool i))) (Kn.R Fm (c (decide ((36865:Int)<a.u_)) h))
   ·rcases Z6 h with ⟨e,h⟩|⟨e,h⟩
    ·exact Q1 Fm (sZ 5 [.s,.s,.s,.w (vb true)]) [1] [(12,vb true)] [1] [] (cT (ALe.bool e)) (Kn.R Fm (m true h))
    ·exact Q1 Fm (sZ 5 [.s,.s,.s,.w (vb false)]) [1] [(12,vb (decide ((15:Int)<a.k_)))] [1] [] (cT (ALe.bool e)) (Kn.R Fm (m (decide ((15:Int)<a.k_)) h))
 ·rcases Z6 h with ⟨d,h⟩|⟨d,h⟩
  ·exact Q1 Fm (sZ 5 [.s,.s,.s,.w (vb true)]) [1] [(3,vb true)] [1] [] (cT (ALe.bool d)) (Kn.R Fm (l true h))
  ·exact Q1 Fm (sZ 5 [.s,.s,.s,.w (vb false)]) [1] [(3,vb (decide ((1073741824:Int)<a.N_)))] [1] [] (cT (ALe.bool d)) (Kn.R Fm (l (decide ((1073741824:Int)<a.N_)) h))
theorem Z8I {F a r} (h:Q9C F a=some r) :
  Q7 Tryz.prog 95 [AL a] [] (vi r) []:=by
 refine FJ Tryz.func95 fun C Fm=>?_
 unfold Q9C at h;refine Q0 Fm 1 [0] [] [] [] (AW.seq (Q0 Fm 3 [0] [(8,vb (decide ((60:Int)<(lI a))))] [] [] (Q3 h (fun n h=>?_) (fun n h=>?_))))
 ·exact Q0 Fm 1 [] [(2,vi 1)] [] [] (Z2 Fm h)
 ·refine AW.skip (Q6 (r:=r) (fun z:Unit=>Z4R F) [] nn [] nn (fun z h=>?_) (fun H m=>?_))
  ·exact Q0 Fm 1 [] [(2,vi 0)] [] [] (Z2 Fm h)
  ·refine Q0 Fm 3 [0] [(9,AL a),(10,vi (lI a)),(11,vi 0)] [] [] (AW.block (Kn.w Fm [(0,AL a),(9,AL a),(10,vi (lI a)),(11,vi 0)] [] ?_))
   refine Z5 (E':=fun z=>[(0,AL a),(9,AL a),(10,vi (lI a)),(11,vi z)]) (S':=fun z=>[]) (fun j b E l h=>?_) h;refine Q0 Fm 1 [0,9,10,11] [(12,vb (decide (b<(lI a))))] [] [] (AW.seq (Q3 h (fun o h=>?_) (fun o h=>?_)))
   ·refine AW.skip (AW.seq (AW.block ?_))
    obtain ⟨u,h⟩:=gS h;refine Y4 Fm (sA 6 []) [0,9,10,11] [(3,vi b),(4,pt 4)] [] [(4,bx [ci ((gn a b).N_),ci ((gn a b).k_),ci ((gn a b).F_),ci ((gn a b).u_),.d (DL (gn a b).g_.t_)])] (cT u) (AW.seq (AW.seq ?_))
    obtain ⟨e,D,h⟩:=bS h;refine Q5 Fm [.s,.k _,.s] (k1 1) [0,3,4,9,10,11] [(5,vi e)] [4] [] ⟨Q2 (Z4Q D) Tryz.call157 [],⟨⟩⟩ (Q0 Fm 2 [0,3,4,5,9,10,11] [(19,vb (e != (0:Int)))] [4] [] (Q3 h (fun p h=>?_) (fun p h=>?_)))
    ·exact Q0 Fm 2 [] [(2,vi e)] [] [] (Z2 Fm h)
    ·refine AW.skip (Q6 (r:=r) (fun z:Bool=>Q5m F b j z) [0,9,10,11] (fun z=>[(33,vb z)]) [] nn (fun I h=>?_) (fun G i=>?_))
     ·refine Q3 h (fun t h=>?_) (fun t h=>?_)
      ·exact Q0 Fm 1 [] [(2,vi 3)] [] [] (Z2 Fm h)
      ·refine AW.skip ?_
       obtain ⟨B,h⟩:=gS h;exact Q1 Fm [.s,.s] [0,9,10] [(11,vi (b+1))] [] [] (cT (cT B)) (Kn.R Fm (l (b+1) h))
     ·rcases Z6 h with ⟨c,h⟩|⟨c,h⟩
      ·obtain ⟨y,A,h⟩:=gS2 h
       exact Q1 Fm (sZ 10 [.s,.s,.w (vb true)]) [0,9,10,11] [(33,vb (decide (((gn a b).N_)<=((gn a (b-1)).N_))))] [] [] (cA (ALe.bool c) (cA (cT y) (cT A))) (Kn.R Fm (i (decide (((gn a b).N_)<=((gn a (b-1)).N_))) h))
      ·exact Q1 Fm (sZ 10 [.s,.s,.w (vb false)]) [0,9,10,11] [(33,vb false)] [] [] (cT (ALe.bool c)) (Kn.R Fm (i false h))
   ·exact AW.exit (Kn.R Fm (m () h))
theorem Y0Q {F a e r} (h:Z2C F a e=some r) :
  Q7 Tryz.prog 130 [AL a,gE e] [] (.t [.c (.d (DL r.1)),.c (ci r.2)]) []:=by
 refine FJ Tryz.func130 fun C Fm=>?_
 unfold Z2C at h;refine Q0 Fm 3 [0] [(3,pt 3)] [] [(3,bx (gC e))] (AW.seq (AW.seq ?_))
 obtain ⟨l,W,h⟩:=bS h;refine Q5 Fm [.s,.k _,.s] (k1 1) [0,3] [(6,vi l)] [3] [] ⟨Q2 (Z8I W) Tryz.call95 [],⟨⟩⟩ (Q0 Fm 2 [0,3,6] [(12,vb (l != (0:Int)))] [3] [] (Q3 h (fun H h=>?_) (fun H h=>?_)))
 ·refine Q0 Fm 3 [] [(4,.v (.c f0)),(5,vi l)] [] [] (AW.ret ?_)
  obtain rfl:=Option.some.inj h;exact Kn.w Fm [(4,.v (.c f0)),(5,vi l)] [] (Q7n [(4,AL (α:=A2_) []),(5,vi l)] [] ⟨rfl,ALe.c (CLe.fl .nil),⟨rfl,ALe.c (CLe.refl _),⟨⟩⟩⟩ True.intro (Kn.D Fm))
 ·refine AW.skip (AW.seq (AW.seq ?_))
  obtain ⟨n,X,h⟩:=bS h;refine Q5 Fm [.s,.k _,.s] (k1 1) [0,3] [(7,vi n)] [3] [] ⟨Q2 (Z4Q X) Tryz.call157 [],⟨⟩⟩ (Q0 Fm 2 [0,3,7] [(17,vb (n != (0:Int)))] [3] [] (Q3 h (fun I h=>?_) (fun I h=>?_)))
  ·refine Q0 Fm 3 [] [(4,.v (.c f0)),(5,vi n)] [] [] (AW.ret ?_)
   obtain rfl:=Option.some.inj h;exact Kn.w Fm [(4,.v (.c f0)),(5,vi n)] [] (Q7n [(4,AL (α:=A2_) []),(5,vi n)] [] ⟨rfl,ALe.c (CLe.fl .nil),⟨rfl,ALe.c (CLe.refl _),⟨⟩⟩⟩ True.intro (Kn.D Fm))
  ·refine AW.skip (Q0 Fm 1 [0,3] [(8,vi 0)] [3] [] (Q6 (r:=r) (fun z:Int=>Z0I F a e z) [0,3] (fun z=>[(8,vi z)]) [3] nn (fun b h=>?_) (fun a0 G=>?_)))
   ·refine AW.seq (Q6 (r:=r) (fun z:Bool=>Q7X F a e b z) [0,3,8] (fun z=>[(48,vb z)]) [3] nn (fun d0 h=>?_) (fun b0 u=>?_))
    ·refine Q3 h (fun L h=>?_) (fun L h=>?_)
     ·refine Q0 Fm 2 [] [(4,.v (.c f0)),(5,vi 6)] [] [] (AW.ret ?_)
      obtain rfl:=Option.some.inj h;exact Kn.w Fm [(4,.v (.c f0)),(5,vi 6)] [] (Q7n [(4,AL (α:=A2_) []),(5,vi 6)] [] ⟨rfl,ALe.c (CLe.fl .nil),⟨rfl,ALe.c (CLe.refl _),⟨⟩⟩⟩ True.intro (Kn.D Fm))
     ·refine AW.skip (AW.seq (Q0 Fm 3 [0,3,8] [(51,vb ((lI a)==60))] [3] [] (Q3 h (fun M h=>?_) (fun M h=>?_))))
      ·refine Q0 Fm 2 [] [(4,.v (.c f0)),(5,vi 1)] [] [] (AW.ret ?_)
       obtain rfl:=Option.some.inj h;exact Kn.w Fm [(4,.v (.c f0)),(5,vi 1)] [] (Q7n [(4,AL (α:=A2_) []),(5,vi 1)] [] ⟨rfl,ALe.c (CLe.fl .nil),⟨rfl,ALe.c (CLe.refl _),⟨⟩⟩⟩ True.intro (Kn.D Fm))
      ·refine AW.skip ?_
       obtain ⟨y,T,U,A,h⟩:=gS4 h;obtain ⟨V,h⟩:=gS h
       refine Z0q Fm [.m,.s,.s,.w (AL (a.take b.toNat)),.s,.s,.w (AL [e]),.s,.s,.s,.w (AL (a.drop b.toNat)),.s,.s,.s] [] [(4,ow 63),(5,vi 0)] [] [(63,AO (((([]:List A2_)++(a.take b.toNat))++([e]:List A2_))++(a.drop b.toNat)))] (cA (⟨y,(Is.refl a).len⟩:((sl (List.length a) (LF a) none (some b)).2/\∀ j,j<List.length a->(LF a j).length=5)) (cA (ALe.lst (Z6k a none (some b) y):ALe (.v (.c (.d (.lst (sl (List.length a) (LF a) none (some b)).1.1 (sl (List.length a) (LF a) none (some b)).1.2)))) (AL (a.take b.toNat))) (cA (cA T (cT (lfl (a.take b.toNat)))) (cA (Q8h e) (cA (cA U (cT (Is.refl ([e]:List A2_):Is (List.length ([e]:List A2_)) (LF ([e]:List A2_)) ([e]:List A2_)).len)) (cA (⟨A,(Is.refl a).len⟩:((sl (List.length a) (LF a) (some b) none).2/\∀ j,j<List.length a->(LF a j).length=5)) (cA (ALe.lst (Z6k a (some b) none A):ALe (.v (.c (.d (.lst (sl (List.length a) (LF a) (some b) none).1.1 (sl (List.length a) (LF a) (some b) none).1.2)))) (AL (a.drop b.toNat))) (cT (cA V (cT (Is.refl (a.drop b.toNat):Is (List.length (a.drop b.toNat)) (LF (a.drop b.toNat)) (a.drop b.toNat)).len)))))))))) [(63,.arr 5 ((((0)+(List.length (a.take b.toNat)))+(List.length ([e]:List A2_)))+(List.length (a.drop b.toNat))) (Q5w (((0)+(List.length (a.take b.toNat)))+(List.length ([e]:List A2_))) (Q5w ((0)+(List.length (a.take b.toNat))) (Q5w (0) (Z0n 5 []) (LF (a.take b.toNat))) (LF ([e]:List A2_))) (LF (a.drop b.toNat))))] ⟨OLe.is (Is.app (Is.app (Is.app (Is.lit ([]:List A2_) (by kernel_rfl)) (Is.refl (a.take b.toNat))) (Is.refl ([e]:List A2_))) (Is.refl (a.drop b.toNat))),⟨⟩⟩ ?_
       refine AW.ret ?_;obtain rfl:=Option.some.inj h
       exact Kn.w Fm [(4,ow 63),(5,vi 0)] [(63,AO (((([]:List A2_)++(a.take b.toNat))++([e]:List A2_))++(a.drop b.toNat)))] (Q1F [(4,AL (((([]:List A2_)++(a.take b.toNat))++([e]:List A2_))++(a.drop b.toNat))),(5,vi 0)] [] (Kn.D Fm))
    ·rcases Z6 h with ⟨p,h⟩|⟨p,h⟩
     ·obtain ⟨P,h⟩:=gS h
      exact Q1 Fm (sA 4 (sZ 9 [.w (vb true)])) [0,3,8] [(48,vb (((gn a b).N_)==e.N_))] [3] [] (cA (ALe.bool p) (cT P)) (Kn.R Fm (u (((gn a b).N_)==e.N_) h))
     ·exact Q1 Fm (sA 4 (sZ 9 [.w (vb false)])) [0,3,8] [(48,vb false)] [3] [] (cT (ALe.bool p)) (Kn.R Fm (u false h))
   ·refine AW.block (Kn.w Fm [(0,AL a),(3,pt 3),(8,vi 0)] [(3,bx (gC e))] ?_)
    refine Z5 (E':=fun z=>[(0,AL a),(3,pt 3),(8,vi z)]) (S':=fun z=>[(3,bx (gC e))]) (fun B i Y E h=>?_) h;refine AW.seq (Q6 (r:=r) (fun z:Bool=>Q7Y F a e i B z) [0,3,8] (fun z=>[(32,vb z)]) [3] nn (fun c0 h=>?_) (fun Z q=>?_))
    ·refine Q3 h (fun K h=>?_) (fun K h=>?_)
     ·refine AW.skip (AW.block ?_)
      obtain ⟨O,h⟩:=gS h;exact Q1 Fm [.s,.s,.s] [0,3] [(8,vi (i+1))] [3] [] (cT (cT O)) (Kn.R Fm (E (i+1) h))
     ·exact AW.exit (Kn.R Fm (G i h))
    ·rcases Z6 h with ⟨o,h⟩|⟨o,h⟩
     ·obtain ⟨N,h⟩:=gS h
      exact Q1 Fm (sA 4 (sZ 9 [.w (vb true)])) [0,3,8] [(32,vb (decide (((gn a i).N_)<e.N_)))] [3] [] (cA (ALe.bool o) (cT N)) (Kn.R Fm (q (decide (((gn a i).N_)<e.N_)) h))
     ·exact Q1 Fm (sA 4 (sZ 9 [.w (vb false)])) [0,3,8] [(32,vb false)] [3] [] (cT (ALe.bool o)) (Kn.R Fm (q false h))
theorem Z5g {F l n r} (h:Q4g F l n=some r) :
  Q7 Tryz.prog 78 [pt 0,vi n] [(0,bx (gC l))] (AL r.2) [(0,bx (gC r.1))]:=by
 refine FJ Tryz.func78 fun C Fm=>?_
 unfold Q4g at h;refine Q0 Fm 1 [0,1] [] [0] [] (y8 Fm [.m] (fun K=>True) [0,1] [(5,ow 5)] [0] [(5,AO ([]:List A2_))] True.intro [(5,.arr 5 (0) nn)] ⟨OLe.is ((Is.nil (α:=A2_))),⟨⟩⟩ (Q6 (r:=r) (fun z:(List A2_)×(List Int)×Int=>Z1t F z.1 z.2.1 z.2.2) [] (fun z=>[(5,AL z.1)]) [] (fun z=>[(0,bx [.d (DL z.2.1),ci z.2.2])]) (fun z h=>?_) (fun V t=>?_)))
 ·obtain ⟨P,W,X⟩:=z
  exact Q0 Fm 2 [] [(4,AL P)] [0] [] (Z2 Fm h)
 ·refine AW.seq ?_
  obtain ⟨A,h⟩:=gS h;obtain ⟨a,D,h⟩:=bS h
  refine Q5 Fm [.s,.s,.s,.k _,.s] (fun K=>(_/\True)/\K 3/\True) [0,5] [(6,vi a.2)] [5] [(0,bx (gC a.1))] ⟨⟨A,⟨⟩⟩,Q2 (Z4 D) Tryz.call18 [(0,0)],⟨⟩⟩ (AW.block (Kn.w Fm [(0,pt 0),(5,ow 5),(6,vi a.2)] [(5,AO ([]:List A2_)),(0,bx (gC a.1))] (Q1F [(0,pt 0),(5,AL ([]:List A2_)),(6,vi a.2)] [(0,bx (gC a.1))] (Kn.w Fm [(0,pt 0),(5,AL ([]:List A2_)),(6,vi a.2)] [(0,bx [.d (DL a.1.l_),ci a.1.at_])] ?_))));refine Z5 (E':=fun z=>[(0,pt 0),(5,AL z.1),(6,vi z.2.1)]) (S':=fun z=>[(0,bx [.d (DL z.2.2.1),ci z.2.2.2])]) (fun o z T p h=>?_) h
  obtain ⟨j,e,I,L⟩:=z;refine AW.seq (Q0 Fm 2 [0,5,6] [(14,vb (decide ((0:Int)<e)))] [0] [] (Q3 h (fun u h=>?_) (fun u h=>?_)))
  ·refine AW.skip (Q6 (r:=r) (fun z:(List A2_)×(List Int)×Int=>Q2f F e o z.1 z.2.1 z.2.2) [0,6] (fun z=>[(5,AL z.1)]) [] (fun z=>[(0,bx [.d (DL z.2.1),ci z.2.2])]) (fun z h=>?_) (fun U i=>?_))
   ·obtain ⟨M,N,O⟩:=z
    obtain ⟨B,h⟩:=gS h;exact Q1 Fm [.s,.s,.s] [0,5] [(6,vi (e-1))] [0] [] (cT (cT B)) (Kn.R Fm (p (M,(e-1),N,O) h))
   ·refine AW.block (AW.seq ?_)
    obtain ⟨Y,E,h⟩:=bS h;obtain ⟨b,G,h⟩:=bS h
    obtain ⟨c,H,h⟩:=bS h;refine Q5 Fm (sZ 5 [.s,.s,.s,.k _,.k _,.k _]) (fun K=>K 3/\K 4/\K 5/\True) [0,5,6] [(7,AL c.1),(8,vi c.2)] [] [(0,bx (gC b.1))] ⟨Q2 (W6 E) Tryz.call72 [(0,0)],Q2 (Z3s G) Tryz.call131 [(0,0)],Q2 (Y0Q H) Tryz.call130 [],⟨⟩⟩ (Q0 Fm 2 [0,5,6,7] [(27,vb (c.2==(0:Int)))] [0] [] (Q3 h (fun y h=>?_) (fun y h=>?_)))
    ·exact Q8u Fm 2 [0,6] [(5,AL c.1)] [0] [] (Kn.R Fm (i (c.1,b.1.l_,b.1.at_) h))
    ·exact AW.skip (Kn.R Fm (i (j,b.1.l_,b.1.at_) h))
  ·exact AW.exit (Kn.R Fm (t (j,I,L) h))
theorem Z5e {F b a r} (h:Q2t F b a=some r) :
  Q7 Tryz.prog 36 [pt 0,AL a] [(0,bx (gC b))] (gE r.2) [(0,bx (gC r.1))]:=by
 refine FJ Tryz.func36 fun C Fm=>?_
 unfold Q2t at h;refine Q0 Fm 1 [0,1] [(4,pt 4)] [0] [(4,bx [ci 0,f0,f0,f0,ci 0,ci 0])] (AW.seq ?_)
 obtain ⟨n,e,h⟩:=bS h;obtain ⟨o,i,h⟩:=bS h
 obtain ⟨p,j,h⟩:=bS h;obtain ⟨t,l,h⟩:=bS h
 obtain ⟨c,m,h⟩:=bS h;exact Q5 Fm [.s,.k _,.s,.s,.s,.k _,.s,.k _,.s,.k _,.s,.k _,.s,.s] (fun K=>K 1/\K 5/\K 7/\K 9/\K 11/\True) [4] [] [] [(0,bx (gC c.1)),(4,bx [ci n.2,.d (DL a),.d (DL o.2),.d (DL p.2),ci t.2,ci c.2])] ⟨Q2 (Z4 e) Tryz.call18 [(0,0)],Q2 (Z3r i) Tryz.call77 [(0,0)],Q2 (Z5g j) Tryz.call78 [(0,0)],Q2 (Z4 l) Tryz.call18 [(0,0)],Q2 (Z4 m) Tryz.call18 [(0,0)],⟨⟩⟩ (Z2 Fm h)
theorem Z9Q {F a r} (h:Z1l F a=some r) :
  Q7 Tryz.prog 68 [AL a] [] (vi r) []:=by
 refine FJ Tryz.func68 fun C Fm=>?_
 unfold Z1l at h;refine Q0 Fm 1 [0] [] [] [] (Q0 Fm 1 [0] [(3,vi 0)] [] [] (Q6 (r:=r) (fun z:Int=>Z6t F z) [] (fun z=>[(3,vi z)]) [] nn (fun p h=>?_) (fun u e=>?_)))
 ·exact Q0 Fm 2 [] [(2,vi p)] [] [] (Z2 Fm h)
 ·refine Q0 Fm 3 [3] [(6,AL a),(7,vi (lI a)),(8,vi 0)] [] [] (AW.block (Kn.w Fm [(3,vi 0),(6,AL a),(7,vi (lI a)),(8,vi 0)] [] ?_))
  refine Z5 (E':=fun z=>[(3,vi z.1),(6,AL a),(7,vi (lI a)),(8,vi z.2)]) (S':=fun z=>[]) (fun y z t d h=>?_) h;obtain ⟨c,b⟩:=z
  refine Q0 Fm 1 [3,6,7,8] [(9,vb (decide (b<(lI a))))] [] [] (AW.seq (Q3 h (fun i h=>?_) (fun i h=>?_)))
  ·refine AW.skip (AW.seq (AW.block ?_))
   obtain ⟨j,h⟩:=gS h;refine Y4 Fm (sA 4 []) [3,6,7,8] [(5,pt 5)] [] [(5,bx [ci ((gn a b).L_),ci ((gn a b).w_),ci ((gn a b).R_),ci ((gn a b).H_)])] (cT j) ?_
   obtain ⟨k,l,m,n,h⟩:=gS4 h;refine Q1 Fm (sA 14 []) [6,7,8] [(3,vi (c+((((gn a b).R_)-((gn a b).L_))*(((gn a b).H_)-((gn a b).w_)))))] [] [] (cA (cT k) (cA (cT l) (cA (cT m) (cT (cT n))))) ?_
   obtain ⟨o,h⟩:=gS h;exact Q1 Fm [.s,.s] [3,6,7] [(8,vi (b+1))] [] [] (cT (cT o)) (Kn.R Fm (d ((c+((((gn a b).R_)-((gn a b).L_))*(((gn a b).H_)-((gn a b).w_)))),(b+1)) h))
  ·exact AW.exit (Kn.R Fm (e c h))
theorem Z0l {F a r} (h:Q8Q F a=some r) :
  Q7 Tryz.prog 29 [.v (.g [.d (DL a.t_)])] [] (vi r) []:=by
 refine FJ Tryz.func29 fun C Fm=>?_
 unfold Q8Q at h;refine Q0 Fm 2 [] [(1,pt 1)] [] [(1,bx [.d (DL a.t_)])] (AW.seq (AW.seq ?_))
 obtain ⟨i,c,h⟩:=bS h;refine Q5 Fm [.s,.k _,.s] (k1 1) [1] [(5,vb (!i))] [1] [] ⟨Q2 (V2 c) Tryz.call67 [],⟨⟩⟩ (Q3 h (fun b h=>?_) (fun b h=>?_))
 ·exact Q0 Fm 1 [] [(2,vi 0)] [] [] (Z2 Fm h)
 ·refine AW.skip (AW.seq ?_)
  obtain ⟨j,e,h⟩:=bS h;exact Q5 Fm [.s,.s,.k _,.s] (k1 2) [] [(2,vi j)] [] [] ⟨Q2 (Z9Q e) Tryz.call68 [],⟨⟩⟩ (Z2 Fm h)
theorem Z0W {F a d r} (h:Q2l F a d=some r) :
  Q7 Tryz.prog 125 [AL a,.v (.c (.sem (J5 Tryz.prog (Q8t d))))] [] (vi r) []:=by
 refine FJ Tryz.func125 fun C Fm=>?_
 unfold Q2l at h;refine Q0 Fm 1 [0,1] [] [] [] (Q6 (r:=r) (fun z:Unit=>Q6g F) [] nn [] nn (fun z h=>?_) (fun u j=>?_))
 ·exact Q0 Fm 1 [] [(4,vi (-1:Int))] [] [] (Z2 Fm h)
 ·refine Q0 Fm 3 [0,1] [(7,vi (lI a)),(8,vi 0)] [] [] (AW.block (Kn.w Fm [(0,AL a),(1,.v (.c (.sem (J5 Tryz.prog (Q8t d))))),(7,vi (lI a)),(8,vi 0)] [] ?_))
  refine Z5 (E':=fun z=>[(0,AL a),(1,.v (.c (.sem (J5 Tryz.prog (Q8t d))))),(7,vi (lI a)),(8,vi z)]) (S':=fun z=>[]) (fun y b t i h=>?_) h;refine Q0 Fm 1 [0,1,7,8] [(9,vb (decide (b<(lI a))))] [] [] (AW.seq (Q3 h (fun l h=>?_) (fun l h=>?_)))
  ·refine AW.skip (AW.seq (AW.block (Q0 Fm 2 [0,1,7,8] [(5,vi b)] [] [] (AW.seq ?_))))
   obtain ⟨n,h⟩:=gS h;obtain ⟨e,p,h⟩:=bS h
   refine Q5 Fm (sA 5 [.k (sE (vb e))]) (fun K=>_/\K 5/\True) [0,1,5,7,8] [(16,vb e)] [] [] ⟨n,KAt.sem (F:=(Q8t d)) (args:=[.v (.g [ci ((gn a b).L_),ci ((gn a b).w_),ci ((gn a b).R_),ci ((gn a b).H_)])]) ⟨(gn a b),e,p,rfl,rfl⟩ rfl (by kernel_rfl) (by kernel_rfl) (by kernel_rfl),⟨⟩⟩ (Q3 h (fun m h=>?_) (fun m h=>?_))
   ·exact Q0 Fm 2 [] [(4,vi b)] [] [] (Z2 Fm h)
   ·refine AW.skip ?_
    obtain ⟨o,h⟩:=gS h;exact Q1 Fm [.s,.s] [0,1,7] [(8,vi (b+1))] [] [] (cT (cT o)) (Kn.R Fm (i (b+1) h))
  ·exact AW.exit (Kn.R Fm (j () h))
theorem Q1i {F a b r} (h:J0 F a b=some r) :
  Q7 Tryz.prog 69 [AL a,.v (.c (.sem (J5 Tryz.prog (Q8t b))))] [] (vb r) []:=by
 refine FJ Tryz.func69 fun C Fm=>?_
 unfold J0 at h;refine Q0 Fm 1 [0,1] [] [] [] (AW.seq ?_)
 obtain ⟨d,e,h⟩:=bS h;exact Q5 Fm [.s,.s,.k (cE [] [] (vi d) [] []),.s,.s] (k1 2) [] [(4,vb (decide ((0:Int)<=d)))] [] [] ⟨KAt.cX (Z0W e) Tryz.call125 [] [] [.tmp 5,.tmp 6] ⟨.p,y7.semX (by kernel_rfl) (by kernel_rfl) (by kernel_rfl),⟨⟩⟩,⟨⟩⟩ (Z2 Fm h)
theorem Z6M {F e r} (h:Q6h F e=some r) :
  Q7 Tryz.prog 121 [gE e] [] (vb r) []:=by
 refine FJ Tryz.func121 fun C Fm=>?_
 unfold Q6h at h;refine Q0 Fm 2 [] [(1,pt 1)] [] [(1,bx (gC e))] (Q6 (r:=r) (fun z:Bool=>U7 F z) [] (fun z=>[(2,vb z)]) [] nn (fun l h=>?_) (fun k b=>?_))
 ·exact Z2 Fm h
 ·rcases Z6 h with ⟨a,h⟩|⟨a,h⟩
  ·rcases Z6 h with ⟨c,h⟩|⟨c,h⟩
   ·rcases Z6 h with ⟨d,h⟩|⟨d,h⟩
    ·rcases Z6 h with ⟨i,h⟩|⟨i,h⟩
     ·rcases Z6 h with ⟨j,h⟩|⟨j,h⟩
      ·exact Q1 Fm ([.s,.s,.s,.w (vb true),.s,.s,.s,.s,.s,.s,.w (vb true),.s,.s,.s,.s,.w (vb true),.s,.s,.s,.s,.w (vb true),.s,.s,.s,.s,.s,.s,.w (vb true)]++(sA 5 [])) [] [(2,vb (decide (e.H_<=16384)))] [] [] (cA (ALe.bool a) (cA (ALe.bool c) (cA (ALe.bool d) (cA (ALe.bool i) (cT (ALe.bool j)))))) (Kn.R Fm (b (decide (e.H_<=16384)) h))
      ·exact Q1 Fm ([.s,.s,.s,.w (vb true),.s,.s,.s,.s,.s,.s,.w (vb true),.s,.s,.s,.s,.w (vb true),.s,.s,.s,.s,.w (vb true),.s,.s,.s,.s,.s,.s,.w (vb false)]++(sA 5 [])) [] [(2,vb false)] [] [] (cA (ALe.bool a) (cA (ALe.bool c) (cA (ALe.bool d) (cA (ALe.bool i) (cT (ALe.bool j)))))) (Kn.R Fm (b false h))
     ·exact Q1 Fm ((sZ 7 [.s,.s,.s,.w (vb true),.s,.s,.s,.s,.s,.s,.w (vb true),.s,.s,.s,.s,.w (vb true),.s,.s,.s,.s,.w (vb false)])++(sA 5 [])) [] [(2,vb false)] [] [] (cA (ALe.bool a) (cA (ALe.bool c) (cA (ALe.bool d) (cT (ALe.bool i))))) (Kn.R Fm (b false h))
    ·exact Q1 Fm ((sZ 12 [.s,.s,.s,.w (vb true),.s,.s,.s,.s,.s,.s,.w (vb true),.s,.s,.s,.s,.w (vb false)])++(sA 5 [])) [] [(2,vb false)] [] [] (cA (ALe.bool a) (cA (ALe.bool c) (cT (ALe.bool d)))) (Kn.R Fm (b false h))
   ·exact Q1 Fm ((sZ 17 [.s,.s,.s,.w (vb true),.s,.s,.s,.s,.s,.s,.w (vb false)])++(sA 5 [])) [] [(2,vb false)] [] [] (cA (ALe.bool a) (cT (ALe.bool c))) (Kn.R Fm (b false h))
  ·exact Q1 Fm ((sZ 24 [.s,.s,.s,.w (vb false)])++(sA 5 [])) [] [(2,vb false)] [] [] (cT (ALe.bool a)) (Kn.R Fm (b false h))
theorem Z5P {F a r} (h:Q7H F a=some r) :
  Q7 Tryz.prog 120 [gE a] [] (vb r) []:=by
 refine FJ Tryz.func120 fun C Fm=>?_
 unfold Q7H at h;refine Q0 Fm 2 [] [(1,pt 1)] [] [(1,bx (gC a))] (AW.seq ?_)
 obtain ⟨c,b,h⟩:=bS h;exact Q5 Fm [.s,.k _,.s,.s] (k1 1) [] [(2,vb (!c))] [] [] ⟨Q2 (Z6M b) Tryz.call121 [],⟨⟩⟩ (Z2 Fm h)
theorem Q7g {F e r} (h:Q0X F e=some r) :
  Q7 Tryz.prog 190 [ow 0] [(0,AO e)] (ow 100) [(100,AO r)]:=by
 refine FJ Tryz.func190 fun C Fm=>?_
 unfold Q0X at h;refine Q1K Fm [.m] (fun K=>True) [0] [] [0] [] True.intro (AW.seq (Q0 Fm 3 [0] [(8,vb (decide ((lI e)<2)))] [0] [] (Q3 h (fun O h=>?_) (fun O h=>?_))))
 ·refine Q0 Fm 2 [] [(2,ow 0)] [0] [] (AW.ret ?_)
  obtain rfl:=Option.some.inj h;exact Q2P Fm [(100,0)] [(2,ow 100)] [(100,AO e)] (Q3b Fm (by kernel_rfl))
 ·refine AW.skip (Q6 (r:=r) (fun z:Unit=>Q4C F e) [0] nn [0] nn (fun z h=>?_) (fun u0 M=>?_))
  ·refine Q0 Fm 2 [] [(2,ow 0)] [0] [] (AW.ret ?_)
   obtain rfl:=Option.some.inj h;exact Q2P Fm [(100,0)] [(2,ow 100)] [(100,AO e)] (Q3b Fm (by kernel_rfl))
  ·refine Q0 Fm 1 [0] [(3,vi 1)] [0] [] (AW.block (Kn.w Fm [(0,ow 0),(3,vi 1)] [(0,AO e)] ?_))
   refine Z5 (E':=fun z=>[(0,ow 0),(3,vi z)]) (S':=fun z=>[(0,AO e)]) (fun D a o0 G h=>?_) h;refine AW.seq (Q0 Fm 4 [0,3] [(13,vb (decide (a<(lI e))))] [0] [] (Q3 h (fun P h=>?_) (fun P h=>?_)))
   ·refine AW.skip (Q6 (r:=r) (fun z:Unit=>Q4D F a D) [0,3] nn [0] nn (fun z h=>?_) (fun t0 L=>?_))
    ·obtain ⟨l0,h⟩:=gS h
     exact Q1 Fm [.s,.s,.s] [0] [(3,vi (a+1))] [0] [] (cT (cT l0)) (Kn.R Fm (G (a+1) h))
    ·refine AW.block ?_
     obtain ⟨y,W,A,h⟩:=gS3 h;refine Y4 Fm (sA 10 []) [0,3] [(25,vb ((gn e a)==(gn e (a-1))))] [0] [] (cA y (cA (Y6 y) (cA (cT W) (cA A (cT (Y6 A)))))) (Q3 h (fun T h=>?_) (fun T h=>?_))
     ·obtain ⟨X,h⟩:=gS h
      refine Q1K Fm [.s,.s,.k (rE { v:=.v (.c (.sub 0 1 (0+(a).toNat) ((List.length e)-(a).toNat))) }),.s] (k1 2) [0,3] [(4,.v (.c (.sub 0 1 (0+(a).toNat) ((List.length e)-(a).toNat))))] [0] [] ⟨Q7a (l:=(some a)) (u:=none) (id:=0) (lo0:=0) (n:=(List.length e)) (N:=List.length e) (f:=LF e) Q0b Y0C rfl rfl (by kernel_rfl) (by kernel_rfl) (by kernel_rfl) (by kernel_rfl) (by kernel_rfl) X (by kernel_rfl),⟨⟩⟩ (Q6 (r:=r) (fun z:Int×(List Int)=>Q4E F z.1 z.2) [0] (fun z=>[(3,vi z.1)]) [] (fun z=>[(0,AO z.2)]) (fun z h=>?_) (fun s0 I=>?_))
      ·obtain ⟨b,d⟩:=z
       obtain ⟨k0,h⟩:=gS h;refine y8 Fm [.s,.s,.k (rE { v:=.v (.c (.sub 0 1 (0+(b).toNat) ((List.length d)-(b).toNat))) }),.k (rE { v:=.any,upd:=some (0,.arr 1 (List.length d) (fun i=>if (0+(b).toNat)<=i/\i<(0+(b).toNat)+((List.length d)-(b).toNat) then (fun _=>[.int .i64 0]) (i-(0+(b).toNat)) else (LF d) i)) })] (k2 2 3) [0,3] [] [] [(0,AO (clr d (0+(b).toNat) ((List.length d)-(b).toNat)))] ⟨Q7a (l:=(some b)) (u:=none) (id:=0) (lo0:=0) (n:=(List.length d)) (N:=List.length d) (f:=LF d) Q0b Y0C rfl rfl (by kernel_rfl) (by kernel_rfl) (by kernel_rfl) (by kernel_rfl) (by kernel_rfl) k0 (by kernel_rfl),Z7m (id:=0) (lo0:=(0+(b).toNat)) (n:=((List.length d)-(b).toNat)) (N:=List.length d) (f:=(LF d)) Q0b Y0C [.int .i64 0] [.int .i64 0] ⟨DLe.refl _,⟨⟩⟩ rfl rfl (by kernel_rfl) (Nat.succ_pos _) (by kernel_rfl) (by kernel_rfl) (by kernel_rfl) (by kernel_rfl) rfl,⟨⟩⟩ [(0,.arr 1 (List.length d) (fun i=>if (0+(b).toNat)<=i/\i<(0+(b).toNat)+((List.length d)-(b).toNat) then (fun _=>[.int .i64 0]) (i-(0+(b).toNat)) else (LF d) i))] ⟨OLe.is (Is.clr (l:=d) (0+(b).toNat) ((List.length d)-(b).toNat) (zd:=[.int .i64 0]) (by kernel_rfl)),⟨⟩⟩ ?_
       obtain ⟨B,h⟩:=gS h;refine Z0q Fm [.s,.s,.m,.s] [] [(2,ow 59)] [] [(59,AO ((clr d (0+(b).toNat) ((List.length d)-(b).toNat)).take (b).toNat))] (cT B) [(59,.arr 1 ((b).toNat) (LF (clr d (0+(b).toNat) ((List.length d)-(b).toNat))))] ⟨OLe.is (Is.take (Is.refl (clr d (0+(b).toNat) ((List.length d)-(b).toNat))) B.2),⟨⟩⟩ (AW.ret ?_)
       obtain rfl:=Option.some.inj h;exact Q2P Fm [(100,59)] [(2,ow 100)] [(100,AO ((clr d (0+(b).toNat) ((List.length d)-(b).toNat)).take (b).toNat))] (Q3b Fm (by kernel_rfl))
      ·refine Q0 Fm 1 [0,3,4] [(5,vi 1)] [0] [] (AW.block (Kn.w Fm [(0,ow 0),(3,vi a),(4,.v (.c (.sub 0 1 (0+(a).toNat) ((List.length e)-(a).toNat)))),(5,vi 1)] [(0,AO e)] ?_))
       refine Z5 (E':=fun z=>[(0,ow 0),(3,vi z.1),(4,.v (.c (.sub 0 1 (0+(a).toNat) ((List.length e)-(a).toNat)))),(5,vi z.2.1)]) (S':=fun z=>[(0,AO z.2.2)]) (fun E z p0 H h=>?_) h;obtain ⟨p,o,j⟩:=z
       refine AW.seq (Q1K Fm [.s,.s,.k (rE { v:=vi ((((List.length e)-(a).toNat):Nat):Int) }),.s] (k1 2) [0,3,4,5] [(32,vb (decide (o<((((List.length e)-(a).toNat):Nat):Int))))] [0] [] ⟨Y4w (es:=1) (id:=0) (lo0:=(0+(a).toNat)) (n:=((List.length e)-(a).toNat)) (N:=List.length j) (f:=LF j) Q0b Y0C rfl rfl (by kernel_rfl) (by kernel_rfl) (by kernel_rfl),⟨⟩⟩ (Q3 h (fun U h=>?_) (fun U h=>?_)))
       ·refine AW.skip (Q6 (r:=r) (fun z:Int×(List Int)=>Q2o F o E z.1 z.2) [0,4,5] (fun z=>[(3,vi z.1)]) [] (fun z=>[(0,AO z.2)]) (fun z h=>?_) (fun q0 t=>?_))
        ·obtain ⟨m0,n0⟩:=z
         obtain ⟨j0,h⟩:=gS h;exact Q1 Fm [.s,.s,.s] [0,3,4] [(5,vi (o+1))] [0] [] (cT (cT j0)) (Kn.R Fm (H (m0,(o+1),n0) h))
        ·refine AW.block ?_
         obtain ⟨Y,Z,a0,b0,h⟩:=gS4 h;obtain ⟨c0,h⟩:=gS h
         refine Q1K Fm [.s,.s,.k (rE { v:=.v (.c (.pte 0 1 ((0+(a).toNat)+(o).toNat) 0)) }),.s,.s,.s,.s,.k (rE { v:=.v (.c (.pte 0 1 ((0+(a).toNat)+((o-1)).toNat) 0)) }),.s,.s] (fun K=>K 2/\_/\(_/\True)/\K 7/\_/\True) [0,3,4,5] [(44,vb ((gl j ((0+(a).toNat)+(o).toNat)) != (gl j ((0+(a).toNat)+((o-1)).toNat))))] [0] [] ⟨Z7l (m:=o) (id:=0) (lo0:=(0+(a).toNat)) (n:=((List.length e)-(a).toNat)) (N:=List.length j) (f:=LF j) Q0b Y0C rfl rfl (by kernel_rfl) (by kernel_rfl) (by kernel_rfl) (by kernel_rfl) Y (by kernel_rfl),Z,⟨a0,⟨⟩⟩,Z7l (m:=(o-1)) (id:=0) (lo0:=(0+(a).toNat)) (n:=((List.length e)-(a).toNat)) (N:=List.length j) (f:=LF j) Q0b Y0C rfl rfl (by kernel_rfl) (by kernel_rfl) (by kernel_rfl) (by kernel_rfl) b0 (by kernel_rfl),c0,⟨⟩⟩ (Q3 h (fun V h=>?_) (fun V h=>?_))
         ·obtain ⟨d0,e0,q,h⟩:=gS3 h
          refine y8 Fm (sA 4 [.k (rE { v:=.v (.c (.pte 0 1 ((0+(a).toNat)+(o).toNat) 0)) }),.s,.s,.s]) (fun K=>K 4/\_/\_/\_/\True) [0,3,4,5] [] [] [(0,AO (List.set j p.toNat (gl j ((0+(a).toNat)+(o).toNat))))] ⟨Z7l (m:=o) (id:=0) (lo0:=(0+(a).toNat)) (n:=((List.length e)-(a).toNat)) (N:=List.length j) (f:=LF j) Q0b Y0C rfl rfl (by kernel_rfl) (by kernel_rfl) (by kernel_rfl) (by kernel_rfl) d0 (by kernel_rfl),e0,q,(Y6 q),⟨⟩⟩ [(0,rSt j p.toNat 0 [.int .i64 (gl j ((0+(a).toNat)+(o).toNat))])] ⟨oSt (Y6 q),⟨⟩⟩ ?_;obtain ⟨i0,h⟩:=gS h
          exact Q1 Fm [.s,.s,.s] [0,4,5] [(3,vi (p+1))] [0] [] (cT (cT i0)) (Kn.R Fm (t ((p+1),(List.set j p.toNat (gl j ((0+(a).toNat)+(o).toNat)))) h))
         ·exact AW.skip (Kn.R Fm (t (p,j) h))
       ·exact AW.exit (Kn.R Fm (I (p,j) h))
     ·exact AW.skip (Kn.R Fm (L () h))
   ·exact AW.exit (Kn.R Fm (M () h))
theorem Z2x {F a r} (h:Q7h F a=some r) :
  Q7 Tryz.prog 148 [AL a] [] (AL r) []:=by
 refine FJ Tryz.func148 fun C Fm=>?_
 unfold Q7h at h;refine Q0 Fm 1 [0] [] [] [] (y8 Fm [.m] (fun K=>True) [0] [(3,ow 3)] [] [(3,AO ([]:List Int))] True.intro [(3,.arr 1 (0) nn)] ⟨OLe.is ((Is.nil (α:=Int))),⟨⟩⟩ (Q6 (r:=r) (fun z:(List Int)=>Z0Z F z) [3] nn [] (fun z=>[(3,AO z)]) (fun W h=>?_) (fun U t=>?_)))
 ·refine AW.seq ?_
  obtain ⟨N,I,h⟩:=bS h;refine Q5 Fm [.s,.k _] (k1 1) [3] [] [] [(3,AO N)] ⟨Q2 (Y0y I) Tryz.call189 [(0,3)],⟨⟩⟩ (AW.seq ?_)
  obtain ⟨j,L,h⟩:=bS h;refine Q5 Fm [.s,.k _,.s] (k1 1) [] [(2,ow 32)] [] [(32,AO j)] ⟨Q2 (Q7g L) Tryz.call190 [(0,3),(100,32)],⟨⟩⟩ (AW.ret ?_)
  obtain rfl:=Option.some.inj h;exact Kn.w Fm [(2,ow 32)] [(32,AO j)] (Q1F [(2,AL j)] [] (Kn.D Fm))
 ·refine Q0 Fm 3 [3] [(8,AL a),(9,vi (lI a)),(10,vi 0)] [3] [] (AW.block (Kn.w Fm [(3,ow 3),(8,AL a),(9,vi (lI a)),(10,vi 0)] [(3,AO ([]:List Int))] ?_))
  refine Z5 (E':=fun z=>[(3,ow 3),(8,AL a),(9,vi (lI a)),(10,vi z.1)]) (S':=fun z=>[(3,AO z.2)]) (fun n z O o h=>?_) h;obtain ⟨b,l⟩:=z
  refine Q0 Fm 1 [3,8,9,10] [(11,vb (decide (b<(lI a))))] [3] [] (AW.seq (Q3 h (fun u h=>?_) (fun u h=>?_)))
  ·refine AW.skip (Q6 (r:=r) (fun z:(List Int)=>Z1a F b n z) [3,8,9,10] nn [] (fun z=>[(3,AO z)]) (fun M h=>?_) (fun T q=>?_))
   ·obtain ⟨H,h⟩:=gS h
    exact Q1 Fm [.s,.s] [3,8,9] [(10,vi (b+1))] [3] [] (cT (cT H)) (Kn.R Fm (o ((b+1),M) h))
   ·refine AW.block ?_
    obtain ⟨A,h⟩:=gS h;refine Y4 Fm [.s,.s,.s] [3,8,9,10] [(5,AL (gn a b))] [3] [] (cT A) (Q0 Fm 3 [3,8,9,10] [(14,AL (gn a b)),(15,vi (lI (gn a b))),(16,vi 0)] [3] [] (AW.block (Kn.w Fm [(3,ow 3),(8,AL a),(9,vi (lI a)),(10,vi b),(14,AL (gn a b)),(15,vi (lI (gn a b))),(16,vi 0)] [(3,AO l)] ?_)))
    refine Z5 (E':=fun z=>[(3,ow 3),(8,AL a),(9,vi (lI a)),(10,vi b),(14,AL (gn a b)),(15,vi (lI (gn a b))),(16,vi z.1)]) (S':=fun z=>[(3,AO z.2)]) (fun V z P p h=>?_) h;obtain ⟨e,i⟩:=z
    refine Q0 Fm 1 [3,8,9,10,14,15,16] [(17,vb (decide (e<(lI (gn a b)))))] [3] [] (AW.seq (Q3 h (fun y h=>?_) (fun y h=>?_)))
    ·refine AW.skip (AW.seq (AW.block ?_))
     obtain ⟨B,h⟩:=gS h;refine Y4 Fm (sA 4 []) [3,8,9,10,14,15,16] [(7,pt 7)] [3] [(7,bx [ci ((gn (gn a b) e).L_),ci ((gn (gn a b) e).w_),ci ((gn (gn a b) e).R_),ci ((gn (gn a b) e).H_)])] (cT B) ?_
     obtain ⟨E,h⟩:=gS h;refine Q2h Fm (sA 5 [.w (AL ([(gn (gn a b) e).w_,(gn (gn a b) e).H_]:List Int)),.s,.s]) [8,9,10,14,15,16] [(3,ow 26)] [] [(26,AO (i++([(gn (gn a b) e).w_,(gn (gn a b) e).H_]:List Int)))] (cA (ALe.lst (.lit ([(gn (gn a b) e).w_,(gn (gn a b) e).H_]:List Int) (by kernel_rfl)):ALe (.v (.c (.d (.lst 2 (Z0n 1 [.int .i64 (gn (gn a b) e).w_,.int .i64 (gn (gn a b) e).H_]))))) (AL ([(gn (gn a b) e).w_,(gn (gn a b) e).H_]:List Int))) (cT (cA E (cT (lfl ([(gn (gn a b) e).w_,(gn (gn a b) e).H_]:List Int)))))) [(26,rAp i ([(gn (gn a b) e).w_,(gn (gn a b) e).H_]:List Int))] ⟨oAp,⟨⟩⟩ ?_
     obtain ⟨G,h⟩:=gS h;exact Q1 Fm [.s,.s] [3,8,9,10,14,15] [(16,vi (e+1))] [26] [] (cT (cT G)) (Q1e Fm [(3,26)] (p ((e+1),(i++([(gn (gn a b) e).w_,(gn (gn a b) e).H_]:List Int))) h))
    ·exact AW.exit (Kn.R Fm (q i h))
  ·exact AW.exit (Kn.R Fm (t l h))
theorem Z1A {F a r} (h:Q6x F a=some r) :
  Q7 Tryz.prog 237 [vi a] [] (vb r) []:=by
 refine FJ Tryz.func237 fun C Fm=>?_
 unfold Q6x at h;exact Q0 Fm 1 [0] [] [] [] (Q0 Fm 4 [] [(2,vb (a != a))] [] [] (Z2 Fm h))
theorem Q5v {F a b r} (h:Q1A F a b=some r) :
  Q7 Tryz.prog 195 [vi a,vi b] [] (vi r) []:=by
 refine FJ Tryz.func195 fun C Fm=>?_
 unfold Q1A at h;refine Q0 Fm 1 [0,1] [] [] [] (AW.seq ?_)
 obtain ⟨d,n,h⟩:=bS h;refine Q5 Fm [.s,.k _,.s] (k1 1) [0,1] [(5,vb d)] [] [] ⟨Q2 (Z1A n) Tryz.call237 [],⟨⟩⟩ (AW.seq ?_)
 obtain ⟨c,o,h⟩:=bS h;refine Q5 Fm [.s,.k _,.s] (k1 1) [0,1,5] [(6,vb c)] [] [] ⟨Q2 (Z1A o) Tryz.call237 [],⟨⟩⟩ (AW.seq (Q0 Fm 1 [0,1,6] [(11,vb d)] [] [] (Q3 h (fun e h=>?_) (fun e h=>?_))))
 ·refine AW.seq (Q0 Fm 1 [] [(12,vb c)] [] [] (Q3 h (fun i h=>?_) (fun i h=>?_)))
  ·exact Q0 Fm 1 [] [(4,vi 0)] [] [] (Z2 Fm h)
  ·exact AW.skip (Q0 Fm 1 [] [(4,vi (-1:Int))] [] [] (Z2 Fm h))
 ·refine AW.skip (AW.seq (Q0 Fm 1 [0,1] [(13,vb c)] [] [] (Q3 h (fun j h=>?_) (fun j h=>?_))))
  ·exact Q0 Fm 1 [] [(4,vi 1)] [] [] (Z2 Fm h)
  ·refine AW.skip (AW.seq (Q0 Fm 3 [0,1] [(16,vb (decide (a<b)))] [] [] (Q3 h (fun l h=>?_) (fun l h=>?_))))
   ·exact Q0 Fm 1 [] [(4,vi (-1:Int))] [] [] (Z2 Fm h)
   ·refine AW.skip (AW.seq (Q0 Fm 3 [] [(19,vb (decide (b<a)))] [] [] (Q3 h (fun m h=>?_) (fun m h=>?_))))
    ·exact Q0 Fm 1 [] [(4,vi 1)] [] [] (Z2 Fm h)
    ·exact AW.skip (Q0 Fm 1 [] [(4,vi 0)] [] [] (Z2 Fm h))
theorem Z7D {F a b r} (h:Q7I F a b=some r) :
  Q7 Tryz.prog 194 [gE a,gE b] [] (vi r) []:=by
 refine FJ Tryz.func194 fun C Fm=>?_
 unfold Q7I at h;refine Q0 Fm 3 [] [(2,pt 2),(3,pt 3)] [] [(2,bx (gC a)),(3,bx (gC b))] (AW.seq ?_)
 obtain ⟨d,c,h⟩:=bS h;exact Q5 Fm (sA 4 [.k _,.s]) (k1 4) [] [(4,vi d)] [] [] ⟨Q2 (Q5v c) Tryz.call195 [],⟨⟩⟩ (Z2 Fm h)
end
end
end Go.Ab
