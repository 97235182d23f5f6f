/- The code follows the plain programs: whenever the plain program has a result. -/
import Derived.Test.YtdfbifjpedjljaaGreatAbE
set_option linter.unusedVariables false
set_option linter.unusedSimpArgs false
section
namespace Go.Ab
open Go.Proofs
set_option linter.unusedVariables false
set_option maxRecDepth 100000
theorem keep_New_spec {F:Nat} {x1:(List Int)} {r:Tape} (h:keep_New F x1=some r) :
  FSpec Tryz.prog 13 [AL x1] [] (pt 100) [(100,bx (gC r))]:=by
 refine FI Tryz.func13 prog_mixed prog_lay fun C Fm=>?_
 unfold keep_New at h
 refine AW.SG0 Fm 1 [(0,AL x1)] [] ?_
 obtain ⟨hg2,h⟩:=gS h
 refine AW.SP Fm [.s,.s,.s,.s,.w (AL (α:=Int) (x1.take (gmin (lI x1) (400:Int)).toNat)),.s,.s,.s] [(2,pt 9)] [(9,bx [.d (DL (α:=Int) (x1.take (gmin (lI x1) (400:Int)).toNat)),ci 0])] (cA (⟨hg2,(Is.refl x1).len⟩ : ((sl (List.length x1) (LF x1) none (some (gmin (lI x1) (400:Int)))).2∧∀ j,j<List.length x1→(LF x1 j).length=1)) (cT (ALe.lst (sl_is x1 none (some (gmin (lI x1) (400:Int))) hg2):ALe (.v (.c (.d (.lst (sl (List.length x1) (LF x1) none (some (gmin (lI x1) (400:Int)))).1.1 (sl (List.length x1) (LF x1) none (some (gmin (lI x1) (400:Int)))).1.2)))) (AL (α:=Int) (x1.take (gmin (lI x1) (400:Int)).toNat))))) ?_
 refine AW.ret ?_
 obtain rfl:=Option.some.inj h
 exact Kn.re Fm [(100,9)] [(2,pt 100)] [(100,bx [.d (DL (α:=Int) (x1.take (gmin (lI x1) (400:Int)).toNat)),ci 0])] (by kernel_rfl) (by kernel_rfl) (by kernel_rfl) (by kernel_rfl) (Kn.dn Fm (by kernel_rfl))
theorem keep_Mod_spec {F:Nat} {x3:Int} {x4:Int} {r:Int} (h:keep_Mod F x3 x4=some r) :
  FSpec Tryz.prog 27 [vi x3,vi x4] [] (vi r) []:=by
 refine FI Tryz.func27 prog_mixed prog_lay fun C Fm=>?_
 unfold keep_Mod at h
 refine AW.SG0 Fm 1 [(0,vi x3),(1,vi x4)] [] ?_
 refine AW.seq (AW.SG0 Fm 2 [(0,vi x3),(1,vi x4),(6,vb (decide (x4<(1:Int))))] [] ?_)
 refine AW.cN h (fun hb5 h=>?_) (fun hb5 h=>?_)
 ·refine AW.SG0 Fm 1 [(4,vi 0)] [] ?_
  refine AW.ret ?_
  obtain rfl:=Option.some.inj h
  exact Kn.D Fm
 ·refine AW.skip ?_
  obtain ⟨hg6,h⟩:=gS h
  refine AW.SP Fm [.s,.s,.s,.s] [(0,vi (x3.tmod x4)),(1,vi x4)] [] (cT hg6) ?_
  refine AW.join (r:=r) (fun z:Int=>keep_Mod_k0 F z) (fun z=>[(0,vi z)]) (fun z=>[]) (fun v9 h=>?_) (fun b a=>?_)
  ·refine AW.SG0 Fm 2 [(4,vi v9)] [] ?_
   refine AW.ret ?_
   obtain rfl:=Option.some.inj h
   exact Kn.D Fm
  ·refine AW.SG0 Fm 2 [(0,vi (x3.tmod x4)),(1,vi x4),(11,vb (decide ((x3.tmod x4)<(0:Int))))] [] ?_
   refine AW.cN h (fun hb7 h=>?_) (fun hb7 h=>?_)
   ·obtain ⟨hg8,h⟩:=gS h
    refine AW.pN Fm [.s,.s,.s,.s] [(0,vi ((x3.tmod x4)+x4))] [] (cT (cT hg8)) ?_
    exact Kn.R Fm (a ((x3.tmod x4)+x4) h)
   ·exact AW.skip (Kn.R Fm (a (x3.tmod x4) h))
theorem keep_Tape_Next_spec {F:Nat} {a:Tape} {b:Int} {r:Tape×Int} (h:keep_Tape_Next F a b=some r) :
  FSpec Tryz.prog 15 [pt 0,vi b] [(0,bx (gC a))] (vi r.2) [(0,bx (gC r.1))]:=by
 refine FI Tryz.func15 prog_mixed prog_lay fun C Fm=>?_
 unfold keep_Tape_Next at h
 refine AW.SG0 Fm 1 [(0,pt 0),(1,vi b)] [(0,bx (gC a))] ?_
 refine AW.seq (AW.SG0 Fm 10 [(0,pt 0),(1,vi b),(14,vb (decide ((lI a.l_)≤a.at_)))] [(0,bx (gC a))] ?_)
 refine AW.cN h (fun e h=>?_) (fun e h=>?_)
 ·refine AW.SG0 Fm 1 [(4,vi 0)] [(0,bx (gC a))] ?_
  refine AW.ret ?_
  obtain rfl:=Option.some.inj h
  exact Kn.D Fm
 ·refine AW.skip ?_
  obtain ⟨i,h⟩:=gS h
  refine AW.SP Fm [.s,.s,.s,.s,.s,.s,.s,.s] [(0,pt 0),(1,vi b)] [(0,bx [.d (DL a.l_),ci (a.at_+1)])] (cT (cT i)) ?_
  refine AW.seq ?_
  obtain ⟨j,l,h⟩:=gS2 h
  obtain ⟨c,m,h⟩:=bS h
  refine AW.G Fm [.s,.s,.s,.s,.s,.s,.s,.s,.s,.s,.s,.s,.k (cE [] [] (vi c) [] []),.s] (fun K=>(_∧True)∧_∧K 12∧True) [(4,vi c)] [(0,bx [.d (DL a.l_),ci (a.at_+1)])] ⟨⟨j,⟨⟩⟩,l,KAt.CC (keep_Mod_spec m) Tryz.call27 [],⟨⟩⟩ ?_
  refine AW.ret ?_
  obtain rfl:=Option.some.inj h
  exact Kn.D Fm
theorem keep_Tape_Range_spec {F:Nat} {a:Tape} {b:Int} {d:Int} {r:Tape×Int} (h:keep_Tape_Range F a b d=some r) :
  FSpec Tryz.prog 45 [pt 0,vi b,vi d] [(0,bx (gC a))] (vi r.2) [(0,bx (gC r.1))]:=by
 refine FI Tryz.func45 prog_mixed prog_lay fun C Fm=>?_
 unfold keep_Tape_Range at h
 refine AW.SG0 Fm 1 [(0,pt 0),(1,vi b),(2,vi d)] [(0,bx (gC a))] ?_
 refine AW.seq ?_
 obtain ⟨e,i,h⟩:=gS2 h
 obtain ⟨c,l,h⟩:=bS h
 obtain ⟨j,h⟩:=gS h
 refine AW.G Fm [.s,.s,.s,.s,.s,.s,.k (cE [(0,0)] [] (vi c.2) [(0,bx (gC a))] [(0,bx (gC c.1))]),.s,.s] (fun K=>(_∧True)∧(_∧True)∧K 6∧(_∧True)∧True) [(6,vi (b+c.2))] [(0,bx (gC c.1))] ⟨⟨e,⟨⟩⟩,⟨i,⟨⟩⟩,KAt.CC (keep_Tape_Next_spec l) Tryz.call15 [(0,0)],⟨j,⟨⟩⟩,⟨⟩⟩ ?_
 refine AW.ret ?_
 obtain rfl:=Option.some.inj h
 exact Kn.D Fm
theorem keep_Tape_Crops_spec {F:Nat} {n:Tape} {r:Tape×(List Crop)} (h:keep_Tape_Crops F n=some r) :
  FSpec Tryz.prog 14 [pt 0] [(0,bx (gC n))] (AL (α:=Crop) r.2) [(0,bx (gC r.1))]:=by
 refine FI Tryz.func14 prog_mixed prog_lay fun C Fm=>?_
 unfold keep_Tape_Crops at h
 refine AW.SG0 Fm 1 [(0,pt 0)] [(0,bx (gC n))] ?_
 refine AW.SP Fm [.w (AL (α:=ByteArray) ([(ByteArray.mk #[98,97,114,108,101,121]),(ByteArray.mk #[99,108,111,118,101,114]),(ByteArray.mk #[103,114,97,115,115]),(ByteArray.mk #[109,97,105,122,101]),(ByteArray.mk #[111,97,116,115]),(ByteArray.mk #[114,121,101]),(ByteArray.mk #[118,101,116,99,104]),(ByteArray.mk #[119,104,101,97,116])]:List ByteArray)),.s] [(0,pt 0),(3,AL (α:=ByteArray) ([(ByteArray.mk #[98,97,114,108,101,121]),(ByteArray.mk #[99,108,111,118,101,114]),(ByteArray.mk #[103,114,97,115,115]),(ByteArray.mk #[109,97,105,122,101]),(ByteArray.mk #[111,97,116,115]),(ByteArray.mk #[114,121,101]),(ByteArray.mk #[118,101,116,99,104]),(ByteArray.mk #[119,104,101,97,116])]:List ByteArray))] [(0,bx (gC n))] (cT (ALe.lst (.lit ([(ByteArray.mk #[98,97,114,108,101,121]),(ByteArray.mk #[99,108,111,118,101,114]),(ByteArray.mk #[103,114,97,115,115]),(ByteArray.mk #[109,97,105,122,101]),(ByteArray.mk #[111,97,116,115]),(ByteArray.mk #[114,121,101]),(ByteArray.mk #[118,101,116,99,104]),(ByteArray.mk #[119,104,101,97,116])]:List ByteArray) (by kernel_rfl)):ALe (.v (.c (.d (.lst 8 (litF 1 [.str (ByteArray.mk #[98,97,114,108,101,121]),.str (ByteArray.mk #[99,108,111,118,101,114]),.str (ByteArray.mk #[103,114,97,115,115]),.str (ByteArray.mk #[109,97,105,122,101]),.str (ByteArray.mk #[111,97,116,115]),.str (ByteArray.mk #[114,121,101]),.str (ByteArray.mk #[118,101,116,99,104]),.str (ByteArray.mk #[119,104,101,97,116])]))))) (AL (α:=ByteArray) ([(ByteArray.mk #[98,97,114,108,101,121]),(ByteArray.mk #[99,108,111,118,101,114]),(ByteArray.mk #[103,114,97,115,115]),(ByteArray.mk #[109,97,105,122,101]),(ByteArray.mk #[111,97,116,115]),(ByteArray.mk #[114,121,101]),(ByteArray.mk #[118,101,116,99,104]),(ByteArray.mk #[119,104,101,97,116])]:List ByteArray)))) ?_
 refine AW.SW Fm [.m] (fun K=>True) [(0,pt 0),(3,AL (α:=ByteArray) ([(ByteArray.mk #[98,97,114,108,101,121]),(ByteArray.mk #[99,108,111,118,101,114]),(ByteArray.mk #[103,114,97,115,115]),(ByteArray.mk #[109,97,105,122,101]),(ByteArray.mk #[111,97,116,115]),(ByteArray.mk #[114,121,101]),(ByteArray.mk #[118,101,116,99,104]),(ByteArray.mk #[119,104,101,97,116])]:List ByteArray)),(4,ow 4)] [(0,bx (gC n)),(4,AO (α:=Crop) ([]:List Crop))] True.intro [(4,.arr 3 (0) (fun _=>[]))] ⟨OLe.is ((Is.nil (α:=Crop))),⟨⟩⟩ ?_
 refine AW.join (r:=r) (fun z:(List Crop)×(List Int)×Int=>keep_Tape_Crops_k1 F z.1 z.2.1 z.2.2) (fun z=>[(4,ow 4)]) (fun z=>[(0,bx [.d (DL z.2.1),ci z.2.2]),(4,AO z.1)]) (fun z h=>?_) (fun U B=>?_)
 ·obtain ⟨q,t,u⟩:=z
  refine AW.SG0 Fm 2 [(2,ow 4)] [(0,bx [.d (DL t),ci u]),(4,AO q)] ?_
  refine AW.ret ?_
  obtain rfl:=Option.some.inj h
  refine Kn.r Fm [(2,ow 4)] [(4,AO q),(0,bx [.d (DL t),ci u])] (by kernel_rfl) ?_
  refine Kn.frz [(2,AL q)] [(0,bx [.d (DL t),ci u])] (by kernel_rfl) (by kernel_rfl) (by kernel_rfl) ?_
  exact Kn.D Fm
 ·refine AW.seq ?_
  obtain ⟨a,N,h⟩:=bS h
  obtain ⟨y,h⟩:=gS h
  refine AW.G Fm [.s,.s,.k (cE [(0,0)] [] (vi a.2) [(0,bx (gC n))] [(0,bx (gC a.1))]),.w (AL (α:=ByteArray) (([(ByteArray.mk #[98,97,114,108,101,121]),(ByteArray.mk #[99,108,111,118,101,114]),(ByteArray.mk #[103,114,97,115,115]),(ByteArray.mk #[109,97,105,122,101]),(ByteArray.mk #[111,97,116,115]),(ByteArray.mk #[114,121,101]),(ByteArray.mk #[118,101,116,99,104]),(ByteArray.mk #[119,104,101,97,116])]:List ByteArray).take a.2.toNat)),.s,.s] (fun K=>K 2∧(((sl (List.length ([(ByteArray.mk #[98,97,114,108,101,121]),(ByteArray.mk #[99,108,111,118,101,114]),(ByteArray.mk #[103,114,97,115,115]),(ByteArray.mk #[109,97,105,122,101]),(ByteArray.mk #[111,97,116,115]),(ByteArray.mk #[114,121,101]),(ByteArray.mk #[118,101,116,99,104]),(ByteArray.mk #[119,104,101,97,116])]:List ByteArray)) (LF ([(ByteArray.mk #[98,97,114,108,101,121]),(ByteArray.mk #[99,108,111,118,101,114]),(ByteArray.mk #[103,114,97,115,115]),(ByteArray.mk #[109,97,105,122,101]),(ByteArray.mk #[111,97,116,115]),(ByteArray.mk #[114,121,101]),(ByteArray.mk #[118,101,116,99,104]),(ByteArray.mk #[119,104,101,97,116])]:List ByteArray)) none (some a.2)).2∧∀ j,j<List.length ([(ByteArray.mk #[98,97,114,108,101,121]),(ByteArray.mk #[99,108,111,118,101,114]),(ByteArray.mk #[103,114,97,115,115]),(ByteArray.mk #[109,97,105,122,101]),(ByteArray.mk #[111,97,116,115]),(ByteArray.mk #[114,121,101]),(ByteArray.mk #[118,101,116,99,104]),(ByteArray.mk #[119,104,101,97,116])]:List ByteArray)→(LF ([(ByteArray.mk #[98,97,114,108,101,121]),(ByteArray.mk #[99,108,111,118,101,114]),(ByteArray.mk #[103,114,97,115,115]),(ByteArray.mk #[109,97,105,122,101]),(ByteArray.mk #[111,97,116,115]),(ByteArray.mk #[114,121,101]),(ByteArray.mk #[118,101,116,99,104]),(ByteArray.mk #[119,104,101,97,116])]:List ByteArray) j).length=1))∧(ALe (.v (.c (.d (.lst (sl (List.length ([(ByteArray.mk #[98,97,114,108,101,121]),(ByteArray.mk #[99,108,111,118,101,114]),(ByteArray.mk #[103,114,97,115,115]),(ByteArray.mk #[109,97,105,122,101]),(ByteArray.mk #[111,97,116,115]),(ByteArray.mk #[114,121,101]),(ByteArray.mk #[118,101,116,99,104]),(ByteArray.mk #[119,104,101,97,116])]:List ByteArray)) (LF ([(ByteArray.mk #[98,97,114,108,101,121]),(ByteArray.mk #[99,108,111,118,101,114]),(ByteArray.mk #[103,114,97,115,115]),(ByteArray.mk #[109,97,105,122,101]),(ByteArray.mk #[111,97,116,115]),(ByteArray.mk #[114,121,101]),(ByteArray.mk #[118,101,116,99,104]),(ByteArray.mk #[119,104,101,97,116])]:List ByteArray)) none (some a.2)).1.1 (sl (List.length ([(ByteArray.mk #[98,97,114,108,101,121]),(ByteArray.mk #[99,108,111,118,101,114]),(ByteArray.mk #[103,114,97,115,115]),(ByteArray.mk #[109,97,105,122,101]),(ByteArray.mk #[111,97,116,115]),(ByteArray.mk #[114,121,101]),(ByteArray.mk #[118,101,116,99,104]),(ByteArray.mk #[119,104,101,97,116])]:List ByteArray)) (LF ([(ByteArray.mk #[98,97,114,108,101,121]),(ByteArray.mk #[99,108,111,118,101,114]),(ByteArray.mk #[103,114,97,115,115]),(ByteArray.mk #[109,97,105,122,101]),(ByteArray.mk #[111,97,116,115]),(ByteArray.mk #[114,121,101]),(ByteArray.mk #[118,101,116,99,104]),(ByteArray.mk #[119,104,101,97,116])]:List ByteArray)) none (some a.2)).1.2)))) (AL (α:=ByteArray) (([(ByteArray.mk #[98,97,114,108,101,121]),(ByteArray.mk #[99,108,111,118,101,114]),(ByteArray.mk #[103,114,97,115,115]),(ByteArray.mk #[109,97,105,122,101]),(ByteArray.mk #[111,97,116,115]),(ByteArray.mk #[114,121,101]),(ByteArray.mk #[118,101,116,99,104]),(ByteArray.mk #[119,104,101,97,116])]:List ByteArray).take a.2.toNat)))∧True) [(0,pt 0),(4,ow 4),(11,AL (α:=ByteArray) (([(ByteArray.mk #[98,97,114,108,101,121]),(ByteArray.mk #[99,108,111,118,101,114]),(ByteArray.mk #[103,114,97,115,115]),(ByteArray.mk #[109,97,105,122,101]),(ByteArray.mk #[111,97,116,115]),(ByteArray.mk #[114,121,101]),(ByteArray.mk #[118,101,116,99,104]),(ByteArray.mk #[119,104,101,97,116])]:List ByteArray).take a.2.toNat)),(12,vi ((List.length (([(ByteArray.mk #[98,97,114,108,101,121]),(ByteArray.mk #[99,108,111,118,101,114]),(ByteArray.mk #[103,114,97,115,115]),(ByteArray.mk #[109,97,105,122,101]),(ByteArray.mk #[111,97,116,115]),(ByteArray.mk #[114,121,101]),(ByteArray.mk #[118,101,116,99,104]),(ByteArray.mk #[119,104,101,97,116])]:List ByteArray).take a.2.toNat):Nat):Int)),(13,vi 0)] [(0,bx (gC a.1)),(4,AO (α:=Crop) ([]:List Crop))] ⟨KAt.CC (keep_Tape_Range_spec N) Tryz.call45 [(0,0)],⟨y,(Is.refl ([(ByteArray.mk #[98,97,114,108,101,121]),(ByteArray.mk #[99,108,111,118,101,114]),(ByteArray.mk #[103,114,97,115,115]),(ByteArray.mk #[109,97,105,122,101]),(ByteArray.mk #[111,97,116,115]),(ByteArray.mk #[114,121,101]),(ByteArray.mk #[118,101,116,99,104]),(ByteArray.mk #[119,104,101,97,116])]:List ByteArray)).len⟩,ALe.lst (sl_is ([(ByteArray.mk #[98,97,114,108,101,121]),(ByteArray.mk #[99,108,111,118,101,114]),(ByteArray.mk #[103,114,97,115,115]),(ByteArray.mk #[109,97,105,122,101]),(ByteArray.mk #[111,97,116,115]),(ByteArray.mk #[114,121,101]),(ByteArray.mk #[118,101,116,99,104]),(ByteArray.mk #[119,104,101,97,116])]:List ByteArray) none (some a.2) y),⟨⟩⟩ ?_
  refine AW.block (Kn.r Fm [(0,pt 0),(4,ow 4),(11,AL (α:=ByteArray) (([(ByteArray.mk #[98,97,114,108,101,121]),(ByteArray.mk #[99,108,111,118,101,114]),(ByteArray.mk #[103,114,97,115,115]),(ByteArray.mk #[109,97,105,122,101]),(ByteArray.mk #[111,97,116,115]),(ByteArray.mk #[114,121,101]),(ByteArray.mk #[118,101,116,99,104]),(ByteArray.mk #[119,104,101,97,116])]:List ByteArray).take a.2.toNat)),(12,vi ((List.length (([(ByteArray.mk #[98,97,114,108,101,121]),(ByteArray.mk #[99,108,111,118,101,114]),(ByteArray.mk #[103,114,97,115,115]),(ByteArray.mk #[109,97,105,122,101]),(ByteArray.mk #[111,97,116,115]),(ByteArray.mk #[114,121,101]),(ByteArray.mk #[118,101,116,99,104]),(ByteArray.mk #[119,104,101,97,116])]:List ByteArray).take a.2.toNat):Nat):Int)),(13,vi 0)] [(0,bx [.d (DL a.1.l_),ci a.1.at_]),(4,AO ([]:List Crop))] (by kernel_rfl) ?_)
  refine AW.loopF (E' := fun z=>[(0,pt 0),(4,ow 4),(11,AL (α:=ByteArray) (([(ByteArray.mk #[98,97,114,108,101,121]),(ByteArray.mk #[99,108,111,118,101,114]),(ByteArray.mk #[103,114,97,115,115]),(ByteArray.mk #[109,97,105,122,101]),(ByteArray.mk #[111,97,116,115]),(ByteArray.mk #[114,121,101]),(ByteArray.mk #[118,101,116,99,104]),(ByteArray.mk #[119,104,101,97,116])]:List ByteArray).take a.2.toNat)),(12,vi ((List.length (([(ByteArray.mk #[98,97,114,108,101,121]),(ByteArray.mk #[99,108,111,118,101,114]),(ByteArray.mk #[103,114,97,115,115]),(ByteArray.mk #[109,97,105,122,101]),(ByteArray.mk #[111,97,116,115]),(ByteArray.mk #[114,121,101]),(ByteArray.mk #[118,101,116,99,104]),(ByteArray.mk #[119,104,101,97,116])]:List ByteArray).take a.2.toNat):Nat):Int)),(13,vi z.1)]) (S' := fun z=>[(0,bx [.d (DL z.2.1),ci z.2.2.1]),(4,AO z.2.2.2)]) (fun V z T A h=>?_) h
  obtain ⟨b,o,p,l⟩:=z
  refine AW.SG0 Fm 1 [(0,pt 0),(4,ow 4),(11,AL (α:=ByteArray) (([(ByteArray.mk #[98,97,114,108,101,121]),(ByteArray.mk #[99,108,111,118,101,114]),(ByteArray.mk #[103,114,97,115,115]),(ByteArray.mk #[109,97,105,122,101]),(ByteArray.mk #[111,97,116,115]),(ByteArray.mk #[114,121,101]),(ByteArray.mk #[118,101,116,99,104]),(ByteArray.mk #[119,104,101,97,116])]:List ByteArray).take a.2.toNat)),(12,vi ((List.length (([(ByteArray.mk #[98,97,114,108,101,121]),(ByteArray.mk #[99,108,111,118,101,114]),(ByteArray.mk #[103,114,97,115,115]),(ByteArray.mk #[109,97,105,122,101]),(ByteArray.mk #[111,97,116,115]),(ByteArray.mk #[114,121,101]),(ByteArray.mk #[118,101,116,99,104]),(ByteArray.mk #[119,104,101,97,116])]:List ByteArray).take a.2.toNat):Nat):Int)),(13,vi b),(14,vb (decide (b<((List.length (([(ByteArray.mk #[98,97,114,108,101,121]),(ByteArray.mk #[99,108,111,118,101,114]),(ByteArray.mk #[103,114,97,115,115]),(ByteArray.mk #[109,97,105,122,101]),(ByteArray.mk #[111,97,116,115]),(ByteArray.mk #[114,121,101]),(ByteArray.mk #[118,101,116,99,104]),(ByteArray.mk #[119,104,101,97,116])]:List ByteArray).take a.2.toNat):Nat):Int))))] [(0,bx [.d (DL o),ci p]),(4,AO l)] ?_
  refine AW.seq (AW.cN h (fun E h=>?_) (fun E h=>?_))
  ·refine AW.skip (AW.seq (AW.block ?_))
   obtain ⟨H,h⟩:=gS h
   refine AW.SP Fm [.s,.s,.s] [(0,pt 0),(4,ow 4),(6,.v (.c (.d (.str (gl (([(ByteArray.mk #[98,97,114,108,101,121]),(ByteArray.mk #[99,108,111,118,101,114]),(ByteArray.mk #[103,114,97,115,115]),(ByteArray.mk #[109,97,105,122,101]),(ByteArray.mk #[111,97,116,115]),(ByteArray.mk #[114,121,101]),(ByteArray.mk #[118,101,116,99,104]),(ByteArray.mk #[119,104,101,97,116])]:List ByteArray).take a.2.toNat) b.toNat))))),(11,AL (α:=ByteArray) (([(ByteArray.mk #[98,97,114,108,101,121]),(ByteArray.mk #[99,108,111,118,101,114]),(ByteArray.mk #[103,114,97,115,115]),(ByteArray.mk #[109,97,105,122,101]),(ByteArray.mk #[111,97,116,115]),(ByteArray.mk #[114,121,101]),(ByteArray.mk #[118,101,116,99,104]),(ByteArray.mk #[119,104,101,97,116])]:List ByteArray).take a.2.toNat)),(12,vi ((List.length (([(ByteArray.mk #[98,97,114,108,101,121]),(ByteArray.mk #[99,108,111,118,101,114]),(ByteArray.mk #[103,114,97,115,115]),(ByteArray.mk #[109,97,105,122,101]),(ByteArray.mk #[111,97,116,115]),(ByteArray.mk #[114,121,101]),(ByteArray.mk #[118,101,116,99,104]),(ByteArray.mk #[119,104,101,97,116])]:List ByteArray).take a.2.toNat):Nat):Int)),(13,vi b)] [(0,bx [.d (DL o),ci p]),(4,AO l)] (cT H) ?_
   obtain ⟨i,O,h⟩:=bS h
   obtain ⟨e,P,h⟩:=bS h
   obtain ⟨I,L,h⟩:=gS2 h
   refine AW.GW Fm [.s,.s,.s,.k (cE [(0,0)] [] (vi i.2) [(0,bx [.d (DL (α:=Int) (⟨o,p⟩ : Tape).l_),ci ((⟨o,p⟩ : Tape).at_)])] [(0,bx (gC i.1))]),.w (AL (α:=Int) ([(0:Int),(0:Int),(0:Int),(2:Int),(20:Int),(8:Int),(1:Int),(31:Int)]:List Int)),.s,.k (cE [(0,0)] [] (vi e.2) [(0,bx (gC i.1))] [(0,bx (gC e.1))]),.s,.s,.s,.w (AL (α:=Crop) ([(⟨(gl (([(ByteArray.mk #[98,97,114,108,101,121]),(ByteArray.mk #[99,108,111,118,101,114]),(ByteArray.mk #[103,114,97,115,115]),(ByteArray.mk #[109,97,105,122,101]),(ByteArray.mk #[111,97,116,115]),(ByteArray.mk #[114,121,101]),(ByteArray.mk #[118,101,116,99,104]),(ByteArray.mk #[119,104,101,97,116])]:List ByteArray).take a.2.toNat) b.toNat),i.2,(gl ([(0:Int),(0:Int),(0:Int),(2:Int),(20:Int),(8:Int),(1:Int),(31:Int)]:List Int) e.2.toNat)⟩ : Crop)]:List Crop)),.s,.s] (fun K=>K 3∧(ALe (.v (.c (.d (.lst 8 (litF 1 [.int .i64 (0:Int),.int .i64 (0:Int),.int .i64 (0:Int),.int .i64 (2:Int),.int .i64 (20:Int),.int .i64 (8:Int),.int .i64 (1:Int),.int .i64 (31:Int)]))))) (AL (α:=Int) ([(0:Int),(0:Int),(0:Int),(2:Int),(20:Int),(8:Int),(1:Int),(31:Int)]:List Int)))∧K 6∧_∧(ALe (.v (.c (.d (.lst 1 (litF 3 [.str (gl (([(ByteArray.mk #[98,97,114,108,101,121]),(ByteArray.mk #[99,108,111,118,101,114]),(ByteArray.mk #[103,114,97,115,115]),(ByteArray.mk #[109,97,105,122,101]),(ByteArray.mk #[111,97,116,115]),(ByteArray.mk #[114,121,101]),(ByteArray.mk #[118,101,116,99,104]),(ByteArray.mk #[119,104,101,97,116])]:List ByteArray).take a.2.toNat) b.toNat),.int .i64 i.2,.int .i64 (gl ([(0:Int),(0:Int),(0:Int),(2:Int),(20:Int),(8:Int),(1:Int),(31:Int)]:List Int) e.2.toNat)]))))) (AL (α:=Crop) ([(⟨(gl (([(ByteArray.mk #[98,97,114,108,101,121]),(ByteArray.mk #[99,108,111,118,101,114]),(ByteArray.mk #[103,114,97,115,115]),(ByteArray.mk #[109,97,105,122,101]),(ByteArray.mk #[111,97,116,115]),(ByteArray.mk #[114,121,101]),(ByteArray.mk #[118,101,116,99,104]),(ByteArray.mk #[119,104,101,97,116])]:List ByteArray).take a.2.toNat) b.toNat),i.2,(gl ([(0:Int),(0:Int),(0:Int),(2:Int),(20:Int),(8:Int),(1:Int),(31:Int)]:List Int) e.2.toNat)⟩ : Crop)]:List Crop)))∧(_∧_∧True)∧True) [(0,pt 0),(4,ow 28),(11,AL (α:=ByteArray) (([(ByteArray.mk #[98,97,114,108,101,121]),(ByteArray.mk #[99,108,111,118,101,114]),(ByteArray.mk #[103,114,97,115,115]),(ByteArray.mk #[109,97,105,122,101]),(ByteArray.mk #[111,97,116,115]),(ByteArray.mk #[114,121,101]),(ByteArray.mk #[118,101,116,99,104]),(ByteArray.mk #[119,104,101,97,116])]:List ByteArray).take a.2.toNat)),(12,vi ((List.length (([(ByteArray.mk #[98,97,114,108,101,121]),(ByteArray.mk #[99,108,111,118,101,114]),(ByteArray.mk #[103,114,97,115,115]),(ByteArray.mk #[109,97,105,122,101]),(ByteArray.mk #[111,97,116,115]),(ByteArray.mk #[114,121,101]),(ByteArray.mk #[118,101,116,99,104]),(ByteArray.mk #[119,104,101,97,116])]:List ByteArray).take a.2.toNat):Nat):Int)),(13,vi b)] [(0,bx (gC e.1)),(28,AO (α:=Crop) (l++([(⟨(gl (([(ByteArray.mk #[98,97,114,108,101,121]),(ByteArray.mk #[99,108,111,118,101,114]),(ByteArray.mk #[103,114,97,115,115]),(ByteArray.mk #[109,97,105,122,101]),(ByteArray.mk #[111,97,116,115]),(ByteArray.mk #[114,121,101]),(ByteArray.mk #[118,101,116,99,104]),(ByteArray.mk #[119,104,101,97,116])]:List ByteArray).take a.2.toNat) b.toNat),i.2,(gl ([(0:Int),(0:Int),(0:Int),(2:Int),(20:Int),(8:Int),(1:Int),(31:Int)]:List Int) e.2.toNat)⟩ : Crop)]:List Crop)))] ⟨KAt.CC (keep_Tape_Next_spec O) Tryz.call15 [(0,0)],ALe.lst (.lit ([(0:Int),(0:Int),(0:Int),(2:Int),(20:Int),(8:Int),(1:Int),(31:Int)]:List Int) (by kernel_rfl)),KAt.CC (keep_Tape_Next_spec P) Tryz.call15 [(0,0)],I,ALe.lst (.lit ([(⟨(gl (([(ByteArray.mk #[98,97,114,108,101,121]),(ByteArray.mk #[99,108,111,118,101,114]),(ByteArray.mk #[103,114,97,115,115]),(ByteArray.mk #[109,97,105,122,101]),(ByteArray.mk #[111,97,116,115]),(ByteArray.mk #[114,121,101]),(ByteArray.mk #[118,101,116,99,104]),(ByteArray.mk #[119,104,101,97,116])]:List ByteArray).take a.2.toNat) b.toNat),i.2,(gl ([(0:Int),(0:Int),(0:Int),(2:Int),(20:Int),(8:Int),(1:Int),(31:Int)]:List Int) e.2.toNat)⟩ : Crop)]:List Crop) (by kernel_rfl)),⟨L,(Is.refl ([(⟨(gl (([(ByteArray.mk #[98,97,114,108,101,121]),(ByteArray.mk #[99,108,111,118,101,114]),(ByteArray.mk #[103,114,97,115,115]),(ByteArray.mk #[109,97,105,122,101]),(ByteArray.mk #[111,97,116,115]),(ByteArray.mk #[114,121,101]),(ByteArray.mk #[118,101,116,99,104]),(ByteArray.mk #[119,104,101,97,116])]:List ByteArray).take a.2.toNat) b.toNat),i.2,(gl ([(0:Int),(0:Int),(0:Int),(2:Int),(20:Int),(8:Int),(1:Int),(31:Int)]:List Int) e.2.toNat)⟩ : Crop)]:List Crop):Is (List.length (α:=Crop) ([(⟨(gl (([(ByteArray.mk #[98,97,114,108,101,121]),(ByteArray.mk #[99,108,111,118,101,114]),(ByteArray.mk #[103,114,97,115,115]),(ByteArray.mk #[109,97,105,122,101]),(ByteArray.mk #[111,97,116,115]),(ByteArray.mk #[114,121,101]),(ByteArray.mk #[118,101,116,99,104]),(ByteArray.mk #[119,104,101,97,116])]:List ByteArray).take a.2.toNat) b.toNat),i.2,(gl ([(0:Int),(0:Int),(0:Int),(2:Int),(20:Int),(8:Int),(1:Int),(31:Int)]:List Int) e.2.toNat)⟩ : Crop)]:List Crop)) (LF (α:=Crop) ([(⟨(gl (([(ByteArray.mk #[98,97,114,108,101,121]),(ByteArray.mk #[99,108,111,118,101,114]),(ByteArray.mk #[103,114,97,115,115]),(ByteArray.mk #[109,97,105,122,101]),(ByteArray.mk #[111,97,116,115]),(ByteArray.mk #[114,121,101]),(ByteArray.mk #[118,101,116,99,104]),(ByteArray.mk #[119,104,101,97,116])]:List ByteArray).take a.2.toNat) b.toNat),i.2,(gl ([(0:Int),(0:Int),(0:Int),(2:Int),(20:Int),(8:Int),(1:Int),(31:Int)]:List Int) e.2.toNat)⟩ : Crop)]:List Crop)) ([(⟨(gl (([(ByteArray.mk #[98,97,114,108,101,121]),(ByteArray.mk #[99,108,111,118,101,114]),(ByteArray.mk #[103,114,97,115,115]),(ByteArray.mk #[109,97,105,122,101]),(ByteArray.mk #[111,97,116,115]),(ByteArray.mk #[114,121,101]),(ByteArray.mk #[118,101,116,99,104]),(ByteArray.mk #[119,104,101,97,116])]:List ByteArray).take a.2.toNat) b.toNat),i.2,(gl ([(0:Int),(0:Int),(0:Int),(2:Int),(20:Int),(8:Int),(1:Int),(31:Int)]:List Int) e.2.toNat)⟩ : Crop)]:List Crop)).len,⟨⟩⟩,⟨⟩⟩ [(28,.arr 3 ((List.length (α:=Crop) l)+(List.length (α:=Crop) ([(⟨(gl (([(ByteArray.mk #[98,97,114,108,101,121]),(ByteArray.mk #[99,108,111,118,101,114]),(ByteArray.mk #[103,114,97,115,115]),(ByteArray.mk #[109,97,105,122,101]),(ByteArray.mk #[111,97,116,115]),(ByteArray.mk #[114,121,101]),(ByteArray.mk #[118,101,116,99,104]),(ByteArray.mk #[119,104,101,97,116])]:List ByteArray).take a.2.toNat) b.toNat),i.2,(gl ([(0:Int),(0:Int),(0:Int),(2:Int),(20:Int),(8:Int),(1:Int),(31:Int)]:List Int) e.2.toNat)⟩ : Crop)]:List Crop))) (appF (List.length (α:=Crop) l) (LF (α:=Crop) l) (LF (α:=Crop) ([(⟨(gl (([(ByteArray.mk #[98,97,114,108,101,121]),(ByteArray.mk #[99,108,111,118,101,114]),(ByteArray.mk #[103,114,97,115,115]),(ByteArray.mk #[109,97,105,122,101]),(ByteArray.mk #[111,97,116,115]),(ByteArray.mk #[114,121,101]),(ByteArray.mk #[118,101,116,99,104]),(ByteArray.mk #[119,104,101,97,116])]:List ByteArray).take a.2.toNat) b.toNat),i.2,(gl ([(0:Int),(0:Int),(0:Int),(2:Int),(20:Int),(8:Int),(1:Int),(31:Int)]:List Int) e.2.toNat)⟩ : Crop)]:List Crop))))] ⟨OLe.is (Is.app (Is.refl l) (Is.refl ([(⟨(gl (([(ByteArray.mk #[98,97,114,108,101,121]),(ByteArray.mk #[99,108,111,118,101,114]),(ByteArray.mk #[103,114,97,115,115]),(ByteArray.mk #[109,97,105,122,101]),(ByteArray.mk #[111,97,116,115]),(ByteArray.mk #[114,121,101]),(ByteArray.mk #[118,101,116,99,104]),(ByteArray.mk #[119,104,101,97,116])]:List ByteArray).take a.2.toNat) b.toNat),i.2,(gl ([(0:Int),(0:Int),(0:Int),(2:Int),(20:Int),(8:Int),(1:Int),(31:Int)]:List Int) e.2.toNat)⟩ : Crop)]:List Crop))),⟨⟩⟩ ?_
   obtain ⟨M,h⟩:=gS h
   refine AW.pN Fm [.s,.s] [(0,pt 0),(4,ow 28),(11,AL (α:=ByteArray) (([(ByteArray.mk #[98,97,114,108,101,121]),(ByteArray.mk #[99,108,111,118,101,114]),(ByteArray.mk #[103,114,97,115,115]),(ByteArray.mk #[109,97,105,122,101]),(ByteArray.mk #[111,97,116,115]),(ByteArray.mk #[114,121,101]),(ByteArray.mk #[118,101,116,99,104]),(ByteArray.mk #[119,104,101,97,116])]:List ByteArray).take a.2.toNat)),(12,vi ((List.length (([(ByteArray.mk #[98,97,114,108,101,121]),(ByteArray.mk #[99,108,111,118,101,114]),(ByteArray.mk #[103,114,97,115,115]),(ByteArray.mk #[109,97,105,122,101]),(ByteArray.mk #[111,97,116,115]),(ByteArray.mk #[114,121,101]),(ByteArray.mk #[118,101,116,99,104]),(ByteArray.mk #[119,104,101,97,116])]:List ByteArray).take a.2.toNat):Nat):Int)),(13,vi (b+1))] [(0,bx (gC e.1)),(28,AO (α:=Crop) (l++([(⟨(gl (([(ByteArray.mk #[98,97,114,108,101,121]),(ByteArray.mk #[99,108,111,118,101,114]),(ByteArray.mk #[103,114,97,115,115]),(ByteArray.mk #[109,97,105,122,101]),(ByteArray.mk #[111,97,116,115]),(ByteArray.mk #[114,121,101]),(ByteArray.mk #[118,101,116,99,104]),(ByteArray.mk #[119,104,101,97,116])]:List ByteArray).take a.2.toNat) b.toNat),i.2,(gl ([(0:Int),(0:Int),(0:Int),(2:Int),(20:Int),(8:Int),(1:Int),(31:Int)]:List Int) e.2.toNat)⟩ : Crop)]:List Crop)))] (cT (cT M)) ?_
   exact Kn.RE Fm [(4,28)] (A ((b+1),e.1.l_,e.1.at_,(l++([(⟨(gl (([(ByteArray.mk #[98,97,114,108,101,121]),(ByteArray.mk #[99,108,111,118,101,114]),(ByteArray.mk #[103,114,97,115,115]),(ByteArray.mk #[109,97,105,122,101]),(ByteArray.mk #[111,97,116,115]),(ByteArray.mk #[114,121,101]),(ByteArray.mk #[118,101,116,99,104]),(ByteArray.mk #[119,104,101,97,116])]:List ByteArray).take a.2.toNat) b.toNat),i.2,(gl ([(0:Int),(0:Int),(0:Int),(2:Int),(20:Int),(8:Int),(1:Int),(31:Int)]:List Int) e.2.toNat)⟩ : Crop)]:List Crop))) h)
  ·exact AW.exit (Kn.R Fm (B (l,o,p) h))
theorem keep_Tape_Rect_spec {F:Nat} {c:Tape} {d:Int} {r:Tape×Rect} (h:keep_Tape_Rect F c d=some r) :
  FSpec Tryz.prog 92 [pt 0,vi d] [(0,bx (gC c))] (gE r.2) [(0,bx (gC r.1))]:=by
 refine FI Tryz.func92 prog_mixed prog_lay fun C Fm=>?_
 unfold keep_Tape_Rect at h
 refine AW.SG0 Fm 1 [(0,pt 0),(1,vi d),(4,pt 4)] [(0,bx (gC c)),(4,bx [ci 0,ci 0,ci 0,ci 0])] ?_
 refine AW.seq ?_
 obtain ⟨b,q,h⟩:=bS h
 obtain ⟨a,t,h⟩:=bS h
 refine AW.G Fm [.s,.s,.k (cE [(0,0)] [] (vi b.2) [(0,bx (gC c))] [(0,bx (gC b.1))]),.s,.s,.k (cE [(0,0)] [] (vi a.2) [(0,bx (gC b.1))] [(0,bx (gC a.1))]),.s,.s] (fun K=>K 2∧K 5∧True) [(0,pt 0),(1,vi d),(4,pt 4),(5,vi b.2),(6,vi a.2)] [(0,bx (gC a.1)),(4,bx [ci 0,ci 0,ci 0,ci 0])] ⟨KAt.CC (keep_Tape_Next_spec q) Tryz.call15 [(0,0)],KAt.CC (keep_Tape_Next_spec t) Tryz.call15 [(0,0)],⟨⟩⟩ ?_
 refine AW.seq ?_
 obtain ⟨j,l,h⟩:=gS2 h
 obtain ⟨e,u,h⟩:=bS h
 obtain ⟨m,n,o,h⟩:=gS3 h
 obtain ⟨i,w,h⟩:=bS h
 obtain ⟨p,h⟩:=gS h
 refine AW.G Fm [.s,.s,.s,.s,.s,.s,.s,.s,.k (cE [(0,0)] [] (vi e.2) [(0,bx (gC a.1))] [(0,bx (gC e.1))]),.s,.s,.s,.s,.s,.s,.s,.k (cE [(0,0)] [] (vi i.2) [(0,bx (gC e.1))] [(0,bx (gC i.1))]),.s,.s,.s] (fun K=>(_∧True)∧(_∧True)∧K 8∧(_∧True)∧(_∧True)∧(_∧True)∧K 16∧(_∧True)∧True) [(4,pt 4)] [(0,bx (gC i.1)),(4,bx [ci b.2,ci a.2,ci ((b.2+1)+e.2),ci ((a.2+1)+i.2)])] ⟨⟨j,⟨⟩⟩,⟨l,⟨⟩⟩,KAt.CC (keep_Tape_Next_spec u) Tryz.call15 [(0,0)],⟨m,⟨⟩⟩,⟨n,⟨⟩⟩,⟨o,⟨⟩⟩,KAt.CC (keep_Tape_Next_spec w) Tryz.call15 [(0,0)],⟨p,⟨⟩⟩,⟨⟩⟩ ?_
 refine AW.ret ?_
 obtain rfl:=Option.some.inj h
 exact Kn.D Fm
theorem ref04_proper_spec {F:Nat} {e:Rect} {r:Bool} (h:ref04_proper F e=some r) :
  FSpec Tryz.prog 181 [gE e] [] (vb r) []:=by
 refine FI Tryz.func181 prog_mixed prog_lay fun C Fm=>?_
 unfold ref04_proper at h
 refine AW.SG0 Fm 2 [(1,pt 1)] [(1,bx (gC e))] ?_
 refine AW.join (r:=r) (fun z:Bool=>ref04_proper_k0 F z) (fun z=>[(2,vb z)]) (fun z=>[]) (fun l h=>?_) (fun k b=>?_)
 ·refine AW.ret ?_
  obtain rfl:=Option.some.inj h
  exact Kn.D Fm
 ·rcases br_or h with ⟨a,h⟩|⟨a,h⟩
  ·rcases br_or h with ⟨c,h⟩|⟨c,h⟩
   ·rcases br_or h with ⟨d,h⟩|⟨d,h⟩
    ·rcases br_or h with ⟨i,h⟩|⟨i,h⟩
     ·rcases br_or h with ⟨j,h⟩|⟨j,h⟩
      ·refine AW.pN Fm [.s,.s,.s,.w (vb true),.s,.s,.s,.s,.s,.s,.w (vb true),.s,.s,.s,.s,.w (vb true),.s,.s,.s,.s,.w (vb true),.s,.s,.s,.s,.s,.s,.w (vb true),.s,.s,.s,.s,.s] [(2,vb (decide (e.high_≤(16384:Int))))] [] (cA (ALe.bool a) (cA (ALe.bool c) (cA (ALe.bool d) (cA (ALe.bool i) (cT (ALe.bool j)))))) ?_
       exact Kn.R Fm (b (decide (e.high_≤(16384:Int))) h)
      ·refine AW.pN Fm [.s,.s,.s,.w (vb true),.s,.s,.s,.s,.s,.s,.w (vb true),.s,.s,.s,.s,.w (vb true),.s,.s,.s,.s,.w (vb true),.s,.s,.s,.s,.s,.s,.w (vb false),.s,.s,.s,.s,.s] [(2,vb false)] [] (cA (ALe.bool a) (cA (ALe.bool c) (cA (ALe.bool d) (cA (ALe.bool i) (cT (ALe.bool j)))))) ?_
       exact Kn.R Fm (b false h)
     ·refine AW.pN Fm [.s,.s,.s,.w (vb true),.s,.s,.s,.s,.s,.s,.w (vb true),.s,.s,.s,.s,.w (vb true),.s,.s,.s,.s,.w (vb false),.s,.s,.s,.s,.s,.s,.s,.s,.s,.s,.s,.s] [(2,vb false)] [] (cA (ALe.bool a) (cA (ALe.bool c) (cA (ALe.bool d) (cT (ALe.bool i))))) ?_
      exact Kn.R Fm (b false h)
    ·refine AW.pN Fm [.s,.s,.s,.w (vb true),.s,.s,.s,.s,.s,.s,.w (vb true),.s,.s,.s,.s,.w (vb false),.s,.s,.s,.s,.s,.s,.s,.s,.s,.s,.s,.s,.s,.s,.s,.s,.s] [(2,vb false)] [] (cA (ALe.bool a) (cA (ALe.bool c) (cT (ALe.bool d)))) ?_
     exact Kn.R Fm (b false h)
   ·refine AW.pN Fm [.s,.s,.s,.w (vb true),.s,.s,.s,.s,.s,.s,.w (vb false),.s,.s,.s,.s,.s,.s,.s,.s,.s,.s,.s,.s,.s,.s,.s,.s,.s,.s,.s,.s,.s,.s] [(2,vb false)] [] (cA (ALe.bool a) (cT (ALe.bool c))) ?_
    exact Kn.R Fm (b false h)
  ·refine AW.pN Fm [.s,.s,.s,.w (vb false),.s,.s,.s,.s,.s,.s,.s,.s,.s,.s,.s,.s,.s,.s,.s,.s,.s,.s,.s,.s,.s,.s,.s,.s,.s,.s,.s,.s,.s] [(2,vb false)] [] (cT (ALe.bool a)) ?_
   exact Kn.R Fm (b false h)
theorem ref01_Put_spec {F:Nat} {a:(List Int)} {e:Int} {r:(List Int)} (h:ref01_Put F a e=some r) :
  FSpec Tryz.prog 127 [AL a,vi e] [] (AL (α:=Int) r) []:=by
 refine FI Tryz.func127 prog_mixed prog_lay fun C Fm=>?_
 unfold ref01_Put at h
 refine AW.SG0 Fm 1 [(0,AL a),(1,vi e)] [] ?_
 refine AW.SG0 Fm 1 [(0,AL a),(1,vi e),(5,vi 0)] [] ?_
 refine AW.join (r:=r) (fun z:Int=>ref01_Put_k2 F a e z) (fun z=>[(0,AL a),(1,vi e),(5,vi z)]) (fun z=>[]) (fun b h=>?_) (fun M u=>?_)
 ·refine AW.seq (AW.join (r:=r) (fun z:Bool=>ref01_Put_k3 F a e b z) (fun z=>[(0,AL a),(1,vi e),(5,vi b),(31,vb z)]) (fun z=>[]) (fun T h=>?_) (fun N n=>?_))
  ·refine AW.cN h (fun A h=>?_) (fun A h=>?_)
   ·refine AW.SG0 Fm 2 [(4,AL a)] [] ?_
    refine AW.ret ?_
    obtain rfl:=Option.some.inj h
    exact Kn.D Fm
   ·refine AW.skip ?_
    obtain ⟨p,G,H,q,h⟩:=gS4 h
    obtain ⟨I,h⟩:=gS h
    refine AW.SV Fm [.m,.s,.s,.w (AL (α:=Int) (a.take b.toNat)),.s,.s,.w (AL (α:=Int) ([e]:List Int)),.s,.s,.s,.w (AL (α:=Int) (a.drop b.toNat)),.s,.s] [(4,ow 44)] [(44,AO (α:=Int) (((([]:List Int)++(a.take b.toNat))++([e]:List Int))++(a.drop b.toNat)))] (cA (⟨p,(Is.refl a).len⟩ : ((sl (List.length a) (LF a) none (some b)).2∧∀ j,j<List.length a→(LF a j).length=1)) (cA (ALe.lst (sl_is a none (some b) p):ALe (.v (.c (.d (.lst (sl (List.length a) (LF a) none (some b)).1.1 (sl (List.length a) (LF a) none (some b)).1.2)))) (AL (α:=Int) (a.take b.toNat))) (cA (cA G (cT (Is.refl (a.take b.toNat):Is (List.length (α:=Int) (a.take b.toNat)) (LF (α:=Int) (a.take b.toNat)) (a.take b.toNat)).len)) (cA (ALe.lst (.lit ([e]:List Int) (by kernel_rfl)):ALe (.v (.c (.d (.lst 1 (litF 1 [.int .i64 e]))))) (AL (α:=Int) ([e]:List Int))) (cA (cA H (cT (Is.refl ([e]:List Int):Is (List.length (α:=Int) ([e]:List Int)) (LF (α:=Int) ([e]:List Int)) ([e]:List Int)).len)) (cA (⟨q,(Is.refl a).len⟩ : ((sl (List.length a) (LF a) (some b) none).2∧∀ j,j<List.length a→(LF a j).length=1)) (cA (ALe.lst (sl_is a (some b) none q):ALe (.v (.c (.d (.lst (sl (List.length a) (LF a) (some b) none).1.1 (sl (List.length a) (LF a) (some b) none).1.2)))) (AL (α:=Int) (a.drop b.toNat))) (cT (cA I (cT (Is.refl (a.drop b.toNat):Is (List.length (α:=Int) (a.drop b.toNat)) (LF (α:=Int) (a.drop b.toNat)) (a.drop b.toNat)).len)))))))))) [(44,.arr 1 ((((0)+(List.length (α:=Int) (a.take b.toNat)))+(List.length (α:=Int) ([e]:List Int)))+(List.length (α:=Int) (a.drop b.toNat))) (appF (((0)+(List.length (α:=Int) (a.take b.toNat)))+(List.length (α:=Int) ([e]:List Int))) (appF ((0)+(List.length (α:=Int) (a.take b.toNat))) (appF (0) (litF 1 []) (LF (α:=Int) (a.take b.toNat))) (LF (α:=Int) ([e]:List Int))) (LF (α:=Int) (a.drop b.toNat))))] ⟨OLe.is (Is.app (Is.app (Is.app (Is.lit ([]:List Int) (by kernel_rfl)) (Is.refl (a.take b.toNat))) (Is.refl ([e]:List Int))) (Is.refl (a.drop b.toNat))),⟨⟩⟩ ?_
    refine AW.ret ?_
    obtain rfl:=Option.some.inj h
    refine Kn.r Fm [(4,ow 44)] [(44,AO (α:=Int) (((([]:List Int)++(a.take b.toNat))++([e]:List Int))++(a.drop b.toNat)))] (by kernel_rfl) ?_
    refine Kn.frz [(4,AL (α:=Int) (((([]:List Int)++(a.take b.toNat))++([e]:List Int))++(a.drop b.toNat)))] [] (by kernel_rfl) (by kernel_rfl) (by kernel_rfl) ?_
    exact Kn.D Fm
  ·rcases br_or h with ⟨k,h⟩|⟨k,h⟩
   ·obtain ⟨E,h⟩:=gS h
    refine AW.pN Fm [.s,.s,.s,.s,.w (vb true),.s,.s,.s,.s,.s,.s,.s] [(0,AL a),(1,vi e),(5,vi b),(31,vb ((gl a b.toNat)==e))] [] (cA (ALe.bool k) (cT E)) ?_
    exact Kn.R Fm (n ((gl a b.toNat)==e) h)
   ·refine AW.pN Fm [.s,.s,.s,.s,.w (vb false),.s,.s,.s,.s,.s,.s,.s] [(0,AL a),(1,vi e),(5,vi b),(31,vb false)] [] (cT (ALe.bool k)) ?_
    exact Kn.R Fm (n false h)
 ·refine AW.block (AW.loopF (E' := fun z=>[(0,AL a),(1,vi e),(5,vi z)]) (S' := fun z=>[]) (fun t i O y h=>?_) h)
  refine AW.seq (AW.join (r:=r) (fun z:Bool=>ref01_Put_k1 F a e i t z) (fun z=>[(0,AL a),(1,vi e),(5,vi i),(17,vb z)]) (fun z=>[]) (fun U h=>?_) (fun P o=>?_))
  ·refine AW.cN h (fun B h=>?_) (fun B h=>?_)
   ·refine AW.skip (AW.block ?_)
    obtain ⟨L,h⟩:=gS h
    refine AW.pN Fm [.s,.s,.s] [(0,AL a),(1,vi e),(5,vi (i+1))] [] (cT (cT L)) ?_
    exact Kn.R Fm (y (i+1) h)
   ·exact AW.exit (Kn.R Fm (u i h))
  ·rcases br_or h with ⟨l,h⟩|⟨l,h⟩
   ·obtain ⟨K,h⟩:=gS h
    refine AW.pN Fm [.s,.s,.s,.s,.w (vb true),.s,.s,.s,.s,.s,.s,.s] [(0,AL a),(1,vi e),(5,vi i),(11,AL a),(12,vi i),(13,.v (.c (.elm [.int .i64 (gl a i.toNat)]))),(14,vi (gl a i.toNat)),(15,vi e),(16,vb (decide ((gl a i.toNat)<e))),(17,vb (decide ((gl a i.toNat)<e)))] [] (cA (ALe.bool l) (cT K)) ?_
    exact Kn.R Fm (o (decide ((gl a i.toNat)<e)) h)
   ·refine AW.pN Fm [.s,.s,.s,.s,.w (vb false),.s,.s,.s,.s,.s,.s,.s] [(0,AL a),(1,vi e),(5,vi i),(17,vb false)] [] (cT (ALe.bool l)) ?_
    exact Kn.R Fm (o false h)
theorem ref04_inside_spec {F:Nat} {a:(List Rect)} {e:Int} {d:Int} {r:Bool} (h:ref04_inside F a e d=some r) :
  FSpec Tryz.prog 110 [AL a,vi e,vi d] [] (vb r) []:=by
 refine FI Tryz.func110 prog_mixed prog_lay fun C Fm=>?_
 unfold ref04_inside at h
 refine AW.SG0 Fm 1 [(0,AL a),(1,vi e),(2,vi d)] [] ?_
 refine AW.join (r:=r) (fun z:Unit=>ref04_inside_k2 F) (fun z=>[]) (fun z=>[]) (fun z h=>?_) (fun B o=>?_)
 ·refine AW.SG0 Fm 1 [(6,vb false)] [] ?_
  refine AW.ret ?_
  obtain rfl:=Option.some.inj h
  exact Kn.D Fm
 ·refine AW.SG0 Fm 3 [(1,vi e),(2,vi d),(9,AL a),(10,vi (lI a)),(11,vi 0)] [] ?_
  refine AW.block (AW.loopF (E' := fun z=>[(1,vi e),(2,vi d),(9,AL a),(10,vi (lI a)),(11,vi z)]) (S' := fun z=>[]) (fun m b y n h=>?_) h)
  refine AW.SG0 Fm 1 [(1,vi e),(2,vi d),(9,AL a),(10,vi (lI a)),(11,vi b),(12,vb (decide (b<(lI a))))] [] ?_
  refine AW.seq (AW.cN h (fun p h=>?_) (fun p h=>?_))
  ·refine AW.skip (AW.seq (AW.block ?_))
   obtain ⟨t,h⟩:=gS h
   refine AW.SP Fm [.s,.s,.s,.s] [(1,vi e),(2,vi d),(8,pt 8),(9,AL a),(10,vi (lI a)),(11,vi b)] [(8,bx [ci ((gl a b.toNat).left_),ci ((gl a b.toNat).low_),ci ((gl a b.toNat).right_),ci ((gl a b.toNat).high_)])] (cT t) ?_
   refine AW.join (r:=r) (fun z:Bool=>ref04_inside_k1 F b m z) (fun z=>[(1,vi e),(2,vi d),(9,AL a),(10,vi (lI a)),(11,vi b),(36,vb z)]) (fun z=>[]) (fun E h=>?_) (fun A j=>?_)
   ·refine AW.cN h (fun q h=>?_) (fun q h=>?_)
    ·refine AW.SG0 Fm 1 [(6,vb true)] [] ?_
     refine AW.ret ?_
     obtain rfl:=Option.some.inj h
     exact Kn.D Fm
    ·refine AW.skip ?_
     obtain ⟨u,h⟩:=gS h
     refine AW.pN Fm [.s,.s] [(1,vi e),(2,vi d),(9,AL a),(10,vi (lI a)),(11,vi (b+1))] [] (cT (cT u)) ?_
     exact Kn.R Fm (n (b+1) h)
   ·rcases br_or h with ⟨i,h⟩|⟨i,h⟩
    ·rcases br_or h with ⟨k,h⟩|⟨k,h⟩
     ·rcases br_or h with ⟨l,h⟩|⟨l,h⟩
      ·refine AW.pN Fm [.s,.s,.s,.s,.w (vb true),.s,.s,.s,.s,.s,.w (vb true),.s,.s,.s,.s,.s,.w (vb true),.s,.s,.s,.s,.s] [(1,vi e),(2,vi d),(9,AL a),(10,vi (lI a)),(11,vi b),(20,vi e),(21,.v (.c (.ptr 8 2))),(22,vi (gl a b.toNat).right_),(23,vb (decide (e<((gl a b.toNat).right_)))),(26,.v (.c (.ptr 8 1))),(27,vi (gl a b.toNat).low_),(28,vi d),(29,vb (decide (((gl a b.toNat).low_)≤d))),(32,vi d),(33,.v (.c (.ptr 8 3))),(34,vi (gl a b.toNat).high_),(35,vb (decide (d<((gl a b.toNat).high_)))),(36,vb (decide (d<((gl a b.toNat).high_))))] [(8,bx [ci ((gl a b.toNat).left_),ci ((gl a b.toNat).low_),ci ((gl a b.toNat).right_),ci ((gl a b.toNat).high_)])] (cA (ALe.bool i) (cA (ALe.bool k) (cT (ALe.bool l)))) ?_
       exact Kn.R Fm (j (decide (d<((gl a b.toNat).high_))) h)
      ·refine AW.pN Fm [.s,.s,.s,.s,.w (vb true),.s,.s,.s,.s,.s,.w (vb true),.s,.s,.s,.s,.s,.w (vb false),.s,.s,.s,.s,.s] [(1,vi e),(2,vi d),(9,AL a),(10,vi (lI a)),(11,vi b),(20,vi e),(21,.v (.c (.ptr 8 2))),(22,vi (gl a b.toNat).right_),(23,vb (decide (e<((gl a b.toNat).right_)))),(26,.v (.c (.ptr 8 1))),(27,vi (gl a b.toNat).low_),(28,vi d),(29,vb (decide (((gl a b.toNat).low_)≤d))),(36,vb false)] [(8,bx [ci ((gl a b.toNat).left_),ci ((gl a b.toNat).low_),ci ((gl a b.toNat).right_),ci ((gl a b.toNat).high_)])] (cA (ALe.bool i) (cA (ALe.bool k) (cT (ALe.bool l)))) ?_
       exact Kn.R Fm (j false h)
     ·refine AW.pN Fm [.s,.s,.s,.s,.w (vb true),.s,.s,.s,.s,.s,.w (vb false),.s,.s,.s,.s,.s,.s,.s,.s,.s,.s,.s] [(1,vi e),(2,vi d),(9,AL a),(10,vi (lI a)),(11,vi b),(20,vi e),(21,.v (.c (.ptr 8 2))),(22,vi (gl a b.toNat).right_),(23,vb (decide (e<((gl a b.toNat).right_)))),(36,vb false)] [(8,bx [ci ((gl a b.toNat).left_),ci ((gl a b.toNat).low_),ci ((gl a b.toNat).right_),ci ((gl a b.toNat).high_)])] (cA (ALe.bool i) (cT (ALe.bool k))) ?_
      exact Kn.R Fm (j false h)
    ·refine AW.pN Fm [.s,.s,.s,.s,.w (vb false),.s,.s,.s,.s,.s,.s,.s,.s,.s,.s,.s,.s,.s,.s,.s,.s,.s] [(1,vi e),(2,vi d),(9,AL a),(10,vi (lI a)),(11,vi b),(36,vb false)] [] (cT (ALe.bool i)) ?_
     exact Kn.R Fm (j false h)
  ·exact AW.exit (Kn.R Fm (o () h))
theorem ref04_keep_spec {F:Nat} {c:Bool} {a:Bool} {b:Int} {r:Bool} (h:ref04_keep F c a b=some r) :
  FSpec Tryz.prog 202 [vb c,vb a,vi b] [] (vb r) []:=by
 refine FI Tryz.func202 prog_mixed prog_lay fun C Fm=>?_
 unfold ref04_keep at h
 refine AW.SG0 Fm 1 [(0,vb c),(1,vb a),(2,vi b)] [] ?_
 refine AW.seq (AW.SG0 Fm 1 [(0,vb c),(1,vb a),(7,vi b)] [] ?_)
 refine AW.block (AW.SG0 Fm 2 [(0,vb c),(1,vb a),(7,vi b),(8,vb (b==(1:Int)))] [] ?_)
 refine AW.cN h (fun m h=>?_) (fun m h=>?_)
 ·refine AW.join (r:=r) (fun z:Bool=>ref04_keep_k0 F z) (fun z=>[(6,vb z)]) (fun z=>[]) (fun t h=>?_) (fun o j=>?_)
  ·refine AW.ret ?_
   obtain rfl:=Option.some.inj h
   exact Kn.D Fm
  ·rcases br_or h with ⟨d,h⟩|⟨d,h⟩
   ·refine AW.pN Fm [.s,.w (vb true),.s,.s,.s] [(6,vb true)] [] (cT (ALe.bool d)) ?_
    exact Kn.R Fm (j true h)
   ·refine AW.pN Fm [.s,.w (vb false),.s,.s,.s] [(6,vb a)] [] (cT (ALe.bool d)) ?_
    exact Kn.R Fm (j a h)
 ·refine AW.SG0 Fm 2 [(0,vb c),(1,vb a),(14,vb (b==(2:Int)))] [] ?_
  refine AW.cN h (fun n h=>?_) (fun n h=>?_)
  ·refine AW.join (r:=r) (fun z:Bool=>ref04_keep_k1 F z) (fun z=>[(6,vb z)]) (fun z=>[]) (fun u h=>?_) (fun p k=>?_)
   ·refine AW.ret ?_
    obtain rfl:=Option.some.inj h
    exact Kn.D Fm
   ·rcases br_or h with ⟨e,h⟩|⟨e,h⟩
    ·refine AW.pN Fm [.s,.w (vb true),.s,.s,.s] [(6,vb a)] [] (cT (ALe.bool e)) ?_
     exact Kn.R Fm (k a h)
    ·refine AW.pN Fm [.s,.w (vb false),.s,.s,.s] [(6,vb false)] [] (cT (ALe.bool e)) ?_
     exact Kn.R Fm (k false h)
  ·refine AW.skip (AW.join (r:=r) (fun z:Bool=>ref04_keep_k2 F z) (fun z=>[(6,vb z)]) (fun z=>[]) (fun y h=>?_) (fun q l=>?_))
   ·refine AW.ret ?_
    obtain rfl:=Option.some.inj h
    exact Kn.D Fm
   ·rcases br_or h with ⟨i,h⟩|⟨i,h⟩
    ·refine AW.pN Fm [.s,.w (vb true),.s,.s,.s,.s] [(6,vb (!a))] [] (cT (ALe.bool i)) ?_
     exact Kn.R Fm (l (!a) h)
    ·refine AW.pN Fm [.s,.w (vb false),.s,.s,.s,.s] [(6,vb false)] [] (cT (ALe.bool i)) ?_
     exact Kn.R Fm (l false h)
theorem ref04_same_spec {F:Nat} {a:(List Rect)} {d:(List Rect)} {r:Bool} (h:ref04_same F a d=some r) :
  FSpec Tryz.prog 203 [AL a,AL d] [] (vb r) []:=by
 refine FI Tryz.func203 prog_mixed prog_lay fun C Fm=>?_
 unfold ref04_same at h
 refine AW.SG0 Fm 1 [(0,AL a),(1,AL d)] [] ?_
 refine AW.seq (AW.SG0 Fm 5 [(0,AL a),(1,AL d),(10,vb ((lI a) != (lI d)))] [] ?_)
 refine AW.cN h (fun o h=>?_) (fun o h=>?_)
 ·refine AW.SG0 Fm 1 [(4,vb false)] [] ?_
  refine AW.ret ?_
  obtain rfl:=Option.some.inj h
  exact Kn.D Fm
 ·refine AW.skip (AW.join (r:=r) (fun z:Unit=>ref04_same_k2 F) (fun z=>[]) (fun z=>[]) (fun z h=>?_) (fun E n=>?_))
  ·refine AW.SG0 Fm 1 [(4,vb true)] [] ?_
   refine AW.ret ?_
   obtain rfl:=Option.some.inj h
   exact Kn.D Fm
  ·refine AW.SG0 Fm 3 [(0,AL a),(1,AL d),(12,vi (lI a)),(13,vi 0)] [] ?_
   refine AW.block (AW.loopF (E' := fun z=>[(0,AL a),(1,AL d),(12,vi (lI a)),(13,vi z)]) (S' := fun z=>[]) (fun l b A m h=>?_) h)
   refine AW.SG0 Fm 1 [(0,AL a),(1,AL d),(12,vi (lI a)),(13,vi b),(14,vb (decide (b<(lI a))))] [] ?_
   refine AW.seq (AW.cN h (fun p h=>?_) (fun p h=>?_))
   ·refine AW.skip (AW.seq (AW.block (AW.SG0 Fm 2 [(0,AL a),(1,AL d),(5,vi b),(12,vi (lI a)),(13,vi b)] [] ?_)))
    refine AW.join (r:=r) (fun z:Bool=>ref04_same_k1 F b l z) (fun z=>[(0,AL a),(1,AL d),(12,vi (lI a)),(13,vi b),(39,vb z)]) (fun z=>[]) (fun G h=>?_) (fun B i=>?_)
    ·refine AW.cN h (fun q h=>?_) (fun q h=>?_)
     ·refine AW.SG0 Fm 1 [(4,vb false)] [] ?_
      refine AW.ret ?_
      obtain rfl:=Option.some.inj h
      exact Kn.D Fm
     ·refine AW.skip ?_
      obtain ⟨y,h⟩:=gS h
      refine AW.pN Fm [.s,.s] [(0,AL a),(1,AL d),(12,vi (lI a)),(13,vi (b+1))] [] (cT (cT y)) ?_
      exact Kn.R Fm (m (b+1) h)
    ·obtain ⟨j,k,h⟩:=gS2 h
     rcases br_or h with ⟨e,h⟩|⟨e,h⟩
     ·refine AW.pN Fm [.s,.s,.s,.s,.s,.s,.s,.s,.s,.s,.s,.w (vb true),.s,.s,.s,.s,.s,.s,.s,.s,.s,.s,.s,.s] [(0,AL a),(1,AL d),(12,vi (lI a)),(13,vi b),(39,vb true)] [] (cA j (cA k (cT (ALe.bool e)))) ?_
      exact Kn.R Fm (i true h)
     ·obtain ⟨t,u,h⟩:=gS2 h
      refine AW.pN Fm [.s,.s,.s,.s,.s,.s,.s,.s,.s,.s,.s,.w (vb false),.s,.s,.s,.s,.s,.s,.s,.s,.s,.s,.s,.s] [(0,AL a),(1,AL d),(12,vi (lI a)),(13,vi b),(28,AL a),(29,vi b),(30,.v (.c (.elm [.int .i64 (gl a b.toNat).left_,.int .i64 (gl a b.toNat).low_,.int .i64 (gl a b.toNat).right_,.int .i64 (gl a b.toNat).high_]))),(31,.v (.c (.elm [.int .i64 (gl a b.toNat).right_,.int .i64 (gl a b.toNat).high_]))),(32,vi (gl a b.toNat).right_),(33,AL d),(34,vi b),(35,.v (.c (.elm [.int .i64 (gl d b.toNat).left_,.int .i64 (gl d b.toNat).low_,.int .i64 (gl d b.toNat).right_,.int .i64 (gl d b.toNat).high_]))),(36,.v (.c (.elm [.int .i64 (gl d b.toNat).right_,.int .i64 (gl d b.toNat).high_]))),(37,vi (gl d b.toNat).right_),(38,vb (((gl a b.toNat).right_) != ((gl d b.toNat).right_))),(39,vb (((gl a b.toNat).right_) != ((gl d b.toNat).right_)))] [] (cA j (cA k (cA (ALe.bool e) (cA t (cT u))))) ?_
      exact Kn.R Fm (i (((gl a b.toNat).right_) != ((gl d b.toNat).right_)) h)
   ·exact AW.exit (Kn.R Fm (n () h))
theorem ref04_Combine_spec {F:Nat} {a:(List Rect)} {b:(List Rect)} {p:Int} {r:(List Rect)} (h:ref04_Combine F a b p=some r) :
  FSpec Tryz.prog 112 [AL a,AL b,vi p] [] (AL (α:=Rect) r) []:=by
 refine FI Tryz.func112 prog_mixed prog_lay fun C Fm=>?_
 unfold ref04_Combine at h
 refine AW.SG0 Fm 1 [(0,AL a),(1,AL b),(2,vi p)] [] ?_
 refine AW.SW Fm [.m,.m] (fun K=>True) [(0,AL a),(1,AL b),(2,vi p),(7,ow 7),(8,ow 8)] [(7,AO (α:=Int) ([]:List Int)),(8,AO (α:=Int) ([]:List Int))] True.intro [(7,.arr 1 (0) (fun _=>[])),(8,.arr 1 (0) (fun _=>[]))] ⟨OLe.is ((Is.nil (α:=Int))),OLe.is ((Is.nil (α:=Int))),⟨⟩⟩ ?_
 refine AW.join (r:=r) (fun z:(List Int)×(List Int)=>ref04_Combine_k3 F a b p z.1 z.2) (fun z=>[(0,AL a),(1,AL b),(2,vi p),(7,AL z.1),(8,AL z.2)]) (fun z=>[]) (fun z h=>?_) (fun d2 D0=>?_)
 ·obtain ⟨l,e⟩:=z
  refine AW.SW Fm [.m,.m] (fun K=>True) [(0,AL a),(1,AL b),(2,vi p),(7,AL l),(8,AL e),(13,ow 13),(14,ow 14)] [(13,AO (α:=Rect) ([]:List Rect)),(14,AO (α:=Rect) ([]:List Rect))] True.intro [(13,.arr 4 (0) (fun _=>[])),(14,.arr 4 (0) (fun _=>[]))] ⟨OLe.is ((Is.nil (α:=Rect))),OLe.is ((Is.nil (α:=Rect))),⟨⟩⟩ ?_
  refine AW.join (r:=r) (fun z:(List Rect)×(List Rect)=>ref04_Combine_k14 F z.1 z.2) (fun z=>[(13,ow 13),(14,ow 14)]) (fun z=>[(13,AO z.1),(14,AO z.2)]) (fun z h=>?_) (fun s2 N0=>?_)
  ·obtain ⟨L,I⟩:=z
   obtain ⟨L1,h⟩:=gS h
   refine AW.SV Fm [.s,.s,.s,.s] [(6,ow 176)] [(176,AO (α:=Rect) (L++I))] (cT (cA L1 (cT (Is.refl I:Is (List.length (α:=Rect) I) (LF (α:=Rect) I) I).len))) [(176,.arr 4 ((List.length (α:=Rect) L)+(List.length (α:=Rect) I)) (appF (List.length (α:=Rect) L) (LF (α:=Rect) L) (LF (α:=Rect) I)))] ⟨OLe.is (Is.app (Is.refl L) (Is.refl I)),⟨⟩⟩ ?_
   refine AW.ret ?_
   obtain rfl:=Option.some.inj h
   refine Kn.r Fm [(6,ow 176)] [(176,AO (α:=Rect) (L++I))] (by kernel_rfl) ?_
   refine Kn.frz [(6,AL (α:=Rect) (L++I))] [] (by kernel_rfl) (by kernel_rfl) (by kernel_rfl) ?_
   exact Kn.D Fm
  ·refine AW.SG0 Fm 1 [(0,AL a),(1,AL b),(2,vi p),(7,AL l),(8,AL e),(13,ow 13),(14,ow 14),(15,vi 0)] [(13,AO (α:=Rect) ([]:List Rect)),(14,AO (α:=Rect) ([]:List Rect))] ?_
   refine AW.block (Kn.r Fm [(0,AL a),(1,AL b),(2,vi p),(7,AL l),(8,AL e),(13,ow 13),(14,ow 14),(15,vi 0)] [(13,AO ([]:List Rect)),(14,AO ([]:List Rect))] (by kernel_rfl) ?_)
   refine AW.loopF (E' := fun z=>[(0,AL a),(1,AL b),(2,vi p),(7,AL l),(8,AL e),(13,ow 13),(14,ow 14),(15,vi z.1)]) (S' := fun z=>[(13,AO z.2.1),(14,AO z.2.2)]) (fun M z e2 E0 h=>?_) h
   obtain ⟨i,u,q⟩:=z
   refine AW.seq ?_
   obtain ⟨c1,h⟩:=gS h
   refine AW.SP Fm [.s,.s,.s,.s,.s] [(0,AL a),(1,AL b),(2,vi p),(7,AL l),(8,AL e),(13,ow 13),(14,ow 14),(15,vi i),(54,vb (decide ((i+1)<(lI e))))] [(13,AO u),(14,AO q)] (cT (cT c1)) ?_
   refine AW.cN h (fun R0 h=>?_) (fun R0 h=>?_)
   ·refine AW.skip (AW.join (r:=r) (fun z:(List Rect)×(List Rect)=>ref04_Combine_k13 F i M z.1 z.2) (fun z=>[(0,AL a),(1,AL b),(2,vi p),(7,AL l),(8,AL e),(13,ow 13),(14,ow 14),(15,vi i)]) (fun z=>[(13,AO z.1),(14,AO z.2)]) (fun z h=>?_) (fun q2 k0=>?_))
    ·obtain ⟨s0,t0⟩:=z
     obtain ⟨K1,h⟩:=gS h
     refine AW.pN Fm [.s,.s,.s] [(0,AL a),(1,AL b),(2,vi p),(7,AL l),(8,AL e),(13,ow 13),(14,ow 14),(15,vi (i+1))] [(13,AO s0),(14,AO t0)] (cT (cT K1)) ?_
     exact Kn.R Fm (E0 ((i+1),s0,t0) h)
    ·refine AW.block (AW.SW Fm [.m] (fun K=>True) [(0,AL a),(1,AL b),(2,vi p),(7,AL l),(8,AL e),(13,ow 13),(14,ow 14),(15,vi i),(16,ow 16)] [(13,AO u),(14,AO q),(16,AO (α:=Rect) ([]:List Rect))] True.intro [(16,.arr 4 (0) (fun _=>[]))] ⟨OLe.is ((Is.nil (α:=Rect))),⟨⟩⟩ ?_)
     refine AW.join (r:=r) (fun z:(List Rect)=>ref04_Combine_k8 F e i u q M z) (fun z=>[(0,AL a),(1,AL b),(2,vi p),(7,AL l),(8,AL e),(13,ow 13),(14,ow 14),(15,vi i),(16,ow 16)]) (fun z=>[(13,AO u),(14,AO q),(16,AO z)]) (fun E h=>?_) (fun l2 I0=>?_)
     ·refine AW.join (r:=r) (fun z:Unit=>ref04_Combine_k12 F i u q E M) (fun z=>[(0,AL a),(1,AL b),(2,vi p),(7,AL l),(8,AL e),(13,ow 13),(14,ow 14),(15,vi i),(16,ow 16)]) (fun z=>[(13,AO u),(14,AO q),(16,AO E)]) (fun z h=>?_) (fun p2 M0=>?_)
      ·obtain ⟨I1,h⟩:=gS h
       refine AW.SV Fm [.s,.s,.s,.s] [(0,AL a),(1,AL b),(2,vi p),(7,AL l),(8,AL e),(13,ow 172),(15,vi i),(16,ow 16)] [(16,AO E),(172,AO (α:=Rect) (u++q))] (cT (cA I1 (cT (Is.refl q:Is (List.length (α:=Rect) q) (LF (α:=Rect) q) q).len))) [(172,.arr 4 ((List.length (α:=Rect) u)+(List.length (α:=Rect) q)) (appF (List.length (α:=Rect) u) (LF (α:=Rect) u) (LF (α:=Rect) q)))] ⟨OLe.is (Is.app (Is.refl u) (Is.refl q)),⟨⟩⟩ ?_
       refine AW.G0 Fm 2 [(0,AL a),(1,AL b),(2,vi p),(7,AL l),(8,AL e),(13,ow 172),(14,ow 16),(15,vi i)] [(16,AO E),(172,AO (α:=Rect) (u++q))] ?_
       exact Kn.RE Fm [(13,172),(14,16)] (k0 ((u++q),E) h)
      ·refine AW.join (r:=r) (fun z:Bool=>ref04_Combine_k9 F e i u q E M z) (fun z=>[(0,AL a),(1,AL b),(2,vi p),(7,AL l),(8,AL e),(13,ow 13),(14,ow 14),(15,vi i),(16,ow 16),(154,vb z)]) (fun z=>[(13,AO u),(14,AO q),(16,AO E)]) (fun y2 h=>?_) (fun m2 Y=>?_)
       ·refine AW.cN h (fun W0 h=>?_) (fun W0 h=>?_)
        ·refine AW.join (r:=r) (fun z:(List Rect)=>ref04_Combine_k11 F i u M z) (fun z=>[(0,AL a),(1,AL b),(2,vi p),(7,AL l),(8,AL e),(13,ow 13),(14,ow 14),(15,vi i)]) (fun z=>[(13,AO u),(14,AO z)]) (fun V1 h=>?_) (fun o2 L0=>?_)
         ·exact AW.exit (Kn.R Fm (k0 (u,V1) h))
         ·refine AW.SG0 Fm 3 [(0,AL a),(1,AL b),(2,vi p),(7,AL l),(8,AL e),(13,ow 13),(14,ow 14),(15,vi i),(156,vi (lI q)),(157,vi 0)] [(13,AO u),(14,AO q)] ?_
          refine AW.block (AW.loopF (E' := fun z=>[(0,AL a),(1,AL b),(2,vi p),(7,AL l),(8,AL e),(13,ow 13),(14,ow 14),(15,vi i),(156,vi (lI q)),(157,vi z.1)]) (S' := fun z=>[(13,AO u),(14,AO z.2)]) (fun u2 z n2 K0 h=>?_) h)
          obtain ⟨A,B⟩:=z
          refine AW.SG0 Fm 1 [(0,AL a),(1,AL b),(2,vi p),(7,AL l),(8,AL e),(13,ow 13),(14,ow 14),(15,vi i),(156,vi (lI q)),(157,vi A),(158,vb (decide (A<(lI q))))] [(13,AO u),(14,AO B)] ?_
          refine AW.seq (AW.cN h (fun X0 h=>?_) (fun X0 h=>?_))
          ·refine AW.skip (AW.seq (AW.block (AW.SG0 Fm 2 [(0,AL a),(1,AL b),(2,vi p),(7,AL l),(8,AL e),(13,ow 13),(14,ow 14),(15,vi i),(19,vi A),(156,vi (lI q)),(157,vi A)] [(13,AO u),(14,AO B)] ?_)))
           obtain ⟨E1,G1,c0,h⟩:=gS3 h
           refine AW.WP Fm [.s,.s,.s,.s,.s,.s,.s,.s,.s,.s] [(0,AL a),(1,AL b),(2,vi p),(7,AL l),(8,AL e),(13,ow 13),(14,ow 14),(15,vi i),(156,vi (lI q)),(157,vi A)] [(13,AO u),(14,AO (α:=Rect) (List.set B A.toNat (⟨(gl B A.toNat).left_,(gl B A.toNat).low_,(gl B A.toNat).right_,(gl e (i+1).toNat)⟩ : Rect)))] (cA (cT E1) (cA G1 (cA c0 (cT (toNat_lt c0))))) [(14,.arr 4 (List.length (α:=Rect) B) (fun j=>if j=A.toNat then splice ((LF (α:=Rect) B) A.toNat) 3 [.int .i64 (gl e (i+1).toNat)] else (LF (α:=Rect) B) j))] ⟨OLe.is (Is.set (Is.refl B) (toNat_lt c0) (⟨(gl B A.toNat).left_,(gl B A.toNat).low_,(gl B A.toNat).right_,(gl e (i+1).toNat)⟩ : Rect) (by kernel_rfl)),⟨⟩⟩ ?_
           obtain ⟨H1,h⟩:=gS h
           refine AW.pN Fm [.s,.s] [(0,AL a),(1,AL b),(2,vi p),(7,AL l),(8,AL e),(13,ow 13),(14,ow 14),(15,vi i),(156,vi (lI q)),(157,vi (A+1))] [(13,AO u),(14,AO (α:=Rect) (List.set B A.toNat (⟨(gl B A.toNat).left_,(gl B A.toNat).low_,(gl B A.toNat).right_,(gl e (i+1).toNat)⟩ : Rect)))] (cT (cT H1)) ?_
           exact Kn.R Fm (K0 ((A+1),(List.set B A.toNat (⟨(gl B A.toNat).left_,(gl B A.toNat).low_,(gl B A.toNat).right_,(gl e (i+1).toNat)⟩ : Rect))) h)
          ·exact AW.exit (Kn.R Fm (L0 B h))
        ·exact AW.skip (Kn.R Fm (M0 () h))
       ·rcases br_or h with ⟨N,h⟩|⟨N,h⟩
        ·obtain ⟨W,n0,h⟩:=bS h
         rcases br_or h with ⟨a0,h⟩|⟨a0,h⟩
         ·obtain ⟨m0,D1,h⟩:=gS2 h
          refine AW.G Fm [.s,.s,.s,.w (vb true),.s,.s,.k (sE (vb W)),.s,.w (vb true),.s,.s,.s,.s,.s,.s,.s,.s,.s,.s] (fun K=>_∧K 6∧_∧_∧_∧_∧True) [(0,AL a),(1,AL b),(2,vi p),(7,AL l),(8,AL e),(13,ow 13),(14,ow 14),(15,vi i),(16,ow 16),(140,ow 14),(141,ow 16),(142,vb W),(145,ow 14),(146,.v (.c (.pte 14 4 ((0:Int).toNat) 0))),(147,.v (.c (.pte 14 4 ((0:Int).toNat) 3))),(148,vi (gl q (0:Int).toNat).high_),(149,AL e),(150,vi i),(151,.v (.c (.elm [.int .i64 (gl e i.toNat)]))),(152,vi (gl e i.toNat)),(153,vb (((gl q (0:Int).toNat).high_)==(gl e i.toNat))),(154,vb (((gl q (0:Int).toNat).high_)==(gl e i.toNat)))] [(13,AO u),(14,AO q),(16,AO E)] ⟨ALe.bool N,KAt.callBX (ref04_same_spec n0) Tryz.call203 [14,16] [.tmp 140,.tmp 141] rfl (by kernel_rfl) (by kernel_rfl) ⟨ArgB.own 14 (es:=4) (n:=List.length q) (f:=LF q) (by kernel_rfl) (by kernel_rfl) (by kernel_rfl) (by kernel_rfl),ArgB.own 16 (es:=4) (n:=List.length E) (f:=LF E) (by kernel_rfl) (by kernel_rfl) (by kernel_rfl) (by kernel_rfl),⟨⟩⟩,ALe.bool a0,m0,(toNat_lt m0),D1,⟨⟩⟩ ?_
          exact Kn.R Fm (Y (((gl q (0:Int).toNat).high_)==(gl e i.toNat)) h)
         ·refine AW.G Fm [.s,.s,.s,.w (vb true),.s,.s,.k (sE (vb W)),.s,.w (vb false),.s,.s,.s,.s,.s,.s,.s,.s,.s,.s] (fun K=>_∧K 6∧_∧True) [(0,AL a),(1,AL b),(2,vi p),(7,AL l),(8,AL e),(13,ow 13),(14,ow 14),(15,vi i),(16,ow 16),(140,ow 14),(141,ow 16),(142,vb W),(154,vb false)] [(13,AO u),(14,AO q),(16,AO E)] ⟨ALe.bool N,KAt.callBX (ref04_same_spec n0) Tryz.call203 [14,16] [.tmp 140,.tmp 141] rfl (by kernel_rfl) (by kernel_rfl) ⟨ArgB.own 14 (es:=4) (n:=List.length q) (f:=LF q) (by kernel_rfl) (by kernel_rfl) (by kernel_rfl) (by kernel_rfl),ArgB.own 16 (es:=4) (n:=List.length E) (f:=LF E) (by kernel_rfl) (by kernel_rfl) (by kernel_rfl) (by kernel_rfl),⟨⟩⟩,ALe.bool a0,⟨⟩⟩ ?_
          exact Kn.R Fm (Y false h)
        ·refine AW.pN Fm [.s,.s,.s,.w (vb false),.s,.s,.s,.s,.s,.s,.s,.s,.s,.s,.s,.s,.s,.s,.s] [(0,AL a),(1,AL b),(2,vi p),(7,AL l),(8,AL e),(13,ow 13),(14,ow 14),(15,vi i),(16,ow 16),(154,vb false)] [(13,AO u),(14,AO q),(16,AO E)] (cT (ALe.bool N)) ?_
         exact Kn.R Fm (Y false h)
     ·refine AW.SG0 Fm 1 [(0,AL a),(1,AL b),(2,vi p),(7,AL l),(8,AL e),(13,ow 13),(14,ow 14),(15,vi i),(16,ow 16),(17,vi 0)] [(13,AO u),(14,AO q),(16,AO (α:=Rect) ([]:List Rect))] ?_
      refine AW.block (Kn.r Fm [(0,AL a),(1,AL b),(2,vi p),(7,AL l),(8,AL e),(13,ow 13),(14,ow 14),(15,vi i),(16,ow 16),(17,vi 0)] [(13,AO u),(14,AO q),(16,AO ([]:List Rect))] (by kernel_rfl) ?_)
      refine AW.loopF (E' := fun z=>[(0,AL a),(1,AL b),(2,vi p),(7,AL l),(8,AL e),(13,ow 13),(14,ow 14),(15,vi i),(16,ow 16),(17,vi z.1)]) (S' := fun z=>[(13,AO u),(14,AO q),(16,AO z.2)]) (fun i0 z i2 H0 h=>?_) h
      obtain ⟨t,o⟩:=z
      refine AW.seq ?_
      obtain ⟨d1,h⟩:=gS h
      refine AW.SP Fm [.s,.s,.s,.s,.s] [(0,AL a),(1,AL b),(2,vi p),(7,AL l),(8,AL e),(13,ow 13),(14,ow 14),(15,vi i),(16,ow 16),(17,vi t),(61,vb (decide ((t+1)<(lI l))))] [(13,AO u),(14,AO q),(16,AO o)] (cT (cT d1)) ?_
      refine AW.cN h (fun T0 h=>?_) (fun T0 h=>?_)
      ·refine AW.skip (AW.join (r:=r) (fun z:(List Rect)=>ref04_Combine_k7 F t i0 z) (fun z=>[(0,AL a),(1,AL b),(2,vi p),(7,AL l),(8,AL e),(13,ow 13),(14,ow 14),(15,vi i),(16,ow 16),(17,vi t)]) (fun z=>[(13,AO u),(14,AO q),(16,AO z)]) (fun q0 h=>?_) (fun k2 X=>?_))
       ·obtain ⟨B1,h⟩:=gS h
        refine AW.pN Fm [.s,.s,.s] [(0,AL a),(1,AL b),(2,vi p),(7,AL l),(8,AL e),(13,ow 13),(14,ow 14),(15,vi i),(16,ow 16),(17,vi (t+1))] [(13,AO u),(14,AO q),(16,AO q0)] (cT (cT B1)) ?_
        exact Kn.R Fm (H0 ((t+1),q0) h)
       ·refine AW.block (AW.seq (AW.seq ?_))
        obtain ⟨e1,i1,h⟩:=gS2 h
        obtain ⟨Y1,R1,h⟩:=bS h
        obtain ⟨j1,k1,h⟩:=gS2 h
        obtain ⟨Z1,T1,h⟩:=bS h
        obtain ⟨u0,U1,h⟩:=bS h
        refine AW.G Fm [.s,.s,.s,.s,.s,.s,.s,.s,.s,.k (cE [] [] (vb Y1) [] []),.s,.s,.s,.s,.s,.s,.s,.s,.s,.k (cE [] [] (vb Z1) [] []),.s,.k (cE [] [] (vb u0) [] []),.s] (fun K=>_∧_∧K 9∧_∧_∧K 19∧K 21∧True) [(0,AL a),(1,AL b),(2,vi p),(7,AL l),(8,AL e),(13,ow 13),(14,ow 14),(15,vi i),(16,ow 16),(17,vi t),(86,vb (!u0))] [(13,AO u),(14,AO q),(16,AO o)] ⟨e1,i1,KAt.CC (ref04_inside_spec R1) Tryz.call110 [],j1,k1,KAt.CC (ref04_inside_spec T1) Tryz.call110 [],KAt.CC (ref04_keep_spec U1) Tryz.call202 [],⟨⟩⟩ ?_
        refine AW.cN h (fun U0 h=>?_) (fun U0 h=>?_)
        ·exact AW.exit (Kn.R Fm (X o h))
        ·refine AW.skip (AW.SG0 Fm 3 [(0,AL a),(1,AL b),(2,vi p),(7,AL l),(8,AL e),(13,ow 13),(14,ow 14),(15,vi i),(16,ow 16),(17,vi t),(18,vi (lI o))] [(13,AO u),(14,AO q),(16,AO o)] ?_)
         refine AW.join (r:=r) (fun z:Bool=>ref04_Combine_k6 F l e i t o i0 z) (fun z=>[(0,AL a),(1,AL b),(2,vi p),(7,AL l),(8,AL e),(13,ow 13),(14,ow 14),(15,vi i),(16,ow 16),(17,vi t),(18,vi (lI o)),(103,vb z)]) (fun z=>[(13,AO u),(14,AO q),(16,AO o)]) (fun w2 h=>?_) (fun j2 j0=>?_)
         ·refine AW.cN h (fun V0 h=>?_) (fun V0 h=>?_)
          ·obtain ⟨n1,o1,p1,b0,h⟩:=gS4 h
           refine AW.WP Fm [.s,.s,.s,.s,.s,.s,.s,.s,.s,.s,.s] [(0,AL a),(1,AL b),(2,vi p),(7,AL l),(8,AL e),(13,ow 13),(14,ow 14),(15,vi i),(16,ow 16),(17,vi t)] [(13,AO u),(14,AO q),(16,AO (α:=Rect) (List.set o ((lI o)-1).toNat (⟨(gl o ((lI o)-1).toNat).left_,(gl o ((lI o)-1).toNat).low_,(gl l (t+1).toNat),(gl o ((lI o)-1).toNat).high_⟩ : Rect)))] (cA (cT n1) (cA (cT o1) (cA p1 (cA b0 (cT (toNat_lt b0)))))) [(16,.arr 4 (List.length (α:=Rect) o) (fun j=>if j=((lI o)-1).toNat then splice ((LF (α:=Rect) o) ((lI o)-1).toNat) 2 [.int .i64 (gl l (t+1).toNat)] else (LF (α:=Rect) o) j))] ⟨OLe.is (Is.set (Is.refl o) (toNat_lt b0) (⟨(gl o ((lI o)-1).toNat).left_,(gl o ((lI o)-1).toNat).low_,(gl l (t+1).toNat),(gl o ((lI o)-1).toNat).high_⟩ : Rect) (by kernel_rfl)),⟨⟩⟩ ?_
           exact Kn.R Fm (X (List.set o ((lI o)-1).toNat (⟨(gl o ((lI o)-1).toNat).left_,(gl o ((lI o)-1).toNat).low_,(gl l (t+1).toNat),(gl o ((lI o)-1).toNat).high_⟩ : Rect)) h)
          ·obtain ⟨q1,s1,t1,u1,h⟩:=gS4 h
           obtain ⟨w1,y1,A1,h⟩:=gS3 h
           refine AW.WP Fm [.s,.s,.s,.s,.s,.s,.s,.s,.s,.s,.s,.s,.s,.s,.s,.s,.s,.s,.s,.s,.w (AL (α:=Rect) ([(⟨(gl l t.toNat),(gl e i.toNat),(gl l (t+1).toNat),(gl e (i+1).toNat)⟩ : Rect)]:List Rect)),.s,.s] [(0,AL a),(1,AL b),(2,vi p),(7,AL l),(8,AL e),(13,ow 13),(14,ow 14),(15,vi i),(16,ow 135),(17,vi t)] [(13,AO u),(14,AO q),(135,AO (α:=Rect) (o++([(⟨(gl l t.toNat),(gl e i.toNat),(gl l (t+1).toNat),(gl e (i+1).toNat)⟩ : Rect)]:List Rect)))] (cA q1 (cA s1 (cA (cT t1) (cA u1 (cA (cT w1) (cA y1 (cA (ALe.lst (.lit ([(⟨(gl l t.toNat),(gl e i.toNat),(gl l (t+1).toNat),(gl e (i+1).toNat)⟩ : Rect)]:List Rect) (by kernel_rfl)):ALe (.v (.c (.d (.lst 1 (litF 4 [.int .i64 (gl l t.toNat),.int .i64 (gl e i.toNat),.int .i64 (gl l (t+1).toNat),.int .i64 (gl e (i+1).toNat)]))))) (AL (α:=Rect) ([(⟨(gl l t.toNat),(gl e i.toNat),(gl l (t+1).toNat),(gl e (i+1).toNat)⟩ : Rect)]:List Rect))) (cT (cA A1 (cT (Is.refl ([(⟨(gl l t.toNat),(gl e i.toNat),(gl l (t+1).toNat),(gl e (i+1).toNat)⟩ : Rect)]:List Rect):Is (List.length (α:=Rect) ([(⟨(gl l t.toNat),(gl e i.toNat),(gl l (t+1).toNat),(gl e (i+1).toNat)⟩ : Rect)]:List Rect)) (LF (α:=Rect) ([(⟨(gl l t.toNat),(gl e i.toNat),(gl l (t+1).toNat),(gl e (i+1).toNat)⟩ : Rect)]:List Rect)) ([(⟨(gl l t.toNat),(gl e i.toNat),(gl l (t+1).toNat),(gl e (i+1).toNat)⟩ : Rect)]:List Rect)).len)))))))))) [(135,.arr 4 ((List.length (α:=Rect) o)+(List.length (α:=Rect) ([(⟨(gl l t.toNat),(gl e i.toNat),(gl l (t+1).toNat),(gl e (i+1).toNat)⟩ : Rect)]:List Rect))) (appF (List.length (α:=Rect) o) (LF (α:=Rect) o) (LF (α:=Rect) ([(⟨(gl l t.toNat),(gl e i.toNat),(gl l (t+1).toNat),(gl e (i+1).toNat)⟩ : Rect)]:List Rect))))] ⟨OLe.is (Is.app (Is.refl o) (Is.refl ([(⟨(gl l t.toNat),(gl e i.toNat),(gl l (t+1).toNat),(gl e (i+1).toNat)⟩ : Rect)]:List Rect))),⟨⟩⟩ ?_
           exact Kn.RE Fm [(16,135)] (X (o++([(⟨(gl l t.toNat),(gl e i.toNat),(gl l (t+1).toNat),(gl e (i+1).toNat)⟩ : Rect)]:List Rect)) h)
         ·rcases br_or h with ⟨Z,h⟩|⟨Z,h⟩
          ·obtain ⟨l1,l0,m1,h⟩:=gS3 h
           refine AW.pN Fm [.s,.s,.w (vb true),.s,.s,.s,.s,.s,.s,.s,.s,.s,.s,.s,.s] [(0,AL a),(1,AL b),(2,vi p),(7,AL l),(8,AL e),(13,ow 13),(14,ow 14),(15,vi i),(16,ow 16),(17,vi t),(18,vi (lI o)),(92,ow 16),(93,vi (lI o)),(94,vi ((lI o)-1)),(95,.v (.c (.pte 16 4 (((lI o)-1).toNat) 0))),(96,.v (.c (.pte 16 4 (((lI o)-1).toNat) 2))),(97,vi (gl o ((lI o)-1).toNat).right_),(98,AL l),(99,vi t),(100,.v (.c (.elm [.int .i64 (gl l t.toNat)]))),(101,vi (gl l t.toNat)),(102,vb (((gl o ((lI o)-1).toNat).right_)==(gl l t.toNat))),(103,vb (((gl o ((lI o)-1).toNat).right_)==(gl l t.toNat)))] [(13,AO u),(14,AO q),(16,AO o)] (cA (ALe.bool Z) (cA (cT l1) (cA l0 (cA (toNat_lt l0) (cT m1))))) ?_
           exact Kn.R Fm (j0 (((gl o ((lI o)-1).toNat).right_)==(gl l t.toNat)) h)
          ·refine AW.pN Fm [.s,.s,.w (vb false),.s,.s,.s,.s,.s,.s,.s,.s,.s,.s,.s,.s] [(0,AL a),(1,AL b),(2,vi p),(7,AL l),(8,AL e),(13,ow 13),(14,ow 14),(15,vi i),(16,ow 16),(17,vi t),(18,vi (lI o)),(103,vb false)] [(13,AO u),(14,AO q),(16,AO o)] (cT (ALe.bool Z)) ?_
           exact Kn.R Fm (j0 false h)
      ·exact AW.exit (Kn.R Fm (I0 o h))
   ·exact AW.exit (Kn.R Fm (N0 (u,q) h))
 ·refine AW.SP Fm [.s,.s,.w (AL (α:=(List Rect)) ([a,b]:List (List Rect))),.s,.s] [(0,AL a),(1,AL b),(2,vi p),(7,ow 7),(8,ow 8),(22,AL (α:=(List Rect)) ([a,b]:List (List Rect))),(23,vi ((List.length ([a,b]:List (List Rect)):Nat):Int)),(24,vi 0)] [(7,AO (α:=Int) ([]:List Int)),(8,AO (α:=Int) ([]:List Int))] (cT (ALe.lst (.lit ([a,b]:List (List Rect)) (by kernel_rfl)):ALe (.v (.c (.d (.lst 2 (litF 1 [DL a,DL b]))))) (AL (α:=(List Rect)) ([a,b]:List (List Rect))))) ?_
  refine AW.block (Kn.r Fm [(0,AL a),(1,AL b),(2,vi p),(7,ow 7),(8,ow 8),(22,AL (α:=(List Rect)) ([a,b]:List (List Rect))),(23,vi ((List.length ([a,b]:List (List Rect)):Nat):Int)),(24,vi 0)] [(7,AO (α:=Int) ([]:List Int)),(8,AO (α:=Int) ([]:List Int))] (by kernel_rfl) ?_)
  refine Kn.frz [(0,AL a),(1,AL b),(2,vi p),(7,AL (α:=Int) ([]:List Int)),(8,ow 8),(22,AL (α:=(List Rect)) ([a,b]:List (List Rect))),(23,vi ((List.length ([a,b]:List (List Rect)):Nat):Int)),(24,vi 0)] [(8,AO (α:=Int) ([]:List Int))] (by kernel_rfl) (by kernel_rfl) (by kernel_rfl) ?_
  refine Kn.r Fm [(0,AL a),(1,AL b),(2,vi p),(7,AL (α:=Int) ([]:List Int)),(8,ow 8),(22,AL (α:=(List Rect)) ([a,b]:List (List Rect))),(23,vi ((List.length ([a,b]:List (List Rect)):Nat):Int)),(24,vi 0)] [(8,AO (α:=Int) ([]:List Int))] (by kernel_rfl) ?_
  refine Kn.frz [(0,AL a),(1,AL b),(2,vi p),(7,AL (α:=Int) ([]:List Int)),(8,AL (α:=Int) ([]:List Int)),(22,AL (α:=(List Rect)) ([a,b]:List (List Rect))),(23,vi ((List.length ([a,b]:List (List Rect)):Nat):Int)),(24,vi 0)] [] (by kernel_rfl) (by kernel_rfl) (by kernel_rfl) ?_
  refine Kn.r Fm [(0,AL a),(1,AL b),(2,vi p),(7,AL ([]:List Int)),(8,AL ([]:List Int)),(22,AL (α:=(List Rect)) ([a,b]:List (List Rect))),(23,vi ((List.length ([a,b]:List (List Rect)):Nat):Int)),(24,vi 0)] [] (by kernel_rfl) ?_
  refine AW.loopF (E' := fun z=>[(0,AL a),(1,AL b),(2,vi p),(7,AL z.1),(8,AL z.2.1),(22,AL (α:=(List Rect)) ([a,b]:List (List Rect))),(23,vi ((List.length ([a,b]:List (List Rect)):Nat):Int)),(24,vi z.2.2)]) (S' := fun z=>[]) (fun w0 z a2 y0 h=>?_) h
  obtain ⟨P,T,y⟩:=z
  refine AW.SG0 Fm 1 [(0,AL a),(1,AL b),(2,vi p),(7,AL P),(8,AL T),(22,AL (α:=(List Rect)) ([a,b]:List (List Rect))),(23,vi ((List.length ([a,b]:List (List Rect)):Nat):Int)),(24,vi y),(25,vb (decide (y<((List.length ([a,b]:List (List Rect)):Nat):Int))))] [] ?_
  refine AW.seq (AW.cN h (fun O0 h=>?_) (fun O0 h=>?_))
  ·refine AW.skip (AW.join (r:=r) (fun z:(List Int)×(List Int)=>ref04_Combine_k2 F y w0 z.1 z.2) (fun z=>[(0,AL a),(1,AL b),(2,vi p),(7,AL z.1),(8,AL z.2),(22,AL (α:=(List Rect)) ([a,b]:List (List Rect))),(23,vi ((List.length ([a,b]:List (List Rect)):Nat):Int)),(24,vi y)]) (fun z=>[]) (fun z h=>?_) (fun c2 B0=>?_))
   ·obtain ⟨o0,p0⟩:=z
    obtain ⟨b1,h⟩:=gS h
    refine AW.pN Fm [.s,.s] [(0,AL a),(1,AL b),(2,vi p),(7,AL o0),(8,AL p0),(22,AL (α:=(List Rect)) ([a,b]:List (List Rect))),(23,vi ((List.length ([a,b]:List (List Rect)):Nat):Int)),(24,vi (y+1))] [] (cT (cT b1)) ?_
    exact Kn.R Fm (y0 (o0,p0,(y+1)) h)
   ·refine AW.block ?_
    obtain ⟨Y0,h⟩:=gS h
    refine AW.SP Fm [.s,.s,.s] [(0,AL a),(1,AL b),(2,vi p),(7,AL P),(8,AL T),(10,AL (α:=Rect) (gl ([a,b]:List (List Rect)) y.toNat)),(22,AL (α:=(List Rect)) ([a,b]:List (List Rect))),(23,vi ((List.length ([a,b]:List (List Rect)):Nat):Int)),(24,vi y)] [] (cT Y0) ?_
    refine AW.SG0 Fm 3 [(0,AL a),(1,AL b),(2,vi p),(7,AL P),(8,AL T),(22,AL (α:=(List Rect)) ([a,b]:List (List Rect))),(23,vi ((List.length ([a,b]:List (List Rect)):Nat):Int)),(24,vi y),(28,AL (α:=Rect) (gl ([a,b]:List (List Rect)) y.toNat)),(29,vi ((List.length (gl ([a,b]:List (List Rect)) y.toNat):Nat):Int)),(30,vi 0)] [] ?_
    refine AW.block (AW.loopF (E' := fun z=>[(0,AL a),(1,AL b),(2,vi p),(7,AL z.1),(8,AL z.2.1),(22,AL (α:=(List Rect)) ([a,b]:List (List Rect))),(23,vi ((List.length ([a,b]:List (List Rect)):Nat):Int)),(24,vi y),(28,AL (α:=Rect) (gl ([a,b]:List (List Rect)) y.toNat)),(29,vi ((List.length (gl ([a,b]:List (List Rect)) y.toNat):Nat):Int)),(30,vi z.2.2)]) (S' := fun z=>[]) (fun t2 z b2 A0 h=>?_) h)
    obtain ⟨d0,e0,H⟩:=z
    refine AW.SG0 Fm 1 [(0,AL a),(1,AL b),(2,vi p),(7,AL d0),(8,AL e0),(22,AL (α:=(List Rect)) ([a,b]:List (List Rect))),(23,vi ((List.length ([a,b]:List (List Rect)):Nat):Int)),(24,vi y),(28,AL (α:=Rect) (gl ([a,b]:List (List Rect)) y.toNat)),(29,vi ((List.length (gl ([a,b]:List (List Rect)) y.toNat):Nat):Int)),(30,vi H),(31,vb (decide (H<((List.length (gl ([a,b]:List (List Rect)) y.toNat):Nat):Int))))] [] ?_
    refine AW.seq (AW.cN h (fun P0 h=>?_) (fun P0 h=>?_))
    ·refine AW.skip (AW.seq (AW.block ?_))
     obtain ⟨Z0,h⟩:=gS h
     refine AW.SP Fm [.s,.s,.s,.s] [(0,AL a),(1,AL b),(2,vi p),(7,AL d0),(8,AL e0),(12,pt 12),(22,AL (α:=(List Rect)) ([a,b]:List (List Rect))),(23,vi ((List.length ([a,b]:List (List Rect)):Nat):Int)),(24,vi y),(28,AL (α:=Rect) (gl ([a,b]:List (List Rect)) y.toNat)),(29,vi ((List.length (gl ([a,b]:List (List Rect)) y.toNat):Nat):Int)),(30,vi H)] [(12,bx [ci ((gl (gl ([a,b]:List (List Rect)) y.toNat) H.toNat).left_),ci ((gl (gl ([a,b]:List (List Rect)) y.toNat) H.toNat).low_),ci ((gl (gl ([a,b]:List (List Rect)) y.toNat) H.toNat).right_),ci ((gl (gl ([a,b]:List (List Rect)) y.toNat) H.toNat).high_)])] (cT Z0) ?_
     obtain ⟨W1,M1,h⟩:=bS h
     obtain ⟨U,N1,h⟩:=bS h
     obtain ⟨X1,O1,h⟩:=bS h
     obtain ⟨V,P1,h⟩:=bS h
     refine AW.G Fm [.s,.s,.s,.k (cE [] [] (AL W1) [] []),.s,.s,.k (cE [] [] (AL U) [] []),.s,.s,.s,.k (cE [] [] (AL X1) [] []),.s,.s,.k (cE [] [] (AL V) [] []),.s,.s] (fun K=>K 3∧K 6∧K 10∧K 13∧True) [(0,AL a),(1,AL b),(2,vi p),(7,AL U),(8,AL V),(22,AL (α:=(List Rect)) ([a,b]:List (List Rect))),(23,vi ((List.length ([a,b]:List (List Rect)):Nat):Int)),(24,vi y),(28,AL (α:=Rect) (gl ([a,b]:List (List Rect)) y.toNat)),(29,vi ((List.length (gl ([a,b]:List (List Rect)) y.toNat):Nat):Int)),(30,vi H)] [] ⟨KAt.CC (ref01_Put_spec M1) Tryz.call127 [],KAt.CC (ref01_Put_spec N1) Tryz.call127 [],KAt.CC (ref01_Put_spec O1) Tryz.call127 [],KAt.CC (ref01_Put_spec P1) Tryz.call127 [],⟨⟩⟩ ?_
     obtain ⟨a1,h⟩:=gS h
     refine AW.pN Fm [.s,.s] [(0,AL a),(1,AL b),(2,vi p),(7,AL U),(8,AL V),(22,AL (α:=(List Rect)) ([a,b]:List (List Rect))),(23,vi ((List.length ([a,b]:List (List Rect)):Nat):Int)),(24,vi y),(28,AL (α:=Rect) (gl ([a,b]:List (List Rect)) y.toNat)),(29,vi ((List.length (gl ([a,b]:List (List Rect)) y.toNat):Nat):Int)),(30,vi (H+1))] [] (cT (cT a1)) ?_
     exact Kn.R Fm (A0 (U,V,(H+1)) h)
    ·exact AW.exit (Kn.R Fm (B0 (d0,e0) h))
  ·exact AW.exit (Kn.R Fm (D0 (P,T) h))
theorem ref04_Combine_O_spec {F:Nat} {a:(List Rect)} {b:(List Rect)} {p:Int} {r:(List Rect)} (h:ref04_Combine_O F a b p=some r) :
  FSpec Tryz.prog 112 [AL a,AL b,vi p] [] (ow 100) [(100,AO (α:=Rect) r)]:=by
 refine FI Tryz.func112 prog_mixed prog_lay fun C Fm=>?_
 unfold ref04_Combine_O at h
 refine AW.SG Fm [.m] (fun K=>True) [(0,AL a),(1,AL b),(2,vi p)] [] True.intro ?_
 refine AW.SW Fm [.m,.m] (fun K=>True) [(0,AL a),(1,AL b),(2,vi p),(7,ow 7),(8,ow 8)] [(7,AO (α:=Int) ([]:List Int)),(8,AO (α:=Int) ([]:List Int))] True.intro [(7,.arr 1 (0) (fun _=>[])),(8,.arr 1 (0) (fun _=>[]))] ⟨OLe.is ((Is.nil (α:=Int))),OLe.is ((Is.nil (α:=Int))),⟨⟩⟩ ?_
 refine AW.join (r:=r) (fun z:(List Int)×(List Int)=>ref04_Combine_O_k3 F a b p z.1 z.2) (fun z=>[(0,AL a),(1,AL b),(2,vi p),(7,AL z.1),(8,AL z.2)]) (fun z=>[]) (fun z h=>?_) (fun c2 B0=>?_)
 ·obtain ⟨l,e⟩:=z
  refine AW.SW Fm [.m,.m] (fun K=>True) [(0,AL a),(1,AL b),(2,vi p),(7,AL l),(8,AL e),(13,ow 13),(14,ow 14)] [(13,AO (α:=Rect) ([]:List Rect)),(14,AO (α:=Rect) ([]:List Rect))] True.intro [(13,.arr 4 (0) (fun _=>[])),(14,.arr 4 (0) (fun _=>[]))] ⟨OLe.is ((Is.nil (α:=Rect))),OLe.is ((Is.nil (α:=Rect))),⟨⟩⟩ ?_
  refine AW.join (r:=r) (fun z:(List Rect)×(List Rect)=>ref04_Combine_O_k14 F z.1 z.2) (fun z=>[(13,ow 13),(14,ow 14)]) (fun z=>[(13,AO z.1),(14,AO z.2)]) (fun z h=>?_) (fun q2 M0=>?_)
  ·obtain ⟨I,H⟩:=z
   obtain ⟨K1,h⟩:=gS h
   refine AW.SV Fm [.s,.s,.s,.s] [(6,ow 176)] [(176,AO (α:=Rect) (I++H))] (cT (cA K1 (cT (Is.refl H:Is (List.length (α:=Rect) H) (LF (α:=Rect) H) H).len))) [(176,.arr 4 ((List.length (α:=Rect) I)+(List.length (α:=Rect) H)) (appF (List.length (α:=Rect) I) (LF (α:=Rect) I) (LF (α:=Rect) H)))] ⟨OLe.is (Is.app (Is.refl I) (Is.refl H)),⟨⟩⟩ ?_
   refine AW.ret ?_
   obtain rfl:=Option.some.inj h
   exact Kn.re Fm [(100,176)] [(6,ow 100)] [(100,AO (α:=Rect) (I++H))] (by kernel_rfl) (by kernel_rfl) (by kernel_rfl) (by kernel_rfl) (Kn.dn Fm (by kernel_rfl))
  ·refine AW.SG0 Fm 1 [(0,AL a),(1,AL b),(2,vi p),(7,AL l),(8,AL e),(13,ow 13),(14,ow 14),(15,vi 0)] [(13,AO (α:=Rect) ([]:List Rect)),(14,AO (α:=Rect) ([]:List Rect))] ?_
   refine AW.block (Kn.r Fm [(0,AL a),(1,AL b),(2,vi p),(7,AL l),(8,AL e),(13,ow 13),(14,ow 14),(15,vi 0)] [(13,AO ([]:List Rect)),(14,AO ([]:List Rect))] (by kernel_rfl) ?_)
   refine AW.loopF (E' := fun z=>[(0,AL a),(1,AL b),(2,vi p),(7,AL l),(8,AL e),(13,ow 13),(14,ow 14),(15,vi z.1)]) (S' := fun z=>[(13,AO z.2.1),(14,AO z.2.2)]) (fun L z d2 D0 h=>?_) h
   obtain ⟨i,u,q⟩:=z
   refine AW.seq ?_
   obtain ⟨b1,h⟩:=gS h
   refine AW.SP Fm [.s,.s,.s,.s,.s] [(0,AL a),(1,AL b),(2,vi p),(7,AL l),(8,AL e),(13,ow 13),(14,ow 14),(15,vi i),(54,vb (decide ((i+1)<(lI e))))] [(13,AO u),(14,AO q)] (cT (cT b1)) ?_
   refine AW.cN h (fun P0 h=>?_) (fun P0 h=>?_)
   ·refine AW.skip (AW.join (r:=r) (fun z:(List Rect)×(List Rect)=>ref04_Combine_O_k13 F i L z.1 z.2) (fun z=>[(0,AL a),(1,AL b),(2,vi p),(7,AL l),(8,AL e),(13,ow 13),(14,ow 14),(15,vi i)]) (fun z=>[(13,AO z.1),(14,AO z.2)]) (fun z h=>?_) (fun p2 j0=>?_))
    ·obtain ⟨q0,s0⟩:=z
     obtain ⟨I1,h⟩:=gS h
     refine AW.pN Fm [.s,.s,.s] [(0,AL a),(1,AL b),(2,vi p),(7,AL l),(8,AL e),(13,ow 13),(14,ow 14),(15,vi (i+1))] [(13,AO q0),(14,AO s0)] (cT (cT I1)) ?_
     exact Kn.R Fm (D0 ((i+1),q0,s0) h)
    ·refine AW.block (AW.SW Fm [.m] (fun K=>True) [(0,AL a),(1,AL b),(2,vi p),(7,AL l),(8,AL e),(13,ow 13),(14,ow 14),(15,vi i),(16,ow 16)] [(13,AO u),(14,AO q),(16,AO (α:=Rect) ([]:List Rect))] True.intro [(16,.arr 4 (0) (fun _=>[]))] ⟨OLe.is ((Is.nil (α:=Rect))),⟨⟩⟩ ?_)
     refine AW.join (r:=r) (fun z:(List Rect)=>ref04_Combine_O_k8 F e i u q L z) (fun z=>[(0,AL a),(1,AL b),(2,vi p),(7,AL l),(8,AL e),(13,ow 13),(14,ow 14),(15,vi i),(16,ow 16)]) (fun z=>[(13,AO u),(14,AO q),(16,AO z)]) (fun D h=>?_) (fun k2 H0=>?_)
     ·refine AW.join (r:=r) (fun z:Unit=>ref04_Combine_O_k12 F i u q D L) (fun z=>[(0,AL a),(1,AL b),(2,vi p),(7,AL l),(8,AL e),(13,ow 13),(14,ow 14),(15,vi i),(16,ow 16)]) (fun z=>[(13,AO u),(14,AO q),(16,AO D)]) (fun z h=>?_) (fun o2 L0=>?_)
      ·obtain ⟨H1,h⟩:=gS h
       refine AW.SV Fm [.s,.s,.s,.s] [(0,AL a),(1,AL b),(2,vi p),(7,AL l),(8,AL e),(13,ow 172),(15,vi i),(16,ow 16)] [(16,AO D),(172,AO (α:=Rect) (u++q))] (cT (cA H1 (cT (Is.refl q:Is (List.length (α:=Rect) q) (LF (α:=Rect) q) q).len))) [(172,.arr 4 ((List.length (α:=Rect) u)+(List.length (α:=Rect) q)) (appF (List.length (α:=Rect) u) (LF (α:=Rect) u) (LF (α:=Rect) q)))] ⟨OLe.is (Is.app (Is.refl u) (Is.refl q)),⟨⟩⟩ ?_
       refine AW.G0 Fm 2 [(0,AL a),(1,AL b),(2,vi p),(7,AL l),(8,AL e),(13,ow 172),(14,ow 16),(15,vi i)] [(16,AO D),(172,AO (α:=Rect) (u++q))] ?_
       exact Kn.RE Fm [(13,172),(14,16)] (j0 ((u++q),D) h)
      ·refine AW.join (r:=r) (fun z:Bool=>ref04_Combine_O_k9 F e i u q D L z) (fun z=>[(0,AL a),(1,AL b),(2,vi p),(7,AL l),(8,AL e),(13,ow 13),(14,ow 14),(15,vi i),(16,ow 16),(154,vb z)]) (fun z=>[(13,AO u),(14,AO q),(16,AO D)]) (fun w2 h=>?_) (fun l2 X=>?_)
       ·refine AW.cN h (fun V0 h=>?_) (fun V0 h=>?_)
        ·refine AW.join (r:=r) (fun z:(List Rect)=>ref04_Combine_O_k11 F i u L z) (fun z=>[(0,AL a),(1,AL b),(2,vi p),(7,AL l),(8,AL e),(13,ow 13),(14,ow 14),(15,vi i)]) (fun z=>[(13,AO u),(14,AO z)]) (fun U1 h=>?_) (fun n2 K0=>?_)
         ·exact AW.exit (Kn.R Fm (j0 (u,U1) h))
         ·refine AW.SG0 Fm 3 [(0,AL a),(1,AL b),(2,vi p),(7,AL l),(8,AL e),(13,ow 13),(14,ow 14),(15,vi i),(156,vi (lI q)),(157,vi 0)] [(13,AO u),(14,AO q)] ?_
          refine AW.block (AW.loopF (E' := fun z=>[(0,AL a),(1,AL b),(2,vi p),(7,AL l),(8,AL e),(13,ow 13),(14,ow 14),(15,vi i),(156,vi (lI q)),(157,vi z.1)]) (S' := fun z=>[(13,AO u),(14,AO z.2)]) (fun t2 z m2 I0 h=>?_) h)
          obtain ⟨A,B⟩:=z
          refine AW.SG0 Fm 1 [(0,AL a),(1,AL b),(2,vi p),(7,AL l),(8,AL e),(13,ow 13),(14,ow 14),(15,vi i),(156,vi (lI q)),(157,vi A),(158,vb (decide (A<(lI q))))] [(13,AO u),(14,AO B)] ?_
          refine AW.seq (AW.cN h (fun W0 h=>?_) (fun W0 h=>?_))
          ·refine AW.skip (AW.seq (AW.block (AW.SG0 Fm 2 [(0,AL a),(1,AL b),(2,vi p),(7,AL l),(8,AL e),(13,ow 13),(14,ow 14),(15,vi i),(19,vi A),(156,vi (lI q)),(157,vi A)] [(13,AO u),(14,AO B)] ?_)))
           obtain ⟨D1,E1,b0,h⟩:=gS3 h
           refine AW.WP Fm [.s,.s,.s,.s,.s,.s,.s,.s,.s,.s] [(0,AL a),(1,AL b),(2,vi p),(7,AL l),(8,AL e),(13,ow 13),(14,ow 14),(15,vi i),(156,vi (lI q)),(157,vi A)] [(13,AO u),(14,AO (α:=Rect) (List.set B A.toNat (⟨(gl B A.toNat).left_,(gl B A.toNat).low_,(gl B A.toNat).right_,(gl e (i+1).toNat)⟩ : Rect)))] (cA (cT D1) (cA E1 (cA b0 (cT (toNat_lt b0))))) [(14,.arr 4 (List.length (α:=Rect) B) (fun j=>if j=A.toNat then splice ((LF (α:=Rect) B) A.toNat) 3 [.int .i64 (gl e (i+1).toNat)] else (LF (α:=Rect) B) j))] ⟨OLe.is (Is.set (Is.refl B) (toNat_lt b0) (⟨(gl B A.toNat).left_,(gl B A.toNat).low_,(gl B A.toNat).right_,(gl e (i+1).toNat)⟩ : Rect) (by kernel_rfl)),⟨⟩⟩ ?_
           obtain ⟨G1,h⟩:=gS h
           refine AW.pN Fm [.s,.s] [(0,AL a),(1,AL b),(2,vi p),(7,AL l),(8,AL e),(13,ow 13),(14,ow 14),(15,vi i),(156,vi (lI q)),(157,vi (A+1))] [(13,AO u),(14,AO (α:=Rect) (List.set B A.toNat (⟨(gl B A.toNat).left_,(gl B A.toNat).low_,(gl B A.toNat).right_,(gl e (i+1).toNat)⟩ : Rect)))] (cT (cT G1)) ?_
           exact Kn.R Fm (I0 ((A+1),(List.set B A.toNat (⟨(gl B A.toNat).left_,(gl B A.toNat).low_,(gl B A.toNat).right_,(gl e (i+1).toNat)⟩ : Rect))) h)
          ·exact AW.exit (Kn.R Fm (K0 B h))
        ·exact AW.skip (Kn.R Fm (L0 () h))
       ·rcases br_or h with ⟨M,h⟩|⟨M,h⟩
        ·obtain ⟨V,m0,h⟩:=bS h
         rcases br_or h with ⟨Z,h⟩|⟨Z,h⟩
         ·obtain ⟨l0,B1,h⟩:=gS2 h
          refine AW.G Fm [.s,.s,.s,.w (vb true),.s,.s,.k (sE (vb V)),.s,.w (vb true),.s,.s,.s,.s,.s,.s,.s,.s,.s,.s] (fun K=>_∧K 6∧_∧_∧_∧_∧True) [(0,AL a),(1,AL b),(2,vi p),(7,AL l),(8,AL e),(13,ow 13),(14,ow 14),(15,vi i),(16,ow 16),(140,ow 14),(141,ow 16),(142,vb V),(145,ow 14),(146,.v (.c (.pte 14 4 ((0:Int).toNat) 0))),(147,.v (.c (.pte 14 4 ((0:Int).toNat) 3))),(148,vi (gl q (0:Int).toNat).high_),(149,AL e),(150,vi i),(151,.v (.c (.elm [.int .i64 (gl e i.toNat)]))),(152,vi (gl e i.toNat)),(153,vb (((gl q (0:Int).toNat).high_)==(gl e i.toNat))),(154,vb (((gl q (0:Int).toNat).high_)==(gl e i.toNat)))] [(13,AO u),(14,AO q),(16,AO D)] ⟨ALe.bool M,KAt.callBX (ref04_same_spec m0) Tryz.call203 [14,16] [.tmp 140,.tmp 141] rfl (by kernel_rfl) (by kernel_rfl) ⟨ArgB.own 14 (es:=4) (n:=List.length q) (f:=LF q) (by kernel_rfl) (by kernel_rfl) (by kernel_rfl) (by kernel_rfl),ArgB.own 16 (es:=4) (n:=List.length D) (f:=LF D) (by kernel_rfl) (by kernel_rfl) (by kernel_rfl) (by kernel_rfl),⟨⟩⟩,ALe.bool Z,l0,(toNat_lt l0),B1,⟨⟩⟩ ?_
          exact Kn.R Fm (X (((gl q (0:Int).toNat).high_)==(gl e i.toNat)) h)
         ·refine AW.G Fm [.s,.s,.s,.w (vb true),.s,.s,.k (sE (vb V)),.s,.w (vb false),.s,.s,.s,.s,.s,.s,.s,.s,.s,.s] (fun K=>_∧K 6∧_∧True) [(0,AL a),(1,AL b),(2,vi p),(7,AL l),(8,AL e),(13,ow 13),(14,ow 14),(15,vi i),(16,ow 16),(140,ow 14),(141,ow 16),(142,vb V),(154,vb false)] [(13,AO u),(14,AO q),(16,AO D)] ⟨ALe.bool M,KAt.callBX (ref04_same_spec m0) Tryz.call203 [14,16] [.tmp 140,.tmp 141] rfl (by kernel_rfl) (by kernel_rfl) ⟨ArgB.own 14 (es:=4) (n:=List.length q) (f:=LF q) (by kernel_rfl) (by kernel_rfl) (by kernel_rfl) (by kernel_rfl),ArgB.own 16 (es:=4) (n:=List.length D) (f:=LF D) (by kernel_rfl) (by kernel_rfl) (by kernel_rfl) (by kernel_rfl),⟨⟩⟩,ALe.bool Z,⟨⟩⟩ ?_
          exact Kn.R Fm (X false h)
        ·refine AW.pN Fm [.s,.s,.s,.w (vb false),.s,.s,.s,.s,.s,.s,.s,.s,.s,.s,.s,.s,.s,.s,.s] [(0,AL a),(1,AL b),(2,vi p),(7,AL l),(8,AL e),(13,ow 13),(14,ow 14),(15,vi i),(16,ow 16),(154,vb false)] [(13,AO u),(14,AO q),(16,AO D)] (cT (ALe.bool M)) ?_
         exact Kn.R Fm (X false h)
     ·refine AW.SG0 Fm 1 [(0,AL a),(1,AL b),(2,vi p),(7,AL l),(8,AL e),(13,ow 13),(14,ow 14),(15,vi i),(16,ow 16),(17,vi 0)] [(13,AO u),(14,AO q),(16,AO (α:=Rect) ([]:List Rect))] ?_
      refine AW.block (Kn.r Fm [(0,AL a),(1,AL b),(2,vi p),(7,AL l),(8,AL e),(13,ow 13),(14,ow 14),(15,vi i),(16,ow 16),(17,vi 0)] [(13,AO u),(14,AO q),(16,AO ([]:List Rect))] (by kernel_rfl) ?_)
      refine AW.loopF (E' := fun z=>[(0,AL a),(1,AL b),(2,vi p),(7,AL l),(8,AL e),(13,ow 13),(14,ow 14),(15,vi i),(16,ow 16),(17,vi z.1)]) (S' := fun z=>[(13,AO u),(14,AO q),(16,AO z.2)]) (fun e0 z e2 E0 h=>?_) h
      obtain ⟨t,o⟩:=z
      refine AW.seq ?_
      obtain ⟨c1,h⟩:=gS h
      refine AW.SP Fm [.s,.s,.s,.s,.s] [(0,AL a),(1,AL b),(2,vi p),(7,AL l),(8,AL e),(13,ow 13),(14,ow 14),(15,vi i),(16,ow 16),(17,vi t),(61,vb (decide ((t+1)<(lI l))))] [(13,AO u),(14,AO q),(16,AO o)] (cT (cT c1)) ?_
      refine AW.cN h (fun R0 h=>?_) (fun R0 h=>?_)
      ·refine AW.skip (AW.join (r:=r) (fun z:(List Rect)=>ref04_Combine_O_k7 F t e0 z) (fun z=>[(0,AL a),(1,AL b),(2,vi p),(7,AL l),(8,AL e),(13,ow 13),(14,ow 14),(15,vi i),(16,ow 16),(17,vi t)]) (fun z=>[(13,AO u),(14,AO q),(16,AO z)]) (fun p0 h=>?_) (fun j2 W=>?_))
       ·obtain ⟨A1,h⟩:=gS h
        refine AW.pN Fm [.s,.s,.s] [(0,AL a),(1,AL b),(2,vi p),(7,AL l),(8,AL e),(13,ow 13),(14,ow 14),(15,vi i),(16,ow 16),(17,vi (t+1))] [(13,AO u),(14,AO q),(16,AO p0)] (cT (cT A1)) ?_
        exact Kn.R Fm (E0 ((t+1),p0) h)
       ·refine AW.block (AW.seq (AW.seq ?_))
        obtain ⟨d1,e1,h⟩:=gS2 h
        obtain ⟨X1,P1,h⟩:=bS h
        obtain ⟨i1,j1,h⟩:=gS2 h
        obtain ⟨Y1,R1,h⟩:=bS h
        obtain ⟨t0,T1,h⟩:=bS h
        refine AW.G Fm [.s,.s,.s,.s,.s,.s,.s,.s,.s,.k (cE [] [] (vb X1) [] []),.s,.s,.s,.s,.s,.s,.s,.s,.s,.k (cE [] [] (vb Y1) [] []),.s,.k (cE [] [] (vb t0) [] []),.s] (fun K=>_∧_∧K 9∧_∧_∧K 19∧K 21∧True) [(0,AL a),(1,AL b),(2,vi p),(7,AL l),(8,AL e),(13,ow 13),(14,ow 14),(15,vi i),(16,ow 16),(17,vi t),(86,vb (!t0))] [(13,AO u),(14,AO q),(16,AO o)] ⟨d1,e1,KAt.CC (ref04_inside_spec P1) Tryz.call110 [],i1,j1,KAt.CC (ref04_inside_spec R1) Tryz.call110 [],KAt.CC (ref04_keep_spec T1) Tryz.call202 [],⟨⟩⟩ ?_
        refine AW.cN h (fun T0 h=>?_) (fun T0 h=>?_)
        ·exact AW.exit (Kn.R Fm (W o h))
        ·refine AW.skip (AW.SG0 Fm 3 [(0,AL a),(1,AL b),(2,vi p),(7,AL l),(8,AL e),(13,ow 13),(14,ow 14),(15,vi i),(16,ow 16),(17,vi t),(18,vi (lI o))] [(13,AO u),(14,AO q),(16,AO o)] ?_)
         refine AW.join (r:=r) (fun z:Bool=>ref04_Combine_O_k6 F l e i t o e0 z) (fun z=>[(0,AL a),(1,AL b),(2,vi p),(7,AL l),(8,AL e),(13,ow 13),(14,ow 14),(15,vi i),(16,ow 16),(17,vi t),(18,vi (lI o)),(103,vb z)]) (fun z=>[(13,AO u),(14,AO q),(16,AO o)]) (fun u2 h=>?_) (fun i2 i0=>?_)
         ·refine AW.cN h (fun U0 h=>?_) (fun U0 h=>?_)
          ·obtain ⟨m1,n1,o1,a0,h⟩:=gS4 h
           refine AW.WP Fm [.s,.s,.s,.s,.s,.s,.s,.s,.s,.s,.s] [(0,AL a),(1,AL b),(2,vi p),(7,AL l),(8,AL e),(13,ow 13),(14,ow 14),(15,vi i),(16,ow 16),(17,vi t)] [(13,AO u),(14,AO q),(16,AO (α:=Rect) (List.set o ((lI o)-1).toNat (⟨(gl o ((lI o)-1).toNat).left_,(gl o ((lI o)-1).toNat).low_,(gl l (t+1).toNat),(gl o ((lI o)-1).toNat).high_⟩ : Rect)))] (cA (cT m1) (cA (cT n1) (cA o1 (cA a0 (cT (toNat_lt a0)))))) [(16,.arr 4 (List.length (α:=Rect) o) (fun j=>if j=((lI o)-1).toNat then splice ((LF (α:=Rect) o) ((lI o)-1).toNat) 2 [.int .i64 (gl l (t+1).toNat)] else (LF (α:=Rect) o) j))] ⟨OLe.is (Is.set (Is.refl o) (toNat_lt a0) (⟨(gl o ((lI o)-1).toNat).left_,(gl o ((lI o)-1).toNat).low_,(gl l (t+1).toNat),(gl o ((lI o)-1).toNat).high_⟩ : Rect) (by kernel_rfl)),⟨⟩⟩ ?_
           exact Kn.R Fm (W (List.set o ((lI o)-1).toNat (⟨(gl o ((lI o)-1).toNat).left_,(gl o ((lI o)-1).toNat).low_,(gl l (t+1).toNat),(gl o ((lI o)-1).toNat).high_⟩ : Rect)) h)
          ·obtain ⟨p1,q1,s1,t1,h⟩:=gS4 h
           obtain ⟨u1,w1,y1,h⟩:=gS3 h
           refine AW.WP Fm [.s,.s,.s,.s,.s,.s,.s,.s,.s,.s,.s,.s,.s,.s,.s,.s,.s,.s,.s,.s,.w (AL (α:=Rect) ([(⟨(gl l t.toNat),(gl e i.toNat),(gl l (t+1).toNat),(gl e (i+1).toNat)⟩ : Rect)]:List Rect)),.s,.s] [(0,AL a),(1,AL b),(2,vi p),(7,AL l),(8,AL e),(13,ow 13),(14,ow 14),(15,vi i),(16,ow 135),(17,vi t)] [(13,AO u),(14,AO q),(135,AO (α:=Rect) (o++([(⟨(gl l t.toNat),(gl e i.toNat),(gl l (t+1).toNat),(gl e (i+1).toNat)⟩ : Rect)]:List Rect)))] (cA p1 (cA q1 (cA (cT s1) (cA t1 (cA (cT u1) (cA w1 (cA (ALe.lst (.lit ([(⟨(gl l t.toNat),(gl e i.toNat),(gl l (t+1).toNat),(gl e (i+1).toNat)⟩ : Rect)]:List Rect) (by kernel_rfl)):ALe (.v (.c (.d (.lst 1 (litF 4 [.int .i64 (gl l t.toNat),.int .i64 (gl e i.toNat),.int .i64 (gl l (t+1).toNat),.int .i64 (gl e (i+1).toNat)]))))) (AL (α:=Rect) ([(⟨(gl l t.toNat),(gl e i.toNat),(gl l (t+1).toNat),(gl e (i+1).toNat)⟩ : Rect)]:List Rect))) (cT (cA y1 (cT (Is.refl ([(⟨(gl l t.toNat),(gl e i.toNat),(gl l (t+1).toNat),(gl e (i+1).toNat)⟩ : Rect)]:List Rect):Is (List.length (α:=Rect) ([(⟨(gl l t.toNat),(gl e i.toNat),(gl l (t+1).toNat),(gl e (i+1).toNat)⟩ : Rect)]:List Rect)) (LF (α:=Rect) ([(⟨(gl l t.toNat),(gl e i.toNat),(gl l (t+1).toNat),(gl e (i+1).toNat)⟩ : Rect)]:List Rect)) ([(⟨(gl l t.toNat),(gl e i.toNat),(gl l (t+1).toNat),(gl e (i+1).toNat)⟩ : Rect)]:List Rect)).len)))))))))) [(135,.arr 4 ((List.length (α:=Rect) o)+(List.length (α:=Rect) ([(⟨(gl l t.toNat),(gl e i.toNat),(gl l (t+1).toNat),(gl e (i+1).toNat)⟩ : Rect)]:List Rect))) (appF (List.length (α:=Rect) o) (LF (α:=Rect) o) (LF (α:=Rect) ([(⟨(gl l t.toNat),(gl e i.toNat),(gl l (t+1).toNat),(gl e (i+1).toNat)⟩ : Rect)]:List Rect))))] ⟨OLe.is (Is.app (Is.refl o) (Is.refl ([(⟨(gl l t.toNat),(gl e i.toNat),(gl l (t+1).toNat),(gl e (i+1).toNat)⟩ : Rect)]:List Rect))),⟨⟩⟩ ?_
           exact Kn.RE Fm [(16,135)] (W (o++([(⟨(gl l t.toNat),(gl e i.toNat),(gl l (t+1).toNat),(gl e (i+1).toNat)⟩ : Rect)]:List Rect)) h)
         ·rcases br_or h with ⟨Y,h⟩|⟨Y,h⟩
          ·obtain ⟨k1,k0,l1,h⟩:=gS3 h
           refine AW.pN Fm [.s,.s,.w (vb true),.s,.s,.s,.s,.s,.s,.s,.s,.s,.s,.s,.s] [(0,AL a),(1,AL b),(2,vi p),(7,AL l),(8,AL e),(13,ow 13),(14,ow 14),(15,vi i),(16,ow 16),(17,vi t),(18,vi (lI o)),(92,ow 16),(93,vi (lI o)),(94,vi ((lI o)-1)),(95,.v (.c (.pte 16 4 (((lI o)-1).toNat) 0))),(96,.v (.c (.pte 16 4 (((lI o)-1).toNat) 2))),(97,vi (gl o ((lI o)-1).toNat).right_),(98,AL l),(99,vi t),(100,.v (.c (.elm [.int .i64 (gl l t.toNat)]))),(101,vi (gl l t.toNat)),(102,vb (((gl o ((lI o)-1).toNat).right_)==(gl l t.toNat))),(103,vb (((gl o ((lI o)-1).toNat).right_)==(gl l t.toNat)))] [(13,AO u),(14,AO q),(16,AO o)] (cA (ALe.bool Y) (cA (cT k1) (cA k0 (cA (toNat_lt k0) (cT l1))))) ?_
           exact Kn.R Fm (i0 (((gl o ((lI o)-1).toNat).right_)==(gl l t.toNat)) h)
          ·refine AW.pN Fm [.s,.s,.w (vb false),.s,.s,.s,.s,.s,.s,.s,.s,.s,.s,.s,.s] [(0,AL a),(1,AL b),(2,vi p),(7,AL l),(8,AL e),(13,ow 13),(14,ow 14),(15,vi i),(16,ow 16),(17,vi t),(18,vi (lI o)),(103,vb false)] [(13,AO u),(14,AO q),(16,AO o)] (cT (ALe.bool Y)) ?_
           exact Kn.R Fm (i0 false h)
      ·exact AW.exit (Kn.R Fm (H0 o h))
   ·exact AW.exit (Kn.R Fm (M0 (u,q) h))
 ·refine AW.SP Fm [.s,.s,.w (AL (α:=(List Rect)) ([a,b]:List (List Rect))),.s,.s] [(0,AL a),(1,AL b),(2,vi p),(7,ow 7),(8,ow 8),(22,AL (α:=(List Rect)) ([a,b]:List (List Rect))),(23,vi ((List.length ([a,b]:List (List Rect)):Nat):Int)),(24,vi 0)] [(7,AO (α:=Int) ([]:List Int)),(8,AO (α:=Int) ([]:List Int))] (cT (ALe.lst (.lit ([a,b]:List (List Rect)) (by kernel_rfl)):ALe (.v (.c (.d (.lst 2 (litF 1 [DL a,DL b]))))) (AL (α:=(List Rect)) ([a,b]:List (List Rect))))) ?_
  refine AW.block (Kn.r Fm [(0,AL a),(1,AL b),(2,vi p),(7,ow 7),(8,ow 8),(22,AL (α:=(List Rect)) ([a,b]:List (List Rect))),(23,vi ((List.length ([a,b]:List (List Rect)):Nat):Int)),(24,vi 0)] [(7,AO (α:=Int) ([]:List Int)),(8,AO (α:=Int) ([]:List Int))] (by kernel_rfl) ?_)
  refine Kn.frz [(0,AL a),(1,AL b),(2,vi p),(7,AL (α:=Int) ([]:List Int)),(8,ow 8),(22,AL (α:=(List Rect)) ([a,b]:List (List Rect))),(23,vi ((List.length ([a,b]:List (List Rect)):Nat):Int)),(24,vi 0)] [(8,AO (α:=Int) ([]:List Int))] (by kernel_rfl) (by kernel_rfl) (by kernel_rfl) ?_
  refine Kn.r Fm [(0,AL a),(1,AL b),(2,vi p),(7,AL (α:=Int) ([]:List Int)),(8,ow 8),(22,AL (α:=(List Rect)) ([a,b]:List (List Rect))),(23,vi ((List.length ([a,b]:List (List Rect)):Nat):Int)),(24,vi 0)] [(8,AO (α:=Int) ([]:List Int))] (by kernel_rfl) ?_
  refine Kn.frz [(0,AL a),(1,AL b),(2,vi p),(7,AL (α:=Int) ([]:List Int)),(8,AL (α:=Int) ([]:List Int)),(22,AL (α:=(List Rect)) ([a,b]:List (List Rect))),(23,vi ((List.length ([a,b]:List (List Rect)):Nat):Int)),(24,vi 0)] [] (by kernel_rfl) (by kernel_rfl) (by kernel_rfl) ?_
  refine Kn.r Fm [(0,AL a),(1,AL b),(2,vi p),(7,AL ([]:List Int)),(8,AL ([]:List Int)),(22,AL (α:=(List Rect)) ([a,b]:List (List Rect))),(23,vi ((List.length ([a,b]:List (List Rect)):Nat):Int)),(24,vi 0)] [] (by kernel_rfl) ?_
  refine AW.loopF (E' := fun z=>[(0,AL a),(1,AL b),(2,vi p),(7,AL z.1),(8,AL z.2.1),(22,AL (α:=(List Rect)) ([a,b]:List (List Rect))),(23,vi ((List.length ([a,b]:List (List Rect)):Nat):Int)),(24,vi z.2.2)]) (S' := fun z=>[]) (fun u0 z Z1 w0 h=>?_) h
  obtain ⟨N,P,y⟩:=z
  refine AW.SG0 Fm 1 [(0,AL a),(1,AL b),(2,vi p),(7,AL N),(8,AL P),(22,AL (α:=(List Rect)) ([a,b]:List (List Rect))),(23,vi ((List.length ([a,b]:List (List Rect)):Nat):Int)),(24,vi y),(25,vb (decide (y<((List.length ([a,b]:List (List Rect)):Nat):Int))))] [] ?_
  refine AW.seq (AW.cN h (fun N0 h=>?_) (fun N0 h=>?_))
  ·refine AW.skip (AW.join (r:=r) (fun z:(List Int)×(List Int)=>ref04_Combine_O_k2 F y u0 z.1 z.2) (fun z=>[(0,AL a),(1,AL b),(2,vi p),(7,AL z.1),(8,AL z.2),(22,AL (α:=(List Rect)) ([a,b]:List (List Rect))),(23,vi ((List.length ([a,b]:List (List Rect)):Nat):Int)),(24,vi y)]) (fun z=>[]) (fun z h=>?_) (fun b2 A0=>?_))
   ·obtain ⟨n0,o0⟩:=z
    obtain ⟨a1,h⟩:=gS h
    refine AW.pN Fm [.s,.s] [(0,AL a),(1,AL b),(2,vi p),(7,AL n0),(8,AL o0),(22,AL (α:=(List Rect)) ([a,b]:List (List Rect))),(23,vi ((List.length ([a,b]:List (List Rect)):Nat):Int)),(24,vi (y+1))] [] (cT (cT a1)) ?_
    exact Kn.R Fm (w0 (n0,o0,(y+1)) h)
   ·refine AW.block ?_
    obtain ⟨X0,h⟩:=gS h
    refine AW.SP Fm [.s,.s,.s] [(0,AL a),(1,AL b),(2,vi p),(7,AL N),(8,AL P),(10,AL (α:=Rect) (gl ([a,b]:List (List Rect)) y.toNat)),(22,AL (α:=(List Rect)) ([a,b]:List (List Rect))),(23,vi ((List.length ([a,b]:List (List Rect)):Nat):Int)),(24,vi y)] [] (cT X0) ?_
    refine AW.SG0 Fm 3 [(0,AL a),(1,AL b),(2,vi p),(7,AL N),(8,AL P),(22,AL (α:=(List Rect)) ([a,b]:List (List Rect))),(23,vi ((List.length ([a,b]:List (List Rect)):Nat):Int)),(24,vi y),(28,AL (α:=Rect) (gl ([a,b]:List (List Rect)) y.toNat)),(29,vi ((List.length (gl ([a,b]:List (List Rect)) y.toNat):Nat):Int)),(30,vi 0)] [] ?_
    refine AW.block (AW.loopF (E' := fun z=>[(0,AL a),(1,AL b),(2,vi p),(7,AL z.1),(8,AL z.2.1),(22,AL (α:=(List Rect)) ([a,b]:List (List Rect))),(23,vi ((List.length ([a,b]:List (List Rect)):Nat):Int)),(24,vi y),(28,AL (α:=Rect) (gl ([a,b]:List (List Rect)) y.toNat)),(29,vi ((List.length (gl ([a,b]:List (List Rect)) y.toNat):Nat):Int)),(30,vi z.2.2)]) (S' := fun z=>[]) (fun s2 z a2 y0 h=>?_) h)
    obtain ⟨c0,d0,E⟩:=z
    refine AW.SG0 Fm 1 [(0,AL a),(1,AL b),(2,vi p),(7,AL c0),(8,AL d0),(22,AL (α:=(List Rect)) ([a,b]:List (List Rect))),(23,vi ((List.length ([a,b]:List (List Rect)):Nat):Int)),(24,vi y),(28,AL (α:=Rect) (gl ([a,b]:List (List Rect)) y.toNat)),(29,vi ((List.length (gl ([a,b]:List (List Rect)) y.toNat):Nat):Int)),(30,vi E),(31,vb (decide (E<((List.length (gl ([a,b]:List (List Rect)) y.toNat):Nat):Int))))] [] ?_
    refine AW.seq (AW.cN h (fun O0 h=>?_) (fun O0 h=>?_))
    ·refine AW.skip (AW.seq (AW.block ?_))
     obtain ⟨Y0,h⟩:=gS h
     refine AW.SP Fm [.s,.s,.s,.s] [(0,AL a),(1,AL b),(2,vi p),(7,AL c0),(8,AL d0),(12,pt 12),(22,AL (α:=(List Rect)) ([a,b]:List (List Rect))),(23,vi ((List.length ([a,b]:List (List Rect)):Nat):Int)),(24,vi y),(28,AL (α:=Rect) (gl ([a,b]:List (List Rect)) y.toNat)),(29,vi ((List.length (gl ([a,b]:List (List Rect)) y.toNat):Nat):Int)),(30,vi E)] [(12,bx [ci ((gl (gl ([a,b]:List (List Rect)) y.toNat) E.toNat).left_),ci ((gl (gl ([a,b]:List (List Rect)) y.toNat) E.toNat).low_),ci ((gl (gl ([a,b]:List (List Rect)) y.toNat) E.toNat).right_),ci ((gl (gl ([a,b]:List (List Rect)) y.toNat) E.toNat).high_)])] (cT Y0) ?_
     obtain ⟨V1,L1,h⟩:=bS h
     obtain ⟨T,M1,h⟩:=bS h
     obtain ⟨W1,N1,h⟩:=bS h
     obtain ⟨U,O1,h⟩:=bS h
     refine AW.G Fm [.s,.s,.s,.k (cE [] [] (AL V1) [] []),.s,.s,.k (cE [] [] (AL T) [] []),.s,.s,.s,.k (cE [] [] (AL W1) [] []),.s,.s,.k (cE [] [] (AL U) [] []),.s,.s] (fun K=>K 3∧K 6∧K 10∧K 13∧True) [(0,AL a),(1,AL b),(2,vi p),(7,AL T),(8,AL U),(22,AL (α:=(List Rect)) ([a,b]:List (List Rect))),(23,vi ((List.length ([a,b]:List (List Rect)):Nat):Int)),(24,vi y),(28,AL (α:=Rect) (gl ([a,b]:List (List Rect)) y.toNat)),(29,vi ((List.length (gl ([a,b]:List (List Rect)) y.toNat):Nat):Int)),(30,vi E)] [] ⟨KAt.CC (ref01_Put_spec L1) Tryz.call127 [],KAt.CC (ref01_Put_spec M1) Tryz.call127 [],KAt.CC (ref01_Put_spec N1) Tryz.call127 [],KAt.CC (ref01_Put_spec O1) Tryz.call127 [],⟨⟩⟩ ?_
     obtain ⟨Z0,h⟩:=gS h
     refine AW.pN Fm [.s,.s] [(0,AL a),(1,AL b),(2,vi p),(7,AL T),(8,AL U),(22,AL (α:=(List Rect)) ([a,b]:List (List Rect))),(23,vi ((List.length ([a,b]:List (List Rect)):Nat):Int)),(24,vi y),(28,AL (α:=Rect) (gl ([a,b]:List (List Rect)) y.toNat)),(29,vi ((List.length (gl ([a,b]:List (List Rect)) y.toNat):Nat):Int)),(30,vi (E+1))] [] (cT (cT Z0)) ?_
     exact Kn.R Fm (y0 (T,U,(E+1)) h)
    ·exact AW.exit (Kn.R Fm (A0 (c0,d0) h))
  ·exact AW.exit (Kn.R Fm (B0 (N,P) h))
theorem ref04_Bound_O_spec {F:Nat} {a:(List Rect)} {r:Region×Int} (h:ref04_Bound_O F a=some r) :
  FSpec Tryz.prog 118 [ow 0] [(0,AO a)] (.t [.g [.own 100],.c (ci r.2)]) [(100,AO (α:=Rect) r.1.rects_)]:=by
 refine FI Tryz.func118 prog_mixed prog_lay fun C Fm=>?_
 unfold ref04_Bound_O at h
 refine AW.SG0 Fm 2 [(0,ow 0),(2,pt 2)] [(0,AO a),(2,bx [.fl 0 fun _=>[]])] ?_
 refine AW.seq (AW.SG0 Fm 3 [(0,ow 0),(2,pt 2),(6,vb (decide ((120:Int)<(lI a))))] [(0,AO a),(2,bx [.fl 0 fun _=>[]])] ?_)
 refine AW.cN h (fun b h=>?_) (fun b h=>?_)
 ·refine AW.SG0 Fm 3 [(2,pt 2),(3,vi 1)] [(0,AO a),(2,bx [.fl 0 fun _=>[]])] ?_
  refine AW.ret ?_
  obtain rfl:=Option.some.inj h
  refine Kn.r Fm [(2,pt 2),(3,vi 1)] [(2,bx [.fl 0 fun _=>[]]),(0,AO a)] (by kernel_rfl) ?_
  refine Kn.own0 Fm (i:=2) (k:=900) (es:=4) (j:=0) (f' := LF (α:=Rect) []) (by kernel_rfl) (by kernel_rfl) (by decide) rfl ?_
  refine Kn.r Fm [(2,pt 2),(3,vi 1)] [(0,AO a),(2,bx [.own 900]),(900,AO (α:=Rect) ([]:List Rect))] (by kernel_rfl) ?_
  exact Kn.re Fm [(100,900)] [(2,pt 2),(3,vi 1)] [(2,bx [.own 100]),(100,AO (α:=Rect) ([]:List Rect))] (by kernel_rfl) (by kernel_rfl) (by kernel_rfl) (by kernel_rfl) (Kn.dn Fm (by kernel_rfl))
 ·refine AW.skip (AW.SG0 Fm 4 [(2,pt 2),(3,vi 0)] [(0,AO a),(2,bx [.own 0])] ?_)
  refine AW.ret ?_
  obtain rfl:=Option.some.inj h
  exact Kn.re Fm [(100,0)] [(2,pt 2),(3,vi 0)] [(2,bx [.own 100]),(100,AO a)] (by kernel_rfl) (by kernel_rfl) (by kernel_rfl) (by kernel_rfl) (Kn.dn Fm (by kernel_rfl))
theorem ref04_Of_O_spec {F:Nat} {a:(List Rect)} {r:Region×Int} (h:ref04_Of_O F a=some r) :
  FSpec Tryz.prog 93 [AL a] [] (.t [.g [.own 100],.c (ci r.2)]) [(100,AO (α:=Rect) r.1.rects_)]:=by
 refine FI Tryz.func93 prog_mixed prog_lay fun C Fm=>?_
 unfold ref04_Of_O at h
 refine AW.SG0 Fm 2 [(0,AL a),(2,pt 2)] [(2,bx [.fl 0 fun _=>[]])] ?_
 refine AW.seq (AW.SG0 Fm 3 [(0,AL a),(2,pt 2),(8,vb (decide ((120:Int)<(lI a))))] [(2,bx [.fl 0 fun _=>[]])] ?_)
 refine AW.cN h (fun o h=>?_) (fun o h=>?_)
 ·refine AW.SG0 Fm 3 [(2,pt 2),(3,vi 1)] [(2,bx [.fl 0 fun _=>[]])] ?_
  refine AW.ret ?_
  obtain rfl:=Option.some.inj h
  refine Kn.r Fm [(2,pt 2),(3,vi 1)] [(2,bx [.fl 0 fun _=>[]])] (by kernel_rfl) ?_
  refine Kn.own0 Fm (i:=2) (k:=900) (es:=4) (j:=0) (f' := LF (α:=Rect) []) (by kernel_rfl) (by kernel_rfl) (by decide) rfl ?_
  refine Kn.r Fm [(2,pt 2),(3,vi 1)] [(2,bx [.own 900]),(900,AO (α:=Rect) ([]:List Rect))] (by kernel_rfl) ?_
  exact Kn.re Fm [(100,900)] [(2,pt 2),(3,vi 1)] [(2,bx [.own 100]),(100,AO (α:=Rect) ([]:List Rect))] (by kernel_rfl) (by kernel_rfl) (by kernel_rfl) (by kernel_rfl) (Kn.dn Fm (by kernel_rfl))
 ·refine AW.skip (AW.join (r:=r) (fun z:Unit=>ref04_Of_O_k1 F a) (fun z=>[(0,AL a),(2,pt 2)]) (fun z=>[(2,bx [.fl 0 fun _=>[]])]) (fun z h=>?_) (fun H n=>?_))
  ·refine AW.seq ?_
   obtain ⟨l,B,h⟩:=bS h
   obtain ⟨d,D,h⟩:=bS h
   refine AW.G Fm [.s,.k (cE [(100,22)] [] (ow 100) [] [(100,AO l)]),.k (cE [(0,22),(100,23)] [] (.t [.g [.own 100],.c (ci d.2)]) [(0,AO l)] [(100,AO d.1.rects_)]),.s,.s,.s,.s] (fun K=>K 1∧K 2∧True) [(2,pt 2),(3,vi d.2)] [(2,bx [.own 23]),(23,AO d.1.rects_)] ⟨KAt.callX (ref04_Combine_O_spec B) Tryz.call112 [(100,22)] [] [.tmp 21,.const (.slice none 0 0),.const (.int .i64 1)] rfl (by kernel_rfl) (by kernel_rfl) (by kernel_rfl) ⟨.p,ArgT.plain (by kernel_rfl) (ALe.c (CLe.fl .nil)) (by kernel_rfl),.p,⟨⟩⟩,KAt.CC (ref04_Bound_O_spec D) Tryz.call118 [(0,22),(100,23)],⟨⟩⟩ ?_
   refine AW.ret ?_
   obtain rfl:=Option.some.inj h
   exact Kn.re Fm [(100,23)] [(2,pt 2),(3,vi d.2)] [(2,bx [.own 100]),(100,AO d.1.rects_)] (by kernel_rfl) (by kernel_rfl) (by kernel_rfl) (by kernel_rfl) (Kn.dn Fm (by kernel_rfl))
  ·refine AW.SG0 Fm 3 [(0,AL a),(2,pt 2),(10,AL a),(11,vi (lI a)),(12,vi 0)] [(2,bx [.fl 0 fun _=>[]])] ?_
   refine AW.block (AW.loopF (E' := fun z=>[(0,AL a),(2,pt 2),(10,AL a),(11,vi (lI a)),(12,vi z)]) (S' := fun z=>[(2,bx [.fl 0 fun _=>[]])]) (fun I b E m h=>?_) h)
   refine AW.SG0 Fm 1 [(0,AL a),(2,pt 2),(10,AL a),(11,vi (lI a)),(12,vi b),(13,vb (decide (b<(lI a))))] [(2,bx [.fl 0 fun _=>[]])] ?_
   refine AW.seq (AW.cN h (fun q h=>?_) (fun q h=>?_))
   ·refine AW.skip (AW.seq (AW.block ?_))
    obtain ⟨w,h⟩:=gS h
    refine AW.SP Fm [.s,.s,.s,.s] [(0,AL a),(2,pt 2),(5,pt 5),(10,AL a),(11,vi (lI a)),(12,vi b)] [(2,bx [.fl 0 fun _=>[]]),(5,bx [ci ((gl a b.toNat).left_),ci ((gl a b.toNat).low_),ci ((gl a b.toNat).right_),ci ((gl a b.toNat).high_)])] (cT w) ?_
    refine AW.seq ?_
    obtain ⟨e,A,h⟩:=bS h
    refine AW.G Fm [.s,.k (cE [] [] (vb e) [] []),.s] (fun K=>K 1∧True) [(0,AL a),(2,pt 2),(10,AL a),(11,vi (lI a)),(12,vi b),(18,vb (!e))] [(2,bx [.fl 0 fun _=>[]])] ⟨KAt.CC (ref04_proper_spec A) Tryz.call181 [],⟨⟩⟩ ?_
    refine AW.cN h (fun u h=>?_) (fun u h=>?_)
    ·refine AW.SG0 Fm 3 [(2,pt 2),(3,vi 2)] [(2,bx [.fl 0 fun _=>[]])] ?_
     refine AW.ret ?_
     obtain rfl:=Option.some.inj h
     refine Kn.r Fm [(2,pt 2),(3,vi 2)] [(2,bx [.fl 0 fun _=>[]])] (by kernel_rfl) ?_
     refine Kn.own0 Fm (i:=2) (k:=900) (es:=4) (j:=0) (f' := LF (α:=Rect) []) (by kernel_rfl) (by kernel_rfl) (by decide) rfl ?_
     refine Kn.r Fm [(2,pt 2),(3,vi 2)] [(2,bx [.own 900]),(900,AO (α:=Rect) ([]:List Rect))] (by kernel_rfl) ?_
     exact Kn.re Fm [(100,900)] [(2,pt 2),(3,vi 2)] [(2,bx [.own 100]),(100,AO (α:=Rect) ([]:List Rect))] (by kernel_rfl) (by kernel_rfl) (by kernel_rfl) (by kernel_rfl) (Kn.dn Fm (by kernel_rfl))
    ·refine AW.skip ?_
     obtain ⟨y,h⟩:=gS h
     refine AW.pN Fm [.s,.s] [(0,AL a),(2,pt 2),(10,AL a),(11,vi (lI a)),(12,vi (b+1))] [(2,bx [.fl 0 fun _=>[]])] (cT (cT y)) ?_
     exact Kn.R Fm (m (b+1) h)
   ·exact AW.exit (Kn.R Fm (n () h))
theorem keep_Tape_Region_O_spec {F:Nat} {o:Tape} {b:Int} {y:Int} {r:Tape×Region} (h:keep_Tape_Region_O F o b y=some r) :
  FSpec Tryz.prog 16 [pt 0,vi b,vi y] [(0,bx (gC o))] (.v (.g [.own 100])) [(0,bx (gC r.1)),(100,AO (α:=Rect) r.2.rects_)]:=by
 refine FI Tryz.func16 prog_mixed prog_lay fun C Fm=>?_
 unfold keep_Tape_Region_O at h
 refine AW.SG0 Fm 1 [(0,pt 0),(1,vi b),(2,vi y),(6,pt 6)] [(0,bx (gC o)),(6,bx [.fl 0 fun _=>[]])] ?_
 refine AW.SW Fm [.m] (fun K=>True) [(0,pt 0),(1,vi b),(2,vi y),(6,pt 6),(7,ow 7)] [(0,bx (gC o)),(6,bx [.fl 0 fun _=>[]]),(7,AO (α:=Rect) ([]:List Rect))] True.intro [(7,.arr 4 (0) (fun _=>[]))] ⟨OLe.is ((Is.nil (α:=Rect))),⟨⟩⟩ ?_
 refine AW.join (r:=r) (fun z:(List Rect)×(List Int)×Int=>keep_Tape_Region_O_k1 F z.1 z.2.1 z.2.2) (fun z=>[(6,pt 6),(7,ow 7)]) (fun z=>[(0,bx [.d (DL z.2.1),ci z.2.2]),(6,bx [.fl 0 fun _=>[]]),(7,AO z.1)]) (fun z h=>?_) (fun U D=>?_)
 ·obtain ⟨A,l,n⟩:=z
  refine AW.seq (Kn.r Fm [(6,pt 6),(7,ow 7)] [(7,AO A),(0,bx [.d (DL l),ci n]),(6,bx [.fl 0 fun _=>[]])] (by kernel_rfl) ?_)
  refine Kn.frz [(6,pt 6),(7,AL A)] [(0,bx [.d (DL l),ci n]),(6,bx [.fl 0 fun _=>[]])] (by kernel_rfl) (by kernel_rfl) (by kernel_rfl) ?_
  obtain ⟨p,P,h⟩:=bS h
  refine AW.G Fm [.s,.k (cE [(100,27)] [] (.t [.g [.own 100],.c (ci p.2)]) [] [(100,AO p.1.rects_)]),.s,.s,.s,.s,.s,.s] (fun K=>K 1∧True) [(6,pt 6),(9,pt 9)] [(0,bx [.d (DL l),ci n]),(6,bx [.fl 0 fun _=>[]]),(9,bx [.own 27]),(27,AO p.1.rects_)] ⟨KAt.CC (ref04_Of_O_spec P) Tryz.call93 [(100,27)],⟨⟩⟩ ?_
  refine AW.SG0 Fm 2 [(6,pt 6)] [(0,bx [.d (DL l),ci n]),(6,bx [.own 27]),(27,AO p.1.rects_)] ?_
  refine AW.ret ?_
  obtain rfl:=Option.some.inj h
  exact Kn.re Fm [(100,27)] [(6,pt 6)] [(0,bx [.d (DL l),ci n]),(6,bx [.own 100]),(100,AO p.1.rects_)] (by kernel_rfl) (by kernel_rfl) (by kernel_rfl) (by kernel_rfl) (Kn.dn Fm (by kernel_rfl))
 ·refine AW.seq ?_
  obtain ⟨H,h⟩:=gS h
  obtain ⟨i,M,h⟩:=bS h
  refine AW.G Fm [.s,.s,.s,.k (cE [(0,0)] [] (vi i.2) [(0,bx (gC o))] [(0,bx (gC i.1))]),.s] (fun K=>(_∧True)∧K 3∧True) [(0,pt 0),(1,vi b),(6,pt 6),(7,ow 7),(8,vi i.2)] [(0,bx (gC i.1)),(6,bx [.fl 0 fun _=>[]]),(7,AO (α:=Rect) ([]:List Rect))] ⟨⟨H,⟨⟩⟩,KAt.CC (keep_Tape_Next_spec M) Tryz.call15 [(0,0)],⟨⟩⟩ ?_
  refine AW.block (Kn.r Fm [(0,pt 0),(1,vi b),(6,pt 6),(7,ow 7),(8,vi i.2)] [(0,bx [.d (DL i.1.l_),ci i.1.at_]),(6,bx [.fl 0 fun _=>[]]),(7,AO ([]:List Rect))] (by kernel_rfl) ?_)
  refine AW.loopF (E' := fun z=>[(0,pt 0),(1,vi b),(6,pt 6),(7,ow 7),(8,vi z.1)]) (S' := fun z=>[(0,bx [.d (DL z.2.1),ci z.2.2.1]),(6,bx [.fl 0 fun _=>[]]),(7,AO z.2.2.2)]) (fun V z T B h=>?_) h
  obtain ⟨j,q,u,e⟩:=z
  refine AW.seq (AW.SG0 Fm 2 [(0,pt 0),(1,vi b),(6,pt 6),(7,ow 7),(8,vi j),(16,vb (decide ((0:Int)<j)))] [(0,bx [.d (DL q),ci u]),(6,bx [.fl 0 fun _=>[]]),(7,AO e)] ?_)
  refine AW.cN h (fun E h=>?_) (fun E h=>?_)
  ·refine AW.skip (AW.seq (AW.block ?_))
   obtain ⟨a,N,h⟩:=bS h
   obtain ⟨I,h⟩:=gS h
   refine AW.GW Fm [.s,.s,.s,.k (cE [(0,0)] [] (gE a.2) [(0,bx [.d (DL (α:=Int) (⟨q,u⟩ : Tape).l_),ci ((⟨q,u⟩ : Tape).at_)])] [(0,bx (gC a.1))]),.w (AL (α:=Rect) ([a.2]:List Rect)),.s,.s] (fun K=>K 3∧(ALe (.v (.c (.d (.lst 1 (litF 4 [.int .i64 a.2.left_,.int .i64 a.2.low_,.int .i64 a.2.right_,.int .i64 a.2.high_]))))) (AL (α:=Rect) ([a.2]:List Rect)))∧(_∧_∧True)∧True) [(0,pt 0),(1,vi b),(6,pt 6),(7,ow 24),(8,vi j)] [(0,bx (gC a.1)),(6,bx [.fl 0 fun _=>[]]),(24,AO (α:=Rect) (e++([a.2]:List Rect)))] ⟨KAt.CC (keep_Tape_Rect_spec N) Tryz.call92 [(0,0)],ALe.lst (.lit ([a.2]:List Rect) (by kernel_rfl)),⟨I,(Is.refl ([a.2]:List Rect):Is (List.length (α:=Rect) ([a.2]:List Rect)) (LF (α:=Rect) ([a.2]:List Rect)) ([a.2]:List Rect)).len,⟨⟩⟩,⟨⟩⟩ [(24,.arr 4 ((List.length (α:=Rect) e)+(List.length (α:=Rect) ([a.2]:List Rect))) (appF (List.length (α:=Rect) e) (LF (α:=Rect) e) (LF (α:=Rect) ([a.2]:List Rect))))] ⟨OLe.is (Is.app (Is.refl e) (Is.refl ([a.2]:List Rect))),⟨⟩⟩ ?_
   obtain ⟨L,h⟩:=gS h
   refine AW.pN Fm [.s,.s,.s] [(0,pt 0),(1,vi b),(6,pt 6),(7,ow 24),(8,vi (j-1))] [(0,bx (gC a.1)),(6,bx [.fl 0 fun _=>[]]),(24,AO (α:=Rect) (e++([a.2]:List Rect)))] (cT (cT L)) ?_
   exact Kn.RE Fm [(7,24)] (B ((j-1),a.1.l_,a.1.at_,(e++([a.2]:List Rect))) h)
  ·exact AW.exit (Kn.R Fm (D (e,q,u) h))
theorem keep_Tape_Land_O_spec {F:Nat} {e:Tape} {c:Int} {i:Int} {r:Tape×Region} (h:keep_Tape_Land_O F e c i=some r) :
  FSpec Tryz.prog 129 [pt 0,vi c,vi i] [(0,bx (gC e))] (.v (.g [.own 100])) [(0,bx (gC r.1)),(100,AO (α:=Rect) r.2.rects_)]:=by
 refine FI Tryz.func129 prog_mixed prog_lay fun C Fm=>?_
 unfold keep_Tape_Land_O at h
 refine AW.SG0 Fm 1 [(0,pt 0),(1,vi c),(2,vi i),(6,pt 6)] [(0,bx (gC e)),(6,bx [.fl 0 fun _=>[]])] ?_
 refine AW.seq ?_
 obtain ⟨b,q,h⟩:=bS h
 refine AW.G Fm [.s,.s,.s,.k (cE [(0,0),(100,11)] [] (.v (.g [.own 100])) [(0,bx (gC e))] [(0,bx (gC b.1)),(100,AO b.2.rects_)]),.s,.s] (fun K=>K 3∧True) [(0,pt 0),(1,vi c),(6,pt 6),(7,pt 7)] [(0,bx (gC b.1)),(6,bx [.fl 0 fun _=>[]]),(7,bx [.own 11]),(11,AO b.2.rects_)] ⟨KAt.CC (keep_Tape_Region_O_spec q) Tryz.call16 [(0,0),(100,11)],⟨⟩⟩ ?_
 refine AW.join (r:=r) (fun z:(List Int)×Int×(List Rect)=>keep_Tape_Land_O_k0 F z.1 z.2.1 z.2.2) (fun z=>[(6,pt 6),(7,pt 7)]) (fun z=>[(0,bx [.d (DL z.1),ci z.2.1]),(6,bx [.fl 0 fun _=>[]]),(7,bx [.own 19]),(19,AO z.2.2)]) (fun z h=>?_) (fun u j=>?_)
 ·obtain ⟨l,n,o⟩:=z
  refine AW.SG0 Fm 2 [(6,pt 6)] [(0,bx [.d (DL l),ci n]),(6,bx [.own 19]),(19,AO o)] ?_
  refine AW.ret ?_
  obtain rfl:=Option.some.inj h
  exact Kn.re Fm [(100,19)] [(6,pt 6)] [(0,bx [.d (DL l),ci n]),(6,bx [.own 100]),(100,AO o)] (by kernel_rfl) (by kernel_rfl) (by kernel_rfl) (by kernel_rfl) (Kn.dn Fm (by kernel_rfl))
 ·refine AW.SG0 Fm 4 [(0,pt 0),(1,vi c),(6,pt 6),(7,pt 7),(15,vb ((lI b.2.rects_)==(0:Int)))] [(0,bx (gC b.1)),(6,bx [.fl 0 fun _=>[]]),(7,bx [.own 11]),(11,AO b.2.rects_)] ?_
  refine AW.cN h (fun p h=>?_) (fun p h=>?_)
  ·obtain ⟨a,t,h⟩:=bS h
   refine AW.GW Fm [.s,.s,.k (cE [(0,0)] [] (gE a.2) [(0,bx (gC b.1))] [(0,bx (gC a.1))]),.m,.s,.s] (fun K=>K 2∧True) [(6,pt 6),(7,pt 7)] [(0,bx (gC a.1)),(6,bx [.fl 0 fun _=>[]]),(7,bx [.own 19]),(19,AO (α:=Rect) ([a.2]:List Rect))] ⟨KAt.CC (keep_Tape_Rect_spec t) Tryz.call92 [(0,0)],⟨⟩⟩ [(19,.arr 4 (1) (litF 4 [.int .i64 a.2.left_,.int .i64 a.2.low_,.int .i64 a.2.right_,.int .i64 a.2.high_]))] ⟨OLe.is (Is.lit ([a.2]:List Rect) (by kernel_rfl)),⟨⟩⟩ ?_
   exact Kn.R Fm (j (a.1.l_,a.1.at_,([a.2]:List Rect)) h)
  ·exact AW.skip (Kn.RE Fm [(19,11)] (j (b.1.l_,b.1.at_,b.2.rects_) h))
theorem keep_Tape_Lines_spec {F:Nat} {T:Tape} {l:(List Crop)} {I:Int} {r:Tape×(List Line)×(List Int)×(List Region)} (h:keep_Tape_Lines F T l I=some r) :
  FSpec Tryz.prog 79 [pt 0,AL l,vi I] [(0,bx (gC T))] (.t [.c (.d (DL (α:=Line) r.2.1)),.c (.d (DL (α:=Int) r.2.2.1)),.c (.d (DL (α:=Region) r.2.2.2))]) [(0,bx (gC r.1))]:=by
 refine FI Tryz.func79 prog_mixed prog_lay fun C Fm=>?_
 unfold keep_Tape_Lines at h
 refine AW.SG0 Fm 3 [(0,pt 0),(1,AL l),(2,vi I)] [(0,bx (gC T))] ?_
 refine AW.SW Fm [.m] (fun K=>True) [(0,pt 0),(1,AL l),(2,vi I),(9,ow 9)] [(0,bx (gC T)),(9,AO (α:=Int) ([]:List Int))] True.intro [(9,.arr 1 (0) (fun _=>[]))] ⟨OLe.is ((Is.nil (α:=Int))),⟨⟩⟩ ?_
 refine AW.SW Fm [.m] (fun K=>True) [(0,pt 0),(1,AL l),(2,vi I),(9,ow 9),(10,ow 10)] [(0,bx (gC T)),(9,AO (α:=Int) ([]:List Int)),(10,AO (α:=Region) ([]:List Region))] True.intro [(10,.arr 1 (0) (fun _=>[]))] ⟨OLe.is ((Is.nil (α:=Region))),⟨⟩⟩ ?_
 refine AW.SW Fm [.m] (fun K=>True) [(0,pt 0),(1,AL l),(2,vi I),(9,ow 9),(10,ow 10),(11,ow 11)] [(0,bx (gC T)),(9,AO (α:=Int) ([]:List Int)),(10,AO (α:=Region) ([]:List Region)),(11,AO (α:=Line) ([]:List Line))] True.intro [(11,.arr 4 (0) (fun _=>[]))] ⟨OLe.is ((Is.nil (α:=Line))),⟨⟩⟩ ?_
 refine AW.join (r:=r) (fun z:(List Int)×Int×(List Int)×(List Region)=>keep_Tape_Lines_k1 F l I z.1 z.2.1 z.2.2.1 z.2.2.2) (fun z=>[(0,pt 0),(1,AL l),(2,vi I),(9,ow 9),(10,ow 10),(11,ow 11)]) (fun z=>[(0,bx [.d (DL z.1),ci z.2.1]),(9,AO z.2.2.1),(10,AO z.2.2.2),(11,AO (α:=Line) ([]:List Line))]) (fun z h=>?_) (fun L1 I0=>?_)
 ·obtain ⟨u0,w0,p,o⟩:=z
  refine AW.join (r:=r) (fun z:(List Line)×(List Int)×Int=>keep_Tape_Lines_k8 F p o z.1 z.2.1 z.2.2) (fun z=>[(9,ow 9),(10,ow 10),(11,ow 11)]) (fun z=>[(0,bx [.d (DL z.2.1),ci z.2.2]),(9,AO p),(10,AO o),(11,AO z.1)]) (fun z h=>?_) (fun I1 G0=>?_)
  ·obtain ⟨N,O,P⟩:=z
   refine AW.SG0 Fm 6 [(6,ow 11),(7,ow 9),(8,ow 10)] [(0,bx [.d (DL O),ci P]),(9,AO p),(10,AO o),(11,AO N)] ?_
   refine AW.ret ?_
   obtain rfl:=Option.some.inj h
   refine Kn.r Fm [(6,ow 11),(7,ow 9),(8,ow 10)] [(11,AO N),(0,bx [.d (DL O),ci P]),(9,AO p),(10,AO o)] (by kernel_rfl) ?_
   refine Kn.frz [(6,AL N),(7,ow 9),(8,ow 10)] [(0,bx [.d (DL O),ci P]),(9,AO p),(10,AO o)] (by kernel_rfl) (by kernel_rfl) (by kernel_rfl) ?_
   refine Kn.r Fm [(6,AL N),(7,ow 9),(8,ow 10)] [(9,AO p),(0,bx [.d (DL O),ci P]),(10,AO o)] (by kernel_rfl) ?_
   refine Kn.frz [(6,AL N),(7,AL p),(8,ow 10)] [(0,bx [.d (DL O),ci P]),(10,AO o)] (by kernel_rfl) (by kernel_rfl) (by kernel_rfl) ?_
   refine Kn.r Fm [(6,AL N),(7,AL p),(8,ow 10)] [(10,AO o),(0,bx [.d (DL O),ci P])] (by kernel_rfl) ?_
   refine Kn.frz [(6,AL N),(7,AL p),(8,AL o)] [(0,bx [.d (DL O),ci P])] (by kernel_rfl) (by kernel_rfl) (by kernel_rfl) ?_
   exact Kn.D Fm
  ·refine AW.seq ?_
   obtain ⟨l1,h⟩:=gS h
   obtain ⟨V,y1,h⟩:=bS h
   refine AW.G Fm [.s,.s,.s,.k (cE [(0,0)] [] (vi V.2) [(0,bx [.d (DL (α:=Int) (⟨u0,w0⟩ : Tape).l_),ci ((⟨u0,w0⟩ : Tape).at_)])] [(0,bx (gC V.1))]),.s] (fun K=>(_∧True)∧K 3∧True) [(0,pt 0),(1,AL l),(9,ow 9),(10,ow 10),(11,ow 11),(14,vi V.2)] [(0,bx (gC V.1)),(9,AO p),(10,AO o),(11,AO (α:=Line) ([]:List Line))] ⟨⟨l1,⟨⟩⟩,KAt.CC (keep_Tape_Next_spec y1) Tryz.call15 [(0,0)],⟨⟩⟩ ?_
   refine AW.block (Kn.r Fm [(0,pt 0),(1,AL l),(9,ow 9),(10,ow 10),(11,ow 11),(14,vi V.2)] [(0,bx [.d (DL V.1.l_),ci V.1.at_]),(9,AO p),(10,AO o),(11,AO ([]:List Line))] (by kernel_rfl) ?_)
   refine AW.loopF (E' := fun z=>[(0,pt 0),(1,AL l),(9,ow 9),(10,ow 10),(11,ow 11),(14,vi z.1)]) (S' := fun z=>[(0,bx [.d (DL z.2.1),ci z.2.2.1]),(9,AO p),(10,AO o),(11,AO z.2.2.2)]) (fun c0 z A1 y0 h=>?_) h
   obtain ⟨u,Z,a0,n⟩:=z
   refine AW.seq (AW.SG0 Fm 2 [(0,pt 0),(1,AL l),(9,ow 9),(10,ow 10),(11,ow 11),(14,vi u),(54,vb (decide ((0:Int)<u)))] [(0,bx [.d (DL Z),ci a0]),(9,AO p),(10,AO o),(11,AO n)] ?_)
   refine AW.cN h (fun K0 h=>?_) (fun K0 h=>?_)
   ·refine AW.skip (AW.join (r:=r) (fun z:(List Int)×Int×(List Line)=>keep_Tape_Lines_k7 F u c0 z.1 z.2.1 z.2.2) (fun z=>[(0,pt 0),(1,AL l),(9,ow 9),(10,ow 10),(11,ow 135),(14,vi u)]) (fun z=>[(0,bx [.d (DL z.1),ci z.2.1]),(9,AO p),(10,AO o),(135,AO z.2.2)]) (fun z h=>?_) (fun H1 k0=>?_))
    ·obtain ⟨q0,s0,t0⟩:=z
     obtain ⟨a1,h⟩:=gS h
     refine AW.pN Fm [.s,.s,.s] [(0,pt 0),(1,AL l),(9,ow 9),(10,ow 10),(11,ow 135),(14,vi (u-1))] [(0,bx [.d (DL q0),ci s0]),(9,AO p),(10,AO o),(135,AO t0)] (cT (cT a1)) ?_
     exact Kn.RE Fm [(11,135)] (y0 ((u-1),q0,s0,t0) h)
    ·refine AW.block (AW.seq ?_)
     obtain ⟨e,m1,h⟩:=bS h
     refine AW.G Fm [.s,.s,.s,.k (cE [(0,0)] [] (vi e.2) [(0,bx [.d (DL (α:=Int) (⟨Z,a0⟩ : Tape).l_),ci ((⟨Z,a0⟩ : Tape).at_)])] [(0,bx (gC e.1))]),.s] (fun K=>K 3∧True) [(0,pt 0),(1,AL l),(9,ow 9),(10,ow 10),(11,ow 11),(14,vi u),(15,vi e.2)] [(0,bx (gC e.1)),(9,AO p),(10,AO o),(11,AO n)] ⟨KAt.CC (keep_Tape_Next_spec m1) Tryz.call15 [(0,0)],⟨⟩⟩ ?_
     refine AW.seq ?_
     obtain ⟨q,n1,h⟩:=bS h
     refine AW.G Fm [.s,.k (cE [(0,0),(100,62)] [] (.v (.g [.own 100])) [(0,bx (gC e.1))] [(0,bx (gC q.1)),(100,AO q.2.rects_)]),.s,.s] (fun K=>K 1∧True) [(0,pt 0),(1,AL l),(9,ow 9),(10,ow 10),(11,ow 11),(14,vi u),(15,vi e.2),(16,pt 16)] [(0,bx (gC q.1)),(9,AO p),(10,AO o),(11,AO n),(16,bx [.own 62]),(62,AO q.2.rects_)] ⟨KAt.CC (keep_Tape_Land_O_spec n1) Tryz.call129 [(0,0),(100,62)],⟨⟩⟩ ?_
     refine AW.join (r:=r) (fun z:(List Rect)=>keep_Tape_Lines_k4 F l o u n e q c0 z) (fun z=>[(0,pt 0),(1,AL l),(9,ow 9),(10,ow 10),(11,ow 11),(14,vi u),(15,vi e.2),(16,pt 16)]) (fun z=>[(0,bx (gC q.1)),(9,AO p),(10,AO o),(11,AO n),(16,bx [.own 62]),(62,AO z)]) (fun p0 h=>?_) (fun D1 B0=>?_)
     ·refine AW.seq (Kn.r Fm [(0,pt 0),(1,AL l),(9,ow 9),(10,ow 10),(11,ow 11),(14,vi u),(15,vi e.2),(16,pt 16)] [(62,AO p0),(0,bx (gC q.1)),(9,AO p),(10,AO o),(11,AO n),(16,bx [.own 62])] (by kernel_rfl) ?_)
      refine Kn.frz [(0,pt 0),(1,AL l),(9,ow 9),(10,ow 10),(11,ow 11),(14,vi u),(15,vi e.2),(16,pt 16)] [(0,bx (gC q.1)),(9,AO p),(10,AO o),(11,AO n),(16,bx [.d (DL p0)])] (by kernel_rfl) (by kernel_rfl) (by kernel_rfl) ?_
      obtain ⟨n0,h⟩:=gS h
      obtain ⟨j0,o1,h⟩:=bS h
      refine AW.G Fm [.s,.s,.s,.s,.s,.s,.s,.k (cE [] [] (AL j0) [] []),.s] (fun K=>_∧_∧K 7∧True) [(0,pt 0),(1,AL l),(9,ow 9),(10,ow 10),(11,ow 11),(14,vi u),(15,vi e.2),(18,AL j0)] [(0,bx (gC q.1)),(9,AO p),(10,AO o),(11,AO n)] ⟨n0,(toNat_lt n0),KAt.CC (ref04_Combine_spec o1) Tryz.call112 [],⟨⟩⟩ ?_
      refine AW.join (r:=r) (fun z:(List Rect)=>keep_Tape_Lines_k6 F l u n e q c0 z) (fun z=>[(0,pt 0),(1,AL l),(9,ow 9),(10,ow 10),(11,ow 11),(14,vi u),(15,vi e.2),(18,AL z)]) (fun z=>[(0,bx (gC q.1)),(9,AO p),(10,AO o),(11,AO n)]) (fun H h=>?_) (fun G1 E0=>?_)
      ·refine AW.SG0 Fm 3 [(0,pt 0),(1,AL l),(9,ow 9),(10,ow 10),(11,ow 11),(14,vi u),(15,vi e.2),(18,AL H),(120,vb (decide ((0:Int)<(lI H))))] [(0,bx (gC q.1)),(9,AO p),(10,AO o),(11,AO n)] ?_
       refine AW.cN h (fun N0 h=>?_) (fun N0 h=>?_)
       ·obtain ⟨X0,h⟩:=gS h
        obtain ⟨E,q1,h⟩:=bS h
        obtain ⟨B,s1,h⟩:=bS h
        obtain ⟨Y0,Z0,h⟩:=gS2 h
        refine AW.GW Fm [.s,.s,.s,.s,.s,.s,.s,.s,.k (cE [(0,0)] [] (vi E.2) [(0,bx (gC q.1))] [(0,bx (gC E.1))]),.s,.k (cE [(0,0)] [] (vi B.2) [(0,bx (gC E.1))] [(0,bx (gC B.1))]),.s,.s,.w (AL (α:=Line) ([(⟨(e.2+1),(⟨H⟩ : Region),E.2,((1:Int)+B.2)⟩ : Line)]:List Line)),.s,.s] (fun K=>(_∧True)∧K 8∧K 10∧(_∧True)∧(ALe (.v (.c (.d (.lst 1 (litF 4 [.int .i64 (e.2+1),DL H,.int .i64 E.2,.int .i64 ((1:Int)+B.2)]))))) (AL (α:=Line) ([(⟨(e.2+1),(⟨H⟩ : Region),E.2,((1:Int)+B.2)⟩ : Line)]:List Line)))∧(_∧_∧True)∧True) [(0,pt 0),(1,AL l),(9,ow 9),(10,ow 10),(11,ow 135),(14,vi u)] [(0,bx (gC B.1)),(9,AO p),(10,AO o),(135,AO (α:=Line) (n++([(⟨(e.2+1),(⟨H⟩ : Region),E.2,((1:Int)+B.2)⟩ : Line)]:List Line)))] ⟨⟨X0,⟨⟩⟩,KAt.CC (keep_Tape_Next_spec q1) Tryz.call15 [(0,0)],KAt.CC (keep_Tape_Next_spec s1) Tryz.call15 [(0,0)],⟨Y0,⟨⟩⟩,ALe.lst (.lit ([(⟨(e.2+1),(⟨H⟩ : Region),E.2,((1:Int)+B.2)⟩ : Line)]:List Line) (by kernel_rfl)),⟨Z0,(Is.refl ([(⟨(e.2+1),(⟨H⟩ : Region),E.2,((1:Int)+B.2)⟩ : Line)]:List Line):Is (List.length (α:=Line) ([(⟨(e.2+1),(⟨H⟩ : Region),E.2,((1:Int)+B.2)⟩ : Line)]:List Line)) (LF (α:=Line) ([(⟨(e.2+1),(⟨H⟩ : Region),E.2,((1:Int)+B.2)⟩ : Line)]:List Line)) ([(⟨(e.2+1),(⟨H⟩ : Region),E.2,((1:Int)+B.2)⟩ : Line)]:List Line)).len,⟨⟩⟩,⟨⟩⟩ [(135,.arr 4 ((List.length (α:=Line) n)+(List.length (α:=Line) ([(⟨(e.2+1),(⟨H⟩ : Region),E.2,((1:Int)+B.2)⟩ : Line)]:List Line))) (appF (List.length (α:=Line) n) (LF (α:=Line) n) (LF (α:=Line) ([(⟨(e.2+1),(⟨H⟩ : Region),E.2,((1:Int)+B.2)⟩ : Line)]:List Line))))] ⟨OLe.is (Is.app (Is.refl n) (Is.refl ([(⟨(e.2+1),(⟨H⟩ : Region),E.2,((1:Int)+B.2)⟩ : Line)]:List Line))),⟨⟩⟩ ?_
        exact Kn.R Fm (k0 (B.1.l_,B.1.at_,(n++([(⟨(e.2+1),(⟨H⟩ : Region),E.2,((1:Int)+B.2)⟩ : Line)]:List Line))) h)
       ·exact AW.skip (Kn.RE Fm [(135,11)] (k0 (q.1.l_,q.1.at_,n) h))
      ·refine AW.SG0 Fm 3 [(0,pt 0),(1,AL l),(9,ow 9),(10,ow 10),(11,ow 11),(14,vi u),(15,vi e.2),(18,AL j0),(106,ow 11),(107,vi (lI n)),(108,vi 0)] [(0,bx (gC q.1)),(9,AO p),(10,AO o),(11,AO n)] ?_
       refine AW.block (AW.loopF (E' := fun z=>[(0,pt 0),(1,AL l),(9,ow 9),(10,ow 10),(11,ow 11),(14,vi u),(15,vi e.2),(18,AL z.1),(106,ow 11),(107,vi (lI n)),(108,vi z.2)]) (S' := fun z=>[(0,bx (gC q.1)),(9,AO p),(10,AO o),(11,AO n)]) (fun O1 z E1 D0 h=>?_) h)
       obtain ⟨i0,L⟩:=z
       refine AW.SG0 Fm 1 [(0,pt 0),(1,AL l),(9,ow 9),(10,ow 10),(11,ow 11),(14,vi u),(15,vi e.2),(18,AL i0),(106,ow 11),(107,vi (lI n)),(108,vi L),(109,vb (decide (L<(lI n))))] [(0,bx (gC q.1)),(9,AO p),(10,AO o),(11,AO n)] ?_
       refine AW.seq (AW.cN h (fun M0 h=>?_) (fun M0 h=>?_))
       ·refine AW.skip (AW.seq (AW.block ?_))
        obtain ⟨o0,h⟩:=gS h
        refine AW.SP Fm [.s,.s,.s,.s] [(0,pt 0),(1,AL l),(9,ow 9),(10,ow 10),(11,ow 11),(14,vi u),(15,vi e.2),(18,AL i0),(20,pt 20),(106,ow 11),(107,vi (lI n)),(108,vi L)] [(0,bx (gC q.1)),(9,AO p),(10,AO o),(11,AO n),(20,bx [ci ((gl n L.toNat).parcel_),.d (DL (α:=Rect) (gl n L.toNat).region_.rects_),ci ((gl n L.toNat).crop_),ci ((gl n L.toNat).schemes_)])] (cA o0 (cT (toNat_lt o0))) ?_
        obtain ⟨b0,p1,h⟩:=bS h
        refine AW.G Fm [.s,.s,.s,.s,.k (cE [] [] (AL b0) [] []),.s] (fun K=>K 4∧True) [(0,pt 0),(1,AL l),(9,ow 9),(10,ow 10),(11,ow 11),(14,vi u),(15,vi e.2),(18,AL b0),(106,ow 11),(107,vi (lI n)),(108,vi L)] [(0,bx (gC q.1)),(9,AO p),(10,AO o),(11,AO n)] ⟨KAt.CC (ref04_Combine_spec p1) Tryz.call112 [],⟨⟩⟩ ?_
        obtain ⟨W0,h⟩:=gS h
        refine AW.pN Fm [.s,.s] [(0,pt 0),(1,AL l),(9,ow 9),(10,ow 10),(11,ow 11),(14,vi u),(15,vi e.2),(18,AL b0),(106,ow 11),(107,vi (lI n)),(108,vi (L+1))] [(0,bx (gC q.1)),(9,AO p),(10,AO o),(11,AO n)] (cT (cT W0)) ?_
        exact Kn.R Fm (D0 (b0,(L+1)) h)
       ·exact AW.exit (Kn.R Fm (E0 i0 h))
     ·refine AW.SG0 Fm 4 [(0,pt 0),(1,AL l),(9,ow 9),(10,ow 10),(11,ow 11),(14,vi u),(15,vi e.2),(16,pt 16),(65,vi (lI q.2.rects_)),(66,vi 0)] [(0,bx (gC q.1)),(9,AO p),(10,AO o),(11,AO n),(16,bx [.own 62]),(62,AO q.2.rects_)] ?_
      refine AW.block (AW.loopF (E' := fun z=>[(0,pt 0),(1,AL l),(9,ow 9),(10,ow 10),(11,ow 11),(14,vi u),(15,vi e.2),(16,pt 16),(65,vi (lI q.2.rects_)),(66,vi z.1)]) (S' := fun z=>[(0,bx (gC q.1)),(9,AO p),(10,AO o),(11,AO n),(16,bx [.own 62]),(62,AO z.2)]) (fun N1 z B1 A0 h=>?_) h)
      obtain ⟨a,b⟩:=z
      refine AW.SG0 Fm 1 [(0,pt 0),(1,AL l),(9,ow 9),(10,ow 10),(11,ow 11),(14,vi u),(15,vi e.2),(16,pt 16),(65,vi (lI q.2.rects_)),(66,vi a),(67,vb (decide (a<(lI q.2.rects_))))] [(0,bx (gC q.1)),(9,AO p),(10,AO o),(11,AO n),(16,bx [.own 62]),(62,AO b)] ?_
      refine AW.seq (AW.cN h (fun L0 h=>?_) (fun L0 h=>?_))
      ·refine AW.skip (AW.seq (AW.block (AW.SG0 Fm 2 [(0,pt 0),(1,AL l),(9,ow 9),(10,ow 10),(11,ow 11),(14,vi u),(15,vi e.2),(16,pt 16),(17,vi a),(65,vi (lI q.2.rects_)),(66,vi a)] [(0,bx (gC q.1)),(9,AO p),(10,AO o),(11,AO n),(16,bx [.own 62]),(62,AO b)] ?_)))
       obtain ⟨l0,P0,R0,m0,h⟩:=gS4 h
       obtain ⟨T0,U0,d0,e0,h⟩:=gS4 h
       refine AW.GW Fm [.s,.s,.s,.s,.s,.s,.s,.s,.s,.s,.s,.s,.s,.s,.s,.s,.s,.s,.s,.s,.s,.s,.s,.s,.s,.s,.k (rE { v:=.any,upd:=some (62,AO (α:=Rect) (List.set b a.toNat (⟨(((gl b a.toNat).left_)+((10:Int)*e.2)),(gl b a.toNat).low_,(gl b a.toNat).right_,(gl b a.toNat).high_⟩ : Rect))) }),.s,.s,.s] (fun K=>_∧_∧(_∧True)∧(_∧True)∧_∧_∧(_∧True)∧(_∧True)∧_∧K 26∧_∧_∧True) [(0,pt 0),(1,AL l),(9,ow 9),(10,ow 10),(11,ow 11),(14,vi u),(15,vi e.2),(16,pt 16),(65,vi (lI q.2.rects_)),(66,vi a)] [(0,bx (gC q.1)),(9,AO p),(10,AO o),(11,AO n),(16,bx [.own 62]),(62,AO (α:=Rect) (List.set (List.set b a.toNat (⟨(((gl b a.toNat).left_)+((10:Int)*e.2)),(gl b a.toNat).low_,(gl b a.toNat).right_,(gl b a.toNat).high_⟩ : Rect)) a.toNat (⟨(gl (List.set b a.toNat (⟨(((gl b a.toNat).left_)+((10:Int)*e.2)),(gl b a.toNat).low_,(gl b a.toNat).right_,(gl b a.toNat).high_⟩ : Rect)) a.toNat).left_,(gl (List.set b a.toNat (⟨(((gl b a.toNat).left_)+((10:Int)*e.2)),(gl b a.toNat).low_,(gl b a.toNat).right_,(gl b a.toNat).high_⟩ : Rect)) a.toNat).low_,(((gl b a.toNat).right_)+((10:Int)*e.2)),(gl (List.set b a.toNat (⟨(((gl b a.toNat).left_)+((10:Int)*e.2)),(gl b a.toNat).low_,(gl b a.toNat).right_,(gl b a.toNat).high_⟩ : Rect)) a.toNat).high_⟩ : Rect)))] ⟨l0,(toNat_lt l0),⟨P0,⟨⟩⟩,⟨R0,⟨⟩⟩,m0,(toNat_lt m0),⟨T0,⟨⟩⟩,⟨U0,⟨⟩⟩,d0,KAt.upd prog_lay (ob:=.arr 4 (List.length (α:=Rect) b) (fun j=>if j=a.toNat then splice ((LF (α:=Rect) b) a.toNat) 0 [.int .i64 (((gl b a.toNat).left_)+((10:Int)*e.2))] else (LF (α:=Rect) b) j)) (c:=a.toNat<List.length b) rfl (by kernel_rfl) (by kernel_rfl) (toNat_lt d0) (OLe.is (Is.set (Is.refl b) (toNat_lt d0) (⟨(((gl b a.toNat).left_)+((10:Int)*e.2)),(gl b a.toNat).low_,(gl b a.toNat).right_,(gl b a.toNat).high_⟩ : Rect) (by kernel_rfl))),e0,(toNat_lt e0),⟨⟩⟩ [(62,.arr 4 (List.length (α:=Rect) (List.set b a.toNat (⟨(((gl b a.toNat).left_)+((10:Int)*e.2)),(gl b a.toNat).low_,(gl b a.toNat).right_,(gl b a.toNat).high_⟩ : Rect))) (fun j=>if j=a.toNat then splice ((LF (α:=Rect) (List.set b a.toNat (⟨(((gl b a.toNat).left_)+((10:Int)*e.2)),(gl b a.toNat).low_,(gl b a.toNat).right_,(gl b a.toNat).high_⟩ : Rect))) a.toNat) 2 [.int .i64 (((gl b a.toNat).right_)+((10:Int)*e.2))] else (LF (α:=Rect) (List.set b a.toNat (⟨(((gl b a.toNat).left_)+((10:Int)*e.2)),(gl b a.toNat).low_,(gl b a.toNat).right_,(gl b a.toNat).high_⟩ : Rect))) j))] ⟨OLe.is (Is.set (Is.refl (List.set b a.toNat (⟨(((gl b a.toNat).left_)+((10:Int)*e.2)),(gl b a.toNat).low_,(gl b a.toNat).right_,(gl b a.toNat).high_⟩ : Rect))) (toNat_lt e0) (⟨(gl (List.set b a.toNat (⟨(((gl b a.toNat).left_)+((10:Int)*e.2)),(gl b a.toNat).low_,(gl b a.toNat).right_,(gl b a.toNat).high_⟩ : Rect)) a.toNat).left_,(gl (List.set b a.toNat (⟨(((gl b a.toNat).left_)+((10:Int)*e.2)),(gl b a.toNat).low_,(gl b a.toNat).right_,(gl b a.toNat).high_⟩ : Rect)) a.toNat).low_,(((gl b a.toNat).right_)+((10:Int)*e.2)),(gl (List.set b a.toNat (⟨(((gl b a.toNat).left_)+((10:Int)*e.2)),(gl b a.toNat).low_,(gl b a.toNat).right_,(gl b a.toNat).high_⟩ : Rect)) a.toNat).high_⟩ : Rect) (by kernel_rfl)),⟨⟩⟩ ?_
       obtain ⟨V0,h⟩:=gS h
       refine AW.pN Fm [.s,.s] [(0,pt 0),(1,AL l),(9,ow 9),(10,ow 10),(11,ow 11),(14,vi u),(15,vi e.2),(16,pt 16),(65,vi (lI q.2.rects_)),(66,vi (a+1))] [(0,bx (gC q.1)),(9,AO p),(10,AO o),(11,AO n),(16,bx [.own 62]),(62,AO (α:=Rect) (List.set (List.set b a.toNat (⟨(((gl b a.toNat).left_)+((10:Int)*e.2)),(gl b a.toNat).low_,(gl b a.toNat).right_,(gl b a.toNat).high_⟩ : Rect)) a.toNat (⟨(gl (List.set b a.toNat (⟨(((gl b a.toNat).left_)+((10:Int)*e.2)),(gl b a.toNat).low_,(gl b a.toNat).right_,(gl b a.toNat).high_⟩ : Rect)) a.toNat).left_,(gl (List.set b a.toNat (⟨(((gl b a.toNat).left_)+((10:Int)*e.2)),(gl b a.toNat).low_,(gl b a.toNat).right_,(gl b a.toNat).high_⟩ : Rect)) a.toNat).low_,(((gl b a.toNat).right_)+((10:Int)*e.2)),(gl (List.set b a.toNat (⟨(((gl b a.toNat).left_)+((10:Int)*e.2)),(gl b a.toNat).low_,(gl b a.toNat).right_,(gl b a.toNat).high_⟩ : Rect)) a.toNat).high_⟩ : Rect)))] (cT (cT V0)) ?_
       exact Kn.R Fm (A0 ((a+1),(List.set (List.set b a.toNat (⟨(((gl b a.toNat).left_)+((10:Int)*e.2)),(gl b a.toNat).low_,(gl b a.toNat).right_,(gl b a.toNat).high_⟩ : Rect)) a.toNat (⟨(gl (List.set b a.toNat (⟨(((gl b a.toNat).left_)+((10:Int)*e.2)),(gl b a.toNat).low_,(gl b a.toNat).right_,(gl b a.toNat).high_⟩ : Rect)) a.toNat).left_,(gl (List.set b a.toNat (⟨(((gl b a.toNat).left_)+((10:Int)*e.2)),(gl b a.toNat).low_,(gl b a.toNat).right_,(gl b a.toNat).high_⟩ : Rect)) a.toNat).low_,(((gl b a.toNat).right_)+((10:Int)*e.2)),(gl (List.set b a.toNat (⟨(((gl b a.toNat).left_)+((10:Int)*e.2)),(gl b a.toNat).low_,(gl b a.toNat).right_,(gl b a.toNat).high_⟩ : Rect)) a.toNat).high_⟩ : Rect))) h)
      ·exact AW.exit (Kn.R Fm (B0 b h))
   ·exact AW.exit (Kn.R Fm (G0 (n,Z,a0) h))
 ·refine AW.seq ?_
  obtain ⟨U,t1,h⟩:=bS h
  refine AW.G Fm [.s,.k (cE [(0,0)] [] (vi U.2) [(0,bx (gC T))] [(0,bx (gC U.1))]),.s] (fun K=>K 1∧True) [(0,pt 0),(1,AL l),(2,vi I),(9,ow 9),(10,ow 10),(11,ow 11),(12,vi U.2)] [(0,bx (gC U.1)),(9,AO (α:=Int) ([]:List Int)),(10,AO (α:=Region) ([]:List Region)),(11,AO (α:=Line) ([]:List Line))] ⟨KAt.CC (keep_Tape_Range_spec t1) Tryz.call45 [(0,0)],⟨⟩⟩ ?_
  refine AW.block (Kn.r Fm [(0,pt 0),(1,AL l),(2,vi I),(9,ow 9),(10,ow 10),(11,ow 11),(12,vi U.2)] [(0,bx [.d (DL U.1.l_),ci U.1.at_]),(9,AO ([]:List Int)),(10,AO ([]:List Region)),(11,AO (α:=Line) ([]:List Line))] (by kernel_rfl) ?_)
  refine AW.loopF (E' := fun z=>[(0,pt 0),(1,AL l),(2,vi I),(9,ow 9),(10,ow 10),(11,ow 11),(12,vi z.1)]) (S' := fun z=>[(0,bx [.d (DL z.2.1),ci z.2.2.1]),(9,AO z.2.2.2.1),(10,AO z.2.2.2.2),(11,AO (α:=Line) ([]:List Line))]) (fun M1 z K1 H0 h=>?_) h
  obtain ⟨W,X,Y,i,M⟩:=z
  refine AW.seq (AW.SG0 Fm 2 [(0,pt 0),(1,AL l),(2,vi I),(9,ow 9),(10,ow 10),(11,ow 11),(12,vi W),(24,vb (decide ((0:Int)<W)))] [(0,bx [.d (DL X),ci Y]),(9,AO i),(10,AO M),(11,AO (α:=Line) ([]:List Line))] ?_)
  refine AW.cN h (fun O0 h=>?_) (fun O0 h=>?_)
  ·refine AW.skip (AW.seq (AW.block (AW.SG0 Fm 3 [(0,pt 0),(1,AL l),(2,vi I),(9,ow 9),(10,ow 10),(11,ow 11),(12,vi W),(13,vi (lI i))] [(0,bx [.d (DL X),ci Y]),(9,AO i),(10,AO M),(11,AO (α:=Line) ([]:List Line))] ?_)))
   obtain ⟨b1,c1,d1,e1,h⟩:=gS4 h
   obtain ⟨A,u1,h⟩:=bS h
   obtain ⟨i1,h⟩:=gS h
   obtain ⟨y,w1,h⟩:=bS h
   obtain ⟨j1,h⟩:=gS h
   refine AW.GW Fm [.s,.s,.s,.w (AL (α:=Int) ([((lI i)+1)]:List Int)),.s,.s,.s,.s,.s,.s,.s,.k (cE [(0,0)] [] (vi A.2) [(0,bx [.d (DL (α:=Int) (⟨X,Y⟩ : Tape).l_),ci ((⟨X,Y⟩ : Tape).at_)])] [(0,bx (gC A.1))]),.s,.s,.k (cE [(0,0)] [] (vi y.2) [(0,bx (gC A.1))] [(0,bx (gC y.1))]),.s,.w (AL (α:=Rect) ([(⟨((10:Int)*(lI i)),0,(((10:Int)*(lI i))+A.2),y.2⟩ : Rect)]:List Rect)),.s,.w (AL (α:=Region) ([(⟨([(⟨((10:Int)*(lI i)),0,(((10:Int)*(lI i))+A.2),y.2⟩ : Rect)]:List Rect)⟩ : Region)]:List Region)),.s,.s,.s] (fun K=>(_∧True)∧(ALe (.v (.c (.d (.lst 1 (litF 1 [.int .i64 ((lI i)+1)]))))) (AL (α:=Int) ([((lI i)+1)]:List Int)))∧(_∧_∧True)∧(_∧True)∧(_∧True)∧K 11∧(_∧True)∧K 14∧(ALe (.v (.c (.d (.lst 1 (litF 4 [.int .i64 ((10:Int)*(lI i)),.int .i64 0,.int .i64 (((10:Int)*(lI i))+A.2),.int .i64 y.2]))))) (AL (α:=Rect) ([(⟨((10:Int)*(lI i)),0,(((10:Int)*(lI i))+A.2),y.2⟩ : Rect)]:List Rect)))∧(ALe (.v (.c (.d (.lst 1 (litF 1 [DL (α:=Rect) ([(⟨((10:Int)*(lI i)),0,(((10:Int)*(lI i))+A.2),y.2⟩ : Rect)]:List Rect)]))))) (AL (α:=Region) ([(⟨([(⟨((10:Int)*(lI i)),0,(((10:Int)*(lI i))+A.2),y.2⟩ : Rect)]:List Rect)⟩ : Region)]:List Region)))∧(_∧_∧True)∧True) [(0,pt 0),(1,AL l),(2,vi I),(9,ow 33),(10,ow 48),(11,ow 11),(12,vi W)] [(0,bx (gC y.1)),(11,AO (α:=Line) ([]:List Line)),(33,AO (α:=Int) (i++([((lI i)+1)]:List Int))),(48,AO (α:=Region) (M++([(⟨([(⟨((10:Int)*(lI i)),0,(((10:Int)*(lI i))+A.2),y.2⟩ : Rect)]:List Rect)⟩ : Region)]:List Region)))] ⟨⟨b1,⟨⟩⟩,ALe.lst (.lit ([((lI i)+1)]:List Int) (by kernel_rfl)),⟨c1,(Is.refl ([((lI i)+1)]:List Int):Is (List.length (α:=Int) ([((lI i)+1)]:List Int)) (LF (α:=Int) ([((lI i)+1)]:List Int)) ([((lI i)+1)]:List Int)).len,⟨⟩⟩,⟨d1,⟨⟩⟩,⟨e1,⟨⟩⟩,KAt.CC (keep_Tape_Range_spec u1) Tryz.call45 [(0,0)],⟨i1,⟨⟩⟩,KAt.CC (keep_Tape_Range_spec w1) Tryz.call45 [(0,0)],ALe.lst (.lit ([(⟨((10:Int)*(lI i)),0,(((10:Int)*(lI i))+A.2),y.2⟩ : Rect)]:List Rect) (by kernel_rfl)),ALe.lst (.lit ([(⟨([(⟨((10:Int)*(lI i)),0,(((10:Int)*(lI i))+A.2),y.2⟩ : Rect)]:List Rect)⟩ : Region)]:List Region) (by kernel_rfl)),⟨j1,(Is.refl ([(⟨([(⟨((10:Int)*(lI i)),0,(((10:Int)*(lI i))+A.2),y.2⟩ : Rect)]:List Rect)⟩ : Region)]:List Region):Is (List.length (α:=Region) ([(⟨([(⟨((10:Int)*(lI i)),0,(((10:Int)*(lI i))+A.2),y.2⟩ : Rect)]:List Rect)⟩ : Region)]:List Region)) (LF (α:=Region) ([(⟨([(⟨((10:Int)*(lI i)),0,(((10:Int)*(lI i))+A.2),y.2⟩ : Rect)]:List Rect)⟩ : Region)]:List Region)) ([(⟨([(⟨((10:Int)*(lI i)),0,(((10:Int)*(lI i))+A.2),y.2⟩ : Rect)]:List Rect)⟩ : Region)]:List Region)).len,⟨⟩⟩,⟨⟩⟩ [(33,.arr 1 ((List.length (α:=Int) i)+(List.length (α:=Int) ([((lI i)+1)]:List Int))) (appF (List.length (α:=Int) i) (LF (α:=Int) i) (LF (α:=Int) ([((lI i)+1)]:List Int)))),(48,.arr 1 ((List.length (α:=Region) M)+(List.length (α:=Region) ([(⟨([(⟨((10:Int)*(lI i)),0,(((10:Int)*(lI i))+A.2),y.2⟩ : Rect)]:List Rect)⟩ : Region)]:List Region))) (appF (List.length (α:=Region) M) (LF (α:=Region) M) (LF (α:=Region) ([(⟨([(⟨((10:Int)*(lI i)),0,(((10:Int)*(lI i))+A.2),y.2⟩ : Rect)]:List Rect)⟩ : Region)]:List Region))))] ⟨OLe.is (Is.app (Is.refl i) (Is.refl ([((lI i)+1)]:List Int))),OLe.is (Is.app (Is.refl M) (Is.refl ([(⟨([(⟨((10:Int)*(lI i)),0,(((10:Int)*(lI i))+A.2),y.2⟩ : Rect)]:List Rect)⟩ : Region)]:List Region))),⟨⟩⟩ ?_
   obtain ⟨k1,h⟩:=gS h
   refine AW.pN Fm [.s,.s,.s] [(0,pt 0),(1,AL l),(2,vi I),(9,ow 33),(10,ow 48),(11,ow 11),(12,vi (W-1))] [(0,bx (gC y.1)),(11,AO (α:=Line) ([]:List Line)),(33,AO (α:=Int) (i++([((lI i)+1)]:List Int))),(48,AO (α:=Region) (M++([(⟨([(⟨((10:Int)*(lI i)),0,(((10:Int)*(lI i))+A.2),y.2⟩ : Rect)]:List Rect)⟩ : Region)]:List Region)))] (cT (cT k1)) ?_
   exact Kn.RE Fm [(9,33),(10,48)] (H0 ((W-1),y.1.l_,y.1.at_,(i++([((lI i)+1)]:List Int)),(M++([(⟨([(⟨((10:Int)*(lI i)),0,(((10:Int)*(lI i))+A.2),y.2⟩ : Rect)]:List Rect)⟩ : Region)]:List Region))) h)
  ·exact AW.exit (Kn.R Fm (I0 (X,Y,i,M) h))
theorem words_Name_spec {F:Nat} {b:ByteArray} {r:Bool} (h:words_Name F b=some r) :
  FSpec Tryz.prog 257 [.v (.c (.d (.str b)))] [] (vb r) []:=by
 refine FI Tryz.func257 prog_mixed prog_lay fun C Fm=>?_
 unfold words_Name at h
 refine AW.SG0 Fm 1 [(0,.v (.c (.d (.str b))))] [] ?_
 refine AW.join (r:=r) (fun z:Unit=>words_Name_k4 F b) (fun z=>[(0,.v (.c (.d (.str b))))]) (fun z=>[]) (fun z h=>?_) (fun Z M=>?_)
 ·refine AW.join (r:=r) (fun z:Bool=>words_Name_k5 F z) (fun z=>[(2,vb z)]) (fun z=>[]) (fun c0 h=>?_) (fun a0 E=>?_)
  ·refine AW.ret ?_
   obtain rfl:=Option.some.inj h
   exact Kn.D Fm
  ·rcases br_or h with ⟨y,h⟩|⟨y,h⟩
   ·refine AW.pN Fm [.s,.s,.s,.w (vb true),.s,.s,.s,.s,.s] [(2,vb (decide (((b.size:Nat):Int)≤(12:Int))))] [] (cT (ALe.bool y)) ?_
    exact Kn.R Fm (E (decide (((b.size:Nat):Int)≤(12:Int))) h)
   ·refine AW.pN Fm [.s,.s,.s,.w (vb false),.s,.s,.s,.s,.s] [(2,vb false)] [] (cT (ALe.bool y)) ?_
    exact Kn.R Fm (E false h)
 ·refine AW.SG0 Fm 3 [(0,.v (.c (.d (.str b)))),(7,vi ((b.size:Nat):Int)),(8,vi 0)] [] ?_
  refine AW.block (AW.loopF (E' := fun z=>[(0,.v (.c (.d (.str b)))),(7,vi ((b.size:Nat):Int)),(8,vi z)]) (S' := fun z=>[]) (fun n e V L h=>?_) h)
  refine AW.SG0 Fm 1 [(0,.v (.c (.d (.str b)))),(7,vi ((b.size:Nat):Int)),(8,vi e),(9,vb (decide (e<((b.size:Nat):Int))))] [] ?_
  refine AW.seq (AW.cN h (fun N h=>?_) (fun N h=>?_))
  ·refine AW.skip (AW.seq (AW.block (AW.SG0 Fm 2 [(0,.v (.c (.d (.str b)))),(3,vi e),(7,vi ((b.size:Nat):Int)),(8,vi e)] [] ?_)))
   refine AW.join (r:=r) (fun z:Bool=>words_Name_k1 F b e n z) (fun z=>[(0,.v (.c (.d (.str b)))),(3,vi e),(4,vb z),(7,vi ((b.size:Nat):Int)),(8,vi e)]) (fun z=>[]) (fun l h=>?_) (fun W A=>?_)
   ·refine AW.join (r:=r) (fun z:Bool=>words_Name_k2 F e l n z) (fun z=>[(0,.v (.c (.d (.str b)))),(3,vi e),(4,vb l),(5,vb z),(7,vi ((b.size:Nat):Int)),(8,vi e)]) (fun z=>[]) (fun i h=>?_) (fun X B=>?_)
    ·refine AW.join (r:=r) (fun z:Bool=>words_Name_k3 F e n z) (fun z=>[(0,.v (.c (.d (.str b)))),(7,vi ((b.size:Nat):Int)),(8,vi e),(40,vb z)]) (fun z=>[]) (fun b0 h=>?_) (fun Y o=>?_)
     ·refine AW.cN h (fun O h=>?_) (fun O h=>?_)
      ·refine AW.SG0 Fm 1 [(2,vb false)] [] ?_
       refine AW.ret ?_
       obtain rfl:=Option.some.inj h
       exact Kn.D Fm
      ·refine AW.skip ?_
       obtain ⟨U,h⟩:=gS h
       refine AW.pN Fm [.s,.s] [(0,.v (.c (.d (.str b)))),(7,vi ((b.size:Nat):Int)),(8,vi (e+1))] [] (cT (cT U)) ?_
       exact Kn.R Fm (L (e+1) h)
     ·rcases br_or h with ⟨j,h⟩|⟨j,h⟩
      ·rcases br_or h with ⟨u,h⟩|⟨u,h⟩
       ·refine AW.pN Fm [.s,.s,.w (vb true),.s,.s,.w (vb true),.s,.s,.s,.s] [(0,.v (.c (.d (.str b)))),(7,vi ((b.size:Nat):Int)),(8,vi e),(34,vi e),(35,vb (e==(0:Int))),(36,vb true),(39,vb true),(40,vb true)] [] (cA (ALe.bool j) (cT (ALe.bool u))) ?_
        exact Kn.R Fm (o true h)
       ·refine AW.pN Fm [.s,.s,.w (vb true),.s,.s,.w (vb false),.s,.s,.s,.s] [(0,.v (.c (.d (.str b)))),(7,vi ((b.size:Nat):Int)),(8,vi e),(34,vi e),(35,vb (e==(0:Int))),(36,vb false),(37,vb i),(38,vb (!i)),(39,vb (!i)),(40,vb (!i))] [] (cA (ALe.bool j) (cT (ALe.bool u))) ?_
        exact Kn.R Fm (o (!i) h)
      ·refine AW.pN Fm [.s,.s,.w (vb false),.s,.s,.s,.s,.s,.s,.s] [(0,.v (.c (.d (.str b)))),(7,vi ((b.size:Nat):Int)),(8,vi e),(40,vb false)] [] (cT (ALe.bool j)) ?_
       exact Kn.R Fm (o false h)
    ·obtain ⟨I,h⟩:=gS h
     rcases br_or h with ⟨q,h⟩|⟨q,h⟩
     ·obtain ⟨T,h⟩:=gS h
      refine AW.G Fm [.s,.s,.k (sE (.v (.c (.d (.int .u8 (sAt b e)))))),.s,.w (vb true),.s,.s,.k (sE (.v (.c (.d (.int .u8 (sAt b e)))))),.s,.s,.s] (fun K=>K 2∧_∧K 7∧True) [(0,.v (.c (.d (.str b)))),(3,vi e),(4,vb l),(5,vb (decide ((sAt b e)≤(57:Int)))),(7,vi ((b.size:Nat):Int)),(8,vi e),(26,.v (.c (.d (.str b)))),(27,vi e),(28,.v (.c (.d (.int .u8 (sAt b e))))),(29,vb (decide ((sAt b e)≤(57:Int))))] [] ⟨KAt.strI (t:=9) (a:=b) (m:=e) (by kernel_rfl) rfl rfl (by kernel_rfl) (by kernel_rfl) (by kernel_rfl) I,ALe.bool q,KAt.strI (t:=9) (a:=b) (m:=e) (by kernel_rfl) rfl rfl (by kernel_rfl) (by kernel_rfl) (by kernel_rfl) T,⟨⟩⟩ ?_
      exact Kn.R Fm (B (decide ((sAt b e)≤(57:Int))) h)
     ·refine AW.G Fm [.s,.s,.k (sE (.v (.c (.d (.int .u8 (sAt b e)))))),.s,.w (vb false),.s,.s,.s,.s,.s,.s] (fun K=>K 2∧_∧True) [(0,.v (.c (.d (.str b)))),(3,vi e),(4,vb l),(5,vb false),(7,vi ((b.size:Nat):Int)),(8,vi e)] [] ⟨KAt.strI (t:=9) (a:=b) (m:=e) (by kernel_rfl) rfl rfl (by kernel_rfl) (by kernel_rfl) (by kernel_rfl) I,ALe.bool q,⟨⟩⟩ ?_
      exact Kn.R Fm (B false h)
   ·obtain ⟨H,h⟩:=gS h
    rcases br_or h with ⟨p,h⟩|⟨p,h⟩
    ·obtain ⟨P,h⟩:=gS h
     refine AW.G Fm [.s,.s,.k (sE (.v (.c (.d (.int .u8 (sAt b e)))))),.s,.w (vb true),.s,.s,.k (sE (.v (.c (.d (.int .u8 (sAt b e)))))),.s,.s,.s] (fun K=>K 2∧_∧K 7∧True) [(0,.v (.c (.d (.str b)))),(3,vi e),(4,vb (decide ((sAt b e)≤(122:Int)))),(7,vi ((b.size:Nat):Int)),(8,vi e),(16,.v (.c (.d (.str b)))),(17,vi e),(18,.v (.c (.d (.int .u8 (sAt b e))))),(19,vb (decide ((sAt b e)≤(122:Int))))] [] ⟨KAt.strI (t:=9) (a:=b) (m:=e) (by kernel_rfl) rfl rfl (by kernel_rfl) (by kernel_rfl) (by kernel_rfl) H,ALe.bool p,KAt.strI (t:=9) (a:=b) (m:=e) (by kernel_rfl) rfl rfl (by kernel_rfl) (by kernel_rfl) (by kernel_rfl) P,⟨⟩⟩ ?_
     exact Kn.R Fm (A (decide ((sAt b e)≤(122:Int))) h)
    ·refine AW.G Fm [.s,.s,.k (sE (.v (.c (.d (.int .u8 (sAt b e)))))),.s,.w (vb false),.s,.s,.s,.s,.s,.s] (fun K=>K 2∧_∧True) [(0,.v (.c (.d (.str b)))),(3,vi e),(4,vb false),(7,vi ((b.size:Nat):Int)),(8,vi e)] [] ⟨KAt.strI (t:=9) (a:=b) (m:=e) (by kernel_rfl) rfl rfl (by kernel_rfl) (by kernel_rfl) (by kernel_rfl) H,ALe.bool p,⟨⟩⟩ ?_
     exact Kn.R Fm (A false h)
  ·exact AW.exit (Kn.R Fm (M () h))
theorem crop_Check_spec {F:Nat} {e:(List Crop)} {r:Int} (h:crop_Check F e=some r) :
  FSpec Tryz.prog 205 [AL e] [] (vi r) []:=by
 refine FI Tryz.func205 prog_mixed prog_lay fun C Fm=>?_
 unfold crop_Check at h
 refine AW.SG0 Fm 1 [(0,AL e)] [] ?_
 refine AW.seq (AW.SG0 Fm 3 [(0,AL e),(7,vb (decide ((40:Int)<(lI e))))] [] ?_)
 refine AW.cN h (fun A h=>?_) (fun A h=>?_)
 ·refine AW.SG0 Fm 1 [(2,vi 1)] [] ?_
  refine AW.ret ?_
  obtain rfl:=Option.some.inj h
  exact Kn.D Fm
 ·refine AW.skip (AW.join (r:=r) (fun z:Unit=>crop_Check_k4 F) (fun z=>[]) (fun z=>[]) (fun z h=>?_) (fun Y y=>?_))
  ·refine AW.SG0 Fm 1 [(2,vi 0)] [] ?_
   refine AW.ret ?_
   obtain rfl:=Option.some.inj h
   exact Kn.D Fm
  ·refine AW.SG0 Fm 3 [(0,AL e),(8,AL e),(9,vi (lI e)),(10,vi 0)] [] ?_
   refine AW.block (AW.loopF (E' := fun z=>[(0,AL e),(8,AL e),(9,vi (lI e)),(10,vi z)]) (S' := fun z=>[]) (fun j i U u h=>?_) h)
   refine AW.SG0 Fm 1 [(0,AL e),(8,AL e),(9,vi (lI e)),(10,vi i),(11,vb (decide (i<(lI e))))] [] ?_
   refine AW.seq (AW.cN h (fun B h=>?_) (fun B h=>?_))
   ·refine AW.skip (AW.seq (AW.block ?_))
    obtain ⟨M,h⟩:=gS h
    refine AW.SP Fm [.s,.s,.s,.s,.s,.s] [(0,AL e),(3,vi i),(4,pt 4),(8,AL e),(9,vi (lI e)),(10,vi i)] [(4,bx [.d (.str (gl e i.toNat).name_),ci ((gl e i.toNat).family_),ci ((gl e i.toNat).marks_)])] (cT M) ?_
    refine AW.block (AW.seq ?_)
    obtain ⟨t,T,h⟩:=bS h
    refine AW.G Fm [.s,.s,.k (cE [] [] (vb t) [] []),.s,.s] (fun K=>K 2∧True) [(0,AL e),(3,vi i),(4,pt 4),(8,AL e),(9,vi (lI e)),(10,vi i),(15,vb (!t))] [(4,bx [.d (.str (gl e i.toNat).name_),ci ((gl e i.toNat).family_),ci ((gl e i.toNat).marks_)])] ⟨KAt.CC (words_Name_spec T) Tryz.call257 [],⟨⟩⟩ ?_
    refine AW.cN h (fun E h=>?_) (fun E h=>?_)
    ·refine AW.SG0 Fm 1 [(2,vi 5)] [] ?_
     refine AW.ret ?_
     obtain rfl:=Option.some.inj h
     exact Kn.D Fm
    ·refine AW.join (r:=r) (fun z:Bool=>crop_Check_k1 F e i j z) (fun z=>[(0,AL e),(3,vi i),(4,pt 4),(8,AL e),(9,vi (lI e)),(10,vi i),(20,vb z)]) (fun z=>[(4,bx [.d (.str (gl e i.toNat).name_),ci ((gl e i.toNat).family_),ci ((gl e i.toNat).marks_)])]) (fun Z h=>?_) (fun V o=>?_)
     ·refine AW.cN h (fun H h=>?_) (fun H h=>?_)
      ·refine AW.SG0 Fm 1 [(2,vi 2)] [] ?_
       refine AW.ret ?_
       obtain rfl:=Option.some.inj h
       exact Kn.D Fm
      ·refine AW.join (r:=r) (fun z:Bool=>crop_Check_k2 F e i j z) (fun z=>[(0,AL e),(3,vi i),(4,pt 4),(8,AL e),(9,vi (lI e)),(10,vi i),(29,vb z)]) (fun z=>[(4,bx [.d (.str (gl e i.toNat).name_),ci ((gl e i.toNat).family_),ci ((gl e i.toNat).marks_)])]) (fun a0 h=>?_) (fun W p=>?_)
       ·refine AW.cN h (fun I h=>?_) (fun I h=>?_)
        ·refine AW.SG0 Fm 1 [(2,vi 14)] [] ?_
         refine AW.ret ?_
         obtain rfl:=Option.some.inj h
         exact Kn.D Fm
        ·refine AW.join (r:=r) (fun z:Bool=>crop_Check_k3 F i j z) (fun z=>[(0,AL e),(8,AL e),(9,vi (lI e)),(10,vi i),(38,vb z)]) (fun z=>[]) (fun b0 h=>?_) (fun X q=>?_)
         ·refine AW.cN h (fun L h=>?_) (fun L h=>?_)
          ·refine AW.SG0 Fm 1 [(2,vi 6)] [] ?_
           refine AW.ret ?_
           obtain rfl:=Option.some.inj h
           exact Kn.D Fm
          ·refine AW.skip ?_
           obtain ⟨P,h⟩:=gS h
           refine AW.pN Fm [.s,.s] [(0,AL e),(8,AL e),(9,vi (lI e)),(10,vi (i+1))] [] (cT (cT P)) ?_
           exact Kn.R Fm (u (i+1) h)
         ·rcases br_or h with ⟨n,h⟩|⟨n,h⟩
          ·obtain ⟨N,O,h⟩:=gS2 h
           refine AW.G Fm [.s,.s,.w (vb true),.s,.s,.s,.s,.s,.s,.s,.s,.k (sE (vb (sLt ((gl e i.toNat).name_) ((gl e (i-1).toNat).name_)||sEq ((gl e i.toNat).name_) ((gl e (i-1).toNat).name_)))),.s,.s] (fun K=>_∧(_∧True)∧_∧K 11∧True) [(0,AL e),(8,AL e),(9,vi (lI e)),(10,vi i),(38,vb (sLt ((gl e i.toNat).name_) ((gl e (i-1).toNat).name_)||sEq ((gl e i.toNat).name_) ((gl e (i-1).toNat).name_))),(42,pt 4),(43,.v (.c (.d (.str (gl e i.toNat).name_)))),(44,AL e),(45,vi i),(46,vi (i-1)),(47,.v (.c (.elm [.str (gl e (i-1).toNat).name_,.int .i64 (gl e (i-1).toNat).family_,.int .i64 (gl e (i-1).toNat).marks_]))),(48,.v (.c (.elm [.str (gl e (i-1).toNat).name_,.int .i64 (gl e (i-1).toNat).family_,.int .i64 (gl e (i-1).toNat).marks_]))),(49,.v (.c (.d (.str (gl e (i-1).toNat).name_)))),(50,vb (sLt ((gl e i.toNat).name_) ((gl e (i-1).toNat).name_)||sEq ((gl e i.toNat).name_) ((gl e (i-1).toNat).name_)))] [(4,bx [.d (.str (gl e i.toNat).name_),ci ((gl e i.toNat).family_),ci ((gl e i.toNat).marks_)])] ⟨ALe.bool n,⟨N,⟨⟩⟩,O,KAt.strC (op:=.leq) (a:=((gl e i.toNat).name_)) (b:=((gl e (i-1).toNat).name_)) rfl rfl (by kernel_rfl) (by kernel_rfl) (by kernel_rfl) rfl,⟨⟩⟩ ?_
           exact Kn.R Fm (q (sLt ((gl e i.toNat).name_) ((gl e (i-1).toNat).name_)||sEq ((gl e i.toNat).name_) ((gl e (i-1).toNat).name_)) h)
          ·refine AW.pN Fm [.s,.s,.w (vb false),.s,.s,.s,.s,.s,.s,.s,.s,.s,.s,.s] [(0,AL e),(8,AL e),(9,vi (lI e)),(10,vi i),(38,vb false)] [] (cT (ALe.bool n)) ?_
           exact Kn.R Fm (q false h)
       ·rcases br_or h with ⟨m,h⟩|⟨m,h⟩
        ·refine AW.pN Fm [.s,.s,.s,.w (vb true),.s,.s,.s,.s,.s] [(0,AL e),(3,vi i),(4,pt 4),(8,AL e),(9,vi (lI e)),(10,vi i),(29,vb true)] [(4,bx [.d (.str (gl e i.toNat).name_),ci ((gl e i.toNat).family_),ci ((gl e i.toNat).marks_)])] (cT (ALe.bool m)) ?_
         exact Kn.R Fm (p true h)
        ·refine AW.pN Fm [.s,.s,.s,.w (vb false),.s,.s,.s,.s,.s] [(0,AL e),(3,vi i),(4,pt 4),(8,AL e),(9,vi (lI e)),(10,vi i),(29,vb (decide ((31:Int)<((gl e i.toNat).marks_)))),(34,.v (.c (.ptr 4 2))),(35,vi (gl e i.toNat).marks_),(36,vb (decide ((31:Int)<((gl e i.toNat).marks_))))] [(4,bx [.d (.str (gl e i.toNat).name_),ci ((gl e i.toNat).family_),ci ((gl e i.toNat).marks_)])] (cT (ALe.bool m)) ?_
         exact Kn.R Fm (p (decide ((31:Int)<((gl e i.toNat).marks_))) h)
     ·rcases br_or h with ⟨l,h⟩|⟨l,h⟩
      ·refine AW.pN Fm [.s,.s,.s,.w (vb true),.s,.s,.s,.s,.s] [(0,AL e),(3,vi i),(4,pt 4),(8,AL e),(9,vi (lI e)),(10,vi i),(20,vb true)] [(4,bx [.d (.str (gl e i.toNat).name_),ci ((gl e i.toNat).family_),ci ((gl e i.toNat).marks_)])] (cT (ALe.bool l)) ?_
       exact Kn.R Fm (o true h)
      ·refine AW.pN Fm [.s,.s,.s,.w (vb false),.s,.s,.s,.s,.s] [(0,AL e),(3,vi i),(4,pt 4),(8,AL e),(9,vi (lI e)),(10,vi i),(20,vb (decide ((40:Int)<((gl e i.toNat).family_)))),(25,.v (.c (.ptr 4 1))),(26,vi (gl e i.toNat).family_),(27,vb (decide ((40:Int)<((gl e i.toNat).family_))))] [(4,bx [.d (.str (gl e i.toNat).name_),ci ((gl e i.toNat).family_),ci ((gl e i.toNat).marks_)])] (cT (ALe.bool l)) ?_
       exact Kn.R Fm (o (decide ((40:Int)<((gl e i.toNat).family_))) h)
   ·exact AW.exit (Kn.R Fm (y () h))
theorem slices_IndexFunc_Rect_spec {F:Nat} {a:(List Rect)} {d:Rect→Option Bool} {r:Int} (h:slices_IndexFunc_Rect F a d=some r) :
  FSpec Tryz.prog 237 [AL a,.v (.c (.sem (CloOK Tryz.prog (FR_Rect_Bool d))))] [] (vi r) []:=by
 refine FI Tryz.func237 prog_mixed prog_lay fun C Fm=>?_
 unfold slices_IndexFunc_Rect at h
 refine AW.SG0 Fm 1 [(0,AL a),(1,.v (.c (.sem (CloOK Tryz.prog (FR_Rect_Bool d)))))] [] ?_
 refine AW.join (r:=r) (fun z:Unit=>slices_IndexFunc_Rect_k1 F) (fun z=>[]) (fun z=>[]) (fun z h=>?_) (fun t j=>?_)
 ·refine AW.SG0 Fm 1 [(4,vi (-1:Int))] [] ?_
  refine AW.ret ?_
  obtain rfl:=Option.some.inj h
  exact Kn.D Fm
 ·refine AW.SG0 Fm 3 [(0,AL a),(1,.v (.c (.sem (CloOK Tryz.prog (FR_Rect_Bool d))))),(7,vi (lI a)),(8,vi 0)] [] ?_
  refine AW.block (AW.loopF (E' := fun z=>[(0,AL a),(1,.v (.c (.sem (CloOK Tryz.prog (FR_Rect_Bool d))))),(7,vi (lI a)),(8,vi z)]) (S' := fun z=>[]) (fun u b q i h=>?_) h)
  refine AW.SG0 Fm 1 [(0,AL a),(1,.v (.c (.sem (CloOK Tryz.prog (FR_Rect_Bool d))))),(7,vi (lI a)),(8,vi b),(9,vb (decide (b<(lI a))))] [] ?_
  refine AW.seq (AW.cN h (fun l h=>?_) (fun l h=>?_))
  ·refine AW.skip (AW.seq (AW.block (AW.SG0 Fm 2 [(0,AL a),(1,.v (.c (.sem (CloOK Tryz.prog (FR_Rect_Bool d))))),(5,vi b),(7,vi (lI a)),(8,vi b)] [] ?_)))
   refine AW.seq ?_
   obtain ⟨n,h⟩:=gS h
   obtain ⟨e,p,h⟩:=bS h
   refine AW.G Fm [.s,.s,.s,.s,.s,.k (sE (vb e))] (fun K=>_∧K 5∧True) [(0,AL a),(1,.v (.c (.sem (CloOK Tryz.prog (FR_Rect_Bool d))))),(5,vi b),(7,vi (lI a)),(8,vi b),(16,vb e)] [] ⟨n,KAt.sem (F:=(FR_Rect_Bool d)) (args:=[.v (.g [ci ((gl a b.toNat).left_),ci ((gl a b.toNat).low_),ci ((gl a b.toNat).right_),ci ((gl a b.toNat).high_)])]) ⟨(gl a b.toNat),e,p,rfl,rfl⟩ rfl (by kernel_rfl) (by kernel_rfl) (by kernel_rfl),⟨⟩⟩ ?_
   refine AW.cN h (fun m h=>?_) (fun m h=>?_)
   ·refine AW.SG0 Fm 2 [(4,vi b)] [] ?_
    refine AW.ret ?_
    obtain rfl:=Option.some.inj h
    exact Kn.D Fm
   ·refine AW.skip ?_
    obtain ⟨o,h⟩:=gS h
    refine AW.pN Fm [.s,.s] [(0,AL a),(1,.v (.c (.sem (CloOK Tryz.prog (FR_Rect_Bool d))))),(7,vi (lI a)),(8,vi (b+1))] [] (cT (cT o)) ?_
    exact Kn.R Fm (i (b+1) h)
  ·exact AW.exit (Kn.R Fm (j () h))
theorem slices_ContainsFunc_Rect_spec {F:Nat} {a:(List Rect)} {b:Rect→Option Bool} {r:Bool} (h:slices_ContainsFunc_Rect F a b=some r) :
  FSpec Tryz.prog 182 [AL a,.v (.c (.sem (CloOK Tryz.prog (FR_Rect_Bool b))))] [] (vb r) []:=by
 refine FI Tryz.func182 prog_mixed prog_lay fun C Fm=>?_
 unfold slices_ContainsFunc_Rect at h
 refine AW.SG0 Fm 1 [(0,AL a),(1,.v (.c (.sem (CloOK Tryz.prog (FR_Rect_Bool b)))))] [] ?_
 refine AW.seq ?_
 obtain ⟨d,e,h⟩:=bS h
 refine AW.G Fm [.s,.s,.k (cE [] [] (vi d) [] []),.s,.s] (fun K=>K 2∧True) [(4,vb (decide ((0:Int)≤d)))] [] ⟨KAt.callX (slices_IndexFunc_Rect_spec e) Tryz.call237 [] [] [.tmp 5,.tmp 6] rfl (by kernel_rfl) (by kernel_rfl) (by kernel_rfl) ⟨.p,ArgT.semX (by kernel_rfl) (by kernel_rfl) (by kernel_rfl),⟨⟩⟩,⟨⟩⟩ ?_
 refine AW.ret ?_
 obtain rfl:=Option.some.inj h
 exact Kn.D Fm
theorem region_proper_spec {F:Nat} {e:Rect} {r:Bool} (h:region_proper F e=some r) :
  FSpec Tryz.prog 184 [gE e] [] (vb r) []:=by
 refine FI Tryz.func184 prog_mixed prog_lay fun C Fm=>?_
 unfold region_proper at h
 refine AW.SG0 Fm 2 [(1,pt 1)] [(1,bx (gC e))] ?_
 refine AW.join (r:=r) (fun z:Bool=>region_proper_k0 F z) (fun z=>[(2,vb z)]) (fun z=>[]) (fun l h=>?_) (fun k b=>?_)
 ·refine AW.ret ?_
  obtain rfl:=Option.some.inj h
  exact Kn.D Fm
 ·rcases br_or h with ⟨a,h⟩|⟨a,h⟩
  ·rcases br_or h with ⟨c,h⟩|⟨c,h⟩
   ·rcases br_or h with ⟨d,h⟩|⟨d,h⟩
    ·rcases br_or h with ⟨i,h⟩|⟨i,h⟩
     ·rcases br_or h with ⟨j,h⟩|⟨j,h⟩
      ·refine AW.pN Fm [.s,.s,.s,.w (vb true),.s,.s,.s,.s,.s,.s,.w (vb true),.s,.s,.s,.s,.w (vb true),.s,.s,.s,.s,.w (vb true),.s,.s,.s,.s,.s,.s,.w (vb true),.s,.s,.s,.s,.s] [(2,vb (decide (e.high_≤(16384:Int))))] [] (cA (ALe.bool a) (cA (ALe.bool c) (cA (ALe.bool d) (cA (ALe.bool i) (cT (ALe.bool j)))))) ?_
       exact Kn.R Fm (b (decide (e.high_≤(16384:Int))) h)
      ·refine AW.pN Fm [.s,.s,.s,.w (vb true),.s,.s,.s,.s,.s,.s,.w (vb true),.s,.s,.s,.s,.w (vb true),.s,.s,.s,.s,.w (vb true),.s,.s,.s,.s,.s,.s,.w (vb false),.s,.s,.s,.s,.s] [(2,vb false)] [] (cA (ALe.bool a) (cA (ALe.bool c) (cA (ALe.bool d) (cA (ALe.bool i) (cT (ALe.bool j)))))) ?_
       exact Kn.R Fm (b false h)
     ·refine AW.pN Fm [.s,.s,.s,.w (vb true),.s,.s,.s,.s,.s,.s,.w (vb true),.s,.s,.s,.s,.w (vb true),.s,.s,.s,.s,.w (vb false),.s,.s,.s,.s,.s,.s,.s,.s,.s,.s,.s,.s] [(2,vb false)] [] (cA (ALe.bool a) (cA (ALe.bool c) (cA (ALe.bool d) (cT (ALe.bool i))))) ?_
      exact Kn.R Fm (b false h)
    ·refine AW.pN Fm [.s,.s,.s,.w (vb true),.s,.s,.s,.s,.s,.s,.w (vb true),.s,.s,.s,.s,.w (vb false),.s,.s,.s,.s,.s,.s,.s,.s,.s,.s,.s,.s,.s,.s,.s,.s,.s] [(2,vb false)] [] (cA (ALe.bool a) (cA (ALe.bool c) (cT (ALe.bool d)))) ?_
     exact Kn.R Fm (b false h)
   ·refine AW.pN Fm [.s,.s,.s,.w (vb true),.s,.s,.s,.s,.s,.s,.w (vb false),.s,.s,.s,.s,.s,.s,.s,.s,.s,.s,.s,.s,.s,.s,.s,.s,.s,.s,.s,.s,.s,.s] [(2,vb false)] [] (cA (ALe.bool a) (cT (ALe.bool c))) ?_
    exact Kn.R Fm (b false h)
  ·refine AW.pN Fm [.s,.s,.s,.w (vb false),.s,.s,.s,.s,.s,.s,.s,.s,.s,.s,.s,.s,.s,.s,.s,.s,.s,.s,.s,.s,.s,.s,.s,.s,.s,.s,.s,.s,.s] [(2,vb false)] [] (cT (ALe.bool a)) ?_
   exact Kn.R Fm (b false h)
theorem region_Valid_1_spec {F:Nat} {a:Rect} {r:Bool} (h:region_Valid_1 F a=some r) :
  FSpec Tryz.prog 183 [gE a] [] (vb r) []:=by
 refine FI Tryz.func183 prog_mixed prog_lay fun C Fm=>?_
 unfold region_Valid_1 at h
 refine AW.SG0 Fm 2 [(1,pt 1)] [(1,bx (gC a))] ?_
 refine AW.seq ?_
 obtain ⟨b,c,h⟩:=bS h
 refine AW.G Fm [.s,.k (cE [] [] (vb b) [] []),.s,.s] (fun K=>K 1∧True) [(2,vb (!b))] [] ⟨KAt.CC (region_proper_spec c) Tryz.call184 [],⟨⟩⟩ ?_
 refine AW.ret ?_
 obtain rfl:=Option.some.inj h
 exact Kn.D Fm
theorem slices_Compact_int_spec {F:Nat} {b:(List Int)} {r:(List Int)} (h:slices_Compact_int F b=some r) :
  FSpec Tryz.prog 241 [ow 0] [(0,AO b)] (ow 100) [(100,AO (α:=Int) r)]:=by
 refine FI Tryz.func241 prog_mixed prog_lay fun C Fm=>?_
 unfold slices_Compact_int at h
 refine AW.SG Fm [.m] (fun K=>True) [(0,ow 0)] [(0,AO b)] True.intro ?_
 refine AW.seq (AW.SG0 Fm 3 [(0,ow 0),(8,vb (decide ((lI b)<(2:Int))))] [(0,AO b)] ?_)
 refine AW.cN h (fun T h=>?_) (fun T h=>?_)
 ·refine AW.SG0 Fm 2 [(2,ow 0)] [(0,AO b)] ?_
  refine AW.ret ?_
  obtain rfl:=Option.some.inj h
  exact Kn.re Fm [(100,0)] [(2,ow 100)] [(100,AO b)] (by kernel_rfl) (by kernel_rfl) (by kernel_rfl) (by kernel_rfl) (Kn.dn Fm (by kernel_rfl))
 ·refine AW.skip (AW.join (r:=r) (fun z:Unit=>slices_Compact_int_k5 F b) (fun z=>[(0,ow 0)]) (fun z=>[(0,AO b)]) (fun z h=>?_) (fun u0 P=>?_))
  ·refine AW.SG0 Fm 2 [(2,ow 0)] [(0,AO b)] ?_
   refine AW.ret ?_
   obtain rfl:=Option.some.inj h
   exact Kn.re Fm [(100,0)] [(2,ow 100)] [(100,AO b)] (by kernel_rfl) (by kernel_rfl) (by kernel_rfl) (by kernel_rfl) (Kn.dn Fm (by kernel_rfl))
  ·refine AW.SG0 Fm 1 [(0,ow 0),(3,vi 1)] [(0,AO b)] ?_
   refine AW.block (AW.loopF (E' := fun z=>[(0,ow 0),(3,vi z)]) (S' := fun z=>[(0,AO b)]) (fun G a o0 I h=>?_) h)
   refine AW.seq (AW.SG0 Fm 4 [(0,ow 0),(3,vi a),(13,vb (decide (a<(lI b))))] [(0,AO b)] ?_)
   refine AW.cN h (fun U h=>?_) (fun U h=>?_)
   ·refine AW.skip (AW.join (r:=r) (fun z:Unit=>slices_Compact_int_k4 F a G) (fun z=>[(0,ow 0),(3,vi a)]) (fun z=>[(0,AO b)]) (fun z h=>?_) (fun t0 O=>?_))
    ·obtain ⟨n0,h⟩:=gS h
     refine AW.pN Fm [.s,.s,.s] [(0,ow 0),(3,vi (a+1))] [(0,AO b)] (cT (cT n0)) ?_
     exact Kn.R Fm (I (a+1) h)
    ·refine AW.block ?_
     obtain ⟨y,Y,A,h⟩:=gS3 h
     refine AW.SP Fm [.s,.s,.s,.s,.s,.s,.s,.s,.s,.s] [(0,ow 0),(3,vi a),(25,vb ((gl b a.toNat)==(gl b (a-1).toNat)))] [(0,AO b)] (cA y (cA (toNat_lt y) (cA (cT Y) (cA A (cT (toNat_lt A)))))) ?_
     refine AW.cN h (fun V h=>?_) (fun V h=>?_)
     ·obtain ⟨Z,h⟩:=gS h
      refine AW.SG Fm [.s,.s,.k (rE { v:=.v (.c (.sub 0 1 (0+(a).toNat) ((List.length (α:=Int) b)-(a).toNat))) }),.s] (fun K=>K 2∧True) [(0,ow 0),(3,vi a),(4,.v (.c (.sub 0 1 (0+(a).toNat) ((List.length (α:=Int) b)-(a).toNat))))] [(0,AO b)] ⟨KAt.vslice (l:=(some a)) (u:=none) (id:=0) (lo0:=0) (n:=(List.length (α:=Int) b)) (N:=List.length (α:=Int) b) (f:=LF (α:=Int) b) prog_lay slT22 rfl rfl (by kernel_rfl) (by kernel_rfl) (by kernel_rfl) (by kernel_rfl) (by kernel_rfl) Z (by kernel_rfl),⟨⟩⟩ ?_
      refine AW.join (r:=r) (fun z:Int×(List Int)=>slices_Compact_int_k3 F z.1 z.2) (fun z=>[(0,ow 0),(3,vi z.1)]) (fun z=>[(0,AO z.2)]) (fun z h=>?_) (fun s0 M=>?_)
      ·obtain ⟨d,o⟩:=z
       obtain ⟨m0,h⟩:=gS h
       refine AW.SW Fm [.s,.s,.k (rE { v:=.v (.c (.sub 0 1 (0+(d).toNat) ((List.length (α:=Int) o)-(d).toNat))) }),.k (rE { v:=.any,upd:=some (0,.arr 1 (List.length (α:=Int) o) (fun i=>if (0+(d).toNat)≤i∧i<(0+(d).toNat)+((List.length (α:=Int) o)-(d).toNat) then (fun _=>[.int .i64 0]) (i-(0+(d).toNat)) else (LF (α:=Int) o) i)) })] (fun K=>K 2∧K 3∧True) [(0,ow 0),(3,vi d)] [(0,AO (α:=Int) (clr o (0+(d).toNat) ((List.length (α:=Int) o)-(d).toNat)))] ⟨KAt.vslice (l:=(some d)) (u:=none) (id:=0) (lo0:=0) (n:=(List.length (α:=Int) o)) (N:=List.length (α:=Int) o) (f:=LF (α:=Int) o) prog_lay slT22 rfl rfl (by kernel_rfl) (by kernel_rfl) (by kernel_rfl) (by kernel_rfl) (by kernel_rfl) m0 (by kernel_rfl),KAt.vclear (id:=0) (lo0:=(0+(d).toNat)) (n:=((List.length (α:=Int) o)-(d).toNat)) (N:=List.length (α:=Int) o) (f:=(LF (α:=Int) o)) prog_lay slT22 [.int .i64 0] [.int .i64 0] ⟨DLe.refl _,⟨⟩⟩ rfl rfl (by kernel_rfl) (Nat.succ_pos _) (by kernel_rfl) (by kernel_rfl) (by kernel_rfl) (by kernel_rfl) rfl,⟨⟩⟩ [(0,.arr 1 (List.length (α:=Int) o) (fun i=>if (0+(d).toNat)≤i∧i<(0+(d).toNat)+((List.length (α:=Int) o)-(d).toNat) then (fun _=>[.int .i64 0]) (i-(0+(d).toNat)) else (LF (α:=Int) o) i))] ⟨OLe.is (Is.clr (l:=o) (0+(d).toNat) ((List.length (α:=Int) o)-(d).toNat) (zd:=[.int .i64 0]) (by kernel_rfl)),⟨⟩⟩ ?_
       obtain ⟨B,h⟩:=gS h
       refine AW.SV Fm [.s,.s,.m,.s] [(2,ow 59)] [(59,AO (α:=Int) ((clr o (0+(d).toNat) ((List.length (α:=Int) o)-(d).toNat)).take (d).toNat))] (cT B) [(59,.arr 1 ((d).toNat) (LF (α:=Int) (clr o (0+(d).toNat) ((List.length (α:=Int) o)-(d).toNat))))] ⟨OLe.is (Is.take (Is.refl (clr o (0+(d).toNat) ((List.length (α:=Int) o)-(d).toNat))) B.2),⟨⟩⟩ ?_
       refine AW.ret ?_
       obtain rfl:=Option.some.inj h
       exact Kn.re Fm [(100,59)] [(2,ow 100)] [(100,AO (α:=Int) ((clr o (0+(d).toNat) ((List.length (α:=Int) o)-(d).toNat)).take (d).toNat))] (by kernel_rfl) (by kernel_rfl) (by kernel_rfl) (by kernel_rfl) (Kn.dn Fm (by kernel_rfl))
      ·refine AW.SG0 Fm 1 [(0,ow 0),(3,vi a),(4,.v (.c (.sub 0 1 (0+(a).toNat) ((List.length (α:=Int) b)-(a).toNat)))),(5,vi 1)] [(0,AO b)] ?_
       refine AW.block (AW.loopF (E' := fun z=>[(0,ow 0),(3,vi z.1),(4,.v (.c (.sub 0 1 (0+(a).toNat) ((List.length (α:=Int) b)-(a).toNat)))),(5,vi z.2.1)]) (S' := fun z=>[(0,AO z.2.2)]) (fun H z p0 L h=>?_) h)
       obtain ⟨q,p,e⟩:=z
       refine AW.seq (AW.SG Fm [.s,.s,.k (rE { v:=vi ((((List.length (α:=Int) b)-(a).toNat):Nat):Int) }),.s] (fun K=>K 2∧True) [(0,ow 0),(3,vi q),(4,.v (.c (.sub 0 1 (0+(a).toNat) ((List.length (α:=Int) b)-(a).toNat)))),(5,vi p),(32,vb (decide (p<((((List.length (α:=Int) b)-(a).toNat):Nat):Int))))] [(0,AO e)] ⟨KAt.vlen (es:=1) (id:=0) (lo0:=(0+(a).toNat)) (n:=((List.length (α:=Int) b)-(a).toNat)) (N:=List.length (α:=Int) e) (f:=LF (α:=Int) e) prog_lay slT22 rfl rfl (by kernel_rfl) (by kernel_rfl) (by kernel_rfl),⟨⟩⟩ ?_)
       refine AW.cN h (fun W h=>?_) (fun W h=>?_)
       ·refine AW.skip (AW.join (r:=r) (fun z:Int×(List Int)=>slices_Compact_int_k2 F p H z.1 z.2) (fun z=>[(0,ow 0),(3,vi z.1),(4,.v (.c (.sub 0 1 (0+(a).toNat) ((List.length (α:=Int) b)-(a).toNat)))),(5,vi p)]) (fun z=>[(0,AO z.2)]) (fun z h=>?_) (fun q0 w=>?_))
        ·obtain ⟨D,E⟩:=z
         obtain ⟨l0,h⟩:=gS h
         refine AW.pN Fm [.s,.s,.s] [(0,ow 0),(3,vi D),(4,.v (.c (.sub 0 1 (0+(a).toNat) ((List.length (α:=Int) b)-(a).toNat)))),(5,vi (p+1))] [(0,AO E)] (cT (cT l0)) ?_
         exact Kn.R Fm (L (D,(p+1),E) h)
        ·refine AW.block ?_
         obtain ⟨a0,b0,c0,d0,h⟩:=gS4 h
         obtain ⟨e0,h⟩:=gS h
         refine AW.SG Fm [.s,.s,.k (rE { v:=.v (.c (.pte 0 1 ((0+(a).toNat)+(p).toNat) 0)) }),.s,.s,.s,.s,.k (rE { v:=.v (.c (.pte 0 1 ((0+(a).toNat)+((p-1)).toNat) 0)) }),.s,.s] (fun K=>K 2∧_∧(_∧True)∧K 7∧_∧True) [(0,ow 0),(3,vi q),(4,.v (.c (.sub 0 1 (0+(a).toNat) ((List.length (α:=Int) b)-(a).toNat)))),(5,vi p),(44,vb ((gl e ((0+(a).toNat)+(p).toNat)) != (gl e ((0+(a).toNat)+((p-1)).toNat))))] [(0,AO e)] ⟨KAt.vindex (m:=p) (id:=0) (lo0:=(0+(a).toNat)) (n:=((List.length (α:=Int) b)-(a).toNat)) (N:=List.length (α:=Int) e) (f:=LF (α:=Int) e) prog_lay slT22 rfl rfl (by kernel_rfl) (by kernel_rfl) (by kernel_rfl) (by kernel_rfl) a0 (by kernel_rfl),b0,⟨c0,⟨⟩⟩,KAt.vindex (m:=(p-1)) (id:=0) (lo0:=(0+(a).toNat)) (n:=((List.length (α:=Int) b)-(a).toNat)) (N:=List.length (α:=Int) e) (f:=LF (α:=Int) e) prog_lay slT22 rfl rfl (by kernel_rfl) (by kernel_rfl) (by kernel_rfl) (by kernel_rfl) d0 (by kernel_rfl),e0,⟨⟩⟩ ?_
         refine AW.cN h (fun X h=>?_) (fun X h=>?_)
         ·obtain ⟨i0,j0,t,h⟩:=gS3 h
          refine AW.SW Fm [.s,.s,.s,.s,.k (rE { v:=.v (.c (.pte 0 1 ((0+(a).toNat)+(p).toNat) 0)) }),.s,.s,.s] (fun K=>K 4∧_∧_∧_∧True) [(0,ow 0),(3,vi q),(4,.v (.c (.sub 0 1 (0+(a).toNat) ((List.length (α:=Int) b)-(a).toNat)))),(5,vi p)] [(0,AO (α:=Int) (List.set e q.toNat (gl e ((0+(a).toNat)+(p).toNat))))] ⟨KAt.vindex (m:=p) (id:=0) (lo0:=(0+(a).toNat)) (n:=((List.length (α:=Int) b)-(a).toNat)) (N:=List.length (α:=Int) e) (f:=LF (α:=Int) e) prog_lay slT22 rfl rfl (by kernel_rfl) (by kernel_rfl) (by kernel_rfl) (by kernel_rfl) i0 (by kernel_rfl),j0,t,(toNat_lt t),⟨⟩⟩ [(0,.arr 1 (List.length (α:=Int) e) (fun j=>if j=q.toNat then splice ((LF (α:=Int) e) q.toNat) 0 [.int .i64 (gl e ((0+(a).toNat)+(p).toNat))] else (LF (α:=Int) e) j))] ⟨OLe.is (Is.set (Is.refl e) (toNat_lt t) (gl e ((0+(a).toNat)+(p).toNat)) (by kernel_rfl)),⟨⟩⟩ ?_
          obtain ⟨k0,h⟩:=gS h
          refine AW.pN Fm [.s,.s,.s] [(0,ow 0),(3,vi (q+1)),(4,.v (.c (.sub 0 1 (0+(a).toNat) ((List.length (α:=Int) b)-(a).toNat)))),(5,vi p)] [(0,AO (α:=Int) (List.set e q.toNat (gl e ((0+(a).toNat)+(p).toNat))))] (cT (cT k0)) ?_
          exact Kn.R Fm (w ((q+1),(List.set e q.toNat (gl e ((0+(a).toNat)+(p).toNat)))) h)
         ·exact AW.skip (Kn.R Fm (w (q,e) h))
       ·exact AW.exit (Kn.R Fm (M (q,e) h))
     ·exact AW.skip (Kn.R Fm (O () h))
   ·exact AW.exit (Kn.R Fm (P () h))
theorem region_Cuts_spec {F:Nat} {a:(List (List Rect))} {r:(List Int)} (h:region_Cuts F a=some r) :
  FSpec Tryz.prog 188 [AL a] [] (AL (α:=Int) r) []:=by
 refine FI Tryz.func188 prog_mixed prog_lay fun C Fm=>?_
 unfold region_Cuts at h
 refine AW.SG0 Fm 1 [(0,AL a)] [] ?_
 refine AW.SW Fm [.m] (fun K=>True) [(0,AL a),(3,ow 3)] [(3,AO (α:=Int) ([]:List Int))] True.intro [(3,.arr 1 (0) (fun _=>[]))] ⟨OLe.is ((Is.nil (α:=Int))),⟨⟩⟩ ?_
 refine AW.join (r:=r) (fun z:(List Int)=>region_Cuts_k3 F z) (fun z=>[(3,ow 3)]) (fun z=>[(3,AO z)]) (fun P h=>?_) (fun W y=>?_)
 ·refine AW.seq ?_
  obtain ⟨n,N,h⟩:=bS h
  refine AW.G Fm [.s,.k (cE [(0,3)] [] (.any) [(0,AO P)] [(0,AO n)])] (fun K=>K 1∧True) [(3,ow 3)] [(3,AO n)] ⟨KAt.CC (sortI_spec N) Tryz.call214 [(0,3)],⟨⟩⟩ ?_
  refine AW.seq ?_
  obtain ⟨l,O,h⟩:=bS h
  refine AW.G Fm [.s,.k (cE [(0,3),(100,32)] [] (ow 100) [(0,AO n)] [(100,AO l)]),.s] (fun K=>K 1∧True) [(2,ow 32)] [(32,AO l)] ⟨KAt.CC (slices_Compact_int_spec O) Tryz.call241 [(0,3),(100,32)],⟨⟩⟩ ?_
  refine AW.ret ?_
  obtain rfl:=Option.some.inj h
  refine Kn.r Fm [(2,ow 32)] [(32,AO l)] (by kernel_rfl) ?_
  refine Kn.frz [(2,AL l)] [] (by kernel_rfl) (by kernel_rfl) (by kernel_rfl) ?_
  exact Kn.D Fm
 ·refine AW.SG0 Fm 3 [(3,ow 3),(8,AL a),(9,vi (lI a)),(10,vi 0)] [(3,AO (α:=Int) ([]:List Int))] ?_
  refine AW.block (Kn.r Fm [(3,ow 3),(8,AL a),(9,vi (lI a)),(10,vi 0)] [(3,AO ([]:List Int))] (by kernel_rfl) ?_)
  refine AW.loopF (E' := fun z=>[(3,ow 3),(8,AL a),(9,vi (lI a)),(10,vi z.1)]) (S' := fun z=>[(3,AO z.2)]) (fun p z T q h=>?_) h
  obtain ⟨b,j⟩:=z
  refine AW.SG0 Fm 1 [(3,ow 3),(8,AL a),(9,vi (lI a)),(10,vi b),(11,vb (decide (b<(lI a))))] [(3,AO j)] ?_
  refine AW.seq (AW.cN h (fun A h=>?_) (fun A h=>?_))
  ·refine AW.skip (AW.join (r:=r) (fun z:(List Int)=>region_Cuts_k2 F b p z) (fun z=>[(3,ow 3),(8,AL a),(9,vi (lI a)),(10,vi b)]) (fun z=>[(3,AO z)]) (fun o h=>?_) (fun V u=>?_))
   ·obtain ⟨M,h⟩:=gS h
    refine AW.pN Fm [.s,.s] [(3,ow 3),(8,AL a),(9,vi (lI a)),(10,vi (b+1))] [(3,AO o)] (cT (cT M)) ?_
    exact Kn.R Fm (q ((b+1),o) h)
   ·refine AW.block ?_
    obtain ⟨E,h⟩:=gS h
    refine AW.SP Fm [.s,.s,.s] [(3,ow 3),(5,AL (α:=Rect) (gl a b.toNat)),(8,AL a),(9,vi (lI a)),(10,vi b)] [(3,AO j)] (cT E) ?_
    refine AW.SG0 Fm 3 [(3,ow 3),(8,AL a),(9,vi (lI a)),(10,vi b),(14,AL (α:=Rect) (gl a b.toNat)),(15,vi (lI (gl a b.toNat))),(16,vi 0)] [(3,AO j)] ?_
    refine AW.block (AW.loopF (E' := fun z=>[(3,ow 3),(8,AL a),(9,vi (lI a)),(10,vi b),(14,AL (α:=Rect) (gl a b.toNat)),(15,vi (lI (gl a b.toNat))),(16,vi z.1)]) (S' := fun z=>[(3,AO z.2)]) (fun X z U t h=>?_) h)
    obtain ⟨e,i⟩:=z
    refine AW.SG0 Fm 1 [(3,ow 3),(8,AL a),(9,vi (lI a)),(10,vi b),(14,AL (α:=Rect) (gl a b.toNat)),(15,vi (lI (gl a b.toNat))),(16,vi e),(17,vb (decide (e<(lI (gl a b.toNat)))))] [(3,AO i)] ?_
    refine AW.seq (AW.cN h (fun B h=>?_) (fun B h=>?_))
    ·refine AW.skip (AW.seq (AW.block ?_))
     obtain ⟨H,h⟩:=gS h
     refine AW.SP Fm [.s,.s,.s,.s] [(3,ow 3),(7,pt 7),(8,AL a),(9,vi (lI a)),(10,vi b),(14,AL (α:=Rect) (gl a b.toNat)),(15,vi (lI (gl a b.toNat))),(16,vi e)] [(3,AO i),(7,bx [ci ((gl (gl a b.toNat) e.toNat).left_),ci ((gl (gl a b.toNat) e.toNat).low_),ci ((gl (gl a b.toNat) e.toNat).right_),ci ((gl (gl a b.toNat) e.toNat).high_)])] (cT H) ?_
     obtain ⟨I,h⟩:=gS h
     refine AW.WP Fm [.s,.s,.s,.s,.s,.w (AL (α:=Int) ([(gl (gl a b.toNat) e.toNat).low_,(gl (gl a b.toNat) e.toNat).high_]:List Int)),.s,.s] [(3,ow 26),(8,AL a),(9,vi (lI a)),(10,vi b),(14,AL (α:=Rect) (gl a b.toNat)),(15,vi (lI (gl a b.toNat))),(16,vi e)] [(26,AO (α:=Int) (i++([(gl (gl a b.toNat) e.toNat).low_,(gl (gl a b.toNat) e.toNat).high_]:List Int)))] (cA (ALe.lst (.lit ([(gl (gl a b.toNat) e.toNat).low_,(gl (gl a b.toNat) e.toNat).high_]:List Int) (by kernel_rfl)):ALe (.v (.c (.d (.lst 2 (litF 1 [.int .i64 (gl (gl a b.toNat) e.toNat).low_,.int .i64 (gl (gl a b.toNat) e.toNat).high_]))))) (AL (α:=Int) ([(gl (gl a b.toNat) e.toNat).low_,(gl (gl a b.toNat) e.toNat).high_]:List Int))) (cT (cA I (cT (Is.refl ([(gl (gl a b.toNat) e.toNat).low_,(gl (gl a b.toNat) e.toNat).high_]:List Int):Is (List.length (α:=Int) ([(gl (gl a b.toNat) e.toNat).low_,(gl (gl a b.toNat) e.toNat).high_]:List Int)) (LF (α:=Int) ([(gl (gl a b.toNat) e.toNat).low_,(gl (gl a b.toNat) e.toNat).high_]:List Int)) ([(gl (gl a b.toNat) e.toNat).low_,(gl (gl a b.toNat) e.toNat).high_]:List Int)).len)))) [(26,.arr 1 ((List.length (α:=Int) i)+(List.length (α:=Int) ([(gl (gl a b.toNat) e.toNat).low_,(gl (gl a b.toNat) e.toNat).high_]:List Int))) (appF (List.length (α:=Int) i) (LF (α:=Int) i) (LF (α:=Int) ([(gl (gl a b.toNat) e.toNat).low_,(gl (gl a b.toNat) e.toNat).high_]:List Int))))] ⟨OLe.is (Is.app (Is.refl i) (Is.refl ([(gl (gl a b.toNat) e.toNat).low_,(gl (gl a b.toNat) e.toNat).high_]:List Int))),⟨⟩⟩ ?_
     obtain ⟨L,h⟩:=gS h
     refine AW.pN Fm [.s,.s] [(3,ow 26),(8,AL a),(9,vi (lI a)),(10,vi b),(14,AL (α:=Rect) (gl a b.toNat)),(15,vi (lI (gl a b.toNat))),(16,vi (e+1))] [(26,AO (α:=Int) (i++([(gl (gl a b.toNat) e.toNat).low_,(gl (gl a b.toNat) e.toNat).high_]:List Int)))] (cT (cT L)) ?_
     exact Kn.RE Fm [(3,26)] (t ((e+1),(i++([(gl (gl a b.toNat) e.toNat).low_,(gl (gl a b.toNat) e.toNat).high_]:List Int))) h)
    ·exact AW.exit (Kn.R Fm (u i h))
  ·exact AW.exit (Kn.R Fm (y j h))
theorem cmp_isNaN_int_spec {F:Nat} {a:Int} {r:Bool} (h:cmp_isNaN_int F a=some r) :
  FSpec Tryz.prog 256 [vi a] [] (vb r) []:=by
 refine FI Tryz.func256 prog_mixed prog_lay fun C Fm=>?_
 unfold cmp_isNaN_int at h
 refine AW.SG0 Fm 1 [(0,vi a)] [] ?_
 refine AW.SG0 Fm 4 [(2,vb (a != a))] [] ?_
 refine AW.ret ?_
 obtain rfl:=Option.some.inj h
 exact Kn.D Fm
theorem cmp_Compare_int_spec {F:Nat} {a:Int} {b:Int} {r:Int} (h:cmp_Compare_int F a b=some r) :
  FSpec Tryz.prog 197 [vi a,vi b] [] (vi r) []:=by
 refine FI Tryz.func197 prog_mixed prog_lay fun C Fm=>?_
 unfold cmp_Compare_int at h
 refine AW.SG0 Fm 1 [(0,vi a),(1,vi b)] [] ?_
 refine AW.seq ?_
 obtain ⟨d,n,h⟩:=bS h
 refine AW.G Fm [.s,.k (cE [] [] (vb d) [] []),.s] (fun K=>K 1∧True) [(0,vi a),(1,vi b),(5,vb d)] [] ⟨KAt.CC (cmp_isNaN_int_spec n) Tryz.call256 [],⟨⟩⟩ ?_
 refine AW.seq ?_
 obtain ⟨c,o,h⟩:=bS h
 refine AW.G Fm [.s,.k (cE [] [] (vb c) [] []),.s] (fun K=>K 1∧True) [(0,vi a),(1,vi b),(5,vb d),(6,vb c)] [] ⟨KAt.CC (cmp_isNaN_int_spec o) Tryz.call256 [],⟨⟩⟩ ?_
 refine AW.seq (AW.SG0 Fm 1 [(0,vi a),(1,vi b),(6,vb c),(11,vb d)] [] ?_)
 refine AW.cN h (fun e h=>?_) (fun e h=>?_)
 ·refine AW.seq (AW.SG0 Fm 1 [(12,vb c)] [] ?_)
  refine AW.cN h (fun i h=>?_) (fun i h=>?_)
  ·refine AW.SG0 Fm 1 [(4,vi 0)] [] ?_
   refine AW.ret ?_
   obtain rfl:=Option.some.inj h
   exact Kn.D Fm
  ·refine AW.skip (AW.SG0 Fm 1 [(4,vi (-1:Int))] [] ?_)
   refine AW.ret ?_
   obtain rfl:=Option.some.inj h
   exact Kn.D Fm
 ·refine AW.skip (AW.seq (AW.SG0 Fm 1 [(0,vi a),(1,vi b),(13,vb c)] [] ?_))
  refine AW.cN h (fun j h=>?_) (fun j h=>?_)
  ·refine AW.SG0 Fm 1 [(4,vi 1)] [] ?_
   refine AW.ret ?_
   obtain rfl:=Option.some.inj h
   exact Kn.D Fm
  ·refine AW.skip (AW.seq (AW.SG0 Fm 3 [(0,vi a),(1,vi b),(16,vb (decide (a<b)))] [] ?_))
   refine AW.cN h (fun l h=>?_) (fun l h=>?_)
   ·refine AW.SG0 Fm 1 [(4,vi (-1:Int))] [] ?_
    refine AW.ret ?_
    obtain rfl:=Option.some.inj h
    exact Kn.D Fm
   ·refine AW.skip (AW.seq (AW.SG0 Fm 3 [(19,vb (decide (b<a)))] [] ?_))
    refine AW.cN h (fun m h=>?_) (fun m h=>?_)
    ·refine AW.SG0 Fm 1 [(4,vi 1)] [] ?_
     refine AW.ret ?_
     obtain rfl:=Option.some.inj h
     exact Kn.D Fm
    ·refine AW.skip (AW.SG0 Fm 1 [(4,vi 0)] [] ?_)
     refine AW.ret ?_
     obtain rfl:=Option.some.inj h
     exact Kn.D Fm
theorem region_Row_1_spec {F:Nat} {a:Span} {b:Span} {r:Int} (h:region_Row_1 F a b=some r) :
  FSpec Tryz.prog 245 [gE a,gE b] [] (vi r) []:=by
 refine FI Tryz.func245 prog_mixed prog_lay fun C Fm=>?_
 unfold region_Row_1 at h
 refine AW.SG0 Fm 3 [(2,pt 2),(3,pt 3)] [(2,bx (gC a)),(3,bx (gC b))] ?_
 refine AW.seq ?_
 obtain ⟨c,d,h⟩:=bS h
 refine AW.G Fm [.s,.s,.s,.s,.k (cE [] [] (vi c) [] []),.s] (fun K=>K 4∧True) [(4,vi c)] [] ⟨KAt.CC (cmp_Compare_int_spec d) Tryz.call197 [],⟨⟩⟩ ?_
 refine AW.ret ?_
 obtain rfl:=Option.some.inj h
 exact Kn.D Fm
theorem region_Row_spec {F:Nat} {a:(List Rect)} {n:Int} {r:(List Span)} (h:region_Row F a n=some r) :
  FSpec Tryz.prog 191 [AL a,vi n] [] (AL (α:=Span) r) []:=by
 refine FI Tryz.func191 prog_mixed prog_lay fun C Fm=>?_
 unfold region_Row at h
 refine AW.SG0 Fm 1 [(0,AL a),(1,vi n)] [] ?_
 refine AW.SW Fm [.m] (fun K=>True) [(0,AL a),(1,vi n),(5,ow 5)] [(5,AO (α:=Span) ([]:List Span))] True.intro [(5,.arr 2 (0) (fun _=>[]))] ⟨OLe.is ((Is.nil (α:=Span))),⟨⟩⟩ ?_
 refine AW.join (r:=r) (fun z:(List Span)=>region_Row_k3 F z) (fun z=>[(5,ow 5)]) (fun z=>[(5,AO z)]) (fun p0 h=>?_) (fun u0 W=>?_)
 ·refine AW.seq ?_
  obtain ⟨b,o0,h⟩:=bS h
  refine AW.G Fm [.s,.k (cE [(0,5)] [] (.any) [(0,AO p0)] [(0,AO b)])] (fun K=>K 1∧True) [(5,ow 5)] [(5,AO b)] ⟨KAt.callX (sortF_spec o0) Tryz.call244 [(0,5)] [] [.tmp 37,.func 245] rfl (by kernel_rfl) (by kernel_rfl) (by kernel_rfl) ⟨.p,ArgT.cloX Tryz.call245 [] (fun args r hq=>by obtain ⟨y0,y1,y,hq,rfl,rfl⟩:=hq; exact Eq.mp (by kernel_rfl) (region_Row_1_spec hq)) (fun args r hq=>by obtain ⟨y0,y1,y,hq,rfl,rfl⟩:=hq; rfl) (by kernel_rfl) [] (by kernel_rfl) (by kernel_rfl) (True.intro) (by kernel_rfl),⟨⟩⟩,⟨⟩⟩ ?_
  refine AW.SW Fm [.m] (fun K=>True) [(5,ow 5),(8,ow 8)] [(5,AO b),(8,AO (α:=Span) ([]:List Span))] True.intro [(8,.arr 2 (0) (fun _=>[]))] ⟨OLe.is ((Is.nil (α:=Span))),⟨⟩⟩ ?_
  refine AW.join (r:=r) (fun z:(List Span)=>region_Row_k7 F z) (fun z=>[(8,ow 8)]) (fun z=>[(8,AO z)]) (fun A h=>?_) (fun D0 Y=>?_)
  ·refine AW.SG0 Fm 2 [(4,ow 8)] [(8,AO A)] ?_
   refine AW.ret ?_
   obtain rfl:=Option.some.inj h
   refine Kn.r Fm [(4,ow 8)] [(8,AO A)] (by kernel_rfl) ?_
   refine Kn.frz [(4,AL A)] [] (by kernel_rfl) (by kernel_rfl) (by kernel_rfl) ?_
   exact Kn.D Fm
  ·refine AW.SG0 Fm 3 [(8,ow 8),(39,ow 5),(40,vi (lI b)),(41,vi 0)] [(5,AO b),(8,AO (α:=Span) ([]:List Span))] ?_
   refine AW.block (Kn.r Fm [(8,ow 8),(39,ow 5),(40,vi (lI b)),(41,vi 0)] [(5,AO b),(8,AO ([]:List Span))] (by kernel_rfl) ?_)
   refine AW.loopF (E' := fun z=>[(8,ow 8),(39,ow 5),(40,vi (lI b)),(41,vi z.1)]) (S' := fun z=>[(5,AO b),(8,AO z.2)]) (fun E z w0 X h=>?_) h
   obtain ⟨l,i⟩:=z
   refine AW.SG0 Fm 1 [(8,ow 8),(39,ow 5),(40,vi (lI b)),(41,vi l),(42,vb (decide (l<(lI b))))] [(5,AO b),(8,AO i)] ?_
   refine AW.seq (AW.cN h (fun b0 h=>?_) (fun b0 h=>?_))
   ·refine AW.skip (AW.join (r:=r) (fun z:(List Span)=>region_Row_k6 F l E z) (fun z=>[(8,ow 8),(39,ow 5),(40,vi (lI b)),(41,vi l)]) (fun z=>[(5,AO b),(8,AO z)]) (fun U h=>?_) (fun B0 M=>?_))
    ·obtain ⟨n0,h⟩:=gS h
     refine AW.pN Fm [.s,.s] [(8,ow 8),(39,ow 5),(40,vi (lI b)),(41,vi (l+1))] [(5,AO b),(8,AO U)] (cT (cT n0)) ?_
     exact Kn.R Fm (X ((l+1),U) h)
    ·refine AW.block ?_
     obtain ⟨N,h⟩:=gS h
     refine AW.SP Fm [.s,.s,.s,.s] [(8,ow 8),(10,pt 10),(39,ow 5),(40,vi (lI b)),(41,vi l)] [(5,AO b),(8,AO i),(10,bx [ci ((gl b l.toNat).left_),ci ((gl b l.toNat).right_)])] (cA N (cT (toNat_lt N))) ?_
     refine AW.SG0 Fm 3 [(8,ow 8),(10,pt 10),(11,vi (lI i)),(39,ow 5),(40,vi (lI b)),(41,vi l)] [(5,AO b),(8,AO i),(10,bx [ci ((gl b l.toNat).left_),ci ((gl b l.toNat).right_)])] ?_
     refine AW.join (r:=r) (fun z:Bool=>region_Row_k5 F b l i E z) (fun z=>[(8,ow 8),(10,pt 10),(11,vi (lI i)),(39,ow 5),(40,vi (lI b)),(41,vi l),(59,vb z)]) (fun z=>[(5,AO b),(8,AO i),(10,bx [ci ((gl b l.toNat).left_),ci ((gl b l.toNat).right_)])]) (fun G0 h=>?_) (fun A0 L=>?_)
     ·refine AW.cN h (fun c0 h=>?_) (fun c0 h=>?_)
      ·obtain ⟨k0,l0,P,u,h⟩:=gS4 h
       refine AW.WP Fm [.s,.s,.s,.s,.s,.s,.s,.s,.s,.s,.s,.s,.s,.s,.s] [(8,ow 8),(39,ow 5),(40,vi (lI b)),(41,vi l)] [(5,AO b),(8,AO (α:=Span) (List.set i ((lI i)-1).toNat (⟨(gl i ((lI i)-1).toNat).left_,(gmax ((gl i ((lI i)-1).toNat).right_) ((gl b l.toNat).right_))⟩ : Span)))] (cA (cT k0) (cA (cT l0) (cA P (cA (toNat_lt P) (cA u (cT (toNat_lt u))))))) [(8,.arr 2 (List.length (α:=Span) i) (fun j=>if j=((lI i)-1).toNat then splice ((LF (α:=Span) i) ((lI i)-1).toNat) 1 [.int .i64 (gmax ((gl i ((lI i)-1).toNat).right_) ((gl b l.toNat).right_))] else (LF (α:=Span) i) j))] ⟨OLe.is (Is.set (Is.refl i) (toNat_lt u) (⟨(gl i ((lI i)-1).toNat).left_,(gmax ((gl i ((lI i)-1).toNat).right_) ((gl b l.toNat).right_))⟩ : Span) (by kernel_rfl)),⟨⟩⟩ ?_
       exact Kn.R Fm (M (List.set i ((lI i)-1).toNat (⟨(gl i ((lI i)-1).toNat).left_,(gmax ((gl i ((lI i)-1).toNat).right_) ((gl b l.toNat).right_))⟩ : Span)) h)
      ·obtain ⟨m0,h⟩:=gS h
       refine AW.WP Fm [.s,.s,.w (AL (α:=Span) ([(gl b l.toNat)]:List Span)),.s,.s] [(8,ow 77),(39,ow 5),(40,vi (lI b)),(41,vi l)] [(5,AO b),(77,AO (α:=Span) (i++([(gl b l.toNat)]:List Span)))] (cA (ALe.lst (.lit ([(gl b l.toNat)]:List Span) (by kernel_rfl)):ALe (.v (.c (.d (.lst 1 (litF 2 [.int .i64 (gl b l.toNat).left_,.int .i64 (gl b l.toNat).right_]))))) (AL (α:=Span) ([(gl b l.toNat)]:List Span))) (cT (cA m0 (cT (Is.refl ([(gl b l.toNat)]:List Span):Is (List.length (α:=Span) ([(gl b l.toNat)]:List Span)) (LF (α:=Span) ([(gl b l.toNat)]:List Span)) ([(gl b l.toNat)]:List Span)).len)))) [(77,.arr 2 ((List.length (α:=Span) i)+(List.length (α:=Span) ([(gl b l.toNat)]:List Span))) (appF (List.length (α:=Span) i) (LF (α:=Span) i) (LF (α:=Span) ([(gl b l.toNat)]:List Span))))] ⟨OLe.is (Is.app (Is.refl i) (Is.refl ([(gl b l.toNat)]:List Span))),⟨⟩⟩ ?_
       exact Kn.RE Fm [(8,77)] (M (i++([(gl b l.toNat)]:List Span)) h)
     ·rcases br_or h with ⟨t,h⟩|⟨t,h⟩
      ·obtain ⟨j0,O,h⟩:=gS2 h
       refine AW.pN Fm [.s,.s,.w (vb true),.s,.s,.s,.s,.s,.s,.s,.s,.s,.s] [(8,ow 8),(10,pt 10),(11,vi (lI i)),(39,ow 5),(40,vi (lI b)),(41,vi l),(50,pt 10),(51,vi (gl b l.toNat).left_),(52,ow 8),(53,vi (lI i)),(54,vi ((lI i)-1)),(55,.v (.c (.pte 8 2 (((lI i)-1).toNat) 0))),(56,.v (.c (.pte 8 2 (((lI i)-1).toNat) 1))),(57,vi (gl i ((lI i)-1).toNat).right_),(58,vb (decide (((gl b l.toNat).left_)≤((gl i ((lI i)-1).toNat).right_)))),(59,vb (decide (((gl b l.toNat).left_)≤((gl i ((lI i)-1).toNat).right_))))] [(5,AO b),(8,AO i),(10,bx [ci ((gl b l.toNat).left_),ci ((gl b l.toNat).right_)])] (cA (ALe.bool t) (cA (cT j0) (cA O (cT (toNat_lt O))))) ?_
       exact Kn.R Fm (L (decide (((gl b l.toNat).left_)≤((gl i ((lI i)-1).toNat).right_))) h)
      ·refine AW.pN Fm [.s,.s,.w (vb false),.s,.s,.s,.s,.s,.s,.s,.s,.s,.s] [(8,ow 8),(10,pt 10),(11,vi (lI i)),(39,ow 5),(40,vi (lI b)),(41,vi l),(59,vb false)] [(5,AO b),(8,AO i),(10,bx [ci ((gl b l.toNat).left_),ci ((gl b l.toNat).right_)])] (cT (ALe.bool t)) ?_
       exact Kn.R Fm (L false h)
   ·exact AW.exit (Kn.R Fm (Y i h))
 ·refine AW.SG0 Fm 3 [(1,vi n),(5,ow 5),(12,AL a),(13,vi (lI a)),(14,vi 0)] [(5,AO (α:=Span) ([]:List Span))] ?_
  refine AW.block (Kn.r Fm [(1,vi n),(5,ow 5),(12,AL a),(13,vi (lI a)),(14,vi 0)] [(5,AO ([]:List Span))] (by kernel_rfl) ?_)
  refine AW.loopF (E' := fun z=>[(1,vi n),(5,ow 5),(12,AL a),(13,vi (lI a)),(14,vi z.1)]) (S' := fun z=>[(5,AO z.2)]) (fun B z q0 V h=>?_) h
  obtain ⟨e,o⟩:=z
  refine AW.SG0 Fm 1 [(1,vi n),(5,ow 5),(12,AL a),(13,vi (lI a)),(14,vi e),(15,vb (decide (e<(lI a))))] [(5,AO o)] ?_
  refine AW.seq (AW.cN h (fun Z h=>?_) (fun Z h=>?_))
  ·refine AW.skip (AW.join (r:=r) (fun z:(List Span)=>region_Row_k2 F e B z) (fun z=>[(1,vi n),(5,ow 35),(12,AL a),(13,vi (lI a)),(14,vi e)]) (fun z=>[(35,AO z)]) (fun T h=>?_) (fun t0 I=>?_))
   ·obtain ⟨i0,h⟩:=gS h
    refine AW.pN Fm [.s,.s] [(1,vi n),(5,ow 35),(12,AL a),(13,vi (lI a)),(14,vi (e+1))] [(35,AO T)] (cT (cT i0)) ?_
    exact Kn.RE Fm [(5,35)] (V ((e+1),T) h)
   ·refine AW.block ?_
    obtain ⟨d0,h⟩:=gS h
    refine AW.SP Fm [.s,.s,.s,.s] [(1,vi n),(5,ow 5),(7,pt 7),(12,AL a),(13,vi (lI a)),(14,vi e)] [(5,AO o),(7,bx [ci ((gl a e.toNat).left_),ci ((gl a e.toNat).low_),ci ((gl a e.toNat).right_),ci ((gl a e.toNat).high_)])] (cT d0) ?_
    refine AW.join (r:=r) (fun z:Bool=>region_Row_k1 F a e o B z) (fun z=>[(1,vi n),(5,ow 5),(7,pt 7),(12,AL a),(13,vi (lI a)),(14,vi e),(27,vb z)]) (fun z=>[(5,AO o),(7,bx [ci ((gl a e.toNat).left_),ci ((gl a e.toNat).low_),ci ((gl a e.toNat).right_),ci ((gl a e.toNat).high_)])]) (fun E0 h=>?_) (fun s0 H=>?_)
    ·refine AW.cN h (fun a0 h=>?_) (fun a0 h=>?_)
     ·obtain ⟨e0,h⟩:=gS h
      refine AW.WP Fm [.s,.s,.s,.s,.s,.s,.w (AL (α:=Span) ([(⟨(gl a e.toNat).left_,(gl a e.toNat).right_⟩ : Span)]:List Span)),.s,.s] [(1,vi n),(5,ow 35),(12,AL a),(13,vi (lI a)),(14,vi e)] [(35,AO (α:=Span) (o++([(⟨(gl a e.toNat).left_,(gl a e.toNat).right_⟩ : Span)]:List Span)))] (cA (ALe.lst (.lit ([(⟨(gl a e.toNat).left_,(gl a e.toNat).right_⟩ : Span)]:List Span) (by kernel_rfl)):ALe (.v (.c (.d (.lst 1 (litF 2 [.int .i64 (gl a e.toNat).left_,.int .i64 (gl a e.toNat).right_]))))) (AL (α:=Span) ([(⟨(gl a e.toNat).left_,(gl a e.toNat).right_⟩ : Span)]:List Span))) (cT (cA e0 (cT (Is.refl ([(⟨(gl a e.toNat).left_,(gl a e.toNat).right_⟩ : Span)]:List Span):Is (List.length (α:=Span) ([(⟨(gl a e.toNat).left_,(gl a e.toNat).right_⟩ : Span)]:List Span)) (LF (α:=Span) ([(⟨(gl a e.toNat).left_,(gl a e.toNat).right_⟩ : Span)]:List Span)) ([(⟨(gl a e.toNat).left_,(gl a e.toNat).right_⟩ : Span)]:List Span)).len)))) [(35,.arr 2 ((List.length (α:=Span) o)+(List.length (α:=Span) ([(⟨(gl a e.toNat).left_,(gl a e.toNat).right_⟩ : Span)]:List Span))) (appF (List.length (α:=Span) o) (LF (α:=Span) o) (LF (α:=Span) ([(⟨(gl a e.toNat).left_,(gl a e.toNat).right_⟩ : Span)]:List Span))))] ⟨OLe.is (Is.app (Is.refl o) (Is.refl ([(⟨(gl a e.toNat).left_,(gl a e.toNat).right_⟩ : Span)]:List Span))),⟨⟩⟩ ?_
      exact Kn.R Fm (I (o++([(⟨(gl a e.toNat).left_,(gl a e.toNat).right_⟩ : Span)]:List Span)) h)
     ·exact AW.skip (Kn.RE Fm [(35,5)] (I o h))
    ·rcases br_or h with ⟨q,h⟩|⟨q,h⟩
     ·refine AW.pN Fm [.s,.s,.s,.s,.w (vb true),.s,.s,.s,.s,.s] [(1,vi n),(5,ow 5),(7,pt 7),(12,AL a),(13,vi (lI a)),(14,vi e),(23,vi n),(24,.v (.c (.ptr 7 3))),(25,vi (gl a e.toNat).high_),(26,vb (decide (n<((gl a e.toNat).high_)))),(27,vb (decide (n<((gl a e.toNat).high_))))] [(5,AO o),(7,bx [ci ((gl a e.toNat).left_),ci ((gl a e.toNat).low_),ci ((gl a e.toNat).right_),ci ((gl a e.toNat).high_)])] (cT (ALe.bool q)) ?_
      exact Kn.R Fm (H (decide (n<((gl a e.toNat).high_))) h)
     ·refine AW.pN Fm [.s,.s,.s,.s,.w (vb false),.s,.s,.s,.s,.s] [(1,vi n),(5,ow 5),(7,pt 7),(12,AL a),(13,vi (lI a)),(14,vi e),(27,vb false)] [(5,AO o),(7,bx [ci ((gl a e.toNat).left_),ci ((gl a e.toNat).low_),ci ((gl a e.toNat).right_),ci ((gl a e.toNat).high_)])] (cT (ALe.bool q)) ?_
      exact Kn.R Fm (H false h)
  ·exact AW.exit (Kn.R Fm (W o h))
theorem region_canonical_1_spec {F:Nat} {b:Int} {a:(List Rect)} {r:(List Span)} (h:region_canonical_1 F b a=some r) :
  FSpec Tryz.prog 238 [vi b,pt 0] [(0,.box true [.d (DL a)])] (AL (α:=Span) r) [(0,.box true [.d (DL a)])]:=by
 refine FI Tryz.func238 prog_mixed prog_lay fun C Fm=>?_
 unfold region_canonical_1 at h
 refine AW.SG0 Fm 1 [(0,vi b),(1,pt 0)] [(0,.box true [.d (DL a)])] ?_
 refine AW.seq ?_
 obtain ⟨c,e,h⟩:=bS h
 refine AW.G Fm [.s,.s,.k (cE [] [] (AL c) [] []),.s] (fun K=>K 2∧True) [(3,AL c)] [(0,.box true [.d (DL a)])] ⟨KAt.CC (region_Row_spec e) Tryz.call191 [],⟨⟩⟩ ?_
 refine AW.ret ?_
 obtain rfl:=Option.some.inj h
 exact Kn.D Fm
theorem slices_Equal_Span_spec {F:Nat} {a:(List Span)} {d:(List Span)} {r:Bool} (h:slices_Equal_Span F a d=some r) :
  FSpec Tryz.prog 239 [AL a,AL d] [] (vb r) []:=by
 refine FI Tryz.func239 prog_mixed prog_lay fun C Fm=>?_
 unfold slices_Equal_Span at h
 refine AW.SG0 Fm 1 [(0,AL a),(1,AL d)] [] ?_
 refine AW.seq (AW.SG0 Fm 5 [(0,AL a),(1,AL d),(10,vb ((lI a) != (lI d)))] [] ?_)
 refine AW.cN h (fun j h=>?_) (fun j h=>?_)
 ·refine AW.SG0 Fm 1 [(4,vb false)] [] ?_
  refine AW.ret ?_
  obtain rfl:=Option.some.inj h
  exact Kn.D Fm
 ·refine AW.skip (AW.join (r:=r) (fun z:Unit=>slices_Equal_Span_k1 F) (fun z=>[]) (fun z=>[]) (fun z h=>?_) (fun t i=>?_))
  ·refine AW.SG0 Fm 1 [(4,vb true)] [] ?_
   refine AW.ret ?_
   obtain rfl:=Option.some.inj h
   exact Kn.D Fm
  ·refine AW.SG0 Fm 3 [(0,AL a),(1,AL d),(12,vi (lI a)),(13,vi 0)] [] ?_
   refine AW.block (AW.loopF (E' := fun z=>[(0,AL a),(1,AL d),(12,vi (lI a)),(13,vi z)]) (S' := fun z=>[]) (fun u c q e h=>?_) h)
   refine AW.SG0 Fm 1 [(0,AL a),(1,AL d),(12,vi (lI a)),(13,vi c),(14,vb (decide (c<(lI a))))] [] ?_
   refine AW.seq (AW.cN h (fun l h=>?_) (fun l h=>?_))
   ·refine AW.skip (AW.seq (AW.block (AW.SG0 Fm 2 [(0,AL a),(1,AL d),(5,vi c),(12,vi (lI a)),(13,vi c)] [] ?_)))
    obtain ⟨n,o,h⟩:=gS2 h
    refine AW.SG Fm [.s,.s,.s,.s,.s,.s,.s,.s,.k (sE (vb (!((((gl a c.toNat).left_)==((gl d c.toNat).left_))&&((((gl a c.toNat).right_)==((gl d c.toNat).right_))&&true)))))] (fun K=>_∧_∧K 8∧True) [(0,AL a),(1,AL d),(12,vi (lI a)),(13,vi c),(24,vb (!((((gl a c.toNat).left_)==((gl d c.toNat).left_))&&((((gl a c.toNat).right_)==((gl d c.toNat).right_))&&true))))] [] ⟨n,o,KAt.eq (xs:=[ci ((gl a c.toNat).left_),ci ((gl a c.toNat).right_)]) (ys:=[ci ((gl d c.toNat).left_),ci ((gl d c.toNat).right_)]) eqT237 false (b:=((((gl a c.toNat).left_)==((gl d c.toNat).left_))&&((((gl a c.toNat).right_)==((gl d c.toNat).right_))&&true))) rfl rfl (by kernel_rfl) (by kernel_rfl) (by kernel_rfl) (by kernel_rfl),⟨⟩⟩ ?_
    refine AW.cN h (fun m h=>?_) (fun m h=>?_)
    ·refine AW.SG0 Fm 1 [(4,vb false)] [] ?_
     refine AW.ret ?_
     obtain rfl:=Option.some.inj h
     exact Kn.D Fm
    ·refine AW.skip ?_
     obtain ⟨p,h⟩:=gS h
     refine AW.pN Fm [.s,.s] [(0,AL a),(1,AL d),(12,vi (lI a)),(13,vi (c+1))] [] (cT (cT p)) ?_
     exact Kn.R Fm (e (c+1) h)
   ·exact AW.exit (Kn.R Fm (i () h))
theorem region_rects_spec {F:Nat} {a:(List Band)} {r:(List Rect)} (h:region_rects F a=some r) :
  FSpec Tryz.prog 240 [AL a] [] (AL (α:=Rect) r) []:=by
 refine FI Tryz.func240 prog_mixed prog_lay fun C Fm=>?_
 unfold region_rects at h
 refine AW.SG0 Fm 1 [(0,AL a)] [] ?_
 refine AW.SW Fm [.m] (fun K=>True) [(0,AL a),(3,ow 3)] [(3,AO (α:=Rect) ([]:List Rect))] True.intro [(3,.arr 4 (0) (fun _=>[]))] ⟨OLe.is ((Is.nil (α:=Rect))),⟨⟩⟩ ?_
 refine AW.join (r:=r) (fun z:(List Rect)=>region_rects_k3 F z) (fun z=>[(3,ow 3)]) (fun z=>[(3,AO z)]) (fun k h=>?_) (fun N t=>?_)
 ·refine AW.SG0 Fm 2 [(2,ow 3)] [(3,AO k)] ?_
  refine AW.ret ?_
  obtain rfl:=Option.some.inj h
  refine Kn.r Fm [(2,ow 3)] [(3,AO k)] (by kernel_rfl) ?_
  refine Kn.frz [(2,AL k)] [] (by kernel_rfl) (by kernel_rfl) (by kernel_rfl) ?_
  exact Kn.D Fm
 ·refine AW.SG0 Fm 3 [(3,ow 3),(8,AL a),(9,vi (lI a)),(10,vi 0)] [(3,AO (α:=Rect) ([]:List Rect))] ?_
  refine AW.block (Kn.r Fm [(3,ow 3),(8,AL a),(9,vi (lI a)),(10,vi 0)] [(3,AO ([]:List Rect))] (by kernel_rfl) ?_)
  refine AW.loopF (E' := fun z=>[(3,ow 3),(8,AL a),(9,vi (lI a)),(10,vi z.1)]) (S' := fun z=>[(3,AO z.2)]) (fun n z I o h=>?_) h
  obtain ⟨b,j⟩:=z
  refine AW.SG0 Fm 1 [(3,ow 3),(8,AL a),(9,vi (lI a)),(10,vi b),(11,vb (decide (b<(lI a))))] [(3,AO j)] ?_
  refine AW.seq (AW.cN h (fun u h=>?_) (fun u h=>?_))
  ·refine AW.skip (AW.join (r:=r) (fun z:(List Rect)=>region_rects_k2 F b n z) (fun z=>[(3,ow 3),(8,AL a),(9,vi (lI a)),(10,vi b)]) (fun z=>[(3,AO z)]) (fun l h=>?_) (fun M q=>?_))
   ·obtain ⟨H,h⟩:=gS h
    refine AW.pN Fm [.s,.s] [(3,ow 3),(8,AL a),(9,vi (lI a)),(10,vi (b+1))] [(3,AO l)] (cT (cT H)) ?_
    exact Kn.R Fm (o ((b+1),l) h)
   ·refine AW.block ?_
    obtain ⟨A,h⟩:=gS h
    refine AW.SP Fm [.s,.s,.s,.s] [(3,ow 3),(5,pt 5),(8,AL a),(9,vi (lI a)),(10,vi b)] [(3,AO j),(5,bx [ci ((gl a b.toNat).low_),ci ((gl a b.toNat).high_),.d (DL (α:=Span) (gl a b.toNat).spans_)])] (cT A) ?_
    refine AW.SG0 Fm 4 [(3,ow 3),(5,pt 5),(8,AL a),(9,vi (lI a)),(10,vi b),(15,AL (α:=Span) (gl a b.toNat).spans_),(16,vi (lI ((gl a b.toNat).spans_))),(17,vi 0)] [(3,AO j),(5,bx [ci ((gl a b.toNat).low_),ci ((gl a b.toNat).high_),.d (DL (α:=Span) (gl a b.toNat).spans_)])] ?_
    refine AW.block (AW.loopF (E' := fun z=>[(3,ow 3),(5,pt 5),(8,AL a),(9,vi (lI a)),(10,vi b),(15,AL (α:=Span) (gl a b.toNat).spans_),(16,vi (lI ((gl a b.toNat).spans_))),(17,vi z.1)]) (S' := fun z=>[(3,AO z.2),(5,bx [ci ((gl a b.toNat).low_),ci ((gl a b.toNat).high_),.d (DL (α:=Span) (gl a b.toNat).spans_)])]) (fun O z L p h=>?_) h)
    obtain ⟨e,i⟩:=z
    refine AW.SG0 Fm 1 [(3,ow 3),(5,pt 5),(8,AL a),(9,vi (lI a)),(10,vi b),(15,AL (α:=Span) (gl a b.toNat).spans_),(16,vi (lI ((gl a b.toNat).spans_))),(17,vi e),(18,vb (decide (e<(lI ((gl a b.toNat).spans_)))))] [(3,AO i),(5,bx [ci ((gl a b.toNat).low_),ci ((gl a b.toNat).high_),.d (DL (α:=Span) (gl a b.toNat).spans_)])] ?_
    refine AW.seq (AW.cN h (fun y h=>?_) (fun y h=>?_))
    ·refine AW.skip (AW.seq (AW.block ?_))
     obtain ⟨B,h⟩:=gS h
     refine AW.SP Fm [.s,.s,.s,.s] [(3,ow 3),(5,pt 5),(7,pt 7),(8,AL a),(9,vi (lI a)),(10,vi b),(15,AL (α:=Span) (gl a b.toNat).spans_),(16,vi (lI ((gl a b.toNat).spans_))),(17,vi e)] [(3,AO i),(5,bx [ci ((gl a b.toNat).low_),ci ((gl a b.toNat).high_),.d (DL (α:=Span) (gl a b.toNat).spans_)]),(7,bx [ci ((gl ((gl a b.toNat).spans_) e.toNat).left_),ci ((gl ((gl a b.toNat).spans_) e.toNat).right_)])] (cT B) ?_
     obtain ⟨E,h⟩:=gS h
     refine AW.WP Fm [.s,.s,.s,.s,.s,.s,.s,.s,.s,.s,.w (AL (α:=Rect) ([(⟨(gl ((gl a b.toNat).spans_) e.toNat).left_,(gl a b.toNat).low_,(gl ((gl a b.toNat).spans_) e.toNat).right_,(gl a b.toNat).high_⟩ : Rect)]:List Rect)),.s,.s] [(3,ow 32),(5,pt 5),(8,AL a),(9,vi (lI a)),(10,vi b),(15,AL (α:=Span) (gl a b.toNat).spans_),(16,vi (lI ((gl a b.toNat).spans_))),(17,vi e)] [(5,bx [ci ((gl a b.toNat).low_),ci ((gl a b.toNat).high_),.d (DL (α:=Span) (gl a b.toNat).spans_)]),(32,AO (α:=Rect) (i++([(⟨(gl ((gl a b.toNat).spans_) e.toNat).left_,(gl a b.toNat).low_,(gl ((gl a b.toNat).spans_) e.toNat).right_,(gl a b.toNat).high_⟩ : Rect)]:List Rect)))] (cA (ALe.lst (.lit ([(⟨(gl ((gl a b.toNat).spans_) e.toNat).left_,(gl a b.toNat).low_,(gl ((gl a b.toNat).spans_) e.toNat).right_,(gl a b.toNat).high_⟩ : Rect)]:List Rect) (by kernel_rfl)):ALe (.v (.c (.d (.lst 1 (litF 4 [.int .i64 (gl ((gl a b.toNat).spans_) e.toNat).left_,.int .i64 (gl a b.toNat).low_,.int .i64 (gl ((gl a b.toNat).spans_) e.toNat).right_,.int .i64 (gl a b.toNat).high_]))))) (AL (α:=Rect) ([(⟨(gl ((gl a b.toNat).spans_) e.toNat).left_,(gl a b.toNat).low_,(gl ((gl a b.toNat).spans_) e.toNat).right_,(gl a b.toNat).high_⟩ : Rect)]:List Rect))) (cT (cA E (cT (Is.refl ([(⟨(gl ((gl a b.toNat).spans_) e.toNat).left_,(gl a b.toNat).low_,(gl ((gl a b.toNat).spans_) e.toNat).right_,(gl a b.toNat).high_⟩ : Rect)]:List Rect):Is (List.length (α:=Rect) ([(⟨(gl ((gl a b.toNat).spans_) e.toNat).left_,(gl a b.toNat).low_,(gl ((gl a b.toNat).spans_) e.toNat).right_,(gl a b.toNat).high_⟩ : Rect)]:List Rect)) (LF (α:=Rect) ([(⟨(gl ((gl a b.toNat).spans_) e.toNat).left_,(gl a b.toNat).low_,(gl ((gl a b.toNat).spans_) e.toNat).right_,(gl a b.toNat).high_⟩ : Rect)]:List Rect)) ([(⟨(gl ((gl a b.toNat).spans_) e.toNat).left_,(gl a b.toNat).low_,(gl ((gl a b.toNat).spans_) e.toNat).right_,(gl a b.toNat).high_⟩ : Rect)]:List Rect)).len)))) [(32,.arr 4 ((List.length (α:=Rect) i)+(List.length (α:=Rect) ([(⟨(gl ((gl a b.toNat).spans_) e.toNat).left_,(gl a b.toNat).low_,(gl ((gl a b.toNat).spans_) e.toNat).right_,(gl a b.toNat).high_⟩ : Rect)]:List Rect))) (appF (List.length (α:=Rect) i) (LF (α:=Rect) i) (LF (α:=Rect) ([(⟨(gl ((gl a b.toNat).spans_) e.toNat).left_,(gl a b.toNat).low_,(gl ((gl a b.toNat).spans_) e.toNat).right_,(gl a b.toNat).high_⟩ : Rect)]:List Rect))))] ⟨OLe.is (Is.app (Is.refl i) (Is.refl ([(⟨(gl ((gl a b.toNat).spans_) e.toNat).left_,(gl a b.toNat).low_,(gl ((gl a b.toNat).spans_) e.toNat).right_,(gl a b.toNat).high_⟩ : Rect)]:List Rect))),⟨⟩⟩ ?_
     obtain ⟨G,h⟩:=gS h
     refine AW.pN Fm [.s,.s] [(3,ow 32),(5,pt 5),(8,AL a),(9,vi (lI a)),(10,vi b),(15,AL (α:=Span) (gl a b.toNat).spans_),(16,vi (lI ((gl a b.toNat).spans_))),(17,vi (e+1))] [(5,bx [ci ((gl a b.toNat).low_),ci ((gl a b.toNat).high_),.d (DL (α:=Span) (gl a b.toNat).spans_)]),(32,AO (α:=Rect) (i++([(⟨(gl ((gl a b.toNat).spans_) e.toNat).left_,(gl a b.toNat).low_,(gl ((gl a b.toNat).spans_) e.toNat).right_,(gl a b.toNat).high_⟩ : Rect)]:List Rect)))] (cT (cT G)) ?_
     exact Kn.RE Fm [(3,32)] (p ((e+1),(i++([(⟨(gl ((gl a b.toNat).spans_) e.toNat).left_,(gl a b.toNat).low_,(gl ((gl a b.toNat).spans_) e.toNat).right_,(gl a b.toNat).high_⟩ : Rect)]:List Rect))) h)
    ·exact AW.exit (Kn.R Fm (q i h))
  ·exact AW.exit (Kn.R Fm (t j h))
theorem region_Build_spec {F:Nat} {a:(List Int)} {l:Int→Option (List Span)} {r:(List Rect)} (h:region_Build F a l=some r) :
  FSpec Tryz.prog 187 [AL a,.v (.c (.sem (CloOK Tryz.prog (FR_Int_ListSpan l))))] [] (AL (α:=Rect) r) []:=by
 refine FI Tryz.func187 prog_mixed prog_lay fun C Fm=>?_
 unfold region_Build at h
 refine AW.SG0 Fm 1 [(0,AL a),(1,.v (.c (.sem (CloOK Tryz.prog (FR_Int_ListSpan l)))))] [] ?_
 refine AW.SW Fm [.m] (fun K=>True) [(0,AL a),(1,.v (.c (.sem (CloOK Tryz.prog (FR_Int_ListSpan l))))),(5,ow 5)] [(5,AO (α:=Band) ([]:List Band))] True.intro [(5,.arr 3 (0) (fun _=>[]))] ⟨OLe.is ((Is.nil (α:=Band))),⟨⟩⟩ ?_
 refine AW.join (r:=r) (fun z:(List Band)=>region_Build_k3 F z) (fun z=>[(5,ow 5)]) (fun z=>[(5,AO z)]) (fun I h=>?_) (fun l0 N=>?_)
 ·refine AW.seq (Kn.r Fm [(5,ow 5)] [(5,AO I)] (by kernel_rfl) ?_)
  refine Kn.frz [(5,AL I)] [] (by kernel_rfl) (by kernel_rfl) (by kernel_rfl) ?_
  obtain ⟨L,e0,h⟩:=bS h
  refine AW.G Fm [.s,.k (cE [] [] (AL L) [] []),.s] (fun K=>K 1∧True) [(4,AL L)] [] ⟨KAt.CC (region_rects_spec e0) Tryz.call240 [],⟨⟩⟩ ?_
  refine AW.ret ?_
  obtain rfl:=Option.some.inj h
  exact Kn.D Fm
 ·refine AW.SG0 Fm 1 [(0,AL a),(1,.v (.c (.sem (CloOK Tryz.prog (FR_Int_ListSpan l))))),(5,ow 5),(6,vi 1)] [(5,AO (α:=Band) ([]:List Band))] ?_
  refine AW.block (Kn.r Fm [(0,AL a),(1,.v (.c (.sem (CloOK Tryz.prog (FR_Int_ListSpan l))))),(5,ow 5),(6,vi 1)] [(5,AO ([]:List Band))] (by kernel_rfl) ?_)
  refine AW.loopF (E' := fun z=>[(0,AL a),(1,.v (.c (.sem (CloOK Tryz.prog (FR_Int_ListSpan l))))),(5,ow 5),(6,vi z.1)]) (S' := fun z=>[(5,AO z.2)]) (fun y z i0 M h=>?_) h
  obtain ⟨e,b⟩:=z
  refine AW.seq (AW.SG0 Fm 4 [(0,AL a),(1,.v (.c (.sem (CloOK Tryz.prog (FR_Int_ListSpan l))))),(5,ow 5),(6,vi e),(12,vb (decide (e<(lI a))))] [(5,AO b)] ?_)
  refine AW.cN h (fun O h=>?_) (fun O h=>?_)
  ·refine AW.skip (AW.join (r:=r) (fun z:(List Band)=>region_Build_k2 F e y z) (fun z=>[(0,AL a),(1,.v (.c (.sem (CloOK Tryz.prog (FR_Int_ListSpan l))))),(5,ow 5),(6,vi e)]) (fun z=>[(5,AO z)]) (fun H h=>?_) (fun k0 A=>?_))
   ·obtain ⟨b0,h⟩:=gS h
    refine AW.pN Fm [.s,.s,.s] [(0,AL a),(1,.v (.c (.sem (CloOK Tryz.prog (FR_Int_ListSpan l))))),(5,ow 5),(6,vi (e+1))] [(5,AO H)] (cT (cT b0)) ?_
    exact Kn.R Fm (M ((e+1),H) h)
   ·refine AW.block (AW.seq ?_)
    obtain ⟨T,U,V,W,h⟩:=gS4 h
    obtain ⟨X,h⟩:=gS h
    obtain ⟨i,c0,h⟩:=bS h
    refine AW.G Fm [.s,.s,.s,.s,.s,.s,.s,.s,.s,.s,.s,.s,.s,.s,.s,.k (sE (AL i)),.s,.s,.s] (fun K=>(_∧True)∧_∧_∧(_∧True)∧_∧K 15∧True) [(0,AL a),(1,.v (.c (.sem (CloOK Tryz.prog (FR_Int_ListSpan l))))),(5,ow 5),(6,vi e),(7,pt 7)] [(5,AO b),(7,bx [ci (gl a (e-1).toNat),ci (gl a e.toNat),.d (DL i)])] ⟨⟨T,⟨⟩⟩,U,V,⟨W,⟨⟩⟩,X,KAt.sem (F:=(FR_Int_ListSpan l)) (args:=[vi (gl a (e-1).toNat)]) ⟨(gl a (e-1).toNat),i,c0,rfl,rfl⟩ rfl (by kernel_rfl) (by kernel_rfl) (by kernel_rfl),⟨⟩⟩ ?_
    refine AW.SG0 Fm 3 [(0,AL a),(1,.v (.c (.sem (CloOK Tryz.prog (FR_Int_ListSpan l))))),(5,ow 5),(6,vi e),(7,pt 7),(8,vi (lI b))] [(5,AO b),(7,bx [ci (gl a (e-1).toNat),ci (gl a e.toNat),.d (DL i)])] ?_
    refine AW.join (r:=r) (fun z:Bool=>region_Build_k1 F a e b i y z) (fun z=>[(0,AL a),(1,.v (.c (.sem (CloOK Tryz.prog (FR_Int_ListSpan l))))),(5,ow 5),(6,vi e),(7,pt 7),(8,vi (lI b)),(57,vb z)]) (fun z=>[(5,AO b),(7,bx [ci (gl a (e-1).toNat),ci (gl a e.toNat),.d (DL i)])]) (fun m0 h=>?_) (fun j0 q=>?_)
    ·refine AW.cN h (fun P h=>?_) (fun P h=>?_)
     ·obtain ⟨Z,u,h⟩:=gS2 h
      refine AW.WP Fm [.s,.s,.s,.s,.s,.s,.s,.s] [(0,AL a),(1,.v (.c (.sem (CloOK Tryz.prog (FR_Int_ListSpan l))))),(5,ow 5),(6,vi e)] [(5,AO (α:=Band) (List.set b ((lI b)-1).toNat (⟨(gl b ((lI b)-1).toNat).low_,(gl a e.toNat),(gl b ((lI b)-1).toNat).spans_⟩ : Band)))] (cA (cT Z) (cA u (cT (toNat_lt u)))) [(5,.arr 3 (List.length (α:=Band) b) (fun j=>if j=((lI b)-1).toNat then splice ((LF (α:=Band) b) ((lI b)-1).toNat) 1 [.int .i64 (gl a e.toNat)] else (LF (α:=Band) b) j))] ⟨OLe.is (Is.set (Is.refl b) (toNat_lt u) (⟨(gl b ((lI b)-1).toNat).low_,(gl a e.toNat),(gl b ((lI b)-1).toNat).spans_⟩ : Band) (by kernel_rfl)),⟨⟩⟩ ?_
      exact Kn.R Fm (A (List.set b ((lI b)-1).toNat (⟨(gl b ((lI b)-1).toNat).low_,(gl a e.toNat),(gl b ((lI b)-1).toNat).spans_⟩ : Band)) h)
     ·obtain ⟨a0,h⟩:=gS h
      refine AW.WP Fm [.s,.s,.w (AL (α:=Band) ([(⟨(gl a (e-1).toNat),(gl a e.toNat),i⟩ : Band)]:List Band)),.s,.s] [(0,AL a),(1,.v (.c (.sem (CloOK Tryz.prog (FR_Int_ListSpan l))))),(5,ow 68),(6,vi e)] [(68,AO (α:=Band) (b++([(⟨(gl a (e-1).toNat),(gl a e.toNat),i⟩ : Band)]:List Band)))] (cA (ALe.lst (.lit ([(⟨(gl a (e-1).toNat),(gl a e.toNat),i⟩ : Band)]:List Band) (by kernel_rfl)):ALe (.v (.c (.d (.lst 1 (litF 3 [.int .i64 (gl a (e-1).toNat),.int .i64 (gl a e.toNat),DL i]))))) (AL (α:=Band) ([(⟨(gl a (e-1).toNat),(gl a e.toNat),i⟩ : Band)]:List Band))) (cT (cA a0 (cT (Is.refl ([(⟨(gl a (e-1).toNat),(gl a e.toNat),i⟩ : Band)]:List Band):Is (List.length (α:=Band) ([(⟨(gl a (e-1).toNat),(gl a e.toNat),i⟩ : Band)]:List Band)) (LF (α:=Band) ([(⟨(gl a (e-1).toNat),(gl a e.toNat),i⟩ : Band)]:List Band)) ([(⟨(gl a (e-1).toNat),(gl a e.toNat),i⟩ : Band)]:List Band)).len)))) [(68,.arr 3 ((List.length (α:=Band) b)+(List.length (α:=Band) ([(⟨(gl a (e-1).toNat),(gl a e.toNat),i⟩ : Band)]:List Band))) (appF (List.length (α:=Band) b) (LF (α:=Band) b) (LF (α:=Band) ([(⟨(gl a (e-1).toNat),(gl a e.toNat),i⟩ : Band)]:List Band))))] ⟨OLe.is (Is.app (Is.refl b) (Is.refl ([(⟨(gl a (e-1).toNat),(gl a e.toNat),i⟩ : Band)]:List Band))),⟨⟩⟩ ?_
      exact Kn.RE Fm [(5,68)] (A (b++([(⟨(gl a (e-1).toNat),(gl a e.toNat),i⟩ : Band)]:List Band)) h)
    ·rcases br_or h with ⟨n,h⟩|⟨n,h⟩
     ·obtain ⟨B,o,h⟩:=gS2 h
      rcases br_or h with ⟨t,h⟩|⟨t,h⟩
      ·obtain ⟨Y,E,h⟩:=gS2 h
       obtain ⟨p,d0,h⟩:=bS h
       refine AW.G Fm [.s,.s,.w (vb true),.s,.s,.s,.s,.s,.s,.s,.s,.s,.s,.w (vb true),.s,.s,.s,.s,.s,.s,.s,.s,.k (cE [] [] (vb p) [] []),.s] (fun K=>_∧(_∧True)∧_∧_∧_∧(_∧True)∧_∧_∧K 22∧True) [(0,AL a),(1,.v (.c (.sem (CloOK Tryz.prog (FR_Int_ListSpan l))))),(5,ow 5),(6,vi e),(7,pt 7),(8,vi (lI b)),(37,ow 5),(38,vi (lI b)),(39,vi ((lI b)-1)),(40,.v (.c (.pte 5 3 (((lI b)-1).toNat) 0))),(41,.v (.c (.pte 5 3 (((lI b)-1).toNat) 1))),(42,vi (gl b ((lI b)-1).toNat).high_),(43,pt 7),(44,vi (gl a (e-1).toNat)),(45,vb (((gl b ((lI b)-1).toNat).high_)==(gl a (e-1).toNat))),(48,ow 5),(49,vi (lI b)),(50,vi ((lI b)-1)),(51,.v (.c (.pte 5 3 (((lI b)-1).toNat) 0))),(52,.v (.c (.pte 5 3 (((lI b)-1).toNat) 2))),(53,AL (α:=Span) (gl b ((lI b)-1).toNat).spans_),(54,.v (.c (.ptr 7 2))),(55,AL i),(56,vb p),(57,vb p)] [(5,AO b),(7,bx [ci (gl a (e-1).toNat),ci (gl a e.toNat),.d (DL i)])] ⟨ALe.bool n,⟨B,⟨⟩⟩,o,(toNat_lt o),ALe.bool t,⟨Y,⟨⟩⟩,E,(toNat_lt E),KAt.CC (slices_Equal_Span_spec d0) Tryz.call239 [],⟨⟩⟩ ?_
       exact Kn.R Fm (q p h)
      ·refine AW.pN Fm [.s,.s,.w (vb true),.s,.s,.s,.s,.s,.s,.s,.s,.s,.s,.w (vb false),.s,.s,.s,.s,.s,.s,.s,.s,.s,.s] [(0,AL a),(1,.v (.c (.sem (CloOK Tryz.prog (FR_Int_ListSpan l))))),(5,ow 5),(6,vi e),(7,pt 7),(8,vi (lI b)),(37,ow 5),(38,vi (lI b)),(39,vi ((lI b)-1)),(40,.v (.c (.pte 5 3 (((lI b)-1).toNat) 0))),(41,.v (.c (.pte 5 3 (((lI b)-1).toNat) 1))),(42,vi (gl b ((lI b)-1).toNat).high_),(43,pt 7),(44,vi (gl a (e-1).toNat)),(45,vb (((gl b ((lI b)-1).toNat).high_)==(gl a (e-1).toNat))),(57,vb false)] [(5,AO b),(7,bx [ci (gl a (e-1).toNat),ci (gl a e.toNat),.d (DL i)])] (cA (ALe.bool n) (cA (cT B) (cA o (cA (toNat_lt o) (cT (ALe.bool t)))))) ?_
       exact Kn.R Fm (q false h)
     ·refine AW.pN Fm [.s,.s,.w (vb false),.s,.s,.s,.s,.s,.s,.s,.s,.s,.s,.s,.s,.s,.s,.s,.s,.s,.s,.s,.s,.s] [(0,AL a),(1,.v (.c (.sem (CloOK Tryz.prog (FR_Int_ListSpan l))))),(5,ow 5),(6,vi e),(7,pt 7),(8,vi (lI b)),(57,vb false)] [(5,AO b),(7,bx [ci (gl a (e-1).toNat),ci (gl a e.toNat),.d (DL i)])] (cT (ALe.bool n)) ?_
      exact Kn.R Fm (q false h)
  ·exact AW.exit (Kn.R Fm (N b h))
theorem region_canonical_spec {F:Nat} {a:(List Rect)} {r:(List Rect)} (h:region_canonical F a=some r) :
  FSpec Tryz.prog 186 [AL a] [] (AL (α:=Rect) r) []:=by
 refine FI Tryz.func186 prog_mixed prog_lay fun C Fm=>?_
 unfold region_canonical at h
 refine AW.SG0 Fm 2 [(1,pt 1)] [(1,bx [.d (DL a)])] ?_
 refine AW.seq ?_
 obtain ⟨j,e,h⟩:=bS h
 obtain ⟨b,i,h⟩:=bS h
 refine AW.G Fm [.s,.w (AL (α:=(List Rect)) ([a]:List (List Rect))),.k (cE [] [] (AL j) [] []),.s,.k (cE [] [1] (AL b) [] []),.s] (fun K=>(ALe (.v (.c (.d (.lst 1 (litF 1 [DL a]))))) (AL (α:=(List Rect)) ([a]:List (List Rect))))∧K 2∧K 4∧True) [(2,AL b)] [] ⟨ALe.lst (.lit ([a]:List (List Rect)) (by kernel_rfl)),KAt.CC (region_Cuts_spec e) Tryz.call188 [],KAt.callX (region_Build_spec i) Tryz.call187 [] [1] [.tmp 5,.tmp 6] rfl (by kernel_rfl) (by kernel_rfl) (by kernel_rfl) ⟨.p,ArgT.cloX Tryz.call238 [[.d (DL a)]] (fun args r hq=>by obtain ⟨y0,y,hq,rfl,rfl⟩:=hq; exact Eq.mp (by kernel_rfl) (region_canonical_1_spec hq)) (fun args r hq=>by obtain ⟨y0,y,hq,rfl,rfl⟩:=hq; rfl) (by kernel_rfl) [1] (by kernel_rfl) (by kernel_rfl) (⟨⟨false,(by kernel_rfl)⟩,⟨⟩⟩) (by kernel_rfl),⟨⟩⟩,⟨⟩⟩ ?_
 refine AW.ret ?_
 obtain rfl:=Option.some.inj h
 exact Kn.D Fm
theorem slices_Equal_Rect_spec {F:Nat} {c:(List Rect)} {d:(List Rect)} {r:Bool} (h:slices_Equal_Rect F c d=some r) :
  FSpec Tryz.prog 185 [AL c,AL d] [] (vb r) []:=by
 refine FI Tryz.func185 prog_mixed prog_lay fun C Fm=>?_
 unfold slices_Equal_Rect at h
 refine AW.SG0 Fm 1 [(0,AL c),(1,AL d)] [] ?_
 refine AW.seq (AW.SG0 Fm 5 [(0,AL c),(1,AL d),(10,vb ((lI c) != (lI d)))] [] ?_)
 refine AW.cN h (fun j h=>?_) (fun j h=>?_)
 ·refine AW.SG0 Fm 1 [(4,vb false)] [] ?_
  refine AW.ret ?_
  obtain rfl:=Option.some.inj h
  exact Kn.D Fm
 ·refine AW.skip (AW.join (r:=r) (fun z:Unit=>slices_Equal_Rect_k1 F) (fun z=>[]) (fun z=>[]) (fun z h=>?_) (fun t i=>?_))
  ·refine AW.SG0 Fm 1 [(4,vb true)] [] ?_
   refine AW.ret ?_
   obtain rfl:=Option.some.inj h
   exact Kn.D Fm
  ·refine AW.SG0 Fm 3 [(0,AL c),(1,AL d),(12,vi (lI c)),(13,vi 0)] [] ?_
   refine AW.block (AW.loopF (E' := fun z=>[(0,AL c),(1,AL d),(12,vi (lI c)),(13,vi z)]) (S' := fun z=>[]) (fun u a q e h=>?_) h)
   refine AW.SG0 Fm 1 [(0,AL c),(1,AL d),(12,vi (lI c)),(13,vi a),(14,vb (decide (a<(lI c))))] [] ?_
   refine AW.seq (AW.cN h (fun l h=>?_) (fun l h=>?_))
   ·refine AW.skip (AW.seq (AW.block (AW.SG0 Fm 2 [(0,AL c),(1,AL d),(5,vi a),(12,vi (lI c)),(13,vi a)] [] ?_)))
    obtain ⟨n,o,h⟩:=gS2 h
    refine AW.SG Fm [.s,.s,.s,.s,.s,.s,.s,.s,.k (sE (vb (!((((gl c a.toNat).left_)==((gl d a.toNat).left_))&&((((gl c a.toNat).low_)==((gl d a.toNat).low_))&&((((gl c a.toNat).right_)==((gl d a.toNat).right_))&&((((gl c a.toNat).high_)==((gl d a.toNat).high_))&&true)))))))] (fun K=>_∧_∧K 8∧True) [(0,AL c),(1,AL d),(12,vi (lI c)),(13,vi a),(24,vb (!((((gl c a.toNat).left_)==((gl d a.toNat).left_))&&((((gl c a.toNat).low_)==((gl d a.toNat).low_))&&((((gl c a.toNat).right_)==((gl d a.toNat).right_))&&((((gl c a.toNat).high_)==((gl d a.toNat).high_))&&true))))))] [] ⟨n,o,KAt.eq (xs:=[ci ((gl c a.toNat).left_),ci ((gl c a.toNat).low_),ci ((gl c a.toNat).right_),ci ((gl c a.toNat).high_)]) (ys:=[ci ((gl d a.toNat).left_),ci ((gl d a.toNat).low_),ci ((gl d a.toNat).right_),ci ((gl d a.toNat).high_)]) eqT103 false (b:=((((gl c a.toNat).left_)==((gl d a.toNat).left_))&&((((gl c a.toNat).low_)==((gl d a.toNat).low_))&&((((gl c a.toNat).right_)==((gl d a.toNat).right_))&&((((gl c a.toNat).high_)==((gl d a.toNat).high_))&&true))))) rfl rfl (by kernel_rfl) (by kernel_rfl) (by kernel_rfl) (by kernel_rfl),⟨⟩⟩ ?_
    refine AW.cN h (fun m h=>?_) (fun m h=>?_)
    ·refine AW.SG0 Fm 1 [(4,vb false)] [] ?_
     refine AW.ret ?_
     obtain rfl:=Option.some.inj h
     exact Kn.D Fm
    ·refine AW.skip ?_
     obtain ⟨p,h⟩:=gS h
     refine AW.pN Fm [.s,.s] [(0,AL c),(1,AL d),(12,vi (lI c)),(13,vi (a+1))] [] (cT (cT p)) ?_
     exact Kn.R Fm (e (a+1) h)
   ·exact AW.exit (Kn.R Fm (i () h))
theorem region_Valid_spec {F:Nat} {a:Region} {r:Bool} (h:region_Valid F a=some r) :
  FSpec Tryz.prog 94 [.v (.g [.d (DL a.rects_)])] [] (vb r) []:=by
 refine FI Tryz.func94 prog_mixed prog_lay fun C Fm=>?_
 unfold region_Valid at h
 refine AW.SG0 Fm 2 [(1,pt 1)] [(1,bx [.d (DL a.rects_)])] ?_
 refine AW.seq (AW.join (r:=r) (fun z:Bool=>region_Valid_k0 F a z) (fun z=>[(1,pt 1),(11,vb z)]) (fun z=>[(1,bx [.d (DL a.rects_)])]) (fun t h=>?_) (fun q e=>?_))
 ·refine AW.cN h (fun j h=>?_) (fun j h=>?_)
  ·refine AW.SG0 Fm 1 [(2,vb false)] [] ?_
   refine AW.ret ?_
   obtain rfl:=Option.some.inj h
   exact Kn.D Fm
  ·refine AW.skip (AW.seq ?_)
   obtain ⟨o,m,h⟩:=bS h
   obtain ⟨i,n,h⟩:=bS h
   refine AW.G Fm [.s,.s,.k (cE [] [] (AL o) [] []),.s,.s,.k (cE [] [] (vb i) [] []),.s] (fun K=>K 2∧K 5∧True) [(2,vb i)] [] ⟨KAt.CC (region_canonical_spec m) Tryz.call186 [],KAt.CC (slices_Equal_Rect_spec n) Tryz.call185 [],⟨⟩⟩ ?_
   refine AW.ret ?_
   obtain rfl:=Option.some.inj h
   exact Kn.D Fm
 ·rcases br_or h with ⟨b,h⟩|⟨b,h⟩
  ·refine AW.pN Fm [.s,.s,.s,.s,.w (vb true),.s,.s,.s,.s] [(1,pt 1),(11,vb true)] [(1,bx [.d (DL a.rects_)])] (cT (ALe.bool b)) ?_
   exact Kn.R Fm (e true h)
  ·obtain ⟨c,l,h⟩:=bS h
   refine AW.G Fm [.s,.s,.s,.s,.w (vb false),.s,.s,.k (cE [] [] (vb c) [] []),.s] (fun K=>_∧K 7∧True) [(1,pt 1),(11,vb c)] [(1,bx [.d (DL a.rects_)])] ⟨ALe.bool b,KAt.callX (slices_ContainsFunc_Rect_spec l) Tryz.call182 [] [] [.tmp 9,.func 183] rfl (by kernel_rfl) (by kernel_rfl) (by kernel_rfl) ⟨.p,ArgT.cloX Tryz.call183 [] (fun args r hq=>by obtain ⟨y0,y,hq,rfl,rfl⟩:=hq; exact Eq.mp (by kernel_rfl) (region_Valid_1_spec hq)) (fun args r hq=>by obtain ⟨y0,y,hq,rfl,rfl⟩:=hq; rfl) (by kernel_rfl) [] (by kernel_rfl) (by kernel_rfl) (True.intro) (by kernel_rfl),⟨⟩⟩,⟨⟩⟩ ?_
   exact Kn.R Fm (e c h)
theorem region_overlap_spec {F:Nat} {b:Rect} {c:Rect} {r:Bool} (h:region_overlap F b c=some r) :
  FSpec Tryz.prog 200 [gE b,gE c] [] (vb r) []:=by
 refine FI Tryz.func200 prog_mixed prog_lay fun C Fm=>?_
 unfold region_overlap at h
 refine AW.SG0 Fm 3 [(2,pt 2),(3,pt 3)] [(2,bx (gC b)),(3,bx (gC c))] ?_
 refine AW.join (r:=r) (fun z:Bool=>region_overlap_k0 F z) (fun z=>[(4,vb z)]) (fun z=>[]) (fun k h=>?_) (fun j d=>?_)
 ·refine AW.ret ?_
  obtain rfl:=Option.some.inj h
  exact Kn.D Fm
 ·rcases br_or h with ⟨a,h⟩|⟨a,h⟩
  ·rcases br_or h with ⟨e,h⟩|⟨e,h⟩
   ·rcases br_or h with ⟨i,h⟩|⟨i,h⟩
    ·refine AW.pN Fm [.s,.s,.s,.s,.s,.w (vb true),.s,.s,.s,.s,.s,.s,.w (vb true),.s,.s,.s,.s,.s,.s,.w (vb true),.s,.s,.s,.s,.s,.s,.s] [(4,vb (decide (c.low_<b.high_)))] [] (cA (ALe.bool a) (cA (ALe.bool e) (cT (ALe.bool i)))) ?_
     exact Kn.R Fm (d (decide (c.low_<b.high_)) h)
    ·refine AW.pN Fm [.s,.s,.s,.s,.s,.w (vb true),.s,.s,.s,.s,.s,.s,.w (vb true),.s,.s,.s,.s,.s,.s,.w (vb false),.s,.s,.s,.s,.s,.s,.s] [(4,vb false)] [] (cA (ALe.bool a) (cA (ALe.bool e) (cT (ALe.bool i)))) ?_
     exact Kn.R Fm (d false h)
   ·refine AW.pN Fm [.s,.s,.s,.s,.s,.w (vb true),.s,.s,.s,.s,.s,.s,.w (vb false),.s,.s,.s,.s,.s,.s,.s,.s,.s,.s,.s,.s,.s,.s] [(4,vb false)] [] (cA (ALe.bool a) (cT (ALe.bool e))) ?_
    exact Kn.R Fm (d false h)
  ·refine AW.pN Fm [.s,.s,.s,.s,.s,.w (vb false),.s,.s,.s,.s,.s,.s,.s,.s,.s,.s,.s,.s,.s,.s,.s,.s,.s,.s,.s,.s,.s] [(4,vb false)] [] (cT (ALe.bool a)) ?_
   exact Kn.R Fm (d false h)
theorem region_Meets_1_1_spec {F:Nat} {b:Rect} {a:Rect} {r:Bool} (h:region_Meets_1_1 F b a=some r) :
  FSpec Tryz.prog 199 [gE b,pt 0] [(0,.box true (gC a))] (vb r) [(0,.box true (gC a))]:=by
 refine FI Tryz.func199 prog_mixed prog_lay fun C Fm=>?_
 unfold region_Meets_1_1 at h
 refine AW.SG0 Fm 2 [(1,pt 0),(2,pt 2)] [(0,.box true (gC a)),(2,bx (gC b))] ?_
 refine AW.seq ?_
 obtain ⟨c,d,h⟩:=bS h
 refine AW.G Fm [.s,.s,.k (cE [] [] (vb c) [] []),.s] (fun K=>K 2∧True) [(3,vb c)] [(0,.box true (gC a))] ⟨KAt.CC (region_overlap_spec d) Tryz.call200 [],⟨⟩⟩ ?_
 refine AW.ret ?_
 obtain rfl:=Option.some.inj h
 exact Kn.D Fm
theorem region_Meets_1_spec {F:Nat} {a:Rect} {b:Region} {r:Bool} (h:region_Meets_1 F a b=some r) :
  FSpec Tryz.prog 198 [gE a,pt 0] [(0,.box true [.d (DL b.rects_)])] (vb r) [(0,.box true [.d (DL b.rects_)])]:=by
 refine FI Tryz.func198 prog_mixed prog_lay fun C Fm=>?_
 unfold region_Meets_1 at h
 refine AW.SG0 Fm 2 [(1,pt 0),(2,pt 2)] [(0,.box true [.d (DL b.rects_)]),(2,bx (gC a))] ?_
 refine AW.seq ?_
 obtain ⟨c,e,h⟩:=bS h
 refine AW.G Fm [.s,.s,.s,.k (cE [] [2] (vb c) [] []),.s] (fun K=>K 3∧True) [(3,vb c)] [(0,.box true [.d (DL b.rects_)])] ⟨KAt.callX (slices_ContainsFunc_Rect_spec e) Tryz.call182 [] [2] [.tmp 5,.tmp 6] rfl (by kernel_rfl) (by kernel_rfl) (by kernel_rfl) ⟨.p,ArgT.cloX Tryz.call199 [[ci a.left_,ci a.low_,ci a.right_,ci a.high_]] (fun args r hq=>by obtain ⟨y0,y,hq,rfl,rfl⟩:=hq; exact Eq.mp (by kernel_rfl) (region_Meets_1_1_spec hq)) (fun args r hq=>by obtain ⟨y0,y,hq,rfl,rfl⟩:=hq; rfl) (by kernel_rfl) [2] (by kernel_rfl) (by kernel_rfl) (⟨⟨false,(by kernel_rfl)⟩,⟨⟩⟩) (by kernel_rfl),⟨⟩⟩,⟨⟩⟩ ?_
 refine AW.ret ?_
 obtain rfl:=Option.some.inj h
 exact Kn.D Fm
theorem region_Meets_spec {F:Nat} {j:Region} {b:Region} {r:Bool} (h:region_Meets F j b=some r) :
  FSpec Tryz.prog 108 [.v (.g [.d (DL j.rects_)]),.v (.g [.d (DL b.rects_)])] [] (vb r) []:=by
 refine FI Tryz.func108 prog_mixed prog_lay fun C Fm=>?_
 unfold region_Meets at h
 refine AW.SG0 Fm 3 [(2,pt 2),(3,pt 3)] [(2,bx [.d (DL j.rects_)]),(3,bx [.d (DL b.rects_)])] ?_
 refine AW.join (r:=r) (fun z:Bool=>region_Meets_k0 F z) (fun z=>[(4,vb z)]) (fun z=>[]) (fun u h=>?_) (fun t c=>?_)
 ·refine AW.ret ?_
  obtain rfl:=Option.some.inj h
  exact Kn.D Fm
 ·obtain ⟨l,i,h⟩:=bS h
  rcases br_or h with ⟨a,h⟩|⟨a,h⟩
  ·obtain ⟨o,n,h⟩:=bS h
   rcases br_or h with ⟨e,h⟩|⟨e,h⟩
   ·obtain ⟨m,q,h⟩:=bS h
    refine AW.G Fm [.s,.k (cE [] [] (vb l) [] []),.w (vb true),.s,.k (cE [] [] (vb o) [] []),.s,.w (vb true),.s,.s,.s,.k (cE [] [3] (vb m) [] []),.s,.s] (fun K=>K 1∧_∧K 4∧_∧K 10∧True) [(4,vb m)] [] ⟨KAt.CC (region_Valid_spec i) Tryz.call94 [],ALe.bool a,KAt.CC (region_Valid_spec n) Tryz.call94 [],ALe.bool e,KAt.callX (slices_ContainsFunc_Rect_spec q) Tryz.call182 [] [3] [.tmp 13,.tmp 14] rfl (by kernel_rfl) (by kernel_rfl) (by kernel_rfl) ⟨.p,ArgT.cloX Tryz.call198 [[.d (DL b.rects_)]] (fun args r hq=>by obtain ⟨y0,y,hq,rfl,rfl⟩:=hq; exact Eq.mp (by kernel_rfl) (region_Meets_1_spec hq)) (fun args r hq=>by obtain ⟨y0,y,hq,rfl,rfl⟩:=hq; rfl) (by kernel_rfl) [3] (by kernel_rfl) (by kernel_rfl) (⟨⟨false,(by kernel_rfl)⟩,⟨⟩⟩) (by kernel_rfl),⟨⟩⟩,⟨⟩⟩ ?_
    exact Kn.R Fm (c m h)
   ·refine AW.G Fm [.s,.k (cE [] [] (vb l) [] []),.w (vb true),.s,.k (cE [] [] (vb o) [] []),.s,.w (vb false),.s,.s,.s,.s,.s,.s] (fun K=>K 1∧_∧K 4∧_∧True) [(4,vb false)] [] ⟨KAt.CC (region_Valid_spec i) Tryz.call94 [],ALe.bool a,KAt.CC (region_Valid_spec n) Tryz.call94 [],ALe.bool e,⟨⟩⟩ ?_
    exact Kn.R Fm (c false h)
  ·refine AW.G Fm [.s,.k (cE [] [] (vb l) [] []),.w (vb false),.s,.s,.s,.s,.s,.s,.s,.s,.s,.s] (fun K=>K 1∧_∧True) [(4,vb false)] [] ⟨KAt.CC (region_Valid_spec i) Tryz.call94 [],ALe.bool a,⟨⟩⟩ ?_
   exact Kn.R Fm (c false h)
theorem rotation_check_spec {F:Nat} {a:(List Line)} {i:(List Crop)} {r:Int} (h:rotation_check F a i=some r) :
  FSpec Tryz.prog 167 [AL a,AL i] [] (vi r) []:=by
 refine FI Tryz.func167 prog_mixed prog_lay fun C Fm=>?_
 unfold rotation_check at h
 refine AW.SG0 Fm 1 [(0,AL a),(1,AL i)] [] ?_
 refine AW.seq (AW.SG0 Fm 3 [(0,AL a),(1,AL i),(16,vb (decide ((20:Int)<(lI a))))] [] ?_)
 refine AW.cN h (fun P h=>?_) (fun P h=>?_)
 ·refine AW.SG0 Fm 1 [(4,vi 1)] [] ?_
  refine AW.ret ?_
  obtain rfl:=Option.some.inj h
  exact Kn.D Fm
 ·refine AW.skip (AW.seq (AW.seq ?_))
  obtain ⟨n,m0,h⟩:=bS h
  refine AW.G Fm [.s,.k (cE [] [] (vi n) [] []),.s] (fun K=>K 1∧True) [(0,AL a),(1,AL i),(5,vi n)] [] ⟨KAt.CC (crop_Check_spec m0) Tryz.call205 [],⟨⟩⟩ ?_
  refine AW.SG0 Fm 2 [(0,AL a),(1,AL i),(5,vi n),(20,vb (n != (0:Int)))] [] ?_
  refine AW.cN h (fun T h=>?_) (fun T h=>?_)
  ·refine AW.SG0 Fm 2 [(4,vi n)] [] ?_
   refine AW.ret ?_
   obtain rfl:=Option.some.inj h
   exact Kn.D Fm
  ·refine AW.skip (AW.join (r:=r) (fun z:Unit=>rotation_check_k2 F a) (fun z=>[(0,AL a)]) (fun z=>[]) (fun z h=>?_) (fun s0 E=>?_))
   ·refine AW.join (r:=r) (fun z:Unit=>rotation_check_k4 F a) (fun z=>[(0,AL a)]) (fun z=>[]) (fun z h=>?_) (fun u0 I=>?_)
    ·refine AW.join (r:=r) (fun z:Unit=>rotation_check_k8 F) (fun z=>[]) (fun z=>[]) (fun z h=>?_) (fun B0 O=>?_)
     ·refine AW.SG0 Fm 1 [(4,vi 0)] [] ?_
      refine AW.ret ?_
      obtain rfl:=Option.some.inj h
      exact Kn.D Fm
     ·refine AW.SG0 Fm 3 [(0,AL a),(50,AL a),(51,vi (lI a)),(52,vi 0)] [] ?_
      refine AW.block (AW.loopF (E' := fun z=>[(0,AL a),(50,AL a),(51,vi (lI a)),(52,vi z)]) (S' := fun z=>[]) (fun A b w0 L h=>?_) h)
      refine AW.SG0 Fm 1 [(0,AL a),(50,AL a),(51,vi (lI a)),(52,vi b),(53,vb (decide (b<(lI a))))] [] ?_
      refine AW.seq (AW.cN h (fun Y h=>?_) (fun Y h=>?_))
      ·refine AW.skip (AW.join (r:=r) (fun z:Unit=>rotation_check_k7 F b A) (fun z=>[(0,AL a),(50,AL a),(51,vi (lI a)),(52,vi b)]) (fun z=>[]) (fun z h=>?_) (fun A0 N=>?_))
       ·obtain ⟨l0,h⟩:=gS h
        refine AW.pN Fm [.s,.s] [(0,AL a),(50,AL a),(51,vi (lI a)),(52,vi (b+1))] [] (cT (cT l0)) ?_
        exact Kn.R Fm (L (b+1) h)
       ·refine AW.block ?_
        obtain ⟨i0,h⟩:=gS h
        refine AW.SP Fm [.s,.s,.s,.s,.s,.s] [(0,AL a),(10,vi b),(11,pt 11),(50,AL a),(51,vi (lI a)),(52,vi b)] [(11,bx [ci ((gl a b.toNat).parcel_),.d (DL (α:=Rect) (gl a b.toNat).region_.rects_),ci ((gl a b.toNat).crop_),ci ((gl a b.toNat).schemes_)])] (cT i0) ?_
        obtain ⟨q,h⟩:=gS h
        refine AW.SP Fm [.s,.s,.w (AL (α:=Line) (a.take b.toNat)),.s,.s] [(0,AL a),(11,pt 11),(50,AL a),(51,vi (lI a)),(52,vi b),(59,AL (α:=Line) (a.take b.toNat)),(60,vi (lI (a.take b.toNat))),(61,vi 0)] [(11,bx [ci ((gl a b.toNat).parcel_),.d (DL (α:=Rect) (gl a b.toNat).region_.rects_),ci ((gl a b.toNat).crop_),ci ((gl a b.toNat).schemes_)])] (cA (⟨q,(Is.refl a).len⟩ : ((sl (List.length a) (LF a) none (some b)).2∧∀ j,j<List.length a→(LF a j).length=4)) (cT (ALe.lst (sl_is a none (some b) q):ALe (.v (.c (.d (.lst (sl (List.length a) (LF a) none (some b)).1.1 (sl (List.length a) (LF a) none (some b)).1.2)))) (AL (α:=Line) (a.take b.toNat))))) ?_
        refine AW.block (AW.loopF (E' := fun z=>[(0,AL a),(11,pt 11),(50,AL a),(51,vi (lI a)),(52,vi b),(59,AL (α:=Line) (a.take b.toNat)),(60,vi (lI (a.take b.toNat))),(61,vi z)]) (S' := fun z=>[(11,bx [ci ((gl a b.toNat).parcel_),.d (DL (α:=Rect) (gl a b.toNat).region_.rects_),ci ((gl a b.toNat).crop_),ci ((gl a b.toNat).schemes_)])]) (fun E0 m y0 M h=>?_) h)
        refine AW.SG0 Fm 1 [(0,AL a),(11,pt 11),(50,AL a),(51,vi (lI a)),(52,vi b),(59,AL (α:=Line) (a.take b.toNat)),(60,vi (lI (a.take b.toNat))),(61,vi m),(62,vb (decide (m<(lI (a.take b.toNat)))))] [(11,bx [ci ((gl a b.toNat).parcel_),.d (DL (α:=Rect) (gl a b.toNat).region_.rects_),ci ((gl a b.toNat).crop_),ci ((gl a b.toNat).schemes_)])] ?_
        refine AW.seq (AW.cN h (fun Z h=>?_) (fun Z h=>?_))
        ·refine AW.skip (AW.seq (AW.block ?_))
         obtain ⟨j0,h⟩:=gS h
         refine AW.SP Fm [.s,.s,.s,.s] [(0,AL a),(11,pt 11),(13,pt 13),(50,AL a),(51,vi (lI a)),(52,vi b),(59,AL (α:=Line) (a.take b.toNat)),(60,vi (lI (a.take b.toNat))),(61,vi m)] [(11,bx [ci ((gl a b.toNat).parcel_),.d (DL (α:=Rect) (gl a b.toNat).region_.rects_),ci ((gl a b.toNat).crop_),ci ((gl a b.toNat).schemes_)]),(13,bx [ci ((gl (a.take b.toNat) m.toNat).parcel_),.d (DL (α:=Rect) (gl (a.take b.toNat) m.toNat).region_.rects_),ci ((gl (a.take b.toNat) m.toNat).crop_),ci ((gl (a.take b.toNat) m.toNat).schemes_)])] (cT j0) ?_
         refine AW.seq ?_
         obtain ⟨u,o0,h⟩:=bS h
         refine AW.G Fm [.s,.s,.s,.s,.k (cE [] [] (vb u) [] [])] (fun K=>K 4∧True) [(0,AL a),(11,pt 11),(50,AL a),(51,vi (lI a)),(52,vi b),(59,AL (α:=Line) (a.take b.toNat)),(60,vi (lI (a.take b.toNat))),(61,vi m),(69,vb u)] [(11,bx [ci ((gl a b.toNat).parcel_),.d (DL (α:=Rect) (gl a b.toNat).region_.rects_),ci ((gl a b.toNat).crop_),ci ((gl a b.toNat).schemes_)])] ⟨KAt.CC (region_Meets_spec o0) Tryz.call108 [],⟨⟩⟩ ?_
         refine AW.cN h (fun a0 h=>?_) (fun a0 h=>?_)
         ·refine AW.SG0 Fm 1 [(4,vi 11)] [] ?_
          refine AW.ret ?_
          obtain rfl:=Option.some.inj h
          exact Kn.D Fm
         ·refine AW.skip ?_
          obtain ⟨k0,h⟩:=gS h
          refine AW.pN Fm [.s,.s] [(0,AL a),(11,pt 11),(50,AL a),(51,vi (lI a)),(52,vi b),(59,AL (α:=Line) (a.take b.toNat)),(60,vi (lI (a.take b.toNat))),(61,vi (m+1))] [(11,bx [ci ((gl a b.toNat).parcel_),.d (DL (α:=Rect) (gl a b.toNat).region_.rects_),ci ((gl a b.toNat).crop_),ci ((gl a b.toNat).schemes_)])] (cT (cT k0)) ?_
          exact Kn.R Fm (M (m+1) h)
        ·exact AW.exit (Kn.R Fm (N () h))
      ·exact AW.exit (Kn.R Fm (O () h))
    ·refine AW.SG0 Fm 3 [(0,AL a),(39,AL a),(40,vi (lI a)),(41,vi 0)] [] ?_
     refine AW.block (AW.loopF (E' := fun z=>[(0,AL a),(39,AL a),(40,vi (lI a)),(41,vi z)]) (S' := fun z=>[]) (fun D0 l t0 H h=>?_) h)
     refine AW.SG0 Fm 1 [(0,AL a),(39,AL a),(40,vi (lI a)),(41,vi l),(42,vb (decide (l<(lI a))))] [] ?_
     refine AW.seq (AW.cN h (fun W h=>?_) (fun W h=>?_))
     ·refine AW.skip (AW.seq (AW.block ?_))
      obtain ⟨d0,h⟩:=gS h
      refine AW.SP Fm [.s,.s,.s,.s] [(0,AL a),(9,pt 9),(39,AL a),(40,vi (lI a)),(41,vi l)] [(9,bx [ci ((gl a l.toNat).parcel_),.d (DL (α:=Rect) (gl a l.toNat).region_.rects_),ci ((gl a l.toNat).crop_),ci ((gl a l.toNat).schemes_)])] (cT d0) ?_
      refine AW.seq ?_
      obtain ⟨t,n0,h⟩:=bS h
      refine AW.G Fm [.s,.s,.k (cE [] [] (vb t) [] []),.s] (fun K=>K 2∧True) [(0,AL a),(39,AL a),(40,vi (lI a)),(41,vi l),(48,vb (!t))] [] ⟨KAt.CC (region_Valid_spec n0) Tryz.call94 [],⟨⟩⟩ ?_
      refine AW.cN h (fun X h=>?_) (fun X h=>?_)
      ·refine AW.SG0 Fm 1 [(4,vi 7)] [] ?_
       refine AW.ret ?_
       obtain rfl:=Option.some.inj h
       exact Kn.D Fm
      ·refine AW.skip ?_
       obtain ⟨e0,h⟩:=gS h
       refine AW.pN Fm [.s,.s] [(0,AL a),(39,AL a),(40,vi (lI a)),(41,vi (l+1))] [] (cT (cT e0)) ?_
       exact Kn.R Fm (H (l+1) h)
     ·exact AW.exit (Kn.R Fm (I () h))
   ·refine AW.SG0 Fm 3 [(0,AL a),(1,AL i),(22,AL a),(23,vi (lI a)),(24,vi 0)] [] ?_
    refine AW.block (AW.loopF (E' := fun z=>[(0,AL a),(1,AL i),(22,AL a),(23,vi (lI a)),(24,vi z)]) (S' := fun z=>[]) (fun y e p0 B h=>?_) h)
    refine AW.SG0 Fm 1 [(0,AL a),(1,AL i),(22,AL a),(23,vi (lI a)),(24,vi e),(25,vb (decide (e<(lI a))))] [] ?_
    refine AW.seq (AW.cN h (fun U h=>?_) (fun U h=>?_))
    ·refine AW.skip (AW.seq (AW.block ?_))
     obtain ⟨b0,h⟩:=gS h
     refine AW.SP Fm [.s,.s,.s,.s] [(0,AL a),(1,AL i),(7,pt 7),(22,AL a),(23,vi (lI a)),(24,vi e)] [(7,bx [ci ((gl a e.toNat).parcel_),.d (DL (α:=Rect) (gl a e.toNat).region_.rects_),ci ((gl a e.toNat).crop_),ci ((gl a e.toNat).schemes_)])] (cT b0) ?_
     refine AW.join (r:=r) (fun z:Bool=>rotation_check_k1 F e y z) (fun z=>[(0,AL a),(1,AL i),(22,AL a),(23,vi (lI a)),(24,vi e),(37,vb z)]) (fun z=>[]) (fun G0 h=>?_) (fun q0 p=>?_)
     ·refine AW.cN h (fun V h=>?_) (fun V h=>?_)
      ·refine AW.SG0 Fm 1 [(4,vi 13)] [] ?_
       refine AW.ret ?_
       obtain rfl:=Option.some.inj h
       exact Kn.D Fm
      ·refine AW.skip ?_
       obtain ⟨c0,h⟩:=gS h
       refine AW.pN Fm [.s,.s] [(0,AL a),(1,AL i),(22,AL a),(23,vi (lI a)),(24,vi (e+1))] [] (cT (cT c0)) ?_
       exact Kn.R Fm (B (e+1) h)
     ·rcases br_or h with ⟨o,h⟩|⟨o,h⟩
      ·refine AW.pN Fm [.s,.s,.s,.w (vb true),.s,.s,.s,.s,.s,.s] [(0,AL a),(1,AL i),(22,AL a),(23,vi (lI a)),(24,vi e),(37,vb true)] [] (cT (ALe.bool o)) ?_
       exact Kn.R Fm (p true h)
      ·refine AW.pN Fm [.s,.s,.s,.w (vb false),.s,.s,.s,.s,.s,.s] [(0,AL a),(1,AL i),(22,AL a),(23,vi (lI a)),(24,vi e),(32,.v (.c (.ptr 7 2))),(33,vi (gl a e.toNat).crop_),(34,AL i),(35,vi (lI i)),(36,vb (decide ((lI i)≤((gl a e.toNat).crop_)))),(37,vb (decide ((lI i)≤((gl a e.toNat).crop_))))] [(7,bx [ci ((gl a e.toNat).parcel_),.d (DL (α:=Rect) (gl a e.toNat).region_.rects_),ci ((gl a e.toNat).crop_),ci ((gl a e.toNat).schemes_)])] (cT (ALe.bool o)) ?_
       exact Kn.R Fm (p (decide ((lI i)≤((gl a e.toNat).crop_))) h)
    ·exact AW.exit (Kn.R Fm (E () h))
theorem rotation_arable_spec {F:Nat} {a:(List Line)} {e:(List Crop)} {r:(List Line)} (h:rotation_arable F a e=some r) :
  FSpec Tryz.prog 168 [AL a,AL e] [] (AL (α:=Line) r) []:=by
 refine FI Tryz.func168 prog_mixed prog_lay fun C Fm=>?_
 unfold rotation_arable at h
 refine AW.SG0 Fm 1 [(0,AL a),(1,AL e)] [] ?_
 refine AW.SW Fm [.m] (fun K=>True) [(0,AL a),(1,AL e),(5,ow 5)] [(5,AO (α:=Line) ([]:List Line))] True.intro [(5,.arr 4 (0) (fun _=>[]))] ⟨OLe.is ((Is.nil (α:=Line))),⟨⟩⟩ ?_
 refine AW.join (r:=r) (fun z:(List Line)=>rotation_arable_k2 F z) (fun z=>[(5,ow 5)]) (fun z=>[(5,AO z)]) (fun j h=>?_) (fun H p=>?_)
 ·refine AW.SG0 Fm 2 [(4,ow 5)] [(5,AO j)] ?_
  refine AW.ret ?_
  obtain rfl:=Option.some.inj h
  refine Kn.r Fm [(4,ow 5)] [(5,AO j)] (by kernel_rfl) ?_
  refine Kn.frz [(4,AL j)] [] (by kernel_rfl) (by kernel_rfl) (by kernel_rfl) ?_
  exact Kn.D Fm
 ·refine AW.SG0 Fm 3 [(1,AL e),(5,ow 5),(8,AL a),(9,vi (lI a)),(10,vi 0)] [(5,AO (α:=Line) ([]:List Line))] ?_
  refine AW.block (Kn.r Fm [(1,AL e),(5,ow 5),(8,AL a),(9,vi (lI a)),(10,vi 0)] [(5,AO ([]:List Line))] (by kernel_rfl) ?_)
  refine AW.loopF (E' := fun z=>[(1,AL e),(5,ow 5),(8,AL a),(9,vi (lI a)),(10,vi z.1)]) (S' := fun z=>[(5,AO z.2)]) (fun n z E o h=>?_) h
  obtain ⟨b,i⟩:=z
  refine AW.SG0 Fm 1 [(1,AL e),(5,ow 5),(8,AL a),(9,vi (lI a)),(10,vi b),(11,vb (decide (b<(lI a))))] [(5,AO i)] ?_
  refine AW.seq (AW.cN h (fun q h=>?_) (fun q h=>?_))
  ·refine AW.skip (AW.join (r:=r) (fun z:(List Line)=>rotation_arable_k1 F b n z) (fun z=>[(1,AL e),(5,ow 25),(8,AL a),(9,vi (lI a)),(10,vi b)]) (fun z=>[(25,AO z)]) (fun l h=>?_) (fun G k=>?_))
   ·obtain ⟨B,h⟩:=gS h
    refine AW.pN Fm [.s,.s] [(1,AL e),(5,ow 25),(8,AL a),(9,vi (lI a)),(10,vi (b+1))] [(25,AO l)] (cT (cT B)) ?_
    exact Kn.RE Fm [(5,25)] (o ((b+1),l) h)
   ·refine AW.block ?_
    obtain ⟨u,h⟩:=gS h
    refine AW.SP Fm [.s,.s,.s,.s] [(1,AL e),(5,ow 5),(7,pt 7),(8,AL a),(9,vi (lI a)),(10,vi b)] [(5,AO i),(7,bx [ci ((gl a b.toNat).parcel_),.d (DL (α:=Rect) (gl a b.toNat).region_.rects_),ci ((gl a b.toNat).crop_),ci ((gl a b.toNat).schemes_)])] (cT u) ?_
    obtain ⟨y,h⟩:=gS h
    refine AW.SP Fm [.s,.s,.s,.s,.s,.s,.s,.s] [(1,AL e),(5,ow 5),(7,pt 7),(8,AL a),(9,vi (lI a)),(10,vi b),(21,vb ((band .i64 ((gl e ((gl a b.toNat).crop_).toNat).marks_) (3:Int))==(0:Int)))] [(5,AO i),(7,bx [ci ((gl a b.toNat).parcel_),.d (DL (α:=Rect) (gl a b.toNat).region_.rects_),ci ((gl a b.toNat).crop_),ci ((gl a b.toNat).schemes_)])] (cT y) ?_
    refine AW.cN h (fun t h=>?_) (fun t h=>?_)
    ·obtain ⟨A,h⟩:=gS h
     refine AW.WP Fm [.s,.s,.w (AL (α:=Line) ([(gl a b.toNat)]:List Line)),.s,.s] [(1,AL e),(5,ow 25),(8,AL a),(9,vi (lI a)),(10,vi b)] [(25,AO (α:=Line) (i++([(gl a b.toNat)]:List Line)))] (cA (ALe.lst (.lit ([(gl a b.toNat)]:List Line) (by kernel_rfl)):ALe (.v (.c (.d (.lst 1 (litF 4 [.int .i64 (gl a b.toNat).parcel_,DL (α:=Rect) (gl a b.toNat).region_.rects_,.int .i64 (gl a b.toNat).crop_,.int .i64 (gl a b.toNat).schemes_]))))) (AL (α:=Line) ([(gl a b.toNat)]:List Line))) (cT (cA A (cT (Is.refl ([(gl a b.toNat)]:List Line):Is (List.length (α:=Line) ([(gl a b.toNat)]:List Line)) (LF (α:=Line) ([(gl a b.toNat)]:List Line)) ([(gl a b.toNat)]:List Line)).len)))) [(25,.arr 4 ((List.length (α:=Line) i)+(List.length (α:=Line) ([(gl a b.toNat)]:List Line))) (appF (List.length (α:=Line) i) (LF (α:=Line) i) (LF (α:=Line) ([(gl a b.toNat)]:List Line))))] ⟨OLe.is (Is.app (Is.refl i) (Is.refl ([(gl a b.toNat)]:List Line))),⟨⟩⟩ ?_
     exact Kn.R Fm (k (i++([(gl a b.toNat)]:List Line)) h)
    ·exact AW.skip (Kn.RE Fm [(25,5)] (k i h))
  ·exact AW.exit (Kn.R Fm (p i h))
theorem region_Size_spec {F:Nat} {a:(List Rect)} {r:Int} (h:region_Size F a=some r) :
  FSpec Tryz.prog 178 [AL a] [] (vi r) []:=by
 refine FI Tryz.func178 prog_mixed prog_lay fun C Fm=>?_
 unfold region_Size at h
 refine AW.SG0 Fm 1 [(0,AL a)] [] ?_
 refine AW.SG0 Fm 1 [(0,AL a),(3,vi 0)] [] ?_
 refine AW.join (r:=r) (fun z:Int=>region_Size_k1 F z) (fun z=>[(3,vi z)]) (fun z=>[]) (fun p h=>?_) (fun t e=>?_)
 ·refine AW.SG0 Fm 2 [(2,vi p)] [] ?_
  refine AW.ret ?_
  obtain rfl:=Option.some.inj h
  exact Kn.D Fm
 ·refine AW.SG0 Fm 3 [(3,vi 0),(6,AL a),(7,vi (lI a)),(8,vi 0)] [] ?_
  refine AW.block (AW.loopF (E' := fun z=>[(3,vi z.1),(6,AL a),(7,vi (lI a)),(8,vi z.2)]) (S' := fun z=>[]) (fun u z q d h=>?_) h)
  obtain ⟨c,b⟩:=z
  refine AW.SG0 Fm 1 [(3,vi c),(6,AL a),(7,vi (lI a)),(8,vi b),(9,vb (decide (b<(lI a))))] [] ?_
  refine AW.seq (AW.cN h (fun i h=>?_) (fun i h=>?_))
  ·refine AW.skip (AW.seq (AW.block ?_))
   obtain ⟨j,h⟩:=gS h
   refine AW.SP Fm [.s,.s,.s,.s] [(3,vi c),(5,pt 5),(6,AL a),(7,vi (lI a)),(8,vi b)] [(5,bx [ci ((gl a b.toNat).left_),ci ((gl a b.toNat).low_),ci ((gl a b.toNat).right_),ci ((gl a b.toNat).high_)])] (cT j) ?_
   obtain ⟨k,l,m,n,h⟩:=gS4 h
   refine AW.pN Fm [.s,.s,.s,.s,.s,.s,.s,.s,.s,.s,.s,.s,.s,.s] [(3,vi (c+((((gl a b.toNat).right_)-((gl a b.toNat).left_))*(((gl a b.toNat).high_)-((gl a b.toNat).low_))))),(6,AL a),(7,vi (lI a)),(8,vi b)] [] (cA (cT k) (cA (cT l) (cA (cT m) (cT (cT n))))) ?_
   obtain ⟨o,h⟩:=gS h
   refine AW.pN Fm [.s,.s] [(3,vi (c+((((gl a b.toNat).right_)-((gl a b.toNat).left_))*(((gl a b.toNat).high_)-((gl a b.toNat).low_))))),(6,AL a),(7,vi (lI a)),(8,vi (b+1))] [] (cT (cT o)) ?_
   exact Kn.R Fm (d ((c+((((gl a b.toNat).right_)-((gl a b.toNat).left_))*(((gl a b.toNat).high_)-((gl a b.toNat).low_)))),(b+1)) h)
  ·exact AW.exit (Kn.R Fm (e c h))
theorem region_Area_spec {F:Nat} {a:Region} {r:Int} (h:region_Area F a=some r) :
  FSpec Tryz.prog 169 [.v (.g [.d (DL a.rects_)])] [] (vi r) []:=by
 refine FI Tryz.func169 prog_mixed prog_lay fun C Fm=>?_
 unfold region_Area at h
 refine AW.SG0 Fm 2 [(1,pt 1)] [(1,bx [.d (DL a.rects_)])] ?_
 refine AW.seq (AW.seq ?_)
 obtain ⟨b,i,h⟩:=bS h
 refine AW.G Fm [.s,.k (cE [] [] (vb b) [] []),.s] (fun K=>K 1∧True) [(1,pt 1),(5,vb (!b))] [(1,bx [.d (DL a.rects_)])] ⟨KAt.CC (region_Valid_spec i) Tryz.call94 [],⟨⟩⟩ ?_
 refine AW.cN h (fun e h=>?_) (fun e h=>?_)
 ·refine AW.SG0 Fm 1 [(2,vi 0)] [] ?_
  refine AW.ret ?_
  obtain rfl:=Option.some.inj h
  exact Kn.D Fm
 ·refine AW.skip (AW.seq ?_)
  obtain ⟨c,j,h⟩:=bS h
  refine AW.G Fm [.s,.s,.k (cE [] [] (vi c) [] []),.s] (fun K=>K 2∧True) [(2,vi c)] [] ⟨KAt.CC (region_Size_spec j) Tryz.call178 [],⟨⟩⟩ ?_
  refine AW.ret ?_
  obtain rfl:=Option.some.inj h
  exact Kn.D Fm
theorem rotation_Families_spec {F:Nat} {E:(List Line)} {l:(List Crop)} {r:(List Arr2Int)×Int} (h:rotation_Families F E l=some r) :
  FSpec Tryz.prog 80 [AL E,AL l] [] (.t [.c (.d (DL (α:=Arr2Int) r.1)),.c (ci r.2)]) []:=by
 refine FI Tryz.func80 prog_mixed prog_lay fun C Fm=>?_
 unfold rotation_Families at h
 refine AW.SG0 Fm 2 [(0,AL E),(1,AL l)] [] ?_
 refine AW.seq (AW.seq ?_)
 obtain ⟨B,d0,h⟩:=bS h
 refine AW.G Fm [.s,.s,.k (cE [] [] (vi B) [] []),.s] (fun K=>K 2∧True) [(0,AL E),(1,AL l),(6,vi B)] [] ⟨KAt.CC (rotation_check_spec d0) Tryz.call167 [],⟨⟩⟩ ?_
 refine AW.SG0 Fm 2 [(0,AL E),(1,AL l),(6,vi B),(17,vb (B != (0:Int)))] [] ?_
 refine AW.cN h (fun U h=>?_) (fun U h=>?_)
 ·refine AW.SG0 Fm 3 [(4,.v (.c (.fl 0 fun _=>[]))),(5,vi B)] [] ?_
  refine AW.ret ?_
  obtain rfl:=Option.some.inj h
  refine Kn.r Fm [(4,.v (.c (.fl 0 fun _=>[]))),(5,vi B)] [] (by kernel_rfl) ?_
  refine Kn.wk [(4,AL (α:=Arr2Int) []),(5,vi B)] [] ⟨rfl,ALe.c (CLe.fl .nil),⟨rfl,ALe.c (CLe.refl _),⟨⟩⟩⟩ True.intro ?_
  exact Kn.D Fm
 ·refine AW.skip (AW.SG Fm [.k (rE { v:=.v (.c (.own 19)),new:=some (.ext (mqP [])) }),.s] (fun K=>K 0∧True) [(0,AL E),(1,AL l),(7,ow 19)] [(19,.ext (mqP ([]:List (Int×Int))))] ⟨KAt.mqNew (kT:=0) (eT:=0) rfl rfl (by kernel_rfl),⟨⟩⟩ ?_)
  refine AW.join (r:=r) (fun z:(List (Int×Int))=>rotation_Families_k1 F z) (fun z=>[(7,ow 19)]) (fun z=>[(19,.ext (mqP z))]) (fun u h=>?_) (fun l0 O=>?_)
  ·refine AW.SG0 Fm 1 [(7,ow 19),(10,pt 10)] [(10,bx [.fl 0 fun _=>[]]),(19,.ext (mqP u))] ?_
   refine AW.join (r:=r) (fun z:(List Arr2Int)=>rotation_Families_k3 F z) (fun z=>[(10,pt 10)]) (fun z=>[(10,bx [.own 900]),(900,AO z)]) (fun L h=>?_) (fun n0 T=>?_)
   ·refine AW.seq ?_
    obtain ⟨I,j0,h⟩:=bS h
    refine AW.G Fm [.s,.k (xE [900] { v:=.v (.c (.cp 55 (0))),new:=some (.exr [900] (ifcP 55)) }),.s,.k (cE [(0,900),(1,55),(50,10)] [] .any [(0,AO L),(1,.exr [0] (ifcP 55)),(50,bx [.own 0])] [(0,AO I),(50,bx [.own 0])])] (fun K=>K 1∧K 3∧True) [(10,pt 10)] [(10,bx [.own 900]),(900,AO I)] ⟨KAt.mkIfc (t:=55) (id:=900) (d:=55) (ob:=.box false []) (es:=2) (n:=List.length (α:=Arr2Int) L) (f:=LF (α:=Arr2Int) L) (fun w ad n c=>by simp [Instr.makeInterface,run_underlying Go.Proofs.Tryz.underlying55]) rfl rfl (by kernel_rfl) (by kernel_rfl) (by kernel_rfl),KAt.CC (sortP_spec j0) Tryz.call170 [(0,900),(1,55),(50,10)],⟨⟩⟩ ?_
    refine AW.SG0 Fm 3 [(4,ow 900),(5,vi 0)] [(900,AO I)] ?_
    refine AW.ret ?_
    obtain rfl:=Option.some.inj h
    refine Kn.r Fm [(4,ow 900),(5,vi 0)] [(900,AO I)] (by kernel_rfl) ?_
    refine Kn.frz [(4,AL I),(5,vi 0)] [] (by kernel_rfl) (by kernel_rfl) (by kernel_rfl) ?_
    exact Kn.D Fm
   ·refine AW.seq (Kn.r Fm ((7,ow 19)::[(10,pt 10)]) ((19,.ext (mqP u))::[(10,bx [.fl 0 fun _=>[]])]) (by kernel_rfl) ?_)
    refine Kn.mqz (by kernel_rfl) ?_
    refine Kn.r Fm [(7,.v (.c (.d (MPI u)))),(10,pt 10)] [(10,bx [.fl 0 fun _=>[]])] (by kernel_rfl) ?_
    refine AW.G Fm [.s,.k (rE { v:=.v (.c (.own 42)),new:=some (.ext (itI u none)) })] (fun K=>K 1∧True) [(10,pt 10),(42,ow 42)] [(10,bx [.fl 0 fun _=>[]]),(42,.ext (itI u none))] ⟨KAt.rangeI (gs:=u) (t:=179) (kT:=3) (eT:=3) (d:=42) (by kernel_rfl) rfl rfl (by kernel_rfl) (by kernel_rfl),⟨⟩⟩ ?_
    refine AW.block (Kn.r Fm [(10,pt 10),(42,ow 42)] [(10,bx [.fl 0 fun _=>[]]),(42,.ext (itI u none))] (by kernel_rfl) ?_)
    refine Kn.own0 Fm (i:=10) (k:=900) (es:=2) (j:=0) (f' := LF (α:=Arr2Int) []) (by kernel_rfl) (by kernel_rfl) (by decide) rfl ?_
    refine Kn.r Fm [(10,pt 10),(42,ow 42)] [(10,bx [.own 900]),(42,.ext (itI u none)),(900,AO (α:=Arr2Int) ([]:List Arr2Int))] (by kernel_rfl) ?_
    refine Kn.r Fm [(10,pt 10),(42,ow 42)] [(10,bx [.own 900]),(42,.ext (itI u none)),(900,AO ([]:List Arr2Int))] (by kernel_rfl) ?_
    refine AW.loopF (E' := fun z=>[(10,pt 10),(42,ow 42)]) (S' := fun z=>[(10,bx [.own 900]),(42,.ext (itI z.1 none)),(900,AO z.2)]) (fun p0 z m0 P h=>?_) h
    obtain ⟨M,p⟩:=z
    refine AW.seq (Kn.r Fm [(10,pt 10),(42,ow 42)] [(42,.ext (itI M none)),(10,bx [.own 900]),(900,AO p)] (by kernel_rfl) ?_)
    refine AW.nextI (by kernel_rfl) (by kernel_rfl) (by kernel_rfl) (fun a0=>?_) (fun a A b0=>?_)
    ·have h:=nextM_stop h a0
     refine Kn.r Fm [(10,pt 10),(42,ow 42),(44,vb false)] [(10,bx [.own 900]),(42,.ext (itI M none)),(900,AO p)] (by kernel_rfl) ?_
     refine AW.seq (AW.cond (b:=false) (by kernel_rfl) (fun hb=>by cases hb) (fun _=>?_))
     exact AW.exit (Kn.R Fm (T p h))
    ·have h:=nextM_go h b0
     refine Kn.r Fm [(10,pt 10),(42,ow 42),(44,vb true)] [(10,bx [.own 900]),(42,.ext (itI A (some a))),(900,AO p)] (by kernel_rfl) ?_
     refine AW.seq (AW.cond (b:=true) (by kernel_rfl) (fun _=>?_) (fun hb=>by cases hb))
     refine AW.skip (AW.block (AW.SG Fm [.k (rE { v:=.t [.c (ci a.1),.c (ci a.2)] }),.s,.s,.s,.s] (fun K=>K 0∧True) [(10,pt 10),(11,vi a.1),(12,vi a.2),(42,ow 42)] [(10,bx [.own 900]),(42,.ext (itI A (some a))),(900,AO p)] ⟨KAt.entryI (gs:=A) (q:=a) (id:=42) rfl rfl (by kernel_rfl) (by kernel_rfl) (by kernel_rfl),⟨⟩⟩ ?_))
     obtain ⟨c0,h⟩:=gS h
     refine AW.WP Fm [.s,.s,.s,.s,.w (AL (α:=Arr2Int) ([(⟨a.1,a.2⟩ : Arr2Int)]:List Arr2Int)),.s,.s] [(10,pt 10),(42,ow 42)] [(10,bx [.own 53]),(42,.ext (itI A (some a))),(53,AO (α:=Arr2Int) (p++([(⟨a.1,a.2⟩ : Arr2Int)]:List Arr2Int)))] (cA (ALe.lst (.lit ([(⟨a.1,a.2⟩ : Arr2Int)]:List Arr2Int) (by kernel_rfl)):ALe (.v (.c (.d (.lst 1 (litF 2 [.int .i64 a.1,.int .i64 a.2]))))) (AL (α:=Arr2Int) ([(⟨a.1,a.2⟩ : Arr2Int)]:List Arr2Int))) (cT (cA c0 (cT (Is.refl ([(⟨a.1,a.2⟩ : Arr2Int)]:List Arr2Int):Is (List.length (α:=Arr2Int) ([(⟨a.1,a.2⟩ : Arr2Int)]:List Arr2Int)) (LF (α:=Arr2Int) ([(⟨a.1,a.2⟩ : Arr2Int)]:List Arr2Int)) ([(⟨a.1,a.2⟩ : Arr2Int)]:List Arr2Int)).len)))) [(53,.arr 2 ((List.length (α:=Arr2Int) p)+(List.length (α:=Arr2Int) ([(⟨a.1,a.2⟩ : Arr2Int)]:List Arr2Int))) (appF (List.length (α:=Arr2Int) p) (LF (α:=Arr2Int) p) (LF (α:=Arr2Int) ([(⟨a.1,a.2⟩ : Arr2Int)]:List Arr2Int))))] ⟨OLe.is (Is.app (Is.refl p) (Is.refl ([(⟨a.1,a.2⟩ : Arr2Int)]:List Arr2Int))),⟨⟩⟩ ?_
     refine Kn.r Fm [(10,pt 10),(42,ow 42)] [(10,bx [.own 53]),(42,.ext (itI A (some a))),(53,AO (α:=Arr2Int) (p++([(⟨a.1,a.2⟩ : Arr2Int)]:List Arr2Int)))] (by kernel_rfl) ?_
     refine Kn.wk [(10,pt 10),(42,ow 42)] [(10,bx [.own 53]),(42,.ext (itI A none)),(53,AO (α:=Arr2Int) (p++([(⟨a.1,a.2⟩ : Arr2Int)]:List Arr2Int)))] ⟨rfl,ALe.c (CLe.refl _),⟨rfl,ALe.c (CLe.refl _),⟨⟩⟩⟩ ⟨rfl,OLe.box ⟨CLe.refl _,⟨⟩⟩,⟨rfl,itI_none _ _,⟨rfl,OLe.refl _,⟨⟩⟩⟩⟩ ?_
     exact Kn.RE Fm [(900,53)] (P (A,(p++([(⟨a.1,a.2⟩ : Arr2Int)]:List Arr2Int))) h)
  ·refine AW.seq ?_
   obtain ⟨e,e0,h⟩:=bS h
   refine AW.G Fm [.s,.s,.k (cE [] [] (AL e) [] []),.s,.s] (fun K=>K 2∧True) [(1,AL l),(7,ow 19),(22,AL e),(23,vi (lI e)),(24,vi 0)] [(19,.ext (mqP ([]:List (Int×Int))))] ⟨KAt.CC (rotation_arable_spec e0) Tryz.call168 [],⟨⟩⟩ ?_
   refine AW.block (AW.loopF (E' := fun z=>[(1,AL l),(7,ow 19),(22,AL e),(23,vi (lI e)),(24,vi z.1)]) (S' := fun z=>[(19,.ext (mqP z.2))]) (fun o0 z k0 N h=>?_) h)
   obtain ⟨m,o⟩:=z
   refine AW.SG0 Fm 1 [(1,AL l),(7,ow 19),(22,AL e),(23,vi (lI e)),(24,vi m),(25,vb (decide (m<(lI e))))] [(19,.ext (mqP o))] ?_
   refine AW.seq (AW.cN h (fun V h=>?_) (fun V h=>?_))
   ·refine AW.skip (AW.seq (AW.block ?_))
    obtain ⟨W,h⟩:=gS h
    refine AW.SP Fm [.s,.s,.s,.s] [(1,AL l),(7,ow 19),(9,pt 9),(22,AL e),(23,vi (lI e)),(24,vi m)] [(9,bx [ci ((gl e m.toNat).parcel_),.d (DL (α:=Rect) (gl e m.toNat).region_.rects_),ci ((gl e m.toNat).crop_),ci ((gl e m.toNat).schemes_)]),(19,.ext (mqP o))] (cT W) ?_
    obtain ⟨X,h⟩:=gS h
    obtain ⟨H,i0,h⟩:=bS h
    obtain ⟨Y,h⟩:=gS h
    refine AW.G Fm [.s,.s,.s,.s,.s,.s,.s,.k (rE { v:=vi (iGet ((gl l ((gl e m.toNat).crop_).toNat).family_) o) }),.s,.s,.k (cE [] [] (vi H) [] []),.s,.k (rE { upd:=some (19,.ext (mqP (iPut ((gl l ((gl e m.toNat).crop_).toNat).family_) ((iGet ((gl l ((gl e m.toNat).crop_).toNat).family_) o)+H) o))) })] (fun K=>_∧K 7∧K 10∧(_∧True)∧K 12∧True) [(1,AL l),(7,ow 19),(22,AL e),(23,vi (lI e)),(24,vi m)] [(19,.ext (mqP (iPut ((gl l ((gl e m.toNat).crop_).toNat).family_) ((iGet ((gl l ((gl e m.toNat).crop_).toNat).family_) o)+H) o)))] ⟨X,KAt.mqGet (gs:=o) (id:=19) (t:=179) (kT:=3) (eT:=3) (y:=(gl l ((gl e m.toNat).crop_).toNat).family_) (by kernel_rfl) (by kernel_rfl) Go.Proofs.Tryz.zeroValue3 rfl rfl (by kernel_rfl) (by kernel_rfl) (by kernel_rfl) (by kernel_rfl),KAt.CC (region_Area_spec i0) Tryz.call169 [],⟨Y,⟨⟩⟩,KAt.mqPut (gs:=o) (id:=19) (t:=179) (kT:=3) (eT:=3) (y:=(gl l ((gl e m.toNat).crop_).toNat).family_) (n:=((iGet ((gl l ((gl e m.toNat).crop_).toNat).family_) o)+H)) (by kernel_rfl) (by kernel_rfl) rfl rfl (by kernel_rfl) (by kernel_rfl) (by kernel_rfl) (by kernel_rfl) (by kernel_rfl),⟨⟩⟩ ?_
    obtain ⟨Z,h⟩:=gS h
    refine AW.pN Fm [.s,.s] [(1,AL l),(7,ow 19),(22,AL e),(23,vi (lI e)),(24,vi (m+1))] [(19,.ext (mqP (iPut ((gl l ((gl e m.toNat).crop_).toNat).family_) ((iGet ((gl l ((gl e m.toNat).crop_).toNat).family_) o)+H) o)))] (cT (cT Z)) ?_
    exact Kn.R Fm (N ((m+1),(iPut ((gl l ((gl e m.toNat).crop_).toNat).family_) ((iGet ((gl l ((gl e m.toNat).crop_).toNat).family_) o)+H) o)) h)
   ·exact AW.exit (Kn.R Fm (O o h))
theorem rotation_Diverse_spec {F:Nat} {I:(List Line)} {L:(List Crop)} {i:Int} {e:Int} {r:Bool×Int} (h:rotation_Diverse F I L i e=some r) :
  FSpec Tryz.prog 81 [AL I,AL L,vi i,vi e] [] (.t [.c (.d (.bool r.1)),.c (ci r.2)]) []:=by
 refine FI Tryz.func81 prog_mixed prog_lay fun C Fm=>?_
 unfold rotation_Diverse at h
 refine AW.SG0 Fm 2 [(0,AL I),(1,AL L),(2,vi i),(3,vi e)] [] ?_
 refine AW.seq ?_
 obtain ⟨a,p0,h⟩:=bS h
 refine AW.G Fm [.s,.s,.k (cE [] [] (.t [.c (.d (DL a.1)),.c (ci a.2)]) [] []),.s,.s,.s,.s,.s] (fun K=>K 2∧True) [(2,vi i),(3,vi e),(10,AL a.1),(11,vi a.2)] [] ⟨KAt.CC (rotation_Families_spec p0) Tryz.call80 [],⟨⟩⟩ ?_
 refine AW.seq (AW.SG0 Fm 2 [(2,vi i),(3,vi e),(10,AL a.1),(11,vi a.2),(25,vb (a.2 != (0:Int)))] [] ?_)
 refine AW.cN h (fun Y h=>?_) (fun Y h=>?_)
 ·refine AW.SG0 Fm 3 [(8,vb false),(9,vi a.2)] [] ?_
  refine AW.ret ?_
  obtain rfl:=Option.some.inj h
  exact Kn.D Fm
 ·refine AW.skip (AW.seq (AW.join (r:=r) (fun z:Bool=>rotation_Diverse_k0 F i e a z) (fun z=>[(2,vi i),(3,vi e),(10,AL a.1),(37,vb z)]) (fun z=>[]) (fun A0 h=>?_) (fun q0 y=>?_)))
  ·refine AW.cN h (fun Z h=>?_) (fun Z h=>?_)
   ·refine AW.SG0 Fm 2 [(8,vb false),(9,vi 2)] [] ?_
    refine AW.ret ?_
    obtain rfl:=Option.some.inj h
    exact Kn.D Fm
   ·refine AW.skip (AW.SG0 Fm 3 [(2,vi i),(3,vi e),(10,AL a.1),(12,vi 0),(13,vi 0),(14,vi 0)] [] ?_)
    refine AW.join (r:=r) (fun z:Int×Int×Int=>rotation_Diverse_k3 F i e a z.1 z.2.1 z.2.2) (fun z=>[(2,vi i),(3,vi e),(10,AL a.1),(12,vi z.1),(13,vi z.2.1),(14,vi z.2.2)]) (fun z=>[]) (fun z h=>?_) (fun u0 X=>?_)
    ·obtain ⟨n,o,u⟩:=z
     refine AW.seq (AW.block (AW.SG0 Fm 4 [(3,vi e),(10,AL a.1),(12,vi n),(13,vi o),(14,vi u),(58,vb (decide (n≤i)))] [] ?_))
     refine AW.cN h (fun c0 h=>?_) (fun c0 h=>?_)
     ·refine AW.SG0 Fm 2 [(8,vb true),(9,vi 0)] [] ?_
      refine AW.ret ?_
      obtain rfl:=Option.some.inj h
      exact Kn.D Fm
     ·refine AW.SG0 Fm 4 [(10,AL a.1),(12,vi n),(13,vi o),(14,vi u),(62,vb (decide (n≤e)))] [] ?_
      refine AW.cN h (fun d0 h=>?_) (fun d0 h=>?_)
      ·refine AW.join (r:=r) (fun z:Bool=>rotation_Diverse_k4 F z) (fun z=>[(8,vb z),(9,vi 0)]) (fun z=>[]) (fun B0 h=>?_) (fun w0 N=>?_)
       ·refine AW.ret ?_
        obtain rfl:=Option.some.inj h
        exact Kn.D Fm
       ·rcases br_or h with ⟨E,h⟩|⟨E,h⟩
        ·obtain ⟨k0,l0,h⟩:=gS2 h
         refine AW.pN Fm [.s,.s,.s,.w (vb true),.s,.s,.s,.s,.s,.s,.s,.s] [(8,vb (decide (((4:Int)*o)≤((3:Int)*n)))),(9,vi 0)] [] (cA (ALe.bool E) (cA (cT k0) (cT (cT l0)))) ?_
         exact Kn.R Fm (N (decide (((4:Int)*o)≤((3:Int)*n))) h)
        ·refine AW.pN Fm [.s,.s,.s,.w (vb false),.s,.s,.s,.s,.s,.s,.s,.s] [(8,vb false),(9,vi 0)] [] (cT (ALe.bool E)) ?_
         exact Kn.R Fm (N false h)
      ·refine AW.skip (AW.join (r:=r) (fun z:Bool=>rotation_Diverse_k5 F z) (fun z=>[(8,vb z),(9,vi 0)]) (fun z=>[]) (fun D0 h=>?_) (fun y0 A=>?_))
       ·refine AW.ret ?_
        obtain rfl:=Option.some.inj h
        exact Kn.D Fm
       ·rcases br_or h with ⟨q,h⟩|⟨q,h⟩
        ·obtain ⟨O,P,h⟩:=gS2 h
         rcases br_or h with ⟨H,h⟩|⟨H,h⟩
         ·obtain ⟨m0,n0,o0,h⟩:=gS3 h
          refine AW.pN Fm [.s,.s,.s,.w (vb true),.s,.s,.s,.s,.s,.s,.w (vb true),.s,.s,.s,.s,.s,.s,.s,.s,.s,.s] [(8,vb (decide (((20:Int)*(o+u))≤((19:Int)*n)))),(9,vi 0)] [] (cA (ALe.bool q) (cA (cT O) (cA (cT P) (cA (ALe.bool H) (cA (cT m0) (cA (cT n0) (cT (cT o0)))))))) ?_
          exact Kn.R Fm (A (decide (((20:Int)*(o+u))≤((19:Int)*n))) h)
         ·refine AW.pN Fm [.s,.s,.s,.w (vb true),.s,.s,.s,.s,.s,.s,.w (vb false),.s,.s,.s,.s,.s,.s,.s,.s,.s,.s] [(8,vb false),(9,vi 0)] [] (cA (ALe.bool q) (cA (cT O) (cA (cT P) (cT (ALe.bool H))))) ?_
          exact Kn.R Fm (A false h)
        ·refine AW.pN Fm [.s,.s,.s,.w (vb false),.s,.s,.s,.s,.s,.s,.s,.s,.s,.s,.s,.s,.s,.s,.s,.s,.s] [(8,vb false),(9,vi 0)] [] (cT (ALe.bool q)) ?_
         exact Kn.R Fm (A false h)
    ·refine AW.SG0 Fm 3 [(2,vi i),(3,vi e),(10,AL a.1),(12,vi 0),(13,vi 0),(14,vi 0),(38,AL a.1),(39,vi (lI a.1)),(40,vi 0)] [] ?_
     refine AW.block (AW.loopF (E' := fun z=>[(2,vi i),(3,vi e),(10,AL a.1),(12,vi z.1),(13,vi z.2.1),(14,vi z.2.2.1),(38,AL a.1),(39,vi (lI a.1)),(40,vi z.2.2.2)]) (S' := fun z=>[]) (fun V z s0 W h=>?_) h)
     obtain ⟨j,l,m,b⟩:=z
     refine AW.SG0 Fm 1 [(2,vi i),(3,vi e),(10,AL a.1),(12,vi j),(13,vi l),(14,vi m),(38,AL a.1),(39,vi (lI a.1)),(40,vi b),(41,vb (decide (b<(lI a.1))))] [] ?_
     refine AW.seq (AW.cN h (fun a0 h=>?_) (fun a0 h=>?_))
     ·refine AW.skip (AW.join (r:=r) (fun z:Int×Int=>rotation_Diverse_k2 F a j b V z.1 z.2) (fun z=>[(2,vi i),(3,vi e),(10,AL a.1),(12,vi (j+((gl a.1 b.toNat).e1_))),(13,vi z.1),(14,vi z.2),(38,AL a.1),(39,vi (lI a.1)),(40,vi b)]) (fun z=>[]) (fun z h=>?_) (fun t0 M=>?_))
      ·obtain ⟨T,U⟩:=z
       obtain ⟨j0,h⟩:=gS h
       refine AW.pN Fm [.s,.s] [(2,vi i),(3,vi e),(10,AL a.1),(12,vi (j+((gl a.1 b.toNat).e1_))),(13,vi T),(14,vi U),(38,AL a.1),(39,vi (lI a.1)),(40,vi (b+1))] [] (cT (cT j0)) ?_
       exact Kn.R Fm (W ((j+((gl a.1 b.toNat).e1_)),T,U,(b+1)) h)
      ·refine AW.block ?_
       obtain ⟨e0,h⟩:=gS h
       refine AW.SP Fm [.s,.s,.s,.s] [(2,vi i),(3,vi e),(10,AL a.1),(12,vi j),(13,vi l),(14,vi m),(16,pt 16),(38,AL a.1),(39,vi (lI a.1)),(40,vi b)] [(16,bx [ci ((gl a.1 b.toNat).e0_),ci ((gl a.1 b.toNat).e1_)])] (cT e0) ?_
       refine AW.SP Fm [.s,.s,.s] [(2,vi i),(3,vi e),(10,AL a.1),(12,vi j),(13,vi l),(14,vi m),(17,vi (gl a.1 b.toNat).e1_),(38,AL a.1),(39,vi (lI a.1)),(40,vi b)] [] (cT (True.intro:True)) ?_
       obtain ⟨i0,h⟩:=gS h
       refine AW.SP Fm [.s,.s,.s,.s] [(2,vi i),(3,vi e),(10,AL a.1),(12,vi (j+((gl a.1 b.toNat).e1_))),(13,vi l),(14,vi m),(17,vi (gl a.1 b.toNat).e1_),(38,AL a.1),(39,vi (lI a.1)),(40,vi b)] [] (cT (cT i0)) ?_
       refine AW.SG0 Fm 3 [(2,vi i),(3,vi e),(10,AL a.1),(12,vi (j+((gl a.1 b.toNat).e1_))),(13,vi l),(14,vi m),(17,vi (gl a.1 b.toNat).e1_),(38,AL a.1),(39,vi (lI a.1)),(40,vi b),(51,vb (decide (l<((gl a.1 b.toNat).e1_))))] [] ?_
       refine AW.cN h (fun b0 h=>?_) (fun b0 h=>?_)
       ·refine AW.G0 Fm 4 [(2,vi i),(3,vi e),(10,AL a.1),(12,vi (j+((gl a.1 b.toNat).e1_))),(13,vi (gl a.1 b.toNat).e1_),(14,vi l),(38,AL a.1),(39,vi (lI a.1)),(40,vi b)] [] ?_
        exact Kn.R Fm (M ((gl a.1 b.toNat).e1_,l) h)
       ·refine AW.G0 Fm 4 [(2,vi i),(3,vi e),(10,AL a.1),(12,vi (j+((gl a.1 b.toNat).e1_))),(13,vi l),(14,vi (gmax m ((gl a.1 b.toNat).e1_))),(38,AL a.1),(39,vi (lI a.1)),(40,vi b)] [] ?_
        exact Kn.R Fm (M (l,(gmax m ((gl a.1 b.toNat).e1_))) h)
     ·exact AW.exit (Kn.R Fm (X (j,l,m) h))
  ·rcases br_or h with ⟨p,h⟩|⟨p,h⟩
   ·refine AW.pN Fm [.s,.s,.w (vb true),.s,.s,.s,.s,.s,.s,.s,.s] [(2,vi i),(3,vi e),(10,AL a.1),(37,vb true)] [] (cT (ALe.bool p)) ?_
    exact Kn.R Fm (y true h)
   ·rcases br_or h with ⟨B,h⟩|⟨B,h⟩
    ·refine AW.pN Fm [.s,.s,.w (vb false),.s,.s,.s,.s,.w (vb true),.s,.s,.s] [(2,vi i),(3,vi e),(10,AL a.1),(37,vb true)] [] (cA (ALe.bool p) (cT (ALe.bool B))) ?_
     exact Kn.R Fm (y true h)
    ·refine AW.pN Fm [.s,.s,.w (vb false),.s,.s,.s,.s,.w (vb false),.s,.s,.s] [(2,vi i),(3,vi e),(10,AL a.1),(37,vb (decide ((268435456:Int)<e)))] [] (cA (ALe.bool p) (cT (ALe.bool B))) ?_
     exact Kn.R Fm (y (decide ((268435456:Int)<e)) h)
theorem ref19_Pairs_spec {F:Nat} {a:(List Arr2Int)} {c:(List Arr2Int)} {r:Bool} (h:ref19_Pairs F a c=some r) :
  FSpec Tryz.prog 82 [AL a,AL c] [] (vb r) []:=by
 refine FI Tryz.func82 prog_mixed prog_lay fun C Fm=>?_
 unfold ref19_Pairs at h
 refine AW.SG0 Fm 1 [(0,AL a),(1,AL c)] [] ?_
 refine AW.seq (AW.SG0 Fm 5 [(0,AL a),(1,AL c),(10,vb ((lI a) != (lI c)))] [] ?_)
 refine AW.cN h (fun i h=>?_) (fun i h=>?_)
 ·refine AW.SG0 Fm 1 [(4,vb false)] [] ?_
  refine AW.ret ?_
  obtain rfl:=Option.some.inj h
  exact Kn.D Fm
 ·refine AW.skip (AW.join (r:=r) (fun z:Unit=>ref19_Pairs_k1 F) (fun z=>[]) (fun z=>[]) (fun z h=>?_) (fun q e=>?_))
  ·refine AW.SG0 Fm 1 [(4,vb true)] [] ?_
   refine AW.ret ?_
   obtain rfl:=Option.some.inj h
   exact Kn.D Fm
  ·refine AW.SG0 Fm 3 [(0,AL a),(1,AL c),(12,vi (lI a)),(13,vi 0)] [] ?_
   refine AW.block (AW.loopF (E' := fun z=>[(0,AL a),(1,AL c),(12,vi (lI a)),(13,vi z)]) (S' := fun z=>[]) (fun t b p d h=>?_) h)
   refine AW.SG0 Fm 1 [(0,AL a),(1,AL c),(12,vi (lI a)),(13,vi b),(14,vb (decide (b<(lI a))))] [] ?_
   refine AW.seq (AW.cN h (fun j h=>?_) (fun j h=>?_))
   ·refine AW.skip (AW.seq (AW.block (AW.SG0 Fm 2 [(0,AL a),(1,AL c),(5,vi b),(12,vi (lI a)),(13,vi b)] [] ?_)))
    obtain ⟨m,n,h⟩:=gS2 h
    refine AW.SG Fm [.s,.s,.s,.s,.s,.s,.s,.s,.k (sE (vb (!((((gl a b.toNat).e0_)==((gl c b.toNat).e0_))&&(((gl a b.toNat).e1_)==((gl c b.toNat).e1_))))))] (fun K=>_∧_∧K 8∧True) [(0,AL a),(1,AL c),(12,vi (lI a)),(13,vi b),(24,vb (!((((gl a b.toNat).e0_)==((gl c b.toNat).e0_))&&(((gl a b.toNat).e1_)==((gl c b.toNat).e1_)))))] [] ⟨m,n,KAt.eqP eqP54 false (a1:=((gl a b.toNat).e0_)) (a2:=((gl a b.toNat).e1_)) (b1:=((gl c b.toNat).e0_)) (b2:=((gl c b.toNat).e1_)) rfl rfl (by kernel_rfl) (by kernel_rfl) (by kernel_rfl),⟨⟩⟩ ?_
    refine AW.cN h (fun l h=>?_) (fun l h=>?_)
    ·refine AW.SG0 Fm 1 [(4,vb false)] [] ?_
     refine AW.ret ?_
     obtain rfl:=Option.some.inj h
     exact Kn.D Fm
    ·refine AW.skip ?_
     obtain ⟨o,h⟩:=gS h
     refine AW.pN Fm [.s,.s] [(0,AL a),(1,AL c),(12,vi (lI a)),(13,vi (b+1))] [] (cT (cT o)) ?_
     exact Kn.R Fm (d (b+1) h)
   ·exact AW.exit (Kn.R Fm (e () h))
end Go.Ab
end
