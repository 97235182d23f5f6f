/- The code follows the plain programs: whenever the plain program has a result. -/
import Derived.Test.YtdfbifjpedjljaaGreatSpA
import Derived.Test.YtdfbifjpedjljaaGreatAbE
set_option linter.unusedVariables false
set_option linter.unusedSimpArgs false
section
namespace Go.Ab
open Go.Proofs
set_option linter.unusedVariables false
set_option maxRecDepth 100000
theorem rotation_Families_spec {F:Nat} {E:(List Line)} {l:(List Crop)} {r:(List Arr2Int)×Int} (h:rotation_Families F E l=some r) :
  FSpec Tryz.prog 80 [AL E,AL l] [] (.t [.c (.d (DL (α:=Arr2Int) r.1)),.c (ci r.2)]) []:=by
 refine FI Tryz.func80 prog_mixed prog_lay fun C Fm=>?_
 unfold rotation_Families at h
 refine AW.SG0 Fm 2 [(0,AL E),(1,AL l)] [] ?_
 refine AW.seq (AW.seq ?_)
 obtain ⟨B,d0,h⟩:=bS h
 refine AW.G Fm [.s,.s,.k (cE [] [] (vi B) [] []),.s] (fun K=>K 2∧True) [(0,AL E),(1,AL l),(6,vi B)] [] ⟨KAt.CC (rotation_check_spec d0) Tryz.call167 [],⟨⟩⟩ ?_
 refine AW.SG0 Fm 2 [(0,AL E),(1,AL l),(6,vi B),(17,vb (B != (0:Int)))] [] ?_
 refine AW.cN h (fun U h=>?_) (fun U h=>?_)
 ·refine AW.SG0 Fm 3 [(4,.v (.c (.fl 0 fun _=>[]))),(5,vi B)] [] ?_
  refine AW.ret ?_
  obtain rfl:=Option.some.inj h
  refine Kn.r Fm [(4,.v (.c (.fl 0 fun _=>[]))),(5,vi B)] [] (by kernel_rfl) ?_
  refine Kn.wk [(4,AL (α:=Arr2Int) []),(5,vi B)] [] ⟨rfl,ALe.c (CLe.fl .nil),⟨rfl,ALe.c (CLe.refl _),⟨⟩⟩⟩ True.intro ?_
  exact Kn.D Fm
 ·refine AW.skip (AW.SG Fm [.k (rE { v:=.v (.c (.own 19)),new:=some (.ext (mqP [])) }),.s] (fun K=>K 0∧True) [(0,AL E),(1,AL l),(7,ow 19)] [(19,.ext (mqP ([]:List (Int×Int))))] ⟨KAt.mqNew (kT:=0) (eT:=0) rfl rfl (by kernel_rfl),⟨⟩⟩ ?_)
  refine AW.join (r:=r) (fun z:(List (Int×Int))=>rotation_Families_k1 F z) (fun z=>[(7,ow 19)]) (fun z=>[(19,.ext (mqP z))]) (fun u h=>?_) (fun l0 O=>?_)
  ·refine AW.SG0 Fm 1 [(7,ow 19),(10,pt 10)] [(10,bx [.fl 0 fun _=>[]]),(19,.ext (mqP u))] ?_
   refine AW.join (r:=r) (fun z:(List Arr2Int)=>rotation_Families_k3 F z) (fun z=>[(10,pt 10)]) (fun z=>[(10,bx [.own 900]),(900,AO z)]) (fun L h=>?_) (fun n0 T=>?_)
   ·refine AW.seq ?_
    obtain ⟨I,j0,h⟩:=bS h
    refine AW.G Fm [.s,.k (xE [900] { v:=.v (.c (.cp 55 (0))),new:=some (.exr [900] (ifcP 55)) }),.s,.k (cE [(0,900),(1,55),(50,10)] [] .any [(0,AO L),(1,.exr [0] (ifcP 55)),(50,bx [.own 0])] [(0,AO I),(50,bx [.own 0])])] (fun K=>K 1∧K 3∧True) [(10,pt 10)] [(10,bx [.own 900]),(900,AO I)] ⟨KAt.mkIfc (t:=55) (id:=900) (d:=55) (ob:=.box false []) (es:=2) (n:=List.length (α:=Arr2Int) L) (f:=LF (α:=Arr2Int) L) (fun w ad n c=>by simp [Instr.makeInterface,run_underlying Go.Proofs.Tryz.underlying55]) rfl rfl (by kernel_rfl) (by kernel_rfl) (by kernel_rfl),KAt.CC (sortP_spec j0) Tryz.call170 [(0,900),(1,55),(50,10)],⟨⟩⟩ ?_
    refine AW.SG0 Fm 3 [(4,ow 900),(5,vi 0)] [(900,AO I)] ?_
    refine AW.ret ?_
    obtain rfl:=Option.some.inj h
    refine Kn.r Fm [(4,ow 900),(5,vi 0)] [(900,AO I)] (by kernel_rfl) ?_
    refine Kn.frz [(4,AL I),(5,vi 0)] [] (by kernel_rfl) (by kernel_rfl) (by kernel_rfl) ?_
    exact Kn.D Fm
   ·refine AW.seq (Kn.r Fm ((7,ow 19)::[(10,pt 10)]) ((19,.ext (mqP u))::[(10,bx [.fl 0 fun _=>[]])]) (by kernel_rfl) ?_)
    refine Kn.mqz (by kernel_rfl) ?_
    refine Kn.r Fm [(7,.v (.c (.d (MPI u)))),(10,pt 10)] [(10,bx [.fl 0 fun _=>[]])] (by kernel_rfl) ?_
    refine AW.G Fm [.s,.k (rE { v:=.v (.c (.own 42)),new:=some (.ext (itI u none)) })] (fun K=>K 1∧True) [(10,pt 10),(42,ow 42)] [(10,bx [.fl 0 fun _=>[]]),(42,.ext (itI u none))] ⟨KAt.rangeI (gs:=u) (t:=179) (kT:=3) (eT:=3) (d:=42) (by kernel_rfl) rfl rfl (by kernel_rfl) (by kernel_rfl),⟨⟩⟩ ?_
    refine AW.block (Kn.r Fm [(10,pt 10),(42,ow 42)] [(10,bx [.fl 0 fun _=>[]]),(42,.ext (itI u none))] (by kernel_rfl) ?_)
    refine Kn.own0 Fm (i:=10) (k:=900) (es:=2) (j:=0) (f' := LF (α:=Arr2Int) []) (by kernel_rfl) (by kernel_rfl) (by decide) rfl ?_
    refine Kn.r Fm [(10,pt 10),(42,ow 42)] [(10,bx [.own 900]),(42,.ext (itI u none)),(900,AO (α:=Arr2Int) ([]:List Arr2Int))] (by kernel_rfl) ?_
    refine Kn.r Fm [(10,pt 10),(42,ow 42)] [(10,bx [.own 900]),(42,.ext (itI u none)),(900,AO ([]:List Arr2Int))] (by kernel_rfl) ?_
    refine AW.loopF (E' := fun z=>[(10,pt 10),(42,ow 42)]) (S' := fun z=>[(10,bx [.own 900]),(42,.ext (itI z.1 none)),(900,AO z.2)]) (fun p0 z m0 P h=>?_) h
    obtain ⟨M,p⟩:=z
    refine AW.seq (Kn.r Fm [(10,pt 10),(42,ow 42)] [(42,.ext (itI M none)),(10,bx [.own 900]),(900,AO p)] (by kernel_rfl) ?_)
    refine AW.nextI (by kernel_rfl) (by kernel_rfl) (by kernel_rfl) (fun a0=>?_) (fun a A b0=>?_)
    ·have h:=nextM_stop h a0
     refine Kn.r Fm [(10,pt 10),(42,ow 42),(44,vb false)] [(10,bx [.own 900]),(42,.ext (itI M none)),(900,AO p)] (by kernel_rfl) ?_
     refine AW.seq (AW.cond (b:=false) (by kernel_rfl) (fun hb=>by cases hb) (fun _=>?_))
     exact AW.exit (Kn.R Fm (T p h))
    ·have h:=nextM_go h b0
     refine Kn.r Fm [(10,pt 10),(42,ow 42),(44,vb true)] [(10,bx [.own 900]),(42,.ext (itI A (some a))),(900,AO p)] (by kernel_rfl) ?_
     refine AW.seq (AW.cond (b:=true) (by kernel_rfl) (fun _=>?_) (fun hb=>by cases hb))
     refine AW.skip (AW.block (AW.SG Fm [.k (rE { v:=.t [.c (ci a.1),.c (ci a.2)] }),.s,.s,.s,.s] (fun K=>K 0∧True) [(10,pt 10),(11,vi a.1),(12,vi a.2),(42,ow 42)] [(10,bx [.own 900]),(42,.ext (itI A (some a))),(900,AO p)] ⟨KAt.entryI (gs:=A) (q:=a) (id:=42) rfl rfl (by kernel_rfl) (by kernel_rfl) (by kernel_rfl),⟨⟩⟩ ?_))
     obtain ⟨c0,h⟩:=gS h
     refine AW.WP Fm [.s,.s,.s,.s,.w (AL (α:=Arr2Int) ([(⟨a.1,a.2⟩ : Arr2Int)]:List Arr2Int)),.s,.s] [(10,pt 10),(42,ow 42)] [(10,bx [.own 53]),(42,.ext (itI A (some a))),(53,AO (α:=Arr2Int) (p++([(⟨a.1,a.2⟩ : Arr2Int)]:List Arr2Int)))] (cA (ALe.lst (.lit ([(⟨a.1,a.2⟩ : Arr2Int)]:List Arr2Int) (by kernel_rfl)):ALe (.v (.c (.d (.lst 1 (litF 2 [.int .i64 a.1,.int .i64 a.2]))))) (AL (α:=Arr2Int) ([(⟨a.1,a.2⟩ : Arr2Int)]:List Arr2Int))) (cT (cA c0 (cT (Is.refl ([(⟨a.1,a.2⟩ : Arr2Int)]:List Arr2Int):Is (List.length (α:=Arr2Int) ([(⟨a.1,a.2⟩ : Arr2Int)]:List Arr2Int)) (LF (α:=Arr2Int) ([(⟨a.1,a.2⟩ : Arr2Int)]:List Arr2Int)) ([(⟨a.1,a.2⟩ : Arr2Int)]:List Arr2Int)).len)))) [(53,.arr 2 ((List.length (α:=Arr2Int) p)+(List.length (α:=Arr2Int) ([(⟨a.1,a.2⟩ : Arr2Int)]:List Arr2Int))) (appF (List.length (α:=Arr2Int) p) (LF (α:=Arr2Int) p) (LF (α:=Arr2Int) ([(⟨a.1,a.2⟩ : Arr2Int)]:List Arr2Int))))] ⟨OLe.is (Is.app (Is.refl p) (Is.refl ([(⟨a.1,a.2⟩ : Arr2Int)]:List Arr2Int))),⟨⟩⟩ ?_
     refine Kn.r Fm [(10,pt 10),(42,ow 42)] [(10,bx [.own 53]),(42,.ext (itI A (some a))),(53,AO (α:=Arr2Int) (p++([(⟨a.1,a.2⟩ : Arr2Int)]:List Arr2Int)))] (by kernel_rfl) ?_
     refine Kn.wk [(10,pt 10),(42,ow 42)] [(10,bx [.own 53]),(42,.ext (itI A none)),(53,AO (α:=Arr2Int) (p++([(⟨a.1,a.2⟩ : Arr2Int)]:List Arr2Int)))] ⟨rfl,ALe.c (CLe.refl _),⟨rfl,ALe.c (CLe.refl _),⟨⟩⟩⟩ ⟨rfl,OLe.box ⟨CLe.refl _,⟨⟩⟩,⟨rfl,itI_none _ _,⟨rfl,OLe.refl _,⟨⟩⟩⟩⟩ ?_
     exact Kn.RE Fm [(900,53)] (P (A,(p++([(⟨a.1,a.2⟩ : Arr2Int)]:List Arr2Int))) h)
  ·refine AW.seq ?_
   obtain ⟨e,e0,h⟩:=bS h
   refine AW.G Fm [.s,.s,.k (cE [] [] (AL e) [] []),.s,.s] (fun K=>K 2∧True) [(1,AL l),(7,ow 19),(22,AL e),(23,vi (lI e)),(24,vi 0)] [(19,.ext (mqP ([]:List (Int×Int))))] ⟨KAt.CC (rotation_arable_spec e0) Tryz.call168 [],⟨⟩⟩ ?_
   refine AW.block (AW.loopF (E' := fun z=>[(1,AL l),(7,ow 19),(22,AL e),(23,vi (lI e)),(24,vi z.1)]) (S' := fun z=>[(19,.ext (mqP z.2))]) (fun o0 z k0 N h=>?_) h)
   obtain ⟨m,o⟩:=z
   refine AW.SG0 Fm 1 [(1,AL l),(7,ow 19),(22,AL e),(23,vi (lI e)),(24,vi m),(25,vb (decide (m<(lI e))))] [(19,.ext (mqP o))] ?_
   refine AW.seq (AW.cN h (fun V h=>?_) (fun V h=>?_))
   ·refine AW.skip (AW.seq (AW.block ?_))
    obtain ⟨W,h⟩:=gS h
    refine AW.SP Fm [.s,.s,.s,.s] [(1,AL l),(7,ow 19),(9,pt 9),(22,AL e),(23,vi (lI e)),(24,vi m)] [(9,bx [ci ((gl e m.toNat).parcel_),.d (DL (α:=Rect) (gl e m.toNat).region_.rects_),ci ((gl e m.toNat).crop_),ci ((gl e m.toNat).schemes_)]),(19,.ext (mqP o))] (cT W) ?_
    obtain ⟨X,h⟩:=gS h
    obtain ⟨H,i0,h⟩:=bS h
    obtain ⟨Y,h⟩:=gS h
    refine AW.G Fm [.s,.s,.s,.s,.s,.s,.s,.k (rE { v:=vi (iGet ((gl l ((gl e m.toNat).crop_).toNat).family_) o) }),.s,.s,.k (cE [] [] (vi H) [] []),.s,.k (rE { upd:=some (19,.ext (mqP (iPut ((gl l ((gl e m.toNat).crop_).toNat).family_) ((iGet ((gl l ((gl e m.toNat).crop_).toNat).family_) o)+H) o))) })] (fun K=>_∧K 7∧K 10∧(_∧True)∧K 12∧True) [(1,AL l),(7,ow 19),(22,AL e),(23,vi (lI e)),(24,vi m)] [(19,.ext (mqP (iPut ((gl l ((gl e m.toNat).crop_).toNat).family_) ((iGet ((gl l ((gl e m.toNat).crop_).toNat).family_) o)+H) o)))] ⟨X,KAt.mqGet (gs:=o) (id:=19) (t:=179) (kT:=3) (eT:=3) (y:=(gl l ((gl e m.toNat).crop_).toNat).family_) (by kernel_rfl) (by kernel_rfl) Go.Proofs.Tryz.zeroValue3 rfl rfl (by kernel_rfl) (by kernel_rfl) (by kernel_rfl) (by kernel_rfl),KAt.CC (region_Area_spec i0) Tryz.call169 [],⟨Y,⟨⟩⟩,KAt.mqPut (gs:=o) (id:=19) (t:=179) (kT:=3) (eT:=3) (y:=(gl l ((gl e m.toNat).crop_).toNat).family_) (n:=((iGet ((gl l ((gl e m.toNat).crop_).toNat).family_) o)+H)) (by kernel_rfl) (by kernel_rfl) rfl rfl (by kernel_rfl) (by kernel_rfl) (by kernel_rfl) (by kernel_rfl) (by kernel_rfl),⟨⟩⟩ ?_
    obtain ⟨Z,h⟩:=gS h
    refine AW.pN Fm [.s,.s] [(1,AL l),(7,ow 19),(22,AL e),(23,vi (lI e)),(24,vi (m+1))] [(19,.ext (mqP (iPut ((gl l ((gl e m.toNat).crop_).toNat).family_) ((iGet ((gl l ((gl e m.toNat).crop_).toNat).family_) o)+H) o)))] (cT (cT Z)) ?_
    exact Kn.R Fm (N ((m+1),(iPut ((gl l ((gl e m.toNat).crop_).toNat).family_) ((iGet ((gl l ((gl e m.toNat).crop_).toNat).family_) o)+H) o)) h)
   ·exact AW.exit (Kn.R Fm (O o h))
theorem ref04_Rects_spec {F:Nat} {c:(List Rect)} {d:(List Rect)} {r:Bool} (h:ref04_Rects F c d=some r) :
  FSpec Tryz.prog 120 [AL c,AL d] [] (vb r) []:=by
 refine FI Tryz.func120 prog_mixed prog_lay fun C Fm=>?_
 unfold ref04_Rects at h
 refine AW.SG0 Fm 1 [(0,AL c),(1,AL d)] [] ?_
 refine AW.seq (AW.SG0 Fm 5 [(0,AL c),(1,AL d),(10,vb ((lI c) != (lI d)))] [] ?_)
 refine AW.cN h (fun j h=>?_) (fun j h=>?_)
 ·refine AW.SG0 Fm 1 [(4,vb false)] [] ?_
  refine AW.ret ?_
  obtain rfl:=Option.some.inj h
  exact Kn.D Fm
 ·refine AW.skip (AW.join (r:=r) (fun z:Unit=>ref04_Rects_k1 F) (fun z=>[]) (fun z=>[]) (fun z h=>?_) (fun t i=>?_))
  ·refine AW.SG0 Fm 1 [(4,vb true)] [] ?_
   refine AW.ret ?_
   obtain rfl:=Option.some.inj h
   exact Kn.D Fm
  ·refine AW.SG0 Fm 3 [(0,AL c),(1,AL d),(12,vi (lI c)),(13,vi 0)] [] ?_
   refine AW.block (AW.loopF (E' := fun z=>[(0,AL c),(1,AL d),(12,vi (lI c)),(13,vi z)]) (S' := fun z=>[]) (fun u a q e h=>?_) h)
   refine AW.SG0 Fm 1 [(0,AL c),(1,AL d),(12,vi (lI c)),(13,vi a),(14,vb (decide (a<(lI c))))] [] ?_
   refine AW.seq (AW.cN h (fun l h=>?_) (fun l h=>?_))
   ·refine AW.skip (AW.seq (AW.block (AW.SG0 Fm 2 [(0,AL c),(1,AL d),(5,vi a),(12,vi (lI c)),(13,vi a)] [] ?_)))
    obtain ⟨n,o,h⟩:=gS2 h
    refine AW.SG Fm [.s,.s,.s,.s,.s,.s,.s,.s,.k (sE (vb (!((((gl c a.toNat).left_)==((gl d a.toNat).left_))&&((((gl c a.toNat).low_)==((gl d a.toNat).low_))&&((((gl c a.toNat).right_)==((gl d a.toNat).right_))&&((((gl c a.toNat).high_)==((gl d a.toNat).high_))&&true)))))))] (fun K=>_∧_∧K 8∧True) [(0,AL c),(1,AL d),(12,vi (lI c)),(13,vi a),(24,vb (!((((gl c a.toNat).left_)==((gl d a.toNat).left_))&&((((gl c a.toNat).low_)==((gl d a.toNat).low_))&&((((gl c a.toNat).right_)==((gl d a.toNat).right_))&&((((gl c a.toNat).high_)==((gl d a.toNat).high_))&&true))))))] [] ⟨n,o,KAt.eq (xs:=[ci ((gl c a.toNat).left_),ci ((gl c a.toNat).low_),ci ((gl c a.toNat).right_),ci ((gl c a.toNat).high_)]) (ys:=[ci ((gl d a.toNat).left_),ci ((gl d a.toNat).low_),ci ((gl d a.toNat).right_),ci ((gl d a.toNat).high_)]) eqT103 false (b:=((((gl c a.toNat).left_)==((gl d a.toNat).left_))&&((((gl c a.toNat).low_)==((gl d a.toNat).low_))&&((((gl c a.toNat).right_)==((gl d a.toNat).right_))&&((((gl c a.toNat).high_)==((gl d a.toNat).high_))&&true))))) rfl rfl (by kernel_rfl) (by kernel_rfl) (by kernel_rfl) (by kernel_rfl),⟨⟩⟩ ?_
    refine AW.cN h (fun m h=>?_) (fun m h=>?_)
    ·refine AW.SG0 Fm 1 [(4,vb false)] [] ?_
     refine AW.ret ?_
     obtain rfl:=Option.some.inj h
     exact Kn.D Fm
    ·refine AW.skip ?_
     obtain ⟨p,h⟩:=gS h
     refine AW.pN Fm [.s,.s] [(0,AL c),(1,AL d),(12,vi (lI c)),(13,vi (a+1))] [] (cT (cT p)) ?_
     exact Kn.R Fm (e (a+1) h)
   ·exact AW.exit (Kn.R Fm (i () h))
theorem ref04_Valid_spec {F:Nat} {a:Region} {r:Bool} (h:ref04_Valid F a=some r) :
  FSpec Tryz.prog 109 [.v (.g [.d (DL a.rects_)])] [] (vb r) []:=by
 refine FI Tryz.func109 prog_mixed prog_lay fun C Fm=>?_
 unfold ref04_Valid at h
 refine AW.SG0 Fm 2 [(1,pt 1)] [(1,bx [.d (DL a.rects_)])] ?_
 refine AW.seq (AW.SG0 Fm 4 [(1,pt 1),(8,vb (decide ((120:Int)<(lI a.rects_))))] [(1,bx [.d (DL a.rects_)])] ?_)
 refine AW.cN h (fun m h=>?_) (fun m h=>?_)
 ·refine AW.SG0 Fm 1 [(2,vb false)] [] ?_
  refine AW.ret ?_
  obtain rfl:=Option.some.inj h
  exact Kn.D Fm
 ·refine AW.skip (AW.join (r:=r) (fun z:Unit=>ref04_Valid_k1 F a) (fun z=>[(1,pt 1)]) (fun z=>[(1,bx [.d (DL a.rects_)])]) (fun z h=>?_) (fun E l=>?_))
  ·refine AW.seq ?_
   obtain ⟨A,w,h⟩:=bS h
   obtain ⟨i,y,h⟩:=bS h
   refine AW.G Fm [.s,.s,.k (cE [] [] (AL A) [] []),.s,.s,.k (cE [] [] (vb i) [] []),.s] (fun K=>K 2∧K 5∧True) [(2,vb i)] [] ⟨KAt.callX (ref04_Combine_spec w) Tryz.call112 [] [] [.tmp 21,.const (.slice none 0 0),.const (.int .i64 1)] rfl (by kernel_rfl) (by kernel_rfl) (by kernel_rfl) ⟨.p,ArgT.plain (by kernel_rfl) (ALe.c (CLe.fl .nil)) (by kernel_rfl),.p,⟨⟩⟩,KAt.CC (ref04_Rects_spec y) Tryz.call120 [],⟨⟩⟩ ?_
   refine AW.ret ?_
   obtain rfl:=Option.some.inj h
   exact Kn.D Fm
  ·refine AW.SG0 Fm 4 [(1,pt 1),(10,AL a.rects_),(11,vi (lI a.rects_)),(12,vi 0)] [(1,bx [.d (DL a.rects_)])] ?_
   refine AW.block (AW.loopF (E' := fun z=>[(1,pt 1),(10,AL a.rects_),(11,vi (lI a.rects_)),(12,vi z)]) (S' := fun z=>[(1,bx [.d (DL a.rects_)])]) (fun H b B j h=>?_) h)
   refine AW.SG0 Fm 1 [(1,pt 1),(10,AL a.rects_),(11,vi (lI a.rects_)),(12,vi b),(13,vb (decide (b<(lI a.rects_))))] [(1,bx [.d (DL a.rects_)])] ?_
   refine AW.seq (AW.cN h (fun n h=>?_) (fun n h=>?_))
   ·refine AW.skip (AW.seq (AW.block ?_))
    obtain ⟨q,h⟩:=gS h
    refine AW.SP Fm [.s,.s,.s,.s] [(1,pt 1),(4,pt 4),(10,AL a.rects_),(11,vi (lI a.rects_)),(12,vi b)] [(1,bx [.d (DL a.rects_)]),(4,bx [ci ((gl a.rects_ b.toNat).left_),ci ((gl a.rects_ b.toNat).low_),ci ((gl a.rects_ b.toNat).right_),ci ((gl a.rects_ b.toNat).high_)])] (cT q) ?_
    refine AW.seq ?_
    obtain ⟨e,u,h⟩:=bS h
    refine AW.G Fm [.s,.k (cE [] [] (vb e) [] []),.s] (fun K=>K 1∧True) [(1,pt 1),(10,AL a.rects_),(11,vi (lI a.rects_)),(12,vi b),(18,vb (!e))] [(1,bx [.d (DL a.rects_)])] ⟨KAt.CC (ref04_proper_spec u) Tryz.call181 [],⟨⟩⟩ ?_
    refine AW.cN h (fun o h=>?_) (fun o h=>?_)
    ·refine AW.SG0 Fm 1 [(2,vb false)] [] ?_
     refine AW.ret ?_
     obtain rfl:=Option.some.inj h
     exact Kn.D Fm
    ·refine AW.skip ?_
     obtain ⟨t,h⟩:=gS h
     refine AW.pN Fm [.s,.s] [(1,pt 1),(10,AL a.rects_),(11,vi (lI a.rects_)),(12,vi (b+1))] [(1,bx [.d (DL a.rects_)])] (cT (cT t)) ?_
     exact Kn.R Fm (j (b+1) h)
   ·exact AW.exit (Kn.R Fm (l () h))
theorem ref04_Size_spec {F:Nat} {a:(List Rect)} {r:Int} (h:ref04_Size F a=some r) :
  FSpec Tryz.prog 157 [AL a] [] (vi r) []:=by
 refine FI Tryz.func157 prog_mixed prog_lay fun C Fm=>?_
 unfold ref04_Size at h
 refine AW.SG0 Fm 1 [(0,AL a)] [] ?_
 refine AW.SG0 Fm 1 [(0,AL a),(3,vi 0)] [] ?_
 refine AW.join (r:=r) (fun z:Int=>ref04_Size_k1 F z) (fun z=>[(3,vi z)]) (fun z=>[]) (fun p h=>?_) (fun t e=>?_)
 ·refine AW.SG0 Fm 2 [(2,vi p)] [] ?_
  refine AW.ret ?_
  obtain rfl:=Option.some.inj h
  exact Kn.D Fm
 ·refine AW.SG0 Fm 3 [(3,vi 0),(6,AL a),(7,vi (lI a)),(8,vi 0)] [] ?_
  refine AW.block (AW.loopF (E' := fun z=>[(3,vi z.1),(6,AL a),(7,vi (lI a)),(8,vi z.2)]) (S' := fun z=>[]) (fun u z q d h=>?_) h)
  obtain ⟨c,b⟩:=z
  refine AW.SG0 Fm 1 [(3,vi c),(6,AL a),(7,vi (lI a)),(8,vi b),(9,vb (decide (b<(lI a))))] [] ?_
  refine AW.seq (AW.cN h (fun i h=>?_) (fun i h=>?_))
  ·refine AW.skip (AW.seq (AW.block ?_))
   obtain ⟨j,h⟩:=gS h
   refine AW.SP Fm [.s,.s,.s,.s] [(3,vi c),(5,pt 5),(6,AL a),(7,vi (lI a)),(8,vi b)] [(5,bx [ci ((gl a b.toNat).left_),ci ((gl a b.toNat).low_),ci ((gl a b.toNat).right_),ci ((gl a b.toNat).high_)])] (cT j) ?_
   obtain ⟨k,l,m,n,h⟩:=gS4 h
   refine AW.pN Fm [.s,.s,.s,.s,.s,.s,.s,.s,.s,.s,.s,.s,.s,.s] [(3,vi (c+((((gl a b.toNat).right_)-((gl a b.toNat).left_))*(((gl a b.toNat).high_)-((gl a b.toNat).low_))))),(6,AL a),(7,vi (lI a)),(8,vi b)] [] (cA (cT k) (cA (cT l) (cA (cT m) (cT (cT n))))) ?_
   obtain ⟨o,h⟩:=gS h
   refine AW.pN Fm [.s,.s] [(3,vi (c+((((gl a b.toNat).right_)-((gl a b.toNat).left_))*(((gl a b.toNat).high_)-((gl a b.toNat).low_))))),(6,AL a),(7,vi (lI a)),(8,vi (b+1))] [] (cT (cT o)) ?_
   exact Kn.R Fm (d ((c+((((gl a b.toNat).right_)-((gl a b.toNat).left_))*(((gl a b.toNat).high_)-((gl a b.toNat).low_)))),(b+1)) h)
  ·exact AW.exit (Kn.R Fm (e c h))
theorem ref04_Area_spec {F:Nat} {a:Region} {r:Int} (h:ref04_Area F a=some r) :
  FSpec Tryz.prog 68 [.v (.g [.d (DL a.rects_)])] [] (vi r) []:=by
 refine FI Tryz.func68 prog_mixed prog_lay fun C Fm=>?_
 unfold ref04_Area at h
 refine AW.SG0 Fm 2 [(1,pt 1)] [(1,bx [.d (DL a.rects_)])] ?_
 refine AW.seq (AW.seq ?_)
 obtain ⟨b,i,h⟩:=bS h
 refine AW.G Fm [.s,.k (cE [] [] (vb b) [] []),.s] (fun K=>K 1∧True) [(1,pt 1),(5,vb (!b))] [(1,bx [.d (DL a.rects_)])] ⟨KAt.CC (ref04_Valid_spec i) Tryz.call109 [],⟨⟩⟩ ?_
 refine AW.cN h (fun e h=>?_) (fun e h=>?_)
 ·refine AW.SG0 Fm 1 [(2,vi 0)] [] ?_
  refine AW.ret ?_
  obtain rfl:=Option.some.inj h
  exact Kn.D Fm
 ·refine AW.skip (AW.seq ?_)
  obtain ⟨c,j,h⟩:=bS h
  refine AW.G Fm [.s,.s,.k (cE [] [] (vi c) [] []),.s] (fun K=>K 2∧True) [(2,vi c)] [] ⟨KAt.CC (ref04_Size_spec j) Tryz.call157 [],⟨⟩⟩ ?_
  refine AW.ret ?_
  obtain rfl:=Option.some.inj h
  exact Kn.D Fm
theorem ref04_combine_spec {F:Nat} {a:Region} {b:Region} {e:Int} {r:Region×Int} (h:ref04_combine F a b e=some r) :
  FSpec Tryz.prog 151 [.v (.g [.d (DL a.rects_)]),.v (.g [.d (DL b.rects_)]),vi e] [] (.t [.g [.d (DL (α:=Rect) r.1.rects_)],.c (ci r.2)]) []:=by
 refine FI Tryz.func151 prog_mixed prog_lay fun C Fm=>?_
 unfold ref04_combine at h
 refine AW.SG0 Fm 4 [(2,vi e),(3,pt 3),(4,pt 4),(6,pt 6)] [(3,bx [.d (DL a.rects_)]),(4,bx [.d (DL b.rects_)]),(6,bx [.fl 0 fun _=>[]])] ?_
 refine AW.seq (AW.join (r:=r) (fun z:Bool=>ref04_combine_k0 F a b e z) (fun z=>[(2,vi e),(3,pt 3),(4,pt 4),(6,pt 6),(15,vb z)]) (fun z=>[(3,bx [.d (DL a.rects_)]),(4,bx [.d (DL b.rects_)]),(6,bx [.fl 0 fun _=>[]])]) (fun E h=>?_) (fun B m=>?_))
 ·refine AW.cN h (fun p h=>?_) (fun p h=>?_)
  ·refine AW.SP Fm [.w (.v (.g [.d (DL (α:=Rect) [])])),.s,.s] [(6,pt 6),(7,vi 7)] [(6,bx [.d (DL (α:=Rect) [])])] (cT (ALe.g ⟨CLe.fl .nil,⟨⟩⟩ : ALe (.v (.g [.fl 0 fun _=>[]])) (.v (.g [.d (DL (α:=Rect) [])])))) ?_
   refine AW.ret ?_
   obtain rfl:=Option.some.inj h
   exact Kn.D Fm
  ·refine AW.skip (AW.seq ?_)
   obtain ⟨A,u,h⟩:=bS h
   obtain ⟨i,y,h⟩:=bS h
   refine AW.G Fm [.s,.s,.s,.s,.s,.k (cE [] [] (AL A) [] []),.k (cE [] [] (.t [.g [.d (DL i.1.rects_)],.c (ci i.2)]) [] []),.s,.s,.s,.s] (fun K=>K 5∧K 6∧True) [(6,pt 6),(7,vi i.2)] [(6,bx [.d (DL i.1.rects_)])] ⟨KAt.CC (ref04_Combine_spec u) Tryz.call112 [],KAt.CC (ref04_Bound_spec y) Tryz.call118 [],⟨⟩⟩ ?_
   refine AW.ret ?_
   obtain rfl:=Option.some.inj h
   exact Kn.D Fm
 ·obtain ⟨o,n,h⟩:=bS h
  rcases br_or h with ⟨j,h⟩|⟨j,h⟩
  ·refine AW.G Fm [.s,.k (cE [] [] (vb o) [] []),.s,.w (vb true),.s,.s,.s,.s] (fun K=>K 1∧_∧True) [(2,vi e),(3,pt 3),(4,pt 4),(6,pt 6),(15,vb true)] [(3,bx [.d (DL a.rects_)]),(4,bx [.d (DL b.rects_)]),(6,bx [.fl 0 fun _=>[]])] ⟨KAt.CC (ref04_Valid_spec n) Tryz.call109 [],ALe.bool j,⟨⟩⟩ ?_
   exact Kn.R Fm (m true h)
  ·obtain ⟨l,q,h⟩:=bS h
   refine AW.G Fm [.s,.k (cE [] [] (vb o) [] []),.s,.w (vb false),.s,.k (cE [] [] (vb l) [] []),.s,.s] (fun K=>K 1∧_∧K 5∧True) [(2,vi e),(3,pt 3),(4,pt 4),(6,pt 6),(15,vb (!l))] [(3,bx [.d (DL a.rects_)]),(4,bx [.d (DL b.rects_)]),(6,bx [.fl 0 fun _=>[]])] ⟨KAt.CC (ref04_Valid_spec n) Tryz.call109 [],ALe.bool j,KAt.CC (ref04_Valid_spec q) Tryz.call109 [],⟨⟩⟩ ?_
   exact Kn.R Fm (m (!l) h)
theorem ref04_Both_spec {F:Nat} {b:Region} {e:Region} {r:Region×Int} (h:ref04_Both F b e=some r) :
  FSpec Tryz.prog 67 [.v (.g [.d (DL b.rects_)]),.v (.g [.d (DL e.rects_)])] [] (.t [.g [.d (DL (α:=Rect) r.1.rects_)],.c (ci r.2)]) []:=by
 refine FI Tryz.func67 prog_mixed prog_lay fun C Fm=>?_
 unfold ref04_Both at h
 refine AW.SG0 Fm 4 [(2,pt 2),(3,pt 3),(4,pt 4)] [(2,bx [.d (DL b.rects_)]),(3,bx [.d (DL e.rects_)]),(4,bx [.fl 0 fun _=>[]])] ?_
 refine AW.seq ?_
 obtain ⟨a,i,h⟩:=bS h
 refine AW.G Fm [.s,.s,.k (cE [] [] (.t [.g [.d (DL a.1.rects_)],.c (ci a.2)]) [] []),.s,.s,.s,.s] (fun K=>K 2∧True) [(4,pt 4),(5,vi a.2)] [(4,bx [.d (DL a.1.rects_)])] ⟨KAt.CC (ref04_combine_spec i) Tryz.call151 [],⟨⟩⟩ ?_
 refine AW.ret ?_
 obtain rfl:=Option.some.inj h
 exact Kn.D Fm
theorem ref04_Without_spec {F:Nat} {b:Region} {e:Region} {r:Region×Int} (h:ref04_Without F b e=some r) :
  FSpec Tryz.prog 65 [.v (.g [.d (DL b.rects_)]),.v (.g [.d (DL e.rects_)])] [] (.t [.g [.d (DL (α:=Rect) r.1.rects_)],.c (ci r.2)]) []:=by
 refine FI Tryz.func65 prog_mixed prog_lay fun C Fm=>?_
 unfold ref04_Without at h
 refine AW.SG0 Fm 4 [(2,pt 2),(3,pt 3),(4,pt 4)] [(2,bx [.d (DL b.rects_)]),(3,bx [.d (DL e.rects_)]),(4,bx [.fl 0 fun _=>[]])] ?_
 refine AW.seq ?_
 obtain ⟨a,i,h⟩:=bS h
 refine AW.G Fm [.s,.s,.k (cE [] [] (.t [.g [.d (DL a.1.rects_)],.c (ci a.2)]) [] []),.s,.s,.s,.s] (fun K=>K 2∧True) [(4,pt 4),(5,vi a.2)] [(4,bx [.d (DL a.1.rects_)])] ⟨KAt.CC (ref04_combine_spec i) Tryz.call151 [],⟨⟩⟩ ?_
 refine AW.ret ?_
 obtain rfl:=Option.some.inj h
 exact Kn.D Fm
theorem rotation_Diverse_spec {F:Nat} {I:(List Line)} {L:(List Crop)} {i:Int} {e:Int} {r:Bool×Int} (h:rotation_Diverse F I L i e=some r) :
  FSpec Tryz.prog 81 [AL I,AL L,vi i,vi e] [] (.t [.c (.d (.bool r.1)),.c (ci r.2)]) []:=by
 refine FI Tryz.func81 prog_mixed prog_lay fun C Fm=>?_
 unfold rotation_Diverse at h
 refine AW.SG0 Fm 2 [(0,AL I),(1,AL L),(2,vi i),(3,vi e)] [] ?_
 refine AW.seq ?_
 obtain ⟨a,p0,h⟩:=bS h
 refine AW.G Fm [.s,.s,.k (cE [] [] (.t [.c (.d (DL a.1)),.c (ci a.2)]) [] []),.s,.s,.s,.s,.s] (fun K=>K 2∧True) [(2,vi i),(3,vi e),(10,AL a.1),(11,vi a.2)] [] ⟨KAt.CC (rotation_Families_spec p0) Tryz.call80 [],⟨⟩⟩ ?_
 refine AW.seq (AW.SG0 Fm 2 [(2,vi i),(3,vi e),(10,AL a.1),(11,vi a.2),(25,vb (a.2 != (0:Int)))] [] ?_)
 refine AW.cN h (fun Y h=>?_) (fun Y h=>?_)
 ·refine AW.SG0 Fm 3 [(8,vb false),(9,vi a.2)] [] ?_
  refine AW.ret ?_
  obtain rfl:=Option.some.inj h
  exact Kn.D Fm
 ·refine AW.skip (AW.seq (AW.join (r:=r) (fun z:Bool=>rotation_Diverse_k0 F i e a z) (fun z=>[(2,vi i),(3,vi e),(10,AL a.1),(37,vb z)]) (fun z=>[]) (fun A0 h=>?_) (fun q0 y=>?_)))
  ·refine AW.cN h (fun Z h=>?_) (fun Z h=>?_)
   ·refine AW.SG0 Fm 2 [(8,vb false),(9,vi 2)] [] ?_
    refine AW.ret ?_
    obtain rfl:=Option.some.inj h
    exact Kn.D Fm
   ·refine AW.skip (AW.SG0 Fm 3 [(2,vi i),(3,vi e),(10,AL a.1),(12,vi 0),(13,vi 0),(14,vi 0)] [] ?_)
    refine AW.join (r:=r) (fun z:Int×Int×Int=>rotation_Diverse_k3 F i e a z.1 z.2.1 z.2.2) (fun z=>[(2,vi i),(3,vi e),(10,AL a.1),(12,vi z.1),(13,vi z.2.1),(14,vi z.2.2)]) (fun z=>[]) (fun z h=>?_) (fun u0 X=>?_)
    ·obtain ⟨n,o,u⟩:=z
     refine AW.seq (AW.block (AW.SG0 Fm 4 [(3,vi e),(10,AL a.1),(12,vi n),(13,vi o),(14,vi u),(58,vb (decide (n≤i)))] [] ?_))
     refine AW.cN h (fun c0 h=>?_) (fun c0 h=>?_)
     ·refine AW.SG0 Fm 2 [(8,vb true),(9,vi 0)] [] ?_
      refine AW.ret ?_
      obtain rfl:=Option.some.inj h
      exact Kn.D Fm
     ·refine AW.SG0 Fm 4 [(10,AL a.1),(12,vi n),(13,vi o),(14,vi u),(62,vb (decide (n≤e)))] [] ?_
      refine AW.cN h (fun d0 h=>?_) (fun d0 h=>?_)
      ·refine AW.join (r:=r) (fun z:Bool=>rotation_Diverse_k4 F z) (fun z=>[(8,vb z),(9,vi 0)]) (fun z=>[]) (fun B0 h=>?_) (fun w0 N=>?_)
       ·refine AW.ret ?_
        obtain rfl:=Option.some.inj h
        exact Kn.D Fm
       ·rcases br_or h with ⟨E,h⟩|⟨E,h⟩
        ·obtain ⟨k0,l0,h⟩:=gS2 h
         refine AW.pN Fm [.s,.s,.s,.w (vb true),.s,.s,.s,.s,.s,.s,.s,.s] [(8,vb (decide (((4:Int)*o)≤((3:Int)*n)))),(9,vi 0)] [] (cA (ALe.bool E) (cA (cT k0) (cT (cT l0)))) ?_
         exact Kn.R Fm (N (decide (((4:Int)*o)≤((3:Int)*n))) h)
        ·refine AW.pN Fm [.s,.s,.s,.w (vb false),.s,.s,.s,.s,.s,.s,.s,.s] [(8,vb false),(9,vi 0)] [] (cT (ALe.bool E)) ?_
         exact Kn.R Fm (N false h)
      ·refine AW.skip (AW.join (r:=r) (fun z:Bool=>rotation_Diverse_k5 F z) (fun z=>[(8,vb z),(9,vi 0)]) (fun z=>[]) (fun D0 h=>?_) (fun y0 A=>?_))
       ·refine AW.ret ?_
        obtain rfl:=Option.some.inj h
        exact Kn.D Fm
       ·rcases br_or h with ⟨q,h⟩|⟨q,h⟩
        ·obtain ⟨O,P,h⟩:=gS2 h
         rcases br_or h with ⟨H,h⟩|⟨H,h⟩
         ·obtain ⟨m0,n0,o0,h⟩:=gS3 h
          refine AW.pN Fm [.s,.s,.s,.w (vb true),.s,.s,.s,.s,.s,.s,.w (vb true),.s,.s,.s,.s,.s,.s,.s,.s,.s,.s] [(8,vb (decide (((20:Int)*(o+u))≤((19:Int)*n)))),(9,vi 0)] [] (cA (ALe.bool q) (cA (cT O) (cA (cT P) (cA (ALe.bool H) (cA (cT m0) (cA (cT n0) (cT (cT o0)))))))) ?_
          exact Kn.R Fm (A (decide (((20:Int)*(o+u))≤((19:Int)*n))) h)
         ·refine AW.pN Fm [.s,.s,.s,.w (vb true),.s,.s,.s,.s,.s,.s,.w (vb false),.s,.s,.s,.s,.s,.s,.s,.s,.s,.s] [(8,vb false),(9,vi 0)] [] (cA (ALe.bool q) (cA (cT O) (cA (cT P) (cT (ALe.bool H))))) ?_
          exact Kn.R Fm (A false h)
        ·refine AW.pN Fm [.s,.s,.s,.w (vb false),.s,.s,.s,.s,.s,.s,.s,.s,.s,.s,.s,.s,.s,.s,.s,.s,.s] [(8,vb false),(9,vi 0)] [] (cT (ALe.bool q)) ?_
         exact Kn.R Fm (A false h)
    ·refine AW.SG0 Fm 3 [(2,vi i),(3,vi e),(10,AL a.1),(12,vi 0),(13,vi 0),(14,vi 0),(38,AL a.1),(39,vi (lI a.1)),(40,vi 0)] [] ?_
     refine AW.block (AW.loopF (E' := fun z=>[(2,vi i),(3,vi e),(10,AL a.1),(12,vi z.1),(13,vi z.2.1),(14,vi z.2.2.1),(38,AL a.1),(39,vi (lI a.1)),(40,vi z.2.2.2)]) (S' := fun z=>[]) (fun V z s0 W h=>?_) h)
     obtain ⟨j,l,m,b⟩:=z
     refine AW.SG0 Fm 1 [(2,vi i),(3,vi e),(10,AL a.1),(12,vi j),(13,vi l),(14,vi m),(38,AL a.1),(39,vi (lI a.1)),(40,vi b),(41,vb (decide (b<(lI a.1))))] [] ?_
     refine AW.seq (AW.cN h (fun a0 h=>?_) (fun a0 h=>?_))
     ·refine AW.skip (AW.join (r:=r) (fun z:Int×Int=>rotation_Diverse_k2 F a j b V z.1 z.2) (fun z=>[(2,vi i),(3,vi e),(10,AL a.1),(12,vi (j+((gl a.1 b.toNat).e1_))),(13,vi z.1),(14,vi z.2),(38,AL a.1),(39,vi (lI a.1)),(40,vi b)]) (fun z=>[]) (fun z h=>?_) (fun t0 M=>?_))
      ·obtain ⟨T,U⟩:=z
       obtain ⟨j0,h⟩:=gS h
       refine AW.pN Fm [.s,.s] [(2,vi i),(3,vi e),(10,AL a.1),(12,vi (j+((gl a.1 b.toNat).e1_))),(13,vi T),(14,vi U),(38,AL a.1),(39,vi (lI a.1)),(40,vi (b+1))] [] (cT (cT j0)) ?_
       exact Kn.R Fm (W ((j+((gl a.1 b.toNat).e1_)),T,U,(b+1)) h)
      ·refine AW.block ?_
       obtain ⟨e0,h⟩:=gS h
       refine AW.SP Fm [.s,.s,.s,.s] [(2,vi i),(3,vi e),(10,AL a.1),(12,vi j),(13,vi l),(14,vi m),(16,pt 16),(38,AL a.1),(39,vi (lI a.1)),(40,vi b)] [(16,bx [ci ((gl a.1 b.toNat).e0_),ci ((gl a.1 b.toNat).e1_)])] (cT e0) ?_
       refine AW.SP Fm [.s,.s,.s] [(2,vi i),(3,vi e),(10,AL a.1),(12,vi j),(13,vi l),(14,vi m),(17,vi (gl a.1 b.toNat).e1_),(38,AL a.1),(39,vi (lI a.1)),(40,vi b)] [] (cT (True.intro:True)) ?_
       obtain ⟨i0,h⟩:=gS h
       refine AW.SP Fm [.s,.s,.s,.s] [(2,vi i),(3,vi e),(10,AL a.1),(12,vi (j+((gl a.1 b.toNat).e1_))),(13,vi l),(14,vi m),(17,vi (gl a.1 b.toNat).e1_),(38,AL a.1),(39,vi (lI a.1)),(40,vi b)] [] (cT (cT i0)) ?_
       refine AW.SG0 Fm 3 [(2,vi i),(3,vi e),(10,AL a.1),(12,vi (j+((gl a.1 b.toNat).e1_))),(13,vi l),(14,vi m),(17,vi (gl a.1 b.toNat).e1_),(38,AL a.1),(39,vi (lI a.1)),(40,vi b),(51,vb (decide (l<((gl a.1 b.toNat).e1_))))] [] ?_
       refine AW.cN h (fun b0 h=>?_) (fun b0 h=>?_)
       ·refine AW.G0 Fm 4 [(2,vi i),(3,vi e),(10,AL a.1),(12,vi (j+((gl a.1 b.toNat).e1_))),(13,vi (gl a.1 b.toNat).e1_),(14,vi l),(38,AL a.1),(39,vi (lI a.1)),(40,vi b)] [] ?_
        exact Kn.R Fm (M ((gl a.1 b.toNat).e1_,l) h)
       ·refine AW.G0 Fm 4 [(2,vi i),(3,vi e),(10,AL a.1),(12,vi (j+((gl a.1 b.toNat).e1_))),(13,vi l),(14,vi (gmax m ((gl a.1 b.toNat).e1_))),(38,AL a.1),(39,vi (lI a.1)),(40,vi b)] [] ?_
        exact Kn.R Fm (M (l,(gmax m ((gl a.1 b.toNat).e1_))) h)
     ·exact AW.exit (Kn.R Fm (X (j,l,m) h))
  ·rcases br_or h with ⟨p,h⟩|⟨p,h⟩
   ·refine AW.pN Fm [.s,.s,.w (vb true),.s,.s,.s,.s,.s,.s,.s,.s] [(2,vi i),(3,vi e),(10,AL a.1),(37,vb true)] [] (cT (ALe.bool p)) ?_
    exact Kn.R Fm (y true h)
   ·rcases br_or h with ⟨B,h⟩|⟨B,h⟩
    ·refine AW.pN Fm [.s,.s,.w (vb false),.s,.s,.s,.s,.w (vb true),.s,.s,.s] [(2,vi i),(3,vi e),(10,AL a.1),(37,vb true)] [] (cA (ALe.bool p) (cT (ALe.bool B))) ?_
     exact Kn.R Fm (y true h)
    ·refine AW.pN Fm [.s,.s,.w (vb false),.s,.s,.s,.s,.w (vb false),.s,.s,.s] [(2,vi i),(3,vi e),(10,AL a.1),(37,vb (decide ((268435456:Int)<e)))] [] (cA (ALe.bool p) (cT (ALe.bool B))) ?_
     exact Kn.R Fm (y (decide ((268435456:Int)<e)) h)
theorem ref19_Pairs_spec {F:Nat} {a:(List Arr2Int)} {c:(List Arr2Int)} {r:Bool} (h:ref19_Pairs F a c=some r) :
  FSpec Tryz.prog 82 [AL a,AL c] [] (vb r) []:=by
 refine FI Tryz.func82 prog_mixed prog_lay fun C Fm=>?_
 unfold ref19_Pairs at h
 refine AW.SG0 Fm 1 [(0,AL a),(1,AL c)] [] ?_
 refine AW.seq (AW.SG0 Fm 5 [(0,AL a),(1,AL c),(10,vb ((lI a) != (lI c)))] [] ?_)
 refine AW.cN h (fun i h=>?_) (fun i h=>?_)
 ·refine AW.SG0 Fm 1 [(4,vb false)] [] ?_
  refine AW.ret ?_
  obtain rfl:=Option.some.inj h
  exact Kn.D Fm
 ·refine AW.skip (AW.join (r:=r) (fun z:Unit=>ref19_Pairs_k1 F) (fun z=>[]) (fun z=>[]) (fun z h=>?_) (fun q e=>?_))
  ·refine AW.SG0 Fm 1 [(4,vb true)] [] ?_
   refine AW.ret ?_
   obtain rfl:=Option.some.inj h
   exact Kn.D Fm
  ·refine AW.SG0 Fm 3 [(0,AL a),(1,AL c),(12,vi (lI a)),(13,vi 0)] [] ?_
   refine AW.block (AW.loopF (E' := fun z=>[(0,AL a),(1,AL c),(12,vi (lI a)),(13,vi z)]) (S' := fun z=>[]) (fun t b p d h=>?_) h)
   refine AW.SG0 Fm 1 [(0,AL a),(1,AL c),(12,vi (lI a)),(13,vi b),(14,vb (decide (b<(lI a))))] [] ?_
   refine AW.seq (AW.cN h (fun j h=>?_) (fun j h=>?_))
   ·refine AW.skip (AW.seq (AW.block (AW.SG0 Fm 2 [(0,AL a),(1,AL c),(5,vi b),(12,vi (lI a)),(13,vi b)] [] ?_)))
    obtain ⟨m,n,h⟩:=gS2 h
    refine AW.SG Fm [.s,.s,.s,.s,.s,.s,.s,.s,.k (sE (vb (!((((gl a b.toNat).e0_)==((gl c b.toNat).e0_))&&(((gl a b.toNat).e1_)==((gl c b.toNat).e1_))))))] (fun K=>_∧_∧K 8∧True) [(0,AL a),(1,AL c),(12,vi (lI a)),(13,vi b),(24,vb (!((((gl a b.toNat).e0_)==((gl c b.toNat).e0_))&&(((gl a b.toNat).e1_)==((gl c b.toNat).e1_)))))] [] ⟨m,n,KAt.eqP eqP54 false (a1:=((gl a b.toNat).e0_)) (a2:=((gl a b.toNat).e1_)) (b1:=((gl c b.toNat).e0_)) (b2:=((gl c b.toNat).e1_)) rfl rfl (by kernel_rfl) (by kernel_rfl) (by kernel_rfl),⟨⟩⟩ ?_
    refine AW.cN h (fun l h=>?_) (fun l h=>?_)
    ·refine AW.SG0 Fm 1 [(4,vb false)] [] ?_
     refine AW.ret ?_
     obtain rfl:=Option.some.inj h
     exact Kn.D Fm
    ·refine AW.skip ?_
     obtain ⟨o,h⟩:=gS h
     refine AW.pN Fm [.s,.s] [(0,AL a),(1,AL c),(12,vi (lI a)),(13,vi (b+1))] [] (cT (cT o)) ?_
     exact Kn.R Fm (d (b+1) h)
   ·exact AW.exit (Kn.R Fm (e () h))
end Go.Ab
end
