/- The code follows the plain programs: whenever the plain program has a result. -/
import Derived.Test.YtdfbifjpedjljaaGreatSpA
import Derived.Test.YtdfbifjpedjljaaGreatAbE
set_option linter.unusedVariables false
set_option linter.unusedSimpArgs false
section
namespace Go.Ab
open Go.Proofs
set_option linter.unusedVariables false
set_option maxRecDepth 100000
theorem rotation_Families_spec {F:Nat} {E:(List Line)} {l:(List Crop)} {r:(List Arr2Int)×Int} (h:rotation_Families F E l=some r) :
  FSpec Tryz.prog 80 [AL E,AL l] [] (.t [.c (.d (DL (α:=Arr2Int) r.1)),.c (ci r.2)]) []:=by
 refine FI Tryz.func80 prog_mixed prog_lay fun C Fm=>?_
 unfold rotation_Families at h
 refine AW.SG0 Fm 2 [(0,AL E),(1,AL l)] [] ?_
 refine AW.seq (AW.seq ?_)
 obtain ⟨B,d0,h⟩:=bS h
 refine AW.G Fm [.s,.s,.k (cE [] [] (vi B) [] []),.s] (fun K=>K 2∧True) [(0,AL E),(1,AL l),(6,vi B)] [] ⟨KAt.CC (rotation_check_spec d0) Tryz.call167 [],⟨⟩⟩ ?_
 refine AW.SG0 Fm 2 [(0,AL E),(1,AL l),(6,vi B),(17,vb (B != (0:Int)))] [] ?_
 refine AW.cN h (fun U h=>?_) (fun U h=>?_)
 ·refine AW.SG0 Fm 3 [(4,.v (.c (.fl 0 fun _=>[]))),(5,vi B)] [] ?_
  refine AW.ret ?_
  obtain rfl:=Option.some.inj h
  refine Kn.r Fm [(4,.v (.c (.fl 0 fun _=>[]))),(5,vi B)] [] (by kernel_rfl) ?_
  refine Kn.wk [(4,AL (α:=Arr2Int) []),(5,vi B)] [] ⟨rfl,ALe.c (CLe.fl .nil),⟨rfl,ALe.c (CLe.refl _),⟨⟩⟩⟩ True.intro ?_
  exact Kn.D Fm
 ·refine AW.skip (AW.SG Fm [.k (rE { v:=.v (.c (.own 19)),new:=some (.ext (mqP [])) }),.s] (fun K=>K 0∧True) [(0,AL E),(1,AL l),(7,ow 19)] [(19,.ext (mqP ([]:List (Int×Int))))] ⟨KAt.mqNew (kT:=0) (eT:=0) rfl rfl (by kernel_rfl),⟨⟩⟩ ?_)
  refine AW.join (r:=r) (fun z:(List (Int×Int))=>rotation_Families_k1 F z) (fun z=>[(7,ow 19)]) (fun z=>[(19,.ext (mqP z))]) (fun u h=>?_) (fun l0 O=>?_)
  ·refine AW.SG0 Fm 1 [(7,ow 19),(10,pt 10)] [(10,bx [.fl 0 fun _=>[]]),(19,.ext (mqP u))] ?_
   refine AW.join (r:=r) (fun z:(List Arr2Int)=>rotation_Families_k3 F z) (fun z=>[(10,pt 10)]) (fun z=>[(10,bx [.own 900]),(900,AO z)]) (fun L h=>?_) (fun n0 T=>?_)
   ·refine AW.seq ?_
    obtain ⟨I,j0,h⟩:=bS h
    refine AW.G Fm [.s,.k (xE [900] { v:=.v (.c (.cp 55 (0))),new:=some (.exr [900] (ifcP 55)) }),.s,.k (cE [(0,900),(1,55),(50,10)] [] .any [(0,AO L),(1,.exr [0] (ifcP 55)),(50,bx [.own 0])] [(0,AO I),(50,bx [.own 0])])] (fun K=>K 1∧K 3∧True) [(10,pt 10)] [(10,bx [.own 900]),(900,AO I)] ⟨KAt.mkIfc (t:=55) (id:=900) (d:=55) (ob:=.box false []) (es:=2) (n:=List.length (α:=Arr2Int) L) (f:=LF (α:=Arr2Int) L) (fun w ad n c=>by simp [Instr.makeInterface,run_underlying Go.Proofs.Tryz.underlying55]) rfl rfl (by kernel_rfl) (by kernel_rfl) (by kernel_rfl),KAt.CC (sortP_spec j0) Tryz.call170 [(0,900),(1,55),(50,10)],⟨⟩⟩ ?_
    refine AW.SG0 Fm 3 [(4,ow 900),(5,vi 0)] [(900,AO I)] ?_
    refine AW.ret ?_
    obtain rfl:=Option.some.inj h
    refine Kn.r Fm [(4,ow 900),(5,vi 0)] [(900,AO I)] (by kernel_rfl) ?_
    refine Kn.frz [(4,AL I),(5,vi 0)] [] (by kernel_rfl) (by kernel_rfl) (by kernel_rfl) ?_
    exact Kn.D Fm
   ·refine AW.seq (Kn.r Fm ((7,ow 19)::[(10,pt 10)]) ((19,.ext (mqP u))::[(10,bx [.fl 0 fun _=>[]])]) (by kernel_rfl) ?_)
    refine Kn.mqz (by kernel_rfl) ?_
    refine Kn.r Fm [(7,.v (.c (.d (MPI u)))),(10,pt 10)] [(10,bx [.fl 0 fun _=>[]])] (by kernel_rfl) ?_
    refine AW.G Fm [.s,.k (rE { v:=.v (.c (.own 42)),new:=some (.ext (itI u none)) })] (fun K=>K 1∧True) [(10,pt 10),(42,ow 42)] [(10,bx [.fl 0 fun _=>[]]),(42,.ext (itI u none))] ⟨KAt.rangeI (gs:=u) (t:=179) (kT:=3) (eT:=3) (d:=42) (by kernel_rfl) rfl rfl (by kernel_rfl) (by kernel_rfl),⟨⟩⟩ ?_
    refine AW.block (Kn.r Fm [(10,pt 10),(42,ow 42)] [(10,bx [.fl 0 fun _=>[]]),(42,.ext (itI u none))] (by kernel_rfl) ?_)
    refine Kn.own0 Fm (i:=10) (k:=900) (es:=2) (j:=0) (f' := LF (α:=Arr2Int) []) (by kernel_rfl) (by kernel_rfl) (by decide) rfl ?_
    refine Kn.r Fm [(10,pt 10),(42,ow 42)] [(10,bx [.own 900]),(42,.ext (itI u none)),(900,AO (α:=Arr2Int) ([]:List Arr2Int))] (by kernel_rfl) ?_
    refine Kn.r Fm [(10,pt 10),(42,ow 42)] [(10,bx [.own 900]),(42,.ext (itI u none)),(900,AO ([]:List Arr2Int))] (by kernel_rfl) ?_
    refine AW.loopF (E' := fun z=>[(10,pt 10),(42,ow 42)]) (S' := fun z=>[(10,bx [.own 900]),(42,.ext (itI z.1 none)),(900,AO z.2)]) (fun p0 z m0 P h=>?_) h
    obtain ⟨M,p⟩:=z
    refine AW.seq (Kn.r Fm [(10,pt 10),(42,ow 42)] [(42,.ext (itI M none)),(10,bx [.own 900]),(900,AO p)] (by kernel_rfl) ?_)
    refine AW.nextI (by kernel_rfl) (by kernel_rfl) (by kernel_rfl) (fun a0=>?_) (fun a A b0=>?_)
    ·have h:=nextM_stop h a0
     refine Kn.r Fm [(10,pt 10),(42,ow 42),(44,vb false)] [(10,bx [.own 900]),(42,.ext (itI M none)),(900,AO p)] (by kernel_rfl) ?_
     refine AW.seq (AW.cond (b:=false) (by kernel_rfl) (fun hb=>by cases hb) (fun _=>?_))
     exact AW.exit (Kn.R Fm (T p h))
    ·have h:=nextM_go h b0
     refine Kn.r Fm [(10,pt 10),(42,ow 42),(44,vb true)] [(10,bx [.own 900]),(42,.ext (itI A (some a))),(900,AO p)] (by kernel_rfl) ?_
     refine AW.seq (AW.cond (b:=true) (by kernel_rfl) (fun _=>?_) (fun hb=>by cases hb))
     refine AW.skip (AW.block (AW.SG Fm [.k (rE { v:=.t [.c (ci a.1),.c (ci a.2)] }),.s,.s,.s,.s] (fun K=>K 0∧True) [(10,pt 10),(11,vi a.1),(12,vi a.2),(42,ow 42)] [(10,bx [.own 900]),(42,.ext (itI A (some a))),(900,AO p)] ⟨KAt.entryI (gs:=A) (q:=a) (id:=42) rfl rfl (by kernel_rfl) (by kernel_rfl) (by kernel_rfl),⟨⟩⟩ ?_))
     obtain ⟨c0,h⟩:=gS h
     refine AW.WP Fm [.s,.s,.s,.s,.w (AL (α:=Arr2Int) ([(⟨a.1,a.2⟩ : Arr2Int)]:List Arr2Int)),.s,.s] [(10,pt 10),(42,ow 42)] [(10,bx [.own 53]),(42,.ext (itI A (some a))),(53,AO (α:=Arr2Int) (p++([(⟨a.1,a.2⟩ : Arr2Int)]:List Arr2Int)))] (cA (ALe.lst (.lit ([(⟨a.1,a.2⟩ : Arr2Int)]:List Arr2Int) (by kernel_rfl)):ALe (.v (.c (.d (.lst 1 (litF 2 [.int .i64 a.1,.int .i64 a.2]))))) (AL (α:=Arr2Int) ([(⟨a.1,a.2⟩ : Arr2Int)]:List Arr2Int))) (cT (cA c0 (cT (Is.refl ([(⟨a.1,a.2⟩ : Arr2Int)]:List Arr2Int):Is (List.length (α:=Arr2Int) ([(⟨a.1,a.2⟩ : Arr2Int)]:List Arr2Int)) (LF (α:=Arr2Int) ([(⟨a.1,a.2⟩ : Arr2Int)]:List Arr2Int)) ([(⟨a.1,a.2⟩ : Arr2Int)]:List Arr2Int)).len)))) [(53,.arr 2 ((List.length (α:=Arr2Int) p)+(List.length (α:=Arr2Int) ([(⟨a.1,a.2⟩ : Arr2Int)]:List Arr2Int))) (appF (List.length (α:=Arr2Int) p) (LF (α:=Arr2Int) p) (LF (α:=Arr2Int) ([(⟨a.1,a.2⟩ : Arr2Int)]:List Arr2Int))))] ⟨OLe.is (Is.app (Is.refl p) (Is.refl ([(⟨a.1,a.2⟩ : Arr2Int)]:List Arr2Int))),⟨⟩⟩ ?_
     refine Kn.r Fm [(10,pt 10),(42,ow 42)] [(10,bx [.own 53]),(42,.ext (itI A (some a))),(53,AO (α:=Arr2Int) (p++([(⟨a.1,a.2⟩ : Arr2Int)]:List Arr2Int)))] (by kernel_rfl) ?_
     refine Kn.wk [(10,pt 10),(42,ow 42)] [(10,bx [.own 53]),(42,.ext (itI A none)),(53,AO (α:=Arr2Int) (p++([(⟨a.1,a.2⟩ : Arr2Int)]:List Arr2Int)))] ⟨rfl,ALe.c (CLe.refl _),⟨rfl,ALe.c (CLe.refl _),⟨⟩⟩⟩ ⟨rfl,OLe.box ⟨CLe.refl _,⟨⟩⟩,⟨rfl,itI_none _ _,⟨rfl,OLe.refl _,⟨⟩⟩⟩⟩ ?_
     exact Kn.RE Fm [(900,53)] (P (A,(p++([(⟨a.1,a.2⟩ : Arr2Int)]:List Arr2Int))) h)
  ·refine AW.seq ?_
   obtain ⟨e,e0,h⟩:=bS h
   refine AW.G Fm [.s,.s,.k (cE [] [] (AL e) [] []),.s,.s] (fun K=>K 2∧True) [(1,AL l),(7,ow 19),(22,AL e),(23,vi (lI e)),(24,vi 0)] [(19,.ext (mqP ([]:List (Int×Int))))] ⟨KAt.CC (rotation_arable_spec e0) Tryz.call168 [],⟨⟩⟩ ?_
   refine AW.block (AW.loopF (E' := fun z=>[(1,AL l),(7,ow 19),(22,AL e),(23,vi (lI e)),(24,vi z.1)]) (S' := fun z=>[(19,.ext (mqP z.2))]) (fun o0 z k0 N h=>?_) h)
   obtain ⟨m,o⟩:=z
   refine AW.SG0 Fm 1 [(1,AL l),(7,ow 19),(22,AL e),(23,vi (lI e)),(24,vi m),(25,vb (decide (m<(lI e))))] [(19,.ext (mqP o))] ?_
   refine AW.seq (AW.cN h (fun V h=>?_) (fun V h=>?_))
   ·refine AW.skip (AW.seq (AW.block ?_))
    obtain ⟨W,h⟩:=gS h
    refine AW.SP Fm [.s,.s,.s,.s] [(1,AL l),(7,ow 19),(9,pt 9),(22,AL e),(23,vi (lI e)),(24,vi m)] [(9,bx [ci ((gl e m.toNat).parcel_),.d (DL (α:=Rect) (gl e m.toNat).region_.rects_),ci ((gl e m.toNat).crop_),ci ((gl e m.toNat).schemes_)]),(19,.ext (mqP o))] (cT W) ?_
    obtain ⟨X,h⟩:=gS h
    obtain ⟨H,i0,h⟩:=bS h
    obtain ⟨Y,h⟩:=gS h
    refine AW.G Fm [.s,.s,.s,.s,.s,.s,.s,.k (rE { v:=vi (iGet ((gl l ((gl e m.toNat).crop_).toNat).family_) o) }),.s,.s,.k (cE [] [] (vi H) [] []),.s,.k (rE { upd:=some (19,.ext (mqP (iPut ((gl l ((gl e m.toNat).crop_).toNat).family_) ((iGet ((gl l ((gl e m.toNat).crop_).toNat).family_) o)+H) o))) })] (fun K=>_∧K 7∧K 10∧(_∧True)∧K 12∧True) [(1,AL l),(7,ow 19),(22,AL e),(23,vi (lI e)),(24,vi m)] [(19,.ext (mqP (iPut ((gl l ((gl e m.toNat).crop_).toNat).family_) ((iGet ((gl l ((gl e m.toNat).crop_).toNat).family_) o)+H) o)))] ⟨X,KAt.mqGet (gs:=o) (id:=19) (t:=179) (kT:=3) (eT:=3) (y:=(gl l ((gl e m.toNat).crop_).toNat).family_) (by kernel_rfl) (by kernel_rfl) Go.Proofs.Tryz.zeroValue3 rfl rfl (by kernel_rfl) (by kernel_rfl) (by kernel_rfl) (by kernel_rfl),KAt.CC (region_Area_spec i0) Tryz.call169 [],⟨Y,⟨⟩⟩,KAt.mqPut (gs:=o) (id:=19) (t:=179) (kT:=3) (eT:=3) (y:=(gl l ((gl e m.toNat).crop_).toNat).family_) (n:=((iGet ((gl l ((gl e m.toNat).crop_).toNat).family_) o)+H)) (by kernel_rfl) (by kernel_rfl) rfl rfl (by kernel_rfl) (by kernel_rfl) (by kernel_rfl) (by kernel_rfl) (by kernel_rfl),⟨⟩⟩ ?_
    obtain ⟨Z,h⟩:=gS h
    refine AW.pN Fm [.s,.s] [(1,AL l),(7,ow 19),(22,AL e),(23,vi (lI e)),(24,vi (m+1))] [(19,.ext (mqP (iPut ((gl l ((gl e m.toNat).crop_).toNat).family_) ((iGet ((gl l ((gl e m.toNat).crop_).toNat).family_) o)+H) o)))] (cT (cT Z)) ?_
    exact Kn.R Fm (N ((m+1),(iPut ((gl l ((gl e m.toNat).crop_).toNat).family_) ((iGet ((gl l ((gl e m.toNat).crop_).toNat).family_) o)+H) o)) h)
   ·exact AW.exit (Kn.R Fm (O o h))
theorem ref04_Rects_spec {F:Nat} {c:(List Rect)} {d:(List Rect)} {r:Bool} (h:ref04_Rects F c d=some r) :
  FSpec Tryz.prog 120 [AL c,AL d] [] (vb r) []:=by
 refine FI Tryz.func120 prog_mixed prog_lay fun C Fm=>?_
 unfold ref04_Rects at h
 refine AW.SG0 Fm 1 [(0,AL c),(1,AL d)] [] ?_
 refine AW.seq (AW.SG0 Fm 5 [(0,AL c),(1,AL d),(10,vb ((lI c) != (lI d)))] [] ?_)
 refine AW.cN h (fun j h=>?_) (fun j h=>?_)
 ·refine AW.SG0 Fm 1 [(4,vb false)] [] ?_
  refine AW.ret ?_
  obtain rfl:=Option.some.inj h
  exact Kn.D Fm
 ·refine AW.skip (AW.join (r:=r) (fun z:Unit=>ref04_Rects_k1 F) (fun z=>[]) (fun z=>[]) (fun z h=>?_) (fun t i=>?_))
  ·refine AW.SG0 Fm 1 [(4,vb true)] [] ?_
   refine AW.ret ?_
   obtain rfl:=Option.some.inj h
   exact Kn.D Fm
  ·refine AW.SG0 Fm 3 [(0,AL c),(1,AL d),(12,vi (lI c)),(13,vi 0)] [] ?_
   refine AW.block (AW.loopF (E' := fun z=>[(0,AL c),(1,AL d),(12,vi (lI c)),(13,vi z)]) (S' := fun z=>[]) (fun u a q e h=>?_) h)
   refine AW.SG0 Fm 1 [(0,AL c),(1,AL d),(12,vi (lI c)),(13,vi a),(14,vb (decide (a<(lI c))))] [] ?_
   refine AW.seq (AW.cN h (fun l h=>?_) (fun l h=>?_))
   ·refine AW.skip (AW.seq (AW.block (AW.SG0 Fm 2 [(0,AL c),(1,AL d),(5,vi a),(12,vi (lI c)),(13,vi a)] [] ?_)))
    obtain ⟨n,o,h⟩:=gS2 h
    refine AW.SG Fm [.s,.s,.s,.s,.s,.s,.s,.s,.k (sE (vb (!((((gl c a.toNat).left_)==((gl d a.toNat).left_))&&((((gl c a.toNat).low_)==((gl d a.toNat).low_))&&((((gl c a.toNat).right_)==((gl d a.toNat).right_))&&((((gl c a.toNat).high_)==((gl d a.toNat).high_))&&true)))))))] (fun K=>_∧_∧K 8∧True) [(0,AL c),(1,AL d),(12,vi (lI c)),(13,vi a),(24,vb (!((((gl c a.toNat).left_)==((gl d a.toNat).left_))&&((((gl c a.toNat).low_)==((gl d a.toNat).low_))&&((((gl c a.toNat).right_)==((gl d a.toNat).right_))&&((((gl c a.toNat).high_)==((gl d a.toNat).high_))&&true))))))] [] ⟨n,o,KAt.eq (xs:=[ci ((gl c a.toNat).left_),ci ((gl c a.toNat).low_),ci ((gl c a.toNat).right_),ci ((gl c a.toNat).high_)]) (ys:=[ci ((gl d a.toNat).left_),ci ((gl d a.toNat).low_),ci ((gl d a.toNat).right_),ci ((gl d a.toNat).high_)]) eqT103 false (b:=((((gl c a.toNat).left_)==((gl d a.toNat).left_))&&((((gl c a.toNat).low_)==((gl d a.toNat).low_))&&((((gl c a.toNat).right_)==((gl d a.toNat).right_))&&((((gl c a.toNat).high_)==((gl d a.toNat).high_))&&true))))) rfl rfl (by kernel_rfl) (by kernel_rfl) (by kernel_rfl) (by kernel_rfl),⟨⟩⟩ ?_
    refine AW.cN h (fun m h=>?_) (fun m h=>?_)
    ·refine AW.SG0 Fm 1 [(4,vb false)] [] ?_
     refine AW.ret ?_
     obtain rfl:=Option.some.inj h
     exact Kn.D Fm
    ·refine AW.skip ?_
     obtain ⟨p,h⟩:=gS h
     refine AW.pN Fm [.s,.s] [(0,AL c),(1,AL d),(12,vi (lI c)),(13,vi (a+1))] [] (cT (cT p)) ?_
     exact Kn.R Fm (e (a+1) h)
   ·exact AW.exit (Kn.R Fm (i () h))
theorem ref04_Valid_spec {F:Nat} {a:Region} {r:Bool} (h:ref04_Valid F a=some r) :
  FSpec Tryz.prog 109 [.v (.g [.d (DL a.rects_)])] [] (vb r) []:=by
 refine FI Tryz.func109 prog_mixed prog_lay fun C Fm=>?_
 unfold ref04_Valid at h
 refine AW.SG0 Fm 2 [(1,pt 1)] [(1,bx [.d (DL a.rects_)])] ?_
 refine AW.seq (AW.SG0 Fm 4 [(1,pt 1),(8,vb (decide ((120:Int)<(lI a.rects_))))] [(1,bx [.d (DL a.rects_)])] ?_)
 refine AW.cN h (fun m h=>?_) (fun m h=>?_)
 ·refine AW.SG0 Fm 1 [(2,vb false)] [] ?_
  refine AW.ret ?_
  obtain rfl:=Option.some.inj h
  exact Kn.D Fm
 ·refine AW.skip (AW.join (r:=r) (fun z:Unit=>ref04_Valid_k1 F a) (fun z=>[(1,pt 1)]) (fun z=>[(1,bx [.d (DL a.rects_)])]) (fun z h=>?_) (fun E l=>?_))
  ·refine AW.seq ?_
   obtain ⟨A,w,h⟩:=bS h
   obtain ⟨i,y,h⟩:=bS h
   refine AW.G Fm [.s,.s,.k (cE [] [] (AL A) [] []),.s,.s,.k (cE [] [] (vb i) [] []),.s] (fun K=>K 2∧K 5∧True) [(2,vb i)] [] ⟨KAt.callX (ref04_Combine_spec w) Tryz.call112 [] [] [.tmp 21,.const (.slice none 0 0),.const (.int .i64 1)] rfl (by kernel_rfl) (by kernel_rfl) (by kernel_rfl) ⟨.p,ArgT.plain (by kernel_rfl) (ALe.c (CLe.fl .nil)) (by kernel_rfl),.p,⟨⟩⟩,KAt.CC (ref04_Rects_spec y) Tryz.call120 [],⟨⟩⟩ ?_
   refine AW.ret ?_
   obtain rfl:=Option.some.inj h
   exact Kn.D Fm
  ·refine AW.SG0 Fm 4 [(1,pt 1),(10,AL a.rects_),(11,vi (lI a.rects_)),(12,vi 0)] [(1,bx [.d (DL a.rects_)])] ?_
   refine AW.block (AW.loopF (E' := fun z=>[(1,pt 1),(10,AL a.rects_),(11,vi (lI a.rects_)),(12,vi z)]) (S' := fun z=>[(1,bx [.d (DL a.rects_)])]) (fun H b B j h=>?_) h)
   refine AW.SG0 Fm 1 [(1,pt 1),(10,AL a.rects_),(11,vi (lI a.rects_)),(12,vi b),(13,vb (decide (b<(lI a.rects_))))] [(1,bx [.d (DL a.rects_)])] ?_
   refine AW.seq (AW.cN h (fun n h=>?_) (fun n h=>?_))
   ·refine AW.skip (AW.seq (AW.block ?_))
    obtain ⟨q,h⟩:=gS h
    refine AW.SP Fm [.s,.s,.s,.s] [(1,pt 1),(4,pt 4),(10,AL a.rects_),(11,vi (lI a.rects_)),(12,vi b)] [(1,bx [.d (DL a.rects_)]),(4,bx [ci ((gl a.rects_ b.toNat).left_),ci ((gl a.rects_ b.toNat).low_),ci ((gl a.rects_ b.toNat).right_),ci ((gl a.rects_ b.toNat).high_)])] (cT q) ?_
    refine AW.seq ?_
    obtain ⟨e,u,h⟩:=bS h
    refine AW.G Fm [.s,.k (cE [] [] (vb e) [] []),.s] (fun K=>K 1∧True) [(1,pt 1),(10,AL a.rects_),(11,vi (lI a.rects_)),(12,vi b),(18,vb (!e))] [(1,bx [.d (DL a.rects_)])] ⟨KAt.CC (ref04_proper_spec u) Tryz.call181 [],⟨⟩⟩ ?_
    refine AW.cN h (fun o h=>?_) (fun o h=>?_)
    ·refine AW.SG0 Fm 1 [(2,vb false)] [] ?_
     refine AW.ret ?_
     obtain rfl:=Option.some.inj h
     exact Kn.D Fm
    ·refine AW.skip ?_
     obtain ⟨t,h⟩:=gS h
     refine AW.pN Fm [.s,.s] [(1,pt 1),(10,AL a.rects_),(11,vi (lI a.rects_)),(12,vi (b+1))] [(1,bx [.d (DL a.rects_)])] (cT (cT t)) ?_
     exact Kn.R Fm (j (b+1) h)
   ·exact AW.exit (Kn.R Fm (l () h))
theorem ref04_Size_spec {F:Nat} {a:(List Rect)} {r:Int} (h:ref04_Size F a=some r) :
  FSpec Tryz.prog 157 [AL a] [] (vi r) []:=by
 refine FI Tryz.func157 prog_mixed prog_lay fun C Fm=>?_
 unfold ref04_Size at h
 refine AW.SG0 Fm 1 [(0,AL a)] [] ?_
 refine AW.SG0 Fm 1 [(0,AL a),(3,vi 0)] [] ?_
 refine AW.join (r:=r) (fun z:Int=>ref04_Size_k1 F z) (fun z=>[(3,vi z)]) (fun z=>[]) (fun p h=>?_) (fun t e=>?_)
 ·refine AW.SG0 Fm 2 [(2,vi p)] [] ?_
  refine AW.ret ?_
  obtain rfl:=Option.some.inj h
  exact Kn.D Fm
 ·refine AW.SG0 Fm 3 [(3,vi 0),(6,AL a),(7,vi (lI a)),(8,vi 0)] [] ?_
  refine AW.block (AW.loopF (E' := fun z=>[(3,vi z.1),(6,AL a),(7,vi (lI a)),(8,vi z.2)]) (S' := fun z=>[]) (fun u z q d h=>?_) h)
  obtain ⟨c,b⟩:=z
  refine AW.SG0 Fm 1 [(3,vi c),(6,AL a),(7,vi (lI a)),(8,vi b),(9,vb (decide (b<(lI a))))] [] ?_
  refine AW.seq (AW.cN h (fun i h=>?_) (fun i h=>?_))
  ·refine AW.skip (AW.seq (AW.block ?_))
   obtain ⟨j,h⟩:=gS h
   refine AW.SP Fm [.s,.s,.s,.s] [(3,vi c),(5,pt 5),(6,AL a),(7,vi (lI a)),(8,vi b)] [(5,bx [ci ((gl a b.toNat).left_),ci ((gl a b.toNat).low_),ci ((gl a b.toNat).right_),ci ((gl a b.toNat).high_)])] (cT j) ?_
   obtain ⟨k,l,m,n,h⟩:=gS4 h
   refine AW.pN Fm [.s,.s,.s,.s,.s,.s,.s,.s,.s,.s,.s,.s,.s,.s] [(3,vi (c+((((gl a b.toNat).right_)-((gl a b.toNat).left_))*(((gl a b.toNat).high_)-((gl a b.toNat).low_))))),(6,AL a),(7,vi (lI a)),(8,vi b)] [] (cA (cT k) (cA (cT l) (cA (cT m) (cT (cT n))))) ?_
   obtain ⟨o,h⟩:=gS h
   refine AW.pN Fm [.s,.s] [(3,vi (c+((((gl a b.toNat).right_)-((gl a b.toNat).left_))*(((gl a b.toNat).high_)-((gl a b.toNat).low_))))),(6,AL a),(7,vi (lI a)),(8,vi (b+1))] [] (cT (cT o)) ?_
   exact Kn.R Fm (d ((c+((((gl a b.toNat).right_)-((gl a b.toNat).left_))*(((gl a b.toNat).high_)-((gl a b.toNat).low_)))),(b+1)) h)
  ·exact AW.exit (Kn.R Fm (e c h))
theorem ref04_Area_spec {F:Nat} {a:Region} {r:Int} (h:ref04_Area F a=some r) :
  FSpec Tryz.prog 68 [.v (.g [.d (DL a.rects_)])] [] (vi r) []:=by
 refine FI Tryz.func68 prog_mixed prog_lay fun C Fm=>?_
 unfold ref04_Area at h
 refine AW.SG0 Fm 2 [(1,pt 1)] [(1,bx [.d (DL a.rects_)])] ?_
 refine AW.seq (AW.seq ?_)
 obtain ⟨b,i,h⟩:=bS h
 refine AW.G Fm [.s,.k (cE [] [] (vb b) [] []),.s] (fun K=>K 1∧True) [(1,pt 1),(5,vb (!b))] [(1,bx [.d (DL a.rects_)])] ⟨KAt.CC (ref04_Valid_spec i) Tryz.call109 [],⟨⟩⟩ ?_
 refine AW.cN h (fun e h=>?_) (fun e h=>?_)
 ·refine AW.SG0 Fm 1 [(2,vi 0)] [] ?_
  refine AW.ret ?_
  obtain rfl:=Option.some.inj h
  exact Kn.D Fm
 ·refine AW.skip (AW.seq ?_)
  obtain ⟨c,j,h⟩:=bS h
  refine AW.G Fm [.s,.s,.k (cE [] [] (vi c) [] []),.s] (fun K=>K 2∧True) [(2,vi c)] [] ⟨KAt.CC (ref04_Size_spec j) Tryz.call157 [],⟨⟩⟩ ?_
  refine AW.ret ?_
  obtain rfl:=Option.some.inj h
  exact Kn.D Fm
theorem rotation_Diverse_spec {F:Nat} {I:(List Line)} {L:(List Crop)} {i:Int} {e:Int} {r:Bool×Int} (h:rotation_Diverse F I L i e=some r) :
  FSpec Tryz.prog 81 [AL I,AL L,vi i,vi e] [] (.t [.c (.d (.bool r.1)),.c (ci r.2)]) []:=by
 refine FI Tryz.func81 prog_mixed prog_lay fun C Fm=>?_
 unfold rotation_Diverse at h
 refine AW.SG0 Fm 2 [(0,AL I),(1,AL L),(2,vi i),(3,vi e)] [] ?_
 refine AW.seq ?_
 obtain ⟨a,p0,h⟩:=bS h
 refine AW.G Fm [.s,.s,.k (cE [] [] (.t [.c (.d (DL a.1)),.c (ci a.2)]) [] []),.s,.s,.s,.s,.s] (fun K=>K 2∧True) [(2,vi i),(3,vi e),(10,AL a.1),(11,vi a.2)] [] ⟨KAt.CC (rotation_Families_spec p0) Tryz.call80 [],⟨⟩⟩ ?_
 refine AW.seq (AW.SG0 Fm 2 [(2,vi i),(3,vi e),(10,AL a.1),(11,vi a.2),(25,vb (a.2 != (0:Int)))] [] ?_)
 refine AW.cN h (fun Y h=>?_) (fun Y h=>?_)
 ·refine AW.SG0 Fm 3 [(8,vb false),(9,vi a.2)] [] ?_
  refine AW.ret ?_
  obtain rfl:=Option.some.inj h
  exact Kn.D Fm
 ·refine AW.skip (AW.seq (AW.join (r:=r) (fun z:Bool=>rotation_Diverse_k0 F i e a z) (fun z=>[(2,vi i),(3,vi e),(10,AL a.1),(37,vb z)]) (fun z=>[]) (fun A0 h=>?_) (fun q0 y=>?_)))
  ·refine AW.cN h (fun Z h=>?_) (fun Z h=>?_)
   ·refine AW.SG0 Fm 2 [(8,vb false),(9,vi 2)] [] ?_
    refine AW.ret ?_
    obtain rfl:=Option.some.inj h
    exact Kn.D Fm
   ·refine AW.skip (AW.SG0 Fm 3 [(2,vi i),(3,vi e),(10,AL a.1),(12,vi 0),(13,vi 0),(14,vi 0)] [] ?_)
    refine AW.join (r:=r) (fun z:Int×Int×Int=>rotation_Diverse_k3 F i e a z.1 z.2.1 z.2.2) (fun z=>[(2,vi i),(3,vi e),(10,AL a.1),(12,vi z.1),(13,vi z.2.1),(14,vi z.2.2)]) (fun z=>[]) (fun z h=>?_) (fun u0 X=>?_)
    ·obtain ⟨n,o,u⟩:=z
     refine AW.seq (AW.block (AW.SG0 Fm 4 [(3,vi e),(10,AL a.1),(12,vi n),(13,vi o),(14,vi u),(58,vb (decide (n≤i)))] [] ?_))
     refine AW.cN h (fun c0 h=>?_) (fun c0 h=>?_)
     ·refine AW.SG0 Fm 2 [(8,vb true),(9,vi 0)] [] ?_
      refine AW.ret ?_
      obtain rfl:=Option.some.inj h
      exact Kn.D Fm
     ·refine AW.SG0 Fm 4 [(10,AL a.1),(12,vi n),(13,vi o),(14,vi u),(62,vb (decide (n≤e)))] [] ?_
      refine AW.cN h (fun d0 h=>?_) (fun d0 h=>?_)
      ·refine AW.join (r:=r) (fun z:Bool=>rotation_Diverse_k4 F z) (fun z=>[(8,vb z),(9,vi 0)]) (fun z=>[]) (fun B0 h=>?_) (fun w0 N=>?_)
       ·refine AW.ret ?_
        obtain rfl:=Option.some.inj h
        exact Kn.D Fm
       ·rcases br_or h with ⟨E,h⟩|⟨E,h⟩
        ·obtain ⟨k0,l0,h⟩:=gS2 h
         refine AW.pN Fm [.s,.s,.s,.w (vb true),.s,.s,.s,.s,.s,.s,.s,.s] [(8,vb (decide (((4:Int)*o)≤((3:Int)*n)))),(9,vi 0)] [] (cA (ALe.bool E) (cA (cT k0) (cT (cT l0)))) ?_
         exact Kn.R Fm (N (decide (((4:Int)*o)≤((3:Int)*n))) h)
        ·refine AW.pN Fm [.s,.s,.s,.w (vb false),.s,.s,.s,.s,.s,.s,.s,.s] [(8,vb false),(9,vi 0)] [] (cT (ALe.bool E)) ?_
         exact Kn.R Fm (N false h)
      ·refine AW.skip (AW.join (r:=r) (fun z:Bool=>rotation_Diverse_k5 F z) (fun z=>[(8,vb z),(9,vi 0)]) (fun z=>[]) (fun D0 h=>?_) (fun y0 A=>?_))
       ·refine AW.ret ?_
        obtain rfl:=Option.some.inj h
        exact Kn.D Fm
       ·rcases br_or h with ⟨q,h⟩|⟨q,h⟩
        ·obtain ⟨O,P,h⟩:=gS2 h
         rcases br_or h with ⟨H,h⟩|⟨H,h⟩
         ·obtain ⟨m0,n0,o0,h⟩:=gS3 h
          refine AW.pN Fm [.s,.s,.s,.w (vb true),.s,.s,.s,.s,.s,.s,.w (vb true),.s,.s,.s,.s,.s,.s,.s,.s,.s,.s] [(8,vb (decide (((20:Int)*(o+u))≤((19:Int)*n)))),(9,vi 0)] [] (cA (ALe.bool q) (cA (cT O) (cA (cT P) (cA (ALe.bool H) (cA (cT m0) (cA (cT n0) (cT (cT o0)))))))) ?_
          exact Kn.R Fm (A (decide (((20:Int)*(o+u))≤((19:Int)*n))) h)
         ·refine AW.pN Fm [.s,.s,.s,.w (vb true),.s,.s,.s,.s,.s,.s,.w (vb false),.s,.s,.s,.s,.s,.s,.s,.s,.s,.s] [(8,vb false),(9,vi 0)] [] (cA (ALe.bool q) (cA (cT O) (cA (cT P) (cT (ALe.bool H))))) ?_
          exact Kn.R Fm (A false h)
        ·refine AW.pN Fm [.s,.s,.s,.w (vb false),.s,.s,.s,.s,.s,.s,.s,.s,.s,.s,.s,.s,.s,.s,.s,.s,.s] [(8,vb false),(9,vi 0)] [] (cT (ALe.bool q)) ?_
         exact Kn.R Fm (A false h)
    ·refine AW.SG0 Fm 3 [(2,vi i),(3,vi e),(10,AL a.1),(12,vi 0),(13,vi 0),(14,vi 0),(38,AL a.1),(39,vi (lI a.1)),(40,vi 0)] [] ?_
     refine AW.block (AW.loopF (E' := fun z=>[(2,vi i),(3,vi e),(10,AL a.1),(12,vi z.1),(13,vi z.2.1),(14,vi z.2.2.1),(38,AL a.1),(39,vi (lI a.1)),(40,vi z.2.2.2)]) (S' := fun z=>[]) (fun V z s0 W h=>?_) h)
     obtain ⟨j,l,m,b⟩:=z
     refine AW.SG0 Fm 1 [(2,vi i),(3,vi e),(10,AL a.1),(12,vi j),(13,vi l),(14,vi m),(38,AL a.1),(39,vi (lI a.1)),(40,vi b),(41,vb (decide (b<(lI a.1))))] [] ?_
     refine AW.seq (AW.cN h (fun a0 h=>?_) (fun a0 h=>?_))
     ·refine AW.skip (AW.join (r:=r) (fun z:Int×Int=>rotation_Diverse_k2 F a j b V z.1 z.2) (fun z=>[(2,vi i),(3,vi e),(10,AL a.1),(12,vi (j+((gl a.1 b.toNat).e1_))),(13,vi z.1),(14,vi z.2),(38,AL a.1),(39,vi (lI a.1)),(40,vi b)]) (fun z=>[]) (fun z h=>?_) (fun t0 M=>?_))
      ·obtain ⟨T,U⟩:=z
       obtain ⟨j0,h⟩:=gS h
       refine AW.pN Fm [.s,.s] [(2,vi i),(3,vi e),(10,AL a.1),(12,vi (j+((gl a.1 b.toNat).e1_))),(13,vi T),(14,vi U),(38,AL a.1),(39,vi (lI a.1)),(40,vi (b+1))] [] (cT (cT j0)) ?_
       exact Kn.R Fm (W ((j+((gl a.1 b.toNat).e1_)),T,U,(b+1)) h)
      ·refine AW.block ?_
       obtain ⟨e0,h⟩:=gS h
       refine AW.SP Fm [.s,.s,.s,.s] [(2,vi i),(3,vi e),(10,AL a.1),(12,vi j),(13,vi l),(14,vi m),(16,pt 16),(38,AL a.1),(39,vi (lI a.1)),(40,vi b)] [(16,bx [ci ((gl a.1 b.toNat).e0_),ci ((gl a.1 b.toNat).e1_)])] (cT e0) ?_
       refine AW.SP Fm [.s,.s,.s] [(2,vi i),(3,vi e),(10,AL a.1),(12,vi j),(13,vi l),(14,vi m),(17,vi (gl a.1 b.toNat).e1_),(38,AL a.1),(39,vi (lI a.1)),(40,vi b)] [] (cT (True.intro:True)) ?_
       obtain ⟨i0,h⟩:=gS h
       refine AW.SP Fm [.s,.s,.s,.s] [(2,vi i),(3,vi e),(10,AL a.1),(12,vi (j+((gl a.1 b.toNat).e1_))),(13,vi l),(14,vi m),(17,vi (gl a.1 b.toNat).e1_),(38,AL a.1),(39,vi (lI a.1)),(40,vi b)] [] (cT (cT i0)) ?_
       refine AW.SG0 Fm 3 [(2,vi i),(3,vi e),(10,AL a.1),(12,vi (j+((gl a.1 b.toNat).e1_))),(13,vi l),(14,vi m),(17,vi (gl a.1 b.toNat).e1_),(38,AL a.1),(39,vi (lI a.1)),(40,vi b),(51,vb (decide (l<((gl a.1 b.toNat).e1_))))] [] ?_
       refine AW.cN h (fun b0 h=>?_) (fun b0 h=>?_)
       ·refine AW.G0 Fm 4 [(2,vi i),(3,vi e),(10,AL a.1),(12,vi (j+((gl a.1 b.toNat).e1_))),(13,vi (gl a.1 b.toNat).e1_),(14,vi l),(38,AL a.1),(39,vi (lI a.1)),(40,vi b)] [] ?_
        exact Kn.R Fm (M ((gl a.1 b.toNat).e1_,l) h)
       ·refine AW.G0 Fm 4 [(2,vi i),(3,vi e),(10,AL a.1),(12,vi (j+((gl a.1 b.toNat).e1_))),(13,vi l),(14,vi (gmax m ((gl a.1 b.toNat).e1_))),(38,AL a.1),(39,vi (lI a.1)),(40,vi b)] [] ?_
        exact Kn.R Fm (M (l,(gmax m ((gl a.1 b.toNat).e1_))) h)
     ·exact AW.exit (Kn.R Fm (X (j,l,m) h))
  ·rcases br_or h with ⟨p,h⟩|⟨p,h⟩
   ·refine AW.pN Fm [.s,.s,.w (vb true),.s,.s,.s,.s,.s,.s,.s,.s] [(2,vi i),(3,vi e),(10,AL a.1),(37,vb true)] [] (cT (ALe.bool p)) ?_
    exact Kn.R Fm (y true h)
   ·rcases br_or h with ⟨B,h⟩|⟨B,h⟩
    ·refine AW.pN Fm [.s,.s,.w (vb false),.s,.s,.s,.s,.w (vb true),.s,.s,.s] [(2,vi i),(3,vi e),(10,AL a.1),(37,vb true)] [] (cA (ALe.bool p) (cT (ALe.bool B))) ?_
     exact Kn.R Fm (y true h)
    ·refine AW.pN Fm [.s,.s,.w (vb false),.s,.s,.s,.s,.w (vb false),.s,.s,.s] [(2,vi i),(3,vi e),(10,AL a.1),(37,vb (decide ((268435456:Int)<e)))] [] (cA (ALe.bool p) (cT (ALe.bool B))) ?_
     exact Kn.R Fm (y (decide ((268435456:Int)<e)) h)
theorem ref19_Pairs_spec {F:Nat} {a:(List Arr2Int)} {c:(List Arr2Int)} {r:Bool} (h:ref19_Pairs F a c=some r) :
  FSpec Tryz.prog 82 [AL a,AL c] [] (vb r) []:=by
 refine FI Tryz.func82 prog_mixed prog_lay fun C Fm=>?_
 unfold ref19_Pairs at h
 refine AW.SG0 Fm 1 [(0,AL a),(1,AL c)] [] ?_
 refine AW.seq (AW.SG0 Fm 5 [(0,AL a),(1,AL c),(10,vb ((lI a) != (lI c)))] [] ?_)
 refine AW.cN h (fun i h=>?_) (fun i h=>?_)
 ·refine AW.SG0 Fm 1 [(4,vb false)] [] ?_
  refine AW.ret ?_
  obtain rfl:=Option.some.inj h
  exact Kn.D Fm
 ·refine AW.skip (AW.join (r:=r) (fun z:Unit=>ref19_Pairs_k1 F) (fun z=>[]) (fun z=>[]) (fun z h=>?_) (fun q e=>?_))
  ·refine AW.SG0 Fm 1 [(4,vb true)] [] ?_
   refine AW.ret ?_
   obtain rfl:=Option.some.inj h
   exact Kn.D Fm
  ·refine AW.SG0 Fm 3 [(0,AL a),(1,AL c),(12,vi (lI a)),(13,vi 0)] [] ?_
   refine AW.block (AW.loopF (E' := fun z=>[(0,AL a),(1,AL c),(12,vi (lI a)),(13,vi z)]) (S' := fun z=>[]) (fun t b p d h=>?_) h)
   refine AW.SG0 Fm 1 [(0,AL a),(1,AL c),(12,vi (lI a)),(13,vi b),(14,vb (decide (b<(lI a))))] [] ?_
   refine AW.seq (AW.cN h (fun j h=>?_) (fun j h=>?_))
   ·refine AW.skip (AW.seq (AW.block (AW.SG0 Fm 2 [(0,AL a),(1,AL c),(5,vi b),(12,vi (lI a)),(13,vi b)] [] ?_)))
    obtain ⟨m,n,h⟩:=gS2 h
    refine AW.SG Fm [.s,.s,.s,.s,.s,.s,.s,.s,.k (sE (vb (!((((gl a b.toNat).e0_)==((gl c b.toNat).e0_))&&(((gl a b.toNat).e1_)==((gl c b.toNat).e1_))))))] (fun K=>_∧_∧K 8∧True) [(0,AL a),(1,AL c),(12,vi (lI a)),(13,vi b),(24,vb (!((((gl a b.toNat).e0_)==((gl c b.toNat).e0_))&&(((gl a b.toNat).e1_)==((gl c b.toNat).e1_)))))] [] ⟨m,n,KAt.eqP eqP54 false (a1:=((gl a b.toNat).e0_)) (a2:=((gl a b.toNat).e1_)) (b1:=((gl c b.toNat).e0_)) (b2:=((gl c b.toNat).e1_)) rfl rfl (by kernel_rfl) (by kernel_rfl) (by kernel_rfl),⟨⟩⟩ ?_
    refine AW.cN h (fun l h=>?_) (fun l h=>?_)
    ·refine AW.SG0 Fm 1 [(4,vb false)] [] ?_
     refine AW.ret ?_
     obtain rfl:=Option.some.inj h
     exact Kn.D Fm
    ·refine AW.skip ?_
     obtain ⟨o,h⟩:=gS h
     refine AW.pN Fm [.s,.s] [(0,AL a),(1,AL c),(12,vi (lI a)),(13,vi (b+1))] [] (cT (cT o)) ?_
     exact Kn.R Fm (d (b+1) h)
   ·exact AW.exit (Kn.R Fm (e () h))
theorem ref04_Meets_spec {F:Nat} {i:Region} {j:Region} {r:Bool} (h:ref04_Meets F i j=some r) :
  FSpec Tryz.prog 70 [.v (.g [.d (DL i.rects_)]),.v (.g [.d (DL j.rects_)])] [] (vb r) []:=by
 refine FI Tryz.func70 prog_mixed prog_lay fun C Fm=>?_
 unfold ref04_Meets at h
 refine AW.SG0 Fm 3 [(2,pt 2),(3,pt 3)] [(2,bx [.d (DL i.rects_)]),(3,bx [.d (DL j.rects_)])] ?_
 refine AW.join (r:=r) (fun z:Bool=>ref04_Meets_k0 F z) (fun z=>[(4,vb z)]) (fun z=>[]) (fun t h=>?_) (fun q b=>?_)
 ·refine AW.ret ?_
  obtain rfl:=Option.some.inj h
  exact Kn.D Fm
 ·obtain ⟨l,e,h⟩:=bS h
  rcases br_or h with ⟨a,h⟩|⟨a,h⟩
  ·obtain ⟨o,n,h⟩:=bS h
   rcases br_or h with ⟨c,h⟩|⟨c,h⟩
   ·obtain ⟨m,p,h⟩:=bS h
    refine AW.G Fm [.s,.k (cE [] [] (vb l) [] []),.w (vb true),.s,.k (cE [] [] (vb o) [] []),.s,.w (vb true),.s,.s,.s,.s,.k (cE [] [] (AL m) [] []),.s,.s,.s,.s] (fun K=>K 1∧_∧K 4∧_∧K 11∧True) [(4,vb (decide ((0:Int)<(lI m))))] [] ⟨KAt.CC (ref04_Valid_spec e) Tryz.call109 [],ALe.bool a,KAt.CC (ref04_Valid_spec n) Tryz.call109 [],ALe.bool c,KAt.CC (ref04_Combine_spec p) Tryz.call112 [],⟨⟩⟩ ?_
    exact Kn.R Fm (b (decide ((0:Int)<(lI m))) h)
   ·refine AW.G Fm [.s,.k (cE [] [] (vb l) [] []),.w (vb true),.s,.k (cE [] [] (vb o) [] []),.s,.w (vb false),.s,.s,.s,.s,.s,.s,.s,.s,.s] (fun K=>K 1∧_∧K 4∧_∧True) [(4,vb false)] [] ⟨KAt.CC (ref04_Valid_spec e) Tryz.call109 [],ALe.bool a,KAt.CC (ref04_Valid_spec n) Tryz.call109 [],ALe.bool c,⟨⟩⟩ ?_
    exact Kn.R Fm (b false h)
  ·refine AW.G Fm [.s,.k (cE [] [] (vb l) [] []),.w (vb false),.s,.s,.s,.s,.s,.s,.s,.s,.s,.s,.s,.s,.s] (fun K=>K 1∧_∧True) [(4,vb false)] [] ⟨KAt.CC (ref04_Valid_spec e) Tryz.call109 [],ALe.bool a,⟨⟩⟩ ?_
   exact Kn.R Fm (b false h)
theorem ref15_Check_spec {F:Nat} {a:(List Record)} {r:Int} (h:ref15_Check F a=some r) :
  FSpec Tryz.prog 25 [AL a] [] (vi r) []:=by
 refine FI Tryz.func25 prog_mixed prog_lay fun C Fm=>?_
 unfold ref15_Check at h
 refine AW.SG0 Fm 1 [(0,AL a)] [] ?_
 refine AW.seq (AW.SG0 Fm 3 [(0,AL a),(11,vb (decide ((200:Int)<(lI a))))] [] ?_)
 refine AW.cN h (fun d0 h=>?_) (fun d0 h=>?_)
 ·refine AW.SG0 Fm 1 [(2,vi 1)] [] ?_
  refine AW.ret ?_
  obtain rfl:=Option.some.inj h
  exact Kn.D Fm
 ·refine AW.skip (AW.join (r:=r) (fun z:Unit=>ref15_Check_k5 F a) (fun z=>[(0,AL a)]) (fun z=>[]) (fun z h=>?_) (fun K0 Y=>?_))
  ·refine AW.join (r:=r) (fun z:Unit=>ref15_Check_k10 F) (fun z=>[]) (fun z=>[]) (fun z h=>?_) (fun P0 c0=>?_)
   ·refine AW.SG0 Fm 1 [(2,vi 0)] [] ?_
    refine AW.ret ?_
    obtain rfl:=Option.some.inj h
    exact Kn.D Fm
   ·refine AW.SG0 Fm 3 [(0,AL a),(85,AL a),(86,vi (lI a)),(87,vi 0)] [] ?_
    refine AW.block (AW.loopF (E' := fun z=>[(0,AL a),(85,AL a),(86,vi (lI a)),(87,vi z)]) (S' := fun z=>[]) (fun V e L0 Z h=>?_) h)
    refine AW.SG0 Fm 1 [(0,AL a),(85,AL a),(86,vi (lI a)),(87,vi e),(88,vb (decide (e<(lI a))))] [] ?_
    refine AW.seq (AW.cN h (fun m0 h=>?_) (fun m0 h=>?_))
    ·refine AW.skip (AW.join (r:=r) (fun z:Unit=>ref15_Check_k9 F e V) (fun z=>[(0,AL a),(85,AL a),(86,vi (lI a)),(87,vi e)]) (fun z=>[]) (fun z h=>?_) (fun O0 b0=>?_))
     ·obtain ⟨A0,h⟩:=gS h
      refine AW.pN Fm [.s,.s] [(0,AL a),(85,AL a),(86,vi (lI a)),(87,vi (e+1))] [] (cT (cT A0)) ?_
      exact Kn.R Fm (Z (e+1) h)
     ·refine AW.block ?_
      obtain ⟨u0,h⟩:=gS h
      refine AW.SP Fm [.s,.s,.s,.s,.s,.s] [(0,AL a),(5,vi e),(6,pt 6),(85,AL a),(86,vi (lI a)),(87,vi e)] [(6,bx [ci ((gl a e.toNat).year_),ci ((gl a e.toNat).crop_),.d (DL (α:=Rect) (gl a e.toNat).region_.rects_)])] (cT u0) ?_
      obtain ⟨P,h⟩:=gS h
      refine AW.SP Fm [.s,.s,.w (AL (α:=Record) (a.take e.toNat)),.s,.s] [(0,AL a),(6,pt 6),(85,AL a),(86,vi (lI a)),(87,vi e),(94,AL (α:=Record) (a.take e.toNat)),(95,vi (lI (a.take e.toNat))),(96,vi 0)] [(6,bx [ci ((gl a e.toNat).year_),ci ((gl a e.toNat).crop_),.d (DL (α:=Rect) (gl a e.toNat).region_.rects_)])] (cA (⟨P,(Is.refl a).len⟩ : ((sl (List.length a) (LF a) none (some e)).2∧∀ j,j<List.length a→(LF a j).length=3)) (cT (ALe.lst (sl_is a none (some e) P):ALe (.v (.c (.d (.lst (sl (List.length a) (LF a) none (some e)).1.1 (sl (List.length a) (LF a) none (some e)).1.2)))) (AL (α:=Record) (a.take e.toNat))))) ?_
      refine AW.block (AW.loopF (E' := fun z=>[(0,AL a),(6,pt 6),(85,AL a),(86,vi (lI a)),(87,vi e),(94,AL (α:=Record) (a.take e.toNat)),(95,vi (lI (a.take e.toNat))),(96,vi z)]) (S' := fun z=>[(6,bx [ci ((gl a e.toNat).year_),ci ((gl a e.toNat).crop_),.d (DL (α:=Rect) (gl a e.toNat).region_.rects_)])]) (fun W i M0 a0 h=>?_) h)
      refine AW.SG0 Fm 1 [(0,AL a),(6,pt 6),(85,AL a),(86,vi (lI a)),(87,vi e),(94,AL (α:=Record) (a.take e.toNat)),(95,vi (lI (a.take e.toNat))),(96,vi i),(97,vb (decide (i<(lI (a.take e.toNat)))))] [(6,bx [ci ((gl a e.toNat).year_),ci ((gl a e.toNat).crop_),.d (DL (α:=Rect) (gl a e.toNat).region_.rects_)])] ?_
      refine AW.seq (AW.cN h (fun n0 h=>?_) (fun n0 h=>?_))
      ·refine AW.skip (AW.seq (AW.block ?_))
       obtain ⟨w0,h⟩:=gS h
       refine AW.SP Fm [.s,.s,.s,.s] [(0,AL a),(6,pt 6),(8,pt 8),(85,AL a),(86,vi (lI a)),(87,vi e),(94,AL (α:=Record) (a.take e.toNat)),(95,vi (lI (a.take e.toNat))),(96,vi i)] [(6,bx [ci ((gl a e.toNat).year_),ci ((gl a e.toNat).crop_),.d (DL (α:=Rect) (gl a e.toNat).region_.rects_)]),(8,bx [ci ((gl (a.take e.toNat) i.toNat).year_),ci ((gl (a.take e.toNat) i.toNat).crop_),.d (DL (α:=Rect) (gl (a.take e.toNat) i.toNat).region_.rects_)])] (cT w0) ?_
       refine AW.join (r:=r) (fun z:Bool=>ref15_Check_k8 F i W z) (fun z=>[(0,AL a),(6,pt 6),(85,AL a),(86,vi (lI a)),(87,vi e),(94,AL (α:=Record) (a.take e.toNat)),(95,vi (lI (a.take e.toNat))),(96,vi i),(111,vb z)]) (fun z=>[(6,bx [ci ((gl a e.toNat).year_),ci ((gl a e.toNat).crop_),.d (DL (α:=Rect) (gl a e.toNat).region_.rects_)])]) (fun W0 h=>?_) (fun N0 M=>?_)
       ·refine AW.cN h (fun o0 h=>?_) (fun o0 h=>?_)
        ·refine AW.SG0 Fm 1 [(2,vi 11)] [] ?_
         refine AW.ret ?_
         obtain rfl:=Option.some.inj h
         exact Kn.D Fm
        ·refine AW.skip ?_
         obtain ⟨y0,h⟩:=gS h
         refine AW.pN Fm [.s,.s] [(0,AL a),(6,pt 6),(85,AL a),(86,vi (lI a)),(87,vi e),(94,AL (α:=Record) (a.take e.toNat)),(95,vi (lI (a.take e.toNat))),(96,vi (i+1))] [(6,bx [ci ((gl a e.toNat).year_),ci ((gl a e.toNat).crop_),.d (DL (α:=Rect) (gl a e.toNat).region_.rects_)])] (cT (cT y0)) ?_
         exact Kn.R Fm (a0 (i+1) h)
       ·rcases br_or h with ⟨A,h⟩|⟨A,h⟩
        ·obtain ⟨p,B0,h⟩:=bS h
         refine AW.G Fm [.s,.s,.s,.s,.s,.w (vb true),.s,.s,.s,.s,.k (cE [] [] (vb p) [] []),.s] (fun K=>_∧K 10∧True) [(0,AL a),(6,pt 6),(85,AL a),(86,vi (lI a)),(87,vi e),(94,AL (α:=Record) (a.take e.toNat)),(95,vi (lI (a.take e.toNat))),(96,vi i),(106,.v (.c (.ptr 8 2))),(107,.v (.g [.d (DL (α:=Rect) (gl (a.take e.toNat) i.toNat).region_.rects_)])),(108,.v (.c (.ptr 6 2))),(109,.v (.g [.d (DL (α:=Rect) (gl a e.toNat).region_.rects_)])),(110,vb p),(111,vb p)] [(6,bx [ci ((gl a e.toNat).year_),ci ((gl a e.toNat).crop_),.d (DL (α:=Rect) (gl a e.toNat).region_.rects_)]),(8,bx [ci ((gl (a.take e.toNat) i.toNat).year_),ci ((gl (a.take e.toNat) i.toNat).crop_),.d (DL (α:=Rect) (gl (a.take e.toNat) i.toNat).region_.rects_)])] ⟨ALe.bool A,KAt.CC (ref04_Meets_spec B0) Tryz.call70 [],⟨⟩⟩ ?_
         exact Kn.R Fm (M p h)
        ·refine AW.pN Fm [.s,.s,.s,.s,.s,.w (vb false),.s,.s,.s,.s,.s,.s] [(0,AL a),(6,pt 6),(85,AL a),(86,vi (lI a)),(87,vi e),(94,AL (α:=Record) (a.take e.toNat)),(95,vi (lI (a.take e.toNat))),(96,vi i),(111,vb false)] [(6,bx [ci ((gl a e.toNat).year_),ci ((gl a e.toNat).crop_),.d (DL (α:=Rect) (gl a e.toNat).region_.rects_)])] (cT (ALe.bool A)) ?_
         exact Kn.R Fm (M false h)
      ·exact AW.exit (Kn.R Fm (b0 () h))
    ·exact AW.exit (Kn.R Fm (c0 () h))
  ·refine AW.SG0 Fm 3 [(0,AL a),(12,AL a),(13,vi (lI a)),(14,vi 0)] [] ?_
   refine AW.block (AW.loopF (E' := fun z=>[(0,AL a),(12,AL a),(13,vi (lI a)),(14,vi z)]) (S' := fun z=>[]) (fun m b D0 X h=>?_) h)
   refine AW.SG0 Fm 1 [(0,AL a),(12,AL a),(13,vi (lI a)),(14,vi b),(15,vb (decide (b<(lI a))))] [] ?_
   refine AW.seq (AW.cN h (fun e0 h=>?_) (fun e0 h=>?_))
   ·refine AW.skip (AW.seq (AW.block ?_))
    obtain ⟨p0,h⟩:=gS h
    refine AW.SP Fm [.s,.s,.s,.s,.s,.s] [(0,AL a),(3,vi b),(4,pt 4),(12,AL a),(13,vi (lI a)),(14,vi b)] [(4,bx [ci ((gl a b.toNat).year_),ci ((gl a b.toNat).crop_),.d (DL (α:=Rect) (gl a b.toNat).region_.rects_)])] (cT p0) ?_
    refine AW.seq (AW.block (AW.join (r:=r) (fun z:Bool=>ref15_Check_k1 F a b m z) (fun z=>[(0,AL a),(3,vi b),(4,pt 4),(12,AL a),(13,vi (lI a)),(14,vi b),(19,vb z)]) (fun z=>[(4,bx [ci ((gl a b.toNat).year_),ci ((gl a b.toNat).crop_),.d (DL (α:=Rect) (gl a b.toNat).region_.rects_)])]) (fun R0 h=>?_) (fun E0 H=>?_)))
    ·refine AW.cN h (fun i0 h=>?_) (fun i0 h=>?_)
     ·refine AW.SG0 Fm 1 [(2,vi 18)] [] ?_
      refine AW.ret ?_
      obtain rfl:=Option.some.inj h
      exact Kn.D Fm
     ·refine AW.join (r:=r) (fun z:Bool=>ref15_Check_k2 F a b m z) (fun z=>[(0,AL a),(3,vi b),(4,pt 4),(12,AL a),(13,vi (lI a)),(14,vi b),(28,vb z)]) (fun z=>[(4,bx [ci ((gl a b.toNat).year_),ci ((gl a b.toNat).crop_),.d (DL (α:=Rect) (gl a b.toNat).region_.rects_)])]) (fun T0 h=>?_) (fun G0 I=>?_)
      ·refine AW.cN h (fun j0 h=>?_) (fun j0 h=>?_)
       ·refine AW.SG0 Fm 1 [(2,vi 13)] [] ?_
        refine AW.ret ?_
        obtain rfl:=Option.some.inj h
        exact Kn.D Fm
       ·refine AW.join (r:=r) (fun z:Bool=>ref15_Check_k3 F a b m z) (fun z=>[(0,AL a),(3,vi b),(4,pt 4),(12,AL a),(13,vi (lI a)),(14,vi b),(37,vb z)]) (fun z=>[(4,bx [ci ((gl a b.toNat).year_),ci ((gl a b.toNat).crop_),.d (DL (α:=Rect) (gl a b.toNat).region_.rects_)])]) (fun U0 h=>?_) (fun H0 L=>?_)
        ·refine AW.cN h (fun k0 h=>?_) (fun k0 h=>?_)
         ·refine AW.SG0 Fm 1 [(2,vi 7)] [] ?_
          refine AW.ret ?_
          obtain rfl:=Option.some.inj h
          exact Kn.D Fm
         ·refine AW.skip (AW.join (r:=r) (fun z:Bool=>ref15_Check_k4 F b m z) (fun z=>[(0,AL a),(12,AL a),(13,vi (lI a)),(14,vi b),(83,vb z)]) (fun z=>[]) (fun V0 h=>?_) (fun I0 n=>?_))
          ·refine AW.cN h (fun l0 h=>?_) (fun l0 h=>?_)
           ·refine AW.SG0 Fm 1 [(2,vi 3)] [] ?_
            refine AW.ret ?_
            obtain rfl:=Option.some.inj h
            exact Kn.D Fm
           ·refine AW.skip ?_
            obtain ⟨t0,h⟩:=gS h
            refine AW.pN Fm [.s,.s] [(0,AL a),(12,AL a),(13,vi (lI a)),(14,vi (b+1))] [] (cT (cT t0)) ?_
            exact Kn.R Fm (X (b+1) h)
          ·rcases br_or h with ⟨l,h⟩|⟨l,h⟩
           ·obtain ⟨B,E,h⟩:=gS2 h
            rcases br_or h with ⟨o,h⟩|⟨o,h⟩
            ·refine AW.pN Fm [.s,.s,.w (vb true),.s,.s,.s,.s,.s,.s,.s,.s,.s,.w (vb true),.s,.s,.s,.s,.s,.s,.s,.s,.s,.s,.s,.s,.s,.s,.s,.s,.s,.s,.s,.s,.s,.s] [(0,AL a),(12,AL a),(13,vi (lI a)),(14,vi b),(52,pt 4),(53,vi (gl a b.toNat).year_),(54,AL a),(55,vi b),(56,vi (b-1)),(57,.v (.c (.elm [.int .i64 (gl a (b-1).toNat).year_,.int .i64 (gl a (b-1).toNat).crop_,DL (α:=Rect) (gl a (b-1).toNat).region_.rects_]))),(58,.v (.c (.elm [.int .i64 (gl a (b-1).toNat).year_,.int .i64 (gl a (b-1).toNat).crop_,DL (α:=Rect) (gl a (b-1).toNat).region_.rects_]))),(59,vi (gl a (b-1).toNat).year_),(60,vb (decide (((gl a b.toNat).year_)<((gl a (b-1).toNat).year_)))),(61,vb true),(82,vb true),(83,vb true)] [(4,bx [ci ((gl a b.toNat).year_),ci ((gl a b.toNat).crop_),.d (DL (α:=Rect) (gl a b.toNat).region_.rects_)])] (cA (ALe.bool l) (cA (cT B) (cA E (cT (ALe.bool o))))) ?_
             exact Kn.R Fm (n true h)
            ·obtain ⟨N,O,h⟩:=gS2 h
             rcases br_or h with ⟨y,h⟩|⟨y,h⟩
             ·obtain ⟨q0,s0,h⟩:=gS2 h
              refine AW.pN Fm [.s,.s,.w (vb true),.s,.s,.s,.s,.s,.s,.s,.s,.s,.w (vb false),.s,.s,.s,.s,.s,.s,.s,.s,.s,.w (vb true),.s,.s,.s,.s,.s,.s,.s,.s,.s,.s,.s,.s] [(0,AL a),(12,AL a),(13,vi (lI a)),(14,vi b),(52,pt 4),(53,vi (gl a b.toNat).year_),(54,AL a),(55,vi b),(56,vi (b-1)),(57,.v (.c (.elm [.int .i64 (gl a (b-1).toNat).year_,.int .i64 (gl a (b-1).toNat).crop_,DL (α:=Rect) (gl a (b-1).toNat).region_.rects_]))),(58,.v (.c (.elm [.int .i64 (gl a (b-1).toNat).year_,.int .i64 (gl a (b-1).toNat).crop_,DL (α:=Rect) (gl a (b-1).toNat).region_.rects_]))),(59,vi (gl a (b-1).toNat).year_),(60,vb (decide (((gl a b.toNat).year_)<((gl a (b-1).toNat).year_)))),(61,vb false),(62,pt 4),(63,vi (gl a b.toNat).year_),(64,AL a),(65,vi b),(66,vi (b-1)),(67,.v (.c (.elm [.int .i64 (gl a (b-1).toNat).year_,.int .i64 (gl a (b-1).toNat).crop_,DL (α:=Rect) (gl a (b-1).toNat).region_.rects_]))),(68,.v (.c (.elm [.int .i64 (gl a (b-1).toNat).year_,.int .i64 (gl a (b-1).toNat).crop_,DL (α:=Rect) (gl a (b-1).toNat).region_.rects_]))),(69,vi (gl a (b-1).toNat).year_),(70,vb (((gl a b.toNat).year_)==((gl a (b-1).toNat).year_))),(71,vb true),(72,.v (.c (.ptr 4 1))),(73,vi (gl a b.toNat).crop_),(74,AL a),(75,vi b),(76,vi (b-1)),(77,.v (.c (.elm [.int .i64 (gl a (b-1).toNat).year_,.int .i64 (gl a (b-1).toNat).crop_,DL (α:=Rect) (gl a (b-1).toNat).region_.rects_]))),(78,.v (.c (.elm [.int .i64 (gl a (b-1).toNat).crop_,DL (α:=Rect) (gl a (b-1).toNat).region_.rects_]))),(79,vi (gl a (b-1).toNat).crop_),(80,vb (decide (((gl a b.toNat).crop_)≤((gl a (b-1).toNat).crop_)))),(81,vb (decide (((gl a b.toNat).crop_)≤((gl a (b-1).toNat).crop_)))),(82,vb (decide (((gl a b.toNat).crop_)≤((gl a (b-1).toNat).crop_)))),(83,vb (decide (((gl a b.toNat).crop_)≤((gl a (b-1).toNat).crop_))))] [(4,bx [ci ((gl a b.toNat).year_),ci ((gl a b.toNat).crop_),.d (DL (α:=Rect) (gl a b.toNat).region_.rects_)])] (cA (ALe.bool l) (cA (cT B) (cA E (cA (ALe.bool o) (cA (cT N) (cA O (cA (ALe.bool y) (cA (cT q0) (cT s0))))))))) ?_
              exact Kn.R Fm (n (decide (((gl a b.toNat).crop_)≤((gl a (b-1).toNat).crop_))) h)
             ·refine AW.pN Fm [.s,.s,.w (vb true),.s,.s,.s,.s,.s,.s,.s,.s,.s,.w (vb false),.s,.s,.s,.s,.s,.s,.s,.s,.s,.w (vb false),.s,.s,.s,.s,.s,.s,.s,.s,.s,.s,.s,.s] [(0,AL a),(12,AL a),(13,vi (lI a)),(14,vi b),(52,pt 4),(53,vi (gl a b.toNat).year_),(54,AL a),(55,vi b),(56,vi (b-1)),(57,.v (.c (.elm [.int .i64 (gl a (b-1).toNat).year_,.int .i64 (gl a (b-1).toNat).crop_,DL (α:=Rect) (gl a (b-1).toNat).region_.rects_]))),(58,.v (.c (.elm [.int .i64 (gl a (b-1).toNat).year_,.int .i64 (gl a (b-1).toNat).crop_,DL (α:=Rect) (gl a (b-1).toNat).region_.rects_]))),(59,vi (gl a (b-1).toNat).year_),(60,vb (decide (((gl a b.toNat).year_)<((gl a (b-1).toNat).year_)))),(61,vb false),(62,pt 4),(63,vi (gl a b.toNat).year_),(64,AL a),(65,vi b),(66,vi (b-1)),(67,.v (.c (.elm [.int .i64 (gl a (b-1).toNat).year_,.int .i64 (gl a (b-1).toNat).crop_,DL (α:=Rect) (gl a (b-1).toNat).region_.rects_]))),(68,.v (.c (.elm [.int .i64 (gl a (b-1).toNat).year_,.int .i64 (gl a (b-1).toNat).crop_,DL (α:=Rect) (gl a (b-1).toNat).region_.rects_]))),(69,vi (gl a (b-1).toNat).year_),(70,vb (((gl a b.toNat).year_)==((gl a (b-1).toNat).year_))),(71,vb false),(81,vb false),(82,vb false),(83,vb false)] [(4,bx [ci ((gl a b.toNat).year_),ci ((gl a b.toNat).crop_),.d (DL (α:=Rect) (gl a b.toNat).region_.rects_)])] (cA (ALe.bool l) (cA (cT B) (cA E (cA (ALe.bool o) (cA (cT N) (cA O (cT (ALe.bool y)))))))) ?_
              exact Kn.R Fm (n false h)
           ·refine AW.pN Fm [.s,.s,.w (vb false),.s,.s,.s,.s,.s,.s,.s,.s,.s,.s,.s,.s,.s,.s,.s,.s,.s,.s,.s,.s,.s,.s,.s,.s,.s,.s,.s,.s,.s,.s,.s,.s] [(0,AL a),(12,AL a),(13,vi (lI a)),(14,vi b),(83,vb false)] [] (cT (ALe.bool l)) ?_
            exact Kn.R Fm (n false h)
        ·obtain ⟨U,T,h⟩:=bS h
         rcases br_or h with ⟨u,h⟩|⟨u,h⟩
         ·refine AW.G Fm [.s,.s,.k (cE [] [] (vb U) [] []),.s,.w (vb true),.s,.s,.s,.s,.s,.s,.s] (fun K=>K 2∧_∧True) [(0,AL a),(3,vi b),(4,pt 4),(12,AL a),(13,vi (lI a)),(14,vi b),(37,vb true)] [(4,bx [ci ((gl a b.toNat).year_),ci ((gl a b.toNat).crop_),.d (DL (α:=Rect) (gl a b.toNat).region_.rects_)])] ⟨KAt.CC (ref04_Valid_spec T) Tryz.call109 [],ALe.bool u,⟨⟩⟩ ?_
          exact Kn.R Fm (L true h)
         ·refine AW.G Fm [.s,.s,.k (cE [] [] (vb U) [] []),.s,.w (vb false),.s,.s,.s,.s,.s,.s,.s] (fun K=>K 2∧_∧True) [(0,AL a),(3,vi b),(4,pt 4),(12,AL a),(13,vi (lI a)),(14,vi b),(37,vb ((lI ((gl a b.toNat).region_.rects_))==(0:Int))),(43,.v (.c (.ptr 4 2))),(44,.v (.c (.ptr 4 2))),(45,AL (α:=Rect) (gl a b.toNat).region_.rects_),(46,vi (lI ((gl a b.toNat).region_.rects_))),(47,vb ((lI ((gl a b.toNat).region_.rects_))==(0:Int)))] [(4,bx [ci ((gl a b.toNat).year_),ci ((gl a b.toNat).crop_),.d (DL (α:=Rect) (gl a b.toNat).region_.rects_)])] ⟨KAt.CC (ref04_Valid_spec T) Tryz.call109 [],ALe.bool u,⟨⟩⟩ ?_
          exact Kn.R Fm (L ((lI ((gl a b.toNat).region_.rects_))==(0:Int)) h)
      ·rcases br_or h with ⟨t,h⟩|⟨t,h⟩
       ·refine AW.pN Fm [.s,.s,.s,.w (vb true),.s,.s,.s,.s,.s] [(0,AL a),(3,vi b),(4,pt 4),(12,AL a),(13,vi (lI a)),(14,vi b),(28,vb true)] [(4,bx [ci ((gl a b.toNat).year_),ci ((gl a b.toNat).crop_),.d (DL (α:=Rect) (gl a b.toNat).region_.rects_)])] (cT (ALe.bool t)) ?_
        exact Kn.R Fm (I true h)
       ·refine AW.pN Fm [.s,.s,.s,.w (vb false),.s,.s,.s,.s,.s] [(0,AL a),(3,vi b),(4,pt 4),(12,AL a),(13,vi (lI a)),(14,vi b),(28,vb (decide ((40:Int)≤((gl a b.toNat).crop_)))),(33,.v (.c (.ptr 4 1))),(34,vi (gl a b.toNat).crop_),(35,vb (decide ((40:Int)≤((gl a b.toNat).crop_))))] [(4,bx [ci ((gl a b.toNat).year_),ci ((gl a b.toNat).crop_),.d (DL (α:=Rect) (gl a b.toNat).region_.rects_)])] (cT (ALe.bool t)) ?_
        exact Kn.R Fm (I (decide ((40:Int)≤((gl a b.toNat).crop_))) h)
    ·rcases br_or h with ⟨q,h⟩|⟨q,h⟩
     ·refine AW.pN Fm [.s,.s,.s,.w (vb true),.s,.s,.s,.s,.s] [(0,AL a),(3,vi b),(4,pt 4),(12,AL a),(13,vi (lI a)),(14,vi b),(19,vb true)] [(4,bx [ci ((gl a b.toNat).year_),ci ((gl a b.toNat).crop_),.d (DL (α:=Rect) (gl a b.toNat).region_.rects_)])] (cT (ALe.bool q)) ?_
      exact Kn.R Fm (H true h)
     ·refine AW.pN Fm [.s,.s,.s,.w (vb false),.s,.s,.s,.s,.s] [(0,AL a),(3,vi b),(4,pt 4),(12,AL a),(13,vi (lI a)),(14,vi b),(19,vb (decide ((100:Int)<((gl a b.toNat).year_)))),(24,pt 4),(25,vi (gl a b.toNat).year_),(26,vb (decide ((100:Int)<((gl a b.toNat).year_))))] [(4,bx [ci ((gl a b.toNat).year_),ci ((gl a b.toNat).crop_),.d (DL (α:=Rect) (gl a b.toNat).region_.rects_)])] (cT (ALe.bool q)) ?_
      exact Kn.R Fm (H (decide ((100:Int)<((gl a b.toNat).year_))) h)
   ·exact AW.exit (Kn.R Fm (Y () h))
theorem ref15_Add_spec {F:Nat} {a:(List Record)} {b:Int} {e:Int} {q:Region} {r:(List Record)×Int} (h:ref15_Add F a b e q=some r) :
  FSpec Tryz.prog 28 [AL a,vi b,vi e,.v (.g [.d (DL q.rects_)])] [] (.t [.c (.d (DL (α:=Record) r.1)),.c (ci r.2)]) []:=by
 refine FI Tryz.func28 prog_mixed prog_lay fun C Fm=>?_
 unfold ref15_Add at h
 refine AW.SG0 Fm 3 [(0,AL a),(1,vi b),(2,vi e),(7,pt 7)] [(7,bx [.d (DL q.rects_)])] ?_
 refine AW.seq (AW.seq ?_)
 obtain ⟨M,j1,h⟩:=bS h
 refine AW.G Fm [.s,.k (cE [] [] (vi M) [] []),.s] (fun K=>K 1∧True) [(0,AL a),(1,vi b),(2,vi e),(7,pt 7),(10,vi M)] [(7,bx [.d (DL q.rects_)])] ⟨KAt.CC (ref15_Check_spec j1) Tryz.call25 [],⟨⟩⟩ ?_
 refine AW.SG0 Fm 2 [(0,AL a),(1,vi b),(2,vi e),(7,pt 7),(10,vi M),(21,vb (M != (0:Int)))] [(7,bx [.d (DL q.rects_)])] ?_
 refine AW.cN h (fun G0 h=>?_) (fun G0 h=>?_)
 ·refine AW.SG0 Fm 3 [(8,.v (.c (.fl 0 fun _=>[]))),(9,vi M)] [] ?_
  refine AW.ret ?_
  obtain rfl:=Option.some.inj h
  refine Kn.r Fm [(8,.v (.c (.fl 0 fun _=>[]))),(9,vi M)] [] (by kernel_rfl) ?_
  refine Kn.wk [(8,AL (α:=Record) []),(9,vi M)] [] ⟨rfl,ALe.c (CLe.fl .nil),⟨rfl,ALe.c (CLe.refl _),⟨⟩⟩⟩ True.intro ?_
  exact Kn.D Fm
 ·refine AW.skip (AW.seq (AW.block (AW.join (r:=r) (fun z:Bool=>ref15_Add_k0 F a b e q z) (fun z=>[(0,AL a),(1,vi b),(2,vi e),(7,pt 7),(23,vb z)]) (fun z=>[(7,bx [.d (DL q.rects_)])]) (fun H1 h=>?_) (fun n1 e0=>?_))))
  ·refine AW.cN h (fun H0 h=>?_) (fun H0 h=>?_)
   ·refine AW.SG0 Fm 2 [(8,.v (.c (.fl 0 fun _=>[]))),(9,vi 18)] [] ?_
    refine AW.ret ?_
    obtain rfl:=Option.some.inj h
    refine Kn.r Fm [(8,.v (.c (.fl 0 fun _=>[]))),(9,vi 18)] [] (by kernel_rfl) ?_
    refine Kn.wk [(8,AL (α:=Record) []),(9,vi 18)] [] ⟨rfl,ALe.c (CLe.fl .nil),⟨rfl,ALe.c (CLe.refl _),⟨⟩⟩⟩ True.intro ?_
    exact Kn.D Fm
   ·refine AW.join (r:=r) (fun z:Bool=>ref15_Add_k1 F a b e q z) (fun z=>[(0,AL a),(1,vi b),(2,vi e),(7,pt 7),(30,vb z)]) (fun z=>[(7,bx [.d (DL q.rects_)])]) (fun I1 h=>?_) (fun o1 i0=>?_)
    ·refine AW.cN h (fun I0 h=>?_) (fun I0 h=>?_)
     ·refine AW.SG0 Fm 2 [(8,.v (.c (.fl 0 fun _=>[]))),(9,vi 13)] [] ?_
      refine AW.ret ?_
      obtain rfl:=Option.some.inj h
      refine Kn.r Fm [(8,.v (.c (.fl 0 fun _=>[]))),(9,vi 13)] [] (by kernel_rfl) ?_
      refine Kn.wk [(8,AL (α:=Record) []),(9,vi 13)] [] ⟨rfl,ALe.c (CLe.fl .nil),⟨rfl,ALe.c (CLe.refl _),⟨⟩⟩⟩ True.intro ?_
      exact Kn.D Fm
     ·refine AW.seq ?_
      obtain ⟨t0,k1,h⟩:=bS h
      refine AW.G Fm [.s,.k (cE [] [] (vb t0) [] []),.s,.s] (fun K=>K 1∧True) [(0,AL a),(1,vi b),(2,vi e),(7,pt 7),(37,vb (!t0))] [(7,bx [.d (DL q.rects_)])] ⟨KAt.CC (ref04_Valid_spec k1) Tryz.call109 [],⟨⟩⟩ ?_
      refine AW.cN h (fun K0 h=>?_) (fun K0 h=>?_)
      ·refine AW.SG0 Fm 2 [(8,.v (.c (.fl 0 fun _=>[]))),(9,vi 7)] [] ?_
       refine AW.ret ?_
       obtain rfl:=Option.some.inj h
       refine Kn.r Fm [(8,.v (.c (.fl 0 fun _=>[]))),(9,vi 7)] [] (by kernel_rfl) ?_
       refine Kn.wk [(8,AL (α:=Record) []),(9,vi 7)] [] ⟨rfl,ALe.c (CLe.fl .nil),⟨rfl,ALe.c (CLe.refl _),⟨⟩⟩⟩ True.intro ?_
       exact Kn.D Fm
      ·refine AW.skip (AW.SG0 Fm 3 [(0,AL a),(1,vi b),(2,vi e),(7,pt 7),(11,AL q.rects_)] [(7,bx [.d (DL q.rects_)])] ?_)
       refine AW.SW Fm [.m] (fun K=>True) [(0,AL a),(1,vi b),(2,vi e),(7,pt 7),(11,AL q.rects_),(12,ow 12)] [(7,bx [.d (DL q.rects_)]),(12,AO (α:=Record) ([]:List Record))] True.intro [(12,.arr 3 (0) (fun _=>[]))] ⟨OLe.is ((Is.nil (α:=Record))),⟨⟩⟩ ?_
       refine AW.join (r:=r) (fun z:(List Rect)×(List Record)=>ref15_Add_k6 F b e z.1 z.2) (fun z=>[(1,vi b),(2,vi e),(11,AL z.1),(12,ow 12)]) (fun z=>[(12,AO z.2)]) (fun z h=>?_) (fun u1 y0=>?_)
       ·obtain ⟨A,o⟩:=z
        refine AW.join (r:=r) (fun z:(List Record)=>ref15_Add_k10 F z) (fun z=>[(12,ow 137)]) (fun z=>[(137,AO z)]) (fun B h=>?_) (fun B1 l0=>?_)
        ·refine AW.seq (AW.SG0 Fm 3 [(12,ow 137),(140,vb (decide ((200:Int)<(lI B))))] [(137,AO B)] ?_)
         refine AW.cN h (fun T0 h=>?_) (fun T0 h=>?_)
         ·refine AW.SG0 Fm 2 [(8,.v (.c (.fl 0 fun _=>[]))),(9,vi 1)] [] ?_
          refine AW.ret ?_
          obtain rfl:=Option.some.inj h
          refine Kn.r Fm [(8,.v (.c (.fl 0 fun _=>[]))),(9,vi 1)] [] (by kernel_rfl) ?_
          refine Kn.wk [(8,AL (α:=Record) []),(9,vi 1)] [] ⟨rfl,ALe.c (CLe.fl .nil),⟨rfl,ALe.c (CLe.refl _),⟨⟩⟩⟩ True.intro ?_
          exact Kn.D Fm
         ·refine AW.skip (AW.join (r:=r) (fun z:Unit=>ref15_Add_k12 F B) (fun z=>[(12,ow 137)]) (fun z=>[(137,AO B)]) (fun z h=>?_) (fun E1 E0=>?_))
          ·refine AW.SG0 Fm 3 [(8,ow 137),(9,vi 0)] [(137,AO B)] ?_
           refine AW.ret ?_
           obtain rfl:=Option.some.inj h
           refine Kn.r Fm [(8,ow 137),(9,vi 0)] [(137,AO B)] (by kernel_rfl) ?_
           refine Kn.frz [(8,AL B),(9,vi 0)] [] (by kernel_rfl) (by kernel_rfl) (by kernel_rfl) ?_
           exact Kn.D Fm
          ·refine AW.SG0 Fm 3 [(12,ow 137),(141,ow 137),(142,vi (lI B)),(143,vi 0)] [(137,AO B)] ?_
           refine AW.block (AW.loopF (E' := fun z=>[(12,ow 137),(141,ow 137),(142,vi (lI B)),(143,vi z)]) (S' := fun z=>[(137,AO B)]) (fun G1 L D1 D0 h=>?_) h)
           refine AW.SG0 Fm 1 [(12,ow 137),(141,ow 137),(142,vi (lI B)),(143,vi L),(144,vb (decide (L<(lI B))))] [(137,AO B)] ?_
           refine AW.seq (AW.cN h (fun U0 h=>?_) (fun U0 h=>?_))
           ·refine AW.skip (AW.seq (AW.block ?_))
            obtain ⟨p0,h⟩:=gS h
            refine AW.SP Fm [.s,.s,.s,.s] [(12,ow 137),(17,pt 17),(141,ow 137),(142,vi (lI B)),(143,vi L)] [(17,bx [ci ((gl B L.toNat).year_),ci ((gl B L.toNat).crop_),.d (DL (α:=Rect) (gl B L.toNat).region_.rects_)]),(137,AO B)] (cA p0 (cT (toNat_lt p0))) ?_
            refine AW.SG0 Fm 5 [(12,ow 137),(141,ow 137),(142,vi (lI B)),(143,vi L),(151,vb (decide ((120:Int)<(lI ((gl B L.toNat).region_.rects_)))))] [(137,AO B)] ?_
            refine AW.cN h (fun V0 h=>?_) (fun V0 h=>?_)
            ·refine AW.SG0 Fm 2 [(8,.v (.c (.fl 0 fun _=>[]))),(9,vi 1)] [] ?_
             refine AW.ret ?_
             obtain rfl:=Option.some.inj h
             refine Kn.r Fm [(8,.v (.c (.fl 0 fun _=>[]))),(9,vi 1)] [] (by kernel_rfl) ?_
             refine Kn.wk [(8,AL (α:=Record) []),(9,vi 1)] [] ⟨rfl,ALe.c (CLe.fl .nil),⟨rfl,ALe.c (CLe.refl _),⟨⟩⟩⟩ True.intro ?_
             exact Kn.D Fm
            ·refine AW.skip ?_
             obtain ⟨i1,h⟩:=gS h
             refine AW.pN Fm [.s,.s] [(12,ow 137),(141,ow 137),(142,vi (lI B)),(143,vi (L+1))] [(137,AO B)] (cT (cT i1)) ?_
             exact Kn.R Fm (D0 (L+1) h)
           ·exact AW.exit (Kn.R Fm (E0 () h))
        ·refine AW.SG0 Fm 3 [(1,vi b),(2,vi e),(11,AL A),(12,ow 12),(88,vb (decide ((0:Int)<(lI A))))] [(12,AO o)] ?_
         refine AW.cN h (fun P0 h=>?_) (fun P0 h=>?_)
         ·refine AW.SG0 Fm 1 [(1,vi b),(2,vi e),(11,AL A),(12,ow 12),(15,vi 0)] [(12,AO o)] ?_
          refine AW.join (r:=r) (fun z:Int=>ref15_Add_k9 F b e A o z) (fun z=>[(1,vi b),(2,vi e),(11,AL A),(12,ow 12),(15,vi z)]) (fun z=>[(12,AO o)]) (fun y h=>?_) (fun A1 B0=>?_)
          ·obtain ⟨a1,n0,b1,c1,h⟩:=gS4 h
           obtain ⟨d1,o0,e1,h⟩:=gS3 h
           refine AW.GW Fm [.m,.s,.s,.k (rE { v:=.v (.c (.sub 12 3 0 ((y).toNat))) }),.s,.s,.s,.s,.s,.s,.w (AL (α:=Record) ([(⟨b,e,(⟨A⟩ : Region)⟩ : Record)]:List Record)),.s,.s,.s,.k (rE { v:=.v (.c (.sub 12 3 (0+(y).toNat) ((List.length (α:=Record) o)-(y).toNat))) }),.s,.s] (fun K=>K 3∧(_∧_∧True)∧(ALe (.v (.c (.d (.lst 1 (litF 3 [.int .i64 b,.int .i64 e,DL A]))))) (AL (α:=Record) ([(⟨b,e,(⟨A⟩ : Region)⟩ : Record)]:List Record)))∧(_∧_∧True)∧K 14∧(_∧_∧True)∧True) [(12,ow 137)] [(137,AO (α:=Record) (((([]:List Record)++((o.drop 0).take ((y).toNat)))++([(⟨b,e,(⟨A⟩ : Region)⟩ : Record)]:List Record))++((o.drop (0+(y).toNat)).take ((List.length (α:=Record) o)-(y).toNat))))] ⟨KAt.vslice (l:=none) (u:=(some y)) (id:=12) (lo0:=0) (n:=(List.length (α:=Record) o)) (N:=List.length (α:=Record) o) (f:=LF (α:=Record) o) prog_lay slT27 rfl rfl (by kernel_rfl) (by kernel_rfl) (by kernel_rfl) (by kernel_rfl) (by kernel_rfl) a1 (by kernel_rfl),⟨b1,(Is.subv (l:=o) (lo:=0) (n:=((y).toNat)) n0:Is (((y).toNat)) (fun j=>LF (α:=Record) o (0+j)) ((o.drop 0).take ((y).toNat))).len,⟨⟩⟩,ALe.lst (.lit ([(⟨b,e,(⟨A⟩ : Region)⟩ : Record)]:List Record) (by kernel_rfl)),⟨c1,(Is.refl ([(⟨b,e,(⟨A⟩ : Region)⟩ : Record)]:List Record):Is (List.length (α:=Record) ([(⟨b,e,(⟨A⟩ : Region)⟩ : Record)]:List Record)) (LF (α:=Record) ([(⟨b,e,(⟨A⟩ : Region)⟩ : Record)]:List Record)) ([(⟨b,e,(⟨A⟩ : Region)⟩ : Record)]:List Record)).len,⟨⟩⟩,KAt.vslice (l:=(some y)) (u:=none) (id:=12) (lo0:=0) (n:=(List.length (α:=Record) o)) (N:=List.length (α:=Record) o) (f:=LF (α:=Record) o) prog_lay slT27 rfl rfl (by kernel_rfl) (by kernel_rfl) (by kernel_rfl) (by kernel_rfl) (by kernel_rfl) d1 (by kernel_rfl),⟨e1,(Is.subv (l:=o) (lo:=(0+(y).toNat)) (n:=((List.length (α:=Record) o)-(y).toNat)) o0:Is (((List.length (α:=Record) o)-(y).toNat)) (fun j=>LF (α:=Record) o ((0+(y).toNat)+j)) ((o.drop (0+(y).toNat)).take ((List.length (α:=Record) o)-(y).toNat))).len,⟨⟩⟩,⟨⟩⟩ [(137,.arr 3 ((((0)+(((y).toNat)))+(List.length (α:=Record) ([(⟨b,e,(⟨A⟩ : Region)⟩ : Record)]:List Record)))+(((List.length (α:=Record) o)-(y).toNat))) (appF (((0)+(((y).toNat)))+(List.length (α:=Record) ([(⟨b,e,(⟨A⟩ : Region)⟩ : Record)]:List Record))) (appF ((0)+(((y).toNat))) (appF (0) (litF 3 []) (fun j=>LF (α:=Record) o (0+j))) (LF (α:=Record) ([(⟨b,e,(⟨A⟩ : Region)⟩ : Record)]:List Record))) (fun j=>LF (α:=Record) o ((0+(y).toNat)+j))))] ⟨OLe.is (Is.app (Is.app (Is.app (Is.lit ([]:List Record) (by kernel_rfl)) (Is.subv (l:=o) (lo:=0) (n:=((y).toNat)) n0)) (Is.refl ([(⟨b,e,(⟨A⟩ : Region)⟩ : Record)]:List Record))) (Is.subv (l:=o) (lo:=(0+(y).toNat)) (n:=((List.length (α:=Record) o)-(y).toNat)) o0)),⟨⟩⟩ ?_
           exact Kn.R Fm (l0 (((([]:List Record)++((o.drop 0).take ((y).toNat)))++([(⟨b,e,(⟨A⟩ : Region)⟩ : Record)]:List Record))++((o.drop (0+(y).toNat)).take ((List.length (α:=Record) o)-(y).toNat))) h)
          ·refine AW.block (AW.loopF (E' := fun z=>[(1,vi b),(2,vi e),(11,AL A),(12,ow 12),(15,vi z)]) (S' := fun z=>[(12,AO o)]) (fun u0 p w1 A0 h=>?_) h)
           refine AW.seq (AW.join (r:=r) (fun z:Bool=>ref15_Add_k8 F b e A o p u0 z) (fun z=>[(1,vi b),(2,vi e),(11,AL A),(12,ow 12),(15,vi p),(119,vb z)]) (fun z=>[(12,AO o)]) (fun L1 h=>?_) (fun y1 T=>?_))
           ·refine AW.cN h (fun R0 h=>?_) (fun R0 h=>?_)
            ·refine AW.skip (AW.block ?_)
             obtain ⟨Z0,h⟩:=gS h
             refine AW.pN Fm [.s,.s,.s] [(1,vi b),(2,vi e),(11,AL A),(12,ow 12),(15,vi (p+1))] [(12,AO o)] (cT (cT Z0)) ?_
             exact Kn.R Fm (A0 (p+1) h)
            ·exact AW.exit (Kn.R Fm (B0 p h))
           ·rcases br_or h with ⟨P,h⟩|⟨P,h⟩
            ·obtain ⟨O,h⟩:=gS h
             rcases br_or h with ⟨U,h⟩|⟨U,h⟩
             ·refine AW.pN Fm [.s,.s,.s,.s,.w (vb true),.s,.s,.s,.s,.s,.s,.s,.w (vb true),.s,.s,.s,.s,.s,.s,.s,.s,.s,.s,.s,.s,.s,.s,.s,.s,.s,.s] [(1,vi b),(2,vi e),(11,AL A),(12,ow 12),(15,vi p),(94,ow 12),(95,vi p),(96,.v (.c (.pte 12 3 p.toNat 0))),(97,.v (.c (.pte 12 3 p.toNat 0))),(98,vi (gl o p.toNat).year_),(99,vi b),(100,vb (decide (((gl o p.toNat).year_)<b))),(101,vb true),(118,vb true),(119,vb true)] [(12,AO o)] (cA (ALe.bool P) (cA O (cA (toNat_lt O) (cT (ALe.bool U))))) ?_
              exact Kn.R Fm (T true h)
             ·obtain ⟨V,h⟩:=gS h
              rcases br_or h with ⟨b0,h⟩|⟨b0,h⟩
              ·obtain ⟨m0,h⟩:=gS h
               refine AW.pN Fm [.s,.s,.s,.s,.w (vb true),.s,.s,.s,.s,.s,.s,.s,.w (vb false),.s,.s,.s,.s,.s,.s,.s,.w (vb true),.s,.s,.s,.s,.s,.s,.s,.s,.s,.s] [(1,vi b),(2,vi e),(11,AL A),(12,ow 12),(15,vi p),(94,ow 12),(95,vi p),(96,.v (.c (.pte 12 3 p.toNat 0))),(97,.v (.c (.pte 12 3 p.toNat 0))),(98,vi (gl o p.toNat).year_),(99,vi b),(100,vb (decide (((gl o p.toNat).year_)<b))),(101,vb false),(102,ow 12),(103,vi p),(104,.v (.c (.pte 12 3 p.toNat 0))),(105,.v (.c (.pte 12 3 p.toNat 0))),(106,vi (gl o p.toNat).year_),(107,vi b),(108,vb (((gl o p.toNat).year_)==b)),(109,vb true),(110,ow 12),(111,vi p),(112,.v (.c (.pte 12 3 p.toNat 0))),(113,.v (.c (.pte 12 3 p.toNat 1))),(114,vi (gl o p.toNat).crop_),(115,vi e),(116,vb (decide (((gl o p.toNat).crop_)<e))),(117,vb (decide (((gl o p.toNat).crop_)<e))),(118,vb (decide (((gl o p.toNat).crop_)<e))),(119,vb (decide (((gl o p.toNat).crop_)<e)))] [(12,AO o)] (cA (ALe.bool P) (cA O (cA (toNat_lt O) (cA (ALe.bool U) (cA V (cA (toNat_lt V) (cA (ALe.bool b0) (cA m0 (cT (toNat_lt m0)))))))))) ?_
               exact Kn.R Fm (T (decide (((gl o p.toNat).crop_)<e)) h)
              ·refine AW.pN Fm [.s,.s,.s,.s,.w (vb true),.s,.s,.s,.s,.s,.s,.s,.w (vb false),.s,.s,.s,.s,.s,.s,.s,.w (vb false),.s,.s,.s,.s,.s,.s,.s,.s,.s,.s] [(1,vi b),(2,vi e),(11,AL A),(12,ow 12),(15,vi p),(94,ow 12),(95,vi p),(96,.v (.c (.pte 12 3 p.toNat 0))),(97,.v (.c (.pte 12 3 p.toNat 0))),(98,vi (gl o p.toNat).year_),(99,vi b),(100,vb (decide (((gl o p.toNat).year_)<b))),(101,vb false),(102,ow 12),(103,vi p),(104,.v (.c (.pte 12 3 p.toNat 0))),(105,.v (.c (.pte 12 3 p.toNat 0))),(106,vi (gl o p.toNat).year_),(107,vi b),(108,vb (((gl o p.toNat).year_)==b)),(109,vb false),(117,vb false),(118,vb false),(119,vb false)] [(12,AO o)] (cA (ALe.bool P) (cA O (cA (toNat_lt O) (cA (ALe.bool U) (cA V (cA (toNat_lt V) (cT (ALe.bool b0)))))))) ?_
               exact Kn.R Fm (T false h)
            ·refine AW.pN Fm [.s,.s,.s,.s,.w (vb false),.s,.s,.s,.s,.s,.s,.s,.s,.s,.s,.s,.s,.s,.s,.s,.s,.s,.s,.s,.s,.s,.s,.s,.s,.s,.s] [(1,vi b),(2,vi e),(11,AL A),(12,ow 12),(15,vi p),(119,vb false)] [(12,AO o)] (cT (ALe.bool P)) ?_
             exact Kn.R Fm (T false h)
         ·exact AW.skip (Kn.RE Fm [(137,12)] (l0 o h))
       ·refine AW.SG0 Fm 3 [(1,vi b),(2,vi e),(7,pt 7),(11,AL q.rects_),(12,ow 12),(43,AL a),(44,vi (lI a)),(45,vi 0)] [(7,bx [.d (DL q.rects_)]),(12,AO (α:=Record) ([]:List Record))] ?_
        refine AW.block (Kn.r Fm [(1,vi b),(2,vi e),(7,pt 7),(11,AL q.rects_),(12,ow 12),(43,AL a),(44,vi (lI a)),(45,vi 0)] [(7,bx [.d (DL q.rects_)]),(12,AO ([]:List Record))] (by kernel_rfl) ?_)
        refine AW.loopF (E' := fun z=>[(1,vi b),(2,vi e),(7,pt 7),(11,AL z.1),(12,ow 12),(43,AL a),(44,vi (lI a)),(45,vi z.2.1)]) (S' := fun z=>[(7,bx [.d (DL q.rects_)]),(12,AO z.2.2)]) (fun W z p1 w0 h=>?_) h
        obtain ⟨H,i,E⟩:=z
        refine AW.SG0 Fm 1 [(1,vi b),(2,vi e),(7,pt 7),(11,AL H),(12,ow 12),(43,AL a),(44,vi (lI a)),(45,vi i),(46,vb (decide (i<(lI a))))] [(7,bx [.d (DL q.rects_)]),(12,AO E)] ?_
        refine AW.seq (AW.cN h (fun L0 h=>?_) (fun L0 h=>?_))
        ·refine AW.skip (AW.join (r:=r) (fun z:(List Rect)×(List Record)=>ref15_Add_k5 F i W z.1 z.2) (fun z=>[(1,vi b),(2,vi e),(7,pt 7),(11,AL z.1),(12,ow 12),(43,AL a),(44,vi (lI a)),(45,vi i)]) (fun z=>[(7,bx [.d (DL q.rects_)]),(12,AO z.2)]) (fun z h=>?_) (fun t1 X=>?_))
         ·obtain ⟨q0,s0⟩:=z
          obtain ⟨Y0,h⟩:=gS h
          refine AW.pN Fm [.s,.s] [(1,vi b),(2,vi e),(7,pt 7),(11,AL q0),(12,ow 12),(43,AL a),(44,vi (lI a)),(45,vi (i+1))] [(7,bx [.d (DL q.rects_)]),(12,AO s0)] (cT (cT Y0)) ?_
          exact Kn.R Fm (w0 (q0,(i+1),s0) h)
         ·refine AW.block ?_
          obtain ⟨W0,h⟩:=gS h
          refine AW.SP Fm [.s,.s,.s,.s] [(1,vi b),(2,vi e),(7,pt 7),(11,AL H),(12,ow 12),(14,pt 14),(43,AL a),(44,vi (lI a)),(45,vi i)] [(7,bx [.d (DL q.rects_)]),(12,AO E),(14,bx [ci ((gl a i.toNat).year_),ci ((gl a i.toNat).crop_),.d (DL (α:=Rect) (gl a i.toNat).region_.rects_)])] (cT W0) ?_
          refine AW.seq (AW.join (r:=r) (fun z:Bool=>ref15_Add_k3 F a b q H i E W z) (fun z=>[(1,vi b),(2,vi e),(7,pt 7),(11,AL H),(12,ow 12),(14,pt 14),(43,AL a),(44,vi (lI a)),(45,vi i),(58,vb z)]) (fun z=>[(7,bx [.d (DL q.rects_)]),(12,AO E),(14,bx [ci ((gl a i.toNat).year_),ci ((gl a i.toNat).crop_),.d (DL (α:=Rect) (gl a i.toNat).region_.rects_)])]) (fun K1 h=>?_) (fun q1 j0=>?_))
          ·refine AW.cN h (fun M0 h=>?_) (fun M0 h=>?_)
           ·refine AW.seq ?_
            obtain ⟨c0,l1,h⟩:=bS h
            refine AW.G Fm [.s,.s,.s,.s,.k (cE [] [] (AL c0) [] []),.s] (fun K=>K 4∧True) [(1,vi b),(2,vi e),(7,pt 7),(11,AL c0),(12,ow 12),(43,AL a),(44,vi (lI a)),(45,vi i)] [(7,bx [.d (DL q.rects_)]),(12,AO E)] ⟨KAt.CC (ref04_Combine_spec l1) Tryz.call112 [],⟨⟩⟩ ?_
            exact AW.exit (Kn.R Fm (X (c0,E) h))
           ·refine AW.skip (AW.join (r:=r) (fun z:(List Rect)=>ref15_Add_k4 F a H i E W z) (fun z=>[(1,vi b),(2,vi e),(7,pt 7),(11,AL H),(12,ow 12),(14,pt 14),(43,AL a),(44,vi (lI a)),(45,vi i)]) (fun z=>[(7,bx [.d (DL q.rects_)]),(12,AO E),(14,bx [ci ((gl a i.toNat).year_),ci ((gl a i.toNat).crop_),.d (DL z)])]) (fun I h=>?_) (fun s1 k0=>?_))
            ·refine AW.SG0 Fm 5 [(1,vi b),(2,vi e),(7,pt 7),(11,AL H),(12,ow 12),(14,pt 14),(43,AL a),(44,vi (lI a)),(45,vi i),(80,vb (decide ((0:Int)<(lI I))))] [(7,bx [.d (DL q.rects_)]),(12,AO E),(14,bx [ci ((gl a i.toNat).year_),ci ((gl a i.toNat).crop_),.d (DL I)])] ?_
             refine AW.cN h (fun O0 h=>?_) (fun O0 h=>?_)
             ·obtain ⟨X0,h⟩:=gS h
              refine AW.WP Fm [.s,.s,.w (AL (α:=Record) ([(⟨(gl a i.toNat).year_,(gl a i.toNat).crop_,(⟨I⟩ : Region)⟩ : Record)]:List Record)),.s,.s] [(1,vi b),(2,vi e),(7,pt 7),(11,AL H),(12,ow 84),(43,AL a),(44,vi (lI a)),(45,vi i)] [(7,bx [.d (DL q.rects_)]),(84,AO (α:=Record) (E++([(⟨(gl a i.toNat).year_,(gl a i.toNat).crop_,(⟨I⟩ : Region)⟩ : Record)]:List Record)))] (cA (ALe.lst (.lit ([(⟨(gl a i.toNat).year_,(gl a i.toNat).crop_,(⟨I⟩ : Region)⟩ : Record)]:List Record) (by kernel_rfl)):ALe (.v (.c (.d (.lst 1 (litF 3 [.int .i64 (gl a i.toNat).year_,.int .i64 (gl a i.toNat).crop_,DL I]))))) (AL (α:=Record) ([(⟨(gl a i.toNat).year_,(gl a i.toNat).crop_,(⟨I⟩ : Region)⟩ : Record)]:List Record))) (cT (cA X0 (cT (Is.refl ([(⟨(gl a i.toNat).year_,(gl a i.toNat).crop_,(⟨I⟩ : Region)⟩ : Record)]:List Record):Is (List.length (α:=Record) ([(⟨(gl a i.toNat).year_,(gl a i.toNat).crop_,(⟨I⟩ : Region)⟩ : Record)]:List Record)) (LF (α:=Record) ([(⟨(gl a i.toNat).year_,(gl a i.toNat).crop_,(⟨I⟩ : Region)⟩ : Record)]:List Record)) ([(⟨(gl a i.toNat).year_,(gl a i.toNat).crop_,(⟨I⟩ : Region)⟩ : Record)]:List Record)).len)))) [(84,.arr 3 ((List.length (α:=Record) E)+(List.length (α:=Record) ([(⟨(gl a i.toNat).year_,(gl a i.toNat).crop_,(⟨I⟩ : Region)⟩ : Record)]:List Record))) (appF (List.length (α:=Record) E) (LF (α:=Record) E) (LF (α:=Record) ([(⟨(gl a i.toNat).year_,(gl a i.toNat).crop_,(⟨I⟩ : Region)⟩ : Record)]:List Record))))] ⟨OLe.is (Is.app (Is.refl E) (Is.refl ([(⟨(gl a i.toNat).year_,(gl a i.toNat).crop_,(⟨I⟩ : Region)⟩ : Record)]:List Record))),⟨⟩⟩ ?_
              exact Kn.RE Fm [(12,84)] (X (H,(E++([(⟨(gl a i.toNat).year_,(gl a i.toNat).crop_,(⟨I⟩ : Region)⟩ : Record)]:List Record))) h)
             ·exact AW.skip (Kn.R Fm (X (H,E) h))
            ·refine AW.SG0 Fm 4 [(1,vi b),(2,vi e),(7,pt 7),(11,AL H),(12,ow 12),(14,pt 14),(43,AL a),(44,vi (lI a)),(45,vi i),(67,vb (((gl a i.toNat).year_)==b))] [(7,bx [.d (DL q.rects_)]),(12,AO E),(14,bx [ci ((gl a i.toNat).year_),ci ((gl a i.toNat).crop_),.d (DL (α:=Rect) (gl a i.toNat).region_.rects_)])] ?_
             refine AW.cN h (fun N0 h=>?_) (fun N0 h=>?_)
             ·obtain ⟨d0,m1,h⟩:=bS h
              refine AW.G Fm [.s,.s,.s,.s,.s,.k (cE [] [] (AL d0) [] []),.s,.s,.s] (fun K=>K 5∧True) [(1,vi b),(2,vi e),(7,pt 7),(11,AL H),(12,ow 12),(14,pt 14),(43,AL a),(44,vi (lI a)),(45,vi i)] [(7,bx [.d (DL q.rects_)]),(12,AO E),(14,bx [ci ((gl a i.toNat).year_),ci ((gl a i.toNat).crop_),.d (DL d0)])] ⟨KAt.CC (ref04_Combine_spec m1) Tryz.call112 [],⟨⟩⟩ ?_
              exact Kn.R Fm (k0 d0 h)
             ·exact AW.skip (Kn.R Fm (k0 ((gl a i.toNat).region_.rects_) h))
          ·rcases br_or h with ⟨a0,h⟩|⟨a0,h⟩
           ·refine AW.pN Fm [.s,.s,.s,.s,.w (vb true),.s,.s,.s,.s,.s] [(1,vi b),(2,vi e),(7,pt 7),(11,AL H),(12,ow 12),(14,pt 14),(43,AL a),(44,vi (lI a)),(45,vi i),(54,.v (.c (.ptr 14 1))),(55,vi (gl a i.toNat).crop_),(56,vi e),(57,vb (((gl a i.toNat).crop_)==e)),(58,vb (((gl a i.toNat).crop_)==e))] [(7,bx [.d (DL q.rects_)]),(12,AO E),(14,bx [ci ((gl a i.toNat).year_),ci ((gl a i.toNat).crop_),.d (DL (α:=Rect) (gl a i.toNat).region_.rects_)])] (cT (ALe.bool a0)) ?_
            exact Kn.R Fm (j0 (((gl a i.toNat).crop_)==e) h)
           ·refine AW.pN Fm [.s,.s,.s,.s,.w (vb false),.s,.s,.s,.s,.s] [(1,vi b),(2,vi e),(7,pt 7),(11,AL H),(12,ow 12),(14,pt 14),(43,AL a),(44,vi (lI a)),(45,vi i),(58,vb false)] [(7,bx [.d (DL q.rects_)]),(12,AO E),(14,bx [ci ((gl a i.toNat).year_),ci ((gl a i.toNat).crop_),.d (DL (α:=Rect) (gl a i.toNat).region_.rects_)])] (cT (ALe.bool a0)) ?_
            exact Kn.R Fm (j0 false h)
        ·exact AW.exit (Kn.R Fm (y0 (H,E) h))
    ·rcases br_or h with ⟨Z,h⟩|⟨Z,h⟩
     ·refine AW.pN Fm [.s,.s,.w (vb true),.s,.s,.s,.s] [(0,AL a),(1,vi b),(2,vi e),(7,pt 7),(30,vb true)] [(7,bx [.d (DL q.rects_)])] (cT (ALe.bool Z)) ?_
      exact Kn.R Fm (i0 true h)
     ·refine AW.pN Fm [.s,.s,.w (vb false),.s,.s,.s,.s] [(0,AL a),(1,vi b),(2,vi e),(7,pt 7),(30,vb (decide ((40:Int)≤e)))] [(7,bx [.d (DL q.rects_)])] (cT (ALe.bool Z)) ?_
      exact Kn.R Fm (i0 (decide ((40:Int)≤e)) h)
  ·rcases br_or h with ⟨Y,h⟩|⟨Y,h⟩
   ·refine AW.pN Fm [.s,.s,.w (vb true),.s,.s,.s,.s] [(0,AL a),(1,vi b),(2,vi e),(7,pt 7),(23,vb true)] [(7,bx [.d (DL q.rects_)])] (cT (ALe.bool Y)) ?_
    exact Kn.R Fm (e0 true h)
   ·refine AW.pN Fm [.s,.s,.w (vb false),.s,.s,.s,.s] [(0,AL a),(1,vi b),(2,vi e),(7,pt 7),(23,vb (decide ((100:Int)<b)))] [(7,bx [.d (DL q.rects_)])] (cT (ALe.bool Y)) ?_
    exact Kn.R Fm (e0 (decide ((100:Int)<b)) h)
theorem keep_Tape_History_spec {F:Nat} {l:Tape} {a:(List Crop)} {b:Int} {q:Int} {r:Tape×(List Record)} (h:keep_Tape_History F l a b q=some r) :
  FSpec Tryz.prog 22 [pt 0,AL a,vi b,vi q] [(0,bx (gC l))] (AL (α:=Record) r.2) [(0,bx (gC r.1))]:=by
 refine FI Tryz.func22 prog_mixed prog_lay fun C Fm=>?_
 unfold keep_Tape_History at h
 refine AW.SG0 Fm 1 [(0,pt 0),(1,AL a),(2,vi b),(3,vi q)] [(0,bx (gC l))] ?_
 refine AW.SW Fm [.m] (fun K=>True) [(0,pt 0),(1,AL a),(2,vi b),(3,vi q),(9,ow 9)] [(0,bx (gC l)),(9,AO (α:=Record) ([]:List Record))] True.intro [(9,.arr 3 (0) (fun _=>[]))] ⟨OLe.is ((Is.nil (α:=Record))),⟨⟩⟩ ?_
 refine AW.join (r:=r) (fun z:(List Record)×(List Int)×Int=>keep_Tape_History_k1 F z.1 z.2.1 z.2.2) (fun z=>[(9,AL z.1)]) (fun z=>[(0,bx [.d (DL z.2.1),ci z.2.2])]) (fun z h=>?_) (fun Y B=>?_)
 ·obtain ⟨U,V,W⟩:=z
  refine AW.SG0 Fm 2 [(8,AL U)] [(0,bx [.d (DL V),ci W])] ?_
  refine AW.ret ?_
  obtain rfl:=Option.some.inj h
  exact Kn.D Fm
 ·refine AW.seq ?_
  obtain ⟨H,h⟩:=gS h
  obtain ⟨e,M,h⟩:=bS h
  refine AW.G Fm [.s,.s,.s,.k (cE [(0,0)] [] (vi e.2) [(0,bx (gC l))] [(0,bx (gC e.1))]),.s] (fun K=>(_∧True)∧K 3∧True) [(0,pt 0),(1,AL a),(2,vi b),(9,ow 9),(10,vi e.2)] [(0,bx (gC e.1)),(9,AO (α:=Record) ([]:List Record))] ⟨⟨H,⟨⟩⟩,KAt.CC (keep_Tape_Next_spec M) Tryz.call15 [(0,0)],⟨⟩⟩ ?_
  refine AW.block (Kn.r Fm [(0,pt 0),(1,AL a),(2,vi b),(9,ow 9),(10,vi e.2)] [(9,AO (α:=Record) ([]:List Record)),(0,bx (gC e.1))] (by kernel_rfl) ?_)
  refine Kn.frz [(0,pt 0),(1,AL a),(2,vi b),(9,AL (α:=Record) ([]:List Record)),(10,vi e.2)] [(0,bx (gC e.1))] (by kernel_rfl) (by kernel_rfl) (by kernel_rfl) ?_
  refine Kn.r Fm [(0,pt 0),(1,AL a),(2,vi b),(9,AL ([]:List Record)),(10,vi e.2)] [(0,bx [.d (DL e.1.l_),ci e.1.at_])] (by kernel_rfl) ?_
  refine AW.loopF (E' := fun z=>[(0,pt 0),(1,AL a),(2,vi b),(9,AL z.1),(10,vi z.2.1)]) (S' := fun z=>[(0,bx [.d (DL z.2.2.1),ci z.2.2.2])]) (fun Z z X A h=>?_) h
  obtain ⟨y,j,o,p⟩:=z
  refine AW.seq (AW.SG0 Fm 2 [(0,pt 0),(1,AL a),(2,vi b),(9,AL y),(10,vi j),(16,vb (decide ((0:Int)<j)))] [(0,bx [.d (DL o),ci p])] ?_)
  refine AW.cN h (fun E h=>?_) (fun E h=>?_)
  ·refine AW.skip (AW.seq (AW.block ?_))
   obtain ⟨I,h⟩:=gS h
   obtain ⟨u,N,h⟩:=bS h
   obtain ⟨w,O,h⟩:=bS h
   obtain ⟨i,P,h⟩:=bS h
   obtain ⟨n,T,h⟩:=bS h
   refine AW.G Fm [.s,.s,.s,.s,.k (cE [(0,0)] [] (vi u.2) [(0,bx [.d (DL (α:=Int) (⟨o,p⟩ : Tape).l_),ci ((⟨o,p⟩ : Tape).at_)])] [(0,bx (gC u.1))]),.s,.s,.s,.k (cE [(0,0)] [] (vi w.2) [(0,bx (gC u.1))] [(0,bx (gC w.1))]),.s,.k (cE [(0,0)] [] (.v (.g [.d (DL i.2.rects_)])) [(0,bx (gC w.1))] [(0,bx (gC i.1))]),.k (cE [] [] (.t [.c (.d (DL n.1)),.c (ci n.2)]) [] []),.s,.s,.s,.s] (fun K=>(_∧True)∧K 4∧K 8∧K 10∧K 11∧True) [(0,pt 0),(1,AL a),(2,vi b),(9,AL n.1),(10,vi j)] [(0,bx (gC i.1))] ⟨⟨I,⟨⟩⟩,KAt.CC (keep_Tape_Next_spec N) Tryz.call15 [(0,0)],KAt.CC (keep_Tape_Next_spec O) Tryz.call15 [(0,0)],KAt.CC (keep_Tape_Region_spec P) Tryz.call16 [(0,0)],KAt.CC (ref15_Add_spec T) Tryz.call28 [],⟨⟩⟩ ?_
   obtain ⟨L,h⟩:=gS h
   refine AW.pN Fm [.s,.s,.s] [(0,pt 0),(1,AL a),(2,vi b),(9,AL n.1),(10,vi (j-1))] [(0,bx (gC i.1))] (cT (cT L)) ?_
   exact Kn.R Fm (A (n.1,(j-1),i.1.l_,i.1.at_) h)
  ·exact AW.exit (Kn.R Fm (B (y,o,p) h))
theorem history_single_spec {F:Nat} {a:Record} {r:Int} (h:history_single F a=some r) :
  FSpec Tryz.prog 105 [gE a] [] (vi r) []:=by
 refine FI Tryz.func105 prog_mixed prog_lay fun C Fm=>?_
 unfold history_single at h
 refine AW.SG0 Fm 2 [(1,pt 1)] [(1,bx (gC a))] ?_
 refine AW.seq (AW.block (AW.join (r:=r) (fun z:Bool=>history_single_k0 F a z) (fun z=>[(1,pt 1),(3,vb z)]) (fun z=>[(1,bx (gC a))]) (fun y h=>?_) (fun q i=>?_)))
 ·refine AW.cN h (fun m h=>?_) (fun m h=>?_)
  ·refine AW.SG0 Fm 1 [(2,vi 18)] [] ?_
   refine AW.ret ?_
   obtain rfl:=Option.some.inj h
   exact Kn.D Fm
  ·refine AW.join (r:=r) (fun z:Bool=>history_single_k1 F a z) (fun z=>[(1,pt 1),(12,vb z)]) (fun z=>[(1,bx (gC a))]) (fun A h=>?_) (fun t j=>?_)
   ·refine AW.cN h (fun n h=>?_) (fun n h=>?_)
    ·refine AW.SG0 Fm 1 [(2,vi 13)] [] ?_
     refine AW.ret ?_
     obtain rfl:=Option.some.inj h
     exact Kn.D Fm
    ·refine AW.join (r:=r) (fun z:Bool=>history_single_k2 F z) (fun z=>[(21,vb z)]) (fun z=>[]) (fun B h=>?_) (fun u l=>?_)
     ·refine AW.cN h (fun o h=>?_) (fun o h=>?_)
      ·refine AW.SG0 Fm 1 [(2,vi 7)] [] ?_
       refine AW.ret ?_
       obtain rfl:=Option.some.inj h
       exact Kn.D Fm
      ·refine AW.skip (AW.SG0 Fm 1 [(2,vi 0)] [] ?_)
       refine AW.ret ?_
       obtain rfl:=Option.some.inj h
       exact Kn.D Fm
     ·rcases br_or h with ⟨d,h⟩|⟨d,h⟩
      ·refine AW.pN Fm [.s,.s,.s,.s,.s,.w (vb true),.s,.s,.s,.s,.s,.s] [(21,vb true)] [] (cT (ALe.bool d)) ?_
       exact Kn.R Fm (l true h)
      ·obtain ⟨e,p,h⟩:=bS h
       refine AW.G Fm [.s,.s,.s,.s,.s,.w (vb false),.s,.s,.k (cE [] [] (vb e) [] []),.s,.s,.s] (fun K=>_∧K 8∧True) [(21,vb (!e))] [] ⟨ALe.bool d,KAt.CC (region_Valid_spec p) Tryz.call94 [],⟨⟩⟩ ?_
       exact Kn.R Fm (l (!e) h)
   ·rcases br_or h with ⟨c,h⟩|⟨c,h⟩
    ·refine AW.pN Fm [.s,.s,.s,.w (vb true),.s,.s,.s,.s,.s] [(1,pt 1),(12,vb true)] [(1,bx (gC a))] (cT (ALe.bool c)) ?_
     exact Kn.R Fm (j true h)
    ·refine AW.pN Fm [.s,.s,.s,.w (vb false),.s,.s,.s,.s,.s] [(1,pt 1),(12,vb (decide ((40:Int)≤a.crop_)))] [(1,bx (gC a))] (cT (ALe.bool c)) ?_
     exact Kn.R Fm (j (decide ((40:Int)≤a.crop_)) h)
 ·rcases br_or h with ⟨b,h⟩|⟨b,h⟩
  ·refine AW.pN Fm [.s,.s,.s,.w (vb true),.s,.s,.s,.s,.s] [(1,pt 1),(3,vb true)] [(1,bx (gC a))] (cT (ALe.bool b)) ?_
   exact Kn.R Fm (i true h)
  ·refine AW.pN Fm [.s,.s,.s,.w (vb false),.s,.s,.s,.s,.s] [(1,pt 1),(3,vb (decide ((100:Int)<a.year_)))] [(1,bx (gC a))] (cT (ALe.bool b)) ?_
   exact Kn.R Fm (i (decide ((100:Int)<a.year_)) h)
theorem cmp_Or_int_spec {F:Nat} {a:(List Int)} {r:Int} (h:cmp_Or_int F a=some r) :
  FSpec Tryz.prog 196 [AL a] [] (vi r) []:=by
 refine FI Tryz.func196 prog_mixed prog_lay fun C Fm=>?_
 unfold cmp_Or_int at h
 refine AW.SG0 Fm 1 [(0,AL a)] [] ?_
 refine AW.SG0 Fm 1 [(0,AL a),(3,vi 0)] [] ?_
 refine AW.join (r:=r) (fun z:Unit=>cmp_Or_int_k1 F) (fun z=>[(3,vi 0)]) (fun z=>[]) (fun z h=>?_) (fun m d=>?_)
 ·refine AW.SG0 Fm 2 [(2,vi 0)] [] ?_
  refine AW.ret ?_
  obtain rfl:=Option.some.inj h
  exact Kn.D Fm
 ·refine AW.SG0 Fm 3 [(3,vi 0),(6,AL a),(7,vi (lI a)),(8,vi 0)] [] ?_
  refine AW.block (AW.loopF (E' := fun z=>[(3,vi 0),(6,AL a),(7,vi (lI a)),(8,vi z)]) (S' := fun z=>[]) (fun n b l c h=>?_) h)
  refine AW.SG0 Fm 1 [(3,vi 0),(6,AL a),(7,vi (lI a)),(8,vi b),(9,vb (decide (b<(lI a))))] [] ?_
  refine AW.seq (AW.cN h (fun e h=>?_) (fun e h=>?_))
  ·refine AW.skip (AW.seq (AW.block ?_))
   obtain ⟨j,h⟩:=gS h
   refine AW.SP Fm [.s,.s,.s] [(3,vi 0),(5,vi (gl a b.toNat)),(6,AL a),(7,vi (lI a)),(8,vi b)] [] (cT j) ?_
   refine AW.SG0 Fm 3 [(3,vi 0),(5,vi (gl a b.toNat)),(6,AL a),(7,vi (lI a)),(8,vi b),(14,vb ((gl a b.toNat) != (0:Int)))] [] ?_
   refine AW.cN h (fun i h=>?_) (fun i h=>?_)
   ·refine AW.SG0 Fm 2 [(2,vi (gl a b.toNat))] [] ?_
    refine AW.ret ?_
    obtain rfl:=Option.some.inj h
    exact Kn.D Fm
   ·refine AW.skip ?_
    obtain ⟨k,h⟩:=gS h
    refine AW.pN Fm [.s,.s] [(3,vi 0),(6,AL a),(7,vi (lI a)),(8,vi (b+1))] [] (cT (cT k)) ?_
    exact Kn.R Fm (c (b+1) h)
  ·exact AW.exit (Kn.R Fm (d () h))
theorem history_compare_spec {F:Nat} {e:Record} {i:Record} {r:Int} (h:history_compare F e i=some r) :
  FSpec Tryz.prog 104 [gE e,gE i] [] (vi r) []:=by
 refine FI Tryz.func104 prog_mixed prog_lay fun C Fm=>?_
 unfold history_compare at h
 refine AW.SG0 Fm 3 [(2,pt 2),(3,pt 3)] [(2,bx (gC e)),(3,bx (gC i))] ?_
 refine AW.seq ?_
 obtain ⟨a,l,h⟩:=bS h
 obtain ⟨b,m,h⟩:=bS h
 obtain ⟨j,n,h⟩:=bS h
 refine AW.G Fm [.s,.s,.s,.s,.k (cE [] [] (vi a) [] []),.s,.s,.s,.s,.k (cE [] [] (vi b) [] []),.w (AL (α:=Int) ([a,b]:List Int)),.k (cE [] [] (vi j) [] []),.s] (fun K=>K 4∧K 9∧(ALe (.v (.c (.d (.lst 2 (litF 1 [.int .i64 a,.int .i64 b]))))) (AL (α:=Int) ([a,b]:List Int)))∧K 11∧True) [(4,vi j)] [] ⟨KAt.CC (cmp_Compare_int_spec l) Tryz.call197 [],KAt.CC (cmp_Compare_int_spec m) Tryz.call197 [],ALe.lst (.lit ([a,b]:List Int) (by kernel_rfl)),KAt.CC (cmp_Or_int_spec n) Tryz.call196 [],⟨⟩⟩ ?_
 refine AW.ret ?_
 obtain rfl:=Option.some.inj h
 exact Kn.D Fm
theorem history_years_spec {F:Nat} {a:(List Record)} {r:(List (Int×(List Record)))} (h:history_years F a=some r) :
  FSpec Tryz.prog 106 [AL a] [] (.v (.c (.d (MP (α:=Record) r)))) []:=by
 refine FI Tryz.func106 prog_mixed prog_lay fun C Fm=>?_
 unfold history_years at h
 refine AW.SG0 Fm 1 [(0,AL a)] [] ?_
 refine AW.SG Fm [.k (rE { v:=.v (.c (.own 6)),new:=some (.ext (mapP Tryz.prog 3 27 [])) }),.s] (fun K=>K 0∧True) [(0,AL a),(3,ow 6)] [(6,.ext (mapP Tryz.prog 3 27 ([]:List Int)))] ⟨KAt.mkMap (kT:=3) (eT:=27) rfl rfl (by kernel_rfl),⟨⟩⟩ ?_
 refine AW.join (r:=r) (fun z:(List (Int×(List Record)))=>history_years_k1 F z) (fun z=>[(3,ow 6)]) (fun z=>[(956,.exr [6] (grpP (α:=Record) z none))]) (fun i h=>?_) (fun E n=>?_)
 ·refine AW.SG0 Fm 2 [(2,ow 6)] [(956,.exr [6] (grpP (α:=Record) i none))] ?_
  refine AW.ret (Kn.r Fm [(2,ow 6)] [(956,.exr [6] (grpP (α:=Record) i none))] (by kernel_rfl) ?_)
  refine Kn.mpz (by kernel_rfl) ?_
  obtain rfl:=Option.some.inj h
  exact Kn.D Fm
 ·refine AW.SG0 Fm 3 [(3,ow 6),(7,AL a),(8,vi (lI a)),(9,vi 0)] [(6,.ext (mapP Tryz.prog 3 27 ([]:List Int)))] ?_
  refine AW.block (Kn.r Fm [(3,ow 6),(7,AL a),(8,vi (lI a)),(9,vi 0)] [(6,.ext (mapP Tryz.prog 3 27 ([]:List Int)))] (by kernel_rfl) ?_)
  refine Kn.grp0 Fm Record (g:=956) (by kernel_rfl) (by kernel_rfl) (by kernel_rfl) ?_
  refine Kn.r Fm [(3,ow 6),(7,AL a),(8,vi (lI a)),(9,vi 0)] [(956,.exr [6] (grpP (α:=Record) ([]:List (Int×(List Record))) none))] (by kernel_rfl) ?_
  refine AW.loopF (E' := fun z=>[(3,ow 6),(7,AL a),(8,vi (lI a)),(9,vi z.1)]) (S' := fun z=>[(956,.exr [6] (grpP (α:=Record) z.2 none))]) (fun H z B l h=>?_) h
  obtain ⟨b,e⟩:=z
  refine AW.SG0 Fm 1 [(3,ow 6),(7,AL a),(8,vi (lI a)),(9,vi b),(10,vb (decide (b<(lI a))))] [(956,.exr [6] (grpP (α:=Record) e none))] ?_
  refine AW.seq (AW.cN h (fun o h=>?_) (fun o h=>?_))
  ·refine AW.skip (AW.seq (AW.block ?_))
   obtain ⟨p,h⟩:=gS h
   refine AW.SP Fm [.s,.s,.s,.s] [(3,ow 6),(5,pt 5),(7,AL a),(8,vi (lI a)),(9,vi b)] [(5,bx [ci ((gl a b.toNat).year_),ci ((gl a b.toNat).crop_),.d (DL (α:=Rect) (gl a b.toNat).region_.rects_)]),(956,.exr [6] (grpP (α:=Record) e none))] (cT p) ?_
   obtain ⟨u,h⟩:=gS h
   refine AW.G Fm [.s,.s,.s,.s,.s,.s,.k (xE [956] { v:=.v (.c (.cp 956 (1+gIdx ((gl a b.toNat).year_) e))) }),.s,.w (AL (α:=Record) ([(gl a b.toNat)]:List Record)),.k (xE [956] { v:=.v (.c (.cp 22 (1+gIdx ((gl a b.toNat).year_) e))),del:=[956],new:=some (.exr [6] (grpP (α:=Record) (gApp ((gl a b.toNat).year_) ([(gl a b.toNat)]:List Record) e) (some (gIdx ((gl a b.toNat).year_) e)))) }),.k (xE [] { upd:=some (22,.exr [6] (grpP (α:=Record) (gApp ((gl a b.toNat).year_) ([(gl a b.toNat)]:List Record) e) none)) })] (fun K=>K 6∧(ALe (.v (.c (.d (.lst 1 (litF 3 [.int .i64 (gl a b.toNat).year_,.int .i64 (gl a b.toNat).crop_,DL (α:=Rect) (gl a b.toNat).region_.rects_]))))) (AL (α:=Record) ([(gl a b.toNat)]:List Record)))∧K 9∧K 10∧True) [(3,ow 6),(7,AL a),(8,vi (lI a)),(9,vi b)] [(22,.exr [6] (grpP (α:=Record) (gApp ((gl a b.toNat).year_) ([(gl a b.toNat)]:List Record) e) none))] ⟨KAt.gLook (α:=Record) (gs:=e) (base:=6) (g:=956) (t:=128) (kT:=3) (eT:=27) (y:=(gl a b.toNat).year_) (by kernel_rfl) (by kernel_rfl) Go.Proofs.Tryz.zeroValue27 rfl rfl (by kernel_rfl) (by kernel_rfl) (by kernel_rfl) (by kernel_rfl),ALe.lst (.lit ([(gl a b.toNat)]:List Record) (by kernel_rfl)),KAt.gApp (α:=Record) (gs:=e) (m:=([(gl a b.toNat)]:List Record)) (base:=6) (g:=956) (d:=22) (y:=(gl a b.toNat).year_) prog_lay slT27 rfl rfl rfl (by kernel_rfl) (by kernel_rfl) (by kernel_rfl) (by kernel_rfl) (by decide) (by kernel_rfl) u,(by obtain ⟨q,hq1,hq2⟩:=gApp_at (y:=(gl a b.toNat).year_) (gs:=e) (m:=_); exact KAt.gPut (α:=Record) (gs:=(gApp ((gl a b.toNat).year_) ([(gl a b.toNat)]:List Record) e)) (base:=6) (g:=22) (j:=gIdx ((gl a b.toNat).year_) e) (t:=128) (kT:=3) (eT:=27) (y:=(gl a b.toNat).year_) (by kernel_rfl) (by kernel_rfl) rfl rfl (by kernel_rfl) (by kernel_rfl) (by kernel_rfl) (by kernel_rfl) (by kernel_rfl) hq1 hq2),⟨⟩⟩ ?_
   obtain ⟨A,h⟩:=gS h
   refine AW.pN Fm [.s,.s] [(3,ow 6),(7,AL a),(8,vi (lI a)),(9,vi (b+1))] [(22,.exr [6] (grpP (α:=Record) (gApp ((gl a b.toNat).year_) ([(gl a b.toNat)]:List Record) e) none))] (cT (cT A)) ?_
   exact Kn.RE Fm [(956,22)] (l ((b+1),(gApp ((gl a b.toNat).year_) ([(gl a b.toNat)]:List Record) e)) h)
  ·exact AW.exit (Kn.R Fm (n e h))
theorem history_Check_1_spec {F:Nat} {b:Record} {a:Record} {r:Bool} (h:history_Check_1 F b a=some r) :
  FSpec Tryz.prog 107 [gE b,pt 0] [(0,.box true (gC a))] (vb r) [(0,.box true (gC a))]:=by
 refine FI Tryz.func107 prog_mixed prog_lay fun C Fm=>?_
 unfold history_Check_1 at h
 refine AW.SG0 Fm 2 [(1,pt 0),(2,pt 2)] [(0,.box true (gC a)),(2,bx (gC b))] ?_
 refine AW.seq ?_
 obtain ⟨c,d,h⟩:=bS h
 refine AW.G Fm [.s,.s,.s,.s,.k (cE [] [] (vb c) [] []),.s] (fun K=>K 4∧True) [(3,vb c)] [(0,.box true (gC a))] ⟨KAt.CC (region_Meets_spec d) Tryz.call108 [],⟨⟩⟩ ?_
 refine AW.ret ?_
 obtain rfl:=Option.some.inj h
 exact Kn.D Fm
theorem slices_IndexFunc_Record_spec {F:Nat} {a:(List Record)} {e:Record→Option Bool} {r:Int} (h:slices_IndexFunc_Record F a e=some r) :
  FSpec Tryz.prog 193 [AL a,.v (.c (.sem (CloOK Tryz.prog (FR_Record_Bool e))))] [] (vi r) []:=by
 refine FI Tryz.func193 prog_mixed prog_lay fun C Fm=>?_
 unfold slices_IndexFunc_Record at h
 refine AW.SG0 Fm 1 [(0,AL a),(1,.v (.c (.sem (CloOK Tryz.prog (FR_Record_Bool e)))))] [] ?_
 refine AW.join (r:=r) (fun z:Unit=>slices_IndexFunc_Record_k1 F) (fun z=>[]) (fun z=>[]) (fun z h=>?_) (fun u l=>?_)
 ·refine AW.SG0 Fm 1 [(4,vi (-1:Int))] [] ?_
  refine AW.ret ?_
  obtain rfl:=Option.some.inj h
  exact Kn.D Fm
 ·refine AW.SG0 Fm 3 [(0,AL a),(1,.v (.c (.sem (CloOK Tryz.prog (FR_Record_Bool e))))),(7,vi (lI a)),(8,vi 0)] [] ?_
  refine AW.block (AW.loopF (E' := fun z=>[(0,AL a),(1,.v (.c (.sem (CloOK Tryz.prog (FR_Record_Bool e))))),(7,vi (lI a)),(8,vi z)]) (S' := fun z=>[]) (fun w b t j h=>?_) h)
  refine AW.SG0 Fm 1 [(0,AL a),(1,.v (.c (.sem (CloOK Tryz.prog (FR_Record_Bool e))))),(7,vi (lI a)),(8,vi b),(9,vb (decide (b<(lI a))))] [] ?_
  refine AW.seq (AW.cN h (fun m h=>?_) (fun m h=>?_))
  ·refine AW.skip (AW.seq (AW.block (AW.SG0 Fm 2 [(0,AL a),(1,.v (.c (.sem (CloOK Tryz.prog (FR_Record_Bool e))))),(5,vi b),(7,vi (lI a)),(8,vi b)] [] ?_)))
   refine AW.seq ?_
   obtain ⟨o,h⟩:=gS h
   obtain ⟨i,q,h⟩:=bS h
   refine AW.G Fm [.s,.s,.s,.s,.s,.k (sE (vb i))] (fun K=>_∧K 5∧True) [(0,AL a),(1,.v (.c (.sem (CloOK Tryz.prog (FR_Record_Bool e))))),(5,vi b),(7,vi (lI a)),(8,vi b),(16,vb i)] [] ⟨o,KAt.sem (F:=(FR_Record_Bool e)) (args:=[.v (.g [ci ((gl a b.toNat).year_),ci ((gl a b.toNat).crop_),.d (DL (α:=Rect) (gl a b.toNat).region_.rects_)])]) ⟨(gl a b.toNat),i,q,rfl,rfl⟩ rfl (by kernel_rfl) (by kernel_rfl) (by kernel_rfl),⟨⟩⟩ ?_
   refine AW.cN h (fun n h=>?_) (fun n h=>?_)
   ·refine AW.SG0 Fm 2 [(4,vi b)] [] ?_
    refine AW.ret ?_
    obtain rfl:=Option.some.inj h
    exact Kn.D Fm
   ·refine AW.skip ?_
    obtain ⟨p,h⟩:=gS h
    refine AW.pN Fm [.s,.s] [(0,AL a),(1,.v (.c (.sem (CloOK Tryz.prog (FR_Record_Bool e))))),(7,vi (lI a)),(8,vi (b+1))] [] (cT (cT p)) ?_
    exact Kn.R Fm (j (b+1) h)
  ·exact AW.exit (Kn.R Fm (l () h))
theorem slices_ContainsFunc_Record_spec {F:Nat} {a:(List Record)} {b:Record→Option Bool} {r:Bool} (h:slices_ContainsFunc_Record F a b=some r) :
  FSpec Tryz.prog 101 [AL a,.v (.c (.sem (CloOK Tryz.prog (FR_Record_Bool b))))] [] (vb r) []:=by
 refine FI Tryz.func101 prog_mixed prog_lay fun C Fm=>?_
 unfold slices_ContainsFunc_Record at h
 refine AW.SG0 Fm 1 [(0,AL a),(1,.v (.c (.sem (CloOK Tryz.prog (FR_Record_Bool b)))))] [] ?_
 refine AW.seq ?_
 obtain ⟨d,e,h⟩:=bS h
 refine AW.G Fm [.s,.s,.k (cE [] [] (vi d) [] []),.s,.s] (fun K=>K 2∧True) [(4,vb (decide ((0:Int)≤d)))] [] ⟨KAt.callX (slices_IndexFunc_Record_spec e) Tryz.call193 [] [] [.tmp 5,.tmp 6] rfl (by kernel_rfl) (by kernel_rfl) (by kernel_rfl) ⟨.p,ArgT.semX (by kernel_rfl) (by kernel_rfl) (by kernel_rfl),⟨⟩⟩,⟨⟩⟩ ?_
 refine AW.ret ?_
 obtain rfl:=Option.some.inj h
 exact Kn.D Fm
theorem history_Check_spec {F:Nat} {a:(List Record)} {r:Int} (h:history_Check F a=some r) :
  FSpec Tryz.prog 18 [AL a] [] (vi r) []:=by
 refine FI Tryz.func18 prog_mixed prog_lay fun C Fm=>?_
 unfold history_Check at h
 refine AW.SG0 Fm 1 [(0,AL a)] [] ?_
 refine AW.seq (AW.SG0 Fm 3 [(0,AL a),(12,vb (decide ((200:Int)<(lI a))))] [] ?_)
 refine AW.cN h (fun U h=>?_) (fun U h=>?_)
 ·refine AW.SG0 Fm 1 [(2,vi 1)] [] ?_
  refine AW.ret ?_
  obtain rfl:=Option.some.inj h
  exact Kn.D Fm
 ·refine AW.skip (AW.join (r:=r) (fun z:Unit=>history_Check_k2 F a) (fun z=>[(0,AL a)]) (fun z=>[]) (fun z h=>?_) (fun s0 N=>?_))
  ·refine AW.join (r:=r) (fun z:Unit=>history_Check_k5 F) (fun z=>[]) (fun z=>[]) (fun z h=>?_) (fun w0 T=>?_)
   ·refine AW.SG0 Fm 1 [(2,vi 0)] [] ?_
    refine AW.ret ?_
    obtain rfl:=Option.some.inj h
    exact Kn.D Fm
   ·refine AW.seq ?_
    obtain ⟨u,n0,h⟩:=bS h
    refine AW.G Fm [.s,.k (cE [] [] (.v (.c (.d (MP (α:=Record) u)))) [] []),.k (rE { v:=.v (.c (.own 40)),new:=some (.ext (itP (α:=Record) u none)) })] (fun K=>K 1∧K 2∧True) [(40,ow 40)] [(40,.ext (itP (α:=Record) u none))] ⟨KAt.CC (history_years_spec n0) Tryz.call106 [],KAt.range (α:=Record) (gs:=u) (t:=128) (kT:=3) (eT:=27) (d:=40) (by kernel_rfl) rfl rfl (by kernel_rfl) (by kernel_rfl),⟨⟩⟩ ?_
    refine AW.block (AW.loopF (E' := fun z=>[(40,ow 40)]) (S' := fun z=>[(40,.ext (itP (α:=Record) z none))]) (fun A0 H t0 O h=>?_) h)
    refine AW.seq (Kn.r Fm [(40,ow 40)] [(40,.ext (itP (α:=Record) H none))] (by kernel_rfl) ?_)
    refine AW.nextM (by kernel_rfl) (by kernel_rfl) (by kernel_rfl) (fun e0=>?_) (fun e m i0=>?_)
    ·have h:=nextM_stop h e0
     refine Kn.r Fm [(40,ow 40),(42,vb false)] [(40,.ext (itP (α:=Record) H none))] (by kernel_rfl) ?_
     refine AW.seq (AW.cond (b:=false) (by kernel_rfl) (fun hb=>by cases hb) (fun _=>?_))
     exact AW.exit (Kn.R Fm (T () h))
    ·have h:=nextM_go h i0
     refine Kn.r Fm [(40,ow 40),(42,vb true)] [(40,.ext (itP (α:=Record) m (some e)))] (by kernel_rfl) ?_
     refine AW.seq (AW.cond (b:=true) (by kernel_rfl) (fun _=>?_) (fun hb=>by cases hb))
     refine AW.skip (AW.block (AW.SG Fm [.k (rE { v:=.t [.c (ci e.1),.c (.d (DL e.2))] }),.s,.s] (fun K=>K 0∧True) [(7,AL e.2),(40,ow 40)] [(40,.ext (itP (α:=Record) m (some e)))] ⟨KAt.entry (α:=Record) (gs:=m) (q:=e) (id:=40) rfl rfl (by kernel_rfl) (by kernel_rfl) (by kernel_rfl),⟨⟩⟩ ?_))
     refine AW.SG0 Fm 3 [(7,AL e.2),(40,ow 40),(45,AL e.2),(46,vi (lI e.2)),(47,vi 0)] [(40,.ext (itP (α:=Record) m (some e)))] ?_
     refine AW.block (Kn.r Fm [(7,AL e.2),(40,ow 40),(45,AL e.2),(46,vi (lI e.2)),(47,vi 0)] [(40,.ext (itP (α:=Record) m (some e)))] (by kernel_rfl) ?_)
     refine Kn.wk [(7,AL e.2),(40,ow 40),(45,AL e.2),(46,vi (lI e.2)),(47,vi 0)] [(40,.ext (itP (α:=Record) m none))] ⟨rfl,ALe.c (CLe.refl _),⟨rfl,ALe.c (CLe.refl _),⟨rfl,ALe.c (CLe.refl _),⟨rfl,ALe.c (CLe.refl _),⟨rfl,ALe.c (CLe.refl _),⟨⟩⟩⟩⟩⟩⟩ ⟨rfl,itP_none _ _,⟨⟩⟩ ?_
     refine AW.loopF (E' := fun z=>[(7,AL e.2),(40,ow 40),(45,AL e.2),(46,vi (lI e.2)),(47,vi z)]) (S' := fun z=>[(40,.ext (itP (α:=Record) m none))]) (fun B0 l u0 P h=>?_) h
     refine AW.SG0 Fm 1 [(7,AL e.2),(40,ow 40),(45,AL e.2),(46,vi (lI e.2)),(47,vi l),(48,vb (decide (l<(lI e.2))))] [(40,.ext (itP (α:=Record) m none))] ?_
     refine AW.seq (AW.cN h (fun Y h=>?_) (fun Y h=>?_))
     ·refine AW.skip (AW.seq (AW.block ?_))
      obtain ⟨j0,h⟩:=gS h
      refine AW.SP Fm [.s,.s,.s,.s,.s,.s] [(7,AL e.2),(8,vi l),(9,pt 9),(40,ow 40),(45,AL e.2),(46,vi (lI e.2)),(47,vi l)] [(9,bx [ci ((gl e.2 l.toNat).year_),ci ((gl e.2 l.toNat).crop_),.d (DL (α:=Rect) (gl e.2 l.toNat).region_.rects_)]),(40,.ext (itP (α:=Record) m none))] (cT j0) ?_
      refine AW.seq ?_
      obtain ⟨E,h⟩:=gS h
      obtain ⟨I,o0,h⟩:=bS h
      refine AW.G Fm [.s,.s,.w (AL (α:=Record) (e.2.take l.toNat)),.s,.k (cE [] [9] (vb I) [] [])] (fun K=>(((sl (List.length e.2) (LF e.2) none (some l)).2∧∀ j,j<List.length e.2→(LF e.2 j).length=3))∧(ALe (.v (.c (.d (.lst (sl (List.length e.2) (LF e.2) none (some l)).1.1 (sl (List.length e.2) (LF e.2) none (some l)).1.2)))) (AL (α:=Record) (e.2.take l.toNat)))∧K 4∧True) [(7,AL e.2),(40,ow 40),(45,AL e.2),(46,vi (lI e.2)),(47,vi l),(56,vb I)] [(40,.ext (itP (α:=Record) m none))] ⟨⟨E,(Is.refl e.2).len⟩,ALe.lst (sl_is e.2 none (some l) E),KAt.callX (slices_ContainsFunc_Record_spec o0) Tryz.call101 [] [9] [.tmp 54,.tmp 55] rfl (by kernel_rfl) (by kernel_rfl) (by kernel_rfl) ⟨.p,ArgT.cloX Tryz.call107 [[ci ((gl e.2 l.toNat).year_),ci ((gl e.2 l.toNat).crop_),.d (DL (α:=Rect) (gl e.2 l.toNat).region_.rects_)]] (fun args r hq=>by obtain ⟨y0,y,hq,rfl,rfl⟩:=hq; exact Eq.mp (by kernel_rfl) (history_Check_1_spec hq)) (fun args r hq=>by obtain ⟨y0,y,hq,rfl,rfl⟩:=hq; rfl) (by kernel_rfl) [9] (by kernel_rfl) (by kernel_rfl) (⟨⟨false,(by kernel_rfl)⟩,⟨⟩⟩) (by kernel_rfl),⟨⟩⟩,⟨⟩⟩ ?_
      refine AW.cN h (fun Z h=>?_) (fun Z h=>?_)
      ·refine AW.SG0 Fm 1 [(2,vi 11)] [] ?_
       refine AW.ret ?_
       obtain rfl:=Option.some.inj h
       exact Kn.D Fm
      ·refine AW.skip ?_
       obtain ⟨k0,h⟩:=gS h
       refine AW.pN Fm [.s,.s] [(7,AL e.2),(40,ow 40),(45,AL e.2),(46,vi (lI e.2)),(47,vi (l+1))] [(40,.ext (itP (α:=Record) m none))] (cT (cT k0)) ?_
       exact Kn.R Fm (P (l+1) h)
     ·exact AW.exit (Kn.R Fm (O m h))
  ·refine AW.SG0 Fm 3 [(0,AL a),(13,AL a),(14,vi (lI a)),(15,vi 0)] [] ?_
   refine AW.block (AW.loopF (E' := fun z=>[(0,AL a),(13,AL a),(14,vi (lI a)),(15,vi z)]) (S' := fun z=>[]) (fun L i p0 M h=>?_) h)
   refine AW.SG0 Fm 1 [(0,AL a),(13,AL a),(14,vi (lI a)),(15,vi i),(16,vb (decide (i<(lI a))))] [] ?_
   refine AW.seq (AW.cN h (fun V h=>?_) (fun V h=>?_))
   ·refine AW.skip (AW.seq (AW.block ?_))
    obtain ⟨a0,h⟩:=gS h
    refine AW.SP Fm [.s,.s,.s,.s,.s,.s] [(0,AL a),(3,vi i),(4,pt 4),(13,AL a),(14,vi (lI a)),(15,vi i)] [(4,bx [ci ((gl a i.toNat).year_),ci ((gl a i.toNat).crop_),.d (DL (α:=Rect) (gl a i.toNat).region_.rects_)])] (cT a0) ?_
    refine AW.seq (AW.seq ?_)
    obtain ⟨n,l0,h⟩:=bS h
    refine AW.G Fm [.s,.k (cE [] [] (vi n) [] []),.s] (fun K=>K 1∧True) [(0,AL a),(3,vi i),(4,pt 4),(5,vi n),(13,AL a),(14,vi (lI a)),(15,vi i)] [(4,bx [ci ((gl a i.toNat).year_),ci ((gl a i.toNat).crop_),.d (DL (α:=Rect) (gl a i.toNat).region_.rects_)])] ⟨KAt.CC (history_single_spec l0) Tryz.call105 [],⟨⟩⟩ ?_
    refine AW.SG0 Fm 2 [(0,AL a),(3,vi i),(4,pt 4),(5,vi n),(13,AL a),(14,vi (lI a)),(15,vi i),(23,vb (n != (0:Int)))] [(4,bx [ci ((gl a i.toNat).year_),ci ((gl a i.toNat).crop_),.d (DL (α:=Rect) (gl a i.toNat).region_.rects_)])] ?_
    refine AW.cN h (fun W h=>?_) (fun W h=>?_)
    ·refine AW.SG0 Fm 2 [(2,vi n)] [] ?_
     refine AW.ret ?_
     obtain rfl:=Option.some.inj h
     exact Kn.D Fm
    ·refine AW.skip (AW.join (r:=r) (fun z:Bool=>history_Check_k1 F i L z) (fun z=>[(0,AL a),(13,AL a),(14,vi (lI a)),(15,vi i),(36,vb z)]) (fun z=>[]) (fun D0 h=>?_) (fun q0 B=>?_))
     ·refine AW.cN h (fun X h=>?_) (fun X h=>?_)
      ·refine AW.SG0 Fm 1 [(2,vi 3)] [] ?_
       refine AW.ret ?_
       obtain rfl:=Option.some.inj h
       exact Kn.D Fm
      ·refine AW.skip ?_
       obtain ⟨d0,h⟩:=gS h
       refine AW.pN Fm [.s,.s] [(0,AL a),(13,AL a),(14,vi (lI a)),(15,vi (i+1))] [] (cT (cT d0)) ?_
       exact Kn.R Fm (M (i+1) h)
     ·rcases br_or h with ⟨A,h⟩|⟨A,h⟩
      ·obtain ⟨b0,c0,h⟩:=gS2 h
       obtain ⟨o,m0,h⟩:=bS h
       refine AW.G Fm [.s,.s,.w (vb true),.s,.s,.s,.s,.s,.s,.k (cE [] [] (vi o) [] []),.s,.s] (fun K=>_∧(_∧True)∧_∧K 9∧True) [(0,AL a),(13,AL a),(14,vi (lI a)),(15,vi i),(28,AL a),(29,vi i),(30,vi (i-1)),(31,.v (.c (.elm [.int .i64 (gl a (i-1).toNat).year_,.int .i64 (gl a (i-1).toNat).crop_,DL (α:=Rect) (gl a (i-1).toNat).region_.rects_]))),(32,.v (.g [ci ((gl a (i-1).toNat).year_),ci ((gl a (i-1).toNat).crop_),.d (DL (α:=Rect) (gl a (i-1).toNat).region_.rects_)])),(33,.v (.g [ci ((gl a i.toNat).year_),ci ((gl a i.toNat).crop_),.d (DL (α:=Rect) (gl a i.toNat).region_.rects_)])),(34,vi o),(35,vb (decide ((0:Int)≤o))),(36,vb (decide ((0:Int)≤o)))] [] ⟨ALe.bool A,⟨b0,⟨⟩⟩,c0,KAt.CC (history_compare_spec m0) Tryz.call104 [],⟨⟩⟩ ?_
       exact Kn.R Fm (B (decide ((0:Int)≤o)) h)
      ·refine AW.pN Fm [.s,.s,.w (vb false),.s,.s,.s,.s,.s,.s,.s,.s,.s] [(0,AL a),(13,AL a),(14,vi (lI a)),(15,vi i),(36,vb false)] [] (cT (ALe.bool A)) ?_
       exact Kn.R Fm (B false h)
   ·exact AW.exit (Kn.R Fm (N () h))
theorem history_Listed_1_spec {F:Nat} {b:Record} {a:(List Crop)} {r:Bool} (h:history_Listed_1 F b a=some r) :
  FSpec Tryz.prog 206 [gE b,pt 0] [(0,.box true [.d (DL a)])] (vb r) [(0,.box true [.d (DL a)])]:=by
 refine FI Tryz.func206 prog_mixed prog_lay fun C Fm=>?_
 unfold history_Listed_1 at h
 refine AW.SG0 Fm 2 [(1,pt 0),(2,pt 2)] [(0,.box true [.d (DL a)]),(2,bx (gC b))] ?_
 refine AW.SG0 Fm 6 [(3,vb (decide ((lI a)≤b.crop_)))] [(0,.box true [.d (DL a)])] ?_
 refine AW.ret ?_
 obtain rfl:=Option.some.inj h
 exact Kn.D Fm
theorem history_Listed_spec {F:Nat} {b:(List Record)} {a:(List Crop)} {r:Int} (h:history_Listed F b a=some r) :
  FSpec Tryz.prog 121 [AL b,AL a] [] (vi r) []:=by
 refine FI Tryz.func121 prog_mixed prog_lay fun C Fm=>?_
 unfold history_Listed at h
 refine AW.SG0 Fm 2 [(0,AL b),(3,pt 3)] [(3,bx [.d (DL a)])] ?_
 refine AW.seq (AW.seq ?_)
 obtain ⟨c,n,h⟩:=bS h
 refine AW.G Fm [.s,.k (cE [] [] (vi c) [] []),.s] (fun K=>K 1∧True) [(0,AL b),(3,pt 3),(5,vi c)] [(3,bx [.d (DL a)])] ⟨KAt.CC (history_Check_spec n) Tryz.call18 [],⟨⟩⟩ ?_
 refine AW.SG0 Fm 2 [(0,AL b),(3,pt 3),(5,vi c),(10,vb (c != (0:Int)))] [(3,bx [.d (DL a)])] ?_
 refine AW.cN h (fun j h=>?_) (fun j h=>?_)
 ·refine AW.SG0 Fm 2 [(4,vi c)] [] ?_
  refine AW.ret ?_
  obtain rfl:=Option.some.inj h
  exact Kn.D Fm
 ·refine AW.skip (AW.seq (AW.seq ?_))
  obtain ⟨e,o,h⟩:=bS h
  refine AW.G Fm [.s,.k (cE [] [] (vi e) [] []),.s] (fun K=>K 1∧True) [(0,AL b),(3,pt 3),(6,vi e)] [(3,bx [.d (DL a)])] ⟨KAt.CC (crop_Check_spec o) Tryz.call205 [],⟨⟩⟩ ?_
  refine AW.SG0 Fm 2 [(0,AL b),(3,pt 3),(6,vi e),(15,vb (e != (0:Int)))] [(3,bx [.d (DL a)])] ?_
  refine AW.cN h (fun l h=>?_) (fun l h=>?_)
  ·refine AW.SG0 Fm 2 [(4,vi e)] [] ?_
   refine AW.ret ?_
   obtain rfl:=Option.some.inj h
   exact Kn.D Fm
  ·refine AW.skip (AW.seq (AW.seq ?_))
   obtain ⟨i,q,h⟩:=bS h
   refine AW.G Fm [.s,.s,.k (cE [] [3] (vb i) [] [])] (fun K=>K 2∧True) [(19,vb i)] [] ⟨KAt.callX (slices_ContainsFunc_Record_spec q) Tryz.call101 [] [3] [.tmp 17,.tmp 18] rfl (by kernel_rfl) (by kernel_rfl) (by kernel_rfl) ⟨.p,ArgT.cloX Tryz.call206 [[.d (DL a)]] (fun args r hq=>by obtain ⟨y0,y,hq,rfl,rfl⟩:=hq; exact Eq.mp (by kernel_rfl) (history_Listed_1_spec hq)) (fun args r hq=>by obtain ⟨y0,y,hq,rfl,rfl⟩:=hq; rfl) (by kernel_rfl) [3] (by kernel_rfl) (by kernel_rfl) (⟨⟨false,(by kernel_rfl)⟩,⟨⟩⟩) (by kernel_rfl),⟨⟩⟩,⟨⟩⟩ ?_
   refine AW.cN h (fun m h=>?_) (fun m h=>?_)
   ·refine AW.SG0 Fm 1 [(4,vi 13)] [] ?_
    refine AW.ret ?_
    obtain rfl:=Option.some.inj h
    exact Kn.D Fm
   ·refine AW.skip (AW.SG0 Fm 1 [(4,vi 0)] [] ?_)
    refine AW.ret ?_
    obtain rfl:=Option.some.inj h
    exact Kn.D Fm
theorem rotation_start_spec {F:Nat} {q:(List Line)} {e:(List Crop)} {i:(List Record)} {c:Int} {b:Int} {a:Int} {r:Int} (h:rotation_start F q e i c b a=some r) :
  FSpec Tryz.prog 172 [AL q,AL e,AL i,vi c,vi b,vi a] [] (vi r) []:=by
 refine FI Tryz.func172 prog_mixed prog_lay fun C Fm=>?_
 unfold rotation_start at h
 refine AW.SG0 Fm 1 [(0,AL q),(1,AL e),(2,AL i),(3,vi c),(4,vi b),(5,vi a)] [] ?_
 refine AW.seq (AW.seq ?_)
 obtain ⟨j,E,h⟩:=bS h
 refine AW.G Fm [.s,.s,.k (cE [] [] (vi j) [] []),.s] (fun K=>K 2∧True) [(1,AL e),(2,AL i),(3,vi c),(4,vi b),(5,vi a),(13,vi j)] [] ⟨KAt.CC (rotation_check_spec E) Tryz.call167 [],⟨⟩⟩ ?_
 refine AW.SG0 Fm 2 [(1,AL e),(2,AL i),(3,vi c),(4,vi b),(5,vi a),(13,vi j),(19,vb (j != (0:Int)))] [] ?_
 refine AW.cN h (fun u h=>?_) (fun u h=>?_)
 ·refine AW.SG0 Fm 2 [(12,vi j)] [] ?_
  refine AW.ret ?_
  obtain rfl:=Option.some.inj h
  exact Kn.D Fm
 ·refine AW.skip (AW.seq (AW.seq ?_))
  obtain ⟨l,H,h⟩:=bS h
  refine AW.G Fm [.s,.s,.k (cE [] [] (vi l) [] []),.s] (fun K=>K 2∧True) [(3,vi c),(4,vi b),(5,vi a),(14,vi l)] [] ⟨KAt.CC (history_Listed_spec H) Tryz.call121 [],⟨⟩⟩ ?_
  refine AW.SG0 Fm 2 [(3,vi c),(4,vi b),(5,vi a),(14,vi l),(25,vb (l != (0:Int)))] [] ?_
  refine AW.cN h (fun y h=>?_) (fun y h=>?_)
  ·refine AW.SG0 Fm 2 [(12,vi l)] [] ?_
   refine AW.ret ?_
   obtain rfl:=Option.some.inj h
   exact Kn.D Fm
  ·refine AW.skip (AW.seq (AW.block (AW.join (r:=r) (fun z:Bool=>rotation_start_k0 F b a z) (fun z=>[(4,vi b),(5,vi a),(27,vb z)]) (fun z=>[]) (fun M h=>?_) (fun I t=>?_))))
   ·refine AW.cN h (fun A h=>?_) (fun A h=>?_)
    ·refine AW.SG0 Fm 1 [(12,vi 18)] [] ?_
     refine AW.ret ?_
     obtain rfl:=Option.some.inj h
     exact Kn.D Fm
    ·refine AW.join (r:=r) (fun z:Bool=>rotation_start_k1 F z) (fun z=>[(34,vb z)]) (fun z=>[]) (fun N h=>?_) (fun L m=>?_)
     ·refine AW.cN h (fun B h=>?_) (fun B h=>?_)
      ·refine AW.SG0 Fm 1 [(12,vi 2)] [] ?_
       refine AW.ret ?_
       obtain rfl:=Option.some.inj h
       exact Kn.D Fm
      ·refine AW.skip (AW.SG0 Fm 1 [(12,vi 0)] [] ?_)
       refine AW.ret ?_
       obtain rfl:=Option.some.inj h
       exact Kn.D Fm
     ·rcases br_or h with ⟨d,h⟩|⟨d,h⟩
      ·refine AW.pN Fm [.s,.s,.w (vb true),.s,.s,.s,.s,.s,.s,.s,.s,.s,.s,.s,.s] [(34,vb true)] [] (cT (ALe.bool d)) ?_
       exact Kn.R Fm (m true h)
      ·rcases br_or h with ⟨n,h⟩|⟨n,h⟩
       ·refine AW.pN Fm [.s,.s,.w (vb false),.s,.s,.s,.w (vb true),.s,.s,.s,.s,.s,.s,.s,.s] [(34,vb true)] [] (cA (ALe.bool d) (cT (ALe.bool n))) ?_
        exact Kn.R Fm (m true h)
       ·rcases br_or h with ⟨p,h⟩|⟨p,h⟩
        ·refine AW.pN Fm [.s,.s,.w (vb false),.s,.s,.s,.w (vb false),.s,.s,.s,.w (vb true),.s,.s,.s,.s] [(34,vb true)] [] (cA (ALe.bool d) (cA (ALe.bool n) (cT (ALe.bool p)))) ?_
         exact Kn.R Fm (m true h)
        ·refine AW.pN Fm [.s,.s,.w (vb false),.s,.s,.s,.w (vb false),.s,.s,.s,.w (vb false),.s,.s,.s,.s] [(34,vb (decide ((1000000:Int)<a)))] [] (cA (ALe.bool d) (cA (ALe.bool n) (cT (ALe.bool p)))) ?_
         exact Kn.R Fm (m (decide ((1000000:Int)<a)) h)
   ·rcases br_or h with ⟨o,h⟩|⟨o,h⟩
    ·refine AW.pN Fm [.s,.s,.w (vb true),.s,.s,.s,.s] [(4,vi b),(5,vi a),(27,vb true)] [] (cT (ALe.bool o)) ?_
     exact Kn.R Fm (t true h)
    ·refine AW.pN Fm [.s,.s,.w (vb false),.s,.s,.s,.s] [(4,vi b),(5,vi a),(27,vb (decide ((100:Int)<c)))] [] (cT (ALe.bool o)) ?_
     exact Kn.R Fm (t (decide ((100:Int)<c)) h)
theorem history_Kept_1_spec {F:Nat} {c:Int} {a:(List Crop)} {b:Int} {r:Bool} (h:history_Kept_1 F c a b=some r) :
  FSpec Tryz.prog 208 [vi c,pt 0,pt 1] [(0,.box true [.d (DL a)]),(1,.box true [ci b])] (vb r) [(0,.box true [.d (DL a)]),(1,.box true [ci b])]:=by
 refine FI Tryz.func208 prog_mixed prog_lay fun C Fm=>?_
 unfold history_Kept_1 at h
 refine AW.SG0 Fm 1 [(0,vi c),(1,pt 0),(2,pt 1)] [(0,.box true [.d (DL a)]),(1,.box true [ci b])] ?_
 obtain ⟨e,h⟩:=gS h
 refine AW.SP Fm [.s,.s,.s,.s,.s,.s,.s,.s] [(4,vb (((gl a c.toNat).family_)==b))] [(0,.box true [.d (DL a)]),(1,.box true [ci b])] (cT e) ?_
 refine AW.ret ?_
 obtain rfl:=Option.some.inj h
 exact Kn.D Fm
theorem history_Rects_spec {F:Nat} {a:(List Record)} {i:Int} {e:Int→Option Bool} {r:(List Rect)} (h:history_Rects F a i e=some r) :
  FSpec Tryz.prog 114 [AL a,vi i,.v (.c (.sem (CloOK Tryz.prog (FR_Int_Bool e))))] [] (AL (α:=Rect) r) []:=by
 refine FI Tryz.func114 prog_mixed prog_lay fun C Fm=>?_
 unfold history_Rects at h
 refine AW.SG0 Fm 1 [(0,AL a),(1,vi i),(2,.v (.c (.sem (CloOK Tryz.prog (FR_Int_Bool e)))))] [] ?_
 refine AW.SW Fm [.m] (fun K=>True) [(0,AL a),(1,vi i),(2,.v (.c (.sem (CloOK Tryz.prog (FR_Int_Bool e))))),(7,ow 7)] [(7,AO (α:=Rect) ([]:List Rect))] True.intro [(7,.arr 4 (0) (fun _=>[]))] ⟨OLe.is ((Is.nil (α:=Rect))),⟨⟩⟩ ?_
 refine AW.join (r:=r) (fun z:(List Rect)=>history_Rects_k3 F z) (fun z=>[(7,ow 7)]) (fun z=>[(7,AO z)]) (fun o h=>?_) (fun T A=>?_)
 ·refine AW.SG0 Fm 2 [(6,ow 7)] [(7,AO o)] ?_
  refine AW.ret ?_
  obtain rfl:=Option.some.inj h
  refine Kn.r Fm [(6,ow 7)] [(7,AO o)] (by kernel_rfl) ?_
  refine Kn.frz [(6,AL o)] [] (by kernel_rfl) (by kernel_rfl) (by kernel_rfl) ?_
  exact Kn.D Fm
 ·refine AW.SG0 Fm 3 [(1,vi i),(2,.v (.c (.sem (CloOK Tryz.prog (FR_Int_Bool e))))),(7,ow 7),(10,AL a),(11,vi (lI a)),(12,vi 0)] [(7,AO (α:=Rect) ([]:List Rect))] ?_
  refine AW.block (Kn.r Fm [(1,vi i),(2,.v (.c (.sem (CloOK Tryz.prog (FR_Int_Bool e))))),(7,ow 7),(10,AL a),(11,vi (lI a)),(12,vi 0)] [(7,AO ([]:List Rect))] (by kernel_rfl) ?_)
  refine AW.loopF (E' := fun z=>[(1,vi i),(2,.v (.c (.sem (CloOK Tryz.prog (FR_Int_Bool e))))),(7,ow 7),(10,AL a),(11,vi (lI a)),(12,vi z.1)]) (S' := fun z=>[(7,AO z.2)]) (fun p z N y h=>?_) h
  obtain ⟨b,j⟩:=z
  refine AW.SG0 Fm 1 [(1,vi i),(2,.v (.c (.sem (CloOK Tryz.prog (FR_Int_Bool e))))),(7,ow 7),(10,AL a),(11,vi (lI a)),(12,vi b),(13,vb (decide (b<(lI a))))] [(7,AO j)] ?_
  refine AW.seq (AW.cN h (fun B h=>?_) (fun B h=>?_))
  ·refine AW.skip (AW.join (r:=r) (fun z:(List Rect)=>history_Rects_k2 F b p z) (fun z=>[(1,vi i),(2,.v (.c (.sem (CloOK Tryz.prog (FR_Int_Bool e))))),(7,ow 30),(10,AL a),(11,vi (lI a)),(12,vi b)]) (fun z=>[(30,AO z)]) (fun u h=>?_) (fun P t=>?_))
   ·obtain ⟨L,h⟩:=gS h
    refine AW.pN Fm [.s,.s] [(1,vi i),(2,.v (.c (.sem (CloOK Tryz.prog (FR_Int_Bool e))))),(7,ow 30),(10,AL a),(11,vi (lI a)),(12,vi (b+1))] [(30,AO u)] (cT (cT L)) ?_
    exact Kn.RE Fm [(7,30)] (y ((b+1),u) h)
   ·refine AW.block ?_
    obtain ⟨H,h⟩:=gS h
    refine AW.SP Fm [.s,.s,.s,.s] [(1,vi i),(2,.v (.c (.sem (CloOK Tryz.prog (FR_Int_Bool e))))),(7,ow 7),(9,pt 9),(10,AL a),(11,vi (lI a)),(12,vi b)] [(7,AO j),(9,bx [ci ((gl a b.toNat).year_),ci ((gl a b.toNat).crop_),.d (DL (α:=Rect) (gl a b.toNat).region_.rects_)])] (cT H) ?_
    refine AW.join (r:=r) (fun z:Bool=>history_Rects_k1 F a b j p z) (fun z=>[(1,vi i),(2,.v (.c (.sem (CloOK Tryz.prog (FR_Int_Bool e))))),(7,ow 7),(9,pt 9),(10,AL a),(11,vi (lI a)),(12,vi b),(25,vb z)]) (fun z=>[(7,AO j),(9,bx [ci ((gl a b.toNat).year_),ci ((gl a b.toNat).crop_),.d (DL (α:=Rect) (gl a b.toNat).region_.rects_)])]) (fun U h=>?_) (fun O q=>?_)
    ·refine AW.cN h (fun E h=>?_) (fun E h=>?_)
     ·obtain ⟨I,h⟩:=gS h
      refine AW.WP Fm [.s,.s,.s,.s,.s,.s] [(1,vi i),(2,.v (.c (.sem (CloOK Tryz.prog (FR_Int_Bool e))))),(7,ow 30),(10,AL a),(11,vi (lI a)),(12,vi b)] [(30,AO (α:=Rect) (j++((gl a b.toNat).region_.rects_)))] (cT (cA I (cT (Is.refl ((gl a b.toNat).region_.rects_):Is (List.length (α:=Rect) ((gl a b.toNat).region_.rects_)) (LF (α:=Rect) ((gl a b.toNat).region_.rects_)) ((gl a b.toNat).region_.rects_)).len))) [(30,.arr 4 ((List.length (α:=Rect) j)+(List.length (α:=Rect) ((gl a b.toNat).region_.rects_))) (appF (List.length (α:=Rect) j) (LF (α:=Rect) j) (LF (α:=Rect) ((gl a b.toNat).region_.rects_))))] ⟨OLe.is (Is.app (Is.refl j) (Is.refl ((gl a b.toNat).region_.rects_))),⟨⟩⟩ ?_
      exact Kn.R Fm (t (j++((gl a b.toNat).region_.rects_)) h)
     ·exact AW.skip (Kn.RE Fm [(30,7)] (t j h))
    ·rcases br_or h with ⟨n,h⟩|⟨n,h⟩
     ·obtain ⟨l,M,h⟩:=bS h
      refine AW.G Fm [.s,.s,.s,.s,.w (vb true),.s,.s,.s,.k (sE (vb l)),.s] (fun K=>_∧K 8∧True) [(1,vi i),(2,.v (.c (.sem (CloOK Tryz.prog (FR_Int_Bool e))))),(7,ow 7),(9,pt 9),(10,AL a),(11,vi (lI a)),(12,vi b),(21,.v (.c (.sem (CloOK Tryz.prog (FR_Int_Bool e))))),(22,.v (.c (.ptr 9 1))),(23,vi (gl a b.toNat).crop_),(24,vb l),(25,vb l)] [(7,AO j),(9,bx [ci ((gl a b.toNat).year_),ci ((gl a b.toNat).crop_),.d (DL (α:=Rect) (gl a b.toNat).region_.rects_)])] ⟨ALe.bool n,KAt.sem (F:=(FR_Int_Bool e)) (args:=[vi (gl a b.toNat).crop_]) ⟨((gl a b.toNat).crop_),l,M,rfl,rfl⟩ rfl (by kernel_rfl) (by kernel_rfl) (by kernel_rfl),⟨⟩⟩ ?_
      exact Kn.R Fm (q l h)
     ·refine AW.pN Fm [.s,.s,.s,.s,.w (vb false),.s,.s,.s,.s,.s] [(1,vi i),(2,.v (.c (.sem (CloOK Tryz.prog (FR_Int_Bool e))))),(7,ow 7),(9,pt 9),(10,AL a),(11,vi (lI a)),(12,vi b),(25,vb false)] [(7,AO j),(9,bx [ci ((gl a b.toNat).year_),ci ((gl a b.toNat).crop_),.d (DL (α:=Rect) (gl a b.toNat).region_.rects_)])] (cT (ALe.bool n)) ?_
      exact Kn.R Fm (q false h)
  ·exact AW.exit (Kn.R Fm (A j h))
theorem slices_Concat_Span_spec {F:Nat} {a:(List (List Span))} {r:(List Span)} (h:slices_Concat_Span F a=some r) :
  FSpec Tryz.prog 242 [AL a] [] (ow 100) [(100,AO (α:=Span) r)]:=by
 refine FI Tryz.func242 prog_mixed prog_lay fun C Fm=>?_
 unfold slices_Concat_Span at h
 refine AW.SG Fm [.m] (fun K=>True) [(0,AL a)] [] True.intro ?_
 refine AW.SG0 Fm 1 [(0,AL a),(3,vi 0)] [] ?_
 refine AW.join (r:=r) (fun z:Int=>slices_Concat_Span_k1 F a z) (fun z=>[(0,AL a),(3,vi z)]) (fun z=>[]) (fun T h=>?_) (fun L n=>?_)
 ·refine AW.seq ?_
  obtain ⟨i,H,h⟩:=bS h
  refine AW.G Fm [.s,.k (cE [(100,24)] [] (ow 100) [] [(100,AO i)]),.s] (fun K=>K 1∧True) [(0,AL a),(6,ow 24)] [(24,AO i)] ⟨KAt.CC (growN_spec H) Tryz.call284 [(100,24)],⟨⟩⟩ ?_
  refine AW.join (r:=r) (fun z:(List Span)=>slices_Concat_Span_k3 F z) (fun z=>[(6,ow 24)]) (fun z=>[(24,AO z)]) (fun j h=>?_) (fun N p=>?_)
  ·refine AW.SG0 Fm 2 [(2,ow 24)] [(24,AO j)] ?_
   refine AW.ret ?_
   obtain rfl:=Option.some.inj h
   exact Kn.re Fm [(100,24)] [(2,ow 100)] [(100,AO j)] (by kernel_rfl) (by kernel_rfl) (by kernel_rfl) (by kernel_rfl) (Kn.dn Fm (by kernel_rfl))
  ·refine AW.SG0 Fm 3 [(6,ow 24),(25,AL a),(26,vi (lI a)),(27,vi 0)] [(24,AO i)] ?_
   refine AW.block (AW.loopF (E' := fun z=>[(6,ow 24),(25,AL a),(26,vi (lI a)),(27,vi z.1)]) (S' := fun z=>[(24,AO z.2)]) (fun P z M o h=>?_) h)
   obtain ⟨b,d⟩:=z
   refine AW.SG0 Fm 1 [(6,ow 24),(25,AL a),(26,vi (lI a)),(27,vi b),(28,vb (decide (b<(lI a))))] [(24,AO d)] ?_
   refine AW.seq (AW.cN h (fun u h=>?_) (fun u h=>?_))
   ·refine AW.skip (AW.seq (AW.block ?_))
    obtain ⟨B,h⟩:=gS h
    refine AW.SP Fm [.s,.s,.s] [(6,ow 24),(8,AL (α:=Span) (gl a b.toNat)),(25,AL a),(26,vi (lI a)),(27,vi b)] [(24,AO d)] (cT B) ?_
    obtain ⟨D,h⟩:=gS h
    refine AW.WP Fm [.s,.s,.s,.s] [(6,ow 33),(25,AL a),(26,vi (lI a)),(27,vi b)] [(33,AO (α:=Span) (d++(gl a b.toNat)))] (cT (cA D (cT (Is.refl (gl a b.toNat):Is (List.length (α:=Span) (gl a b.toNat)) (LF (α:=Span) (gl a b.toNat)) (gl a b.toNat)).len))) [(33,.arr 2 ((List.length (α:=Span) d)+(List.length (α:=Span) (gl a b.toNat))) (appF (List.length (α:=Span) d) (LF (α:=Span) d) (LF (α:=Span) (gl a b.toNat))))] ⟨OLe.is (Is.app (Is.refl d) (Is.refl (gl a b.toNat))),⟨⟩⟩ ?_
    obtain ⟨E,h⟩:=gS h
    refine AW.pN Fm [.s,.s] [(6,ow 33),(25,AL a),(26,vi (lI a)),(27,vi (b+1))] [(33,AO (α:=Span) (d++(gl a b.toNat)))] (cT (cT E)) ?_
    exact Kn.RE Fm [(24,33)] (o ((b+1),(d++(gl a b.toNat))) h)
   ·exact AW.exit (Kn.R Fm (p d h))
 ·refine AW.SG0 Fm 3 [(0,AL a),(3,vi 0),(9,AL a),(10,vi (lI a)),(11,vi 0)] [] ?_
  refine AW.block (AW.loopF (E' := fun z=>[(0,AL a),(3,vi z.1),(9,AL a),(10,vi (lI a)),(11,vi z.2)]) (S' := fun z=>[]) (fun O z I l h=>?_) h)
  obtain ⟨e,c⟩:=z
  refine AW.SG0 Fm 1 [(0,AL a),(3,vi e),(9,AL a),(10,vi (lI a)),(11,vi c),(12,vb (decide (c<(lI a))))] [] ?_
  refine AW.seq (AW.cN h (fun q h=>?_) (fun q h=>?_))
  ·refine AW.skip (AW.seq (AW.block ?_))
   obtain ⟨w,h⟩:=gS h
   refine AW.SP Fm [.s,.s,.s] [(0,AL a),(3,vi e),(5,AL (α:=Span) (gl a c.toNat)),(9,AL a),(10,vi (lI a)),(11,vi c)] [] (cT w) ?_
   obtain ⟨y,h⟩:=gS h
   refine AW.SP Fm [.s,.s,.s,.s,.s] [(0,AL a),(3,vi (e+(lI (gl a c.toNat)))),(9,AL a),(10,vi (lI a)),(11,vi c)] [] (cT (cT y)) ?_
   refine AW.SG0 Fm 2 [(0,AL a),(3,vi (e+(lI (gl a c.toNat)))),(9,AL a),(10,vi (lI a)),(11,vi c),(20,vb (decide ((e+(lI (gl a c.toNat)))<(0:Int))))] [] ?_
   refine AW.cN h (fun t h=>?_) (fun t h=>?_)
   ·cases h
   ·refine AW.skip ?_
    obtain ⟨A,h⟩:=gS h
    refine AW.pN Fm [.s,.s] [(0,AL a),(3,vi (e+(lI (gl a c.toNat)))),(9,AL a),(10,vi (lI a)),(11,vi (c+1))] [] (cT (cT A)) ?_
    exact Kn.R Fm (l ((e+(lI (gl a c.toNat))),(c+1)) h)
  ·exact AW.exit (Kn.R Fm (n e h))
theorem region_inside_1_spec {F:Nat} {b:Span} {a:Int} {r:Bool} (h:region_inside_1 F b a=some r) :
  FSpec Tryz.prog 286 [gE b,pt 0] [(0,.box true [ci a])] (vb r) [(0,.box true [ci a])]:=by
 refine FI Tryz.func286 prog_mixed prog_lay fun C Fm=>?_
 unfold region_inside_1 at h
 refine AW.SG0 Fm 2 [(1,pt 0),(2,pt 2)] [(0,.box true [ci a]),(2,bx (gC b))] ?_
 refine AW.join (r:=r) (fun z:Bool=>region_inside_1_k0 F z) (fun z=>[(3,vb z)]) (fun z=>[(0,.box true [ci a])]) (fun i h=>?_) (fun e d=>?_)
 ·refine AW.ret ?_
  obtain rfl:=Option.some.inj h
  exact Kn.D Fm
 ·rcases br_or h with ⟨c,h⟩|⟨c,h⟩
  ·refine AW.pN Fm [.s,.s,.s,.s,.w (vb true),.s,.s,.s,.s,.s,.s] [(3,vb (decide (a<b.right_)))] [(0,.box true [ci a])] (cT (ALe.bool c)) ?_
   exact Kn.R Fm (d (decide (a<b.right_)) h)
  ·refine AW.pN Fm [.s,.s,.s,.s,.w (vb false),.s,.s,.s,.s,.s,.s] [(3,vb false)] [(0,.box true [ci a])] (cT (ALe.bool c)) ?_
   exact Kn.R Fm (d false h)
theorem slices_IndexFunc_Span_spec {F:Nat} {a:(List Span)} {d:Span→Option Bool} {r:Int} (h:slices_IndexFunc_Span F a d=some r) :
  FSpec Tryz.prog 318 [AL a,.v (.c (.sem (CloOK Tryz.prog (FR_Span_Bool d))))] [] (vi r) []:=by
 refine FI Tryz.func318 prog_mixed prog_lay fun C Fm=>?_
 unfold slices_IndexFunc_Span at h
 refine AW.SG0 Fm 1 [(0,AL a),(1,.v (.c (.sem (CloOK Tryz.prog (FR_Span_Bool d)))))] [] ?_
 refine AW.join (r:=r) (fun z:Unit=>slices_IndexFunc_Span_k1 F) (fun z=>[]) (fun z=>[]) (fun z h=>?_) (fun t j=>?_)
 ·refine AW.SG0 Fm 1 [(4,vi (-1:Int))] [] ?_
  refine AW.ret ?_
  obtain rfl:=Option.some.inj h
  exact Kn.D Fm
 ·refine AW.SG0 Fm 3 [(0,AL a),(1,.v (.c (.sem (CloOK Tryz.prog (FR_Span_Bool d))))),(7,vi (lI a)),(8,vi 0)] [] ?_
  refine AW.block (AW.loopF (E' := fun z=>[(0,AL a),(1,.v (.c (.sem (CloOK Tryz.prog (FR_Span_Bool d))))),(7,vi (lI a)),(8,vi z)]) (S' := fun z=>[]) (fun u b q i h=>?_) h)
  refine AW.SG0 Fm 1 [(0,AL a),(1,.v (.c (.sem (CloOK Tryz.prog (FR_Span_Bool d))))),(7,vi (lI a)),(8,vi b),(9,vb (decide (b<(lI a))))] [] ?_
  refine AW.seq (AW.cN h (fun l h=>?_) (fun l h=>?_))
  ·refine AW.skip (AW.seq (AW.block (AW.SG0 Fm 2 [(0,AL a),(1,.v (.c (.sem (CloOK Tryz.prog (FR_Span_Bool d))))),(5,vi b),(7,vi (lI a)),(8,vi b)] [] ?_)))
   refine AW.seq ?_
   obtain ⟨n,h⟩:=gS h
   obtain ⟨e,p,h⟩:=bS h
   refine AW.G Fm [.s,.s,.s,.s,.s,.k (sE (vb e))] (fun K=>_∧K 5∧True) [(0,AL a),(1,.v (.c (.sem (CloOK Tryz.prog (FR_Span_Bool d))))),(5,vi b),(7,vi (lI a)),(8,vi b),(16,vb e)] [] ⟨n,KAt.sem (F:=(FR_Span_Bool d)) (args:=[.v (.g [ci ((gl a b.toNat).left_),ci ((gl a b.toNat).right_)])]) ⟨(gl a b.toNat),e,p,rfl,rfl⟩ rfl (by kernel_rfl) (by kernel_rfl) (by kernel_rfl),⟨⟩⟩ ?_
   refine AW.cN h (fun m h=>?_) (fun m h=>?_)
   ·refine AW.SG0 Fm 2 [(4,vi b)] [] ?_
    refine AW.ret ?_
    obtain rfl:=Option.some.inj h
    exact Kn.D Fm
   ·refine AW.skip ?_
    obtain ⟨o,h⟩:=gS h
    refine AW.pN Fm [.s,.s] [(0,AL a),(1,.v (.c (.sem (CloOK Tryz.prog (FR_Span_Bool d))))),(7,vi (lI a)),(8,vi (b+1))] [] (cT (cT o)) ?_
    exact Kn.R Fm (i (b+1) h)
  ·exact AW.exit (Kn.R Fm (j () h))
theorem slices_ContainsFunc_Span_spec {F:Nat} {a:(List Span)} {b:Span→Option Bool} {r:Bool} (h:slices_ContainsFunc_Span F a b=some r) :
  FSpec Tryz.prog 285 [AL a,.v (.c (.sem (CloOK Tryz.prog (FR_Span_Bool b))))] [] (vb r) []:=by
 refine FI Tryz.func285 prog_mixed prog_lay fun C Fm=>?_
 unfold slices_ContainsFunc_Span at h
 refine AW.SG0 Fm 1 [(0,AL a),(1,.v (.c (.sem (CloOK Tryz.prog (FR_Span_Bool b)))))] [] ?_
 refine AW.seq ?_
 obtain ⟨d,e,h⟩:=bS h
 refine AW.G Fm [.s,.s,.k (cE [] [] (vi d) [] []),.s,.s] (fun K=>K 2∧True) [(4,vb (decide ((0:Int)≤d)))] [] ⟨KAt.callX (slices_IndexFunc_Span_spec e) Tryz.call318 [] [] [.tmp 5,.tmp 6] rfl (by kernel_rfl) (by kernel_rfl) (by kernel_rfl) ⟨.p,ArgT.semX (by kernel_rfl) (by kernel_rfl) (by kernel_rfl),⟨⟩⟩,⟨⟩⟩ ?_
 refine AW.ret ?_
 obtain rfl:=Option.some.inj h
 exact Kn.D Fm
theorem region_inside_spec {F:Nat} {b:(List Span)} {a:Int} {r:Bool} (h:region_inside F b a=some r) :
  FSpec Tryz.prog 243 [AL b,vi a] [] (vb r) []:=by
 refine FI Tryz.func243 prog_mixed prog_lay fun C Fm=>?_
 unfold region_inside at h
 refine AW.SG0 Fm 2 [(0,AL b),(3,pt 3)] [(3,bx [ci a])] ?_
 refine AW.seq ?_
 obtain ⟨c,d,h⟩:=bS h
 refine AW.G Fm [.s,.s,.k (cE [] [3] (vb c) [] []),.s] (fun K=>K 2∧True) [(4,vb c)] [] ⟨KAt.callX (slices_ContainsFunc_Span_spec d) Tryz.call285 [] [3] [.tmp 5,.tmp 6] rfl (by kernel_rfl) (by kernel_rfl) (by kernel_rfl) ⟨.p,ArgT.cloX Tryz.call286 [[ci a]] (fun args r hq=>by obtain ⟨y0,y,hq,rfl,rfl⟩:=hq; exact Eq.mp (by kernel_rfl) (region_inside_1_spec hq)) (fun args r hq=>by obtain ⟨y0,y,hq,rfl,rfl⟩:=hq; rfl) (by kernel_rfl) [3] (by kernel_rfl) (by kernel_rfl) (⟨⟨false,(by kernel_rfl)⟩,⟨⟩⟩) (by kernel_rfl),⟨⟩⟩,⟨⟩⟩ ?_
 refine AW.ret ?_
 obtain rfl:=Option.some.inj h
 exact Kn.D Fm
theorem region_merge_spec {F:Nat} {n:(List Span)} {o:(List Span)} {p:Bool→Bool→Option Bool} {r:(List Span)} (h:region_merge F n o p=some r) :
  FSpec Tryz.prog 190 [AL n,AL o,.v (.c (.sem (CloOK Tryz.prog (FR_Bool_Bool_Bool p))))] [] (AL (α:=Span) r) []:=by
 refine FI Tryz.func190 prog_mixed prog_lay fun C Fm=>?_
 unfold region_merge at h
 refine AW.SG0 Fm 1 [(0,AL n),(1,AL o),(2,.v (.c (.sem (CloOK Tryz.prog (FR_Bool_Bool_Bool p)))))] [] ?_
 refine AW.SW Fm [.m] (fun K=>True) [(0,AL n),(1,AL o),(2,.v (.c (.sem (CloOK Tryz.prog (FR_Bool_Bool_Bool p))))),(7,ow 7)] [(7,AO (α:=Int) ([]:List Int))] True.intro [(7,.arr 1 (0) (fun _=>[]))] ⟨OLe.is ((Is.nil (α:=Int))),⟨⟩⟩ ?_
 refine AW.join (r:=r) (fun z:(List Int)=>region_merge_k1 F n o p z) (fun z=>[(0,AL n),(1,AL o),(2,.v (.c (.sem (CloOK Tryz.prog (FR_Bool_Bool_Bool p))))),(7,ow 7)]) (fun z=>[(7,AO z)]) (fun w0 h=>?_) (fun A0 X=>?_)
 ·refine AW.seq ?_
  obtain ⟨B,p0,h⟩:=bS h
  refine AW.G Fm [.s,.k (cE [(0,7)] [] (.any) [(0,AO w0)] [(0,AO B)])] (fun K=>K 1∧True) [(0,AL n),(1,AL o),(2,.v (.c (.sem (CloOK Tryz.prog (FR_Bool_Bool_Bool p))))),(7,ow 7)] [(7,AO B)] ⟨KAt.CC (sortI_spec p0) Tryz.call214 [(0,7)],⟨⟩⟩ ?_
  refine AW.seq ?_
  obtain ⟨a,q0,h⟩:=bS h
  refine AW.G Fm [.s,.k (cE [(0,7),(100,34)] [] (ow 100) [(0,AO B)] [(100,AO a)]),.s] (fun K=>K 1∧True) [(0,AL n),(1,AL o),(2,.v (.c (.sem (CloOK Tryz.prog (FR_Bool_Bool_Bool p))))),(7,ow 34)] [(34,AO a)] ⟨KAt.CC (slices_Compact_int_spec q0) Tryz.call241 [(0,7),(100,34)],⟨⟩⟩ ?_
  refine AW.SW Fm [.m] (fun K=>True) [(0,AL n),(1,AL o),(2,.v (.c (.sem (CloOK Tryz.prog (FR_Bool_Bool_Bool p))))),(7,ow 34),(10,ow 10)] [(10,AO (α:=Span) ([]:List Span)),(34,AO a)] True.intro [(10,.arr 2 (0) (fun _=>[]))] ⟨OLe.is ((Is.nil (α:=Span))),⟨⟩⟩ ?_
  refine AW.join (r:=r) (fun z:(List Span)=>region_merge_k5 F z) (fun z=>[(10,ow 10)]) (fun z=>[(10,AO z)]) (fun A h=>?_) (fun G0 Z=>?_)
  ·refine AW.SG0 Fm 2 [(6,ow 10)] [(10,AO A)] ?_
   refine AW.ret ?_
   obtain rfl:=Option.some.inj h
   refine Kn.r Fm [(6,ow 10)] [(10,AO A)] (by kernel_rfl) ?_
   refine Kn.frz [(6,AL A)] [] (by kernel_rfl) (by kernel_rfl) (by kernel_rfl) ?_
   exact Kn.D Fm
  ·refine AW.SG0 Fm 1 [(0,AL n),(1,AL o),(2,.v (.c (.sem (CloOK Tryz.prog (FR_Bool_Bool_Bool p))))),(7,ow 34),(10,ow 10),(11,vi 1)] [(10,AO (α:=Span) ([]:List Span)),(34,AO a)] ?_
   refine AW.block (Kn.r Fm [(0,AL n),(1,AL o),(2,.v (.c (.sem (CloOK Tryz.prog (FR_Bool_Bool_Bool p))))),(7,ow 34),(10,ow 10),(11,vi 1)] [(10,AO ([]:List Span)),(34,AO a)] (by kernel_rfl) ?_)
   refine AW.loopF (E' := fun z=>[(0,AL n),(1,AL o),(2,.v (.c (.sem (CloOK Tryz.prog (FR_Bool_Bool_Bool p))))),(7,ow 34),(10,ow 10),(11,vi z.1)]) (S' := fun z=>[(10,AO z.2),(34,AO a)]) (fun L z B0 Y h=>?_) h
   obtain ⟨b,e⟩:=z
   refine AW.seq (AW.SG0 Fm 4 [(0,AL n),(1,AL o),(2,.v (.c (.sem (CloOK Tryz.prog (FR_Bool_Bool_Bool p))))),(7,ow 34),(10,ow 10),(11,vi b),(38,vb (decide (b<(lI a))))] [(10,AO e),(34,AO a)] ?_)
   refine AW.cN h (fun b0 h=>?_) (fun b0 h=>?_)
   ·refine AW.skip (AW.join (r:=r) (fun z:(List Span)=>region_merge_k4 F b L z) (fun z=>[(0,AL n),(1,AL o),(2,.v (.c (.sem (CloOK Tryz.prog (FR_Bool_Bool_Bool p))))),(7,ow 34),(10,ow 10),(11,vi b)]) (fun z=>[(10,AO z),(34,AO a)]) (fun V h=>?_) (fun E0 t=>?_))
    ·obtain ⟨n0,h⟩:=gS h
     refine AW.pN Fm [.s,.s,.s] [(0,AL n),(1,AL o),(2,.v (.c (.sem (CloOK Tryz.prog (FR_Bool_Bool_Bool p))))),(7,ow 34),(10,ow 10),(11,vi (b+1))] [(10,AO V),(34,AO a)] (cT (cT n0)) ?_
     exact Kn.R Fm (Y ((b+1),V) h)
    ·refine AW.block ?_
     obtain ⟨j0,O,h⟩:=gS2 h
     refine AW.SP Fm [.s,.s,.s,.s,.s,.s] [(0,AL n),(1,AL o),(2,.v (.c (.sem (CloOK Tryz.prog (FR_Bool_Bool_Bool p))))),(7,ow 34),(10,ow 10),(11,vi b),(12,vi (gl a (b-1).toNat))] [(10,AO e),(34,AO a)] (cA (cT j0) (cA O (cT (toNat_lt O)))) ?_
     refine AW.seq (AW.seq ?_)
     obtain ⟨E,s0,h⟩:=bS h
     obtain ⟨H,t0,h⟩:=bS h
     obtain ⟨I,u0,h⟩:=bS h
     refine AW.G Fm [.s,.s,.s,.k (cE [] [] (vb E) [] []),.s,.s,.k (cE [] [] (vb H) [] []),.k (sE (vb I)),.s] (fun K=>K 3∧K 6∧K 7∧True) [(0,AL n),(1,AL o),(2,.v (.c (.sem (CloOK Tryz.prog (FR_Bool_Bool_Bool p))))),(7,ow 34),(10,ow 10),(11,vi b),(12,vi (gl a (b-1).toNat)),(54,vb (!I))] [(10,AO e),(34,AO a)] ⟨KAt.CC (region_inside_spec s0) Tryz.call243 [],KAt.CC (region_inside_spec t0) Tryz.call243 [],KAt.sem (F:=(FR_Bool_Bool_Bool p)) (args:=[vb E,vb H]) ⟨E,H,I,u0,rfl,rfl⟩ rfl (by kernel_rfl) (by kernel_rfl) (by kernel_rfl),⟨⟩⟩ ?_
     refine AW.cN h (fun c0 h=>?_) (fun c0 h=>?_)
     ·exact AW.exit (Kn.R Fm (t e h))
     ·refine AW.skip (AW.SG0 Fm 3 [(0,AL n),(1,AL o),(2,.v (.c (.sem (CloOK Tryz.prog (FR_Bool_Bool_Bool p))))),(7,ow 34),(10,ow 10),(11,vi b),(12,vi (gl a (b-1).toNat)),(13,vi (lI e))] [(10,AO e),(34,AO a)] ?_)
      refine AW.join (r:=r) (fun z:Bool=>region_merge_k3 F a b e L z) (fun z=>[(0,AL n),(1,AL o),(2,.v (.c (.sem (CloOK Tryz.prog (FR_Bool_Bool_Bool p))))),(7,ow 34),(10,ow 10),(11,vi b),(12,vi (gl a (b-1).toNat)),(13,vi (lI e)),(68,vb z)]) (fun z=>[(10,AO e),(34,AO a)]) (fun I0 h=>?_) (fun D0 M=>?_)
      ·refine AW.cN h (fun d0 h=>?_) (fun d0 h=>?_)
       ·obtain ⟨l0,T,y,h⟩:=gS3 h
        refine AW.WP Fm [.s,.s,.s,.s,.s,.s,.s,.s,.s,.s] [(0,AL n),(1,AL o),(2,.v (.c (.sem (CloOK Tryz.prog (FR_Bool_Bool_Bool p))))),(7,ow 34),(10,ow 10),(11,vi b)] [(10,AO (α:=Span) (List.set e ((lI e)-1).toNat (⟨(gl e ((lI e)-1).toNat).left_,(gl a b.toNat)⟩ : Span))),(34,AO a)] (cA (cT l0) (cA T (cA (toNat_lt T) (cA y (cT (toNat_lt y)))))) [(10,.arr 2 (List.length (α:=Span) e) (fun j=>if j=((lI e)-1).toNat then splice ((LF (α:=Span) e) ((lI e)-1).toNat) 1 [.int .i64 (gl a b.toNat)] else (LF (α:=Span) e) j))] ⟨OLe.is (Is.set (Is.refl e) (toNat_lt y) (⟨(gl e ((lI e)-1).toNat).left_,(gl a b.toNat)⟩ : Span) (by kernel_rfl)),⟨⟩⟩ ?_
        exact Kn.R Fm (t (List.set e ((lI e)-1).toNat (⟨(gl e ((lI e)-1).toNat).left_,(gl a b.toNat)⟩ : Span)) h)
       ·obtain ⟨U,m0,h⟩:=gS2 h
        refine AW.WP Fm [.s,.s,.s,.s,.s,.s,.s,.w (AL (α:=Span) ([(⟨(gl a (b-1).toNat),(gl a b.toNat)⟩ : Span)]:List Span)),.s,.s] [(0,AL n),(1,AL o),(2,.v (.c (.sem (CloOK Tryz.prog (FR_Bool_Bool_Bool p))))),(7,ow 34),(10,ow 86),(11,vi b)] [(34,AO a),(86,AO (α:=Span) (e++([(⟨(gl a (b-1).toNat),(gl a b.toNat)⟩ : Span)]:List Span)))] (cA U (cA (toNat_lt U) (cA (ALe.lst (.lit ([(⟨(gl a (b-1).toNat),(gl a b.toNat)⟩ : Span)]:List Span) (by kernel_rfl)):ALe (.v (.c (.d (.lst 1 (litF 2 [.int .i64 (gl a (b-1).toNat),.int .i64 (gl a b.toNat)]))))) (AL (α:=Span) ([(⟨(gl a (b-1).toNat),(gl a b.toNat)⟩ : Span)]:List Span))) (cT (cA m0 (cT (Is.refl ([(⟨(gl a (b-1).toNat),(gl a b.toNat)⟩ : Span)]:List Span):Is (List.length (α:=Span) ([(⟨(gl a (b-1).toNat),(gl a b.toNat)⟩ : Span)]:List Span)) (LF (α:=Span) ([(⟨(gl a (b-1).toNat),(gl a b.toNat)⟩ : Span)]:List Span)) ([(⟨(gl a (b-1).toNat),(gl a b.toNat)⟩ : Span)]:List Span)).len)))))) [(86,.arr 2 ((List.length (α:=Span) e)+(List.length (α:=Span) ([(⟨(gl a (b-1).toNat),(gl a b.toNat)⟩ : Span)]:List Span))) (appF (List.length (α:=Span) e) (LF (α:=Span) e) (LF (α:=Span) ([(⟨(gl a (b-1).toNat),(gl a b.toNat)⟩ : Span)]:List Span))))] ⟨OLe.is (Is.app (Is.refl e) (Is.refl ([(⟨(gl a (b-1).toNat),(gl a b.toNat)⟩ : Span)]:List Span))),⟨⟩⟩ ?_
        exact Kn.RE Fm [(10,86)] (t (e++([(⟨(gl a (b-1).toNat),(gl a b.toNat)⟩ : Span)]:List Span)) h)
      ·rcases br_or h with ⟨u,h⟩|⟨u,h⟩
       ·obtain ⟨k0,P,h⟩:=gS2 h
        refine AW.pN Fm [.s,.s,.w (vb true),.s,.s,.s,.s,.s,.s,.s,.s,.s] [(0,AL n),(1,AL o),(2,.v (.c (.sem (CloOK Tryz.prog (FR_Bool_Bool_Bool p))))),(7,ow 34),(10,ow 10),(11,vi b),(12,vi (gl a (b-1).toNat)),(13,vi (lI e)),(60,ow 10),(61,vi (lI e)),(62,vi ((lI e)-1)),(63,.v (.c (.pte 10 2 (((lI e)-1).toNat) 0))),(64,.v (.c (.pte 10 2 (((lI e)-1).toNat) 1))),(65,vi (gl e ((lI e)-1).toNat).right_),(66,vi (gl a (b-1).toNat)),(67,vb (((gl e ((lI e)-1).toNat).right_)==(gl a (b-1).toNat))),(68,vb (((gl e ((lI e)-1).toNat).right_)==(gl a (b-1).toNat)))] [(10,AO e),(34,AO a)] (cA (ALe.bool u) (cA (cT k0) (cA P (cT (toNat_lt P))))) ?_
        exact Kn.R Fm (M (((gl e ((lI e)-1).toNat).right_)==(gl a (b-1).toNat)) h)
       ·refine AW.pN Fm [.s,.s,.w (vb false),.s,.s,.s,.s,.s,.s,.s,.s,.s] [(0,AL n),(1,AL o),(2,.v (.c (.sem (CloOK Tryz.prog (FR_Bool_Bool_Bool p))))),(7,ow 34),(10,ow 10),(11,vi b),(12,vi (gl a (b-1).toNat)),(13,vi (lI e)),(68,vb false)] [(10,AO e),(34,AO a)] (cT (ALe.bool u)) ?_
        exact Kn.R Fm (M false h)
   ·exact AW.exit (Kn.R Fm (Z e h))
 ·refine AW.seq ?_
  obtain ⟨i,o0,h⟩:=bS h
  refine AW.G Fm [.s,.s,.w (AL (α:=(List Span)) ([n,o]:List (List Span))),.k (cE [(100,17)] [] (ow 100) [] [(100,AO i)]),.s,.s] (fun K=>(ALe (.v (.c (.d (.lst 2 (litF 1 [DL n,DL o]))))) (AL (α:=(List Span)) ([n,o]:List (List Span))))∧K 3∧True) [(0,AL n),(1,AL o),(2,.v (.c (.sem (CloOK Tryz.prog (FR_Bool_Bool_Bool p))))),(7,ow 7),(17,ow 17),(18,vi (lI i)),(19,vi 0)] [(7,AO (α:=Int) ([]:List Int)),(17,AO i)] ⟨ALe.lst (.lit ([n,o]:List (List Span)) (by kernel_rfl)),KAt.CC (slices_Concat_Span_spec o0) Tryz.call242 [(100,17)],⟨⟩⟩ ?_
  refine AW.block (Kn.r Fm [(0,AL n),(1,AL o),(2,.v (.c (.sem (CloOK Tryz.prog (FR_Bool_Bool_Bool p))))),(7,ow 7),(17,ow 17),(18,vi (lI i)),(19,vi 0)] [(7,AO ([]:List Int)),(17,AO i)] (by kernel_rfl) ?_)
  refine AW.loopF (E' := fun z=>[(0,AL n),(1,AL o),(2,.v (.c (.sem (CloOK Tryz.prog (FR_Bool_Bool_Bool p))))),(7,ow 7),(17,ow 17),(18,vi (lI i)),(19,vi z.1)]) (S' := fun z=>[(7,AO z.2),(17,AO i)]) (fun H0 z y0 W h=>?_) h
  obtain ⟨l,q⟩:=z
  refine AW.SG0 Fm 1 [(0,AL n),(1,AL o),(2,.v (.c (.sem (CloOK Tryz.prog (FR_Bool_Bool_Bool p))))),(7,ow 7),(17,ow 17),(18,vi (lI i)),(19,vi l),(20,vb (decide (l<(lI i))))] [(7,AO q),(17,AO i)] ?_
  refine AW.seq (AW.cN h (fun a0 h=>?_) (fun a0 h=>?_))
  ·refine AW.skip (AW.seq (AW.block ?_))
   obtain ⟨N,h⟩:=gS h
   refine AW.SP Fm [.s,.s,.s,.s] [(0,AL n),(1,AL o),(2,.v (.c (.sem (CloOK Tryz.prog (FR_Bool_Bool_Bool p))))),(7,ow 7),(9,pt 9),(17,ow 17),(18,vi (lI i)),(19,vi l)] [(7,AO q),(9,bx [ci ((gl i l.toNat).left_),ci ((gl i l.toNat).right_)]),(17,AO i)] (cA N (cT (toNat_lt N))) ?_
   obtain ⟨e0,h⟩:=gS h
   refine AW.WP Fm [.s,.s,.s,.s,.s,.w (AL (α:=Int) ([(gl i l.toNat).left_,(gl i l.toNat).right_]:List Int)),.s,.s] [(0,AL n),(1,AL o),(2,.v (.c (.sem (CloOK Tryz.prog (FR_Bool_Bool_Bool p))))),(7,ow 29),(17,ow 17),(18,vi (lI i)),(19,vi l)] [(17,AO i),(29,AO (α:=Int) (q++([(gl i l.toNat).left_,(gl i l.toNat).right_]:List Int)))] (cA (ALe.lst (.lit ([(gl i l.toNat).left_,(gl i l.toNat).right_]:List Int) (by kernel_rfl)):ALe (.v (.c (.d (.lst 2 (litF 1 [.int .i64 (gl i l.toNat).left_,.int .i64 (gl i l.toNat).right_]))))) (AL (α:=Int) ([(gl i l.toNat).left_,(gl i l.toNat).right_]:List Int))) (cT (cA e0 (cT (Is.refl ([(gl i l.toNat).left_,(gl i l.toNat).right_]:List Int):Is (List.length (α:=Int) ([(gl i l.toNat).left_,(gl i l.toNat).right_]:List Int)) (LF (α:=Int) ([(gl i l.toNat).left_,(gl i l.toNat).right_]:List Int)) ([(gl i l.toNat).left_,(gl i l.toNat).right_]:List Int)).len)))) [(29,.arr 1 ((List.length (α:=Int) q)+(List.length (α:=Int) ([(gl i l.toNat).left_,(gl i l.toNat).right_]:List Int))) (appF (List.length (α:=Int) q) (LF (α:=Int) q) (LF (α:=Int) ([(gl i l.toNat).left_,(gl i l.toNat).right_]:List Int))))] ⟨OLe.is (Is.app (Is.refl q) (Is.refl ([(gl i l.toNat).left_,(gl i l.toNat).right_]:List Int))),⟨⟩⟩ ?_
   obtain ⟨i0,h⟩:=gS h
   refine AW.pN Fm [.s,.s] [(0,AL n),(1,AL o),(2,.v (.c (.sem (CloOK Tryz.prog (FR_Bool_Bool_Bool p))))),(7,ow 29),(17,ow 17),(18,vi (lI i)),(19,vi (l+1))] [(17,AO i),(29,AO (α:=Int) (q++([(gl i l.toNat).left_,(gl i l.toNat).right_]:List Int)))] (cT (cT i0)) ?_
   exact Kn.RE Fm [(7,29)] (W ((l+1),(q++([(gl i l.toNat).left_,(gl i l.toNat).right_]:List Int))) h)
  ·exact AW.exit (Kn.R Fm (X q h))
theorem region_Choose_1_spec {F:Nat} {e:Int} {a:(List Rect)} {b:(List Rect)} {c:Bool→Bool→Option Bool} {r:(List Span)} (h:region_Choose_1 F e a b c=some r) :
  FSpec Tryz.prog 189 [vi e,pt 0,pt 1,pt 2] [(0,.box true [.d (DL a)]),(1,.box true [.d (DL b)]),(2,.box true [.sem (CloOK Tryz.prog (FR_Bool_Bool_Bool c))])] (AL (α:=Span) r) [(0,.box true [.d (DL a)]),(1,.box true [.d (DL b)]),(2,.box true [.sem (CloOK Tryz.prog (FR_Bool_Bool_Bool c))])]:=by
 refine FI Tryz.func189 prog_mixed prog_lay fun C Fm=>?_
 unfold region_Choose_1 at h
 refine AW.SG0 Fm 1 [(0,vi e),(1,pt 0),(2,pt 1),(3,pt 2)] [(0,.box true [.d (DL a)]),(1,.box true [.d (DL b)]),(2,.box true [.sem (CloOK Tryz.prog (FR_Bool_Bool_Bool c))])] ?_
 refine AW.seq ?_
 obtain ⟨n,j,h⟩:=bS h
 obtain ⟨o,l,h⟩:=bS h
 obtain ⟨i,m,h⟩:=bS h
 refine AW.G Fm [.s,.s,.k (cE [] [] (AL n) [] []),.s,.s,.k (cE [] [] (AL o) [] []),.s,.k (cE [] [] (AL i) [] []),.s] (fun K=>K 2∧K 5∧K 7∧True) [(5,AL i)] [(0,.box true [.d (DL a)]),(1,.box true [.d (DL b)]),(2,.box true [.sem (CloOK Tryz.prog (FR_Bool_Bool_Bool c))])] ⟨KAt.CC (region_Row_spec j) Tryz.call191 [],KAt.CC (region_Row_spec l) Tryz.call191 [],KAt.callX (region_merge_spec m) Tryz.call190 [] [] [.tmp 8,.tmp 11,.tmp 12] rfl (by kernel_rfl) (by kernel_rfl) (by kernel_rfl) ⟨.p,.p,ArgT.semX (by kernel_rfl) (by kernel_rfl) (by kernel_rfl),⟨⟩⟩,⟨⟩⟩ ?_
 refine AW.ret ?_
 obtain rfl:=Option.some.inj h
 exact Kn.D Fm
theorem region_Choose_spec {F:Nat} {a:(List Rect)} {b:(List Rect)} {e:Bool→Bool→Option Bool} {r:(List Rect)} (h:region_Choose F a b e=some r) :
  FSpec Tryz.prog 95 [AL a,AL b,.v (.c (.sem (CloOK Tryz.prog (FR_Bool_Bool_Bool e))))] [] (AL (α:=Rect) r) []:=by
 refine FI Tryz.func95 prog_mixed prog_lay fun C Fm=>?_
 unfold region_Choose at h
 refine AW.SG0 Fm 4 [(3,pt 3),(4,pt 4),(5,pt 5)] [(3,bx [.d (DL a)]),(4,bx [.d (DL b)]),(5,bx [.sem (CloOK Tryz.prog (FR_Bool_Bool_Bool e))])] ?_
 refine AW.seq ?_
 obtain ⟨m,j,h⟩:=bS h
 obtain ⟨i,l,h⟩:=bS h
 refine AW.G Fm [.s,.s,.w (AL (α:=(List Rect)) ([a,b]:List (List Rect))),.k (cE [] [] (AL m) [] []),.s,.k (cE [] [3,4,5] (AL i) [] []),.s] (fun K=>(ALe (.v (.c (.d (.lst 2 (litF 1 [DL a,DL b]))))) (AL (α:=(List Rect)) ([a,b]:List (List Rect))))∧K 3∧K 5∧True) [(6,AL i)] [] ⟨ALe.lst (.lit ([a,b]:List (List Rect)) (by kernel_rfl)),KAt.CC (region_Cuts_spec j) Tryz.call188 [],KAt.callX (region_Build_spec l) Tryz.call187 [] [3,4,5] [.tmp 10,.tmp 11] rfl (by kernel_rfl) (by kernel_rfl) (by kernel_rfl) ⟨.p,ArgT.cloXP Tryz.call189 [[.d (DL a)],[.d (DL b)],[.sem (CloOK Tryz.prog (FR_Bool_Bool_Bool e))]] (fun args r hq=>by obtain ⟨y0,y,hq,rfl,rfl⟩:=hq; exact Eq.mp (by kernel_rfl) (region_Choose_1_spec hq)) (fun args r hq=>by obtain ⟨y0,y,hq,rfl,rfl⟩:=hq; rfl) (by kernel_rfl) [3,4,5] (by kernel_rfl) (by kernel_rfl) ⟨⟨.inl (by kernel_rfl),⟨⟩⟩,⟨.inl (by kernel_rfl),⟨⟩⟩,⟨.inr ⟨_,rfl⟩,⟨⟩⟩,⟨⟩⟩ (⟨⟨false,(by kernel_rfl)⟩,⟨⟨false,(by kernel_rfl)⟩,⟨⟨false,(by kernel_rfl)⟩,⟨⟩⟩⟩⟩) (by kernel_rfl),⟨⟩⟩,⟨⟩⟩ ?_
 refine AW.ret ?_
 obtain rfl:=Option.some.inj h
 exact Kn.D Fm
theorem history_Kept_2_spec {F:Nat} {c:Bool} {a:Bool} {r:Bool} (h:history_Kept_2 F c a=some r) :
  FSpec Tryz.prog 209 [vb c,vb a] [] (vb r) []:=by
 refine FI Tryz.func209 prog_mixed prog_lay fun C Fm=>?_
 unfold history_Kept_2 at h
 refine AW.SG0 Fm 1 [(0,vb c),(1,vb a)] [] ?_
 refine AW.join (r:=r) (fun z:Bool=>history_Kept_2_k0 F z) (fun z=>[(4,vb z)]) (fun z=>[]) (fun i h=>?_) (fun e d=>?_)
 ·refine AW.ret ?_
  obtain rfl:=Option.some.inj h
  exact Kn.D Fm
 ·rcases br_or h with ⟨b,h⟩|⟨b,h⟩
  ·refine AW.pN Fm [.s,.w (vb true),.s,.s,.s] [(4,vb a)] [] (cT (ALe.bool b)) ?_
   exact Kn.R Fm (d a h)
  ·refine AW.pN Fm [.s,.w (vb false),.s,.s,.s] [(4,vb false)] [] (cT (ALe.bool b)) ?_
   exact Kn.R Fm (d false h)
theorem history_Kept_spec {F:Nat} {i:(List Record)} {a:(List Crop)} {j:Int} {e:Int} {b:Int} {r:(List Rect)} (h:history_Kept F i a j e b=some r) :
  FSpec Tryz.prog 126 [AL i,AL a,vi j,vi e,vi b] [] (AL (α:=Rect) r) []:=by
 refine FI Tryz.func126 prog_mixed prog_lay fun C Fm=>?_
 unfold history_Kept at h
 refine AW.SG0 Fm 3 [(0,AL i),(2,vi j),(3,vi e),(6,pt 6),(9,pt 9)] [(6,bx [.d (DL a)]),(9,bx [ci b])] ?_
 refine AW.SG0 Fm 2 [(0,AL i),(2,vi j),(3,vi e),(11,.v (.c (.clo 208 [6,9])))] [(6,bx [.d (DL a)]),(9,bx [ci b])] ?_
 refine AW.seq ?_
 obtain ⟨n,B,h⟩:=bS h
 refine AW.G Fm [.s,.s,.s,.k (cE [] [6,9] (AL n) [] []),.s] (fun K=>K 3∧True) [(0,AL i),(2,vi j),(3,vi e),(11,.v (.c (.clo 208 [6,9]))),(12,AL n)] [(6,bx [.d (DL a)]),(9,bx [ci b])] ⟨KAt.callX (history_Rects_spec B) Tryz.call114 [] [6,9] [.tmp 15,.tmp 16,.tmp 17] rfl (by kernel_rfl) (by kernel_rfl) (by kernel_rfl) ⟨.p,.p,ArgT.cloX Tryz.call208 [[.d (DL a)],[ci b]] (fun args r hq=>by obtain ⟨y0,y,hq,rfl,rfl⟩:=hq; exact Eq.mp (by kernel_rfl) (history_Kept_1_spec hq)) (fun args r hq=>by obtain ⟨y0,y,hq,rfl,rfl⟩:=hq; rfl) (by kernel_rfl) [6,9] (by kernel_rfl) (by kernel_rfl) (⟨⟨false,(by kernel_rfl)⟩,⟨⟨false,(by kernel_rfl)⟩,⟨⟩⟩⟩) (by kernel_rfl),⟨⟩⟩,⟨⟩⟩ ?_
 refine AW.join (r:=r) (fun z:(List Rect)=>history_Kept_k1 F z) (fun z=>[(12,AL z)]) (fun z=>[]) (fun I h=>?_) (fun N t=>?_)
 ·refine AW.SG0 Fm 2 [(10,AL I)] [] ?_
  refine AW.ret ?_
  obtain rfl:=Option.some.inj h
  exact Kn.D Fm
 ·obtain ⟨w,h⟩:=gS h
  refine AW.SP Fm [.s,.s,.s] [(0,AL i),(3,vi e),(11,.v (.c (.clo 208 [6,9]))),(12,AL n),(13,vi (j+1))] [(6,bx [.d (DL a)]),(9,bx [ci b])] (cT (cT w)) ?_
  refine AW.block (AW.loopF (E' := fun z=>[(0,AL i),(3,vi e),(11,.v (.c (.clo 208 [6,9]))),(12,AL z.1),(13,vi z.2)]) (S' := fun z=>[(6,bx [.d (DL a)]),(9,bx [ci b])]) (fun O z M q h=>?_) h)
  obtain ⟨o,l⟩:=z
  refine AW.seq (AW.SG0 Fm 3 [(0,AL i),(3,vi e),(11,.v (.c (.clo 208 [6,9]))),(12,AL o),(13,vi l),(23,vb (decide (l≤e)))] [(6,bx [.d (DL a)]),(9,bx [ci b])] ?_)
  refine AW.cN h (fun u h=>?_) (fun u h=>?_)
  ·refine AW.skip (AW.seq (AW.block ?_))
   obtain ⟨L,E,h⟩:=bS h
   obtain ⟨m,H,h⟩:=bS h
   refine AW.G Fm [.s,.s,.s,.s,.k (cE [] [6,9] (AL L) [] []),.k (cE [] [] (AL m) [] []),.s] (fun K=>K 4∧K 5∧True) [(0,AL i),(3,vi e),(11,.v (.c (.clo 208 [6,9]))),(12,AL m),(13,vi l)] [(6,bx [.d (DL a)]),(9,bx [ci b])] ⟨KAt.callX (history_Rects_spec E) Tryz.call114 [] [6,9] [.tmp 27,.tmp 28,.tmp 29] rfl (by kernel_rfl) (by kernel_rfl) (by kernel_rfl) ⟨.p,.p,ArgT.cloX Tryz.call208 [[.d (DL a)],[ci b]] (fun args r hq=>by obtain ⟨y0,y,hq,rfl,rfl⟩:=hq; exact Eq.mp (by kernel_rfl) (history_Kept_1_spec hq)) (fun args r hq=>by obtain ⟨y0,y,hq,rfl,rfl⟩:=hq; rfl) (by kernel_rfl) [6,9] (by kernel_rfl) (by kernel_rfl) (⟨⟨false,(by kernel_rfl)⟩,⟨⟨false,(by kernel_rfl)⟩,⟨⟩⟩⟩) (by kernel_rfl),⟨⟩⟩,KAt.callX (region_Choose_spec H) Tryz.call95 [] [] [.tmp 26,.tmp 30,.func 209] rfl (by kernel_rfl) (by kernel_rfl) (by kernel_rfl) ⟨.p,.p,ArgT.cloX Tryz.call209 [] (fun args r hq=>by obtain ⟨y0,y1,y,hq,rfl,rfl⟩:=hq; exact Eq.mp (by kernel_rfl) (history_Kept_2_spec hq)) (fun args r hq=>by obtain ⟨y0,y1,y,hq,rfl,rfl⟩:=hq; rfl) (by kernel_rfl) [] (by kernel_rfl) (by kernel_rfl) (True.intro) (by kernel_rfl),⟨⟩⟩,⟨⟩⟩ ?_
   obtain ⟨A,h⟩:=gS h
   refine AW.pN Fm [.s,.s,.s] [(0,AL i),(3,vi e),(11,.v (.c (.clo 208 [6,9]))),(12,AL m),(13,vi (l+1))] [(6,bx [.d (DL a)]),(9,bx [ci b])] (cT (cT A)) ?_
   exact Kn.R Fm (q (m,(l+1)) h)
  ·exact AW.exit (Kn.R Fm (t o h))
theorem rotation_repeated_1_spec {F:Nat} {c:Bool} {a:Bool} {r:Bool} (h:rotation_repeated_1 F c a=some r) :
  FSpec Tryz.prog 236 [vb c,vb a] [] (vb r) []:=by
 refine FI Tryz.func236 prog_mixed prog_lay fun C Fm=>?_
 unfold rotation_repeated_1 at h
 refine AW.SG0 Fm 1 [(0,vb c),(1,vb a)] [] ?_
 refine AW.join (r:=r) (fun z:Bool=>rotation_repeated_1_k0 F z) (fun z=>[(4,vb z)]) (fun z=>[]) (fun i h=>?_) (fun e d=>?_)
 ·refine AW.ret ?_
  obtain rfl:=Option.some.inj h
  exact Kn.D Fm
 ·rcases br_or h with ⟨b,h⟩|⟨b,h⟩
  ·refine AW.pN Fm [.s,.w (vb true),.s,.s,.s] [(4,vb a)] [] (cT (ALe.bool b)) ?_
   exact Kn.R Fm (d a h)
  ·refine AW.pN Fm [.s,.w (vb false),.s,.s,.s] [(4,vb false)] [] (cT (ALe.bool b)) ?_
   exact Kn.R Fm (d false h)
theorem rotation_repeated_spec {F:Nat} {o:(List Line)} {i:(List Crop)} {j:(List Record)} {c:Int} {e:Int} {r:(List Rect)} (h:rotation_repeated F o i j c e=some r) :
  FSpec Tryz.prog 173 [AL o,AL i,AL j,vi c,vi e] [] (AL (α:=Rect) r) []:=by
 refine FI Tryz.func173 prog_mixed prog_lay fun C Fm=>?_
 unfold rotation_repeated at h
 refine AW.SG0 Fm 1 [(0,AL o),(1,AL i),(2,AL j),(3,vi c),(4,vi e)] [] ?_
 refine AW.SW Fm [.m] (fun K=>True) [(0,AL o),(1,AL i),(2,AL j),(3,vi c),(4,vi e),(11,ow 11)] [(11,AO (α:=Rect) ([]:List Rect))] True.intro [(11,.arr 4 (0) (fun _=>[]))] ⟨OLe.is ((Is.nil (α:=Rect))),⟨⟩⟩ ?_
 refine AW.seq ?_
 obtain ⟨E,h⟩:=gS h
 refine AW.SP Fm [.s,.s,.s,.s] [(0,AL o),(1,AL i),(2,AL j),(3,vi c),(4,vi e),(11,ow 11),(18,vb (decide (c<(e-1))))] [(11,AO (α:=Rect) ([]:List Rect))] (cT (cT E)) ?_
 refine AW.cN h (fun A h=>?_) (fun A h=>?_)
 ·refine AW.SG0 Fm 2 [(10,ow 11)] [(11,AO (α:=Rect) ([]:List Rect))] ?_
  refine AW.ret ?_
  obtain rfl:=Option.some.inj h
  refine Kn.r Fm [(10,ow 11)] [(11,AO (α:=Rect) ([]:List Rect))] (by kernel_rfl) ?_
  refine Kn.frz [(10,AL (α:=Rect) ([]:List Rect))] [] (by kernel_rfl) (by kernel_rfl) (by kernel_rfl) ?_
  exact Kn.D Fm
 ·refine AW.skip (AW.join (r:=r) (fun z:(List Rect)=>rotation_repeated_k1 F z) (fun z=>[(11,ow 11)]) (fun z=>[(11,AO z)]) (fun q h=>?_) (fun X w=>?_))
  ·refine AW.SG0 Fm 2 [(10,ow 11)] [(11,AO q)] ?_
   refine AW.ret ?_
   obtain rfl:=Option.some.inj h
   refine Kn.r Fm [(10,ow 11)] [(11,AO q)] (by kernel_rfl) ?_
   refine Kn.frz [(10,AL q)] [] (by kernel_rfl) (by kernel_rfl) (by kernel_rfl) ?_
   exact Kn.D Fm
  ·refine AW.seq ?_
   obtain ⟨a,T,h⟩:=bS h
   refine AW.G Fm [.s,.s,.k (cE [] [] (AL a) [] []),.s,.s] (fun K=>K 2∧True) [(1,AL i),(2,AL j),(3,vi c),(4,vi e),(11,ow 11),(22,AL a),(23,vi (lI a)),(24,vi 0)] [(11,AO (α:=Rect) ([]:List Rect))] ⟨KAt.CC (rotation_arable_spec T) Tryz.call168 [],⟨⟩⟩ ?_
   refine AW.block (Kn.r Fm [(1,AL i),(2,AL j),(3,vi c),(4,vi e),(11,ow 11),(22,AL a),(23,vi (lI a)),(24,vi 0)] [(11,AO ([]:List Rect))] (by kernel_rfl) ?_)
   refine AW.loopF (E' := fun z=>[(1,AL i),(2,AL j),(3,vi c),(4,vi e),(11,ow 11),(22,AL a),(23,vi (lI a)),(24,vi z.1)]) (S' := fun z=>[(11,AO z.2)]) (fun Y z W u h=>?_) h
   obtain ⟨b,l⟩:=z
   refine AW.SG0 Fm 1 [(1,AL i),(2,AL j),(3,vi c),(4,vi e),(11,ow 11),(22,AL a),(23,vi (lI a)),(24,vi b),(25,vb (decide (b<(lI a))))] [(11,AO l)] ?_
   refine AW.seq (AW.cN h (fun B h=>?_) (fun B h=>?_))
   ·refine AW.skip (AW.seq (AW.block ?_))
    obtain ⟨H,h⟩:=gS h
    refine AW.SP Fm [.s,.s,.s,.s] [(1,AL i),(2,AL j),(3,vi c),(4,vi e),(11,ow 11),(13,pt 13),(22,AL a),(23,vi (lI a)),(24,vi b)] [(11,AO l),(13,bx [ci ((gl a b.toNat).parcel_),.d (DL (α:=Rect) (gl a b.toNat).region_.rects_),ci ((gl a b.toNat).crop_),ci ((gl a b.toNat).schemes_)])] (cT H) ?_
    refine AW.seq ?_
    obtain ⟨I,L,M,N,h⟩:=gS4 h
    obtain ⟨t,U,h⟩:=bS h
    refine AW.G Fm [.s,.s,.s,.s,.s,.s,.s,.s,.s,.s,.s,.s,.s,.s,.k (cE [] [] (AL t) [] []),.s] (fun K=>(_∧True)∧(_∧True)∧(_∧True)∧_∧K 14∧True) [(1,AL i),(2,AL j),(3,vi c),(4,vi e),(11,ow 11),(13,pt 13),(14,AL t),(22,AL a),(23,vi (lI a)),(24,vi b)] [(11,AO l),(13,bx [ci ((gl a b.toNat).parcel_),.d (DL (α:=Rect) (gl a b.toNat).region_.rects_),ci ((gl a b.toNat).crop_),ci ((gl a b.toNat).schemes_)])] ⟨⟨I,⟨⟩⟩,⟨L,⟨⟩⟩,⟨M,⟨⟩⟩,N,KAt.CC (history_Kept_spec U) Tryz.call126 [],⟨⟩⟩ ?_
    obtain ⟨n,V,h⟩:=bS h
    obtain ⟨O,h⟩:=gS h
    refine AW.GW Fm [.s,.s,.s,.s,.s,.k (cE [] [] (AL n) [] []),.s,.s] (fun K=>K 5∧(_∧_∧True)∧True) [(1,AL i),(2,AL j),(3,vi c),(4,vi e),(11,ow 49),(22,AL a),(23,vi (lI a)),(24,vi b)] [(49,AO (α:=Rect) (l++n))] ⟨KAt.callX (region_Choose_spec V) Tryz.call95 [] [] [.tmp 46,.tmp 47,.func 236] rfl (by kernel_rfl) (by kernel_rfl) (by kernel_rfl) ⟨.p,.p,ArgT.cloX Tryz.call236 [] (fun args r hq=>by obtain ⟨y0,y1,y,hq,rfl,rfl⟩:=hq; exact Eq.mp (by kernel_rfl) (rotation_repeated_1_spec hq)) (fun args r hq=>by obtain ⟨y0,y1,y,hq,rfl,rfl⟩:=hq; rfl) (by kernel_rfl) [] (by kernel_rfl) (by kernel_rfl) (True.intro) (by kernel_rfl),⟨⟩⟩,⟨O,(Is.refl n:Is (List.length (α:=Rect) n) (LF (α:=Rect) n) n).len,⟨⟩⟩,⟨⟩⟩ [(49,.arr 4 ((List.length (α:=Rect) l)+(List.length (α:=Rect) n)) (appF (List.length (α:=Rect) l) (LF (α:=Rect) l) (LF (α:=Rect) n)))] ⟨OLe.is (Is.app (Is.refl l) (Is.refl n)),⟨⟩⟩ ?_
    obtain ⟨P,h⟩:=gS h
    refine AW.pN Fm [.s,.s] [(1,AL i),(2,AL j),(3,vi c),(4,vi e),(11,ow 49),(22,AL a),(23,vi (lI a)),(24,vi (b+1))] [(49,AO (α:=Rect) (l++n))] (cT (cT P)) ?_
    exact Kn.RE Fm [(11,49)] (u ((b+1),(l++n)) h)
   ·exact AW.exit (Kn.R Fm (w l h))
theorem region_Limited_spec {F:Nat} {a:(List Rect)} {r:Region×Int} (h:region_Limited F a=some r) :
  FSpec Tryz.prog 204 [AL a] [] (.t [.g [.d (DL (α:=Rect) r.1.rects_)],.c (ci r.2)]) []:=by
 refine FI Tryz.func204 prog_mixed prog_lay fun C Fm=>?_
 unfold region_Limited at h
 refine AW.SG0 Fm 2 [(0,AL a),(2,pt 2)] [(2,bx [.fl 0 fun _=>[]])] ?_
 refine AW.seq (AW.SG0 Fm 3 [(0,AL a),(2,pt 2),(6,vb (decide ((120:Int)<(lI a))))] [(2,bx [.fl 0 fun _=>[]])] ?_)
 refine AW.cN h (fun b h=>?_) (fun b h=>?_)
 ·refine AW.SP Fm [.w (.v (.g [.d (DL (α:=Rect) [])])),.s,.s] [(2,pt 2),(3,vi 1)] [(2,bx [.d (DL (α:=Rect) [])])] (cT (ALe.g ⟨CLe.fl .nil,⟨⟩⟩ : ALe (.v (.g [.fl 0 fun _=>[]])) (.v (.g [.d (DL (α:=Rect) [])])))) ?_
  refine AW.ret ?_
  obtain rfl:=Option.some.inj h
  exact Kn.D Fm
 ·refine AW.skip (AW.SG0 Fm 4 [(2,pt 2),(3,vi 0)] [(2,bx [.d (DL a)])] ?_)
  refine AW.ret ?_
  obtain rfl:=Option.some.inj h
  exact Kn.D Fm
theorem region_Joined_spec {F:Nat} {b:(List Rect)} {r:Region×Int} (h:region_Joined F b=some r) :
  FSpec Tryz.prog 113 [AL b] [] (.t [.g [.d (DL (α:=Rect) r.1.rects_)],.c (ci r.2)]) []:=by
 refine FI Tryz.func113 prog_mixed prog_lay fun C Fm=>?_
 unfold region_Joined at h
 refine AW.SG0 Fm 2 [(0,AL b),(2,pt 2)] [(2,bx [.fl 0 fun _=>[]])] ?_
 refine AW.seq ?_
 obtain ⟨j,e,h⟩:=bS h
 obtain ⟨a,i,h⟩:=bS h
 refine AW.G Fm [.s,.k (cE [] [] (AL j) [] []),.k (cE [] [] (.t [.g [.d (DL a.1.rects_)],.c (ci a.2)]) [] []),.s,.s,.s,.s] (fun K=>K 1∧K 2∧True) [(2,pt 2),(3,vi a.2)] [(2,bx [.d (DL a.1.rects_)])] ⟨KAt.CC (region_canonical_spec e) Tryz.call186 [],KAt.CC (region_Limited_spec i) Tryz.call204 [],⟨⟩⟩ ?_
 refine AW.ret ?_
 obtain rfl:=Option.some.inj h
 exact Kn.D Fm
theorem rotation_Repeats_spec {F:Nat} {a:(List Line)} {b:(List Crop)} {e:(List Record)} {i:Int} {j:Int} {r:Region×Int} (h:rotation_Repeats F a b e i j=some r) :
  FSpec Tryz.prog 84 [AL a,AL b,AL e,vi i,vi j] [] (.t [.g [.d (DL (α:=Rect) r.1.rects_)],.c (ci r.2)]) []:=by
 refine FI Tryz.func84 prog_mixed prog_lay fun C Fm=>?_
 unfold rotation_Repeats at h
 refine AW.SG0 Fm 2 [(0,AL a),(1,AL b),(2,AL e),(3,vi i),(4,vi j),(10,pt 10)] [(10,bx [.fl 0 fun _=>[]])] ?_
 refine AW.seq (AW.seq ?_)
 obtain ⟨l,o,h⟩:=bS h
 refine AW.G Fm [.s,.s,.s,.s,.s,.k (cE [] [] (vi l) [] []),.s] (fun K=>K 5∧True) [(0,AL a),(1,AL b),(2,AL e),(3,vi i),(4,vi j),(10,pt 10),(12,vi l)] [(10,bx [.fl 0 fun _=>[]])] ⟨KAt.CC (rotation_start_spec o) Tryz.call172 [],⟨⟩⟩ ?_
 refine AW.SG0 Fm 2 [(0,AL a),(1,AL b),(2,AL e),(3,vi i),(4,vi j),(10,pt 10),(12,vi l),(20,vb (l != (0:Int)))] [(10,bx [.fl 0 fun _=>[]])] ?_
 refine AW.cN h (fun n h=>?_) (fun n h=>?_)
 ·refine AW.SP Fm [.w (.v (.g [.d (DL (α:=Rect) [])])),.s,.s,.s] [(10,pt 10),(11,vi l)] [(10,bx [.d (DL (α:=Rect) [])])] (cT (ALe.g ⟨CLe.fl .nil,⟨⟩⟩ : ALe (.v (.g [.fl 0 fun _=>[]])) (.v (.g [.d (DL (α:=Rect) [])])))) ?_
  refine AW.ret ?_
  obtain rfl:=Option.some.inj h
  exact Kn.D Fm
 ·refine AW.skip (AW.seq ?_)
  obtain ⟨u,p,h⟩:=bS h
  obtain ⟨m,q,h⟩:=bS h
  refine AW.G Fm [.s,.s,.s,.s,.s,.k (cE [] [] (AL u) [] []),.k (cE [] [] (.t [.g [.d (DL m.1.rects_)],.c (ci m.2)]) [] []),.s,.s,.s,.s] (fun K=>K 5∧K 6∧True) [(10,pt 10),(11,vi m.2)] [(10,bx [.d (DL m.1.rects_)])] ⟨KAt.CC (rotation_repeated_spec p) Tryz.call173 [],KAt.CC (region_Joined_spec q) Tryz.call113 [],⟨⟩⟩ ?_
  refine AW.ret ?_
  obtain rfl:=Option.some.inj h
  exact Kn.D Fm
theorem rotation_area_spec {F:Nat} {a:(List Line)} {r:Int} (h:rotation_area F a=some r) :
  FSpec Tryz.prog 176 [AL a] [] (vi r) []:=by
 refine FI Tryz.func176 prog_mixed prog_lay fun C Fm=>?_
 unfold rotation_area at h
 refine AW.SG0 Fm 1 [(0,AL a)] [] ?_
 refine AW.SG0 Fm 1 [(0,AL a),(3,vi 0)] [] ?_
 refine AW.join (r:=r) (fun z:Int=>rotation_area_k1 F z) (fun z=>[(3,vi z)]) (fun z=>[]) (fun q h=>?_) (fun u j=>?_)
 ·refine AW.SG0 Fm 2 [(2,vi q)] [] ?_
  refine AW.ret ?_
  obtain rfl:=Option.some.inj h
  exact Kn.D Fm
 ·refine AW.SG0 Fm 3 [(3,vi 0),(6,AL a),(7,vi (lI a)),(8,vi 0)] [] ?_
  refine AW.block (AW.loopF (E' := fun z=>[(3,vi z.1),(6,AL a),(7,vi (lI a)),(8,vi z.2)]) (S' := fun z=>[]) (fun w z t i h=>?_) h)
  obtain ⟨c,b⟩:=z
  refine AW.SG0 Fm 1 [(3,vi c),(6,AL a),(7,vi (lI a)),(8,vi b),(9,vb (decide (b<(lI a))))] [] ?_
  refine AW.seq (AW.cN h (fun l h=>?_) (fun l h=>?_))
  ·refine AW.skip (AW.seq (AW.block ?_))
   obtain ⟨m,h⟩:=gS h
   refine AW.SP Fm [.s,.s,.s,.s] [(3,vi c),(5,pt 5),(6,AL a),(7,vi (lI a)),(8,vi b)] [(5,bx [ci ((gl a b.toNat).parcel_),.d (DL (α:=Rect) (gl a b.toNat).region_.rects_),ci ((gl a b.toNat).crop_),ci ((gl a b.toNat).schemes_)])] (cT m) ?_
   obtain ⟨e,p,h⟩:=bS h
   obtain ⟨n,h⟩:=gS h
   refine AW.G Fm [.s,.s,.s,.k (cE [] [] (vi e) [] []),.s,.s] (fun K=>K 3∧(_∧True)∧True) [(3,vi (c+e)),(6,AL a),(7,vi (lI a)),(8,vi b)] [] ⟨KAt.CC (region_Area_spec p) Tryz.call169 [],⟨n,⟨⟩⟩,⟨⟩⟩ ?_
   obtain ⟨o,h⟩:=gS h
   refine AW.pN Fm [.s,.s] [(3,vi (c+e)),(6,AL a),(7,vi (lI a)),(8,vi (b+1))] [] (cT (cT o)) ?_
   exact Kn.R Fm (i ((c+e),(b+1)) h)
  ·exact AW.exit (Kn.R Fm (j c h))
theorem rotation_Rotates_spec {F:Nat} {b:(List Line)} {e:(List Crop)} {i:(List Record)} {j:Int} {l:Int} {a:Int} {r:Bool×Int} (h:rotation_Rotates F b e i j l a=some r) :
  FSpec Tryz.prog 89 [AL b,AL e,AL i,vi j,vi l,vi a] [] (.t [.c (.d (.bool r.1)),.c (ci r.2)]) []:=by
 refine FI Tryz.func89 prog_mixed prog_lay fun C Fm=>?_
 unfold rotation_Rotates at h
 refine AW.SG0 Fm 2 [(0,AL b),(1,AL e),(2,AL i),(3,vi j),(4,vi l),(5,vi a)] [] ?_
 refine AW.seq (AW.seq ?_)
 obtain ⟨m,w,h⟩:=bS h
 refine AW.G Fm [.s,.s,.s,.s,.s,.s,.k (cE [] [] (vi m) [] []),.s] (fun K=>K 6∧True) [(0,AL b),(1,AL e),(2,AL i),(3,vi j),(4,vi l),(5,vi a),(14,vi m)] [] ⟨KAt.CC (rotation_start_spec w) Tryz.call172 [],⟨⟩⟩ ?_
 refine AW.SG0 Fm 2 [(0,AL b),(1,AL e),(2,AL i),(3,vi j),(4,vi l),(5,vi a),(14,vi m),(24,vb (m != (0:Int)))] [] ?_
 refine AW.cN h (fun p h=>?_) (fun p h=>?_)
 ·refine AW.SG0 Fm 3 [(12,vb false),(13,vi m)] [] ?_
  refine AW.ret ?_
  obtain rfl:=Option.some.inj h
  exact Kn.D Fm
 ·refine AW.skip (AW.seq ?_)
  obtain ⟨H,y,h⟩:=bS h
  obtain ⟨n,A,h⟩:=bS h
  refine AW.G Fm [.s,.s,.s,.s,.s,.k (cE [] [] (AL H) [] []),.k (cE [] [] (vi n) [] []),.s] (fun K=>K 5∧K 6∧True) [(0,AL b),(1,AL e),(5,vi a),(15,vi n)] [] ⟨KAt.CC (rotation_repeated_spec y) Tryz.call173 [],KAt.CC (region_Size_spec A) Tryz.call178 [],⟨⟩⟩ ?_
  refine AW.seq ?_
  obtain ⟨q,h⟩:=gS h
  obtain ⟨I,B,h⟩:=bS h
  obtain ⟨o,E,h⟩:=bS h
  obtain ⟨u,h⟩:=gS h
  refine AW.G Fm [.s,.s,.s,.s,.s,.k (cE [] [] (AL I) [] []),.k (cE [] [] (vi o) [] []),.s,.s,.s,.s] (fun K=>(_∧True)∧K 5∧K 6∧(_∧True)∧True) [(12,vb (decide ((n*(1000000:Int))≤(a*o)))),(13,vi 0)] [] ⟨⟨q,⟨⟩⟩,KAt.CC (rotation_arable_spec B) Tryz.call168 [],KAt.CC (rotation_area_spec E) Tryz.call176 [],⟨u,⟨⟩⟩,⟨⟩⟩ ?_
  refine AW.ret ?_
  obtain rfl:=Option.some.inj h
  exact Kn.D Fm
theorem rotation_Covered_spec {F:Nat} {j:(List Line)} {e:(List Crop)} {b:Int} {r:Bool×Int} (h:rotation_Covered F j e b=some r) :
  FSpec Tryz.prog 87 [AL j,AL e,vi b] [] (.t [.c (.d (.bool r.1)),.c (ci r.2)]) []:=by
 refine FI Tryz.func87 prog_mixed prog_lay fun C Fm=>?_
 unfold rotation_Covered at h
 refine AW.SG0 Fm 2 [(0,AL j),(1,AL e),(2,vi b)] [] ?_
 refine AW.seq (AW.seq ?_)
 obtain ⟨m,W,h⟩:=bS h
 refine AW.G Fm [.s,.s,.k (cE [] [] (vi m) [] []),.s] (fun K=>K 2∧True) [(0,AL j),(1,AL e),(2,vi b),(8,vi m)] [] ⟨KAt.CC (rotation_check_spec W) Tryz.call167 [],⟨⟩⟩ ?_
 refine AW.SG0 Fm 2 [(0,AL j),(1,AL e),(2,vi b),(8,vi m),(17,vb (m != (0:Int)))] [] ?_
 refine AW.cN h (fun H h=>?_) (fun H h=>?_)
 ·refine AW.SG0 Fm 3 [(6,vb false),(7,vi m)] [] ?_
  refine AW.ret ?_
  obtain rfl:=Option.some.inj h
  exact Kn.D Fm
 ·refine AW.skip (AW.seq (AW.join (r:=r) (fun z:Bool=>rotation_Covered_k0 F j e b z) (fun z=>[(0,AL j),(1,AL e),(2,vi b),(24,vb z)]) (fun z=>[]) (fun i0 h=>?_) (fun b0 p=>?_)))
  ·refine AW.cN h (fun I h=>?_) (fun I h=>?_)
   ·refine AW.SG0 Fm 2 [(6,vb false),(7,vi 2)] [] ?_
    refine AW.ret ?_
    obtain rfl:=Option.some.inj h
    exact Kn.D Fm
   ·refine AW.skip (AW.seq ?_)
    obtain ⟨a,X,h⟩:=bS h
    refine AW.G Fm [.s,.s,.k (cE [] [] (AL a) [] []),.s] (fun K=>K 2∧True) [(1,AL e),(2,vi b),(9,AL a)] [] ⟨KAt.CC (rotation_arable_spec X) Tryz.call168 [],⟨⟩⟩ ?_
    refine AW.SG0 Fm 1 [(1,AL e),(2,vi b),(9,AL a),(10,vi 0)] [] ?_
    refine AW.join (r:=r) (fun z:Int=>rotation_Covered_k3 F b a z) (fun z=>[(2,vi b),(9,AL a),(10,vi z)]) (fun z=>[]) (fun a0 h=>?_) (fun e0 E=>?_)
    ·refine AW.seq ?_
     obtain ⟨U,h⟩:=gS h
     obtain ⟨y,Z,h⟩:=bS h
     obtain ⟨V,h⟩:=gS h
     refine AW.G Fm [.s,.s,.s,.s,.k (cE [] [] (vi y) [] []),.s,.s,.s,.s] (fun K=>(_∧True)∧K 4∧(_∧True)∧True) [(6,vb (decide ((b*y)≤(a0*(1000000:Int))))),(7,vi 0)] [] ⟨⟨U,⟨⟩⟩,KAt.CC (rotation_area_spec Z) Tryz.call176 [],⟨V,⟨⟩⟩,⟨⟩⟩ ?_
     refine AW.ret ?_
     obtain rfl:=Option.some.inj h
     exact Kn.D Fm
    ·refine AW.SG0 Fm 3 [(1,AL e),(2,vi b),(9,AL a),(10,vi 0),(28,AL a),(29,vi (lI a)),(30,vi 0)] [] ?_
     refine AW.block (AW.loopF (E' := fun z=>[(1,AL e),(2,vi b),(9,AL a),(10,vi z.1),(28,AL a),(29,vi (lI a)),(30,vi z.2)]) (S' := fun z=>[]) (fun A z c0 B h=>?_) h)
     obtain ⟨l,i⟩:=z
     refine AW.SG0 Fm 1 [(1,AL e),(2,vi b),(9,AL a),(10,vi l),(28,AL a),(29,vi (lI a)),(30,vi i),(31,vb (decide (i<(lI a))))] [] ?_
     refine AW.seq (AW.cN h (fun L h=>?_) (fun L h=>?_))
     ·refine AW.skip (AW.join (r:=r) (fun z:Int=>rotation_Covered_k2 F i A z) (fun z=>[(1,AL e),(2,vi b),(9,AL a),(10,vi z),(28,AL a),(29,vi (lI a)),(30,vi i)]) (fun z=>[]) (fun u h=>?_) (fun d0 q=>?_))
      ·obtain ⟨T,h⟩:=gS h
       refine AW.pN Fm [.s,.s] [(1,AL e),(2,vi b),(9,AL a),(10,vi u),(28,AL a),(29,vi (lI a)),(30,vi (i+1))] [] (cT (cT T)) ?_
       exact Kn.R Fm (B (u,(i+1)) h)
      ·refine AW.block ?_
       obtain ⟨N,h⟩:=gS h
       refine AW.SP Fm [.s,.s,.s,.s] [(1,AL e),(2,vi b),(9,AL a),(10,vi l),(12,pt 12),(28,AL a),(29,vi (lI a)),(30,vi i)] [(12,bx [ci ((gl a i.toNat).parcel_),.d (DL (α:=Rect) (gl a i.toNat).region_.rects_),ci ((gl a i.toNat).crop_),ci ((gl a i.toNat).schemes_)])] (cT N) ?_
       obtain ⟨O,h⟩:=gS h
       refine AW.SP Fm [.s,.s,.s,.s,.s,.s,.s,.s] [(1,AL e),(2,vi b),(9,AL a),(10,vi l),(12,pt 12),(28,AL a),(29,vi (lI a)),(30,vi i),(41,vb ((band .i64 ((gl e ((gl a i.toNat).crop_).toNat).marks_) (28:Int)) != (0:Int)))] [(12,bx [ci ((gl a i.toNat).parcel_),.d (DL (α:=Rect) (gl a i.toNat).region_.rects_),ci ((gl a i.toNat).crop_),ci ((gl a i.toNat).schemes_)])] (cT O) ?_
       refine AW.cN h (fun M h=>?_) (fun M h=>?_)
       ·obtain ⟨o,Y,h⟩:=bS h
        obtain ⟨P,h⟩:=gS h
        refine AW.G Fm [.s,.s,.s,.k (cE [] [] (vi o) [] []),.s,.s] (fun K=>K 3∧(_∧True)∧True) [(1,AL e),(2,vi b),(9,AL a),(10,vi (l+o)),(28,AL a),(29,vi (lI a)),(30,vi i)] [] ⟨KAt.CC (region_Area_spec Y) Tryz.call169 [],⟨P,⟨⟩⟩,⟨⟩⟩ ?_
        exact Kn.R Fm (q (l+o) h)
       ·exact AW.skip (Kn.R Fm (q l h))
     ·exact AW.exit (Kn.R Fm (E l h))
  ·rcases br_or h with ⟨n,h⟩|⟨n,h⟩
   ·refine AW.pN Fm [.s,.s,.w (vb true),.s,.s,.s] [(0,AL j),(1,AL e),(2,vi b),(24,vb true)] [] (cT (ALe.bool n)) ?_
    exact Kn.R Fm (p true h)
   ·refine AW.pN Fm [.s,.s,.w (vb false),.s,.s,.s] [(0,AL j),(1,AL e),(2,vi b),(24,vb (decide ((1000000:Int)<b)))] [] (cT (ALe.bool n)) ?_
    exact Kn.R Fm (p (decide ((1000000:Int)<b)) h)
end Go.Ab
end
