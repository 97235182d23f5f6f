/- TopEntitledCard is true. -/
import Derived.Test.YtlhhgeknhlkakaaGreatDoorRows
import Derived.Test.YtlhhgeknhlkakaaGreatDoorCards
import Derived.Test.YtlhhgeknhlkakaaGreatDoorTie
import Derived.Test.YtlhhgeknhlkakaaGreatDoorAbC
import Derived.Test.YtlhhgeknhlkakaaGreatDoorSpC
import Derived.Test.YtlhhgeknhlkakaaGreatDoorAbH
import Derived.JoinedOf
import Derived.JoinedAt
import Derived.Deep.DeepHandedRow
import Derived.Lay
import Derived.LaidHandle
import Derived.SevenTiedAt
import Derived.LaidLaws
set_option linter.unusedVariables false
set_option linter.unusedSimpArgs false
section
namespace Go.Proofs.YtlhhgeknhlkakaaGreatDoor.topEntitled
open Go.ChangeShapes Go.WideShapes Go.ChangeAt Go.RowKit Go.Ab
set_option maxRecDepth 100000
theorem own:ownKnob Tryz.prog.godebug=none:=by kernel_rfl
theorem laidOut:laidOutB Tryz.prog=true:=by kernel_rfl
theorem law (l:List Int) (a1:Int) (ha1:0≤a1∧a1≤255):∃ F,Mh F l a1=some true:=⟨(Q7+3),Q4A (Nat.le_refl _) l ha1⟩
theorem bounds_u8 {n:Int} (h:(Lit.int .u8 n).wf=true):0≤n∧n≤255:=by
 simpa [Lit.wf,IntKind.min,IntKind.max,IntKind.signed,IntKind.bits] using h
theorem contract (H:Type) (enc:TypeId×Value→H) (W:World) (base:Nat) (args:Array Value) (ds gs:List (DataW H)) (before:List MemPlace)
  (hval:∀ (j:Nat) t v,Tryz.f3.params[j]?=some t→args[j]?=some v→Value.okWide Tryz.prog W .any base t v)
  (hW:DataW.Whole enc Tryz.prog Tryz.f3.params.toList Rows.topEntitledSpec.vars false W args.toList ds gs before) :
  Calls Tryz.prog 3 args W fun e W'=>∃ v,e=.returned v∧Rows.topEntitledSpec.post enc Tryz.prog Tryz.f3 false true false false W args v W':=by
 have hW':=hW;obtain ⟨p,q,hA0,hV,rfl,_,_⟩:=hW
 have hA:DataW.TrodAll enc Tryz.prog W 0 (fun _=>true) true Tryz.f3.params.toList args.toList ds p:=hA0;rw [Tryz.params3] at hA hval
 obtain ⟨v0,vs0,d0,ds0,p0,q0,hargs0,rfl,rfl,h0,r0⟩:=trodAll_cons hA;obtain ⟨v1,vs1,d1,ds1,p1,q1,hargs1,rfl,rfl,h1,r1⟩:=trodAll_cons r0
 obtain ⟨rfl,rfl,rfl⟩:=trodAll_nil r1;obtain rfl:args=#[v0,v1]:=by cases args;simp_all
 obtain ⟨rfl,rfl⟩:=trodVars_none hV;obtain ⟨l,hl,_⟩:=Z0E Tryz.underlying22 Tryz.underlying3 (by kernel_rfl) (hval 0 22 v0 rfl rfl) h0
 obtain ⟨a1,rfl,rfl,rfl,w1⟩:=open_int Tryz.underlying5 (hval 1 5 v1 rfl rfl) h1;obtain ⟨F,hF⟩:=law l a1 (bounds_u8 w1)
 have hsp:=Q4z hF W (fun _=>False) (fun _=>undef) #[v0,.int .u8 a1] (fun b hb=>hb.elim) (fun b ⟨i,o,hi,_⟩=>by cases hi) (fun i o hi=>by cases hi) (fun i j b hi=>absurd rfl hi) rfl
  (fun j hj=>by
   have:j=0∨j=1:=by simp at hj;omega
   rcases this with rfl|rfl
   ·exact .v _ _ (.c _ _ (.d _ _ hl))
   ·exact .v _ _ (.c _ _ (.d _ _ (.int _ _))))
 refine hsp.mono fun e W' hh=>?_
 obtain ⟨v,η',he,hb⟩:=hh;have hres:=hb.res
 have hv:v=.bool true:=by
  cases hres with|v _ _ hh=>cases hh with|c _ _ hh=>cases hh with|d _ _ hh=>cases hh;rfl
 subst hv;refine ⟨_,he,Z0g laidOut hW' rfl rfl (by kernel_rfl) (t:=4) (by kernel_rfl) Tryz.underlying4 (hb.stp.mono fun b _ hM=>by obtain ⟨i,o,hi,_⟩:=hM;cases hi)⟩
set_option maxRecDepth 100000 in
theorem lifted (os:Os) (started:os.Started) (H:Type) (enc:TypeId×Value→H) :
  ReturnsInHanded {} Tryz.checked os 3 .any (fun w args=>(Rows.topEntitledSpec.pre enc Tryz.prog Tryz.f3 Rows.topEntitledRow.domain false w args∧laidMetH Tryz.prog Rows.topEntitledRow.laid w)∧sizedMet enc Tryz.prog Tryz.f3 (OpenSpec.ofChange Rows.topEntitledSpec) false w args)
   (Rows.topEntitledSpec.post enc Tryz.prog Tryz.f3 false true false false):=by
 refine returnsInHanded_of_change_and (C:=Tryz.checked) (X:=fun w _=>laidMetH Tryz.prog Rows.topEntitledRow.laid w) (fun _ _ _ hh h=>h.of_heap hh) own started (by kernel_rfl) Tryz.func3
  (ChangeSpec.witness_shaped (enc:=enc) (C:=Tryz.checked) (os:=os) (X:=fun w _=>laidMetH Tryz.prog Rows.topEntitledRow.laid w) false (World.laidAll Tryz.prog os Rows.topEntitledRow.laid) #[.slice none 0 0,.int .u8 0] 8 (World.laidAll_os _ _ _)
   (World.shaped_of_ZipB (by kernel_rfl) (by kernel_rfl)) (by kernel_rfl) (by kernel_rfl) (by kernel_rfl)
   (by rw [MakeChecks.laidMetH_plain _ _ _ (by kernel_rfl)];exact laidMet_laidAll _ (by kernel_rfl) (by kernel_rfl))) ?_
 intro W base args ds gs before hval hW _ _ _ _;exact contract H enc W base args ds gs before hval hW
theorem am {a b:Bool} (h:a=true) (h' : b=true):(a&&b)=true:=by rw [h,h'];rfl
theorem cA:(Rows.topEntitledRow.wf (OpenSpec.ofChange Rows.topEntitledSpec)&&laidOutB Tryz.pinned.checked.prog&&mapsRowed Tryz.pinned.checked.prog&&Tryz.f3.params.all (Tryz.pinned.checked.prog.readableRec ·)&&namedTie Tryz.pinned.checked.prog Rows.topEntitledRow.named Rows.topEntitledSpec.vars&&(Rows.topEntitledRow.stops==[])&&(Tryz.pinned.checked.prog.stops==[])&&(Rows.topEntitledRow.knobs==[])&&(Tryz.pinned.checked.prog.stopKnobs==[]))=true:=by kernel_rfl
theorem cB:(Rows.topEntitledRow.inPlace==Tryz.pinned.checked.prog.inPlace 3)=true:=by kernel_rfl
theorem cC:(Rows.topEntitledRow.unfollowed==Tryz.pinned.checked.prog.unfollowed 3)=true:=by kernel_rfl
theorem cD:(Rows.topEntitledRow.recurses==Tryz.pinned.checked.prog.recurses 3)=true:=by kernel_rfl
theorem cE:(Rows.topEntitledRow.named==Tryz.pinned.checked.prog.varsNamed 3)=true:=by kernel_rfl
theorem cF:Tryz.pinned.checked.prog.mayEnter=true:=by kernel_rfl
theorem cG:(Rows.topEntitledRow.lifted==Tryz.pinned.checked.prog.liftsFinal)=true:=by kernel_rfl
theorem cH:(Tryz.pinned.checked.prog.make==some Rows.topEntitledRow.make)=true:=by kernel_rfl
theorem closed:joinedFacts Tryz.pinned.checked.prog 3 Tryz.f3 Rows.topEntitledSpec Rows.topEntitledRow=true:=
 am (am (am (am (am (am (am (am (am (am (am (am (am (am (am (am (am (am (am (am (am (am (am cA cB) cC) cD) cE) (by kernel_rfl)) (by kernel_rfl)) (by kernel_rfl)) (by kernel_rfl)) (by kernel_rfl)) (by kernel_rfl)) (by kernel_rfl)) (by kernel_rfl)) (by kernel_rfl)) (by kernel_rfl)) (by kernel_rfl)) (by kernel_rfl)) cF) cG) cH) (by kernel_rfl)) (by kernel_rfl)) (by kernel_rfl)) (by kernel_rfl)
theorem row_holds:Rows.TopEntitledSaid:=
 OpenClaim.holds_of_wide 3 Tryz.f3 rfl rfl rfl rfl rfl rfl rfl ⟨rfl,rfl,rfl,rfl,rfl⟩ rfl rfl rfl rfl rfl (by kernel_rfl) Tryz.func3 closed
  (of_decide_eq_true (by kernel_rfl)) (by unfold Func.isWrapper;first | (rw [if_pos (by decide +kernel)];kernel_rfl) | (rw [if_neg (by decide +kernel)];exact ⟨rfl,rfl⟩))
  (fun os started H enc _=>lifted os started H enc)
theorem dA:Rows.topEntitledRow.wfByText (OpenSpec.ofChange Rows.topEntitledSpec)=true:=by kernel_rfl
theorem dB:Tryz.pinned.checked.prog.mainIs=some (true, "84792133e53d9fdcfb89e23704bd5d759e8982e664f00ac775c6761347eccc65".toList):=by kernel_rfl
theorem dC:Tryz.prog.funcNamed Rows.topEntitledRow.func=some 3:=by kernel_rfl
theorem dD:false=Tryz.pinned.checked.prog.looks []:=by kernel_rfl
theorem dE:false=Rows.topEntitledRow.goesBy Tryz.pinned.checked.prog:=by kernel_rfl
theorem dF:([22,5].all fun u=> !Tryz.prog.wantsStandIn u)=true:=by kernel_rfl
theorem proved:Rows.TopEntitledCardSaid:=
 Claim7.holds_tied_plain_at .later [] [.data,.pinned] true (true, "84792133e53d9fdcfb89e23704bd5d759e8982e664f00ac775c6761347eccc65") false row_holds (fun _ h=>by cases h) dA (fun _ h=>by cases h) topEntitled_row_tie rfl ⟨rfl,rfl⟩ dB rfl
  (fun f fn hf hfn=>by
   obtain rfl:f=3:=Option.some.inj (dC.symm.trans hf) |>.symm
   obtain rfl:fn=Tryz.f3:=(Option.some.inj (Tryz.func3.symm.trans hfn)).symm;exact ⟨dD,fun j t ht=>by
    rw [Tryz.params3] at ht;have hm:t ∈ [22,5]:=by simpa using Array.mem_of_getElem? ht
    exact (show Tryz.prog.wantsStandIn t=false by simpa using List.all_eq_true.1 dF t hm)⟩)
  dE
end Go.Proofs.YtlhhgeknhlkakaaGreatDoor.topEntitled
end
