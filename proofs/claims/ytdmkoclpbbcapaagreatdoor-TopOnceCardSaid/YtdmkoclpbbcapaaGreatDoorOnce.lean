/- TopOnceCard is true. -/
import Derived.Test.YtdmkoclpbbcapaaGreatDoorRows
import Derived.Test.YtdmkoclpbbcapaaGreatDoorCards
import Derived.Test.YtdmkoclpbbcapaaGreatDoorTie
import Derived.Test.YtdmkoclpbbcapaaGreatDoorAbC
import Derived.Test.YtdmkoclpbbcapaaGreatDoorSpC
import Derived.Test.YtdmkoclpbbcapaaGreatDoorAbI
import Derived.JoinedOf
import Derived.JoinedAt
import Derived.Deep.DeepHandedRow
import Derived.Lay
import Derived.LaidHandle
import Derived.SevenTiedAt
import Derived.LaidLaws
set_option linter.unusedVariables false
set_option linter.unusedSimpArgs false
section
namespace Go.Proofs.YtdmkoclpbbcapaaGreatDoor.topOnce
open Go.ChangeShapes Go.WideShapes Go.ChangeAt Go.RowKit Go.Ab
set_option maxRecDepth 100000
theorem own:ownKnob Tryz.prog.godebug=none:=by kernel_rfl
theorem laidOut:laidOutB Tryz.prog=true:=by kernel_rfl
theorem law (l:List Int)  : ∃ F,My F l=some true:=⟨(Q6+3),Q5h (Nat.le_refl _) l ⟩
theorem contract (H:Type) (enc:TypeId×Value→H) (W:World) (base:Nat) (args:Array Value) (ds gs:List (DataW H)) (before:List MemPlace)
  (hval:∀ (j:Nat) t v,Tryz.f3.params[j]?=some t→args[j]?=some v→Value.okWide Tryz.prog W .any base t v)
  (hW:DataW.Whole enc Tryz.prog Tryz.f3.params.toList Rows.topOnceSpec.vars false W args.toList ds gs before) :
  Calls Tryz.prog 3 args W fun e W'=>∃ v,e=.returned v∧Rows.topOnceSpec.post enc Tryz.prog Tryz.f3 false true false false W args v W':=by
 have hW':=hW;obtain ⟨p,q,hA0,hV,rfl,_,_⟩:=hW
 have hA:DataW.TrodAll enc Tryz.prog W 0 (fun _=>true) true Tryz.f3.params.toList args.toList ds p:=hA0;rw [Tryz.params3] at hA hval
 obtain ⟨v0,vs0,d0,ds0,p0,q0,hargs0,rfl,rfl,h0,r0⟩:=trodAll_cons hA;obtain ⟨rfl,rfl,rfl⟩:=trodAll_nil r0
 obtain rfl:args=#[v0]:=by cases args;simp_all
 obtain ⟨rfl,rfl⟩:=trodVars_none hV;obtain ⟨l,hl,_⟩:=Z0Z Tryz.underlying22 Tryz.underlying3 (by kernel_rfl) (hval 0 22 v0 rfl rfl) h0
 obtain ⟨F,hF⟩:=law l;have hsp:=Q5g hF W (fun _=>False) (fun _=>undef) #[v0] (fun b hb=>hb.elim) (fun b ⟨i,o,hi,_⟩=>by cases hi) (fun i o hi=>by cases hi) (fun i j b hi=>absurd rfl hi) rfl
  (fun j hj=>by
   have:j=0:=by simp at hj;omega
   subst this;exact .v _ _ (.c _ _ (.d _ _ hl)))
 refine hsp.mono fun e W' hh=>?_
 obtain ⟨v,η',he,hb⟩:=hh;have hres:=hb.res
 have hv:v=.bool true:=by
  cases hres with|v _ _ hh=>cases hh with|c _ _ hh=>cases hh with|d _ _ hh=>cases hh;rfl
 subst hv;refine ⟨_,he,Z0v laidOut hW' rfl rfl (by kernel_rfl) (t:=4) (by kernel_rfl) Tryz.underlying4 (hb.stp.mono fun b _ hM=>by obtain ⟨i,o,hi,_⟩:=hM;cases hi)⟩
set_option maxRecDepth 100000 in
theorem lifted (os:Os) (started:os.Started) (H:Type) (enc:TypeId×Value→H) :
  ReturnsInHanded {} Tryz.checked os 3 .any (fun w args=>(Rows.topOnceSpec.pre enc Tryz.prog Tryz.f3 Rows.topOnceRow.domain false w args∧laidMetH Tryz.prog Rows.topOnceRow.laid w)∧sizedMet enc Tryz.prog Tryz.f3 (OpenSpec.ofChange Rows.topOnceSpec) false w args)
   (Rows.topOnceSpec.post enc Tryz.prog Tryz.f3 false true false false):=by
 refine returnsInHanded_of_change_and (C:=Tryz.checked) (X:=fun w _=>laidMetH Tryz.prog Rows.topOnceRow.laid w) (fun _ _ _ hh h=>h.of_heap hh) own started (by kernel_rfl) Tryz.func3
  (ChangeSpec.witness_shaped (enc:=enc) (C:=Tryz.checked) (os:=os) (X:=fun w _=>laidMetH Tryz.prog Rows.topOnceRow.laid w) false (World.laidAll Tryz.prog os Rows.topOnceRow.laid) #[.slice none 0 0] 8 (World.laidAll_os _ _ _)
   (World.shaped_of_ZipB (by kernel_rfl) (by kernel_rfl)) (by kernel_rfl) (by kernel_rfl) (by kernel_rfl)
   (by rw [MakeChecks.laidMetH_plain _ _ _ (by kernel_rfl)];exact laidMet_laidAll _ (by kernel_rfl) (by kernel_rfl))) ?_
 intro W base args ds gs before hval hW _ _ _ _;exact contract H enc W base args ds gs before hval hW
theorem am {a b:Bool} (h:a=true) (h' : b=true):(a&&b)=true:=by rw [h,h'];rfl
theorem cA:(Rows.topOnceRow.wf (OpenSpec.ofChange Rows.topOnceSpec)&&laidOutB Tryz.pinned.checked.prog&&mapsRowed Tryz.pinned.checked.prog&&Tryz.f3.params.all (Tryz.pinned.checked.prog.readableRec ·)&&namedTie Tryz.pinned.checked.prog Rows.topOnceRow.named Rows.topOnceSpec.vars&&(Rows.topOnceRow.stops==[])&&(Tryz.pinned.checked.prog.stops==[])&&(Rows.topOnceRow.knobs==[])&&(Tryz.pinned.checked.prog.stopKnobs==[]))=true:=by kernel_rfl
theorem cB:(Rows.topOnceRow.inPlace==Tryz.pinned.checked.prog.inPlace 3)=true:=by kernel_rfl
theorem cC:(Rows.topOnceRow.unfollowed==Tryz.pinned.checked.prog.unfollowed 3)=true:=by kernel_rfl
theorem cD:(Rows.topOnceRow.recurses==Tryz.pinned.checked.prog.recurses 3)=true:=by kernel_rfl
theorem cE:(Rows.topOnceRow.named==Tryz.pinned.checked.prog.varsNamed 3)=true:=by kernel_rfl
theorem cF:Tryz.pinned.checked.prog.mayEnter=true:=by kernel_rfl
theorem cG:(Rows.topOnceRow.lifted==Tryz.pinned.checked.prog.liftsFinal)=true:=by kernel_rfl
theorem cH:(Tryz.pinned.checked.prog.make==some Rows.topOnceRow.make)=true:=by kernel_rfl
theorem closed:joinedFacts Tryz.pinned.checked.prog 3 Tryz.f3 Rows.topOnceSpec Rows.topOnceRow=true:=
 am (am (am (am (am (am (am (am (am (am (am (am (am (am (am (am (am (am (am (am (am (am (am cA cB) cC) cD) cE) (by kernel_rfl)) (by kernel_rfl)) (by kernel_rfl)) (by kernel_rfl)) (by kernel_rfl)) (by kernel_rfl)) (by kernel_rfl)) (by kernel_rfl)) (by kernel_rfl)) (by kernel_rfl)) (by kernel_rfl)) (by kernel_rfl)) cF) cG) cH) (by kernel_rfl)) (by kernel_rfl)) (by kernel_rfl)) (by kernel_rfl)
theorem row_holds:Rows.TopOnceSaid:=
 OpenClaim.holds_of_wide 3 Tryz.f3 rfl rfl rfl rfl rfl rfl rfl ⟨rfl,rfl,rfl,rfl,rfl⟩ rfl rfl rfl rfl rfl (by kernel_rfl) Tryz.func3 closed
  (of_decide_eq_true (by kernel_rfl)) (by unfold Func.isWrapper;first | (rw [if_pos (by decide +kernel)];kernel_rfl) | (rw [if_neg (by decide +kernel)];exact ⟨rfl,rfl⟩))
  (fun os started H enc _=>lifted os started H enc)
theorem dA:Rows.topOnceRow.wfByText (OpenSpec.ofChange Rows.topOnceSpec)=true:=by kernel_rfl
theorem dB:Tryz.pinned.checked.prog.mainIs=some (true, "ed35eb85649d50795540f3eef9bd39eeb29f56e8dfd8d28c9aca0216a54c11dd".toList):=by kernel_rfl
theorem dC:Tryz.prog.funcNamed Rows.topOnceRow.func=some 3:=by kernel_rfl
theorem dD:false=Tryz.pinned.checked.prog.looks []:=by kernel_rfl
theorem dE:false=Rows.topOnceRow.goesBy Tryz.pinned.checked.prog:=by kernel_rfl
theorem dF:([22].all fun u=> !Tryz.prog.wantsStandIn u)=true:=by kernel_rfl
theorem proved:Rows.TopOnceCardSaid:=
 Claim7.holds_tied_plain_at .later [] [.data,.pinned] true (true, "ed35eb85649d50795540f3eef9bd39eeb29f56e8dfd8d28c9aca0216a54c11dd") false row_holds (fun _ h=>by cases h) dA (fun _ h=>by cases h) topOnce_row_tie rfl ⟨rfl,rfl⟩ dB rfl
  (fun f fn hf hfn=>by
   obtain rfl:f=3:=Option.some.inj (dC.symm.trans hf) |>.symm
   obtain rfl:fn=Tryz.f3:=(Option.some.inj (Tryz.func3.symm.trans hfn)).symm;exact ⟨dD,fun j t ht=>by
    rw [Tryz.params3] at ht;have hm:t ∈ [22]:=by simpa using Array.mem_of_getElem? ht
    exact (show Tryz.prog.wantsStandIn t=false by simpa using List.all_eq_true.1 dF t hm)⟩)
  dE
end Go.Proofs.YtdmkoclpbbcapaaGreatDoor.topOnce
end
