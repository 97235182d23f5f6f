/- EligibleDivides is true. -/
import Derived.Test.YtgfmopdbhjcpfaaGreatRows
import Derived.Test.YtgfmopdbhjcpfaaGreatAbC
import Derived.Test.YtgfmopdbhjcpfaaGreatSpA
import Derived.Test.YtgfmopdbhjcpfaaGreatSpB
import Derived.Test.YtgfmopdbhjcpfaaGreatAbF
import Derived.JoinedOf
import Derived.JoinedAt
import Derived.Deep.DeepHandedRow
set_option linter.unusedVariables false
set_option linter.unusedSimpArgs false
section
namespace Go.Proofs.YtgfmopdbhjcpfaaGreat.eligibleDivides
open Go.ChangeShapes Go.WideShapes Go.ChangeAt Go.RowKit Go.Ab
set_option maxRecDepth 100000
theorem own:ownKnob Tryz.prog.godebug=none:=by kernel_rfl
theorem laidOut:laidOutB Tryz.prog=true:=by kernel_rfl
theorem law (l:List Int)  : ∃ F,Q2z F l=some true:=⟨(BIG+3),Z3p (Nat.le_refl _) l ⟩
theorem contract (H:Type) (enc:TypeId×Value→H) (W:World) (base:Nat) (args:Array Value) (ds gs:List (DataW H)) (before:List MemPlace)
  (hval:∀ (j:Nat) t v,Tryz.f7.params[j]?=some t→args[j]?=some v→Value.okWide Tryz.prog W .any base t v)
  (hW:DataW.Whole enc Tryz.prog Tryz.f7.params.toList Rows.eligibleDividesSpec.vars false W args.toList ds gs before) :
  Calls Tryz.prog 7 args W fun e W'=>∃ v,e=.returned v∧Rows.eligibleDividesSpec.post enc Tryz.prog Tryz.f7 false true false false W args v W':=by
 have hW':=hW;obtain ⟨p,q,hA0,hV,rfl,_,_⟩:=hW
 have hA:DataW.TrodAll enc Tryz.prog W 0 (fun _=>true) true Tryz.f7.params.toList args.toList ds p:=hA0;rw [Tryz.params7] at hA hval
 obtain ⟨v0,vs0,d0,ds0,p0,q0,hargs0,rfl,rfl,h0,r0⟩:=trodAll_cons hA;obtain ⟨rfl,rfl,rfl⟩:=trodAll_nil r0
 obtain rfl:args=#[v0]:=by cases args;simp_all
 obtain ⟨rfl,rfl⟩:=trodVars_none hV;obtain ⟨l,hl,_⟩:=Y7f Tryz.underlying22 Tryz.underlying3 (by kernel_rfl) (hval 0 22 v0 rfl rfl) h0
 obtain ⟨F,hF⟩:=law l;have hsp:=Z2l hF W (fun _=>False) (fun _=>undef) #[v0] (fun b hb=>hb.elim) (fun b ⟨i,o,hi,_⟩=>by cases hi) (fun i o hi=>by cases hi) (fun i j b hi=>absurd rfl hi) rfl
  (fun j hj=>by
   have:j=0:=by simp at hj;omega
   subst this;exact .v _ _ (.c _ _ (.d _ _ hl)))
 refine hsp.mono fun e W' hh=>?_
 obtain ⟨v,η',he,hb⟩:=hh;have hres:=hb.res
 have hv:v=.bool true:=by
  cases hres with|v _ _ hh=>cases hh with|c _ _ hh=>cases hh with|d _ _ hh=>cases hh;rfl
 subst hv;refine ⟨_,he,Y8M laidOut hW' rfl rfl (by kernel_rfl) (t:=4) (by kernel_rfl) Tryz.underlying4 (hb.stp.mono fun b _ hM=>by obtain ⟨i,o,hi,_⟩:=hM;cases hi)⟩
set_option maxRecDepth 100000 in
theorem lifted (os:Os) (started:os.Started) (H:Type) (enc:TypeId×Value→H) :
  ReturnsInHanded {} Tryz.checked os 7 .any (Rows.eligibleDividesSpec.pre6 enc Tryz.prog Tryz.f7 Rows.eligibleDividesRow.domain false) (Rows.eligibleDividesSpec.post enc Tryz.prog Tryz.f7 false true false false):=by
 refine returnsInHanded_of_change (C:=Tryz.checked) own started (by kernel_rfl) Tryz.func7
  (ChangeSpec.witness6 (enc:=enc) (C:=Tryz.checked) false ⟨#[], #[.slice none 0 0],[]⟩ 8 (by kernel_rfl) (by kernel_rfl) (by kernel_rfl) (by kernel_rfl)) ?_
 intro W base args ds gs before hval hW _ _;exact contract H enc W base args ds gs before hval hW
theorem am {a b:Bool} (h:a=true) (h' : b=true):(a&&b)=true:=by rw [h,h'];rfl
theorem cA:(Rows.eligibleDividesRow.wf (OpenSpec.ofChange Rows.eligibleDividesSpec)&&laidOutB Tryz.pinned.checked.prog&&mapsRowed Tryz.pinned.checked.prog&&Tryz.f7.params.all (Tryz.pinned.checked.prog.readableRec ·)&&namedTie Tryz.pinned.checked.prog Rows.eligibleDividesRow.named Rows.eligibleDividesSpec.vars&&(Rows.eligibleDividesRow.stops==[])&&(Tryz.pinned.checked.prog.stops==[])&&(Rows.eligibleDividesRow.knobs==[])&&(Tryz.pinned.checked.prog.stopKnobs==[]))=true:=by kernel_rfl
theorem cB:(Rows.eligibleDividesRow.inPlace==Tryz.pinned.checked.prog.inPlace 7)=true:=by kernel_rfl
theorem cC:(Rows.eligibleDividesRow.unfollowed==Tryz.pinned.checked.prog.unfollowed 7)=true:=by kernel_rfl
theorem cD:(Rows.eligibleDividesRow.recurses==Tryz.pinned.checked.prog.recurses 7)=true:=by kernel_rfl
theorem cE:(Rows.eligibleDividesRow.named==Tryz.pinned.checked.prog.varsNamed 7)=true:=by kernel_rfl
theorem cF:Tryz.pinned.checked.prog.mayEnter=true:=by kernel_rfl
theorem cG:(Rows.eligibleDividesRow.lifted==Tryz.pinned.checked.prog.liftsFinal)=true:=by kernel_rfl
theorem cH:(Tryz.pinned.checked.prog.make==some Rows.eligibleDividesRow.make)=true:=by kernel_rfl
theorem closed:joinedFacts Tryz.pinned.checked.prog 7 Tryz.f7 Rows.eligibleDividesSpec Rows.eligibleDividesRow=true:=
 am (am (am (am (am (am (am (am (am (am (am (am (am (am (am (am (am (am (am (am (am (am (am cA cB) cC) cD) cE) (by kernel_rfl)) (by kernel_rfl)) (by kernel_rfl)) (by kernel_rfl)) (by kernel_rfl)) (by kernel_rfl)) (by kernel_rfl)) (by kernel_rfl)) (by kernel_rfl)) (by kernel_rfl)) (by kernel_rfl)) (by kernel_rfl)) cF) cG) cH) (by kernel_rfl)) (by kernel_rfl)) (by kernel_rfl)) (by kernel_rfl)
theorem proved:Rows.EligibleDividesSaid:=
 OpenClaim.holds_of_wide 7 Tryz.f7 rfl rfl rfl rfl rfl rfl rfl ⟨rfl,rfl,rfl,rfl,rfl⟩ rfl rfl rfl rfl rfl (by kernel_rfl) Tryz.func7 closed
  (of_decide_eq_true (by kernel_rfl)) (by unfold Func.isWrapper;first | (rw [if_pos (by decide +kernel)];kernel_rfl) | (rw [if_neg (by decide +kernel)];exact ⟨rfl,rfl⟩))
  (fun os started H enc _=>lifted os started H enc)
end Go.Proofs.YtgfmopdbhjcpfaaGreat.eligibleDivides
end
