/- FeatureAdds is true: at every input the law answers true, no condition but the statement's own. -/
import Derived.Test.YtdfbifjpedjljaaRows
import Derived.Test.YtdfbifjpedjljaaAbC
import Derived.Test.YtdfbifjpedjljaaSpA
import Derived.Test.YtdfbifjpedjljaaAbF
import Derived.JoinedOf
import Derived.JoinedAt
import Derived.Deep.DeepHandedRow
set_option linter.unusedVariables false
set_option linter.unusedSimpArgs false
section
namespace Go.Proofs.Ytdfbifjpedjljaa.featureAdds
open Go.ChangeShapes Go.WideShapes Go.ChangeAt Go.RowKit Go.Ab
set_option maxRecDepth 100000
theorem own:ownKnob Try.prog.godebug=none:=by kernel_rfl
theorem laidOut:laidOutB Try.prog=true:=by kernel_rfl
theorem law (l:List Int)  : ∃ F,law09_FeatureAdds F l=some true:=⟨BIG,law09_FeatureAdds_ok (Nat.le_refl _) l ⟩
theorem contract (H:Type) (enc:TypeId×Value→H) (W:World) (base:Nat) (args:Array Value) (ds gs:List (DataW H)) (before:List MemPlace)
  (hval : ∀ (j:Nat) t v,Try.f3.params[j]? = some t→args[j]? = some v→Value.okWide Try.prog W .any base t v)
  (hW:DataW.Whole enc Try.prog Try.f3.params.toList Rows.featureAddsSpec.vars false W args.toList ds gs before) :
  Calls Try.prog 3 args W fun e W' => ∃ v,e=.returned v∧Rows.featureAddsSpec.post enc Try.prog Try.f3 false true false false W args v W' := by
 have hW' := hW
 obtain ⟨p,q,hA0,hV,rfl,_,_⟩:=hW
 have hA:DataW.TrodAll enc Try.prog W 0 (fun _=>true) true Try.f3.params.toList args.toList ds p:=hA0
 rw [Try.params3] at hA hval
 obtain ⟨v0,vs0,d0,ds0,p0,q0,hargs0,rfl,rfl,h0,r0⟩:=trodAll_cons hA
 obtain ⟨rfl,rfl,rfl⟩:=trodAll_nil r0
 obtain rfl:args = #[v0]:=by cases args; simp_all
 obtain ⟨rfl,rfl⟩:=trodVars_none hV
 obtain ⟨l,hl,_⟩:=open_intsD Try.underlying22 Try.underlying3 (by kernel_rfl) (hval 0 22 v0 rfl rfl) h0
 obtain ⟨F,hF⟩:=law l
 have hsp:=law09_FeatureAdds_spec hF W (fun _=>False) (fun _=>undef) #[v0] (fun b hb=>hb.elim) (fun b ⟨i,o,hi,_⟩=>by cases hi) (fun i o hi=>by cases hi) (fun i j b hi=>absurd rfl hi) rfl
  (fun j hj=>by
   have:j=0:=by simp at hj; omega
   subst this
   exact .v _ _ (.c _ _ (.d _ _ hl)))
 refine hsp.mono fun e W' hh=>?_
 obtain ⟨v,η',he,hb⟩:=hh
 have hres:=hb.res
 have hv:v=.bool true:=by
  cases hres with | v _ _ hh=>cases hh with | c _ _ hh=>cases hh with | d _ _ hh=>cases hh; rfl
 subst hv
 refine ⟨_,he,post_true laidOut hW' rfl rfl (by kernel_rfl) (t:=4) (by kernel_rfl) Try.underlying4 (hb.stp.mono fun b _ hM=>by obtain ⟨i,o,hi,_⟩:=hM; cases hi)⟩
set_option maxRecDepth 100000 in
theorem lifted (os:Os) (started:os.Started) (H:Type) (enc:TypeId×Value→H) :
  ReturnsInHanded {} Try.checked os 3 .any (Rows.featureAddsSpec.pre6 enc Try.prog Try.f3 Rows.featureAddsRow.domain false) (Rows.featureAddsSpec.post enc Try.prog Try.f3 false true false false):=by
 refine returnsInHanded_of_change (C:=Try.checked) own started (by kernel_rfl) Try.func3
  (ChangeSpec.witness6 (enc:=enc) (C:=Try.checked) false ⟨#[], #[.slice none 0 0],[]⟩ 8 (by kernel_rfl) (by kernel_rfl) (by kernel_rfl) (by kernel_rfl)) ?_
 intro W base args ds gs before hval hW _ _
 exact contract H enc W base args ds gs before hval hW
theorem am {a b:Bool} (h:a=true) (h' : b=true):(a&&b)=true:=by rw [h,h']; rfl
theorem cA:(Rows.featureAddsRow.wf (OpenSpec.ofChange Rows.featureAddsSpec)&&laidOutB Try.pinned.checked.prog&&mapsRowed Try.pinned.checked.prog&&Try.f3.params.all (Try.pinned.checked.prog.readableRec ·)&&namedTie Try.pinned.checked.prog Rows.featureAddsRow.named Rows.featureAddsSpec.vars&&(Rows.featureAddsRow.stops==[])&&(Try.pinned.checked.prog.stops==[])&&(Rows.featureAddsRow.knobs==[])&&(Try.pinned.checked.prog.stopKnobs==[]))=true:=by kernel_rfl
theorem cB:(Rows.featureAddsRow.inPlace==Try.pinned.checked.prog.inPlace 3)=true:=by kernel_rfl
theorem cC:(Rows.featureAddsRow.unfollowed==Try.pinned.checked.prog.unfollowed 3)=true:=by kernel_rfl
theorem cD:(Rows.featureAddsRow.recurses==Try.pinned.checked.prog.recurses 3)=true:=by kernel_rfl
theorem cE:(Rows.featureAddsRow.named==Try.pinned.checked.prog.varsNamed 3)=true:=by kernel_rfl
theorem cF:Try.pinned.checked.prog.mayEnter=true:=by kernel_rfl
theorem cG:(Rows.featureAddsRow.lifted==Try.pinned.checked.prog.liftsFinal)=true:=by kernel_rfl
theorem cH:(Try.pinned.checked.prog.make==some Rows.featureAddsRow.make)=true:=by kernel_rfl
theorem closed:joinedFacts Try.pinned.checked.prog 3 Try.f3 Rows.featureAddsSpec Rows.featureAddsRow=true:=
 am (am (am (am (am (am (am (am (am (am (am (am (am (am (am (am (am (am (am (am (am (am (am cA cB) cC) cD) cE) (by kernel_rfl)) (by kernel_rfl)) (by kernel_rfl)) (by kernel_rfl)) (by kernel_rfl)) (by kernel_rfl)) (by kernel_rfl)) (by kernel_rfl)) (by kernel_rfl)) (by kernel_rfl)) (by kernel_rfl)) (by kernel_rfl)) cF) cG) cH) (by kernel_rfl)) (by kernel_rfl)) (by kernel_rfl)) (by kernel_rfl)
theorem proved:Rows.FeatureAddsSaid:=
 OpenClaim.holds_of_wide 3 Try.f3 rfl rfl rfl rfl rfl rfl rfl ⟨rfl,rfl,rfl,rfl,rfl⟩ rfl rfl rfl rfl rfl (by kernel_rfl) Try.func3 closed
  (of_decide_eq_true (by kernel_rfl)) (by unfold Func.isWrapper; first | (rw [if_pos (by decide +kernel)]; kernel_rfl) | (rw [if_neg (by decide +kernel)]; exact ⟨rfl,rfl⟩))
  (fun os started H enc _=>lifted os started H enc)
end Go.Proofs.Ytdfbifjpedjljaa.featureAdds
end
