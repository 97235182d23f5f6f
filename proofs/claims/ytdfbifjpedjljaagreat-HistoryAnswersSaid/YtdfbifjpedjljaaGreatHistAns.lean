/- HistoryAnswers is true: at every input the law answers true, no condition but the statement's own. -/
import Derived.Test.YtdfbifjpedjljaaGreatRows
import Derived.Test.YtdfbifjpedjljaaGreatAbC
import Derived.Test.YtdfbifjpedjljaaGreatSpA
import Derived.Test.YtdfbifjpedjljaaGreatSpB
import Derived.Test.YtdfbifjpedjljaaGreatSpC
import Derived.Test.YtdfbifjpedjljaaGreatLwB
import Derived.JoinedOf
import Derived.JoinedAt
import Derived.Deep.DeepHandedRow
set_option linter.unusedVariables false
set_option linter.unusedSimpArgs false
section
namespace Go.Proofs.YtdfbifjpedjljaaGreat.historyAnswers
open Go.ChangeShapes Go.WideShapes Go.ChangeAt Go.RowKit Go.Ab
set_option maxRecDepth 100000
theorem own:ownKnob Tryz.prog.godebug=none:=by kernel_rfl
theorem laidOut:laidOutB Tryz.prog=true:=by kernel_rfl
theorem law (a0:(List Record)) (a1:Region) (a2:Int) (a3:Int) (a4:Int) (a5:Int) (l:List Int)  : ∃ F,law15_HistoryAnswers F a0 a1 a2 a3 a4 a5 l=some true:=⟨BIG,law15_HistoryAnswers_ok (Nat.le_refl _) a0 a1 a2 a3 a4 a5 l ⟩
theorem opT3:OpT Tryz.prog 3 Int:=opT_int Tryz.underlying3
theorem opT103:OpT Tryz.prog 103 Rect:=fun h=>by
 obtain ⟨hl,hf⟩:=trod_field Tryz.underlying103 h
 obtain ⟨n0,y0,h0⟩:=trod_fld hf 0 _ rfl (t:=3) (o:=0) (k:=1) rfl rfl (by kernel_rfl)
 obtain ⟨x0,c0⟩:=opT3 h0
 obtain ⟨n1,y1,h1⟩:=trod_fld hf 1 _ rfl (t:=3) (o:=1) (k:=1) rfl rfl (by kernel_rfl)
 obtain ⟨x1,c1⟩:=opT3 h1
 obtain ⟨n2,y2,h2⟩:=trod_fld hf 2 _ rfl (t:=3) (o:=2) (k:=1) rfl rfl (by kernel_rfl)
 obtain ⟨x2,c2⟩:=opT3 h2
 obtain ⟨n3,y3,h3⟩:=trod_fld hf 3 _ rfl (t:=3) (o:=3) (k:=1) rfl rfl (by kernel_rfl)
 obtain ⟨x3,c3⟩:=opT3 h3
 refine ⟨⟨x0,x1,x2,x3⟩,hl.trans (by kernel_rfl),fun j hj=>?_⟩
 have hj:j<4:=hj
 rcases j with _ | _ | _ | _ | j
 ·exact (Cel.at c0 (j:=0) (by decide) (by decide))
 ·exact (Cel.at c1 (j:=0) (by decide) (by decide))
 ·exact (Cel.at c2 (j:=0) (by decide) (by decide))
 ·exact (Cel.at c3 (j:=0) (by decide) (by decide))
 ·omega
theorem opT33:OpT Tryz.prog 33 Region:=fun h=>by
 obtain ⟨hl,hf⟩:=trod_field Tryz.underlying33 h
 obtain ⟨n0,y0,h0⟩:=trod_fld hf 0 _ rfl (t:=31) (o:=0) (k:=1) rfl rfl (by kernel_rfl)
 obtain ⟨v0,e0,x0,d0⟩:=open_row Tryz.underlying31 opT103 (by kernel_rfl) (by decide) h0
 have g0:=opT_get e0
 rw [← g0] at d0
 refine ⟨⟨x0⟩,hl.trans (by kernel_rfl),fun j hj=>?_⟩
 have hj:j<1:=hj
 rcases j with _ | j
 ·exact d0
 ·omega
theorem opT44:OpT Tryz.prog 44 Record:=fun h=>by
 obtain ⟨hl,hf⟩:=trod_field Tryz.underlying44 h
 obtain ⟨n0,y0,h0⟩:=trod_fld hf 0 _ rfl (t:=3) (o:=0) (k:=1) rfl rfl (by kernel_rfl)
 obtain ⟨x0,c0⟩:=opT3 h0
 obtain ⟨n1,y1,h1⟩:=trod_fld hf 1 _ rfl (t:=3) (o:=1) (k:=1) rfl rfl (by kernel_rfl)
 obtain ⟨x1,c1⟩:=opT3 h1
 obtain ⟨n2,y2,h2⟩:=trod_fld hf 2 _ rfl (t:=33) (o:=2) (k:=1) rfl rfl (by kernel_rfl)
 obtain ⟨x2,c2⟩:=opT33 h2
 refine ⟨⟨x0,x1,x2⟩,hl.trans (by kernel_rfl),fun j hj=>?_⟩
 have hj:j<3:=hj
 rcases j with _ | _ | _ | j
 ·exact (Cel.at c0 (j:=0) (by decide) (by decide))
 ·exact (Cel.at c1 (j:=0) (by decide) (by decide))
 ·exact (Cel.at c2 (j:=0) (by decide) (by decide))
 ·omega
theorem contract (H:Type) (enc:TypeId×Value→H) (W:World) (base:Nat) (args:Array Value) (ds gs:List (DataW H)) (before:List MemPlace)
  (hval : ∀ (j:Nat) t v,Tryz.f4.params[j]? = some t→args[j]? = some v→Value.okWide Tryz.prog W .any base t v)
  (hW:DataW.Whole enc Tryz.prog Tryz.f4.params.toList Rows.historyAnswersSpec.vars false W args.toList ds gs before) :
  Calls Tryz.prog 4 args W fun e W' => ∃ v,e=.returned v∧Rows.historyAnswersSpec.post enc Tryz.prog Tryz.f4 false true false false W args v W' := by
 have hW' := hW
 obtain ⟨p,q,hA0,hV,rfl,_,_⟩:=hW
 have hA:DataW.TrodAll enc Tryz.prog W 0 (fun _=>true) true Tryz.f4.params.toList args.toList ds p:=hA0
 rw [Tryz.params4] at hA hval
 obtain ⟨v0,vs0,d0,ds0,p0,q0,hargs0,rfl,rfl,h0,r0⟩:=trodAll_cons hA
 obtain ⟨v1,vs1,d1,ds1,p1,q1,hargs1,rfl,rfl,h1,r1⟩:=trodAll_cons r0
 obtain ⟨v2,vs2,d2,ds2,p2,q2,hargs2,rfl,rfl,h2,r2⟩:=trodAll_cons r1
 obtain ⟨v3,vs3,d3,ds3,p3,q3,hargs3,rfl,rfl,h3,r3⟩:=trodAll_cons r2
 obtain ⟨v4,vs4,d4,ds4,p4,q4,hargs4,rfl,rfl,h4,r4⟩:=trodAll_cons r3
 obtain ⟨v5,vs5,d5,ds5,p5,q5,hargs5,rfl,rfl,h5,r5⟩:=trodAll_cons r4
 obtain ⟨v6,vs6,d6,ds6,p6,q6,hargs6,rfl,rfl,h6,r6⟩:=trodAll_cons r5
 obtain ⟨rfl,rfl,rfl⟩:=trodAll_nil r6
 obtain rfl:args = #[v0,v1,v2,v3,v4,v5,v6]:=by cases args; simp_all
 obtain ⟨rfl,rfl⟩:=trodVars_none hV
 obtain ⟨a0,hc0⟩:=open_listD Tryz.underlying27 opT44 (by kernel_rfl) (by decide) (hval 0 27 v0 rfl rfl) h0
 obtain ⟨c1,a1,rfl,hc1⟩:=open_structD Tryz.underlying33 opT33 (hval 1 33 v1 rfl rfl) h1
 obtain ⟨a2,rfl,rfl,rfl,w2⟩:=open_int Tryz.underlying3 (hval 2 3 v2 rfl rfl) h2
 obtain ⟨a3,rfl,rfl,rfl,w3⟩:=open_int Tryz.underlying3 (hval 3 3 v3 rfl rfl) h3
 obtain ⟨a4,rfl,rfl,rfl,w4⟩:=open_int Tryz.underlying3 (hval 4 3 v4 rfl rfl) h4
 obtain ⟨a5,rfl,rfl,rfl,w5⟩:=open_int Tryz.underlying3 (hval 5 3 v5 rfl rfl) h5
 obtain ⟨l,hl,_⟩:=open_intsD Tryz.underlying22 Tryz.underlying3 (by kernel_rfl) (hval 6 22 v6 rfl rfl) h6
 obtain ⟨F,hF⟩:=law a0 a1 a2 a3 a4 a5 l
 have hsp:=law15_HistoryAnswers_spec hF W (fun _=>False) (fun _=>undef) #[v0,.agg c1,.int .i64 a2,.int .i64 a3,.int .i64 a4,.int .i64 a5,v6] (fun b hb=>hb.elim) (fun b ⟨i,o,hi,_⟩=>by cases hi) (fun i o hi=>by cases hi) (fun i j b hi=>absurd rfl hi) rfl
  (fun j hj=>by
   have:j=0∨j=1∨j=2∨j=3∨j=4∨j=5∨j=6:=by simp at hj; omega
   rcases this with rfl | rfl | rfl | rfl | rfl | rfl | rfl
   ·exact .v _ _ (.c _ _ (.d _ _ hc0))
   ·exact .v _ _ (cel_rep hc1)
   ·exact .v _ _ (.c _ _ (.d _ _ (.int _ _)))
   ·exact .v _ _ (.c _ _ (.d _ _ (.int _ _)))
   ·exact .v _ _ (.c _ _ (.d _ _ (.int _ _)))
   ·exact .v _ _ (.c _ _ (.d _ _ (.int _ _)))
   ·exact .v _ _ (.c _ _ (.d _ _ hl)))
 refine hsp.mono fun e W' hh=>?_
 obtain ⟨v,η',he,hb⟩:=hh
 have hres:=hb.res
 have hv:v=.bool true:=by
  cases hres with | v _ _ hh=>cases hh with | c _ _ hh=>cases hh with | d _ _ hh=>cases hh; rfl
 subst hv
 refine ⟨_,he,post_true laidOut hW' rfl rfl (by kernel_rfl) (t:=4) (by kernel_rfl) Tryz.underlying4 (hb.stp.mono fun b _ hM=>by obtain ⟨i,o,hi,_⟩:=hM; cases hi)⟩
set_option maxRecDepth 100000 in
theorem lifted (os:Os) (started:os.Started) (H:Type) (enc:TypeId×Value→H) :
  ReturnsInHanded {} Tryz.checked os 4 .any (Rows.historyAnswersSpec.pre6 enc Tryz.prog Tryz.f4 Rows.historyAnswersRow.domain false) (Rows.historyAnswersSpec.post enc Tryz.prog Tryz.f4 false true false false):=by
 refine returnsInHanded_of_change (C:=Tryz.checked) own started (by kernel_rfl) Tryz.func4
  (ChangeSpec.witness6 (enc:=enc) (C:=Tryz.checked) false ⟨#[], #[.slice none 0 0,.agg #[.slice none 0 0],.int .i64 0,.int .i64 0,.int .i64 0,.int .i64 0,.slice none 0 0],[]⟩ 8 (by kernel_rfl) (by kernel_rfl) (by kernel_rfl) (by kernel_rfl)) ?_
 intro W base args ds gs before hval hW _ _
 exact contract H enc W base args ds gs before hval hW
theorem am {a b:Bool} (h:a=true) (h' : b=true):(a&&b)=true:=by rw [h,h']; rfl
theorem cA:(Rows.historyAnswersRow.wf (OpenSpec.ofChange Rows.historyAnswersSpec)&&laidOutB Tryz.pinned.checked.prog&&mapsRowed Tryz.pinned.checked.prog&&Tryz.f4.params.all (Tryz.pinned.checked.prog.readableRec ·)&&namedTie Tryz.pinned.checked.prog Rows.historyAnswersRow.named Rows.historyAnswersSpec.vars&&(Rows.historyAnswersRow.stops==[])&&(Tryz.pinned.checked.prog.stops==[])&&(Rows.historyAnswersRow.knobs==[])&&(Tryz.pinned.checked.prog.stopKnobs==[]))=true:=by kernel_rfl
theorem cB:(Rows.historyAnswersRow.inPlace==Tryz.pinned.checked.prog.inPlace 4)=true:=by kernel_rfl
theorem cC:(Rows.historyAnswersRow.unfollowed==Tryz.pinned.checked.prog.unfollowed 4)=true:=by kernel_rfl
theorem cD:(Rows.historyAnswersRow.recurses==Tryz.pinned.checked.prog.recurses 4)=true:=by kernel_rfl
theorem cE:(Rows.historyAnswersRow.named==Tryz.pinned.checked.prog.varsNamed 4)=true:=by kernel_rfl
theorem cF:Tryz.pinned.checked.prog.mayEnter=true:=by kernel_rfl
theorem cG:(Rows.historyAnswersRow.lifted==Tryz.pinned.checked.prog.liftsFinal)=true:=by kernel_rfl
theorem cH:(Tryz.pinned.checked.prog.make==some Rows.historyAnswersRow.make)=true:=by kernel_rfl
theorem closed:joinedFacts Tryz.pinned.checked.prog 4 Tryz.f4 Rows.historyAnswersSpec Rows.historyAnswersRow=true:=
 am (am (am (am (am (am (am (am (am (am (am (am (am (am (am (am (am (am (am (am (am (am (am cA cB) cC) cD) cE) (by kernel_rfl)) (by kernel_rfl)) (by kernel_rfl)) (by kernel_rfl)) (by kernel_rfl)) (by kernel_rfl)) (by kernel_rfl)) (by kernel_rfl)) (by kernel_rfl)) (by kernel_rfl)) (by kernel_rfl)) (by kernel_rfl)) cF) cG) cH) (by kernel_rfl)) (by kernel_rfl)) (by kernel_rfl)) (by kernel_rfl)
theorem proved:Rows.HistoryAnswersSaid:=
 OpenClaim.holds_of_wide 4 Tryz.f4 rfl rfl rfl rfl rfl rfl rfl ⟨rfl,rfl,rfl,rfl,rfl⟩ rfl rfl rfl rfl rfl (by kernel_rfl) Tryz.func4 closed
  (of_decide_eq_true (by kernel_rfl)) (by unfold Func.isWrapper; first | (rw [if_pos (by decide +kernel)]; kernel_rfl) | (rw [if_neg (by decide +kernel)]; exact ⟨rfl,rfl⟩))
  (fun os started H enc _=>lifted os started H enc)
end Go.Proofs.YtdfbifjpedjljaaGreat.historyAnswers
end
