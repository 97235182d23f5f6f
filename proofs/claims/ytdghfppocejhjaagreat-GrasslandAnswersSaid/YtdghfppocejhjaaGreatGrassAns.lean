/- GrasslandAnswers is true: at every input the law answers true, no condition but the statement's own. -/
import Derived.Test.YtdghfppocejhjaaGreatRows
import Derived.Test.YtdghfppocejhjaaGreatAbC
import Derived.Test.YtdghfppocejhjaaGreatSpA
import Derived.Test.YtdghfppocejhjaaGreatSpB
import Derived.Test.YtdghfppocejhjaaGreatAbG
import Derived.JoinedOf
import Derived.JoinedAt
import Derived.Deep.DeepHandedRow
set_option linter.unusedVariables false
set_option linter.unusedSimpArgs false
section
namespace Go.Proofs.YtdghfppocejhjaaGreat.grasslandAnswers
open Go.ChangeShapes Go.WideShapes Go.ChangeAt Go.RowKit Go.Ab
set_option maxRecDepth 100000
theorem own:ownKnob Tryz.prog.godebug=none:=by kernel_rfl
theorem laidOut:laidOutB Tryz.prog=true:=by kernel_rfl
theorem law (a0:Region) (a1:Int) (a2:Int) (a3:Int) (a4:Int) (l:List Int)  : ∃ F,law20_GrasslandAnswers F a0 a1 a2 a3 a4 l=some true:=⟨BIG,law20_GrasslandAnswers_ok (Nat.le_refl _) a0 a1 a2 a3 a4 l ⟩
theorem opT3:OpT Tryz.prog 3 Int:=opT_int Tryz.underlying3
theorem opT79:OpT Tryz.prog 79 Rect:=fun h=>by
 obtain ⟨hl,hf⟩:=trod_field Tryz.underlying79 h
 obtain ⟨n0,y0,h0⟩:=trod_fld hf 0 _ rfl (t:=3) (o:=0) (k:=1) rfl rfl (by kernel_rfl)
 obtain ⟨x0,c0⟩:=opT3 h0
 obtain ⟨n1,y1,h1⟩:=trod_fld hf 1 _ rfl (t:=3) (o:=1) (k:=1) rfl rfl (by kernel_rfl)
 obtain ⟨x1,c1⟩:=opT3 h1
 obtain ⟨n2,y2,h2⟩:=trod_fld hf 2 _ rfl (t:=3) (o:=2) (k:=1) rfl rfl (by kernel_rfl)
 obtain ⟨x2,c2⟩:=opT3 h2
 obtain ⟨n3,y3,h3⟩:=trod_fld hf 3 _ rfl (t:=3) (o:=3) (k:=1) rfl rfl (by kernel_rfl)
 obtain ⟨x3,c3⟩:=opT3 h3
 refine ⟨⟨x0,x1,x2,x3⟩,hl.trans (by kernel_rfl),fun j hj=>?_⟩
 have hj:j<4:=hj
 rcases j with _ | _ | _ | _ | j
 ·exact (Cel.at c0 (j:=0) (by decide) (by decide))
 ·exact (Cel.at c1 (j:=0) (by decide) (by decide))
 ·exact (Cel.at c2 (j:=0) (by decide) (by decide))
 ·exact (Cel.at c3 (j:=0) (by decide) (by decide))
 ·omega
theorem opT25:OpT Tryz.prog 25 Region:=fun h=>by
 obtain ⟨hl,hf⟩:=trod_field Tryz.underlying25 h
 obtain ⟨n0,y0,h0⟩:=trod_fld hf 0 _ rfl (t:=23) (o:=0) (k:=1) rfl rfl (by kernel_rfl)
 obtain ⟨v0,e0,x0,d0⟩:=open_row Tryz.underlying23 opT79 (by kernel_rfl) (by decide) h0
 have g0:=opT_get e0
 rw [← g0] at d0
 refine ⟨⟨x0⟩,hl.trans (by kernel_rfl),fun j hj=>?_⟩
 have hj:j<1:=hj
 rcases j with _ | j
 ·exact d0
 ·omega
theorem contract (H:Type) (enc:TypeId×Value→H) (W:World) (base:Nat) (args:Array Value) (ds gs:List (DataW H)) (before:List MemPlace)
  (hval : ∀ (j:Nat) t v,Tryz.f5.params[j]? = some t→args[j]? = some v→Value.okWide Tryz.prog W .any base t v)
  (hW:DataW.Whole enc Tryz.prog Tryz.f5.params.toList Rows.grasslandAnswersSpec.vars false W args.toList ds gs before) :
  Calls Tryz.prog 5 args W fun e W' => ∃ v,e=.returned v∧Rows.grasslandAnswersSpec.post enc Tryz.prog Tryz.f5 false true false false W args v W' := by
 have hW' := hW
 obtain ⟨p,q,hA0,hV,rfl,_,_⟩:=hW
 have hA:DataW.TrodAll enc Tryz.prog W 0 (fun _=>true) true Tryz.f5.params.toList args.toList ds p:=hA0
 rw [Tryz.params5] at hA hval
 obtain ⟨v0,vs0,d0,ds0,p0,q0,hargs0,rfl,rfl,h0,r0⟩:=trodAll_cons hA
 obtain ⟨v1,vs1,d1,ds1,p1,q1,hargs1,rfl,rfl,h1,r1⟩:=trodAll_cons r0
 obtain ⟨v2,vs2,d2,ds2,p2,q2,hargs2,rfl,rfl,h2,r2⟩:=trodAll_cons r1
 obtain ⟨v3,vs3,d3,ds3,p3,q3,hargs3,rfl,rfl,h3,r3⟩:=trodAll_cons r2
 obtain ⟨v4,vs4,d4,ds4,p4,q4,hargs4,rfl,rfl,h4,r4⟩:=trodAll_cons r3
 obtain ⟨v5,vs5,d5,ds5,p5,q5,hargs5,rfl,rfl,h5,r5⟩:=trodAll_cons r4
 obtain ⟨rfl,rfl,rfl⟩:=trodAll_nil r5
 obtain rfl:args = #[v0,v1,v2,v3,v4,v5]:=by cases args; simp_all
 obtain ⟨rfl,rfl⟩:=trodVars_none hV
 obtain ⟨c0,a0,rfl,hc0⟩:=open_structD Tryz.underlying25 opT25 (hval 0 25 v0 rfl rfl) h0
 obtain ⟨a1,rfl,rfl,rfl,w1⟩:=open_int Tryz.underlying3 (hval 1 3 v1 rfl rfl) h1
 obtain ⟨a2,rfl,rfl,rfl,w2⟩:=open_int Tryz.underlying3 (hval 2 3 v2 rfl rfl) h2
 obtain ⟨a3,rfl,rfl,rfl,w3⟩:=open_int Tryz.underlying3 (hval 3 3 v3 rfl rfl) h3
 obtain ⟨a4,rfl,rfl,rfl,w4⟩:=open_int Tryz.underlying3 (hval 4 3 v4 rfl rfl) h4
 obtain ⟨l,hl,_⟩:=open_intsD Tryz.underlying28 Tryz.underlying3 (by kernel_rfl) (hval 5 28 v5 rfl rfl) h5
 obtain ⟨F,hF⟩:=law a0 a1 a2 a3 a4 l
 have hsp:=law20_GrasslandAnswers_spec hF W (fun _=>False) (fun _=>undef) #[.agg c0,.int .i64 a1,.int .i64 a2,.int .i64 a3,.int .i64 a4,v5] (fun b hb=>hb.elim) (fun b ⟨i,o,hi,_⟩=>by cases hi) (fun i o hi=>by cases hi) (fun i j b hi=>absurd rfl hi) rfl
  (fun j hj=>by
   have:j=0∨j=1∨j=2∨j=3∨j=4∨j=5:=by simp at hj; omega
   rcases this with rfl | rfl | rfl | rfl | rfl | rfl
   ·exact .v _ _ (cel_rep hc0)
   ·exact .v _ _ (.c _ _ (.d _ _ (.int _ _)))
   ·exact .v _ _ (.c _ _ (.d _ _ (.int _ _)))
   ·exact .v _ _ (.c _ _ (.d _ _ (.int _ _)))
   ·exact .v _ _ (.c _ _ (.d _ _ (.int _ _)))
   ·exact .v _ _ (.c _ _ (.d _ _ hl)))
 refine hsp.mono fun e W' hh=>?_
 obtain ⟨v,η',he,hb⟩:=hh
 have hres:=hb.res
 have hv:v=.bool true:=by
  cases hres with | v _ _ hh=>cases hh with | c _ _ hh=>cases hh with | d _ _ hh=>cases hh; rfl
 subst hv
 refine ⟨_,he,post_true laidOut hW' rfl rfl (by kernel_rfl) (t:=4) (by kernel_rfl) Tryz.underlying4 (hb.stp.mono fun b _ hM=>by obtain ⟨i,o,hi,_⟩:=hM; cases hi)⟩
set_option maxRecDepth 100000 in
theorem lifted (os:Os) (started:os.Started) (H:Type) (enc:TypeId×Value→H) :
  ReturnsInHanded {} Tryz.checked os 5 .any (Rows.grasslandAnswersSpec.pre6 enc Tryz.prog Tryz.f5 Rows.grasslandAnswersRow.domain false) (Rows.grasslandAnswersSpec.post enc Tryz.prog Tryz.f5 false true false false):=by
 refine returnsInHanded_of_change (C:=Tryz.checked) own started (by kernel_rfl) Tryz.func5
  (ChangeSpec.witness6 (enc:=enc) (C:=Tryz.checked) false ⟨#[], #[.agg #[.slice none 0 0],.int .i64 0,.int .i64 0,.int .i64 0,.int .i64 0,.slice none 0 0],[]⟩ 8 (by kernel_rfl) (by kernel_rfl) (by kernel_rfl) (by kernel_rfl)) ?_
 intro W base args ds gs before hval hW _ _
 exact contract H enc W base args ds gs before hval hW
theorem am {a b:Bool} (h:a=true) (h' : b=true):(a&&b)=true:=by rw [h,h']; rfl
theorem cA:(Rows.grasslandAnswersRow.wf (OpenSpec.ofChange Rows.grasslandAnswersSpec)&&laidOutB Tryz.pinned.checked.prog&&mapsRowed Tryz.pinned.checked.prog&&Tryz.f5.params.all (Tryz.pinned.checked.prog.readableRec ·)&&namedTie Tryz.pinned.checked.prog Rows.grasslandAnswersRow.named Rows.grasslandAnswersSpec.vars&&(Rows.grasslandAnswersRow.stops==[])&&(Tryz.pinned.checked.prog.stops==[])&&(Rows.grasslandAnswersRow.knobs==[])&&(Tryz.pinned.checked.prog.stopKnobs==[]))=true:=by kernel_rfl
theorem cB:(Rows.grasslandAnswersRow.inPlace==Tryz.pinned.checked.prog.inPlace 5)=true:=by kernel_rfl
theorem cC:(Rows.grasslandAnswersRow.unfollowed==Tryz.pinned.checked.prog.unfollowed 5)=true:=by kernel_rfl
theorem cD:(Rows.grasslandAnswersRow.recurses==Tryz.pinned.checked.prog.recurses 5)=true:=by kernel_rfl
theorem cE:(Rows.grasslandAnswersRow.named==Tryz.pinned.checked.prog.varsNamed 5)=true:=by kernel_rfl
theorem cF:Tryz.pinned.checked.prog.mayEnter=true:=by kernel_rfl
theorem cG:(Rows.grasslandAnswersRow.lifted==Tryz.pinned.checked.prog.liftsFinal)=true:=by kernel_rfl
theorem cH:(Tryz.pinned.checked.prog.make==some Rows.grasslandAnswersRow.make)=true:=by kernel_rfl
theorem closed:joinedFacts Tryz.pinned.checked.prog 5 Tryz.f5 Rows.grasslandAnswersSpec Rows.grasslandAnswersRow=true:=
 am (am (am (am (am (am (am (am (am (am (am (am (am (am (am (am (am (am (am (am (am (am (am cA cB) cC) cD) cE) (by kernel_rfl)) (by kernel_rfl)) (by kernel_rfl)) (by kernel_rfl)) (by kernel_rfl)) (by kernel_rfl)) (by kernel_rfl)) (by kernel_rfl)) (by kernel_rfl)) (by kernel_rfl)) (by kernel_rfl)) (by kernel_rfl)) cF) cG) cH) (by kernel_rfl)) (by kernel_rfl)) (by kernel_rfl)) (by kernel_rfl)
theorem proved:Rows.GrasslandAnswersSaid:=
 OpenClaim.holds_of_wide 5 Tryz.f5 rfl rfl rfl rfl rfl rfl rfl ⟨rfl,rfl,rfl,rfl,rfl⟩ rfl rfl rfl rfl rfl (by kernel_rfl) Tryz.func5 closed
  (of_decide_eq_true (by kernel_rfl)) (by unfold Func.isWrapper; first | (rw [if_pos (by decide +kernel)]; kernel_rfl) | (rw [if_neg (by decide +kernel)]; exact ⟨rfl,rfl⟩))
  (fun os started H enc _=>lifted os started H enc)
end Go.Proofs.YtdghfppocejhjaaGreat.grasslandAnswers
end
