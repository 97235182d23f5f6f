/- TopTextsCard is true. -/
import Derived.Test.YtngflklgdflcdaaGreatDoorCards
import Derived.Test.YtngflklgdflcdaaGreatDoorTie
import Derived.Test.YtngflklgdflcdaaGreatDoorSpC
import Derived.Lib.LaidU8
import Derived.Deep.DeepHandedRow
import Derived.Lay
set_option maxRecDepth 100000
set_option linter.all false
namespace Go.Proofs.YtngflklgdflcdaaGreatDoor.topTexts
open Go.ChangeShapes Go.WideShapes Go.ChangeAt Go.RowKit Go.Ab
theorem own:ownKnob Tryz.prog.godebug=none:=by kernel_rfl
theorem laidOut:laidOutB Tryz.prog=true:=by kernel_rfl
theorem law (l:θ)  : ∃ F,Dm F l=some true:=⟨(Q6+3),Q7Y (Nat.le_refl _) l ⟩
theorem gl_of {W:World} (h:laidMetH Tryz.prog Rows.topTextsRow.laid W):GL W (fun _=>False):=by
 rw [MakeChecks.laidMetH_plain _ _ _ (by kernel_rfl)] at h;obtain ⟨g,t,cs,fuel,p,hg,ht,hv,hd⟩:=Lib.laidMet.reads h (d:=Rows.laid_internal_strconv_uint64pow10) (.tail _ (.tail _ (.head _)))
 have hg3:some g=some Wf:=hg.symm.trans (by kernel_rfl)
 obtain rfl:=Option.some.inj hg3;have ht3:(Tryz.prog.globals[Wf]?).map (·.type)=some 367:=by kernel_rfl
 obtain rfl:=Option.some.inj (ht3.symm.trans ht);have hc:cs.toList=Lib.pow10Tab.map fun z=>Value.int .u64 z:=Lib.cells_of_tab (t:=367) (e:=239) (n:=20) (by kernel_rfl) (by kernel_rfl) (by kernel_rfl) (by kernel_rfl) hd
 refine ⟨id,?_⟩;unfold World.var? at hv
 rw [hg,Option.bind_some] at hv;split at hv
 ·rename_i e fz hh
  cases hv
  refine ⟨e,fz,hh.trans ?_⟩;rw [show cs=AV from Array.toList_inj.1 hc]
 ·cases hv
theorem contract (H:Type) (enc:TypeId×Value→H) (W:World) (base:Nat) (args:Ξ) (ds gs:List (DataW H)) (before:List MemPlace)
  (hval:∀ (j:Nat) t v,Tryz.f3.params[j]?=some t→args[j]?=some v→Value.okWide Tryz.prog W .any base t v)
  (hW:DataW.Whole enc Tryz.prog Tryz.f3.params.toList Rows.topTextsSpec.vars false W args.toList ds gs before) (hL:laidMetH Tryz.prog Rows.topTextsRow.laid W) :
  Calls Tryz.prog 3 args W fun e W'=>∃ v,e=.returned v∧Rows.topTextsSpec.post enc Tryz.prog Tryz.f3 false true false false W args v W':=by
 have hW':=hW;obtain ⟨p,q,hA0,hV,rfl,_,_⟩:=hW
 have hA:DataW.TrodAll enc Tryz.prog W 0 (fun _=>true) true Tryz.f3.params.toList args.toList ds p:=hA0;rw [Tryz.params3] at hA hval
 obtain ⟨v0,vs0,d0,ds0,p0,q0,hargs0,rfl,rfl,h0,r0⟩:=trodAll_cons hA;obtain ⟨rfl,rfl,rfl⟩:=trodAll_nil r0
 obtain rfl:args=#[v0]:=by cases args;simp_all
 obtain ⟨rfl,rfl⟩:=trodVars_none hV;obtain ⟨l,hl,_⟩:=Z3S Tryz.underlying22 Tryz.underlying3 (hval 0 22 v0 rfl rfl) h0
 obtain ⟨F,hF⟩:=law l;have hsp:=Q7X hF W (fun _=>False) (fun _=>undef) #[v0] ⟨fun b hb=>hb.elim,gl_of hL⟩ (fun b ⟨i,o,hi,_⟩=>by cases hi) (fun i o hi=>by cases hi) (fun i j b hi=>absurd rfl hi) rfl
  (fun j hj=>by
   have:j=0:=by simp at hj;omega
   subst this;exact .v _ _ (.c _ _ (.d _ _ hl)))
 refine hsp.mono fun e W' hh=>?_
 obtain ⟨v,η',he,hb⟩:=hh;have hres:=hb.res
 have hv:v=.bool true:=by
  cases hres with|v _ _ hh=>cases hh with|c _ _ hh=>cases hh with|d _ _ hh=>cases hh;rfl
 subst hv;refine ⟨_,he,Z3u laidOut hW' rfl rfl (t:=4) Tryz.underlying4 ⟨hb.stp.os,hb.stp.tape,hb.stp.output,hb.stp.size,fun k hk=>hb.stp.block k hk fun hM=>by obtain ⟨i,o,hi,_⟩:=hM;cases hi⟩⟩
set_option maxRecDepth 100000 in
theorem lifted (os:Os) (started:os.Started) (H:Type) (enc:TypeId×Value→H) :
  ReturnsInHanded {} Tryz.checked os 3 .any (fun w args=>(Rows.topTextsSpec.pre enc Tryz.prog Tryz.f3 Rows.topTextsRow.domain false w args∧laidMetH Tryz.prog Rows.topTextsRow.laid w)∧sizedMet enc Tryz.prog Tryz.f3 (OpenSpec.ofChange Rows.topTextsSpec) false w args)
   (Rows.topTextsSpec.post enc Tryz.prog Tryz.f3 false true false false):=by
 refine returnsInHanded_of_change_and (C:=Tryz.checked) (X:=fun w _=>laidMetH Tryz.prog Rows.topTextsRow.laid w) (fun _ _ _ hh h=>h.of_heap hh) own started (by kernel_rfl) Tryz.func3
  (ChangeSpec.witness_shaped (enc:=enc) (C:=Tryz.checked) (os:=os) (X:=fun w _=>laidMetH Tryz.prog Rows.topTextsRow.laid w) false (World.laidAll Tryz.prog os Rows.topTextsRow.laid) #[.slice none 0 0] 8 (World.laidAll_os _ _ _)
   (World.shaped_of_ZipB (by kernel_rfl) (by kernel_rfl)) (by kernel_rfl) (by kernel_rfl) (by kernel_rfl)
   (by rw [MakeChecks.laidMetH_plain _ _ _ (by kernel_rfl)];exact laidMet_laidAll _ (by kernel_rfl) (by kernel_rfl))) ?_
 intro W base args ds gs before hval hW _ _ hL _;exact contract H enc W base args ds gs before hval hW hL
theorem am {a b:Bool} (h:a=true) (h' : b=true):(a&&b)=true:=by rw [h,h'];rfl
theorem cA:(Rows.topTextsRow.wf (OpenSpec.ofChange Rows.topTextsSpec)&&laidOutB Tryz.pinned.checked.prog&&mapsRowed Tryz.pinned.checked.prog&&Tryz.f3.params.all (Tryz.pinned.checked.prog.readableRec ·)&&namedTie Tryz.pinned.checked.prog Rows.topTextsRow.named Rows.topTextsSpec.vars&&(Rows.topTextsRow.stops==[])&&(Tryz.pinned.checked.prog.stops==[])&&(Rows.topTextsRow.knobs==[])&&(Tryz.pinned.checked.prog.stopKnobs==[]))=true:=by kernel_rfl
theorem cB:(Rows.topTextsRow.inPlace==Tryz.pinned.checked.prog.inPlace 3)=true:=by kernel_rfl
theorem cC:(Rows.topTextsRow.unfollowed==Tryz.pinned.checked.prog.unfollowed 3)=true:=by kernel_rfl
theorem cD:(Rows.topTextsRow.recurses==Tryz.pinned.checked.prog.recurses 3)=true:=by kernel_rfl
theorem cE:(Rows.topTextsRow.named==Tryz.pinned.checked.prog.varsNamed 3)=true:=by kernel_rfl
theorem cF:Tryz.pinned.checked.prog.mayEnter=true:=by kernel_rfl
theorem cG:(Rows.topTextsRow.lifted==Tryz.pinned.checked.prog.liftsFinal)=true:=by kernel_rfl
theorem cH:(Tryz.pinned.checked.prog.make==some Rows.topTextsRow.make)=true:=by kernel_rfl
theorem closed:joinedFacts Tryz.pinned.checked.prog 3 Tryz.f3 Rows.topTextsSpec Rows.topTextsRow=true:=
 am (am (am (am (am (am (am (am (am (am (am (am (am (am (am (am (am (am (am (am (am (am (am cA cB) cC) cD) cE) (by kernel_rfl)) (by kernel_rfl)) (by kernel_rfl)) (by kernel_rfl)) (by kernel_rfl)) (by kernel_rfl)) (by kernel_rfl)) (by kernel_rfl)) (by kernel_rfl)) (by kernel_rfl)) (by kernel_rfl)) (by kernel_rfl)) cF) cG) cH) (by kernel_rfl)) (by kernel_rfl)) (by kernel_rfl)) (by kernel_rfl)
theorem row_holds:Rows.TopTextsSaid:=
 OpenClaim.holds_of_wide 3 Tryz.f3 rfl rfl rfl rfl rfl rfl rfl ⟨rfl,rfl,rfl,rfl,rfl⟩ rfl rfl rfl rfl rfl (by kernel_rfl) Tryz.func3 closed
  (of_decide_eq_true (by kernel_rfl)) (by unfold Func.isWrapper;first | (rw [if_pos (by decide +kernel)];kernel_rfl) | (rw [if_neg (by decide +kernel)];exact ⟨rfl,rfl⟩))
  (fun os started H enc _=>lifted os started H enc)
theorem dA:Rows.topTextsRow.wfByText (OpenSpec.ofChange Rows.topTextsSpec)=true:=by kernel_rfl
theorem dB:Tryz.pinned.checked.prog.mainIs=some (true, "d9e02e81ff4552ec3ca4cd3d45ae76fdd4dc82c7b3d7f919a554d246f7961ba7".toList):=by kernel_rfl
theorem dC:Tryz.prog.funcNamed Rows.topTextsRow.func=some 3:=by kernel_rfl
theorem dD:true=Tryz.pinned.checked.prog.looks []:=by kernel_rfl
theorem goes_none {P:Program} {c:OpenClaim} (h:P.funcs.any Func.goes=false) (hs:c.start=.entering):false=c.goesBy P:=by
 have hg:∀ f,P.goes f=false:=fun f=>by
  unfold Program.goes;rw [h,Bool.and_false,Bool.or_false,List.any_eq_false]
  intro g _
  cases hf:P.funcs[g]? with
  | none=>simp
  | some fn=>
   obtain ⟨hlt,rfl⟩:=Array.getElem?_eq_some_iff.1 hf;simpa using (Array.any_eq_false.1 h) g hlt
 unfold OpenClaim.goesBy Program.goesAt Program.goesFrom;rw [hs]
 cases P.funcNamed c.func <;> simp [hg]
theorem dG:Tryz.pinned.checked.prog.funcs.any Func.goes=false:=by kernel_rfl
theorem dE:false=Rows.topTextsRow.goesBy Tryz.pinned.checked.prog:=goes_none dG rfl
theorem dF:([22].all fun u=> !Tryz.prog.wantsStandIn u)=true:=by kernel_rfl
theorem proved:Rows.TopTextsCardSaid:=
 Claim7.holds_tied_plain_at .later [] [.data,.data,.data,.data,.sentinel,.sentinel,.pinned] true (true, "d9e02e81ff4552ec3ca4cd3d45ae76fdd4dc82c7b3d7f919a554d246f7961ba7") true row_holds (fun _ h=>by cases h) dA (fun _ h=>by cases h) topTexts_row_tie rfl ⟨rfl,rfl⟩ dB rfl
  (fun f fn hf hfn=>by
   obtain rfl:f=3:=Option.some.inj (dC.symm.trans hf) |>.symm
   obtain rfl:fn=Tryz.f3:=(Option.some.inj (Tryz.func3.symm.trans hfn)).symm;exact ⟨dD,fun j t ht=>by
    rw [Tryz.params3] at ht;have hm:t ∈ [22]:=by simpa using Array.mem_of_getElem? ht
    exact (show Tryz.prog.wantsStandIn t=false by simpa using List.all_eq_true.1 dF t hm)⟩)
  dE
