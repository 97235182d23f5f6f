/- ExclusionAnswersUpto is true: at every input the law answers true, no condition but the statement's own. -/
import Derived.Test.YtgfmopdbhjcpfaaGreatRows
import Derived.Test.YtgfmopdbhjcpfaaGreatAbC
import Derived.Test.YtgfmopdbhjcpfaaGreatSpA
import Derived.Test.YtgfmopdbhjcpfaaGreatSpB
import Derived.Test.YtgfmopdbhjcpfaaGreatAbD
import Derived.JoinedOf
import Derived.JoinedAt
import Derived.JoinedCond
import Derived.Deep.DeepHandedRow
set_option linter.unusedVariables false
set_option linter.unusedSimpArgs false
section
namespace Go.Proofs.YtgfmopdbhjcpfaaGreat.exclusionAnswers
open Go.ChangeShapes Go.WideShapes Go.ChangeAt Go.RowKit Go.Ab
set_option maxRecDepth 100000
theorem own:ownKnob Tryz.prog.godebug=none:=by kernel_rfl
theorem laidOut:laidOutB Tryz.prog=true:=by kernel_rfl
theorem law (l:List Int) (a1:(List Scheme)) (a2:(List Region)) (h1 : ∀ s ∈ a1,SD 1048576 s)  : ∃ F,law31_ExclusionAnswers F l a1 a2=some true:=⟨(BIG+1048576),law31_ExclusionAnswers_ok (by omega) (by omega) (Nat.le_refl _) l h1 a2⟩
theorem opT3:OpT Tryz.prog 3 Int:=opT_int Tryz.underlying3
theorem opT85:OpT Tryz.prog 85 Rect:=fun h=>by
 obtain ⟨hl,hf⟩:=trod_field Tryz.underlying85 h
 obtain ⟨n0,y0,h0⟩:=trod_fld hf 0 _ rfl (t:=3) (o:=0) (k:=1) rfl rfl (by kernel_rfl)
 obtain ⟨x0,c0⟩:=opT3 h0
 obtain ⟨n1,y1,h1⟩:=trod_fld hf 1 _ rfl (t:=3) (o:=1) (k:=1) rfl rfl (by kernel_rfl)
 obtain ⟨x1,c1⟩:=opT3 h1
 obtain ⟨n2,y2,h2⟩:=trod_fld hf 2 _ rfl (t:=3) (o:=2) (k:=1) rfl rfl (by kernel_rfl)
 obtain ⟨x2,c2⟩:=opT3 h2
 obtain ⟨n3,y3,h3⟩:=trod_fld hf 3 _ rfl (t:=3) (o:=3) (k:=1) rfl rfl (by kernel_rfl)
 obtain ⟨x3,c3⟩:=opT3 h3
 refine ⟨⟨x0,x1,x2,x3⟩,hl.trans (by kernel_rfl),fun j hj=>?_⟩
 have hj:j<4:=hj
 rcases j with _ | _ | _ | _ | j
 ·exact (Cel.at c0 (j:=0) (by decide) (by decide))
 ·exact (Cel.at c1 (j:=0) (by decide) (by decide))
 ·exact (Cel.at c2 (j:=0) (by decide) (by decide))
 ·exact (Cel.at c3 (j:=0) (by decide) (by decide))
 ·omega
theorem opT32:OpT Tryz.prog 32 Region:=fun h=>by
 obtain ⟨hl,hf⟩:=trod_field Tryz.underlying32 h
 obtain ⟨n0,y0,h0⟩:=trod_fld hf 0 _ rfl (t:=30) (o:=0) (k:=1) rfl rfl (by kernel_rfl)
 obtain ⟨v0,e0,x0,d0⟩:=open_row Tryz.underlying30 opT85 (by kernel_rfl) (by decide) h0
 have g0:=opT_get e0
 rw [← g0] at d0
 refine ⟨⟨x0⟩,hl.trans (by kernel_rfl),fun j hj=>?_⟩
 have hj:j<1:=hj
 rcases j with _ | j
 ·exact d0
 ·omega
theorem one_le {H:Type} (d:DataW H):1≤Rows.uptoBulk d:=by
 cases d with
 | lit l=>cases l <;> simp [Rows.uptoBulk]
 | nil=>simp [Rows.uptoBulk]
 | ptr d=>simp [Rows.uptoBulk]
 | slice elems spare=>simp [Rows.uptoBulk]
 | agg parts=>simp [Rows.uptoBulk]
 | iface t d=>simp [Rows.uptoBulk]
 | map entries=>simp [Rows.uptoBulk]
 | held h=>simp [Rows.uptoBulk]
theorem part_le {H:Type} {d:DataW H} {l:List (DataW H)} (h:d ∈ l):Rows.uptoBulk d≤Rows.uptoBulkAll l:=by
 induction l with
 | nil=>cases h
 | cons x r ih=>
  simp only [Rows.uptoBulkAll]
  cases List.mem_cons.1 h with
  | inl e=>subst e; omega
  | inr e=>have:=ih e; omega
theorem all_le {H:Type} (k:Nat) (l:List (DataW H)) (h : ∀ d ∈ l,k≤Rows.uptoBulk d):l.length*k≤Rows.uptoBulkAll l:=by
 induction l with
 | nil=>simp
 | cons x r ih=>
  have h1:=h x List.mem_cons_self
  have h2:=ih fun d hd=>h d (List.mem_cons_of_mem _ hd)
  simp only [Rows.uptoBulkAll,List.length_cons,Nat.add_mul,Nat.one_mul]
  omega
theorem mea:Mea fun _ d=>Rows.uptoBulk d where
 str s:=by simp [Rows.uptoBulk]
 agg l:=by
  have:=all_le 1 l fun d _=>one_le d
  simp only [Rows.uptoBulk]
  omega
 part h:=by
  have:=part_le h
  simp only [Rows.uptoBulk]
  omega
 elem h:=by
  have:=part_le h
  simp only [Rows.uptoBulk]
  omega
 len {_ l m k} h:=by
  have:=all_le k l h
  simp only [Rows.uptoBulk]
  omega
theorem opM_Bracket {H:Type} {enc:TypeId×Value→H} {w:World} {fuel:Nat} {cs:List Value} {x:DataW H×List MemPlace} (h:DataW.trod enc Tryz.prog w 0 (fun _=>true) true fuel 92 cs=some x) : ∃ y:Bracket,Cel w cs y∧True∧2≤Rows.uptoBulk x.1:=by
 obtain ⟨hl,hs,hf⟩:=trod_fieldM mea Tryz.underlying92 h
 obtain ⟨n0,y0,h0,_⟩:=trod_fldM mea hf 0 _ rfl (t:=3) (o:=0) (k:=1) rfl rfl (by kernel_rfl)
 obtain ⟨n1,y1,h1,_⟩:=trod_fldM mea hf 1 _ rfl (t:=3) (o:=1) (k:=1) rfl rfl (by kernel_rfl)
 obtain ⟨x0,e0,_⟩:=opM_int Tryz.underlying3 h0
 obtain ⟨x1,e1,_⟩:=opM_int Tryz.underlying3 h1
 have g0:=opT_get e0
 have g1:=opT_get e1
 refine ⟨⟨x0,x1⟩,⟨hl.trans (by kernel_rfl),fun j hj=>?_⟩,trivial,hs⟩
 have hj:j<2:=hj
 rcases j with _ | _ | j
 ·rw [g0]; exact .int _ _
 ·rw [g1]; exact .int _ _
 ·omega
theorem opM_Term (n:Nat) (hn:n≤1048576) : ∀ {H:Type} {enc:TypeId×Value→H} {w:World} {fuel:Nat} {cs:List Value} {x:DataW H×List MemPlace},DataW.trod enc Tryz.prog w 0 (fun _=>true) true fuel 49 cs=some x→Rows.uptoBulk x.1≤n→∃ y:Term,Cel w cs y∧TD n y∧4≤Rows.uptoBulk x.1:=by
 induction n with
 | zero=>
  intro H enc w fuel cs x h hx
  have:=one_le x.1
  omega
 | succ n ih=>
  intro H enc w fuel cs x h hx
  obtain ⟨hl,hs,hf⟩:=trod_fieldM mea Tryz.underlying49 h
  obtain ⟨n0,y0,h0,_⟩:=trod_fldM mea hf 0 _ rfl (t:=3) (o:=0) (k:=1) rfl rfl (by kernel_rfl)
  obtain ⟨n1,y1,h1,_⟩:=trod_fldM mea hf 1 _ rfl (t:=3) (o:=1) (k:=1) rfl rfl (by kernel_rfl)
  obtain ⟨n2,y2,h2,_⟩:=trod_fldM mea hf 2 _ rfl (t:=3) (o:=2) (k:=1) rfl rfl (by kernel_rfl)
  obtain ⟨n3,y3,h3,m3⟩:=trod_fldM mea hf 3 _ rfl (t:=47) (o:=3) (k:=1) rfl rfl (by kernel_rfl)
  obtain ⟨x0,e0,a0⟩:=opM_int Tryz.underlying3 h0
  obtain ⟨x1,e1,a1⟩:=opM_int Tryz.underlying3 h1
  obtain ⟨x2,e2,_⟩:=opM_int Tryz.underlying3 h2
  have g0:=opT_get e0
  have g1:=opT_get e1
  have g2:=opT_get e2
  obtain ⟨v3,e3,l,d3,k3,q3⟩:=open_rowM mea (k:=4) (α:=Term) Tryz.underlying47 (fun _ y=>TD n y) (by kernel_rfl) (by decide) (fun h' hm=>ih (by omega) h' (by omega)) h3
  have g3:=opT_get e3
  have hT:TD (n+1) ⟨x0,x1,x2,l⟩:=⟨a0,a1,by show l.length≤1000000; omega,fun k hk=>by
   obtain ⟨_,_,h⟩:=q3 k hk
   exact h⟩
  refine ⟨⟨x0,x1,x2,l⟩,⟨hl.trans (by kernel_rfl),fun j hj=>?_⟩,hT,hs⟩
  rw [Term.cells_eq hT.op]
  have hj:j<4:=hj
  rcases j with _ | _ | _ | _ | j
  ·rw [g0]; exact .int _ _
  ·rw [g1]; exact .int _ _
  ·rw [g2]; exact .int _ _
  ·rw [g3]; exact d3
  ·omega
theorem opM_Scheme (n:Nat) (hn:n≤1048576) {H:Type} {enc:TypeId×Value→H} {w:World} {fuel:Nat} {cs:List Value} {x:DataW H×List MemPlace} (h:DataW.trod enc Tryz.prog w 0 (fun _=>true) true fuel 52 cs=some x) (hx:Rows.uptoBulk x.1≤n) : ∃ y:Scheme,Cel w cs y∧SD n y∧1≤Rows.uptoBulk x.1:=by
 obtain ⟨hl,hs,hf⟩:=trod_fieldM mea Tryz.underlying52 h
 obtain ⟨n0,y0,h0,_⟩:=trod_fldM mea hf 0 _ rfl (t:=3) (o:=0) (k:=1) rfl rfl (by kernel_rfl)
 obtain ⟨n1,y1,h1,m1⟩:=trod_fldM mea hf 1 _ rfl (t:=9) (o:=1) (k:=1) rfl rfl (by kernel_rfl)
 obtain ⟨n2,y2,h2,m2⟩:=trod_fldM mea hf 2 _ rfl (t:=49) (o:=2) (k:=4) rfl rfl (by kernel_rfl)
 obtain ⟨n3,y3,h3,m3⟩:=trod_fldM mea hf 3 _ rfl (t:=50) (o:=6) (k:=1) rfl rfl (by kernel_rfl)
 obtain ⟨n4,y4,h4,_⟩:=trod_fldM mea hf 4 _ rfl (t:=3) (o:=7) (k:=1) rfl rfl (by kernel_rfl)
 obtain ⟨n5,y5,h5,_⟩:=trod_fldM mea hf 5 _ rfl (t:=3) (o:=8) (k:=1) rfl rfl (by kernel_rfl)
 obtain ⟨n6,y6,h6,_⟩:=trod_fldM mea hf 6 _ rfl (t:=4) (o:=9) (k:=1) rfl rfl (by kernel_rfl)
 obtain ⟨x0,e0,_⟩:=opM_int Tryz.underlying3 h0
 obtain ⟨x1,e1,s1⟩:=opM_str mea Tryz.underlying9 h1
 obtain ⟨x2,c2,t2,_⟩:=opM_Term n hn h2 (by omega)
 obtain ⟨v3,e3,l,d3,k3,q3⟩:=open_rowM mea (k:=2) (α:=Bracket) Tryz.underlying50 (fun _ _=>True) (by kernel_rfl) (by decide) (fun h' hm=>opM_Bracket h') h3
 obtain ⟨x4,e4,_⟩:=opM_int Tryz.underlying3 h4
 obtain ⟨x5,e5,_⟩:=opM_int Tryz.underlying3 h5
 obtain ⟨x6,e6⟩:=opM_bool Tryz.underlying4 h6
 have g0:=opT_get e0
 have g1:=opT_get e1
 have g3:=opT_get e3
 have g4:=opT_get e4
 have g5:=opT_get e5
 have g6:=opT_get e6
 have c0:=Cel.at c2 (j:=0) (by decide) (by decide)
 have c1:=Cel.at c2 (j:=1) (by decide) (by decide)
 have c3:=Cel.at c2 (j:=3) (by decide) (by decide)
 have c2:=Cel.at c2 (j:=2) (by decide) (by decide)
 rw [Term.cells_eq t2.op] at c0 c1 c2 c3
 refine ⟨⟨x0,x1,x2,l,x4,x5,x6⟩,⟨hl.trans (by kernel_rfl),fun j hj=>?_⟩,⟨t2,by show x1.size≤_; omega,by show l.length≤_; omega⟩,one_le _⟩
 have hj:j<10:=hj
 rcases j with _ | _ | _ | _ | _ | _ | _ | _ | _ | _ | j
 ·rw [g0]; exact .int _ _
 ·rw [g1]; exact .str _
 ·exact c0
 ·exact c1
 ·exact c2
 ·exact c3
 ·rw [g3]; exact d3
 ·rw [g4]; exact .int _ _
 ·rw [g5]; exact .int _ _
 ·rw [g6]; exact .bool _
 ·omega
theorem open_schemes {H:Type} {enc:TypeId×Value→H} {W:World} {v:Value} {d:DataW H} {ps:List MemPlace} {r:Reach} {b0:Nat} (hv:Value.okWide Tryz.prog W r b0 23 v) (hd:DataW.Trod enc Tryz.prog W 0 (fun _=>true) true 23 v d ps) (hb:Rows.uptoBulk d≤1048576) : ∃ l:List Scheme,DRep W (fun _=>False) v (DL l)∧∀ s ∈ l,SD 1048576 s:=by
 obtain ⟨fuel,hf⟩:=hd
 obtain ⟨a0,len,cap,rfl⟩:=okWide_slice Tryz.underlying23 hv
 obtain ⟨v,h1,l,hl,_,hq⟩:=open_rowM mea (k:=1) (α:=Scheme) Tryz.underlying23 (fun _ y=>SD 1048576 y) (by kernel_rfl) (by decide) (fun h' hm=>opM_Scheme 1048576 (Nat.le_refl _) h' (Nat.le_of_lt (Nat.lt_of_lt_of_le hm hb))) hf
 simp [Value.cells] at h1
 subst h1
 exact ⟨l,hl,fun s hs=>by
  obtain ⟨_,_,h⟩:=hq s hs
  exact h⟩
theorem contract (H:Type) (enc:TypeId×Value→H) (W:World) (base:Nat) (args:Array Value) (ds gs:List (DataW H)) (before:List MemPlace)
  (hval : ∀ (j:Nat) t v,Tryz.f3.params[j]? = some t→args[j]? = some v→Value.okWide Tryz.prog W .any base t v)
  (hW:DataW.Whole enc Tryz.prog Tryz.f3.params.toList Rows.exclusionAnswersSpec.vars false W args.toList ds gs before) (hk:Rows.uptoSmall H (ds++gs)=true) :
  Calls Tryz.prog 3 args W fun e W' => ∃ v,e=.returned v∧Rows.exclusionAnswersSpec.post enc Tryz.prog Tryz.f3 false true false false W args v W' := by
 have hW' := hW
 obtain ⟨p,q,hA0,hV,rfl,_,_⟩:=hW
 have hA:DataW.TrodAll enc Tryz.prog W 0 (fun _=>true) true Tryz.f3.params.toList args.toList ds p:=hA0
 rw [Tryz.params3] at hA hval
 obtain ⟨v0,vs0,d0,ds0,p0,q0,hargs0,rfl,rfl,h0,r0⟩:=trodAll_cons hA
 obtain ⟨v1,vs1,d1,ds1,p1,q1,hargs1,rfl,rfl,h1,r1⟩:=trodAll_cons r0
 obtain ⟨v2,vs2,d2,ds2,p2,q2,hargs2,rfl,rfl,h2,r2⟩:=trodAll_cons r1
 obtain ⟨rfl,rfl,rfl⟩:=trodAll_nil r2
 obtain rfl:args = #[v0,v1,v2]:=by cases args; simp_all
 obtain ⟨rfl,rfl⟩:=trodVars_none hV
 obtain ⟨l,hl,_⟩:=open_intsD Tryz.underlying22 Tryz.underlying3 (by kernel_rfl) (hval 0 22 v0 rfl rfl) h0
 have hb1:Rows.uptoBulk d1≤1048576:=by
  have h:=of_decide_eq_true hk
  have h2:=part_le (d:=d1) (l:=[d0,d1,d2]++[]) (by simp)
  exact Nat.le_trans h2 h
 obtain ⟨a1,hc1,hs1⟩:=open_schemes (hval 1 23 v1 rfl rfl) h1 hb1
 obtain ⟨a2,hc2⟩:=open_listD Tryz.underlying24 opT32 (by kernel_rfl) (by decide) (hval 2 24 v2 rfl rfl) h2
 obtain ⟨F,hF⟩:=law l a1 a2 hs1
 have hsp:=law31_ExclusionAnswers_spec hF W (fun _=>False) (fun _=>undef) #[v0,v1,v2] (fun b hb=>hb.elim) (fun b ⟨i,o,hi,_⟩=>by cases hi) (fun i o hi=>by cases hi) (fun i j b hi=>absurd rfl hi) rfl
  (fun j hj=>by
   have:j=0∨j=1∨j=2:=by simp at hj; omega
   rcases this with rfl | rfl | rfl
   ·exact .v _ _ (.c _ _ (.d _ _ hl))
   ·exact .v _ _ (.c _ _ (.d _ _ hc1))
   ·exact .v _ _ (.c _ _ (.d _ _ hc2)))
 refine hsp.mono fun e W' hh=>?_
 obtain ⟨v,η',he,hb⟩:=hh
 have hres:=hb.res
 have hv:v=.bool true:=by
  cases hres with | v _ _ hh=>cases hh with | c _ _ hh=>cases hh with | d _ _ hh=>cases hh; rfl
 subst hv
 refine ⟨_,he,post_true laidOut hW' rfl rfl (by kernel_rfl) (t:=4) (by kernel_rfl) Tryz.underlying4 (hb.stp.mono fun b _ hM=>by obtain ⟨i,o,hi,_⟩:=hM; cases hi)⟩
set_option maxRecDepth 100000 in
theorem lifted (os:Os) (started:os.Started) (H:Type) (enc:TypeId×Value→H) (F:Stop.Interp) :
  ReturnsInHanded {} Tryz.checked os 3 .any ((Rows.OpenSpec.upto Rows.exclusionAnswersSpec).pre6 enc Tryz.prog Tryz.f3 Rows.exclusionAnswersUptoRow.domain false) (((Rows.OpenSpec.upto Rows.exclusionAnswersSpec).at F).post enc Tryz.prog Tryz.f3 false true false false):=by
 refine returnsInHanded_of_cond (C:=Tryz.checked) (s:=Rows.OpenSpec.upto Rows.exclusionAnswersSpec) (k:=Rows.uptoSmall) rfl own started (by kernel_rfl) Tryz.func3
  (OpenSpec.witness (enc:=enc) (C:=Tryz.checked) (s:=Rows.OpenSpec.upto Rows.exclusionAnswersSpec) (k:=Rows.uptoSmall) rfl false ⟨#[], #[.slice none 0 0,.slice none 0 0,.slice none 0 0],[]⟩ 8 (by kernel_rfl) (by kernel_rfl) (by kernel_rfl)
   (x:=([.nil,.nil,.nil],[],[])) (by kernel_rfl) rfl (by kernel_rfl)) ?_
 intro W base args ds gs before hval hW _ hk _
 exact contract H enc W base args ds gs before hval hW hk
theorem am {a b:Bool} (h:a=true) (h' : b=true):(a&&b)=true:=by rw [h,h']; rfl
theorem cA:(Rows.exclusionAnswersUptoRow.wf (OpenSpec.ofChange Rows.exclusionAnswersSpec)&&laidOutB Tryz.pinned.checked.prog&&mapsRowed Tryz.pinned.checked.prog&&Tryz.f3.params.all (Tryz.pinned.checked.prog.readableRec ·)&&namedTie Tryz.pinned.checked.prog Rows.exclusionAnswersUptoRow.named Rows.exclusionAnswersSpec.vars&&(Rows.exclusionAnswersUptoRow.stops==[])&&(Tryz.pinned.checked.prog.stops==[])&&(Rows.exclusionAnswersUptoRow.knobs==[])&&(Tryz.pinned.checked.prog.stopKnobs==[]))=true:=by kernel_rfl
theorem cB:(Rows.exclusionAnswersUptoRow.inPlace==Tryz.pinned.checked.prog.inPlace 3)=true:=by kernel_rfl
theorem cC:(Rows.exclusionAnswersUptoRow.unfollowed==Tryz.pinned.checked.prog.unfollowed 3)=true:=by kernel_rfl
theorem cD:(Rows.exclusionAnswersUptoRow.recurses==Tryz.pinned.checked.prog.recurses 3)=true:=by kernel_rfl
theorem cE:(Rows.exclusionAnswersUptoRow.named==Tryz.pinned.checked.prog.varsNamed 3)=true:=by kernel_rfl
theorem cF:Tryz.pinned.checked.prog.mayEnter=true:=by kernel_rfl
theorem cG:(Rows.exclusionAnswersUptoRow.lifted==Tryz.pinned.checked.prog.liftsFinal)=true:=by kernel_rfl
theorem cH:(Tryz.pinned.checked.prog.make==some Rows.exclusionAnswersUptoRow.make)=true:=by kernel_rfl
theorem closed:joinedFacts Tryz.pinned.checked.prog 3 Tryz.f3 Rows.exclusionAnswersSpec Rows.exclusionAnswersUptoRow=true:=
 am (am (am (am (am (am (am (am (am (am (am (am (am (am (am (am (am (am (am (am (am (am (am cA cB) cC) cD) cE) (by kernel_rfl)) (by kernel_rfl)) (by kernel_rfl)) (by kernel_rfl)) (by kernel_rfl)) (by kernel_rfl)) (by kernel_rfl)) (by kernel_rfl)) (by kernel_rfl)) (by kernel_rfl)) (by kernel_rfl)) (by kernel_rfl)) cF) cG) cH) (by kernel_rfl)) (by kernel_rfl)) (by kernel_rfl)) (by kernel_rfl)
theorem proved:Rows.ExclusionAnswersUptoSaid:=
 OpenClaim.holds_of_cond 3 Tryz.f3 rfl rfl rfl rfl rfl rfl rfl ⟨rfl,rfl,rfl,rfl,rfl⟩ rfl rfl rfl rfl rfl (by kernel_rfl) Tryz.func3 closed
  (of_decide_eq_true (by kernel_rfl)) (by unfold Func.isWrapper; first | (rw [if_pos (by decide +kernel)]; kernel_rfl) | (rw [if_neg (by decide +kernel)]; exact ⟨rfl,rfl⟩))
  (fun os started H enc _ F=>lifted os started H enc F)
end Go.Proofs.YtgfmopdbhjcpfaaGreat.exclusionAnswers
end
