/- Abstract states over the model: every lemma holds of any program of the form that it names. -/
import Derived.Test.YtdghfppocejhjaaGreatBaA
import Derived.Shelf.Spec.SlicesInsertGrow
import Derived.Lib.Hide
import Derived.Test.YtdghfppocejhjaaGreatAbC
import Derived.Test.YtdghfppocejhjaaGreatPuB
import Derived.Laws.IdiomCopy
import Derived.Laws.Append
set_option linter.unusedVariables false
set_option linter.unusedSimpArgs false
section
namespace Go.Proofs
open Go.Shelf Go.RowKit Go.Lib
variable {P:Program}
theorem run_copy_5 (w:World) (dT sT ty elem:TypeId) (b o dLen dCap:Nat) (a:Addr) (sLen sCap:Nat) (cs:List Value)
  (hu:P.underlying dT=some (.slice elem)) (hs:(P.info? elem).map (·.size)=some 5) (hn:cs.length=Nat.min sLen dLen*5)
  (hsrc : ∀ j v,cs[j]? = some v→w.cell? (a.add j)=some v) (hc : ∀ j,j<cs.length→(w.cell? ⟨b,o+j,none⟩).isSome=true) (hf : ∀ j,j<cs.length→w.frozen? ⟨b,o+j,none⟩=false) (h1 : ∀ v ∈ cs,v.oneCell' = true) :
  (Builtin.copy_ #[dT,sT] ty #[.slice (some ⟨b,o,none⟩) dLen dCap,.slice (some a) sLen sCap]).run P w=.ok (goInt (Nat.min sLen dLen)) (w.setCells b o cs):=by
 have hl:=run_loadCells_list (P:=P) w a cs hsrc
 have hst:=run_storeCells_cells (P:=P) b o cs 0 w (by simpa using hc) (by simpa using hf) h1
 cases hq:P.info? elem with
 | none=>simp [hq] at hs
 | some i=>
  have hi:i.size=5:=by simpa [hq] using hs
  simp [Builtin.copy_,run_underlying hu,Builtin.lenOf,Builtin.firstCells,sizeOf,typeInfo,hq,hi, ← hn,hl,hst]
theorem Tryz.u62:Tryz.prog.underlying 22=some (.slice 27):=by kernel_rfl
theorem Tryz.i64' : (Tryz.prog.info? 27).map (·.size)=some 5:=by kernel_rfl
abbrev z64v:Value:=.agg #[.int .i64 0,.int .i64 0,.int .i64 0,.int .i64 0,.slice none 0 0]
theorem Tryz.i64a:(Tryz.prog.info? 27).map (fun i=>(i.zero,i.size,i.bytes))=some (some z64v,5,56):=by kernel_rfl
theorem z64c:z64v.cells = #[.int .i64 0,.int .i64 0,.int .i64 0,.int .i64 0,.slice none 0 0]:=by kernel_rfl
theorem zc_size (k:Nat):(Builtin.zeroCells z64v.cells k).size=k*5:=by
 rw [z64c]; simp [Builtin.zeroCells]
theorem wpList_append_room5 (w:World) {ops:Array Oper} {rest:List Oper} {o:Oper} {a:Act} {Q:Exit→Act→World→Prop}
  (hg:o.guard=none) (s x:Operand) (t tx:TypeId) (hop:o.op=Op.call { callee:=Callee.builtin Builtin.append,args:= #[s,x],argTypes:= #[t,tx] })
  (e:TypeId) (z:Value) (bytes:Nat) (ht:P.underlying t=some (.slice e)) (hinfo:(P.info? e).map (fun i=>(i.zero,i.size,i.bytes))=some (some z,5,bytes))
  (b off sLen sCap:Nat) (hs:a.eval s=.slice (some ⟨b,off,none⟩) sLen sCap) (xv:Value) (hx:a.eval x=xv) (n:Nat) (news:List Value) (hsrc:Src P 5 tx xv n news w)
  (hroom:sLen+n≤sCap) (hc : ∀ j,j<news.length→(w.cell? ⟨b,off+sLen*5+j,none⟩).isSome=true) (hf : ∀ j,j<news.length→w.frozen? ⟨b,off+sLen*5+j,none⟩=false)
  (hK:wpList P ops Q rest (a.put o.dst (.slice (some ⟨b,off,none⟩) (sLen+n) sCap)) (w.setCells b (off+sLen*5) news)) :
  wpList P ops Q (o::rest) a w:=by
 obtain ⟨i,hi,hzz⟩:=Option.map_eq_some_iff.1 hinfo
 simp only [Prod.mk.injEq] at hzz
 obtain ⟨_,hs1,_⟩:=hzz
 exact wpList_append_room_src w hg s x t tx hop e i ht hi b off sLen sCap hs xv hx n news (by rw [hs1]; exact hsrc) hroom (by rw [hs1]; exact hc) (by rw [hs1]; exact hf) (by rw [hs1]; exact hK)
theorem Tryz.z64' : ∀ w,(Go.sizeOf 27).run Tryz.prog w=.ok 5 w:=fun w=>by
 cases hq:Tryz.prog.info? 27 with
 | none=>have:=Tryz.i64'; rw [hq] at this; cases this
 | some i=>
  have hi:i.size=5:=by have:=Tryz.i64'; rw [hq] at this; simpa using this
  simp [sizeOf,typeInfo,hq,hi]
set_option maxHeartbeats 4000000 in
set_option maxRecDepth 100000 in
theorem ins_shift (b n c i vb vc:Nat) (cs vs:List Value) (w:World) (hi:i<n) (hroom:n+1≤c) (hc63:c≤9223372036854775807) (hvb:vb≠b)
  (hcl:cs.length=n*5) (hvl:vs.length=5)
  (hcs : ∀ j v,cs[j]? = some v→w.cell? ⟨b,j,none⟩=some v) (hsp : ∀ j,j<(n+1)*5→(w.cell? ⟨b,j,none⟩).isSome=true) (hfz : ∀ j,j<(n+1)*5→w.frozen? ⟨b,j,none⟩=false)
  (hvs : ∀ j v,vs[j]? = some v→w.cell? ⟨vb,j,none⟩=some v) (h1c : ∀ v ∈ cs,v.oneCell' = true) (h1v : ∀ v ∈ vs,v.oneCell' = true)
  (tA tB:TypeId) (kA kB:Nat) (hsa:w.shape? vb=some (tA,kA)) (hsb:w.shape? b=some (tB,kB)) (hkB:kB≠0) (hfa:w.frozen? ⟨vb,0,none⟩=false) (hfe:w.frozen? ⟨vb,kA,none⟩=false) :
  Calls Tryz.prog 69 #[.slice (some ⟨b,0,none⟩) n c,.int .i64 i,.slice (some ⟨vb,0,none⟩) 1 vc] w fun e w' =>
   e=.returned (.slice (some ⟨b,0,none⟩) (n+1) c)∧w' = (w.drew.setCells b ((i+1)*5) (cs.drop (i*5))).setCells b (i*5) vs:=by
 have hz2 : ¬ ((i:Int)=(n:Int)):=by omega
 have mixed:Tryz.prog.follows .mixedOrders=true:=by kernel_rfl
 have hw1:IntKind.i64.wrap ((i:Int)+1)=(i:Int)+1:=by rw [IntKind.wrap_i64]; omega
 have hb1:(0:Int)≤(i:Int)+1:=by omega
 have hin:i≤n:=by omega
 have htn:((i:Int)+1).toNat=i+1:=by omega
 have hb2 : ¬ (c=i+1):=by omega
 have hb3:(i:Int)≤(n:Int)+1:=by omega
 have hb4 : ¬ (c=i):=by omega
 have hov : ∀ lb cb,(callFunc 105 #[.slice (some ⟨vb,0,none⟩) 1 vc,.slice (some ⟨b,(i+1)*5,none⟩) lb cb]).run Tryz.prog w=.ok (.value (.bool false)) w:=fun lb cb=>by
  rw [run_callFunc_extern Tryz.func105 (by kernel_rfl) (by kernel_rfl) (by kernel_rfl) (e:=Extern.SlicesOverlaps.overlaps #[22,22] #[4]) (by kernel_rfl),
   Lib.run_overlaps_apart w 22 4 27 Tryz.u62 5 Tryz.z64' ⟨vb,0,none⟩ ⟨b,(i+1)*5,none⟩ 1 vc lb cb hvb tA tB kA kB hsa hsb hkB hfa hfe]
  rfl
 have hdl:(cs.drop (i*5)).length=(n-i)*5:=by rw [List.length_drop,hcl]; omega
 have hcp1 : ∀ ty dc sc,(Builtin.copy_ #[22,22] ty #[.slice (some ⟨b,(i+1)*5,none⟩) (n-i) dc,.slice (some ⟨b,i*5,none⟩) (n+1-i) sc]).run Tryz.prog w.drew=.ok (goInt (Nat.min (n+1-i) (n-i))) (w.drew.setCells b ((i+1)*5) (cs.drop (i*5))):=fun ty dc sc=>
  run_copy_5 w.drew _ _ ty 27 b ((i+1)*5) (n-i) dc ⟨b,i*5,none⟩ (n+1-i) sc (cs.drop (i*5)) Tryz.u62 Tryz.i64' (by rw [hdl]; simp only [Nat.min_def]; split <;> omega)
   (fun j v hj=>by rw [Addr.add_lit]; exact hcs (i*5+j) v (by rwa [List.getElem?_drop] at hj))
   (fun j hj=>hsp _ (by omega)) (fun j hj=>hfz _ (by omega)) (fun v hv=>h1c v (List.mem_of_mem_drop hv))
 obtain ⟨W1,hW1⟩ : ∃ W1,W1=w.drew.setCells b ((i+1)*5) (cs.drop (i*5)):=⟨_,rfl⟩
 have hsp1 : ∀ k,k<(n+1)*5→(W1.cell? ⟨b,k,none⟩).isSome=true:=fun k hk=>by
  rw [hW1]
  exact isSome_setCells b (cs.drop (i*5)) ((i+1)*5) w.drew (fun j hj=>hsp _ (by omega)) _ (hsp k hk)
 have hcp2 : ∀ (W:World),(∀ x,W.cell? x=W1.cell? x)→(∀ x,W.frozen? x=W1.frozen? x)→∀ ty dc,(Builtin.copy_ #[22,22] ty #[.slice (some ⟨b,i*5,none⟩) (n+1-i) dc,.slice (some ⟨vb,0,none⟩) 1 vc]).run Tryz.prog W=.ok (goInt (Nat.min 1 (n+1-i))) (W.setCells b (i*5) vs):=fun W hWc hWf ty dc=>
  run_copy_5 W _ _ ty 27 b (i*5) (n+1-i) dc ⟨vb,0,none⟩ 1 vc vs Tryz.u62 Tryz.i64' (by rw [hvl]; simp only [Nat.min_def]; split <;> omega)
   (fun j v hj=>by
    rw [Addr.add_lit,hWc,hW1,World.cell?_setCells_out b _ _ _ _ (fun h _=>absurd h hvb)]
    exact hvs _ v (by simpa using hj))
   (fun j hj=>by rw [hWc]; exact hsp1 _ (by omega)) (fun j hj=>by rw [hWf,hW1,World.frozen?_setCells]; exact hfz _ (by omega)) h1v
 rw [← hW1] at hcp1
 go_enter Tryz.func69,Tryz.ntmps69
 go_wp2_with (simp only [hov])
 go_region_law_o (refine step_copy_runI rfl _ _ 22 22 rfl _ _ (by simp [Act.eval,Act.put]) (by simp [Act.eval,Act.put]) (hcp1 _ _ _) ?_)
 go_wp2_with (at_builtin; refine wpList_copy_runI _ rfl _ _ 22 22 rfl _ _ rfl rfl (hcp2 _ (fun _=>rfl) (fun _=>rfl) _ _) ?_)
 go_ret
 first | exact ⟨rfl,rfl⟩ | exact ⟨rfl,by rw [hW1]⟩
set_option maxHeartbeats 4000000 in
set_option maxRecDepth 100000 in
theorem ins_end_room (b n c vb vc:Nat) (vs:List Value) (w:World) (hroom:n+1≤c) (hc63:c≤9223372036854775807)
  (hvl:vs.length=5) (hsp : ∀ j,j<5→(w.cell? ⟨b,n*5+j,none⟩).isSome=true) (hfz : ∀ j,j<5→w.frozen? ⟨b,n*5+j,none⟩=false)
  (hvs : ∀ j v,vs[j]? = some v→w.cell? ⟨vb,j,none⟩=some v) (h1v : ∀ v ∈ vs,v.oneCell' = true) :
  Calls Tryz.prog 69 #[.slice (some ⟨b,0,none⟩) n c,.int .i64 n,.slice (some ⟨vb,0,none⟩) 1 vc] w fun e w' =>
   e=.returned (.slice (some ⟨b,0,none⟩) (n+1) c)∧w' = w.setCells b (n*5) vs:=by
 have hsrc:Src Tryz.prog 5 22 (.slice (some ⟨vb,0,none⟩) 1 vc) 1 vs w:=Src.ofSlice w Tryz.u62 ⟨vb,0,none⟩ 1 vc vs (by omega) (fun j u hj=>by rw [Addr.add_lit]; simpa using hvs j u hj) h1v
 have hsp' : ∀ j,j<vs.length→(w.cell? ⟨b,0+n*5+j,none⟩).isSome=true:=fun j hj=>by rw [Nat.zero_add]; exact hsp j (by omega)
 have hfz' : ∀ j,j<vs.length→w.frozen? ⟨b,0+n*5+j,none⟩=false:=fun j hj=>by rw [Nat.zero_add]; exact hfz j (by omega)
 have HS:=Lib.hid hsp'
 have HF:=Lib.hid hfz'
 clear hsp' hfz' hsp hfz
 go_enter Tryz.func69,Tryz.ntmps69
 go_wp2_with (at_builtin; refine wpList_append_room5 _ rfl _ _ 22 22 rfl 27 _ _ Tryz.u62 Tryz.i64a b 0 n c rfl _ rfl 1 vs hsrc hroom HS.out HF.out ?_)
 go_ret
 exact ⟨rfl,rfl⟩
set_option maxHeartbeats 4000000 in
set_option maxRecDepth 100000 in
theorem ins_end_grow (base:Option Addr) (n c vb vc:Nat) (cs vs:List Value) (w:World) (hnc:n≤c) (hroom:c<n+1) (hbig:(n+1)*56≤140737488355328)
  (hcl:cs.length=n*5) (hvl:vs.length=5) (hnil:base=none→n=0)
  (hcs : ∀ a,base=some a→∀ j v,cs[j]? = some v→w.cell? (a.add j)=some v)
  (hvs : ∀ j v,vs[j]? = some v→w.cell? ⟨vb,j,none⟩=some v) (h1v : ∀ v ∈ vs,v.oneCell' = true) :
  Calls Tryz.prog 69 #[.slice base n c,.int .i64 n,.slice (some ⟨vb,0,none⟩) 1 vc] w fun e w' =>
   e=.returned (.slice (some ⟨w.heap.size,0,none⟩) (n+1) (grownCap w (n+1) c 27)) ∧
   w' = w.drew.alloc (.cells ((cs++vs).toArray++Builtin.zeroCells z64v.cells (grownCap w (n+1) c 27-(n+1))) 27):=by
 obtain ⟨i0,hi0,hz0,hzs,hzb⟩:=info_parts Tryz.i64a
 have hsrc:Src Tryz.prog i0.size 22 (.slice (some ⟨vb,0,none⟩) 1 vc) 1 vs w:=by
  rw [hzs]
  exact Src.ofSlice w Tryz.u62 ⟨vb,0,none⟩ 1 vc vs (by omega) (fun j u hj=>by rw [Addr.add_lit]; simpa using hvs j u hj) h1v
 have hold:(Builtin.firstCells i0.size n (.slice base n c)).run Tryz.prog w.drew=.ok cs.toArray w.drew:=by
  rw [hzs]
  cases base with
  | none=>
   have h0:=hnil rfl
   subst h0
   obtain rfl:cs=[]:=List.length_eq_zero_iff.1 (by omega)
   exact run_firstCells_none w.drew 5 0 0 c
  | some a=>exact run_firstCells_some w.drew 5 n a n c cs hcl (fun j v hj=>hcs a rfl j v hj)
 have hrun : ∀ ty,(Builtin.append_ #[22,22] ty #[.slice base n c,.slice (some ⟨vb,0,none⟩) 1 vc]).run Tryz.prog w=_:=fun ty=>
  run_append_grow_src w 22 22 ty 27 i0 _ Tryz.u62 hi0 hz0 base n c cs hold _ 1 vs hsrc hroom (by omega) (by rw [hzb]; exact growslice_fits hroom hbig)
 have HR:=Lib.hid hrun
 clear hrun hold hsrc hcs hvs
 go_enter Tryz.func69,Tryz.ntmps69
 cases base with
 | none=>
  have h0:=hnil rfl
  subst h0
  go_wp2_with (at_builtin; refine Lib.wpList_append_run _ rfl _ _ _ _ rfl _ _ rfl rfl _ _ (HR.out _) ?_)
  go_ret
  exact ⟨rfl,rfl⟩
 | some a=>
  obtain ⟨ab,ao,asp⟩:=a
  go_wp2_with (at_builtin; refine Lib.wpList_append_run _ rfl _ _ _ _ rfl _ _ rfl rfl _ _ (HR.out _) ?_)
  all_goals (go_ret; exact ⟨rfl,rfl⟩)
set_option maxHeartbeats 4000000 in
set_option maxRecDepth 100000 in
theorem ins_grow (b n c i vb vc:Nat) (cs vs:List Value) (w:World) (hi:i<n) (hnc:n≤c) (hroom:c<n+1) (hbig:(n+1)*56≤140737488355328)
  (hcl:cs.length=n*5) (hvl:vs.length=5)
  (hcs : ∀ j v,cs[j]? = some v→w.cell? ⟨b,j,none⟩=some v)
  (hvs : ∀ j v,vs[j]? = some v→w.cell? ⟨vb,j,none⟩=some v) (h1c : ∀ v ∈ cs,v.oneCell' = true) (h1v : ∀ v ∈ vs,v.oneCell' = true) :
  Calls Tryz.prog 69 #[.slice (some ⟨b,0,none⟩) n c,.int .i64 i,.slice (some ⟨vb,0,none⟩) 1 vc] w fun e w' =>
   e=.returned (.slice (some ⟨w.heap.size,0,none⟩) (n+1) (grownCap w (n+1) c 27)) ∧
   w' = (((w.alloc (.cells ((cs.take (i*5)).toArray++Builtin.zeroCells z64v.cells (n+1-i)++Builtin.zeroCells z64v.cells (grownCap w (n+1) c 27-(n+1))) 27)).drew.setCells w.heap.size (i*5) vs).drew).setCells w.heap.size ((i+1)*5) (cs.drop (i*5)):=by
 have mixed:Tryz.prog.follows .mixedOrders=true:=by kernel_rfl
 obtain ⟨i0,hi0,hz0,hzs,hzb⟩:=info_parts Tryz.i64a
 have hz2 : ¬ ((i:Int)=(n:Int)):=by omega
 have hz3:(c:Int)<(n:Int)+1:=by omega
 have hbw:b<w.heap.size:=block_lt_of_cell (hcs 0 _ (List.getElem?_eq_getElem (by omega)))
 have hvw:vb<w.heap.size:=block_lt_of_cell (hvs 0 _ (List.getElem?_eq_getElem (by omega)))
 have hkk:(n:Int)+1-(i:Int)=((n+1-i:Nat):Int):=by omega
 have hik:i+(n+1-i)=n+1:=by omega
 have hold:(Builtin.firstCells i0.size i (.slice (some ⟨b,0,none⟩) i c)).run Tryz.prog w.drew=.ok (cs.take (i*5)).toArray w.drew:=by
  rw [hzs]
  exact run_firstCells_some w.drew 5 i ⟨b,0,none⟩ i c (cs.take (i*5)) (by rw [List.length_take]; omega) (fun j v hj=>by
   rw [Addr.add_lit,Nat.zero_add]
   rw [List.getElem?_take] at hj
   split at hj
   ·exact hcs j v hj
   ·cases hj)
 have hrz : ∀ ty,(Builtin.append_ #[22,3] ty #[.slice (some ⟨b,0,none⟩) i c,.int .i64 ((n:Int)+1-(i:Int))]).run Tryz.prog w =
   .ok (.slice (some ⟨w.heap.size,0,none⟩) (n+1) (grownCap w (n+1) c 27)) (w.drew.alloc (.cells ((cs.take (i*5)).toArray++Builtin.zeroCells z64v.cells (n+1-i)++Builtin.zeroCells z64v.cells (grownCap w (n+1) c 27-(n+1))) 27)):=fun ty=>by
  have h:=Lib.run_append_grow_zeros w 22 3 ty 27 i0 _ .i64 .i64 Tryz.u62 (by kernel_rfl) hi0 hz0 (some ⟨b,0,none⟩) i c (cs.take (i*5)) hold (n+1-i) (by omega) (by omega) (by omega) (by omega) (by rw [hzb]; omega) (by rw [hzb,hik]; exact growslice_fits hroom hbig)
  rw [hik] at h
  rw [hkk]
  exact h
 obtain ⟨G,hG⟩ : ∃ G,G=grownCap w (n+1) c 27:=⟨_,rfl⟩
 obtain ⟨ROW,hROW⟩ : ∃ ROW:Array Value,ROW=(cs.take (i*5)).toArray++Builtin.zeroCells z64v.cells (n+1-i)++Builtin.zeroCells z64v.cells (G-(n+1)):=⟨_,rfl⟩
 rw [← hG] at hrz ⊢
 rw [← hROW] at hrz ⊢
 have hRl:(n+1)*5≤ROW.size:=by
  rw [hROW,Array.size_append,Array.size_append,zc_size,zc_size,List.size_toArray,List.length_take]
  omega
 obtain ⟨W1,hW1⟩ : ∃ W1,W1=w.drew.alloc (.cells ROW 27):=⟨_,rfl⟩
 rw [← hW1] at hrz
 have hN : ∀ j,j<(n+1)*5→(W1.cell? ⟨w.heap.size,j,none⟩).isSome=true:=fun j hj=>by
  rw [hW1,World.cell?_alloc_at (w:=w.drew) ROW _ w.heap.size j rfl,Array.getElem?_eq_getElem (by omega)]; rfl
 have hNf : ∀ j,W1.frozen? ⟨w.heap.size,j,none⟩=false:=fun j=>by rw [hW1]; exact World.frozen?_alloc_at (w:=w.drew) ROW _ w.heap.size j rfl
 have hOb : ∀ j v,w.cell? ⟨b,j,none⟩=some v→W1.cell? ⟨b,j,none⟩=some v:=fun j v h=>by rw [hW1,World.cell?_alloc_past (w:=w.drew) _ b j hbw]; exact h
 have hOv : ∀ j v,w.cell? ⟨vb,j,none⟩=some v→W1.cell? ⟨vb,j,none⟩=some v:=fun j v h=>by rw [hW1,World.cell?_alloc_past (w:=w.drew) _ vb j hvw]; exact h
 have hcpA : ∀ (W:World),(∀ x,W.cell? x=W1.cell? x)→(∀ x,W.frozen? x=W1.frozen? x)→∀ ty dc,(Builtin.copy_ #[22,22] ty #[.slice (some ⟨w.heap.size,i*5,none⟩) (n+1-i) dc,.slice (some ⟨vb,0,none⟩) 1 vc]).run Tryz.prog W=.ok (goInt (Nat.min 1 (n+1-i))) (W.setCells w.heap.size (i*5) vs):=fun W hWc hWf ty dc=>
  run_copy_5 W _ _ ty 27 w.heap.size (i*5) (n+1-i) dc ⟨vb,0,none⟩ 1 vc vs Tryz.u62 Tryz.i64' (by rw [hvl]; simp only [Nat.min_def]; split <;> omega)
   (fun j v hj=>by rw [Addr.add_lit,hWc,Nat.zero_add]; exact hOv _ v (hvs j v hj))
   (fun j hj=>by rw [hWc]; exact hN _ (by omega)) (fun j hj=>by rw [hWf]; exact hNf _) h1v
 have hGn:n+1≤G:=by rw [hG]; exact grownCap_ge w _ _ _
 have hG63:G≤9223372036854775807:=by
  have:=grownCap_le_maxLen w (n+1) c 27 (by unfold maxLen; omega)
  rw [← hG] at this
  unfold maxLen at this
  omega
 have hGi : ¬ (G=i):=by omega
 have hGim : ¬ (G=i+1):=by omega
 have hci : ¬ (c=i):=by omega
 have hbN:b≠w.heap.size:=by omega
 have hdl:(cs.drop (i*5)).length=(n-i)*5:=by rw [List.length_drop,hcl]; omega
 have hcpB : ∀ (W:World),(∀ x,W.cell? x=(W1.setCells w.heap.size (i*5) vs).cell? x)→(∀ x,W.frozen? x=(W1.setCells w.heap.size (i*5) vs).frozen? x)→∀ ty dc sc,(Builtin.copy_ #[22,22] ty #[.slice (some ⟨w.heap.size,(i+1)*5,none⟩) (n-i) dc,.slice (some ⟨b,i*5,none⟩) (n-i) sc]).run Tryz.prog W=.ok (goInt (Nat.min (n-i) (n-i))) (W.setCells w.heap.size ((i+1)*5) (cs.drop (i*5))):=fun W hWc hWf ty dc sc=>
  run_copy_5 W _ _ ty 27 w.heap.size ((i+1)*5) (n-i) dc ⟨b,i*5,none⟩ (n-i) sc (cs.drop (i*5)) Tryz.u62 Tryz.i64' (by rw [hdl]; simp only [Nat.min_def]; split <;> omega)
   (fun j v hj=>by
    rw [Addr.add_lit,hWc,World.cell?_setCells_out _ _ _ _ _ (fun h _=>absurd h hbN)]
    exact hOb _ v (hcs (i*5+j) v (by rwa [List.getElem?_drop] at hj)))
   (fun j hj=>by rw [hWc]; exact isSome_setCells w.heap.size vs (i*5) W1 (fun t ht=>hN _ (by omega)) _ (hN _ (by omega)))
   (fun j hj=>by rw [hWf,World.frozen?_setCells]; exact hNf _) (fun v hv=>h1c v (List.mem_of_mem_drop hv))
 subst hW1
 have hE1 : ∀ x,((w.alloc (.cells ROW 27)).drew).cell? x=(w.drew.alloc (.cells ROW 27)).cell? x:=fun x=>rfl
 have hE2 : ∀ x,((w.alloc (.cells ROW 27)).drew).frozen? x=(w.drew.alloc (.cells ROW 27)).frozen? x:=fun x=>rfl
 have hF1 : ∀ x,(((w.alloc (.cells ROW 27)).drew.setCells w.heap.size (i*5) vs).drew).cell? x=((w.drew.alloc (.cells ROW 27)).setCells w.heap.size (i*5) vs).cell? x:=fun x=>rfl
 have hF2 : ∀ x,(((w.alloc (.cells ROW 27)).drew.setCells w.heap.size (i*5) vs).drew).frozen? x=((w.drew.alloc (.cells ROW 27)).setCells w.heap.size (i*5) vs).frozen? x:=fun x=>rfl
 have hw1:IntKind.i64.wrap ((i:Int)+1)=(i:Int)+1:=by rw [IntKind.wrap_i64]; omega
 have hb1:(0:Int)≤(i:Int)+1:=by omega
 have hin:i≤n:=by omega
 have htn:((i:Int)+1).toNat=i+1:=by omega
 have hb3:(i:Int)≤(n:Int):=by omega
 clear hkk hik hold hROW hG hRl
 go_enter Tryz.func69,Tryz.ntmps69
 go_wp2_with (first
  | (at_builtin; refine Lib.wpList_append_run _ rfl _ _ _ _ rfl _ _ rfl rfl _ _ (hrz _) ?_)
  | (at_builtin; refine wpList_copy_runI _ rfl _ _ 22 22 rfl _ _ rfl rfl (hcpA _ hE1 hE2 _ _) ?_)
  | (at_builtin; refine wpList_copy_runI _ rfl _ _ 22 22 rfl _ _ rfl rfl (hcpB _ (fun _=>rfl) (fun _=>rfl) _ _ _) ?_))
 go_region_law_o (refine step_copy_runI rfl _ _ 22 22 rfl (.slice (some ⟨w.heap.size,(i+1)*5,none⟩) (n-i) (G-(i+1))) (.slice (some ⟨b,i*5,none⟩) (n-i) (c-i)) (by simp [Act.eval,Act.put]) (by simp [Act.eval,Act.put]) (hcpB _ hF1 hF2 3 (G-(i+1)) (c-i)) ?_)
 go_wp2
 go_ret
 exact ⟨rfl,rfl⟩
end Go.Proofs
end

section
namespace Go.Ab
open Go.Proofs Go.Shelf
theorem setCells_spec (b:Nat) (e:TypeId) (fz:Nat×Nat) : ∀ (vs:List Value) (o:Nat) (w:World) (c:Array Value),w.heap[b]? = some (.cells c e fz) →
  ∃ c',(w.setCells b o vs).heap[b]? = some (.cells c' e fz)∧c'.size=c.size∧(∀ k,k<c.size→c'.getD k undef=if o≤k∧k<o+vs.length then vs.getD (k-o) undef else c.getD k undef)∧Stp (fun x=>x=b) w (w.setCells b o vs):=by
 intro vs
 induction vs with
 | nil=>
  intro o w c h
  refine ⟨c,h,rfl,fun k hk=>?_,Stp.refl _ _⟩
  rw [if_neg (by rw [List.length_nil]; omega)]
 | cons v vs ih=>
  intro o w c h
  have h1:(w.setCell ⟨b,o,none⟩ v).heap[b]? = some (.cells (c.setIfInBounds o v) e fz):=by
   simp only [World.setCell,Array.getElem?_modify,if_pos,h,Option.map_some]; rfl
  have hst:Stp (fun x=>x=b) w (w.setCell ⟨b,o,none⟩ v):=by
   refine ⟨rfl,rfl,rfl, ?_,fun x hx hn=>?_,Nat.le_refl _⟩
   ·simp only [World.setCell,Array.size_modify]; exact Nat.le_refl _
   ·simp only [World.setCell,Array.getElem?_modify]
    rw [if_neg (fun hh=>hn hh.symm)]
  obtain ⟨c',g1,g2,g3,g4⟩:=ih (o+1) (w.setCell ⟨b,o,none⟩ v) (c.setIfInBounds o v) h1
  refine ⟨c',g1,by rw [g2]; simp,fun k hk=>?_, ?_⟩
  ·rw [g3 k (by simpa using hk)]
   have hset:(c.setIfInBounds o v).getD k undef=if o=k then v else c.getD k undef:=by
    simp only [Array.getD_eq_getD_getElem?,Array.getElem?_setIfInBounds]
    by_cases ho:o=k
    ·subst ho; rw [if_pos rfl,if_pos hk,if_pos rfl]; rfl
    ·rw [if_neg ho,if_neg ho]
   by_cases hin:o+1≤k∧k<o+1+vs.length
   ·rw [if_pos hin,if_pos (by rw [List.length_cons]; omega)]
    have:k-o=(k-(o+1))+1:=by omega
    rw [this,List.getD_cons_succ]
   ·rw [if_neg hin,hset]
    by_cases ho:o=k
    ·subst ho
     rw [if_pos rfl,if_pos (by rw [List.length_cons]; omega),Nat.sub_self]; rfl
    ·rw [if_neg ho,if_neg (by rw [List.length_cons]; omega)]
  ·exact hst.trans (g4.mono fun x _ hx=>.inl hx)
theorem row_cells {w:World} {b cap:Nat} {c:Array Value} {e:TypeId} (h:w.heap[b]? = some (.cells c e (0,0))) (hs:c.size=cap*5) {n:Nat} (hn:n≤cap) :
  (c.toList.take (n*5)).length=n*5∧(∀ j v,(c.toList.take (n*5))[j]? = some v→w.cell? ⟨b,j,none⟩=some v)∧(∀ j,j<cap*5→(w.cell? ⟨b,j,none⟩).isSome=true)∧(∀ j,w.frozen? ⟨b,j,none⟩=false) ∧
   (∀ k,k<n*5→(c.toList.take (n*5)).getD k undef=c.getD k undef)∧w.shape? b=some (e,c.size):=by
 have hl:n*5≤c.size:=by omega
 refine ⟨by rw [List.length_take,Array.length_toList]; omega,fun j v hv=>?_,fun j hj=>?_,fun j=>?_,fun k hk=>?_, ?_⟩
 ·rw [List.getElem?_take] at hv
  split at hv
  ·simp only [World.cell?,h,Option.isSome_none]
   rw [Array.getElem?_toList] at hv
   simpa using hv
  ·cases hv
 ·simp only [World.cell?,h,Option.isSome_none]
  simp
  omega
 ·simp [World.frozen?,h]
 ·rw [List.getD_eq_getElem?_getD,List.getElem?_take,if_pos hk,Array.getElem?_toList,Array.getD_eq_getD_getElem?]
 ·simp [World.shape?,h]
section
variable {w w' : World} {X:Nat→Prop} {η:Nat→Value} {l m r:List Feature}
theorem ls_two {A B:Obj} {i:Nat} {o:Obj} (h:ls [(0,A),(2,B)] i=some o):(i=0∧o=A)∨(i=2∧o=B):=by
 rw [ls_cons] at h
 by_cases h0:i=0
 ·rw [if_pos h0] at h; cases h; exact .inl ⟨h0,rfl⟩
 ·rw [if_neg h0,ls_cons] at h
  by_cases h2:i=2
  ·rw [if_pos h2] at h; cases h; exact .inr ⟨h2,rfl⟩
  ·rw [if_neg h2] at h; cases h
theorem ls_one {A:Obj} {k i:Nat} {o:Obj} (h:ls [(k,A)] i=some o):i=k∧o=A:=by
 rw [ls_cons] at h
 by_cases h0:i=k
 ·rw [if_pos h0] at h; cases h; exact ⟨h0,rfl⟩
 ·rw [if_neg h0] at h; cases h
theorem behind_ins {B cap' : Nat} {c' : Array Value} {e:TypeId} (hX : ∀ b,X b→b<w.heap.size) (hown : ∀ b,Own (ls [(0,AO l),(2,AO m)]) η b→X b)
  (hst:Stp (fun x=>Own (ls [(0,AO l),(2,AO m)]) η x) w w') (hh:w'.heap[B]? = some (.cells c' e (0,0))) (hs:c'.size=cap' * 5) (hn:r.length≤cap') (hm:cap' ≤ maxLen) (h0:0<cap')
  (hB:Own (ls [(0,AO l),(2,AO m)]) η B∨B=w.heap.size) (hd : ∀ i j,i<r.length→j<5→DRep w X (c'.getD (i*5+j) undef) ((LF r i).getD j .any)) :
  Behind (callCtx [(0,AO l),(2,AO m)] w X η) (.v (.c (.own 100))) [(100,AO r)] (.slice (some ⟨B,0,none⟩) r.length cap') (fun t=>if t=100 then .slice (some ⟨B,0,none⟩) r.length cap' else η t) w' := by
 have hblk : ∀ x,x ∈ blks (.slice (some ⟨B,0,none⟩) r.length cap')↔x=B:=by intro x; simp [blks]; omega
 have hM : ∀ x,Own (ls [(0,AO l),(2,AO m)]) η x→(callCtx [(0,AO l),(2,AO m)] w X η).M x:=by
  rintro x ⟨i,o,hi,hb⟩
  refine ⟨i,o,hi, ?_,hb⟩
  rcases ls_two hi with ⟨_,rfl⟩|⟨_,rfl⟩ <;> rfl
 have hXS : ∀ b,b<w.heap.size→¬ X b→w'.heap[b]? = w.heap[b]? ∧ ¬ XS (callCtx [(0,AO l),(2,AO m)] w X η) (ls [(100,AO r)]) (fun t=>if t=100 then .slice (some ⟨B,0,none⟩) r.length cap' else η t) b:=by
  intro b hb hx
  refine ⟨hst.block b hb fun ho=>hx (hown b ho), ?_⟩
  rintro (⟨hx',_⟩|⟨i,o,hi,hib⟩)
  ·exact hx hx'
  ·obtain ⟨rfl,_⟩:=ls_one hi
   simp only [↓reduceIte] at hib
   rw [hblk] at hib
   subst hib
   rcases hB with hB | hB
   ·exact hx (hown _ hB)
   ·omega
 refine ⟨hst.mono fun x _ hx=>hM x hx,.v _ _ (.c _ _ (.own _ _ (by rw [if_pos rfl]) rfl)),fun i o hi=>?_,fun i j x hi hj _ _=>?_,fun i o x hi hb=>?_,fun i v hi=>?_⟩
 ·obtain ⟨rfl,rfl⟩:=ls_one hi
  rw [if_pos rfl]
  exact .arr B _ cap' _ c' e _ hh hs hn hm h0 (Is.refl r).len fun i j hi hj=>(hd i j hi hj).mono hXS
 ·obtain ⟨oi,hi⟩:=Option.ne_none_iff_exists'.1 hi
  obtain ⟨oj,hj⟩:=Option.ne_none_iff_exists'.1 hj
  rw [(ls_one hi).1,(ls_one hj).1]
 ·obtain ⟨rfl,rfl⟩:=ls_one hi
  rw [if_pos rfl,hblk] at hb
  subst hb
  rcases hB with hB | hB
  ·exact .inr (.inl (hM _ hB))
  ·exact .inr (.inr (by rw [hB]; exact Nat.le_refl _))
 ·change (if ((List.lookup i [(0,AO (α:=Feature) l),(2,AO m)]).isSome=true) then some (η i) else none)=some v at hi
  split at hi
  ·rename_i hs
   cases hi
   have:i≠100:=fun hi=>by subst hi; simp [List.lookup] at hs
   show (if i=100 then _ else η i)=η i
   rw [if_neg this]
  ·cases hi
end
theorem LF_ins {l m:List Feature} (hm:m.length=1) {k p:Nat} (hk:k≤l.length):LF (l.take k++m++l.drop k) p=if p<k then LF l p else if p=k then LF m 0 else LF l (p-1):=by
 have hlt:(l.take k).length=k:=by rw [List.length_take]; omega
 unfold LF
 simp only [List.getD_eq_getElem?_getD]
 by_cases h1:p<k
 ·rw [if_pos h1,List.append_assoc,List.getElem?_append_left (by omega),List.getElem?_take,if_pos h1]
 ·rw [if_neg h1]
  by_cases h2:p=k
  ·rw [if_pos h2,List.append_assoc,List.getElem?_append_right (by omega),hlt,h2,Nat.sub_self,List.getElem?_append_left (by omega)]
  ·rw [if_neg h2,List.getElem?_append_right (by rw [List.length_append]; omega),List.length_append,hlt,hm,List.getElem?_drop]
   congr 3
   omega
theorem stp_drew_alloc (Z:Nat→Prop) (w:World) (o:Go.Obj):Stp Z w (w.drew.alloc o):=
 (Stp.drew Z w).trans (Stp.alloc _ w.drew o)
theorem getD_list (a:List Value) (k:Nat):a.toArray.getD k undef=a.getD k undef:=by
 rw [Array.getD_eq_getD_getElem?,List.getElem?_toArray,List.getD_eq_getElem?_getD]
theorem getD_app (a b:Array Value) (k:Nat) (h:k<a.size):(a++b).getD k undef=a.getD k undef:=by
 rw [Array.getD_eq_getD_getElem?,Array.getD_eq_getD_getElem?,Array.getElem?_append_left h]
theorem FSpec.raw2 {P:Program} {f:Nat} {args:List AVal} {A B B0:Obj} {r:AVal} {S' : List (Nat×Obj)} (h:FSpec P f args [(0,A),(2,B)] r S') (hb:OLe B0 B):FSpec P f args [(0,A),(2,B0)] r S' := by
 have l0:ls [(0,A),(2,B)] 0=some A:=by rw [ls_cons,if_pos rfl]
 have l2:ls [(0,A),(2,B)] 2=some B:=by rw [ls_cons,if_neg (by decide),ls_cons,if_pos rfl]
 have k0:ls [(0,A),(2,B0)] 0=some A:=by rw [ls_cons,if_pos rfl]
 have k2:ls [(0,A),(2,B0)] 2=some B0:=by rw [ls_cons,if_neg (by decide),ls_cons,if_pos rfl]
 intro w X η vs hX hown hobj hds hlen hargs
 have hO : ∀ b,Own (ls [(0,A),(2,B)]) η b↔Own (ls [(0,A),(2,B0)]) η b:=fun b=>by
  constructor
  ·rintro ⟨i,o,hi,hib⟩
   rcases ls_two hi with ⟨rfl,rfl⟩|⟨rfl,rfl⟩
   ·exact ⟨0,_,k0,hib⟩
   ·exact ⟨2,_,k2,hib⟩
  ·rintro ⟨i,o,hi,hib⟩
   rcases ls_two hi with ⟨rfl,rfl⟩|⟨rfl,rfl⟩
   ·exact ⟨0,_,l0,hib⟩
   ·exact ⟨2,_,l2,hib⟩
 have hc:callCtx [(0,A),(2,B0)] w X η=callCtx [(0,A),(2,B)] w X η:=by
  unfold callCtx
  congr 1
  ·funext b; exact propext (hO b).symm
  ·funext b
   apply propext
   constructor
   ·rintro ⟨i,o,hi,hr,hib⟩
    rcases ls_two hi with ⟨rfl,rfl⟩|⟨rfl,rfl⟩
    ·exact ⟨0,_,l0,hr,hib⟩
    ·exact ⟨2,_,l2,by rw [hb.2.1]; exact hr,hib⟩
   ·rintro ⟨i,o,hi,hr,hib⟩
    rcases ls_two hi with ⟨rfl,rfl⟩|⟨rfl,rfl⟩
    ·exact ⟨0,_,k0,hr,hib⟩
    ·exact ⟨2,_,k2,by rw [← hb.2.1]; exact hr,hib⟩
  ·funext i
   have:(List.lookup i [(0,A),(2,B0)]).isSome=(List.lookup i [(0,A),(2,B)]).isSome:=by
    rw [List.lookup_cons,List.lookup_cons,List.lookup_cons,List.lookup_cons]
    cases i==0 <;> cases i==2 <;> rfl
   rw [this]
 rw [hc] at hobj hargs ⊢
 have hne : ∀ i,ls [(0,A),(2,B)] i≠none→ls [(0,A),(2,B0)] i≠none:=fun i hi=>by
  obtain ⟨o,ho⟩:=Option.ne_none_iff_exists'.1 hi
  rcases ls_two ho with ⟨rfl,_⟩|⟨rfl,_⟩
  ·rw [k0]; simp
  ·rw [k2]; simp
 refine h w X η vs hX (fun b hb' => hown b ((hO b).1 hb')) (fun i o hi=>?_) (fun i j b hi hj=>hds i j b (hne i hi) (hne j hj)) hlen hargs
 rcases ls_two hi with ⟨rfl,rfl⟩|⟨rfl,rfl⟩
 ·exact hobj 0 _ k0
 ·exact hb.1 _ _ _ _ _ (hobj 2 _ k2)
end Go.Ab
end

section
namespace Go.Ab
open Go.Proofs Go.Shelf
set_option maxHeartbeats 1000000 in
theorem insP_spec {F:Nat} {l:List Feature} {i:Int} {m r:List Feature} (h:insP F l i m=some r) :
  FSpec Tryz.prog 69 [.v (.c (.own 0)),.v (.c (.d (.int .i64 i))),.v (.c (.own 2))] [(0,AO l),(2,AO m)] (.v (.c (.own 100))) [(100,AO r)]:=by
 unfold insP at h
 obtain ⟨c1,h⟩:=gd_some h
 obtain ⟨c2,h⟩:=gd_some h
 obtain ⟨c3,h⟩:=gd_some h
 obtain ⟨k,rfl⟩ : ∃ k:Nat,i=k:=⟨i.toNat,by omega⟩
 rw [Int.toNat_natCast] at h
 obtain rfl:=Option.some.inj h
 have hkl:k≤l.length:=by omega
 unfold LIM at c3
 intro w X η vs hX hown hobj hds hlen hargs
 have hlen:vs.size=3:=hlen
 have hv0:vs.getD 0 undef=η 0:=own_inv (C:=callCtx [(0,AO l),(2,AO m)] w X η) (s:=ls [(0,AO l),(2,AO m)]) (by have:=hargs 0 (by simp); rw [own_ext hown]; exact this)
 have hv2:vs.getD 2 undef=η 2:=own_inv (C:=callCtx [(0,AO l),(2,AO m)] w X η) (s:=ls [(0,AO l),(2,AO m)]) (by have:=hargs 2 (by simp); rw [own_ext hown]; exact this)
 have hv1:vs.getD 1 undef=.int .i64 k:=by
  have:=hargs 1 (by simp)
  change ARep w X η _ (vs.getD 1 undef) (.v (.c (.d (.int .i64 k)))) at this
  generalize vs.getD 1 undef=u at this
  cases this with | v _ _ hh=>cases hh with | c _ _ hh=>cases hh with | d _ _ hh=>cases hh; rfl
 have hvs3:vs = #[η 0,.int .i64 k,η 2]:=by
  rw [← hv0, ← hv1, ← hv2]
  apply Array.ext
  ·simpa using hlen
  ·intro j h1 h2
   have:j=0∨j=1∨j=2:=by omega
   rcases this with rfl | rfl | rfl <;> simp [Array.getD,h1]
 rw [hvs3]
 have l0:ls [(0,AO l),(2,AO m)] 0=some (AO l):=by rw [ls_cons,if_pos rfl]
 have l2:ls [(0,AO l),(2,AO m)] 2=some (AO m):=by rw [ls_cons,if_neg (by decide),ls_cons,if_pos rfl]
 have ho:=hobj 0 (AO l) l0
 have hm:=hobj 2 (AO m) l2
 have own0 : ∀ b,b ∈ blks (η 0)→Own (ls [(0,AO l),(2,AO m)]) η b:=fun b hb=>⟨0,_,l0,hb⟩
 have hdis : ∀ b,b ∈ blks (η 0)→b ∈ blks (η 2)→False:=fun b h0 h2=>by
  have:=hds 0 2 b (by rw [l0]; simp) (by rw [l2]; simp) h0 h2
  omega
 generalize hu2:η 2=u2 at hm hdis ⊢
 unfold AO at hm
 rw [c2] at hm
 cases hm with
 | arr vb _ vcap _ vc ve _ m1 m2 m3 m4 m5 m6 m7=>
 obtain ⟨p1,p2,p3,p4,p5,p6⟩:=row_cells m1 m2 m3
 have hvd : ∀ j,j<5→DRep w X (vc.getD j undef) ((LF m 0).getD j .any):=fun j hj=>by have:=m7 0 j (by omega) hj; rwa [Nat.zero_mul,Nat.zero_add] at this
 have hv1 : ∀ v ∈ vc.toList.take (1*5),v.oneCell' = true:=fun v hv=>by
  obtain ⟨j,hj,rfl⟩:=List.getElem_of_mem hv
  have h5:=p5 j (by omega)
  rw [List.getD_eq_getElem?_getD,List.getElem?_eq_getElem hj] at h5
  have h6:(vc.toList.take (1*5))[j]=vc.getD j undef:=h5
  rw [h6]
  exact (hvd j (by omega)).one
 have hvb2:vb ∈ blks (.slice (some ⟨vb,0,none⟩) 1 vcap):=by simp [blks]; omega
 have hrl:(l.take k++m++l.drop k).length=l.length+1:=by
  rw [List.length_append,List.length_append,List.length_take,List.length_drop]; omega
 have fin : ∀ (c:Array Value) (w' : World) (B cap' : Nat) (c' : Array Value) (e:TypeId),(∀ p j,p<l.length→j<5→DRep w X (c.getD (p*5+j) undef) ((LF l p).getD j .any)) →
   Stp (fun x=>Own (ls [(0,AO l),(2,AO m)]) η x) w w' → w'.heap[B]? = some (.cells c' e (0,0))→c'.size=cap' * 5→l.length+1≤cap' → cap' ≤ maxLen→(Own (ls [(0,AO l),(2,AO m)]) η B∨B=w.heap.size) →
   (∀ q,q<(l.length+1)*5→c'.getD q undef=if q<k*5 then c.getD q undef else if q<k*5+5 then vc.getD (q-k*5) undef else c.getD (q-5) undef) →
   ∃ v η',(Ending.returned (.slice (some ⟨B,0,none⟩) (l.length+1) cap')=.returned v)∧Behind (callCtx [(0,AO l),(2,AO m)] w X η) (.v (.c (.own 100))) [(100,AO (l.take k++m++l.drop k))] v η' w' := by
  intro c w' B cap' c' e hcd hst hh hs hn hmx hB hq
  refine ⟨_,(fun t=>if t=100 then .slice (some ⟨B,0,none⟩) (l.length+1) cap' else η t),rfl, ?_⟩
  have:=behind_ins (r:=l.take k++m++l.drop k) hX hown hst hh hs (by omega) hmx (by omega) hB fun p j hp hj=>by
   rw [hrl] at hp
   rw [hq (p*5+j) (by omega),LF_ins c2 hkl]
   by_cases h1:p<k
   ·rw [if_pos h1,if_pos (by omega)]
    exact hcd p j (by omega) hj
   ·rw [if_neg h1,if_neg (by omega)]
    by_cases h2:p=k
    ·rw [if_pos h2,if_pos (by omega)]
     have:p*5+j-k*5=j:=by omega
     rw [this]
     exact hvd j hj
    ·rw [if_neg h2,if_neg (by omega)]
     have:p*5+j-5=(p-1)*5+j:=by omega
     rw [this]
     exact hcd (p-1) j (by omega) hj
  rw [hrl] at this
  exact this
 have hbig:(l.length+1)*56≤140737488355328:=by omega
 have grown : ∀ (base:Option Addr) (cap:Nat) (c:Array Value) (cs:List Value),k=l.length→cap<l.length+1→l.length≤cap→cs.length=l.length*5→(base=none→l.length=0)→(∀ a,base=some a→∀ j v,cs[j]? = some v→w.cell? (a.add j)=some v) →
   (∀ q,q<l.length*5→cs.getD q undef=c.getD q undef)→(∀ p j,p<l.length→j<5→DRep w X (c.getD (p*5+j) undef) ((LF l p).getD j .any)) →
   Calls Tryz.prog 69 #[.slice base l.length cap,.int .i64 k,.slice (some ⟨vb,0,none⟩) 1 vcap] w fun e w' => ∃ v η',e=.returned v∧Behind (callCtx [(0,AO l),(2,AO m)] w X η) (.v (.c (.own 100))) [(100,AO (l.take k++m++l.drop k))] v η' w' := by
  intro base cap c cs hk hc1 hc2 hcl hnil hcs hcc hcd
  have hcall:=ins_end_grow base l.length cap vb vcap cs (vc.toList.take (1*5)) w hc2 hc1 hbig hcl (by omega) hnil hcs p2 hv1
  rw [← hk] at hcall
  rw [← hk]
  refine hcall.mono fun e' w' hh=>?_
  obtain ⟨he,hw⟩:=hh
  rw [he,hk]
  have hG:=grownCap_ge w (l.length+1) cap 27
  have hG2:=grownCap_le_maxLen w (l.length+1) cap 27 (by unfold maxLen; omega)
  rw [hk] at hw
  generalize grownCap w (l.length+1) cap 27=G at hG hG2 hw ⊢
  have hsz:((cs++vc.toList.take (1*5)).toArray).size=(l.length+1)*5:=by rw [List.size_toArray,List.length_append]; omega
  have hfin:=fin c w' w.heap.size G ((cs++vc.toList.take (1*5)).toArray++Builtin.zeroCells z64v.cells (G-(l.length+1))) 27 hcd (by rw [hw]; exact stp_drew_alloc _ _ _)
   (by rw [hw]; show (w.heap.push _)[w.heap.size]? = _; rw [Array.getElem?_push,if_pos rfl]) (by rw [Array.size_append,hsz,zc_size]; omega) hG hG2 (.inr rfl) (fun q hq=>by
    rw [getD_app _ _ _ (by omega),getD_list,List.getD_eq_getElem?_getD,List.getElem?_append]
    by_cases h1:q<cs.length
    ·rw [if_pos h1,if_pos (by omega), ← List.getD_eq_getElem?_getD]
     exact hcc q (by omega)
    ·rw [if_neg h1,if_neg (by omega),if_pos (by omega), ← List.getD_eq_getElem?_getD,p5 _ (by omega)]
     congr 1
     omega)
  rw [← hk] at hfin ⊢
  exact hfin
 generalize hu0:η 0=u0 at ho hdis ⊢
 unfold AO at ho
 generalize hn:l.length=n at ho
 cases ho with
 | nil ad=>
  have hl0:l=[]:=List.eq_nil_of_length_eq_zero hn
  subst hl0
  have hk0:k=0:=by simpa using hkl
  exact grown ad 0 #[] [] hk0 (by simp) (by simp) (by simp) (fun _=>rfl) (fun a _ j v hv=>by simp at hv) (fun q hq=>by simp at hq) (fun p j hp=>by simp at hp)
 | arr b _ cap _ c e _ g1 g2 g3 g4 g5 g6 g7=>
  rename_i n'
  subst hn
  obtain ⟨q1,q2,q3,q4,q5,q6⟩:=row_cells g1 g2 g3
  have hb0:b ∈ blks (.slice (some ⟨b,0,none⟩) l.length cap):=by simp [blks]; omega
  have hvb:vb≠b:=fun hh=>by subst hh; exact hdis _ hb0 hvb2
  have hownb:Own (ls [(0,AO l),(2,AO m)]) η b:=own0 b (by rw [hu0]; exact hb0)
  have h1c : ∀ v ∈ c.toList.take (l.length*5),v.oneCell' = true:=fun v hv=>by
   obtain ⟨j,hj,rfl⟩:=List.getElem_of_mem hv
   have h5:=q5 j (by omega)
   rw [List.getD_eq_getElem?_getD,List.getElem?_eq_getElem hj] at h5
   have h6:(c.toList.take (l.length*5))[j]=c.getD j undef:=h5
   rw [h6]
   have:=g7 (j / 5) (j % 5) (Nat.div_lt_of_lt_mul (by omega)) (Nat.mod_lt _ (by omega))
   have e5:j / 5*Emb.es Feature+j % 5=j:=by show j / 5*5+j % 5=j; omega
   rw [e5] at this
   exact this.one
  have hc63:cap≤9223372036854775807:=by unfold maxLen at g4; omega
  have hsp : ∀ j,j<(l.length+1)*5→l.length+1≤cap→(w.cell? ⟨b,j,none⟩).isSome=true:=fun j hj hr=>q3 j (by omega)
  by_cases hr:l.length+1≤cap
  ·by_cases hk:k=l.length
   ·have hcall:=ins_end_room b l.length cap vb vcap (vc.toList.take (1*5)) w hr hc63 (by omega) (fun j hj=>hsp _ (by omega) hr) (fun j hj=>q4 _) p2 hv1
    rw [← hk] at hcall ⊢
    refine hcall.mono fun e' w' hh=>?_
    obtain ⟨he,hw⟩:=hh
    obtain ⟨c',d1,d2,d3,d4⟩:=setCells_spec b e (0,0) (vc.toList.take (1*5)) (k*5) w c g1
    rw [he,hk]
    rw [hk] at d1 d3 d4 hw
    have hfin:=fin c w' b cap c' e g7 (by rw [hw]; exact d4.mono fun x _ hx=>by rw [hx]; exact hownb) (by rw [hw]; exact d1) (by rw [d2]; exact g2) hr g4 (.inl hownb) (fun q hq=>by
     rw [d3 q (by rw [g2]; show q<cap*5; omega),p1]
     by_cases h1:q<l.length*5
     ·rw [if_neg (by omega),if_pos (by omega)]
     ·rw [if_pos (by omega),if_neg (by omega),if_pos (by omega),p5 _ (by omega),hk])
    rw [← hk] at hfin ⊢
    exact hfin
   ·have hkn:k<l.length:=by omega
    refine (ins_shift b l.length cap k vb vcap (c.toList.take (l.length*5)) (vc.toList.take (1*5)) w hkn hr hc63 hvb q1 (by omega) q2 (fun j hj=>hsp j hj hr) (fun j _=>q4 j) p2 h1c hv1 ve e vc.size c.size p6 q6 (by rw [g2]; show cap*5≠0; omega) (p4 _) (p4 _)).mono fun e' w' hh=>?_
    obtain ⟨he,hw⟩:=hh
    obtain ⟨c',d1,d2,d3,d4⟩:=setCells_spec b e (0,0) ((c.toList.take (l.length*5)).drop (k*5)) ((k+1)*5) w.drew c g1
    obtain ⟨c'',f1,f2,f3,f4⟩:=setCells_spec b e (0,0) (vc.toList.take (1*5)) (k*5) _ c' d1
    rw [he]
    refine fin c w' b cap c'' e g7 (by
     rw [hw]
     exact ((Stp.drew _ w).trans (d4.mono fun x _ hx=>.inl (by rw [hx]; exact hownb))).trans (f4.mono fun x _ hx=>.inl (by rw [hx]; exact hownb))) (by rw [hw]; exact f1) (by rw [f2,d2]; exact g2) hr g4 (.inl hownb) (fun q hq=>?_)
    have hqc:q<c.size:=by rw [g2]; show q<cap*5; omega
    rw [f3 q (by rw [d2]; exact hqc),d3 q hqc,p1,List.length_drop,q1]
    by_cases h1:q<k*5
    ·rw [if_neg (by omega),if_neg (by omega),if_pos h1]
    ·by_cases h2:q<k*5+5
     ·rw [if_pos (by omega),if_neg h1,if_pos h2,p5 _ (by omega)]
     ·rw [if_neg (by omega),if_pos (by omega),if_neg h1,if_neg h2,List.getD_eq_getElem?_getD,List.getElem?_drop, ← List.getD_eq_getElem?_getD,q5 _ (by omega)]
      congr 1
      omega
  ·by_cases hk:k=l.length
   ·exact grown (some ⟨b,0,none⟩) cap c (c.toList.take (l.length*5)) hk (by omega) g3 q1 (fun hh=>by cases hh) (fun a ha j v hv=>by cases ha; rw [Addr.add_lit,Nat.zero_add]; exact q2 j v hv) q5 g7
   ·have hkn:k<l.length:=by omega
    refine (ins_grow b l.length cap k vb vcap (c.toList.take (l.length*5)) (vc.toList.take (1*5)) w hkn g3 (by omega) hbig q1 (by omega) q2 p2 h1c hv1).mono fun e' w' hh=>?_
    obtain ⟨he,hw⟩:=hh
    have hG:=grownCap_ge w (l.length+1) cap 27
    have hG2:=grownCap_le_maxLen w (l.length+1) cap 27 (by unfold maxLen; omega)
    generalize grownCap w (l.length+1) cap 27=G at hG hG2 hw he ⊢
    generalize hROW:((c.toList.take (l.length*5)).take (k*5)).toArray++Builtin.zeroCells z64v.cells (l.length+1-k)++Builtin.zeroCells z64v.cells (G-(l.length+1))=ROW at hw
    have hRs:ROW.size=G*5:=by
     rw [← hROW,Array.size_append,Array.size_append,zc_size,zc_size,List.size_toArray,List.length_take,q1]
     omega
    have hR1 : ∀ q,q<k*5→ROW.getD q undef=c.getD q undef:=fun q hq=>by
     rw [← hROW,getD_app _ _ _ (by rw [Array.size_append,List.size_toArray,List.length_take,q1]; omega),getD_app _ _ _ (by rw [List.size_toArray,List.length_take,q1]; omega),getD_list,List.getD_eq_getElem?_getD,List.getElem?_take,if_pos hq, ← List.getD_eq_getElem?_getD]
     exact q5 q (by omega)
    have hh1:((w.alloc (.cells ROW 27)).drew).heap[w.heap.size]? = some (.cells ROW 27 (0,0)):=by show (w.heap.push _)[w.heap.size]? = _; rw [Array.getElem?_push,if_pos rfl]
    obtain ⟨c',d1,d2,d3,d4⟩:=setCells_spec w.heap.size 27 (0,0) (vc.toList.take (1*5)) (k*5) _ ROW hh1
    have hh2:(((w.alloc (.cells ROW 27)).drew.setCells w.heap.size (k*5) (vc.toList.take (1*5))).drew).heap[w.heap.size]? = some (.cells c' 27 (0,0)):=d1
    obtain ⟨c'',f1,f2,f3,f4⟩:=setCells_spec w.heap.size 27 (0,0) ((c.toList.take (l.length*5)).drop (k*5)) ((k+1)*5) _ c' hh2
    rw [he]
    refine fin c w' w.heap.size G c'' 27 g7 (by
     rw [hw]
     have s1:Stp (fun x=>Own (ls [(0,AO l),(2,AO m)]) η x) w ((w.alloc (.cells ROW 27)).drew):=(Stp.alloc _ w _).trans (Stp.drew _ _)
     have s2:=s1.trans (d4.mono fun x _ hx=>.inr (by rw [hx]; exact Nat.le_refl _))
     have s3:=s2.trans (Stp.drew _ _)
     exact s3.trans (f4.mono fun x _ hx=>.inr (by rw [hx]; exact Nat.le_refl _))) (by rw [hw]; exact f1) (by rw [f2,d2,hRs]) hG hG2 (.inr rfl) (fun q hq=>?_)
    have hqR:q<ROW.size:=by rw [hRs]; omega
    rw [f3 q (by rw [d2]; exact hqR),d3 q hqR,p1,List.length_drop,q1]
    by_cases h1:q<k*5
    ·rw [if_neg (by omega),if_neg (by omega),if_pos h1]
     exact hR1 q h1
    ·by_cases h2:q<k*5+5
     ·rw [if_neg (by omega),if_pos (by omega),if_neg h1,if_pos h2,p5 _ (by omega)]
     ·rw [if_pos (by omega),if_neg h1,if_neg h2,List.getD_eq_getElem?_getD,List.getElem?_drop, ← List.getD_eq_getElem?_getD,q5 _ (by omega)]
      congr 1
      omega
end Go.Ab
end
