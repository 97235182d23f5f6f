/- Abstract states over the model: every lemma holds of any program of the form that it names. -/
import Derived.Test.YtdghfppocejhjaaGreatAbB
import Derived.Test.YtdghfppocejhjaaGreatPuA
import Derived.Sort.AssemblyPlain
import Derived.Lib.BitFns
import Derived.Shelf.SortM.Plain
import Derived.Shelf.SortM.SortNone
import Derived.Shelf.SlSortCmp.WholeK
import Derived.Shelf.SlSortCmp.NoneTotal
import Derived.WalkKit
import Derived.ProofKit
import Derived.OpenShut
import Derived.Carry
import Derived.ChangeSame
import Derived.ChangeSlices
import Derived.Laws.Small
import Derived.Laws.Entries
import Derived.Shelf.Spec.SlicesGrow
import Derived.Deep.Slices
import Derived.ChangeArms
import Derived.Maps.Own
import Derived.Lib.SlKeysI
import Derived.Shelf.SlIterI.Nil
import Derived.Maps.RangeRun
import Derived.Laws.IdiomRangeMap
import Derived.ChangeKeysEq
import Derived.LoopN
import Derived.Shelf.SlSortCmp.Whole1
set_option linter.unusedVariables false
set_option linter.unusedSimpArgs false
section
namespace Go.Ab
section
variable {α:Type} [Emb α]
def clr (l:List α) (lo n:Nat):List α:=(List.range l.length).map fun i=>if lo≤i∧i<lo+n then Emb.d else gl l i
def mvl (l:List α) (m lo k:Nat):List α:=(List.range l.length).map fun i=>if m≤i∧i<m+k then gl l (lo+(i-m)) else gl l i
theorem Is.of_gl {f:Nat→List DVal} {N:Nat} (l:List α) (h:l.length=N) (hf : ∀ i,i<N→f i=Emb.cells (gl l i)):Is N f l:=by
 subst h
 refine ⟨rfl,fun i hi=>?_⟩
 rw [hf i hi]; rfl
theorem gl_map_range (N:Nat) (f:Nat→α) (i:Nat) (h:i<N):gl ((List.range N).map f) i=f i:=by simp [gl,List.getD_eq_getElem?_getD,h]
theorem Is.clr {l:List α} (lo n:Nat) {zd:List DVal} (hz:zd=Emb.cells (Emb.d:α)):Is l.length (fun i=>if lo≤i∧i<lo+n then (fun _=>zd) (i-lo) else LF l i) (clr l lo n):=by
 refine Is.of_gl _ (by simp [Go.Ab.clr]) fun i hi=>?_
 rw [Go.Ab.clr,gl_map_range _ _ _ hi]
 by_cases h:lo≤i∧i<lo+n
 ·grind
 ·rw [if_neg h,if_neg h]; rfl
theorem Is.mvl {l:List α} {m lo k:Nat} (h:lo+k≤l.length):Is l.length (fun i=>if m≤i∧i<m+k then (fun j=>LF l (lo+j)) (i-m) else LF l i) (mvl l m lo k):=by
 refine Is.of_gl _ (by simp [Go.Ab.mvl]) fun i hi=>?_
 rw [Go.Ab.mvl,gl_map_range _ _ _ hi]
 by_cases h:m≤i∧i<m+k
 ·rw [if_pos h,if_pos h]; rfl
 ·rw [if_neg h,if_neg h]; rfl
theorem Is.takeN {n:Nat} {f:Nat→List DVal} {l:List α} (h:Is n f l) {k:Nat} (hk:k≤n):Is k f (l.take k):=by
 have:=h.take (k:=(k:Int)) (by omega)
 simpa using this
end
end Go.Ab
end

section
namespace Go.Ab
open Go.Sort
def sortI (l:List Int):Option (List Int):=if l.length≤LIM then some (l.mergeSort fun x y=>decide (x≤y)) else none
theorem sortI_some {l r:List Int} (h:sortI l=some r):l.length≤LIM∧r=l.mergeSort fun x y=>decide (x≤y):=by
 unfold sortI at h
 grind
def ltC {α:Type} (cf:α→α→Int) (x y:α):Bool:=decide (cf x y<0)
section
variable {α:Type} [Emb α]
def pdqL (cf:α→α→Int) (l:List α):List α:=(@pdq α ⟨Emb.d⟩ (ltC cf) l.toArray 0 l.length (Lib.bitLen l.length) true true).toList
open Classical in
noncomputable def sortF (l:List α) (q:α→α→Option Int):Option (List α):=
 if h:l.length≤LIM∧∃ cf:α→α→Int,SWO (ltC cf)∧∀ x y,q x y=some (cf x y) then some (pdqL h.2.choose l) else none
theorem sortF_eq {l:List α} {q:α→α→Option Int} (cf:α→α→Int) (hl:l.length≤LIM) (hO:SWO (ltC cf)) (hq : ∀ x y,q x y=some (cf x y)):sortF l q=some (pdqL cf l):=by
 have h:l.length≤LIM∧∃ cf:α→α→Int,SWO (ltC cf)∧∀ x y,q x y=some (cf x y):=⟨hl,cf,hO,hq⟩
 unfold sortF
 rw [dif_pos h]
 have e:h.2.choose=cf:=by
  grind
 rw [e]
theorem sortF_some {l r:List α} {q:α→α→Option Int} (h:sortF l q=some r):l.length≤LIM∧∃ cf:α→α→Int,SWO (ltC cf)∧(∀ x y,q x y=some (cf x y))∧r=pdqL cf l:=by
 unfold sortF at h
 split at h
 all_goals grind
end
section
variable {α:Type}
end
end Go.Ab
end

section
namespace Go.Ab
open Go.Sort Go.Proofs Go.Shelf
theorem putRow_heap {α:Type} [Inhabited α] (enc:α→Value) (w:World) (b off n:Nat) (d:Array α) (os:Array Go.Obj) {c:Array Value} {e:TypeId} {fz:Nat×Nat} (hb:w.heap[b]? = some (.cells c e fz)) :
  (grow (putRow enc (Go.Sort.ahead w n) b off d) os).heap[b]? = some (.cells (putCells enc off d c) e fz):=by
 have hlt:b<w.heap.size:=lt_of_heap hb
 unfold grow
 rw [Array.getElem?_append]
 rw [if_pos (by simpa using hlt)]
 unfold putRow mapBlock
 simp only [Array.getElem?_modify,if_true]
 show Option.map _ (w.heap[b]?)=_
 rw [hb]
 rfl
theorem putRow_stp {α:Type} [Inhabited α] (enc:α→Value) (w:World) (b off n:Nat) (d:Array α) (os:Array Go.Obj):Stp (fun x=>x=b) w (grow (putRow enc (Go.Sort.ahead w n) b off d) os):=by
 refine ⟨rfl,rfl,rfl,by simp [Go.Sort.ahead],fun x hx hn=>?_,Nat.le_add_right _ _⟩
 unfold grow
 rw [Array.getElem?_append]
 rw [if_pos (by simpa [Go.Sort.ahead] using hx)]
 unfold putRow mapBlock
 simp only [Array.getElem?_modify]
 rw [if_neg (Ne.symm hn)]
 rfl
theorem size_putCells' {α:Type} [Inhabited α] (enc:α→Value) (off:Nat) (d:Array α) (c:Array Value):(putCells enc off d c).size=c.size:=by simp [putCells]
theorem getD_putCells {α:Type} [Inhabited α] (enc:α→Value) (d:Array α) (c:Array Value) (j:Nat) (hj:j<d.size) (hs:d.size≤c.size):(putCells enc 0 d c).getD j undef=enc d[j]! := by
 have hc:j<c.size:=by omega
 simp [putCells,hc,hj]
theorem LF_int (l:List Int) (i:Nat):LF l i=[.int .i64 (l.getD i 0)]:=rfl
theorem behind_one {w w' : World} {X:Nat→Prop} {η:Nat→Value} {α:Type} [Emb α] {l r:List α} {b n cap:Nat} {c' : Array Value} {e:TypeId} (hη:η 0=.slice (some ⟨b,0,none⟩) n cap) (h0:0<cap)
  (hstp:Stp (fun x=>x=b) w w') (hh:w'.heap[b]? = some (.cells c' e (0,0))) (hs:c'.size=cap*Emb.es α) (hr:r.length=n) (hn:n≤cap) (hm:cap≤maxLen)
  (hd : ∀ i j,i<n→j<Emb.es α→DRep w' X (c'.getD (i*Emb.es α+j) undef) ((LF r i).getD j .any)) (hX : ∀ x,X x→x<w.heap.size) (hXb:X b) :
  Behind (callCtx [(0,AO l)] w X η) .any [(0,AO r)] (.tuple #[]) η w' := by
 subst hr
 have hblk : ∀ x,x ∈ blks (η 0)↔x=b:=by intro x; rw [hη]; simp [blks]; omega
 have hown : ∀ i o,ls [(0,AO (α:=α) r)] i=some o→i=0∧o=AO r:=by
  intro i o hi
  rw [ls_cons] at hi
  by_cases h:i=0
  ·grind
  ·rw [if_neg h] at hi; cases hi
 have hM : ∀ x,x=b→(callCtx [(0,AO (α:=α) l)] w X η).M x:=by
  rintro x rfl
  exact ⟨0,AO l,by rw [ls_cons,if_pos rfl],rfl,(hblk _).2 rfl⟩
 have hXS : ∀ x,XS (callCtx [(0,AO (α:=α) l)] w X η) (ls [(0,AO (α:=α) r)]) η x→X x:=by
  rintro x (⟨hx,_⟩|⟨i,o,hi,hib⟩)
  ·exact hx
  all_goals grind
 refine ⟨hstp.mono fun x _ hx=>hM x hx,.any _,fun i o hi=>?_,fun i j x hi hj _ _=>?_,fun i o x hi hb=>?_,fun i v hi=>?_⟩
 ·obtain ⟨rfl,rfl⟩:=hown i o hi
  rw [hη]
  refine .arr b _ cap _ c' e _ hh hs hn hm h0 (Is.refl r).len fun i j hi hj=>?_
  exact (hd i j hi hj).mono fun x _ hx=>⟨rfl,fun hx' => hx (hXS x hx')⟩
 ·obtain ⟨oi,hi⟩:=Option.ne_none_iff_exists'.1 hi
  obtain ⟨oj,hj⟩:=Option.ne_none_iff_exists'.1 hj
  rw [(hown i oi hi).1,(hown j oj hj).1]
 ·obtain ⟨rfl,rfl⟩:=hown i o hi
  exact .inr (.inl (hM x ((hblk x).1 hb)))
 ·change (if ((List.lookup i [(0,AO (α:=α) l)]).isSome=true) then some (η i) else none)=some v at hi
  split at hi
  ·cases hi; rfl
  ·cases hi
theorem behind_none {w:World} {X:Nat→Prop} {η:Nat→Value} {α:Type} [Emb α] {l:List α} {ad:Option Addr} (hη:η 0=.slice ad 0 0) (hX : ∀ x,X x→x<w.heap.size) :
  Behind (callCtx [(0,AO l)] w X η) .any [(0,AO ([]:List α))] (.tuple #[]) η w:=by
 have hblk : ∀ x,x ∉ blks (η 0):=by intro x; rw [hη]; cases ad <;> simp [blks]
 have hown : ∀ i o,ls [(0,AO ([]:List α))] i=some o→i=0∧o=AO ([]:List α):=by
  intro i o hi
  rw [ls_cons] at hi
  by_cases h:i=0
  ·grind
  ·rw [if_neg h] at hi; cases hi
 refine ⟨Stp.refl _ _,.any _,fun i o hi=>?_,fun i j x hi hj _ _=>?_,fun i o x hi hb=>?_,fun i v hi=>?_⟩
 ·obtain ⟨rfl,rfl⟩:=hown i o hi
  rw [hη]; exact .nil _ _ _
 ·obtain ⟨oi,hi⟩:=Option.ne_none_iff_exists'.1 hi
  obtain ⟨oj,hj⟩:=Option.ne_none_iff_exists'.1 hj
  rw [(hown i oi hi).1,(hown j oj hj).1]
 ·obtain ⟨rfl,rfl⟩:=hown i o hi
  exact absurd hb (hblk x)
 ·change (if ((List.lookup i [(0,AO (α:=α) l)]).isSome=true) then some (η i) else none)=some v at hi
  split at hi
  ·cases hi; rfl
  ·cases hi
theorem vs_one {vs:Array Value} (h:vs.size=1):vs = #[vs.getD 0 undef]:=by
 apply Array.ext
 ·simpa using h
 ·intro i h1 h2
  have:i=0:=by omega
  subst this
  simp [h1]
theorem vs_two {vs:Array Value} (h:vs.size=2):vs = #[vs.getD 0 undef,vs.getD 1 undef]:=by
 apply Array.ext
 ·simpa using h
 ·intro i h1 h2
  have:i=0∨i=1:=by omega
  rcases this with rfl | rfl <;> simp [h1]
theorem sortI_FSpec {P:Program} {ρ:Ren} (Ly:SlLaysM.n5 P ρ) {x r:List Int} (h:sortI x=some r):FSpec P (ρ.f 5) [.v (.c (.own 0))] [(0,AO (α:=Int) x)] .any [(0,AO (α:=Int) r)]:=by
 obtain ⟨hl,rfl⟩:=sortI_some h
 intro w X η vs hX hown hobj hds hlen hargs
 have hlen:vs.size=1:=hlen
 have hv0:vs.getD 0 undef=η 0:=own_inv (C:=callCtx [(0,AO (α:=Int) x)] w X η) (s:=ls [(0,AO (α:=Int) x)]) (by have:=hargs 0 (by simp); rw [own_ext hown]; exact this)
 rw [vs_one hlen,hv0]
 have ho:=hobj 0 (AO x) (by rw [ls_cons,if_pos rfl])
 have hXb : ∀ b,b ∈ blks (η 0)→X b:=fun b hb=>hown b ⟨0,_,by rw [ls_cons,if_pos rfl],hb⟩
 generalize hu:η 0=u at ho
 unfold AO at ho
 generalize hn:x.length=n at ho
 cases ho with
 | nil ad=>
  have hx:x=[]:=List.eq_nil_of_length_eq_zero hn
  refine (AnyM.slices_Sort_int_none Ly ad 0 w).mono fun e w' hh=>?_
  obtain ⟨he,hw⟩:=hh
  refine ⟨_,η,he, ?_⟩
  rw [hw]
  have hb:=behind_none (w:=w) (X:=X) (l:=x) hu hX
  subst hx
  simpa using hb
 | arr b _ cap _ c e _ h1 h2 h3 h4 h5 h6 h7=>
  have hes:Emb.es Int=1:=rfl
  rename_i n
  have hcell : ∀ j,j<n→c.getD j undef=.int .i64 (x.getD j 0):=by
   intro j hj
   have:=h7 j 0 hj (by rw [hes]; omega)
   rw [hes,Nat.mul_one,Nat.add_zero,LF_int] at this
   have h0:DRep w X (c.getD j undef) (.int .i64 (x.getD j 0)):=this
   generalize c.getD j undef=u at h0
   cases h0; rfl
  have hsz:c.size=cap:=by rw [h2,hes,Nat.mul_one]
  have hH:Holds (Value.int .i64) w b 0 x.toArray:=by
   intro j hj
   have hj' : j<n:=by simpa [hn] using hj
   have hjx:j<x.length:=by omega
   have hjc:j<c.size:=by omega
   refine ⟨?_,by simp [World.frozen?,h1]⟩
   have:=hcell j hj'
   simp only [Nat.zero_add,World.cell?,h1,Option.isSome_none,Bool.false_eq_true,if_false]
   simp only [hjc,Array.getD,dite_true] at this
   rw [Array.getElem?_eq_getElem hjc]
   congr 1
   refine Eq.trans this ?_
   simp [hjx]
  rw [← hn]
  refine ((AnyM.slices_Sort_int Ly b 0 cap x w hH (lt_of_heap h1) (by simp only [LIM] at hl; omega)).mono fun e' w' hh=>?_)
  ·obtain ⟨rfl,q,os,hw⟩:=hh
   subst hw
   refine ⟨_,η,rfl, ?_⟩
   have hlen2:(x.mergeSort fun x y=>decide (x≤y)).length=n:=by rw [List.length_mergeSort]; exact hn
   refine behind_one (c' := putCells (Value.int .i64) 0 (x.mergeSort fun x y=>decide (x≤y)).toArray c) (e:=e) (b:=b) (n:=n) (cap:=cap) hu h5 (putRow_stp _ _ _ _ _ _ _) (putRow_heap _ _ _ _ _ _ _ h1) (by rw [size_putCells']; exact h2) hlen2 h3 h4 (fun i j hi hj=>?_) hX (hXb b (by rw [hu]; simp [blks]; omega))
   have hj0:j=0:=by rw [hes] at hj; omega
   subst hj0
   rw [hes,Nat.mul_one,Nat.add_zero,getD_putCells _ _ _ _ (by simpa [hlen2] using hi) (by simp only [List.size_toArray,hlen2]; omega),LF_int]
   have:i<(x.mergeSort fun x y=>decide (x≤y)).length:=by omega
   have e2:(x.mergeSort fun x y=>decide (x≤y)).toArray[i]! = (x.mergeSort fun x y=>decide (x≤y)).getD i 0:=by
    simp [List.getD_eq_getElem?_getD,this]
   rw [e2]
   exact .int _ _
end Go.Ab
end

section
namespace Go.Ab
open Go.Sort Go.Proofs Go.Shelf
def DVal.lit:DVal→Bool
 | .int _ _=>true
 | .bool _=>true
 | .str _=>true
 | _=>false
def DVal.val:DVal→Value
 | .int k n=>.int k n
 | .bool b=>.bool b
 | .str s=>.string s
 | _=>undef
theorem DRep.lit {w:World} {X:Nat→Prop} {v:Value} {d:DVal} (h:DRep w X v d) (hd:d.lit=true):v=d.val:=by
 cases h <;> first | rfl | cases hd
theorem DVal.rep (w:World) (X:Nat→Prop) {d:DVal} (hd:d.lit=true):DRep w X d.val d:=by
 cases d with
 | int k n=>exact .int k n
 | bool b=>exact .bool b
 | str s=>exact .str s
 | _=>cases hd
theorem DVal.val_one {d:DVal} (hd:d.lit=true):d.val.oneCell' = true:=by
 cases d <;> first | rfl | cases hd
theorem stp_grow {w w' : World} (h:Stp (fun _=>False) w w') : ∃ q os,w' = grow (w.drewN q) os:=by
 refine ⟨w'.drawn-w.drawn,w'.heap.extract w.heap.size w'.heap.size, ?_⟩
 have hh:w'.heap=w.heap++w'.heap.extract w.heap.size w'.heap.size:=by
  apply Array.ext_getElem?
  intro k
  rw [Array.getElem?_append]
  split
  ·rename_i hk; exact h.block k hk fun hf=>hf
  all_goals grind
 have hd:=h.dr
 have e1:w' = ⟨w'.heap,w'.tape,w'.drawn,w'.os,w'.output⟩:=rfl
 rw [e1,h.tape,h.os,h.output]
 unfold grow World.drewN
 congr 1
 simp only
 omega
theorem getD_lt {β:Type} (l:List β) (j:Nat) (h:j<l.length) (d:β):l.getD j d=l[j]:=by
 grind
theorem sortF_FSpec {α:Type} [Emb α] {P:Program} {L:Lay} (hL:LOk P L) {ρ:Ren} (Ly:SlLaysF0.n6 P ρ) (hlit : ∀ x:α,(Emb.cells x).all DVal.lit=true) {te:TI} (hte:L (ρ.t 24)=some te) (hagg:te.kind.agg=true) (hsz:te.size=Emb.es α)
  (F:(α→α→Option Int)→List AVal→AVal→Prop) (hF : ∀ q x y z,q x y=some z→F q [.v (.g ((Emb.cells x).map .d)),.v (.g ((Emb.cells y).map .d))] (vi z)) {x r:List α} {q:α→α→Option Int} (h:sortF x q=some r) :
  FSpec P (ρ.f 6) [.v (.c (.own 0)),vclo P (F q)] [(0,AO (α:=α) x)] .any [(0,AO (α:=α) r)]:=by
 obtain ⟨hl,cf,hO,hq,rfl⟩:=sortF_some h
 obtain ⟨ti,td,tz,hti⟩:=hL _ _ hte
 letI inst:Inhabited α:=⟨Emb.d⟩
 let enc:α→List Value:=fun x=>(Emb.cells x).map DVal.val
 have hk : ∀ x,(enc x).length=Emb.es α:=fun x=>by simp [enc,Emb.len]
 have h1 : ∀ x,∀ v ∈ enc x,v.oneCell' = true:=by
  intro x v hv
  obtain ⟨d,hd,rfl⟩:=List.mem_map.1 hv
  exact DVal.val_one (List.all_eq_true.1 (hlit x) d hd)
 intro w X η vs hX hown hobj hds hlen hargs
 have hlen:vs.size=2:=hlen
 have hv0:vs.getD 0 undef=η 0:=own_inv (C:=callCtx [(0,AO (α:=α) x)] w X η) (s:=ls [(0,AO (α:=α) x)]) (by have:=hargs 0 (by simp); rw [own_ext hown]; exact this)
 have hv1:CloOK P (F q) w (Own (ls [(0,AO (α:=α) x)]) η) X (vs.getD 1 undef):=by
  have:=hargs 1 (by simp)
  change ARep w X η _ (vs.getD 1 undef) (vclo P (F q)) at this
  generalize vs.getD 1 undef=u at this
  cases this with | v _ _ hh=>cases hh with | c _ _ hh=>cases hh with | sem _ _ hh _=>exact hh
 rw [vs_two hlen,hv0]
 have ho:=hobj 0 (AO x) (by rw [ls_cons,if_pos rfl])
 have hXb : ∀ b,b ∈ blks (η 0)→X b:=fun b hb=>hown b ⟨0,_,by rw [ls_cons,if_pos rfl],hb⟩
 generalize hu:η 0=u at ho
 have hplen:(pdqL cf x).length=x.length:=by
  have:=(pdq_sorts (ltC cf) hO x.toArray 0 x.length (Lib.bitLen x.length) true true (Nat.zero_le _) (by simp) (.inl rfl)).1.1
  unfold pdqL
  grind
 unfold AO at ho
 generalize hn:x.length=n at ho
 cases ho with
 | nil ad=>
  have hx:x=[]:=List.eq_nil_of_length_eq_zero hn
  refine (AnyF.slices_SortFunc_none Ly ad 0 _ w).mono fun e w' hh=>?_
  obtain ⟨he,hw⟩:=hh
  refine ⟨_,η,he, ?_⟩
  rw [hw]
  have hb:=behind_none (w:=w) (X:=X) (l:=x) hu hX
  grind
 | arr b _ cap _ c e _ g1 g2 g3 g4 g5 g6 g7=>
  rename_i n
  obtain ⟨fid,caps,hfv,hcall,hclo⟩:=hv1
  rw [hfv]
  have hdel : ∀ i,i<n→(LF x i)=Emb.cells (x.getD i Emb.d):=fun i _=>rfl
  have hcell : ∀ i j,i<n→j<Emb.es α→c.getD (i*Emb.es α+j) undef=(enc (x.getD i Emb.d)).getD j undef:=by
   intro i j hi hj
   have h0:=g7 i j hi hj
   have hj' : j<(Emb.cells (x.getD i Emb.d)).length:=by rw [Emb.len]; exact hj
   have e1:(LF x i).getD j .any=(Emb.cells (x.getD i Emb.d))[j]:=getD_lt _ _ hj' _
   rw [e1] at h0
   have h2:=h0.lit (List.all_eq_true.1 (hlit _) _ (List.getElem_mem hj'))
   grind
  have hflat : ∀ t,t<n*Emb.es α→c.getD t undef=(flatK enc (Emb.es α) x.toArray)[t]! := by
   intro t ht
   have hpos:0<Emb.es α:=by
    grind
   have p1:t / Emb.es α<n:=Nat.div_lt_of_lt_mul (by rw [Nat.mul_comm]; exact ht)
   have p2:t % Emb.es α<Emb.es α:=Nat.mod_lt _ hpos
   have:=hcell _ _ p1 p2
   rw [show t / Emb.es α*Emb.es α+t % Emb.es α=t from by rw [Nat.mul_comm]; exact Nat.div_add_mod t _] at this
   rw [this,get_flatK _ _ _ _ (by simpa [hn] using ht)]
   grind
  have hH:HoldsK enc (Emb.es α) w b 0 x.toArray:=by
   intro t ht
   have ht' : t<n*Emb.es α:=by simpa [hn] using ht
   have htc:t<c.size:=by
    have:n*Emb.es α≤cap*Emb.es α:=Nat.mul_le_mul_right _ g3
    omega
   refine ⟨?_,by simp [World.frozen?,g1]⟩
   have:=hflat t ht'
   simp only [Nat.zero_add,World.cell?,g1,Option.isSome_none,Bool.false_eq_true,if_false,id]
   rw [Array.getElem?_eq_getElem htc]
   congr 1
   rw [← this]; simp [htc]
  have hblk:b ∈ blks (η 0):=by rw [hu]; simp [blks]; omega
  have hcmp:CmpLays P fid caps enc (Emb.es α) cf b 0 x.toArray.size w:=by
   intro m os dk hdk u v
   have hst:=putRow_stp id w b 0 m (flatK enc (Emb.es α) dk) os
   have hrep : ∀ (w1:World) (z:α) η C,ARep w1 X η C (.agg (enc z).toArray) (.v (.g ((Emb.cells z).map .d))):=by
    intro w1 z η' C'
    refine .v _ _ (.g _ _ ⟨by simp [enc],fun j hj=>?_⟩)
    have hj' : j<(Emb.cells z).length:=by simpa using hj
    have e1:(enc z).toArray.getD j undef=((Emb.cells z)[j]).val:=by
     have:(enc z).toArray.getD j undef=(enc z).getD j undef:=by simp [List.getD_eq_getElem?_getD]
     grind
    have e2:((Emb.cells z).map CV.d).getD j (.d .any)=.d ((Emb.cells z)[j]):=by rw [getD_lt _ j (by simpa using hj')]; simp
    rw [e1,e2]
    exact .d _ _ (DVal.rep _ _ (List.all_eq_true.1 (hlit z) _ (List.getElem_mem hj')))
   refine (hclo (grow (putRow id (Go.Sort.ahead w m) b 0 (flatK enc (Emb.es α) dk)) os) X #[.agg (enc u).toArray,.agg (enc v).toArray] _ _ (hF q u v (cf u v) (hq u v)) hst.size (fun y hy hD=>hst.block y hy fun e=>hD ?_)
    (fun y hy=>Nat.lt_of_lt_of_le (hX y hy) hst.size) (fun y _ _=>Iff.rfl) rfl (fun j hj η C=>?_)).mono fun e2 w2 hh=>?_
   ·rw [e]; exact ⟨0,_,by rw [ls_cons,if_pos rfl],hblk⟩
   ·have:j=0∨j=1:=by simp at hj; omega
    rcases this with rfl | rfl
    ·exact hrep _ _ _ _
    ·exact hrep _ _ _ _
   ·obtain ⟨v',he,hs2,hr⟩:=hh
    have hr' := hr η (callCtx [] w X η)
    have e3:v' = .int .i64 (cf u v):=by
     cases hr' with | v _ _ hh=>cases hh with | c _ _ hh=>cases hh with | d _ _ hh=>cases hh; rfl
    obtain ⟨qq,os',hw'⟩:=stp_grow hs2
    exact ⟨by rw [he,e3],qq,os',hw'⟩
  rw [← hn]
  have hmain:=AnyQ.slices_SortFunc_eq Ly (Emb.es α) (fun w=>by rw [run_isAgg hti w,hagg]) (fun w=>by rw [run_sizeOf hti,hsz]) enc hk h1 cf hO fid caps b 0 cap x.toArray w hcall hcmp hH (lt_of_heap g1) (by simp only [List.size_toArray]; simp only [LIM] at hl; omega)
  refine hmain.mono fun e' w' hh=>?_
  obtain ⟨he,nn,os,hw⟩:=hh
  refine ⟨_,η,he, ?_⟩
  have hw2:w' = grow (putRow id (Go.Sort.ahead w nn) b 0 (flatK enc (Emb.es α) (pdqL cf x).toArray)) os:=hw
  rw [hw2]
  refine behind_one (c' := putCells id 0 (flatK enc (Emb.es α) (pdqL cf x).toArray) c) (e:=e) (b:=b) (n:=n) (cap:=cap) hu g5 (putRow_stp _ _ _ _ _ _ _) (putRow_heap _ _ _ _ _ _ _ g1) (by rw [size_putCells']; exact g2) (by rw [hplen,hn]) g3 g4 (fun i j hi hj=>?_) hX (hXb b hblk)
  have hlt:i*Emb.es α+j<n*Emb.es α:=by
   have:(i+1)*Emb.es α≤n*Emb.es α:=Nat.mul_le_mul_right _ hi
   grind
  have hsz2:(flatK enc (Emb.es α) (pdqL cf x).toArray).size=n*Emb.es α:=by simp [hplen,hn]
  rw [getD_putCells _ _ _ _ (by rw [hsz2]; exact hlt) (by rw [hsz2,g2]; exact Nat.mul_le_mul_right _ g3)]
  rw [get_flatK _ _ _ _ (by simpa [hplen,hn] using hlt)]
  have d1:(i*Emb.es α+j) / Emb.es α=i:=by
   rw [Nat.add_comm,Nat.add_mul_div_right _ _ (by omega),Nat.div_eq_of_lt hj,Nat.zero_add]
  have d2:(i*Emb.es α+j) % Emb.es α=j:=by rw [Nat.add_comm,Nat.add_mul_mod_self_right,Nat.mod_eq_of_lt hj]
  rw [d1,d2]
  have e4:(pdqL cf x).toArray[i]! = (pdqL cf x).getD i Emb.d:=by
   grind
  rw [e4]
  have hj' : j<(Emb.cells ((pdqL cf x).getD i Emb.d)).length:=by rw [Emb.len]; exact hj
  have e5:(enc ((pdqL cf x).getD i Emb.d))[j]! = ((Emb.cells ((pdqL cf x).getD i Emb.d))[j]).val:=by
   grind
  have e6:(LF (pdqL cf x) i).getD j .any=(Emb.cells ((pdqL cf x).getD i Emb.d))[j]:=getD_lt _ _ hj' _
  rw [e5,e6]
  exact DVal.rep _ _ (List.all_eq_true.1 (hlit _) _ (List.getElem_mem hj'))
end Go.Ab
end

section
namespace Go.Ab
open Go.ChangeShapes Go.WideShapes Go.ChangeAt Go.RowKit
theorem cell_inv {w:World} {a:Addr} {v:Value} (h:w.cell? a=some v):a.spot=none∧∃ c e fz,w.heap[a.block]? = some (.cells c e fz)∧a.off<c.size∧c.getD a.off undef=v:=by
 unfold World.cell? at h
 split at h
 ·rename_i c e fz hb
  split at h
  ·cases h
  ·rename_i hs
   obtain ⟨h1,h2⟩:=Array.getElem?_eq_some_iff.1 h
   exact ⟨by simpa using hs,c,e,fz,hb,h1,by simp [h1,h2]⟩
 ·cases h
theorem add_lit' (b o i:Nat):(⟨b,o,none⟩ : Addr).add i=⟨b,o+i,none⟩:=add_lit b o i
theorem drep_ints {w:World} {a:Addr} {len cap:Nat} {zs:List Int} (hl:len≤cap) (hz:len≤zs.length) (hc : ∀ i,i<zs.length→w.cell? (a.add i)=some (.int .i64 (zs.getD i 0))) :
  DRep w (fun _=>False) (.slice (some a) len cap) (DL (α:=Int) (zs.take len)):=by
 have hn:(zs.take len).length=len:=by simp; omega
 unfold DL
 rw [hn]
 by_cases h0:len=0
 ·subst h0; exact .nil _ _ _
 ·have hs:a.spot=none:=by
   have:=(cell_inv (hc 0 (by omega))).1
   cases hsp:a.spot with
   | none=>rfl
   | some s=>simp [Addr.add,hsp] at this
  obtain ⟨b,off,sp⟩:=a
  simp only at hs
  subst hs
  have hc' : ∀ i,i<zs.length→∃ c e fz,w.heap[b]? = some (.cells c e fz)∧off+i<c.size∧c.getD (off+i) undef=.int .i64 (zs.getD i 0):=by
   intro i hi
   have:=hc i hi
   rw [add_lit'] at this
   exact (cell_inv this).2
  obtain ⟨c,e,fz,hb,_,_⟩:=hc' 0 (by omega)
  have hc2 : ∀ i,i<zs.length→off+i<c.size∧c.getD (off+i) undef=.int .i64 (zs.getD i 0):=by
   grind
  refine .lst b off len cap c e fz _ 1 (fun h=>h) hb hl (by have:=(hc2 (len-1) (by omega)).1; omega) (fun i _=>rfl) fun i j hi hj=>?_
  have:j=0:=by omega
  subst this
  rw [Nat.mul_one,Nat.add_zero,(hc2 i (by omega)).2]
  have e1:((LF (zs.take len) i).getD 0 .any)=.int .i64 ((zs.take len).getD i 0):=rfl
  rw [e1]
  have e2:(zs.take len).getD i 0=zs.getD i 0:=by simp [List.getD_eq_getElem?_getD,List.getElem?_take,hi]
  rw [e2]
  exact .int _ _
theorem open_intsD {H:Type} {enc:TypeId×Value→H} {P:Program} {W:World} {t e:TypeId} {v:Value} {d:DataW H} {ps:List MemPlace} (ht:P.underlying t=some (.slice e)) (he:P.underlying e=some (.int .i64)) (hc:P.cellsOf e=1) {r:Reach} {b0:Nat}
  (hv:Value.okWide P W r b0 t v) (hd:DataW.Trod enc P W 0 (fun _=>true) true t v d ps) : ∃ l:List Int,DRep W (fun _=>False) v (DL l)∧∀ n ∈ l,(Lit.int .i64 n).wf=true:=by
 obtain ⟨fuel,hf⟩:=hd
 obtain ⟨a0,len,cap,rfl⟩:=okWide_slice ht hv
 rcases open_ints ht he hc hf with ⟨hcs,hx⟩|⟨a,len',cap',zs,hcs,hb,hl,hm,hz,hx,hcell,hwz⟩
 ·simp [Value.cells] at hcs
  obtain ⟨rfl,rfl,rfl⟩:=hcs
  exact ⟨[],.nil _ _ _,fun n hn=>by cases hn⟩
 ·simp [Value.cells] at hcs
  obtain ⟨rfl,rfl,rfl⟩:=hcs
  simp only [if_true] at hz
  exact ⟨zs.take len,drep_ints hl (by omega) hcell,fun n hn=>hwz n (List.mem_of_mem_take hn)⟩
theorem trodAll_later {H:Type} {enc:TypeId×Value→H} {P:Program} (hl:laidOutB P=true) {W W' : World} (hb:Below W.heap.size W W') : ∀ {ts:List TypeId} {vs:List Value} {ds:List (DataW H)} {ps:List MemPlace},
  ts.all (fun t=>P.readableRec t&&decide (t<P.types.size))=true→DataW.TrodAll enc P W 0 (fun _=>true) true ts vs ds ps→(∀ x ∈ ps,x.block<W.heap.size)→∀ sp:Nat→Bool,(∀ x ∈ ps,sp x.block=true)→DataW.TrodAll enc P W' 0 sp true ts vs ds ps
 | [],[],[],_,_,h,_,_,_=>h
 | t::ts,v::vs,d::ds,ps,hr,⟨p,q,h1,h2,e⟩,hlt,sp,hs=>by
  simp only [List.all_cons,Bool.and_eq_true,decide_eq_true_eq] at hr
  subst e
  exact ⟨p,q,WideElems.Trod_stays hl hr.1.1 hr.1.2 h1 (fun x hx=>hb.same (hlt x (List.mem_append_left _ hx))) (fun x hx=>hs x (List.mem_append_left _ hx)),
   trodAll_later hl hb hr.2 h2 (fun x hx=>hlt x (List.mem_append_right _ hx)) sp (fun x hx=>hs x (List.mem_append_right _ hx)),rfl⟩
theorem post_trueB {H:Type} {enc:TypeId×Value→H} {P:Program} (hl:laidOutB P=true) {fn:Func} {s:ChangeSpec} {W W' : World} {args:Array Value} {ds gs:List (DataW H)} {before:List MemPlace} {apart fresh handsOn again:Bool}
  (hW:DataW.Whole enc P fn.params.toList s.vars apart W args.toList ds gs before) (hv:s.vars=[]) (hs:s.fn H (ds++gs) = { results:=[.lit (.bool true)],args:=ds }) (hr:fn.params.toList.all (fun t=>P.readableRec t&&decide (t<P.types.size))=true)
  {t:TypeId} (hres:fn.resultTypes = #[t]) (ht:P.underlying t=some .bool) (hb:Below W.heap.size W W'):s.post enc P fn apart fresh handsOn again W args (.bool true) W' := by
 have hlt:=hW.lt
 have hW' := hW
 obtain ⟨p,q,hA,hV,he,hfz,hnd⟩:=hW
 rw [hv] at hV
 obtain ⟨rfl,rfl⟩:=trodVars_none hV
 rw [List.append_nil] at he
 subst he
 have hok : ∀ (j:Nat) (t' : TypeId) (r:Value),fn.resultTypes[j]? = some t' → ((Value.bool true).resultList fn.resultTypes.size)[j]? = some r→Value.okWide P W' .any 0 t' r:=ok_one hres rfl (okWide_bool_mk ht _)
 have hold : ∀ x ∈ before,(fun b=>decide (b<W.heap.size)) x.block=true:=fun x hx=>by simpa using hlt x hx
 have harg : ∀ sp:Nat→Bool,(∀ x ∈ before,sp x.block=true)→DataW.TrodAll enc P W' 0 sp true fn.params.toList args.toList (s.fn H (ds++[])).args before:=fun sp hsp=>by
  rw [hs]; exact trodAll_later hl hb hr hA hlt sp hsp
 have hout : ∀ (b:Nat) (sp:Nat→Bool) (hd:Bool),DataW.TrodAll enc P W' b sp hd fn.resultTypes.toList ((Value.bool true).resultList fn.resultTypes.size) (s.fn H (ds++[])).results []:=fun b sp hd=>by
  rw [hs,hres]; exact trodAll_cons_mk (shut_bool ht _) trodAll_mk0
 have hvar : ∀ sp:Nat→Bool,DataW.TrodVars enc P W' sp s.vars (s.fn H (ds++[])).vars []:=fun sp=>by
  rw [hs,hv]; exact rfl
 refine ⟨ds,_,before,[],before,[],hW',hout _ _ _,harg _ hold,hvar _,World.keptBut_mono (fun x hx=>⟨hx,by simpa using hx⟩) (hb.frame (· ∈ before)),fun _=>⟨hok, ?_⟩⟩
 obtain ⟨_,_,_,_,_,hz,hn⟩:=hW'
 refine ⟨_,_,([]++before)++[],⟨[]++before,[],trodAll_append (harg _ fun _ _=>rfl) (hout _ _ _),hvar _,rfl,fun b off hx=>?_,fun ha=>?_⟩,fun x hx _=>?_⟩
 ·have hin:MemPlace.cell b off ∈ before:=by simpa using hx
  rw [hb.frozen (hlt _ hin)]
  exact hz b off hin
 ·simpa using hn ha
 ·simpa using hx
end Go.Ab
end

section
namespace Go.Ab
section
variable {P:Program} {C:Ctx} {nt:Nat} {L:Lay} {ops:Array Oper} {ds:List Dir} {e:Env} {s:Sto}
theorem KAt.eqb {k:Nat} {t:TypeId} (ht:P.underlying t=some .bool) (q:Bool) {a b:Bool} (hk:dirAt ds k=sE (vb (if q then a==b else !(a==b)))) (hop:eqOpB (opAt ops.toList k) t=some q) (hb:eqB ops nt (arunE L ops ops.toList ds e s k) (opAt ops.toList k)=true)
  (hx:aev (arunE L ops ops.toList ds e s k) (eqX (opAt ops.toList k))=vb a) (hy:aev (arunE L ops ops.toList ds e s k) (eqY (opAt ops.toList k))=vb b):KAt P C nt L ops ds e s k:=by
 unfold KAt
 rw [hk]
 simp only [eqB,Bool.and_eq_true] at hb
 obtain ⟨⟨⟨b1,b2⟩,b3⟩,b4⟩:=hb
 obtain ⟨t',hop'⟩:=eqOpB_ok hop
 refine stT_pure rfl b3 (by simpa using b4) fun R η e0 s0 ac w hrd hc=>?_
 have h1:=(aev_ok hc (eqX (opAt ops.toList k))).1
 rw [aev_agree hrd b1,hx] at h1
 have h2:=(aev_ok hc (eqY (opAt ops.toList k))).1
 rw [aev_agree hrd b2,hy] at h2
 have e1:=bool_inv h1
 have e2:=bool_inv h2
 refine ⟨.bool (if q then a==b else !(a==b)), ?_,bool_rep _ _⟩
 cases q with
 | true=>
  simp only [if_true] at hop' ⊢
  have hg:(eqGuard .eql t (eqX (opAt ops.toList k)) (eqY (opAt ops.toList k)) (.bool a) (.bool b)).run P w=.ok () w:=rfl
  simp only [execOp,hop',Sem.run_bind,e1,e2,hg,Result.andThen_ok,run_eql_bool w t a b ht,Sem.run_pure]
 | false=>
  simp only [Bool.false_eq_true,if_false] at hop' ⊢
  have hg:(eqGuard .neq t (eqX (opAt ops.toList k)) (eqY (opAt ops.toList k)) (.bool a) (.bool b)).run P w=.ok () w:=rfl
  simp only [execOp,hop',Sem.run_bind,e1,e2,hg,Result.andThen_ok,run_neq_bool w t a b ht,Sem.run_pure]
end
end Go.Ab
end

section
namespace Go.Ab
def ci (n:Int):CV:=.d (.int .i64 n)
def gC {α:Type} [Emb α] (x:α):List CV:=(Emb.cells x).map .d
def gE {α:Type} [Emb α] (x:α):AVal:=.v (.g (gC x))
def ss (n:Nat):List Dir:=List.replicate n .s
abbrev ckL (P:Program) (C:Ctx) (nt:Nat) (L:Lay) (pins:List Nat) (E:List (Nat×AVal)) (S:List (Nat×Obj)) (ops:Array Oper) (draw:Bool) (ds:List Dir) (E' : List (Nat×AVal)) (S' : List (Nat×Obj)):Bool×Prop×List AVal×List (Option Obj):=
 (chkB L pins nt ops draw ds E S [] S',arunC P C nt L ops ops.toList ds (lk E) (ls S),E'.map (fun p=>endE ops.toList (arunF L ops ops.toList ds (lk E) (ls S)) (lk E) p.1),S'.map (fun p=>endS (arunF L ops ops.toList ds (lk E) (ls S)) (ls S) (rhoL [] p.1)))
abbrev ckR (q:Prop) (E' : List (Nat×AVal)) (S' : List (Nat×Obj)):Bool×Prop×List AVal×List (Option Obj):=(true,q,E'.map (fun p=>p.2.ren (rhoL [])),S'.map (fun p=>some (p.2.ren (rhoL []))))
section
variable {P:Program} {C:Ctx} {nt:Nat} {L:Lay} {pins:List Nat} {E:List (Nat×AVal)} {S:List (Nat×Obj)} {Q:Exit→Act→World→Prop}
theorem AW.g (Fm:Fr P L C pins) {id:Nat} {ops:Array Oper} {draw:Bool} (ds:List Dir) (c:(Nat→Prop)→Prop) (E' : List (Nat×AVal)) (S' : List (Nat×Obj)) (hc:c (KAt P C nt L ops ds (lk E) (ls S)))
  (h:ckL P C nt L pins E S ops draw ds E' S' = ckR (c (KAt P C nt L ops ds (lk E) (ls S))) E' S')
  (k:Kn C nt E' S' (Q .normal)):AW P C nt (.region id ops draw) E S Q:=
 AW.regc Fm ds [] c E' S' hc (congrArg (·.1) h) (congrArg (·.2.1) h) (congrArg (·.2.2.1) h) (congrArg (·.2.2.2) h) k
theorem AW.sg (Fm:Fr P L C pins) {id:Nat} {ops:Array Oper} {draw:Bool} {y:Code} (ds:List Dir) (c:(Nat→Prop)→Prop) (E' : List (Nat×AVal)) (S' : List (Nat×Obj)) (hc:c (KAt P C nt L ops ds (lk E) (ls S)))
  (h:ckL P C nt L pins E S ops draw ds E' S' = ckR (c (KAt P C nt L ops ds (lk E) (ls S))) E' S')
  (k:AW P C nt y E' S' Q):AW P C nt (.seq (.region id ops draw) y) E S Q:=
 AW.seq (AW.g Fm ds c E' S' hc h k)
theorem AW.g0 (Fm:Fr P L C pins) {id:Nat} {ops:Array Oper} {draw:Bool} (n:Nat) (E' : List (Nat×AVal)) (S' : List (Nat×Obj))
  (h:ckL P C nt L pins E S ops draw (ss n) E' S' = ckR True E' S')
  (k:Kn C nt E' S' (Q .normal)):AW P C nt (.region id ops draw) E S Q:=AW.g Fm (ss n) (fun _=>True) E' S' True.intro h k
theorem AW.sg0 (Fm:Fr P L C pins) {id:Nat} {ops:Array Oper} {draw:Bool} {y:Code} (n:Nat) (E' : List (Nat×AVal)) (S' : List (Nat×Obj))
  (h:ckL P C nt L pins E S ops draw (ss n) E' S' = ckR True E' S')
  (k:AW P C nt y E' S' Q):AW P C nt (.seq (.region id ops draw) y) E S Q:=AW.seq (AW.g0 Fm n E' S' h k)
variable {K:Act→World→Prop}
theorem Kn.r (Fm:Fr P L C pins) (E' : List (Nat×AVal)) (S' : List (Nat×Obj))
  (hq:(pins.all (fun i=>rhoL [] i==i),E'.map (fun p=>lk E p.1),S'.map (fun p=>ls S (rhoL [] p.1)),nodupB (S'.map fun p=>rhoL [] p.1))=(true,E'.map (fun p=>p.2.ren (rhoL [])),S'.map (fun p=>some (p.2.ren (rhoL []))),true)) (h:Kn C nt E' S' K):Kn C nt E S K:=
 Kn.re Fm [] E' S' (congrArg (·.1) hq) (congrArg (·.2.1) hq) (congrArg (·.2.2.1) hq) (congrArg (·.2.2.2) hq) h
theorem Kn.dn (Fm:Fr P L C pins) {fn:Func} {r:AVal} {S' : List (Nat×Obj)} (hq:(resA L (lk E) (ls S) fn.results.toList,S'.map (fun p=>ls S p.1))=(some r,S'.map (fun p=>some p.2))):Kn C nt E S (retQ P fn C r S' .ret):=
 Kn.done Fm (congrArg (·.1) hq) (congrArg (·.2) hq)
end
section
variable {P:Program} {C:Ctx} {nt:Nat} {L:Lay} {ops:Array Oper} {ds:List Dir} {e:Env} {s:Sto}
theorem KAt.cl {k:Nat} {f:Nat} {args:List AVal} {Si:List (Nat×Obj)} {r:AVal} {So:List (Nat×Obj)} (hspec:FSpec P f args Si r So) (hcall : ∀ args w,(callFunc f args).run P w=.ok (.enter f args) w) (m:List (Nat×Nat))
  (hk:dirAt ds k=cE m [] r Si So) (hq:(Go.Ab.callB ops nt (arunE L ops ops.toList ds e s k) (opAt ops.toList k) f m r Si So,Si.map (fun p=>arunS L ops ops.toList ds e s k (rhoL m p.1)),
   (Go.Ab.callXs (opAt ops.toList k)).toList.all (rdOk (tmpsOf (opAt ops.toList k)++guardTmp ops (opAt ops.toList k)))&&args.all AVal.noSem,(Go.Ab.callXs (opAt ops.toList k)).toList.map (aev (arunE L ops ops.toList ds e s k)))
   = (true,Si.map (fun p=>some (p.2.ren (rhoL m))),true,args.map (AVal.ren (rhoL m)))):KAt P C nt L ops ds e s k:=
 KAt.call hspec hcall m hk (congrArg (·.1) hq) (congrArg (·.2.1) hq) (congrArg (·.2.2.1) hq) (congrArg (·.2.2.2) hq)
end
end Go.Ab
end

section
namespace Go.Ab
open Go.Proofs Go.Shelf
end Go.Ab
end

section
namespace Go.Ab
section
variable {w:World} {X:Nat→Prop} {η η' : Nat→Value} {C C' : Ctx} {P:Program}
end
section
variable {P:Program} {C:Ctx} {nt:Nat} {e:Env} {s:Sto}
end
end Go.Ab
end

section
namespace Go.Ab
section
variable {P:Program} {C:Ctx} {nt:Nat} {L:Lay} {pins:List Nat} {K:Act→World→Prop}
end
end Go.Ab
end

section
namespace Go.Ab
theorem FSpec.list {α:Type} [Emb α] {P:Program} {f:Nat} {args:List AVal} {r:List α} (h:FSpec P f args [] (.v (.c (.own 100))) [(100,AO r)]):FSpec P f args [] (AL r) []:=by
 intro w X η vs hX hown hobj hds hlen hargs
 refine (h w X η vs hX hown hobj hds hlen hargs).mono fun e w' hh=>?_
 obtain ⟨v,η',he,hb⟩:=hh
 refine ⟨v,η',he, ?_⟩
 have hls : ∀ i o,ls ([]:List (Nat×Obj)) i=some o→False:=fun i o hi=>by cases hi
 have ho:=hb.objs 100 (AO r) (by rw [ls_cons,if_pos rfl])
 have hv:v=η' 100:=by
  have:=hb.res
  cases this with | v _ _ hh=>cases hh with | c _ _ hh=>cases hh with | own _ _ h1 _=>exact h1
 have hnX : ∀ b,b ∈ blks (η' 100)→¬ XS (callCtx [] w X η) (ls []) η' b:=by
  intro b hbk hx
  have hbig:w.heap.size≤b:=by
   rcases hb.ow 100 (AO r) b (by rw [ls_cons,if_pos rfl]) hbk with ⟨h1,_⟩|⟨i,o,hi,_⟩ | h1
   ·cases h1
   ·grind
   ·exact h1
  rcases hx with ⟨h1,_⟩|⟨i,o,hi,_⟩
  ·have:=hX b h1
   omega
  all_goals grind
 have hsub : ∀ b,¬ XS (callCtx [] w X η) (ls [(100,AO r)]) η' b→¬ XS (callCtx [] w X η) (ls []) η' b:=by
  intro b h1 h2
  rcases h2 with h2 | ⟨i,o,hi,_⟩
  ·exact h1 (.inl h2)
  all_goals grind
 refine ⟨hb.stp, ?_,fun i o hi=>(hls i o hi).elim,fun i j b hi=>?_,fun i o b hi=>(hls i o hi).elim,hb.pn⟩
 ·rw [hv]
  refine .v _ _ (.c _ _ (.d _ _ ?_))
  show DRep _ _ _ (.lst r.length (LF r))
  unfold AO at ho
  generalize η' 100=u at ho hnX
  generalize hn:r.length=n at ho
  cases ho with
  | nil ad=>exact .nil _ _ _
  | arr b n cap es c e f h1 h2 h3 h4 h5 h6 h7=>
   refine .lst b 0 n cap c e _ _ _ (hnX b (by simp [blks]; omega)) h1 h3 ?_ h6 fun i j hi hj=>?_
   ·rw [h2,Nat.zero_add]; exact Nat.mul_le_mul_right _ h3
   ·rw [Nat.zero_add]
    exact (h7 i j hi hj).mono fun b _ hb=>⟨rfl,hsub b (by unfold AO; rw [hn]; exact hb)⟩
 ·exact absurd rfl hi
end Go.Ab
end

section
namespace Go.Ab
section
variable {w:World} {X X' : Nat→Prop} {η:Nat→Value} {C:Ctx} {k:Nat} {y:CV}
end
section
variable {P:Program} {C:Ctx} {nt:Nat} {L:Lay} {pins:List Nat} {K:Act→World→Prop} {E:List (Nat×AVal)} {S:List (Nat×Obj)}
end
end Go.Ab
end

section
namespace Go.Ab
section
variable {P:Program} {C:Ctx} {nt:Nat} {L:Lay} {ops:Array Oper} {ds:List Dir} {e:Env} {s:Sto}
end
end Go.Ab
end

section
namespace Go.Ab
open Go.Sort Go.Proofs Go.Shelf
section
variable {α:Type} [Emb α]
end
end Go.Ab
end

section
namespace Go.Ab
section
variable {P:Program} {C:Ctx} {nt:Nat} {L:Lay} {R:Nat→Prop} {η:Nat→Value} {e:Env} {s:Sto} {a:Act} {w:World}
theorem Snd.upd_le {o:Oper} {x:AVal} {id:Nat} {ob ob' : Obj} {c:Prop} (h:Snd P C nt R η e s a w o { v:=x,upd:=some (id,ob),cond:=c }) (hle:OLe ob ob'):Snd P C nt R η e s a w o { v:=x,upd:=some (id,ob'),cond:=c } := by
 obtain ⟨v,w',h1,h2⟩:=h
 refine ⟨v,w',h1, ?_⟩
 have hsto : ∀ q i,SR.sto { v:=x,upd:=some (id,q),cond:=c } o.dst s i=if i=id then some q else s i:=by
  intro q i
  unfold SR.sto
  simp
 have h3:=h2.conv (R' := SR.rng { v:=x,upd:=some (id,ob'),cond:=c } o.dst R) (e' := SR.env { v:=x,upd:=some (id,ob'),cond:=c } o.dst e) (s' := SR.sto { v:=x,upd:=some (id,ob'),cond:=c } o.dst s) (fun i=>i)
  (fun t=>by rw [AVal.ren_id]; exact ALe.refl _) (fun i o' hi=>by
   rw [Obj.ren_id]
   rw [hsto] at hi ⊢
   split at hi
   ·grind
   ·rename_i hi'; exact ⟨o',by rw [if_neg hi']; exact hi,OLe.refl _⟩) (fun i j _ _ h=>h) (fun t i hi=>h2.er t i hi) (fun i o' hi=>by
   rw [hsto] at hi
   split at hi
   ·rename_i hi'
    cases hi
    have:=h2.sr i ob (by rw [hsto,if_pos hi'])
    exact ⟨this.1,fun j hj=>this.2 j (hle.2.2 j hj)⟩
   ·rename_i hi'
    exact h2.sr i o' (by rw [hsto,if_neg hi']; exact hi)) (fun i hi=>⟨rfl,by
   obtain ⟨v,hv⟩:=Option.ne_none_iff_exists'.1 hi
   exact (h2.pn i v hv).2⟩)
 exact h3
variable {ops:Array Oper} {ds:List Dir} {k:Nat}
theorem KAt.upd (hL:LOk P L) {id:Nat} {ob ob' : Obj} {c:Prop} (hk:dirAt ds k=rE { v:=.any,upd:=some (id,ob') })
  (hdo:(dstOk nt (opAt ops.toList k)&&(gval ops (arunE L ops ops.toList ds e s k) (opAt ops.toList k)==some true))=true)
  (hr:aop1 L false (arunE L ops ops.toList ds e s k) (arunS L ops ops.toList ds e s k) (opAt ops.toList k)=some { v:=.any,upd:=some (id,ob),cond:=c }) (hc:c) (hle:OLe ob ob'):KAt P C nt L ops ds e s k:=by
 unfold KAt
 rw [hk]
 simp only [Bool.and_eq_true,beq_iff_eq] at hdo
 have hd2 : ∀ t x y,(opAt ops.toList k).op=.store t x y→(opAt ops.toList k).dst=none:=by
  intro t x y hop
  have:=hdo.1
  simp only [dstOk,hop,Bool.and_eq_true] at this
  grind
 refine stT_snd hdo.1 hdo.2 fun R η e0 s0 a w he hss hn hcc=>?_
 have hr0:=(aop1_local (L:=L) (e:=arunE L ops ops.toList ds e s k) (s:=arunS L ops ops.toList ds e s k) false (opAt ops.toList k) he hss).trans hr
 exact (aop1_ok hL hcc false _ (fun x hx=>dst_lt hdo.1 x hx) hr0 hc (fun d hd hn=>absurd rfl hn) hd2).upd_le hle
end
end Go.Ab
end

section
namespace Go.Ab
open Go.ChangeShapes Go.WideShapes Go.ChangeAt Go.RowKit
def Cel {α:Type} [Emb α] (w:World) (cs:List Value) (y:α):Prop:=cs.length=Emb.es α∧∀ j,j<Emb.es α→DRep w (fun _=>False) (cs.getD j undef) ((Emb.cells y).getD j .any)
def OpT (P:Program) (t:TypeId) (α:Type) [Emb α]:Prop:=
 ∀ {H:Type} {enc:TypeId×Value→H} {w:World} {fuel:Nat} {cs:List Value} {x:DataW H×List MemPlace},DataW.trod enc P w 0 (fun _=>true) true fuel t cs=some x→∃ y:α,Cel w cs y
theorem opT_int {P:Program} {t:TypeId} (ht:P.underlying t=some (.int .i64)):OpT P t Int:=fun h=>by
 obtain ⟨n,rfl,_,_⟩:=DataW.trod_int ht h
 refine ⟨n,rfl,fun j hj=>?_⟩
 have:j=0:=by have:j<1:=hj; omega
 subst this
 exact .int _ _
theorem open_row {P:Program} {t e:TypeId} {α:Type} [Emb α] (ht:P.underlying t=some (.slice e)) (O:OpT P e α) (hc:P.cellsOf e=Emb.es α) (hpos:0<Emb.es α)
  {H:Type} {enc:TypeId×Value→H} {w:World} {fuel:Nat} {cs:List Value} {x:DataW H×List MemPlace} (h:DataW.trod enc P w 0 (fun _=>true) true fuel t cs=some x) : ∃ v,cs=[v]∧∃ l:List α,DRep w (fun _=>False) v (DL l):=by
 rcases Go.Deep.open_slice ht h with ⟨rfl,_⟩|⟨a,len,cap,m,n,D,Pl,rfl,_,hl,_,hm,_,hel⟩
 ·exact ⟨_,rfl,[],.nil _ _ _⟩
 ·have hm:m=cap:=by rw [hm]; rfl
  subst hm
  have hal : ∀ i,i<len→∃ y:α,∀ j,j<Emb.es α→∃ v,w.cell? (a.add (i*Emb.es α+j))=some v∧DRep w (fun _=>False) v ((Emb.cells y).getD j .any):=fun i hi=>by
   obtain ⟨cs',h1,h2⟩:=hel i (by omega)
   obtain ⟨y,h3,h4⟩:=O h2
   refine ⟨y,fun j hj=>?_⟩
   obtain ⟨_,g1,g2⟩:=World.cells?_some h1
   have h5:=g2 j (by rw [hc]; exact hj)
   rw [Go.Deep.add_add,hc] at h5
   have h6:cs'[j]? = some (cs'.getD j undef):=by
    rw [List.getD_eq_getElem?_getD,List.getElem?_eq_getElem (by omega)]; rfl
   exact ⟨_,h5.trans h6,h4 j hj⟩
  haveI:Inhabited α:=⟨Emb.d⟩
  obtain ⟨f,hf⟩:=Go.Deep.choose_lt hal
  refine ⟨_,rfl,(List.range len).map f, ?_⟩
  have hll:((List.range len).map f).length=len:=by simp
  unfold DL
  rw [hll]
  by_cases h0:len=0
  ·subst h0; exact .nil _ _ _
  have hs:a.spot=none:=by
   obtain ⟨v,h1,_⟩:=hf 0 (by omega) 0 hpos
   have:=(cell_inv h1).1
   cases hsp:a.spot with
   | none=>rfl
   | some s=>simp [Addr.add,hsp] at this
  obtain ⟨b,off,sp⟩:=a
  simp only at hs
  subst hs
  have hc' : ∀ i j,i<len→j<Emb.es α→∃ c e fz v,w.heap[b]? = some (.cells c e fz)∧off+(i*Emb.es α+j)<c.size∧c.getD (off+(i*Emb.es α+j)) undef=v∧DRep w (fun _=>False) v ((Emb.cells (f i)).getD j .any):=by
   intro i j hi hj
   obtain ⟨v,h1,h2⟩:=hf i hi j hj
   rw [add_lit'] at h1
   obtain ⟨_,c,e,fz,g1,g2,g3⟩:=cell_inv h1
   exact ⟨c,e,fz,v,g1,g2,g3,h2⟩
  obtain ⟨c,e,fz,_,hb,_,_,_⟩:=hc' 0 0 (by omega) hpos
  have hc2 : ∀ i j,i<len→j<Emb.es α→off+(i*Emb.es α+j)<c.size∧DRep w (fun _=>False) (c.getD (off+(i*Emb.es α+j)) undef) ((Emb.cells (f i)).getD j .any):=by
   intro i j hi hj
   obtain ⟨c',e',fz',v,hb',h1,h2,h3⟩:=hc' i j hi hj
   rw [hb] at hb'; cases hb'
   exact ⟨h1,h2 ▸ h3⟩
  have hfi : ∀ i,i<len→LF ((List.range len).map f) i=Emb.cells (f i):=fun i hi=>by
   unfold LF
   rw [List.getD_eq_getElem?_getD,List.getElem?_map,List.getElem?_range hi]; rfl
  refine .lst b off len m c e fz _ (Emb.es α) (fun h=>h) hb hl ?_ (fun i hi=>by rw [hfi i hi]; exact Emb.len _) fun i j hi hj=>?_
  ·have:=(hc2 (len-1) (Emb.es α-1) (by omega) (by omega)).1
   have e1:len*Emb.es α=(len-1)*Emb.es α+Emb.es α:=by
    conv=>lhs; rw [show len=(len-1)+1 by omega]
    rw [Nat.add_mul,Nat.one_mul]
   omega
  ·rw [hfi i hi]; exact (hc2 i j hi hj).2
theorem trod_field {P:Program} {t:TypeId} {fs:Array Field} {H:Type} {enc:TypeId×Value→H} {w:World} {fuel:Nat} {cs:List Value} {x:DataW H×List MemPlace} (ht:P.underlying t=some (.struct fs)) (h:DataW.trod enc P w 0 (fun _=>true) true fuel t cs=some x) :
  cs.length=P.cellsOf t∧∀ (i:Nat) (f:Field),fs[i]? = some f→∃ n y,DataW.trod enc P w 0 (fun _=>true) true n f.type ((cs.drop f.offset).take (P.cellsOf f.type))=some y:=by
 obtain ⟨xs,n,_,rfl,hl,hlen,hf⟩:=DataW.trod_struct ht h
 refine ⟨hl,fun i f hi=>?_⟩
 have h1:=hf i f hi
 have:i<xs.length:=by
  rw [hlen]
  exact (Array.getElem?_eq_some_iff.1 hi).1
 rw [List.getElem?_eq_getElem this] at h1
 exact ⟨n,_,h1⟩
theorem trod_fld {P:Program} {fs:Array Field} {H:Type} {enc:TypeId×Value→H} {w:World} {cs:List Value}
  (hf : ∀ (i:Nat) (f:Field),fs[i]? = some f→∃ n y,DataW.trod enc P w 0 (fun _=>true) true n f.type ((cs.drop f.offset).take (P.cellsOf f.type))=some y)
  (i:Nat) (f:Field) (hi:fs[i]? = some f) {t o k:Nat} (h1:f.type=t) (h2:f.offset=o) (h3:P.cellsOf t=k) : ∃ n y,DataW.trod enc P w 0 (fun _=>true) true n t ((cs.drop o).take k)=some y:=by
 obtain ⟨n,y,h⟩:=hf i f hi
 rw [h1,h2,h3] at h
 exact ⟨n,y,h⟩
theorem opT_get {cs:List Value} {o:Nat} {v:Value} (h:(cs.drop o).take 1=[v]):cs.getD o undef=v:=by
 have h1:((cs.drop o).take 1)[0]? = some v:=by rw [h]; rfl
 rw [List.getElem?_take,if_pos (by omega),List.getElem?_drop,Nat.add_zero] at h1
 rw [List.getD_eq_getElem?_getD,h1]; rfl
theorem getD_sub {cs:List Value} {o k j:Nat} (hj:j<k):((cs.drop o).take k).getD j undef=cs.getD (o+j) undef:=by
 rw [List.getD_eq_getElem?_getD,List.getElem?_take,if_pos hj,List.getElem?_drop, ← List.getD_eq_getElem?_getD]
theorem Cel.at {α:Type} [Emb α] {w:World} {cs:List Value} {o k:Nat} {y:α} (h:Cel w ((cs.drop o).take k) y) {j:Nat} (hj:j<Emb.es α) (hk:j<k):DRep w (fun _=>False) (cs.getD (o+j) undef) ((Emb.cells y).getD j .any):=by
 have:=h.2 j hj
 rwa [getD_sub hk] at this
theorem cel_rep {α:Type} [Emb α] {w:World} {c:Array Value} {y:α} {η:Nat→Value} {C:Ctx} (h:Cel w c.toList y):TRep w (fun _=>False) η C (.agg c) (.g ((Emb.cells y).map .d)):=by
 refine .g _ _ ⟨?_,fun j hj=>?_⟩
 ·rw [List.length_map,Emb.len, ← h.1]; simp
 ·rw [List.length_map,Emb.len] at hj
  have h1:=h.2 j hj
  have e1:c.getD j undef=c.toList.getD j undef:=by
   rw [Array.getD_eq_getD_getElem?,List.getD_eq_getElem?_getD,Array.getElem?_toList]
  have e2:((Emb.cells y).map CV.d).getD j (.d .any)=.d ((Emb.cells y).getD j .any):=by
   rw [List.getD_eq_getElem?_getD,List.getElem?_map,List.getD_eq_getElem?_getD,List.getElem?_eq_getElem (by rw [Emb.len]; exact hj)]; rfl
  rw [e1,e2]
  exact .d _ _ h1
theorem open_listD {P:Program} {t e:TypeId} {α:Type} [Emb α] (ht:P.underlying t=some (.slice e)) (O:OpT P e α) (hc:P.cellsOf e=Emb.es α) (hpos:0<Emb.es α) {H:Type} {enc:TypeId×Value→H} {W:World} {v:Value} {d:DataW H} {ps:List MemPlace} {r:Reach} {b0:Nat}
  (hv:Value.okWide P W r b0 t v) (hd:DataW.Trod enc P W 0 (fun _=>true) true t v d ps) : ∃ l:List α,DRep W (fun _=>False) v (DL l):=by
 obtain ⟨fuel,hf⟩:=hd
 obtain ⟨a0,len,cap,rfl⟩:=okWide_slice ht hv
 obtain ⟨v,h1,l,hl⟩:=open_row ht O hc hpos hf
 simp [Value.cells] at h1
 subst h1
 exact ⟨l,hl⟩
theorem open_structD {P:Program} {t:TypeId} {fs:Array Field} {α:Type} [Emb α] (ht:P.underlying t=some (.struct fs)) (O:OpT P t α) {H:Type} {enc:TypeId×Value→H} {W:World} {v:Value} {d:DataW H} {ps:List MemPlace} {r:Reach} {b0:Nat}
  (hv:Value.okWide P W r b0 t v) (hd:DataW.Trod enc P W 0 (fun _=>true) true t v d ps) : ∃ (c:Array Value) (y:α),v=.agg c∧Cel W c.toList y:=by
 obtain ⟨fuel,hf⟩:=hd
 obtain ⟨c,rfl,_⟩:=okWide_struct ht hv
 obtain ⟨y,hy⟩:=O hf
 exact ⟨c,y,rfl,hy⟩
end Go.Ab
end

section
namespace Go.Ab
@[reducible] def ow (n:Nat):AVal:=.v (.c (.own n))
@[reducible] def pt (n:Nat):AVal:=.v (.c (.ptr n 0))
@[reducible] def bx (l:List CV):Obj:=.box false l
section
variable {P:Program} {C:Ctx} {nt:Nat} {L:Lay} {pins:List Nat} {E:List (Nat×AVal)} {S:List (Nat×Obj)} {Q:Exit→Act→World→Prop}
variable {K:Act→World→Prop}
theorem Kn.R (Fm:Fr P L C pins) {E' : List (Nat×AVal)} {S' : List (Nat×Obj)} (h:Kn C nt E' S' K)
  (hq:(pins.all (fun i=>rhoL [] i==i),E'.map (fun p=>lk E p.1),S'.map (fun p=>ls S (rhoL [] p.1)),nodupB (S'.map fun p=>rhoL [] p.1))=(true,E'.map (fun p=>p.2.ren (rhoL [])),S'.map (fun p=>some (p.2.ren (rhoL []))),true):=by kernel_rfl):Kn C nt E S K:=Kn.r Fm E' S' hq h
theorem Kn.RE (Fm:Fr P L C pins) (ρ:List (Nat×Nat)) {E' : List (Nat×AVal)} {S' : List (Nat×Obj)} (h:Kn C nt E' S' K) (hp:pins.all (fun i=>rhoL ρ i==i)=true:=by kernel_rfl) (hE:E'.map (fun p=>lk E p.1)=E'.map (fun p=>p.2.ren (rhoL ρ)):=by kernel_rfl)
  (hS:S'.map (fun p=>ls S (rhoL ρ p.1))=S'.map (fun p=>some (p.2.ren (rhoL ρ))):=by kernel_rfl) (hinj:nodupB (S'.map fun p=>rhoL ρ p.1)=true:=by kernel_rfl):Kn C nt E S K:=Kn.re Fm ρ E' S' hp hE hS hinj h
theorem Kn.D (Fm:Fr P L C pins) {fn:Func} {r:AVal} {S' : List (Nat×Obj)} (hq:(resA L (lk E) (ls S) fn.results.toList,S'.map (fun p=>ls S p.1))=(some r,S'.map (fun p=>some p.2)):=by kernel_rfl):Kn C nt E S (retQ P fn C r S' .ret):=Kn.dn Fm hq
end
section
variable {P:Program} {C:Ctx} {nt:Nat} {L:Lay} {ops:Array Oper} {ds:List Dir} {e:Env} {s:Sto}
theorem KAt.CC {k:Nat} {f:Nat} {args:List AVal} {Si:List (Nat×Obj)} {r:AVal} {So:List (Nat×Obj)} (hspec:FSpec P f args Si r So) (hcall : ∀ args w,(callFunc f args).run P w=.ok (.enter f args) w) (m:List (Nat×Nat))
  (hk:dirAt ds k=cE m [] r Si So:=by rfl) (hq:(Go.Ab.callB ops nt (arunE L ops ops.toList ds e s k) (opAt ops.toList k) f m r Si So,Si.map (fun p=>arunS L ops ops.toList ds e s k (rhoL m p.1)),
   (Go.Ab.callXs (opAt ops.toList k)).toList.all (rdOk (tmpsOf (opAt ops.toList k)++guardTmp ops (opAt ops.toList k)))&&args.all AVal.noSem,(Go.Ab.callXs (opAt ops.toList k)).toList.map (aev (arunE L ops ops.toList ds e s k)))
   = (true,Si.map (fun p=>some (p.2.ren (rhoL m))),true,args.map (AVal.ren (rhoL m))):=by kernel_rfl):KAt P C nt L ops ds e s k:=KAt.cl hspec hcall m hk hq
end
section
variable {C:Ctx} {nt:Nat} {e:Env} {s:Sto}
theorem ArgT.p {Si:List (Nat×Obj)} {m:Nat→Nat} {rd ids:List Nat} {x:Operand} {y:AVal} (hx:rdOk rd x=true:=by kernel_rfl) (hle:aev e x=y.ren m:=by kernel_rfl) (hs:y.noSem=true:=by kernel_rfl):ArgT C nt e s Si m rd ids x y:=ArgT.plain hx (ALe.of_eq hle) hs
end
end Go.Ab
end

section
namespace Go.Ab
open Go.Maps (Keyed)
open Go.WideElems (Fit rd rg pl rd_val elemAt)
open Go.ChangeMaps Go.MapKept
def mapD (ks:List Int):DataW Unit:=ks.foldl (fun D k=>D.put (.int .i64 k) (.lit (.bool true))) (.map [])
theorem mapD_snoc (ks:List Int) (k:Int):mapD (ks++[k])=(mapD ks).put (.int .i64 k) (.lit (.bool true)):=by unfold mapD; rw [List.foldl_append]; rfl
def mapP (P:Program) (kT eT:TypeId) (ks:List Int) (w:World) (_:Nat→Prop) (v:Value):Prop:=∃ b,v=.map (some b)∧w.ownsMap P kT (plainElem P eT) b ks.length (mapD ks)
theorem mapP_stab {P:Program} {kT eT:TypeId} {ks:List Int} (v:Value):PStab (mapP P kT eT ks) v:=by
 intro w w' X X' _ hb hp
 obtain ⟨b,rfl,es,clock,h1,h2,h3,h4⟩:=hp
 exact ⟨b,rfl,es,clock,(hb b (by simp [blks])).trans h1,h2,h3,h4⟩
theorem owns_put {P:Program} {kT eT t:TypeId} {ks:List Int} {w:World} {b:Nat} (h:w.ownsMap P kT (plainElem P eT) b ks.length (mapD ks)) (hk:P.underlying kT=some (.int .i64)) (he:P.underlying eT=some .bool) (ht:P.underlying t=some (.map kT eT))
  (hn:ks.length<maxLen) {n:Int} (hw:(Lit.int .i64 n).wf=true) : ∃ w',(Instr.mapUpdate t (.map (some b)) (.int .i64 n) (.bool true)).run P w=.ok () w' ∧ w'.ownsMap P kT (plainElem P eT) b (ks++[n]).length (mapD (ks++[n]))∧Stp (fun x=>x=b) w w' := by
 have K:Keyed P kT:=Maps.int_keyed hk
 have hkey:keyOf P kT (.int .i64 n)=some (.int .i64 n):=Maps.keyOf_int_mk hk hw
 have hv:plainElem (H:=Unit) P eT (.bool true)=some (.lit (.bool true),[]):=plainElem_bool he true
 obtain ⟨es,clock,hb,F,hs,hD⟩:=h
 obtain ⟨es',clock',hrun,F',hput,_⟩:=Maps.fit_store (R' := plainElem (H:=Unit) P eT) K ht hb F (Nat.lt_of_le_of_lt hs hn) (fun _ _ _ _ hz=>hz) hkey hv
 refine ⟨_,hrun,⟨es',clock',heap_setBlock_same hb _,F', ?_, ?_⟩,⟨rfl,rfl,rfl,by simp [setBlock],fun i _ hi=>heap_setBlock_other hb _ (fun e=>hi e),Nat.le_refl _⟩⟩
 ·have e1:es'.size=((es'.toList.map (rg P kT (plainElem (H:=Unit) P eT))).foldr DataW.insert []).length:=by rw [length_sorted]; simp
  rw [e1,hput]
  unfold putKey
  rw [length_insert,List.length_append]
  have e2:=List.length_filter_le (notKey (.int .i64 n)) ((es.toList.map (rg P kT (plainElem (H:=Unit) P eT))).foldr DataW.insert [])
  rw [length_sorted] at e2
  simp at e2 ⊢
  omega
 ·rw [mapD_snoc,hD,DataW.put_eq,hput]
open Go.Maps in
def keysM (ks:List Int):Option (List Int):=if ks.length≤LIM then some ((intKeys (mapD ks)).mergeSort fun x y=>decide (x≤y)) else none
end Go.Ab
end

section
namespace Go.Ab
section
variable {P:Program} {C:Ctx} {nt:Nat} {L:Lay} {R:Nat→Prop} {η:Nat→Value} {e:Env} {s:Sto} {a:Act} {w:World}
theorem vi_inv {X:Nat→Prop} {v:Value} {n:Int} (h:ARep w X η C v (vi n)):v=.int .i64 n:=by
 cases h with | v _ _ hh=>cases hh with | c _ _ hh=>cases hh with | d _ _ hh=>cases hh; rfl
theorem vb_inv {X:Nat→Prop} {v:Value} {b:Bool} (h:ARep w X η C v (vb b)):v=.bool b:=by
 cases h with | v _ _ hh=>cases hh with | c _ _ hh=>cases hh with | d _ _ hh=>cases hh; rfl
theorem snd_newext (h:Conc C nt R η e s a w) {o:Oper} {d:Nat} (hd:o.dst=some d) (hdn:d<nt) (hR : ¬ R d) {p:World→(Nat→Prop)→Value→Prop} {v:Value} {w' : World}
  (hrun:(execOp a.eval o).run P w=.ok (.value v) w') (hstep:Stp (fun _=>False) w w') (hone:v.oneCell' = true) (hv : ∀ b,b ∈ blks v→w.heap.size≤b) (hob : ∀ X' η',ORep w' X' η' C v (.ext p)) :
  Snd P C nt R η e s a w o { v:=.v (.c (.own d)),new:=some (.ext p) } := by
 have hk:=kept_step (C:=C) (s:=s) (η:=η) { v:=.v (.c (.own d)),new:=some (.ext p) } o.dst v (fun _=>False) hstep (fun b hb=>hb.elim) (fun _ _ _ _ b hb=>.inl (hv b hb)) (fun k o hh=>by cases hh)
 refine ⟨v,w',.inl hrun,h.step o.dst (fun x hx=>by rw [hd] at hx; cases hx; exact hdn) _ _ _ (fun _=>False) hstep (fun b hb=>hb.elim) ?_ (fun k o hh=>by cases hh) ?_⟩
 ·intro o' dd ho' hdd
  cases ho'
  rw [hd] at hdd; cases hdd
  exact ⟨hR,rfl,by simp [Obj.refs],hob _ _,fun b hb=>.inl (hv b hb)⟩
 ·intro _
  refine ⟨.v _ _ (.c _ _ (.own _ _ (by simp [SR.eta,hd]) hone)),fun j hj=>?_⟩
  simp [AVal.refs,TV.refs,CV.refs] at hj
  exact .inr ⟨by simp,by rw [hd,hj]⟩
theorem snd_updext (h:Conc C nt R η e s a w) {o:Oper} (hd:o.dst=none) {id:Nat} {ob:Obj} (hs:s id=some ob) (hro:ob.ro=false) {p:World→(Nat→Prop)→Value→Prop} {b:Nat} {w' : World} (hb:b ∈ blks (η id))
  (hrun:(execOp a.eval o).run P w=.ok .skip w') (hstep:Stp (fun x=>x=b) w w') (hob : ∀ X',ORep w' X' η C (η id) (.ext p)):Snd P C nt R η e s a w o { upd:=some (id,.ext p) } := by
 have hown:Own s η b:=⟨id,ob,hs,hb⟩
 have hk:=kept_step (C:=C) (s:=s) (η:=η) { upd:=some (id,.ext p) } o.dst undef (fun x=>x=b) hstep (fun x hx=>by subst hx; exact hown) (fun _ _ hh=>by cases hh)
  (fun k o hh=>by cases hh; rw [hs]; simp)
 have heta:SR.eta { upd:=some (id,.ext p) } o.dst undef η=η:=by funext i; simp [SR.eta]
 refine ⟨undef,_,.inr ⟨hrun,rfl⟩, ?_⟩
 refine h.step o.dst (fun x hx=>by rw [hd] at hx; cases hx) _ _ _ (fun x=>x=b) hstep ?_ (fun _ _ hh=>by cases hh) ?_ (fun hh=>absurd hd hh)
 ·intro x hx
  subst hx
  refine ⟨⟨id,.inr ⟨.ext p,rfl⟩,by rw [hs]; simp,hb⟩, ?_⟩
  rcases h.ow id ob _ hs hb with ⟨h1,_⟩ | h1
  ·rw [hro] at h1; cases h1
  ·exact h1
 ·intro k o' hh
  cases hh
  refine ⟨⟨ob,hs,hro⟩,rfl,by simp,by simp [Obj.refs], ?_⟩
  rw [heta]
  exact hob _
variable {ops:Array Oper} {ds:List Dir} {k:Nat}
theorem KAt.mkMap {kT eT t:TypeId} {d:Nat} (hk:dirAt ds k=rE { v:=.v (.c (.own d)),new:=some (.ext (mapP P kT eT [])) }) (hop:(opAt ops.toList k).op=.makeMap t none)
  (hdo:(dstOk nt (opAt ops.toList k)&&(gval ops (arunE L ops ops.toList ds e s k) (opAt ops.toList k)==some true)&&(opAt ops.toList k).dst==some d)=true):KAt P C nt L ops ds e s k:=by
 unfold KAt
 rw [hk]
 simp only [Bool.and_eq_true,beq_iff_eq] at hdo
 obtain ⟨⟨h1,h2⟩,h3⟩:=hdo
 refine stT_snd h1 h2 fun R η e0 s0 a w he hss hn hcc=>?_
 refine snd_newext hcc h3 (dst_lt h1 d h3) (hn d h3 (by simp)) (v:=.map (some w.heap.size)) (w' := w.alloc (.map #[] 0)) ?_ (Stp.alloc _ w _) rfl (fun b hb=>by simp [blks] at hb; omega) fun X' η' => ?_
 ·simp [execOp,hop,Instr.makeMap]
 ·refine .ext _ _ ⟨_,rfl,World.ownsMap_made w P kT _⟩ (mapP_stab _) fun b hb=>?_
  simp only [blks,List.mem_singleton] at hb
  subst hb
  show w.heap.size<(w.heap.push _).size
  rw [Array.size_push]; omega
theorem KAt.mapPut {kT eT t:TypeId} {id:Nat} {m x v:Operand} {ks:List Int} {n:Int} (hkT:P.underlying kT=some (.int .i64)) (heT:P.underlying eT=some .bool) (ht:P.underlying t=some (.map kT eT))
  (hk:dirAt ds k=rE { upd:=some (id,.ext (mapP P kT eT (ks++[n]))) }) (hop:(opAt ops.toList k).op=.mapUpdate t m x v)
  (hdo:(dstOk nt (opAt ops.toList k)&&(gval ops (arunE L ops ops.toList ds e s k) (opAt ops.toList k)==some true)&&(opAt ops.toList k).dst.isNone)=true)
  (hm:aev (arunE L ops ops.toList ds e s k) m=.v (.c (.own id))) (hs:arunS L ops ops.toList ds e s k id=some (.ext (mapP P kT eT ks))) (hx:aev (arunE L ops ops.toList ds e s k) x=vi n) (hv:aev (arunE L ops ops.toList ds e s k) v=vb true)
  (hlen:ks.length≤LIM) (hw:I64 n):KAt P C nt L ops ds e s k:=by
 unfold KAt
 rw [hk]
 simp only [Bool.and_eq_true,beq_iff_eq] at hdo
 obtain ⟨⟨h1,h2⟩,h3⟩:=hdo
 refine stT_snd h1 h2 fun R η e0 s0 a w he hss hn hcc=>?_
 have om:m ∈ (opAt ops.toList k).op.operands.toList:=by rw [hop]; simp [Op.operands]
 have ox:x ∈ (opAt ops.toList k).op.operands.toList:=by rw [hop]; simp [Op.operands]
 have ov:v ∈ (opAt ops.toList k).op.operands.toList:=by rw [hop]; simp [Op.operands]
 have em:=(aev_ok hcc m).1
 rw [he m om,hm] at em
 have em:=own_inv em
 have ex:=(aev_ok hcc x).1
 rw [he x ox,hx] at ex
 have ex:=vi_inv ex
 have ev:=(aev_ok hcc v).1
 rw [he v ov,hv] at ev
 have ev:=vb_inv ev
 have hs0:s0 id=some (.ext (mapP P kT eT ks)):=(hss m om id (by rw [hm]; simp [AVal.refs,TV.refs,CV.refs])).trans hs
 have hst:=hcc.st id _ hs0
 generalize hb:η id=q at hst
 cases hst with
 | ext _ _ hp _ _=>
  obtain ⟨b,rfl,hown⟩:=hp
  obtain ⟨w',hrun,hown',hstp⟩:=owns_put hown hkT heT ht (by unfold maxLen; unfold LIM at hlen; omega) (n:=n) (by unfold I64 at hw; simp [Lit.wf,IntKind.min,IntKind.max,IntKind.signed,IntKind.bits]; omega)
  refine snd_updext hcc (by simpa using h3) hs0 rfl (b:=b) (w' := w') (by rw [hb]; simp [blks]) ?_ hstp fun X' => ?_
  ·simp [execOp,hop,em,hb,ex,ev,hrun]
  ·rw [hb]
   refine .ext _ _ ⟨b,rfl,hown'⟩ (mapP_stab _) fun b' hb' => ?_
   simp [blks] at hb'
   subst hb'
   exact hown'.lt
end
end Go.Ab
end

section
namespace Go.Ab
open Go.Sort Go.Proofs Go.Shelf Go.Maps
theorem keys_FSpec {P:Program} {ρ:Ren} (Ly:SlLaysZI.n7 P ρ) {kT eT:TypeId} {ks:List Int}:FSpec P (ρ.f 7) [ow 0] [(0,.ext (mapP P kT eT ks))] (.v (.c (.clo (ρ.f 10) [101]))) [(0,.ext (mapP P kT eT ks)),(101,bx [.own 0])]:=by
 intro w X η vs hX hown hobj hds hlen hargs
 have hlen:vs.size=1:=hlen
 have hv0:vs.getD 0 undef=η 0:=own_inv (C:=callCtx [(0,.ext (mapP P kT eT ks))] w X η) (s:=ls [(0,.ext (mapP P kT eT ks))]) (by have:=hargs 0 (by simp); rw [own_ext hown]; exact this)
 rw [vs_one hlen,hv0]
 have ho:=hobj 0 (.ext (mapP P kT eT ks)) (by rw [ls_cons,if_pos rfl])
 have hXb : ∀ b,b ∈ blks (η 0)→X b:=fun b hb=>hown b ⟨0,_,by rw [ls_cons,if_pos rfl],hb⟩
 generalize hu:η 0=u at ho
 cases ho with
 | ext _ _ hp hst hlt=>
  obtain ⟨b,rfl,hm⟩:=hp
  have hbl:=hm.lt
  refine (callsIn_wide.1 (AnyZI.keys_in Ly Fence.wide 5 trivial rfl (some b) w)).mono fun e w' hh=>?_
  obtain ⟨rfl,rfl⟩:=hh
  refine ⟨_,fun i=>if i=101 then .pointer (some ⟨w.heap.size,0,none⟩) else η i,rfl, ?_⟩
  have h0:(fun i=>if i=101 then Value.pointer (some ⟨w.heap.size,0,none⟩) else η i) 0=.map (some b):=hu
  have hget : ∀ i o,ls [(0,.ext (mapP P kT eT ks)),(101,bx [.own 0])] i=some o→(i=0∧o=.ext (mapP P kT eT ks))∨(i=101∧o=bx [.own 0]):=fun i o hi=>by
   rw [ls_cons] at hi
   by_cases h:i=0
   ·rw [if_pos h] at hi; cases hi; exact .inl ⟨h,rfl⟩
   ·rw [if_neg h,ls_cons] at hi
    by_cases h2:i=101
    ·rw [if_pos h2] at hi; cases hi; exact .inr ⟨h2,rfl⟩
    ·rw [if_neg h2] at hi; cases hi
  refine ⟨(Stp.alloc (fun _=>False) w _).mono fun x _ hx=>hx.elim, ?_,fun i o hi=>?_,fun i j x hi hj h1 h2=>?_,fun i o x hi h1=>?_,fun i v hi=>?_⟩
  ·exact .v _ _ (.c _ _ (.clo _ _ _ (by simp)))
  ·rcases hget i o hi with ⟨rfl,rfl⟩|⟨rfl,rfl⟩
   ·show ORep _ _ _ _ ((fun i=>if i=101 then Value.pointer (some ⟨w.heap.size,0,none⟩) else η i) 0) _
    rw [h0]
    refine .ext _ _ ⟨b,rfl,hm.alloc _⟩ (mapP_stab _) fun b' hb' => ?_
    simp only [blks,List.mem_singleton] at hb'
    subst hb'
    show b' < (w.heap.push _).size
    rw [Array.size_push]; omega
   ·refine .box _ _ #[.map (some b)] (ρ.t 23) _ (by show (w.heap.push _)[w.heap.size]? = _; exact Array.getElem?_push_size) ⟨rfl,fun j hj=>?_⟩
    have:j=0:=by simp at hj; omega
    subst this
    exact .own _ _ h0.symm rfl
  ·obtain ⟨oi,hi⟩:=Option.ne_none_iff_exists'.1 hi
   obtain ⟨oj,hj⟩:=Option.ne_none_iff_exists'.1 hj
   rcases hget i oi hi with ⟨rfl,_⟩|⟨rfl,_⟩ <;> rcases hget j oj hj with ⟨rfl,_⟩|⟨rfl,_⟩
   ·rfl
   ·have h1:x ∈ blks ((fun i=>if i=101 then Value.pointer (some ⟨w.heap.size,0,none⟩) else η i) 0):=h1
    rw [h0] at h1
    simp [blks] at h1 h2
    omega
   ·have h2:x ∈ blks ((fun i=>if i=101 then Value.pointer (some ⟨w.heap.size,0,none⟩) else η i) 0):=h2
    rw [h0] at h2
    simp [blks] at h1 h2
    omega
   ·rfl
  ·rcases hget i o hi with ⟨rfl,rfl⟩|⟨rfl,rfl⟩
   ·have h1:x ∈ blks (η 0):=h1
    exact .inr (.inl ⟨0,_,by rw [ls_cons,if_pos rfl],rfl,h1⟩)
   ·simp [blks] at h1
    exact .inr (.inr (by show w.heap.size≤x; omega))
  ·change (if ((List.lookup i [(0,Obj.ext (mapP P kT eT ks))]).isSome=true) then some (η i) else none)=some v at hi
   split at hi
   ·rename_i hs
    have:i=0:=by
     rw [List.lookup_cons] at hs
     split at hs
     ·rename_i h; simpa using h
     ·simp at hs
    subst this
    cases hi
    rfl
   ·cases hi
end Go.Ab
end

section
namespace Go.Ab
def zw (w:World):World:= { w with drawn:=0 }
def FSpec0 (P:Program) (f:Nat) (args:List AVal) (S:List (Nat×Obj)) (r:AVal) (S' : List (Nat×Obj)):Prop:=
 ∀ (w:World) (X:Nat→Prop) (η:Nat→Value) (vs:Array Value),(∀ b,X b→b<w.heap.size)→(∀ b,Own (ls S) η b→X b) →
  (∀ i o,ls S i=some o→ORep w X η (callCtx S (zw w) X η) (η i) o)→(∀ i j b,ls S i≠none→ls S j≠none→b ∈ blks (η i)→b ∈ blks (η j)→i=j) →
  vs.size=args.length→(∀ j,j<args.length→ARep w X η (callCtx S (zw w) X η) (vs.getD j undef) (args.getD j .any)) →
  Calls P f vs w fun e w' => ∃ v η',e=.returned v∧Behind (callCtx S (zw w) X η) r S' v η' w'
section
variable {P:Program} {L:Lay}
theorem own_ext0 {S:List (Nat×Obj)} {X:Nat→Prop} {η:Nat→Value} {w:World} (h : ∀ b,Own (ls S) η b→X b):XS (callCtx S (zw w) X η) (ls S) η=X:=own_ext h
theorem FSpec0.intro (hm:P.follows .mixedOrders=true) (hL:LOk P L) {f:Nat} {fn:Func} {c:Code} (hf:P.funcs[f]? = some fn) (hb:fn.body=some c) {args:List AVal} {S:List (Nat×Obj)} {r:AVal} {S' : List (Nat×Obj)} (hn0:Nat.ble args.length fn.ntmps=true)
  (h : ∀ C,C.w0.drawn=0→Fr P L C (S.map (·.1))→AW P C fn.ntmps c (argsE args) S (retQ P fn C r S')):FSpec0 P f args S r S' := by
 have hn:args.length≤fn.ntmps:=Nat.le_of_ble_eq_true hn0
 intro w X η vs hX hown hobj hdist hsz hargs
 have hC:(callCtx S (zw w) X η).Ok:=⟨fun b ⟨i,o,h1,_,h2⟩=>⟨i,o,h1,h2⟩,fun b hb=>hown b hb,hX⟩
 refine calls_of_wp hf hb (h (callCtx S (zw w) X η) rfl ⟨hm,hL,fun i hi=>?_⟩ (fun _=>True) η _ w ⟨hC,rfl, ?_,fun t=>?_,fun _ _ _=>trivial,fun i o hi=>?_,fun _ _ _=>⟨trivial,fun _ _=>trivial⟩,hdist,fun i o b hi hbi=>?_,⟨rfl,rfl,rfl,Nat.le_refl _,fun _ _ _=>rfl,Nat.zero_le _⟩,fun i v hi=>⟨?_,trivial⟩⟩)
 ·simp only [callCtx] at hi
  split at hi
  ·rename_i hs
   obtain ⟨o,ho⟩:=Option.isSome_iff_exists.1 hs
   obtain ⟨l1,l2,hl,_⟩:=List.lookup_eq_some_iff.1 ho
   rw [hl]; simp
  ·exact absurd rfl hi
 ·simp; omega
 ·rw [own_ext0 hown,argsE_lk]
  by_cases ht:t<args.length
  ·have e1:(vs++Array.replicate (fn.ntmps-vs.size) undef).getD t undef=vs.getD t undef:=by
    have:t<vs.size:=by omega
    simp [this,Array.getElem?_append,Array.getD_eq_getD_getElem?]
   simp only [e1]
   exact hargs t ht
  ·rw [List.getD_eq_getElem?_getD,List.getElem?_eq_none (by omega)]
   exact .any _
 ·rw [own_ext0 hown]; exact hobj i o hi
 ·cases hro:o.ro with
  | true=>exact .inl ⟨rfl,⟨i,o,hi,hbi⟩⟩
  | false=>exact .inr (.inl ⟨i,o,hi,hro,hbi⟩)
 ·simp only [callCtx] at hi
  split at hi
  ·cases hi; rfl
  ·cases hi
end
section
variable {P:Program} {C:Ctx} {nt:Nat} {L:Lay} {ops:Array Oper} {ds:List Dir} {e:Env} {s:Sto}
theorem Conc.zw {R:Nat→Prop} {η:Nat→Value} {a:Act} {w:World} (h:Conc C nt R η e s a w) (hz:C.w0.drawn=0):Conc C nt R η e s a (Go.Ab.zw w):=by
 have hk:Kept w (Go.Ab.zw w) (XS C s η) (XS C s η):=fun b _ hX=>⟨rfl,hX⟩
 exact ⟨h.ok,h.df,h.sz,fun t=>(h.ev t).mono hk fun _ _=>rfl,h.er,fun i o ho=>(h.st i o ho).mono hk (fun _ _=>rfl) fun _ _=>rfl,h.sr,h.ds,h.ow,
  ⟨h.fr.os,h.fr.tape,h.fr.output,h.fr.size,h.fr.block,by rw [hz]; exact Nat.zero_le _⟩,h.pn⟩
theorem stT_call0 (hz:C.w0.drawn=0) {f:Nat} (hcall : ∀ args w,(callFunc f args).run P w=.ok (.enter f args) w) {o:Oper} {fx:Operand} {xs:Array Operand} {tys:Array TypeId} (hop:o.op=.call { callee:=.value fx,args:=xs,argTypes:=tys })
  (hfx:aev e fx=.v (.c (.clo f []))) (hrf:rdOk (tmpsOf o++guardTmp ops o) fx=true) {args:List AVal} {Si:List (Nat×Obj)} {r:AVal} {So:List (Nat×Obj)} (hspec:FSpec0 P f args Si r So) (hlen:xs.size=args.length) (m:Nat→Nat) (extra:List Nat)
  (hargs : ∀ j,j<args.length→ArgT C nt e s Si m (tmpsOf o++guardTmp ops o) (idsOf e o++(Si.map (fun p=>m p.1)++extra)) (xs.toList.getD j (.const undef)) (args.getD j .any))
  (hsi : ∀ p ∈ Si,∃ o1,s (m p.1)=some o1∧OLe o1 (p.2.ren m)) (hchk:callChk m r Si So=true) (hdo:dstOk nt o=true) (hg:gval ops e o=some true):StT P C nt ops o (callEff ops o e m extra r Si So) e s:=by
 intro R η e0 s0 a w hrd hids hfr hc K Q hK
 have hw:=wanted_of (e:=e) hc (fun t ht=>hrd t (List.mem_append.2 (.inr ht))) hg
 rw [if_pos hw]
 have hfv:=(aev_ok hc fx).1
 rw [aev_agree hrd hrf,hfx] at hfv
 have hfv' := clo_inv hfv
 have hex:=exec_call (w:=w) hop hfv' hcall
 have hsi0 : ∀ p ∈ Si,∃ o1,s0 (m p.1)=some o1∧OLe o1 (p.2.ren m):=by
  intro p hp
  rw [hids (m p.1) (List.mem_append.2 (.inr (List.mem_append.2 (.inl (List.mem_map.2 ⟨p,hp,rfl⟩)))))]
  exact hsi p hp
 simp only [callChk,Bool.and_eq_true] at hchk
 have hchk' := hchk
 obtain ⟨⟨⟨⟨⟨⟨⟨⟨⟨c1,c2⟩,c3⟩,c4⟩,c5⟩,c6⟩,c7⟩,c8⟩,c9⟩,c10⟩:=hchk
 have hc0:=hc.zw hz
 have hXlt : ∀ b,XS C s0 η b→b<w.heap.size:=by
  rintro b (⟨hx,_⟩ | hx)
  ·exact Nat.lt_of_lt_of_le (hc.ok.lt b hx) hc.fr.size
  ·exact hc.lt hx
 have hsem : ∀ i o',ls Si i=some o' → o'.noSem=true:=fun i o' hi=>List.all_eq_true.1 c7 _ (ls_mem hi)
 have hsp:=hspec w (XS C s0 η) (fun i=>η (m i)) (xs.map a.eval++(([]:List Nat).map η).toArray) hXlt
  (fun b ⟨i,o',hi,hib⟩=>by obtain ⟨o1,h1,_⟩:=hsi0 _ (ls_mem hi); exact .inr ⟨m i,o1,h1,hib⟩)
  (fun i o' hi=>by
   obtain ⟨o1,h1,hle⟩:=hsi0 _ (ls_mem hi)
   exact (ORep.unren (hle.1 _ _ _ _ _ (hc.st _ o1 h1))).ctx (hsem i o' hi))
  (fun i j b hi hj hbi hbj=>by
   obtain ⟨oi,hi⟩:=Option.ne_none_iff_exists'.1 hi
   obtain ⟨oj,hj⟩:=Option.ne_none_iff_exists'.1 hj
   obtain ⟨o1,h1,_⟩:=hsi0 _ (ls_mem hi)
   obtain ⟨o2,h2,_⟩:=hsi0 _ (ls_mem hj)
   have hmij:m i=m j:=hc.ds _ _ b (by rw [h1]; simp) (by rw [h2]; simp) hbi hbj
   have n3:=nodupB_ok c3
   rw [List.nodup_append] at n3
   exact inj_of (ρ:=m) n3.2.1 (by rw [hi]; simp) (by rw [hj]; simp) hmij)
  (by simp [hlen])
  (fun j hj=>by
   have hj' : j<xs.size:=by omega
   have e1:(xs.map a.eval++(([]:List Nat).map η).toArray).getD j undef=a.eval (xs.toList.getD j (.const undef)):=by
    simp [List.getD_eq_getElem?_getD,hj']
   rw [e1]
   exact (hargs j hj R η e0 s0 a (Go.Ab.zw w) hrd hids hc0).mono (fun b _ hX=>⟨rfl,hX⟩) fun _ _=>rfl)
 unfold Oper.wp
 rw [hex]
 show Calls P f _ w _
 refine hsp.mono fun en w' hh=>?_
 obtain ⟨v,η',rfl,hb⟩:=hh
 have hchk2:callChk m r Si So=true:=by simp only [callChk,Bool.and_eq_true]; exact hchk'
 obtain ⟨η1,hc1⟩:=hc0.call (dst_lt hdo) hchk2 hsi0 hfr hb
 exact hK η1 _ w' hc1
theorem KAt.callX0 (hz:C.w0.drawn=0) {k:Nat} {f:Nat} {args:List AVal} {Si:List (Nat×Obj)} {r:AVal} {So:List (Nat×Obj)} (hspec:FSpec0 P f args Si r So) (hcall : ∀ args w,(callFunc f args).run P w=.ok (.enter f args) w) (m:List (Nat×Nat)) (extra:List Nat) (xs:List Operand)
  (hk:dirAt ds k=cE m extra r Si So) (hb:Go.Ab.callB ops nt (arunE L ops ops.toList ds e s k) (opAt ops.toList k) f m r Si So=true)
  (hsi:Si.map (fun p=>arunS L ops ops.toList ds e s k (rhoL m p.1))=Si.map (fun p=>some (p.2.ren (rhoL m)))) (hxs:(Go.Ab.callXs (opAt ops.toList k)).toList=xs)
  (hargs:ArgsT C nt (arunE L ops ops.toList ds e s k) (arunS L ops ops.toList ds e s k) Si (rhoL m) (tmpsOf (opAt ops.toList k)++guardTmp ops (opAt ops.toList k)) (idsOf (arunE L ops ops.toList ds e s k) (opAt ops.toList k)++(Si.map (fun p=>rhoL m p.1)++extra)) xs args):KAt P C nt L ops ds e s k:=by
 unfold KAt
 rw [hk]
 simp only [Go.Ab.callB,Bool.and_eq_true] at hb
 obtain ⟨⟨⟨⟨⟨b1,b2⟩,b3⟩,b4⟩,b5⟩,b6⟩:=hb
 obtain ⟨tys,hop⟩:=isCall_ok b1
 obtain ⟨g1,g2⟩:=(hxs ▸ hargs).spec
 exact stT_call0 hz hcall hop (isClo0_ok b2) b3 hspec (by simpa using g1) (rhoL m) extra (fun j hj=>g2 j hj) (fun p hp=>⟨_,forall_of_map hsi p hp,OLe.refl _⟩) b4 b5 (by simpa using b6)
theorem KAt.call0 (hz:C.w0.drawn=0) {k:Nat} {f:Nat} {args:List AVal} {Si:List (Nat×Obj)} {r:AVal} {So:List (Nat×Obj)} (hspec:FSpec0 P f args Si r So) (hcall : ∀ args w,(callFunc f args).run P w=.ok (.enter f args) w) (m:List (Nat×Nat))
  (hk:dirAt ds k=cE m [] r Si So) (hb:Go.Ab.callB ops nt (arunE L ops ops.toList ds e s k) (opAt ops.toList k) f m r Si So=true)
  (hsi:Si.map (fun p=>arunS L ops ops.toList ds e s k (rhoL m p.1))=Si.map (fun p=>some (p.2.ren (rhoL m))))
  (hrd:((Go.Ab.callXs (opAt ops.toList k)).toList.all (rdOk (tmpsOf (opAt ops.toList k)++guardTmp ops (opAt ops.toList k)))&&args.all AVal.noSem)=true)
  (hargs:(Go.Ab.callXs (opAt ops.toList k)).toList.map (aev (arunE L ops ops.toList ds e s k))=args.map (AVal.ren (rhoL m))):KAt P C nt L ops ds e s k:=by
 rw [Bool.and_eq_true] at hrd
 exact KAt.callX0 hz hspec hcall m [] _ hk hb hsi rfl (ArgsT.plains hrd.1 hrd.2 hargs)
theorem KAt.CC0 (hz:C.w0.drawn=0) {k:Nat} {f:Nat} {args:List AVal} {Si:List (Nat×Obj)} {r:AVal} {So:List (Nat×Obj)} (hspec:FSpec0 P f args Si r So) (hcall : ∀ args w,(callFunc f args).run P w=.ok (.enter f args) w) (m:List (Nat×Nat))
  (hk:dirAt ds k=cE m [] r Si So:=by rfl) (hq:(Go.Ab.callB ops nt (arunE L ops ops.toList ds e s k) (opAt ops.toList k) f m r Si So,Si.map (fun p=>arunS L ops ops.toList ds e s k (rhoL m p.1)),
   (Go.Ab.callXs (opAt ops.toList k)).toList.all (rdOk (tmpsOf (opAt ops.toList k)++guardTmp ops (opAt ops.toList k)))&&args.all AVal.noSem,(Go.Ab.callXs (opAt ops.toList k)).toList.map (aev (arunE L ops ops.toList ds e s k)))
   = (true,Si.map (fun p=>some (p.2.ren (rhoL m))),true,args.map (AVal.ren (rhoL m))):=by kernel_rfl):KAt P C nt L ops ds e s k:=
 KAt.call0 hz hspec hcall m hk (congrArg (·.1) hq) (congrArg (·.2.1) hq) (congrArg (·.2.2.1) hq) (congrArg (·.2.2.2) hq)
end
end Go.Ab
end

section
namespace Go.Ab
open Go.Sort Go.Proofs Go.Shelf Go.Maps
theorem sorted_perm {a b:List Int} (h:a.Perm b):(a.mergeSort fun x y=>decide (x≤y))=b.mergeSort fun x y=>decide (x≤y):=by
 have tr : ∀ a b c:Int,decide (a≤b)=true→decide (b≤c)=true→decide (a≤c)=true:=fun a b c h1 h2=>by simp at *; omega
 have to : ∀ a b:Int,(decide (a≤b)||decide (b≤a))=true:=fun a b=>by simp; omega
 refine List.Perm.eq_of_pairwise (le:=fun x y=>decide (x≤y)=true) ?_ (List.pairwise_mergeSort tr to a) (List.pairwise_mergeSort tr to b) (((List.mergeSort_perm a _).trans h).trans (List.mergeSort_perm b _).symm)
 intro x y _ _ h1 h2
 simp at h1 h2; omega
theorem sorted_FSpec0 {P:Program} {ρ6 ρ7 ρ5:Ren} (L6:SlLaysZI.n6 P ρ6) (L7:SlLaysZI.n7 P ρ7) (L5:SlLaysM.n5 P ρ5) (h9:ρ6.f 9=ρ5.f 5) {kT eT:TypeId} (hkT:kT=ρ7.t 26) {ks r:List Int} (h:keysM ks=some r) :
  FSpec0 P (ρ6.f 6) [.v (.c (.clo (ρ7.f 10) [1]))] [(0,.ext (mapP P kT eT ks)),(1,bx [.own 0])] (ow 100) [(0,.ext (mapP P kT eT ks)),(1,bx [.own 0]),(100,AO (α:=Int) r)]:=by
 unfold keysM at h
 split at h
 case isFalse=>cases h
 rename_i hlim
 obtain rfl:=Option.some.inj h
 intro w X η vs hX hown hobj hds hlen hargs
 have hlen:vs.size=1:=hlen
 have hv0:vs.getD 0 undef=.func (.func (ρ7.f 10)) #[] #[η 1]:=by have:=clo_inv (hargs 0 (by simp)); simpa using this
 rw [vs_one hlen,hv0]
 have ho:=hobj 0 (.ext (mapP P kT eT ks)) (by rw [ls_cons,if_pos rfl])
 have ho1:=hobj 1 (bx [.own 0]) (by rw [ls_cons,if_neg (by decide),ls_cons,if_pos rfl])
 have hXb : ∀ b,b ∈ blks (η 0)→X b:=fun b hb=>hown b ⟨0,_,by rw [ls_cons,if_pos rfl],hb⟩
 have hXb1 : ∀ b,b ∈ blks (η 1)→X b:=fun b hb=>hown b ⟨1,bx [.own 0],by rw [ls_cons,if_neg (by decide),ls_cons,if_pos rfl],hb⟩
 have hne:=hds 0 1
 generalize hu:η 0=u at ho
 generalize hu1:η 1=u1 at ho1
 cases ho with
 | ext _ _ hp hst hlt=>
 obtain ⟨b,rfl,hm⟩:=hp
 cases ho1 with
 | box Bm _ c e _ hBm hcs=>
 have hc0:c.getD 0 undef=.map (some b):=by
  have:=hcs.2 0 (by simp)
  generalize c.getD 0 undef=q at this ⊢
  cases this with
  | own _ _ hh _=>exact hh.trans hu
 have hcs1:c.size=1:=by simpa using hcs.1
 have hbl:=hm.lt
 have hBl:Bm<w.heap.size:=lt_of_heap hBm
 have hcell:w.cell? ⟨Bm,0,none⟩=some (.map (some b)):=by
  have h0:c[0]? = some (.map (some b)):=by
   have:0<c.size:=by omega
   rw [Array.getD_eq_getD_getElem?,Array.getElem?_eq_getElem this] at hc0
   rw [Array.getElem?_eq_getElem this]
   simpa using hc0
  simp [World.cell?,hBm,h0]
 have hnB:b≠Bm:=fun hh=>by
  have:=hne b (by rw [ls_cons,if_pos rfl]; simp) (by rw [ls_cons,if_neg (by decide),ls_cons,if_pos rfl]; simp) (by rw [hu]; simp [blks]) (by rw [hu1]; simp [blks,hh])
  cases this
 have hsz:Maps.size (mapD ks)≤ks.length:=hm.size_le
 have hm' : w.ownsMap P (ρ7.t 26) (plainElem P eT) b ks.length (mapD ks):=hkT ▸ hm
 have hseq:SeqGives Fence.wide 2 P (ρ7.f 10) #[.pointer (some ⟨Bm,0,none⟩)] encZ (fun ss=>ss.Perm (intKeys (mapD ks))) (Maps.size (mapD ks)) w:=
  AnyZI.keys_gives (ρ:=ρ7) { L7 with } Fence.wide _ trivial rfl (by omega) Bm b ks.length (mapD ks) w hBl hcell hm'
 have hsorts:AnyZI.SortsIn P ρ6 Fence.wide 4:=by
  unfold AnyZI.SortsIn
  rw [h9]
  exact ⟨fun blk off cap ss W hH hblk hsz=>callsIn_wide.2 (AnyM.slices_Sort_int L5 blk off cap ss W hH hblk hsz),fun p cap W=>callsIn_wide.2 (AnyM.slices_Sort_int_none L5 p cap W)⟩
 have e9 : ∀ args w,(callFunc (ρ6.f 9) args).run P w=.ok (.enter (ρ6.f 9) args) w:=by rw [h9]; exact L5.f5.enters rfl
 have hmax:Maps.size (mapD ks)≤maxLen:=by unfold maxLen; unfold LIM at hlim; omega
 have hbytes:Maps.size (mapD ks)*8≤140737488355328:=by unfold LIM at hlim; omega
 have cS:=AnyZI.sorted_in L6 Fence.wide 5 trivial trivial trivial trivial rfl (by omega) hsorts e9 (ρ7.f 10) #[.pointer (some ⟨Bm,0,none⟩)] trivial (L7.f10.enters rfl) _ _ hmax hbytes w hseq
 refine (callsIn_wide.1 cS).mono fun e' w' hh=>?_
 obtain ⟨v,ss,rfl,hS,hrow,hnil,hb⟩:=hh
 have hlss:ss.length=(ss.mergeSort fun x y=>decide (x≤y)).length:=by simp
 have hsp:=sorted_perm hS
 rw [hsp] at hrow hlss
 generalize hr:((intKeys (mapD ks)).mergeSort fun x y=>decide (x≤y))=r at hrow hlss ⊢
 have hget : ∀ i o,ls [(0,.ext (mapP P kT eT ks)),(1,bx [.own 0]),(100,AO (α:=Int) r)] i=some o→(i=0∧o=.ext (mapP P kT eT ks))∨(i=1∧o=bx [.own 0])∨(i=100∧o=AO (α:=Int) r):=fun i o hi=>by
  rw [ls_cons] at hi
  by_cases h:i=0
  ·rw [if_pos h] at hi; cases hi; exact .inl ⟨h,rfl⟩
  ·rw [if_neg h,ls_cons] at hi
   by_cases h2:i=1
   ·rw [if_pos h2] at hi; cases hi; exact .inr (.inl ⟨h2,rfl⟩)
   ·rw [if_neg h2,ls_cons] at hi
    by_cases h3:i=100
    ·rw [if_pos h3] at hi; cases hi; exact .inr (.inr ⟨h3,rfl⟩)
    ·rw [if_neg h3] at hi; cases hi
 have hblk : ∀ x,x ∈ blks v→w.heap.size≤x:=fun x hx=>by
  rcases hrow.2 with ⟨rfl,_⟩|⟨g,cap,cur,rfl,hg,_⟩
  ·simp [blks] at hx
  ·simp only [blks] at hx
   split at hx
   ·cases hx
   ·simp at hx; omega
 have hone:v.oneCell' = true:=by
  rcases hrow.2 with ⟨rfl,_⟩|⟨g,cap,cur,rfl,_⟩ <;> rfl
 let η' : Nat→Value:=fun i=>if i=100 then v else η i
 have e0:η' 0=.map (some b):=hu
 have e1:η' 1=.pointer (some ⟨Bm,0,none⟩):=hu1
 have e2:η' 100=v:=rfl
 refine ⟨v,η',rfl,⟨hb.os,hb.tape,hb.output,hb.size,fun x hx _=>hb.block x hx,Nat.zero_le _⟩, ?_,fun i o hi=>?_,fun i j x hi hj h1 h2=>?_,fun i o x hi h1=>?_,fun i u hi=>?_⟩
 ·exact .v _ _ (.c _ _ (.own _ _ rfl hone))
 ·rcases hget i o hi with ⟨rfl,rfl⟩|⟨rfl,rfl⟩|⟨rfl,rfl⟩
  ·rw [e0]
   refine .ext _ _ ⟨b,rfl, ?_⟩ (mapP_stab _) fun b' hb' => ?_
   ·obtain ⟨es,clock,g1,g2,g3,g4⟩:=hm
    exact ⟨es,clock,(hb.block b hbl).trans g1,g2,g3,g4⟩
   ·simp only [blks,List.mem_singleton] at hb'
    subst hb'
    exact Nat.lt_of_lt_of_le hbl hb.size
  ·rw [e1]
   refine .box _ _ c e _ ((hb.block Bm hBl).trans hBm) ⟨hcs.1,fun j hj=>?_⟩
   have:j=0:=by simp at hj; omega
   subst this
   rw [hc0]
   exact .own _ _ e0.symm rfl
  ·rw [e2]
   obtain ⟨hl,hrow⟩:=hrow
   unfold AO
   rw [← hlss]
   rcases hrow with ⟨rfl,hn⟩|⟨g,cap,cur,rfl,hg,g1,g2,g3,g4,g5⟩
   ·rw [hn]; exact .nil _ _ _
   ·by_cases hc:cap=0
    ·have:ss.length=0:=by omega
     rw [this]; subst hc
     exact .nil _ _ _
    ·refine .arr g ss.length cap 1 cur _ _ g1 g4 g2 g3 (Nat.pos_of_ne_zero hc) (fun i _=>rfl) fun i j hi hj=>?_
     have:j=0:=by omega
     subst this
     have hi' : i<r.length:=by omega
     have hgi:cur.getD (i*1+0) undef=encZ (r.getD i 0):=by
      have h1:(cur.toList.take (ss.length*1))[i]? = some (encZ (r.getD i 0)):=by
       rw [g5,List.getElem?_map,List.getElem?_eq_getElem hi',List.getD_eq_getElem?_getD,List.getElem?_eq_getElem hi']; rfl
      rw [List.getElem?_take] at h1
      split at h1
      ·rw [Array.getD_eq_getD_getElem?]
       simp at h1 ⊢
       rw [h1]; rfl
      ·cases h1
     rw [hgi]
     exact .int _ _
 ·obtain ⟨oi,hi⟩:=Option.ne_none_iff_exists'.1 hi
  obtain ⟨oj,hj⟩:=Option.ne_none_iff_exists'.1 hj
  have b0 : ∀ y,y ∈ blks (η' 0)→y=b:=fun y hy=>by rw [e0] at hy; simpa [blks] using hy
  have b1 : ∀ y,y ∈ blks (η' 1)→y=Bm:=fun y hy=>by rw [e1] at hy; simpa [blks] using hy
  have b2 : ∀ y,y ∈ blks (η' 100)→w.heap.size≤y:=fun y hy=>hblk y hy
  rcases hget i oi hi with ⟨rfl,_⟩|⟨rfl,_⟩|⟨rfl,_⟩ <;> rcases hget j oj hj with ⟨rfl,_⟩|⟨rfl,_⟩|⟨rfl,_⟩ <;> first
   | rfl
   | (exact absurd ((b0 x h1).symm.trans (b1 x h2)) hnB)
   | (exact absurd ((b0 x h2).symm.trans (b1 x h1)) hnB)
   | (have:=b0 x h1; have:=b2 x h2; omega)
   | (have:=b0 x h2; have:=b2 x h1; omega)
   | (have:=b1 x h1; have:=b2 x h2; omega)
   | (have:=b1 x h2; have:=b2 x h1; omega)
 ·rcases hget i o hi with ⟨rfl,rfl⟩|⟨rfl,rfl⟩|⟨rfl,rfl⟩
  ·exact .inr (.inl ⟨0,.ext (mapP P kT eT ks),by rw [ls_cons,if_pos rfl],rfl,h1⟩)
  ·exact .inr (.inl ⟨1,bx [.own 0],by rw [ls_cons,if_neg (by decide),ls_cons,if_pos rfl],rfl,h1⟩)
  ·exact .inr (.inr (hblk x h1))
 ·have h100:i≠100:=fun hh=>by
   subst hh
   change (if ((List.lookup 100 [(0,Obj.ext (mapP P kT eT ks)),(1,bx [.own 0])]).isSome=true) then some (η 100) else none)=some u at hi
   simp [List.lookup] at hi
  change (if ((List.lookup i [(0,Obj.ext (mapP P kT eT ks)),(1,bx [.own 0])]).isSome=true) then some (η i) else none)=some u at hi
  split at hi
  ·cases hi
   show (if i=100 then v else η i)=η i
   rw [if_neg h100]
  ·cases hi
end Go.Ab
end

section
namespace Go.Ab
section
variable {P:Program} {C:Ctx} {nt:Nat} {L:Lay} {ops:Array Oper} {ds:List Dir} {e:Env} {s:Sto}
end
end Go.Ab
end

section
namespace Go.Ab
open Go.MapKept
section
variable {P:Program} {C:Ctx} {nt:Nat} {L:Lay} {R:Nat→Prop} {η:Nat→Value} {e:Env} {s:Sto} {a:Act} {w:World}
variable {ops:Array Oper} {ds:List Dir} {k:Nat}
end
section
variable {P:Program} {C:Ctx} {nt:Nat} {L:Lay} {pins:List Nat} {E:List (Nat×AVal)} {S:List (Nat×Obj)} {Q:Exit→Act→World→Prop}
end
end Go.Ab
end

section
namespace Go.Ab
open Go.MapKept
section
variable {α:Type} [Emb α]
end
section
variable {P:Program} {C:Ctx} {nt:Nat} {L:Lay} {ops:Array Oper} {ds:List Dir} {e:Env} {s:Sto}
end
section
variable {P:Program} {C:Ctx} {nt:Nat} {L:Lay} {R:Nat→Prop} {η:Nat→Value} {e:Env} {s:Sto} {a:Act} {w:World}
variable {α:Type} [Emb α]
variable {ops:Array Oper} {ds:List Dir} {k:Nat}
end
end Go.Ab
end

section
namespace Go.Ab
open Go.MapKept
section
variable {P:Program} {C:Ctx} {nt:Nat} {L:Lay} {R:Nat→Prop} {η:Nat→Value} {e:Env} {s:Sto} {a:Act} {w:World}
variable {α:Type} [Emb α] {ops:Array Oper} {ds:List Dir} {k:Nat}
end
section
variable {P:Program} {C:Ctx} {nt:Nat} {L:Lay} {pins:List Nat} {K:Act→World→Prop} {α:Type} [Emb α]
end
end Go.Ab
end

section
namespace Go.Ab
def ov:List (Nat×Obj)→List (Nat×Obj)→List (Nat×Obj)
 | [],S=>S
 | _::_,[]=>[]
 | (k,o)::W,(i,x)::S=>match Nat.beq k i with
  | true=>(i,o)::ov W S
  | false=>(i,x)::ov ((k,o)::W) S
def FW:List (Nat×Obj)→List (Nat×Obj)→Prop
 | [],_=>True
 | _::_,[]=>True
 | (k,o)::W,(i,x)::S=>match Nat.beq k i with
  | true=>OLe o x∧FW W S
  | false=>FW ((k,o)::W) S
theorem ov_fs : ∀ {W S:List (Nat×Obj)},FW W S→FSl (ov W S) S
 | [],S,_=>by cases S <;> exact FSl.refl _
 | _::_,[],_=>True.intro
 | (k,o)::W,(i,x)::S,h=>by
  unfold ov
  unfold FW at h
  cases e:Nat.beq k i with
  | true=>rw [e] at h; exact ⟨rfl,h.1,ov_fs h.2⟩
  | false=>rw [e] at h; exact ⟨rfl,OLe.refl _,ov_fs h⟩
section
variable {P:Program} {C:Ctx} {nt:Nat} {L:Lay} {pins:List Nat} {E:List (Nat×AVal)} {S:List (Nat×Obj)} {Q:Exit→Act→World→Prop}
theorem AW.GW (Fm:Fr P L C pins) {id:Nat} {ops:Array Oper} {draw:Bool} (ds:List Dir) (c:(Nat→Prop)→Prop) (E' : List (Nat×AVal)) (S' : List (Nat×Obj)) (hc:c (KAt P C nt L ops ds (lk E) (ls S))) (W:List (Nat×Obj)) (hW:FW W S') (k:Kn C nt E' S' (Q .normal))
  (h:ckL P C nt L pins E S ops draw ds E' (ov W S')=ckR (c (KAt P C nt L ops ds (lk E) (ls S))) E' (ov W S'):=by kernel_rfl):AW P C nt (.region id ops draw) E S Q:=
 AW.g Fm ds c E' (ov W S') hc h (Kn.wk E' S' (FE.refl _) (ov_fs hW) k)
theorem AW.SW (Fm:Fr P L C pins) {id:Nat} {ops:Array Oper} {draw:Bool} {y:Code} (ds:List Dir) (c:(Nat→Prop)→Prop) (E' : List (Nat×AVal)) (S' : List (Nat×Obj)) (hc:c (KAt P C nt L ops ds (lk E) (ls S))) (W:List (Nat×Obj)) (hW:FW W S') (k:AW P C nt y E' S' Q)
  (h:ckL P C nt L pins E S ops draw ds E' (ov W S')=ckR (c (KAt P C nt L ops ds (lk E) (ls S))) E' (ov W S'):=by kernel_rfl):AW P C nt (.seq (.region id ops draw) y) E S Q:=
 AW.sg Fm ds c E' (ov W S') hc h (Kn.wk E' S' (FE.refl _) (ov_fs hW) k)
theorem AW.pN (Fm:Fr P L C pins) {id:Nat} {ops:Array Oper} {draw:Bool} (ds:List Dir) (E' : List (Nat×AVal)) (S' : List (Nat×Obj)) {q:Prop} (hc:q) (k:Kn C nt E' S' (Q .normal)) (h:ckL P C nt L pins E S ops draw ds E' S' = ckR q E' S' := by kernel_rfl):AW P C nt (.region id ops draw) E S Q:=AW.g Fm ds (fun _=>q) E' S' hc h k
theorem AW.SP (Fm:Fr P L C pins) {id:Nat} {ops:Array Oper} {draw:Bool} {y:Code} (ds:List Dir) (E' : List (Nat×AVal)) (S' : List (Nat×Obj)) {q:Prop} (hc:q) (k:AW P C nt y E' S' Q) (h:ckL P C nt L pins E S ops draw ds E' S' = ckR q E' S' := by kernel_rfl):AW P C nt (.seq (.region id ops draw) y) E S Q:=AW.sg Fm ds (fun _=>q) E' S' hc h k
theorem AW.WP (Fm:Fr P L C pins) {id:Nat} {ops:Array Oper} {draw:Bool} (ds:List Dir) (E' : List (Nat×AVal)) (S' : List (Nat×Obj)) {q:Prop} (hc:q) (W:List (Nat×Obj)) (hW:FW W S') (k:Kn C nt E' S' (Q .normal)) (h:ckL P C nt L pins E S ops draw ds E' (ov W S')=ckR q E' (ov W S'):=by kernel_rfl):AW P C nt (.region id ops draw) E S Q:=AW.GW Fm ds (fun _=>q) E' S' hc W hW k h
theorem AW.SV (Fm:Fr P L C pins) {id:Nat} {ops:Array Oper} {draw:Bool} {y:Code} (ds:List Dir) (E' : List (Nat×AVal)) (S' : List (Nat×Obj)) {q:Prop} (hc:q) (W:List (Nat×Obj)) (hW:FW W S') (k:AW P C nt y E' S' Q) (h:ckL P C nt L pins E S ops draw ds E' (ov W S')=ckR q E' (ov W S'):=by kernel_rfl):AW P C nt (.seq (.region id ops draw) y) E S Q:=AW.SW Fm ds (fun _=>q) E' S' hc W hW k h
theorem cT {p:Prop} (h:p):p∧True:=⟨h,True.intro⟩
theorem cA {p q:Prop} (h:p) (k:q):p∧q:=⟨h,k⟩
@[reducible] def lI {α:Type} (l:List α):Int:=((l.length:Nat):Int)
theorem AW.cN {t:Nat} {x y:Code} {b:Bool} {R:Type} {u v:Option R} {r:R} (h:br b u v=some r) (ht:b=true→u=some r→AW P C nt x E S Q) (hf:b=false→v=some r→AW P C nt y E S Q) (hb:lk E t=vb b:=by kernel_rfl):AW P C nt (.cond (.tmp t) x y) E S Q:=
 AW.cond hb (fun q=>ht q (br_t h q)) (fun q=>hf q (br_f h q))
theorem br_or {b:Bool} {R:Type} {u v:Option R} {r:R} (h:br b u v=some r):(b=true∧u=some r)∨(b=false∧v=some r):=by
 cases b
 ·exact .inr ⟨rfl,h⟩
 ·exact .inl ⟨rfl,h⟩
theorem gS {R:Type} {p:Prop} [Decidable p] {x:Option R} {r:R} (h:gd p x=some r):p∧x=some r:=gd_some h
theorem bS {α R:Type} {x:Option α} {f:α→Option R} {r:R} (h:x.bind f=some r) : ∃ z,x=some z∧f z=some r:=bd_some h
theorem FI {f:Nat} {fn:Func} {c:Code} (hf:P.funcs[f]? = some fn) (hm:P.follows .mixedOrders=true) (hL:LOk P L) {args:List AVal} {S:List (Nat×Obj)} {r:AVal} {S' : List (Nat×Obj)}
  (h : ∀ C,Fr P L C (S.map (·.1))→AW P C fn.ntmps c (argsE args) S (retQ P fn C r S')) (hb:fn.body=some c:=by rfl) (hn0:Nat.ble args.length fn.ntmps=true:=by kernel_rfl):FSpec P f args S r S' := FSpec.intro hm hL hf hb hn0 h
end
end Go.Ab
end

section
namespace Go.Ab
section
variable {P:Program} {C:Ctx} {nt:Nat} {L:Lay} {ops:Array Oper} {ds:List Dir} {e:Env} {s:Sto} {k:Nat}
end
end Go.Ab
end

section
namespace Go.Ab
open Go.MapKept
section
variable {P:Program} {C:Ctx} {nt:Nat} {L:Lay} {R:Nat→Prop} {η:Nat→Value} {e:Env} {s:Sto} {a:Act} {w:World}
variable {ops:Array Oper} {ds:List Dir} {k:Nat}
end
section
variable {P:Program} {C:Ctx} {nt:Nat} {L:Lay} {pins:List Nat} {E:List (Nat×AVal)} {S:List (Nat×Obj)} {Q:Exit→Act→World→Prop}
end
end Go.Ab
end

section
namespace Go.Ab
open Go.MapKept
section
variable {P:Program} {C:Ctx} {nt:Nat} {L:Lay} {ops:Array Oper} {ds:List Dir} {e:Env} {s:Sto} {k:Nat}
end
section
variable {P:Program} {C:Ctx} {nt:Nat} {K:Act→World→Prop}
end
end Go.Ab
end

section
namespace Go.Ab
section
variable {P:Program} {C:Ctx} {nt:Nat} {L:Lay} {ops:Array Oper} {ds:List Dir} {e:Env} {s:Sto} {k:Nat}
end
end Go.Ab
end

section
namespace Go.Ab
section
variable {P:Program} {C:Ctx} {nt:Nat} {L:Lay} {ops:Array Oper} {ds:List Dir} {e:Env} {s:Sto}
end
end Go.Ab
end

section
namespace Go.Ab
section
variable {P:Program} {C:Ctx} {nt:Nat} {L:Lay} {ops:Array Oper} {ds:List Dir} {e:Env} {s:Sto}
end
end Go.Ab
end

section
namespace Go.Ab
def eK (ks:List Nat) (E:List (Nat×AVal)) (n:List (Nat×AVal)):List (Nat×AVal):=ks.map (fun t=>(t,lk E t))++n
def sK (ks:List Nat) (S:List (Nat×Obj)) (n:List (Nat×Obj)):List (Nat×Obj):=ks.map (fun i=>(i,(ls S i).getD (.box false [])))++n
section
variable {P:Program} {C:Ctx} {nt:Nat} {L:Lay} {pins:List Nat} {E:List (Nat×AVal)} {S:List (Nat×Obj)} {Q:Exit→Act→World→Prop}
variable {id:Nat} {ops:Array Oper} {draw:Bool} {y:Code}
theorem AW.dG (Fm:Fr P L C pins) (ds:List Dir) (c:(Nat→Prop)→Prop) (kE:List Nat) (nE:List (Nat×AVal)) (kS:List Nat) (nS:List (Nat×Obj)) (hc:c (KAt P C nt L ops ds (lk E) (ls S))) (k:Kn C nt (eK kE E nE) (sK kS S nS) (Q .normal))
  (h:ckL P C nt L pins E S ops draw ds (eK kE E nE) (sK kS S nS)=ckR (c (KAt P C nt L ops ds (lk E) (ls S))) (eK kE E nE) (sK kS S nS):=by kernel_rfl):AW P C nt (.region id ops draw) E S Q:=AW.g Fm ds c _ _ hc h k
theorem AW.dSG (Fm:Fr P L C pins) (ds:List Dir) (c:(Nat→Prop)→Prop) (kE:List Nat) (nE:List (Nat×AVal)) (kS:List Nat) (nS:List (Nat×Obj)) (hc:c (KAt P C nt L ops ds (lk E) (ls S))) (k:AW P C nt y (eK kE E nE) (sK kS S nS) Q)
  (h:ckL P C nt L pins E S ops draw ds (eK kE E nE) (sK kS S nS)=ckR (c (KAt P C nt L ops ds (lk E) (ls S))) (eK kE E nE) (sK kS S nS):=by kernel_rfl):AW P C nt (.seq (.region id ops draw) y) E S Q:=AW.sg Fm ds c _ _ hc h k
theorem AW.dG0 (Fm:Fr P L C pins) (n:Nat) (kE:List Nat) (nE:List (Nat×AVal)) (kS:List Nat) (nS:List (Nat×Obj)) (k:Kn C nt (eK kE E nE) (sK kS S nS) (Q .normal))
  (h:ckL P C nt L pins E S ops draw (ss n) (eK kE E nE) (sK kS S nS)=ckR True (eK kE E nE) (sK kS S nS):=by kernel_rfl):AW P C nt (.region id ops draw) E S Q:=AW.g0 Fm n _ _ h k
theorem AW.dSG0 (Fm:Fr P L C pins) (n:Nat) (kE:List Nat) (nE:List (Nat×AVal)) (kS:List Nat) (nS:List (Nat×Obj)) (k:AW P C nt y (eK kE E nE) (sK kS S nS) Q)
  (h:ckL P C nt L pins E S ops draw (ss n) (eK kE E nE) (sK kS S nS)=ckR True (eK kE E nE) (sK kS S nS):=by kernel_rfl):AW P C nt (.seq (.region id ops draw) y) E S Q:=AW.sg0 Fm n _ _ h k
theorem AW.dGW (Fm:Fr P L C pins) (ds:List Dir) (c:(Nat→Prop)→Prop) (kE:List Nat) (nE:List (Nat×AVal)) (kS:List Nat) (nS:List (Nat×Obj)) (hc:c (KAt P C nt L ops ds (lk E) (ls S))) (W:List (Nat×Obj)) (hW:FW W (sK kS S nS)) (k:Kn C nt (eK kE E nE) (sK kS S nS) (Q .normal))
  (h:ckL P C nt L pins E S ops draw ds (eK kE E nE) (ov W (sK kS S nS))=ckR (c (KAt P C nt L ops ds (lk E) (ls S))) (eK kE E nE) (ov W (sK kS S nS)):=by kernel_rfl):AW P C nt (.region id ops draw) E S Q:=AW.GW Fm ds c _ _ hc W hW k h
theorem AW.dSW (Fm:Fr P L C pins) (ds:List Dir) (c:(Nat→Prop)→Prop) (kE:List Nat) (nE:List (Nat×AVal)) (kS:List Nat) (nS:List (Nat×Obj)) (hc:c (KAt P C nt L ops ds (lk E) (ls S))) (W:List (Nat×Obj)) (hW:FW W (sK kS S nS)) (k:AW P C nt y (eK kE E nE) (sK kS S nS) Q)
  (h:ckL P C nt L pins E S ops draw ds (eK kE E nE) (ov W (sK kS S nS))=ckR (c (KAt P C nt L ops ds (lk E) (ls S))) (eK kE E nE) (ov W (sK kS S nS)):=by kernel_rfl):AW P C nt (.seq (.region id ops draw) y) E S Q:=AW.SW Fm ds c _ _ hc W hW k h
theorem AW.dpN (Fm:Fr P L C pins) (ds:List Dir) (kE:List Nat) (nE:List (Nat×AVal)) (kS:List Nat) (nS:List (Nat×Obj)) {q:Prop} (hc:q) (k:Kn C nt (eK kE E nE) (sK kS S nS) (Q .normal))
  (h:ckL P C nt L pins E S ops draw ds (eK kE E nE) (sK kS S nS)=ckR q (eK kE E nE) (sK kS S nS):=by kernel_rfl):AW P C nt (.region id ops draw) E S Q:=AW.pN Fm ds _ _ hc k h
theorem AW.dSP (Fm:Fr P L C pins) (ds:List Dir) (kE:List Nat) (nE:List (Nat×AVal)) (kS:List Nat) (nS:List (Nat×Obj)) {q:Prop} (hc:q) (k:AW P C nt y (eK kE E nE) (sK kS S nS) Q)
  (h:ckL P C nt L pins E S ops draw ds (eK kE E nE) (sK kS S nS)=ckR q (eK kE E nE) (sK kS S nS):=by kernel_rfl):AW P C nt (.seq (.region id ops draw) y) E S Q:=AW.SP Fm ds _ _ hc k h
theorem AW.dWP (Fm:Fr P L C pins) (ds:List Dir) (kE:List Nat) (nE:List (Nat×AVal)) (kS:List Nat) (nS:List (Nat×Obj)) {q:Prop} (hc:q) (W:List (Nat×Obj)) (hW:FW W (sK kS S nS)) (k:Kn C nt (eK kE E nE) (sK kS S nS) (Q .normal))
  (h:ckL P C nt L pins E S ops draw ds (eK kE E nE) (ov W (sK kS S nS))=ckR q (eK kE E nE) (ov W (sK kS S nS)):=by kernel_rfl):AW P C nt (.region id ops draw) E S Q:=AW.WP Fm ds _ _ hc W hW k h
theorem AW.dSV (Fm:Fr P L C pins) (ds:List Dir) (kE:List Nat) (nE:List (Nat×AVal)) (kS:List Nat) (nS:List (Nat×Obj)) {q:Prop} (hc:q) (W:List (Nat×Obj)) (hW:FW W (sK kS S nS)) (k:AW P C nt y (eK kE E nE) (sK kS S nS) Q)
  (h:ckL P C nt L pins E S ops draw ds (eK kE E nE) (ov W (sK kS S nS))=ckR q (eK kE E nE) (ov W (sK kS S nS)):=by kernel_rfl):AW P C nt (.seq (.region id ops draw) y) E S Q:=AW.SV Fm ds _ _ hc W hW k h
end
section
variable {α:Type} [Emb α]
def rSt (l:List α) (i off:Nat) (ds:List DVal):Obj:=.arr (Emb.es α) l.length fun j=>if j=i then splice (LF l i) off ds else LF l j
def rAp (l m:List α):Obj:=.arr (Emb.es α) (l.length+m.length) (appF l.length (LF l) (LF m))
def rA0 (m:List α):Obj:=.arr (Emb.es α) (0+m.length) (appF 0 (fun _=>[]) (LF m))
theorem oSt {l:List α} {i off:Nat} {ds:List DVal} {y:α} (hi:i<l.length) (hy:splice (LF l i) off ds=Emb.cells y:=by kernel_rfl):OLe (rSt l i off ds) (AO (l.set i y)):=OLe.is (Is.set (Is.refl l) hi y hy)
theorem oAp {l m:List α}:OLe (rAp l m) (AO (l++m)):=OLe.is (Is.app (Is.refl l) (Is.refl m))
theorem oA0 {m:List α}:OLe (rA0 m) (AO ([]++m)):=OLe.is (Is.app Is.nil (Is.refl m))
theorem lfl (l:List α) : ∀ j,j<l.length→(LF l j).length=Emb.es α:=(Is.refl l).len
theorem lit1 (x:α):ALe (.v (.c (.d (.lst 1 (litF (Emb.es α) (Emb.cells x)))))) (AL [x]):=ALe.lst (.lit [x] (by
 show [litF (Emb.es α) (Emb.cells x) 0]=[Emb.cells x]
 unfold litF
 have:=Emb.len x
 rw [Nat.zero_mul,List.drop_zero,List.take_of_length_le (by omega)]))
end
end Go.Ab
end

section
namespace Go.Ab
section
variable {P:Program} {C:Ctx} {nt:Nat} {L:Lay} {ops:Array Oper} {ds:List Dir} {e:Env} {s:Sto}
end
section
variable {P:Program} {C:Ctx} {nt:Nat} {E:List (Nat×AVal)} {S:List (Nat×Obj)} {Q:Exit→Act→World→Prop}
end
end Go.Ab
end

section
namespace Go.Ab
@[reducible] def gn {α:Type} [Emb α] (l:List α) (i:Int):α:=gl l i.toNat
@[reducible] def jb (t:Nat) (z:Bool):List (Nat×AVal):=[(t,vb z)]
@[reducible] def nn {σ β:Type}:σ→List β:=fun _=>[]
@[reducible] def f0:CV:=.fl 0 fun _=>[]
def oD (a b:Nat) (e:Array Oper→Oper→Env→Eff):List Dir:=List.replicate a .s++.k e::List.replicate b .s
@[reducible] def k1 (i:Nat) (K:Nat→Prop):Prop:=K i∧True
@[reducible] def k2 (i j:Nat) (K:Nat→Prop):Prop:=K i∧K j∧True
theorem gO {p q:Prop} [Decidable p] {R:Type} {x:Option R} {r:R} (h:gd p x=some r) (k:p→x=some r→q):q:=k (gS h).1 (gS h).2
theorem bO {α R:Type} {x:Option α} {f:α→Option R} {r:R} {q:Prop} (h:x.bind f=some r) (k : ∀ z,x=some z→f z=some r→q):q:=(bS h).elim fun z e=>k z e.1 e.2
theorem brO {b:Bool} {R:Type} {u v:Option R} {r:R} {q:Prop} (h:br b u v=some r) (ht:b=true→u=some r→q) (hf:b=false→v=some r→q):q:=(br_or h).elim (fun e=>ht e.1 e.2) fun e=>hf e.1 e.2
section
variable {P:Program} {C:Ctx} {nt:Nat} {L:Lay} {pins:List Nat} {E:List (Nat×AVal)} {S:List (Nat×Obj)} {Q:Exit→Act→World→Prop}
theorem AW.q (Fm:Fr P L C pins) {fn:Func} {R:Type} {a r:R} (h:some a=some r) {g:R→AVal} {G:R→List (Nat×Obj)} (hQ:Q .ret=retQ P fn C (g r) (G r) .ret:=by rfl) (hq:(resA L (lk E) (ls S) fn.results.toList,(G a).map (fun p=>ls S p.1))=(some (g a),(G a).map (fun p=>some p.2)):=by kernel_rfl):AW P C nt .ret E S Q:=by
 cases h
 exact AW.ret (hQ ▸ Kn.dn Fm hq)
theorem AW.lG {σ R:Type} {r:R} {c:Code} {body:(σ→Option R)→σ→Option R} {n:Nat} {z0:σ} (h:loopN body n z0=some r) (E' : σ→List (Nat×AVal)) (S' : σ→List (Nat×Obj))
  (round : ∀ (again:σ→Option R) (z:σ) (J:Act→World→Prop),(∀ z',again z' = some r→Kn C nt (E' z') (S' z') J)→body again z=some r→AW P C nt c (E' z) (S' z) (Exit.then J Q)):AW P C nt (.loop c) (E' z0) (S' z0) Q:=AW.loopF E' S' round h
theorem AW.dK {σ R:Type} (r:R) {x y:Code} (f:σ→Option R) (kE:List Nat) (nE:σ→List (Nat×AVal)) (kS:List Nat) (nS:σ→List (Nat×Obj)) (hy : ∀ z,f z=some r→AW P C nt y (eK kE E (nE z)) (sK kS S (nS z)) Q)
  (hx : ∀ J:Act→World→Prop,(∀ z,f z=some r→Kn C nt (eK kE E (nE z)) (sK kS S (nS z)) J)→AW P C nt x E S (Exit.then J Q)):AW P C nt (.seq x y) E S Q:=AW.join f _ _ hy hx
variable {K:Act→World→Prop}
theorem Kn.w (Fm:Fr P L C pins) (E' : List (Nat×AVal)) (S' : List (Nat×Obj)) (h:Kn C nt E' S' K)
  (hq:(pins.all (fun i=>rhoL [] i==i),E'.map (fun p=>lk E p.1),S'.map (fun p=>ls S (rhoL [] p.1)),nodupB (S'.map fun p=>rhoL [] p.1))=(true,E'.map (fun p=>p.2.ren (rhoL [])),S'.map (fun p=>some (p.2.ren (rhoL []))),true):=by kernel_rfl):Kn C nt E S K:=Kn.r Fm E' S' hq h
theorem Kn.fz {k es n:Nat} {f:Nat→List DVal} (E' : List (Nat×AVal)) (S' : List (Nat×Obj)) (h:Kn C nt E' S' K)
  (hq:(E.map (fun p=>(p.1,p.2.frz k n f)),S.map (fun p=>(p.1,p.2.frz k n f)),(S.map (·.1)).contains k)=(E',S',false):=by kernel_rfl):Kn C nt E ((k,.arr es n f)::S) K:=Kn.frz E' S' (congrArg (·.1) hq) (congrArg (·.2.1) hq) (congrArg (·.2.2) hq) h
theorem Kn.rx (Fm:Fr P L C pins) (ρ:List (Nat×Nat)) (E' : List (Nat×AVal)) (S' : List (Nat×Obj)) (h:Kn C nt E' S' K)
  (hq:(pins.all (fun i=>rhoL ρ i==i),E'.map (fun p=>lk E p.1),S'.map (fun p=>ls S (rhoL ρ p.1)),nodupB (S'.map fun p=>rhoL ρ p.1))=(true,E'.map (fun p=>p.2.ren (rhoL ρ)),S'.map (fun p=>some (p.2.ren (rhoL ρ))),true):=by kernel_rfl):Kn C nt E S K:=
 Kn.re Fm ρ E' S' (congrArg (·.1) hq) (congrArg (·.2.1) hq) (congrArg (·.2.2.1) hq) (congrArg (·.2.2.2) hq) h
abbrev rnL (pins:List Nat) (E:List (Nat×AVal)) (S:List (Nat×Obj)) (E' : List (Nat×AVal)) (S' : List (Nat×Obj)):Bool×List AVal×List (Option Obj)×Bool:=(pins.all (fun i=>rhoL [] i==i),E'.map (fun p=>lk E p.1),S'.map (fun p=>ls S (rhoL [] p.1)),nodupB (S'.map fun p=>rhoL [] p.1))
abbrev rnR (E' : List (Nat×AVal)) (S' : List (Nat×Obj)):Bool×List AVal×List (Option Obj)×Bool:=(true,E'.map (fun p=>p.2.ren (rhoL [])),S'.map (fun p=>some (p.2.ren (rhoL []))),true)
theorem AW.lH (Fm:Fr P L C pins) {σ R:Type} {r:R} {c:Code} {body:(σ→Option R)→σ→Option R} {n:Nat} {z0:σ} (h:loopN body n z0=some r) (E' : σ→List (Nat×AVal)) (S' : σ→List (Nat×Obj))
  (round : ∀ (again:σ→Option R) (z:σ) (J:Act→World→Prop),(∀ z',again z' = some r→Kn C nt (E' z') (S' z') J)→body again z=some r→AW P C nt c (E' z) (S' z) (Exit.then J Q)) (hq:rnL pins E S (E' z0) (S' z0)=rnR (E' z0) (S' z0):=by kernel_rfl):AW P C nt (.loop c) E S Q:=Kn.r Fm (E' z0) (S' z0) hq (AW.lG h E' S' round)
section
variable {id:Nat} {ops:Array Oper} {draw:Bool} {y:Code}
theorem AW.dz (Fm:Fr P L C pins) (n:Nat) (kE:List Nat) (nE:List (Nat×AVal)) (k:AW P C nt y (eK kE E nE) (sK [] S []) Q) (h:ckL P C nt L pins E S ops draw (ss n) (eK kE E nE) (sK [] S [])=ckR True (eK kE E nE) (sK [] S []):=by kernel_rfl):AW P C nt (.seq (.region id ops draw) y) E S Q:=AW.dSG0 Fm n kE nE [] [] k h
theorem AW.z (Fm:Fr P L C pins) (n:Nat) (nE:List (Nat×AVal)) {fn:Func} {R:Type} {a r:R} (h:some a=some r) {g:R→AVal} {G:R→List (Nat×Obj)} (hQ:Q .ret=retQ P fn C (g r) (G r) .ret:=by rfl)
  (h1:ckL P C nt L pins E S ops draw (ss n) (eK [] E nE) (sK [] S [])=ckR True (eK [] E nE) (sK [] S []):=by kernel_rfl) (hq:(resA L (lk (eK [] E nE)) (ls (sK [] S [])) fn.results.toList,(G a).map (fun p=>ls (sK [] S []) p.1))=(some (g a),(G a).map (fun p=>some p.2)):=by kernel_rfl):AW P C nt (.seq (.region id ops draw) .ret) E S Q:=AW.dSG0 Fm n [] nE [] [] (AW.q Fm h hQ hq) h1
theorem AW.c1 (Fm:Fr P L C pins) (a b:Nat) (kE:List Nat) (nE:List (Nat×AVal)) (kS:List Nat) (nS:List (Nat×Obj)) {f:Nat} {args:List AVal} {Si:List (Nat×Obj)} {r:AVal} {So:List (Nat×Obj)} (hs:FSpec P f args Si r So) (hc : ∀ args w,(callFunc f args).run P w=.ok (.enter f args) w) (m:List (Nat×Nat)) (k:Kn C nt (eK kE E nE) (sK kS S nS) (Q .normal))
  (hk:dirAt (oD a b (cE m [] r Si So)) a=cE m [] r Si So:=by rfl) (hq:(Go.Ab.callB ops nt (arunE L ops ops.toList (oD a b (cE m [] r Si So)) (lk E) (ls S) a) (opAt ops.toList a) f m r Si So,Si.map (fun p=>arunS L ops ops.toList (oD a b (cE m [] r Si So)) (lk E) (ls S) a (rhoL m p.1)),
   (Go.Ab.callXs (opAt ops.toList a)).toList.all (rdOk (tmpsOf (opAt ops.toList a)++guardTmp ops (opAt ops.toList a)))&&args.all AVal.noSem,(Go.Ab.callXs (opAt ops.toList a)).toList.map (aev (arunE L ops ops.toList (oD a b (cE m [] r Si So)) (lk E) (ls S) a)))=(true,Si.map (fun p=>some (p.2.ren (rhoL m))),true,args.map (AVal.ren (rhoL m))):=by kernel_rfl)
  (h:ckL P C nt L pins E S ops draw (oD a b (cE m [] r Si So)) (eK kE E nE) (sK kS S nS)=ckR (KAt P C nt L ops (oD a b (cE m [] r Si So)) (lk E) (ls S) a∧True) (eK kE E nE) (sK kS S nS):=by kernel_rfl):AW P C nt (.region id ops draw) E S Q:=AW.dG Fm _ (k1 a) kE nE kS nS ⟨KAt.CC hs hc m hk hq,True.intro⟩ k h
variable {E2:List (Nat×AVal)} {S2:List (Nat×Obj)}
theorem AW.pR (Fm:Fr P L C pins) (ds:List Dir) (kE:List Nat) (nE:List (Nat×AVal)) (kS:List Nat) {q:Prop} (hc:q) (k:Kn C nt E2 S2 (Q .normal)) (h:ckL P C nt L pins E S ops draw ds (eK kE E nE) (sK kS S [])=ckR q (eK kE E nE) (sK kS S []):=by kernel_rfl)
  (hq:rnL pins (eK kE E nE) (sK kS S []) E2 S2=rnR E2 S2:=by kernel_rfl):AW P C nt (.region id ops draw) E S Q:=AW.dpN Fm ds kE nE kS [] hc (Kn.R Fm k hq) h
theorem AW.bl (Fm:Fr P L C pins) (ds:List Dir) (kE:List Nat) (t:Nat) (v:Bool) (kS:List Nat) {b c:Bool} (e:b=c) (k:Kn C nt E2 S2 (Q .normal)) (h:ckL P C nt L pins E S ops draw ds (eK kE E [(t,vb v)]) (sK kS S [])=ckR (ALe (vb b) (vb c)∧True) (eK kE E [(t,vb v)]) (sK kS S []):=by kernel_rfl)
  (hq:rnL pins (eK kE E [(t,vb v)]) (sK kS S []) E2 S2=rnR E2 S2:=by kernel_rfl):AW P C nt (.region id ops draw) E S Q:=AW.pR Fm ds kE [(t,vb v)] kS (Go.Ab.cT (ALe.bool e)) k h hq
theorem AW.nx (Fm:Fr P L C pins) {e:Int} {R:Type} {x:Option R} {r:R} (g:gd (I64 (e+1)) x=some r) (kE:List Nat) (t:Nat) (kS:List Nat) (k:x=some r→Kn C nt E2 S2 (Q .normal)) (h:ckL P C nt L pins E S ops draw [.s,.s] (eK kE E [(t,vi (e+1))]) (sK kS S [])=ckR ((I64 (e+1)∧True)∧True) (eK kE E [(t,vi (e+1))]) (sK kS S []):=by kernel_rfl)
  (hq:rnL pins (eK kE E [(t,vi (e+1))]) (sK kS S []) E2 S2=rnR E2 S2:=by kernel_rfl):AW P C nt (.region id ops draw) E S Q:=AW.pR Fm [.s,.s] kE [(t,vi (e+1))] kS (Go.Ab.cT (Go.Ab.cT (gS g).1)) (k (gS g).2) h hq
end
end
section
variable {P:Program} {C:Ctx} {nt:Nat} {L:Lay} {ops:Array Oper} {ds:List Dir} {e:Env} {s:Sto}
theorem KAt.cX {k:Nat} {f:Nat} {args:List AVal} {Si:List (Nat×Obj)} {r:AVal} {So:List (Nat×Obj)} (hspec:FSpec P f args Si r So) (hcall : ∀ args w,(callFunc f args).run P w=.ok (.enter f args) w) (m:List (Nat×Nat)) (extra:List Nat) (xs:List Operand)
  (hargs:ArgsT C nt (arunE L ops ops.toList ds e s k) (arunS L ops ops.toList ds e s k) Si (rhoL m) (tmpsOf (opAt ops.toList k)++guardTmp ops (opAt ops.toList k)) (idsOf (arunE L ops ops.toList ds e s k) (opAt ops.toList k)++(Si.map (fun p=>rhoL m p.1)++extra)) xs args)
  (hk:dirAt ds k=cE m extra r Si So:=by rfl) (hq:(Go.Ab.callB ops nt (arunE L ops ops.toList ds e s k) (opAt ops.toList k) f m r Si So,Si.map (fun p=>arunS L ops ops.toList ds e s k (rhoL m p.1)),(Go.Ab.callXs (opAt ops.toList k)).toList)=(true,Si.map (fun p=>some (p.2.ren (rhoL m))),xs):=by kernel_rfl):KAt P C nt L ops ds e s k:=
 KAt.callX hspec hcall m extra xs hk (congrArg (·.1) hq) (congrArg (·.2.1) hq) (congrArg (·.2.2) hq) hargs
theorem ArgT.cX {f:Nat} (hcall : ∀ args w,(callFunc f args).run P w=.ok (.enter f args) w) {F:List AVal→AVal→Prop} (cs:List (List CV)) (hspec : ∀ args r,F args r→FSpec P f (args++capA cs) (capS cs) r (capS cs)∧r.closed=true)
  {Si:List (Nat×Obj)} {m:Nat→Nat} {rd ids:List Nat} {x:Operand} (cids:List Nat) (hbox:boxB s cids cs)
  (hx:rdOk rd x=true:=by kernel_rfl) (hv:aev e x=.v (.c (.clo f cids)):=by kernel_rfl) (hnd:(nodupB cids&&cs.all (fun c=>c.all CV.closed)&&cids.all (fun i=>ids.contains i))=true:=by kernel_rfl)
  (hsi:siB s Si m ids cids=true:=by kernel_rfl):ArgT C nt e s Si m rd ids x (vclo P F):=ArgT.cloX hcall cs (fun a r h=>(hspec a r h).1) (fun a r h=>(hspec a r h).2) hx cids hv hnd hbox hsi
end
end Go.Ab
end

section
namespace Go.Ab
section
variable {P:Program} {C:Ctx} {nt:Nat} {L:Lay} {R:Nat→Prop} {η:Nat→Value} {e:Env} {s:Sto} {a:Act} {w:World}
variable {ops:Array Oper} {ds:List Dir} {k:Nat}
end
end Go.Ab
end

section
namespace Go.Ab
open Go.Sort Go.Proofs Go.Shelf
end Go.Ab
end

section
namespace Go.Ab
def insP {α:Type} (F:Nat) (l:List α) (i:Int) (m:List α):Option (List α):=
 gd (0≤i∧i≤((l.length:Nat):Int)) <| gd (m.length=1) <| gd (l.length+1≤LIM) <| some (l.take i.toNat++m++l.drop i.toNat)
end Go.Ab
end
