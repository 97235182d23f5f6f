/- Abstract states over the model: every lemma holds of any program of the form that it names. -/
import Derived.Test.YtdfbifjpedjljaaAbB
import Derived.Test.YtdfbifjpedjljaaPuA
import Derived.Sort.AssemblyPlain
import Derived.Lib.BitFns
import Derived.Shelf.SortM.Plain
import Derived.Shelf.SortM.SortNone
import Derived.Shelf.SlSortCmp.WholeK
import Derived.Shelf.SlSortCmp.NoneTotal
import Derived.WalkKit
import Derived.ProofKit
import Derived.OpenShut
import Derived.Carry
import Derived.ChangeSame
import Derived.ChangeSlices
import Derived.Laws.Small
import Derived.Laws.Entries
import Derived.Shelf.Spec.SlicesGrow
import Derived.Deep.Slices
import Derived.ChangeArms
import Derived.Maps.Own
import Derived.Lib.SlKeysI
import Derived.Shelf.SlIterI.Nil
import Derived.Maps.RangeRun
import Derived.Laws.IdiomRangeMap
import Derived.ChangeKeysEq
set_option linter.unusedVariables false
set_option linter.unusedSimpArgs false
section
namespace Go.Ab
section
variable {α:Type} [Emb α]
def clr (l:List α) (lo n:Nat):List α:=(List.range l.length).map fun i=>if lo≤i∧i<lo+n then Emb.d else gl l i
def mvl (l:List α) (m lo k:Nat):List α:=(List.range l.length).map fun i=>if m≤i∧i<m+k then gl l (lo+(i-m)) else gl l i
theorem Is.of_gl {f:Nat→List DVal} {N:Nat} (l:List α) (h:l.length=N) (hf : ∀ i,i<N→f i=Emb.cells (gl l i)):Is N f l:=by
 subst h
 refine ⟨rfl,fun i hi=>?_⟩
 rw [hf i hi]; rfl
theorem gl_map_range (N:Nat) (f:Nat→α) (i:Nat) (h:i<N):gl ((List.range N).map f) i=f i:=by simp [gl,List.getD_eq_getElem?_getD,h]
theorem Is.clr {l:List α} (lo n:Nat) {zd:List DVal} (hz:zd=Emb.cells (Emb.d:α)):Is l.length (fun i=>if lo≤i∧i<lo+n then (fun _=>zd) (i-lo) else LF l i) (clr l lo n):=by
 refine Is.of_gl _ (by simp [Go.Ab.clr]) fun i hi=>?_
 rw [Go.Ab.clr,gl_map_range _ _ _ hi]
 by_cases h:lo≤i∧i<lo+n
 ·rw [if_pos h,if_pos h,hz]
 ·rw [if_neg h,if_neg h]; rfl
theorem Is.mvl {l:List α} {m lo k:Nat} (h:lo+k≤l.length):Is l.length (fun i=>if m≤i∧i<m+k then (fun j=>LF l (lo+j)) (i-m) else LF l i) (mvl l m lo k):=by
 refine Is.of_gl _ (by simp [Go.Ab.mvl]) fun i hi=>?_
 rw [Go.Ab.mvl,gl_map_range _ _ _ hi]
 by_cases h:m≤i∧i<m+k
 ·rw [if_pos h,if_pos h]; rfl
 ·rw [if_neg h,if_neg h]; rfl
theorem Is.takeN {n:Nat} {f:Nat→List DVal} {l:List α} (h:Is n f l) {k:Nat} (hk:k≤n):Is k f (l.take k):=by
 have:=h.take (k:=(k:Int)) (by omega)
 simpa using this
end
end Go.Ab
end

section
namespace Go.Ab
open Go.Sort
def sortI (l:List Int):Option (List Int):=if l.length≤LIM then some (l.mergeSort fun x y=>decide (x≤y)) else none
theorem sortI_some {l r:List Int} (h:sortI l=some r):l.length≤LIM∧r=l.mergeSort fun x y=>decide (x≤y):=by
 unfold sortI at h
 split at h
 ·cases h; exact ⟨‹_›,rfl⟩
 ·cases h
def ltC {α:Type} (cf:α→α→Int) (x y:α):Bool:=decide (cf x y<0)
section
variable {α:Type} [Emb α]
def pdqL (cf:α→α→Int) (l:List α):List α:=(@pdq α ⟨Emb.d⟩ (ltC cf) l.toArray 0 l.length (Lib.bitLen l.length) true true).toList
open Classical in
noncomputable def sortF (l:List α) (q:α→α→Option Int):Option (List α):=
 if h:l.length≤LIM∧∃ cf:α→α→Int,SWO (ltC cf)∧∀ x y,q x y=some (cf x y) then some (pdqL h.2.choose l) else none
theorem sortF_eq {l:List α} {q:α→α→Option Int} (cf:α→α→Int) (hl:l.length≤LIM) (hO:SWO (ltC cf)) (hq : ∀ x y,q x y=some (cf x y)):sortF l q=some (pdqL cf l):=by
 have h:l.length≤LIM∧∃ cf:α→α→Int,SWO (ltC cf)∧∀ x y,q x y=some (cf x y):=⟨hl,cf,hO,hq⟩
 unfold sortF
 rw [dif_pos h]
 have e:h.2.choose=cf:=by
  funext x y
  have:=(h.2.choose_spec.2 x y).symm.trans (hq x y)
  exact Option.some.inj this
 rw [e]
theorem sortF_some {l r:List α} {q:α→α→Option Int} (h:sortF l q=some r):l.length≤LIM∧∃ cf:α→α→Int,SWO (ltC cf)∧(∀ x y,q x y=some (cf x y))∧r=pdqL cf l:=by
 unfold sortF at h
 split at h
 ·rename_i hh
  cases h
  exact ⟨hh.1,hh.2.choose,hh.2.choose_spec.1,hh.2.choose_spec.2,rfl⟩
 ·cases h
end
section
variable {α:Type}
end
end Go.Ab
end

section
namespace Go.Ab
open Go.Sort Go.Proofs Go.Shelf
theorem putRow_heap {α:Type} [Inhabited α] (enc:α→Value) (w:World) (b off n:Nat) (d:Array α) (os:Array Go.Obj) {c:Array Value} {e:TypeId} {fz:Nat×Nat} (hb:w.heap[b]? = some (.cells c e fz)) :
  (grow (putRow enc (Go.Sort.ahead w n) b off d) os).heap[b]? = some (.cells (putCells enc off d c) e fz):=by
 have hlt:b<w.heap.size:=lt_of_heap hb
 unfold grow
 rw [Array.getElem?_append]
 rw [if_pos (by simpa using hlt)]
 unfold putRow mapBlock
 simp only [Array.getElem?_modify,if_true]
 show Option.map _ (w.heap[b]?)=_
 rw [hb]
 rfl
theorem putRow_stp {α:Type} [Inhabited α] (enc:α→Value) (w:World) (b off n:Nat) (d:Array α) (os:Array Go.Obj):Stp (fun x=>x=b) w (grow (putRow enc (Go.Sort.ahead w n) b off d) os):=by
 refine ⟨rfl,rfl,rfl,by simp [Go.Sort.ahead],fun x hx hn=>?_,Nat.le_add_right _ _⟩
 unfold grow
 rw [Array.getElem?_append]
 rw [if_pos (by simpa [Go.Sort.ahead] using hx)]
 unfold putRow mapBlock
 simp only [Array.getElem?_modify]
 rw [if_neg (Ne.symm hn)]
 rfl
theorem size_putCells' {α:Type} [Inhabited α] (enc:α→Value) (off:Nat) (d:Array α) (c:Array Value):(putCells enc off d c).size=c.size:=by simp [putCells]
theorem getD_putCells {α:Type} [Inhabited α] (enc:α→Value) (d:Array α) (c:Array Value) (j:Nat) (hj:j<d.size) (hs:d.size≤c.size):(putCells enc 0 d c).getD j undef=enc d[j]! := by
 have hc:j<c.size:=by omega
 simp [putCells,hc,hj]
theorem LF_int (l:List Int) (i:Nat):LF l i=[.int .i64 (l.getD i 0)]:=rfl
theorem behind_one {w w' : World} {X:Nat→Prop} {η:Nat→Value} {α:Type} [Emb α] {l r:List α} {b n cap:Nat} {c' : Array Value} {e:TypeId} (hη:η 0=.slice (some ⟨b,0,none⟩) n cap) (h0:0<cap)
  (hstp:Stp (fun x=>x=b) w w') (hh:w'.heap[b]? = some (.cells c' e (0,0))) (hs:c'.size=cap*Emb.es α) (hr:r.length=n) (hn:n≤cap) (hm:cap≤maxLen)
  (hd : ∀ i j,i<n→j<Emb.es α→DRep w' X (c'.getD (i*Emb.es α+j) undef) ((LF r i).getD j .any)) (hX : ∀ x,X x→x<w.heap.size) (hXb:X b) :
  Behind (callCtx [(0,AO l)] w X η) .any [(0,AO r)] (.tuple #[]) η w' := by
 subst hr
 have hblk : ∀ x,x ∈ blks (η 0)↔x=b:=by intro x; rw [hη]; simp [blks]; omega
 have hown : ∀ i o,ls [(0,AO (α:=α) r)] i=some o→i=0∧o=AO r:=by
  intro i o hi
  rw [ls_cons] at hi
  by_cases h:i=0
  ·rw [if_pos h] at hi; cases hi; exact ⟨h,rfl⟩
  ·rw [if_neg h] at hi; cases hi
 have hM : ∀ x,x=b→(callCtx [(0,AO (α:=α) l)] w X η).M x:=by
  rintro x rfl
  exact ⟨0,AO l,by rw [ls_cons,if_pos rfl],rfl,(hblk _).2 rfl⟩
 have hXS : ∀ x,XS (callCtx [(0,AO (α:=α) l)] w X η) (ls [(0,AO (α:=α) r)]) η x→X x:=by
  rintro x (⟨hx,_⟩|⟨i,o,hi,hib⟩)
  ·exact hx
  ·obtain ⟨rfl,_⟩:=hown i o hi
   rw [(hblk x).1 hib]; exact hXb
 refine ⟨hstp.mono fun x _ hx=>hM x hx,.any _,fun i o hi=>?_,fun i j x hi hj _ _=>?_,fun i o x hi hb=>?_,fun i v hi=>?_⟩
 ·obtain ⟨rfl,rfl⟩:=hown i o hi
  rw [hη]
  refine .arr b _ cap _ c' e _ hh hs hn hm h0 (Is.refl r).len fun i j hi hj=>?_
  exact (hd i j hi hj).mono fun x _ hx=>⟨rfl,fun hx' => hx (hXS x hx')⟩
 ·obtain ⟨oi,hi⟩:=Option.ne_none_iff_exists'.1 hi
  obtain ⟨oj,hj⟩:=Option.ne_none_iff_exists'.1 hj
  rw [(hown i oi hi).1,(hown j oj hj).1]
 ·obtain ⟨rfl,rfl⟩:=hown i o hi
  exact .inr (.inl (hM x ((hblk x).1 hb)))
 ·change (if ((List.lookup i [(0,AO (α:=α) l)]).isSome=true) then some (η i) else none)=some v at hi
  split at hi
  ·cases hi; rfl
  ·cases hi
theorem behind_none {w:World} {X:Nat→Prop} {η:Nat→Value} {α:Type} [Emb α] {l:List α} {ad:Option Addr} (hη:η 0=.slice ad 0 0) (hX : ∀ x,X x→x<w.heap.size) :
  Behind (callCtx [(0,AO l)] w X η) .any [(0,AO ([]:List α))] (.tuple #[]) η w:=by
 have hblk : ∀ x,x ∉ blks (η 0):=by intro x; rw [hη]; cases ad <;> simp [blks]
 have hown : ∀ i o,ls [(0,AO ([]:List α))] i=some o→i=0∧o=AO ([]:List α):=by
  intro i o hi
  rw [ls_cons] at hi
  by_cases h:i=0
  ·rw [if_pos h] at hi; cases hi; exact ⟨h,rfl⟩
  ·rw [if_neg h] at hi; cases hi
 refine ⟨Stp.refl _ _,.any _,fun i o hi=>?_,fun i j x hi hj _ _=>?_,fun i o x hi hb=>?_,fun i v hi=>?_⟩
 ·obtain ⟨rfl,rfl⟩:=hown i o hi
  rw [hη]; exact .nil _ _ _
 ·obtain ⟨oi,hi⟩:=Option.ne_none_iff_exists'.1 hi
  obtain ⟨oj,hj⟩:=Option.ne_none_iff_exists'.1 hj
  rw [(hown i oi hi).1,(hown j oj hj).1]
 ·obtain ⟨rfl,rfl⟩:=hown i o hi
  exact absurd hb (hblk x)
 ·change (if ((List.lookup i [(0,AO (α:=α) l)]).isSome=true) then some (η i) else none)=some v at hi
  split at hi
  ·cases hi; rfl
  ·cases hi
theorem vs_one {vs:Array Value} (h:vs.size=1):vs = #[vs.getD 0 undef]:=by
 apply Array.ext
 ·simpa using h
 ·intro i h1 h2
  have:i=0:=by omega
  subst this
  simp [h1]
theorem vs_two {vs:Array Value} (h:vs.size=2):vs = #[vs.getD 0 undef,vs.getD 1 undef]:=by
 apply Array.ext
 ·simpa using h
 ·intro i h1 h2
  have:i=0∨i=1:=by omega
  rcases this with rfl | rfl <;> simp [h1]
theorem sortI_FSpec {P:Program} {ρ:Ren} (Ly:SlLaysM.n5 P ρ) {x r:List Int} (h:sortI x=some r):FSpec P (ρ.f 5) [.v (.c (.own 0))] [(0,AO (α:=Int) x)] .any [(0,AO (α:=Int) r)]:=by
 obtain ⟨hl,rfl⟩:=sortI_some h
 intro w X η vs hX hown hobj hds hlen hargs
 have hlen:vs.size=1:=hlen
 have hv0:vs.getD 0 undef=η 0:=own_inv (C:=callCtx [(0,AO (α:=Int) x)] w X η) (s:=ls [(0,AO (α:=Int) x)]) (by have:=hargs 0 (by simp); rw [own_ext hown]; exact this)
 rw [vs_one hlen,hv0]
 have ho:=hobj 0 (AO x) (by rw [ls_cons,if_pos rfl])
 have hXb : ∀ b,b ∈ blks (η 0)→X b:=fun b hb=>hown b ⟨0,_,by rw [ls_cons,if_pos rfl],hb⟩
 generalize hu:η 0=u at ho
 unfold AO at ho
 generalize hn:x.length=n at ho
 cases ho with
 | nil ad=>
  have hx:x=[]:=List.eq_nil_of_length_eq_zero hn
  refine (AnyM.slices_Sort_int_none Ly ad 0 w).mono fun e w' hh=>?_
  obtain ⟨he,hw⟩:=hh
  refine ⟨_,η,he, ?_⟩
  rw [hw]
  have hb:=behind_none (w:=w) (X:=X) (l:=x) hu hX
  subst hx
  simpa using hb
 | arr b _ cap _ c e _ h1 h2 h3 h4 h5 h6 h7=>
  have hes:Emb.es Int=1:=rfl
  rename_i n
  have hcell : ∀ j,j<n→c.getD j undef=.int .i64 (x.getD j 0):=by
   intro j hj
   have:=h7 j 0 hj (by rw [hes]; omega)
   rw [hes,Nat.mul_one,Nat.add_zero,LF_int] at this
   have h0:DRep w X (c.getD j undef) (.int .i64 (x.getD j 0)):=this
   generalize c.getD j undef=u at h0
   cases h0; rfl
  have hsz:c.size=cap:=by rw [h2,hes,Nat.mul_one]
  have hH:Holds (Value.int .i64) w b 0 x.toArray:=by
   intro j hj
   have hj' : j<n:=by simpa [hn] using hj
   have hjx:j<x.length:=by omega
   have hjc:j<c.size:=by omega
   refine ⟨?_,by simp [World.frozen?,h1]⟩
   have:=hcell j hj'
   simp only [Nat.zero_add,World.cell?,h1,Option.isSome_none,Bool.false_eq_true,if_false]
   simp only [hjc,Array.getD,dite_true] at this
   rw [Array.getElem?_eq_getElem hjc]
   congr 1
   refine Eq.trans this ?_
   simp [hjx]
  rw [← hn]
  refine ((AnyM.slices_Sort_int Ly b 0 cap x w hH (lt_of_heap h1) (by simp only [LIM] at hl; omega)).mono fun e' w' hh=>?_)
  ·obtain ⟨rfl,q,os,hw⟩:=hh
   subst hw
   refine ⟨_,η,rfl, ?_⟩
   have hlen2:(x.mergeSort fun x y=>decide (x≤y)).length=n:=by rw [List.length_mergeSort]; exact hn
   refine behind_one (c' := putCells (Value.int .i64) 0 (x.mergeSort fun x y=>decide (x≤y)).toArray c) (e:=e) (b:=b) (n:=n) (cap:=cap) hu h5 (putRow_stp _ _ _ _ _ _ _) (putRow_heap _ _ _ _ _ _ _ h1) (by rw [size_putCells']; exact h2) hlen2 h3 h4 (fun i j hi hj=>?_) hX (hXb b (by rw [hu]; simp [blks]; omega))
   have hj0:j=0:=by rw [hes] at hj; omega
   subst hj0
   rw [hes,Nat.mul_one,Nat.add_zero,getD_putCells _ _ _ _ (by simpa [hlen2] using hi) (by simp only [List.size_toArray,hlen2]; omega),LF_int]
   have:i<(x.mergeSort fun x y=>decide (x≤y)).length:=by omega
   have e2:(x.mergeSort fun x y=>decide (x≤y)).toArray[i]! = (x.mergeSort fun x y=>decide (x≤y)).getD i 0:=by
    simp [List.getD_eq_getElem?_getD,this]
   rw [e2]
   exact .int _ _
end Go.Ab
end

section
namespace Go.Ab
open Go.Sort Go.Proofs Go.Shelf
def DVal.lit:DVal→Bool
 | .int _ _=>true
 | .bool _=>true
 | .str _=>true
 | _=>false
def DVal.val:DVal→Value
 | .int k n=>.int k n
 | .bool b=>.bool b
 | .str s=>.string s
 | _=>undef
theorem DRep.lit {w:World} {X:Nat→Prop} {v:Value} {d:DVal} (h:DRep w X v d) (hd:d.lit=true):v=d.val:=by
 cases h <;> first | rfl | cases hd
theorem DVal.rep (w:World) (X:Nat→Prop) {d:DVal} (hd:d.lit=true):DRep w X d.val d:=by
 cases d with
 | int k n=>exact .int k n
 | bool b=>exact .bool b
 | str s=>exact .str s
 | _=>cases hd
theorem DVal.val_one {d:DVal} (hd:d.lit=true):d.val.oneCell' = true:=by
 cases d <;> first | rfl | cases hd
theorem stp_grow {w w' : World} (h:Stp (fun _=>False) w w') : ∃ q os,w' = grow (w.drewN q) os:=by
 refine ⟨w'.drawn-w.drawn,w'.heap.extract w.heap.size w'.heap.size, ?_⟩
 have hh:w'.heap=w.heap++w'.heap.extract w.heap.size w'.heap.size:=by
  apply Array.ext_getElem?
  intro k
  rw [Array.getElem?_append]
  split
  ·rename_i hk; exact h.block k hk fun hf=>hf
  ·rename_i hk
   rw [Array.getElem?_extract]
   have hs:=h.size
   by_cases h2:k<w'.heap.size
   ·rw [if_pos (by omega)]; congr 1; omega
   ·rw [if_neg (by omega),Array.getElem?_eq_none (by omega)]
 have hd:=h.dr
 have e1:w' = ⟨w'.heap,w'.tape,w'.drawn,w'.os,w'.output⟩:=rfl
 rw [e1,h.tape,h.os,h.output]
 unfold grow World.drewN
 congr 1
 simp only
 omega
theorem getD_lt {β:Type} (l:List β) (j:Nat) (h:j<l.length) (d:β):l.getD j d=l[j]:=by
 rw [List.getD_eq_getElem?_getD,List.getElem?_eq_getElem h]; rfl
theorem getD_bang {β:Type} [Inhabited β] (l:List β) (j:Nat) (h:j<l.length) (d:β):l.getD j d=l[j]! := by
 rw [getD_lt l j h d,getElem!_pos l j h]
theorem getD_map_lt (l:List DVal) (j:Nat) (h:j<l.length):(l.map DVal.val).getD j undef=(l[j]).val:=by
 rw [getD_lt _ j (by simpa using h)]; simp
theorem sortF_FSpec {α:Type} [Emb α] {P:Program} {L:Lay} (hL:LOk P L) {ρ:Ren} (Ly:SlLaysF0.n6 P ρ) (hlit : ∀ x:α,(Emb.cells x).all DVal.lit=true) {te:TI} (hte:L (ρ.t 24)=some te) (hagg:te.kind.agg=true) (hsz:te.size=Emb.es α)
  (F:(α→α→Option Int)→List AVal→AVal→Prop) (hF : ∀ q x y z,q x y=some z→F q [.v (.g ((Emb.cells x).map .d)),.v (.g ((Emb.cells y).map .d))] (vi z)) {x r:List α} {q:α→α→Option Int} (h:sortF x q=some r) :
  FSpec P (ρ.f 6) [.v (.c (.own 0)),vclo P (F q)] [(0,AO (α:=α) x)] .any [(0,AO (α:=α) r)]:=by
 obtain ⟨hl,cf,hO,hq,rfl⟩:=sortF_some h
 obtain ⟨ti,td,tz,hti⟩:=hL _ _ hte
 letI inst:Inhabited α:=⟨Emb.d⟩
 let enc:α→List Value:=fun x=>(Emb.cells x).map DVal.val
 have hk : ∀ x,(enc x).length=Emb.es α:=fun x=>by simp [enc,Emb.len]
 have h1 : ∀ x,∀ v ∈ enc x,v.oneCell' = true:=by
  intro x v hv
  obtain ⟨d,hd,rfl⟩:=List.mem_map.1 hv
  exact DVal.val_one (List.all_eq_true.1 (hlit x) d hd)
 intro w X η vs hX hown hobj hds hlen hargs
 have hlen:vs.size=2:=hlen
 have hv0:vs.getD 0 undef=η 0:=own_inv (C:=callCtx [(0,AO (α:=α) x)] w X η) (s:=ls [(0,AO (α:=α) x)]) (by have:=hargs 0 (by simp); rw [own_ext hown]; exact this)
 have hv1:CloOK P (F q) w (Own (ls [(0,AO (α:=α) x)]) η) X (vs.getD 1 undef):=by
  have:=hargs 1 (by simp)
  change ARep w X η _ (vs.getD 1 undef) (vclo P (F q)) at this
  generalize vs.getD 1 undef=u at this
  cases this with | v _ _ hh=>cases hh with | c _ _ hh=>cases hh with | sem _ _ hh _=>exact hh
 rw [vs_two hlen,hv0]
 have ho:=hobj 0 (AO x) (by rw [ls_cons,if_pos rfl])
 have hXb : ∀ b,b ∈ blks (η 0)→X b:=fun b hb=>hown b ⟨0,_,by rw [ls_cons,if_pos rfl],hb⟩
 generalize hu:η 0=u at ho
 have hplen:(pdqL cf x).length=x.length:=by
  have:=(pdq_sorts (ltC cf) hO x.toArray 0 x.length (Lib.bitLen x.length) true true (Nat.zero_le _) (by simp) (.inl rfl)).1.1
  unfold pdqL
  simpa using this
 unfold AO at ho
 generalize hn:x.length=n at ho
 cases ho with
 | nil ad=>
  have hx:x=[]:=List.eq_nil_of_length_eq_zero hn
  refine (AnyF.slices_SortFunc_none Ly ad 0 _ w).mono fun e w' hh=>?_
  obtain ⟨he,hw⟩:=hh
  refine ⟨_,η,he, ?_⟩
  rw [hw]
  have hb:=behind_none (w:=w) (X:=X) (l:=x) hu hX
  have hp:pdqL cf x=[]:=List.eq_nil_of_length_eq_zero (by rw [hplen,hn])
  rw [hp]; exact hb
 | arr b _ cap _ c e _ g1 g2 g3 g4 g5 g6 g7=>
  rename_i n
  obtain ⟨fid,caps,hfv,hcall,hclo⟩:=hv1
  rw [hfv]
  have hdel : ∀ i,i<n→(LF x i)=Emb.cells (x.getD i Emb.d):=fun i _=>rfl
  have hcell : ∀ i j,i<n→j<Emb.es α→c.getD (i*Emb.es α+j) undef=(enc (x.getD i Emb.d)).getD j undef:=by
   intro i j hi hj
   have h0:=g7 i j hi hj
   have hj' : j<(Emb.cells (x.getD i Emb.d)).length:=by rw [Emb.len]; exact hj
   have e1:(LF x i).getD j .any=(Emb.cells (x.getD i Emb.d))[j]:=getD_lt _ _ hj' _
   rw [e1] at h0
   have h2:=h0.lit (List.all_eq_true.1 (hlit _) _ (List.getElem_mem hj'))
   rw [h2]
   exact (getD_map_lt _ _ hj').symm
  have hflat : ∀ t,t<n*Emb.es α→c.getD t undef=(flatK enc (Emb.es α) x.toArray)[t]! := by
   intro t ht
   have hpos:0<Emb.es α:=by
    rcases Nat.eq_zero_or_pos (Emb.es α) with hz | hz
    ·rw [hz,Nat.mul_zero] at ht; omega
    ·exact hz
   have p1:t / Emb.es α<n:=Nat.div_lt_of_lt_mul (by rw [Nat.mul_comm]; exact ht)
   have p2:t % Emb.es α<Emb.es α:=Nat.mod_lt _ hpos
   have:=hcell _ _ p1 p2
   rw [show t / Emb.es α*Emb.es α+t % Emb.es α=t from by rw [Nat.mul_comm]; exact Nat.div_add_mod t _] at this
   rw [this,get_flatK _ _ _ _ (by simpa [hn] using ht)]
   have e2:x.toArray[t / Emb.es α]! = x.getD (t / Emb.es α) Emb.d:=by
    have:t / Emb.es α<x.length:=by omega
    simp [List.getD_eq_getElem?_getD,this]
   rw [e2]
   have:t % Emb.es α<(enc (x.getD (t / Emb.es α) Emb.d)).length:=by rw [hk]; exact p2
   exact getD_bang _ _ this _
  have hH:HoldsK enc (Emb.es α) w b 0 x.toArray:=by
   intro t ht
   have ht' : t<n*Emb.es α:=by simpa [hn] using ht
   have htc:t<c.size:=by
    have:n*Emb.es α≤cap*Emb.es α:=Nat.mul_le_mul_right _ g3
    omega
   refine ⟨?_,by simp [World.frozen?,g1]⟩
   have:=hflat t ht'
   simp only [Nat.zero_add,World.cell?,g1,Option.isSome_none,Bool.false_eq_true,if_false,id]
   rw [Array.getElem?_eq_getElem htc]
   congr 1
   rw [← this]; simp [htc]
  have hblk:b ∈ blks (η 0):=by rw [hu]; simp [blks]; omega
  have hcmp:CmpLays P fid caps enc (Emb.es α) cf b 0 x.toArray.size w:=by
   intro m os dk hdk u v
   have hst:=putRow_stp id w b 0 m (flatK enc (Emb.es α) dk) os
   have hrep : ∀ (w1:World) (z:α) η C,ARep w1 X η C (.agg (enc z).toArray) (.v (.g ((Emb.cells z).map .d))):=by
    intro w1 z η' C'
    refine .v _ _ (.g _ _ ⟨by simp [enc],fun j hj=>?_⟩)
    have hj' : j<(Emb.cells z).length:=by simpa using hj
    have e1:(enc z).toArray.getD j undef=((Emb.cells z)[j]).val:=by
     have:(enc z).toArray.getD j undef=(enc z).getD j undef:=by simp [List.getD_eq_getElem?_getD]
     rw [this]; exact getD_map_lt _ _ hj'
    have e2:((Emb.cells z).map CV.d).getD j (.d .any)=.d ((Emb.cells z)[j]):=by rw [getD_lt _ j (by simpa using hj')]; simp
    rw [e1,e2]
    exact .d _ _ (DVal.rep _ _ (List.all_eq_true.1 (hlit z) _ (List.getElem_mem hj')))
   refine (hclo (grow (putRow id (Go.Sort.ahead w m) b 0 (flatK enc (Emb.es α) dk)) os) X #[.agg (enc u).toArray,.agg (enc v).toArray] _ _ (hF q u v (cf u v) (hq u v)) hst.size (fun y hy hD=>hst.block y hy fun e=>hD ?_)
    (fun y hy=>Nat.lt_of_lt_of_le (hX y hy) hst.size) (fun y _ _=>Iff.rfl) rfl (fun j hj η C=>?_)).mono fun e2 w2 hh=>?_
   ·rw [e]; exact ⟨0,_,by rw [ls_cons,if_pos rfl],hblk⟩
   ·have:j=0∨j=1:=by simp at hj; omega
    rcases this with rfl | rfl
    ·exact hrep _ _ _ _
    ·exact hrep _ _ _ _
   ·obtain ⟨v',he,hs2,hr⟩:=hh
    have hr' := hr η (callCtx [] w X η)
    have e3:v' = .int .i64 (cf u v):=by
     cases hr' with | v _ _ hh=>cases hh with | c _ _ hh=>cases hh with | d _ _ hh=>cases hh; rfl
    obtain ⟨qq,os',hw'⟩:=stp_grow hs2
    exact ⟨by rw [he,e3],qq,os',hw'⟩
  rw [← hn]
  have hmain:=AnyQ.slices_SortFunc_eq Ly (Emb.es α) (fun w=>by rw [run_isAgg hti w,hagg]) (fun w=>by rw [run_sizeOf hti,hsz]) enc hk h1 cf hO fid caps b 0 cap x.toArray w hcall hcmp hH (lt_of_heap g1) (by simp only [List.size_toArray]; simp only [LIM] at hl; omega)
  refine hmain.mono fun e' w' hh=>?_
  obtain ⟨he,nn,os,hw⟩:=hh
  refine ⟨_,η,he, ?_⟩
  have hw2:w' = grow (putRow id (Go.Sort.ahead w nn) b 0 (flatK enc (Emb.es α) (pdqL cf x).toArray)) os:=hw
  rw [hw2]
  refine behind_one (c' := putCells id 0 (flatK enc (Emb.es α) (pdqL cf x).toArray) c) (e:=e) (b:=b) (n:=n) (cap:=cap) hu g5 (putRow_stp _ _ _ _ _ _ _) (putRow_heap _ _ _ _ _ _ _ g1) (by rw [size_putCells']; exact g2) (by rw [hplen,hn]) g3 g4 (fun i j hi hj=>?_) hX (hXb b hblk)
  have hlt:i*Emb.es α+j<n*Emb.es α:=by
   have:(i+1)*Emb.es α≤n*Emb.es α:=Nat.mul_le_mul_right _ hi
   rw [Nat.add_mul,Nat.one_mul] at this; omega
  have hsz2:(flatK enc (Emb.es α) (pdqL cf x).toArray).size=n*Emb.es α:=by simp [hplen,hn]
  rw [getD_putCells _ _ _ _ (by rw [hsz2]; exact hlt) (by rw [hsz2,g2]; exact Nat.mul_le_mul_right _ g3)]
  rw [get_flatK _ _ _ _ (by simpa [hplen,hn] using hlt)]
  have d1:(i*Emb.es α+j) / Emb.es α=i:=by
   rw [Nat.add_comm,Nat.add_mul_div_right _ _ (by omega),Nat.div_eq_of_lt hj,Nat.zero_add]
  have d2:(i*Emb.es α+j) % Emb.es α=j:=by rw [Nat.add_comm,Nat.add_mul_mod_self_right,Nat.mod_eq_of_lt hj]
  rw [d1,d2]
  have e4:(pdqL cf x).toArray[i]! = (pdqL cf x).getD i Emb.d:=by
   have:i<(pdqL cf x).length:=by omega
   simp [List.getD_eq_getElem?_getD,this]
  rw [e4]
  have hj' : j<(Emb.cells ((pdqL cf x).getD i Emb.d)).length:=by rw [Emb.len]; exact hj
  have e5:(enc ((pdqL cf x).getD i Emb.d))[j]! = ((Emb.cells ((pdqL cf x).getD i Emb.d))[j]).val:=by
   rw [← getD_bang (enc ((pdqL cf x).getD i Emb.d)) j (by rw [hk]; exact hj) undef]; exact getD_map_lt _ _ hj'
  have e6:(LF (pdqL cf x) i).getD j .any=(Emb.cells ((pdqL cf x).getD i Emb.d))[j]:=getD_lt _ _ hj' _
  rw [e5,e6]
  exact DVal.rep _ _ (List.all_eq_true.1 (hlit _) _ (List.getElem_mem hj'))
end Go.Ab
end

section
namespace Go.Ab
open Go.ChangeShapes Go.WideShapes Go.ChangeAt Go.RowKit
theorem cell_inv {w:World} {a:Addr} {v:Value} (h:w.cell? a=some v):a.spot=none∧∃ c e fz,w.heap[a.block]? = some (.cells c e fz)∧a.off<c.size∧c.getD a.off undef=v:=by
 unfold World.cell? at h
 split at h
 ·rename_i c e fz hb
  split at h
  ·cases h
  ·rename_i hs
   obtain ⟨h1,h2⟩:=Array.getElem?_eq_some_iff.1 h
   exact ⟨by simpa using hs,c,e,fz,hb,h1,by simp [h1,h2]⟩
 ·cases h
theorem add_lit' (b o i:Nat):(⟨b,o,none⟩ : Addr).add i=⟨b,o+i,none⟩:=add_lit b o i
theorem drep_ints {w:World} {a:Addr} {len cap:Nat} {zs:List Int} (hl:len≤cap) (hz:len≤zs.length) (hc : ∀ i,i<zs.length→w.cell? (a.add i)=some (.int .i64 (zs.getD i 0))) :
  DRep w (fun _=>False) (.slice (some a) len cap) (DL (α:=Int) (zs.take len)):=by
 have hn:(zs.take len).length=len:=by simp; omega
 unfold DL
 rw [hn]
 by_cases h0:len=0
 ·subst h0; exact .nil _ _ _
 ·have hs:a.spot=none:=by
   have:=(cell_inv (hc 0 (by omega))).1
   cases hsp:a.spot with
   | none=>rfl
   | some s=>simp [Addr.add,hsp] at this
  obtain ⟨b,off,sp⟩:=a
  simp only at hs
  subst hs
  have hc' : ∀ i,i<zs.length→∃ c e fz,w.heap[b]? = some (.cells c e fz)∧off+i<c.size∧c.getD (off+i) undef=.int .i64 (zs.getD i 0):=by
   intro i hi
   have:=hc i hi
   rw [add_lit'] at this
   exact (cell_inv this).2
  obtain ⟨c,e,fz,hb,_,_⟩:=hc' 0 (by omega)
  have hc2 : ∀ i,i<zs.length→off+i<c.size∧c.getD (off+i) undef=.int .i64 (zs.getD i 0):=by
   intro i hi
   obtain ⟨c',e',fz',hb',h1,h2⟩:=hc' i hi
   rw [hb] at hb'; cases hb'
   exact ⟨h1,h2⟩
  refine .lst b off len cap c e fz _ 1 (fun h=>h) hb hl (by have:=(hc2 (len-1) (by omega)).1; omega) (fun i _=>rfl) fun i j hi hj=>?_
  have:j=0:=by omega
  subst this
  rw [Nat.mul_one,Nat.add_zero,(hc2 i (by omega)).2]
  have e1:((LF (zs.take len) i).getD 0 .any)=.int .i64 ((zs.take len).getD i 0):=rfl
  rw [e1]
  have e2:(zs.take len).getD i 0=zs.getD i 0:=by simp [List.getD_eq_getElem?_getD,List.getElem?_take,hi]
  rw [e2]
  exact .int _ _
theorem open_intsD {H:Type} {enc:TypeId×Value→H} {P:Program} {W:World} {t e:TypeId} {v:Value} {d:DataW H} {ps:List MemPlace} (ht:P.underlying t=some (.slice e)) (he:P.underlying e=some (.int .i64)) (hc:P.cellsOf e=1) {r:Reach} {b0:Nat}
  (hv:Value.okWide P W r b0 t v) (hd:DataW.Trod enc P W 0 (fun _=>true) true t v d ps) : ∃ l:List Int,DRep W (fun _=>False) v (DL l)∧∀ n ∈ l,(Lit.int .i64 n).wf=true:=by
 obtain ⟨fuel,hf⟩:=hd
 obtain ⟨a0,len,cap,rfl⟩:=okWide_slice ht hv
 rcases open_ints ht he hc hf with ⟨hcs,hx⟩|⟨a,len',cap',zs,hcs,hb,hl,hm,hz,hx,hcell,hwz⟩
 ·simp [Value.cells] at hcs
  obtain ⟨rfl,rfl,rfl⟩:=hcs
  exact ⟨[],.nil _ _ _,fun n hn=>by cases hn⟩
 ·simp [Value.cells] at hcs
  obtain ⟨rfl,rfl,rfl⟩:=hcs
  simp only [if_true] at hz
  exact ⟨zs.take len,drep_ints hl (by omega) hcell,fun n hn=>hwz n (List.mem_of_mem_take hn)⟩
theorem trodAll_later {H:Type} {enc:TypeId×Value→H} {P:Program} (hl:laidOutB P=true) {W W' : World} (hb:Below W.heap.size W W') : ∀ {ts:List TypeId} {vs:List Value} {ds:List (DataW H)} {ps:List MemPlace},
  ts.all (fun t=>P.readableRec t&&decide (t<P.types.size))=true→DataW.TrodAll enc P W 0 (fun _=>true) true ts vs ds ps→(∀ x ∈ ps,x.block<W.heap.size)→∀ sp:Nat→Bool,(∀ x ∈ ps,sp x.block=true)→DataW.TrodAll enc P W' 0 sp true ts vs ds ps
 | [],[],[],_,_,h,_,_,_=>h
 | t::ts,v::vs,d::ds,ps,hr,⟨p,q,h1,h2,e⟩,hlt,sp,hs=>by
  simp only [List.all_cons,Bool.and_eq_true,decide_eq_true_eq] at hr
  subst e
  exact ⟨p,q,WideElems.Trod_stays hl hr.1.1 hr.1.2 h1 (fun x hx=>hb.same (hlt x (List.mem_append_left _ hx))) (fun x hx=>hs x (List.mem_append_left _ hx)),
   trodAll_later hl hb hr.2 h2 (fun x hx=>hlt x (List.mem_append_right _ hx)) sp (fun x hx=>hs x (List.mem_append_right _ hx)),rfl⟩
theorem post_trueB {H:Type} {enc:TypeId×Value→H} {P:Program} (hl:laidOutB P=true) {fn:Func} {s:ChangeSpec} {W W' : World} {args:Array Value} {ds gs:List (DataW H)} {before:List MemPlace} {apart fresh handsOn again:Bool}
  (hW:DataW.Whole enc P fn.params.toList s.vars apart W args.toList ds gs before) (hv:s.vars=[]) (hs:s.fn H (ds++gs) = { results:=[.lit (.bool true)],args:=ds }) (hr:fn.params.toList.all (fun t=>P.readableRec t&&decide (t<P.types.size))=true)
  {t:TypeId} (hres:fn.resultTypes = #[t]) (ht:P.underlying t=some .bool) (hb:Below W.heap.size W W'):s.post enc P fn apart fresh handsOn again W args (.bool true) W' := by
 have hlt:=hW.lt
 have hW' := hW
 obtain ⟨p,q,hA,hV,he,hfz,hnd⟩:=hW
 rw [hv] at hV
 obtain ⟨rfl,rfl⟩:=trodVars_none hV
 rw [List.append_nil] at he
 subst he
 have hok : ∀ (j:Nat) (t' : TypeId) (r:Value),fn.resultTypes[j]? = some t' → ((Value.bool true).resultList fn.resultTypes.size)[j]? = some r→Value.okWide P W' .any 0 t' r:=ok_one hres rfl (okWide_bool_mk ht _)
 have hold : ∀ x ∈ before,(fun b=>decide (b<W.heap.size)) x.block=true:=fun x hx=>by simpa using hlt x hx
 have harg : ∀ sp:Nat→Bool,(∀ x ∈ before,sp x.block=true)→DataW.TrodAll enc P W' 0 sp true fn.params.toList args.toList (s.fn H (ds++[])).args before:=fun sp hsp=>by
  rw [hs]; exact trodAll_later hl hb hr hA hlt sp hsp
 have hout : ∀ (b:Nat) (sp:Nat→Bool) (hd:Bool),DataW.TrodAll enc P W' b sp hd fn.resultTypes.toList ((Value.bool true).resultList fn.resultTypes.size) (s.fn H (ds++[])).results []:=fun b sp hd=>by
  rw [hs,hres]; exact trodAll_cons_mk (shut_bool ht _) trodAll_mk0
 have hvar : ∀ sp:Nat→Bool,DataW.TrodVars enc P W' sp s.vars (s.fn H (ds++[])).vars []:=fun sp=>by
  rw [hs,hv]; exact rfl
 refine ⟨ds,_,before,[],before,[],hW',hout _ _ _,harg _ hold,hvar _,World.keptBut_mono (fun x hx=>⟨hx,by simpa using hx⟩) (hb.frame (· ∈ before)),fun _=>⟨hok, ?_⟩⟩
 obtain ⟨_,_,_,_,_,hz,hn⟩:=hW'
 refine ⟨_,_,([]++before)++[],⟨[]++before,[],trodAll_append (harg _ fun _ _=>rfl) (hout _ _ _),hvar _,rfl,fun b off hx=>?_,fun ha=>?_⟩,fun x hx _=>?_⟩
 ·have hin:MemPlace.cell b off ∈ before:=by simpa using hx
  rw [hb.frozen (hlt _ hin)]
  exact hz b off hin
 ·simpa using hn ha
 ·simpa using hx
theorem post_true {H:Type} {enc:TypeId×Value→H} {P:Program} (hl:laidOutB P=true) {fn:Func} {s:ChangeSpec} {W W' : World} {args:Array Value} {ds gs:List (DataW H)} {before:List MemPlace} {apart fresh handsOn again:Bool}
  (hW:DataW.Whole enc P fn.params.toList s.vars apart W args.toList ds gs before) (hv:s.vars=[]) (hs:s.fn H (ds++gs) = { results:=[.lit (.bool true)],args:=ds }) (hr:fn.params.toList.all (fun t=>P.readableRec t&&decide (t<P.types.size))=true)
  {t:TypeId} (hres:fn.resultTypes = #[t]) (ht:P.underlying t=some .bool) (hstp:Stp (fun _=>False) W W'):s.post enc P fn apart fresh handsOn again W args (.bool true) W' :=
 post_trueB hl hW hv hs hr hres ht (hstp.below _ (Nat.le_refl _) fun _ _ h=>h)
end Go.Ab
end

section
namespace Go.Ab
section
variable {P:Program} {C:Ctx} {nt:Nat} {L:Lay} {ops:Array Oper} {ds:List Dir} {e:Env} {s:Sto}
end
end Go.Ab
end

section
namespace Go.Ab
def ci (n:Int):CV:=.d (.int .i64 n)
def gC {α:Type} [Emb α] (x:α):List CV:=(Emb.cells x).map .d
def gE {α:Type} [Emb α] (x:α):AVal:=.v (.g (gC x))
def ss (n:Nat):List Dir:=List.replicate n .s
section
variable {P:Program} {C:Ctx} {nt:Nat} {L:Lay} {pins:List Nat} {E:List (Nat×AVal)} {S:List (Nat×Obj)} {Q:Exit→Act→World→Prop}
theorem AW.g (Fm:Fr P L C pins) {id:Nat} {ops:Array Oper} {draw:Bool} (ds:List Dir) (c:(Nat→Prop)→Prop) (E' : List (Nat×AVal)) (S' : List (Nat×Obj)) (hc:c (KAt P C nt L ops ds (lk E) (ls S)))
  (h:(chkB L pins nt ops draw ds E S [] S',arunC P C nt L ops ops.toList ds (lk E) (ls S),E'.map (fun p=>endE ops.toList (arunF L ops ops.toList ds (lk E) (ls S)) (lk E) p.1),S'.map (fun p=>endS (arunF L ops ops.toList ds (lk E) (ls S)) (ls S) (rhoL [] p.1)))
   = (true,c (KAt P C nt L ops ds (lk E) (ls S)),E'.map (fun p=>p.2.ren (rhoL [])),S'.map (fun p=>some (p.2.ren (rhoL [])))))
  (k:Kn C nt E' S' (Q .normal)):AW P C nt (.region id ops draw) E S Q:=
 AW.regc Fm ds [] c E' S' hc (congrArg (·.1) h) (congrArg (·.2.1) h) (congrArg (·.2.2.1) h) (congrArg (·.2.2.2) h) k
theorem AW.sg (Fm:Fr P L C pins) {id:Nat} {ops:Array Oper} {draw:Bool} {y:Code} (ds:List Dir) (c:(Nat→Prop)→Prop) (E' : List (Nat×AVal)) (S' : List (Nat×Obj)) (hc:c (KAt P C nt L ops ds (lk E) (ls S)))
  (h:(chkB L pins nt ops draw ds E S [] S',arunC P C nt L ops ops.toList ds (lk E) (ls S),E'.map (fun p=>endE ops.toList (arunF L ops ops.toList ds (lk E) (ls S)) (lk E) p.1),S'.map (fun p=>endS (arunF L ops ops.toList ds (lk E) (ls S)) (ls S) (rhoL [] p.1)))
   = (true,c (KAt P C nt L ops ds (lk E) (ls S)),E'.map (fun p=>p.2.ren (rhoL [])),S'.map (fun p=>some (p.2.ren (rhoL [])))))
  (k:AW P C nt y E' S' Q):AW P C nt (.seq (.region id ops draw) y) E S Q:=
 AW.seq (AW.g Fm ds c E' S' hc h k)
theorem AW.g0 (Fm:Fr P L C pins) {id:Nat} {ops:Array Oper} {draw:Bool} (n:Nat) (E' : List (Nat×AVal)) (S' : List (Nat×Obj))
  (h:(chkB L pins nt ops draw (ss n) E S [] S',arunC P C nt L ops ops.toList (ss n) (lk E) (ls S),E'.map (fun p=>endE ops.toList (arunF L ops ops.toList (ss n) (lk E) (ls S)) (lk E) p.1),S'.map (fun p=>endS (arunF L ops ops.toList (ss n) (lk E) (ls S)) (ls S) (rhoL [] p.1)))
   = (true,True,E'.map (fun p=>p.2.ren (rhoL [])),S'.map (fun p=>some (p.2.ren (rhoL [])))))
  (k:Kn C nt E' S' (Q .normal)):AW P C nt (.region id ops draw) E S Q:=AW.g Fm (ss n) (fun _=>True) E' S' True.intro h k
theorem AW.sg0 (Fm:Fr P L C pins) {id:Nat} {ops:Array Oper} {draw:Bool} {y:Code} (n:Nat) (E' : List (Nat×AVal)) (S' : List (Nat×Obj))
  (h:(chkB L pins nt ops draw (ss n) E S [] S',arunC P C nt L ops ops.toList (ss n) (lk E) (ls S),E'.map (fun p=>endE ops.toList (arunF L ops ops.toList (ss n) (lk E) (ls S)) (lk E) p.1),S'.map (fun p=>endS (arunF L ops ops.toList (ss n) (lk E) (ls S)) (ls S) (rhoL [] p.1)))
   = (true,True,E'.map (fun p=>p.2.ren (rhoL [])),S'.map (fun p=>some (p.2.ren (rhoL [])))))
  (k:AW P C nt y E' S' Q):AW P C nt (.seq (.region id ops draw) y) E S Q:=AW.seq (AW.g0 Fm n E' S' h k)
variable {K:Act→World→Prop}
theorem Kn.r (Fm:Fr P L C pins) (E' : List (Nat×AVal)) (S' : List (Nat×Obj))
  (hq:(pins.all (fun i=>rhoL [] i==i),E'.map (fun p=>lk E p.1),S'.map (fun p=>ls S (rhoL [] p.1)),nodupB (S'.map fun p=>rhoL [] p.1))=(true,E'.map (fun p=>p.2.ren (rhoL [])),S'.map (fun p=>some (p.2.ren (rhoL []))),true)) (h:Kn C nt E' S' K):Kn C nt E S K:=
 Kn.re Fm [] E' S' (congrArg (·.1) hq) (congrArg (·.2.1) hq) (congrArg (·.2.2.1) hq) (congrArg (·.2.2.2) hq) h
theorem Kn.dn (Fm:Fr P L C pins) {fn:Func} {r:AVal} {S' : List (Nat×Obj)} (hq:(resA L (lk E) (ls S) fn.results.toList,S'.map (fun p=>ls S p.1))=(some r,S'.map (fun p=>some p.2))):Kn C nt E S (retQ P fn C r S' .ret):=
 Kn.done Fm (congrArg (·.1) hq) (congrArg (·.2) hq)
end
section
variable {P:Program} {C:Ctx} {nt:Nat} {L:Lay} {ops:Array Oper} {ds:List Dir} {e:Env} {s:Sto}
theorem KAt.cl {k:Nat} {f:Nat} {args:List AVal} {Si:List (Nat×Obj)} {r:AVal} {So:List (Nat×Obj)} (hspec:FSpec P f args Si r So) (hcall : ∀ args w,(callFunc f args).run P w=.ok (.enter f args) w) (m:List (Nat×Nat))
  (hk:dirAt ds k=cE m [] r Si So) (hq:(Go.Ab.callB ops nt (arunE L ops ops.toList ds e s k) (opAt ops.toList k) f m r Si So,Si.map (fun p=>arunS L ops ops.toList ds e s k (rhoL m p.1)),
   (Go.Ab.callXs (opAt ops.toList k)).toList.all (rdOk (tmpsOf (opAt ops.toList k)++guardTmp ops (opAt ops.toList k)))&&args.all AVal.noSem,(Go.Ab.callXs (opAt ops.toList k)).toList.map (aev (arunE L ops ops.toList ds e s k)))
   = (true,Si.map (fun p=>some (p.2.ren (rhoL m))),true,args.map (AVal.ren (rhoL m)))):KAt P C nt L ops ds e s k:=
 KAt.call hspec hcall m hk (congrArg (·.1) hq) (congrArg (·.2.1) hq) (congrArg (·.2.2.1) hq) (congrArg (·.2.2.2) hq)
end
end Go.Ab
end

section
namespace Go.Ab
open Go.Proofs Go.Shelf
end Go.Ab
end

section
namespace Go.Ab
section
variable {w:World} {X:Nat→Prop} {η η' : Nat→Value} {C C' : Ctx} {P:Program}
end
section
variable {P:Program} {C:Ctx} {nt:Nat} {e:Env} {s:Sto}
end
end Go.Ab
end

section
namespace Go.Ab
section
variable {P:Program} {C:Ctx} {nt:Nat} {L:Lay} {pins:List Nat} {K:Act→World→Prop}
end
end Go.Ab
end

section
namespace Go.Ab
end Go.Ab
end

section
namespace Go.Ab
def apP (es n:Nat) (f:Nat→List DVal) (w:World) (X:Nat→Prop) (u:Value):Prop:=
 (∃ ad,u=.tuple #[.slice ad n n]∧DRep w X (.slice ad n n) (.lst n f))∨∀ η C,ORep w X η C u (.arr es n f)
theorem arr_free {w:World} {X:Nat→Prop} {η:Nat→Value} {C:Ctx} {v:Value} {es n:Nat} {f:Nat→List DVal} (h:ORep w X η C v (.arr es n f)) (η' : Nat→Value) (C' : Ctx):ORep w X η' C' v (.arr es n f):=by
 cases h with
 | nil ad=>exact .nil ad _ _
 | arr b _ cap _ c e _ h1 h2 h3 h4 h5 h6 h7=>exact .arr b _ cap _ c e _ h1 h2 h3 h4 h5 h6 h7
theorem apP_stab (es n:Nat) (f:Nat→List DVal) (u:Value):PStab (apP es n f) u:=by
 intro w w' X X' hk hb h
 rcases h with ⟨ad,e,hd⟩ | h
 ·exact .inl ⟨ad,e,hd.mono hk⟩
 ·exact .inr fun η C=>(h η C).mono (η' := η) hk (fun _ _=>rfl) hb
theorem CLe.ap (k:Nat):CLe (.own k) (.ap k):=⟨fun w X η C v hv=>by cases hv with | own _ _ h h1=>exact .ap _ _ (.inl h.symm) h1,fun i hi=>hi⟩
theorem OLe.ap (es n:Nat) (f:Nat→List DVal):OLe (.arr es n f) (.ext (apP es n f)):=
 ⟨fun w X η C v hv=>.ext _ _ (.inr fun η' C' => arr_free hv η' C') (apP_stab es n f v) fun b hb=>hv.lt hb,rfl,fun i hi=>by cases hi⟩
section
variable {w:World} {X X' : Nat→Prop} {η:Nat→Value} {C:Ctx} {k:Nat} {y:CV}
end
section
variable {P:Program} {C:Ctx} {nt:Nat} {L:Lay} {pins:List Nat} {K:Act→World→Prop} {E:List (Nat×AVal)} {S:List (Nat×Obj)}
end
end Go.Ab
end

section
namespace Go.Ab
section
variable {P:Program} {C:Ctx} {nt:Nat} {L:Lay} {ops:Array Oper} {ds:List Dir} {e:Env} {s:Sto}
end
end Go.Ab
end

section
namespace Go.Ab
open Go.Sort Go.Proofs Go.Shelf
section
variable {α:Type} [Emb α]
end
end Go.Ab
end

section
namespace Go.Ab
section
variable {P:Program} {C:Ctx} {nt:Nat} {L:Lay} {R:Nat→Prop} {η:Nat→Value} {e:Env} {s:Sto} {a:Act} {w:World}
theorem Snd.upd_le {o:Oper} {x:AVal} {id:Nat} {ob ob' : Obj} {c:Prop} (h:Snd P C nt R η e s a w o { v:=x,upd:=some (id,ob),cond:=c }) (hle:OLe ob ob'):Snd P C nt R η e s a w o { v:=x,upd:=some (id,ob'),cond:=c } := by
 obtain ⟨v,w',h1,h2⟩:=h
 refine ⟨v,w',h1, ?_⟩
 have hsto : ∀ q i,SR.sto { v:=x,upd:=some (id,q),cond:=c } o.dst s i=if i=id then some q else s i:=by
  intro q i
  unfold SR.sto
  simp
 have h3:=h2.conv (R' := SR.rng { v:=x,upd:=some (id,ob'),cond:=c } o.dst R) (e' := SR.env { v:=x,upd:=some (id,ob'),cond:=c } o.dst e) (s' := SR.sto { v:=x,upd:=some (id,ob'),cond:=c } o.dst s) (fun i=>i)
  (fun t=>by rw [AVal.ren_id]; exact ALe.refl _) (fun i o' hi=>by
   rw [Obj.ren_id]
   rw [hsto] at hi ⊢
   split at hi
   ·rename_i hi'; cases hi; exact ⟨ob,by rw [if_pos hi'],hle⟩
   ·rename_i hi'; exact ⟨o',by rw [if_neg hi']; exact hi,OLe.refl _⟩) (fun i j _ _ h=>h) (fun t i hi=>h2.er t i hi) (fun i o' hi=>by
   rw [hsto] at hi
   split at hi
   ·rename_i hi'
    cases hi
    have:=h2.sr i ob (by rw [hsto,if_pos hi'])
    exact ⟨this.1,fun j hj=>this.2 j (hle.2.2 j hj)⟩
   ·rename_i hi'
    exact h2.sr i o' (by rw [hsto,if_neg hi']; exact hi)) (fun i hi=>⟨rfl,by
   obtain ⟨v,hv⟩:=Option.ne_none_iff_exists'.1 hi
   exact (h2.pn i v hv).2⟩)
 exact h3
variable {ops:Array Oper} {ds:List Dir} {k:Nat}
theorem KAt.upd (hL:LOk P L) {id:Nat} {ob ob' : Obj} {c:Prop} (hk:dirAt ds k=rE { v:=.any,upd:=some (id,ob') })
  (hdo:(dstOk nt (opAt ops.toList k)&&(gval ops (arunE L ops ops.toList ds e s k) (opAt ops.toList k)==some true))=true)
  (hr:aop1 L false (arunE L ops ops.toList ds e s k) (arunS L ops ops.toList ds e s k) (opAt ops.toList k)=some { v:=.any,upd:=some (id,ob),cond:=c }) (hc:c) (hle:OLe ob ob'):KAt P C nt L ops ds e s k:=by
 unfold KAt
 rw [hk]
 simp only [Bool.and_eq_true,beq_iff_eq] at hdo
 have hd2 : ∀ t x y,(opAt ops.toList k).op=.store t x y→(opAt ops.toList k).dst=none:=by
  intro t x y hop
  have:=hdo.1
  simp only [dstOk,hop,Bool.and_eq_true] at this
  simpa using this.2
 refine stT_snd hdo.1 hdo.2 fun R η e0 s0 a w he hss hn hcc=>?_
 have hr0:=(aop1_local (L:=L) (e:=arunE L ops ops.toList ds e s k) (s:=arunS L ops ops.toList ds e s k) false (opAt ops.toList k) he hss).trans hr
 exact (aop1_ok hL hcc false _ (fun x hx=>dst_lt hdo.1 x hx) hr0 hc (fun d hd hn=>absurd rfl hn) hd2).upd_le hle
end
end Go.Ab
end

section
namespace Go.Ab
open Go.ChangeShapes Go.WideShapes Go.ChangeAt Go.RowKit
end Go.Ab
end

section
namespace Go.Ab
@[reducible] def ow (n:Nat):AVal:=.v (.c (.own n))
@[reducible] def pt (n:Nat):AVal:=.v (.c (.ptr n 0))
@[reducible] def bx (l:List CV):Obj:=.box false l
section
variable {P:Program} {C:Ctx} {nt:Nat} {L:Lay} {pins:List Nat} {E:List (Nat×AVal)} {S:List (Nat×Obj)} {Q:Exit→Act→World→Prop}
theorem AW.G (Fm:Fr P L C pins) {id:Nat} {ops:Array Oper} {draw:Bool} (ds:List Dir) (c:(Nat→Prop)→Prop) (E' : List (Nat×AVal)) (S' : List (Nat×Obj)) (hc:c (KAt P C nt L ops ds (lk E) (ls S))) (k:Kn C nt E' S' (Q .normal))
  (h:(chkB L pins nt ops draw ds E S [] S',arunC P C nt L ops ops.toList ds (lk E) (ls S),E'.map (fun p=>endE ops.toList (arunF L ops ops.toList ds (lk E) (ls S)) (lk E) p.1),S'.map (fun p=>endS (arunF L ops ops.toList ds (lk E) (ls S)) (ls S) (rhoL [] p.1)))
   = (true,c (KAt P C nt L ops ds (lk E) (ls S)),E'.map (fun p=>p.2.ren (rhoL [])),S'.map (fun p=>some (p.2.ren (rhoL [])))):=by kernel_rfl):AW P C nt (.region id ops draw) E S Q:=AW.g Fm ds c E' S' hc h k
theorem AW.SG (Fm:Fr P L C pins) {id:Nat} {ops:Array Oper} {draw:Bool} {y:Code} (ds:List Dir) (c:(Nat→Prop)→Prop) (E' : List (Nat×AVal)) (S' : List (Nat×Obj)) (hc:c (KAt P C nt L ops ds (lk E) (ls S))) (k:AW P C nt y E' S' Q)
  (h:(chkB L pins nt ops draw ds E S [] S',arunC P C nt L ops ops.toList ds (lk E) (ls S),E'.map (fun p=>endE ops.toList (arunF L ops ops.toList ds (lk E) (ls S)) (lk E) p.1),S'.map (fun p=>endS (arunF L ops ops.toList ds (lk E) (ls S)) (ls S) (rhoL [] p.1)))
   = (true,c (KAt P C nt L ops ds (lk E) (ls S)),E'.map (fun p=>p.2.ren (rhoL [])),S'.map (fun p=>some (p.2.ren (rhoL [])))):=by kernel_rfl):AW P C nt (.seq (.region id ops draw) y) E S Q:=AW.sg Fm ds c E' S' hc h k
theorem AW.G0 (Fm:Fr P L C pins) {id:Nat} {ops:Array Oper} {draw:Bool} (n:Nat) (E' : List (Nat×AVal)) (S' : List (Nat×Obj)) (k:Kn C nt E' S' (Q .normal))
  (h:(chkB L pins nt ops draw (ss n) E S [] S',arunC P C nt L ops ops.toList (ss n) (lk E) (ls S),E'.map (fun p=>endE ops.toList (arunF L ops ops.toList (ss n) (lk E) (ls S)) (lk E) p.1),S'.map (fun p=>endS (arunF L ops ops.toList (ss n) (lk E) (ls S)) (ls S) (rhoL [] p.1)))
   = (true,True,E'.map (fun p=>p.2.ren (rhoL [])),S'.map (fun p=>some (p.2.ren (rhoL [])))):=by kernel_rfl):AW P C nt (.region id ops draw) E S Q:=AW.g0 Fm n E' S' h k
theorem AW.SG0 (Fm:Fr P L C pins) {id:Nat} {ops:Array Oper} {draw:Bool} {y:Code} (n:Nat) (E' : List (Nat×AVal)) (S' : List (Nat×Obj)) (k:AW P C nt y E' S' Q)
  (h:(chkB L pins nt ops draw (ss n) E S [] S',arunC P C nt L ops ops.toList (ss n) (lk E) (ls S),E'.map (fun p=>endE ops.toList (arunF L ops ops.toList (ss n) (lk E) (ls S)) (lk E) p.1),S'.map (fun p=>endS (arunF L ops ops.toList (ss n) (lk E) (ls S)) (ls S) (rhoL [] p.1)))
   = (true,True,E'.map (fun p=>p.2.ren (rhoL [])),S'.map (fun p=>some (p.2.ren (rhoL [])))):=by kernel_rfl):AW P C nt (.seq (.region id ops draw) y) E S Q:=AW.sg0 Fm n E' S' h k
variable {K:Act→World→Prop}
theorem Kn.R (Fm:Fr P L C pins) {E' : List (Nat×AVal)} {S' : List (Nat×Obj)} (h:Kn C nt E' S' K)
  (hq:(pins.all (fun i=>rhoL [] i==i),E'.map (fun p=>lk E p.1),S'.map (fun p=>ls S (rhoL [] p.1)),nodupB (S'.map fun p=>rhoL [] p.1))=(true,E'.map (fun p=>p.2.ren (rhoL [])),S'.map (fun p=>some (p.2.ren (rhoL []))),true):=by kernel_rfl):Kn C nt E S K:=Kn.r Fm E' S' hq h
theorem Kn.RE (Fm:Fr P L C pins) (ρ:List (Nat×Nat)) {E' : List (Nat×AVal)} {S' : List (Nat×Obj)} (h:Kn C nt E' S' K) (hp:pins.all (fun i=>rhoL ρ i==i)=true:=by kernel_rfl) (hE:E'.map (fun p=>lk E p.1)=E'.map (fun p=>p.2.ren (rhoL ρ)):=by kernel_rfl)
  (hS:S'.map (fun p=>ls S (rhoL ρ p.1))=S'.map (fun p=>some (p.2.ren (rhoL ρ))):=by kernel_rfl) (hinj:nodupB (S'.map fun p=>rhoL ρ p.1)=true:=by kernel_rfl):Kn C nt E S K:=Kn.re Fm ρ E' S' hp hE hS hinj h
theorem Kn.D (Fm:Fr P L C pins) {fn:Func} {r:AVal} {S' : List (Nat×Obj)} (hq:(resA L (lk E) (ls S) fn.results.toList,S'.map (fun p=>ls S p.1))=(some r,S'.map (fun p=>some p.2)):=by kernel_rfl):Kn C nt E S (retQ P fn C r S' .ret):=Kn.dn Fm hq
end
section
variable {P:Program} {C:Ctx} {nt:Nat} {L:Lay} {ops:Array Oper} {ds:List Dir} {e:Env} {s:Sto}
theorem KAt.CC {k:Nat} {f:Nat} {args:List AVal} {Si:List (Nat×Obj)} {r:AVal} {So:List (Nat×Obj)} (hspec:FSpec P f args Si r So) (hcall : ∀ args w,(callFunc f args).run P w=.ok (.enter f args) w) (m:List (Nat×Nat))
  (hk:dirAt ds k=cE m [] r Si So:=by rfl) (hq:(Go.Ab.callB ops nt (arunE L ops ops.toList ds e s k) (opAt ops.toList k) f m r Si So,Si.map (fun p=>arunS L ops ops.toList ds e s k (rhoL m p.1)),
   (Go.Ab.callXs (opAt ops.toList k)).toList.all (rdOk (tmpsOf (opAt ops.toList k)++guardTmp ops (opAt ops.toList k)))&&args.all AVal.noSem,(Go.Ab.callXs (opAt ops.toList k)).toList.map (aev (arunE L ops ops.toList ds e s k)))
   = (true,Si.map (fun p=>some (p.2.ren (rhoL m))),true,args.map (AVal.ren (rhoL m))):=by kernel_rfl):KAt P C nt L ops ds e s k:=KAt.cl hspec hcall m hk hq
end
section
variable {C:Ctx} {nt:Nat} {e:Env} {s:Sto}
theorem ArgT.p {Si:List (Nat×Obj)} {m:Nat→Nat} {rd ids:List Nat} {x:Operand} {y:AVal} (hx:rdOk rd x=true:=by kernel_rfl) (hle:aev e x=y.ren m:=by kernel_rfl) (hs:y.noSem=true:=by kernel_rfl):ArgT C nt e s Si m rd ids x y:=ArgT.plain hx (ALe.of_eq hle) hs
end
end Go.Ab
end

section
namespace Go.Ab
open Go.Maps (Keyed)
open Go.WideElems (Fit rd rg pl rd_val elemAt)
open Go.ChangeMaps Go.MapKept
end Go.Ab
end

section
namespace Go.Ab
section
variable {P:Program} {C:Ctx} {nt:Nat} {L:Lay} {R:Nat→Prop} {η:Nat→Value} {e:Env} {s:Sto} {a:Act} {w:World}
variable {ops:Array Oper} {ds:List Dir} {k:Nat}
end
end Go.Ab
end

section
namespace Go.Ab
open Go.Sort Go.Proofs Go.Shelf Go.Maps
end Go.Ab
end

section
namespace Go.Ab
section
variable {P:Program} {L:Lay}
end
section
variable {P:Program} {C:Ctx} {nt:Nat} {L:Lay} {ops:Array Oper} {ds:List Dir} {e:Env} {s:Sto}
end
end Go.Ab
end

section
namespace Go.Ab
open Go.Sort Go.Proofs Go.Shelf Go.Maps
end Go.Ab
end

section
namespace Go.Ab
section
variable {P:Program} {C:Ctx} {nt:Nat} {L:Lay} {ops:Array Oper} {ds:List Dir} {e:Env} {s:Sto}
end
end Go.Ab
end

section
namespace Go.Ab
open Go.MapKept
section
variable {P:Program} {C:Ctx} {nt:Nat} {L:Lay} {R:Nat→Prop} {η:Nat→Value} {e:Env} {s:Sto} {a:Act} {w:World}
variable {ops:Array Oper} {ds:List Dir} {k:Nat}
end
section
variable {P:Program} {C:Ctx} {nt:Nat} {L:Lay} {pins:List Nat} {E:List (Nat×AVal)} {S:List (Nat×Obj)} {Q:Exit→Act→World→Prop}
end
end Go.Ab
end

section
namespace Go.Ab
open Go.MapKept
section
variable {α:Type} [Emb α]
end
section
variable {P:Program} {C:Ctx} {nt:Nat} {L:Lay} {ops:Array Oper} {ds:List Dir} {e:Env} {s:Sto}
def SndG (P:Program) (C:Ctx) (nt:Nat) (R:Nat→Prop) (η:Nat→Value) (e:Env) (s:Sto) (a:Act) (w:World) (o:Oper) (r:SR):Prop:=
 ∃ v u w',((execOp a.eval o).run P w=.ok (.value v) w' ∨ ((execOp a.eval o).run P w=.ok .skip w' ∧ v=undef)) ∧
  Conc C nt (r.rng o.dst R) (r.eta o.dst u η) (r.env o.dst e) (r.sto o.dst s) (a.put o.dst v) w'
theorem Snd.g {R:Nat→Prop} {η:Nat→Value} {a:Act} {w:World} {o:Oper} {r:SR} (h:Snd P C nt R η e s a w o r):SndG P C nt R η e s a w o r:=by
 obtain ⟨v,w',h1,h2⟩:=h
 exact ⟨v,v,w',h1,h2⟩
end
section
variable {P:Program} {C:Ctx} {nt:Nat} {L:Lay} {R:Nat→Prop} {η:Nat→Value} {e:Env} {s:Sto} {a:Act} {w:World}
variable {α:Type} [Emb α]
variable {ops:Array Oper} {ds:List Dir} {k:Nat}
end
end Go.Ab
end

section
namespace Go.Ab
open Go.MapKept
section
variable {P:Program} {C:Ctx} {nt:Nat} {L:Lay} {R:Nat→Prop} {η:Nat→Value} {e:Env} {s:Sto} {a:Act} {w:World}
variable {α:Type} [Emb α] {ops:Array Oper} {ds:List Dir} {k:Nat}
end
section
variable {P:Program} {C:Ctx} {nt:Nat} {L:Lay} {pins:List Nat} {K:Act→World→Prop} {α:Type} [Emb α]
end
end Go.Ab
end

section
namespace Go.Ab
def ov:List (Nat×Obj)→List (Nat×Obj)→List (Nat×Obj)
 | [],S=>S
 | _::_,[]=>[]
 | (k,o)::W,(i,x)::S=>match Nat.beq k i with
  | true=>(i,o)::ov W S
  | false=>(i,x)::ov ((k,o)::W) S
def FW:List (Nat×Obj)→List (Nat×Obj)→Prop
 | [],_=>True
 | _::_,[]=>True
 | (k,o)::W,(i,x)::S=>match Nat.beq k i with
  | true=>OLe o x∧FW W S
  | false=>FW ((k,o)::W) S
theorem ov_fs : ∀ {W S:List (Nat×Obj)},FW W S→FSl (ov W S) S
 | [],S,_=>by cases S <;> exact FSl.refl _
 | _::_,[],_=>True.intro
 | (k,o)::W,(i,x)::S,h=>by
  unfold ov
  unfold FW at h
  cases e:Nat.beq k i with
  | true=>rw [e] at h; exact ⟨rfl,h.1,ov_fs h.2⟩
  | false=>rw [e] at h; exact ⟨rfl,OLe.refl _,ov_fs h⟩
section
variable {P:Program} {C:Ctx} {nt:Nat} {L:Lay} {pins:List Nat} {E:List (Nat×AVal)} {S:List (Nat×Obj)} {Q:Exit→Act→World→Prop}
theorem AW.GW (Fm:Fr P L C pins) {id:Nat} {ops:Array Oper} {draw:Bool} (ds:List Dir) (c:(Nat→Prop)→Prop) (E' : List (Nat×AVal)) (S' : List (Nat×Obj)) (hc:c (KAt P C nt L ops ds (lk E) (ls S))) (W:List (Nat×Obj)) (hW:FW W S') (k:Kn C nt E' S' (Q .normal))
  (h:(chkB L pins nt ops draw ds E S [] (ov W S'),arunC P C nt L ops ops.toList ds (lk E) (ls S),E'.map (fun p=>endE ops.toList (arunF L ops ops.toList ds (lk E) (ls S)) (lk E) p.1),(ov W S').map (fun p=>endS (arunF L ops ops.toList ds (lk E) (ls S)) (ls S) (rhoL [] p.1)))
   = (true,c (KAt P C nt L ops ds (lk E) (ls S)),E'.map (fun p=>p.2.ren (rhoL [])),(ov W S').map (fun p=>some (p.2.ren (rhoL [])))):=by kernel_rfl):AW P C nt (.region id ops draw) E S Q:=
 AW.g Fm ds c E' (ov W S') hc h (Kn.wk E' S' (FE.refl _) (ov_fs hW) k)
theorem AW.SW (Fm:Fr P L C pins) {id:Nat} {ops:Array Oper} {draw:Bool} {y:Code} (ds:List Dir) (c:(Nat→Prop)→Prop) (E' : List (Nat×AVal)) (S' : List (Nat×Obj)) (hc:c (KAt P C nt L ops ds (lk E) (ls S))) (W:List (Nat×Obj)) (hW:FW W S') (k:AW P C nt y E' S' Q)
  (h:(chkB L pins nt ops draw ds E S [] (ov W S'),arunC P C nt L ops ops.toList ds (lk E) (ls S),E'.map (fun p=>endE ops.toList (arunF L ops ops.toList ds (lk E) (ls S)) (lk E) p.1),(ov W S').map (fun p=>endS (arunF L ops ops.toList ds (lk E) (ls S)) (ls S) (rhoL [] p.1)))
   = (true,c (KAt P C nt L ops ds (lk E) (ls S)),E'.map (fun p=>p.2.ren (rhoL [])),(ov W S').map (fun p=>some (p.2.ren (rhoL [])))):=by kernel_rfl):AW P C nt (.seq (.region id ops draw) y) E S Q:=
 AW.sg Fm ds c E' (ov W S') hc h (Kn.wk E' S' (FE.refl _) (ov_fs hW) k)
theorem AW.pN (Fm:Fr P L C pins) {id:Nat} {ops:Array Oper} {draw:Bool} (ds:List Dir) (E' : List (Nat×AVal)) (S' : List (Nat×Obj)) {q:Prop} (hc:q) (k:Kn C nt E' S' (Q .normal)) (h:(chkB L pins nt ops draw ds E S [] S',arunC P C nt L ops ops.toList ds (lk E) (ls S),E'.map (fun p=>endE ops.toList (arunF L ops ops.toList ds (lk E) (ls S)) (lk E) p.1),(S').map (fun p=>endS (arunF L ops ops.toList ds (lk E) (ls S)) (ls S) (rhoL [] p.1)))
   = (true,q,E'.map (fun p=>p.2.ren (rhoL [])),(S').map (fun p=>some (p.2.ren (rhoL [])))):=by kernel_rfl):AW P C nt (.region id ops draw) E S Q:=AW.g Fm ds (fun _=>q) E' S' hc h k
theorem AW.SP (Fm:Fr P L C pins) {id:Nat} {ops:Array Oper} {draw:Bool} {y:Code} (ds:List Dir) (E' : List (Nat×AVal)) (S' : List (Nat×Obj)) {q:Prop} (hc:q) (k:AW P C nt y E' S' Q) (h:(chkB L pins nt ops draw ds E S [] S',arunC P C nt L ops ops.toList ds (lk E) (ls S),E'.map (fun p=>endE ops.toList (arunF L ops ops.toList ds (lk E) (ls S)) (lk E) p.1),(S').map (fun p=>endS (arunF L ops ops.toList ds (lk E) (ls S)) (ls S) (rhoL [] p.1)))
   = (true,q,E'.map (fun p=>p.2.ren (rhoL [])),(S').map (fun p=>some (p.2.ren (rhoL [])))):=by kernel_rfl):AW P C nt (.seq (.region id ops draw) y) E S Q:=AW.sg Fm ds (fun _=>q) E' S' hc h k
theorem AW.WP (Fm:Fr P L C pins) {id:Nat} {ops:Array Oper} {draw:Bool} (ds:List Dir) (E' : List (Nat×AVal)) (S' : List (Nat×Obj)) {q:Prop} (hc:q) (W:List (Nat×Obj)) (hW:FW W S') (k:Kn C nt E' S' (Q .normal)) (h:(chkB L pins nt ops draw ds E S [] (ov W S'),arunC P C nt L ops ops.toList ds (lk E) (ls S),E'.map (fun p=>endE ops.toList (arunF L ops ops.toList ds (lk E) (ls S)) (lk E) p.1),((ov W S')).map (fun p=>endS (arunF L ops ops.toList ds (lk E) (ls S)) (ls S) (rhoL [] p.1)))
   = (true,q,E'.map (fun p=>p.2.ren (rhoL [])),((ov W S')).map (fun p=>some (p.2.ren (rhoL [])))):=by kernel_rfl):AW P C nt (.region id ops draw) E S Q:=AW.GW Fm ds (fun _=>q) E' S' hc W hW k h
theorem AW.SV (Fm:Fr P L C pins) {id:Nat} {ops:Array Oper} {draw:Bool} {y:Code} (ds:List Dir) (E' : List (Nat×AVal)) (S' : List (Nat×Obj)) {q:Prop} (hc:q) (W:List (Nat×Obj)) (hW:FW W S') (k:AW P C nt y E' S' Q) (h:(chkB L pins nt ops draw ds E S [] (ov W S'),arunC P C nt L ops ops.toList ds (lk E) (ls S),E'.map (fun p=>endE ops.toList (arunF L ops ops.toList ds (lk E) (ls S)) (lk E) p.1),((ov W S')).map (fun p=>endS (arunF L ops ops.toList ds (lk E) (ls S)) (ls S) (rhoL [] p.1)))
   = (true,q,E'.map (fun p=>p.2.ren (rhoL [])),((ov W S')).map (fun p=>some (p.2.ren (rhoL [])))):=by kernel_rfl):AW P C nt (.seq (.region id ops draw) y) E S Q:=AW.SW Fm ds (fun _=>q) E' S' hc W hW k h
theorem cT {p:Prop} (h:p):p∧True:=⟨h,True.intro⟩
theorem cA {p q:Prop} (h:p) (k:q):p∧q:=⟨h,k⟩
@[reducible] def lI {α:Type} (l:List α):Int:=((l.length:Nat):Int)
theorem AW.cN {t:Nat} {x y:Code} {b:Bool} {R:Type} {u v:Option R} {r:R} (h:br b u v=some r) (ht:b=true→u=some r→AW P C nt x E S Q) (hf:b=false→v=some r→AW P C nt y E S Q) (hb:lk E t=vb b:=by kernel_rfl):AW P C nt (.cond (.tmp t) x y) E S Q:=
 AW.cond hb (fun q=>ht q (br_t h q)) (fun q=>hf q (br_f h q))
theorem br_or {b:Bool} {R:Type} {u v:Option R} {r:R} (h:br b u v=some r):(b=true∧u=some r)∨(b=false∧v=some r):=by
 cases b
 ·exact .inr ⟨rfl,h⟩
 ·exact .inl ⟨rfl,h⟩
theorem gS {R:Type} {p:Prop} [Decidable p] {x:Option R} {r:R} (h:gd p x=some r):p∧x=some r:=gd_some h
theorem gS2 {R:Type} {p q:Prop} [Decidable p] [Decidable q] {x:Option R} {r:R} (h:gd p (gd q x)=some r):p∧q∧x=some r:=⟨(gd_some h).1,gd_some (gd_some h).2⟩
theorem gS3 {R:Type} {p q u:Prop} [Decidable p] [Decidable q] [Decidable u] {x:Option R} {r:R} (h:gd p (gd q (gd u x))=some r):p∧q∧u∧x=some r:=⟨(gd_some h).1,gS2 (gd_some h).2⟩
theorem gS4 {R:Type} {p q u v:Prop} [Decidable p] [Decidable q] [Decidable u] [Decidable v] {x:Option R} {r:R} (h:gd p (gd q (gd u (gd v x)))=some r):p∧q∧u∧v∧x=some r:=⟨(gd_some h).1,gS3 (gd_some h).2⟩
theorem bS {α R:Type} {x:Option α} {f:α→Option R} {r:R} (h:x.bind f=some r) : ∃ z,x=some z∧f z=some r:=bd_some h
theorem FI {f:Nat} {fn:Func} {c:Code} (hf:P.funcs[f]? = some fn) (hm:P.follows .mixedOrders=true) (hL:LOk P L) {args:List AVal} {S:List (Nat×Obj)} {r:AVal} {S' : List (Nat×Obj)}
  (h : ∀ C,Fr P L C (S.map (·.1))→AW P C fn.ntmps c (argsE args) S (retQ P fn C r S')) (hb:fn.body=some c:=by rfl) (hn0:Nat.ble args.length fn.ntmps=true:=by kernel_rfl):FSpec P f args S r S' := FSpec.intro hm hL hf hb hn0 h
end
end Go.Ab
end

section
namespace Go.Ab
section
variable {P:Program} {C:Ctx} {nt:Nat} {L:Lay} {ops:Array Oper} {ds:List Dir} {e:Env} {s:Sto} {k:Nat}
end
end Go.Ab
end

section
namespace Go.Ab
open Go.MapKept
section
variable {P:Program} {C:Ctx} {nt:Nat} {L:Lay} {R:Nat→Prop} {η:Nat→Value} {e:Env} {s:Sto} {a:Act} {w:World}
variable {ops:Array Oper} {ds:List Dir} {k:Nat}
end
section
variable {P:Program} {C:Ctx} {nt:Nat} {L:Lay} {pins:List Nat} {E:List (Nat×AVal)} {S:List (Nat×Obj)} {Q:Exit→Act→World→Prop}
end
end Go.Ab
end

section
namespace Go.Ab
open Go.MapKept
section
variable {P:Program} {C:Ctx} {nt:Nat} {L:Lay} {ops:Array Oper} {ds:List Dir} {e:Env} {s:Sto} {k:Nat}
end
section
variable {P:Program} {C:Ctx} {nt:Nat} {K:Act→World→Prop}
end
end Go.Ab
end

section
namespace Go.Ab
section
variable {P:Program} {C:Ctx} {nt:Nat} {L:Lay} {ops:Array Oper} {ds:List Dir} {e:Env} {s:Sto} {k:Nat}
end
end Go.Ab
end

section
namespace Go.Ab
inductive Term where
 | mk (op_ num_ more_:Int) (kids_:List Term)
namespace Term
def op_:Term→Int | mk o _ _ _=>o
def num_:Term→Int | mk _ n _ _=>n
def more_:Term→Int | mk _ _ m _=>m
def kids_:Term→List Term | mk _ _ _ k=>k
end Term
noncomputable def termR (t:Term):List DVal×(Nat→List DVal):=
 Term.rec (motive_1:=fun _=>List DVal×(Nat→List DVal)) (motive_2:=fun _=>Nat→List DVal)
  (fun o n m ks f=>([.int .i64 o,.int .i64 n,.int .i64 m,.lst ks.length f],f))
  (fun _=>[.int .i64 0,.int .i64 0,.int .i64 0,.lst 0 fun _=>[]])
  (fun _ _ h t i=>match i with | 0=>h.1 | i+1=>t i) t
noncomputable def KC (t:Term):Nat→List DVal:=(termR t).2
noncomputable def DK (t:Term):DVal:=.lst t.kids_.length (KC t)
noncomputable instance:Emb Term:=⟨fun t=>[.int .i64 t.op_,.int .i64 t.num_,.int .i64 t.more_,DK t],4,⟨0,0,0,[]⟩,fun _=>rfl⟩
end Go.Ab
end

section
namespace Go.Ab
section
variable {P:Program} {C:Ctx} {nt:Nat} {L:Lay} {ops:Array Oper} {ds:List Dir} {e:Env} {s:Sto}
end
end Go.Ab
end
