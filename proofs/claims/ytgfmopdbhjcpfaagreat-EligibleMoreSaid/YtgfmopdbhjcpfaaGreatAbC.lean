/- Abstract states over the model. -/
import Derived.Test.YtgfmopdbhjcpfaaGreatAbB
import Derived.Test.YtgfmopdbhjcpfaaGreatPuA
import Derived.Sort.AssemblyPlain
import Derived.Lib.BitFns
import Derived.Shelf.SortM.Plain
import Derived.Shelf.SortM.SortNone
import Derived.Shelf.SlSortCmp.WholeK
import Derived.Shelf.SlSortCmp.NoneTotal
import Derived.WalkKit
import Derived.ProofKit
import Derived.OpenShut
import Derived.Carry
import Derived.ChangeSame
import Derived.ChangeSlices
import Derived.Laws.Small
import Derived.Laws.Entries
import Derived.Shelf.Spec.SlicesGrow
import Derived.Deep.Slices
import Derived.ChangeArms
import Derived.Maps.Own
import Derived.Lib.SlKeysI
import Derived.Shelf.SlIterI.Nil
import Derived.Maps.RangeRun
import Derived.Laws.IdiomRangeMap
import Derived.ChangeKeysEq
import Derived.LoopN
set_option linter.unusedVariables false
set_option linter.unusedSimpArgs false
namespace Go.Ab
noncomputable section
section
section
variable {α:Type} [Emb α]
def clr (l:List α) (lo n:Nat):List α:=(List.range l.length).map fun i=>if lo<=i/\i<lo+n then Emb.d else gl l i
theorem Is.of_gl {f:Nat->List DVal} {N:Nat} (l:List α) (h:l.length=N) (hf:∀ i,i<N->f i=Emb.cells (gl l i)):Is N f l:=by
 subst h;refine ⟨rfl,fun i a=>?_⟩
 rw [hf i a];rfl
theorem Y3h (N:Nat) (f:Nat->α) (i:Nat) (h:i<N):gl ((List.range N).map f) i=f i:=by simp [gl,List.getD_eq_getElem?_getD,h]
theorem Is.clr {l:List α} (lo n:Nat) {zd:List DVal} (hz:zd=Emb.cells (Emb.d:α)):Is l.length (fun i=>if lo<=i/\i<lo+n then (fun _=>zd) (i-lo) else LF l i) (clr l lo n):=by
 refine Is.of_gl _ (by simp [Go.Ab.clr]) fun i a=>?_
 rw [Go.Ab.clr,Y3h _ _ _ a]
 by_cases h:lo<=i/\i<lo+n
 ·rw [if_pos h,if_pos h,hz]
 ·rw [if_neg h,if_neg h];rfl
end
end
section
open Go.Sort
def Z6j (l:List Int):Option (List Int):=if l.length<=LIM then some (l.mergeSort fun x y=>decide (x<=y)) else none
theorem Y4E {l r:List Int} (h:Z6j l=some r):l.length<=LIM/\r=l.mergeSort fun x y=>decide (x<=y):=by
 unfold Z6j at h;split at h
 ·cases h;exact ⟨‹_›,rfl⟩
 ·cases h
def ltC {α:Type} (cf:α->α->Int) (x y:α):Bool:=decide (cf x y<0)
section
variable {α:Type} [Emb α]
def Q8S (cf:α->α->Int) (l:List α):List α:=(@pdq α ⟨Emb.d⟩ (ltC cf) l.toArray 0 l.length (Lib.bitLen l.length) true true).toList
open Classical in
noncomputable def Z9p (l:List α) (q:α->α->Option Int):Option (List α):=
 if h:l.length<=LIM/\∃ cf:α->α->Int,SWO (ltC cf)/\∀ x y,q x y=some (cf x y) then some (Q8S h.2.choose l) else none
theorem Y7y {l:List α} {q:α->α->Option Int} (cf:α->α->Int) (hl:l.length<=LIM) (hO:SWO (ltC cf)) (hq:∀ x y,q x y=some (cf x y)):Z9p l q=some (Q8S cf l):=by
 have h:l.length<=LIM/\∃ cf:α->α->Int,SWO (ltC cf)/\∀ x y,q x y=some (cf x y):=⟨hl,cf,hO,hq⟩;unfold Z9p
 rw [dif_pos h];have e:h.2.choose=cf:=by
  funext x y
  have:=(h.2.choose_spec.2 x y).symm.trans (hq x y)
  exact Option.some.inj this
 rw [e]
theorem Y4G {l r:List α} {q:α->α->Option Int} (h:Z9p l q=some r):l.length<=LIM/\∃ cf:α->α->Int,SWO (ltC cf)/\(∀ x y,q x y=some (cf x y))/\r=Q8S cf l:=by
 unfold Z9p at h;split at h
 ·rename_i a
  cases h
  exact ⟨a.1,a.2.choose,a.2.choose_spec.1,a.2.choose_spec.2,rfl⟩
 ·cases h
end
section
variable {α:Type}
end
def Z9y {α:Type} (n:Int):Option (List α):=if 0<=n/\n<=LIM then some [] else none
end
section
open Go.Sort Go.Proofs Go.Shelf
theorem Z9u {α:Type} [Inhabited α] (enc:α->Value) (w:World) (b off n:Nat) (d:Array α) (os:Array Go.Obj) {c:Array Value} {e:TypeId} {fz:Nat×Nat} (hb:w.heap[b]?=some (.cells c e fz)) :
  (grow (putRow enc (Go.Sort.ahead w n) b off d) os).heap[b]?=some (.cells (putCells enc off d c) e fz):=by
 have a:b<w.heap.size:=K8 hb;unfold grow
 rw [Array.getElem?_append];rw [if_pos (by simpa using a)]
 unfold putRow mapBlock;simp only [Array.getElem?_modify,if_true]
 show Option.map _ (w.heap[b]?)=_;rw [hb]
 rfl
theorem Z6S {α:Type} [Inhabited α] (enc:α->Value) (w:World) (b off n:Nat) (d:Array α) (os:Array Go.Obj):Stp (fun x=>x=b) w (grow (putRow enc (Go.Sort.ahead w n) b off d) os):=by
 refine ⟨rfl,rfl,rfl,by simp [Go.Sort.ahead],fun x c a=>?_,Nat.le_add_right _ _⟩;unfold grow
 rw [Array.getElem?_append];rw [if_pos (by simpa [Go.Sort.ahead] using c)]
 unfold putRow mapBlock;simp only [Array.getElem?_modify]
 rw [if_neg (Ne.symm a)];rfl
theorem Z4y {α:Type} [Inhabited α] (enc:α->Value) (off:Nat) (d:Array α) (c:Array Value):(putCells enc off d c).size=c.size:=by simp [putCells]
theorem Z6A {α:Type} [Inhabited α] (enc:α->Value) (d:Array α) (c:Array Value) (j:Nat) (hj:j<d.size) (hs:d.size<=c.size):(putCells enc 0 d c).getD j undef=enc d[j]! := by
 have a:j<c.size:=by omega
 simp [putCells,a,hj]
theorem Y8V (l:List Int) (i:Nat):LF l i=[.int .i64 (l.getD i 0)]:=rfl
theorem Y1x {w w' : World} {X:Nat->Prop} {η:Nat->Value} {α:Type} [Emb α] {l r:List α} {b n cap:Nat} {c' : Array Value} {e:TypeId} (hη:η 0=.slice (some ⟨b,0,none⟩) n cap) (h0:0<cap)
  (hstp:Stp (fun x=>x=b) w w') (hh:w'.heap[b]?=some (.cells c' e (0,0))) (hs:c'.size=cap*Emb.es α) (hr:r.length=n) (hn:n<=cap) (hm:cap<=maxLen)
  (hd:∀ i j,i<n->j<Emb.es α->DRep w' X (c'.getD (i*Emb.es α+j) undef) ((LF r i).getD j .any)) (hX:∀ x,X x->x<w.heap.size) (hXb:X b) :
  Behind (J4 [(0,AO l)] w X η) .any [(0,AO r)] (.tuple #[]) η w':=by
 subst hr;have d:∀ x,x ∈ Y7 (η 0)↔x=b:=by intro x;rw [hη];simp [Y7];omega
 have c:∀ i o,ls [(0,AO (α:=α) r)] i=some o->i=0/\o=AO r:=by
  intro i o a;rw [U5] at a
  by_cases h:i=0
  ·rw [if_pos h] at a;cases a;exact ⟨h,rfl⟩
  ·rw [if_neg h] at a;cases a
 have p:∀ x,x=b->(J4 [(0,AO (α:=α) l)] w X η).M x:=by
  rintro x rfl;exact ⟨0,AO l,by rw [U5,if_pos rfl],rfl,(d _).2 rfl⟩
 have m:∀ x,XS (J4 [(0,AO (α:=α) l)] w X η) (ls [(0,AO (α:=α) r)]) η x->X x:=by
  rintro x (⟨f,_⟩|⟨i,o,a,hib⟩)
  ·exact f
  ·obtain ⟨rfl,_⟩:=c i o a
   rw [(d x).1 hib];exact hXb
 refine ⟨hstp.mono fun x _ f=>p x f,.any _,fun i o a=>?_,fun i j x a g _ _=>?_,fun i o x a t=>?_,fun i v a=>?_⟩
 ·obtain ⟨rfl,rfl⟩:=c i o a
  rw [hη];refine .arr b _ cap _ c' e _ hh hs hn hm h0 (Is.refl r).len fun i j a g=>?_
  exact (hd i j a g).mono fun x _ f=>⟨rfl,fun k=>f (m x k)⟩
 ·obtain ⟨s,a⟩:=Option.ne_none_iff_exists'.1 a
  obtain ⟨q,g⟩:=Option.ne_none_iff_exists'.1 g;rw [(c i s a).1,(c j q g).1]
 ·obtain ⟨rfl,rfl⟩:=c i o a
  exact .inr (.inl (p x ((d x).1 t)))
 ·change (if ((List.lookup i [(0,AO (α:=α) l)]).isSome=true) then some (η i) else none)=some v at a
  split at a
  ·cases a;rfl
  ·cases a
theorem Z9B {w:World} {X:Nat->Prop} {η:Nat->Value} {α:Type} [Emb α] {l:List α} {ad:Option Addr} (hη:η 0=.slice ad 0 0) (hX:∀ x,X x->x<w.heap.size) :
  Behind (J4 [(0,AO l)] w X η) .any [(0,AO ([]:List α))] (.tuple #[]) η w:=by
 have c:∀ x,x ∉ Y7 (η 0):=by intro x;rw [hη];cases ad <;> simp [Y7]
 have b:∀ i o,ls [(0,AO ([]:List α))] i=some o->i=0/\o=AO ([]:List α):=by
  intro i o a;rw [U5] at a
  by_cases h:i=0
  ·rw [if_pos h] at a;cases a;exact ⟨h,rfl⟩
  ·rw [if_neg h] at a;cases a
 refine ⟨Stp.refl _ _,.any _,fun i o a=>?_,fun i j x a d _ _=>?_,fun i o x a g=>?_,fun i v a=>?_⟩
 ·obtain ⟨rfl,rfl⟩:=b i o a
  rw [hη];exact .nil _ _ _
 ·obtain ⟨f,a⟩:=Option.ne_none_iff_exists'.1 a
  obtain ⟨e,d⟩:=Option.ne_none_iff_exists'.1 d;rw [(b i f a).1,(b j e d).1]
 ·obtain ⟨rfl,rfl⟩:=b i o a
  exact absurd g (c x)
 ·change (if ((List.lookup i [(0,AO (α:=α) l)]).isSome=true) then some (η i) else none)=some v at a
  split at a
  ·cases a;rfl
  ·cases a
theorem W0B {vs:Array Value} (h:vs.size=1):vs=#[vs.getD 0 undef]:=by
 apply Array.ext
 ·simpa using h
 ·intro i a b
  have:i=0:=by omega
  subst this;simp [a]
theorem Y7o {vs:Array Value} (h:vs.size=2):vs=#[vs.getD 0 undef,vs.getD 1 undef]:=by
 apply Array.ext
 ·simpa using h
 ·intro i a b
  have:i=0\/i=1:=by omega
  rcases this with rfl|rfl <;> simp [a]
theorem Y3z {P:Program} {ρ:Ren} (Ly:SlLaysM.n5 P ρ) {x r:List Int} (h:Z6j x=some r):Q7 P (ρ.f 5) [.v (.c (.own 0))] [(0,AO (α:=Int) x)] .any [(0,AO (α:=Int) r)]:=by
 obtain ⟨N,rfl⟩:=Y4E h;intro w X η K L k p O g m
 have g:K.size=1:=g;have I:K.getD 0 undef=η 0:=Q6H (C:=J4 [(0,AO (α:=Int) x)] w X η) (s:=ls [(0,AO (α:=Int) x)]) (by have:=m 0 (by simp);rw [Y0a k];exact this)
 rw [W0B g,I];have A:=p 0 (AO x) (by rw [U5,if_pos rfl])
 have J:∀ b,b ∈ Y7 (η 0)->X b:=fun b E=>k b ⟨0,_,by rw [U5,if_pos rfl],E⟩
 generalize hu:η 0=u at A;unfold AO at A
 generalize hn:x.length=n at A
 cases A with
 | nil ad=>
  have Q:x=[]:=List.eq_nil_of_length_eq_zero hn;refine (AnyM.slices_Sort_int_none Ly ad 0 w).mono fun e S F=>?_
  obtain ⟨R,B⟩:=F;refine ⟨_,η,R,?_⟩
  rw [B];have E:=Z9B (w:=w) (X:=X) (l:=x) hu L
  subst Q;simpa using E
 | arr b _ cap _ c e _ h1 h2 h3 h4 h5 h6 h7=>
  have d:Emb.es Int=1:=rfl
  rename_i n
  have o:∀ j,j<n->c.getD j undef=.int .i64 (x.getD j 0):=by
   intro j z;have:=h7 j 0 z (by rw [d];omega)
   rw [d,Nat.mul_one,Nat.add_zero,Y8V] at this;have M:DRep w X (c.getD j undef) (.int .i64 (x.getD j 0)):=this
   generalize c.getD j undef=u at M
   cases M;rfl
  have U:c.size=cap:=by rw [h2,d,Nat.mul_one]
  have V:Holds (Value.int .i64) w b 0 x.toArray:=by
   intro j z;have D : j<n:=by simpa [hn] using z
   have G:j<x.length:=by omega
   have t:j<c.size:=by omega
   refine ⟨?_,by simp [World.frozen?,h1]⟩;have:=o j D
   simp only [Nat.zero_add,World.cell?,h1,Option.isSome_none,Bool.false_eq_true,if_false];simp only [t,Array.getD,dite_true] at this
   rw [Array.getElem?_eq_getElem t];congr 1
   refine Eq.trans this ?_;simp [G]
  rw [<-hn];refine ((AnyM.slices_Sort_int Ly b 0 cap x w V (K8 h1) (by simp only [LIM] at N;omega)).mono fun Z S F=>?_)
  ·obtain ⟨rfl,q,Y,B⟩:=F
   subst B;refine ⟨_,η,rfl,?_⟩
   have a:(x.mergeSort fun x y=>decide (x<=y)).length=n:=by rw [List.length_mergeSort];exact hn
   refine Y1x (c':=putCells (Value.int .i64) 0 (x.mergeSort fun x y=>decide (x<=y)).toArray c) (e:=e) (b:=b) (n:=n) (cap:=cap) hu h5 (Z6S _ _ _ _ _ _ _) (Z9u _ _ _ _ _ _ _ h1) (by rw [Z4y];exact h2) a h3 h4 (fun i j T z=>?_) L (J b (by rw [hu];simp [Y7];omega));have H:j=0:=by rw [d] at z;omega
   subst H;rw [d,Nat.mul_one,Nat.add_zero,Z6A _ _ _ _ (by simpa [a] using T) (by simp only [List.size_toArray,a];omega),Y8V]
   have:i<(x.mergeSort fun x y=>decide (x<=y)).length:=by omega
   have W:(x.mergeSort fun x y=>decide (x<=y)).toArray[i]! = (x.mergeSort fun x y=>decide (x<=y)).getD i 0:=by
    simp [List.getD_eq_getElem?_getD,this]
   rw [W];exact .int _ _
end
section
open Go.Sort Go.Proofs Go.Shelf
def DVal.lit:DVal->Bool
 | .int _ _=>true
 | .bool _=>true
 | .str _=>true
 | _=>false
def DVal.val:DVal->Value
 | .int k n=>.int k n
 | .bool b=>.bool b
 | .str s=>.string s
 | _=>undef
theorem DRep.lit {w:World} {X:Nat->Prop} {v:Value} {d:DVal} (h:DRep w X v d) (hd:d.lit=true):v=d.val:=by
 cases h <;> first|rfl|cases hd
theorem DVal.rep (w:World) (X:Nat->Prop) {d:DVal} (hd:d.lit=true):DRep w X d.val d:=by
 cases d with
 | int k n=>exact .int k n
 | bool b=>exact .bool b
 | str s=>exact .str s
 | _=>cases hd
theorem DVal.val_one {d:DVal} (hd:d.lit=true):d.val.oneCell'=true:=by
 cases d <;> first|rfl|cases hd
theorem Y7s {w w' : World} (h:Stp (fun _=>False) w w'):∃ q os,w'=grow (w.drewN q) os:=by
 refine ⟨w'.drawn-w.drawn,w'.heap.extract w.heap.size w'.heap.size,?_⟩;have e:w'.heap=w.heap++w'.heap.extract w.heap.size w'.heap.size:=by
  apply Array.ext_getElem?;intro k
  rw [Array.getElem?_append];split
  ·rename_i a;exact h.block k a fun c=>c
  ·rename_i a
   rw [Array.getElem?_extract];have f:=h.size
   by_cases h2:k<w'.heap.size
   ·rw [if_pos (by omega)];congr 1;omega
   ·rw [if_neg (by omega),Array.getElem?_eq_none (by omega)]
 have d:=h.dr;have b:w'=⟨w'.heap,w'.tape,w'.drawn,w'.os,w'.output⟩:=rfl
 rw [b,h.tape,h.os,h.output];unfold grow World.drewN
 congr 1
 simp only
 omega
theorem Z7Z {β:Type} (l:List β) (j:Nat) (h:j<l.length) (d:β):l.getD j d=l[j]:=by
 rw [List.getD_eq_getElem?_getD,List.getElem?_eq_getElem h];rfl
theorem Y2w {β:Type} [Inhabited β] (l:List β) (j:Nat) (h:j<l.length) (d:β):l.getD j d=l[j]! := by
 rw [Z7Z l j h d,getElem!_pos l j h]
theorem Z5n (l:List DVal) (j:Nat) (h:j<l.length):(l.map DVal.val).getD j undef=(l[j]).val:=by
 rw [Z7Z _ j (by simpa using h)];simp
theorem Y3A {α:Type} [Emb α] {P:Program} {L:Lay} (hL:LOk P L) {ρ:Ren} (Ly:SlLaysF0.n6 P ρ) (hlit:∀ x:α,(Emb.cells x).all DVal.lit=true) {te:TI} (hte:L (ρ.t 24)=some te) (hagg:te.kind.agg=true) (hsz:te.size=Emb.es α)
  (F:(α->α->Option Int)->List AVal->AVal->Prop) (hF:∀ q x y z,q x y=some z->F q [.v (.g ((Emb.cells x).map .d)),.v (.g ((Emb.cells y).map .d))] (vi z)) {x r:List α} {q:α->α->Option Int} (h:Z9p x q=some r) :
  Q7 P (ρ.f 6) [.v (.c (.own 0)),Z4o P (F q)] [(0,AO (α:=α) x)] .any [(0,AO (α:=α) r)]:=by
 obtain ⟨hl,o,hO,hq,rfl⟩:=Y4G h;obtain ⟨ti,td,tz,T⟩:=hL _ _ hte
 letI inst:Inhabited α:=⟨Emb.d⟩
 let enc:α->List Value:=fun x=>(Emb.cells x).map DVal.val
 have hk:∀ x,(enc x).length=Emb.es α:=fun x=>by simp [enc,Emb.len]
 have h1:∀ x,∀ v ∈ enc x,v.oneCell'=true:=by
  intro x v hv;obtain ⟨d,hd,rfl⟩:=List.mem_map.1 hv
  exact DVal.val_one (List.all_eq_true.1 (hlit x) d hd)
 intro w X η W hX E V d4 D B;have D:W.size=2:=D
 have b3:W.getD 0 undef=η 0:=Q6H (C:=J4 [(0,AO (α:=α) x)] w X η) (s:=ls [(0,AO (α:=α) x)]) (by have:=B 0 (by simp);rw [Y0a E];exact this);have c1:J5 P (F q) w (Own (ls [(0,AO (α:=α) x)]) η) X (W.getD 1 undef):=by
  have:=B 1 (by simp)
  change ARep w X η _ (W.getD 1 undef) (Z4o P (F q)) at this;generalize W.getD 1 undef=u at this
  cases this with|v _ _ p=>cases p with|c _ _ p=>cases p with|sem _ _ p _=>exact p
 rw [Y7o D,b3];have ho:=V 0 (AO x) (by rw [U5,if_pos rfl])
 have c3:∀ b,b ∈ Y7 (η 0)->X b:=fun b hb=>E b ⟨0,_,by rw [U5,if_pos rfl],hb⟩
 generalize hu:η 0=u at ho;have k:(Q8S o x).length=x.length:=by
  have:=(pdq_sorts (ltC o) hO x.toArray 0 x.length (Lib.bitLen x.length) true true (Nat.zero_le _) (by simp) (.inl rfl)).1.1
  unfold Q8S;simpa using this
 unfold AO at ho;generalize hn:x.length=n at ho
 cases ho with
 | nil ad=>
  have hx:x=[]:=List.eq_nil_of_length_eq_zero hn;refine (AnyF.slices_SortFunc_none Ly ad 0 _ w).mono fun e w' p=>?_
  obtain ⟨Z,hw⟩:=p;refine ⟨_,η,Z,?_⟩
  rw [hw];have hb:=Z9B (w:=w) (X:=X) (l:=x) hu hX
  have hp:Q8S o x=[]:=List.eq_nil_of_length_eq_zero (by rw [k,hn]);rw [hp];exact hb
 | arr b _ cap _ c e _ g1 g2 g3 g4 g5 g6 g7=>
  rename_i n
  obtain ⟨U,H,b2,Q,a2⟩:=c1;rw [b2]
  have c6:∀ i,i<n->(LF x i)=Emb.cells (x.getD i Emb.d):=fun i _=>rfl
  have N:∀ i j,i<n->j<Emb.es α->c.getD (i*Emb.es α+j) undef=(enc (x.getD i Emb.d)).getD j undef:=by
   intro i j hi A;have h0:=g7 i j hi A
   have a : j<(Emb.cells (x.getD i Emb.d)).length:=by rw [Emb.len];exact A
   have e1:(LF x i).getD j .any=(Emb.cells (x.getD i Emb.d))[j]:=Z7Z _ _ a _;rw [e1] at h0
   have h2:=h0.lit (List.all_eq_true.1 (hlit _) _ (List.getElem_mem a));rw [h2]
   exact (Z5n _ _ a).symm
  have K:∀ t,t<n*Emb.es α->c.getD t undef=(flatK enc (Emb.es α) x.toArray)[t]! := by
   intro t ht;have R:0<Emb.es α:=by
    rcases Nat.eq_zero_or_pos (Emb.es α) with hz|hz
    ·rw [hz,Nat.mul_zero] at ht;omega
    ·exact hz
   have p1:t / Emb.es α<n:=Nat.div_lt_of_lt_mul (by rw [Nat.mul_comm];exact ht);have p2:t % Emb.es α<Emb.es α:=Nat.mod_lt _ R
   have:=N _ _ p1 p2
   rw [show t / Emb.es α*Emb.es α+t % Emb.es α=t from by rw [Nat.mul_comm];exact Nat.div_add_mod t _] at this;rw [this,get_flatK _ _ _ _ (by simpa [hn] using ht)]
   have e2:x.toArray[t / Emb.es α]! = x.getD (t / Emb.es α) Emb.d:=by
    have:t / Emb.es α<x.length:=by omega
    simp [List.getD_eq_getElem?_getD,this]
   rw [e2];have:t % Emb.es α<(enc (x.getD (t / Emb.es α) Emb.d)).length:=by rw [hk];exact p2
   exact Y2w _ _ this _
  have hH:HoldsK enc (Emb.es α) w b 0 x.toArray:=by
   intro t ht;have b9 : t<n*Emb.es α:=by simpa [hn] using ht
   have S:t<c.size:=by
    have:n*Emb.es α<=cap*Emb.es α:=Nat.mul_le_mul_right _ g3
    omega
   refine ⟨?_,by simp [World.frozen?,g1]⟩;have:=K t b9
   simp only [Nat.zero_add,World.cell?,g1,Option.isSome_none,Bool.false_eq_true,if_false,id];rw [Array.getElem?_eq_getElem S]
   congr 1
   rw [<-this];simp [S]
  have J:b ∈ Y7 (η 0):=by rw [hu];simp [Y7];omega
  have Y:CmpLays P U H enc (Emb.es α) o b 0 x.toArray.size w:=by
   intro m os dk e8 u v;have O:=Z6S id w b 0 m (flatK enc (Emb.es α) dk) os
   have I:∀ (w1:World) (z:α) η C,ARep w1 X η C (.agg (enc z).toArray) (.v (.g ((Emb.cells z).map .d))):=by
    intro w1 z η' C';refine .v _ _ (.g _ _ ⟨by simp [enc],fun j A=>?_⟩)
    have a : j<(Emb.cells z).length:=by simpa using A
    have e1:(enc z).toArray.getD j undef=((Emb.cells z)[j]).val:=by
     have:(enc z).toArray.getD j undef=(enc z).getD j undef:=by simp [List.getD_eq_getElem?_getD]
     rw [this];exact Z5n _ _ a
    have e2:((Emb.cells z).map CV.d).getD j (.d .any)=.d ((Emb.cells z)[j]):=by rw [Z7Z _ j (by simpa using a)];simp
    rw [e1,e2];exact .d _ _ (DVal.rep _ _ (List.all_eq_true.1 (hlit z) _ (List.getElem_mem a)))
   refine (a2 (grow (putRow id (Go.Sort.ahead w m) b 0 (flatK enc (Emb.es α) dk)) os) X #[.agg (enc u).toArray,.agg (enc v).toArray] _ _ (hF q u v (o u v) (hq u v)) O.size (fun y hy hD=>O.block y hy fun e=>hD ?_)
    (fun y hy=>Nat.lt_of_lt_of_le (hX y hy) O.size) (fun y _ _=>Iff.rfl) rfl (fun j A η C=>?_)).mono fun e2 w2 p=>?_
   ·rw [e];exact ⟨0,_,by rw [U5,if_pos rfl],J⟩
   ·have:j=0\/j=1:=by simp at A;omega
    rcases this with rfl|rfl
    ·exact I _ _ _ _
    ·exact I _ _ _ _
   ·obtain ⟨v',Z,a9,hr⟩:=p
    have c0:=hr η (J4 [] w X η);have e3:v'=.int .i64 (o u v):=by
     cases c0 with|v _ _ p=>cases p with|c _ _ p=>cases p with|d _ _ p=>cases p;rfl
    obtain ⟨qq,b6,b5⟩:=Y7s a9;exact ⟨by rw [Z,e3],qq,b6,b5⟩
  rw [<-hn];have M:=AnyQ.slices_SortFunc_eq Ly (Emb.es α) (fun w=>by rw [Z5z T w,hagg]) (fun w=>by rw [K7 T,hsz]) enc hk h1 o hO U H b 0 cap x.toArray w Q Y hH (K8 g1) (by simp only [List.size_toArray];simp only [LIM] at hl;omega)
  refine M.mono fun e' w' p=>?_
  obtain ⟨Z,nn,os,hw⟩:=p;refine ⟨_,η,Z,?_⟩
  have c2:w'=grow (putRow id (Go.Sort.ahead w nn) b 0 (flatK enc (Emb.es α) (Q8S o x).toArray)) os:=hw;rw [c2]
  refine Y1x (c':=putCells id 0 (flatK enc (Emb.es α) (Q8S o x).toArray) c) (e:=e) (b:=b) (n:=n) (cap:=cap) hu g5 (Z6S _ _ _ _ _ _ _) (Z9u _ _ _ _ _ _ _ g1) (by rw [Z4y];exact g2) (by rw [k,hn]) g3 g4 (fun i j hi A=>?_) hX (c3 b J);have a1:i*Emb.es α+j<n*Emb.es α:=by
   have:(i+1)*Emb.es α<=n*Emb.es α:=Nat.mul_le_mul_right _ hi
   rw [Nat.add_mul,Nat.one_mul] at this;omega
  have G:(flatK enc (Emb.es α) (Q8S o x).toArray).size=n*Emb.es α:=by simp [k,hn]
  rw [Z6A _ _ _ _ (by rw [G];exact a1) (by rw [G,g2];exact Nat.mul_le_mul_right _ g3)];rw [get_flatK _ _ _ _ (by simpa [k,hn] using a1)]
  have d1:(i*Emb.es α+j) / Emb.es α=i:=by
   rw [Nat.add_comm,Nat.add_mul_div_right _ _ (by omega),Nat.div_eq_of_lt A,Nat.zero_add]
  have d2:(i*Emb.es α+j) % Emb.es α=j:=by rw [Nat.add_comm,Nat.add_mul_mod_self_right,Nat.mod_eq_of_lt A]
  rw [d1,d2];have e4:(Q8S o x).toArray[i]! = (Q8S o x).getD i Emb.d:=by
   have:i<(Q8S o x).length:=by omega
   simp [List.getD_eq_getElem?_getD,this]
  rw [e4];have a : j<(Emb.cells ((Q8S o x).getD i Emb.d)).length:=by rw [Emb.len];exact A
  have e5:(enc ((Q8S o x).getD i Emb.d))[j]! = ((Emb.cells ((Q8S o x).getD i Emb.d))[j]).val:=by
   rw [<-Y2w (enc ((Q8S o x).getD i Emb.d)) j (by rw [hk];exact A) undef];exact Z5n _ _ a
  have e6:(LF (Q8S o x) i).getD j .any=(Emb.cells ((Q8S o x).getD i Emb.d))[j]:=Z7Z _ _ a _;rw [e5,e6]
  exact DVal.rep _ _ (List.all_eq_true.1 (hlit _) _ (List.getElem_mem a))
end
section
open Go.ChangeShapes Go.WideShapes Go.ChangeAt Go.RowKit
theorem Y4p {w:World} {a:Addr} {v:Value} (h:w.cell? a=some v):a.spot=none/\∃ c e fz,w.heap[a.block]?=some (.cells c e fz)/\a.off<c.size/\c.getD a.off undef=v:=by
 unfold World.cell? at h;split at h
 ·rename_i c e fz d
  split at h
  ·cases h
  ·rename_i f
   obtain ⟨b,g⟩:=Array.getElem?_eq_some_iff.1 h;exact ⟨by simpa using f,c,e,fz,d,b,by simp [b,g]⟩
 ·cases h
theorem Y8S (b o i:Nat):(⟨b,o,none⟩:Addr).add i=⟨b,o+i,none⟩:=add_lit b o i
theorem Y7c {w:World} {a:Addr} {len cap:Nat} {zs:List Int} (hl:len<=cap) (hz:len<=zs.length) (hc:∀ i,i<zs.length->w.cell? (a.add i)=some (.int .i64 (zs.getD i 0))) :
  DRep w (fun _=>False) (.slice (some a) len cap) (DL (α:=Int) (zs.take len)):=by
 have q:(zs.take len).length=len:=by simp;omega
 unfold DL;rw [q]
 by_cases h0:len=0
 ·subst h0;exact .nil _ _ _
 ·have n:a.spot=none:=by
   have:=(Y4p (hc 0 (by omega))).1
   cases hsp:a.spot with
   | none=>rfl
   | some s=>simp [Addr.add,hsp] at this
  obtain ⟨b,d,x⟩:=a;simp only at n
  subst n;have l : ∀ i,i<zs.length->∃ c e m,w.heap[b]?=some (.cells c e m)/\d+i<c.size/\c.getD (d+i) undef=.int .i64 (zs.getD i 0):=by
   intro i g;have:=hc i g
   rw [Y8S] at this;exact (Y4p this).2
  obtain ⟨c,e,m,o,_,_⟩:=l 0 (by omega);have f:∀ i,i<zs.length->d+i<c.size/\c.getD (d+i) undef=.int .i64 (zs.getD i 0):=by
   intro i g;obtain ⟨y,z,p,k,u,r⟩:=l i g
   rw [o] at k;cases k
   exact ⟨u,r⟩
  refine .lst b d len cap c e m _ 1 (fun h=>h) o hl (by have:=(f (len-1) (by omega)).1;omega) (fun i _=>rfl) fun i j g A=>?_
  have:j=0:=by omega
  subst this;rw [Nat.mul_one,Nat.add_zero,(f i (by omega)).2]
  have t:((LF (zs.take len) i).getD 0 .any)=.int .i64 ((zs.take len).getD i 0):=rfl;rw [t]
  have v:(zs.take len).getD i 0=zs.getD i 0:=by simp [List.getD_eq_getElem?_getD,List.getElem?_take,g]
  rw [v];exact .int _ _
theorem Y5a {H:Type} {enc:TypeId×Value->H} {P:Program} {W:World} {t e:TypeId} {v:Value} {d:DataW H} {ps:List MemPlace} (ht:P.underlying t=some (.slice e)) (he:P.underlying e=some (.int .i64)) (hc:P.cellsOf e=1) {r:Reach} {b0:Nat}
  (hv:Value.okWide P W r b0 t v) (hd:DataW.Trod enc P W 0 (fun _=>true) true t v d ps):∃ l:List Int,DRep W (fun _=>False) v (DL l)/\∀ n ∈ l,(Lit.int .i64 n).wf=true:=by
 obtain ⟨i,p⟩:=hd;obtain ⟨u,h,s,rfl⟩:=okWide_slice ht hv
 rcases open_ints ht he hc p with ⟨b,o⟩|⟨a,k,j,zs,b,x,m,w,q,o,c,g⟩
 ·simp [Value.cells] at b
  obtain ⟨rfl,rfl,rfl⟩:=b;exact ⟨[],.nil _ _ _,fun n f=>by cases f⟩
 ·simp [Value.cells] at b
  obtain ⟨rfl,rfl,rfl⟩:=b;simp only [if_true] at q
  exact ⟨zs.take h,Y7c m (by omega) c,fun n f=>g n (List.mem_of_mem_take f)⟩
theorem Z6f {H:Type} {enc:TypeId×Value->H} {P:Program} (hl:laidOutB P=true) {W W' : World} (hb:Below W.heap.size W W'):∀ {ts:List TypeId} {vs:List Value} {ds:List (DataW H)} {ps:List MemPlace},
  ts.all (fun t=>P.readableRec t&&decide (t<P.types.size))=true->DataW.TrodAll enc P W 0 (fun _=>true) true ts vs ds ps->(∀ x ∈ ps,x.block<W.heap.size)->∀ sp:Nat->Bool,(∀ x ∈ ps,sp x.block=true)->DataW.TrodAll enc P W' 0 sp true ts vs ds ps
 | [],[],[],_,_,h,_,_,_=>h
 | t::ts,v::vs,d::ds,ps,hr,⟨p,q,h1,h2,e⟩,hlt,sp,hs=>by
  simp only [List.all_cons,Bool.and_eq_true,decide_eq_true_eq] at hr;subst e
  exact ⟨p,q,WideElems.Trod_stays hl hr.1.1 hr.1.2 h1 (fun x a=>hb.same (hlt x (List.mem_append_left _ a))) (fun x a=>hs x (List.mem_append_left _ a)),
   Z6f hl hb hr.2 h2 (fun x a=>hlt x (List.mem_append_right _ a)) sp (fun x a=>hs x (List.mem_append_right _ a)),rfl⟩
theorem Y4Y {H:Type} {enc:TypeId×Value->H} {P:Program} (hl:laidOutB P=true) {fn:Func} {s:ChangeSpec} {W W' : World} {args:Array Value} {ds gs:List (DataW H)} {before:List MemPlace} {apart fresh handsOn again:Bool}
  (hW:DataW.Whole enc P fn.params.toList s.vars apart W args.toList ds gs before) (hv:s.vars=[]) (hs:s.fn H (ds++gs)={ results:=[.lit (.bool true)],args:=ds }) (hr:fn.params.toList.all (fun t=>P.readableRec t&&decide (t<P.types.size))=true)
  {t:TypeId} (hres:fn.resultTypes=#[t]) (ht:P.underlying t=some .bool) (hb:Below W.heap.size W W'):s.post enc P fn apart fresh handsOn again W args (.bool true) W':=by
 have g:=hW.lt;have k:=hW
 obtain ⟨p,q,y,o,u,B,w⟩:=hW;rw [hv] at o
 obtain ⟨rfl,rfl⟩:=trodVars_none o;rw [List.append_nil] at u
 subst u;have m:∀ (j:Nat) (t' : TypeId) (r:Value),fn.resultTypes[j]?=some t' -> ((Value.bool true).resultList fn.resultTypes.size)[j]?=some r->Value.okWide P W' .any 0 t' r:=ok_one hres rfl (okWide_bool_mk ht _)
 have h:∀ x ∈ before,(fun b=>decide (b<W.heap.size)) x.block=true:=fun x e=>by simpa using g x e
 have f:∀ a:Nat->Bool,(∀ x ∈ before,a x.block=true)->DataW.TrodAll enc P W' 0 a true fn.params.toList args.toList (s.fn H (ds++[])).args before:=fun a n=>by
  rw [hs];exact Z6f hl hb hr y g a n
 have d:∀ (b:Nat) (a:Nat->Bool) (v:Bool),DataW.TrodAll enc P W' b a v fn.resultTypes.toList ((Value.bool true).resultList fn.resultTypes.size) (s.fn H (ds++[])).results []:=fun b a v=>by
  rw [hs,hres];exact trodAll_cons_mk (shut_bool ht _) trodAll_mk0
 have c:∀ a:Nat->Bool,DataW.TrodVars enc P W' a s.vars (s.fn H (ds++[])).vars []:=fun a=>by
  rw [hs,hv];exact rfl
 refine ⟨ds,_,before,[],before,[],k,d _ _ _,f _ h,c _,World.keptBut_mono (fun x e=>⟨e,by simpa using e⟩) (hb.frame (· ∈ before)),fun _=>⟨m,?_⟩⟩;obtain ⟨_,_,_,_,_,A,C⟩:=k
 refine ⟨_,_,([]++before)++[],⟨[]++before,[],trodAll_append (f _ fun _ _=>rfl) (d _ _ _),c _,rfl,fun b l e=>?_,fun z=>?_⟩,fun x e _=>?_⟩
 ·have i:MemPlace.cell b l ∈ before:=by simpa using e
  rw [hb.frozen (g _ i)];exact A b l i
 ·simpa using C z
 ·simpa using e
theorem Y6L {H:Type} {enc:TypeId×Value->H} {P:Program} (hl:laidOutB P=true) {fn:Func} {s:ChangeSpec} {W W' : World} {args:Array Value} {ds gs:List (DataW H)} {before:List MemPlace} {apart fresh handsOn again:Bool}
  (hW:DataW.Whole enc P fn.params.toList s.vars apart W args.toList ds gs before) (hv:s.vars=[]) (hs:s.fn H (ds++gs)={ results:=[.lit (.bool true)],args:=ds }) (hr:fn.params.toList.all (fun t=>P.readableRec t&&decide (t<P.types.size))=true)
  {t:TypeId} (hres:fn.resultTypes=#[t]) (ht:P.underlying t=some .bool) (hstp:Stp (fun _=>False) W W'):s.post enc P fn apart fresh handsOn again W args (.bool true) W' :=
 Y4Y hl hW hv hs hr hres ht (hstp.below _ (Nat.le_refl _) fun _ _ h=>h)
end
section
section
variable {P:Program} {C:Ctx} {nt:Nat} {L:Lay} {ops:Array Oper} {ds:List Dir} {e:Env} {s:Sto}
end
end
section
def ci (n:Int):CV:=.d (.int .i64 n)
def gC {α:Type} [Emb α] (x:α):List CV:=(Emb.cells x).map .d
def gE {α:Type} [Emb α] (x:α):AVal:=.v (.g (gC x))
def ss (n:Nat):List Dir:=List.replicate n .s
section
variable {P:Program} {C:Ctx} {nt:Nat} {L:Lay} {pins:List Nat} {E:List (Nat×AVal)} {S:List (Nat×Obj)} {Q:Exit->Act->World->Prop}
theorem AW.g (Fm:Fr P L C pins) {id:Nat} {ops:Array Oper} {draw:Bool} (ds:List Dir) (c:(Nat->Prop)->Prop) (E' : List (Nat×AVal)) (S' : List (Nat×Obj)) (hc:c (KAt P C nt L ops ds (lk E) (ls S)))
  (h:(Z6c L pins nt ops draw ds E S [] S',Q7m P C nt L ops ops.toList ds (lk E) (ls S),E'.map (fun p=>Z2j ops.toList (Q1o L ops ops.toList ds (lk E) (ls S)) (lk E) p.1),S'.map (fun p=>Z2i (Q1o L ops ops.toList ds (lk E) (ls S)) (ls S) (V3 [] p.1)))
   = (true,c (KAt P C nt L ops ds (lk E) (ls S)),E'.map (fun p=>p.2.ren (V3 [])),S'.map (fun p=>some (p.2.ren (V3 [])))))
  (k:Kn C nt E' S' (Q .normal)):AW P C nt (.region id ops draw) E S Q:=
 W0j Fm ds [] c E' S' hc (congrArg (·.1) h) (congrArg (·.2.1) h) (congrArg (·.2.2.1) h) (congrArg (·.2.2.2) h) k
theorem Y9c (Fm:Fr P L C pins) {id:Nat} {ops:Array Oper} {draw:Bool} {y:Code} (ds:List Dir) (c:(Nat->Prop)->Prop) (E' : List (Nat×AVal)) (S' : List (Nat×Obj)) (hc:c (KAt P C nt L ops ds (lk E) (ls S)))
  (h:(Z6c L pins nt ops draw ds E S [] S',Q7m P C nt L ops ops.toList ds (lk E) (ls S),E'.map (fun p=>Z2j ops.toList (Q1o L ops ops.toList ds (lk E) (ls S)) (lk E) p.1),S'.map (fun p=>Z2i (Q1o L ops ops.toList ds (lk E) (ls S)) (ls S) (V3 [] p.1)))
   = (true,c (KAt P C nt L ops ds (lk E) (ls S)),E'.map (fun p=>p.2.ren (V3 [])),S'.map (fun p=>some (p.2.ren (V3 [])))))
  (k:AW P C nt y E' S' Q):AW P C nt (.seq (.region id ops draw) y) E S Q:=
 AW.seq (AW.g Fm ds c E' S' hc h k)
theorem W0y (Fm:Fr P L C pins) {id:Nat} {ops:Array Oper} {draw:Bool} (n:Nat) (E' : List (Nat×AVal)) (S' : List (Nat×Obj))
  (h:(Z6c L pins nt ops draw (ss n) E S [] S',Q7m P C nt L ops ops.toList (ss n) (lk E) (ls S),E'.map (fun p=>Z2j ops.toList (Q1o L ops ops.toList (ss n) (lk E) (ls S)) (lk E) p.1),S'.map (fun p=>Z2i (Q1o L ops ops.toList (ss n) (lk E) (ls S)) (ls S) (V3 [] p.1)))
   = (true,True,E'.map (fun p=>p.2.ren (V3 [])),S'.map (fun p=>some (p.2.ren (V3 [])))))
  (k:Kn C nt E' S' (Q .normal)):AW P C nt (.region id ops draw) E S Q:=AW.g Fm (ss n) (fun _=>True) E' S' True.intro h k
theorem Y9b (Fm:Fr P L C pins) {id:Nat} {ops:Array Oper} {draw:Bool} {y:Code} (n:Nat) (E' : List (Nat×AVal)) (S' : List (Nat×Obj))
  (h:(Z6c L pins nt ops draw (ss n) E S [] S',Q7m P C nt L ops ops.toList (ss n) (lk E) (ls S),E'.map (fun p=>Z2j ops.toList (Q1o L ops ops.toList (ss n) (lk E) (ls S)) (lk E) p.1),S'.map (fun p=>Z2i (Q1o L ops ops.toList (ss n) (lk E) (ls S)) (ls S) (V3 [] p.1)))
   = (true,True,E'.map (fun p=>p.2.ren (V3 [])),S'.map (fun p=>some (p.2.ren (V3 [])))))
  (k:AW P C nt y E' S' Q):AW P C nt (.seq (.region id ops draw) y) E S Q:=AW.seq (W0y Fm n E' S' h k)
variable {K:Act->World->Prop}
theorem W1p (Fm:Fr P L C pins) (E' : List (Nat×AVal)) (S' : List (Nat×Obj))
  (hq:(pins.all (fun i=>V3 [] i==i),E'.map (fun p=>lk E p.1),S'.map (fun p=>ls S (V3 [] p.1)),Q3n (S'.map fun p=>V3 [] p.1))=(true,E'.map (fun p=>p.2.ren (V3 [])),S'.map (fun p=>some (p.2.ren (V3 []))),true)) (h:Kn C nt E' S' K):Kn C nt E S K:=
 Kn.re Fm [] E' S' (congrArg (·.1) hq) (congrArg (·.2.1) hq) (congrArg (·.2.2.1) hq) (congrArg (·.2.2.2) hq) h
theorem Q3b (Fm:Fr P L C pins) {fn:Func} {r:AVal} {S' : List (Nat×Obj)} (hq:(Y6I L (lk E) (ls S) fn.results.toList,S'.map (fun p=>ls S p.1))=(some r,S'.map (fun p=>some p.2))):Kn C nt E S (Y4T P fn C r S' .ret):=
 Kn.done Fm (congrArg (·.1) hq) (congrArg (·.2) hq)
end
section
variable {P:Program} {C:Ctx} {nt:Nat} {L:Lay} {ops:Array Oper} {ds:List Dir} {e:Env} {s:Sto}
theorem W0Z {k:Nat} {f:Nat} {args:List AVal} {Si:List (Nat×Obj)} {r:AVal} {So:List (Nat×Obj)} (hspec:Q7 P f args Si r So) (hcall:∀ args w,(callFunc f args).run P w=.ok (.enter f args) w) (m:List (Nat×Nat))
  (hk:Q2g ds k=cE m [] r Si So) (hq:(Go.Ab.callB ops nt (W7 L ops ops.toList ds e s k) (Y8 ops.toList k) f m r Si So,Si.map (fun p=>Q2p L ops ops.toList ds e s k (V3 m p.1)),
   (Go.Ab.callXs (Y8 ops.toList k)).toList.all (Q5G (Q0h (Y8 ops.toList k)++V6 ops (Y8 ops.toList k)))&&args.all AVal.noSem,(Go.Ab.callXs (Y8 ops.toList k)).toList.map (aev (W7 L ops ops.toList ds e s k)))
   = (true,Si.map (fun p=>some (p.2.ren (V3 m))),true,args.map (AVal.ren (V3 m)))):KAt P C nt L ops ds e s k:=
 KAt.call hspec hcall m hk (congrArg (·.1) hq) (congrArg (·.2.1) hq) (congrArg (·.2.2.1) hq) (congrArg (·.2.2.2) hq)
end
end
section
open Go.Proofs Go.Shelf
theorem Z9x {α:Type} [Emb α] {P:Program} {L:Lay} (hL:LOk P L) {ρ:Ren} (Ly:Lays8.n4 P ρ) {te:TI} (hte:L (ρ.t 25)=some te) (hsz:te.size=Emb.es α) (hpos:0<te.size) (hby:te.bytes<=8192) (hzl:te.zero.length=te.size)
  {n:Int} {r:List α} (h:Z9y n=some r):Q7 P (ρ.f 4) [.v (.c (.fl 0 fun _=>[])),vi n] [] (.v (.c (.own 100))) [(100,AO (α:=α) r)]:=by
 unfold Z9y at h;split at h
 case isFalse=>cases h
 rename_i hn
 cases h
 obtain ⟨I,d0,J,k⟩:=hL _ _ hte;intro w X η A hX W V Z q p
 have q:A.size=2:=q;have B:∃ D,A.getD 0 undef=.slice D 0 0:=by
  have:=p 0 (by simp)
  change ARep w X η _ (A.getD 0 undef) (.v (.c (.fl 0 fun _=>[]))) at this;generalize A.getD 0 undef=u at this
  cases this with|v _ _ l=>cases l with|c _ _ l=>cases l with|fl a _ _ _=>exact ⟨a,rfl⟩
 have T:A.getD 1 undef=.int .i64 n:=by
  have:=p 1 (by simp)
  change ARep w X η _ (A.getD 1 undef) (.v (.c (.d (.int .i64 n)))) at this;generalize A.getD 1 undef=u at this
  cases this with|v _ _ l=>cases l with|c _ _ l=>cases l with|d _ _ l=>cases l;rfl
 obtain ⟨D,B⟩:=B;rw [Y7o q,B,T]
 obtain ⟨m,rfl⟩:∃ m:Nat,n=m:=⟨n.toNat,by omega⟩;have U:m<=LIM:=by omega
 have g:∀ i o,ls [(100,AO (α:=α) [])] i=some o->i=100/\o=AO (α:=α) []:=by
  intro i o b;rw [U5] at b
  by_cases h:i=100
  ·rw [if_pos h] at b;cases b;exact ⟨h,rfl⟩
  ·rw [if_neg h] at b;cases b
 rcases Nat.eq_zero_or_pos m with Y|Y
 ·subst Y
  refine (Any8.slices_Grow_room Ly D 0 0 0 w (Nat.le_refl _) (by omega) (by omega) (Nat.le_refl _)).mono fun e w' l=>?_
  obtain ⟨R,O⟩:=l;refine ⟨_,fun _=>.slice D 0 0,R,?_⟩
  rw [O];have y:∀ x,x ∉ Y7 (.slice D 0 0):=by intro x;cases D <;> simp [Y7]
  refine ⟨Stp.refl _ _,.v _ _ (.c _ _ (.own _ _ rfl rfl)),fun i o b=>?_,fun i j x b F z _=>absurd z (y x),fun i o x b z=>absurd z (y x),fun i v b=>?_⟩
  ·obtain ⟨rfl,rfl⟩:=g i o b
   exact .nil _ _ _
  ·change (if ((List.lookup i ([]:List (Nat×Obj))).isSome=true) then some (η i) else none)=some v at b
   cases b
 ·have H:(0+m)*I.bytes<=140737488355328:=by
   have h1:(0+m)*I.bytes<=4294967296*8192:=Nat.mul_le_mul (by simp only [LIM] at U;omega) (by rw [k.bytes];exact hby);omega
  refine (Any8.slices_Grow_grow Ly I J k.info k.zero (by rw [k.size];exact hpos) D 0 0 m [] w (Nat.le_refl _) (by omega) H (by simp only [LIM] at U;omega) (by simp) (fun _=>rfl) (fun _ _ _ _ F=>by simp at F)).mono fun e w' l=>?_
  obtain ⟨R,O⟩:=l;have hG:m<=grownCap w (0+m) 0 (ρ.t 25):=by have:=grownCap_ge w (0+m) 0 (ρ.t 25);omega
  have N:=grownCap_le_maxLen w (0+m) 0 (ρ.t 25) (by simp only [LIM] at U;simp only [maxLen];omega);generalize grownCap w (0+m) 0 (ρ.t 25)=G at *
  refine ⟨_,fun _=>.slice (some ⟨w.heap.size,0,none⟩) 0 G,R,?_⟩;rw [O]
  have M:J.cells.size=I.size:=by rw [(k.zrep w (fun _=>False) η (J4 [] w X η)).1,hzl,k.size]
  refine ⟨(Stp.drew _ _).trans (Stp.alloc _ _ _),.v _ _ (.c _ _ (.own _ _ rfl rfl)),fun i o b=>?_,fun i j x b F _ _=>?_,fun i o x b z=>?_,fun i v b=>?_⟩
  ·obtain ⟨rfl,rfl⟩:=g i o b
   refine .arr w.heap.size 0 G _ (([]:List Value).toArray++Builtin.zeroCells J.cells (0+m-0)++Builtin.zeroCells J.cells (G-(0+m))) (ρ.t 25) _ (heap_alloc_new w.drew _) ?_ (Nat.zero_le _) N (by omega) (fun i b=>absurd b (Nat.not_lt_zero i)) fun i j b=>absurd b (Nat.not_lt_zero i)
   rw [Array.size_append,Array.size_append,size_zeroCells,size_zeroCells,M,k.size, <-hsz];have e1:(([]:List Value).toArray).size=0:=rfl
   rw [e1,Nat.zero_add, <-Nat.add_mul];congr 1
   omega
  ·obtain ⟨oi,b⟩:=Option.ne_none_iff_exists'.1 b
   obtain ⟨oj,F⟩:=Option.ne_none_iff_exists'.1 F;rw [(g i oi b).1,(g j oj F).1]
  ·have:x=w.heap.size:=by
    have z:x ∈ Y7 (.slice (some ⟨w.heap.size,0,none⟩) 0 G):=z;simp [Y7] at z
    exact z.2
   subst this;exact .inr (.inr (Nat.le_refl _))
  ·change (if ((List.lookup i ([]:List (Nat×Obj))).isSome=true) then some (η i) else none)=some v at b
   cases b
end
section
def Y7i (P:Program) (x:CV):Prop:=x.closed=true\/∃ F,x=.sem (J5 P F)
section
variable {w:World} {X:Nat->Prop} {η η' : Nat->Value} {C C' : Ctx} {P:Program}
theorem z6.port {vs:Array Value} {cs:List CV} (h:z6 w X η C vs cs) (H:∀ F v,J5 P F C.w0 C.D C.X v->J5 P F C'.w0 C'.D C'.X v) (hx:∀ x ∈ cs,Y7i P x):z6 w X η' C' vs cs:=by
 refine ⟨h.1,fun j g=>?_⟩;have c:=h.2 j g
 rcases hx _ (Q0I (d:=.d .any) g) with a|⟨F,a⟩
 ·simp only [CV.closed,Bool.and_eq_true,List.isEmpty_iff] at a
  exact (c.mono (fun b _ k=>⟨rfl,k⟩) (fun i f=>by rw [a.1] at f;cases f)).ctx a.2
 ·rw [a] at c ⊢
  generalize vs.getD j undef=u at c ⊢
  cases c with|sem _ _ g1 g2=>exact .sem _ _ (H F _ g1) g2
end
section
variable {P:Program} {C:Ctx} {nt:Nat} {e:Env} {s:Sto}
theorem y7.cloP {f:Nat} (hcall:∀ args w,(callFunc f args).run P w=.ok (.enter f args) w) {F:List AVal->AVal->Prop} {cs:List (List CV)} (hspec:∀ args r,F args r->Q7 P f (args++Z7i cs) (Q9R cs) r (Q9R cs)) (hres:∀ args r,F args r->r.closed=true)
  {Si:List (Nat×Obj)} {m:Nat->Nat} {rd ids:List Nat} {x:Operand} (hx:Q5G rd x=true) {cids:List Nat} (hv:aev e x=.v (.c (.clo f cids))) (hlen:cids.length=cs.length) (hnd:Q3n cids=true) (hbox:∀ k,k<cs.length->∃ ro,s (cids.getD k 0)=some (.box ro (cs.getD k [])))
  (hcl:∀ c ∈ cs,∀ x ∈ c,Y7i P x) (hsi:∀ p ∈ Si,∃ o1,s (m p.1)=some o1) (hin:∀ p ∈ Si,m p.1 ∈ ids) (hcin:∀ i ∈ cids,i ∈ ids) (hapart:∀ p ∈ Si,m p.1 ∉ cids):y7 C nt e s Si m rd ids x (Z4o P F):=by
 intro R η e0 s0 a w d3 M G;have b4:=(W3 G x).1
 rw [J2 d3 hx,hv] at b4;have b5:=Z8f b4
 refine .v _ _ (.c _ _ (.sem _ _ ⟨f,_,b5,hcall,?_⟩ (by rw [b5];rfl)));intro w1 X1 vs args r hF d8 V c2 a3 d2 a6
 have Z : w.heap.size<=w1.heap.size:=d8;have J:∀ k,k<cs.length->cids.getD k 0 ∈ cids:=fun k H=>Q0I (by omega)
 have A:∀ k,k<cs.length->∃ ro,s0 (cids.getD k 0)=some (.box ro (cs.getD k [])):=by
  intro k H;obtain ⟨ro,h⟩:=hbox k H
  exact ⟨ro,by rw [M _ (hcin _ (J k H))];exact h⟩
 have N:∀ k,k<cs.length->∃ b c' e',η (cids.getD k 0)=.pointer (some ⟨b,0,none⟩)/\w.heap[b]?=some (.cells c' e' (0,0))/\z6 w (XS C s0 η) η C c' (cs.getD k []):=by
  intro k H;obtain ⟨ro,h⟩:=A k H
  have:=G.st _ _ h
  generalize η (cids.getD k 0)=u at this
  cases this with
  | box b _ c' e' _ y hcs=>exact ⟨b,c',e',rfl,y,hcs⟩
 have T:∀ k,k<cs.length->∀ b,b ∈ Y7 (η (cids.getD k 0))->¬ Own (ls Si) (fun i=>η (m i)) b:=by
  rintro k H b y ⟨i,B,l,n⟩;obtain ⟨ro,h⟩:=A k H
  obtain ⟨o1,h2⟩:=hsi _ (U4 l);have c9 : s0 (m i)=some o1:=by rw [M _ (hin _ (U4 l))];exact h2
  have:=G.ds _ _ b (by rw [h];simp) (by rw [c9];simp) y n
  exact hapart _ (U4 l) (this ▸ J k H)
 have d0:∀ b,Own (ls Si) (fun i=>η (m i)) b->XS C s0 η b:=by
  rintro b ⟨i,B,l,n⟩;obtain ⟨o1,h2⟩:=hsi _ (U4 l)
  exact .inr ⟨m i,o1,by rw [M _ (hin _ (U4 l))];exact h2,n⟩
 have H:Q6Z w w1 (XS C s0 η) X1:=by
  intro b y hX;have b6:¬ Own (ls Si) (fun i=>η (m i)) b:=fun ho=>hX (d0 b ho)
  exact ⟨V b y b6,fun hx=>hX ((a3 b y b6).1 hx)⟩
 have z:∀ k o,ls (Q9R cs) k=some o->k<cs.length/\o=.box true (cs.getD k []):=by
  intro k o H;rw [Y6o] at H
  rcases Nat.lt_or_ge k cs.length with h|h
  ·rw [List.getElem?_eq_getElem h] at H
   cases H
   exact ⟨h,by rw [List.getD_eq_getElem?_getD,List.getElem?_eq_getElem h];rfl⟩
  ·rw [List.getElem?_eq_none h] at H;cases H
 have U:∀ b,Own (ls (Q9R cs)) (fun k=>η (cids.getD k 0)) b->X1 b:=by
  rintro b ⟨k,B,O,W⟩;obtain ⟨t,_⟩:=z k B O
  obtain ⟨ro,h⟩:=A k t;have e6:b<w.heap.size:=(G.st _ _ h).lt W
  exact (a3 b e6 (T k t b W)).2 (.inr ⟨_,_,h,W⟩)
 have a7:∀ F' v,J5 P F' C.w0 C.D C.X v->J5 P F' w1 (Own (ls (Q9R cs)) fun k=>η (cids.getD k 0)) X1 v:=by
  rintro F' v ⟨g,gc,g1,g2,g3⟩;refine ⟨g,gc,g1,g2,fun w2 X2 us d5 q hq s1 s2 s3 s4 s5 s6=>?_⟩
  have b8:∀ b,b<C.w0.heap.size->¬ C.D b->¬ Own (ls Si) (fun i=>η (m i)) b:=by
   rintro b y I ⟨i,B,l,n⟩;obtain ⟨o1,h⟩:=hsi _ (U4 l)
   rcases G.ow (m i) o1 b (by rw [M _ (hin _ (U4 l))];exact h) n with ⟨_,h⟩|h|h
   ·exact I h
   ·exact I (G.ok.md b h)
   ·omega
  have b3:∀ b,b<C.w0.heap.size->¬ C.D b->¬ Own (ls (Q9R cs)) (fun k=>η (cids.getD k 0)) b:=by
   rintro b y I ⟨k,B,O,W⟩;obtain ⟨t,_⟩:=z k B O
   obtain ⟨ro,h⟩:=A k t;rcases G.ow _ _ b h W with ⟨_,h⟩|h|h
   ·exact I h
   ·exact I (G.ok.md b h)
   ·omega
  refine g3 w2 X2 us d5 q hq (Nat.le_trans G.fr.size (Nat.le_trans Z s1)) (fun b y I=>?_) s3 (fun b y I=>?_) s5 s6
  ·have Y:b<w.heap.size:=Nat.lt_of_lt_of_le y G.fr.size
   exact ((s2 b (Nat.lt_of_lt_of_le Y Z) (b3 b y I)).trans (V b Y (b8 b y I))).trans (G.fr.block b y fun hM=>I (G.ok.md b hM))
  ·have Y:b<w.heap.size:=Nat.lt_of_lt_of_le y G.fr.size
   rw [s4 b (Nat.lt_of_lt_of_le Y Z) (b3 b y I),a3 b Y (b8 b y I)];constructor
   ·rintro (⟨hx,_⟩|⟨i,B,l,n⟩)
    ·exact hx
    ·rcases G.ow i B b l n with ⟨_,h⟩|h|h
     ·exact absurd h I
     ·exact absurd (G.ok.md b h) I
     ·omega
   ·exact fun hx=>.inl ⟨hx,I⟩
 have e4:=hspec args r hF w1 X1 (fun k=>η (cids.getD k 0)) (vs++(cids.map η).toArray) c2 U
  (fun k o O=>by
   obtain ⟨t,rfl⟩:=z k o O;obtain ⟨b,c',e',h,h2,h3⟩:=N k t
   have d4:=T k t b (by rw [h];simp [Y7]);show ORep w1 X1 _ _ (η (cids.getD k 0)) _
   rw [h];have c5:∀ x ∈ cs.getD k [],Y7i P x:=hcl _ (Q0I (d:=[]) t)
   exact .box b true c' e' _ ((V b (K8 h2) d4).trans h2) ((h3.mono (η':=η) H (fun _ _=>rfl)).port a7 c5))
  (fun i j b l hj d7 c3=>by
   obtain ⟨oi,l⟩:=Option.ne_none_iff_exists'.1 l;obtain ⟨oj,hj⟩:=Option.ne_none_iff_exists'.1 hj
   obtain ⟨d1,_⟩:=z i oi l;obtain ⟨e3,_⟩:=z j oj hj
   obtain ⟨r1,h⟩:=A i d1;obtain ⟨r2,h2⟩:=A j e3
   have b7:=G.ds _ _ b (by rw [h];simp) (by rw [h2];simp) d7 c3;have hn:=Q4t hnd
   have c7:i<cids.length:=by omega
   have d9:j<cids.length:=by omega
   rw [List.getD_eq_getElem?_getD,List.getD_eq_getElem?_getD,List.getElem?_eq_getElem c7,List.getElem?_eq_getElem d9] at b7;exact (List.getElem_inj hn).1 (by simpa using b7))
  (by simp [d2,Z7i,hlen])
  (fun j hj=>by
   rw [List.length_append] at hj
   by_cases hja:j<args.length
   ·have e1:(vs++(cids.map η).toArray).getD j undef=vs.getD j undef:=by
     have:j<vs.size:=by omega
     simp [Array.getD_eq_getD_getElem?,Array.getElem?_append,this]
    have e2:(args++Z7i cs).getD j .any=args.getD j .any:=by simp [List.getD_eq_getElem?_getD,List.getElem?_append,hja]
    rw [e1,e2];exact a6 j hja _ _
   ·have t:j-args.length<cs.length:=by simp [Z7i] at hj;omega
    obtain ⟨b,c',e',h,h2,h3⟩:=N _ t;have e1:(vs++(cids.map η).toArray).getD j undef=η (cids.getD (j-args.length) 0):=by
     have g1:¬ j<vs.size:=by omega
     have g2:j-vs.size<cids.length:=by omega
     have g3:j-args.length<cids.length:=by omega
     have:j-vs.size=j-args.length:=by omega
     simp [Array.getD_eq_getD_getElem?,Array.getElem?_append,g1,List.getD_eq_getElem?_getD,this,g3]
    have e2:(args++Z7i cs).getD j .any=.v (.c (.ptr (j-args.length) 0)):=by
     simp [List.getD_eq_getElem?_getD,List.getElem?_append,hja,Z7i,t]
    rw [e1,e2,h];exact .v _ _ (.c _ _ (.ptr b _ 0 h)))
 refine e4.mono fun en w' hh=>?_
 obtain ⟨v,η',rfl,y⟩:=hh;refine ⟨v,rfl,y.stp.mono fun b _ hM=>?_,fun η2 C2=>?_⟩
 ·obtain ⟨i,B,l,c0,_⟩:=hM
  obtain ⟨_,rfl⟩:=z i B l;cases c0
 ·have hX:∀ b,XS (J4 (Q9R cs) w1 X1 fun k=>η (cids.getD k 0)) (ls (Q9R cs)) η' b↔X1 b:=by
   have a1:∀ i B,ls (Q9R cs) i=some B -> η' i=η (cids.getD i 0):=by
    intro i B l;refine y.pn i _ ?_
    unfold ls at l;simp [J4,l]
   intro b;constructor
   ·rintro (⟨hx,_⟩|⟨i,B,l,n⟩)
    ·exact hx
    ·rw [a1 i B l] at n
     exact U b ⟨i,B,l,n⟩
   ·intro hx
    rcases Classical.em (Own (ls (Q9R cs)) (fun k=>η (cids.getD k 0)) b) with ho|ho
    ·obtain ⟨i,B,l,n⟩:=ho
     exact .inr ⟨i,B,l,by rw [a1 i B l];exact n⟩
    ·exact .inl ⟨hx,ho⟩
  exact (y.res.mono (η':=η') (fun b _ hx=>⟨rfl,fun e7=>hx ((hX b).2 e7)⟩) (fun _ _=>rfl)).free (hres args r hF)
def Y7J (P:Program):List CV->Prop
 | []=>True
 | c::cs=>Y7i P c/\Y7J P cs
def Y4Z (P:Program):List (List CV)->Prop
 | []=>True
 | c::cs=>Y7J P c/\Y4Z P cs
theorem Y7I {cs:List CV} (h:Y7J P cs):∀ x ∈ cs,Y7i P x:=by
 induction cs with
 | nil=>intro x a;cases a
 | cons c cs ih=>
  intro x a;rcases List.mem_cons.1 a with rfl|a
  ·exact h.1
  ·exact ih h.2 x a
theorem Y6M {cs:List (List CV)} (h:Y4Z P cs):∀ c ∈ cs,∀ x ∈ c,Y7i P x:=by
 induction cs with
 | nil=>intro x a;cases a
 | cons c cs ih=>
  intro x a;rcases List.mem_cons.1 a with rfl|a
  ·exact Y7I h.1
  ·exact ih h.2 x a
theorem y7.cloXP {f:Nat} (hcall:∀ args w,(callFunc f args).run P w=.ok (.enter f args) w) {F:List AVal->AVal->Prop} (cs:List (List CV)) (hspec:∀ args r,F args r->Q7 P f (args++Z7i cs) (Q9R cs) r (Q9R cs)) (hres:∀ args r,F args r->r.closed=true)
  {Si:List (Nat×Obj)} {m:Nat->Nat} {rd ids:List Nat} {x:Operand} (hx:Q5G rd x=true) (cids:List Nat) (hv:aev e x=.v (.c (.clo f cids))) (hnd:(Q3n cids&&cids.all (fun i=>ids.contains i))=true) (hp:Y4Z P cs) (hbox:Y8I s cids cs)
  (hsi:siB s Si m ids cids=true):y7 C nt e s Si m rd ids x (Z4o P F):=by
 simp only [Bool.and_eq_true] at hnd;obtain ⟨a,b⟩:=Y6q hbox
 exact y7.cloP hcall hspec hres hx hv a hnd.1 b (Y6M hp) (Z4z hsi).1 (Z4z hsi).2.1 (fun i d=>by simpa using List.all_eq_true.1 hnd.2 i d) (Z4z hsi).2.2
end
end
section
section
variable {P:Program} {C:Ctx} {nt:Nat} {L:Lay} {pins:List Nat} {K:Act->World->Prop}
theorem Y0i (Fm:Fr P L C pins) {E:List (Nat×AVal)} {S0:List (Nat×Obj)} {i k es j:Nat} {cs:List CV} {f f' : Nat->List DVal} (hp:pins.contains k=false)
  (hfr:((E.flatMap fun p=>p.2.refs)++(((i,Obj.box false cs)::S0).flatMap fun p=>p.1::p.2.refs)).contains k=false) (hj:j<cs.length) (hc0:cs.getD j (.d .any)=.fl 0 f)
  (hk:Kn C nt E ((k,.arr es 0 f')::(i,.box false (cs.set j (.own k)))::S0) K):Kn C nt E ((i,.box false cs)::S0) K:=by
 intro R η a w v;have F:ls ((i,Obj.box false cs)::S0) i=some (.box false cs):=by rw [U5,if_pos rfl]
 have U:=v.st i _ F;obtain ⟨b0,c',e',hη0,hb0,hcs⟩:∃ b c' e',η i=.pointer (some ⟨b,0,none⟩)/\w.heap[b]?=some (.cells c' e' (0,0))/\z6 w (XS C (ls ((i,Obj.box false cs)::S0)) η) η C c' cs:=by
  generalize η i=u at U
  cases U with|box b _ c' e' _ O h=>exact ⟨b,c',e',rfl,O,h⟩
 obtain ⟨ad,hv⟩:∃ ad,c'.getD j undef=.slice ad 0 0:=by
  have:=hcs.2 j hj
  rw [hc0] at this;generalize c'.getD j undef=u at this
  cases this with|fl ad _ _ _=>exact ⟨ad,rfl⟩
 have Y:C.pin k=none:=by
  rcases Z:C.pin k with _|u
  ·rfl
  ·have:=Fm.pin k (by rw [Z];simp)
   rw [List.contains_iff_mem.2 this] at hp;cases hp
 have H:∀ x ∈ (E.flatMap fun p=>p.2.refs)++(((i,Obj.box false cs)::S0).flatMap fun p=>p.1::p.2.refs),x≠k:=by
  intro x c he;subst he
  rw [List.contains_iff_mem.2 c] at hfr;cases hfr
 have hS:∀ x o,ls ((i,Obj.box false cs)::S0) x=some o->x≠k/\∀ y ∈ o.refs,y≠k:=by
  intro x o c;have hm:=U4 c
  exact ⟨H x (List.mem_append.2 (.inr (List.mem_flatMap.2 ⟨_,hm,by simp⟩))),fun y D=>H y (List.mem_append.2 (.inr (List.mem_flatMap.2 ⟨_,hm,by simp [D]⟩)))⟩
 have a0:i≠k:=(hS i _ F).1;have hE:∀ u x,x ∈ (lk E u).refs->x≠k:=by
  intro u x c;rcases Z8P (E:=E) (t:=u) with h0|h0
  ·rw [h0] at c;cases c
  ·exact H x (List.mem_append.2 (.inl (List.mem_flatMap.2 ⟨_,h0,c⟩)))
 let η' : Nat->Value:=fun x=>if x=k then .slice ad 0 0 else η x
 have l : ∀ x,x≠k->η' x=η x:=fun x c=>by show (if x=k then Value.slice ad 0 0 else η x)=_;rw [if_neg c]
 have I:η' k=.slice ad 0 0:=by show (if k=k then Value.slice ad 0 0 else η k)=_;rw [if_pos rfl]
 have n:∀ b,b ∉ Y7 (η' k):=by intro b;rw [I];cases ad <;> simp [Y7]
 have G:∀ x o,ls ((k,Obj.arr es 0 f')::(i,.box false (cs.set j (.own k)))::S0) x=some o->(x=k/\o=.arr es 0 f')\/(x=i/\o=.box false (cs.set j (.own k)))\/(x≠k/\x≠i/\ls ((i,Obj.box false cs)::S0) x=some o):=by
  intro x o c;rw [U5] at c
  by_cases m:x=k
  ·rw [if_pos m] at c;cases c;exact .inl ⟨m,rfl⟩
  ·rw [if_neg m,U5] at c
   by_cases B:x=i
   ·rw [if_pos B] at c;cases c;exact .inr (.inl ⟨B,rfl⟩)
   ·rw [if_neg B] at c
    exact .inr (.inr ⟨m,B,by rw [U5,if_neg B];exact c⟩)
 have r:∀ x o,ls ((k,Obj.arr es 0 f')::(i,.box false (cs.set j (.own k)))::S0) x=some o->x≠k->∃ T,ls ((i,Obj.box false cs)::S0) x=some T /\ T.ro=o.ro:=by
  intro x o c g;rcases G x o c with ⟨m,_⟩|⟨m,B⟩|⟨_,_,N⟩
  ·exact absurd m g
  ·subst m;subst B;exact ⟨_,F,rfl⟩
  ·exact ⟨o,N,rfl⟩
 have V:∀ b,Own (ls ((k,Obj.arr es 0 f')::(i,.box false (cs.set j (.own k)))::S0)) η' b->Own (ls ((i,Obj.box false cs)::S0)) η b:=by
  rintro b ⟨x,o,c,A⟩
  by_cases g:x=k
  ·subst g;exact absurd A (n b)
  ·obtain ⟨T,m,_⟩:=r x o c g
   exact ⟨x,T,m,by rw [<-l x g];exact A⟩
 have hX:Q6Z w w (XS C (ls ((i,Obj.box false cs)::S0)) η) (XS C (ls ((k,Obj.arr es 0 f')::(i,.box false (cs.set j (.own k)))::S0)) η'):=by
  intro b O hn;refine ⟨rfl,fun c=>?_⟩
  rcases c with c|c
  ·exact hn (.inl c)
  ·exact hn (.inr (V b c))
 refine hk (fun x=>R x\/x=k) η' a w ⟨v.ok,v.df,v.sz,fun u=>(v.ev u).mono hX fun x c=>l x (hE u x c),fun u x c=>.inl (v.er u x c),fun x o c=>?_,fun x o c=>?_,fun x y b c D A M=>?_,fun x o b c O=>?_,v.fr,fun x u c=>?_⟩
 ·rcases G x o c with ⟨rfl,rfl⟩|⟨rfl,rfl⟩|⟨m,B,N⟩
  ·rw [I];exact .nil _ _ _
  ·rw [l x a0,hη0]
   refine .box b0 false c' e' _ hb0 ⟨by rw [hcs.1];simp,fun q Z=>?_⟩;have J : q<cs.length:=by simpa using Z
   by_cases hqj:q=j
   ·subst hqj
    have:(cs.set q (.own k)).getD q (.d .any)=.own k:=by simp [List.getD_eq_getElem?_getD,J]
    rw [this,hv];exact .own _ _ I.symm rfl
   ·have:(cs.set j (.own k)).getD q (.d .any)=cs.getD q (.d .any):=by
     simp [List.getD_eq_getElem?_getD,List.getElem?_set,Ne.symm hqj]
    rw [this];refine (hcs.2 q J).mono hX fun y D=>l y ((hS x _ F).2 y ?_)
    exact List.mem_flatMap.2 ⟨_,Q0I J,D⟩
  ·rw [l x m]
   exact (v.st x o N).mono hX (fun y D=>l y ((hS x o N).2 y D)) fun _ _=>rfl
 ·rcases G x o c with ⟨rfl,rfl⟩|⟨rfl,rfl⟩|⟨m,B,N⟩
  ·exact ⟨.inr rfl,by simp [Obj.refs]⟩
  ·have:=v.sr x _ F
   refine ⟨.inl this.1,fun y D=>?_⟩;obtain ⟨z,hz,W⟩:=List.mem_flatMap.1 D
   rcases List.mem_or_eq_of_mem_set hz with h4|h4
   ·exact .inl (this.2 y (List.mem_flatMap.2 ⟨z,h4,W⟩))
   ·subst h4
    exact .inr (by simpa [CV.refs] using W)
  ·have:=v.sr x o N
   exact ⟨.inl this.1,fun y D=>.inl (this.2 y D)⟩
 ·obtain ⟨ox,c⟩:=Option.ne_none_iff_exists'.1 c
  obtain ⟨oy,D⟩:=Option.ne_none_iff_exists'.1 D
  by_cases g:x=k
  ·subst g;exact absurd A (n b)
  ·by_cases hyk:y=k
   ·subst hyk;exact absurd M (n b)
   ·obtain ⟨o1,m,_⟩:=r x ox c g
    obtain ⟨o2,B,_⟩:=r y oy D hyk;rw [l x g] at A
    rw [l y hyk] at M;exact v.ds x y b (by rw [m];simp) (by rw [B];simp) A M
 ·by_cases g:x=k
  ·subst g;exact absurd O (n b)
  ·obtain ⟨T,m,B⟩:=r x o c g
   rw [l x g] at O;rw [<-B]
   exact v.ow x T b m O
 ·have g:x≠k:=by intro h;subst h;rw [Y] at c;cases c
  have:=v.pn x u c
  exact ⟨by rw [l x g];exact this.1,.inl this.2⟩
end
end
theorem Q7.list {α:Type} [Emb α] {P:Program} {f:Nat} {args:List AVal} {r:List α} (h:Q7 P f args [] (.v (.c (.own 100))) [(100,AO r)]):Q7 P f args [] (AL r) []:=by
 intro w X η I G t p D z l;refine (h w X η I G t p D z l).mono fun e R A=>?_
 obtain ⟨v,η',M,m⟩:=A;refine ⟨v,η',M,?_⟩
 have g:∀ i o,ls ([]:List (Nat×Obj)) i=some o->False:=fun i o a=>by cases a
 have B:=m.objs 100 (AO r) (by rw [U5,if_pos rfl]);have O:v=η' 100:=by
  have:=m.res
  cases this with|v _ _ A=>cases A with|c _ _ A=>cases A with|own _ _ k _=>exact k
 have q:∀ b,b ∈ Y7 (η' 100)->¬ XS (J4 [] w X η) (ls []) η' b:=by
  intro b F J;have H:w.heap.size<=b:=by
   rcases m.ow 100 (AO r) b (by rw [U5,if_pos rfl]) F with ⟨k,_⟩|⟨i,o,a,_⟩|k
   ·cases k
   ·exact (g i o a).elim
   ·exact k
  rcases J with ⟨k,_⟩|⟨i,o,a,_⟩
  ·have:=G b k
   omega
  ·exact (g i o a).elim
 have x:∀ b,¬ XS (J4 [] w X η) (ls [(100,AO r)]) η' b->¬ XS (J4 [] w X η) (ls []) η' b:=by
  intro b k y;rcases y with y|⟨i,o,a,_⟩
  ·exact k (.inl y)
  ·exact (g i o a).elim
 refine ⟨m.stp,?_,fun i o a=>(g i o a).elim,fun i j b a=>?_,fun i o b a=>(g i o a).elim,m.pn⟩
 ·rw [O]
  refine .v _ _ (.c _ _ (.d _ _ ?_));show DRep _ _ _ (.lst r.length (LF r))
  unfold AO at B;generalize η' 100=u at B q
  generalize hn:r.length=n at B
  cases B with
  | nil ad=>exact .nil _ _ _
  | arr b n cap es c e f k y h3 h4 h5 h6 h7=>
   refine .lst b 0 n cap c e _ _ _ (q b (by simp [Y7];omega)) k h3 ?_ h6 fun i j a N=>?_
   ·rw [y,Nat.zero_add];exact Nat.mul_le_mul_right _ h3
   ·rw [Nat.zero_add]
    exact (h7 i j a N).mono fun b _ m=>⟨rfl,x b (by unfold AO;rw [hn];exact m)⟩
 ·exact absurd rfl a
section
def apP (es n:Nat) (f:Nat->List DVal) (w:World) (X:Nat->Prop) (u:Value):Prop:=
 (∃ ad,u=.tuple #[.slice ad n n]/\DRep w X (.slice ad n n) (.lst n f))\/∀ η C,ORep w X η C u (.arr es n f)
def AP {α:Type} [Emb α] (l:List α):Obj:=.ext (apP (Emb.es α) l.length (LF l))
theorem Y8N {w:World} {X:Nat->Prop} {η:Nat->Value} {C:Ctx} {v:Value} {es n:Nat} {f:Nat->List DVal} (h:ORep w X η C v (.arr es n f)) (η' : Nat->Value) (C' : Ctx):ORep w X η' C' v (.arr es n f):=by
 cases h with
 | nil ad=>exact .nil ad _ _
 | arr b _ cap _ c e _ h1 h2 h3 h4 h5 h6 h7=>exact .arr b _ cap _ c e _ h1 h2 h3 h4 h5 h6 h7
theorem Y4v (es n:Nat) (f:Nat->List DVal) (u:Value):Y2F (apP es n f) u:=by
 intro w g X i a d h;rcases h with ⟨b,e,c⟩|h
 ·exact .inl ⟨b,e,c.mono a⟩
 ·exact .inr fun η C=>(h η C).mono (η':=η) a (fun _ _=>rfl) d
theorem CLe.ap (k:Nat):CLe (.own k) (.ap k):=⟨fun w X η C v a=>by cases a with|own _ _ h h1=>exact .ap _ _ (.inl h.symm) h1,fun i b=>b⟩
theorem OLe.ap (es n:Nat) (f:Nat->List DVal):OLe (.arr es n f) (.ext (apP es n f)):=
 ⟨fun w X η C v a=>.ext _ _ (.inr fun η' C'=>Y8N a η' C') (Y4v es n f v) fun b d=>a.lt d,rfl,fun i c=>by cases c⟩
def sbC (k:Nat) (y:CV):CV->CV
 | .ap i=>if i=k then y else .ap i
 | x=>x
def TV.sb (k:Nat) (y:CV):TV->TV
 | .c x=>.c (sbC k y x)
 | .g xs=>.g (xs.map (sbC k y))
def AVal.sb (k:Nat) (y:CV):AVal->AVal
 | .any=>.any
 | .v x=>.v (x.sb k y)
 | .t xs=>.t (xs.map (TV.sb k y))
def Obj.sb (k:Nat) (y:CV):Obj->Obj
 | .box ro cs=>.box ro (cs.map (sbC k y))
 | o=>o
section
variable {w:World} {X X' : Nat->Prop} {η:Nat->Value} {C:Ctx} {k:Nat} {y:CV}
theorem CRep.sb {v:Value} {x:CV} (h:CRep w X η C v x) (hX:∀ b,¬ X b->¬ X' b) (hk:∀ v,CRep w X η C v (.ap k)->CRep w X' η C v y):CRep w X' η C v (sbC k y x):=by
 have a:Q6Z w w X X':=fun b _ c=>⟨rfl,hX b c⟩
 cases x with
 | ap i=>
  simp only [sbC];split
  ·rename_i d;subst d;exact hk v h
  ·exact h.mono a fun _ _=>rfl
 | _=>exact h.mono a fun _ _=>rfl
theorem z6.sb {vs:Array Value} {cs:List CV} (h:z6 w X η C vs cs) (hX:∀ b,¬ X b->¬ X' b) (hk:∀ v,CRep w X η C v (.ap k)->CRep w X' η C v y):z6 w X' η C vs (cs.map (sbC k y)):=by
 refine ⟨by simpa using h.1,fun j c=>?_⟩;have a : j<cs.length:=by simpa using c
 have:=(h.2 j a).sb hX hk
 rw [List.getD_eq_getElem?_getD,List.getElem?_map,List.getElem?_eq_getElem a];rw [List.getD_eq_getElem?_getD,List.getElem?_eq_getElem a] at this
 exact this
theorem TRep.sb {v:Value} {x:TV} (h:TRep w X η C v x) (hX:∀ b,¬ X b->¬ X' b) (hk:∀ v,CRep w X η C v (.ap k)->CRep w X' η C v y):TRep w X' η C v (x.sb k y):=by
 cases h with
 | c _ _ h=>exact .c _ _ (h.sb hX hk)
 | g _ _ h=>exact .g _ _ (h.sb hX hk)
theorem ARep.sb {v:Value} {x:AVal} (h:ARep w X η C v x) (hX:∀ b,¬ X b->¬ X' b) (hk:∀ v,CRep w X η C v (.ap k)->CRep w X' η C v y):ARep w X' η C v (x.sb k y):=by
 cases h with
 | any=>exact .any v
 | v _ _ h=>exact .v _ _ (h.sb hX hk)
 | t us xs h1 h2=>
  refine .t us _ (by simpa using h1) fun j c=>?_
  have a : j<xs.length:=by simpa using c
  have:=(h2 j a).sb hX hk
  rw [List.getD_eq_getElem?_getD,List.getElem?_map,List.getElem?_eq_getElem a];rw [List.getD_eq_getElem?_getD,List.getElem?_eq_getElem a] at this
  exact this
theorem ORep.sb {v:Value} {o:Obj} (h:ORep w X η C v o) (hX:∀ b,¬ X b->¬ X' b) (hk:∀ v,CRep w X η C v (.ap k)->CRep w X' η C v y):ORep w X' η C v (o.sb k y):=by
 cases o with
 | box ro cs=>cases h with|box b _ c e _ h1 h2=>exact .box b ro c e _ h1 (h2.sb hX hk)
 | arr es n f=>exact h.mono (fun b _ a=>⟨rfl,hX b a⟩) (fun _ _=>rfl) fun _ _=>rfl
 | ext p=>exact h.mono (fun b _ a=>⟨rfl,hX b a⟩) (fun _ _=>rfl) fun _ _=>rfl
 | exr refs p=>exact h.mono (fun b _ a=>⟨rfl,hX b a⟩) (fun _ _=>rfl) fun _ _=>rfl
theorem CV.sb_refs (hy:∀ i ∈ y.refs,i=k) (x:CV):∀ j ∈ (sbC k y x).refs,j ∈ x.refs:=by
 cases x <;> simp only [sbC] <;> try exact fun j a=>a
 split
 ·rename_i b;intro j a;rw [hy j a,b];simp [CV.refs]
 ·exact fun j a=>a
theorem TV.sb_refs (hy:∀ i ∈ y.refs,i=k) (x:TV):∀ j ∈ (x.sb k y).refs,j ∈ x.refs:=by
 cases x with
 | c x=>exact CV.sb_refs hy x
 | g xs=>exact Q4o (CV.sb_refs hy)
theorem AVal.sb_refs (hy:∀ i ∈ y.refs,i=k) (x:AVal):∀ j ∈ (x.sb k y).refs,j ∈ x.refs:=by
 cases x with
 | any=>exact fun j a=>a
 | v x=>exact TV.sb_refs hy x
 | t xs=>exact Q4o (TV.sb_refs hy)
theorem Obj.sb_refs (hy:∀ i ∈ y.refs,i=k) (o:Obj):∀ j ∈ (o.sb k y).refs,j ∈ o.refs:=by
 cases o with
 | box ro cs=>exact Q4o (CV.sb_refs hy)
 | arr es n f=>exact fun j a=>a
 | ext p=>exact fun j a=>a
 | exr refs p=>exact fun j a=>a
theorem Obj.sb_ro (o:Obj):(o.sb k y).ro=o.ro:=by cases o <;> rfl
end
section
variable {P:Program} {C:Ctx} {nt:Nat} {L:Lay} {pins:List Nat} {K:Act->World->Prop} {E:List (Nat×AVal)} {S:List (Nat×Obj)}
theorem Conc.sb {R:Nat->Prop} {η:Nat->Value} {a:Act} {w:World} {S0:List (Nat×Obj)} {k:Nat} {y:CV} (hc:Conc C nt R η (lk E) (ls S0) a w) (s' : Sto) (hy:∀ i ∈ y.refs,i=k)
  (hs:∀ i o',s' i=some o' -> ∃ o,ls S0 i=some o/\(o'=o.sb k y\/(o'.refs=[]/\o'.ro=o.ro/\ORep w (XS C s' η) η C (η i) o')))
  (hrep:∀ v,CRep w (XS C (ls S0) η) η C v (.ap k)->CRep w (XS C s' η) η C v y):Conc C nt R η (lk (E.map fun p=>(p.1,p.2.sb k y))) s' a w:=by
 have r:∀ b,¬ XS C (ls S0) η b->¬ XS C s' η b:=by
  intro b m n;rcases n with n|⟨i,o',c,q⟩
  ·exact m (.inl n)
  ·obtain ⟨o,d,_⟩:=hs i o' c
   exact m (.inr ⟨i,o,d,q⟩)
 have l:∀ i,s' i≠none->ls S0 i≠none:=by
  intro i c;obtain ⟨o',c⟩:=Option.ne_none_iff_exists'.1 c
  obtain ⟨o,d,_⟩:=hs i o' c;rw [d];simp
 refine ⟨hc.ok,hc.df,hc.sz,fun t=>?_,fun t i c=>?_,fun i o' c=>?_,fun i o' c=>?_,fun i j b c f=>hc.ds i j b (l i c) (l j f),fun i o' b c m=>?_,hc.fr,hc.pn⟩
 ·rw [Y3f (g:=AVal.sb k y) rfl];exact (hc.ev t).sb r hrep
 ·rw [Y3f (g:=AVal.sb k y) rfl] at c;exact hc.er t i (AVal.sb_refs hy _ i c)
 ·obtain ⟨o,d,h|⟨_,_,h⟩⟩:=hs i o' c
  ·rw [h];exact (hc.st i o d).sb r hrep
  ·exact h
 ·obtain ⟨o,d,h|⟨h,_,_⟩⟩:=hs i o' c
  ·have:=hc.sr i o d
   exact ⟨this.1,fun j f=>this.2 j (by rw [h] at f;exact Obj.sb_refs hy o j f)⟩
  ·exact ⟨(hc.sr i o d).1,fun j f=>by rw [h] at f;cases f⟩
 ·obtain ⟨o,d,h|⟨_,h,_⟩⟩:=hs i o' c
  ·have:=hc.ow i o b d m
   rw [h,Obj.sb_ro];exact this
  ·have:=hc.ow i o b d m
   rw [h];exact this
theorem Z1N {k es n:Nat} {f:Nat->List DVal} (hk:(S.map (·.1)).contains k=false)
  (h1:Kn C nt (E.map fun p=>(p.1,p.2.sb k (.own k))) ((k,.arr es n f)::S.map fun p=>(p.1,p.2.sb k (.own k))) K)
  (h2:Kn C nt (E.map fun p=>(p.1,p.2.sb k (.fl n f))) (S.map fun p=>(p.1,p.2.sb k (.fl n f))) K):Kn C nt E ((k,.ext (apP es n f))::S) K:=by
 intro R η a w F;have x:ls ((k,.ext (apP es n f))::S) k=some (.ext (apP es n f)):=by rw [U5,if_pos rfl]
 have G:ls S k=none:=by
  cases j:ls S k with
  | none=>rfl
  | some o=>
   have:k ∈ S.map (·.1):=List.mem_map.2 ⟨_,U4 j,rfl⟩
   rw [List.contains_iff_mem.2 this] at hk;cases hk
 have g:∀ i o,ls S i=some o->ls ((k,.ext (apP es n f))::S) i=some o:=by
  intro i o c;have D:i≠k:=by intro h;rw [h,G] at c;cases c
  rw [U5,if_neg D];exact c
 have z:=F.st k _ x;have A:apP es n f w (XS C (ls ((k,.ext (apP es n f))::S)) η) (η k):=by
  generalize η k=u at z
  cases z with|ext _ _ h _ _=>exact h
 rcases A with ⟨J,e,I⟩|j
 ·refine h2 R η a w (F.sb _ (by simp [CV.refs]) (fun i H c=>?_) fun v d=>?_)
  ·rw [Z3p] at c
   cases j:ls S i with
   | none=>rw [j] at c;cases c
   | some o=>rw [j] at c;cases c;exact ⟨o,g i o j,.inl rfl⟩
  ·have B:∀ b,¬ XS C (ls ((k,.ext (apP es n f))::S)) η b->¬ XS C (ls (S.map fun p=>(p.1,p.2.sb k (.fl n f)))) η b:=by
    intro b m r;rcases r with r|⟨i,H,c,q⟩
    ·exact m (.inl r)
    ·rw [Z3p] at c
     cases j:ls S i with
     | none=>rw [j] at c;cases c
     | some o=>exact m (.inr ⟨i,o,g i o j,q⟩)
   cases d with|ap _ _ d h1=>
   rw [e] at d;rcases d with rfl|d|⟨l,d⟩
   ·cases h1
   ·cases d;exact .fl _ _ _ (I.mono fun b _ m=>⟨rfl,B b m⟩)
   ·cases d
 ·have B:∀ b,¬ XS C (ls ((k,.ext (apP es n f))::S)) η b->¬ XS C (ls ((k,.arr es n f)::S.map fun p=>(p.1,p.2.sb k (.own k)))) η b:=by
   intro b m r;rcases r with r|⟨i,H,c,q⟩
   ·exact m (.inl r)
   ·rw [U5] at c
    split at c
    ·rename_i t;subst t;exact m (.inr ⟨i,_,x,q⟩)
    ·rw [Z3p] at c
     cases j:ls S i with
     | none=>rw [j] at c;cases c
     | some o=>exact m (.inr ⟨i,o,g i o j,q⟩)
  refine h1 R η a w (F.sb _ (by simp [CV.refs]) (fun i H c=>?_) fun v d=>?_)
  ·rw [U5] at c
   split at c
   ·rename_i t
    cases c
    subst t;exact ⟨_,x,.inr ⟨rfl,rfl,(j η C).mono (fun b _ m=>⟨rfl,B b m⟩) (fun _ _=>rfl) fun _ _=>rfl⟩⟩
   ·rw [Z3p] at c
    cases ho' : ls S i with
    | none=>rw [ho'] at c;cases c
    | some o=>rw [ho'] at c;cases c;exact ⟨o,g i o ho',.inl rfl⟩
  ·cases d with|ap _ _ d h1=>
   have:=j η C
   rcases d with d|d|⟨l,d⟩
   ·exact .own _ _ d.symm h1
   ·rw [d] at this;cases this
   ·rw [d] at this;cases this
theorem Y5G (Fm:Fr P L C pins) {S0:List (Nat×Obj)} {ro:Bool} {i k es n j:Nat} {cs:List CV} {f:Nat->List DVal} (hp:pins.contains k=false)
  (hfr:((E.flatMap fun p=>p.2.refs)++(((i,Obj.box ro cs)::S0).flatMap fun p=>p.1::p.2.refs)).contains k=false) (hj:j<cs.length) (hc0:cs.getD j (.d .any)=.fl n f)
  (hk:Kn C nt E ((k,.ext (apP es n f))::(i,.box ro (cs.set j (.ap k)))::S0) K):Kn C nt E ((i,.box ro cs)::S0) K:=by
 intro R η a w A;have G:ls ((i,Obj.box ro cs)::S0) i=some (.box ro cs):=by rw [U5,if_pos rfl]
 have V:=A.st i _ G;obtain ⟨b0,c',e',hη0,hb0,hcs⟩:∃ b c' e',η i=.pointer (some ⟨b,0,none⟩)/\w.heap[b]?=some (.cells c' e' (0,0))/\z6 w (XS C (ls ((i,Obj.box ro cs)::S0)) η) η C c' cs:=by
  generalize η i=u at V
  cases V with|box b _ c' e' _ I h=>exact ⟨b,c',e',rfl,I,h⟩
 obtain ⟨ad,hv,hdr⟩:∃ ad,c'.getD j undef=.slice ad n n/\DRep w (XS C (ls ((i,Obj.box ro cs)::S0)) η) (.slice ad n n) (.lst n f):=by
  have:=hcs.2 j hj
  rw [hc0] at this;generalize c'.getD j undef=u at this
  cases this with|fl ad _ _ h=>exact ⟨ad,rfl,h⟩
 have Z:C.pin k=none:=by
  rcases hq:C.pin k with _|u
  ·rfl
  ·have:=Fm.pin k (by rw [hq];simp)
   rw [List.contains_iff_mem.2 this] at hp;cases hp
 have J:∀ x ∈ (E.flatMap fun p=>p.2.refs)++(((i,Obj.box ro cs)::S0).flatMap fun p=>p.1::p.2.refs),x≠k:=by
  intro x c he;subst he
  rw [List.contains_iff_mem.2 c] at hfr;cases hfr
 have hS:∀ x o,ls ((i,Obj.box ro cs)::S0) x=some o->x≠k/\∀ y ∈ o.refs,y≠k:=by
  intro x o c;have hm:=U4 c
  exact ⟨J x (List.mem_append.2 (.inr (List.mem_flatMap.2 ⟨_,hm,by simp⟩))),fun y F=>J y (List.mem_append.2 (.inr (List.mem_flatMap.2 ⟨_,hm,by simp [F]⟩)))⟩
 have a2:i≠k:=(hS i _ G).1;have hE:∀ u x,x ∈ (lk E u).refs->x≠k:=by
  intro u x c;rcases Z8P (E:=E) (t:=u) with h0|h0
  ·rw [h0] at c;cases c
  ·exact J x (List.mem_append.2 (.inl (List.mem_flatMap.2 ⟨_,h0,c⟩)))
 let η' : Nat->Value:=fun x=>if x=k then .tuple #[.slice ad n n] else η x
 have l : ∀ x,x≠k->η' x=η x:=fun x c=>by show (if x=k then Value.tuple #[.slice ad n n] else η x)=_;rw [if_neg c]
 have M:η' k=.tuple #[.slice ad n n]:=by show (if k=k then Value.tuple #[.slice ad n n] else η k)=_;rw [if_pos rfl]
 have m:∀ b,b ∉ Y7 (η' k):=by intro b;rw [M];simp [Y7]
 have H:∀ x o,ls ((k,Obj.ext (apP es n f))::(i,.box ro (cs.set j (.ap k)))::S0) x=some o->(x=k/\o=.ext (apP es n f))\/(x=i/\o=.box ro (cs.set j (.ap k)))\/(x≠k/\x≠i/\ls ((i,Obj.box ro cs)::S0) x=some o):=by
  intro x o c;rw [U5] at c
  by_cases r:x=k
  ·rw [if_pos r] at c;cases c;exact .inl ⟨r,rfl⟩
  ·rw [if_neg r,U5] at c
   by_cases D:x=i
   ·rw [if_pos D] at c;cases c;exact .inr (.inl ⟨D,rfl⟩)
   ·rw [if_neg D] at c
    exact .inr (.inr ⟨r,D,by rw [U5,if_neg D];exact c⟩)
 have v:∀ x o,ls ((k,Obj.ext (apP es n f))::(i,.box ro (cs.set j (.ap k)))::S0) x=some o->x≠k->∃ U,ls ((i,Obj.box ro cs)::S0) x=some U /\ U.ro=o.ro:=by
  intro x o c g;rcases H x o c with ⟨r,_⟩|⟨r,D⟩|⟨_,_,T⟩
  ·exact absurd r g
  ·subst r;subst D;exact ⟨_,G,rfl⟩
  ·exact ⟨o,T,rfl⟩
 have W:∀ b,Own (ls ((k,Obj.ext (apP es n f))::(i,.box ro (cs.set j (.ap k)))::S0)) η' b->Own (ls ((i,Obj.box ro cs)::S0)) η b:=by
  rintro b ⟨x,o,c,B⟩
  by_cases g:x=k
  ·subst g;exact absurd B (m b)
  ·obtain ⟨U,r,_⟩:=v x o c g
   exact ⟨x,U,r,by rw [<-l x g];exact B⟩
 have hX:Q6Z w w (XS C (ls ((i,Obj.box ro cs)::S0)) η) (XS C (ls ((k,Obj.ext (apP es n f))::(i,.box ro (cs.set j (.ap k)))::S0)) η'):=by
  intro b I hn;refine ⟨rfl,fun c=>?_⟩
  rcases c with c|c
  ·exact hn (.inl c)
  ·exact hn (.inr (W b c))
 refine hk (fun x=>R x\/x=k) η' a w ⟨A.ok,A.df,A.sz,fun u=>(A.ev u).mono hX fun x c=>l x (hE u x c),fun u x c=>.inl (A.er u x c),fun x o c=>?_,fun x o c=>?_,fun x y b c F B O=>?_,fun x o b c I=>?_,A.fr,fun x u c=>?_⟩
 ·rcases H x o c with ⟨rfl,rfl⟩|⟨rfl,rfl⟩|⟨r,D,T⟩
  ·refine .ext _ _ ?_ (Y4v es n f _) (fun b I=>absurd I (m b))
   rw [M];exact .inl ⟨ad,rfl,hdr.mono hX⟩
  ·rw [l x a2,hη0]
   refine .box b0 ro c' e' _ hb0 ⟨by rw [hcs.1];simp,fun q hq=>?_⟩;have N : q<cs.length:=by simpa using hq
   by_cases hqj:q=j
   ·subst hqj
    have:(cs.set q (.ap k)).getD q (.d .any)=.ap k:=by simp [List.getD_eq_getElem?_getD,N]
    rw [this,hv];exact .ap _ _ (.inr (.inl M)) rfl
   ·have:(cs.set j (.ap k)).getD q (.d .any)=cs.getD q (.d .any):=by
     simp [List.getD_eq_getElem?_getD,List.getElem?_set,Ne.symm hqj]
    rw [this];refine (hcs.2 q N).mono hX fun y F=>l y ((hS x _ G).2 y ?_)
    exact List.mem_flatMap.2 ⟨_,Q0I N,F⟩
  ·rw [l x r]
   exact (A.st x o T).mono hX (fun y F=>l y ((hS x o T).2 y F)) fun _ _=>rfl
 ·rcases H x o c with ⟨rfl,rfl⟩|⟨rfl,rfl⟩|⟨r,D,T⟩
  ·exact ⟨.inr rfl,by simp [Obj.refs]⟩
  ·have:=A.sr x _ G
   refine ⟨.inl this.1,fun y F=>?_⟩;obtain ⟨z,hz,Y⟩:=List.mem_flatMap.1 F
   rcases List.mem_or_eq_of_mem_set hz with h4|h4
   ·exact .inl (this.2 y (List.mem_flatMap.2 ⟨z,h4,Y⟩))
   ·subst h4
    exact .inr (by simpa [CV.refs] using Y)
  ·have:=A.sr x o T
   exact ⟨.inl this.1,fun y F=>.inl (this.2 y F)⟩
 ·obtain ⟨ox,c⟩:=Option.ne_none_iff_exists'.1 c
  obtain ⟨oy,F⟩:=Option.ne_none_iff_exists'.1 F
  by_cases g:x=k
  ·subst g;exact absurd B (m b)
  ·by_cases hyk:y=k
   ·subst hyk;exact absurd O (m b)
   ·obtain ⟨o1,r,_⟩:=v x ox c g
    obtain ⟨o2,D,_⟩:=v y oy F hyk;rw [l x g] at B
    rw [l y hyk] at O;exact A.ds x y b (by rw [r];simp) (by rw [D];simp) B O
 ·by_cases g:x=k
  ·subst g;exact absurd I (m b)
  ·obtain ⟨U,r,D⟩:=v x o c g
   rw [l x g] at I;rw [<-D]
   exact A.ow x U b r I
 ·have g:x≠k:=by intro h;subst h;rw [Z] at c;cases c
  have:=A.pn x u c
  exact ⟨by rw [l x g];exact this.1,.inl this.2⟩
end
end
section
section
variable {P:Program} {C:Ctx} {nt:Nat} {L:Lay} {ops:Array Oper} {ds:List Dir} {e:Env} {s:Sto}
def Y5y (caps:List Nat):List AVal:=caps.map fun c=>.v (.c (.ptr c 0))
theorem Y6A {f:Nat} (hcall:∀ args w,(callFunc f args).run P w=.ok (.enter f args) w) {o:Oper} {fx:Operand} {xs:Array Operand} {tys:Array TypeId} (hop:o.op=.call { callee:=.value fx,args:=xs,argTypes:=tys })
  {args:List AVal} {Si:List (Nat×Obj)} {r:AVal} {So:List (Nat×Obj)} {m:Nat->Nat} {caps:List Nat} (hfx:aev e fx=.v (.c (.clo f (caps.map m)))) (hrf:Q5G (Q0h o++V6 ops o) fx=true)
  (hspec:Q7 P f (args++Y5y caps) Si r So) (hbox:∀ c ∈ caps,∃ ro cs,ls Si c=some (.box ro cs)) (hlen:xs.size=args.length) (extra:List Nat)
  (hargs:∀ j,j<args.length->y7 C nt e s Si m (Q0h o++V6 ops o) (Z1M e o++(Si.map (fun p=>m p.1)++extra)) (xs.toList.getD j (.const undef)) (args.getD j .any))
  (hsi:∀ p ∈ Si,∃ o1,s (m p.1)=some o1/\OLe o1 (p.2.ren m)) (hchk:Q6K m r Si So=true) (hdo:Q1E nt o=true) (hg:Q8l ops e o=some true):StT P C nt ops o (Y3m ops o e m extra r Si So) e s:=by
 intro R η e0 G a w A x a2 l K Q hK;have hw:=Q5y (e:=e) l (fun t ht=>A t (List.mem_append.2 (.inr ht))) hg
 rw [if_pos hw];have J:=(W3 l fx).1
 rw [J2 A hrf,hfx] at J;have I:=Z8f J
 have T:=Z5J (w:=w) hop I hcall;have g:∀ p ∈ Si,∃ o1,G (m p.1)=some o1/\OLe o1 (p.2.ren m):=by
  intro p hp;rw [x (m p.1) (List.mem_append.2 (.inr (List.mem_append.2 (.inl (List.mem_map.2 ⟨p,hp,rfl⟩)))))]
  exact hsi p hp
 simp only [Q6K,Bool.and_eq_true] at hchk;have D:=hchk
 obtain ⟨⟨⟨⟨⟨⟨⟨⟨⟨c1,c2⟩,c3⟩,c4⟩,c5⟩,c6⟩,c7⟩,c8⟩,c9⟩,b4⟩:=hchk;have M:∀ b,XS C G η b->b<w.heap.size:=by
  rintro b (⟨hx,_⟩|hx)
  ·exact Nat.lt_of_lt_of_le (l.ok.lt b hx) l.fr.size
  ·exact l.lt hx
 have O:∀ i n,ls Si i=some n -> n.noSem=true:=fun i n h=>List.all_eq_true.1 c7 _ (U4 h)
 have q:∀ i n,ls Si i=some n -> ORep w (XS C G η) (fun i=>η (m i)) (J4 Si w (XS C G η) fun i=>η (m i)) (η (m i)) n:=fun i n h=>by
  obtain ⟨o1,H,a0⟩:=g _ (U4 h);exact (ORep.unren (a0.1 _ _ _ _ _ (l.st _ o1 H))).ctx (O i n h)
 have a3:=hspec w (XS C G η) (fun i=>η (m i)) (xs.map a.eval++((caps.map m).map η).toArray) M
  (fun b ⟨i,n,h,hib⟩=>by obtain ⟨o1,H,_⟩:=g _ (U4 h);exact .inr ⟨m i,o1,H,hib⟩)
  q
  (fun i j b h F Z U=>by
   obtain ⟨oi,h⟩:=Option.ne_none_iff_exists'.1 h;obtain ⟨oj,F⟩:=Option.ne_none_iff_exists'.1 F
   obtain ⟨o1,H,_⟩:=g _ (U4 h);obtain ⟨o2,h2,_⟩:=g _ (U4 F)
   have N:m i=m j:=l.ds _ _ b (by rw [H];simp) (by rw [h2];simp) Z U;have n3:=Q4t c3
   rw [List.nodup_append] at n3;exact Y5k (ρ:=m) n3.2.1 (by rw [h];simp) (by rw [F];simp) N)
  (by simp [hlen,Y5y])
  (fun j F=>by
   rw [List.length_append] at F
   by_cases hja:j<args.length
   ·have W : j<xs.size:=by omega
    have V:(xs.map a.eval++((caps.map m).map η).toArray).getD j undef=a.eval (xs.toList.getD j (.const undef)):=by
     simp [List.getD_eq_getElem?_getD,W,Array.getD_eq_getD_getElem?,Array.getElem?_append]
    have e2:(args++Y5y caps).getD j .any=args.getD j .any:=by simp [List.getD_eq_getElem?_getD,List.getElem?_append,hja]
    rw [V,e2];exact hargs j hja R η e0 G a w A x l
   ·have B:j-args.length<caps.length:=by simp [Y5y] at F;omega
    have g1:¬ j<xs.size:=by omega
    have g2:j-xs.size=j-args.length:=by omega
    have V:(xs.map a.eval++((caps.map m).map η).toArray).getD j undef=η (m (caps.getD (j-args.length) 0)):=by
     simp [Array.getD_eq_getD_getElem?,Array.getElem?_append,g1,g2,B,List.getD_eq_getElem?_getD]
    have e2:(args++Y5y caps).getD j .any=.v (.c (.ptr (caps.getD (j-args.length) 0) 0)):=by
     simp [List.getD_eq_getElem?_getD,List.getElem?_append,hja,Y5y,B]
    rw [V,e2];obtain ⟨ro,cs,Y⟩:=hbox _ (Q0I (d:=0) B)
    have:=q _ _ Y
    generalize hu:η (m (caps.getD (j-args.length) 0))=u at this
    cases this with|box b _ c e' _ _ _=>exact .v _ _ (.c _ _ (.ptr b _ 0 hu)))
 unfold Oper.wp;rw [T]
 show Calls P f _ w _;refine a3.mono fun en w' hh=>?_
 obtain ⟨v,η',rfl,Y⟩:=hh;have z:Q6K m r Si So=true:=by simp only [Q6K,Bool.and_eq_true];exact D
 obtain ⟨η1,a1⟩:=l.call (Q5u hdo) z g a2 Y;exact hK η1 _ w' a1
def Y5j (f:Nat) (ids:List Nat):AVal->Bool
 | .v (.c (.clo g is))=>g==f&&is==ids
 | _=>false
theorem Y6W {f:Nat} {ids:List Nat} {x:AVal} (h:Y5j f ids x=true):x=.v (.c (.clo f ids)):=by
 unfold Y5j at h;split at h
 ·rename_i g a;simp at h;rw [h.1,h.2]
 ·cases h
def Y8G (Si:List (Nat×Obj)) (caps:List Nat):Bool:=caps.all fun c=>match ls Si c with|some (.box _ _)=>true|_=>false
theorem Y7g {Si:List (Nat×Obj)} {caps:List Nat} (h:Y8G Si caps=true):∀ c ∈ caps,∃ ro cs,ls Si c=some (.box ro cs):=by
 intro c a;have:=List.all_eq_true.1 h c a
 split at this
 ·rename_i ro cs b;exact ⟨ro,cs,b⟩
 ·cases this
def Y8E (ops:Array Oper) (nt:Nat) (e:Env) (o:Oper) (f:Nat) (m:List (Nat×Nat)) (caps:List Nat) (r:AVal) (Si So:List (Nat×Obj)):Bool:=
 Z8U o&&Y5j f (caps.map (V3 m)) (aev e (callX o))&&Q5G (Q0h o++V6 ops o) (callX o)&&Q6K (V3 m) r Si So&&Q1E nt o&&(Q8l ops e o==some true)&&Y8G Si caps
theorem Z5N {k:Nat} {f:Nat} {args:List AVal} {Si:List (Nat×Obj)} {r:AVal} {So:List (Nat×Obj)} {caps:List Nat} (hspec:Q7 P f (args++Y5y caps) Si r So) (hcall:∀ args w,(callFunc f args).run P w=.ok (.enter f args) w) (m:List (Nat×Nat))
  (hk:Q2g ds k=cE m [] r Si So) (hq:(Y8E ops nt (W7 L ops ops.toList ds e s k) (Y8 ops.toList k) f m caps r Si So,Si.map (fun p=>Q2p L ops ops.toList ds e s k (V3 m p.1)),
   (Go.Ab.callXs (Y8 ops.toList k)).toList.all (Q5G (Q0h (Y8 ops.toList k)++V6 ops (Y8 ops.toList k)))&&args.all AVal.noSem,(Go.Ab.callXs (Y8 ops.toList k)).toList.map (aev (W7 L ops ops.toList ds e s k)))
   = (true,Si.map (fun p=>some (p.2.ren (V3 m))),true,args.map (AVal.ren (V3 m)))):KAt P C nt L ops ds e s k:=by
 unfold KAt;rw [hk]
 have g:=congrArg (·.1) hq;have c:=congrArg (·.2.1) hq
 have b:=congrArg (·.2.2.1) hq;have a:=congrArg (·.2.2.2) hq
 simp only at g c b a;simp only [Y8E,Bool.and_eq_true] at g
 obtain ⟨⟨⟨⟨⟨⟨x,u⟩,A⟩,t⟩,o⟩,q⟩,v⟩:=g;obtain ⟨l,d⟩:=Z5E x
 rw [Bool.and_eq_true] at b;obtain ⟨n,i⟩:=(Z5v.plains (C:=C) (nt:=nt) (s:=Q2p L ops ops.toList ds e s k) (Si:=Si) (ids:=Z1M (W7 L ops ops.toList ds e s k) (Y8 ops.toList k)++(Si.map (fun p=>V3 m p.1)++[])) b.1 b.2 a).spec
 exact Y6A hcall d (Y6W u) A hspec (Y7g v) (by simpa using n) [] (fun j z=>i j z) (fun p h=>⟨_,Q1P c p h,OLe.refl _⟩) t o (by simpa using q)
end
end
section
open Go.Sort Go.Proofs Go.Shelf
section
variable {α:Type} [Emb α]
end
end
section
section
variable {P:Program} {C:Ctx} {nt:Nat} {L:Lay} {R:Nat->Prop} {η:Nat->Value} {e:Env} {s:Sto} {a:Act} {w:World}
theorem Snd.upd_le {o:Oper} {x:AVal} {id:Nat} {ob ob' : Obj} {c:Prop} (h:Snd P C nt R η e s a w o { v:=x,upd:=some (id,ob),cond:=c }) (hle:OLe ob ob'):Snd P C nt R η e s a w o { v:=x,upd:=some (id,ob'),cond:=c }:=by
 obtain ⟨v,n,m,g⟩:=h;refine ⟨v,n,m,?_⟩
 have d:∀ q i,SR.sto { v:=x,upd:=some (id,q),cond:=c } o.dst s i=if i=id then some q else s i:=by
  intro q i;unfold SR.sto
  simp
 have p:=g.conv (R':=SR.rng { v:=x,upd:=some (id,ob'),cond:=c } o.dst R) (e':=SR.env { v:=x,upd:=some (id,ob'),cond:=c } o.dst e) (s':=SR.sto { v:=x,upd:=some (id,ob'),cond:=c } o.dst s) (fun i=>i)
  (fun t=>by rw [AVal.ren_id];exact ALe.refl _) (fun i l f=>by
   rw [Obj.ren_id];rw [d] at f ⊢
   split at f
   ·rename_i b;cases f;exact ⟨ob,by rw [if_pos b],hle⟩
   ·rename_i b;exact ⟨l,by rw [if_neg b];exact f,OLe.refl _⟩) (fun i j _ _ h=>h) (fun t i f=>g.er t i f) (fun i l f=>by
   rw [d] at f;split at f
   ·rename_i b
    cases f
    have:=g.sr i ob (by rw [d,if_pos b])
    exact ⟨this.1,fun j u=>this.2 j (hle.2.2 j u)⟩
   ·rename_i b
    exact g.sr i l (by rw [d,if_neg b];exact f)) (fun i f=>⟨rfl,by
   obtain ⟨v,r⟩:=Option.ne_none_iff_exists'.1 f;exact (g.pn i v r).2⟩)
 exact p
variable {ops:Array Oper} {ds:List Dir} {k:Nat}
theorem KAt.upd (hL:LOk P L) {id:Nat} {ob ob' : Obj} {c:Prop} (hk:Q2g ds k=rE { v:=.any,upd:=some (id,ob') })
  (hdo:(Q1E nt (Y8 ops.toList k)&&(Q8l ops (W7 L ops ops.toList ds e s k) (Y8 ops.toList k)==some true))=true)
  (hr:Q9f L false (W7 L ops ops.toList ds e s k) (Q2p L ops ops.toList ds e s k) (Y8 ops.toList k)=some { v:=.any,upd:=some (id,ob),cond:=c }) (hc:c) (hle:OLe ob ob'):KAt P C nt L ops ds e s k:=by
 unfold KAt;rw [hk]
 simp only [Bool.and_eq_true,beq_iff_eq] at hdo;have i:∀ t x y,(Y8 ops.toList k).op=.store t x y->(Y8 ops.toList k).dst=none:=by
  intro t x y h;have:=hdo.1
  simp only [Q1E,h,Bool.and_eq_true] at this;simpa using this.2
 refine Z0C hdo.1 hdo.2 fun R η o n a w m g j f=>?_
 have b:=(Y1z (L:=L) (e:=W7 L ops ops.toList ds e s k) (s:=Q2p L ops ops.toList ds e s k) false (Y8 ops.toList k) m g).trans hr;exact (Y6w hL f false _ (fun x l=>Q5u hdo.1 x l) b hc (fun d p j=>absurd rfl j) i).upd_le hle
theorem Y4x (hL:LOk P L) {te:TI} {t:TypeId} (hT:slT L t te) {x y:Operand} {d n m:Nat} {f g:Nat->List DVal}
  (hk:Q2g ds k=rE { v:=.v (.c (.own d)),new:=some (.arr te.size (n+m) (Q5w n f g)) }) (hop:(Y8 ops.toList k).op=.call { callee:=.builtin .append,args:= #[x,y],argTypes:= #[t,t] })
  (hdo:(Q1E nt (Y8 ops.toList k)&&(Q8l ops (W7 L ops ops.toList ds e s k) (Y8 ops.toList k)==some true)&&(Y8 ops.toList k).dst==some d&&Nat.ble te.bytes 8192&&te.zero.length==te.size)=true)
  (hx:aev (W7 L ops ops.toList ds e s k) x=.v (.c (.fl n f))) (hy:asL (Q2p L ops ops.toList ds e s k) (aev (W7 L ops ops.toList ds e s k) y)=some (m,g)) (hm:0<m)
  (hlim:n+m<=LIM) (hgl:∀ j,j<m->(g j).length=te.size) (hfl:∀ j,j<n->(f j).length=te.size):KAt P C nt L ops ds e s k:=by
 unfold KAt;rw [hk]
 simp only [Bool.and_eq_true,beq_iff_eq] at hdo;obtain ⟨⟨⟨⟨B,G⟩,r⟩,J⟩,I⟩:=hdo
 obtain ⟨N,M,D,i,h⟩:=hT;refine Z0C B G fun R η z u a w A p F o=>?_
 have H:x ∈ (Y8 ops.toList k).op.operands.toList:=by rw [hop];simp [Op.operands,Call.operands]
 have b:y ∈ (Y8 ops.toList k).op.operands.toList:=by rw [hop];simp [Op.operands,Call.operands]
 have l:Z8k u te.size m (aev z x)=some ([],n,f,∀ j,j<n->(f j).length=te.size):=by
  rw [A x H,hx];simp only [Z8k]
  rw [if_pos (.inr hm)]
 have q:asL u (aev z y)=some (m,g):=by rw [A y b,Z9l (p y b)];exact hy
 exact Z6K hL o r (Q5u B d r) (F d r (by simp)) hop D i h q l hfl (Nat.le_of_ble_eq_true J) I hlim hgl
end
end
section
open Go.ChangeShapes Go.WideShapes Go.ChangeAt Go.RowKit
end
section
@[reducible] def ow (n:Nat):AVal:=.v (.c (.own n))
@[reducible] def pt (n:Nat):AVal:=.v (.c (.ptr n 0))
@[reducible] def bx (l:List CV):Obj:=.box false l
section
variable {P:Program} {C:Ctx} {nt:Nat} {L:Lay} {pins:List Nat} {E:List (Nat×AVal)} {S:List (Nat×Obj)} {Q:Exit->Act->World->Prop}
theorem W1D (Fm:Fr P L C pins) {id:Nat} {ops:Array Oper} {draw:Bool} (ds:List Dir) (c:(Nat->Prop)->Prop) (E' : List (Nat×AVal)) (S' : List (Nat×Obj)) (hc:c (KAt P C nt L ops ds (lk E) (ls S))) (k:Kn C nt E' S' (Q .normal))
  (h:(Z6c L pins nt ops draw ds E S [] S',Q7m P C nt L ops ops.toList ds (lk E) (ls S),E'.map (fun p=>Z2j ops.toList (Q1o L ops ops.toList ds (lk E) (ls S)) (lk E) p.1),S'.map (fun p=>Z2i (Q1o L ops ops.toList ds (lk E) (ls S)) (ls S) (V3 [] p.1)))
   = (true,c (KAt P C nt L ops ds (lk E) (ls S)),E'.map (fun p=>p.2.ren (V3 [])),S'.map (fun p=>some (p.2.ren (V3 [])))):=by kernel_rfl):AW P C nt (.region id ops draw) E S Q:=AW.g Fm ds c E' S' hc h k
theorem Y3r (Fm:Fr P L C pins) {id:Nat} {ops:Array Oper} {draw:Bool} {y:Code} (n:Nat) (E' : List (Nat×AVal)) (S' : List (Nat×Obj)) (k:AW P C nt y E' S' Q)
  (h:(Z6c L pins nt ops draw (ss n) E S [] S',Q7m P C nt L ops ops.toList (ss n) (lk E) (ls S),E'.map (fun p=>Z2j ops.toList (Q1o L ops ops.toList (ss n) (lk E) (ls S)) (lk E) p.1),S'.map (fun p=>Z2i (Q1o L ops ops.toList (ss n) (lk E) (ls S)) (ls S) (V3 [] p.1)))
   = (true,True,E'.map (fun p=>p.2.ren (V3 [])),S'.map (fun p=>some (p.2.ren (V3 [])))):=by kernel_rfl):AW P C nt (.seq (.region id ops draw) y) E S Q:=Y9b Fm n E' S' h k
variable {K:Act->World->Prop}
theorem Kn.R (Fm:Fr P L C pins) {E' : List (Nat×AVal)} {S' : List (Nat×Obj)} (h:Kn C nt E' S' K)
  (hq:(pins.all (fun i=>V3 [] i==i),E'.map (fun p=>lk E p.1),S'.map (fun p=>ls S (V3 [] p.1)),Q3n (S'.map fun p=>V3 [] p.1))=(true,E'.map (fun p=>p.2.ren (V3 [])),S'.map (fun p=>some (p.2.ren (V3 []))),true):=by kernel_rfl):Kn C nt E S K:=W1p Fm E' S' hq h
theorem Q1e (Fm:Fr P L C pins) (ρ:List (Nat×Nat)) {E' : List (Nat×AVal)} {S' : List (Nat×Obj)} (h:Kn C nt E' S' K) (hp:pins.all (fun i=>V3 ρ i==i)=true:=by kernel_rfl) (hE:E'.map (fun p=>lk E p.1)=E'.map (fun p=>p.2.ren (V3 ρ)):=by kernel_rfl)
  (hS:S'.map (fun p=>ls S (V3 ρ p.1))=S'.map (fun p=>some (p.2.ren (V3 ρ))):=by kernel_rfl) (hinj:Q3n (S'.map fun p=>V3 ρ p.1)=true:=by kernel_rfl):Kn C nt E S K:=Kn.re Fm ρ E' S' hp hE hS hinj h
theorem Kn.D (Fm:Fr P L C pins) {fn:Func} {r:AVal} {S' : List (Nat×Obj)} (hq:(Y6I L (lk E) (ls S) fn.results.toList,S'.map (fun p=>ls S p.1))=(some r,S'.map (fun p=>some p.2)):=by kernel_rfl):Kn C nt E S (Y4T P fn C r S' .ret):=Q3b Fm hq
end
section
variable {P:Program} {C:Ctx} {nt:Nat} {L:Lay} {ops:Array Oper} {ds:List Dir} {e:Env} {s:Sto}
theorem Q2 {k:Nat} {f:Nat} {args:List AVal} {Si:List (Nat×Obj)} {r:AVal} {So:List (Nat×Obj)} (hspec:Q7 P f args Si r So) (hcall:∀ args w,(callFunc f args).run P w=.ok (.enter f args) w) (m:List (Nat×Nat))
  (hk:Q2g ds k=cE m [] r Si So:=by rfl) (hq:(Go.Ab.callB ops nt (W7 L ops ops.toList ds e s k) (Y8 ops.toList k) f m r Si So,Si.map (fun p=>Q2p L ops ops.toList ds e s k (V3 m p.1)),
   (Go.Ab.callXs (Y8 ops.toList k)).toList.all (Q5G (Q0h (Y8 ops.toList k)++V6 ops (Y8 ops.toList k)))&&args.all AVal.noSem,(Go.Ab.callXs (Y8 ops.toList k)).toList.map (aev (W7 L ops ops.toList ds e s k)))
   = (true,Si.map (fun p=>some (p.2.ren (V3 m))),true,args.map (AVal.ren (V3 m))):=by kernel_rfl):KAt P C nt L ops ds e s k:=W0Z hspec hcall m hk hq
end
section
variable {C:Ctx} {nt:Nat} {e:Env} {s:Sto}
theorem y7.p {Si:List (Nat×Obj)} {m:Nat->Nat} {rd ids:List Nat} {x:Operand} {y:AVal} (hx:Q5G rd x=true:=by kernel_rfl) (hle:aev e x=y.ren m:=by kernel_rfl) (hs:y.noSem=true:=by kernel_rfl):y7 C nt e s Si m rd ids x y:=y7.plain hx (ALe.of_eq hle) hs
end
end
section
open Go.Maps (Keyed)
open Go.WideElems (Fit rd rg pl rd_val elemAt)
open Go.ChangeMaps Go.MapKept
def W1w (ks:List Int):DataW Unit:=ks.foldl (fun D k=>D.put (.int .i64 k) (.lit (.bool true))) (.map [])
def Y1Q (P:Program) (kT eT:TypeId) (ks:List Int) (w:World) (_:Nat->Prop) (v:Value):Prop:=∃ b,v=.map (some b)/\w.ownsMap P kT (plainElem P eT) b ks.length (W1w ks)
theorem Y6S {P:Program} {kT eT:TypeId} {ks:List Int} (v:Value):Y2F (Y1Q P kT eT ks) v:=by
 intro w m X X' _ j d;obtain ⟨b,rfl,f,c,h,l,i,g⟩:=d
 exact ⟨b,rfl,f,c,(j b (by simp [Y7])).trans h,l,i,g⟩
end
section
section
variable {P:Program} {C:Ctx} {nt:Nat} {L:Lay} {R:Nat->Prop} {η:Nat->Value} {e:Env} {s:Sto} {a:Act} {w:World}
theorem Y7p {X:Nat->Prop} {v:Value} {n:Int} (h:ARep w X η C v (vi n)):v=.int .i64 n:=by
 cases h with|v _ _ hh=>cases hh with|c _ _ hh=>cases hh with|d _ _ hh=>cases hh;rfl
theorem Y4M (h:Conc C nt R η e s a w) {o:Oper} {d:Nat} (hd:o.dst=some d) (hdn:d<nt) (hR:¬ R d) {p:World->(Nat->Prop)->Value->Prop} {v:Value} {w' : World}
  (hrun:(execOp a.eval o).run P w=.ok (.value v) w') (hstep:Stp (fun _=>False) w w') (hone:v.oneCell'=true) (hv:∀ b,b ∈ Y7 v->w.heap.size<=b) (hob:∀ X' η',ORep w' X' η' C v (.ext p)) :
  Snd P C nt R η e s a w o { v:=.v (.c (.own d)),new:=some (.ext p) }:=by
 have q:=Q5H (C:=C) (s:=s) (η:=η) { v:=.v (.c (.own d)),new:=some (.ext p) } o.dst v (fun _=>False) hstep (fun b f=>f.elim) (fun _ _ _ _ b f=>.inl (hv b f)) (fun k o l=>by cases l);refine ⟨v,w',.inl hrun,h.step o.dst (fun x m=>by rw [hd] at m;cases m;exact hdn) _ _ _ (fun _=>False) hstep (fun b f=>f.elim) ?_ (fun k o l=>by cases l) ?_⟩
 ·intro r dd i g
  cases i
  rw [hd] at g;cases g
  exact ⟨hR,rfl,by simp [Obj.refs],hob _ _,fun b f=>.inl (hv b f)⟩
 ·intro _
  refine ⟨.v _ _ (.c _ _ (.own _ _ (by simp [SR.eta,hd]) hone)),fun j n=>?_⟩;simp [AVal.refs,TV.refs,CV.refs] at n
  exact .inr ⟨by simp,by rw [hd,n]⟩
variable {ops:Array Oper} {ds:List Dir} {k:Nat}
theorem Y7j {kT eT t:TypeId} {d:Nat} (hk:Q2g ds k=rE { v:=.v (.c (.own d)),new:=some (.ext (Y1Q P kT eT [])) }) (hop:(Y8 ops.toList k).op=.makeMap t none)
  (hdo:(Q1E nt (Y8 ops.toList k)&&(Q8l ops (W7 L ops ops.toList ds e s k) (Y8 ops.toList k)==some true)&&(Y8 ops.toList k).dst==some d)=true):KAt P C nt L ops ds e s k:=by
 unfold KAt;rw [hk]
 simp only [Bool.and_eq_true,beq_iff_eq] at hdo;obtain ⟨⟨i,l⟩,h⟩:=hdo
 refine Z0C i l fun R η o n a w p m j g=>?_
 refine Y4M g h (Q5u i d h) (j d h (by simp)) (v:=.map (some w.heap.size)) (w':=w.alloc (.map #[] 0)) ?_ (Stp.alloc _ w _) rfl (fun b f=>by simp [Y7] at f;omega) fun X' η'=>?_
 ·simp [execOp,hop,Instr.makeMap]
 ·refine .ext _ _ ⟨_,rfl,World.ownsMap_made w P kT _⟩ (Y6S _) fun b f=>?_
  simp only [Y7,List.mem_singleton] at f;subst f
  show w.heap.size<(w.heap.push _).size;rw [Array.size_push];omega
end
end
section
open Go.Sort Go.Proofs Go.Shelf Go.Maps
end
section
section
variable {P:Program} {L:Lay}
end
section
variable {P:Program} {C:Ctx} {nt:Nat} {L:Lay} {ops:Array Oper} {ds:List Dir} {e:Env} {s:Sto}
end
end
section
open Go.Sort Go.Proofs Go.Shelf Go.Maps
end
section
def sAt (s:ByteArray) (i:Int):Int:=(((s[i.toNat]?).getD 0).toNat:Nat)
def sEq (a b:ByteArray):Bool:=a.toList==b.toList
def sLt (a b:ByteArray):Bool:=Op.bytesLess a.toList b.toList
def W0F (op:BinOp) (a b:ByteArray):Option Bool:=
 match op with
 | .eql=>some (sEq a b)
 | .neq=>some (!sEq a b)
 | .lss=>some (sLt a b)
 | .leq=>some (sLt a b||sEq a b)
 | .gtr=>some (!(sLt a b||sEq a b))
 | .geq=>some (!sLt a b)
 | _=>none
section
variable {P:Program} {C:Ctx} {nt:Nat} {L:Lay} {ops:Array Oper} {ds:List Dir} {e:Env} {s:Sto}
theorem Z3K (op:BinOp) (t:TypeId) (x y:Operand) (a b:ByteArray) (w:World):(eqGuard op t x y (.string a) (.string b)).run P w=.ok () w:=by
 unfold eqGuard;split <;> rfl
theorem Y9v (op:BinOp) (t:TypeId) (a b:ByteArray) {c:Bool} (h:W0F op a b=some c) (w:World):(binOp op t (.string a) (.string b)).run P w=.ok (.bool c) w:=by
 cases op <;> simp only [W0F,Option.some.injEq,reduceCtorEq] at h <;> subst h <;> simp [binOp,Op.stringOp,sEq,sLt]
def Y1a (ops:Array Oper) (nt:Nat) (e:Env) (o:Oper) (x y:Operand):Bool:=Q5G (Q0h o++V6 ops o) x&&Q5G (Q0h o++V6 ops o) y&&Q1E nt o&&(Q8l ops e o==some true)
theorem Z8m {k:Nat} {op:BinOp} {t t' : TypeId} {x y:Operand} {a b:ByteArray} {c:Bool} (hk:Q2g ds k=sE (vb c)) (hop:(Y8 ops.toList k).op=.binOp op t x y t') (hb:Y1a ops nt (W7 L ops ops.toList ds e s k) (Y8 ops.toList k) x y=true)
  (hx:aev (W7 L ops ops.toList ds e s k) x=.v (.c (.d (.str a)))) (hy:aev (W7 L ops ops.toList ds e s k) y=.v (.c (.d (.str b)))) (hc:W0F op a b=some c):KAt P C nt L ops ds e s k:=by
 unfold KAt;rw [hk]
 simp only [Y1a,Bool.and_eq_true,beq_iff_eq] at hb;obtain ⟨⟨⟨l,j⟩,n⟩,m⟩:=hb
 refine Z0S rfl n m fun R η p o q w g f=>?_
 have i:=(W3 f x).1;rw [J2 g l,hx] at i
 have i:=Z3j i;have h:=(W3 f y).1
 rw [J2 g j,hy] at h;have h:=Z3j h
 exact ⟨_,by simp only [execOp,hop,Sem.run_bind,i,h,Z3K,Y9v op t a b hc,Result.andThen_ok,Sem.run_pure],Z8h _ _⟩
theorem G9 {k:Nat} {t:TypeId} (ht:P.underlying t=some .string) {x y:Operand} {a:ByteArray} {m:Int} (hk:Q2g ds k=sE (.v (.c (.d (.int .u8 (sAt a m)))))) (hop:(Y8 ops.toList k).op=.index t x y) (hb:Y1a ops nt (W7 L ops ops.toList ds e s k) (Y8 ops.toList k) x y=true)
  (hx:aev (W7 L ops ops.toList ds e s k) x=.v (.c (.d (.str a)))) (hy:asI (aev (W7 L ops ops.toList ds e s k) y)=some m) (hc:0<=m/\m<((a.size:Nat):Int)):KAt P C nt L ops ds e s k:=by
 unfold KAt;rw [hk]
 simp only [Y1a,Bool.and_eq_true,beq_iff_eq] at hb;obtain ⟨⟨⟨n,l⟩,j⟩,q⟩:=hb
 refine Z0S rfl j q fun R η z u A w f b=>?_
 have g:=(W3 b x).1;rw [J2 f n,hx] at g
 have g:=Z3j g;rw [<-J2 f l] at hy
 obtain ⟨r,o⟩:=Z9m b hy;have h:m.toNat<a.size:=by omega
 have i:a[m.toNat]?=some a[m.toNat]:=by
  exact getElem?_pos a m.toNat h
 have p:sAt a m=((a[m.toNat].toNat:Nat):Int):=by unfold sAt;rw [i];rfl
 rw [p];refine ⟨.int .u8 (a[m.toNat].toNat:Nat),?_,Q4S _ _ _⟩
 simp [execOp,hop,g,o,Instr.index,asIntOf,run_underlying ht,hc.1,i]
end
theorem Is.subv {α:Type} [Emb α] {l:List α} {lo n:Nat} (h:lo+n<=l.length):Is n (fun j=>LF l (lo+j)) ((l.drop lo).take n):=by
 have b:((l.drop lo).take n).length=n:=by rw [List.length_take,List.length_drop];omega
 refine Is.of_gl _ b fun i c=>?_
 have e:gl l (lo+i)=gl ((l.drop lo).take n) i:=by simp [gl,List.getD_eq_getElem?_getD,c]
 show Emb.cells (gl l (lo+i))=_;rw [e]
end
section
open Go.MapKept
def MP {α:Type} [Emb α] (gs:List (Int×List α)):DVal:=.mp gs.length (fun i=>(gs.getD i (0,[])).1) fun i=>DL (gs.getD i (0,[])).2
def Y7m {α:Type} [Emb α] (w:World) (X:Nat->Prop) (x:MapEntry) (e:Int×List α):Prop:=x.key=.int .i64 e.1/\DRep w X x.val (DL e.2)
def itP {α:Type} [Emb α] (left:List (Int×List α)) (cur:Option (Int×List α)) (w:World) (X:Nat->Prop) (v:Value):Prop:=
 ∃ (r b:Nat) (es:Array MapEntry) (clock since:Nat) (seen:Array Nat) (c0:Nat),v=.pointer (some ⟨r,0,none⟩)/\w.heap[r]?=some (.mapIter (some b) since seen c0)/\¬ X b/\w.heap[b]?=some (.map es clock)/\Stamped es clock/\since<=c0/\since<=clock/\(∀ x ∈ es.toList,x.born<since) /\
  (leftOf es seen).size=left.length/\(∀ (i:Nat) (x:MapEntry) (e:Int×List α),(leftOf es seen)[i]?=some x->left[i]?=some e->Y7m w X x e) /\
  ∀ e,cur=some e->∃ x ∈ es.toList,∃ seen' : Array Nat,seen=seen'.push x.born/\c0=clock/\Y7m w X x e
theorem Y7m.mono {α:Type} [Emb α] {w w' : World} {X X' : Nat->Prop} {x:MapEntry} {e:Int×List α} (h:Y7m w X x e) (hk:Q6Z w w' X X'):Y7m w' X' x e:=⟨h.1,h.2.mono hk⟩
theorem Y1e {α:Type} [Emb α] {left:List (Int×List α)} {cur:Option (Int×List α)} (v:Value):Y2F (itP left cur) v:=by
 intro w O X X' g M h;obtain ⟨r,b,t,d,c,f,p,rfl,G,A,n,N,H,F,I,J,B,l⟩:=h
 have o:=g b (K8 n) A;exact ⟨r,b,t,d,c,f,p,rfl,(M r (by simp [Y7])).trans G,o.2,o.1.trans n,N,H,F,I,J,fun i x e j m=>(B i x e j m).mono g,fun e m=>by
  obtain ⟨x,j,u,z,q,D⟩:=l e m;exact ⟨x,j,u,z,q,D.mono g⟩⟩
theorem Y8d {α:Type} [Emb α] (left:List (Int×List α)) (cur:Option (Int×List α)):OLe (.ext (itP left cur)) (.ext (itP left none)):=by
 refine ⟨fun w X η C v x=>?_,rfl,fun i o=>by cases o⟩
 cases x with
 | ext _ _ h1 h2 h3=>
  obtain ⟨r,b,j,d,c,f,g,e,p,h,q,A,m,n,l,z,u,_⟩:=h1;exact .ext _ _ ⟨r,b,j,d,c,f,g,e,p,h,q,A,m,n,l,z,u,fun e t=>by cases t⟩ (Y1e _) h3
section
variable {P:Program} {C:Ctx} {nt:Nat} {L:Lay} {R:Nat->Prop} {η:Nat->Value} {e:Env} {s:Sto} {a:Act} {w:World}
theorem Y3E (h:Conc C nt R η e s a w) {o:Oper} {d:Nat} (hd:o.dst=some d) (hdn:d<nt) (hR:¬ R d) {p:World->(Nat->Prop)->Value->Prop} {v:Value} {w' : World}
  (hrun:(execOp a.eval o).run P w=.ok (.value v) w') (hstep:Stp (fun _=>False) w w') (hone:v.oneCell'=true) (hv:∀ b,b ∈ Y7 v->w.heap.size<=b) (hob:∀ X' η',Q6Z w w' (XS C s η) X' -> ORep w' X' η' C v (.ext p)) :
  Snd P C nt R η e s a w o { v:=.v (.c (.own d)),new:=some (.ext p) }:=by
 have q:=Q5H (C:=C) (s:=s) (η:=η) { v:=.v (.c (.own d)),new:=some (.ext p) } o.dst v (fun _=>False) hstep (fun b f=>f.elim) (fun _ _ _ _ b f=>.inl (hv b f)) (fun k o l=>by cases l);refine ⟨v,w',.inl hrun,h.step o.dst (fun x m=>by rw [hd] at m;cases m;exact hdn) _ _ _ (fun _=>False) hstep (fun b f=>f.elim) ?_ (fun k o l=>by cases l) ?_⟩
 ·intro r dd i g
  cases i
  rw [hd] at g;cases g
  exact ⟨hR,rfl,by simp [Obj.refs],hob _ _ q,fun b f=>.inl (hv b f)⟩
 ·intro _
  refine ⟨.v _ _ (.c _ _ (.own _ _ (by simp [SR.eta,hd]) hone)),fun j n=>?_⟩;simp [AVal.refs,TV.refs,CV.refs] at n
  exact .inr ⟨by simp,by rw [hd,n]⟩
theorem W0X {α:Type} [Emb α] {X:Nat->Prop} {v:Value} {gs:List (Int×List α)} (h:ARep w X η C v (.v (.c (.d (MP gs))))) :
  ∃ (b:Nat) (es:Array MapEntry) (clock:Nat),v=.map (some b)/\¬ X b/\w.heap[b]?=some (.map es clock)/\Stamped es clock/\es.size=gs.length/\∀ (i:Nat) (x:MapEntry) (e:Int×List α),es[i]?=some x->gs[i]?=some e->Y7m w X x e:=by
 cases h with|v _ _ h=>cases h with|c _ _ h=>cases h with|d _ _ h=>
 unfold MP at h
 cases h with|mp b es clock _ _ Q8E _ h1 h2 h3 h4 h5 h6=>
 refine ⟨b,es,clock,rfl,h1,h2,h3,h4,fun i x e j g=>?_⟩;obtain ⟨l,n⟩:=List.getElem?_eq_some_iff.1 g
 obtain ⟨p,o⟩:=h5 i l;have m:gs.getD i (0,[])=e:=by rw [List.getD_eq_getElem?_getD,g];rfl
 have f:=h6 i l;rw [o] at j
 cases j
 simp only [m] at f ⊢;exact ⟨rfl,f⟩
variable {ops:Array Oper} {ds:List Dir} {k:Nat}
theorem KAt.range {α:Type} [Emb α] {gs:List (Int×List α)} {t kT eT:TypeId} (ht:P.underlying t=some (.map kT eT)) {d:Nat} {x:Operand} (hk:Q2g ds k=rE { v:=.v (.c (.own d)),new:=some (.ext (itP gs none)) }) (hop:(Y8 ops.toList k).op=.range t x)
  (hdo:(Q1E nt (Y8 ops.toList k)&&(Q8l ops (W7 L ops ops.toList ds e s k) (Y8 ops.toList k)==some true)&&(Y8 ops.toList k).dst==some d)=true)
  (hx:aev (W7 L ops ops.toList ds e s k) x=.v (.c (.d (MP gs)))):KAt P C nt L ops ds e s k:=by
 unfold KAt;rw [hk]
 simp only [Bool.and_eq_true,beq_iff_eq] at hdo;obtain ⟨⟨z,I⟩,r⟩:=hdo
 refine Z0C z I fun R η W U a w M J H j=>?_
 have T:x ∈ (Y8 ops.toList k).op.operands.toList:=by rw [hop];simp [Op.operands]
 have B:=(W3 j x).1;rw [M x T,hx] at B
 obtain ⟨b,n,f,N,G,o,u,F,D⟩:=W0X B;refine Y3E j r (Q5u z d r) (H d r (by simp)) (v:=.pointer (some ⟨w.heap.size,0,none⟩)) (w':=w.alloc (.mapIter (some b) f #[] f)) ?_ (Stp.alloc _ w _) rfl (fun b O=>by simp [Y7] at O;omega) fun X' η' m=>?_
 ·simp [execOp,hop,N,run_range_map w t kT eT b n f ht o]
 ·have l:=m b (K8 o) G
  have g:leftOf n #[]=n:=by simp [leftOf]
  refine .ext _ _ ⟨w.heap.size,b,n,f,f, #[],f,rfl,by show (w.heap.push _)[w.heap.size]?=_;exact Array.getElem?_push_size,l.2,l.1.trans o,u,Nat.le_refl _,Nat.le_refl _,u.1,by rw [g,F],fun i y q A p=>?_,fun q p=>by cases p⟩ (Y1e _) fun V h=>?_
  ·rw [g] at A
   exact (D i y q A p).mono m
  ·simp only [Y7,List.mem_singleton] at h
   subst h;show w.heap.size<(w.heap.push _).size
   rw [Array.size_push];omega
theorem KAt.entry {α:Type} [Emb α] {gs:List (Int×List α)} {q:Int×List α} {id:Nat} {x:Operand} (hk:Q2g ds k=rE { v:=.t [.c (.d (.int .i64 q.1)),.c (.d (DL q.2))] }) (hop:(Y8 ops.toList k).op=.entry x)
  (hdo:(Q1E nt (Y8 ops.toList k)&&(Q8l ops (W7 L ops ops.toList ds e s k) (Y8 ops.toList k)==some true))=true)
  (hx:aev (W7 L ops ops.toList ds e s k) x=.v (.c (.own id))) (hs:Q2p L ops ops.toList ds e s k id=some (.ext (itP gs (some q)))):KAt P C nt L ops ds e s k:=by
 unfold KAt;rw [hk]
 simp only [Bool.and_eq_true,beq_iff_eq] at hdo;obtain ⟨B,U⟩:=hdo
 refine Z0C B U fun R η e0 I a w O l hn f=>?_
 have G:x ∈ (Y8 ops.toList k).op.operands.toList:=by rw [hop];simp [Op.operands]
 have i:=(W3 f x).1;rw [O x G,hx] at i
 have i:=Q6H i;have o:I id=some (.ext (itP gs (some q))):=(l x G id (by rw [hx];simp [AVal.refs,TV.refs,CV.refs])).trans hs
 have h:=f.st id _ o;generalize hu:η id=u at h
 cases h with
 | ext _ _ hp _ _=>
  obtain ⟨r,b,A,z,g,F,D,rfl,J,W,N,T,Z,g6,Y,g8,g9,m⟩:=hp;obtain ⟨y,V,H,rfl,rfl,p,n⟩:=m q rfl
  refine G3 f (Q5u B) (v:=.tuple #[y.key,y.val]) ?_ ?_ (by simp [AVal.refs,TV.refs,CV.refs])
  ·simp [execOp,hop,i,hu,run_entry_at w r b g H A D y J N V ((stamped_iff A D).1 T).2.1]
  ·refine .t _ _ rfl fun j M=>?_
   have:j=0\/j=1:=by simp at M;omega
   rcases this with rfl|rfl
   ·exact .c _ _ (.d _ _ (by show DRep w _ y.key _;rw [p];exact .int _ _))
   ·exact .c _ _ (.d _ _ n)
end
theorem Y3S {es:Array MapEntry} {clock:Nat} (hst:Stamped es clock) {seen:Array Nat} {i:Nat} {x:MapEntry} (hx:(leftOf es seen)[i]?=some x):(leftOf es (seen.push x.born)).toList=(leftOf es seen).toList.eraseIdx i:=by
 have c:((leftOf es seen).toList.map (·.born)).Nodup:=by
  unfold leftOf;rw [Array.toList_filter]
  exact (List.filter_sublist.map _).nodup hst.2.1
 have d:(leftOf es (seen.push x.born)).toList=(leftOf es seen).toList.filter fun y=>y.born != x.born:=by
  unfold leftOf;rw [Array.toList_filter,Array.toList_filter,List.filter_filter]
  refine List.filter_congr fun y _=>?_
  rw [Array.contains_push,Bool.not_or,bne,Bool.and_comm]
 rw [d];have b : (leftOf es seen).toList[i]?=some x:=by simpa using hx
 generalize (leftOf es seen).toList=l at c b
 clear hx d
 induction l generalizing i with
 | nil=>simp at b
 | cons y l ih=>
  rw [List.map_cons,List.nodup_cons] at c
  cases i with
  | zero=>
   simp at b
   subst b;rw [List.eraseIdx_zero,List.filter_cons,if_neg (by simp)]
   rw [List.tail_cons];refine List.filter_eq_self.2 fun z f=>?_
   simp only [bne_iff_ne,ne_eq];intro h
   exact c.1 (h ▸ List.mem_map_of_mem f)
  | succ i=>
   simp at b
   rw [List.eraseIdx_cons_succ,List.filter_cons,if_pos,ih c.2 b];simp only [bne_iff_ne,ne_eq]
   intro h;exact c.1 (h ▸ List.mem_map_of_mem (List.mem_of_getElem? b))
noncomputable def nextM {α R:Type} (gs:List α) (stop:Option R) (go:α->List α->Option R):Option R:=
 open Classical in
 match gs with
 | []=>stop
 | g::l=>if h:∃ r,∀ i (hi:i<(g::l).length),go (g::l)[i] ((g::l).eraseIdx i)=some r then some h.choose else none
theorem Y5b {α R:Type} {gs:List α} {stop:Option R} {go:α->List α->Option R} {r:R} (h:nextM gs stop go=some r) (hg:gs=[]):stop=some r:=by subst hg;exact h
theorem Y7R {α R:Type} {gs:List α} {stop:Option R} {go:α->List α->Option R} {r:R} (h:nextM gs stop go=some r) {x:α} {l:List α} (hx:∃ i,∃ hi:i<gs.length,x=gs[i]/\l=gs.eraseIdx i):go x l=some r:=by
 obtain ⟨i,hi,rfl,rfl⟩:=hx
 cases gs with
 | nil=>exact absurd hi (Nat.not_lt_zero _)
 | cons g l=>
  unfold nextM at h;simp only at h
  split at h
  ·rename_i b
   obtain rfl:=Option.some.inj h;exact b.choose_spec i hi
  ·cases h
theorem Y6P {α R:Type} {stop:Option R} {go:α->List α->Option R}:nextM [] stop go=stop:=rfl
theorem Y5c {α R:Type} {gs:List α} {stop:Option R} {go:α->List α->Option R} {r:R} (hne:gs≠[]) (h:∀ i (hi:i<gs.length),go gs[i] (gs.eraseIdx i)=some r):nextM gs stop go=some r:=by
 cases gs with
 | nil=>exact absurd rfl hne
 | cons g l=>
  unfold nextM;simp only
  have c:∃ r,∀ i (hi:i<(g::l).length),go (g::l)[i] ((g::l).eraseIdx i)=some r:=⟨r,h⟩;rw [dif_pos c]
  have b:=c.choose_spec 0 (by simp);rw [h 0 (by simp)] at b
  exact b.symm
section
variable {P:Program} {C:Ctx} {nt:Nat} {L:Lay} {pins:List Nat} {E:List (Nat×AVal)} {S:List (Nat×Obj)} {Q:Exit->Act->World->Prop}
theorem Y9e {α:Type} [Emb α] {gs:List (Int×List α)} {id it t5 t6 t7 ty6 ty7:Nat} {p6 p7:String} {af6 af7:Array Edge}
  (hE:lk E t5=.v (.c (.own it))) (h6:(E.map (·.1)).contains t6=false) (hn:(Nat.blt t6 nt&&Nat.blt t7 nt && !(t6==t7))=true)
  (stop:gs=[]->Kn C nt ((t7,vb false)::E) ((it,.ext (itP gs none))::S) (Q .normal))
  (go:∀ q l,(∃ i,∃ hi:i<gs.length,q=gs[i]/\l=gs.eraseIdx i)->Kn C nt ((t7,vb true)::E) ((it,.ext (itP l (some q)))::S) (Q .normal)) :
  AW P C nt (.region id #[{ dst:=some t6,op:=.next (.tmp t5) false,type:=ty6,pos:=p6,after:=af6,guard:=none }, { dst:=some t7,op:=.extract (.tmp t6) 0,type:=ty7,pos:=p7,after:=af7,guard:=none }] false) E ((it,.ext (itP gs none))::S) Q:=by
 simp only [Bool.and_eq_true,Nat.blt_eq,Bool.not_eq_true',beq_eq_false_iff_ne] at hn;obtain ⟨⟨n6,n7⟩,e3⟩:=hn
 intro R η a w hc;refine wp_region_list ?_
 have A:ls ((it,.ext (itP gs none))::S) it=some (.ext (itP gs none)):=by rw [U5,if_pos rfl]
 have e5:a.tmps.getD t5 undef=η it:=by have:=hc.ev t5;rw [hE] at this;exact Q6H this
 have l6:lk E t6=.any:=by
  unfold lk;have:E.lookup t6=none:=by
   rw [List.lookup_eq_none_iff];intro p hp
   have hm:p.1 ∈ E.map (·.1):=List.mem_map_of_mem hp;have c5 : t6 ∉ E.map (·.1):=by simpa using h6
   have d4:t6≠p.1:=fun h=>c5 (h ▸ hm)
   simpa using d4
  rw [this];rfl
 have b1:=hc.st it _ A;have a6:∀ b,b ∈ Y7 (η it)->Own (ls ((it,.ext (itP gs none))::S)) η b:=fun b hb=>⟨it,_,A,hb⟩
 have c6:∀ x,x ∈ Y7 (η it)->C.M x\/C.w0.heap.size<=x:=fun x f=>by
  rcases hc.ow it _ x A f with ⟨h1,_⟩|h1
  ·cases h1
  ·exact h1
 generalize hu:η it=u at b1
 cases b1 with
 | ext _ _ hp _ hlt=>
 obtain ⟨r,b,es,m,g,d,c0,rfl,g1,g2,g3,g4,g5,g6,g7,g8,g9,_⟩:=hp;have e7:r≠b:=fun h=>by rw [h,g3] at g1;cases g1
 have b5:∀ (J:Bool) (a2 : List (Int×List α)) (a1:Option (Int×List α)) (N:World) (H:Array Value) (R1:Nat->Prop) (η1:Nat->Value),H.getD 0 undef=.bool J->H.size≠0 ->
   Conc C nt R1 η1 (Z0c (some t6) .any (lk E)) (ls ((it,.ext (itP a2 a1))::S)) (a.put (some t6) (.tuple H)) N ->
   Kn C nt ((t7,vb J)::E) ((it,.ext (itP a2 a1))::S) (Q .normal) ->
   wpList P #[{ dst:=some t6,op:=.next (.tmp t5) false,type:=ty6,pos:=p6,after:=af6,guard:=none }, { dst:=some t7,op:=.extract (.tmp t6) 0,type:=ty7,pos:=p7,after:=af7,guard:=none }] Q [{ dst:=some t7,op:=.extract (.tmp t6) 0,type:=ty7,pos:=p7,after:=af7,guard:=none }] (a.put (some t6) (.tuple H)) N:=by
  intro J a2 a1 N H R1 η1 b0 d3 n kn;refine wpList_plain rfl fun K hK=>?_
  have hv:(a.put (some t6) (.tuple H)).tmps.getD t6 undef=.tuple H:=by rw [Y0V a _ _ _ (by rw [hc.sz];intro x f;cases f;exact n6),if_pos rfl]
  have h0:H[0]?=some (.bool J):=by
   have:0<H.size:=Nat.pos_of_ne_zero d3
   rw [Array.getD_eq_getD_getElem?,Array.getElem?_eq_getElem this] at b0;rw [Array.getElem?_eq_getElem this]
   simpa using b0
  have b9:(execOp (a.put (some t6) (.tuple H)).eval ({ dst:=some t7,op:=.extract (.tmp t6) 0,type:=ty7,pos:=p7,after:=af7,guard:=none }:Oper)).run P N=.ok (.value (.bool J)) N:=by
   simp [execOp,Act.eval,hv,Instr.extract,h0]
  refine Z4n b9 (hK _ _ ?_);have a4:=n.val (some t7) (fun x f=>by cases f;exact n7) (vb J) (.bool J) fun _=>⟨Z8h _ _,fun j hj=>by cases hj⟩
  have he:SR.env { v:=vb J } (some t7) (Z0c (some t6) .any (lk E))=lk ((t7,vb J)::E):=by
   funext t
   simp only [SR.env,Z0c];rw [Z7T]
   by_cases h:t=t7
   ·rw [if_pos h,if_pos h]
   ·rw [if_neg h,if_neg h]
    by_cases h' : t=t6
    ·rw [if_pos h',h',l6]
    ·rw [if_neg h']
  rw [he] at a4;exact kn _ _ _ _ a4
 refine wpList_plain rfl fun K hK=>?_
 have U:∀ {v:Value} {w' : World},(Instr.next (.pointer (some ⟨r,0,none⟩)) false ty6).run P w=.ok v w' ->
   (execOp a.eval ({ dst:=some t6,op:=.next (.tmp t5) false,type:=ty6,pos:=p6,after:=af6,guard:=none }:Oper)).run P w=.ok (.value v) w':=fun I=>by
  simp [execOp,Act.eval,e5,hu,I]
 rcases run_next_at (P:=P) w ty6 r b g c0 d es m g1 g3 g7 g5 with ⟨h0,F⟩|⟨y,hy,N,B,F⟩
 ·have d2:gs=[]:=List.eq_nil_of_length_eq_zero (by rw [<-g8,h0])
  refine Z4n (U F) (hK _ _ ?_);have n:=hc.val (some t6) (fun x f=>by cases f;exact n6) .any (.tuple #[.bool false]) fun _=>⟨.any _,by simp [AVal.refs]⟩
  exact b5 false gs none w #[.bool false] R η rfl (by simp) n (stop d2)
 ·obtain ⟨i,hi,c8⟩:=List.getElem_of_mem hy
  have c2 : i<(leftOf es d).size:=by simpa using hi
  have T : (leftOf es d)[i]?=some y:=by rw [Array.getElem?_eq_getElem c2];simpa using c8
  have Y:i<gs.length:=by omega
  have c1:=g9 i y gs[i] T (List.getElem?_eq_getElem Y);have b4:y ∈ es.toList:=by
   have:y ∈ (leftOf es d).toList:=hy
   unfold leftOf at this;rw [Array.toList_filter] at this
   exact (List.mem_filter.1 this).1
  refine Z4n (U F) (hK _ _ ?_);have Z:N.heap=w.heap:=by rcases B with rfl|rfl <;> rfl
  have b3:N.heap[r]?=some (.mapIter (some b) g d c0):=by rw [Z];exact g1
  have G:Stp (fun x=>x=r) w (ChangeMaps.setBlock N r (.mapIter (some b) g (d.push y.born) m)):=by
   refine ⟨?_,?_,?_,?_,fun x f hn=>?_,?_⟩
   ·rcases B with rfl|rfl <;> rfl
   ·rcases B with rfl|rfl <;> rfl
   ·rcases B with rfl|rfl <;> rfl
   ·simp [ChangeMaps.setBlock,Z]
   ·exact ((heap_set b3).2 x hn).trans (by rw [Z])
   ·rcases B with rfl|rfl
    ·exact Nat.le_refl _
    ·exact Nat.le_succ _
  have D:r ∈ Y7 (η it):=by rw [hu];simp [Y7]
  have c4:∀ (p:World->(Nat->Prop)->Value->Prop),SR.sto { v:=.any,upd:=some (it,.ext p) } (some t6) (ls ((it,.ext (itP gs none))::S))=ls ((it,.ext p)::S):=fun p=>by
   funext z
   simp only [SR.sto,List.contains_nil,Bool.false_eq_true,if_false];rw [U5,U5]
   by_cases h:z=it
   ·rw [if_pos h,if_pos h]
   ·rw [if_neg h,if_neg h,if_neg h]
  have V:SR.eta { v:=.any,upd:=some (it,.ext (itP (gs.eraseIdx i) (some gs[i]))) } (some t6) (.tuple #[.bool true,y.key,y.val]) η=η:=by funext z;simp [SR.eta]
  have hk:=Q5H (C:=C) (s:=ls ((it,.ext (itP gs none))::S)) (η:=η) { v:=.any,upd:=some (it,.ext (itP (gs.eraseIdx i) (some gs[i]))) } (some t6) (.tuple #[.bool true,y.key,y.val]) (fun x=>x=r) G (fun x f=>by subst f;exact a6 _ D) (fun _ _ I=>by cases I)
   (fun k o I=>by cases I;rw [A];simp)
  have n:=hc.step (some t6) (fun x f=>by cases f;exact n6) { v:=.any,upd:=some (it,.ext (itP (gs.eraseIdx i) (some gs[i]))) } (.tuple #[.bool true,y.key,y.val]) _ (fun x=>x=r) G
   (fun x f=>by
    subst f;exact ⟨⟨it,.inr ⟨_,rfl⟩,by rw [A];simp,D⟩,c6 _ D⟩)
   (fun _ _ I=>by cases I)
   (fun k o I=>by
    cases I
    refine ⟨⟨_,A,rfl⟩,rfl,by simp,by simp [Obj.refs],?_⟩;rw [V] at hk ⊢
    rw [hu];have a8:=hk b (K8 g3) g2
    have b2:=Y3S g4 T;refine .ext _ _ ⟨r,b,es,m,g,d.push y.born,m,rfl,(heap_set b3).1,a8.2,a8.1.trans g3,g4,g6,g6,g7,?_,fun j x q f W=>?_,fun q W=>?_⟩ (Y1e _) fun x f=>?_
    ·have:=congrArg List.length b2
     rw [Array.length_toList,List.length_eraseIdx_of_lt (by simpa using hi),Array.length_toList] at this;rw [this,List.length_eraseIdx_of_lt Y,g8]
    ·have O:(leftOf es (d.push y.born)).toList[j]?=some x:=by simpa using f
     rw [b2,List.getElem?_eraseIdx] at O;rw [List.getElem?_eraseIdx] at W
     split at O
     ·rename_i hj
      rw [if_pos hj] at W;exact (g9 j x q (by simpa using O) W).mono hk
     ·rename_i hj
      rw [if_neg hj] at W;exact (g9 (j+1) x q (by simpa using O) W).mono hk
    ·cases W
     exact ⟨y,b4,d,rfl,rfl,c1.mono hk⟩
    ·simp only [Y7,List.mem_singleton] at f
     subst f;exact Nat.lt_of_lt_of_le (K8 g1) G.size)
   (fun _=>⟨.any _,by simp [AVal.refs]⟩)
  rw [c4,V] at n;have he:SR.env { v:=.any,upd:=some (it,.ext (itP (gs.eraseIdx i) (some gs[i]))) } (some t6) (lk E)=Z0c (some t6) .any (lk E):=rfl
  rw [he] at n;exact b5 true (gs.eraseIdx i) (some gs[i]) _ #[.bool true,y.key,y.val] _ _ rfl (by simp) n (go gs[i] (gs.eraseIdx i) ⟨i,Y,rfl,rfl⟩)
end
end
section
open Go.MapKept
section
variable {α:Type} [Emb α]
def Q0J (y:Int) (gs:List (Int×List α)):Nat:=gs.findIdx fun e=>e.1==y
def gApp (y:Int) (m:List α) (gs:List (Int×List α)):List (Int×List α):=
 match gs[Q0J y gs]? with
 | some e=>gs.set (Q0J y gs) (e.1,e.2++m)
 | none=>gs++[(y,m)]
theorem Q7k {β:Type} (y:Int) (gs:List (Int×List β)):(Q0J y gs<gs.length/\∃ e,gs[Q0J y gs]?=some e/\e.1=y)\/(Q0J y gs=gs.length/\∀ e ∈ gs,e.1≠y):=by
 unfold Q0J;rcases Nat.lt_or_ge (gs.findIdx fun e=>e.1==y) gs.length with h|h
 ·left
  refine ⟨h,_,List.getElem?_eq_getElem h,?_⟩;have:=List.findIdx_getElem (p:=fun e:Int×List β=>e.1==y) (w:=h)
  simpa using this
 ·right
  have b:=List.findIdx_le_length (p:=fun e:Int×List β=>e.1==y) (xs:=gs);refine ⟨by omega,fun e c=>?_⟩
  have:=List.findIdx_eq_length.1 (show (gs.findIdx fun e:Int×List β=>e.1==y)=gs.length by omega) e c
  simpa using this
theorem Z8N {β:Type} {gs:List (Int×List β)} (hnd:(gs.map (·.1)).Nodup) {i j:Nat} {a b:Int×List β} (ha:gs[i]?=some a) (hb:gs[j]?=some b) (h:a.1=b.1):i=j:=by
 obtain ⟨d,ha⟩:=List.getElem?_eq_some_iff.1 ha;obtain ⟨c,hb⟩:=List.getElem?_eq_some_iff.1 hb
 exact (List.getElem_inj (h₀:=by simpa using d) (h₁:=by simpa using c) hnd).1 (by simp [ha,hb,h])
def Y1F (w:World) (X:Nat->Prop) (v:Value) (l:List α):Prop:=∀ η C,ORep w X η C v (AO l)
def Q5r (b:Nat) (rs:List Value):Array Value:=(Value.map (some b)::(rs++[.slice none 0 0])).toArray
structure GrpAt (gs:List (Int×List α)) (pend:Option Nat) (w:World) (X:Nat->Prop) (b:Nat) (rs:List Value) (ents:Array MapEntry) (clock:Nat):Prop where
 heap:w.heap[b]?=some (.map ents clock)
 st:Stamped ents clock
 len:rs.length=gs.length
 nd:(gs.map (·.1)).Nodup
 rows:∀ (i:Nat) (e:Int×List α) (v:Value),gs[i]?=some e->rs[i]?=some v->Y1F w X v e.2
 apart:∀ (i j:Nat) (u v:Value) (x:Nat),rs[i]?=some u->rs[j]?=some v->x ∈ Y7 u->x ∈ Y7 v->i=j
 off:∀ (i:Nat) (v:Value),rs[i]?=some v->b ∉ Y7 v
 ents:match pend with
  | none=>ents.size=gs.length/\∀ (i:Nat) (e:Int×List α) (v:Value),gs[i]?=some e->rs[i]?=some v->∃ bo,ents[i]?=some ⟨.int .i64 e.1,v,bo⟩
  | some j=>j<gs.length/\(ents.size=gs.length\/(ents.size+1=gs.length/\j=ents.size))/\∀ (i:Nat) (e:Int×List α) (v:Value),i<ents.size->gs[i]?=some e->rs[i]?=some v->∃ u bo,ents[i]?=some ⟨.int .i64 e.1,u,bo⟩/\(i≠j->u=v)
def Q8m (gs:List (Int×List α)) (pend:Option Nat) (w:World) (X:Nat->Prop) (us:List Value) (v:Value):Prop:=
 ∃ b rs ents clock,us=[.map (some b)]/\v=.agg (Q5r b rs)/\GrpAt gs pend w X b rs ents clock
theorem Y1F.form {w:World} {X:Nat->Prop} {v:Value} {l:List α} (h:Y1F w X v l):∃ ad n cap,v=.slice ad n cap/\Y2E v=Y7 v/\v.oneCell'=true:=by
 have:=h (fun _=>undef) (J4 [] w X fun _=>undef)
 unfold AO at this;generalize l.length=n at this
 cases this with
 | nil ad=>exact ⟨_,_,_,rfl,by cases ad <;> rfl,rfl⟩
 | arr=>exact ⟨_,_,_,rfl,rfl,rfl⟩
theorem Y1F.mono {w w' : World} {X X' : Nat->Prop} {v:Value} {l:List α} (h:Y1F w X v l) (hk:Q6Z w w' X X') (hb:∀ b ∈ Y7 v,w'.heap[b]?=w.heap[b]?):Y1F w' X' v l:=
 fun η C=>(h η C).mono hk (fun _ _=>rfl) hb
theorem Y1F.lt {w:World} {X:Nat->Prop} {v:Value} {l:List α} (h:Y1F w X v l) {b:Nat} (hb:b ∈ Y7 v):b<w.heap.size:=
 (h (fun _=>undef) (J4 [] w X fun _=>undef)).lt hb
theorem Q0L {b x:Nat} {rs:List Value} (h1:∀ v ∈ rs,Y2E v=Y7 v):x ∈ Y7 (.agg (Q5r b rs))↔x=b\/∃ v ∈ rs,x ∈ Y7 v:=by
 show x ∈ (Value.map (some b)::(rs++[.slice none 0 0])).flatMap Y2E↔_;rw [List.flatMap_cons,List.mem_append,List.flatMap_append,List.mem_append,List.mem_flatMap,List.mem_flatMap]
 constructor
 ·rintro (h|⟨v,hv,h⟩|⟨v,hv,h⟩)
  ·exact .inl (List.mem_singleton.1 h)
  ·exact .inr ⟨v,hv,by rw [<-h1 v hv];exact h⟩
  ·rw [List.mem_singleton.1 hv] at h;cases h
 ·rintro (h|⟨v,hv,h⟩)
  ·exact .inl (List.mem_singleton.2 h)
  ·exact .inr (.inl ⟨v,hv,by rw [h1 v hv];exact h⟩)
theorem GrpAt.one {gs:List (Int×List α)} {pend:Option Nat} {w:World} {X:Nat->Prop} {b:Nat} {rs:List Value} {ents:Array MapEntry} {clock:Nat} (h:GrpAt gs pend w X b rs ents clock):∀ v ∈ rs,Y2E v=Y7 v:=fun v g=>by
 obtain ⟨i,d,rfl⟩:=List.getElem_of_mem g;have c : i<gs.length:=by rw [<-h.len];exact d
 obtain ⟨_,_,_,_,f,_⟩:=(h.rows i gs[i] rs[i] (List.getElem?_eq_getElem c) (List.getElem?_eq_getElem d)).form;exact f
theorem GrpAt.mono {gs:List (Int×List α)} {pend:Option Nat} {w w' : World} {X X' : Nat->Prop} {b:Nat} {rs:List Value} {ents:Array MapEntry} {clock:Nat} (h:GrpAt gs pend w X b rs ents clock) (hk:Q6Z w w' X X')
  (hb:∀ x ∈ Y7 (.agg (Q5r b rs)),w'.heap[x]?=w.heap[x]?):GrpAt gs pend w' X' b rs ents clock:=
 ⟨(hb b ((Q0L h.one).2 (.inl rfl))).trans h.heap,h.st,h.len,h.nd,fun i e v d c=>(h.rows i e v d c).mono hk fun x f=>hb x ((Q0L h.one).2 (.inr ⟨v,List.mem_of_getElem? c,f⟩)),h.apart,h.off,h.ents⟩
theorem Z8Z {gs:List (Int×List α)} {pend:Option Nat} {us:List Value} (v:Value):Y2F (fun w X v=>Q8m gs pend w X us v) v:=by
 intro w m X X' f j h;obtain ⟨b,i,d,c,g,rfl,l⟩:=h
 exact ⟨b,i,d,c,g,rfl,l.mono f j⟩
theorem GrpAt.lt {gs:List (Int×List α)} {pend:Option Nat} {w:World} {X:Nat->Prop} {b:Nat} {rs:List Value} {ents:Array MapEntry} {clock:Nat} (h:GrpAt gs pend w X b rs ents clock) {x:Nat} (hx:x ∈ Y7 (.agg (Q5r b rs))):x<w.heap.size:=by
 rcases (Q0L h.one).1 hx with rfl|⟨v,f,hx⟩
 ·exact K8 h.heap
 ·obtain ⟨i,d,rfl⟩:=List.getElem_of_mem f
  have c : i<gs.length:=by rw [<-h.len];exact d
  exact (h.rows i gs[i] rs[i] (List.getElem?_eq_getElem c) (List.getElem?_eq_getElem d)).lt hx
end
def Y8s (extra:List Nat) (ops:Array Oper) (o:Oper) (e:Env) (r:SR):Eff:= { rd:=Q0h o++V6 ops o,ids:=Z1M e o++extra,v:=r.v,l:=r.l o.dst,news:=r.nw o.dst }
def xE (extra:List Nat) (r:SR):Array Oper->Oper->Env->Eff:=fun ops o e=>Y8s extra ops o e r
section
variable {P:Program} {C:Ctx} {nt:Nat} {L:Lay} {ops:Array Oper} {ds:List Dir} {e:Env} {s:Sto}
def W1n (P:Program) (C:Ctx) (nt:Nat) (R:Nat->Prop) (η:Nat->Value) (e:Env) (s:Sto) (a:Act) (w:World) (o:Oper) (r:SR):Prop:=
 ∃ v u w',((execOp a.eval o).run P w=.ok (.value v) w' \/ ((execOp a.eval o).run P w=.ok .skip w' /\ v=undef)) /\
  Conc C nt (r.rng o.dst R) (r.eta o.dst u η) (r.env o.dst e) (r.sto o.dst s) (a.put o.dst v) w'
theorem Snd.g {R:Nat->Prop} {η:Nat->Value} {a:Act} {w:World} {o:Oper} {r:SR} (h:Snd P C nt R η e s a w o r):W1n P C nt R η e s a w o r:=by
 obtain ⟨v,c,d,b⟩:=h;exact ⟨v,v,c,d,b⟩
theorem Y0w (extra:List Nat) {o:Oper} (hdo:Q1E nt o=true) {r:SR} (hg:Q8l ops e o=some true)
  (hsnd:∀ (R:Nat->Prop) (η:Nat->Value) (e0:Env) (s0:Sto) (a:Act) (w:World),(∀ x ∈ o.op.operands.toList,aev e0 x=aev e x)->(∀ x ∈ o.op.operands.toList,∀ i ∈ (aev e x).refs,s0 i=s i)->(∀ i ∈ extra,s0 i=s i)->(∀ d,o.dst=some d->r.new≠none->¬ R d) ->
   Conc C nt R η e0 s0 a w->W1n P C nt R η e0 s0 a w o r):StT P C nt ops o (Y8s extra ops o e r) e s:=by
 intro R η e0 s0 a w q c G b K Q O;have h:∀ x ∈ o.op.operands.toList,aev e0 x=aev e x:=by
  intro x h
  cases x with
  | tmp t=>exact q t (List.mem_append.2 (.inl (List.mem_filterMap.2 ⟨_,h,rfl⟩)))
  | const v=>rfl
  | global g=>rfl
  | func f=>rfl
 have D:∀ x ∈ o.op.operands.toList,∀ i ∈ (aev e x).refs,s0 i=s i:=fun x h i H=>c i (List.mem_append_left _ (List.mem_flatMap.2 ⟨x,h,H⟩))
 have M:=Q5y (e:=e) b (fun t U=>q t (List.mem_append.2 (.inr U))) hg;rw [if_pos M]
 have T:=hsnd R η e0 s0 a w h D (fun i H=>c i (List.mem_append_right _ H)) (fun d V N=>G d (by
  obtain ⟨W,I⟩:=Option.ne_none_iff_exists'.1 N;simp [Y8s,SR.nw,I,V])) b
 have p:∀ η' z m,Conc C nt (r.rng o.dst R) η' (r.env o.dst e0) (r.sto o.dst s0) z m -> K z m:=fun η' z m F=>by
  refine O η' z m ?_;have A:=F.wider (Y4D r o.dst R)
  have n:upS (Y8s extra ops o e r).l s0=r.sto o.dst s0:=Y4C r o.dst s0;rw [n]
  have j:Z0c o.dst (Y8s extra ops o e r).v e0=r.env o.dst e0:=rfl;rw [j]
  exact A
 obtain ⟨v,u,m,B|⟨B,rfl⟩,J⟩:=T
 ·exact Z4n B (p _ _ _ J)
 ·exact Y3t B (p _ _ _ J)
end
section
variable {P:Program} {C:Ctx} {nt:Nat} {L:Lay} {R:Nat->Prop} {η:Nat->Value} {e:Env} {s:Sto} {a:Act} {w:World}
variable {α:Type} [Emb α]
theorem Y0d (h:Conc C nt R η e s a w) {g base:Nat} {gs:List (Int×List α)} {pend:Option Nat} (hs:s g=some (.exr [base] (Q8m gs pend))) :
  ∃ b rs ents clock,η base=.map (some b)/\η g=.agg (Q5r b rs)/\GrpAt gs pend w (XS C s η) b rs ents clock:=by
 have c:=h.st g _ hs;generalize hu:η g=u at c
 cases c with
 | exr _ _ _ hp _ _=>
  obtain ⟨b,rs,ents,clock,d,i,f⟩:=hp;exact ⟨b,rs,ents,clock,by simpa using d,i,f⟩
theorem Y4S (hL:LOk P L) (h:Conc C nt R η e s a w) {o:Oper} {d:Nat} (hd:o.dst=some d) (hdn:d<nt) {t:TypeId} {tx ty:Nat} (hne:tx≠ty)
  (hop:o.op=.call { callee:=.builtin .append,args:= #[.tmp tx,.tmp ty],argTypes:= #[t,t] }) {ti:TI} (ht:L t=some ti) {el:Nat} (hk:ti.kind=.slice el) {te:TI} (hte:L el=some te) (hes:te.size=Emb.es α)
  {l m:List α} (hx:Y1F w (XS C s η) (a.tmps.getD tx undef) l) (hX:∀ b ∈ Y7 (a.tmps.getD tx undef),XS C s η b) (hy:e ty=AL m)
  (hby:te.bytes<=8192) (hzl:te.zero.length=te.size) (hlim:l.length+m.length<=LIM) :
  ∃ v w',(execOp a.eval o).run P w=.ok (.value v) w' /\ Stp (fun b=>b ∈ Y7 (a.tmps.getD tx undef)) w w' /\ (∀ b ∈ Y7 v,b ∈ Y7 (a.tmps.getD tx undef)\/w.heap.size<=b) /\
   ∀ X',(∀ b,b<w'.heap.size->X' b->(XS C s η b/\b ∉ Y7 (a.tmps.getD tx undef))\/b ∈ Y7 v)->Y1F w' X' v (l++m):=by
 generalize hv1:a.tmps.getD tx undef=v1 at *;have N:∀ b,XS C s η b->b<w.heap.size:=by
  rintro b (⟨hx,_⟩|hx)
  ·exact Nat.lt_of_lt_of_le (h.ok.lt b hx) h.fr.size
  ·exact h.lt hx
 let C0:Ctx:= { w0:=w,D:=fun b=>b ∈ Y7 v1,M:=fun b=>b ∈ Y7 v1,X:=XS C s η,pin:=fun _=>none }
 let η0:Nat->Value:=fun _=>v1
 let s0:Sto:=fun i=>if i=nt then some (AO l) else none
 let e0:Env:=fun t=>if t=tx then .v (.c (.own nt)) else if t=ty then AL m else .any
 have I:XS C0 s0 η0=XS C s η:=by
  funext b
  apply propext;constructor
  ·rintro (⟨F,_⟩|⟨i,B,p,r⟩)
   ·exact F
   ·exact hX b r
  ·intro r
   rcases Classical.em (b ∈ Y7 v1) with hm|hm
   ·exact .inr ⟨nt,AO l,by simp [s0],hm⟩
   ·exact .inl ⟨r,hm⟩
 have A:∀ i B,s0 i=some B -> i=nt/\B=AO l:=fun i B p=>by
  simp only [s0] at p;split at p
  ·cases p;exact ⟨by assumption,rfl⟩
  ·cases p
 have a1:Conc C0 nt (fun i=>i=nt) η0 e0 s0 a w:=by
  refine ⟨⟨fun b r=>r,fun b r=>hX b r,N⟩,h.df,h.sz,fun t=>?_,fun t i p=>?_,fun i B p=>?_,fun i B p=>?_,fun i j b p H _ _=>?_,fun i B b p r=>?_,Stp.refl _ _,fun i v p=>by cases p⟩
  ·rw [I]
   simp only [e0];split
   ·rename_i ht;subst ht
    rw [hv1];exact .v _ _ (.c _ _ (.own _ _ rfl hx.form.choose_spec.choose_spec.choose_spec.2.2))
   ·split
    ·rename_i _ ht;subst ht
     have:=h.ev t
     rw [hy] at this;unfold AL at this ⊢
     generalize a.tmps.getD t undef=q at this ⊢
     cases this with|v _ _ hh=>cases hh with|c _ _ hh=>cases hh with|d _ _ hh=>exact .v _ _ (.c _ _ (.d _ _ hh))
    ·exact .any _
  ·simp only [e0] at p
   split at p
   ·simpa [AVal.refs,TV.refs,CV.refs] using p
   ·split at p
    ·simp [AL,AVal.refs,TV.refs,CV.refs] at p
    ·simp [AVal.refs] at p
  ·obtain ⟨_,rfl⟩:=A i B p
   rw [I];exact hx _ _
  ·obtain ⟨rfl,rfl⟩:=A i B p
   exact ⟨rfl,fun j H=>by simp [AO,Obj.refs] at H⟩
  ·obtain ⟨oi,p⟩:=Option.ne_none_iff_exists'.1 p
   obtain ⟨oj,H⟩:=Option.ne_none_iff_exists'.1 H;rw [(A i oi p).1,(A j oj H).1]
  ·exact .inr (.inl r)
 have hR:¬ (fun i=>i=nt) d:=by show ¬ d=nt;omega
 obtain ⟨v,w',T,z⟩:=Z6K (c:=True) hL a1 hd hdn hR hop ht hk hte (k:=m.length) (g:=LF m) (by simp [aev,e0,Ne.symm hne,AL,DL,asL])
  (del:=[nt]) (n:=l.length) (f:=LF l) (c0:=True) (by simp [aev,e0,Z8k,s0,AO,hes]) trivial hby hzl hlim (fun j H=>by rw [hes];exact Emb.len _)
 have J:(SR.sto { v:=.v (.c (.own d)),del:=[nt],new:=some (.arr te.size (l.length+m.length) (Q5w l.length (LF l) (LF m))),cond:=True } o.dst s0)=fun i=>if i=d then some (.arr te.size (l.length+m.length) (Q5w l.length (LF l) (LF m))) else none:=by
  funext i
  simp only [SR.sto,hd]
  by_cases p:i=d
  ·rw [if_pos p,if_pos p]
  ·rw [if_neg p,if_neg p]
   by_cases hn:i=nt
   ·simp [hn]
   ·simp [hn,s0]
 rw [J] at z;have G:(fun i=>if i=d then some (Obj.arr te.size (l.length+m.length) (Q5w l.length (LF l) (LF m))) else none) d=some (.arr te.size (l.length+m.length) (Q5w l.length (LF l) (LF m))):=by simp
 have x:=z.st d _ G;have u:SR.eta { v:=.v (.c (.own d)),del:=[nt],new:=some (.arr te.size (l.length+m.length) (Q5w l.length (LF l) (LF m))),cond:=True } o.dst v η0 d=v:=by simp [SR.eta,hd]
 have Z:∀ b,b ∈ Y7 v->b ∈ Y7 v1\/w.heap.size<=b:=fun b r=>by
  rcases z.ow d _ b G (by rw [u];exact r) with ⟨F,_⟩|F|F
  ·cases F
  ·exact .inl F
  ·exact .inr F
 rw [u] at x;have O:(execOp a.eval o).run P w=.ok (.value v) w':=by
  rcases T with T|⟨_,rfl⟩
  ·exact T
  ·have hu:(undef:Value)=.tuple #[]:=rfl
   rw [hu] at x;cases x
 refine ⟨v,w',O,z.fr,Z,fun X' U=>fun η2 C2=>?_⟩
 ·have V:OLe (.arr te.size (l.length+m.length) (Q5w l.length (LF l) (LF m))) (AO (l++m)):=by rw [hes];exact OLe.is (Is.app (Is.refl l) (Is.refl m))
  have Y:=V.1 _ _ _ _ _ x;have h3:ORep w' (XS C0 (fun i=>if i=d then some (Obj.arr te.size (l.length+m.length) (Q5w l.length (LF l) (LF m))) else none) (SR.eta { v:=.v (.c (.own d)),del:=[nt],new:=some (.arr te.size (l.length+m.length) (Q5w l.length (LF l) (LF m))),cond:=True } o.dst v η0)) η2 C2 v (AO (l++m)):=by
   unfold AO at Y ⊢;generalize (l++m).length=nn at Y ⊢
   cases Y with
   | nil ad=>exact .nil ad _ _
   | arr b' _ cap' _ c' e' _ q1 q2 q3 q4 q5 q6 q7=>exact .arr b' _ cap' _ c' e' _ q1 q2 q3 q4 q5 q6 q7
  refine h3.mono (fun b r W=>⟨rfl,fun a2=>W ?_⟩) (fun _ _=>rfl) fun _ _=>rfl
  rcases U b r a2 with ⟨h4,h5⟩|h4
  ·exact .inl ⟨h4,h5⟩
  ·exact .inr ⟨d,_,G,by rw [u];exact h4⟩
theorem Z5m (b:Nat) (rs:List Value) (i:Nat):(Q5r b rs)[1+i]?=(rs++[.slice none 0 0])[i]?:=by
 simp [Q5r,Nat.add_comm 1 i]
theorem GrpAt.find {gs:List (Int×List α)} {X:Nat->Prop} {b:Nat} {rs:List Value} {ents:Array MapEntry} {clock:Nat} (h:GrpAt gs none w X b rs ents clock) (y:Int) :
  (Instr.findNow (.int .i64) (.int .i64 y) ents.toList 0=some none/\Q0J y gs=gs.length) \/
  ∃ x:MapEntry,Instr.findNow (.int .i64) (.int .i64 y) ents.toList 0=some (some (Q0J y gs,x.val))/\rs[Q0J y gs]?=some x.val/\Q0J y gs<gs.length:=by
 obtain ⟨I,f⟩:=h.ents;have i:∀ (j:Nat) (x:MapEntry),ents[j]?=some x->∃ e v,gs[j]?=some e/\rs[j]?=some v/\x.key=.int .i64 e.1/\x.val=v:=fun j x p=>by
  have F:j<ents.size:=(Array.getElem?_eq_some_iff.1 p).1;have u:j<gs.length:=by omega
  have o:j<rs.length:=by rw [h.len];exact u
  obtain ⟨J,r⟩:=f j gs[j] rs[j] (List.getElem?_eq_getElem u) (List.getElem?_eq_getElem o);rw [p] at r
  cases r
  exact ⟨gs[j],rs[j],List.getElem?_eq_getElem u,List.getElem?_eq_getElem o,rfl,rfl⟩
 have G:∀ x ∈ ents.toList,IsKey (.int .i64) x.key:=fun x p=>by
  obtain ⟨j,F,rfl⟩:=List.getElem_of_mem p;obtain ⟨e,v,_,_,g,_⟩:=i j _ (by simp at F ⊢;exact Array.getElem?_eq_getElem F)
  simp only [Array.getElem_toList] at g ⊢;rw [g];rfl
 rcases findNow_spec (d:=.int .i64) (k:=.int .i64 y) rfl ents.toList 0 G with ⟨q,z⟩|⟨j,x,q,z,M⟩
 ·left
  refine ⟨q,?_⟩;rcases Q7k y gs with ⟨m,e,l,c⟩|⟨H,_⟩
  ·exfalso
   have o:Q0J y gs<rs.length:=by rw [h.len];exact m
   obtain ⟨J,r⟩:=f _ e _ l (List.getElem?_eq_getElem o);exact z _ (by have:=Array.mem_of_getElem? r;simpa using this) (by rw [c])
  ·exact H
 ·right
  obtain ⟨e,v,l,N,g,D⟩:=i j x (by simpa using z);rw [M] at g
  have c:e.1=y:=by cases g;rfl
  have B:Q0J y gs=j:=by
   rcases Q7k y gs with ⟨m,O,t,n⟩|⟨_,A⟩
   ·exact Z8N h.nd t l (by rw [c,n])
   ·exact absurd c (A e (List.mem_of_getElem? l))
  rw [Nat.zero_add] at q;rw [B]
  exact ⟨x,q,by rw [D];exact N,(List.getElem?_eq_some_iff.1 l).1⟩
variable {ops:Array Oper} {ds:List Dir} {k:Nat}
def gOk (ops:Array Oper) (nt:Nat) (e:Env) (o:Oper):Bool:=Q1E nt o&&(Q8l ops e o==some true)
theorem Y7k {gs:List (Int×List α)} {base g:Nat} {t kT eT:TypeId} {m x:Operand} {y:Int} (ht:P.underlying t=some (.map kT eT)) (hkT:P.underlying kT=some (.int .i64)) (hz:∀ w,(zeroValue eT).run P w=.ok (.slice none 0 0) w)
  (hk:Q2g ds k=xE [g] { v:=.v (.c (.cp g (1+Q0J y gs))) }) (hop:(Y8 ops.toList k).op=.lookup t m x false) (hdo:gOk ops nt (W7 L ops ops.toList ds e s k) (Y8 ops.toList k)=true)
  (hm:aev (W7 L ops ops.toList ds e s k) m=.v (.c (.own base))) (hx:aev (W7 L ops ops.toList ds e s k) x=vi y) (hs:Q2p L ops ops.toList ds e s k g=some (.exr [base] (Q8m gs none))):KAt P C nt L ops ds e s k:=by
 unfold KAt;rw [hk]
 simp only [gOk,Bool.and_eq_true,beq_iff_eq] at hdo;obtain ⟨B,N⟩:=hdo
 refine Y0w [g] B N fun R η Z M a w I T z Y f=>Snd.g ?_
 have O:m ∈ (Y8 ops.toList k).op.operands.toList:=by rw [hop];simp [Op.operands]
 have W:x ∈ (Y8 ops.toList k).op.operands.toList:=by rw [hop];simp [Op.operands]
 have o:=(W3 f m).1;rw [I m O,hm] at o
 have o:=Q6H o;have u:=(W3 f x).1
 rw [I x W,hx] at u;have u:=Y7p u
 have p:M g=some (.exr [base] (Q8m gs none)):=(z g (by simp)).trans hs;obtain ⟨b,U,i,D,V,G,n⟩:=Y0d f p
 rw [V] at o;have h:∀ v,(v=.slice none 0 0/\Q0J y gs=gs.length/\Instr.findNow (.int .i64) (.int .i64 y) i.toList 0=some none)\/(U[Q0J y gs]?=some v/\Instr.findNow (.int .i64) (.int .i64 y) i.toList 0=some (some (Q0J y gs,v))) ->
   (execOp a.eval (Y8 ops.toList k)).run P w=.ok (.value v) w:=by
  rintro v (⟨rfl,_,l⟩|⟨_,l⟩)
  ·simp [execOp,hop,o,u,Instr.lookup,run_underlying ht,MapKept.run_getObj_map n.heap,MapKept.run_checkKey hkT (k:=.int .i64 y) (d:=.int .i64) rfl,MapKept.run_findKey hkT l,hz]
  ·simp [execOp,hop,o,u,Instr.lookup,run_underlying ht,MapKept.run_getObj_map n.heap,MapKept.run_checkKey hkT (k:=.int .i64 y) (d:=.int .i64) rfl,MapKept.run_findKey hkT l]
 have H:∀ j ∈ (AVal.v (.c (.cp g (1+Q0J y gs)))).refs,R j:=fun j J=>by
  simp [AVal.refs,TV.refs,CV.refs] at J
  subst J;exact (f.sr _ _ p).1
 rcases n.find y with ⟨l,F⟩|⟨q,l,A,r⟩
 ·refine G3 f (Q5u B) (h _ (.inl ⟨rfl,F,l⟩)) (.v _ _ (.c _ _ (.cp _ _ _ _ G ?_ rfl))) H
  rw [Z5m,F, <-n.len];simp
 ·obtain ⟨e',he'⟩:∃ e',gs[Q0J y gs]?=some e':=⟨_,List.getElem?_eq_getElem r⟩
  refine G3 f (Q5u B) (h _ (.inr ⟨A,l⟩)) (.v _ _ (.c _ _ (.cp _ _ _ _ G ?_ ((n.rows _ _ _ he' A).form.choose_spec.choose_spec.choose_spec.2.2)))) H;rw [Z5m,List.getElem?_append_left (by rw [n.len];exact r)]
  exact A
end
end
section
open Go.MapKept
section
variable {P:Program} {C:Ctx} {nt:Nat} {L:Lay} {R:Nat->Prop} {η:Nat->Value} {e:Env} {s:Sto} {a:Act} {w:World}
variable {α:Type} [Emb α] {ops:Array Oper} {ds:List Dir} {k:Nat}
def gRow (y:Int) (gs:List (Int×List α)):List α:=match gs[Q0J y gs]? with|some e=>e.2|none=>[]
theorem Y1i {β:Type} {y:Int} {m:List β} {gs:List (Int×List β)} {q:Int×List β} (h:gs[Q0J y gs]?=some q):gApp y m gs=gs.set (Q0J y gs) (q.1,q.2++m):=by unfold gApp;rw [h]
theorem Y4c {β:Type} {y:Int} {m:List β} {gs:List (Int×List β)} (h:Q0J y gs=gs.length):gApp y m gs=gs++[(y,m)]:=by
 unfold gApp;rw [h,List.getElem?_eq_none (Nat.le_refl _)]
def Y2V {β:Type} (l:List β) (i:Nat) (x:β):List β:=if i<l.length then l.set i x else l++[x]
theorem Z5a {β:Type} {l:List β} {i:Nat} {x:β} (h:i<=l.length):(Y2V l i x).length=if i<l.length then l.length else l.length+1:=by
 unfold Y2V;split <;> simp
theorem Z7N {β:Type} {l:List β} {i:Nat} {x:β} (h:i<=l.length) (j:Nat):(Y2V l i x)[j]?=if j=i then some x else l[j]?:=by
 unfold Y2V;split
 ·rename_i c
  rw [List.getElem?_set]
  by_cases hj:i=j
  ·subst hj;rw [if_pos rfl,if_pos rfl,if_pos c]
  ·rw [if_neg hj,if_neg (fun h=>hj h.symm)]
 ·have c:i=l.length:=by omega
  subst c
  by_cases hj:j=l.length
  ·subst hj;rw [if_pos rfl];simp
  ·rw [if_neg hj]
   rcases Nat.lt_or_ge j l.length with b|b
   ·rw [List.getElem?_append_left b]
   ·rw [List.getElem?_append_right b,List.getElem?_eq_none (by omega:l.length<=j)]
    have:j-l.length=(j-l.length-1)+1:=by omega
    rw [this];rfl
theorem Z8a {β:Type} {y:Int} {m:List β} {gs:List (Int×List β)}:∃ q,q.1=y/\q.2=gRow y gs++m/\gApp y m gs=Y2V gs (Q0J y gs) q/\Q0J y gs<=gs.length:=by
 rcases Q7k y gs with ⟨b,q,d,f⟩|⟨c,_⟩
 ·refine ⟨(q.1,q.2++m),f,by unfold gRow;rw [d],?_,by omega⟩
  rw [Y1i d];unfold Y2V;rw [if_pos b]
 ·refine ⟨(y,m),rfl,?_,?_,by omega⟩
  ·unfold gRow;rw [c,List.getElem?_eq_none (Nat.le_refl _)];simp
  ·rw [Y4c c];unfold Y2V;rw [c,if_neg (Nat.lt_irrefl _)]
theorem Y9M {β:Type} {y:Int} {m:List β} {gs:List (Int×List β)}:∃ q,(gApp y m gs)[Q0J y gs]?=some q/\q.1=y:=by
 obtain ⟨q,c,_,b,d⟩:=Z8a (y:=y) (m:=m) (gs:=gs);refine ⟨q,?_,c⟩
 rw [b];unfold Y2V
 split
 ·rename_i h;rw [List.getElem?_set_self h]
 ·have:Q0J y gs=gs.length:=by omega
  rw [this,List.getElem?_append_right (Nat.le_refl _),Nat.sub_self];rfl
theorem Y2x {β:Type} {y:Int} {m:List β} {gs:List (Int×List β)} (hnd:(gs.map (·.1)).Nodup):((gApp y m gs).map (·.1)).Nodup:=by
 rcases Q7k y gs with ⟨d,q,b,l⟩|⟨g,c⟩
 ·rw [Y1i b,List.map_set]
  have:(gs.map (·.1)).set (Q0J y gs) q.1=gs.map (·.1):=by
   apply List.ext_getElem?;intro j
   rw [List.getElem?_set];split
   ·rename_i i;subst i
    rw [if_pos (by simpa using d),List.getElem?_map,b];rfl
   ·rfl
  rw [this];exact hnd
 ·rw [Y4c g,List.map_append]
  refine List.nodup_append.2 ⟨hnd,by simp,?_⟩;intro x h z f
  obtain ⟨q,b,rfl⟩:=List.mem_map.1 h;simp at f
  subst f;exact c q b
theorem KAt.gApp (hL:LOk P L) {gs:List (Int×List α)} {m:List α} {base g d:Nat} {y:Int} {t tx ty:Nat} {te:TI} (hT:slT L t te) (hes:te.size=Emb.es α)
  (hk:Q2g ds k=xE [g] { v:=.v (.c (.cp d (1+Q0J y gs))),del:=[g],new:=some (.exr [base] (Q8m (Go.Ab.gApp y m gs) (some (Q0J y gs)))) })
  (hop:(Y8 ops.toList k).op=.call { callee:=.builtin .append,args:= #[.tmp tx,.tmp ty],argTypes:= #[t,t] }) (hdo:(gOk ops nt (W7 L ops ops.toList ds e s k) (Y8 ops.toList k)&&(Y8 ops.toList k).dst==some d && !(tx==ty))=true)
  (hx:W7 L ops ops.toList ds e s k tx=.v (.c (.cp g (1+Q0J y gs)))) (hy:W7 L ops ops.toList ds e s k ty=AL m) (hs:Q2p L ops ops.toList ds e s k g=some (.exr [base] (Q8m gs none)))
  (hby:te.bytes<=8192) (hzl:te.zero.length=te.size) (hlim:(gRow y gs).length+m.length<=LIM):KAt P C nt L ops ds e s k:=by
 obtain ⟨ti,el,ht,f2,f3⟩:=hT;unfold KAt
 rw [hk];simp only [gOk,Bool.and_eq_true,beq_iff_eq,Bool.not_eq_true',beq_eq_false_iff_ne] at hdo
 obtain ⟨⟨⟨h1,h2⟩,h3⟩,h4⟩:=hdo;refine Y0w [g] h1 h2 fun R η e0 s0 a w he i4 e6 hn p=>?_
 have ox:Operand.tmp tx ∈ (Y8 ops.toList k).op.operands.toList:=by rw [hop];simp [Op.operands,Call.operands]
 have oy:Operand.tmp ty ∈ (Y8 ops.toList k).op.operands.toList:=by rw [hop];simp [Op.operands,Call.operands]
 have ex:e0 tx=.v (.c (.cp g (1+Q0J y gs))):=(he _ ox).trans hx;have ey:e0 ty=AL m:=(he _ oy).trans hy
 have F:s0 g=some (.exr [base] (Q8m gs none)):=(e6 g (by simp)).trans hs;have c7:=Q5u h1 d h3
 have c0:¬ R d:=hn d h3 (by simp);obtain ⟨b,O,b1,a0,hb,hg,f⟩:=Y0d p F
 have i6:g≠d:=fun h=>c0 (h ▸ (p.sr _ _ F).1)
 have c1:=p.ev tx;rw [ex] at c1
 generalize hv1e:a.tmps.getD tx undef=v1 at c1;have b6:(O++[.slice none 0 0])[Q0J y gs]?=some v1:=by
  cases c1 with|v _ _ hh=>cases hh with|c _ _ hh=>cases hh with|cp _ _ _ vs q1 q2 _=>
  rw [hg] at q1;cases q1
  rwa [Z5m] at q2
 obtain ⟨q,f8,e7,a2,G⟩:=Z8a (y:=y) (m:=m) (gs:=gs);have W : Q0J y gs<=O.length:=by rw [f.len];exact G
 have H:∀ x,x ∈ Y7 (.agg (Q5r b O))->Own s0 η x:=fun x hx=>⟨g,_,F,by rw [hg];exact hx⟩
 have d1:Y1F w (XS C s0 η) v1 (gRow y gs)/\(∀ x ∈ Y7 v1,x ∈ Y7 (.agg (Q5r b O)))/\b ∉ Y7 v1/\∀ j u,j≠Q0J y gs->O[j]?=some u->∀ x ∈ Y7 u,x ∉ Y7 v1:=by
  rcases Q7k y gs with ⟨a1,q',a8,d3⟩|⟨hl,_⟩
  ·have B:O[Q0J y gs]?=some v1:=by rwa [List.getElem?_append_left (by rw [f.len];exact a1)] at b6
   refine ⟨?_,fun x hx=>(Q0L f.one).2 (.inr ⟨v1,List.mem_of_getElem? B,hx⟩),f.off _ _ B,fun j u D hu x hx g0=>D (f.apart _ _ _ _ x hu B hx g0)⟩;unfold gRow;rw [a8]
   exact f.rows _ _ _ a8 B
  ·have B:v1=.slice none 0 0:=by
    rw [hl, <-f.len,List.getElem?_append_right (Nat.le_refl _),Nat.sub_self] at b6;simpa using b6.symm
   subst B;refine ⟨?_,fun x hx=>by simp [Y7] at hx,by simp [Y7],fun j u _ _ x _ hx=>by simp [Y7] at hx⟩
   unfold gRow;rw [hl,List.getElem?_eq_none (Nat.le_refl _)]
   exact fun η C=>.nil _ _ _
 obtain ⟨f9,N,b7,a6⟩:=d1;obtain ⟨v',w',d0,I,Y,b5⟩:=Y4S hL p h3 c7 h4 hop ht f2 f3 hes (l:=gRow y gs) (m:=m) (by rw [hv1e];exact f9) (fun x hx=>by rw [hv1e] at hx;exact .inr (H x (N x hx))) ey hby hzl hlim
 rw [hv1e] at I Y b5;have b8:∀ x ∈ Y7 (.agg (Q5r b O)),C.M x\/C.w0.heap.size<=x:=fun x hx=>by
  rcases p.ow g _ x F (by rw [hg];exact hx) with ⟨h,_⟩|h
  ·cases h
  ·exact h
 have a1:∀ x ∈ Y7 (.agg (Q5r b O)),x<w.heap.size:=fun x hx=>f.lt hx
 let rs':=Y2V O (Q0J y gs) v'
 have n : ∀ j,rs'[j]?=if j=Q0J y gs then some v' else O[j]?:=fun j=>Z7N W j
 have b2 : ∀ j,(Go.Ab.gApp y m gs)[j]?=if j=Q0J y gs then some q else gs[j]?:=fun j=>by rw [a2];exact Z7N G j
 have T:=(b5 (fun _=>False) fun _ _ h=>h.elim).form;have c2 : ∀ v ∈ rs',Y2E v=Y7 v:=fun v B=>by
  obtain ⟨j,D⟩:=List.getElem?_of_mem B;have A:=n j
  rw [D] at A
  by_cases h:j=Q0J y gs
  ·rw [if_pos h] at A;cases A;exact T.choose_spec.choose_spec.choose_spec.2.1
  ·rw [if_neg h] at A;exact f.one _ (List.mem_of_getElem? A.symm)
 have hu:∀ x,x ∈ Y7 (.agg (Q5r b rs'))->x=b\/x ∈ Y7 v' \/ ∃ j u,j≠Q0J y gs/\O[j]?=some u/\x ∈ Y7 u:=fun x hx=>by
  rcases (Q0L c2).1 hx with h|⟨v,B,hx⟩
  ·exact .inl h
  ·obtain ⟨j,D⟩:=List.getElem?_of_mem B
   have A:=n j;rw [D] at A
   by_cases h:j=Q0J y gs
   ·rw [if_pos h] at A;cases A;exact .inr (.inl hx)
   ·rw [if_neg h] at A;exact .inr (.inr ⟨j,_,h,A.symm,hx⟩)
 have d7:∀ x,x ∈ Y7 (.agg (Q5r b rs'))->w.heap.size<=x\/x ∈ Y7 (.agg (Q5r b O)):=fun x hx=>by
  rcases hu x hx with rfl|h|⟨j,u,_,h,hx⟩
  ·exact .inr ((Q0L f.one).2 (.inl rfl))
  ·rcases Y x h with h|h
   ·exact .inr (N x h)
   ·exact .inl h
  ·exact .inr ((Q0L f.one).2 (.inr ⟨u,List.mem_of_getElem? h,hx⟩))
 let r:SR:= { v:=.v (.c (.cp d (1+Q0J y gs))),del:=[g],new:=some (.exr [base] (Q8m (Go.Ab.gApp y m gs) (some (Q0J y gs)))) }
 have e1:=Q5H (C:=C) (s:=s0) (η:=η) r (Y8 ops.toList k).dst (.agg (Q5r b rs')) (fun x=>x ∈ Y7 v1) I (fun x hx=>H x (N x hx)) (fun o' dd _ _ x hx=>by
  rcases d7 x hx with h|h
  ·exact .inl h
  ·exact .inr (H x h)) (fun k o hh=>by cases hh)
 have U:∀ i,r.eta (Y8 ops.toList k).dst (.agg (Q5r b rs')) η i=if i=d then .agg (Q5r b rs') else η i:=fun i=>by simp only [SR.eta,h3,r]
 have f6:w'.heap[b]?=w.heap[b]?:=I.block b (K8 f.heap) b7;have d6:∀ x,x<w'.heap.size->XS C (r.sto (Y8 ops.toList k).dst s0) (r.eta (Y8 ops.toList k).dst (.agg (Q5r b rs')) η) x->(XS C s0 η x/\x ∉ Y7 v1)\/x ∈ Y7 v':=by
  intro x hx hX;rcases hX with ⟨d9,d8⟩|⟨i,oi,z,Z⟩
  ·refine .inl ⟨.inl ⟨d9,d8⟩,fun b9=>?_⟩
   rcases b8 x (N x b9) with h|h
   ·exact d8 (p.ok.md x h)
   ·have:=p.ok.lt x d9;omega
  ·rcases Z8y r (Y8 ops.toList k).dst i oi z with ⟨_,a9⟩|⟨e9,_⟩|⟨ho,c9,_,a9⟩
   ·rw [h3] at a9;cases a9
    rw [U,if_pos rfl] at Z;rcases hu x Z with rfl|h|⟨j,u,D,d5,J⟩
    ·exact .inl ⟨.inr (H x ((Q0L f.one).2 (.inl rfl))),b7⟩
    ·exact .inr h
    ·exact .inl ⟨.inr (H x ((Q0L f.one).2 (.inr ⟨u,List.mem_of_getElem? d5,J⟩))),a6 j u D d5 x J⟩
   ·cases e9
   ·have f5:i≠d:=fun h=>by
     subst h;rcases a9 with h|h
     ·cases h
     ·exact h h3
    rw [U,if_neg f5] at Z;refine .inl ⟨.inr ⟨i,oi,ho,Z⟩,fun b9=>?_⟩
    have:i=g:=p.ds i g x (by rw [ho];simp) (by rw [F];simp) Z (by rw [hg];exact N x b9)
    subst this;exact c9 (by simp [r])
 have d2:GrpAt (Go.Ab.gApp y m gs) (some (Q0J y gs)) w' (XS C (r.sto (Y8 ops.toList k).dst s0) (r.eta (Y8 ops.toList k).dst (.agg (Q5r b rs')) η)) b rs' b1 a0:=by
  obtain ⟨f4,e2⟩:=f.ents;refine ⟨f6.trans f.heap,f.st,?_,Y2x f.nd,fun i e' v z B=>?_,fun i j u v x z D J a7=>?_,fun i v z c5=>?_,?_,?_,fun i e' v z V B=>?_⟩
  ·rw [a2,Z5a G,Z5a W,f.len]
  ·rw [b2] at z
   rw [n] at B
   by_cases h:i=Q0J y gs
   ·rw [if_pos h] at z B
    cases z;cases B
    rw [e7];exact b5 _ d6
   ·rw [if_neg h] at z B
    exact (f.rows i e' v z B).mono e1 fun x hx=>I.block x (a1 x ((Q0L f.one).2 (.inr ⟨v,List.mem_of_getElem? B,hx⟩))) (a6 i v h B x hx)
  ·rw [n] at z D
   by_cases h:i=Q0J y gs <;> by_cases h' : j=Q0J y gs
   ·rw [h,h']
   ·rw [if_pos h] at z;rw [if_neg h'] at D
    cases z
    exfalso
    rcases Y x J with h5|h5
    ·exact a6 j v h' D x a7 h5
    ·have:=a1 x ((Q0L f.one).2 (.inr ⟨v,List.mem_of_getElem? D,a7⟩));omega
   ·rw [if_neg h] at z;rw [if_pos h'] at D
    cases D
    exfalso
    rcases Y x a7 with h5|h5
    ·exact a6 i u h z x J h5
    ·have:=a1 x ((Q0L f.one).2 (.inr ⟨u,List.mem_of_getElem? z,J⟩));omega
   ·rw [if_neg h] at z;rw [if_neg h'] at D
    exact f.apart i j u v x z D J a7
  ·rw [n] at z
   by_cases h:i=Q0J y gs
   ·rw [if_pos h] at z
    cases z
    rcases Y b c5 with h5|h5
    ·exact b7 h5
    ·have:=K8 f.heap;omega
   ·rw [if_neg h] at z
    exact f.off i v z c5
  ·rw [a2,Z5a G];split <;> omega
  ·rw [a2,Z5a G]
   split
   ·exact .inl f4
   ·exact .inr ⟨by omega,by omega⟩
  ·rw [b2] at V
   rw [n] at B;have a3:i<gs.length:=by omega
   have c6:i<O.length:=by rw [f.len];exact a3
   obtain ⟨bo,c8⟩:=e2 i gs[i] O[i] (List.getElem?_eq_getElem a3) (List.getElem?_eq_getElem c6)
   by_cases h:i=Q0J y gs
   ·rw [if_pos h] at V
    cases V
    refine ⟨O[i],bo,?_,fun hh=>absurd h hh⟩;rw [c8]
    have:gs[i].1=q.1:=by
     rcases Q7k y gs with ⟨b0,q',a8,d3⟩|⟨hl,_⟩
     ·have h6:gs[i]?=some q':=by rw [h];exact a8
      rw [List.getElem?_eq_getElem a3] at h6;cases h6
      rw [d3,f8]
     ·omega
    rw [this]
   ·rw [if_neg h] at V B
    rw [List.getElem?_eq_getElem a3] at V;rw [List.getElem?_eq_getElem c6] at B
    cases V;cases B
    exact ⟨_,bo,c8,fun _=>rfl⟩
 refine ⟨v',.agg (Q5r b rs'),w',.inl d0,p.stepG (Y8 ops.toList k).dst (fun x hx=>by rw [h3] at hx;cases hx;exact c7) r v' (.agg (Q5r b rs')) w' (fun x=>x ∈ Y7 v1) I ?_ ?_ (fun k o hh=>by cases hh) ?_⟩
 ·intro x hx
  exact ⟨⟨g,.inl (by simp [r]),by rw [F];simp,by rw [hg];exact N x hx⟩,b8 x (N x hx)⟩
 ·intro o' dd f1 e3
  rw [h3] at e3;cases e3
  have e8:o'=.exr [base] (Q8m (Go.Ab.gApp y m gs) (some (Q0J y gs))):=by simpa [r] using f1.symm
  subst e8;refine ⟨c0,rfl,fun j D=>?_,?_,fun x hx=>?_⟩
  ·exact (p.sr g _ F).2 j D
  ·have f7:base≠d:=fun h=>c0 (h ▸ (p.sr g _ F).2 base (by simp [Obj.refs]))
   refine .exr _ _ _ ⟨b,rs',b1,a0,?_,rfl,d2⟩ (Z8Z _) fun x hx=>d2.lt hx
   simp [U,f7,hb]
  ·rcases d7 x hx with h|h
   ·exact .inl h
   ·exact .inr ⟨⟨g,by simp [r],by rw [F];simp,by rw [hg];exact h⟩,b8 x h⟩
 ·intro _
  refine ⟨.v _ _ (.c _ _ (.cp _ _ _ (Q5r b rs') (by rw [U,if_pos rfl]) ?_ T.choose_spec.choose_spec.choose_spec.2.2)),fun j D=>?_⟩
  ·rw [Z5m]
   have b0 : Q0J y gs<rs'.length:=by
    have:=n (Q0J y gs)
    rw [if_pos rfl] at this;exact (List.getElem?_eq_some_iff.1 this).1
   rw [List.getElem?_append_left b0,n,if_pos rfl]
  ·simp [r,AVal.refs,TV.refs,CV.refs] at D
   subst D;exact .inr ⟨by simp [r],h3⟩
theorem Y8Y {gs:List (Int×List α)} {base g j:Nat} {t kT eT:TypeId} {m x v:Operand} {y:Int} {q:Int×List α} (ht:P.underlying t=some (.map kT eT)) (hkT:P.underlying kT=some (.int .i64))
  (hk:Q2g ds k=xE [] { upd:=some (g,.exr [base] (Q8m gs none)) }) (hop:(Y8 ops.toList k).op=.mapUpdate t m x v) (hdo:(gOk ops nt (W7 L ops ops.toList ds e s k) (Y8 ops.toList k)&&(Y8 ops.toList k).dst.isNone)=true)
  (hm:aev (W7 L ops ops.toList ds e s k) m=.v (.c (.own base))) (hx:aev (W7 L ops ops.toList ds e s k) x=vi y) (hv:aev (W7 L ops ops.toList ds e s k) v=.v (.c (.cp g (1+j))))
  (hs:Q2p L ops ops.toList ds e s k g=some (.exr [base] (Q8m gs (some j)))) (hq:gs[j]?=some q) (hqy:q.1=y):KAt P C nt L ops ds e s k:=by
 unfold KAt;rw [hk]
 simp only [gOk,Bool.and_eq_true,beq_iff_eq] at hdo;obtain ⟨⟨h1,h2⟩,h3⟩:=hdo
 refine Y0w [] h1 h2 fun R η e0 s0 a w he c8 d8 hn G=>Snd.g ?_
 have om:m ∈ (Y8 ops.toList k).op.operands.toList:=by rw [hop];simp [Op.operands]
 have ox:x ∈ (Y8 ops.toList k).op.operands.toList:=by rw [hop];simp [Op.operands]
 have ov:v ∈ (Y8 ops.toList k).op.operands.toList:=by rw [hop];simp [Op.operands]
 have em:=(W3 G m).1;rw [he m om,hm] at em
 have em:=Q6H em;have ex:=(W3 G x).1
 rw [he x ox,hx] at ex;have ex:=Y7p ex
 have H:s0 g=some (.exr [base] (Q8m gs (some j))):=(c8 v ov g (by rw [hv];simp [AVal.refs,TV.refs,CV.refs])).trans hs;obtain ⟨b,U,l,d3,hb,hg,A⟩:=Y0d G H
 rw [hb] at em;have ev:=(W3 G v).1
 rw [he v ov,hv] at ev;have c6:j<U.length:=by rw [A.len];exact (List.getElem?_eq_some_iff.1 hq).1
 have M:U[j]?=some (a.eval v):=by
  generalize a.eval v=v1 at ev
  cases ev with|v _ _ I=>cases I with|c _ _ I=>cases I with|cp _ _ _ vs q1 q2 _=>
  rw [hg] at q1;cases q1
  rw [Z5m,List.getElem?_append_left c6] at q2;exact q2
 generalize hve:a.eval v=v1 at M;obtain ⟨e4,V,F⟩:=A.ents
 have a8:∀ (i:Nat) (z:MapEntry),l[i]?=some z->∃ J u,gs[i]?=some J /\ U[i]?=some u/\z.key=.int .i64 J.1/\(i≠j->z.val=u):=fun i z W=>by
  have T:i<l.size:=(Array.getElem?_eq_some_iff.1 W).1;have a1:i<gs.length:=by omega
  have b9:i<U.length:=by rw [A.len];exact a1
  obtain ⟨u,Y,n,O⟩:=F i gs[i] U[i] T (List.getElem?_eq_getElem a1) (List.getElem?_eq_getElem b9);rw [W] at n
  cases n
  exact ⟨gs[i],U[i],List.getElem?_eq_getElem a1,List.getElem?_eq_getElem b9,rfl,O⟩
 have d4:∀ z ∈ l.toList,IsKey (.int .i64) z.key:=fun z W=>by
  obtain ⟨i,T,rfl⟩:=List.getElem_of_mem W;obtain ⟨J,_,_,_,d0,_⟩:=a8 i l[i] (Array.getElem?_eq_getElem (by simpa using T))
  simp only [Array.getElem_toList];rw [d0];rfl
 have e3:b<w.heap.size:=K8 A.heap;have b5:∃ (B : Array MapEntry) (f : Nat),(execOp a.eval (Y8 ops.toList k)).run P w=.ok .skip { w with heap:=w.heap.setIfInBounds b (.map B f) } /\ Stamped B f /\ B.size=gs.length/\∀ (i:Nat) (J : Int×List α) (u:Value),gs[i]?=some J -> U[i]?=some u->∃ Y,B[i]?=some ⟨.int .i64 J.1,u,Y⟩:=by
  rcases findNow_spec (d:=.int .i64) (k:=.int .i64 y) rfl l.toList 0 d4 with ⟨f1,f2⟩|⟨i,z,f1,f2,f3⟩
  ·refine ⟨_,_,?_,stamped_push (val:=v1) A.st f2,?_,fun i J u D hu=>?_⟩
   ·simp [execOp,hop,em,ex,hve,Instr.mapUpdate,run_underlying ht,MapKept.run_getObj_map A.heap,MapKept.run_checkKey hkT (k:=.int .i64 y) (d:=.int .i64) rfl,MapKept.run_findKey hkT f1,MapKept.run_setObj_map _ A.heap]
   ·rw [Array.size_push]
    rcases V with h|⟨h,_⟩
    ·exfalso
     obtain ⟨u,Y,n,_⟩:=F j q v1 (by omega) hq M;exact f2 _ (by have:=Array.mem_of_getElem? n;simpa using this) (by rw [hqy])
    ·exact h
   ·rcases V with h|⟨h,hj⟩
    ·exfalso
     obtain ⟨u,Y,n,_⟩:=F j q v1 (by omega) hq M;exact f2 _ (by have:=Array.mem_of_getElem? n;simpa using this) (by rw [hqy])
    ·rw [Array.getElem?_push]
     by_cases T:i=l.size
     ·rw [if_pos T]
      have a4:i=j:=by omega
      subst a4;rw [hq] at D;rw [M] at hu
      cases D;cases hu
      exact ⟨_,by rw [hqy]⟩
     ·rw [if_neg T]
      have c5:i<gs.length:=(List.getElem?_eq_some_iff.1 D).1;obtain ⟨u',Y,n,O⟩:=F i J u (by omega) D hu
      rw [O (by omega)] at n;exact ⟨Y,n⟩
  ·have fz:l[i]?=some z:=by simpa using f2
   obtain ⟨J,u,D,hu,b4,e6⟩:=a8 i z fz;have c4:J.1=y:=by rw [f3] at b4;cases b4;rfl
   have a4:i=j:=Z8N A.nd D hq (by rw [c4,hqy]);subst a4
   refine ⟨_,_,?_,stamped_modify A.st i (fun e=> { e with key:=.int .i64 y,val:=v1 }) (fun _ _=>rfl) (fun b0 _ p=>?_),?_,fun i' b0 u' p a3=>?_⟩
   ·simp [execOp,hop,em,ex,hve,Instr.mapUpdate,run_underlying ht,MapKept.run_getObj_map A.heap,MapKept.run_checkKey hkT (k:=.int .i64 y) (d:=.int .i64) rfl,MapKept.run_findKey hkT f1,fz,f3,MapKept.run_keyThatStays (d:=.int .i64) (k:=.int .i64 y) rfl,MapKept.run_setObj_map _ A.heap]
   ·rw [fz] at p;cases p;exact f3.symm
   ·rw [Array.size_modify]
    rcases V with h|⟨h,hj⟩
    ·exact h
    ·have:i<l.size:=(Array.getElem?_eq_some_iff.1 fz).1
     omega
   ·rw [Array.getElem?_modify]
    by_cases T:i=i'
    ·subst T
     rw [if_pos rfl,fz];rw [hq] at p;rw [M] at a3
     cases p;cases a3
     exact ⟨z.born,by rw [hqy];rfl⟩
    ·rw [if_neg T]
     have c5:i' < gs.length:=(List.getElem?_eq_some_iff.1 p).1;have e9:i<l.size:=(Array.getElem?_eq_some_iff.1 fz).1
     obtain ⟨e7,Y,n,O⟩:=F i' b0 u' (by rcases V with h|⟨h,hj⟩ <;> omega) p a3;rw [O (fun h=>T h.symm)] at n
     exact ⟨Y,n⟩
 obtain ⟨B,f,b1,b7,b8,a0⟩:=b5;have Z:Stp (fun x=>x=b) w { w with heap:=w.heap.setIfInBounds b (.map B f) } :=
  ⟨rfl,rfl,rfl,by simp,fun x _ hx=>(heap_set A.heap).2 x hx,Nat.le_refl _⟩
 have N:b ∈ Y7 (η g):=by rw [hg];exact (Q0L A.one).2 (.inl rfl)
 have hd:(Y8 ops.toList k).dst=none:=by simpa using h3
 let r:SR:= { upd:=some (g,.exr [base] (Q8m gs none)) }
 have b2:=Q5H (C:=C) (s:=s0) (η:=η) r (Y8 ops.toList k).dst undef (fun x=>x=b) Z (fun x hx=>by subst hx;exact ⟨g,_,H,N⟩) (fun _ _ I=>by cases I) (fun k o I=>by cases I;rw [H];simp);have b6:r.eta (Y8 ops.toList k).dst undef η=η:=by funext i;simp [SR.eta,r]
 refine ⟨undef,_,.inr ⟨b1,rfl⟩,G.step (Y8 ops.toList k).dst (fun x hx=>by rw [hd] at hx;cases hx) r undef _ (fun x=>x=b) Z (fun x hx=>?_) (fun _ _ I=>by cases I) (fun k' o' I=>?_) (fun I=>absurd hd I)⟩
 ·subst hx
  refine ⟨⟨g,.inr ⟨_,rfl⟩,by rw [H];simp,N⟩,?_⟩;rcases G.ow g _ x H N with ⟨h,_⟩|h
  ·cases h
  ·exact h
 ·cases I
  refine ⟨⟨_,H,rfl⟩,rfl,by simp [r],fun j hj=>(G.sr g _ H).2 j hj,?_⟩;rw [b6] at b2 ⊢
  rw [hg];have b3:GrpAt gs none { w with heap:=w.heap.setIfInBounds b (.map B f) } (XS C (r.sto (Y8 ops.toList k).dst s0) η) b U B f :=
   ⟨(heap_set A.heap).1,b7,A.len,A.nd,fun i J u D hu=>(A.rows i J u D hu).mono b2 fun z W=>(heap_set A.heap).2 z (fun h=>by subst h;exact A.off i u hu W),A.apart,A.off,b8,a0⟩
  exact .exr _ _ _ ⟨b,U,B,f,by simp [hb],rfl,b3⟩ (Z8Z _) fun z W=>b3.lt W
end
section
variable {P:Program} {C:Ctx} {nt:Nat} {L:Lay} {pins:List Nat} {K:Act->World->Prop} {α:Type} [Emb α]
theorem Y8W (Fm:Fr P L C pins) {E:List (Nat×AVal)} {S0:List (Nat×Obj)} {id k:Nat} {o o' : Obj} (hp:pins.contains k=false)
  (hfr:((E.flatMap fun p=>p.2.refs)++(((id,o)::S0).flatMap fun p=>p.1::p.2.refs)).contains k=false) (hid:(S0.map (·.1)).contains id=false) (hro:o.ro=false) (hro' : o'.ro=false) (hrf:∀ j ∈ o'.refs,j=id\/j ∈ o.refs)
  (hu:∀ R η a w,Conc C nt R η (lk E) (ls ((id,o)::S0)) a w->∃ u,(∀ b ∈ Y7 u,b ∈ Y7 (η id))/\∀ X' η',Q6Z w w (XS C (ls ((id,o)::S0)) η) X' -> (∀ i,i≠k->η' i=η i)->ORep w X' η' C u o')
  (hk:Kn C nt E ((k,o')::S0) K):Kn C nt E ((id,o)::S0) K:=by
 intro R η a w m;have g:ls ((id,o)::S0) id=some o:=by rw [U5,if_pos rfl]
 obtain ⟨u,r,H⟩:=hu R η a w m;have T:C.pin k=none:=by
  rcases hq:C.pin k with _|u
  ·rfl
  ·have:=Fm.pin k (by rw [hq];simp)
   rw [List.contains_iff_mem.2 this] at hp;cases hp
 have A:∀ i ∈ (E.flatMap fun p=>p.2.refs)++(((id,o)::S0).flatMap fun p=>p.1::p.2.refs),i≠k:=by
  intro i d N;subst N
  rw [List.contains_iff_mem.2 d] at hfr;cases hfr
 have a5:id≠k:=A id (by simp);have a6:∀ j ∈ o.refs,j≠k:=fun j q=>A j (by simp [q])
 have l:∀ i o',ls S0 i=some o' -> i≠k/\i≠id/\(∀ j ∈ o'.refs,j≠k)/\ls ((id,o)::S0) i=some o':=by
  intro i o' d;have hm:=U4 d
  have V:i≠id:=by
   intro N;subst N
   have:i ∈ S0.map (·.1):=List.mem_map.2 ⟨_,hm,rfl⟩
   rw [List.contains_iff_mem.2 this] at hid;cases hid
  refine ⟨A i (List.mem_append.2 (.inr (List.mem_flatMap.2 ⟨_,List.mem_cons_of_mem _ hm,by simp⟩))),V,fun j q=>A j (List.mem_append.2 (.inr (List.mem_flatMap.2 ⟨_,List.mem_cons_of_mem _ hm,by simp [q]⟩))),?_⟩;rw [U5,if_neg V];exact d
 have Y:∀ u i,i ∈ (lk E u).refs->i≠k:=by
  intro u i d;rcases Z8P (E:=E) (t:=u) with h0|h0
  ·rw [h0] at d;cases d
  ·exact A i (List.mem_append.2 (.inl (List.mem_flatMap.2 ⟨_,h0,d⟩)))
 let η' : Nat->Value:=fun i=>if i=k then u else η i
 have f : ∀ i,i≠k->η' i=η i:=fun i d=>by show (if i=k then u else η i)=_;rw [if_neg d]
 have B:η' k=u:=by show (if k=k then u else η k)=_;rw [if_pos rfl]
 have J:∀ b,Own (ls ((k,o')::S0)) η' b->Own (ls ((id,o)::S0)) η b:=by
  rintro b ⟨i,n,d,D⟩;rw [U5] at d
  by_cases c:i=k
  ·subst c
   rw [B] at D;exact ⟨id,_,g,r b D⟩
  ·rw [if_neg c] at d
   rw [f i c] at D;exact ⟨i,n,(l i n d).2.2.2,D⟩
 have Z:Q6Z w w (XS C (ls ((id,o)::S0)) η) (XS C (ls ((k,o')::S0)) η'):=by
  intro b O hn;refine ⟨rfl,fun I=>?_⟩
  rcases I with I|I
  ·exact hn (.inl I)
  ·exact hn (.inr (J b I))
 refine hk (fun i=>R i\/i=k) η' a w ⟨m.ok,m.df,m.sz,fun t=>?_,fun t i d=>.inl (m.er t i d),fun i n d=>?_,fun i n d=>?_,fun i j b d q z x=>?_,fun i n b d O=>?_,m.fr,fun i v d=>?_⟩
 ·exact (m.ev t).mono Z fun i d=>f i (Y t i d)
 ·rw [U5] at d
  by_cases c:i=k
  ·subst c
   rw [if_pos rfl] at d;cases d
   rw [B];exact H _ _ Z f
  ·rw [if_neg c] at d
   obtain ⟨F,U,W,G⟩:=l i n d;rw [f i c]
   exact (m.st i n G).mono Z (fun j q=>f j (W j q)) fun _ _=>rfl
 ·rw [U5] at d
  by_cases c:i=k
  ·subst c
   rw [if_pos rfl] at d;cases d
   refine ⟨.inr rfl,fun j q=>.inl ?_⟩;rcases hrf j q with rfl|h
   ·exact (m.sr j _ g).1
   ·exact (m.sr id _ g).2 j h
  ·rw [if_neg c] at d
   obtain ⟨F,U,W,G⟩:=l i n d;have:=m.sr i n G
   exact ⟨.inl this.1,fun j q=>.inl (this.2 j q)⟩
 ·rw [U5] at d q
  by_cases c:i=k <;> by_cases hjk:j=k
  ·rw [c,hjk]
  ·exfalso
   rw [if_neg hjk] at q;obtain ⟨oj,M⟩:=Option.ne_none_iff_exists'.1 q
   obtain ⟨F,U,W,G⟩:=l j oj M;rw [c,B] at z
   rw [f j hjk] at x;exact U (m.ds j id b (by rw [G];simp) (by rw [g];simp) x (r b z))
  ·exfalso
   rw [if_neg c] at d;obtain ⟨n,M⟩:=Option.ne_none_iff_exists'.1 d
   obtain ⟨F,U,W,G⟩:=l i n M;rw [hjk,B] at x
   rw [f i c] at z;exact U (m.ds i id b (by rw [G];simp) (by rw [g];simp) z (r b x))
  ·rw [if_neg c] at d
   rw [if_neg hjk] at q;obtain ⟨n,M⟩:=Option.ne_none_iff_exists'.1 d
   obtain ⟨oj,a3⟩:=Option.ne_none_iff_exists'.1 q;rw [f i c] at z
   rw [f j hjk] at x;exact m.ds i j b (by rw [(l i n M).2.2.2];simp) (by rw [(l j oj a3).2.2.2];simp) z x
 ·rw [U5] at d
  by_cases c:i=k
  ·subst c
   rw [if_pos rfl] at d;cases d
   rw [B] at O;rcases m.ow id _ b g (r b O) with ⟨F,_⟩|F
   ·rw [hro] at F;cases F
   ·exact .inr F
  ·rw [if_neg c] at d
   rw [f i c] at O;exact m.ow i n b (l i n d).2.2.2 O
 ·have c:i≠k:=by intro N;subst N;rw [T] at d;cases d
  have:=m.pn i v d
  exact ⟨(f i c).trans this.1,.inl this.2⟩
theorem W0i (Fm:Fr P L C pins) (α:Type) [Emb α] {E:List (Nat×AVal)} {S0:List (Nat×Obj)} {d g:Nat} {kT eT:TypeId} (hp:pins.contains g=false)
  (hfr:((E.flatMap fun p=>p.2.refs)++(((d,Obj.ext (Y1Q P kT eT []))::S0).flatMap fun p=>p.1::p.2.refs)).contains g=false) (hd:(S0.map (·.1)).contains d=false)
  (hk:Kn C nt E ((g,.exr [d] (Q8m ([]:List (Int×List α)) none))::S0) K):Kn C nt E ((d,.ext (Y1Q P kT eT []))::S0) K:=by
 refine Y8W Fm hp hfr hd rfl rfl (fun j G=>.inl (by simpa [Obj.refs] using G)) (fun R η a w D=>?_) hk;have f:=D.st d _ (show ls ((d,.ext (Y1Q P kT eT []))::S0) d=some (.ext (Y1Q P kT eT [])) by rw [U5,if_pos rfl])
 generalize hη:η d=u at f
 cases f with
 | ext _ _ hp' _ hlt=>
  obtain ⟨b,rfl,A,c,B,I,F,_⟩:=hp';have o:A=#[]:=Array.eq_empty_of_size_eq_zero (by simpa using F)
  subst o;refine ⟨.agg (Q5r b []),fun x l=>?_,fun X' η' H q=>?_⟩
  ·have:=(Q0L (rs:=[]) (fun v n=>by cases n)).1 l
   rcases this with rfl|⟨v,n,_⟩
   ·simp [Y7]
   ·cases n
  ·have r:d≠g:=fun h=>by
    subst h;have:((E.flatMap fun p=>p.2.refs)++(((d,Obj.ext (Y1Q P kT eT []))::S0).flatMap fun p=>p.1::p.2.refs)).contains d=true:=by simp
    rw [this] at hfr;cases hfr
   have z:GrpAt ([]:List (Int×List α)) none w X' b [] #[] c:=⟨B,⟨by simp,by simp,by simp⟩,rfl,by simp,fun i e v m=>by simp at m,fun i j u v x t=>by simp at t,fun i v t=>by simp at t,rfl,fun i e v m=>by simp at m⟩;exact .exr _ _ _ ⟨b,[], #[],c,by simp [q d r,hη],rfl,z⟩ (Z8Z _) fun x l=>z.lt l
theorem W0Y {E0:List (Nat×AVal)} {S0:List (Nat×Obj)} {t d g:Nat} {gs:List (Int×List α)} (hid:(S0.map (·.1)).contains g=false)
  (hk:Kn C nt ((t,.v (.c (.d (MP gs))))::E0) S0 K):Kn C nt ((t,.v (.c (.own d)))::E0) ((g,.exr [d] (Q8m gs none))::S0) K:=by
 intro R η a w m;have G:ls ((g,.exr [d] (Q8m gs none))::S0) g=some (.exr [d] (Q8m gs none)):=by rw [U5,if_pos rfl]
 have p:∀ i o,ls S0 i=some o->i≠g/\ls ((g,.exr [d] (Q8m gs none))::S0) i=some o:=by
  intro i o h;have q:i≠g:=by
   intro he;subst he
   have:i ∈ S0.map (·.1):=List.mem_map.2 ⟨_,U4 h,rfl⟩
   rw [List.contains_iff_mem.2 this] at hid;cases hid
  exact ⟨q,by rw [U5,if_neg q];exact h⟩
 obtain ⟨b,A,M,H,hb,hg,B⟩:=Y0d m G;have O:∀ x,XS C (ls S0) η x->XS C (ls ((g,.exr [d] (Q8m gs none))::S0)) η x:=fun x z=>by
  rcases z with z|⟨i,o,h,F⟩
  ·exact .inl z
  ·exact .inr ⟨i,o,(p i o h).2,F⟩
 have Z:Q6Z w w (XS C (ls ((g,.exr [d] (Q8m gs none))::S0)) η) (XS C (ls S0) η):=fun x _ V=>⟨rfl,fun z=>V (O x z)⟩
 have N:∀ x ∈ Y7 (η g),¬ XS C (ls S0) η x:=fun x z W=>by
  rcases W with ⟨a3,a2⟩|⟨i,o,h,F⟩
  ·rcases m.ow g _ x G z with ⟨J,_⟩|J|J
   ·cases J
   ·exact a2 (m.ok.md x J)
   ·have:=m.ok.lt x a3;omega
  ·exact (p i o h).1 (m.ds i g x (by rw [(p i o h).2];simp) (by rw [G];simp) F z)
 obtain ⟨a1,U⟩:=B.ents;have hD:DRep w (XS C (ls S0) η) (.map (some b)) (MP gs):=by
  refine .mp b M H gs.length _ (fun i=>A.getD i undef) _ (N b (by rw [hg];exact (Q0L B.one).2 (.inl rfl))) B.heap B.st a1 (fun i h=>?_) fun i h=>?_
  ·have I:i<A.length:=by rw [B.len];exact h
   obtain ⟨bo,a0⟩:=U i gs[i] A[i] (List.getElem?_eq_getElem h) (List.getElem?_eq_getElem I);exact ⟨bo,by rw [a0];simp [List.getD_eq_getElem?_getD,h,I]⟩
  ·have I:i<A.length:=by rw [B.len];exact h
   have e1:A.getD i undef=A[i]:=by simp [List.getD_eq_getElem?_getD,I]
   have e2:gs.getD i (0,[])=gs[i]:=by simp [List.getD_eq_getElem?_getD,h]
   simp only [e1,e2];have l:=B.rows i gs[i] A[i] (List.getElem?_eq_getElem h) (List.getElem?_eq_getElem I) η C
   have T:∀ x ∈ Y7 A[i],¬ XS C (ls S0) η x:=fun x z=>N x (by rw [hg];exact (Q0L B.one).2 (.inr ⟨A[i],List.getElem_mem I,z⟩))
   unfold AO at l;unfold DL
   generalize gs[i].2.length=n at l ⊢;generalize LF gs[i].2=f at l ⊢
   generalize A[i]=v at l T ⊢
   cases l with
   | nil ad es f=>exact .nil ad 0 f
   | arr b n cap es c e f J h2 h3 h4 h5 h6 h7=>
    refine .lst b 0 n cap c e _ f _ (T b (by simp [Y7];omega)) J h3 (by rw [h2,Nat.zero_add];exact Nat.mul_le_mul_right _ h3) h6 fun i j h Y=>?_
    rw [Nat.zero_add];exact (h7 i j h Y).mono Z
 have q:∀ i,ls S0 i≠none->ls ((g,.exr [d] (Q8m gs none))::S0) i≠none:=fun i h V=>by
  obtain ⟨o,ho⟩:=Option.ne_none_iff_exists'.1 h;rw [(p i o ho).2] at V;cases V
 refine hk R η a w ⟨m.ok,m.df,m.sz,fun u=>?_,fun u i h=>?_,fun i o h=>(m.st i o (p i o h).2).mono Z (fun _ _=>rfl) fun _ _=>rfl,fun i o h=>m.sr i o (p i o h).2,fun i j b h Y=>m.ds i j b (q i h) (q j Y),fun i o b h=>m.ow i o b (p i o h).2,m.fr,m.pn⟩
 ·rw [Z7T]
  have r:=m.ev u;rw [Z7T] at r
  by_cases hu:u=t
  ·rw [if_pos hu] at r ⊢
   rw [Q6H r,hb];exact .v _ _ (.c _ _ (.d _ _ hD))
  ·rw [if_neg hu] at r ⊢
   exact r.mono Z fun _ _=>rfl
 ·rw [Z7T] at h
  have D:=m.er u i;rw [Z7T] at D
  by_cases hu:u=t
  ·rw [if_pos hu] at h;cases h
  ·rw [if_neg hu] at h D
   exact D h
end
end
section
def ov:List (Nat×Obj)->List (Nat×Obj)->List (Nat×Obj)
 | [],S=>S
 | _::_,[]=>[]
 | (k,o)::W,(i,x)::S=>match Nat.beq k i with
  | true=>(i,o)::ov W S
  | false=>(i,x)::ov ((k,o)::W) S
def FW:List (Nat×Obj)->List (Nat×Obj)->Prop
 | [],_=>True
 | _::_,[]=>True
 | (k,o)::W,(i,x)::S=>match Nat.beq k i with
  | true=>OLe o x/\FW W S
  | false=>FW ((k,o)::W) S
theorem Y5S:∀ {W S:List (Nat×Obj)},FW W S->FSl (ov W S) S
 | [],S,_=>by cases S <;> exact FSl.refl _
 | _::_,[],_=>True.intro
 | (k,o)::W,(i,x)::S,h=>by
  unfold ov;unfold FW at h
  cases e:Nat.beq k i with
  | true=>rw [e] at h;exact ⟨rfl,h.1,Y5S h.2⟩
  | false=>rw [e] at h;exact ⟨rfl,OLe.refl _,Y5S h⟩
section
variable {P:Program} {C:Ctx} {nt:Nat} {L:Lay} {pins:List Nat} {E:List (Nat×AVal)} {S:List (Nat×Obj)} {Q:Exit->Act->World->Prop}
theorem Y9f (Fm:Fr P L C pins) {id:Nat} {ops:Array Oper} {draw:Bool} (ds:List Dir) (c:(Nat->Prop)->Prop) (E' : List (Nat×AVal)) (S' : List (Nat×Obj)) (hc:c (KAt P C nt L ops ds (lk E) (ls S))) (W:List (Nat×Obj)) (hW:FW W S') (k:Kn C nt E' S' (Q .normal))
  (h:(Z6c L pins nt ops draw ds E S [] (ov W S'),Q7m P C nt L ops ops.toList ds (lk E) (ls S),E'.map (fun p=>Z2j ops.toList (Q1o L ops ops.toList ds (lk E) (ls S)) (lk E) p.1),(ov W S').map (fun p=>Z2i (Q1o L ops ops.toList ds (lk E) (ls S)) (ls S) (V3 [] p.1)))
   = (true,c (KAt P C nt L ops ds (lk E) (ls S)),E'.map (fun p=>p.2.ren (V3 [])),(ov W S').map (fun p=>some (p.2.ren (V3 [])))):=by kernel_rfl):AW P C nt (.region id ops draw) E S Q:=
 AW.g Fm ds c E' (ov W S') hc h (Q7n E' S' (FE.refl _) (Y5S hW) k)
theorem W0z (Fm:Fr P L C pins) {id:Nat} {ops:Array Oper} {draw:Bool} {y:Code} (ds:List Dir) (c:(Nat->Prop)->Prop) (E' : List (Nat×AVal)) (S' : List (Nat×Obj)) (hc:c (KAt P C nt L ops ds (lk E) (ls S))) (W:List (Nat×Obj)) (hW:FW W S') (k:AW P C nt y E' S' Q)
  (h:(Z6c L pins nt ops draw ds E S [] (ov W S'),Q7m P C nt L ops ops.toList ds (lk E) (ls S),E'.map (fun p=>Z2j ops.toList (Q1o L ops ops.toList ds (lk E) (ls S)) (lk E) p.1),(ov W S').map (fun p=>Z2i (Q1o L ops ops.toList ds (lk E) (ls S)) (ls S) (V3 [] p.1)))
   = (true,c (KAt P C nt L ops ds (lk E) (ls S)),E'.map (fun p=>p.2.ren (V3 [])),(ov W S').map (fun p=>some (p.2.ren (V3 [])))):=by kernel_rfl):AW P C nt (.seq (.region id ops draw) y) E S Q:=
 Y9c Fm ds c E' (ov W S') hc h (Q7n E' S' (FE.refl _) (Y5S hW) k)
theorem Y9d (Fm:Fr P L C pins) {id:Nat} {ops:Array Oper} {draw:Bool} (ds:List Dir) (E' : List (Nat×AVal)) (S' : List (Nat×Obj)) {q:Prop} (hc:q) (k:Kn C nt E' S' (Q .normal)) (h:(Z6c L pins nt ops draw ds E S [] S',Q7m P C nt L ops ops.toList ds (lk E) (ls S),E'.map (fun p=>Z2j ops.toList (Q1o L ops ops.toList ds (lk E) (ls S)) (lk E) p.1),(S').map (fun p=>Z2i (Q1o L ops ops.toList ds (lk E) (ls S)) (ls S) (V3 [] p.1)))
   = (true,q,E'.map (fun p=>p.2.ren (V3 [])),(S').map (fun p=>some (p.2.ren (V3 [])))):=by kernel_rfl):AW P C nt (.region id ops draw) E S Q:=AW.g Fm ds (fun _=>q) E' S' hc h k
theorem W1v (Fm:Fr P L C pins) {id:Nat} {ops:Array Oper} {draw:Bool} {y:Code} (ds:List Dir) (E' : List (Nat×AVal)) (S' : List (Nat×Obj)) {q:Prop} (hc:q) (k:AW P C nt y E' S' Q) (h:(Z6c L pins nt ops draw ds E S [] S',Q7m P C nt L ops ops.toList ds (lk E) (ls S),E'.map (fun p=>Z2j ops.toList (Q1o L ops ops.toList ds (lk E) (ls S)) (lk E) p.1),(S').map (fun p=>Z2i (Q1o L ops ops.toList ds (lk E) (ls S)) (ls S) (V3 [] p.1)))
   = (true,q,E'.map (fun p=>p.2.ren (V3 [])),(S').map (fun p=>some (p.2.ren (V3 [])))):=by kernel_rfl):AW P C nt (.seq (.region id ops draw) y) E S Q:=Y9c Fm ds (fun _=>q) E' S' hc h k
theorem W1t (Fm:Fr P L C pins) {id:Nat} {ops:Array Oper} {draw:Bool} (ds:List Dir) (E' : List (Nat×AVal)) (S' : List (Nat×Obj)) {q:Prop} (hc:q) (W:List (Nat×Obj)) (hW:FW W S') (k:Kn C nt E' S' (Q .normal)) (h:(Z6c L pins nt ops draw ds E S [] (ov W S'),Q7m P C nt L ops ops.toList ds (lk E) (ls S),E'.map (fun p=>Z2j ops.toList (Q1o L ops ops.toList ds (lk E) (ls S)) (lk E) p.1),((ov W S')).map (fun p=>Z2i (Q1o L ops ops.toList ds (lk E) (ls S)) (ls S) (V3 [] p.1)))
   = (true,q,E'.map (fun p=>p.2.ren (V3 [])),((ov W S')).map (fun p=>some (p.2.ren (V3 [])))):=by kernel_rfl):AW P C nt (.region id ops draw) E S Q:=Y9f Fm ds (fun _=>q) E' S' hc W hW k h
theorem W1u (Fm:Fr P L C pins) {id:Nat} {ops:Array Oper} {draw:Bool} {y:Code} (ds:List Dir) (E' : List (Nat×AVal)) (S' : List (Nat×Obj)) {q:Prop} (hc:q) (W:List (Nat×Obj)) (hW:FW W S') (k:AW P C nt y E' S' Q) (h:(Z6c L pins nt ops draw ds E S [] (ov W S'),Q7m P C nt L ops ops.toList ds (lk E) (ls S),E'.map (fun p=>Z2j ops.toList (Q1o L ops ops.toList ds (lk E) (ls S)) (lk E) p.1),((ov W S')).map (fun p=>Z2i (Q1o L ops ops.toList ds (lk E) (ls S)) (ls S) (V3 [] p.1)))
   = (true,q,E'.map (fun p=>p.2.ren (V3 [])),((ov W S')).map (fun p=>some (p.2.ren (V3 [])))):=by kernel_rfl):AW P C nt (.seq (.region id ops draw) y) E S Q:=W0z Fm ds (fun _=>q) E' S' hc W hW k h
theorem cT {p:Prop} (h:p):p/\True:=⟨h,True.intro⟩
theorem cA {p q:Prop} (h:p) (k:q):p/\q:=⟨h,k⟩
@[reducible] def lI {α:Type} (l:List α):Int:=((l.length:Nat):Int)
theorem Q3 {t:Nat} {x y:Code} {b:Bool} {R:Type} {u v:Option R} {r:R} (h:br b u v=some r) (ht:b=true->u=some r->AW P C nt x E S Q) (hf:b=false->v=some r->AW P C nt y E S Q) (hb:lk E t=vb b:=by kernel_rfl):AW P C nt (.cond (.tmp t) x y) E S Q:=
 AW.cond hb (fun q=>ht q (W1A h q)) (fun q=>hf q (W1B h q))
theorem Z6 {b:Bool} {R:Type} {u v:Option R} {r:R} (h:br b u v=some r):(b=true/\u=some r)\/(b=false/\v=some r):=by
 cases b
 ·exact .inr ⟨rfl,h⟩
 ·exact .inl ⟨rfl,h⟩
theorem gS {R:Type} {p:Prop} [Decidable p] {x:Option R} {r:R} (h:gd p x=some r):p/\x=some r:=Z0M h
theorem gS2 {R:Type} {p q:Prop} [Decidable p] [Decidable q] {x:Option R} {r:R} (h:gd p (gd q x)=some r):p/\q/\x=some r:=⟨(Z0M h).1,Z0M (Z0M h).2⟩
theorem gS3 {R:Type} {p q u:Prop} [Decidable p] [Decidable q] [Decidable u] {x:Option R} {r:R} (h:gd p (gd q (gd u x))=some r):p/\q/\u/\x=some r:=⟨(Z0M h).1,gS2 (Z0M h).2⟩
theorem gS4 {R:Type} {p q u v:Prop} [Decidable p] [Decidable q] [Decidable u] [Decidable v] {x:Option R} {r:R} (h:gd p (gd q (gd u (gd v x)))=some r):p/\q/\u/\v/\x=some r:=⟨(Z0M h).1,gS3 (Z0M h).2⟩
theorem bS {α R:Type} {x:Option α} {f:α->Option R} {r:R} (h:x.bind f=some r):∃ z,x=some z/\f z=some r:=W0f h
theorem FI {f:Nat} {fn:Func} {c:Code} (hf:P.funcs[f]?=some fn) (hm:P.follows .mixedOrders=true) (hL:LOk P L) {args:List AVal} {S:List (Nat×Obj)} {r:AVal} {S' : List (Nat×Obj)}
  (h:∀ C,Fr P L C (S.map (·.1))->AW P C fn.ntmps c (Y4u args) S (Y4T P fn C r S')) (hb:fn.body=some c:=by rfl) (hn0:Nat.ble args.length fn.ntmps=true:=by kernel_rfl):Q7 P f args S r S':=Q7.intro hm hL hf hb hn0 h
end
end
section
section
variable {P:Program} {C:Ctx} {nt:Nat} {L:Lay} {ops:Array Oper} {ds:List Dir} {e:Env} {s:Sto} {k:Nat}
end
end
section
open Go.MapKept
section
variable {P:Program} {C:Ctx} {nt:Nat} {L:Lay} {R:Nat->Prop} {η:Nat->Value} {e:Env} {s:Sto} {a:Act} {w:World}
variable {ops:Array Oper} {ds:List Dir} {k:Nat}
end
section
variable {P:Program} {C:Ctx} {nt:Nat} {L:Lay} {pins:List Nat} {E:List (Nat×AVal)} {S:List (Nat×Obj)} {Q:Exit->Act->World->Prop}
end
end
section
open Go.MapKept
section
variable {P:Program} {C:Ctx} {nt:Nat} {L:Lay} {ops:Array Oper} {ds:List Dir} {e:Env} {s:Sto} {k:Nat}
end
section
variable {P:Program} {C:Ctx} {nt:Nat} {K:Act->World->Prop}
end
end
section
section
variable {P:Program} {C:Ctx} {nt:Nat} {L:Lay} {ops:Array Oper} {ds:List Dir} {e:Env} {s:Sto} {k:Nat}
end
end
section
section
variable {P:Program} {C:Ctx} {nt:Nat} {L:Lay} {ops:Array Oper} {ds:List Dir} {e:Env} {s:Sto}
end
end
section
def bOf (m:Int):ByteArray:=ByteArray.empty.push (UInt8.ofNat m.toNat)
section
variable {P:Program} {C:Ctx} {nt:Nat} {L:Lay} {ops:Array Oper} {ds:List Dir} {e:Env} {s:Sto}
theorem Z8n {k:Nat} {t t' : TypeId} {x y:Operand} {a b:ByteArray} (hk:Q2g ds k=sE (.v (.c (.d (.str (a++b)))))) (hop:(Y8 ops.toList k).op=.binOp .add t x y t') (hb:Y1a ops nt (W7 L ops ops.toList ds e s k) (Y8 ops.toList k) x y=true)
  (hx:aev (W7 L ops ops.toList ds e s k) x=.v (.c (.d (.str a)))) (hy:aev (W7 L ops ops.toList ds e s k) y=.v (.c (.d (.str b)))) (hc:a.size+b.size<=LIM):KAt P C nt L ops ds e s k:=by
 unfold KAt;rw [hk]
 simp only [Y1a,Bool.and_eq_true,beq_iff_eq] at hb;obtain ⟨⟨⟨o,m⟩,l⟩,q⟩:=hb
 refine Z0S rfl l q fun R η u r z w g f=>?_
 have i:=(W3 f x).1;rw [J2 g o,hx] at i
 have i:=Z3j i;have h:=(W3 f y).1
 rw [J2 g m,hy] at h;have h:=Z3j h
 have j:¬ (((a.size+b.size:Nat):Int) > IntKind.i64.max):=by
  have:IntKind.i64.max=9223372036854775807:=rfl
  rw [this];unfold LIM at hc;omega
 refine ⟨.string (a++b),?_,.v _ _ (.c _ _ (.d _ _ (.str _)))⟩;have p:(eqGuard .add t x y (.string a) (.string b)).run P w=.ok () w:=Z3K _ _ _ _ _ _ _
 have n:(binOp .add t (.string a) (.string b)).run P w=.ok (.string (a++b)) w:=by
  show (Op.stringOp .add a b).run P w=_;simp only [Op.stringOp]
  rw [if_neg j];rfl
 simp only [execOp,hop,Sem.run_bind,i,h,p,n,Result.andThen_ok,Sem.run_pure]
theorem Y0j {k:Nat} {src dst el:TypeId} (hs:P.underlying src=some (.slice el)) (he:P.underlying el=some (.int .u8)) (hd:P.underlying dst=some .string) {x:Operand} {m:Int} (hk:Q2g ds k=sE (.v (.c (.d (.str (bOf m))))))
  (hop:(Y8 ops.toList k).op=.convert src dst x) (hb:Y1a ops nt (W7 L ops ops.toList ds e s k) (Y8 ops.toList k) x x=true)
  (hx:aev (W7 L ops ops.toList ds e s k) x=.v (.c (.d (.lst 1 (Z0n 1 [.int .u8 m]))))):KAt P C nt L ops ds e s k:=by
 unfold KAt;rw [hk]
 simp only [Y1a,Bool.and_eq_true,beq_iff_eq] at hb;obtain ⟨⟨⟨B,J⟩,G⟩,t⟩:=hb
 refine Z0S rfl G t fun R η p H r w l i=>?_
 have g:=(W3 i x).1;rw [J2 l B,hx] at g
 generalize hu:r.eval x=u at g
 cases g with|v _ _ g=>cases g with|c _ _ g=>cases g with|d _ _ g=>
 cases g with|lst b off n cap c e' fz f es hX hheap hn ho hf hd' =>
 have A:=hf 0 (by omega);have o:es=1:=by rw [<-A];rfl
 subst o;have h:=hd' 0 0 (by omega) (by omega)
 have D:c.getD off undef=.int .u8 m:=by
  have p:off+(0*1+0)=off:=by omega
  rw [p] at h;have z:(Z0n 1 [DVal.int .u8 m] 0).getD 0 .any=.int .u8 m:=rfl
  rw [z] at h;generalize c.getD off undef=u at h ⊢
  cases h;rfl
 have q:=run_loadCells (P:=P) w ⟨b,off,none⟩ 1 (fun j=>c.getD (off+j) undef) (fun j I=>by rw [add_lit];exact Z8g hheap _ (by omega));refine ⟨.string (bOf m),?_,.v _ _ (.c _ _ (.d _ _ (.str _)))⟩
 have F:c[off]?.getD undef=.int .u8 m:=by rw [<-D];simp
 simp [execOp,hop,hu,convert,run_underlying hs,run_underlying hd,run_underlying he,Conv.bytesToString,q,F,bOf]
end
end
section
def eK (ks:List Nat) (E:List (Nat×AVal)) (n:List (Nat×AVal)):List (Nat×AVal):=ks.map (fun t=>(t,lk E t))++n
def sK (ks:List Nat) (S:List (Nat×Obj)) (n:List (Nat×Obj)):List (Nat×Obj):=ks.map (fun i=>(i,(ls S i).getD (.box false [])))++n
section
variable {P:Program} {C:Ctx} {nt:Nat} {L:Lay} {pins:List Nat} {E:List (Nat×AVal)} {S:List (Nat×Obj)} {Q:Exit->Act->World->Prop}
abbrev ckL (P:Program) (C:Ctx) (nt:Nat) (L:Lay) (pins:List Nat) (E:List (Nat×AVal)) (S:List (Nat×Obj)) (ops:Array Oper) (draw:Bool) (ds:List Dir) (E' : List (Nat×AVal)) (S' : List (Nat×Obj)):Bool×Prop×List AVal×List (Option Obj):=
 (Z6c L pins nt ops draw ds E S [] S',Q7m P C nt L ops ops.toList ds (lk E) (ls S),E'.map (fun p=>Z2j ops.toList (Q1o L ops ops.toList ds (lk E) (ls S)) (lk E) p.1),S'.map (fun p=>Z2i (Q1o L ops ops.toList ds (lk E) (ls S)) (ls S) (V3 [] p.1)))
abbrev ckR (q:Prop) (E' : List (Nat×AVal)) (S' : List (Nat×Obj)):Bool×Prop×List AVal×List (Option Obj):=(true,q,E'.map (fun p=>p.2.ren (V3 [])),S'.map (fun p=>some (p.2.ren (V3 []))))
variable {id:Nat} {ops:Array Oper} {draw:Bool} {y:Code}
theorem Q5 (Fm:Fr P L C pins) (ds:List Dir) (c:(Nat->Prop)->Prop) (kE:List Nat) (nE:List (Nat×AVal)) (kS:List Nat) (nS:List (Nat×Obj)) (hc:c (KAt P C nt L ops ds (lk E) (ls S))) (k:Kn C nt (eK kE E nE) (sK kS S nS) (Q .normal))
  (h:ckL P C nt L pins E S ops draw ds (eK kE E nE) (sK kS S nS)=ckR (c (KAt P C nt L ops ds (lk E) (ls S))) (eK kE E nE) (sK kS S nS):=by kernel_rfl):AW P C nt (.region id ops draw) E S Q:=AW.g Fm ds c _ _ hc h k
theorem Q1K (Fm:Fr P L C pins) (ds:List Dir) (c:(Nat->Prop)->Prop) (kE:List Nat) (nE:List (Nat×AVal)) (kS:List Nat) (nS:List (Nat×Obj)) (hc:c (KAt P C nt L ops ds (lk E) (ls S))) (k:AW P C nt y (eK kE E nE) (sK kS S nS) Q)
  (h:ckL P C nt L pins E S ops draw ds (eK kE E nE) (sK kS S nS)=ckR (c (KAt P C nt L ops ds (lk E) (ls S))) (eK kE E nE) (sK kS S nS):=by kernel_rfl):AW P C nt (.seq (.region id ops draw) y) E S Q:=Y9c Fm ds c _ _ hc h k
theorem Q8u (Fm:Fr P L C pins) (n:Nat) (kE:List Nat) (nE:List (Nat×AVal)) (kS:List Nat) (nS:List (Nat×Obj)) (k:Kn C nt (eK kE E nE) (sK kS S nS) (Q .normal))
  (h:ckL P C nt L pins E S ops draw (ss n) (eK kE E nE) (sK kS S nS)=ckR True (eK kE E nE) (sK kS S nS):=by kernel_rfl):AW P C nt (.region id ops draw) E S Q:=W0y Fm n _ _ h k
theorem Q0 (Fm:Fr P L C pins) (n:Nat) (kE:List Nat) (nE:List (Nat×AVal)) (kS:List Nat) (nS:List (Nat×Obj)) (k:AW P C nt y (eK kE E nE) (sK kS S nS) Q)
  (h:ckL P C nt L pins E S ops draw (ss n) (eK kE E nE) (sK kS S nS)=ckR True (eK kE E nE) (sK kS S nS):=by kernel_rfl):AW P C nt (.seq (.region id ops draw) y) E S Q:=Y9b Fm n _ _ h k
theorem Z1C (Fm:Fr P L C pins) (ds:List Dir) (c:(Nat->Prop)->Prop) (kE:List Nat) (nE:List (Nat×AVal)) (kS:List Nat) (nS:List (Nat×Obj)) (hc:c (KAt P C nt L ops ds (lk E) (ls S))) (W:List (Nat×Obj)) (hW:FW W (sK kS S nS)) (k:Kn C nt (eK kE E nE) (sK kS S nS) (Q .normal))
  (h:ckL P C nt L pins E S ops draw ds (eK kE E nE) (ov W (sK kS S nS))=ckR (c (KAt P C nt L ops ds (lk E) (ls S))) (eK kE E nE) (ov W (sK kS S nS)):=by kernel_rfl):AW P C nt (.region id ops draw) E S Q:=Y9f Fm ds c _ _ hc W hW k h
theorem y8 (Fm:Fr P L C pins) (ds:List Dir) (c:(Nat->Prop)->Prop) (kE:List Nat) (nE:List (Nat×AVal)) (kS:List Nat) (nS:List (Nat×Obj)) (hc:c (KAt P C nt L ops ds (lk E) (ls S))) (W:List (Nat×Obj)) (hW:FW W (sK kS S nS)) (k:AW P C nt y (eK kE E nE) (sK kS S nS) Q)
  (h:ckL P C nt L pins E S ops draw ds (eK kE E nE) (ov W (sK kS S nS))=ckR (c (KAt P C nt L ops ds (lk E) (ls S))) (eK kE E nE) (ov W (sK kS S nS)):=by kernel_rfl):AW P C nt (.seq (.region id ops draw) y) E S Q:=W0z Fm ds c _ _ hc W hW k h
theorem Q1 (Fm:Fr P L C pins) (ds:List Dir) (kE:List Nat) (nE:List (Nat×AVal)) (kS:List Nat) (nS:List (Nat×Obj)) {q:Prop} (hc:q) (k:Kn C nt (eK kE E nE) (sK kS S nS) (Q .normal))
  (h:ckL P C nt L pins E S ops draw ds (eK kE E nE) (sK kS S nS)=ckR q (eK kE E nE) (sK kS S nS):=by kernel_rfl):AW P C nt (.region id ops draw) E S Q:=Y9d Fm ds _ _ hc k h
theorem Y4 (Fm:Fr P L C pins) (ds:List Dir) (kE:List Nat) (nE:List (Nat×AVal)) (kS:List Nat) (nS:List (Nat×Obj)) {q:Prop} (hc:q) (k:AW P C nt y (eK kE E nE) (sK kS S nS) Q)
  (h:ckL P C nt L pins E S ops draw ds (eK kE E nE) (sK kS S nS)=ckR q (eK kE E nE) (sK kS S nS):=by kernel_rfl):AW P C nt (.seq (.region id ops draw) y) E S Q:=W1v Fm ds _ _ hc k h
theorem Q2h (Fm:Fr P L C pins) (ds:List Dir) (kE:List Nat) (nE:List (Nat×AVal)) (kS:List Nat) (nS:List (Nat×Obj)) {q:Prop} (hc:q) (W:List (Nat×Obj)) (hW:FW W (sK kS S nS)) (k:Kn C nt (eK kE E nE) (sK kS S nS) (Q .normal))
  (h:ckL P C nt L pins E S ops draw ds (eK kE E nE) (ov W (sK kS S nS))=ckR q (eK kE E nE) (ov W (sK kS S nS)):=by kernel_rfl):AW P C nt (.region id ops draw) E S Q:=W1t Fm ds _ _ hc W hW k h
theorem Z0q (Fm:Fr P L C pins) (ds:List Dir) (kE:List Nat) (nE:List (Nat×AVal)) (kS:List Nat) (nS:List (Nat×Obj)) {q:Prop} (hc:q) (W:List (Nat×Obj)) (hW:FW W (sK kS S nS)) (k:AW P C nt y (eK kE E nE) (sK kS S nS) Q)
  (h:ckL P C nt L pins E S ops draw ds (eK kE E nE) (ov W (sK kS S nS))=ckR q (eK kE E nE) (ov W (sK kS S nS)):=by kernel_rfl):AW P C nt (.seq (.region id ops draw) y) E S Q:=W1u Fm ds _ _ hc W hW k h
theorem Q6 {σ R:Type} {r:R} {x:Code} (f:σ->Option R) (kE:List Nat) (nE:σ->List (Nat×AVal)) (kS:List Nat) (nS:σ->List (Nat×Obj)) (hy:∀ z,f z=some r->AW P C nt y (eK kE E (nE z)) (sK kS S (nS z)) Q)
  (hx:∀ J:Act->World->Prop,(∀ z,f z=some r->Kn C nt (eK kE E (nE z)) (sK kS S (nS z)) J)->AW P C nt x E S (Exit.then J Q)):AW P C nt (.seq x y) E S Q:=Y6y f _ _ hy hx
theorem W1s {x y:Code} (k:AW P C nt y E S Q):AW P C nt (.cond (.const (.bool false)) x y) E S Q:=fun R η a w b=>wp_cond_false rfl (k R η a w b)
end
theorem eI {k:IntKind} {e v:Int} (h:some e=some v):ALe (.v (.c (.d (.int k e)))) (.v (.c (.d (.int k v)))):=by cases h;exact ALe.refl _
section
variable {α:Type} [Emb α]
def rSt (l:List α) (i off:Nat) (ds:List DVal):Obj:=.arr (Emb.es α) l.length fun j=>if j=i then Q4z (LF l i) off ds else LF l j
def rAp (l m:List α):Obj:=.arr (Emb.es α) (l.length+m.length) (Q5w l.length (LF l) (LF m))
def rA0 (m:List α):Obj:=.arr (Emb.es α) (0+m.length) (Q5w 0 (fun _=>[]) (LF m))
theorem oSt {l:List α} {i off:Nat} {ds:List DVal} {y:α} (hi:i<l.length) (hy:Q4z (LF l i) off ds=Emb.cells y:=by kernel_rfl):OLe (rSt l i off ds) (AO (l.set i y)):=OLe.is (Is.set (Is.refl l) hi y hy)
theorem oAp {l m:List α}:OLe (rAp l m) (AO (l++m)):=OLe.is (Is.app (Is.refl l) (Is.refl m))
theorem oA0 {m:List α}:OLe (rA0 m) (AO ([]++m)):=OLe.is (Is.app Is.nil (Is.refl m))
theorem lfl (l:List α):∀ j,j<l.length->(LF l j).length=Emb.es α:=(Is.refl l).len
theorem Q8h (x:α):ALe (.v (.c (.d (.lst 1 (Z0n (Emb.es α) (Emb.cells x)))))) (AL [x]):=ALe.lst (.lit [x] (by
 show [Z0n (Emb.es α) (Emb.cells x) 0]=[Emb.cells x];unfold Z0n
 have:=Emb.len x
 rw [Nat.zero_mul,List.drop_zero,List.take_of_length_le (by omega)]))
end
end
section
section
variable {P:Program} {C:Ctx} {nt:Nat} {L:Lay} {ops:Array Oper} {ds:List Dir} {e:Env} {s:Sto}
theorem Y8X {k:Nat} {x y z:Operand} {tys:Array TypeId} {a b c:Int} (hk:Q2g ds k=sE (vi (Q0B (Q0B a b) c))) (hop:(Y8 ops.toList k).op=.call { callee:=.builtin .max,args:= #[x,y,z],argTypes:=tys })
  (hb:Y1a ops nt (W7 L ops ops.toList ds e s k) (Y8 ops.toList k) x y=true) (hb2:Y1a ops nt (W7 L ops ops.toList ds e s k) (Y8 ops.toList k) z z=true)
  (hx:aev (W7 L ops ops.toList ds e s k) x=vi a) (hy:aev (W7 L ops ops.toList ds e s k) y=vi b) (hz:aev (W7 L ops ops.toList ds e s k) z=vi c):KAt P C nt L ops ds e s k:=by
 unfold KAt;rw [hk]
 simp only [Y1a,Bool.and_eq_true,beq_iff_eq] at hb hb2;obtain ⟨⟨⟨l,j⟩,o⟩,n⟩:=hb
 obtain ⟨⟨⟨m,_⟩,_⟩,_⟩:=hb2;refine Z0S rfl o n fun R η q p r w f d=>?_
 have i:=(W3 d x).1;rw [J2 f l,hx] at i
 have i:=Q5M i;have h:=(W3 d y).1
 rw [J2 f j,hy] at h;have h:=Q5M h
 have g:=(W3 d z).1;rw [J2 f m,hz] at g
 have g:=Q5M g;refine ⟨.int .i64 (Q0B (Q0B a b) c),?_,Q4S _ _ _⟩
 simp [execOp,hop,resolve,invoke,builtin,Builtin.max_,Builtin.max2,i,h,g,Q0B]
 rfl
end
section
variable {P:Program} {C:Ctx} {nt:Nat} {E:List (Nat×AVal)} {S:List (Nat×Obj)} {Q:Exit->Act->World->Prop}
theorem AW.rounds {c:Code} (n:Nat) (h:AW P C nt c E S (Exit.then (fun a w=>Code.rounds P c Q n a w) Q)):AW P C nt (.loop c) E S Q:=fun R η a w b=>wp_loop_rounds (n+1) (h R η a w b)
theorem Y1G {c:Code} {n:Nat} (h:AW P C nt c E S (Exit.then (fun a w=>Code.rounds P c Q n a w) Q)):Kn C nt E S (fun a w=>Code.rounds P c Q (n+1) a w):=fun R η a w b=>h R η a w b
end
end
section
@[reducible] def gn {α:Type} [Emb α] (l:List α) (i:Int):α:=gl l i.toNat
@[reducible] def nn {σ β:Type}:σ->List β:=fun _=>[]
@[reducible] def f0:CV:=.fl 0 fun _=>[]
@[reducible] def k1 (i:Nat) (K:Nat->Prop):Prop:=K i/\True
@[reducible] def k2 (i j:Nat) (K:Nat->Prop):Prop:=K i/\K j/\True
section
variable {P:Program} {C:Ctx} {nt:Nat} {L:Lay} {pins:List Nat} {E:List (Nat×AVal)} {S:List (Nat×Obj)} {Q:Exit->Act->World->Prop}
theorem Z2 (Fm:Fr P L C pins) {fn:Func} {R:Type} {a r:R} (h:some a=some r) {g:R->AVal} {G:R->List (Nat×Obj)} (hQ:Q .ret=Y4T P fn C (g r) (G r) .ret:=by rfl) (hq:(Y6I L (lk E) (ls S) fn.results.toList,(G a).map (fun p=>ls S p.1))=(some (g a),(G a).map (fun p=>some p.2)):=by kernel_rfl):AW P C nt .ret E S Q:=by
 cases h
 exact AW.ret (hQ ▸ Q3b Fm hq)
variable {K:Act->World->Prop}
theorem Kn.w (Fm:Fr P L C pins) (E' : List (Nat×AVal)) (S' : List (Nat×Obj)) (h:Kn C nt E' S' K)
  (hq:(pins.all (fun i=>V3 [] i==i),E'.map (fun p=>lk E p.1),S'.map (fun p=>ls S (V3 [] p.1)),Q3n (S'.map fun p=>V3 [] p.1))=(true,E'.map (fun p=>p.2.ren (V3 [])),S'.map (fun p=>some (p.2.ren (V3 []))),true):=by kernel_rfl):Kn C nt E S K:=W1p Fm E' S' hq h
theorem Q1F {k es n:Nat} {f:Nat->List DVal} (E' : List (Nat×AVal)) (S' : List (Nat×Obj)) (h:Kn C nt E' S' K)
  (hq:(E.map (fun p=>(p.1,p.2.frz k n f)),S.map (fun p=>(p.1,p.2.frz k n f)),(S.map (·.1)).contains k)=(E',S',false):=by kernel_rfl):Kn C nt E ((k,.arr es n f)::S) K:=Kn.frz E' S' (congrArg (·.1) hq) (congrArg (·.2.1) hq) (congrArg (·.2.2) hq) h
theorem Q2P (Fm:Fr P L C pins) (ρ:List (Nat×Nat)) (E' : List (Nat×AVal)) (S' : List (Nat×Obj)) (h:Kn C nt E' S' K)
  (hq:(pins.all (fun i=>V3 ρ i==i),E'.map (fun p=>lk E p.1),S'.map (fun p=>ls S (V3 ρ p.1)),Q3n (S'.map fun p=>V3 ρ p.1))=(true,E'.map (fun p=>p.2.ren (V3 ρ)),S'.map (fun p=>some (p.2.ren (V3 ρ))),true):=by kernel_rfl):Kn C nt E S K:=
 Kn.re Fm ρ E' S' (congrArg (·.1) hq) (congrArg (·.2.1) hq) (congrArg (·.2.2.1) hq) (congrArg (·.2.2.2) hq) h
end
section
variable {P:Program} {C:Ctx} {nt:Nat} {L:Lay} {ops:Array Oper} {ds:List Dir} {e:Env} {s:Sto}
theorem KAt.cX {k:Nat} {f:Nat} {args:List AVal} {Si:List (Nat×Obj)} {r:AVal} {So:List (Nat×Obj)} (hspec:Q7 P f args Si r So) (hcall:∀ args w,(callFunc f args).run P w=.ok (.enter f args) w) (m:List (Nat×Nat)) (extra:List Nat) (xs:List Operand)
  (hargs:Z5v C nt (W7 L ops ops.toList ds e s k) (Q2p L ops ops.toList ds e s k) Si (V3 m) (Q0h (Y8 ops.toList k)++V6 ops (Y8 ops.toList k)) (Z1M (W7 L ops ops.toList ds e s k) (Y8 ops.toList k)++(Si.map (fun p=>V3 m p.1)++extra)) xs args)
  (hk:Q2g ds k=cE m extra r Si So:=by rfl) (hq:(Go.Ab.callB ops nt (W7 L ops ops.toList ds e s k) (Y8 ops.toList k) f m r Si So,Si.map (fun p=>Q2p L ops ops.toList ds e s k (V3 m p.1)),(Go.Ab.callXs (Y8 ops.toList k)).toList)=(true,Si.map (fun p=>some (p.2.ren (V3 m))),xs):=by kernel_rfl):KAt P C nt L ops ds e s k:=
 Y7l hspec hcall m extra xs hk (congrArg (·.1) hq) (congrArg (·.2.1) hq) (congrArg (·.2.2) hq) hargs
theorem y7.cX {f:Nat} (hcall:∀ args w,(callFunc f args).run P w=.ok (.enter f args) w) {F:List AVal->AVal->Prop} (cs:List (List CV)) (hspec:∀ args r,F args r->Q7 P f (args++Z7i cs) (Q9R cs) r (Q9R cs)/\r.closed=true)
  {Si:List (Nat×Obj)} {m:Nat->Nat} {rd ids:List Nat} {x:Operand} (cids:List Nat) (hbox:Y8I s cids cs)
  (hx:Q5G rd x=true:=by kernel_rfl) (hv:aev e x=.v (.c (.clo f cids)):=by kernel_rfl) (hnd:(Q3n cids&&cs.all (fun c=>c.all CV.closed)&&cids.all (fun i=>ids.contains i))=true:=by kernel_rfl)
  (hsi:siB s Si m ids cids=true:=by kernel_rfl):y7 C nt e s Si m rd ids x (Z4o P F):=y7.cloX hcall cs (fun a r h=>(hspec a r h).1) (fun a r h=>(hspec a r h).2) hx cids hv hnd hbox hsi
end
end
end
end Go.Ab
