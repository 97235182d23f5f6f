/- Abstract states over the model. -/
import Derived.Test.YtgfmopdbhjcpfaaGreatAbB
import Derived.Test.YtgfmopdbhjcpfaaGreatPuA
import Derived.Sort.AssemblyPlain
import Derived.Lib.BitFns
import Derived.Shelf.SortM.Plain
import Derived.Shelf.SortM.SortNone
import Derived.Shelf.SlSortCmp.WholeK
import Derived.Shelf.SlSortCmp.NoneTotal
import Derived.WalkKit
import Derived.ProofKit
import Derived.OpenShut
import Derived.Carry
import Derived.ChangeSame
import Derived.ChangeSlices
import Derived.Laws.Small
import Derived.Laws.Entries
import Derived.Shelf.Spec.SlicesGrow
import Derived.Deep.Slices
import Derived.ChangeArms
import Derived.Maps.Own
import Derived.Lib.SlKeysI
import Derived.Shelf.SlIterI.Nil
import Derived.Maps.RangeRun
import Derived.Laws.IdiomRangeMap
import Derived.ChangeKeysEq
import Derived.LoopN
set_option linter.unusedVariables false
set_option linter.unusedSimpArgs false
namespace Go.Ab
noncomputable section
section
section
variable {α:Type} [Emb α]
def clr (l:List α) (lo n:Nat):List α:=(List.range l.length).map fun i=>if lo<=i/\i<lo+n then Emb.d else gl l i
theorem Is.of_gl {f:Nat->List DVal} {N:Nat} (l:List α) (h:l.length=N) (hf:∀ i,i<N->f i=Emb.cells (gl l i)):Is N f l:=by
 subst h;refine ⟨rfl,fun i a=>?_⟩
 rw [hf i a];rfl
theorem Y3t (N:Nat) (f:Nat->α) (i:Nat) (h:i<N):gl ((List.range N).map f) i=f i:=by simp [gl,List.getD_eq_getElem?_getD,h]
theorem Is.clr {l:List α} (lo n:Nat) {zd:List DVal} (hz:zd=Emb.cells (Emb.d:α)):Is l.length (fun i=>if lo<=i/\i<lo+n then (fun _=>zd) (i-lo) else LF l i) (clr l lo n):=by
 refine Is.of_gl _ (by simp [Go.Ab.clr]) fun i a=>?_
 rw [Go.Ab.clr,Y3t _ _ _ a]
 by_cases h:lo<=i/\i<lo+n
 ·rw [if_pos h,if_pos h,hz]
 ·rw [if_neg h,if_neg h];rfl
end
end
section
open Go.Sort
def Z6s (l:List Int):Option (List Int):=if l.length<=LIM then some (l.mergeSort fun x y=>decide (x<=y)) else none
theorem Y4R {l r:List Int} (h:Z6s l=some r):l.length<=LIM/\r=l.mergeSort fun x y=>decide (x<=y):=by
 unfold Z6s at h;split at h
 ·cases h;exact ⟨‹_›,rfl⟩
 ·cases h
def ltC {α:Type} (cf:α->α->Int) (x y:α):Bool:=decide (cf x y<0)
section
variable {α:Type} [Emb α]
def Q8X (cf:α->α->Int) (l:List α):List α:=(@pdq α ⟨Emb.d⟩ (ltC cf) l.toArray 0 l.length (Lib.bitLen l.length) true true).toList
open Classical in
noncomputable def Z9x (l:List α) (q:α->α->Option Int):Option (List α):=
 if h:l.length<=LIM/\∃ cf:α->α->Int,SWO (ltC cf)/\∀ x y,q x y=some (cf x y) then some (Q8X h.2.choose l) else none
theorem Y7P {l:List α} {q:α->α->Option Int} (cf:α->α->Int) (hl:l.length<=LIM) (hO:SWO (ltC cf)) (hq:∀ x y,q x y=some (cf x y)):Z9x l q=some (Q8X cf l):=by
 have h:l.length<=LIM/\∃ cf:α->α->Int,SWO (ltC cf)/\∀ x y,q x y=some (cf x y):=⟨hl,cf,hO,hq⟩;unfold Z9x
 rw [dif_pos h];have e:h.2.choose=cf:=by
  funext x y
  have:=(h.2.choose_spec.2 x y).symm.trans (hq x y)
  exact Option.some.inj this
 rw [e]
theorem Y4T {l r:List α} {q:α->α->Option Int} (h:Z9x l q=some r):l.length<=LIM/\∃ cf:α->α->Int,SWO (ltC cf)/\(∀ x y,q x y=some (cf x y))/\r=Q8X cf l:=by
 unfold Z9x at h;split at h
 ·rename_i a
  cases h
  exact ⟨a.1,a.2.choose,a.2.choose_spec.1,a.2.choose_spec.2,rfl⟩
 ·cases h
end
section
variable {α:Type}
end
def Z9G {α:Type} (n:Int):Option (List α):=if 0<=n/\n<=LIM then some [] else none
end
section
open Go.Sort Go.Proofs Go.Shelf
theorem Z9C {α:Type} [Inhabited α] (enc:α->Value) (w:World) (b off n:Nat) (d:Array α) (os:Array Go.Obj) {c:Array Value} {e:TypeId} {fz:Nat×Nat} (hb:w.heap[b]?=some (.cells c e fz)) :
  (grow (putRow enc (Go.Sort.ahead w n) b off d) os).heap[b]?=some (.cells (putCells enc off d c) e fz):=by
 have a:b<w.heap.size:=K8 hb;unfold grow
 rw [Array.getElem?_append];rw [if_pos (by simpa using a)]
 unfold putRow mapBlock;simp only [Array.getElem?_modify,if_true]
 show Option.map _ (w.heap[b]?)=_;rw [hb]
 rfl
theorem Z7c {α:Type} [Inhabited α] (enc:α->Value) (w:World) (b off n:Nat) (d:Array α) (os:Array Go.Obj):Stp (fun x=>x=b) w (grow (putRow enc (Go.Sort.ahead w n) b off d) os):=by
 refine ⟨rfl,rfl,rfl,by simp [Go.Sort.ahead],fun x c a=>?_,Nat.le_add_right _ _⟩;unfold grow
 rw [Array.getElem?_append];rw [if_pos (by simpa [Go.Sort.ahead] using c)]
 unfold putRow mapBlock;simp only [Array.getElem?_modify]
 rw [if_neg (Ne.symm a)];rfl
theorem Z4D {α:Type} [Inhabited α] (enc:α->Value) (off:Nat) (d:Array α) (c:Array Value):(putCells enc off d c).size=c.size:=by simp [putCells]
theorem Z6J {α:Type} [Inhabited α] (enc:α->Value) (d:Array α) (c:Array Value) (j:Nat) (hj:j<d.size) (hs:d.size<=c.size):(putCells enc 0 d c).getD j undef=enc d[j]! := by
 have a:j<c.size:=by omega
 simp [putCells,a,hj]
theorem Y9m (l:List Int) (i:Nat):LF l i=[.int .i64 (l.getD i 0)]:=rfl
theorem Y1H {w w' : World} {X:Nat->Prop} {η:Nat->Value} {α:Type} [Emb α] {l r:List α} {b n cap:Nat} {c' : Array Value} {e:TypeId} (hη:η 0=.slice (some ⟨b,0,none⟩) n cap) (h0:0<cap)
  (hstp:Stp (fun x=>x=b) w w') (hh:w'.heap[b]?=some (.cells c' e (0,0))) (hs:c'.size=cap*Emb.es α) (hr:r.length=n) (hn:n<=cap) (hm:cap<=maxLen)
  (hd:∀ i j,i<n->j<Emb.es α->DRep w' X (c'.getD (i*Emb.es α+j) undef) ((LF r i).getD j .any)) (hX:∀ x,X x->x<w.heap.size) (hXb:X b) :
  Behind (J4 [(0,AO l)] w X η) .any [(0,AO r)] (.tuple #[]) η w':=by
 subst hr;have d:∀ x,x ∈ Y5 (η 0)↔x=b:=by intro x;rw [hη];simp [Y5];omega
 have c:∀ i o,ls [(0,AO (α:=α) r)] i=some o->i=0/\o=AO r:=by
  intro i o a;rw [U5] at a
  by_cases h:i=0
  ·rw [if_pos h] at a;cases a;exact ⟨h,rfl⟩
  ·rw [if_neg h] at a;cases a
 have p:∀ x,x=b->(J4 [(0,AO (α:=α) l)] w X η).M x:=by
  rintro x rfl;exact ⟨0,AO l,by rw [U5,if_pos rfl],rfl,(d _).2 rfl⟩
 have k:∀ x,XS (J4 [(0,AO (α:=α) l)] w X η) (ls [(0,AO (α:=α) r)]) η x->X x:=by
  rintro x (⟨g,_⟩|⟨i,o,a,hib⟩)
  ·exact g
  ·obtain ⟨rfl,_⟩:=c i o a
   rw [(d x).1 hib];exact hXb
 refine ⟨hstp.mono fun x _ g=>p x g,.any _,fun i o a=>?_,fun i j x a f _ _=>?_,fun i o x a q=>?_,fun i v a=>?_⟩
 ·obtain ⟨rfl,rfl⟩:=c i o a
  rw [hη];refine .arr b _ cap _ c' e _ hh hs hn hm h0 (Is.refl r).len fun i j a f=>?_
  exact (hd i j a f).mono fun x _ g=>⟨rfl,fun m=>g (k x m)⟩
 ·obtain ⟨t,a⟩:=Option.ne_none_iff_exists'.1 a
  obtain ⟨s,f⟩:=Option.ne_none_iff_exists'.1 f;rw [(c i t a).1,(c j s f).1]
 ·obtain ⟨rfl,rfl⟩:=c i o a
  exact .inr (.inl (p x ((d x).1 q)))
 ·change (if ((List.lookup i [(0,AO (α:=α) l)]).isSome=true) then some (η i) else none)=some v at a
  split at a
  ·cases a;rfl
  ·cases a
theorem Z9J {w:World} {X:Nat->Prop} {η:Nat->Value} {α:Type} [Emb α] {l:List α} {ad:Option Addr} (hη:η 0=.slice ad 0 0) (hX:∀ x,X x->x<w.heap.size) :
  Behind (J4 [(0,AO l)] w X η) .any [(0,AO ([]:List α))] (.tuple #[]) η w:=by
 have c:∀ x,x ∉ Y5 (η 0):=by intro x;rw [hη];cases ad <;> simp [Y5]
 have b:∀ i o,ls [(0,AO ([]:List α))] i=some o->i=0/\o=AO ([]:List α):=by
  intro i o a;rw [U5] at a
  by_cases h:i=0
  ·rw [if_pos h] at a;cases a;exact ⟨h,rfl⟩
  ·rw [if_neg h] at a;cases a
 refine ⟨Stp.refl _ _,.any _,fun i o a=>?_,fun i j x a d _ _=>?_,fun i o x a f=>?_,fun i v a=>?_⟩
 ·obtain ⟨rfl,rfl⟩:=b i o a
  rw [hη];exact .nil _ _ _
 ·obtain ⟨e,a⟩:=Option.ne_none_iff_exists'.1 a
  obtain ⟨g,d⟩:=Option.ne_none_iff_exists'.1 d;rw [(b i e a).1,(b j g d).1]
 ·obtain ⟨rfl,rfl⟩:=b i o a
  exact absurd f (c x)
 ·change (if ((List.lookup i [(0,AO (α:=α) l)]).isSome=true) then some (η i) else none)=some v at a
  split at a
  ·cases a;rfl
  ·cases a
theorem W0V {vs:Array Value} (h:vs.size=1):vs=#[vs.getD 0 undef]:=by
 apply Array.ext
 ·simpa using h
 ·intro i a b
  have:i=0:=by omega
  subst this;simp [a]
theorem Y7F {vs:Array Value} (h:vs.size=2):vs=#[vs.getD 0 undef,vs.getD 1 undef]:=by
 apply Array.ext
 ·simpa using h
 ·intro i a b
  have:i=0\/i=1:=by omega
  rcases this with rfl|rfl <;> simp [a]
theorem Y3L {P:Program} {ρ:Ren} (Ly:SlLaysM.n5 P ρ) {x r:List Int} (h:Z6s x=some r):Q7 P (ρ.f 5) [.v (.c (.own 0))] [(0,AO (α:=Int) x)] .any [(0,AO (α:=Int) r)]:=by
 obtain ⟨Q,rfl⟩:=Y4R h;intro w X η K L k z T d m
 have d:K.size=1:=d;have J:K.getD 0 undef=η 0:=Q6I (C:=J4 [(0,AO (α:=Int) x)] w X η) (s:=ls [(0,AO (α:=Int) x)]) (by have:=m 0 (by simp);rw [Y0j k];exact this)
 rw [W0V d,J];have A:=z 0 (AO x) (by rw [U5,if_pos rfl])
 have E:∀ b,b ∈ Y5 (η 0)->X b:=fun b H=>k b ⟨0,_,by rw [U5,if_pos rfl],H⟩
 generalize hu:η 0=u at A;unfold AO at A
 generalize hn:x.length=n at A
 cases A with
 | nil ad=>
  have N:x=[]:=List.eq_nil_of_length_eq_zero hn;refine (AnyM.slices_Sort_int_none Ly ad 0 w).mono fun e R F=>?_
  obtain ⟨O,G⟩:=F;refine ⟨_,η,O,?_⟩
  rw [G];have H:=Z9J (w:=w) (X:=X) (l:=x) hu L
  subst N;simpa using H
 | arr b _ cap _ c e _ h1 h2 h3 h4 h5 h6 h7=>
  have g:Emb.es Int=1:=rfl
  rename_i n
  have o:∀ j,j<n->c.getD j undef=.int .i64 (x.getD j 0):=by
   intro j p;have:=h7 j 0 p (by rw [g];omega)
   rw [g,Nat.mul_one,Nat.add_zero,Y9m] at this;have M:DRep w X (c.getD j undef) (.int .i64 (x.getD j 0)):=this
   generalize c.getD j undef=u at M
   cases M;rfl
  have W:c.size=cap:=by rw [h2,g,Nat.mul_one]
  have U:Holds (Value.int .i64) w b 0 x.toArray:=by
   intro j p;have B : j<n:=by simpa [hn] using p
   have I:j<x.length:=by omega
   have t:j<c.size:=by omega
   refine ⟨?_,by simp [World.frozen?,h1]⟩;have:=o j B
   simp only [Nat.zero_add,World.cell?,h1,Option.isSome_none,Bool.false_eq_true,if_false];simp only [t,Array.getD,dite_true] at this
   rw [Array.getElem?_eq_getElem t];congr 1
   refine Eq.trans this ?_;simp [I]
  rw [<-hn];refine ((AnyM.slices_Sort_int Ly b 0 cap x w U (K8 h1) (by simp only [LIM] at Q;omega)).mono fun Z R F=>?_)
  ·obtain ⟨rfl,q,Y,G⟩:=F
   subst G;refine ⟨_,η,rfl,?_⟩
   have a:(x.mergeSort fun x y=>decide (x<=y)).length=n:=by rw [List.length_mergeSort];exact hn
   refine Y1H (c':=putCells (Value.int .i64) 0 (x.mergeSort fun x y=>decide (x<=y)).toArray c) (e:=e) (b:=b) (n:=n) (cap:=cap) hu h5 (Z7c _ _ _ _ _ _ _) (Z9C _ _ _ _ _ _ _ h1) (by rw [Z4D];exact h2) a h3 h4 (fun i j S p=>?_) L (E b (by rw [hu];simp [Y5];omega));have D:j=0:=by rw [g] at p;omega
   subst D;rw [g,Nat.mul_one,Nat.add_zero,Z6J _ _ _ _ (by simpa [a] using S) (by simp only [List.size_toArray,a];omega),Y9m]
   have:i<(x.mergeSort fun x y=>decide (x<=y)).length:=by omega
   have V:(x.mergeSort fun x y=>decide (x<=y)).toArray[i]! = (x.mergeSort fun x y=>decide (x<=y)).getD i 0:=by
    simp [List.getD_eq_getElem?_getD,this]
   rw [V];exact .int _ _
end
section
open Go.Sort Go.Proofs Go.Shelf
def DVal.lit:DVal->Bool
 | .int _ _=>true
 | .bool _=>true
 | .str _=>true
 | _=>false
def DVal.val:DVal->Value
 | .int k n=>.int k n
 | .bool b=>.bool b
 | .str s=>.string s
 | _=>undef
theorem DRep.lit {w:World} {X:Nat->Prop} {v:Value} {d:DVal} (h:DRep w X v d) (hd:d.lit=true):v=d.val:=by
 cases h <;> first|rfl|cases hd
theorem DVal.rep (w:World) (X:Nat->Prop) {d:DVal} (hd:d.lit=true):DRep w X d.val d:=by
 cases d with
 | int k n=>exact .int k n
 | bool b=>exact .bool b
 | str s=>exact .str s
 | _=>cases hd
theorem DVal.val_one {d:DVal} (hd:d.lit=true):d.val.oneCell'=true:=by
 cases d <;> first|rfl|cases hd
theorem Y7J {w w' : World} (h:Stp (fun _=>False) w w'):∃ q os,w'=grow (w.drewN q) os:=by
 refine ⟨w'.drawn-w.drawn,w'.heap.extract w.heap.size w'.heap.size,?_⟩;have f:w'.heap=w.heap++w'.heap.extract w.heap.size w'.heap.size:=by
  apply Array.ext_getElem?;intro k
  rw [Array.getElem?_append];split
  ·rename_i a;exact h.block k a fun b=>b
  ·rename_i a
   rw [Array.getElem?_extract];have d:=h.size
   by_cases h2:k<w'.heap.size
   ·rw [if_pos (by omega)];congr 1;omega
   ·rw [if_neg (by omega),Array.getElem?_eq_none (by omega)]
 have e:=h.dr;have c:w'=⟨w'.heap,w'.tape,w'.drawn,w'.os,w'.output⟩:=rfl
 rw [c,h.tape,h.os,h.output];unfold grow World.drewN
 congr 1
 simp only
 omega
theorem Z8i {β:Type} (l:List β) (j:Nat) (h:j<l.length) (d:β):l.getD j d=l[j]:=by
 rw [List.getD_eq_getElem?_getD,List.getElem?_eq_getElem h];rfl
theorem Y2I {β:Type} [Inhabited β] (l:List β) (j:Nat) (h:j<l.length) (d:β):l.getD j d=l[j]! := by
 rw [Z8i l j h d,getElem!_pos l j h]
theorem Z5v (l:List DVal) (j:Nat) (h:j<l.length):(l.map DVal.val).getD j undef=(l[j]).val:=by
 rw [Z8i _ j (by simpa using h)];simp
theorem Y3M {α:Type} [Emb α] {P:Program} {L:Lay} (hL:LOk P L) {ρ:Ren} (Ly:SlLaysF0.n6 P ρ) (hlit:∀ x:α,(Emb.cells x).all DVal.lit=true) {te:TI} (hte:L (ρ.t 24)=some te) (hagg:te.kind.agg=true) (hsz:te.size=Emb.es α)
  (F:(α->α->Option Int)->List AVal->AVal->Prop) (hF:∀ q x y z,q x y=some z->F q [.v (.g ((Emb.cells x).map .d)),.v (.g ((Emb.cells y).map .d))] (vi z)) {x r:List α} {q:α->α->Option Int} (h:Z9x x q=some r) :
  Q7 P (ρ.f 6) [.v (.c (.own 0)),Z4t P (F q)] [(0,AO (α:=α) x)] .any [(0,AO (α:=α) r)]:=by
 obtain ⟨hl,k,hO,hq,rfl⟩:=Y4T h;obtain ⟨ti,td,tz,V⟩:=hL _ _ hte
 letI inst:Inhabited α:=⟨Emb.d⟩
 let enc:α->List Value:=fun x=>(Emb.cells x).map DVal.val
 have hk:∀ x,(enc x).length=Emb.es α:=fun x=>by simp [enc,Emb.len]
 have h1:∀ x,∀ v ∈ enc x,v.oneCell'=true:=by
  intro x v hv;obtain ⟨d,hd,rfl⟩:=List.mem_map.1 hv
  exact DVal.val_one (List.all_eq_true.1 (hlit x) d hd)
 intro w X η R hX J W f2 D A;have D:R.size=2:=D
 have b2:R.getD 0 undef=η 0:=Q6I (C:=J4 [(0,AO (α:=α) x)] w X η) (s:=ls [(0,AO (α:=α) x)]) (by have:=A 0 (by simp);rw [Y0j J];exact this);have b5:J5 P (F q) w (Own (ls [(0,AO (α:=α) x)]) η) X (R.getD 1 undef):=by
  have:=A 1 (by simp)
  change ARep w X η _ (R.getD 1 undef) (Z4t P (F q)) at this;generalize R.getD 1 undef=u at this
  cases this with|v _ _ p=>cases p with|c _ _ p=>cases p with|sem _ _ p _=>exact p
 rw [Y7F D,b2];have ho:=W 0 (AO x) (by rw [U5,if_pos rfl])
 have a7:∀ b,b ∈ Y5 (η 0)->X b:=fun b hb=>J b ⟨0,_,by rw [U5,if_pos rfl],hb⟩
 generalize hu:η 0=u at ho;have o:(Q8X k x).length=x.length:=by
  have:=(pdq_sorts (ltC k) hO x.toArray 0 x.length (Lib.bitLen x.length) true true (Nat.zero_le _) (by simp) (.inl rfl)).1.1
  unfold Q8X;simpa using this
 unfold AO at ho;generalize hn:x.length=n at ho
 cases ho with
 | nil ad=>
  have hx:x=[]:=List.eq_nil_of_length_eq_zero hn;refine (AnyF.slices_SortFunc_none Ly ad 0 _ w).mono fun e w' p=>?_
  obtain ⟨S,hw⟩:=p;refine ⟨_,η,S,?_⟩
  rw [hw];have hb:=Z9J (w:=w) (X:=X) (l:=x) hu hX
  have hp:Q8X k x=[]:=List.eq_nil_of_length_eq_zero (by rw [o,hn]);rw [hp];exact hb
 | arr b _ cap _ c e _ g1 g2 g3 g4 g5 g6 g7=>
  rename_i n
  obtain ⟨U,G,c1,O,a0⟩:=b5;rw [c1]
  have c4:∀ i,i<n->(LF x i)=Emb.cells (x.getD i Emb.d):=fun i _=>rfl
  have K:∀ i j,i<n->j<Emb.es α->c.getD (i*Emb.es α+j) undef=(enc (x.getD i Emb.d)).getD j undef:=by
   intro i j hi B;have h0:=g7 i j hi B
   have a : j<(Emb.cells (x.getD i Emb.d)).length:=by rw [Emb.len];exact B
   have e1:(LF x i).getD j .any=(Emb.cells (x.getD i Emb.d))[j]:=Z8i _ _ a _;rw [e1] at h0
   have h2:=h0.lit (List.all_eq_true.1 (hlit _) _ (List.getElem_mem a));rw [h2]
   exact (Z5v _ _ a).symm
  have M:∀ t,t<n*Emb.es α->c.getD t undef=(flatK enc (Emb.es α) x.toArray)[t]! := by
   intro t ht;have a2:0<Emb.es α:=by
    rcases Nat.eq_zero_or_pos (Emb.es α) with hz|hz
    ·rw [hz,Nat.mul_zero] at ht;omega
    ·exact hz
   have p1:t / Emb.es α<n:=Nat.div_lt_of_lt_mul (by rw [Nat.mul_comm];exact ht);have p2:t % Emb.es α<Emb.es α:=Nat.mod_lt _ a2
   have:=K _ _ p1 p2
   rw [show t / Emb.es α*Emb.es α+t % Emb.es α=t from by rw [Nat.mul_comm];exact Nat.div_add_mod t _] at this;rw [this,get_flatK _ _ _ _ (by simpa [hn] using ht)]
   have e2:x.toArray[t / Emb.es α]! = x.getD (t / Emb.es α) Emb.d:=by
    have:t / Emb.es α<x.length:=by omega
    simp [List.getD_eq_getElem?_getD,this]
   rw [e2];have:t % Emb.es α<(enc (x.getD (t / Emb.es α) Emb.d)).length:=by rw [hk];exact p2
   exact Y2I _ _ this _
  have hH:HoldsK enc (Emb.es α) w b 0 x.toArray:=by
   intro t ht;have c3 : t<n*Emb.es α:=by simpa [hn] using ht
   have Z:t<c.size:=by
    have:n*Emb.es α<=cap*Emb.es α:=Nat.mul_le_mul_right _ g3
    omega
   refine ⟨?_,by simp [World.frozen?,g1]⟩;have:=M t c3
   simp only [Nat.zero_add,World.cell?,g1,Option.isSome_none,Bool.false_eq_true,if_false,id];rw [Array.getElem?_eq_getElem Z]
   congr 1
   rw [<-this];simp [Z]
  have H:b ∈ Y5 (η 0):=by rw [hu];simp [Y5];omega
  have T:CmpLays P U G enc (Emb.es α) k b 0 x.toArray.size w:=by
   intro m os dk f6 u v;have Q:=Z7c id w b 0 m (flatK enc (Emb.es α) dk) os
   have E:∀ (w1:World) (z:α) η C,ARep w1 X η C (.agg (enc z).toArray) (.v (.g ((Emb.cells z).map .d))):=by
    intro w1 z η' C';refine .v _ _ (.g _ _ ⟨by simp [enc],fun j B=>?_⟩)
    have a : j<(Emb.cells z).length:=by simpa using B
    have e1:(enc z).toArray.getD j undef=((Emb.cells z)[j]).val:=by
     have:(enc z).toArray.getD j undef=(enc z).getD j undef:=by simp [List.getD_eq_getElem?_getD]
     rw [this];exact Z5v _ _ a
    have e2:((Emb.cells z).map CV.d).getD j (.d .any)=.d ((Emb.cells z)[j]):=by rw [Z8i _ j (by simpa using a)];simp
    rw [e1,e2];exact .d _ _ (DVal.rep _ _ (List.all_eq_true.1 (hlit z) _ (List.getElem_mem a)))
   refine (a0 (grow (putRow id (Go.Sort.ahead w m) b 0 (flatK enc (Emb.es α) dk)) os) X #[.agg (enc u).toArray,.agg (enc v).toArray] _ _ (hF q u v (k u v) (hq u v)) Q.size (fun y hy hD=>Q.block y hy fun e=>hD ?_)
    (fun y hy=>Nat.lt_of_lt_of_le (hX y hy) Q.size) (fun y _ _=>Iff.rfl) rfl (fun j B η C=>?_)).mono fun e2 w2 p=>?_
   ·rw [e];exact ⟨0,_,by rw [U5,if_pos rfl],H⟩
   ·have:j=0\/j=1:=by simp at B;omega
    rcases this with rfl|rfl
    ·exact E _ _ _ _
    ·exact E _ _ _ _
   ·obtain ⟨v',S,b3,hr⟩:=p
    have a6:=hr η (J4 [] w X η);have e3:v'=.int .i64 (k u v):=by
     cases a6 with|v _ _ p=>cases p with|c _ _ p=>cases p with|d _ _ p=>cases p;rfl
    obtain ⟨qq,b0,b1⟩:=Y7J b3;exact ⟨by rw [S,e3],qq,b0,b1⟩
  rw [<-hn];have N:=AnyQ.slices_SortFunc_eq Ly (Emb.es α) (fun w=>by rw [Z5H V w,hagg]) (fun w=>by rw [K7 V,hsz]) enc hk h1 k hO U G b 0 cap x.toArray w O T hH (K8 g1) (by simp only [List.size_toArray];simp only [LIM] at hl;omega)
  refine N.mono fun e' w' p=>?_
  obtain ⟨S,nn,os,hw⟩:=p;refine ⟨_,η,S,?_⟩
  have b8:w'=grow (putRow id (Go.Sort.ahead w nn) b 0 (flatK enc (Emb.es α) (Q8X k x).toArray)) os:=hw;rw [b8]
  refine Y1H (c':=putCells id 0 (flatK enc (Emb.es α) (Q8X k x).toArray) c) (e:=e) (b:=b) (n:=n) (cap:=cap) hu g5 (Z7c _ _ _ _ _ _ _) (Z9C _ _ _ _ _ _ _ g1) (by rw [Z4D];exact g2) (by rw [o,hn]) g3 g4 (fun i j hi B=>?_) hX (a7 b H);have Y:i*Emb.es α+j<n*Emb.es α:=by
   have:(i+1)*Emb.es α<=n*Emb.es α:=Nat.mul_le_mul_right _ hi
   rw [Nat.add_mul,Nat.one_mul] at this;omega
  have I:(flatK enc (Emb.es α) (Q8X k x).toArray).size=n*Emb.es α:=by simp [o,hn]
  rw [Z6J _ _ _ _ (by rw [I];exact Y) (by rw [I,g2];exact Nat.mul_le_mul_right _ g3)];rw [get_flatK _ _ _ _ (by simpa [o,hn] using Y)]
  have d1:(i*Emb.es α+j) / Emb.es α=i:=by
   rw [Nat.add_comm,Nat.add_mul_div_right _ _ (by omega),Nat.div_eq_of_lt B,Nat.zero_add]
  have d2:(i*Emb.es α+j) % Emb.es α=j:=by rw [Nat.add_comm,Nat.add_mul_mod_self_right,Nat.mod_eq_of_lt B]
  rw [d1,d2];have e4:(Q8X k x).toArray[i]! = (Q8X k x).getD i Emb.d:=by
   have:i<(Q8X k x).length:=by omega
   simp [List.getD_eq_getElem?_getD,this]
  rw [e4];have a : j<(Emb.cells ((Q8X k x).getD i Emb.d)).length:=by rw [Emb.len];exact B
  have e5:(enc ((Q8X k x).getD i Emb.d))[j]! = ((Emb.cells ((Q8X k x).getD i Emb.d))[j]).val:=by
   rw [<-Y2I (enc ((Q8X k x).getD i Emb.d)) j (by rw [hk];exact B) undef];exact Z5v _ _ a
  have e6:(LF (Q8X k x) i).getD j .any=(Emb.cells ((Q8X k x).getD i Emb.d))[j]:=Z8i _ _ a _;rw [e5,e6]
  exact DVal.rep _ _ (List.all_eq_true.1 (hlit _) _ (List.getElem_mem a))
end
section
open Go.ChangeShapes Go.WideShapes Go.ChangeAt Go.RowKit
theorem Y4B {w:World} {a:Addr} {v:Value} (h:w.cell? a=some v):a.spot=none/\∃ c e fz,w.heap[a.block]?=some (.cells c e fz)/\a.off<c.size/\c.getD a.off undef=v:=by
 unfold World.cell? at h;split at h
 ·rename_i c e fz d
  split at h
  ·cases h
  ·rename_i f
   obtain ⟨b,g⟩:=Array.getElem?_eq_some_iff.1 h;exact ⟨by simpa using f,c,e,fz,d,b,by simp [b,g]⟩
 ·cases h
theorem Y9j (b o i:Nat):(⟨b,o,none⟩:Addr).add i=⟨b,o+i,none⟩:=add_lit b o i
theorem Y7t {w:World} {a:Addr} {len cap:Nat} {zs:List Int} (hl:len<=cap) (hz:len<=zs.length) (hc:∀ i,i<zs.length->w.cell? (a.add i)=some (.int .i64 (zs.getD i 0))) :
  DRep w (fun _=>False) (.slice (some a) len cap) (DL (α:=Int) (zs.take len)):=by
 have r:(zs.take len).length=len:=by simp;omega
 unfold DL;rw [r]
 by_cases h0:len=0
 ·subst h0;exact .nil _ _ _
 ·have o:a.spot=none:=by
   have:=(Y4B (hc 0 (by omega))).1
   cases hsp:a.spot with
   | none=>rfl
   | some s=>simp [Addr.add,hsp] at this
  obtain ⟨b,d,y⟩:=a;simp only at o
  subst o;have l : ∀ i,i<zs.length->∃ c e m,w.heap[b]?=some (.cells c e m)/\d+i<c.size/\c.getD (d+i) undef=.int .i64 (zs.getD i 0):=by
   intro i k;have:=hc i k
   rw [Y9j] at this;exact (Y4B this).2
  obtain ⟨c,e,m,n,_,_⟩:=l 0 (by omega);have g:∀ i,i<zs.length->d+i<c.size/\c.getD (d+i) undef=.int .i64 (zs.getD i 0):=by
   intro i k;obtain ⟨A,z,q,f,v,t⟩:=l i k
   rw [n] at f;cases f
   exact ⟨v,t⟩
  refine .lst b d len cap c e m _ 1 (fun h=>h) n hl (by have:=(g (len-1) (by omega)).1;omega) (fun i _=>rfl) fun i j k x=>?_
  have:j=0:=by omega
  subst this;rw [Nat.mul_one,Nat.add_zero,(g i (by omega)).2]
  have p:((LF (zs.take len) i).getD 0 .any)=.int .i64 ((zs.take len).getD i 0):=rfl;rw [p]
  have u:(zs.take len).getD i 0=zs.getD i 0:=by simp [List.getD_eq_getElem?_getD,List.getElem?_take,k]
  rw [u];exact .int _ _
theorem Y5m {H:Type} {enc:TypeId×Value->H} {P:Program} {W:World} {t e:TypeId} {v:Value} {d:DataW H} {ps:List MemPlace} (ht:P.underlying t=some (.slice e)) (he:P.underlying e=some (.int .i64)) (hc:P.cellsOf e=1) {r:Reach} {b0:Nat}
  (hv:Value.okWide P W r b0 t v) (hd:DataW.Trod enc P W 0 (fun _=>true) true t v d ps):∃ l:List Int,DRep W (fun _=>False) v (DL l)/\∀ n ∈ l,(Lit.int .i64 n).wf=true:=by
 obtain ⟨j,m⟩:=hd;obtain ⟨x,h,s,rfl⟩:=okWide_slice ht hv
 rcases open_ints ht he hc m with ⟨b,p⟩|⟨a,k,i,zs,b,u,q,w,o,p,c,f⟩
 ·simp [Value.cells] at b
  obtain ⟨rfl,rfl,rfl⟩:=b;exact ⟨[],.nil _ _ _,fun n g=>by cases g⟩
 ·simp [Value.cells] at b
  obtain ⟨rfl,rfl,rfl⟩:=b;simp only [if_true] at o
  exact ⟨zs.take h,Y7t q (by omega) c,fun n g=>f n (List.mem_of_mem_take g)⟩
theorem Z6o {H:Type} {enc:TypeId×Value->H} {P:Program} (hl:laidOutB P=true) {W W' : World} (hb:Below W.heap.size W W'):∀ {ts:List TypeId} {vs:List Value} {ds:List (DataW H)} {ps:List MemPlace},
  ts.all (fun t=>P.readableRec t&&decide (t<P.types.size))=true->DataW.TrodAll enc P W 0 (fun _=>true) true ts vs ds ps->(∀ x ∈ ps,x.block<W.heap.size)->∀ sp:Nat->Bool,(∀ x ∈ ps,sp x.block=true)->DataW.TrodAll enc P W' 0 sp true ts vs ds ps
 | [],[],[],_,_,h,_,_,_=>h
 | t::ts,v::vs,d::ds,ps,hr,⟨p,q,h1,h2,e⟩,hlt,sp,hs=>by
  simp only [List.all_cons,Bool.and_eq_true,decide_eq_true_eq] at hr;subst e
  exact ⟨p,q,WideElems.Trod_stays hl hr.1.1 hr.1.2 h1 (fun x a=>hb.same (hlt x (List.mem_append_left _ a))) (fun x a=>hs x (List.mem_append_left _ a)),
   Z6o hl hb hr.2 h2 (fun x a=>hlt x (List.mem_append_right _ a)) sp (fun x a=>hs x (List.mem_append_right _ a)),rfl⟩
theorem Y5k {H:Type} {enc:TypeId×Value->H} {P:Program} (hl:laidOutB P=true) {fn:Func} {s:ChangeSpec} {W W' : World} {args:Array Value} {ds gs:List (DataW H)} {before:List MemPlace} {apart fresh handsOn again:Bool}
  (hW:DataW.Whole enc P fn.params.toList s.vars apart W args.toList ds gs before) (hv:s.vars=[]) (hs:s.fn H (ds++gs)={ results:=[.lit (.bool true)],args:=ds }) (hr:fn.params.toList.all (fun t=>P.readableRec t&&decide (t<P.types.size))=true)
  {t:TypeId} (hres:fn.resultTypes=#[t]) (ht:P.underlying t=some .bool) (hb:Below W.heap.size W W'):s.post enc P fn apart fresh handsOn again W args (.bool true) W':=by
 have g:=hW.lt;have i:=hW
 obtain ⟨p,q,z,v,u,C,w⟩:=hW;rw [hv] at v
 obtain ⟨rfl,rfl⟩:=trodVars_none v;rw [List.append_nil] at u
 subst u;have m:∀ (j:Nat) (t' : TypeId) (r:Value),fn.resultTypes[j]?=some t' -> ((Value.bool true).resultList fn.resultTypes.size)[j]?=some r->Value.okWide P W' .any 0 t' r:=ok_one hres rfl (okWide_bool_mk ht _)
 have k:∀ x ∈ before,(fun b=>decide (b<W.heap.size)) x.block=true:=fun x c=>by simpa using g x c
 have e:∀ a:Nat->Bool,(∀ x ∈ before,a x.block=true)->DataW.TrodAll enc P W' 0 a true fn.params.toList args.toList (s.fn H (ds++[])).args before:=fun a n=>by
  rw [hs];exact Z6o hl hb hr z g a n
 have d:∀ (b:Nat) (a:Nat->Bool) (o:Bool),DataW.TrodAll enc P W' b a o fn.resultTypes.toList ((Value.bool true).resultList fn.resultTypes.size) (s.fn H (ds++[])).results []:=fun b a o=>by
  rw [hs,hres];exact trodAll_cons_mk (shut_bool ht _) trodAll_mk0
 have f:∀ a:Nat->Bool,DataW.TrodVars enc P W' a s.vars (s.fn H (ds++[])).vars []:=fun a=>by
  rw [hs,hv];exact rfl
 refine ⟨ds,_,before,[],before,[],i,d _ _ _,e _ k,f _,World.keptBut_mono (fun x c=>⟨c,by simpa using c⟩) (hb.frame (· ∈ before)),fun _=>⟨m,?_⟩⟩;obtain ⟨_,_,_,_,_,y,B⟩:=i
 refine ⟨_,_,([]++before)++[],⟨[]++before,[],trodAll_append (e _ fun _ _=>rfl) (d _ _ _),f _,rfl,fun b l c=>?_,fun A=>?_⟩,fun x c _=>?_⟩
 ·have h:MemPlace.cell b l ∈ before:=by simpa using c
  rw [hb.frozen (g _ h)];exact y b l h
 ·simpa using B A
 ·simpa using c
theorem Y7d {H:Type} {enc:TypeId×Value->H} {P:Program} (hl:laidOutB P=true) {fn:Func} {s:ChangeSpec} {W W' : World} {args:Array Value} {ds gs:List (DataW H)} {before:List MemPlace} {apart fresh handsOn again:Bool}
  (hW:DataW.Whole enc P fn.params.toList s.vars apart W args.toList ds gs before) (hv:s.vars=[]) (hs:s.fn H (ds++gs)={ results:=[.lit (.bool true)],args:=ds }) (hr:fn.params.toList.all (fun t=>P.readableRec t&&decide (t<P.types.size))=true)
  {t:TypeId} (hres:fn.resultTypes=#[t]) (ht:P.underlying t=some .bool) (hstp:Stp (fun _=>False) W W'):s.post enc P fn apart fresh handsOn again W args (.bool true) W' :=
 Y5k hl hW hv hs hr hres ht (hstp.below _ (Nat.le_refl _) fun _ _ h=>h)
end
section
section
variable {P:Program} {C:Ctx} {nt:Nat} {L:Lay} {ops:Array Oper} {ds:List Dir} {e:Env} {s:Sto}
end
end
section
def ci (n:Int):CV:=.d (.int .i64 n)
def gC {α:Type} [Emb α] (x:α):List CV:=(Emb.cells x).map .d
def gE {α:Type} [Emb α] (x:α):AVal:=.v (.g (gC x))
def ss (n:Nat):List Dir:=List.replicate n .s
section
variable {P:Program} {C:Ctx} {nt:Nat} {L:Lay} {pins:List Nat} {E:List (Nat×AVal)} {S:List (Nat×Obj)} {Q:Exit->Act->World->Prop}
theorem AW.g (Fm:Fr P L C pins) {id:Nat} {ops:Array Oper} {draw:Bool} (ds:List Dir) (c:(Nat->Prop)->Prop) (E' : List (Nat×AVal)) (S' : List (Nat×Obj)) (hc:c (KAt P C nt L ops ds (lk E) (ls S)))
  (h:(Z6l L pins nt ops draw ds E S [] S',Q7q P C nt L ops ops.toList ds (lk E) (ls S),E'.map (fun p=>Z2m ops.toList (Q1m L ops ops.toList ds (lk E) (ls S)) (lk E) p.1),S'.map (fun p=>Z2l (Q1m L ops ops.toList ds (lk E) (ls S)) (ls S) (W9 [] p.1)))
   = (true,c (KAt P C nt L ops ds (lk E) (ls S)),E'.map (fun p=>p.2.ren (W9 [])),S'.map (fun p=>some (p.2.ren (W9 [])))))
  (k:Kn C nt E' S' (Q .normal)):AW P C nt (.region id ops draw) E S Q:=
 W0A Fm ds [] c E' S' hc (congrArg (·.1) h) (congrArg (·.2.1) h) (congrArg (·.2.2.1) h) (congrArg (·.2.2.2) h) k
theorem Y9t (Fm:Fr P L C pins) {id:Nat} {ops:Array Oper} {draw:Bool} {y:Code} (ds:List Dir) (c:(Nat->Prop)->Prop) (E' : List (Nat×AVal)) (S' : List (Nat×Obj)) (hc:c (KAt P C nt L ops ds (lk E) (ls S)))
  (h:(Z6l L pins nt ops draw ds E S [] S',Q7q P C nt L ops ops.toList ds (lk E) (ls S),E'.map (fun p=>Z2m ops.toList (Q1m L ops ops.toList ds (lk E) (ls S)) (lk E) p.1),S'.map (fun p=>Z2l (Q1m L ops ops.toList ds (lk E) (ls S)) (ls S) (W9 [] p.1)))
   = (true,c (KAt P C nt L ops ds (lk E) (ls S)),E'.map (fun p=>p.2.ren (W9 [])),S'.map (fun p=>some (p.2.ren (W9 [])))))
  (k:AW P C nt y E' S' Q):AW P C nt (.seq (.region id ops draw) y) E S Q:=
 AW.seq (AW.g Fm ds c E' S' hc h k)
theorem W0S (Fm:Fr P L C pins) {id:Nat} {ops:Array Oper} {draw:Bool} (n:Nat) (E' : List (Nat×AVal)) (S' : List (Nat×Obj))
  (h:(Z6l L pins nt ops draw (ss n) E S [] S',Q7q P C nt L ops ops.toList (ss n) (lk E) (ls S),E'.map (fun p=>Z2m ops.toList (Q1m L ops ops.toList (ss n) (lk E) (ls S)) (lk E) p.1),S'.map (fun p=>Z2l (Q1m L ops ops.toList (ss n) (lk E) (ls S)) (ls S) (W9 [] p.1)))
   = (true,True,E'.map (fun p=>p.2.ren (W9 [])),S'.map (fun p=>some (p.2.ren (W9 [])))))
  (k:Kn C nt E' S' (Q .normal)):AW P C nt (.region id ops draw) E S Q:=AW.g Fm (ss n) (fun _=>True) E' S' True.intro h k
theorem Y9s (Fm:Fr P L C pins) {id:Nat} {ops:Array Oper} {draw:Bool} {y:Code} (n:Nat) (E' : List (Nat×AVal)) (S' : List (Nat×Obj))
  (h:(Z6l L pins nt ops draw (ss n) E S [] S',Q7q P C nt L ops ops.toList (ss n) (lk E) (ls S),E'.map (fun p=>Z2m ops.toList (Q1m L ops ops.toList (ss n) (lk E) (ls S)) (lk E) p.1),S'.map (fun p=>Z2l (Q1m L ops ops.toList (ss n) (lk E) (ls S)) (ls S) (W9 [] p.1)))
   = (true,True,E'.map (fun p=>p.2.ren (W9 [])),S'.map (fun p=>some (p.2.ren (W9 [])))))
  (k:AW P C nt y E' S' Q):AW P C nt (.seq (.region id ops draw) y) E S Q:=AW.seq (W0S Fm n E' S' h k)
variable {K:Act->World->Prop}
theorem W1N (Fm:Fr P L C pins) (E' : List (Nat×AVal)) (S' : List (Nat×Obj))
  (hq:(pins.all (fun i=>W9 [] i==i),E'.map (fun p=>lk E p.1),S'.map (fun p=>ls S (W9 [] p.1)),Q3m (S'.map fun p=>W9 [] p.1))=(true,E'.map (fun p=>p.2.ren (W9 [])),S'.map (fun p=>some (p.2.ren (W9 []))),true)) (h:Kn C nt E' S' K):Kn C nt E S K:=
 Kn.re Fm [] E' S' (congrArg (·.1) hq) (congrArg (·.2.1) hq) (congrArg (·.2.2.1) hq) (congrArg (·.2.2.2) hq) h
theorem Q3b (Fm:Fr P L C pins) {fn:Func} {r:AVal} {S' : List (Nat×Obj)} (hq:(Y7a L (lk E) (ls S) fn.results.toList,S'.map (fun p=>ls S p.1))=(some r,S'.map (fun p=>some p.2))):Kn C nt E S (Y5f P fn C r S' .ret):=
 Kn.done Fm (congrArg (·.1) hq) (congrArg (·.2) hq)
end
section
variable {P:Program} {C:Ctx} {nt:Nat} {L:Lay} {ops:Array Oper} {ds:List Dir} {e:Env} {s:Sto}
theorem W1u {k:Nat} {f:Nat} {args:List AVal} {Si:List (Nat×Obj)} {r:AVal} {So:List (Nat×Obj)} (hspec:Q7 P f args Si r So) (hcall:∀ args w,(callFunc f args).run P w=.ok (.enter f args) w) (m:List (Nat×Nat))
  (hk:Q2f ds k=cE m [] r Si So) (hq:(Go.Ab.callB ops nt (W6 L ops ops.toList ds e s k) (Y6 ops.toList k) f m r Si So,Si.map (fun p=>Q2o L ops ops.toList ds e s k (W9 m p.1)),
   (Go.Ab.callXs (Y6 ops.toList k)).toList.all (Q5I (Q0h (Y6 ops.toList k)++V4 ops (Y6 ops.toList k)))&&args.all AVal.noSem,(Go.Ab.callXs (Y6 ops.toList k)).toList.map (aev (W6 L ops ops.toList ds e s k)))
   = (true,Si.map (fun p=>some (p.2.ren (W9 m))),true,args.map (AVal.ren (W9 m)))):KAt P C nt L ops ds e s k:=
 KAt.call hspec hcall m hk (congrArg (·.1) hq) (congrArg (·.2.1) hq) (congrArg (·.2.2.1) hq) (congrArg (·.2.2.2) hq)
end
end
section
open Go.Proofs Go.Shelf
theorem Z9F {α:Type} [Emb α] {P:Program} {L:Lay} (hL:LOk P L) {ρ:Ren} (Ly:Lays8.n4 P ρ) {te:TI} (hte:L (ρ.t 25)=some te) (hsz:te.size=Emb.es α) (hpos:0<te.size) (hby:te.bytes<=8192) (hzl:te.zero.length=te.size)
  {n:Int} {r:List α} (h:Z9G n=some r):Q7 P (ρ.f 4) [.v (.c (.fl 0 fun _=>[])),vi n] [] (.v (.c (.own 100))) [(100,AO (α:=α) r)]:=by
 unfold Z9G at h;split at h
 case isFalse=>cases h
 rename_i hn
 cases h
 obtain ⟨J,d0,I,k⟩:=hL _ _ hte;intro w X η A hX W Y a3 q p
 have q:A.size=2:=q;have D:∃ B,A.getD 0 undef=.slice B 0 0:=by
  have:=p 0 (by simp)
  change ARep w X η _ (A.getD 0 undef) (.v (.c (.fl 0 fun _=>[]))) at this;generalize A.getD 0 undef=u at this
  cases this with|v _ _ l=>cases l with|c _ _ l=>cases l with|fl a _ _ _=>exact ⟨a,rfl⟩
 have R:A.getD 1 undef=.int .i64 n:=by
  have:=p 1 (by simp)
  change ARep w X η _ (A.getD 1 undef) (.v (.c (.d (.int .i64 n)))) at this;generalize A.getD 1 undef=u at this
  cases this with|v _ _ l=>cases l with|c _ _ l=>cases l with|d _ _ l=>cases l;rfl
 obtain ⟨B,D⟩:=D;rw [Y7F q,D,R]
 obtain ⟨m,rfl⟩:∃ m:Nat,n=m:=⟨n.toNat,by omega⟩;have N:m<=LIM:=by omega
 have g:∀ i o,ls [(100,AO (α:=α) [])] i=some o->i=100/\o=AO (α:=α) []:=by
  intro i o b;rw [U5] at b
  by_cases h:i=100
  ·rw [if_pos h] at b;cases b;exact ⟨h,rfl⟩
  ·rw [if_neg h] at b;cases b
 rcases Nat.eq_zero_or_pos m with V|V
 ·subst V
  refine (Any8.slices_Grow_room Ly B 0 0 0 w (Nat.le_refl _) (by omega) (by omega) (Nat.le_refl _)).mono fun e w' l=>?_
  obtain ⟨M,O⟩:=l;refine ⟨_,fun _=>.slice B 0 0,M,?_⟩
  rw [O];have z:∀ x,x ∉ Y5 (.slice B 0 0):=by intro x;cases B <;> simp [Y5]
  refine ⟨Stp.refl _ _,.v _ _ (.c _ _ (.own _ _ rfl rfl)),fun i o b=>?_,fun i j x b F y _=>absurd y (z x),fun i o x b y=>absurd y (z x),fun i v b=>?_⟩
  ·obtain ⟨rfl,rfl⟩:=g i o b
   exact .nil _ _ _
  ·change (if ((List.lookup i ([]:List (Nat×Obj))).isSome=true) then some (η i) else none)=some v at b
   cases b
 ·have H:(0+m)*J.bytes<=140737488355328:=by
   have h1:(0+m)*J.bytes<=4294967296*8192:=Nat.mul_le_mul (by simp only [LIM] at N;omega) (by rw [k.bytes];exact hby);omega
  refine (Any8.slices_Grow_grow Ly J I k.info k.zero (by rw [k.size];exact hpos) B 0 0 m [] w (Nat.le_refl _) (by omega) H (by simp only [LIM] at N;omega) (by simp) (fun _=>rfl) (fun _ _ _ _ F=>by simp at F)).mono fun e w' l=>?_
  obtain ⟨M,O⟩:=l;have hG:m<=grownCap w (0+m) 0 (ρ.t 25):=by have:=grownCap_ge w (0+m) 0 (ρ.t 25);omega
  have U:=grownCap_le_maxLen w (0+m) 0 (ρ.t 25) (by simp only [LIM] at N;simp only [maxLen];omega);generalize grownCap w (0+m) 0 (ρ.t 25)=G at *
  refine ⟨_,fun _=>.slice (some ⟨w.heap.size,0,none⟩) 0 G,M,?_⟩;rw [O]
  have T:I.cells.size=J.size:=by rw [(k.zrep w (fun _=>False) η (J4 [] w X η)).1,hzl,k.size]
  refine ⟨(Stp.drew _ _).trans (Stp.alloc _ _ _),.v _ _ (.c _ _ (.own _ _ rfl rfl)),fun i o b=>?_,fun i j x b F _ _=>?_,fun i o x b y=>?_,fun i v b=>?_⟩
  ·obtain ⟨rfl,rfl⟩:=g i o b
   refine .arr w.heap.size 0 G _ (([]:List Value).toArray++Builtin.zeroCells I.cells (0+m-0)++Builtin.zeroCells I.cells (G-(0+m))) (ρ.t 25) _ (heap_alloc_new w.drew _) ?_ (Nat.zero_le _) U (by omega) (fun i b=>absurd b (Nat.not_lt_zero i)) fun i j b=>absurd b (Nat.not_lt_zero i)
   rw [Array.size_append,Array.size_append,size_zeroCells,size_zeroCells,T,k.size, <-hsz];have e1:(([]:List Value).toArray).size=0:=rfl
   rw [e1,Nat.zero_add, <-Nat.add_mul];congr 1
   omega
  ·obtain ⟨oi,b⟩:=Option.ne_none_iff_exists'.1 b
   obtain ⟨Z,F⟩:=Option.ne_none_iff_exists'.1 F;rw [(g i oi b).1,(g j Z F).1]
  ·have:x=w.heap.size:=by
    have y:x ∈ Y5 (.slice (some ⟨w.heap.size,0,none⟩) 0 G):=y;simp [Y5] at y
    exact y.2
   subst this;exact .inr (.inr (Nat.le_refl _))
  ·change (if ((List.lookup i ([]:List (Nat×Obj))).isSome=true) then some (η i) else none)=some v at b
   cases b
end
section
def Y7z (P:Program) (x:CV):Prop:=x.closed=true\/∃ F,x=.sem (J5 P F)
section
variable {w:World} {X:Nat->Prop} {η η' : Nat->Value} {C C' : Ctx} {P:Program}
theorem G9.port {vs:Array Value} {cs:List CV} (h:G9 w X η C vs cs) (H:∀ F v,J5 P F C.w0 C.D C.X v->J5 P F C'.w0 C'.D C'.X v) (hx:∀ x ∈ cs,Y7z P x):G9 w X η' C' vs cs:=by
 refine ⟨h.1,fun j f=>?_⟩;have c:=h.2 j f
 rcases hx _ (Q0I (d:=.d .any) f) with a|⟨F,a⟩
 ·simp only [CV.closed,Bool.and_eq_true,List.isEmpty_iff] at a
  exact (c.mono (fun b _ k=>⟨rfl,k⟩) (fun i g=>by rw [a.1] at g;cases g)).ctx a.2
 ·rw [a] at c ⊢
  generalize vs.getD j undef=u at c ⊢
  cases c with|sem _ _ g1 g2=>exact .sem _ _ (H F _ g1) g2
end
section
variable {P:Program} {C:Ctx} {nt:Nat} {e:Env} {s:Sto}
theorem y6.cloP {f:Nat} (hcall:∀ args w,(callFunc f args).run P w=.ok (.enter f args) w) {F:List AVal->AVal->Prop} {cs:List (List CV)} (hspec:∀ args r,F args r->Q7 P f (args++Z7s cs) (Q9U cs) r (Q9U cs)) (hres:∀ args r,F args r->r.closed=true)
  {Si:List (Nat×Obj)} {m:Nat->Nat} {rd ids:List Nat} {x:Operand} (hx:Q5I rd x=true) {cids:List Nat} (hv:aev e x=.v (.c (.clo f cids))) (hlen:cids.length=cs.length) (hnd:Q3m cids=true) (hbox:∀ k,k<cs.length->∃ ro,s (cids.getD k 0)=some (.box ro (cs.getD k [])))
  (hcl:∀ c ∈ cs,∀ x ∈ c,Y7z P x) (hsi:∀ p ∈ Si,∃ o1,s (m p.1)=some o1) (hin:∀ p ∈ Si,m p.1 ∈ ids) (hcin:∀ i ∈ cids,i ∈ ids) (hapart:∀ p ∈ Si,m p.1 ∉ cids):y6 C nt e s Si m rd ids x (Z4t P F):=by
 intro R η e0 s0 a w c9 N G;have b8:=(W2 G x).1
 rw [J2 c9 hx,hv] at b8;have b4:=Z8o b8
 refine .v _ _ (.c _ _ (.sem _ _ ⟨f,_,b4,hcall,?_⟩ (by rw [b4];rfl)));intro w1 X1 vs args r hF e6 V d7 a6 d0 a3
 have Z : w.heap.size<=w1.heap.size:=e6;have M:∀ k,k<cs.length->cids.getD k 0 ∈ cids:=fun k H=>Q0I (by omega)
 have z:∀ k,k<cs.length->∃ ro,s0 (cids.getD k 0)=some (.box ro (cs.getD k [])):=by
  intro k H;obtain ⟨ro,h⟩:=hbox k H
  exact ⟨ro,by rw [N _ (hcin _ (M k H))];exact h⟩
 have J:∀ k,k<cs.length->∃ b c' e',η (cids.getD k 0)=.pointer (some ⟨b,0,none⟩)/\w.heap[b]?=some (.cells c' e' (0,0))/\G9 w (XS C s0 η) η C c' (cs.getD k []):=by
  intro k H;obtain ⟨ro,h⟩:=z k H
  have:=G.st _ _ h
  generalize η (cids.getD k 0)=u at this
  cases this with
  | box b _ c' e' _ y hcs=>exact ⟨b,c',e',rfl,y,hcs⟩
 have Y:∀ k,k<cs.length->∀ b,b ∈ Y5 (η (cids.getD k 0))->¬ Own (ls Si) (fun i=>η (m i)) b:=by
  rintro k H b y ⟨i,B,l,n⟩;obtain ⟨ro,h⟩:=z k H
  obtain ⟨o1,h2⟩:=hsi _ (U4 l);have c0 : s0 (m i)=some o1:=by rw [N _ (hin _ (U4 l))];exact h2
  have:=G.ds _ _ b (by rw [h];simp) (by rw [c0];simp) y n
  exact hapart _ (U4 l) (this ▸ M k H)
 have d3:∀ b,Own (ls Si) (fun i=>η (m i)) b->XS C s0 η b:=by
  rintro b ⟨i,B,l,n⟩;obtain ⟨o1,h2⟩:=hsi _ (U4 l)
  exact .inr ⟨m i,o1,by rw [N _ (hin _ (U4 l))];exact h2,n⟩
 have H:Q7b w w1 (XS C s0 η) X1:=by
  intro b y hX;have b7:¬ Own (ls Si) (fun i=>η (m i)) b:=fun ho=>hX (d3 b ho)
  exact ⟨V b y b7,fun hx=>hX ((a6 b y b7).1 hx)⟩
 have A:∀ k o,ls (Q9U cs) k=some o->k<cs.length/\o=.box true (cs.getD k []):=by
  intro k o H;rw [Y6F] at H
  rcases Nat.lt_or_ge k cs.length with h|h
  ·rw [List.getElem?_eq_getElem h] at H
   cases H
   exact ⟨h,by rw [List.getD_eq_getElem?_getD,List.getElem?_eq_getElem h];rfl⟩
  ·rw [List.getElem?_eq_none h] at H;cases H
 have U:∀ b,Own (ls (Q9U cs)) (fun k=>η (cids.getD k 0)) b->X1 b:=by
  rintro b ⟨k,B,O,W⟩;obtain ⟨t,_⟩:=A k B O
  obtain ⟨ro,h⟩:=z k t;have c8:b<w.heap.size:=(G.st _ _ h).lt W
  exact (a6 b c8 (Y k t b W)).2 (.inr ⟨_,_,h,W⟩)
 have a4:∀ F' v,J5 P F' C.w0 C.D C.X v->J5 P F' w1 (Own (ls (Q9U cs)) fun k=>η (cids.getD k 0)) X1 v:=by
  rintro F' v ⟨g,gc,g1,g2,g3⟩;refine ⟨g,gc,g1,g2,fun w2 X2 us d9 q hq s1 s2 s3 s4 s5 s6=>?_⟩
  have b5:∀ b,b<C.w0.heap.size->¬ C.D b->¬ Own (ls Si) (fun i=>η (m i)) b:=by
   rintro b y I ⟨i,B,l,n⟩;obtain ⟨o1,h⟩:=hsi _ (U4 l)
   rcases G.ow (m i) o1 b (by rw [N _ (hin _ (U4 l))];exact h) n with ⟨_,h⟩|h|h
   ·exact I h
   ·exact I (G.ok.md b h)
   ·omega
  have b3:∀ b,b<C.w0.heap.size->¬ C.D b->¬ Own (ls (Q9U cs)) (fun k=>η (cids.getD k 0)) b:=by
   rintro b y I ⟨k,B,O,W⟩;obtain ⟨t,_⟩:=A k B O
   obtain ⟨ro,h⟩:=z k t;rcases G.ow _ _ b h W with ⟨_,h⟩|h|h
   ·exact I h
   ·exact I (G.ok.md b h)
   ·omega
  refine g3 w2 X2 us d9 q hq (Nat.le_trans G.fr.size (Nat.le_trans Z s1)) (fun b y I=>?_) s3 (fun b y I=>?_) s5 s6
  ·have T:b<w.heap.size:=Nat.lt_of_lt_of_le y G.fr.size
   exact ((s2 b (Nat.lt_of_lt_of_le T Z) (b3 b y I)).trans (V b T (b5 b y I))).trans (G.fr.block b y fun hM=>I (G.ok.md b hM))
  ·have T:b<w.heap.size:=Nat.lt_of_lt_of_le y G.fr.size
   rw [s4 b (Nat.lt_of_lt_of_le T Z) (b3 b y I),a6 b T (b5 b y I)];constructor
   ·rintro (⟨hx,_⟩|⟨i,B,l,n⟩)
    ·exact hx
    ·rcases G.ow i B b l n with ⟨_,h⟩|h|h
     ·exact absurd h I
     ·exact absurd (G.ok.md b h) I
     ·omega
   ·exact fun hx=>.inl ⟨hx,I⟩
 have c6:=hspec args r hF w1 X1 (fun k=>η (cids.getD k 0)) (vs++(cids.map η).toArray) d7 U
  (fun k o O=>by
   obtain ⟨t,rfl⟩:=A k o O;obtain ⟨b,c',e',h,h2,h3⟩:=J k t
   have d5:=Y k t b (by rw [h];simp [Y5]);show ORep w1 X1 _ _ (η (cids.getD k 0)) _
   rw [h];have e4:∀ x ∈ cs.getD k [],Y7z P x:=hcl _ (Q0I (d:=[]) t)
   exact .box b true c' e' _ ((V b (K8 h2) d5).trans h2) ((h3.mono (η':=η) H (fun _ _=>rfl)).port a4 e4))
  (fun i j b l hj c7 d6=>by
   obtain ⟨oi,l⟩:=Option.ne_none_iff_exists'.1 l;obtain ⟨oj,hj⟩:=Option.ne_none_iff_exists'.1 hj
   obtain ⟨d2,_⟩:=A i oi l;obtain ⟨d4,_⟩:=A j oj hj
   obtain ⟨r1,h⟩:=z i d2;obtain ⟨r2,h2⟩:=z j d4
   have b6:=G.ds _ _ b (by rw [h];simp) (by rw [h2];simp) c7 d6;have hn:=Q4y hnd
   have c5:i<cids.length:=by omega
   have c4:j<cids.length:=by omega
   rw [List.getD_eq_getElem?_getD,List.getD_eq_getElem?_getD,List.getElem?_eq_getElem c5,List.getElem?_eq_getElem c4] at b6;exact (List.getElem_inj hn).1 (by simpa using b6))
  (by simp [d0,Z7s,hlen])
  (fun j hj=>by
   rw [List.length_append] at hj
   by_cases hja:j<args.length
   ·have e1:(vs++(cids.map η).toArray).getD j undef=vs.getD j undef:=by
     have:j<vs.size:=by omega
     simp [Array.getD_eq_getD_getElem?,Array.getElem?_append,this]
    have e2:(args++Z7s cs).getD j .any=args.getD j .any:=by simp [List.getD_eq_getElem?_getD,List.getElem?_append,hja]
    rw [e1,e2];exact a3 j hja _ _
   ·have t:j-args.length<cs.length:=by simp [Z7s] at hj;omega
    obtain ⟨b,c',e',h,h2,h3⟩:=J _ t;have e1:(vs++(cids.map η).toArray).getD j undef=η (cids.getD (j-args.length) 0):=by
     have g1:¬ j<vs.size:=by omega
     have g2:j-vs.size<cids.length:=by omega
     have g3:j-args.length<cids.length:=by omega
     have:j-vs.size=j-args.length:=by omega
     simp [Array.getD_eq_getD_getElem?,Array.getElem?_append,g1,List.getD_eq_getElem?_getD,this,g3]
    have e2:(args++Z7s cs).getD j .any=.v (.c (.ptr (j-args.length) 0)):=by
     simp [List.getD_eq_getElem?_getD,List.getElem?_append,hja,Z7s,t]
    rw [e1,e2,h];exact .v _ _ (.c _ _ (.ptr b _ 0 h)))
 refine c6.mono fun en w' hh=>?_
 obtain ⟨v,η',rfl,y⟩:=hh;refine ⟨v,rfl,y.stp.mono fun b _ hM=>?_,fun η2 C2=>?_⟩
 ·obtain ⟨i,B,l,d1,_⟩:=hM
  obtain ⟨_,rfl⟩:=A i B l;cases d1
 ·have hX:∀ b,XS (J4 (Q9U cs) w1 X1 fun k=>η (cids.getD k 0)) (ls (Q9U cs)) η' b↔X1 b:=by
   have a2:∀ i B,ls (Q9U cs) i=some B -> η' i=η (cids.getD i 0):=by
    intro i B l;refine y.pn i _ ?_
    unfold ls at l;simp [J4,l]
   intro b;constructor
   ·rintro (⟨hx,_⟩|⟨i,B,l,n⟩)
    ·exact hx
    ·rw [a2 i B l] at n
     exact U b ⟨i,B,l,n⟩
   ·intro hx
    rcases Classical.em (Own (ls (Q9U cs)) (fun k=>η (cids.getD k 0)) b) with ho|ho
    ·obtain ⟨i,B,l,n⟩:=ho
     exact .inr ⟨i,B,l,by rw [a2 i B l];exact n⟩
    ·exact .inl ⟨hx,ho⟩
  exact (y.res.mono (η':=η') (fun b _ hx=>⟨rfl,fun e3=>hx ((hX b).2 e3)⟩) (fun _ _=>rfl)).free (hres args r hF)
def Y8a (P:Program):List CV->Prop
 | []=>True
 | c::cs=>Y7z P c/\Y8a P cs
def Y5l (P:Program):List (List CV)->Prop
 | []=>True
 | c::cs=>Y8a P c/\Y5l P cs
theorem Y7Z {cs:List CV} (h:Y8a P cs):∀ x ∈ cs,Y7z P x:=by
 induction cs with
 | nil=>intro x a;cases a
 | cons c cs ih=>
  intro x a;rcases List.mem_cons.1 a with rfl|a
  ·exact h.1
  ·exact ih h.2 x a
theorem Y7e {cs:List (List CV)} (h:Y5l P cs):∀ c ∈ cs,∀ x ∈ c,Y7z P x:=by
 induction cs with
 | nil=>intro x a;cases a
 | cons c cs ih=>
  intro x a;rcases List.mem_cons.1 a with rfl|a
  ·exact Y7Z h.1
  ·exact ih h.2 x a
theorem y6.cloXP {f:Nat} (hcall:∀ args w,(callFunc f args).run P w=.ok (.enter f args) w) {F:List AVal->AVal->Prop} (cs:List (List CV)) (hspec:∀ args r,F args r->Q7 P f (args++Z7s cs) (Q9U cs) r (Q9U cs)) (hres:∀ args r,F args r->r.closed=true)
  {Si:List (Nat×Obj)} {m:Nat->Nat} {rd ids:List Nat} {x:Operand} (hx:Q5I rd x=true) (cids:List Nat) (hv:aev e x=.v (.c (.clo f cids))) (hnd:(Q3m cids&&cids.all (fun i=>ids.contains i))=true) (hp:Y5l P cs) (hbox:Y8Z s cids cs)
  (hsi:siB s Si m ids cids=true):y6 C nt e s Si m rd ids x (Z4t P F):=by
 simp only [Bool.and_eq_true] at hnd;obtain ⟨d,a⟩:=Y6H hbox
 exact y6.cloP hcall hspec hres hx hv d hnd.1 a (Y7e hp) (Z4E hsi).1 (Z4E hsi).2.1 (fun i b=>by simpa using List.all_eq_true.1 hnd.2 i b) (Z4E hsi).2.2
end
end
section
section
variable {P:Program} {C:Ctx} {nt:Nat} {L:Lay} {pins:List Nat} {K:Act->World->Prop}
theorem Y0t (Fm:Fr P L C pins) {E:List (Nat×AVal)} {S0:List (Nat×Obj)} {i k es j:Nat} {cs:List CV} {f f' : Nat->List DVal} (hp:pins.contains k=false)
  (hfr:((E.flatMap fun p=>p.2.refs)++(((i,Obj.box false cs)::S0).flatMap fun p=>p.1::p.2.refs)).contains k=false) (hj:j<cs.length) (hc0:cs.getD j (.d .any)=.fl 0 f)
  (hk:Kn C nt E ((k,.arr es 0 f')::(i,.box false (cs.set j (.own k)))::S0) K):Kn C nt E ((i,.box false cs)::S0) K:=by
 intro R η a w B;have G:ls ((i,Obj.box false cs)::S0) i=some (.box false cs):=by rw [U5,if_pos rfl]
 have V:=B.st i _ G;obtain ⟨b0,c',e',hη0,hb0,hcs⟩:∃ b c' e',η i=.pointer (some ⟨b,0,none⟩)/\w.heap[b]?=some (.cells c' e' (0,0))/\G9 w (XS C (ls ((i,Obj.box false cs)::S0)) η) η C c' cs:=by
  generalize η i=u at V
  cases V with|box b _ c' e' _ O h=>exact ⟨b,c',e',rfl,O,h⟩
 obtain ⟨ad,hv⟩:∃ ad,c'.getD j undef=.slice ad 0 0:=by
  have:=hcs.2 j hj
  rw [hc0] at this;generalize c'.getD j undef=u at this
  cases this with|fl ad _ _ _=>exact ⟨ad,rfl⟩
 have U:C.pin k=none:=by
  rcases hq:C.pin k with _|u
  ·rfl
  ·have:=Fm.pin k (by rw [hq];simp)
   rw [List.contains_iff_mem.2 this] at hp;cases hp
 have J:∀ x ∈ (E.flatMap fun p=>p.2.refs)++(((i,Obj.box false cs)::S0).flatMap fun p=>p.1::p.2.refs),x≠k:=by
  intro x c he;subst he
  rw [List.contains_iff_mem.2 c] at hfr;cases hfr
 have hS:∀ x o,ls ((i,Obj.box false cs)::S0) x=some o->x≠k/\∀ y ∈ o.refs,y≠k:=by
  intro x o c;have hm:=U4 c
  exact ⟨J x (List.mem_append.2 (.inr (List.mem_flatMap.2 ⟨_,hm,by simp⟩))),fun y D=>J y (List.mem_append.2 (.inr (List.mem_flatMap.2 ⟨_,hm,by simp [D]⟩)))⟩
 have a0:i≠k:=(hS i _ G).1;have hE:∀ u x,x ∈ (lk E u).refs->x≠k:=by
  intro u x c;rcases Z8V (E:=E) (t:=u) with h0|h0
  ·rw [h0] at c;cases c
  ·exact J x (List.mem_append.2 (.inl (List.mem_flatMap.2 ⟨_,h0,c⟩)))
 let η' : Nat->Value:=fun x=>if x=k then .slice ad 0 0 else η x
 have l : ∀ x,x≠k->η' x=η x:=fun x c=>by show (if x=k then Value.slice ad 0 0 else η x)=_;rw [if_neg c]
 have I:η' k=.slice ad 0 0:=by show (if k=k then Value.slice ad 0 0 else η k)=_;rw [if_pos rfl]
 have n:∀ b,b ∉ Y5 (η' k):=by intro b;rw [I];cases ad <;> simp [Y5]
 have F:∀ x o,ls ((k,Obj.arr es 0 f')::(i,.box false (cs.set j (.own k)))::S0) x=some o->(x=k/\o=.arr es 0 f')\/(x=i/\o=.box false (cs.set j (.own k)))\/(x≠k/\x≠i/\ls ((i,Obj.box false cs)::S0) x=some o):=by
  intro x o c;rw [U5] at c
  by_cases m:x=k
  ·rw [if_pos m] at c;cases c;exact .inl ⟨m,rfl⟩
  ·rw [if_neg m,U5] at c
   by_cases A:x=i
   ·rw [if_pos A] at c;cases c;exact .inr (.inl ⟨A,rfl⟩)
   ·rw [if_neg A] at c
    exact .inr (.inr ⟨m,A,by rw [U5,if_neg A];exact c⟩)
 have r:∀ x o,ls ((k,Obj.arr es 0 f')::(i,.box false (cs.set j (.own k)))::S0) x=some o->x≠k->∃ T,ls ((i,Obj.box false cs)::S0) x=some T /\ T.ro=o.ro:=by
  intro x o c g;rcases F x o c with ⟨m,_⟩|⟨m,A⟩|⟨_,_,N⟩
  ·exact absurd m g
  ·subst m;subst A;exact ⟨_,G,rfl⟩
  ·exact ⟨o,N,rfl⟩
 have W:∀ b,Own (ls ((k,Obj.arr es 0 f')::(i,.box false (cs.set j (.own k)))::S0)) η' b->Own (ls ((i,Obj.box false cs)::S0)) η b:=by
  rintro b ⟨x,o,c,v⟩
  by_cases g:x=k
  ·subst g;exact absurd v (n b)
  ·obtain ⟨T,m,_⟩:=r x o c g
   exact ⟨x,T,m,by rw [<-l x g];exact v⟩
 have Z:Q7b w w (XS C (ls ((i,Obj.box false cs)::S0)) η) (XS C (ls ((k,Obj.arr es 0 f')::(i,.box false (cs.set j (.own k)))::S0)) η'):=by
  intro b O hn;refine ⟨rfl,fun c=>?_⟩
  rcases c with c|c
  ·exact hn (.inl c)
  ·exact hn (.inr (W b c))
 refine hk (fun x=>R x\/x=k) η' a w ⟨B.ok,B.df,B.sz,fun u=>(B.ev u).mono Z fun x c=>l x (hE u x c),fun u x c=>.inl (B.er u x c),fun x o c=>?_,fun x o c=>?_,fun x y b c D v M=>?_,fun x o b c O=>?_,B.fr,fun x u c=>?_⟩
 ·rcases F x o c with ⟨rfl,rfl⟩|⟨rfl,rfl⟩|⟨m,A,N⟩
  ·rw [I];exact .nil _ _ _
  ·rw [l x a0,hη0]
   refine .box b0 false c' e' _ hb0 ⟨by rw [hcs.1];simp,fun q hq=>?_⟩;have H : q<cs.length:=by simpa using hq
   by_cases hqj:q=j
   ·subst hqj
    have:(cs.set q (.own k)).getD q (.d .any)=.own k:=by simp [List.getD_eq_getElem?_getD,H]
    rw [this,hv];exact .own _ _ I.symm rfl
   ·have:(cs.set j (.own k)).getD q (.d .any)=cs.getD q (.d .any):=by
     simp [List.getD_eq_getElem?_getD,List.getElem?_set,Ne.symm hqj]
    rw [this];refine (hcs.2 q H).mono Z fun y D=>l y ((hS x _ G).2 y ?_)
    exact List.mem_flatMap.2 ⟨_,Q0I H,D⟩
  ·rw [l x m]
   exact (B.st x o N).mono Z (fun y D=>l y ((hS x o N).2 y D)) fun _ _=>rfl
 ·rcases F x o c with ⟨rfl,rfl⟩|⟨rfl,rfl⟩|⟨m,A,N⟩
  ·exact ⟨.inr rfl,by simp [Obj.refs]⟩
  ·have:=B.sr x _ G
   refine ⟨.inl this.1,fun y D=>?_⟩;obtain ⟨z,hz,Y⟩:=List.mem_flatMap.1 D
   rcases List.mem_or_eq_of_mem_set hz with h4|h4
   ·exact .inl (this.2 y (List.mem_flatMap.2 ⟨z,h4,Y⟩))
   ·subst h4
    exact .inr (by simpa [CV.refs] using Y)
  ·have:=B.sr x o N
   exact ⟨.inl this.1,fun y D=>.inl (this.2 y D)⟩
 ·obtain ⟨ox,c⟩:=Option.ne_none_iff_exists'.1 c
  obtain ⟨oy,D⟩:=Option.ne_none_iff_exists'.1 D
  by_cases g:x=k
  ·subst g;exact absurd v (n b)
  ·by_cases hyk:y=k
   ·subst hyk;exact absurd M (n b)
   ·obtain ⟨o1,m,_⟩:=r x ox c g
    obtain ⟨o2,A,_⟩:=r y oy D hyk;rw [l x g] at v
    rw [l y hyk] at M;exact B.ds x y b (by rw [m];simp) (by rw [A];simp) v M
 ·by_cases g:x=k
  ·subst g;exact absurd O (n b)
  ·obtain ⟨T,m,A⟩:=r x o c g
   rw [l x g] at O;rw [<-A]
   exact B.ow x T b m O
 ·have g:x≠k:=by intro h;subst h;rw [U] at c;cases c
  have:=B.pn x u c
  exact ⟨by rw [l x g];exact this.1,.inl this.2⟩
end
end
theorem Q7.list {α:Type} [Emb α] {P:Program} {f:Nat} {args:List AVal} {r:List α} (h:Q7 P f args [] (.v (.c (.own 100))) [(100,AO r)]):Q7 P f args [] (AL r) []:=by
 intro w X η I G y A F t m;refine (h w X η I G y A F t m).mono fun e R q=>?_
 obtain ⟨v,η',M,l⟩:=q;refine ⟨v,η',M,?_⟩
 have g:∀ i o,ls ([]:List (Nat×Obj)) i=some o->False:=fun i o a=>by cases a
 have B:=l.objs 100 (AO r) (by rw [U5,if_pos rfl]);have O:v=η' 100:=by
  have:=l.res
  cases this with|v _ _ q=>cases q with|c _ _ q=>cases q with|own _ _ k _=>exact k
 have x:∀ b,b ∈ Y5 (η' 100)->¬ XS (J4 [] w X η) (ls []) η' b:=by
  intro b D N;have H:w.heap.size<=b:=by
   rcases l.ow 100 (AO r) b (by rw [U5,if_pos rfl]) D with ⟨k,_⟩|⟨i,o,a,_⟩|k
   ·cases k
   ·exact (g i o a).elim
   ·exact k
  rcases N with ⟨k,_⟩|⟨i,o,a,_⟩
  ·have:=G b k
   omega
  ·exact (g i o a).elim
 have p:∀ b,¬ XS (J4 [] w X η) (ls [(100,AO r)]) η' b->¬ XS (J4 [] w X η) (ls []) η' b:=by
  intro b k z;rcases z with z|⟨i,o,a,_⟩
  ·exact k (.inl z)
  ·exact (g i o a).elim
 refine ⟨l.stp,?_,fun i o a=>(g i o a).elim,fun i j b a=>?_,fun i o b a=>(g i o a).elim,l.pn⟩
 ·rw [O]
  refine .v _ _ (.c _ _ (.d _ _ ?_));show DRep _ _ _ (.lst r.length (LF r))
  unfold AO at B;generalize η' 100=u at B x
  generalize hn:r.length=n at B
  cases B with
  | nil ad=>exact .nil _ _ _
  | arr b n cap es c e f k z h3 h4 h5 h6 h7=>
   refine .lst b 0 n cap c e _ _ _ (x b (by simp [Y5];omega)) k h3 ?_ h6 fun i j a J=>?_
   ·rw [z,Nat.zero_add];exact Nat.mul_le_mul_right _ h3
   ·rw [Nat.zero_add]
    exact (h7 i j a J).mono fun b _ l=>⟨rfl,p b (by unfold AO;rw [hn];exact l)⟩
 ·exact absurd rfl a
section
def apP (es n:Nat) (f:Nat->List DVal) (w:World) (X:Nat->Prop) (u:Value):Prop:=
 (∃ ad,u=.tuple #[.slice ad n n]/\DRep w X (.slice ad n n) (.lst n f))\/∀ η C,ORep w X η C u (.arr es n f)
def AP {α:Type} [Emb α] (l:List α):Obj:=.ext (apP (Emb.es α) l.length (LF l))
theorem Y9e {w:World} {X:Nat->Prop} {η:Nat->Value} {C:Ctx} {v:Value} {es n:Nat} {f:Nat->List DVal} (h:ORep w X η C v (.arr es n f)) (η' : Nat->Value) (C' : Ctx):ORep w X η' C' v (.arr es n f):=by
 cases h with
 | nil ad=>exact .nil ad _ _
 | arr b _ cap _ c e _ h1 h2 h3 h4 h5 h6 h7=>exact .arr b _ cap _ c e _ h1 h2 h3 h4 h5 h6 h7
theorem Y4H (es n:Nat) (f:Nat->List DVal) (u:Value):Y2R (apP es n f) u:=by
 intro w g X i a b h;rcases h with ⟨c,e,d⟩|h
 ·exact .inl ⟨c,e,d.mono a⟩
 ·exact .inr fun η C=>(h η C).mono (η':=η) a (fun _ _=>rfl) b
theorem CLe.ap (k:Nat):CLe (.own k) (.ap k):=⟨fun w X η C v a=>by cases a with|own _ _ h h1=>exact .ap _ _ (.inl h.symm) h1,fun i b=>b⟩
theorem OLe.ap (es n:Nat) (f:Nat->List DVal):OLe (.arr es n f) (.ext (apP es n f)):=
 ⟨fun w X η C v a=>.ext _ _ (.inr fun η' C'=>Y9e a η' C') (Y4H es n f v) fun b c=>a.lt c,rfl,fun i d=>by cases d⟩
def sbC (k:Nat) (y:CV):CV->CV
 | .ap i=>if i=k then y else .ap i
 | x=>x
def TV.sb (k:Nat) (y:CV):TV->TV
 | .c x=>.c (sbC k y x)
 | .g xs=>.g (xs.map (sbC k y))
def AVal.sb (k:Nat) (y:CV):AVal->AVal
 | .any=>.any
 | .v x=>.v (x.sb k y)
 | .t xs=>.t (xs.map (TV.sb k y))
def Obj.sb (k:Nat) (y:CV):Obj->Obj
 | .box ro cs=>.box ro (cs.map (sbC k y))
 | o=>o
section
variable {w:World} {X X' : Nat->Prop} {η:Nat->Value} {C:Ctx} {k:Nat} {y:CV}
theorem CRep.sb {v:Value} {x:CV} (h:CRep w X η C v x) (hX:∀ b,¬ X b->¬ X' b) (hk:∀ v,CRep w X η C v (.ap k)->CRep w X' η C v y):CRep w X' η C v (sbC k y x):=by
 have a:Q7b w w X X':=fun b _ c=>⟨rfl,hX b c⟩
 cases x with
 | ap i=>
  simp only [sbC];split
  ·rename_i d;subst d;exact hk v h
  ·exact h.mono a fun _ _=>rfl
 | _=>exact h.mono a fun _ _=>rfl
theorem G9.sb {vs:Array Value} {cs:List CV} (h:G9 w X η C vs cs) (hX:∀ b,¬ X b->¬ X' b) (hk:∀ v,CRep w X η C v (.ap k)->CRep w X' η C v y):G9 w X' η C vs (cs.map (sbC k y)):=by
 refine ⟨by simpa using h.1,fun j c=>?_⟩;have a : j<cs.length:=by simpa using c
 have:=(h.2 j a).sb hX hk
 rw [List.getD_eq_getElem?_getD,List.getElem?_map,List.getElem?_eq_getElem a];rw [List.getD_eq_getElem?_getD,List.getElem?_eq_getElem a] at this
 exact this
theorem TRep.sb {v:Value} {x:TV} (h:TRep w X η C v x) (hX:∀ b,¬ X b->¬ X' b) (hk:∀ v,CRep w X η C v (.ap k)->CRep w X' η C v y):TRep w X' η C v (x.sb k y):=by
 cases h with
 | c _ _ h=>exact .c _ _ (h.sb hX hk)
 | g _ _ h=>exact .g _ _ (h.sb hX hk)
theorem ARep.sb {v:Value} {x:AVal} (h:ARep w X η C v x) (hX:∀ b,¬ X b->¬ X' b) (hk:∀ v,CRep w X η C v (.ap k)->CRep w X' η C v y):ARep w X' η C v (x.sb k y):=by
 cases h with
 | any=>exact .any v
 | v _ _ h=>exact .v _ _ (h.sb hX hk)
 | t us xs h1 h2=>
  refine .t us _ (by simpa using h1) fun j c=>?_
  have a : j<xs.length:=by simpa using c
  have:=(h2 j a).sb hX hk
  rw [List.getD_eq_getElem?_getD,List.getElem?_map,List.getElem?_eq_getElem a];rw [List.getD_eq_getElem?_getD,List.getElem?_eq_getElem a] at this
  exact this
theorem ORep.sb {v:Value} {o:Obj} (h:ORep w X η C v o) (hX:∀ b,¬ X b->¬ X' b) (hk:∀ v,CRep w X η C v (.ap k)->CRep w X' η C v y):ORep w X' η C v (o.sb k y):=by
 cases o with
 | box ro cs=>cases h with|box b _ c e _ h1 h2=>exact .box b ro c e _ h1 (h2.sb hX hk)
 | arr es n f=>exact h.mono (fun b _ a=>⟨rfl,hX b a⟩) (fun _ _=>rfl) fun _ _=>rfl
 | ext p=>exact h.mono (fun b _ a=>⟨rfl,hX b a⟩) (fun _ _=>rfl) fun _ _=>rfl
 | exr refs p=>exact h.mono (fun b _ a=>⟨rfl,hX b a⟩) (fun _ _=>rfl) fun _ _=>rfl
theorem CV.sb_refs (hy:∀ i ∈ y.refs,i=k) (x:CV):∀ j ∈ (sbC k y x).refs,j ∈ x.refs:=by
 cases x <;> simp only [sbC] <;> try exact fun j a=>a
 split
 ·rename_i b;intro j a;rw [hy j a,b];simp [CV.refs]
 ·exact fun j a=>a
theorem TV.sb_refs (hy:∀ i ∈ y.refs,i=k) (x:TV):∀ j ∈ (x.sb k y).refs,j ∈ x.refs:=by
 cases x with
 | c x=>exact CV.sb_refs hy x
 | g xs=>exact Q4s (CV.sb_refs hy)
theorem AVal.sb_refs (hy:∀ i ∈ y.refs,i=k) (x:AVal):∀ j ∈ (x.sb k y).refs,j ∈ x.refs:=by
 cases x with
 | any=>exact fun j a=>a
 | v x=>exact TV.sb_refs hy x
 | t xs=>exact Q4s (TV.sb_refs hy)
theorem Obj.sb_refs (hy:∀ i ∈ y.refs,i=k) (o:Obj):∀ j ∈ (o.sb k y).refs,j ∈ o.refs:=by
 cases o with
 | box ro cs=>exact Q4s (CV.sb_refs hy)
 | arr es n f=>exact fun j a=>a
 | ext p=>exact fun j a=>a
 | exr refs p=>exact fun j a=>a
theorem Obj.sb_ro (o:Obj):(o.sb k y).ro=o.ro:=by cases o <;> rfl
end
section
variable {P:Program} {C:Ctx} {nt:Nat} {L:Lay} {pins:List Nat} {K:Act->World->Prop} {E:List (Nat×AVal)} {S:List (Nat×Obj)}
theorem Conc.sb {R:Nat->Prop} {η:Nat->Value} {a:Act} {w:World} {S0:List (Nat×Obj)} {k:Nat} {y:CV} (hc:Conc C nt R η (lk E) (ls S0) a w) (s' : Sto) (hy:∀ i ∈ y.refs,i=k)
  (hs:∀ i o',s' i=some o' -> ∃ o,ls S0 i=some o/\(o'=o.sb k y\/(o'.refs=[]/\o'.ro=o.ro/\ORep w (XS C s' η) η C (η i) o')))
  (hrep:∀ v,CRep w (XS C (ls S0) η) η C v (.ap k)->CRep w (XS C s' η) η C v y):Conc C nt R η (lk (E.map fun p=>(p.1,p.2.sb k y))) s' a w:=by
 have r:∀ b,¬ XS C (ls S0) η b->¬ XS C s' η b:=by
  intro b l q;rcases q with q|⟨i,o',c,n⟩
  ·exact l (.inl q)
  ·obtain ⟨o,d,_⟩:=hs i o' c
   exact l (.inr ⟨i,o,d,n⟩)
 have m:∀ i,s' i≠none->ls S0 i≠none:=by
  intro i c;obtain ⟨o',c⟩:=Option.ne_none_iff_exists'.1 c
  obtain ⟨o,d,_⟩:=hs i o' c;rw [d];simp
 refine ⟨hc.ok,hc.df,hc.sz,fun t=>?_,fun t i c=>?_,fun i o' c=>?_,fun i o' c=>?_,fun i j b c f=>hc.ds i j b (m i c) (m j f),fun i o' b c l=>?_,hc.fr,hc.pn⟩
 ·rw [Y3r (g:=AVal.sb k y) rfl];exact (hc.ev t).sb r hrep
 ·rw [Y3r (g:=AVal.sb k y) rfl] at c;exact hc.er t i (AVal.sb_refs hy _ i c)
 ·obtain ⟨o,d,h|⟨_,_,h⟩⟩:=hs i o' c
  ·rw [h];exact (hc.st i o d).sb r hrep
  ·exact h
 ·obtain ⟨o,d,h|⟨h,_,_⟩⟩:=hs i o' c
  ·have:=hc.sr i o d
   exact ⟨this.1,fun j f=>this.2 j (by rw [h] at f;exact Obj.sb_refs hy o j f)⟩
  ·exact ⟨(hc.sr i o d).1,fun j f=>by rw [h] at f;cases f⟩
 ·obtain ⟨o,d,h|⟨_,h,_⟩⟩:=hs i o' c
  ·have:=hc.ow i o b d l
   rw [h,Obj.sb_ro];exact this
  ·have:=hc.ow i o b d l
   rw [h];exact this
theorem Z1P {k es n:Nat} {f:Nat->List DVal} (hk:(S.map (·.1)).contains k=false)
  (h1:Kn C nt (E.map fun p=>(p.1,p.2.sb k (.own k))) ((k,.arr es n f)::S.map fun p=>(p.1,p.2.sb k (.own k))) K)
  (h2:Kn C nt (E.map fun p=>(p.1,p.2.sb k (.fl n f))) (S.map fun p=>(p.1,p.2.sb k (.fl n f))) K):Kn C nt E ((k,.ext (apP es n f))::S) K:=by
 intro R η a w G;have t:ls ((k,.ext (apP es n f))::S) k=some (.ext (apP es n f)):=by rw [U5,if_pos rfl]
 have H:ls S k=none:=by
  cases g:ls S k with
  | none=>rfl
  | some o=>
   have:k ∈ S.map (·.1):=List.mem_map.2 ⟨_,U4 g,rfl⟩
   rw [List.contains_iff_mem.2 this] at hk;cases hk
 have j:∀ i o,ls S i=some o->ls ((k,.ext (apP es n f))::S) i=some o:=by
  intro i o c;have D:i≠k:=by intro h;rw [h,H] at c;cases c
  rw [U5,if_neg D];exact c
 have z:=G.st k _ t;have A:apP es n f w (XS C (ls ((k,.ext (apP es n f))::S)) η) (η k):=by
  generalize η k=u at z
  cases z with|ext _ _ h _ _=>exact h
 rcases A with ⟨J,e,I⟩|g
 ·refine h2 R η a w (G.sb _ (by simp [CV.refs]) (fun i F c=>?_) fun v d=>?_)
  ·rw [Z3v] at c
   cases g:ls S i with
   | none=>rw [g] at c;cases c
   | some o=>rw [g] at c;cases c;exact ⟨o,j i o g,.inl rfl⟩
  ·have B:∀ b,¬ XS C (ls ((k,.ext (apP es n f))::S)) η b->¬ XS C (ls (S.map fun p=>(p.1,p.2.sb k (.fl n f)))) η b:=by
    intro b m r;rcases r with r|⟨i,F,c,q⟩
    ·exact m (.inl r)
    ·rw [Z3v] at c
     cases g:ls S i with
     | none=>rw [g] at c;cases c
     | some o=>exact m (.inr ⟨i,o,j i o g,q⟩)
   cases d with|ap _ _ d h1=>
   rw [e] at d;rcases d with rfl|d|⟨l,d⟩
   ·cases h1
   ·cases d;exact .fl _ _ _ (I.mono fun b _ m=>⟨rfl,B b m⟩)
   ·cases d
 ·have B:∀ b,¬ XS C (ls ((k,.ext (apP es n f))::S)) η b->¬ XS C (ls ((k,.arr es n f)::S.map fun p=>(p.1,p.2.sb k (.own k)))) η b:=by
   intro b m r;rcases r with r|⟨i,F,c,q⟩
   ·exact m (.inl r)
   ·rw [U5] at c
    split at c
    ·rename_i x;subst x;exact m (.inr ⟨i,_,t,q⟩)
    ·rw [Z3v] at c
     cases g:ls S i with
     | none=>rw [g] at c;cases c
     | some o=>exact m (.inr ⟨i,o,j i o g,q⟩)
  refine h1 R η a w (G.sb _ (by simp [CV.refs]) (fun i F c=>?_) fun v d=>?_)
  ·rw [U5] at c
   split at c
   ·rename_i x
    cases c
    subst x;exact ⟨_,t,.inr ⟨rfl,rfl,(g η C).mono (fun b _ m=>⟨rfl,B b m⟩) (fun _ _=>rfl) fun _ _=>rfl⟩⟩
   ·rw [Z3v] at c
    cases ho' : ls S i with
    | none=>rw [ho'] at c;cases c
    | some o=>rw [ho'] at c;cases c;exact ⟨o,j i o ho',.inl rfl⟩
  ·cases d with|ap _ _ d h1=>
   have:=g η C
   rcases d with d|d|⟨l,d⟩
   ·exact .own _ _ d.symm h1
   ·rw [d] at this;cases this
   ·rw [d] at this;cases this
theorem Y5U (Fm:Fr P L C pins) {S0:List (Nat×Obj)} {ro:Bool} {i k es n j:Nat} {cs:List CV} {f:Nat->List DVal} (hp:pins.contains k=false)
  (hfr:((E.flatMap fun p=>p.2.refs)++(((i,Obj.box ro cs)::S0).flatMap fun p=>p.1::p.2.refs)).contains k=false) (hj:j<cs.length) (hc0:cs.getD j (.d .any)=.fl n f)
  (hk:Kn C nt E ((k,.ext (apP es n f))::(i,.box ro (cs.set j (.ap k)))::S0) K):Kn C nt E ((i,.box ro cs)::S0) K:=by
 intro R η a w D;have H:ls ((i,Obj.box ro cs)::S0) i=some (.box ro cs):=by rw [U5,if_pos rfl]
 have W:=D.st i _ H;obtain ⟨b0,c',e',hη0,hb0,hcs⟩:∃ b c' e',η i=.pointer (some ⟨b,0,none⟩)/\w.heap[b]?=some (.cells c' e' (0,0))/\G9 w (XS C (ls ((i,Obj.box ro cs)::S0)) η) η C c' cs:=by
  generalize η i=u at W
  cases W with|box b _ c' e' _ I h=>exact ⟨b,c',e',rfl,I,h⟩
 obtain ⟨ad,hv,hdr⟩:∃ ad,c'.getD j undef=.slice ad n n/\DRep w (XS C (ls ((i,Obj.box ro cs)::S0)) η) (.slice ad n n) (.lst n f):=by
  have:=hcs.2 j hj
  rw [hc0] at this;generalize c'.getD j undef=u at this
  cases this with|fl ad _ _ h=>exact ⟨ad,rfl,h⟩
 have V:C.pin k=none:=by
  rcases hq:C.pin k with _|u
  ·rfl
  ·have:=Fm.pin k (by rw [hq];simp)
   rw [List.contains_iff_mem.2 this] at hp;cases hp
 have N:∀ x ∈ (E.flatMap fun p=>p.2.refs)++(((i,Obj.box ro cs)::S0).flatMap fun p=>p.1::p.2.refs),x≠k:=by
  intro x c he;subst he
  rw [List.contains_iff_mem.2 c] at hfr;cases hfr
 have hS:∀ x o,ls ((i,Obj.box ro cs)::S0) x=some o->x≠k/\∀ y ∈ o.refs,y≠k:=by
  intro x o c;have hm:=U4 c
  exact ⟨N x (List.mem_append.2 (.inr (List.mem_flatMap.2 ⟨_,hm,by simp⟩))),fun y F=>N y (List.mem_append.2 (.inr (List.mem_flatMap.2 ⟨_,hm,by simp [F]⟩)))⟩
 have a1:i≠k:=(hS i _ H).1;have hE:∀ u x,x ∈ (lk E u).refs->x≠k:=by
  intro u x c;rcases Z8V (E:=E) (t:=u) with h0|h0
  ·rw [h0] at c;cases c
  ·exact N x (List.mem_append.2 (.inl (List.mem_flatMap.2 ⟨_,h0,c⟩)))
 let η' : Nat->Value:=fun x=>if x=k then .tuple #[.slice ad n n] else η x
 have l : ∀ x,x≠k->η' x=η x:=fun x c=>by show (if x=k then Value.tuple #[.slice ad n n] else η x)=_;rw [if_neg c]
 have M:η' k=.tuple #[.slice ad n n]:=by show (if k=k then Value.tuple #[.slice ad n n] else η k)=_;rw [if_pos rfl]
 have r:∀ b,b ∉ Y5 (η' k):=by intro b;rw [M];simp [Y5]
 have G:∀ x o,ls ((k,Obj.ext (apP es n f))::(i,.box ro (cs.set j (.ap k)))::S0) x=some o->(x=k/\o=.ext (apP es n f))\/(x=i/\o=.box ro (cs.set j (.ap k)))\/(x≠k/\x≠i/\ls ((i,Obj.box ro cs)::S0) x=some o):=by
  intro x o c;rw [U5] at c
  by_cases m:x=k
  ·rw [if_pos m] at c;cases c;exact .inl ⟨m,rfl⟩
  ·rw [if_neg m,U5] at c
   by_cases B:x=i
   ·rw [if_pos B] at c;cases c;exact .inr (.inl ⟨B,rfl⟩)
   ·rw [if_neg B] at c
    exact .inr (.inr ⟨m,B,by rw [U5,if_neg B];exact c⟩)
 have v:∀ x o,ls ((k,Obj.ext (apP es n f))::(i,.box ro (cs.set j (.ap k)))::S0) x=some o->x≠k->∃ U,ls ((i,Obj.box ro cs)::S0) x=some U /\ U.ro=o.ro:=by
  intro x o c g;rcases G x o c with ⟨m,_⟩|⟨m,B⟩|⟨_,_,T⟩
  ·exact absurd m g
  ·subst m;subst B;exact ⟨_,H,rfl⟩
  ·exact ⟨o,T,rfl⟩
 have Y:∀ b,Own (ls ((k,Obj.ext (apP es n f))::(i,.box ro (cs.set j (.ap k)))::S0)) η' b->Own (ls ((i,Obj.box ro cs)::S0)) η b:=by
  rintro b ⟨x,o,c,A⟩
  by_cases g:x=k
  ·subst g;exact absurd A (r b)
  ·obtain ⟨U,m,_⟩:=v x o c g
   exact ⟨x,U,m,by rw [<-l x g];exact A⟩
 have hX:Q7b w w (XS C (ls ((i,Obj.box ro cs)::S0)) η) (XS C (ls ((k,Obj.ext (apP es n f))::(i,.box ro (cs.set j (.ap k)))::S0)) η'):=by
  intro b I hn;refine ⟨rfl,fun c=>?_⟩
  rcases c with c|c
  ·exact hn (.inl c)
  ·exact hn (.inr (Y b c))
 refine hk (fun x=>R x\/x=k) η' a w ⟨D.ok,D.df,D.sz,fun u=>(D.ev u).mono hX fun x c=>l x (hE u x c),fun u x c=>.inl (D.er u x c),fun x o c=>?_,fun x o c=>?_,fun x y b c F A O=>?_,fun x o b c I=>?_,D.fr,fun x u c=>?_⟩
 ·rcases G x o c with ⟨rfl,rfl⟩|⟨rfl,rfl⟩|⟨m,B,T⟩
  ·refine .ext _ _ ?_ (Y4H es n f _) (fun b I=>absurd I (r b))
   rw [M];exact .inl ⟨ad,rfl,hdr.mono hX⟩
  ·rw [l x a1,hη0]
   refine .box b0 ro c' e' _ hb0 ⟨by rw [hcs.1];simp,fun q hq=>?_⟩;have J : q<cs.length:=by simpa using hq
   by_cases hqj:q=j
   ·subst hqj
    have:(cs.set q (.ap k)).getD q (.d .any)=.ap k:=by simp [List.getD_eq_getElem?_getD,J]
    rw [this,hv];exact .ap _ _ (.inr (.inl M)) rfl
   ·have:(cs.set j (.ap k)).getD q (.d .any)=cs.getD q (.d .any):=by
     simp [List.getD_eq_getElem?_getD,List.getElem?_set,Ne.symm hqj]
    rw [this];refine (hcs.2 q J).mono hX fun y F=>l y ((hS x _ H).2 y ?_)
    exact List.mem_flatMap.2 ⟨_,Q0I J,F⟩
  ·rw [l x m]
   exact (D.st x o T).mono hX (fun y F=>l y ((hS x o T).2 y F)) fun _ _=>rfl
 ·rcases G x o c with ⟨rfl,rfl⟩|⟨rfl,rfl⟩|⟨m,B,T⟩
  ·exact ⟨.inr rfl,by simp [Obj.refs]⟩
  ·have:=D.sr x _ H
   refine ⟨.inl this.1,fun y F=>?_⟩;obtain ⟨z,hz,Z⟩:=List.mem_flatMap.1 F
   rcases List.mem_or_eq_of_mem_set hz with h4|h4
   ·exact .inl (this.2 y (List.mem_flatMap.2 ⟨z,h4,Z⟩))
   ·subst h4
    exact .inr (by simpa [CV.refs] using Z)
  ·have:=D.sr x o T
   exact ⟨.inl this.1,fun y F=>.inl (this.2 y F)⟩
 ·obtain ⟨ox,c⟩:=Option.ne_none_iff_exists'.1 c
  obtain ⟨oy,F⟩:=Option.ne_none_iff_exists'.1 F
  by_cases g:x=k
  ·subst g;exact absurd A (r b)
  ·by_cases hyk:y=k
   ·subst hyk;exact absurd O (r b)
   ·obtain ⟨o1,m,_⟩:=v x ox c g
    obtain ⟨o2,B,_⟩:=v y oy F hyk;rw [l x g] at A
    rw [l y hyk] at O;exact D.ds x y b (by rw [m];simp) (by rw [B];simp) A O
 ·by_cases g:x=k
  ·subst g;exact absurd I (r b)
  ·obtain ⟨U,m,B⟩:=v x o c g
   rw [l x g] at I;rw [<-B]
   exact D.ow x U b m I
 ·have g:x≠k:=by intro h;subst h;rw [V] at c;cases c
  have:=D.pn x u c
  exact ⟨by rw [l x g];exact this.1,.inl this.2⟩
end
end
section
section
variable {P:Program} {C:Ctx} {nt:Nat} {L:Lay} {ops:Array Oper} {ds:List Dir} {e:Env} {s:Sto}
def Y5K (caps:List Nat):List AVal:=caps.map fun c=>.v (.c (.ptr c 0))
theorem Y6S {f:Nat} (hcall:∀ args w,(callFunc f args).run P w=.ok (.enter f args) w) {o:Oper} {fx:Operand} {xs:Array Operand} {tys:Array TypeId} (hop:o.op=.call { callee:=.value fx,args:=xs,argTypes:=tys })
  {args:List AVal} {Si:List (Nat×Obj)} {r:AVal} {So:List (Nat×Obj)} {m:Nat->Nat} {caps:List Nat} (hfx:aev e fx=.v (.c (.clo f (caps.map m)))) (hrf:Q5I (Q0h o++V4 ops o) fx=true)
  (hspec:Q7 P f (args++Y5K caps) Si r So) (hbox:∀ c ∈ caps,∃ ro cs,ls Si c=some (.box ro cs)) (hlen:xs.size=args.length) (extra:List Nat)
  (hargs:∀ j,j<args.length->y6 C nt e s Si m (Q0h o++V4 ops o) (Z1O e o++(Si.map (fun p=>m p.1)++extra)) (xs.toList.getD j (.const undef)) (args.getD j .any))
  (hsi:∀ p ∈ Si,∃ o1,s (m p.1)=some o1/\OLe o1 (p.2.ren m)) (hchk:Q6L m r Si So=true) (hdo:Q1E nt o=true) (hg:Q8o ops e o=some true):StT P C nt ops o (Y3y ops o e m extra r Si So) e s:=by
 intro R η e0 G a w B q a1 n K Q hK;have hw:=Q5A (e:=e) n (fun t ht=>B t (List.mem_append.2 (.inr ht))) hg
 rw [if_pos hw];have N:=(W2 n fx).1
 rw [J2 B hrf,hfx] at N;have I:=Z8o N
 have a4:=Z5R (w:=w) hop I hcall;have g:∀ p ∈ Si,∃ o1,G (m p.1)=some o1/\OLe o1 (p.2.ren m):=by
  intro p hp;rw [q (m p.1) (List.mem_append.2 (.inr (List.mem_append.2 (.inl (List.mem_map.2 ⟨p,hp,rfl⟩)))))]
  exact hsi p hp
 simp only [Q6L,Bool.and_eq_true] at hchk;have F:=hchk
 obtain ⟨⟨⟨⟨⟨⟨⟨⟨⟨c1,c2⟩,c3⟩,c4⟩,c5⟩,c6⟩,c7⟩,c8⟩,c9⟩,b6⟩:=hchk;have H:∀ b,XS C G η b->b<w.heap.size:=by
  rintro b (⟨hx,_⟩|hx)
  ·exact Nat.lt_of_lt_of_le (n.ok.lt b hx) n.fr.size
  ·exact n.lt hx
 have O:∀ i l,ls Si i=some l -> l.noSem=true:=fun i l h=>List.all_eq_true.1 c7 _ (U4 h)
 have x:∀ i l,ls Si i=some l -> ORep w (XS C G η) (fun i=>η (m i)) (J4 Si w (XS C G η) fun i=>η (m i)) (η (m i)) l:=fun i l h=>by
  obtain ⟨o1,J,a2⟩:=g _ (U4 h);exact (ORep.unren (a2.1 _ _ _ _ _ (n.st _ o1 J))).ctx (O i l h)
 have a0:=hspec w (XS C G η) (fun i=>η (m i)) (xs.map a.eval++((caps.map m).map η).toArray) H
  (fun b ⟨i,l,h,hib⟩=>by obtain ⟨o1,J,_⟩:=g _ (U4 h);exact .inr ⟨m i,o1,J,hib⟩)
  x
  (fun i j b h z V Y=>by
   obtain ⟨oi,h⟩:=Option.ne_none_iff_exists'.1 h;obtain ⟨oj,z⟩:=Option.ne_none_iff_exists'.1 z
   obtain ⟨o1,J,_⟩:=g _ (U4 h);obtain ⟨o2,h2,_⟩:=g _ (U4 z)
   have M:m i=m j:=n.ds _ _ b (by rw [J];simp) (by rw [h2];simp) V Y;have n3:=Q4y c3
   rw [List.nodup_append] at n3;exact Y5w (ρ:=m) n3.2.1 (by rw [h];simp) (by rw [z];simp) M)
  (by simp [hlen,Y5K])
  (fun j z=>by
   rw [List.length_append] at z
   by_cases hja:j<args.length
   ·have T : j<xs.size:=by omega
    have Z:(xs.map a.eval++((caps.map m).map η).toArray).getD j undef=a.eval (xs.toList.getD j (.const undef)):=by
     simp [List.getD_eq_getElem?_getD,T,Array.getD_eq_getD_getElem?,Array.getElem?_append]
    have e2:(args++Y5K caps).getD j .any=args.getD j .any:=by simp [List.getD_eq_getElem?_getD,List.getElem?_append,hja]
    rw [Z,e2];exact hargs j hja R η e0 G a w B q n
   ·have A:j-args.length<caps.length:=by simp [Y5K] at z;omega
    have g1:¬ j<xs.size:=by omega
    have g2:j-xs.size=j-args.length:=by omega
    have Z:(xs.map a.eval++((caps.map m).map η).toArray).getD j undef=η (m (caps.getD (j-args.length) 0)):=by
     simp [Array.getD_eq_getD_getElem?,Array.getElem?_append,g1,g2,A,List.getD_eq_getElem?_getD]
    have e2:(args++Y5K caps).getD j .any=.v (.c (.ptr (caps.getD (j-args.length) 0) 0)):=by
     simp [List.getD_eq_getElem?_getD,List.getElem?_append,hja,Y5K,A]
    rw [Z,e2];obtain ⟨ro,cs,W⟩:=hbox _ (Q0I (d:=0) A)
    have:=x _ _ W
    generalize hu:η (m (caps.getD (j-args.length) 0))=u at this
    cases this with|box b _ c e' _ _ _=>exact .v _ _ (.c _ _ (.ptr b _ 0 hu)))
 unfold Oper.wp;rw [a4]
 show Calls P f _ w _;refine a0.mono fun en w' hh=>?_
 obtain ⟨v,η',rfl,W⟩:=hh;have D:Q6L m r Si So=true:=by simp only [Q6L,Bool.and_eq_true];exact F
 obtain ⟨η1,U⟩:=n.call (Q5w hdo) D g a1 W;exact hK η1 _ w' U
def Y5v (f:Nat) (ids:List Nat):AVal->Bool
 | .v (.c (.clo g is))=>g==f&&is==ids
 | _=>false
theorem Y7n {f:Nat} {ids:List Nat} {x:AVal} (h:Y5v f ids x=true):x=.v (.c (.clo f ids)):=by
 unfold Y5v at h;split at h
 ·rename_i g a;simp at h;rw [h.1,h.2]
 ·cases h
def Y8X (Si:List (Nat×Obj)) (caps:List Nat):Bool:=caps.all fun c=>match ls Si c with|some (.box _ _)=>true|_=>false
theorem Y7x {Si:List (Nat×Obj)} {caps:List Nat} (h:Y8X Si caps=true):∀ c ∈ caps,∃ ro cs,ls Si c=some (.box ro cs):=by
 intro c a;have:=List.all_eq_true.1 h c a
 split at this
 ·rename_i ro cs b;exact ⟨ro,cs,b⟩
 ·cases this
def Y8V (ops:Array Oper) (nt:Nat) (e:Env) (o:Oper) (f:Nat) (m:List (Nat×Nat)) (caps:List Nat) (r:AVal) (Si So:List (Nat×Obj)):Bool:=
 Z9b o&&Y5v f (caps.map (W9 m)) (aev e (callX o))&&Q5I (Q0h o++V4 ops o) (callX o)&&Q6L (W9 m) r Si So&&Q1E nt o&&(Q8o ops e o==some true)&&Y8X Si caps
theorem Z5W {k:Nat} {f:Nat} {args:List AVal} {Si:List (Nat×Obj)} {r:AVal} {So:List (Nat×Obj)} {caps:List Nat} (hspec:Q7 P f (args++Y5K caps) Si r So) (hcall:∀ args w,(callFunc f args).run P w=.ok (.enter f args) w) (m:List (Nat×Nat))
  (hk:Q2f ds k=cE m [] r Si So) (hq:(Y8V ops nt (W6 L ops ops.toList ds e s k) (Y6 ops.toList k) f m caps r Si So,Si.map (fun p=>Q2o L ops ops.toList ds e s k (W9 m p.1)),
   (Go.Ab.callXs (Y6 ops.toList k)).toList.all (Q5I (Q0h (Y6 ops.toList k)++V4 ops (Y6 ops.toList k)))&&args.all AVal.noSem,(Go.Ab.callXs (Y6 ops.toList k)).toList.map (aev (W6 L ops ops.toList ds e s k)))
   = (true,Si.map (fun p=>some (p.2.ren (W9 m))),true,args.map (AVal.ren (W9 m)))):KAt P C nt L ops ds e s k:=by
 unfold KAt;rw [hk]
 have d:=congrArg (·.1) hq;have c:=congrArg (·.2.1) hq
 have b:=congrArg (·.2.2.1) hq;have a:=congrArg (·.2.2.2) hq
 simp only at d c b a;simp only [Y8V,Bool.and_eq_true] at d
 obtain ⟨⟨⟨⟨⟨⟨t,A⟩,u⟩,i⟩,x⟩,q⟩,h⟩:=d;obtain ⟨v,g⟩:=Z5M t
 rw [Bool.and_eq_true] at b;obtain ⟨z,o⟩:=(Z5D.plains (C:=C) (nt:=nt) (s:=Q2o L ops ops.toList ds e s k) (Si:=Si) (ids:=Z1O (W6 L ops ops.toList ds e s k) (Y6 ops.toList k)++(Si.map (fun p=>W9 m p.1)++[])) b.1 b.2 a).spec
 exact Y6S hcall g (Y7n A) u hspec (Y7x h) (by simpa using z) [] (fun j l=>o j l) (fun p n=>⟨_,Q1O c p n,OLe.refl _⟩) i x (by simpa using q)
end
end
section
open Go.Sort Go.Proofs Go.Shelf
section
variable {α:Type} [Emb α]
end
end
section
section
variable {P:Program} {C:Ctx} {nt:Nat} {L:Lay} {R:Nat->Prop} {η:Nat->Value} {e:Env} {s:Sto} {a:Act} {w:World}
theorem Snd.upd_le {o:Oper} {x:AVal} {id:Nat} {ob ob' : Obj} {c:Prop} (h:Snd P C nt R η e s a w o { v:=x,upd:=some (id,ob),cond:=c }) (hle:OLe ob ob'):Snd P C nt R η e s a w o { v:=x,upd:=some (id,ob'),cond:=c }:=by
 obtain ⟨v,n,p,g⟩:=h;refine ⟨v,n,p,?_⟩
 have d:∀ q i,SR.sto { v:=x,upd:=some (id,q),cond:=c } o.dst s i=if i=id then some q else s i:=by
  intro q i;unfold SR.sto
  simp
 have r:=g.conv (R':=SR.rng { v:=x,upd:=some (id,ob'),cond:=c } o.dst R) (e':=SR.env { v:=x,upd:=some (id,ob'),cond:=c } o.dst e) (s':=SR.sto { v:=x,upd:=some (id,ob'),cond:=c } o.dst s) (fun i=>i)
  (fun t=>by rw [AVal.ren_id];exact ALe.refl _) (fun i l f=>by
   rw [Obj.ren_id];rw [d] at f ⊢
   split at f
   ·rename_i b;cases f;exact ⟨ob,by rw [if_pos b],hle⟩
   ·rename_i b;exact ⟨l,by rw [if_neg b];exact f,OLe.refl _⟩) (fun i j _ _ h=>h) (fun t i f=>g.er t i f) (fun i l f=>by
   rw [d] at f;split at f
   ·rename_i b
    cases f
    have:=g.sr i ob (by rw [d,if_pos b])
    exact ⟨this.1,fun j m=>this.2 j (hle.2.2 j m)⟩
   ·rename_i b
    exact g.sr i l (by rw [d,if_neg b];exact f)) (fun i f=>⟨rfl,by
   obtain ⟨v,u⟩:=Option.ne_none_iff_exists'.1 f;exact (g.pn i v u).2⟩)
 exact r
variable {ops:Array Oper} {ds:List Dir} {k:Nat}
theorem KAt.upd (hL:LOk P L) {id:Nat} {ob ob' : Obj} {c:Prop} (hk:Q2f ds k=rE { v:=.any,upd:=some (id,ob') })
  (hdo:(Q1E nt (Y6 ops.toList k)&&(Q8o ops (W6 L ops ops.toList ds e s k) (Y6 ops.toList k)==some true))=true)
  (hr:Q9k L false (W6 L ops ops.toList ds e s k) (Q2o L ops ops.toList ds e s k) (Y6 ops.toList k)=some { v:=.any,upd:=some (id,ob),cond:=c }) (hc:c) (hle:OLe ob ob'):KAt P C nt L ops ds e s k:=by
 unfold KAt;rw [hk]
 simp only [Bool.and_eq_true,beq_iff_eq] at hdo;have h:∀ t x y,(Y6 ops.toList k).op=.store t x y->(Y6 ops.toList k).dst=none:=by
  intro t x y b;have:=hdo.1
  simp only [Q1E,b,Bool.and_eq_true] at this;simpa using this.2
 refine Z0G hdo.1 hdo.2 fun R η p n a w m f j i=>?_
 have g:=(Y1J (L:=L) (e:=W6 L ops ops.toList ds e s k) (s:=Q2o L ops ops.toList ds e s k) false (Y6 ops.toList k) m f).trans hr;exact (Y6N hL i false _ (fun x l=>Q5w hdo.1 x l) g hc (fun d o j=>absurd rfl j) h).upd_le hle
theorem Y4J (hL:LOk P L) {te:TI} {t:TypeId} (hT:slT L t te) {x y:Operand} {d n m:Nat} {f g:Nat->List DVal}
  (hk:Q2f ds k=rE { v:=.v (.c (.own d)),new:=some (.arr te.size (n+m) (Q5y n f g)) }) (hop:(Y6 ops.toList k).op=.call { callee:=.builtin .append,args:= #[x,y],argTypes:= #[t,t] })
  (hdo:(Q1E nt (Y6 ops.toList k)&&(Q8o ops (W6 L ops ops.toList ds e s k) (Y6 ops.toList k)==some true)&&(Y6 ops.toList k).dst==some d&&Nat.ble te.bytes 8192&&te.zero.length==te.size)=true)
  (hx:aev (W6 L ops ops.toList ds e s k) x=.v (.c (.fl n f))) (hy:asL (Q2o L ops ops.toList ds e s k) (aev (W6 L ops ops.toList ds e s k) y)=some (m,g)) (hm:0<m)
  (hlim:n+m<=LIM) (hgl:∀ j,j<m->(g j).length=te.size) (hfl:∀ j,j<n->(f j).length=te.size):KAt P C nt L ops ds e s k:=by
 unfold KAt;rw [hk]
 simp only [Bool.and_eq_true,beq_iff_eq] at hdo;obtain ⟨⟨⟨⟨B,J⟩,r⟩,F⟩,G⟩:=hdo
 obtain ⟨N,M,I,i,p⟩:=hT;refine Z0G B J fun R η A u a w z l H o=>?_
 have D:x ∈ (Y6 ops.toList k).op.operands.toList:=by rw [hop];simp [Op.operands,Call.operands]
 have b:y ∈ (Y6 ops.toList k).op.operands.toList:=by rw [hop];simp [Op.operands,Call.operands]
 have q:Z8t u te.size m (aev A x)=some ([],n,f,∀ j,j<n->(f j).length=te.size):=by
  rw [z x D,hx];simp only [Z8t]
  rw [if_pos (.inr hm)]
 have h:asL u (aev A y)=some (m,g):=by rw [z y b,Z9t (l y b)];exact hy
 exact Z6T hL o r (Q5w B d r) (H d r (by simp)) hop I i p h q hfl (Nat.le_of_ble_eq_true F) G hlim hgl
end
end
section
open Go.ChangeShapes Go.WideShapes Go.ChangeAt Go.RowKit
end
section
@[reducible] def ow (n:Nat):AVal:=.v (.c (.own n))
@[reducible] def pt (n:Nat):AVal:=.v (.c (.ptr n 0))
@[reducible] def bx (l:List CV):Obj:=.box false l
section
variable {P:Program} {C:Ctx} {nt:Nat} {L:Lay} {pins:List Nat} {E:List (Nat×AVal)} {S:List (Nat×Obj)} {Q:Exit->Act->World->Prop}
theorem W2b (Fm:Fr P L C pins) {id:Nat} {ops:Array Oper} {draw:Bool} (ds:List Dir) (c:(Nat->Prop)->Prop) (E' : List (Nat×AVal)) (S' : List (Nat×Obj)) (hc:c (KAt P C nt L ops ds (lk E) (ls S))) (k:Kn C nt E' S' (Q .normal))
  (h:(Z6l L pins nt ops draw ds E S [] S',Q7q P C nt L ops ops.toList ds (lk E) (ls S),E'.map (fun p=>Z2m ops.toList (Q1m L ops ops.toList ds (lk E) (ls S)) (lk E) p.1),S'.map (fun p=>Z2l (Q1m L ops ops.toList ds (lk E) (ls S)) (ls S) (W9 [] p.1)))
   = (true,c (KAt P C nt L ops ds (lk E) (ls S)),E'.map (fun p=>p.2.ren (W9 [])),S'.map (fun p=>some (p.2.ren (W9 [])))):=by kernel_rfl):AW P C nt (.region id ops draw) E S Q:=AW.g Fm ds c E' S' hc h k
theorem Y3D (Fm:Fr P L C pins) {id:Nat} {ops:Array Oper} {draw:Bool} {y:Code} (n:Nat) (E' : List (Nat×AVal)) (S' : List (Nat×Obj)) (k:AW P C nt y E' S' Q)
  (h:(Z6l L pins nt ops draw (ss n) E S [] S',Q7q P C nt L ops ops.toList (ss n) (lk E) (ls S),E'.map (fun p=>Z2m ops.toList (Q1m L ops ops.toList (ss n) (lk E) (ls S)) (lk E) p.1),S'.map (fun p=>Z2l (Q1m L ops ops.toList (ss n) (lk E) (ls S)) (ls S) (W9 [] p.1)))
   = (true,True,E'.map (fun p=>p.2.ren (W9 [])),S'.map (fun p=>some (p.2.ren (W9 [])))):=by kernel_rfl):AW P C nt (.seq (.region id ops draw) y) E S Q:=Y9s Fm n E' S' h k
variable {K:Act->World->Prop}
theorem Kn.R (Fm:Fr P L C pins) {E' : List (Nat×AVal)} {S' : List (Nat×Obj)} (h:Kn C nt E' S' K)
  (hq:(pins.all (fun i=>W9 [] i==i),E'.map (fun p=>lk E p.1),S'.map (fun p=>ls S (W9 [] p.1)),Q3m (S'.map fun p=>W9 [] p.1))=(true,E'.map (fun p=>p.2.ren (W9 [])),S'.map (fun p=>some (p.2.ren (W9 []))),true):=by kernel_rfl):Kn C nt E S K:=W1N Fm E' S' hq h
theorem Q1c (Fm:Fr P L C pins) (ρ:List (Nat×Nat)) {E' : List (Nat×AVal)} {S' : List (Nat×Obj)} (h:Kn C nt E' S' K) (hp:pins.all (fun i=>W9 ρ i==i)=true:=by kernel_rfl) (hE:E'.map (fun p=>lk E p.1)=E'.map (fun p=>p.2.ren (W9 ρ)):=by kernel_rfl)
  (hS:S'.map (fun p=>ls S (W9 ρ p.1))=S'.map (fun p=>some (p.2.ren (W9 ρ))):=by kernel_rfl) (hinj:Q3m (S'.map fun p=>W9 ρ p.1)=true:=by kernel_rfl):Kn C nt E S K:=Kn.re Fm ρ E' S' hp hE hS hinj h
theorem Kn.D (Fm:Fr P L C pins) {fn:Func} {r:AVal} {S' : List (Nat×Obj)} (hq:(Y7a L (lk E) (ls S) fn.results.toList,S'.map (fun p=>ls S p.1))=(some r,S'.map (fun p=>some p.2)):=by kernel_rfl):Kn C nt E S (Y5f P fn C r S' .ret):=Q3b Fm hq
end
section
variable {P:Program} {C:Ctx} {nt:Nat} {L:Lay} {ops:Array Oper} {ds:List Dir} {e:Env} {s:Sto}
theorem Q2 {k:Nat} {f:Nat} {args:List AVal} {Si:List (Nat×Obj)} {r:AVal} {So:List (Nat×Obj)} (hspec:Q7 P f args Si r So) (hcall:∀ args w,(callFunc f args).run P w=.ok (.enter f args) w) (m:List (Nat×Nat))
  (hk:Q2f ds k=cE m [] r Si So:=by rfl) (hq:(Go.Ab.callB ops nt (W6 L ops ops.toList ds e s k) (Y6 ops.toList k) f m r Si So,Si.map (fun p=>Q2o L ops ops.toList ds e s k (W9 m p.1)),
   (Go.Ab.callXs (Y6 ops.toList k)).toList.all (Q5I (Q0h (Y6 ops.toList k)++V4 ops (Y6 ops.toList k)))&&args.all AVal.noSem,(Go.Ab.callXs (Y6 ops.toList k)).toList.map (aev (W6 L ops ops.toList ds e s k)))
   = (true,Si.map (fun p=>some (p.2.ren (W9 m))),true,args.map (AVal.ren (W9 m))):=by kernel_rfl):KAt P C nt L ops ds e s k:=W1u hspec hcall m hk hq
end
section
variable {C:Ctx} {nt:Nat} {e:Env} {s:Sto}
theorem y6.p {Si:List (Nat×Obj)} {m:Nat->Nat} {rd ids:List Nat} {x:Operand} {y:AVal} (hx:Q5I rd x=true:=by kernel_rfl) (hle:aev e x=y.ren m:=by kernel_rfl) (hs:y.noSem=true:=by kernel_rfl):y6 C nt e s Si m rd ids x y:=y6.plain hx (ALe.of_eq hle) hs
end
end
section
open Go.Maps (Keyed)
open Go.WideElems (Fit rd rg pl rd_val elemAt)
open Go.ChangeMaps Go.MapKept
def W1U (ks:List Int):DataW Unit:=ks.foldl (fun D k=>D.put (.int .i64 k) (.lit (.bool true))) (.map [])
def Y2b (P:Program) (kT eT:TypeId) (ks:List Int) (w:World) (_:Nat->Prop) (v:Value):Prop:=∃ b,v=.map (some b)/\w.ownsMap P kT (plainElem P eT) b ks.length (W1U ks)
theorem Y7k {P:Program} {kT eT:TypeId} {ks:List Int} (v:Value):Y2R (Y2b P kT eT ks) v:=by
 intro w m X X' _ f g;obtain ⟨b,rfl,d,c,l,j,i,h⟩:=g
 exact ⟨b,rfl,d,c,(f b (by simp [Y5])).trans l,j,i,h⟩
end
section
section
variable {P:Program} {C:Ctx} {nt:Nat} {L:Lay} {R:Nat->Prop} {η:Nat->Value} {e:Env} {s:Sto} {a:Act} {w:World}
theorem Y7G {X:Nat->Prop} {v:Value} {n:Int} (h:ARep w X η C v (vi n)):v=.int .i64 n:=by
 cases h with|v _ _ hh=>cases hh with|c _ _ hh=>cases hh with|d _ _ hh=>cases hh;rfl
theorem Y4Y (h:Conc C nt R η e s a w) {o:Oper} {d:Nat} (hd:o.dst=some d) (hdn:d<nt) (hR:¬ R d) {p:World->(Nat->Prop)->Value->Prop} {v:Value} {w' : World}
  (hrun:(execOp a.eval o).run P w=.ok (.value v) w') (hstep:Stp (fun _=>False) w w') (hone:v.oneCell'=true) (hv:∀ b,b ∈ Y5 v->w.heap.size<=b) (hob:∀ X' η',ORep w' X' η' C v (.ext p)) :
  Snd P C nt R η e s a w o { v:=.v (.c (.own d)),new:=some (.ext p) }:=by
 have q:=Q5J (C:=C) (s:=s) (η:=η) { v:=.v (.c (.own d)),new:=some (.ext p) } o.dst v (fun _=>False) hstep (fun b f=>f.elim) (fun _ _ _ _ b f=>.inl (hv b f)) (fun k o l=>by cases l);refine ⟨v,w',.inl hrun,h.step o.dst (fun x n=>by rw [hd] at n;cases n;exact hdn) _ _ _ (fun _=>False) hstep (fun b f=>f.elim) ?_ (fun k o l=>by cases l) ?_⟩
 ·intro r dd i g
  cases i
  rw [hd] at g;cases g
  exact ⟨hR,rfl,by simp [Obj.refs],hob _ _,fun b f=>.inl (hv b f)⟩
 ·intro _
  refine ⟨.v _ _ (.c _ _ (.own _ _ (by simp [SR.eta,hd]) hone)),fun j m=>?_⟩;simp [AVal.refs,TV.refs,CV.refs] at m
  exact .inr ⟨by simp,by rw [hd,m]⟩
variable {ops:Array Oper} {ds:List Dir} {k:Nat}
theorem Y7A {kT eT t:TypeId} {d:Nat} (hk:Q2f ds k=rE { v:=.v (.c (.own d)),new:=some (.ext (Y2b P kT eT [])) }) (hop:(Y6 ops.toList k).op=.makeMap t none)
  (hdo:(Q1E nt (Y6 ops.toList k)&&(Q8o ops (W6 L ops ops.toList ds e s k) (Y6 ops.toList k)==some true)&&(Y6 ops.toList k).dst==some d)=true):KAt P C nt L ops ds e s k:=by
 unfold KAt;rw [hk]
 simp only [Bool.and_eq_true,beq_iff_eq] at hdo;obtain ⟨⟨i,m⟩,h⟩:=hdo
 refine Z0G i m fun R η p n a w o j l g=>?_
 refine Y4Y g h (Q5w i d h) (l d h (by simp)) (v:=.map (some w.heap.size)) (w':=w.alloc (.map #[] 0)) ?_ (Stp.alloc _ w _) rfl (fun b f=>by simp [Y5] at f;omega) fun X' η'=>?_
 ·simp [execOp,hop,Instr.makeMap]
 ·refine .ext _ _ ⟨_,rfl,World.ownsMap_made w P kT _⟩ (Y7k _) fun b f=>?_
  simp only [Y5,List.mem_singleton] at f;subst f
  show w.heap.size<(w.heap.push _).size;rw [Array.size_push];omega
end
end
section
open Go.Sort Go.Proofs Go.Shelf Go.Maps
end
section
section
variable {P:Program} {L:Lay}
end
section
variable {P:Program} {C:Ctx} {nt:Nat} {L:Lay} {ops:Array Oper} {ds:List Dir} {e:Env} {s:Sto}
end
end
section
open Go.Sort Go.Proofs Go.Shelf Go.Maps
end
section
def sAt (s:ByteArray) (i:Int):Int:=(((s[i.toNat]?).getD 0).toNat:Nat)
def sEq (a b:ByteArray):Bool:=a.toList==b.toList
def sLt (a b:ByteArray):Bool:=Op.bytesLess a.toList b.toList
def W0Z (op:BinOp) (a b:ByteArray):Option Bool:=
 match op with
 | .eql=>some (sEq a b)
 | .neq=>some (!sEq a b)
 | .lss=>some (sLt a b)
 | .leq=>some (sLt a b||sEq a b)
 | .gtr=>some (!(sLt a b||sEq a b))
 | .geq=>some (!sLt a b)
 | _=>none
section
variable {P:Program} {C:Ctx} {nt:Nat} {L:Lay} {ops:Array Oper} {ds:List Dir} {e:Env} {s:Sto}
theorem Z3R (op:BinOp) (t:TypeId) (x y:Operand) (a b:ByteArray) (w:World):(eqGuard op t x y (.string a) (.string b)).run P w=.ok () w:=by
 unfold eqGuard;split <;> rfl
theorem Y9N (op:BinOp) (t:TypeId) (a b:ByteArray) {c:Bool} (h:W0Z op a b=some c) (w:World):(binOp op t (.string a) (.string b)).run P w=.ok (.bool c) w:=by
 cases op <;> simp only [W0Z,Option.some.injEq,reduceCtorEq] at h <;> subst h <;> simp [binOp,Op.stringOp,sEq,sLt]
def Y1k (ops:Array Oper) (nt:Nat) (e:Env) (o:Oper) (x y:Operand):Bool:=Q5I (Q0h o++V4 ops o) x&&Q5I (Q0h o++V4 ops o) y&&Q1E nt o&&(Q8o ops e o==some true)
theorem Z8u {k:Nat} {op:BinOp} {t t' : TypeId} {x y:Operand} {a b:ByteArray} {c:Bool} (hk:Q2f ds k=sE (vb c)) (hop:(Y6 ops.toList k).op=.binOp op t x y t') (hb:Y1k ops nt (W6 L ops ops.toList ds e s k) (Y6 ops.toList k) x y=true)
  (hx:aev (W6 L ops ops.toList ds e s k) x=.v (.c (.d (.str a)))) (hy:aev (W6 L ops ops.toList ds e s k) y=.v (.c (.d (.str b)))) (hc:W0Z op a b=some c):KAt P C nt L ops ds e s k:=by
 unfold KAt;rw [hk]
 simp only [Y1k,Bool.and_eq_true,beq_iff_eq] at hb;obtain ⟨⟨⟨j,m⟩,n⟩,l⟩:=hb
 refine Z0V rfl n l fun R η q o p w g f=>?_
 have h:=(W2 f x).1;rw [J2 g j,hx] at h
 have h:=Z3p h;have i:=(W2 f y).1
 rw [J2 g m,hy] at i;have i:=Z3p i
 exact ⟨_,by simp only [execOp,hop,Sem.run_bind,h,i,Z3R,Y9N op t a b hc,Result.andThen_ok,Sem.run_pure],Z8q _ _⟩
theorem G8 {k:Nat} {t:TypeId} (ht:P.underlying t=some .string) {x y:Operand} {a:ByteArray} {m:Int} (hk:Q2f ds k=sE (.v (.c (.d (.int .u8 (sAt a m)))))) (hop:(Y6 ops.toList k).op=.index t x y) (hb:Y1k ops nt (W6 L ops ops.toList ds e s k) (Y6 ops.toList k) x y=true)
  (hx:aev (W6 L ops ops.toList ds e s k) x=.v (.c (.d (.str a)))) (hy:asI (aev (W6 L ops ops.toList ds e s k) y)=some m) (hc:0<=m/\m<((a.size:Nat):Int)):KAt P C nt L ops ds e s k:=by
 unfold KAt;rw [hk]
 simp only [Y1k,Bool.and_eq_true,beq_iff_eq] at hb;obtain ⟨⟨⟨j,p⟩,q⟩,l⟩:=hb
 refine Z0V rfl q l fun R η z r u w f b=>?_
 have g:=(W2 b x).1;rw [J2 f j,hx] at g
 have g:=Z3p g;rw [<-J2 f p] at hy
 obtain ⟨A,n⟩:=Z9u b hy;have h:m.toNat<a.size:=by omega
 have i:a[m.toNat]?=some a[m.toNat]:=by
  exact getElem?_pos a m.toNat h
 have o:sAt a m=((a[m.toNat].toNat:Nat):Int):=by unfold sAt;rw [i];rfl
 rw [o];refine ⟨.int .u8 (a[m.toNat].toNat:Nat),?_,Q4V _ _ _⟩
 simp [execOp,hop,g,n,Instr.index,asIntOf,run_underlying ht,hc.1,i]
end
theorem Is.subv {α:Type} [Emb α] {l:List α} {lo n:Nat} (h:lo+n<=l.length):Is n (fun j=>LF l (lo+j)) ((l.drop lo).take n):=by
 have c:((l.drop lo).take n).length=n:=by rw [List.length_take,List.length_drop];omega
 refine Is.of_gl _ c fun i b=>?_
 have e:gl l (lo+i)=gl ((l.drop lo).take n) i:=by simp [gl,List.getD_eq_getElem?_getD,b]
 show Emb.cells (gl l (lo+i))=_;rw [e]
end
section
open Go.MapKept
def MP {α:Type} [Emb α] (gs:List (Int×List α)):DVal:=.mp gs.length (fun i=>(gs.getD i (0,[])).1) fun i=>DL (gs.getD i (0,[])).2
def Y7D {α:Type} [Emb α] (w:World) (X:Nat->Prop) (x:MapEntry) (e:Int×List α):Prop:=x.key=.int .i64 e.1/\DRep w X x.val (DL e.2)
def itP {α:Type} [Emb α] (left:List (Int×List α)) (cur:Option (Int×List α)) (w:World) (X:Nat->Prop) (v:Value):Prop:=
 ∃ (r b:Nat) (es:Array MapEntry) (clock since:Nat) (seen:Array Nat) (c0:Nat),v=.pointer (some ⟨r,0,none⟩)/\w.heap[r]?=some (.mapIter (some b) since seen c0)/\¬ X b/\w.heap[b]?=some (.map es clock)/\Stamped es clock/\since<=c0/\since<=clock/\(∀ x ∈ es.toList,x.born<since) /\
  (leftOf es seen).size=left.length/\(∀ (i:Nat) (x:MapEntry) (e:Int×List α),(leftOf es seen)[i]?=some x->left[i]?=some e->Y7D w X x e) /\
  ∀ e,cur=some e->∃ x ∈ es.toList,∃ seen' : Array Nat,seen=seen'.push x.born/\c0=clock/\Y7D w X x e
theorem Y7D.mono {α:Type} [Emb α] {w w' : World} {X X' : Nat->Prop} {x:MapEntry} {e:Int×List α} (h:Y7D w X x e) (hk:Q7b w w' X X'):Y7D w' X' x e:=⟨h.1,h.2.mono hk⟩
theorem Y1o {α:Type} [Emb α] {left:List (Int×List α)} {cur:Option (Int×List α)} (v:Value):Y2R (itP left cur) v:=by
 intro w O X X' l q h;obtain ⟨r,b,p,d,c,f,J,rfl,N,M,o,u,B,t,z,A,F,m⟩:=h
 have n:=l b (K8 o) M;exact ⟨r,b,p,d,c,f,J,rfl,(q r (by simp [Y5])).trans N,n.2,n.1.trans o,u,B,t,z,A,fun i x e g j=>(F i x e g j).mono l,fun e j=>by
  obtain ⟨x,g,G,H,D,I⟩:=m e j;exact ⟨x,g,G,H,D,I.mono l⟩⟩
theorem Y8t {α:Type} [Emb α] (left:List (Int×List α)) (cur:Option (Int×List α)):OLe (.ext (itP left cur)) (.ext (itP left none)):=by
 refine ⟨fun w X η C v n=>?_,rfl,fun i o=>by cases o⟩
 cases n with
 | ext _ _ h1 h2 h3=>
  obtain ⟨r,b,g,d,c,f,z,e,u,m,x,t,q,j,A,p,h,_⟩:=h1;exact .ext _ _ ⟨r,b,g,d,c,f,z,e,u,m,x,t,q,j,A,p,h,fun e l=>by cases l⟩ (Y1o _) h3
section
variable {P:Program} {C:Ctx} {nt:Nat} {L:Lay} {R:Nat->Prop} {η:Nat->Value} {e:Env} {s:Sto} {a:Act} {w:World}
theorem Y3Q (h:Conc C nt R η e s a w) {o:Oper} {d:Nat} (hd:o.dst=some d) (hdn:d<nt) (hR:¬ R d) {p:World->(Nat->Prop)->Value->Prop} {v:Value} {w' : World}
  (hrun:(execOp a.eval o).run P w=.ok (.value v) w') (hstep:Stp (fun _=>False) w w') (hone:v.oneCell'=true) (hv:∀ b,b ∈ Y5 v->w.heap.size<=b) (hob:∀ X' η',Q7b w w' (XS C s η) X' -> ORep w' X' η' C v (.ext p)) :
  Snd P C nt R η e s a w o { v:=.v (.c (.own d)),new:=some (.ext p) }:=by
 have q:=Q5J (C:=C) (s:=s) (η:=η) { v:=.v (.c (.own d)),new:=some (.ext p) } o.dst v (fun _=>False) hstep (fun b f=>f.elim) (fun _ _ _ _ b f=>.inl (hv b f)) (fun k o l=>by cases l);refine ⟨v,w',.inl hrun,h.step o.dst (fun x n=>by rw [hd] at n;cases n;exact hdn) _ _ _ (fun _=>False) hstep (fun b f=>f.elim) ?_ (fun k o l=>by cases l) ?_⟩
 ·intro r dd i g
  cases i
  rw [hd] at g;cases g
  exact ⟨hR,rfl,by simp [Obj.refs],hob _ _ q,fun b f=>.inl (hv b f)⟩
 ·intro _
  refine ⟨.v _ _ (.c _ _ (.own _ _ (by simp [SR.eta,hd]) hone)),fun j m=>?_⟩;simp [AVal.refs,TV.refs,CV.refs] at m
  exact .inr ⟨by simp,by rw [hd,m]⟩
theorem W1s {α:Type} [Emb α] {X:Nat->Prop} {v:Value} {gs:List (Int×List α)} (h:ARep w X η C v (.v (.c (.d (MP gs))))) :
  ∃ (b:Nat) (es:Array MapEntry) (clock:Nat),v=.map (some b)/\¬ X b/\w.heap[b]?=some (.map es clock)/\Stamped es clock/\es.size=gs.length/\∀ (i:Nat) (x:MapEntry) (e:Int×List α),es[i]?=some x->gs[i]?=some e->Y7D w X x e:=by
 cases h with|v _ _ h=>cases h with|c _ _ h=>cases h with|d _ _ h=>
 unfold MP at h
 cases h with|mp b es clock _ _ Q8H _ h1 h2 h3 h4 h5 h6=>
 refine ⟨b,es,clock,rfl,h1,h2,h3,h4,fun i x e f g=>?_⟩;obtain ⟨l,n⟩:=List.getElem?_eq_some_iff.1 g
 obtain ⟨p,m⟩:=h5 i l;have o:gs.getD i (0,[])=e:=by rw [List.getD_eq_getElem?_getD,g];rfl
 have j:=h6 i l;rw [m] at f
 cases f
 simp only [o] at j ⊢;exact ⟨rfl,j⟩
variable {ops:Array Oper} {ds:List Dir} {k:Nat}
theorem KAt.range {α:Type} [Emb α] {gs:List (Int×List α)} {t kT eT:TypeId} (ht:P.underlying t=some (.map kT eT)) {d:Nat} {x:Operand} (hk:Q2f ds k=rE { v:=.v (.c (.own d)),new:=some (.ext (itP gs none)) }) (hop:(Y6 ops.toList k).op=.range t x)
  (hdo:(Q1E nt (Y6 ops.toList k)&&(Q8o ops (W6 L ops ops.toList ds e s k) (Y6 ops.toList k)==some true)&&(Y6 ops.toList k).dst==some d)=true)
  (hx:aev (W6 L ops ops.toList ds e s k) x=.v (.c (.d (MP gs)))):KAt P C nt L ops ds e s k:=by
 unfold KAt;rw [hk]
 simp only [Bool.and_eq_true,beq_iff_eq] at hdo;obtain ⟨⟨B,T⟩,p⟩:=hdo
 refine Z0G B T fun R η V U a w F G H j=>?_
 have I:x ∈ (Y6 ops.toList k).op.operands.toList:=by rw [hop];simp [Op.operands]
 have u:=(W2 j x).1;rw [F x I,hx] at u
 obtain ⟨b,n,f,M,O,o,A,N,J⟩:=W1s u;refine Y3Q j p (Q5w B d p) (H d p (by simp)) (v:=.pointer (some ⟨w.heap.size,0,none⟩)) (w':=w.alloc (.mapIter (some b) f #[] f)) ?_ (Stp.alloc _ w _) rfl (fun b D=>by simp [Y5] at D;omega) fun X' η' m=>?_
 ·simp [execOp,hop,M,run_range_map w t kT eT b n f ht o]
 ·have l:=m b (K8 o) O
  have g:leftOf n #[]=n:=by simp [leftOf]
  refine .ext _ _ ⟨w.heap.size,b,n,f,f, #[],f,rfl,by show (w.heap.push _)[w.heap.size]?=_;exact Array.getElem?_push_size,l.2,l.1.trans o,A,Nat.le_refl _,Nat.le_refl _,A.1,by rw [g,N],fun i y q z r=>?_,fun q r=>by cases r⟩ (Y1o _) fun W h=>?_
  ·rw [g] at z
   exact (J i y q z r).mono m
  ·simp only [Y5,List.mem_singleton] at h
   subst h;show w.heap.size<(w.heap.push _).size
   rw [Array.size_push];omega
theorem KAt.entry {α:Type} [Emb α] {gs:List (Int×List α)} {q:Int×List α} {id:Nat} {x:Operand} (hk:Q2f ds k=rE { v:=.t [.c (.d (.int .i64 q.1)),.c (.d (DL q.2))] }) (hop:(Y6 ops.toList k).op=.entry x)
  (hdo:(Q1E nt (Y6 ops.toList k)&&(Q8o ops (W6 L ops ops.toList ds e s k) (Y6 ops.toList k)==some true))=true)
  (hx:aev (W6 L ops ops.toList ds e s k) x=.v (.c (.own id))) (hs:Q2o L ops ops.toList ds e s k id=some (.ext (itP gs (some q)))):KAt P C nt L ops ds e s k:=by
 unfold KAt;rw [hk]
 simp only [Bool.and_eq_true,beq_iff_eq] at hdo;obtain ⟨D,N⟩:=hdo
 refine Z0G D N fun R η e0 O a w I l hn g=>?_
 have A:x ∈ (Y6 ops.toList k).op.operands.toList:=by rw [hop];simp [Op.operands]
 have i:=(W2 g x).1;rw [I x A,hx] at i
 have i:=Q6I i;have z:O id=some (.ext (itP gs (some q))):=(l x A id (by rw [hx];simp [AVal.refs,TV.refs,CV.refs])).trans hs
 have h:=g.st id _ z;generalize hu:η id=u at h
 cases h with
 | ext _ _ hp _ _=>
  obtain ⟨r,b,F,p,f,B,G,rfl,U,W,M,J,g5,g6,Y,g8,Z,o⟩:=hp;obtain ⟨y,T,V,rfl,rfl,n,m⟩:=o q rfl
  refine K9 g (Q5w D) (v:=.tuple #[y.key,y.val]) ?_ ?_ (by simp [AVal.refs,TV.refs,CV.refs])
  ·simp [execOp,hop,i,hu,run_entry_at w r b f V F G y U M T ((stamped_iff F G).1 J).2.1]
  ·refine .t _ _ rfl fun j H=>?_
   have:j=0\/j=1:=by simp at H;omega
   rcases this with rfl|rfl
   ·exact .c _ _ (.d _ _ (by show DRep w _ y.key _;rw [n];exact .int _ _))
   ·exact .c _ _ (.d _ _ m)
end
theorem Y4e {es:Array MapEntry} {clock:Nat} (hst:Stamped es clock) {seen:Array Nat} {i:Nat} {x:MapEntry} (hx:(leftOf es seen)[i]?=some x):(leftOf es (seen.push x.born)).toList=(leftOf es seen).toList.eraseIdx i:=by
 have c:((leftOf es seen).toList.map (·.born)).Nodup:=by
  unfold leftOf;rw [Array.toList_filter]
  exact (List.filter_sublist.map _).nodup hst.2.1
 have d:(leftOf es (seen.push x.born)).toList=(leftOf es seen).toList.filter fun y=>y.born != x.born:=by
  unfold leftOf;rw [Array.toList_filter,Array.toList_filter,List.filter_filter]
  refine List.filter_congr fun y _=>?_
  rw [Array.contains_push,Bool.not_or,bne,Bool.and_comm]
 rw [d];have b : (leftOf es seen).toList[i]?=some x:=by simpa using hx
 generalize (leftOf es seen).toList=l at c b
 clear hx d
 induction l generalizing i with
 | nil=>simp at b
 | cons y l ih=>
  rw [List.map_cons,List.nodup_cons] at c
  cases i with
  | zero=>
   simp at b
   subst b;rw [List.eraseIdx_zero,List.filter_cons,if_neg (by simp)]
   rw [List.tail_cons];refine List.filter_eq_self.2 fun z f=>?_
   simp only [bne_iff_ne,ne_eq];intro h
   exact c.1 (h ▸ List.mem_map_of_mem f)
  | succ i=>
   simp at b
   rw [List.eraseIdx_cons_succ,List.filter_cons,if_pos,ih c.2 b];simp only [bne_iff_ne,ne_eq]
   intro h;exact c.1 (h ▸ List.mem_map_of_mem (List.mem_of_getElem? b))
noncomputable def nextM {α R:Type} (gs:List α) (stop:Option R) (go:α->List α->Option R):Option R:=
 open Classical in
 match gs with
 | []=>stop
 | g::l=>if h:∃ r,∀ i (hi:i<(g::l).length),go (g::l)[i] ((g::l).eraseIdx i)=some r then some h.choose else none
theorem Y5n {α R:Type} {gs:List α} {stop:Option R} {go:α->List α->Option R} {r:R} (h:nextM gs stop go=some r) (hg:gs=[]):stop=some r:=by subst hg;exact h
theorem Y8i {α R:Type} {gs:List α} {stop:Option R} {go:α->List α->Option R} {r:R} (h:nextM gs stop go=some r) {x:α} {l:List α} (hx:∃ i,∃ hi:i<gs.length,x=gs[i]/\l=gs.eraseIdx i):go x l=some r:=by
 obtain ⟨i,hi,rfl,rfl⟩:=hx
 cases gs with
 | nil=>exact absurd hi (Nat.not_lt_zero _)
 | cons g l=>
  unfold nextM at h;simp only at h
  split at h
  ·rename_i b
   obtain rfl:=Option.some.inj h;exact b.choose_spec i hi
  ·cases h
theorem Y7h {α R:Type} {stop:Option R} {go:α->List α->Option R}:nextM [] stop go=stop:=rfl
theorem Y5o {α R:Type} {gs:List α} {stop:Option R} {go:α->List α->Option R} {r:R} (hne:gs≠[]) (h:∀ i (hi:i<gs.length),go gs[i] (gs.eraseIdx i)=some r):nextM gs stop go=some r:=by
 cases gs with
 | nil=>exact absurd rfl hne
 | cons g l=>
  unfold nextM;simp only
  have b:∃ r,∀ i (hi:i<(g::l).length),go (g::l)[i] ((g::l).eraseIdx i)=some r:=⟨r,h⟩;rw [dif_pos b]
  have c:=b.choose_spec 0 (by simp);rw [h 0 (by simp)] at c
  exact c.symm
section
variable {P:Program} {C:Ctx} {nt:Nat} {L:Lay} {pins:List Nat} {E:List (Nat×AVal)} {S:List (Nat×Obj)} {Q:Exit->Act->World->Prop}
theorem Y9v {α:Type} [Emb α] {gs:List (Int×List α)} {id it t5 t6 t7 ty6 ty7:Nat} {p6 p7:String} {af6 af7:Array Edge}
  (hE:lk E t5=.v (.c (.own it))) (h6:(E.map (·.1)).contains t6=false) (hn:(Nat.blt t6 nt&&Nat.blt t7 nt && !(t6==t7))=true)
  (stop:gs=[]->Kn C nt ((t7,vb false)::E) ((it,.ext (itP gs none))::S) (Q .normal))
  (go:∀ q l,(∃ i,∃ hi:i<gs.length,q=gs[i]/\l=gs.eraseIdx i)->Kn C nt ((t7,vb true)::E) ((it,.ext (itP l (some q)))::S) (Q .normal)) :
  AW P C nt (.region id #[{ dst:=some t6,op:=.next (.tmp t5) false,type:=ty6,pos:=p6,after:=af6,guard:=none }, { dst:=some t7,op:=.extract (.tmp t6) 0,type:=ty7,pos:=p7,after:=af7,guard:=none }] false) E ((it,.ext (itP gs none))::S) Q:=by
 simp only [Bool.and_eq_true,Nat.blt_eq,Bool.not_eq_true',beq_eq_false_iff_ne] at hn;obtain ⟨⟨n6,n7⟩,e8⟩:=hn
 intro R η a w hc;refine wp_region_list ?_
 have A:ls ((it,.ext (itP gs none))::S) it=some (.ext (itP gs none)):=by rw [U5,if_pos rfl]
 have e5:a.tmps.getD t5 undef=η it:=by have:=hc.ev t5;rw [hE] at this;exact Q6I this
 have l6:lk E t6=.any:=by
  unfold lk;have:E.lookup t6=none:=by
   rw [List.lookup_eq_none_iff];intro p hp
   have hm:p.1 ∈ E.map (·.1):=List.mem_map_of_mem hp;have b9 : t6 ∉ E.map (·.1):=by simpa using h6
   have c7:t6≠p.1:=fun h=>b9 (h ▸ hm)
   simpa using c7
  rw [this];rfl
 have b0:=hc.st it _ A;have b1:∀ b,b ∈ Y5 (η it)->Own (ls ((it,.ext (itP gs none))::S)) η b:=fun b hb=>⟨it,_,A,hb⟩
 have d2:∀ x,x ∈ Y5 (η it)->C.M x\/C.w0.heap.size<=x:=fun x g=>by
  rcases hc.ow it _ x A g with ⟨h1,_⟩|h1
  ·cases h1
  ·exact h1
 generalize hu:η it=u at b0
 cases b0 with
 | ext _ _ hp _ hlt=>
 obtain ⟨r,b,es,m,f,d,c0,rfl,g1,g2,g3,g4,g5,g6,g7,g8,g9,_⟩:=hp;have f3:r≠b:=fun h=>by rw [h,g3] at g1;cases g1
 have a6:∀ (J:Bool) (a0 : List (Int×List α)) (W:Option (Int×List α)) (N:World) (H:Array Value) (R1:Nat->Prop) (η1:Nat->Value),H.getD 0 undef=.bool J->H.size≠0 ->
   Conc C nt R1 η1 (Z0f (some t6) .any (lk E)) (ls ((it,.ext (itP a0 W))::S)) (a.put (some t6) (.tuple H)) N ->
   Kn C nt ((t7,vb J)::E) ((it,.ext (itP a0 W))::S) (Q .normal) ->
   wpList P #[{ dst:=some t6,op:=.next (.tmp t5) false,type:=ty6,pos:=p6,after:=af6,guard:=none }, { dst:=some t7,op:=.extract (.tmp t6) 0,type:=ty7,pos:=p7,after:=af7,guard:=none }] Q [{ dst:=some t7,op:=.extract (.tmp t6) 0,type:=ty7,pos:=p7,after:=af7,guard:=none }] (a.put (some t6) (.tuple H)) N:=by
  intro J a0 W N H R1 η1 a4 d4 n kn;refine wpList_plain rfl fun K hK=>?_
  have hv:(a.put (some t6) (.tuple H)).tmps.getD t6 undef=.tuple H:=by rw [Y1f a _ _ _ (by rw [hc.sz];intro x g;cases g;exact n6),if_pos rfl]
  have h0:H[0]?=some (.bool J):=by
   have:0<H.size:=Nat.pos_of_ne_zero d4
   rw [Array.getD_eq_getD_getElem?,Array.getElem?_eq_getElem this] at a4;rw [Array.getElem?_eq_getElem this]
   simpa using a4
  have c9:(execOp (a.put (some t6) (.tuple H)).eval ({ dst:=some t7,op:=.extract (.tmp t6) 0,type:=ty7,pos:=p7,after:=af7,guard:=none }:Oper)).run P N=.ok (.value (.bool J)) N:=by
   simp [execOp,Act.eval,hv,Instr.extract,h0]
  refine Z4s c9 (hK _ _ ?_);have a5:=n.val (some t7) (fun x g=>by cases g;exact n7) (vb J) (.bool J) fun _=>⟨Z8q _ _,fun j hj=>by cases hj⟩
  have he:SR.env { v:=vb J } (some t7) (Z0f (some t6) .any (lk E))=lk ((t7,vb J)::E):=by
   funext t
   simp only [SR.env,Z0f];rw [Z8d]
   by_cases h:t=t7
   ·rw [if_pos h,if_pos h]
   ·rw [if_neg h,if_neg h]
    by_cases h' : t=t6
    ·rw [if_pos h',h',l6]
    ·rw [if_neg h']
  rw [he] at a5;exact kn _ _ _ _ a5
 refine wpList_plain rfl fun K hK=>?_
 have T:∀ {v:Value} {w' : World},(Instr.next (.pointer (some ⟨r,0,none⟩)) false ty6).run P w=.ok v w' ->
   (execOp a.eval ({ dst:=some t6,op:=.next (.tmp t5) false,type:=ty6,pos:=p6,after:=af6,guard:=none }:Oper)).run P w=.ok (.value v) w':=fun I=>by
  simp [execOp,Act.eval,e5,hu,I]
 rcases run_next_at (P:=P) w ty6 r b f c0 d es m g1 g3 g7 g5 with ⟨h0,D⟩|⟨y,hy,N,F,D⟩
 ·have c2:gs=[]:=List.eq_nil_of_length_eq_zero (by rw [<-g8,h0])
  refine Z4s (T D) (hK _ _ ?_);have n:=hc.val (some t6) (fun x g=>by cases g;exact n6) .any (.tuple #[.bool false]) fun _=>⟨.any _,by simp [AVal.refs]⟩
  exact a6 false gs none w #[.bool false] R η rfl (by simp) n (stop c2)
 ·obtain ⟨i,hi,d1⟩:=List.getElem_of_mem hy
  have c8 : i<(leftOf es d).size:=by simpa using hi
  have V : (leftOf es d)[i]?=some y:=by rw [Array.getElem?_eq_getElem c8];simpa using d1
  have Z:i<gs.length:=by omega
  have c6:=g9 i y gs[i] V (List.getElem?_eq_getElem Z);have b2:y ∈ es.toList:=by
   have:y ∈ (leftOf es d).toList:=hy
   unfold leftOf at this;rw [Array.toList_filter] at this
   exact (List.mem_filter.1 this).1
  refine Z4s (T D) (hK _ _ ?_);have a2:N.heap=w.heap:=by rcases F with rfl|rfl <;> rfl
  have a8:N.heap[r]?=some (.mapIter (some b) f d c0):=by rw [a2];exact g1
  have G:Stp (fun x=>x=r) w (ChangeMaps.setBlock N r (.mapIter (some b) f (d.push y.born) m)):=by
   refine ⟨?_,?_,?_,?_,fun x g hn=>?_,?_⟩
   ·rcases F with rfl|rfl <;> rfl
   ·rcases F with rfl|rfl <;> rfl
   ·rcases F with rfl|rfl <;> rfl
   ·simp [ChangeMaps.setBlock,a2]
   ·exact ((heap_set a8).2 x hn).trans (by rw [a2])
   ·rcases F with rfl|rfl
    ·exact Nat.le_refl _
    ·exact Nat.le_succ _
  have B:r ∈ Y5 (η it):=by rw [hu];simp [Y5]
  have c3:∀ (p:World->(Nat->Prop)->Value->Prop),SR.sto { v:=.any,upd:=some (it,.ext p) } (some t6) (ls ((it,.ext (itP gs none))::S))=ls ((it,.ext p)::S):=fun p=>by
   funext z
   simp only [SR.sto,List.contains_nil,Bool.false_eq_true,if_false];rw [U5,U5]
   by_cases h:z=it
   ·rw [if_pos h,if_pos h]
   ·rw [if_neg h,if_neg h,if_neg h]
  have U:SR.eta { v:=.any,upd:=some (it,.ext (itP (gs.eraseIdx i) (some gs[i]))) } (some t6) (.tuple #[.bool true,y.key,y.val]) η=η:=by funext z;simp [SR.eta]
  have hk:=Q5J (C:=C) (s:=ls ((it,.ext (itP gs none))::S)) (η:=η) { v:=.any,upd:=some (it,.ext (itP (gs.eraseIdx i) (some gs[i]))) } (some t6) (.tuple #[.bool true,y.key,y.val]) (fun x=>x=r) G (fun x g=>by subst g;exact b1 _ B) (fun _ _ I=>by cases I)
   (fun k o I=>by cases I;rw [A];simp)
  have n:=hc.step (some t6) (fun x g=>by cases g;exact n6) { v:=.any,upd:=some (it,.ext (itP (gs.eraseIdx i) (some gs[i]))) } (.tuple #[.bool true,y.key,y.val]) _ (fun x=>x=r) G
   (fun x g=>by
    subst g;exact ⟨⟨it,.inr ⟨_,rfl⟩,by rw [A];simp,B⟩,d2 _ B⟩)
   (fun _ _ I=>by cases I)
   (fun k o I=>by
    cases I
    refine ⟨⟨_,A,rfl⟩,rfl,by simp,by simp [Obj.refs],?_⟩;rw [U] at hk ⊢
    rw [hu];have b4:=hk b (K8 g3) g2
    have a9:=Y4e g4 V;refine .ext _ _ ⟨r,b,es,m,f,d.push y.born,m,rfl,(heap_set a8).1,b4.2,b4.1.trans g3,g4,g6,g6,g7,?_,fun j x q g Y=>?_,fun q Y=>?_⟩ (Y1o _) fun x g=>?_
    ·have:=congrArg List.length a9
     rw [Array.length_toList,List.length_eraseIdx_of_lt (by simpa using hi),Array.length_toList] at this;rw [this,List.length_eraseIdx_of_lt Z,g8]
    ·have O:(leftOf es (d.push y.born)).toList[j]?=some x:=by simpa using g
     rw [a9,List.getElem?_eraseIdx] at O;rw [List.getElem?_eraseIdx] at Y
     split at O
     ·rename_i hj
      rw [if_pos hj] at Y;exact (g9 j x q (by simpa using O) Y).mono hk
     ·rename_i hj
      rw [if_neg hj] at Y;exact (g9 (j+1) x q (by simpa using O) Y).mono hk
    ·cases Y
     exact ⟨y,b2,d,rfl,rfl,c6.mono hk⟩
    ·simp only [Y5,List.mem_singleton] at g
     subst g;exact Nat.lt_of_lt_of_le (K8 g1) G.size)
   (fun _=>⟨.any _,by simp [AVal.refs]⟩)
  rw [c3,U] at n;have he:SR.env { v:=.any,upd:=some (it,.ext (itP (gs.eraseIdx i) (some gs[i]))) } (some t6) (lk E)=Z0f (some t6) .any (lk E):=rfl
  rw [he] at n;exact a6 true (gs.eraseIdx i) (some gs[i]) _ #[.bool true,y.key,y.val] _ _ rfl (by simp) n (go gs[i] (gs.eraseIdx i) ⟨i,Z,rfl,rfl⟩)
end
end
section
open Go.MapKept
section
variable {α:Type} [Emb α]
def Q0J (y:Int) (gs:List (Int×List α)):Nat:=gs.findIdx fun e=>e.1==y
def gApp (y:Int) (m:List α) (gs:List (Int×List α)):List (Int×List α):=
 match gs[Q0J y gs]? with
 | some e=>gs.set (Q0J y gs) (e.1,e.2++m)
 | none=>gs++[(y,m)]
theorem Q7o {β:Type} (y:Int) (gs:List (Int×List β)):(Q0J y gs<gs.length/\∃ e,gs[Q0J y gs]?=some e/\e.1=y)\/(Q0J y gs=gs.length/\∀ e ∈ gs,e.1≠y):=by
 unfold Q0J;rcases Nat.lt_or_ge (gs.findIdx fun e=>e.1==y) gs.length with h|h
 ·left
  refine ⟨h,_,List.getElem?_eq_getElem h,?_⟩;have:=List.findIdx_getElem (p:=fun e:Int×List β=>e.1==y) (w:=h)
  simpa using this
 ·right
  have c:=List.findIdx_le_length (p:=fun e:Int×List β=>e.1==y) (xs:=gs);refine ⟨by omega,fun e b=>?_⟩
  have:=List.findIdx_eq_length.1 (show (gs.findIdx fun e:Int×List β=>e.1==y)=gs.length by omega) e b
  simpa using this
theorem Z8T {β:Type} {gs:List (Int×List β)} (hnd:(gs.map (·.1)).Nodup) {i j:Nat} {a b:Int×List β} (ha:gs[i]?=some a) (hb:gs[j]?=some b) (h:a.1=b.1):i=j:=by
 obtain ⟨c,ha⟩:=List.getElem?_eq_some_iff.1 ha;obtain ⟨d,hb⟩:=List.getElem?_eq_some_iff.1 hb
 exact (List.getElem_inj (h₀:=by simpa using c) (h₁:=by simpa using d) hnd).1 (by simp [ha,hb,h])
def Y1P (w:World) (X:Nat->Prop) (v:Value) (l:List α):Prop:=∀ η C,ORep w X η C v (AO l)
def Q5t (b:Nat) (rs:List Value):Array Value:=(Value.map (some b)::(rs++[.slice none 0 0])).toArray
structure GrpAt (gs:List (Int×List α)) (pend:Option Nat) (w:World) (X:Nat->Prop) (b:Nat) (rs:List Value) (ents:Array MapEntry) (clock:Nat):Prop where
 heap:w.heap[b]?=some (.map ents clock)
 st:Stamped ents clock
 len:rs.length=gs.length
 nd:(gs.map (·.1)).Nodup
 rows:∀ (i:Nat) (e:Int×List α) (v:Value),gs[i]?=some e->rs[i]?=some v->Y1P w X v e.2
 apart:∀ (i j:Nat) (u v:Value) (x:Nat),rs[i]?=some u->rs[j]?=some v->x ∈ Y5 u->x ∈ Y5 v->i=j
 off:∀ (i:Nat) (v:Value),rs[i]?=some v->b ∉ Y5 v
 ents:match pend with
  | none=>ents.size=gs.length/\∀ (i:Nat) (e:Int×List α) (v:Value),gs[i]?=some e->rs[i]?=some v->∃ bo,ents[i]?=some ⟨.int .i64 e.1,v,bo⟩
  | some j=>j<gs.length/\(ents.size=gs.length\/(ents.size+1=gs.length/\j=ents.size))/\∀ (i:Nat) (e:Int×List α) (v:Value),i<ents.size->gs[i]?=some e->rs[i]?=some v->∃ u bo,ents[i]?=some ⟨.int .i64 e.1,u,bo⟩/\(i≠j->u=v)
def Q8p (gs:List (Int×List α)) (pend:Option Nat) (w:World) (X:Nat->Prop) (us:List Value) (v:Value):Prop:=
 ∃ b rs ents clock,us=[.map (some b)]/\v=.agg (Q5t b rs)/\GrpAt gs pend w X b rs ents clock
theorem Y1P.form {w:World} {X:Nat->Prop} {v:Value} {l:List α} (h:Y1P w X v l):∃ ad n cap,v=.slice ad n cap/\Y2Q v=Y5 v/\v.oneCell'=true:=by
 have:=h (fun _=>undef) (J4 [] w X fun _=>undef)
 unfold AO at this;generalize l.length=n at this
 cases this with
 | nil ad=>exact ⟨_,_,_,rfl,by cases ad <;> rfl,rfl⟩
 | arr=>exact ⟨_,_,_,rfl,rfl,rfl⟩
theorem Y1P.mono {w w' : World} {X X' : Nat->Prop} {v:Value} {l:List α} (h:Y1P w X v l) (hk:Q7b w w' X X') (hb:∀ b ∈ Y5 v,w'.heap[b]?=w.heap[b]?):Y1P w' X' v l:=
 fun η C=>(h η C).mono hk (fun _ _=>rfl) hb
theorem Y1P.lt {w:World} {X:Nat->Prop} {v:Value} {l:List α} (h:Y1P w X v l) {b:Nat} (hb:b ∈ Y5 v):b<w.heap.size:=
 (h (fun _=>undef) (J4 [] w X fun _=>undef)).lt hb
theorem Q0L {b x:Nat} {rs:List Value} (h1:∀ v ∈ rs,Y2Q v=Y5 v):x ∈ Y5 (.agg (Q5t b rs))↔x=b\/∃ v ∈ rs,x ∈ Y5 v:=by
 show x ∈ (Value.map (some b)::(rs++[.slice none 0 0])).flatMap Y2Q↔_;rw [List.flatMap_cons,List.mem_append,List.flatMap_append,List.mem_append,List.mem_flatMap,List.mem_flatMap]
 constructor
 ·rintro (h|⟨v,hv,h⟩|⟨v,hv,h⟩)
  ·exact .inl (List.mem_singleton.1 h)
  ·exact .inr ⟨v,hv,by rw [<-h1 v hv];exact h⟩
  ·rw [List.mem_singleton.1 hv] at h;cases h
 ·rintro (h|⟨v,hv,h⟩)
  ·exact .inl (List.mem_singleton.2 h)
  ·exact .inr (.inl ⟨v,hv,by rw [h1 v hv];exact h⟩)
theorem GrpAt.one {gs:List (Int×List α)} {pend:Option Nat} {w:World} {X:Nat->Prop} {b:Nat} {rs:List Value} {ents:Array MapEntry} {clock:Nat} (h:GrpAt gs pend w X b rs ents clock):∀ v ∈ rs,Y2Q v=Y5 v:=fun v f=>by
 obtain ⟨i,d,rfl⟩:=List.getElem_of_mem f;have c : i<gs.length:=by rw [<-h.len];exact d
 obtain ⟨_,_,_,_,g,_⟩:=(h.rows i gs[i] rs[i] (List.getElem?_eq_getElem c) (List.getElem?_eq_getElem d)).form;exact g
theorem GrpAt.mono {gs:List (Int×List α)} {pend:Option Nat} {w w' : World} {X X' : Nat->Prop} {b:Nat} {rs:List Value} {ents:Array MapEntry} {clock:Nat} (h:GrpAt gs pend w X b rs ents clock) (hk:Q7b w w' X X')
  (hb:∀ x ∈ Y5 (.agg (Q5t b rs)),w'.heap[x]?=w.heap[x]?):GrpAt gs pend w' X' b rs ents clock:=
 ⟨(hb b ((Q0L h.one).2 (.inl rfl))).trans h.heap,h.st,h.len,h.nd,fun i e v d c=>(h.rows i e v d c).mono hk fun x f=>hb x ((Q0L h.one).2 (.inr ⟨v,List.mem_of_getElem? c,f⟩)),h.apart,h.off,h.ents⟩
theorem Z9g {gs:List (Int×List α)} {pend:Option Nat} {us:List Value} (v:Value):Y2R (fun w X v=>Q8p gs pend w X us v) v:=by
 intro w m X X' g i h;obtain ⟨b,j,d,c,l,rfl,f⟩:=h
 exact ⟨b,j,d,c,l,rfl,f.mono g i⟩
theorem GrpAt.lt {gs:List (Int×List α)} {pend:Option Nat} {w:World} {X:Nat->Prop} {b:Nat} {rs:List Value} {ents:Array MapEntry} {clock:Nat} (h:GrpAt gs pend w X b rs ents clock) {x:Nat} (hx:x ∈ Y5 (.agg (Q5t b rs))):x<w.heap.size:=by
 rcases (Q0L h.one).1 hx with rfl|⟨v,f,hx⟩
 ·exact K8 h.heap
 ·obtain ⟨i,d,rfl⟩:=List.getElem_of_mem f
  have c : i<gs.length:=by rw [<-h.len];exact d
  exact (h.rows i gs[i] rs[i] (List.getElem?_eq_getElem c) (List.getElem?_eq_getElem d)).lt hx
end
def Y8J (extra:List Nat) (ops:Array Oper) (o:Oper) (e:Env) (r:SR):Eff:= { rd:=Q0h o++V4 ops o,ids:=Z1O e o++extra,v:=r.v,l:=r.l o.dst,news:=r.nw o.dst }
def xE (extra:List Nat) (r:SR):Array Oper->Oper->Env->Eff:=fun ops o e=>Y8J extra ops o e r
section
variable {P:Program} {C:Ctx} {nt:Nat} {L:Lay} {ops:Array Oper} {ds:List Dir} {e:Env} {s:Sto}
def W1K (P:Program) (C:Ctx) (nt:Nat) (R:Nat->Prop) (η:Nat->Value) (e:Env) (s:Sto) (a:Act) (w:World) (o:Oper) (r:SR):Prop:=
 ∃ v u w',((execOp a.eval o).run P w=.ok (.value v) w' \/ ((execOp a.eval o).run P w=.ok .skip w' /\ v=undef)) /\
  Conc C nt (r.rng o.dst R) (r.eta o.dst u η) (r.env o.dst e) (r.sto o.dst s) (a.put o.dst v) w'
theorem Snd.g {R:Nat->Prop} {η:Nat->Value} {a:Act} {w:World} {o:Oper} {r:SR} (h:Snd P C nt R η e s a w o r):W1K P C nt R η e s a w o r:=by
 obtain ⟨v,d,c,b⟩:=h;exact ⟨v,v,d,c,b⟩
theorem Y0H (extra:List Nat) {o:Oper} (hdo:Q1E nt o=true) {r:SR} (hg:Q8o ops e o=some true)
  (hsnd:∀ (R:Nat->Prop) (η:Nat->Value) (e0:Env) (s0:Sto) (a:Act) (w:World),(∀ x ∈ o.op.operands.toList,aev e0 x=aev e x)->(∀ x ∈ o.op.operands.toList,∀ i ∈ (aev e x).refs,s0 i=s i)->(∀ i ∈ extra,s0 i=s i)->(∀ d,o.dst=some d->r.new≠none->¬ R d) ->
   Conc C nt R η e0 s0 a w->W1K P C nt R η e0 s0 a w o r):StT P C nt ops o (Y8J extra ops o e r) e s:=by
 intro R η e0 s0 a w m c H b K Q V;have h:∀ x ∈ o.op.operands.toList,aev e0 x=aev e x:=by
  intro x h
  cases x with
  | tmp t=>exact m t (List.mem_append.2 (.inl (List.mem_filterMap.2 ⟨_,h,rfl⟩)))
  | const v=>rfl
  | global g=>rfl
  | func f=>rfl
 have B:∀ x ∈ o.op.operands.toList,∀ i ∈ (aev e x).refs,s0 i=s i:=fun x h i G=>c i (List.mem_append_left _ (List.mem_flatMap.2 ⟨x,h,G⟩))
 have N:=Q5A (e:=e) b (fun t U=>m t (List.mem_append.2 (.inr U))) hg;rw [if_pos N]
 have O:=hsnd R η e0 s0 a w h B (fun i G=>c i (List.mem_append_right _ G)) (fun d M T=>H d (by
  obtain ⟨W,A⟩:=Option.ne_none_iff_exists'.1 T;simp [Y8J,SR.nw,A,M])) b
 have q:∀ η' z j,Conc C nt (r.rng o.dst R) η' (r.env o.dst e0) (r.sto o.dst s0) z j -> K z j:=fun η' z j I=>by
  refine V η' z j ?_;have D:=I.wider (Y4Q r o.dst R)
  have n:upS (Y8J extra ops o e r).l s0=r.sto o.dst s0:=Y4P r o.dst s0;rw [n]
  have p:Z0f o.dst (Y8J extra ops o e r).v e0=r.env o.dst e0:=rfl;rw [p]
  exact D
 obtain ⟨v,u,j,F|⟨F,rfl⟩,J⟩:=O
 ·exact Z4s F (q _ _ _ J)
 ·exact Y3F F (q _ _ _ J)
end
section
variable {P:Program} {C:Ctx} {nt:Nat} {L:Lay} {R:Nat->Prop} {η:Nat->Value} {e:Env} {s:Sto} {a:Act} {w:World}
variable {α:Type} [Emb α]
theorem Y0o (h:Conc C nt R η e s a w) {g base:Nat} {gs:List (Int×List α)} {pend:Option Nat} (hs:s g=some (.exr [base] (Q8p gs pend))) :
  ∃ b rs ents clock,η base=.map (some b)/\η g=.agg (Q5t b rs)/\GrpAt gs pend w (XS C s η) b rs ents clock:=by
 have c:=h.st g _ hs;generalize hu:η g=u at c
 cases c with
 | exr _ _ _ hp _ _=>
  obtain ⟨b,rs,ents,clock,i,f,d⟩:=hp;exact ⟨b,rs,ents,clock,by simpa using i,f,d⟩
theorem Y5e (hL:LOk P L) (h:Conc C nt R η e s a w) {o:Oper} {d:Nat} (hd:o.dst=some d) (hdn:d<nt) {t:TypeId} {tx ty:Nat} (hne:tx≠ty)
  (hop:o.op=.call { callee:=.builtin .append,args:= #[.tmp tx,.tmp ty],argTypes:= #[t,t] }) {ti:TI} (ht:L t=some ti) {el:Nat} (hk:ti.kind=.slice el) {te:TI} (hte:L el=some te) (hes:te.size=Emb.es α)
  {l m:List α} (hx:Y1P w (XS C s η) (a.tmps.getD tx undef) l) (hX:∀ b ∈ Y5 (a.tmps.getD tx undef),XS C s η b) (hy:e ty=AL m)
  (hby:te.bytes<=8192) (hzl:te.zero.length=te.size) (hlim:l.length+m.length<=LIM) :
  ∃ v w',(execOp a.eval o).run P w=.ok (.value v) w' /\ Stp (fun b=>b ∈ Y5 (a.tmps.getD tx undef)) w w' /\ (∀ b ∈ Y5 v,b ∈ Y5 (a.tmps.getD tx undef)\/w.heap.size<=b) /\
   ∀ X',(∀ b,b<w'.heap.size->X' b->(XS C s η b/\b ∉ Y5 (a.tmps.getD tx undef))\/b ∈ Y5 v)->Y1P w' X' v (l++m):=by
 generalize hv1:a.tmps.getD tx undef=v1 at *;have I:∀ b,XS C s η b->b<w.heap.size:=by
  rintro b (⟨hx,_⟩|hx)
  ·exact Nat.lt_of_lt_of_le (h.ok.lt b hx) h.fr.size
  ·exact h.lt hx
 let C0:Ctx:= { w0:=w,D:=fun b=>b ∈ Y5 v1,M:=fun b=>b ∈ Y5 v1,X:=XS C s η,pin:=fun _=>none }
 let η0:Nat->Value:=fun _=>v1
 let s0:Sto:=fun i=>if i=nt then some (AO l) else none
 let e0:Env:=fun t=>if t=tx then .v (.c (.own nt)) else if t=ty then AL m else .any
 have O:XS C0 s0 η0=XS C s η:=by
  funext b
  apply propext;constructor
  ·rintro (⟨F,_⟩|⟨i,B,p,r⟩)
   ·exact F
   ·exact hX b r
  ·intro r
   rcases Classical.em (b ∈ Y5 v1) with V|V
   ·exact .inr ⟨nt,AO l,by simp [s0],V⟩
   ·exact .inl ⟨r,V⟩
 have A:∀ i B,s0 i=some B -> i=nt/\B=AO l:=fun i B p=>by
  simp only [s0] at p;split at p
  ·cases p;exact ⟨by assumption,rfl⟩
  ·cases p
 have T:Conc C0 nt (fun i=>i=nt) η0 e0 s0 a w:=by
  refine ⟨⟨fun b r=>r,fun b r=>hX b r,I⟩,h.df,h.sz,fun t=>?_,fun t i p=>?_,fun i B p=>?_,fun i B p=>?_,fun i j b p H _ _=>?_,fun i B b p r=>?_,Stp.refl _ _,fun i v p=>by cases p⟩
  ·rw [O]
   simp only [e0];split
   ·rename_i ht;subst ht
    rw [hv1];exact .v _ _ (.c _ _ (.own _ _ rfl hx.form.choose_spec.choose_spec.choose_spec.2.2))
   ·split
    ·rename_i _ ht;subst ht
     have:=h.ev t
     rw [hy] at this;unfold AL at this ⊢
     generalize a.tmps.getD t undef=q at this ⊢
     cases this with|v _ _ hh=>cases hh with|c _ _ hh=>cases hh with|d _ _ hh=>exact .v _ _ (.c _ _ (.d _ _ hh))
    ·exact .any _
  ·simp only [e0] at p
   split at p
   ·simpa [AVal.refs,TV.refs,CV.refs] using p
   ·split at p
    ·simp [AL,AVal.refs,TV.refs,CV.refs] at p
    ·simp [AVal.refs] at p
  ·obtain ⟨_,rfl⟩:=A i B p
   rw [O];exact hx _ _
  ·obtain ⟨rfl,rfl⟩:=A i B p
   exact ⟨rfl,fun j H=>by simp [AO,Obj.refs] at H⟩
  ·obtain ⟨oi,p⟩:=Option.ne_none_iff_exists'.1 p
   obtain ⟨oj,H⟩:=Option.ne_none_iff_exists'.1 H;rw [(A i oi p).1,(A j oj H).1]
  ·exact .inr (.inl r)
 have hR:¬ (fun i=>i=nt) d:=by show ¬ d=nt;omega
 obtain ⟨v,w',hr,x⟩:=Z6T (c:=True) hL T hd hdn hR hop ht hk hte (k:=m.length) (g:=LF m) (by simp [aev,e0,Ne.symm hne,AL,DL,asL])
  (del:=[nt]) (n:=l.length) (f:=LF l) (c0:=True) (by simp [aev,e0,Z8t,s0,AO,hes]) trivial hby hzl hlim (fun j H=>by rw [hes];exact Emb.len _)
 have N:(SR.sto { v:=.v (.c (.own d)),del:=[nt],new:=some (.arr te.size (l.length+m.length) (Q5y l.length (LF l) (LF m))),cond:=True } o.dst s0)=fun i=>if i=d then some (.arr te.size (l.length+m.length) (Q5y l.length (LF l) (LF m))) else none:=by
  funext i
  simp only [SR.sto,hd]
  by_cases p:i=d
  ·rw [if_pos p,if_pos p]
  ·rw [if_neg p,if_neg p]
   by_cases hn:i=nt
   ·simp [hn]
   ·simp [hn,s0]
 rw [N] at x;have G:(fun i=>if i=d then some (Obj.arr te.size (l.length+m.length) (Q5y l.length (LF l) (LF m))) else none) d=some (.arr te.size (l.length+m.length) (Q5y l.length (LF l) (LF m))):=by simp
 have z:=x.st d _ G;have u:SR.eta { v:=.v (.c (.own d)),del:=[nt],new:=some (.arr te.size (l.length+m.length) (Q5y l.length (LF l) (LF m))),cond:=True } o.dst v η0 d=v:=by simp [SR.eta,hd]
 have Z:∀ b,b ∈ Y5 v->b ∈ Y5 v1\/w.heap.size<=b:=fun b r=>by
  rcases x.ow d _ b G (by rw [u];exact r) with ⟨F,_⟩|F|F
  ·cases F
  ·exact .inl F
  ·exact .inr F
 rw [u] at z;have J:(execOp a.eval o).run P w=.ok (.value v) w':=by
  rcases hr with hr|⟨_,rfl⟩
  ·exact hr
  ·have hu:(undef:Value)=.tuple #[]:=rfl
   rw [hu] at z;cases z
 refine ⟨v,w',J,x.fr,Z,fun X' a3=>fun η2 C2=>?_⟩
 ·have a2:OLe (.arr te.size (l.length+m.length) (Q5y l.length (LF l) (LF m))) (AO (l++m)):=by rw [hes];exact OLe.is (Is.app (Is.refl l) (Is.refl m))
  have Y:=a2.1 _ _ _ _ _ z;have h3:ORep w' (XS C0 (fun i=>if i=d then some (Obj.arr te.size (l.length+m.length) (Q5y l.length (LF l) (LF m))) else none) (SR.eta { v:=.v (.c (.own d)),del:=[nt],new:=some (.arr te.size (l.length+m.length) (Q5y l.length (LF l) (LF m))),cond:=True } o.dst v η0)) η2 C2 v (AO (l++m)):=by
   unfold AO at Y ⊢;generalize (l++m).length=nn at Y ⊢
   cases Y with
   | nil ad=>exact .nil ad _ _
   | arr b' _ cap' _ c' e' _ q1 q2 q3 q4 q5 q6 q7=>exact .arr b' _ cap' _ c' e' _ q1 q2 q3 q4 q5 q6 q7
  refine h3.mono (fun b r U=>⟨rfl,fun W=>U ?_⟩) (fun _ _=>rfl) fun _ _=>rfl
  rcases a3 b r W with ⟨h4,h5⟩|h4
  ·exact .inl ⟨h4,h5⟩
  ·exact .inr ⟨d,_,G,by rw [u];exact h4⟩
theorem Z5u (b:Nat) (rs:List Value) (i:Nat):(Q5t b rs)[1+i]?=(rs++[.slice none 0 0])[i]?:=by
 simp [Q5t,Nat.add_comm 1 i]
theorem GrpAt.find {gs:List (Int×List α)} {X:Nat->Prop} {b:Nat} {rs:List Value} {ents:Array MapEntry} {clock:Nat} (h:GrpAt gs none w X b rs ents clock) (y:Int) :
  (Instr.findNow (.int .i64) (.int .i64 y) ents.toList 0=some none/\Q0J y gs=gs.length) \/
  ∃ x:MapEntry,Instr.findNow (.int .i64) (.int .i64 y) ents.toList 0=some (some (Q0J y gs,x.val))/\rs[Q0J y gs]?=some x.val/\Q0J y gs<gs.length:=by
 obtain ⟨M,f⟩:=h.ents;have l:∀ (j:Nat) (x:MapEntry),ents[j]?=some x->∃ e v,gs[j]?=some e/\rs[j]?=some v/\x.key=.int .i64 e.1/\x.val=v:=fun j x p=>by
  have u:j<ents.size:=(Array.getElem?_eq_some_iff.1 p).1;have G:j<gs.length:=by omega
  have q:j<rs.length:=by rw [h.len];exact G
  obtain ⟨H,o⟩:=f j gs[j] rs[j] (List.getElem?_eq_getElem G) (List.getElem?_eq_getElem q);rw [p] at o
  cases o
  exact ⟨gs[j],rs[j],List.getElem?_eq_getElem G,List.getElem?_eq_getElem q,rfl,rfl⟩
 have A:∀ x ∈ ents.toList,IsKey (.int .i64) x.key:=fun x p=>by
  obtain ⟨j,u,rfl⟩:=List.getElem_of_mem p;obtain ⟨e,v,_,_,n,_⟩:=l j _ (by simp at u ⊢;exact Array.getElem?_eq_getElem u)
  simp only [Array.getElem_toList] at n ⊢;rw [n];rfl
 rcases findNow_spec (d:=.int .i64) (k:=.int .i64 y) rfl ents.toList 0 A with ⟨r,D⟩|⟨j,x,r,D,N⟩
 ·left
  refine ⟨r,?_⟩;rcases Q7o y gs with ⟨g,e,m,c⟩|⟨J,_⟩
  ·exfalso
   have q:Q0J y gs<rs.length:=by rw [h.len];exact g
   obtain ⟨H,o⟩:=f _ e _ m (List.getElem?_eq_getElem q);exact D _ (by have:=Array.mem_of_getElem? o;simpa using this) (by rw [c])
  ·exact J
 ·right
  obtain ⟨e,v,m,I,n,t⟩:=l j x (by simpa using D);rw [N] at n
  have c:e.1=y:=by cases n;rfl
  have z:Q0J y gs=j:=by
   rcases Q7o y gs with ⟨g,O,F,i⟩|⟨_,B⟩
   ·exact Z8T h.nd F m (by rw [c,i])
   ·exact absurd c (B e (List.mem_of_getElem? m))
  rw [Nat.zero_add] at r;rw [z]
  exact ⟨x,r,by rw [t];exact I,(List.getElem?_eq_some_iff.1 m).1⟩
variable {ops:Array Oper} {ds:List Dir} {k:Nat}
def gOk (ops:Array Oper) (nt:Nat) (e:Env) (o:Oper):Bool:=Q1E nt o&&(Q8o ops e o==some true)
theorem Y7B {gs:List (Int×List α)} {base g:Nat} {t kT eT:TypeId} {m x:Operand} {y:Int} (ht:P.underlying t=some (.map kT eT)) (hkT:P.underlying kT=some (.int .i64)) (hz:∀ w,(zeroValue eT).run P w=.ok (.slice none 0 0) w)
  (hk:Q2f ds k=xE [g] { v:=.v (.c (.cp g (1+Q0J y gs))) }) (hop:(Y6 ops.toList k).op=.lookup t m x false) (hdo:gOk ops nt (W6 L ops ops.toList ds e s k) (Y6 ops.toList k)=true)
  (hm:aev (W6 L ops ops.toList ds e s k) m=.v (.c (.own base))) (hx:aev (W6 L ops ops.toList ds e s k) x=vi y) (hs:Q2o L ops ops.toList ds e s k g=some (.exr [base] (Q8p gs none))):KAt P C nt L ops ds e s k:=by
 unfold KAt;rw [hk]
 simp only [gOk,Bool.and_eq_true,beq_iff_eq] at hdo;obtain ⟨D,W⟩:=hdo
 refine Y0H [g] D W fun R η Z N a w G O B Y f=>Snd.g ?_
 have U:m ∈ (Y6 ops.toList k).op.operands.toList:=by rw [hop];simp [Op.operands]
 have T:x ∈ (Y6 ops.toList k).op.operands.toList:=by rw [hop];simp [Op.operands]
 have n:=(W2 f m).1;rw [G m U,hm] at n
 have n:=Q6I n;have r:=(W2 f x).1
 rw [G x T,hx] at r;have r:=Y7G r
 have u:N g=some (.exr [base] (Q8p gs none)):=(B g (by simp)).trans hs;obtain ⟨b,V,h,A,M,J,o⟩:=Y0o f u
 rw [M] at n;have i:∀ v,(v=.slice none 0 0/\Q0J y gs=gs.length/\Instr.findNow (.int .i64) (.int .i64 y) h.toList 0=some none)\/(V[Q0J y gs]?=some v/\Instr.findNow (.int .i64) (.int .i64 y) h.toList 0=some (some (Q0J y gs,v))) ->
   (execOp a.eval (Y6 ops.toList k)).run P w=.ok (.value v) w:=by
  rintro v (⟨rfl,_,l⟩|⟨_,l⟩)
  ·simp [execOp,hop,n,r,Instr.lookup,run_underlying ht,MapKept.run_getObj_map o.heap,MapKept.run_checkKey hkT (k:=.int .i64 y) (d:=.int .i64) rfl,MapKept.run_findKey hkT l,hz]
  ·simp [execOp,hop,n,r,Instr.lookup,run_underlying ht,MapKept.run_getObj_map o.heap,MapKept.run_checkKey hkT (k:=.int .i64 y) (d:=.int .i64) rfl,MapKept.run_findKey hkT l]
 have H:∀ j ∈ (AVal.v (.c (.cp g (1+Q0J y gs)))).refs,R j:=fun j F=>by
  simp [AVal.refs,TV.refs,CV.refs] at F
  subst F;exact (f.sr _ _ u).1
 rcases o.find y with ⟨l,I⟩|⟨q,l,z,p⟩
 ·refine K9 f (Q5w D) (i _ (.inl ⟨rfl,I,l⟩)) (.v _ _ (.c _ _ (.cp _ _ _ _ J ?_ rfl))) H
  rw [Z5u,I, <-o.len];simp
 ·obtain ⟨e',he'⟩:∃ e',gs[Q0J y gs]?=some e':=⟨_,List.getElem?_eq_getElem p⟩
  refine K9 f (Q5w D) (i _ (.inr ⟨z,l⟩)) (.v _ _ (.c _ _ (.cp _ _ _ _ J ?_ ((o.rows _ _ _ he' z).form.choose_spec.choose_spec.choose_spec.2.2)))) H;rw [Z5u,List.getElem?_append_left (by rw [o.len];exact p)]
  exact z
end
end
section
open Go.MapKept
section
variable {P:Program} {C:Ctx} {nt:Nat} {L:Lay} {R:Nat->Prop} {η:Nat->Value} {e:Env} {s:Sto} {a:Act} {w:World}
variable {α:Type} [Emb α] {ops:Array Oper} {ds:List Dir} {k:Nat}
def gRow (y:Int) (gs:List (Int×List α)):List α:=match gs[Q0J y gs]? with|some e=>e.2|none=>[]
theorem Y1s {β:Type} {y:Int} {m:List β} {gs:List (Int×List β)} {q:Int×List β} (h:gs[Q0J y gs]?=some q):gApp y m gs=gs.set (Q0J y gs) (q.1,q.2++m):=by unfold gApp;rw [h]
theorem Y4o {β:Type} {y:Int} {m:List β} {gs:List (Int×List β)} (h:Q0J y gs=gs.length):gApp y m gs=gs++[(y,m)]:=by
 unfold gApp;rw [h,List.getElem?_eq_none (Nat.le_refl _)]
def Y3h {β:Type} (l:List β) (i:Nat) (x:β):List β:=if i<l.length then l.set i x else l++[x]
theorem Z5i {β:Type} {l:List β} {i:Nat} {x:β} (h:i<=l.length):(Y3h l i x).length=if i<l.length then l.length else l.length+1:=by
 unfold Y3h;split <;> simp
theorem Z7X {β:Type} {l:List β} {i:Nat} {x:β} (h:i<=l.length) (j:Nat):(Y3h l i x)[j]?=if j=i then some x else l[j]?:=by
 unfold Y3h;split
 ·rename_i b
  rw [List.getElem?_set]
  by_cases hj:i=j
  ·subst hj;rw [if_pos rfl,if_pos rfl,if_pos b]
  ·rw [if_neg hj,if_neg (fun h=>hj h.symm)]
 ·have b:i=l.length:=by omega
  subst b
  by_cases hj:j=l.length
  ·subst hj;rw [if_pos rfl];simp
  ·rw [if_neg hj]
   rcases Nat.lt_or_ge j l.length with c|c
   ·rw [List.getElem?_append_left c]
   ·rw [List.getElem?_append_right c,List.getElem?_eq_none (by omega:l.length<=j)]
    have:j-l.length=(j-l.length-1)+1:=by omega
    rw [this];rfl
theorem Z8j {β:Type} {y:Int} {m:List β} {gs:List (Int×List β)}:∃ q,q.1=y/\q.2=gRow y gs++m/\gApp y m gs=Y3h gs (Q0J y gs) q/\Q0J y gs<=gs.length:=by
 rcases Q7o y gs with ⟨b,q,d,f⟩|⟨c,_⟩
 ·refine ⟨(q.1,q.2++m),f,by unfold gRow;rw [d],?_,by omega⟩
  rw [Y1s d];unfold Y3h;rw [if_pos b]
 ·refine ⟨(y,m),rfl,?_,?_,by omega⟩
  ·unfold gRow;rw [c,List.getElem?_eq_none (Nat.le_refl _)];simp
  ·rw [Y4o c];unfold Y3h;rw [c,if_neg (Nat.lt_irrefl _)]
theorem W0e {β:Type} {y:Int} {m:List β} {gs:List (Int×List β)}:∃ q,(gApp y m gs)[Q0J y gs]?=some q/\q.1=y:=by
 obtain ⟨q,c,_,b,d⟩:=Z8j (y:=y) (m:=m) (gs:=gs);refine ⟨q,?_,c⟩
 rw [b];unfold Y3h
 split
 ·rename_i h;rw [List.getElem?_set_self h]
 ·have:Q0J y gs=gs.length:=by omega
  rw [this,List.getElem?_append_right (Nat.le_refl _),Nat.sub_self];rfl
theorem Y2J {β:Type} {y:Int} {m:List β} {gs:List (Int×List β)} (hnd:(gs.map (·.1)).Nodup):((gApp y m gs).map (·.1)).Nodup:=by
 rcases Q7o y gs with ⟨c,q,b,l⟩|⟨h,d⟩
 ·rw [Y1s b,List.map_set]
  have:(gs.map (·.1)).set (Q0J y gs) q.1=gs.map (·.1):=by
   apply List.ext_getElem?;intro j
   rw [List.getElem?_set];split
   ·rename_i g;subst g
    rw [if_pos (by simpa using c),List.getElem?_map,b];rfl
   ·rfl
  rw [this];exact hnd
 ·rw [Y4o h,List.map_append]
  refine List.nodup_append.2 ⟨hnd,by simp,?_⟩;intro x i z f
  obtain ⟨q,b,rfl⟩:=List.mem_map.1 i;simp at f
  subst f;exact d q b
theorem KAt.gApp (hL:LOk P L) {gs:List (Int×List α)} {m:List α} {base g d:Nat} {y:Int} {t tx ty:Nat} {te:TI} (hT:slT L t te) (hes:te.size=Emb.es α)
  (hk:Q2f ds k=xE [g] { v:=.v (.c (.cp d (1+Q0J y gs))),del:=[g],new:=some (.exr [base] (Q8p (Go.Ab.gApp y m gs) (some (Q0J y gs)))) })
  (hop:(Y6 ops.toList k).op=.call { callee:=.builtin .append,args:= #[.tmp tx,.tmp ty],argTypes:= #[t,t] }) (hdo:(gOk ops nt (W6 L ops ops.toList ds e s k) (Y6 ops.toList k)&&(Y6 ops.toList k).dst==some d && !(tx==ty))=true)
  (hx:W6 L ops ops.toList ds e s k tx=.v (.c (.cp g (1+Q0J y gs)))) (hy:W6 L ops ops.toList ds e s k ty=AL m) (hs:Q2o L ops ops.toList ds e s k g=some (.exr [base] (Q8p gs none)))
  (hby:te.bytes<=8192) (hzl:te.zero.length=te.size) (hlim:(gRow y gs).length+m.length<=LIM):KAt P C nt L ops ds e s k:=by
 obtain ⟨ti,el,ht,e8,e5⟩:=hT;unfold KAt
 rw [hk];simp only [gOk,Bool.and_eq_true,beq_iff_eq,Bool.not_eq_true',beq_eq_false_iff_ne] at hdo
 obtain ⟨⟨⟨h1,h2⟩,h3⟩,h4⟩:=hdo;refine Y0H [g] h1 h2 fun R η e0 s0 a w he i3 e9 hn B=>?_
 have ox:Operand.tmp tx ∈ (Y6 ops.toList k).op.operands.toList:=by rw [hop];simp [Op.operands,Call.operands]
 have oy:Operand.tmp ty ∈ (Y6 ops.toList k).op.operands.toList:=by rw [hop];simp [Op.operands,Call.operands]
 have ex:e0 tx=.v (.c (.cp g (1+Q0J y gs))):=(he _ ox).trans hx;have ey:e0 ty=AL m:=(he _ oy).trans hy
 have F:s0 g=some (.exr [base] (Q8p gs none)):=(e9 g (by simp)).trans hs;have e3:=Q5w h1 d h3
 have b4:¬ R d:=hn d h3 (by simp);obtain ⟨b,O,b2,a1,hb,hg,f⟩:=Y0o B F
 have h9:g≠d:=fun h=>b4 (h ▸ (B.sr _ _ F).1)
 have b9:=B.ev tx;rw [ex] at b9
 generalize hv1e:a.tmps.getD tx undef=v1 at b9;have b8:(O++[.slice none 0 0])[Q0J y gs]?=some v1:=by
  cases b9 with|v _ _ hh=>cases hh with|c _ _ hh=>cases hh with|cp _ _ _ vs q1 q2 _=>
  rw [hg] at q1;cases q1
  rwa [Z5u] at q2
 obtain ⟨q,e6,f7,a4,H⟩:=Z8j (y:=y) (m:=m) (gs:=gs);have Y : Q0J y gs<=O.length:=by rw [f.len];exact H
 have I:∀ x,x ∈ Y5 (.agg (Q5t b O))->Own s0 η x:=fun x hx=>⟨g,_,F,by rw [hg];exact hx⟩
 have e1:Y1P w (XS C s0 η) v1 (gRow y gs)/\(∀ x ∈ Y5 v1,x ∈ Y5 (.agg (Q5t b O)))/\b ∉ Y5 v1/\∀ j u,j≠Q0J y gs->O[j]?=some u->∀ x ∈ Y5 u,x ∉ Y5 v1:=by
  rcases Q7o y gs with ⟨W,q',a9,c6⟩|⟨hl,_⟩
  ·have p:O[Q0J y gs]?=some v1:=by rwa [List.getElem?_append_left (by rw [f.len];exact W)] at b8
   refine ⟨?_,fun x hx=>(Q0L f.one).2 (.inr ⟨v1,List.mem_of_getElem? p,hx⟩),f.off _ _ p,fun j u D hu x hx f6=>D (f.apart _ _ _ _ x hu p hx f6)⟩;unfold gRow;rw [a9]
   exact f.rows _ _ _ a9 p
  ·have p:v1=.slice none 0 0:=by
    rw [hl, <-f.len,List.getElem?_append_right (Nat.le_refl _),Nat.sub_self] at b8;simpa using b8.symm
   subst p;refine ⟨?_,fun x hx=>by simp [Y5] at hx,by simp [Y5],fun j u _ _ x _ hx=>by simp [Y5] at hx⟩
   unfold gRow;rw [hl,List.getElem?_eq_none (Nat.le_refl _)]
   exact fun η C=>.nil _ _ _
 obtain ⟨e7,N,c0,a2⟩:=e1;obtain ⟨v',w',c7,G,a0,c1⟩:=Y5e hL B h3 e3 h4 hop ht e8 e5 hes (l:=gRow y gs) (m:=m) (by rw [hv1e];exact e7) (fun x hx=>by rw [hv1e] at hx;exact .inr (I x (N x hx))) ey hby hzl hlim
 rw [hv1e] at G a0 c1;have b6:∀ x ∈ Y5 (.agg (Q5t b O)),C.M x\/C.w0.heap.size<=x:=fun x hx=>by
  rcases B.ow g _ x F (by rw [hg];exact hx) with ⟨h,_⟩|h
  ·cases h
  ·exact h
 have W:∀ x ∈ Y5 (.agg (Q5t b O)),x<w.heap.size:=fun x hx=>f.lt hx
 let rs':=Y3h O (Q0J y gs) v'
 have n : ∀ j,rs'[j]?=if j=Q0J y gs then some v' else O[j]?:=fun j=>Z7X Y j
 have b0 : ∀ j,(Go.Ab.gApp y m gs)[j]?=if j=Q0J y gs then some q else gs[j]?:=fun j=>by rw [a4];exact Z7X H j
 have T:=(c1 (fun _=>False) fun _ _ h=>h.elim).form;have b7 : ∀ v ∈ rs',Y2Q v=Y5 v:=fun v p=>by
  obtain ⟨j,D⟩:=List.getElem?_of_mem p;have z:=n j
  rw [D] at z
  by_cases h:j=Q0J y gs
  ·rw [if_pos h] at z;cases z;exact T.choose_spec.choose_spec.choose_spec.2.1
  ·rw [if_neg h] at z;exact f.one _ (List.mem_of_getElem? z.symm)
 have hu:∀ x,x ∈ Y5 (.agg (Q5t b rs'))->x=b\/x ∈ Y5 v' \/ ∃ j u,j≠Q0J y gs/\O[j]?=some u/\x ∈ Y5 u:=fun x hx=>by
  rcases (Q0L b7).1 hx with h|⟨v,p,hx⟩
  ·exact .inl h
  ·obtain ⟨j,D⟩:=List.getElem?_of_mem p
   have z:=n j;rw [D] at z
   by_cases h:j=Q0J y gs
   ·rw [if_pos h] at z;cases z;exact .inr (.inl hx)
   ·rw [if_neg h] at z;exact .inr (.inr ⟨j,_,h,z.symm,hx⟩)
 have d0:∀ x,x ∈ Y5 (.agg (Q5t b rs'))->w.heap.size<=x\/x ∈ Y5 (.agg (Q5t b O)):=fun x hx=>by
  rcases hu x hx with rfl|h|⟨j,u,_,h,hx⟩
  ·exact .inr ((Q0L f.one).2 (.inl rfl))
  ·rcases a0 x h with h|h
   ·exact .inr (N x h)
   ·exact .inl h
  ·exact .inr ((Q0L f.one).2 (.inr ⟨u,List.mem_of_getElem? h,hx⟩))
 let r:SR:= { v:=.v (.c (.cp d (1+Q0J y gs))),del:=[g],new:=some (.exr [base] (Q8p (Go.Ab.gApp y m gs) (some (Q0J y gs)))) }
 have d8:=Q5J (C:=C) (s:=s0) (η:=η) r (Y6 ops.toList k).dst (.agg (Q5t b rs')) (fun x=>x ∈ Y5 v1) G (fun x hx=>I x (N x hx)) (fun o' dd _ _ x hx=>by
  rcases d0 x hx with h|h
  ·exact .inl h
  ·exact .inr (I x h)) (fun k o hh=>by cases hh)
 have U:∀ i,r.eta (Y6 ops.toList k).dst (.agg (Q5t b rs')) η i=if i=d then .agg (Q5t b rs') else η i:=fun i=>by simp only [SR.eta,h3,r]
 have f5:w'.heap[b]?=w.heap[b]?:=G.block b (K8 f.heap) c0;have d2:∀ x,x<w'.heap.size->XS C (r.sto (Y6 ops.toList k).dst s0) (r.eta (Y6 ops.toList k).dst (.agg (Q5t b rs')) η) x->(XS C s0 η x/\x ∉ Y5 v1)\/x ∈ Y5 v':=by
  intro x hx hX;rcases hX with ⟨d4,e2⟩|⟨i,oi,A,Z⟩
  ·refine .inl ⟨.inl ⟨d4,e2⟩,fun c2=>?_⟩
   rcases b6 x (N x c2) with h|h
   ·exact e2 (B.ok.md x h)
   ·have:=B.ok.lt x d4;omega
  ·rcases Z8F r (Y6 ops.toList k).dst i oi A with ⟨_,a6⟩|⟨f2,_⟩|⟨ho,c5,_,a6⟩
   ·rw [h3] at a6;cases a6
    rw [U,if_pos rfl] at Z;rcases hu x Z with rfl|h|⟨j,u,D,d3,J⟩
    ·exact .inl ⟨.inr (I x ((Q0L f.one).2 (.inl rfl))),c0⟩
    ·exact .inr h
    ·exact .inl ⟨.inr (I x ((Q0L f.one).2 (.inr ⟨u,List.mem_of_getElem? d3,J⟩))),a2 j u D d3 x J⟩
   ·cases f2
   ·have f8:i≠d:=fun h=>by
     subst h;rcases a6 with h|h
     ·cases h
     ·exact h h3
    rw [U,if_neg f8] at Z;refine .inl ⟨.inr ⟨i,oi,ho,Z⟩,fun c2=>?_⟩
    have:i=g:=B.ds i g x (by rw [ho];simp) (by rw [F];simp) Z (by rw [hg];exact N x c2)
    subst this;exact c5 (by simp [r])
 have d1:GrpAt (Go.Ab.gApp y m gs) (some (Q0J y gs)) w' (XS C (r.sto (Y6 ops.toList k).dst s0) (r.eta (Y6 ops.toList k).dst (.agg (Q5t b rs')) η)) b rs' b2 a1:=by
  obtain ⟨g0,d5⟩:=f.ents;refine ⟨f5.trans f.heap,f.st,?_,Y2J f.nd,fun i e' v A p=>?_,fun i j u v x A D J a5=>?_,fun i v A c8=>?_,?_,?_,fun i e' v A V p=>?_⟩
  ·rw [a4,Z5i H,Z5i Y,f.len]
  ·rw [b0] at A
   rw [n] at p
   by_cases h:i=Q0J y gs
   ·rw [if_pos h] at A p
    cases A;cases p
    rw [f7];exact c1 _ d2
   ·rw [if_neg h] at A p
    exact (f.rows i e' v A p).mono d8 fun x hx=>G.block x (W x ((Q0L f.one).2 (.inr ⟨v,List.mem_of_getElem? p,hx⟩))) (a2 i v h p x hx)
  ·rw [n] at A D
   by_cases h:i=Q0J y gs <;> by_cases h' : j=Q0J y gs
   ·rw [h,h']
   ·rw [if_pos h] at A;rw [if_neg h'] at D
    cases A
    exfalso
    rcases a0 x J with h5|h5
    ·exact a2 j v h' D x a5 h5
    ·have:=W x ((Q0L f.one).2 (.inr ⟨v,List.mem_of_getElem? D,a5⟩));omega
   ·rw [if_neg h] at A;rw [if_pos h'] at D
    cases D
    exfalso
    rcases a0 x a5 with h5|h5
    ·exact a2 i u h A x J h5
    ·have:=W x ((Q0L f.one).2 (.inr ⟨u,List.mem_of_getElem? A,J⟩));omega
   ·rw [if_neg h] at A;rw [if_neg h'] at D
    exact f.apart i j u v x A D J a5
  ·rw [n] at A
   by_cases h:i=Q0J y gs
   ·rw [if_pos h] at A
    cases A
    rcases a0 b c8 with h5|h5
    ·exact c0 h5
    ·have:=K8 f.heap;omega
   ·rw [if_neg h] at A
    exact f.off i v A c8
  ·rw [a4,Z5i H];split <;> omega
  ·rw [a4,Z5i H]
   split
   ·exact .inl g0
   ·exact .inr ⟨by omega,by omega⟩
  ·rw [b0] at V
   rw [n] at p;have a7:i<gs.length:=by omega
   have c9:i<O.length:=by rw [f.len];exact a7
   obtain ⟨bo,d9⟩:=d5 i gs[i] O[i] (List.getElem?_eq_getElem a7) (List.getElem?_eq_getElem c9)
   by_cases h:i=Q0J y gs
   ·rw [if_pos h] at V
    cases V
    refine ⟨O[i],bo,?_,fun hh=>absurd h hh⟩;rw [d9]
    have:gs[i].1=q.1:=by
     rcases Q7o y gs with ⟨b3,q',a9,c6⟩|⟨hl,_⟩
     ·have h6:gs[i]?=some q':=by rw [h];exact a9
      rw [List.getElem?_eq_getElem a7] at h6;cases h6
      rw [c6,e6]
     ·omega
    rw [this]
   ·rw [if_neg h] at V p
    rw [List.getElem?_eq_getElem a7] at V;rw [List.getElem?_eq_getElem c9] at p
    cases V;cases p
    exact ⟨_,bo,d9,fun _=>rfl⟩
 refine ⟨v',.agg (Q5t b rs'),w',.inl c7,B.stepG (Y6 ops.toList k).dst (fun x hx=>by rw [h3] at hx;cases hx;exact e3) r v' (.agg (Q5t b rs')) w' (fun x=>x ∈ Y5 v1) G ?_ ?_ (fun k o hh=>by cases hh) ?_⟩
 ·intro x hx
  exact ⟨⟨g,.inl (by simp [r]),by rw [F];simp,by rw [hg];exact N x hx⟩,b6 x (N x hx)⟩
 ·intro o' dd f1 d6
  rw [h3] at d6;cases d6
  have f9:o'=.exr [base] (Q8p (Go.Ab.gApp y m gs) (some (Q0J y gs))):=by simpa [r] using f1.symm
  subst f9;refine ⟨b4,rfl,fun j D=>?_,?_,fun x hx=>?_⟩
  ·exact (B.sr g _ F).2 j D
  ·have f3:base≠d:=fun h=>b4 (h ▸ (B.sr g _ F).2 base (by simp [Obj.refs]))
   refine .exr _ _ _ ⟨b,rs',b2,a1,?_,rfl,d1⟩ (Z9g _) fun x hx=>d1.lt hx
   simp [U,f3,hb]
  ·rcases d0 x hx with h|h
   ·exact .inl h
   ·exact .inr ⟨⟨g,by simp [r],by rw [F];simp,by rw [hg];exact h⟩,b6 x h⟩
 ·intro _
  refine ⟨.v _ _ (.c _ _ (.cp _ _ _ (Q5t b rs') (by rw [U,if_pos rfl]) ?_ T.choose_spec.choose_spec.choose_spec.2.2)),fun j D=>?_⟩
  ·rw [Z5u]
   have b3 : Q0J y gs<rs'.length:=by
    have:=n (Q0J y gs)
    rw [if_pos rfl] at this;exact (List.getElem?_eq_some_iff.1 this).1
   rw [List.getElem?_append_left b3,n,if_pos rfl]
  ·simp [r,AVal.refs,TV.refs,CV.refs] at D
   subst D;exact .inr ⟨by simp [r],h3⟩
theorem Y9p {gs:List (Int×List α)} {base g j:Nat} {t kT eT:TypeId} {m x v:Operand} {y:Int} {q:Int×List α} (ht:P.underlying t=some (.map kT eT)) (hkT:P.underlying kT=some (.int .i64))
  (hk:Q2f ds k=xE [] { upd:=some (g,.exr [base] (Q8p gs none)) }) (hop:(Y6 ops.toList k).op=.mapUpdate t m x v) (hdo:(gOk ops nt (W6 L ops ops.toList ds e s k) (Y6 ops.toList k)&&(Y6 ops.toList k).dst.isNone)=true)
  (hm:aev (W6 L ops ops.toList ds e s k) m=.v (.c (.own base))) (hx:aev (W6 L ops ops.toList ds e s k) x=vi y) (hv:aev (W6 L ops ops.toList ds e s k) v=.v (.c (.cp g (1+j))))
  (hs:Q2o L ops ops.toList ds e s k g=some (.exr [base] (Q8p gs (some j)))) (hq:gs[j]?=some q) (hqy:q.1=y):KAt P C nt L ops ds e s k:=by
 unfold KAt;rw [hk]
 simp only [gOk,Bool.and_eq_true,beq_iff_eq] at hdo;obtain ⟨⟨h1,h2⟩,h3⟩:=hdo
 refine Y0H [] h1 h2 fun R η e0 s0 a w he c8 e3 hn H=>Snd.g ?_
 have om:m ∈ (Y6 ops.toList k).op.operands.toList:=by rw [hop];simp [Op.operands]
 have ox:x ∈ (Y6 ops.toList k).op.operands.toList:=by rw [hop];simp [Op.operands]
 have ov:v ∈ (Y6 ops.toList k).op.operands.toList:=by rw [hop];simp [Op.operands]
 have em:=(W2 H m).1;rw [he m om,hm] at em
 have em:=Q6I em;have ex:=(W2 H x).1
 rw [he x ox,hx] at ex;have ex:=Y7G ex
 have G:s0 g=some (.exr [base] (Q8p gs (some j))):=(c8 v ov g (by rw [hv];simp [AVal.refs,TV.refs,CV.refs])).trans hs;obtain ⟨b,U,l,d3,hb,hg,A⟩:=Y0o H G
 rw [hb] at em;have ev:=(W2 H v).1
 rw [he v ov,hv] at ev;have c4:j<U.length:=by rw [A.len];exact (List.getElem?_eq_some_iff.1 hq).1
 have O:U[j]?=some (a.eval v):=by
  generalize a.eval v=v1 at ev
  cases ev with|v _ _ I=>cases I with|c _ _ I=>cases I with|cp _ _ _ vs q1 q2 _=>
  rw [hg] at q1;cases q1
  rw [Z5u,List.getElem?_append_left c4] at q2;exact q2
 generalize hve:a.eval v=v1 at O;obtain ⟨e9,V,D⟩:=A.ents
 have a8:∀ (i:Nat) (z:MapEntry),l[i]?=some z->∃ J u,gs[i]?=some J /\ U[i]?=some u/\z.key=.int .i64 J.1/\(i≠j->z.val=u):=fun i z W=>by
  have T:i<l.size:=(Array.getElem?_eq_some_iff.1 W).1;have a0:i<gs.length:=by omega
  have a7:i<U.length:=by rw [A.len];exact a0
  obtain ⟨u,Z,n,M⟩:=D i gs[i] U[i] T (List.getElem?_eq_getElem a0) (List.getElem?_eq_getElem a7);rw [W] at n
  cases n
  exact ⟨gs[i],U[i],List.getElem?_eq_getElem a0,List.getElem?_eq_getElem a7,rfl,M⟩
 have c7:∀ z ∈ l.toList,IsKey (.int .i64) z.key:=fun z W=>by
  obtain ⟨i,T,rfl⟩:=List.getElem_of_mem W;obtain ⟨J,_,_,_,c2,_⟩:=a8 i l[i] (Array.getElem?_eq_getElem (by simpa using T))
  simp only [Array.getElem_toList];rw [c2];rfl
 have e8:b<w.heap.size:=K8 A.heap;have b0:∃ (B : Array MapEntry) (f : Nat),(execOp a.eval (Y6 ops.toList k)).run P w=.ok .skip { w with heap:=w.heap.setIfInBounds b (.map B f) } /\ Stamped B f /\ B.size=gs.length/\∀ (i:Nat) (J : Int×List α) (u:Value),gs[i]?=some J -> U[i]?=some u->∃ Z,B[i]?=some ⟨.int .i64 J.1,u,Z⟩:=by
  rcases findNow_spec (d:=.int .i64) (k:=.int .i64 y) rfl l.toList 0 c7 with ⟨f1,f2⟩|⟨i,z,f1,f2,f3⟩
  ·refine ⟨_,_,?_,stamped_push (val:=v1) A.st f2,?_,fun i J u F hu=>?_⟩
   ·simp [execOp,hop,em,ex,hve,Instr.mapUpdate,run_underlying ht,MapKept.run_getObj_map A.heap,MapKept.run_checkKey hkT (k:=.int .i64 y) (d:=.int .i64) rfl,MapKept.run_findKey hkT f1,MapKept.run_setObj_map _ A.heap]
   ·rw [Array.size_push]
    rcases V with h|⟨h,_⟩
    ·exfalso
     obtain ⟨u,Z,n,_⟩:=D j q v1 (by omega) hq O;exact f2 _ (by have:=Array.mem_of_getElem? n;simpa using this) (by rw [hqy])
    ·exact h
   ·rcases V with h|⟨h,hj⟩
    ·exfalso
     obtain ⟨u,Z,n,_⟩:=D j q v1 (by omega) hq O;exact f2 _ (by have:=Array.mem_of_getElem? n;simpa using this) (by rw [hqy])
    ·rw [Array.getElem?_push]
     by_cases T:i=l.size
     ·rw [if_pos T]
      have a3:i=j:=by omega
      subst a3;rw [hq] at F;rw [O] at hu
      cases F;cases hu
      exact ⟨_,by rw [hqy]⟩
     ·rw [if_neg T]
      have d1:i<gs.length:=(List.getElem?_eq_some_iff.1 F).1;obtain ⟨u',Z,n,M⟩:=D i J u (by omega) F hu
      rw [M (by omega)] at n;exact ⟨Z,n⟩
  ·have fz:l[i]?=some z:=by simpa using f2
   obtain ⟨J,u,F,hu,b7,e2⟩:=a8 i z fz;have d2:J.1=y:=by rw [f3] at b7;cases b7;rfl
   have a3:i=j:=Z8T A.nd F hq (by rw [d2,hqy]);subst a3
   refine ⟨_,_,?_,stamped_modify A.st i (fun e=> { e with key:=.int .i64 y,val:=v1 }) (fun _ _=>rfl) (fun b1 _ p=>?_),?_,fun i' b1 u' p a4=>?_⟩
   ·simp [execOp,hop,em,ex,hve,Instr.mapUpdate,run_underlying ht,MapKept.run_getObj_map A.heap,MapKept.run_checkKey hkT (k:=.int .i64 y) (d:=.int .i64) rfl,MapKept.run_findKey hkT f1,fz,f3,MapKept.run_keyThatStays (d:=.int .i64) (k:=.int .i64 y) rfl,MapKept.run_setObj_map _ A.heap]
   ·rw [fz] at p;cases p;exact f3.symm
   ·rw [Array.size_modify]
    rcases V with h|⟨h,hj⟩
    ·exact h
    ·have:i<l.size:=(Array.getElem?_eq_some_iff.1 fz).1
     omega
   ·rw [Array.getElem?_modify]
    by_cases T:i=i'
    ·subst T
     rw [if_pos rfl,fz];rw [hq] at p;rw [O] at a4
     cases p;cases a4
     exact ⟨z.born,by rw [hqy];rfl⟩
    ·rw [if_neg T]
     have d1:i' < gs.length:=(List.getElem?_eq_some_iff.1 p).1;have d8:i<l.size:=(Array.getElem?_eq_some_iff.1 fz).1
     obtain ⟨e4,Z,n,M⟩:=D i' b1 u' (by rcases V with h|⟨h,hj⟩ <;> omega) p a4;rw [M (fun h=>T h.symm)] at n
     exact ⟨Z,n⟩
 obtain ⟨B,f,a9,b2,b9,a2⟩:=b0;have Y:Stp (fun x=>x=b) w { w with heap:=w.heap.setIfInBounds b (.map B f) } :=
  ⟨rfl,rfl,rfl,by simp,fun x _ hx=>(heap_set A.heap).2 x hx,Nat.le_refl _⟩
 have N:b ∈ Y5 (η g):=by rw [hg];exact (Q0L A.one).2 (.inl rfl)
 have hd:(Y6 ops.toList k).dst=none:=by simpa using h3
 let r:SR:= { upd:=some (g,.exr [base] (Q8p gs none)) }
 have b3:=Q5J (C:=C) (s:=s0) (η:=η) r (Y6 ops.toList k).dst undef (fun x=>x=b) Y (fun x hx=>by subst hx;exact ⟨g,_,G,N⟩) (fun _ _ I=>by cases I) (fun k o I=>by cases I;rw [G];simp);have b6:r.eta (Y6 ops.toList k).dst undef η=η:=by funext i;simp [SR.eta,r]
 refine ⟨undef,_,.inr ⟨a9,rfl⟩,H.step (Y6 ops.toList k).dst (fun x hx=>by rw [hd] at hx;cases hx) r undef _ (fun x=>x=b) Y (fun x hx=>?_) (fun _ _ I=>by cases I) (fun k' o' I=>?_) (fun I=>absurd hd I)⟩
 ·subst hx
  refine ⟨⟨g,.inr ⟨_,rfl⟩,by rw [G];simp,N⟩,?_⟩;rcases H.ow g _ x G N with ⟨h,_⟩|h
  ·cases h
  ·exact h
 ·cases I
  refine ⟨⟨_,G,rfl⟩,rfl,by simp [r],fun j hj=>(H.sr g _ G).2 j hj,?_⟩;rw [b6] at b3 ⊢
  rw [hg];have b4:GrpAt gs none { w with heap:=w.heap.setIfInBounds b (.map B f) } (XS C (r.sto (Y6 ops.toList k).dst s0) η) b U B f :=
   ⟨(heap_set A.heap).1,b2,A.len,A.nd,fun i J u F hu=>(A.rows i J u F hu).mono b3 fun z W=>(heap_set A.heap).2 z (fun h=>by subst h;exact A.off i u hu W),A.apart,A.off,b9,a2⟩
  exact .exr _ _ _ ⟨b,U,B,f,by simp [hb],rfl,b4⟩ (Z9g _) fun z W=>b4.lt W
end
section
variable {P:Program} {C:Ctx} {nt:Nat} {L:Lay} {pins:List Nat} {K:Act->World->Prop} {α:Type} [Emb α]
theorem Y9n (Fm:Fr P L C pins) {E:List (Nat×AVal)} {S0:List (Nat×Obj)} {id k:Nat} {o o' : Obj} (hp:pins.contains k=false)
  (hfr:((E.flatMap fun p=>p.2.refs)++(((id,o)::S0).flatMap fun p=>p.1::p.2.refs)).contains k=false) (hid:(S0.map (·.1)).contains id=false) (hro:o.ro=false) (hro' : o'.ro=false) (hrf:∀ j ∈ o'.refs,j=id\/j ∈ o.refs)
  (hu:∀ R η a w,Conc C nt R η (lk E) (ls ((id,o)::S0)) a w->∃ u,(∀ b ∈ Y5 u,b ∈ Y5 (η id))/\∀ X' η',Q7b w w (XS C (ls ((id,o)::S0)) η) X' -> (∀ i,i≠k->η' i=η i)->ORep w X' η' C u o')
  (hk:Kn C nt E ((k,o')::S0) K):Kn C nt E ((id,o)::S0) K:=by
 intro R η a w m;have g:ls ((id,o)::S0) id=some o:=by rw [U5,if_pos rfl]
 obtain ⟨u,r,G⟩:=hu R η a w m;have N:C.pin k=none:=by
  rcases hq:C.pin k with _|u
  ·rfl
  ·have:=Fm.pin k (by rw [hq];simp)
   rw [List.contains_iff_mem.2 this] at hp;cases hp
 have B:∀ i ∈ (E.flatMap fun p=>p.2.refs)++(((id,o)::S0).flatMap fun p=>p.1::p.2.refs),i≠k:=by
  intro i d J;subst J
  rw [List.contains_iff_mem.2 d] at hfr;cases hfr
 have a5:id≠k:=B id (by simp);have a6:∀ j ∈ o.refs,j≠k:=fun j n=>B j (by simp [n])
 have l:∀ i o',ls S0 i=some o' -> i≠k/\i≠id/\(∀ j ∈ o'.refs,j≠k)/\ls ((id,o)::S0) i=some o':=by
  intro i o' d;have hm:=U4 d
  have U:i≠id:=by
   intro J;subst J
   have:i ∈ S0.map (·.1):=List.mem_map.2 ⟨_,hm,rfl⟩
   rw [List.contains_iff_mem.2 this] at hid;cases hid
  refine ⟨B i (List.mem_append.2 (.inr (List.mem_flatMap.2 ⟨_,List.mem_cons_of_mem _ hm,by simp⟩))),U,fun j n=>B j (List.mem_append.2 (.inr (List.mem_flatMap.2 ⟨_,List.mem_cons_of_mem _ hm,by simp [n]⟩))),?_⟩;rw [U5,if_neg U];exact d
 have a2:∀ u i,i ∈ (lk E u).refs->i≠k:=by
  intro u i d;rcases Z8V (E:=E) (t:=u) with h0|h0
  ·rw [h0] at d;cases d
  ·exact B i (List.mem_append.2 (.inl (List.mem_flatMap.2 ⟨_,h0,d⟩)))
 let η' : Nat->Value:=fun i=>if i=k then u else η i
 have f : ∀ i,i≠k->η' i=η i:=fun i d=>by show (if i=k then u else η i)=_;rw [if_neg d]
 have A:η' k=u:=by show (if k=k then u else η k)=_;rw [if_pos rfl]
 have V:∀ b,Own (ls ((k,o')::S0)) η' b->Own (ls ((id,o)::S0)) η b:=by
  rintro b ⟨i,q,d,D⟩;rw [U5] at d
  by_cases c:i=k
  ·subst c
   rw [A] at D;exact ⟨id,_,g,r b D⟩
  ·rw [if_neg c] at d
   rw [f i c] at D;exact ⟨i,q,(l i q d).2.2.2,D⟩
 have hX:Q7b w w (XS C (ls ((id,o)::S0)) η) (XS C (ls ((k,o')::S0)) η'):=by
  intro b O hn;refine ⟨rfl,fun I=>?_⟩
  rcases I with I|I
  ·exact hn (.inl I)
  ·exact hn (.inr (V b I))
 refine hk (fun i=>R i\/i=k) η' a w ⟨m.ok,m.df,m.sz,fun t=>?_,fun t i d=>.inl (m.er t i d),fun i q d=>?_,fun i q d=>?_,fun i j b d n z x=>?_,fun i q b d O=>?_,m.fr,fun i v d=>?_⟩
 ·exact (m.ev t).mono hX fun i d=>f i (a2 t i d)
 ·rw [U5] at d
  by_cases c:i=k
  ·subst c
   rw [if_pos rfl] at d;cases d
   rw [A];exact G _ _ hX f
  ·rw [if_neg c] at d
   obtain ⟨F,M,W,H⟩:=l i q d;rw [f i c]
   exact (m.st i q H).mono hX (fun j n=>f j (W j n)) fun _ _=>rfl
 ·rw [U5] at d
  by_cases c:i=k
  ·subst c
   rw [if_pos rfl] at d;cases d
   refine ⟨.inr rfl,fun j n=>.inl ?_⟩;rcases hrf j n with rfl|h
   ·exact (m.sr j _ g).1
   ·exact (m.sr id _ g).2 j h
  ·rw [if_neg c] at d
   obtain ⟨F,M,W,H⟩:=l i q d;have:=m.sr i q H
   exact ⟨.inl this.1,fun j n=>.inl (this.2 j n)⟩
 ·rw [U5] at d n
  by_cases c:i=k <;> by_cases hjk:j=k
  ·rw [c,hjk]
  ·exfalso
   rw [if_neg hjk] at n;obtain ⟨Y,T⟩:=Option.ne_none_iff_exists'.1 n
   obtain ⟨F,M,W,H⟩:=l j Y T;rw [c,A] at z
   rw [f j hjk] at x;exact M (m.ds j id b (by rw [H];simp) (by rw [g];simp) x (r b z))
  ·exfalso
   rw [if_neg c] at d;obtain ⟨q,T⟩:=Option.ne_none_iff_exists'.1 d
   obtain ⟨F,M,W,H⟩:=l i q T;rw [hjk,A] at x
   rw [f i c] at z;exact M (m.ds i id b (by rw [H];simp) (by rw [g];simp) z (r b x))
  ·rw [if_neg c] at d
   rw [if_neg hjk] at n;obtain ⟨q,T⟩:=Option.ne_none_iff_exists'.1 d
   obtain ⟨Y,Z⟩:=Option.ne_none_iff_exists'.1 n;rw [f i c] at z
   rw [f j hjk] at x;exact m.ds i j b (by rw [(l i q T).2.2.2];simp) (by rw [(l j Y Z).2.2.2];simp) z x
 ·rw [U5] at d
  by_cases c:i=k
  ·subst c
   rw [if_pos rfl] at d;cases d
   rw [A] at O;rcases m.ow id _ b g (r b O) with ⟨F,_⟩|F
   ·rw [hro] at F;cases F
   ·exact .inr F
  ·rw [if_neg c] at d
   rw [f i c] at O;exact m.ow i q b (l i q d).2.2.2 O
 ·have c:i≠k:=by intro J;subst J;rw [N] at d;cases d
  have:=m.pn i v d
  exact ⟨(f i c).trans this.1,.inl this.2⟩
theorem W0z (Fm:Fr P L C pins) (α:Type) [Emb α] {E:List (Nat×AVal)} {S0:List (Nat×Obj)} {d g:Nat} {kT eT:TypeId} (hp:pins.contains g=false)
  (hfr:((E.flatMap fun p=>p.2.refs)++(((d,Obj.ext (Y2b P kT eT []))::S0).flatMap fun p=>p.1::p.2.refs)).contains g=false) (hd:(S0.map (·.1)).contains d=false)
  (hk:Kn C nt E ((g,.exr [d] (Q8p ([]:List (Int×List α)) none))::S0) K):Kn C nt E ((d,.ext (Y2b P kT eT []))::S0) K:=by
 refine Y9n Fm hp hfr hd rfl rfl (fun j A=>.inl (by simpa [Obj.refs] using A)) (fun R η a w G=>?_) hk;have f:=G.st d _ (show ls ((d,.ext (Y2b P kT eT []))::S0) d=some (.ext (Y2b P kT eT [])) by rw [U5,if_pos rfl])
 generalize hη:η d=u at f
 cases f with
 | ext _ _ hp' _ hlt=>
  obtain ⟨b,rfl,F,c,D,I,B,_⟩:=hp';have r:F=#[]:=Array.eq_empty_of_size_eq_zero (by simpa using B)
  subst r;refine ⟨.agg (Q5t b []),fun x l=>?_,fun X' η' H o=>?_⟩
  ·have:=(Q0L (rs:=[]) (fun v n=>by cases n)).1 l
   rcases this with rfl|⟨v,n,_⟩
   ·simp [Y5]
   ·cases n
  ·have t:d≠g:=fun h=>by
    subst h;have:((E.flatMap fun p=>p.2.refs)++(((d,Obj.ext (Y2b P kT eT []))::S0).flatMap fun p=>p.1::p.2.refs)).contains d=true:=by simp
    rw [this] at hfr;cases hfr
   have z:GrpAt ([]:List (Int×List α)) none w X' b [] #[] c:=⟨D,⟨by simp,by simp,by simp⟩,rfl,by simp,fun i e v m=>by simp at m,fun i j u v x q=>by simp at q,fun i v q=>by simp at q,rfl,fun i e v m=>by simp at m⟩;exact .exr _ _ _ ⟨b,[], #[],c,by simp [o d t,hη],rfl,z⟩ (Z9g _) fun x l=>z.lt l
theorem W1t {E0:List (Nat×AVal)} {S0:List (Nat×Obj)} {t d g:Nat} {gs:List (Int×List α)} (hid:(S0.map (·.1)).contains g=false)
  (hk:Kn C nt ((t,.v (.c (.d (MP gs))))::E0) S0 K):Kn C nt ((t,.v (.c (.own d)))::E0) ((g,.exr [d] (Q8p gs none))::S0) K:=by
 intro R η a w m;have F:ls ((g,.exr [d] (Q8p gs none))::S0) g=some (.exr [d] (Q8p gs none)):=by rw [U5,if_pos rfl]
 have p:∀ i o,ls S0 i=some o->i≠g/\ls ((g,.exr [d] (Q8p gs none))::S0) i=some o:=by
  intro i o h;have q:i≠g:=by
   intro he;subst he
   have:i ∈ S0.map (·.1):=List.mem_map.2 ⟨_,U4 h,rfl⟩
   rw [List.contains_iff_mem.2 this] at hid;cases hid
  exact ⟨q,by rw [U5,if_neg q];exact h⟩
 obtain ⟨b,A,U,G,hb,hg,B⟩:=Y0o m F;have M:∀ x,XS C (ls S0) η x->XS C (ls ((g,.exr [d] (Q8p gs none))::S0)) η x:=fun x z=>by
  rcases z with z|⟨i,o,h,D⟩
  ·exact .inl z
  ·exact .inr ⟨i,o,(p i o h).2,D⟩
 have Y:Q7b w w (XS C (ls ((g,.exr [d] (Q8p gs none))::S0)) η) (XS C (ls S0) η):=fun x _ V=>⟨rfl,fun z=>V (M x z)⟩
 have N:∀ x ∈ Y5 (η g),¬ XS C (ls S0) η x:=fun x z a3=>by
  rcases a3 with ⟨Z,a1⟩|⟨i,o,h,D⟩
  ·rcases m.ow g _ x F z with ⟨I,_⟩|I|I
   ·cases I
   ·exact a1 (m.ok.md x I)
   ·have:=m.ok.lt x Z;omega
  ·exact (p i o h).1 (m.ds i g x (by rw [(p i o h).2];simp) (by rw [F];simp) D z)
 obtain ⟨a2,T⟩:=B.ents;have hD:DRep w (XS C (ls S0) η) (.map (some b)) (MP gs):=by
  refine .mp b U G gs.length _ (fun i=>A.getD i undef) _ (N b (by rw [hg];exact (Q0L B.one).2 (.inl rfl))) B.heap B.st a2 (fun i h=>?_) fun i h=>?_
  ·have J:i<A.length:=by rw [B.len];exact h
   obtain ⟨bo,a0⟩:=T i gs[i] A[i] (List.getElem?_eq_getElem h) (List.getElem?_eq_getElem J);exact ⟨bo,by rw [a0];simp [List.getD_eq_getElem?_getD,h,J]⟩
  ·have J:i<A.length:=by rw [B.len];exact h
   have e1:A.getD i undef=A[i]:=by simp [List.getD_eq_getElem?_getD,J]
   have e2:gs.getD i (0,[])=gs[i]:=by simp [List.getD_eq_getElem?_getD,h]
   simp only [e1,e2];have l:=B.rows i gs[i] A[i] (List.getElem?_eq_getElem h) (List.getElem?_eq_getElem J) η C
   have O:∀ x ∈ Y5 A[i],¬ XS C (ls S0) η x:=fun x z=>N x (by rw [hg];exact (Q0L B.one).2 (.inr ⟨A[i],List.getElem_mem J,z⟩))
   unfold AO at l;unfold DL
   generalize gs[i].2.length=n at l ⊢;generalize LF gs[i].2=f at l ⊢
   generalize A[i]=v at l O ⊢
   cases l with
   | nil ad es f=>exact .nil ad 0 f
   | arr b n cap es c e f I h2 h3 h4 h5 h6 h7=>
    refine .lst b 0 n cap c e _ f _ (O b (by simp [Y5];omega)) I h3 (by rw [h2,Nat.zero_add];exact Nat.mul_le_mul_right _ h3) h6 fun i j h W=>?_
    rw [Nat.zero_add];exact (h7 i j h W).mono Y
 have q:∀ i,ls S0 i≠none->ls ((g,.exr [d] (Q8p gs none))::S0) i≠none:=fun i h V=>by
  obtain ⟨o,ho⟩:=Option.ne_none_iff_exists'.1 h;rw [(p i o ho).2] at V;cases V
 refine hk R η a w ⟨m.ok,m.df,m.sz,fun u=>?_,fun u i h=>?_,fun i o h=>(m.st i o (p i o h).2).mono Y (fun _ _=>rfl) fun _ _=>rfl,fun i o h=>m.sr i o (p i o h).2,fun i j b h W=>m.ds i j b (q i h) (q j W),fun i o b h=>m.ow i o b (p i o h).2,m.fr,m.pn⟩
 ·rw [Z8d]
  have r:=m.ev u;rw [Z8d] at r
  by_cases hu:u=t
  ·rw [if_pos hu] at r ⊢
   rw [Q6I r,hb];exact .v _ _ (.c _ _ (.d _ _ hD))
  ·rw [if_neg hu] at r ⊢
   exact r.mono Y fun _ _=>rfl
 ·rw [Z8d] at h
  have H:=m.er u i;rw [Z8d] at H
  by_cases hu:u=t
  ·rw [if_pos hu] at h;cases h
  ·rw [if_neg hu] at h H
   exact H h
end
end
section
def ov:List (Nat×Obj)->List (Nat×Obj)->List (Nat×Obj)
 | [],S=>S
 | _::_,[]=>[]
 | (k,o)::W,(i,x)::S=>match Nat.beq k i with
  | true=>(i,o)::ov W S
  | false=>(i,x)::ov ((k,o)::W) S
def FW:List (Nat×Obj)->List (Nat×Obj)->Prop
 | [],_=>True
 | _::_,[]=>True
 | (k,o)::W,(i,x)::S=>match Nat.beq k i with
  | true=>OLe o x/\FW W S
  | false=>FW ((k,o)::W) S
theorem Y6g:∀ {W S:List (Nat×Obj)},FW W S->FSl (ov W S) S
 | [],S,_=>by cases S <;> exact FSl.refl _
 | _::_,[],_=>True.intro
 | (k,o)::W,(i,x)::S,h=>by
  unfold ov;unfold FW at h
  cases e:Nat.beq k i with
  | true=>rw [e] at h;exact ⟨rfl,h.1,Y6g h.2⟩
  | false=>rw [e] at h;exact ⟨rfl,OLe.refl _,Y6g h⟩
section
variable {P:Program} {C:Ctx} {nt:Nat} {L:Lay} {pins:List Nat} {E:List (Nat×AVal)} {S:List (Nat×Obj)} {Q:Exit->Act->World->Prop}
theorem Y9x (Fm:Fr P L C pins) {id:Nat} {ops:Array Oper} {draw:Bool} (ds:List Dir) (c:(Nat->Prop)->Prop) (E' : List (Nat×AVal)) (S' : List (Nat×Obj)) (hc:c (KAt P C nt L ops ds (lk E) (ls S))) (W:List (Nat×Obj)) (hW:FW W S') (k:Kn C nt E' S' (Q .normal))
  (h:(Z6l L pins nt ops draw ds E S [] (ov W S'),Q7q P C nt L ops ops.toList ds (lk E) (ls S),E'.map (fun p=>Z2m ops.toList (Q1m L ops ops.toList ds (lk E) (ls S)) (lk E) p.1),(ov W S').map (fun p=>Z2l (Q1m L ops ops.toList ds (lk E) (ls S)) (ls S) (W9 [] p.1)))
   = (true,c (KAt P C nt L ops ds (lk E) (ls S)),E'.map (fun p=>p.2.ren (W9 [])),(ov W S').map (fun p=>some (p.2.ren (W9 [])))):=by kernel_rfl):AW P C nt (.region id ops draw) E S Q:=
 AW.g Fm ds c E' (ov W S') hc h (Q7r E' S' (FE.refl _) (Y6g hW) k)
theorem W0T (Fm:Fr P L C pins) {id:Nat} {ops:Array Oper} {draw:Bool} {y:Code} (ds:List Dir) (c:(Nat->Prop)->Prop) (E' : List (Nat×AVal)) (S' : List (Nat×Obj)) (hc:c (KAt P C nt L ops ds (lk E) (ls S))) (W:List (Nat×Obj)) (hW:FW W S') (k:AW P C nt y E' S' Q)
  (h:(Z6l L pins nt ops draw ds E S [] (ov W S'),Q7q P C nt L ops ops.toList ds (lk E) (ls S),E'.map (fun p=>Z2m ops.toList (Q1m L ops ops.toList ds (lk E) (ls S)) (lk E) p.1),(ov W S').map (fun p=>Z2l (Q1m L ops ops.toList ds (lk E) (ls S)) (ls S) (W9 [] p.1)))
   = (true,c (KAt P C nt L ops ds (lk E) (ls S)),E'.map (fun p=>p.2.ren (W9 [])),(ov W S').map (fun p=>some (p.2.ren (W9 [])))):=by kernel_rfl):AW P C nt (.seq (.region id ops draw) y) E S Q:=
 Y9t Fm ds c E' (ov W S') hc h (Q7r E' S' (FE.refl _) (Y6g hW) k)
theorem Y9u (Fm:Fr P L C pins) {id:Nat} {ops:Array Oper} {draw:Bool} (ds:List Dir) (E' : List (Nat×AVal)) (S' : List (Nat×Obj)) {q:Prop} (hc:q) (k:Kn C nt E' S' (Q .normal)) (h:(Z6l L pins nt ops draw ds E S [] S',Q7q P C nt L ops ops.toList ds (lk E) (ls S),E'.map (fun p=>Z2m ops.toList (Q1m L ops ops.toList ds (lk E) (ls S)) (lk E) p.1),(S').map (fun p=>Z2l (Q1m L ops ops.toList ds (lk E) (ls S)) (ls S) (W9 [] p.1)))
   = (true,q,E'.map (fun p=>p.2.ren (W9 [])),(S').map (fun p=>some (p.2.ren (W9 [])))):=by kernel_rfl):AW P C nt (.region id ops draw) E S Q:=AW.g Fm ds (fun _=>q) E' S' hc h k
theorem W1T (Fm:Fr P L C pins) {id:Nat} {ops:Array Oper} {draw:Bool} {y:Code} (ds:List Dir) (E' : List (Nat×AVal)) (S' : List (Nat×Obj)) {q:Prop} (hc:q) (k:AW P C nt y E' S' Q) (h:(Z6l L pins nt ops draw ds E S [] S',Q7q P C nt L ops ops.toList ds (lk E) (ls S),E'.map (fun p=>Z2m ops.toList (Q1m L ops ops.toList ds (lk E) (ls S)) (lk E) p.1),(S').map (fun p=>Z2l (Q1m L ops ops.toList ds (lk E) (ls S)) (ls S) (W9 [] p.1)))
   = (true,q,E'.map (fun p=>p.2.ren (W9 [])),(S').map (fun p=>some (p.2.ren (W9 [])))):=by kernel_rfl):AW P C nt (.seq (.region id ops draw) y) E S Q:=Y9t Fm ds (fun _=>q) E' S' hc h k
theorem W1R (Fm:Fr P L C pins) {id:Nat} {ops:Array Oper} {draw:Bool} (ds:List Dir) (E' : List (Nat×AVal)) (S' : List (Nat×Obj)) {q:Prop} (hc:q) (W:List (Nat×Obj)) (hW:FW W S') (k:Kn C nt E' S' (Q .normal)) (h:(Z6l L pins nt ops draw ds E S [] (ov W S'),Q7q P C nt L ops ops.toList ds (lk E) (ls S),E'.map (fun p=>Z2m ops.toList (Q1m L ops ops.toList ds (lk E) (ls S)) (lk E) p.1),((ov W S')).map (fun p=>Z2l (Q1m L ops ops.toList ds (lk E) (ls S)) (ls S) (W9 [] p.1)))
   = (true,q,E'.map (fun p=>p.2.ren (W9 [])),((ov W S')).map (fun p=>some (p.2.ren (W9 [])))):=by kernel_rfl):AW P C nt (.region id ops draw) E S Q:=Y9x Fm ds (fun _=>q) E' S' hc W hW k h
theorem W1S (Fm:Fr P L C pins) {id:Nat} {ops:Array Oper} {draw:Bool} {y:Code} (ds:List Dir) (E' : List (Nat×AVal)) (S' : List (Nat×Obj)) {q:Prop} (hc:q) (W:List (Nat×Obj)) (hW:FW W S') (k:AW P C nt y E' S' Q) (h:(Z6l L pins nt ops draw ds E S [] (ov W S'),Q7q P C nt L ops ops.toList ds (lk E) (ls S),E'.map (fun p=>Z2m ops.toList (Q1m L ops ops.toList ds (lk E) (ls S)) (lk E) p.1),((ov W S')).map (fun p=>Z2l (Q1m L ops ops.toList ds (lk E) (ls S)) (ls S) (W9 [] p.1)))
   = (true,q,E'.map (fun p=>p.2.ren (W9 [])),((ov W S')).map (fun p=>some (p.2.ren (W9 [])))):=by kernel_rfl):AW P C nt (.seq (.region id ops draw) y) E S Q:=W0T Fm ds (fun _=>q) E' S' hc W hW k h
theorem cT {p:Prop} (h:p):p/\True:=⟨h,True.intro⟩
theorem cA {p q:Prop} (h:p) (k:q):p/\q:=⟨h,k⟩
@[reducible] def lI {α:Type} (l:List α):Int:=((l.length:Nat):Int)
theorem Q3 {t:Nat} {x y:Code} {b:Bool} {R:Type} {u v:Option R} {r:R} (h:br b u v=some r) (ht:b=true->u=some r->AW P C nt x E S Q) (hf:b=false->v=some r->AW P C nt y E S Q) (hb:lk E t=vb b:=by kernel_rfl):AW P C nt (.cond (.tmp t) x y) E S Q:=
 AW.cond hb (fun q=>ht q (W1Y h q)) (fun q=>hf q (W1Z h q))
theorem W1H {b:Bool} {R:Type} {u v:Option R} {r:R} (h:br b u v=some r):(b=true/\u=some r)\/(b=false/\v=some r):=by
 cases b
 ·exact .inr ⟨rfl,h⟩
 ·exact .inl ⟨rfl,h⟩
theorem gS {R:Type} {p:Prop} [Decidable p] {x:Option R} {r:R} (h:gd p x=some r):p/\x=some r:=Y6q h
theorem bS {α R:Type} {x:Option α} {f:α->Option R} {r:R} (h:x.bind f=some r):∃ z,x=some z/\f z=some r:=W0w h
theorem FI {f:Nat} {fn:Func} {c:Code} (hf:P.funcs[f]?=some fn) (hm:P.follows .mixedOrders=true) (hL:LOk P L) {args:List AVal} {S:List (Nat×Obj)} {r:AVal} {S' : List (Nat×Obj)}
  (h:∀ C,Fr P L C (S.map (·.1))->AW P C fn.ntmps c (Y4G args) S (Y5f P fn C r S')) (hb:fn.body=some c:=by rfl) (hn0:Nat.ble args.length fn.ntmps=true:=by kernel_rfl):Q7 P f args S r S':=Q7.intro hm hL hf hb hn0 h
end
end
section
section
variable {P:Program} {C:Ctx} {nt:Nat} {L:Lay} {ops:Array Oper} {ds:List Dir} {e:Env} {s:Sto} {k:Nat}
end
end
section
open Go.MapKept
section
variable {P:Program} {C:Ctx} {nt:Nat} {L:Lay} {R:Nat->Prop} {η:Nat->Value} {e:Env} {s:Sto} {a:Act} {w:World}
variable {ops:Array Oper} {ds:List Dir} {k:Nat}
end
section
variable {P:Program} {C:Ctx} {nt:Nat} {L:Lay} {pins:List Nat} {E:List (Nat×AVal)} {S:List (Nat×Obj)} {Q:Exit->Act->World->Prop}
end
end
section
open Go.MapKept
section
variable {P:Program} {C:Ctx} {nt:Nat} {L:Lay} {ops:Array Oper} {ds:List Dir} {e:Env} {s:Sto} {k:Nat}
end
section
variable {P:Program} {C:Ctx} {nt:Nat} {K:Act->World->Prop}
end
end
section
section
variable {P:Program} {C:Ctx} {nt:Nat} {L:Lay} {ops:Array Oper} {ds:List Dir} {e:Env} {s:Sto} {k:Nat}
end
end
section
section
variable {P:Program} {C:Ctx} {nt:Nat} {L:Lay} {ops:Array Oper} {ds:List Dir} {e:Env} {s:Sto}
end
end
section
def bOf (m:Int):ByteArray:=ByteArray.empty.push (UInt8.ofNat m.toNat)
section
variable {P:Program} {C:Ctx} {nt:Nat} {L:Lay} {ops:Array Oper} {ds:List Dir} {e:Env} {s:Sto}
theorem Z8v {k:Nat} {t t' : TypeId} {x y:Operand} {a b:ByteArray} (hk:Q2f ds k=sE (.v (.c (.d (.str (a++b)))))) (hop:(Y6 ops.toList k).op=.binOp .add t x y t') (hb:Y1k ops nt (W6 L ops ops.toList ds e s k) (Y6 ops.toList k) x y=true)
  (hx:aev (W6 L ops ops.toList ds e s k) x=.v (.c (.d (.str a)))) (hy:aev (W6 L ops ops.toList ds e s k) y=.v (.c (.d (.str b)))) (hc:a.size+b.size<=LIM):KAt P C nt L ops ds e s k:=by
 unfold KAt;rw [hk]
 simp only [Y1k,Bool.and_eq_true,beq_iff_eq] at hb;obtain ⟨⟨⟨l,o⟩,q⟩,m⟩:=hb
 refine Z0V rfl q m fun R η z r u w g f=>?_
 have h:=(W2 f x).1;rw [J2 g l,hx] at h
 have h:=Z3p h;have i:=(W2 f y).1
 rw [J2 g o,hy] at i;have i:=Z3p i
 have j:¬ (((a.size+b.size:Nat):Int) > IntKind.i64.max):=by
  have:IntKind.i64.max=9223372036854775807:=rfl
  rw [this];unfold LIM at hc;omega
 refine ⟨.string (a++b),?_,.v _ _ (.c _ _ (.d _ _ (.str _)))⟩;have p:(eqGuard .add t x y (.string a) (.string b)).run P w=.ok () w:=Z3R _ _ _ _ _ _ _
 have n:(binOp .add t (.string a) (.string b)).run P w=.ok (.string (a++b)) w:=by
  show (Op.stringOp .add a b).run P w=_;simp only [Op.stringOp]
  rw [if_neg j];rfl
 simp only [execOp,hop,Sem.run_bind,h,i,p,n,Result.andThen_ok,Sem.run_pure]
theorem Y0u {k:Nat} {src dst el:TypeId} (hs:P.underlying src=some (.slice el)) (he:P.underlying el=some (.int .u8)) (hd:P.underlying dst=some .string) {x:Operand} {m:Int} (hk:Q2f ds k=sE (.v (.c (.d (.str (bOf m))))))
  (hop:(Y6 ops.toList k).op=.convert src dst x) (hb:Y1k ops nt (W6 L ops ops.toList ds e s k) (Y6 ops.toList k) x x=true)
  (hx:aev (W6 L ops ops.toList ds e s k) x=.v (.c (.d (.lst 1 (Z0r 1 [.int .u8 m]))))):KAt P C nt L ops ds e s k:=by
 unfold KAt;rw [hk]
 simp only [Y1k,Bool.and_eq_true,beq_iff_eq] at hb;obtain ⟨⟨⟨A,J⟩,z⟩,q⟩:=hb
 refine Z0V rfl z q fun R η p H D w o l=>?_
 have g:=(W2 l x).1;rw [J2 o A,hx] at g
 generalize hu:D.eval x=u at g
 cases g with|v _ _ g=>cases g with|c _ _ g=>cases g with|d _ _ g=>
 cases g with|lst b off n cap c e' fz f es hX hheap hn ho hf hd' =>
 have G:=hf 0 (by omega);have i:es=1:=by rw [<-G];rfl
 subst i;have h:=hd' 0 0 (by omega) (by omega)
 have F:c.getD off undef=.int .u8 m:=by
  have p:off+(0*1+0)=off:=by omega
  rw [p] at h;have r:(Z0r 1 [DVal.int .u8 m] 0).getD 0 .any=.int .u8 m:=rfl
  rw [r] at h;generalize c.getD off undef=u at h ⊢
  cases h;rfl
 have B:=run_loadCells (P:=P) w ⟨b,off,none⟩ 1 (fun j=>c.getD (off+j) undef) (fun j I=>by rw [add_lit];exact Z8p hheap _ (by omega));refine ⟨.string (bOf m),?_,.v _ _ (.c _ _ (.d _ _ (.str _)))⟩
 have t:c[off]?.getD undef=.int .u8 m:=by rw [<-F];simp
 simp [execOp,hop,hu,convert,run_underlying hs,run_underlying hd,run_underlying he,Conv.bytesToString,B,t,bOf]
end
end
section
def eK (ks:List Nat) (E:List (Nat×AVal)) (n:List (Nat×AVal)):List (Nat×AVal):=ks.map (fun t=>(t,lk E t))++n
def sK (ks:List Nat) (S:List (Nat×Obj)) (n:List (Nat×Obj)):List (Nat×Obj):=ks.map (fun i=>(i,(ls S i).getD (.box false [])))++n
section
variable {P:Program} {C:Ctx} {nt:Nat} {L:Lay} {pins:List Nat} {E:List (Nat×AVal)} {S:List (Nat×Obj)} {Q:Exit->Act->World->Prop}
abbrev ckL (P:Program) (C:Ctx) (nt:Nat) (L:Lay) (pins:List Nat) (E:List (Nat×AVal)) (S:List (Nat×Obj)) (ops:Array Oper) (draw:Bool) (ds:List Dir) (E' : List (Nat×AVal)) (S' : List (Nat×Obj)):Bool×Prop×List AVal×List (Option Obj):=
 (Z6l L pins nt ops draw ds E S [] S',Q7q P C nt L ops ops.toList ds (lk E) (ls S),E'.map (fun p=>Z2m ops.toList (Q1m L ops ops.toList ds (lk E) (ls S)) (lk E) p.1),S'.map (fun p=>Z2l (Q1m L ops ops.toList ds (lk E) (ls S)) (ls S) (W9 [] p.1)))
abbrev ckR (q:Prop) (E' : List (Nat×AVal)) (S' : List (Nat×Obj)):Bool×Prop×List AVal×List (Option Obj):=(true,q,E'.map (fun p=>p.2.ren (W9 [])),S'.map (fun p=>some (p.2.ren (W9 []))))
variable {id:Nat} {ops:Array Oper} {draw:Bool} {y:Code}
theorem Q5 (Fm:Fr P L C pins) (ds:List Dir) (c:(Nat->Prop)->Prop) (kE:List Nat) (nE:List (Nat×AVal)) (kS:List Nat) (nS:List (Nat×Obj)) (hc:c (KAt P C nt L ops ds (lk E) (ls S))) (k:Kn C nt (eK kE E nE) (sK kS S nS) (Q .normal))
  (h:ckL P C nt L pins E S ops draw ds (eK kE E nE) (sK kS S nS)=ckR (c (KAt P C nt L ops ds (lk E) (ls S))) (eK kE E nE) (sK kS S nS):=by kernel_rfl):AW P C nt (.region id ops draw) E S Q:=AW.g Fm ds c _ _ hc h k
theorem Q1J (Fm:Fr P L C pins) (ds:List Dir) (c:(Nat->Prop)->Prop) (kE:List Nat) (nE:List (Nat×AVal)) (kS:List Nat) (nS:List (Nat×Obj)) (hc:c (KAt P C nt L ops ds (lk E) (ls S))) (k:AW P C nt y (eK kE E nE) (sK kS S nS) Q)
  (h:ckL P C nt L pins E S ops draw ds (eK kE E nE) (sK kS S nS)=ckR (c (KAt P C nt L ops ds (lk E) (ls S))) (eK kE E nE) (sK kS S nS):=by kernel_rfl):AW P C nt (.seq (.region id ops draw) y) E S Q:=Y9t Fm ds c _ _ hc h k
theorem Q8x (Fm:Fr P L C pins) (n:Nat) (kE:List Nat) (nE:List (Nat×AVal)) (kS:List Nat) (nS:List (Nat×Obj)) (k:Kn C nt (eK kE E nE) (sK kS S nS) (Q .normal))
  (h:ckL P C nt L pins E S ops draw (ss n) (eK kE E nE) (sK kS S nS)=ckR True (eK kE E nE) (sK kS S nS):=by kernel_rfl):AW P C nt (.region id ops draw) E S Q:=W0S Fm n _ _ h k
theorem Q0 (Fm:Fr P L C pins) (n:Nat) (kE:List Nat) (nE:List (Nat×AVal)) (kS:List Nat) (nS:List (Nat×Obj)) (k:AW P C nt y (eK kE E nE) (sK kS S nS) Q)
  (h:ckL P C nt L pins E S ops draw (ss n) (eK kE E nE) (sK kS S nS)=ckR True (eK kE E nE) (sK kS S nS):=by kernel_rfl):AW P C nt (.seq (.region id ops draw) y) E S Q:=Y9s Fm n _ _ h k
theorem Z1E (Fm:Fr P L C pins) (ds:List Dir) (c:(Nat->Prop)->Prop) (kE:List Nat) (nE:List (Nat×AVal)) (kS:List Nat) (nS:List (Nat×Obj)) (hc:c (KAt P C nt L ops ds (lk E) (ls S))) (W:List (Nat×Obj)) (hW:FW W (sK kS S nS)) (k:Kn C nt (eK kE E nE) (sK kS S nS) (Q .normal))
  (h:ckL P C nt L pins E S ops draw ds (eK kE E nE) (ov W (sK kS S nS))=ckR (c (KAt P C nt L ops ds (lk E) (ls S))) (eK kE E nE) (ov W (sK kS S nS)):=by kernel_rfl):AW P C nt (.region id ops draw) E S Q:=Y9x Fm ds c _ _ hc W hW k h
theorem y7 (Fm:Fr P L C pins) (ds:List Dir) (c:(Nat->Prop)->Prop) (kE:List Nat) (nE:List (Nat×AVal)) (kS:List Nat) (nS:List (Nat×Obj)) (hc:c (KAt P C nt L ops ds (lk E) (ls S))) (W:List (Nat×Obj)) (hW:FW W (sK kS S nS)) (k:AW P C nt y (eK kE E nE) (sK kS S nS) Q)
  (h:ckL P C nt L pins E S ops draw ds (eK kE E nE) (ov W (sK kS S nS))=ckR (c (KAt P C nt L ops ds (lk E) (ls S))) (eK kE E nE) (ov W (sK kS S nS)):=by kernel_rfl):AW P C nt (.seq (.region id ops draw) y) E S Q:=W0T Fm ds c _ _ hc W hW k h
theorem Q1 (Fm:Fr P L C pins) (ds:List Dir) (kE:List Nat) (nE:List (Nat×AVal)) (kS:List Nat) (nS:List (Nat×Obj)) {q:Prop} (hc:q) (k:Kn C nt (eK kE E nE) (sK kS S nS) (Q .normal))
  (h:ckL P C nt L pins E S ops draw ds (eK kE E nE) (sK kS S nS)=ckR q (eK kE E nE) (sK kS S nS):=by kernel_rfl):AW P C nt (.region id ops draw) E S Q:=Y9u Fm ds _ _ hc k h
theorem Y2 (Fm:Fr P L C pins) (ds:List Dir) (kE:List Nat) (nE:List (Nat×AVal)) (kS:List Nat) (nS:List (Nat×Obj)) {q:Prop} (hc:q) (k:AW P C nt y (eK kE E nE) (sK kS S nS) Q)
  (h:ckL P C nt L pins E S ops draw ds (eK kE E nE) (sK kS S nS)=ckR q (eK kE E nE) (sK kS S nS):=by kernel_rfl):AW P C nt (.seq (.region id ops draw) y) E S Q:=W1T Fm ds _ _ hc k h
theorem Q2g (Fm:Fr P L C pins) (ds:List Dir) (kE:List Nat) (nE:List (Nat×AVal)) (kS:List Nat) (nS:List (Nat×Obj)) {q:Prop} (hc:q) (W:List (Nat×Obj)) (hW:FW W (sK kS S nS)) (k:Kn C nt (eK kE E nE) (sK kS S nS) (Q .normal))
  (h:ckL P C nt L pins E S ops draw ds (eK kE E nE) (ov W (sK kS S nS))=ckR q (eK kE E nE) (ov W (sK kS S nS)):=by kernel_rfl):AW P C nt (.region id ops draw) E S Q:=W1R Fm ds _ _ hc W hW k h
theorem Z0u (Fm:Fr P L C pins) (ds:List Dir) (kE:List Nat) (nE:List (Nat×AVal)) (kS:List Nat) (nS:List (Nat×Obj)) {q:Prop} (hc:q) (W:List (Nat×Obj)) (hW:FW W (sK kS S nS)) (k:AW P C nt y (eK kE E nE) (sK kS S nS) Q)
  (h:ckL P C nt L pins E S ops draw ds (eK kE E nE) (ov W (sK kS S nS))=ckR q (eK kE E nE) (ov W (sK kS S nS)):=by kernel_rfl):AW P C nt (.seq (.region id ops draw) y) E S Q:=W1S Fm ds _ _ hc W hW k h
theorem Q6 {σ R:Type} {r:R} {x:Code} (f:σ->Option R) (kE:List Nat) (nE:σ->List (Nat×AVal)) (kS:List Nat) (nS:σ->List (Nat×Obj)) (hy:∀ z,f z=some r->AW P C nt y (eK kE E (nE z)) (sK kS S (nS z)) Q)
  (hx:∀ J:Act->World->Prop,(∀ z,f z=some r->Kn C nt (eK kE E (nE z)) (sK kS S (nS z)) J)->AW P C nt x E S (Exit.then J Q)):AW P C nt (.seq x y) E S Q:=Y6P f _ _ hy hx
theorem W1Q {x y:Code} (k:AW P C nt y E S Q):AW P C nt (.cond (.const (.bool false)) x y) E S Q:=fun R η a w b=>wp_cond_false rfl (k R η a w b)
end
theorem eI {k:IntKind} {e v:Int} (h:some e=some v):ALe (.v (.c (.d (.int k e)))) (.v (.c (.d (.int k v)))):=by cases h;exact ALe.refl _
section
variable {α:Type} [Emb α]
def rSt (l:List α) (i off:Nat) (ds:List DVal):Obj:=.arr (Emb.es α) l.length fun j=>if j=i then Q4E (LF l i) off ds else LF l j
def rAp (l m:List α):Obj:=.arr (Emb.es α) (l.length+m.length) (Q5y l.length (LF l) (LF m))
def rA0 (m:List α):Obj:=.arr (Emb.es α) (0+m.length) (Q5y 0 (fun _=>[]) (LF m))
theorem oSt {l:List α} {i off:Nat} {ds:List DVal} {y:α} (hi:i<l.length) (hy:Q4E (LF l i) off ds=Emb.cells y:=by kernel_rfl):OLe (rSt l i off ds) (AO (l.set i y)):=OLe.is (Is.set (Is.refl l) hi y hy)
theorem oAp {l m:List α}:OLe (rAp l m) (AO (l++m)):=OLe.is (Is.app (Is.refl l) (Is.refl m))
theorem oA0 {m:List α}:OLe (rA0 m) (AO ([]++m)):=OLe.is (Is.app Is.nil (Is.refl m))
theorem lfl (l:List α):∀ j,j<l.length->(LF l j).length=Emb.es α:=(Is.refl l).len
theorem Q7t (x:α):ALe (.v (.c (.d (.lst 1 (Z0r (Emb.es α) (Emb.cells x)))))) (AL [x]):=ALe.lst (.lit [x] (by
 show [Z0r (Emb.es α) (Emb.cells x) 0]=[Emb.cells x];unfold Z0r
 have:=Emb.len x
 rw [Nat.zero_mul,List.drop_zero,List.take_of_length_le (by omega)]))
end
end
section
section
variable {P:Program} {C:Ctx} {nt:Nat} {L:Lay} {ops:Array Oper} {ds:List Dir} {e:Env} {s:Sto}
theorem Y9o {k:Nat} {x y z:Operand} {tys:Array TypeId} {a b c:Int} (hk:Q2f ds k=sE (vi (Q0A (Q0A a b) c))) (hop:(Y6 ops.toList k).op=.call { callee:=.builtin .max,args:= #[x,y,z],argTypes:=tys })
  (hb:Y1k ops nt (W6 L ops ops.toList ds e s k) (Y6 ops.toList k) x y=true) (hb2:Y1k ops nt (W6 L ops ops.toList ds e s k) (Y6 ops.toList k) z z=true)
  (hx:aev (W6 L ops ops.toList ds e s k) x=vi a) (hy:aev (W6 L ops ops.toList ds e s k) y=vi b) (hz:aev (W6 L ops ops.toList ds e s k) z=vi c):KAt P C nt L ops ds e s k:=by
 unfold KAt;rw [hk]
 simp only [Y1k,Bool.and_eq_true,beq_iff_eq] at hb hb2;obtain ⟨⟨⟨j,n⟩,o⟩,l⟩:=hb
 obtain ⟨⟨⟨m,_⟩,_⟩,_⟩:=hb2;refine Z0V rfl o l fun R η r p q w f d=>?_
 have h:=(W2 d x).1;rw [J2 f j,hx] at h
 have h:=Q5O h;have i:=(W2 d y).1
 rw [J2 f n,hy] at i;have i:=Q5O i
 have g:=(W2 d z).1;rw [J2 f m,hz] at g
 have g:=Q5O g;refine ⟨.int .i64 (Q0A (Q0A a b) c),?_,Q4V _ _ _⟩
 simp [execOp,hop,resolve,invoke,builtin,Builtin.max_,Builtin.max2,h,i,g,Q0A]
 rfl
end
section
variable {P:Program} {C:Ctx} {nt:Nat} {E:List (Nat×AVal)} {S:List (Nat×Obj)} {Q:Exit->Act->World->Prop}
theorem AW.rounds {c:Code} (n:Nat) (h:AW P C nt c E S (Exit.then (fun a w=>Code.rounds P c Q n a w) Q)):AW P C nt (.loop c) E S Q:=fun R η a w b=>wp_loop_rounds (n+1) (h R η a w b)
theorem Y1Q {c:Code} {n:Nat} (h:AW P C nt c E S (Exit.then (fun a w=>Code.rounds P c Q n a w) Q)):Kn C nt E S (fun a w=>Code.rounds P c Q (n+1) a w):=fun R η a w b=>h R η a w b
end
end
section
@[reducible] def gn {α:Type} [Emb α] (l:List α) (i:Int):α:=gl l i.toNat
@[reducible] def nn {σ β:Type}:σ->List β:=fun _=>[]
@[reducible] def f0:CV:=.fl 0 fun _=>[]
@[reducible] def k1 (i:Nat) (K:Nat->Prop):Prop:=K i/\True
@[reducible] def k2 (i j:Nat) (K:Nat->Prop):Prop:=K i/\K j/\True
theorem gO {p q:Prop} [Decidable p] {R:Type} {x:Option R} {r:R} (h:gd p x=some r) (k:p->x=some r->q):q:=k (gS h).1 (gS h).2
theorem bO {α R:Type} {x:Option α} {f:α->Option R} {r:R} {q:Prop} (h:x.bind f=some r) (k:∀ z,x=some z->f z=some r->q):q:=(bS h).elim fun z e=>k z e.1 e.2
theorem brO {b:Bool} {R:Type} {u v:Option R} {r:R} {q:Prop} (h:br b u v=some r) (ht:b=true->u=some r->q) (hf:b=false->v=some r->q):q:=(W1H h).elim (fun e=>ht e.1 e.2) fun e=>hf e.1 e.2
section
variable {P:Program} {C:Ctx} {nt:Nat} {L:Lay} {pins:List Nat} {E:List (Nat×AVal)} {S:List (Nat×Obj)} {Q:Exit->Act->World->Prop}
theorem Z2 (Fm:Fr P L C pins) {fn:Func} {R:Type} {a r:R} (h:some a=some r) {g:R->AVal} {G:R->List (Nat×Obj)} (hQ:Q .ret=Y5f P fn C (g r) (G r) .ret:=by rfl) (hq:(Y7a L (lk E) (ls S) fn.results.toList,(G a).map (fun p=>ls S p.1))=(some (g a),(G a).map (fun p=>some p.2)):=by kernel_rfl):AW P C nt .ret E S Q:=by
 cases h
 exact AW.ret (hQ ▸ Q3b Fm hq)
theorem Y9 {σ R:Type} {r:R} {c:Code} {body:(σ->Option R)->σ->Option R} {n:Nat} {z0:σ} (h:Z6 body n z0=some r) (E' : σ->List (Nat×AVal)) (S' : σ->List (Nat×Obj))
  (round:∀ (again:σ->Option R) (z:σ) (J:Act->World->Prop),(∀ z',again z'=some r->Kn C nt (E' z') (S' z') J)->body again z=some r->AW P C nt c (E' z) (S' z) (Exit.then J Q)):AW P C nt (.loop c) (E' z0) (S' z0) Q:=Y9w E' S' round h
variable {K:Act->World->Prop}
theorem Kn.w (Fm:Fr P L C pins) (E' : List (Nat×AVal)) (S' : List (Nat×Obj)) (h:Kn C nt E' S' K)
  (hq:(pins.all (fun i=>W9 [] i==i),E'.map (fun p=>lk E p.1),S'.map (fun p=>ls S (W9 [] p.1)),Q3m (S'.map fun p=>W9 [] p.1))=(true,E'.map (fun p=>p.2.ren (W9 [])),S'.map (fun p=>some (p.2.ren (W9 []))),true):=by kernel_rfl):Kn C nt E S K:=W1N Fm E' S' hq h
theorem Q1F {k es n:Nat} {f:Nat->List DVal} (E' : List (Nat×AVal)) (S' : List (Nat×Obj)) (h:Kn C nt E' S' K)
  (hq:(E.map (fun p=>(p.1,p.2.frz k n f)),S.map (fun p=>(p.1,p.2.frz k n f)),(S.map (·.1)).contains k)=(E',S',false):=by kernel_rfl):Kn C nt E ((k,.arr es n f)::S) K:=Kn.frz E' S' (congrArg (·.1) hq) (congrArg (·.2.1) hq) (congrArg (·.2.2) hq) h
theorem Q2O (Fm:Fr P L C pins) (ρ:List (Nat×Nat)) (E' : List (Nat×AVal)) (S' : List (Nat×Obj)) (h:Kn C nt E' S' K)
  (hq:(pins.all (fun i=>W9 ρ i==i),E'.map (fun p=>lk E p.1),S'.map (fun p=>ls S (W9 ρ p.1)),Q3m (S'.map fun p=>W9 ρ p.1))=(true,E'.map (fun p=>p.2.ren (W9 ρ)),S'.map (fun p=>some (p.2.ren (W9 ρ))),true):=by kernel_rfl):Kn C nt E S K:=
 Kn.re Fm ρ E' S' (congrArg (·.1) hq) (congrArg (·.2.1) hq) (congrArg (·.2.2.1) hq) (congrArg (·.2.2.2) hq) h
end
section
variable {P:Program} {C:Ctx} {nt:Nat} {L:Lay} {ops:Array Oper} {ds:List Dir} {e:Env} {s:Sto}
theorem KAt.cX {k:Nat} {f:Nat} {args:List AVal} {Si:List (Nat×Obj)} {r:AVal} {So:List (Nat×Obj)} (hspec:Q7 P f args Si r So) (hcall:∀ args w,(callFunc f args).run P w=.ok (.enter f args) w) (m:List (Nat×Nat)) (extra:List Nat) (xs:List Operand)
  (hargs:Z5D C nt (W6 L ops ops.toList ds e s k) (Q2o L ops ops.toList ds e s k) Si (W9 m) (Q0h (Y6 ops.toList k)++V4 ops (Y6 ops.toList k)) (Z1O (W6 L ops ops.toList ds e s k) (Y6 ops.toList k)++(Si.map (fun p=>W9 m p.1)++extra)) xs args)
  (hk:Q2f ds k=cE m extra r Si So:=by rfl) (hq:(Go.Ab.callB ops nt (W6 L ops ops.toList ds e s k) (Y6 ops.toList k) f m r Si So,Si.map (fun p=>Q2o L ops ops.toList ds e s k (W9 m p.1)),(Go.Ab.callXs (Y6 ops.toList k)).toList)=(true,Si.map (fun p=>some (p.2.ren (W9 m))),xs):=by kernel_rfl):KAt P C nt L ops ds e s k:=
 Y7C hspec hcall m extra xs hk (congrArg (·.1) hq) (congrArg (·.2.1) hq) (congrArg (·.2.2) hq) hargs
theorem y6.cX {f:Nat} (hcall:∀ args w,(callFunc f args).run P w=.ok (.enter f args) w) {F:List AVal->AVal->Prop} (cs:List (List CV)) (hspec:∀ args r,F args r->Q7 P f (args++Z7s cs) (Q9U cs) r (Q9U cs)/\r.closed=true)
  {Si:List (Nat×Obj)} {m:Nat->Nat} {rd ids:List Nat} {x:Operand} (cids:List Nat) (hbox:Y8Z s cids cs)
  (hx:Q5I rd x=true:=by kernel_rfl) (hv:aev e x=.v (.c (.clo f cids)):=by kernel_rfl) (hnd:(Q3m cids&&cs.all (fun c=>c.all CV.closed)&&cids.all (fun i=>ids.contains i))=true:=by kernel_rfl)
  (hsi:siB s Si m ids cids=true:=by kernel_rfl):y6 C nt e s Si m rd ids x (Z4t P F):=y6.cloX hcall cs (fun a r h=>(hspec a r h).1) (fun a r h=>(hspec a r h).2) hx cids hv hnd hbox hsi
end
end
end
end Go.Ab
